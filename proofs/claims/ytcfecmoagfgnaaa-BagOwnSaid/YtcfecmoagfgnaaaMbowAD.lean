/- The statement BagOwn is proved, for every input: part 4 of 14 of the texts that it needs. -/
import Derived.Test.YtcfecmoagfgnaaaMbowAC
import Derived.Laws.BitsAllLaws
import Derived.Laws.BitsLemmas
import Derived.Laws.CopyRow
import Derived.Laws.StructEq
import Derived.Laws.Tables
/- The rules of the walks, continued: a region whose order is open but for its tail: there each operation waits for all ahead of it. -/
namespace Go.Vc

/-- Operation i must be done ahead of operation t, by way of others. -/
def below (ops : Array Oper) : Nat → Nat → Nat → Bool
  | 0, _, _ => false
  | f + 1, t, i => match ops[t]? with
    | none => false
    | some o => waits o i || o.after.any fun e => Region.binds .any e && below ops f e.on i

/-- The operations from m on stand in order, behind all others. -/
def tailed (ops : Array Oper) (m : Nat) : Bool :=
  (List.range ops.size).all fun t => Nat.blt t m || (List.range t).all fun i => below ops ops.size t i

section
variable {P : Program} {n : Nat} {Q : Exit → Act → World → Prop} {ops : Array Oper}

theorem below_listed {listed : Array Bool} (hc : ∀ j o, ops[j]? = some o → listed.getD j false = true → ∀ e ∈ o.after, Region.binds .any e = true → listed.getD e.on false = true) :
  ∀ (f t i : Nat), below ops f t i = true → (∀ o, ops[t]? = some o → ∀ e ∈ o.after, Region.binds .any e = true → listed.getD e.on false = true) → listed.getD i false = true
 | 0, t, i, h, _ => by simp [below] at h
 | f + 1, t, i, h, ht => by
  unfold below at h
  cases ho : ops[t]? with
  | none => simp [ho] at h
  | some o =>
   simp only [ho, Bool.or_eq_true] at h
   rcases h with h | h
   ·obtain ⟨e, he, hb, hon⟩ := waits_spec h
    exact hon ▸ ht o ho e he hb
   ·obtain ⟨e, he, h1⟩ := Array.any_eq_true'.1 h
    rw [Bool.and_eq_true] at h1
    have hl := ht o ho e he h1.1
    exact below_listed hc f e.on i h1.2 (fun p hp e2 he2 hb2 => hc e.on p hp hl e2 he2 hb2)

theorem tailed_spec {m t i : Nat} (h : tailed ops m = true) (ht : t < ops.size) (hm : m ≤ t) (hi : i < t) : below ops ops.size t i = true := by
 have h1 := List.all_eq_true.1 h t (by simpa using ht)
 have h2 : Nat.blt t m = false := by
  cases hb : Nat.blt t m
  ·rfl
  ·simp [Nat.blt, Nat.ble_eq] at hb; omega
 rw [h2, Bool.false_or] at h1
 exact List.all_eq_true.1 h1 i (by simpa using hi)

theorem any_gen {K : Array Bool → Act → World → Prop}
  (hstep : ∀ i listed a w, K listed a w → i ∈ Region.ready .any ops listed → wpOp P ops Q i (fun a' w' => K (listed.setIfInBounds i true) a' w') a w)
  (hend : ∀ listed a w, K listed a w → Region.ready .any ops listed = [] → Q .normal a w) :
  ∀ (fuel : Nat) (listed : Array Bool) (a : Act) (w : World), (listed.toList.filter (fun b => !b)).length ≤ fuel → K listed a w → wpAny P .any ops Q fuel listed a w := by
 intro fuel
 induction fuel with
 | zero =>
  intro listed a w hm hI
  have hr : Region.ready .any ops listed = [] := by
   cases h : Region.ready .any ops listed with
   | nil => rfl
   | cons i r =>
    exfalso
    have hi : i ∈ Region.ready .any ops listed := by rw [h]; simp
    obtain ⟨hun, _, _, _⟩ := mem_ready.1 hi
    have hlt : i < listed.size := by
     rcases Nat.lt_or_ge i listed.size with h' | h'
     ·exact h'
     ·simp [Array.getElem?_eq_none h'] at hun
    have hmem : listed[i] ∈ listed.toList.filter (fun b => !b) := by
     rw [List.mem_filter]
     refine ⟨by simp, ?_⟩
     simp [hlt] at hun
     simp [hun]
    have := List.length_pos_of_mem hmem
    omega
  exact ⟨hr, hend _ _ _ hI hr⟩
 | succ fuel ih =>
  intro listed a w hm hI
  refine ⟨fun hr => hend _ _ _ hI hr, fun i hi => wpOp_mono (fun a' w' h => ih _ a' w' ?_ h) (hstep i listed a w hI hi)⟩
  obtain ⟨hun, _, _, _⟩ := mem_ready.1 hi
  have hlt : i < listed.size := by
   rcases Nat.lt_or_ge i listed.size with h' | h'
   ·exact h'
   ·simp [Array.getElem?_eq_none h'] at hun
  have hf : listed[i] = false := by simpa [hlt] using hun
  rw [Array.toList_setIfInBounds]
  have key : ∀ (l : List Bool) (i : Nat) (h : i < l.length), l[i] = false → ((l.set i true).filter (fun b => !b)).length + 1 = (l.filter (fun b => !b)).length := by
   intro l
   induction l with
   | nil => intro i h; simp at h
   | cons b r ihl =>
    intro i h hb
    cases i with
    | zero => simp at hb; subst hb; simp
    | succ i =>
     simp at hb h
     have := ihl i h hb
     cases b <;> simp [List.set_cons_succ] <;> omega
  have := key listed.toList i (by simpa using hlt) (by simpa using hf)
  omega

theorem listed_set {listed : Array Bool} {i j : Nat} (hi : i < listed.size) : (listed.setIfInBounds i true).getD j false = (Nat.beq j i || listed.getD j false) := by
 by_cases e : i = j
 ·subst e; simp [hi]
 ·rw [getD_set_ne false e]
  have : Nat.beq j i = false := by
   cases hb : Nat.beq j i
   ·rfl
   ·exact absurd (Nat.eq_of_beq_eq_true hb).symm e
  simp [this]

/-- The region: open up to operation m, in order behind. -/
theorem VC.anyT {id : Nat} {l : List Oper} {σ : Sl} {G : World → Prop} (J : Bool → World → Prop) (Stp : Bool → World → World → Prop) (m kk : Nat) (F : List Fact) (Is : List Ins) (outs : List (Nat × Nat)) (bas : List Nat)
  (hmix : P.follows .mixedOrders = true) (hp : plainRegion l.toArray = true) (htl : tailed l.toArray m = true) (hkm : kk < m ∨ l.length ≤ kk) (hml : m ≤ l.length) (hG : ∀ w, G w → J false w.drew) (late : Nat → Bool) (hlate : ∀ i o, l[i]? = some o → late i = true → i = kk ∨ waits o kk = true) (hst : ∀ ph i v w w', Stp ph w w' → (late i = true → ph = true) → factOf F i v w → factOf F i v w')
  (houts : outs.all (fun (d, j) => Nat.blt j m && match l[j]? with | some p => (match p.dst with | some d' => Nat.beq d d' | none => false) | none => false) = true)
  (hbas : bas.all (fun t => (l.take m).all fun p => match p.dst with | some d => !Nat.beq d t | none => true) = true)
  (hobs : Obs P n l.toArray Q J Stp kk F σ 0 Is (l.take m))
  (hend : ∀ vals : Nat → Value, VL P n l.toArray Q (l.drop m) (preSlots outs vals ++ only σ bas) (fun w => (∀ p ∈ outs, factOf F p.2 (vals p.2) w) ∧ J (Nat.blt kk m) w)) :
  VC P n Q (.region id l.toArray true) σ G := by
 intro a w ha hw
 refine wp_region_any hmix ?_
 have h0 : ∀ j, (Array.replicate l.toArray.size false).getD j false = false := by
  intro j
  rcases Nat.lt_or_ge j l.length with h | h
  ·simp [h]
  ·simp [h]
 -- all ahead of the tail are done: the tail
 have start : ∀ (listed : Array Bool) (a : Act) (w : World), Inv n l.toArray F J kk σ listed a w → (∀ i, listed.getD i false = true ↔ i < m) → wpList P l.toArray Q (l.drop m) a w := by
  intro listed a w hI hall
  let vals : Nat → Value := fun j => match l[j]? with
   | some p => match p.dst with
    | some d => a.tmps.getD d undef
    | none => undef
   | none => undef
  have hout : ∀ d j, (d, j) ∈ outs → j < m ∧ ∃ p, l[j]? = some p ∧ p.dst = some d := by
   intro d j hm
   have h1 := List.all_eq_true.1 houts (d, j) hm
   simp only [Bool.and_eq_true] at h1
   refine ⟨by have := h1.1; simp [Nat.blt, Nat.ble_eq] at this; omega, ?_⟩
   have h1 := h1.2
   cases hpj : l[j]? with
   | none => simp [hpj] at h1
   | some p =>
    cases hpd : p.dst with
    | none => simp [hpj, hpd] at h1
    | some d' => simp [hpj, hpd] at h1; subst h1; exact ⟨p, rfl, hpd⟩
  have hval : ∀ d j, (d, j) ∈ outs → vals j = a.tmps.getD d undef := by
   intro d j hm
   obtain ⟨_, p, h1, h2⟩ := hout d j hm
   simp only [vals, h1, h2]
  refine hend vals a w ⟨hI.dfr, hI.tsz, fun t v ht => ?_⟩ ⟨?_, ?_⟩
  ·rw [look_append] at ht
   cases hl : look (preSlots outs vals) t with
   | some u =>
    simp [hl] at ht
    subst ht
    obtain ⟨j, hm, rfl⟩ := look_pre hl
    rw [hval t j hm]
   | none =>
    simp [hl] at ht
    obtain ⟨hts, hlσ⟩ := look_only ht
    refine hI.base t v hlσ fun j p hj hlj hd => ?_
    have h1 := List.all_eq_true.1 hbas t hts
    have hjm := (hall j).1 hlj
    have hjt : (l.take m)[j]? = some p := by rw [List.getElem?_take, if_pos hjm]; simpa using hj
    have h2 := List.all_eq_true.1 h1 p (List.mem_of_getElem? hjt)
    simp [hd] at h2
  ·rintro ⟨d, j⟩ hm
   obtain ⟨h0, p, h1, h2⟩ := hout d j hm
   show factOf F j (vals j) w
   rw [hval d j hm]
   exact hI.fact j p d (by simpa using h1) ((hall j).2 h0) h2
  ·have := hI.inv
   have e : listed.getD kk false = Nat.blt kk m := by
    by_cases hk : kk < m
    ·rw [(hall kk).2 hk]; symm; simp [Nat.blt, Nat.ble_eq]; omega
    ·have h1 : listed.getD kk false = false := by
      cases hb : listed.getD kk false
      ·rfl
      ·exact absurd ((hall kk).1 hb) hk
     rw [h1]; symm
     cases hb : Nat.blt kk m
     ·rfl
     ·simp [Nat.blt, Nat.ble_eq] at hb; omega
   rw [← e]; exact this
 let K : Array Bool → Act → World → Prop := fun listed a w =>
  (Inv n l.toArray F J kk σ listed a w ∧ ∀ i, m ≤ i → listed.getD i false = false) ∨
  (∃ k, m < k ∧ listed.size = l.toArray.size ∧ (∀ i, listed.getD i false = true ↔ i < k ∧ i < l.length) ∧ wpList P l.toArray Q (l.drop k) a w)
 have tstep : ∀ (k : Nat) (listed : Array Bool) (a : Act) (w : World), k < l.length → m ≤ k → listed.size = l.toArray.size → (∀ i, listed.getD i false = true ↔ i < k ∧ i < l.length) → wpList P l.toArray Q (l.drop k) a w →
   wpOp P l.toArray Q k (fun a' w' => K (listed.setIfInBounds k true) a' w') a w := by
  intro k listed a w hk hmk hsz hl hwp
  have hd : l.drop k = l[k] :: l.drop (k + 1) := List.drop_eq_getElem_cons hk
  have hnext : ∀ a' w', wpList P l.toArray Q (l.drop (k + 1)) a' w' → K (listed.setIfInBounds k true) a' w' := by
   intro a' w' h
   refine .inr ⟨k + 1, by omega, by simp [hsz], fun i => ?_, h⟩
   rw [listed_set (by rw [hsz]; simpa using hk), Bool.or_eq_true, hl i]
   constructor
   ·rintro (h | h)
    ·have := Nat.eq_of_beq_eq_true h; omega
    ·omega
   ·intro h
    by_cases e : i = k
    ·left; subst e; simp
    ·right; omega
  rw [hd] at hwp
  unfold wpList at hwp
  unfold wpOp
  have hk' : l.toArray[k]? = some l[k] := by simp [hk]
  rw [hk']
  simp only
  split
  ·rename_i hwt
   rw [if_pos hwt] at hwp
   rcases hwp with hwp | hwp
   ·exact .inl (Oper.wp_mono (fun a' w' h => hnext a' w' h) hwp)
   ·exact .inr hwp
  ·rename_i hwt
   rw [if_neg hwt] at hwp
   exact hnext _ _ hwp
 refine any_gen (K := K) (fun i listed a w hI hr => ?_) (fun listed a w hI hr => ?_) _ _ a _ ?_ ?_
 ·obtain ⟨hun, o, ho, hall⟩ := mem_ready.1 hr
  have hil : i < l.length := by simpa using (Array.getElem?_eq_some_iff.1 ho).1
  rcases hI with ⟨hI, hnt⟩ | ⟨k, hmk, hsz, hl, hwp⟩
  ·by_cases him : i < m
   ·have hot : (l.take m)[i]? = some o := by rw [List.getElem?_take, if_pos him]; simpa using ho
    obtain ⟨I, hob⟩ := Obs.get Is (l.take m) 0 hobs i o hot
    rw [Nat.zero_add] at hob
    refine wpOp_mono (fun a' w' h => .inl ⟨h, fun j hj => ?_⟩) (step_inv hp (fun i o hi => hlate i o (by simpa using hi)) hst ho hob hI hr)
    rw [getD_set_ne false (by omega)]; exact hnt j hj
   · -- the tail's first
    have hb : ∀ j, j < i → listed.getD j false = true := fun j hj =>
     below_listed hI.closed _ i j (tailed_spec htl (by simpa using hil) (by omega) hj) (fun o' ho' e he hbd => by
      obtain rfl : o' = o := Option.some.inj (ho'.symm.trans ho)
      exact hall e he hbd)
    have hie : i = m := by
     rcases Nat.lt_or_ge m i with h | h
     ·have h1 := hb m h
      rw [hnt m (Nat.le_refl _)] at h1; cases h1
     ·omega
    subst hie
    have hiff : ∀ j, listed.getD j false = true ↔ j < i := fun j => ⟨fun h => by
     rcases Nat.lt_or_ge j i with h' | h'
     ·exact h'
     ·rw [hnt j h'] at h; exact absurd h (by simp), hb j⟩
    exact tstep i listed a w hil (Nat.le_refl _) hI.size (fun j => by rw [hiff]; constructor <;> intro h <;> omega) (start listed a w hI hiff)
  ·have hki : i = k := by
    have h1 : listed.getD i false = false := by
     have : i < listed.size := by rw [hsz]; simpa using hil
     simp [this] at hun ⊢
     exact hun
    have hge : k ≤ i := by
     rcases Nat.lt_or_ge i k with h | h
     ·have := (hl i).2 ⟨h, hil⟩
      rw [h1] at this; cases this
     ·exact h
    rcases Nat.lt_or_ge k i with h | h
    · -- k must be done ahead of i
     have hcl : ∀ j o', l.toArray[j]? = some o' → listed.getD j false = true → ∀ e ∈ o'.after, Region.binds .any e = true → listed.getD e.on false = true := by
      intro j o' hj hlj e he hbd
      have hb := plain_back hp hj he hbd
      have := (hl j).1 hlj
      exact (hl e.on).2 ⟨by omega, by omega⟩
     have := below_listed hcl _ i k (tailed_spec htl (by simpa using hil) (by omega) h) (fun o' ho' e he hbd => by
      obtain rfl : o' = o := Option.some.inj (ho'.symm.trans ho)
      exact hall e he hbd)
     have := (hl k).1 this
     omega
    ·omega
   subst hki
   exact tstep i listed a w hil (by omega) hsz hl hwp
 ·rcases hI with ⟨hI, hnt⟩ | ⟨k, hmk, hsz, hl, hwp⟩
  ·have hall := all_listed hp hI.size hr
   have hme : m = l.length := by
    rcases Nat.lt_or_ge m l.length with h | h
    ·have := hall m (by simpa using h)
     rw [hnt m (Nat.le_refl _)] at this; cases this
    ·omega
   have := start listed a w hI (fun j => ⟨fun h => by
    rcases Nat.lt_or_ge j m with h' | h'
    ·exact h'
    ·rw [hnt j h'] at h; exact absurd h (by simp), fun h => hall j (by simp; omega)⟩)
   rw [hme, List.drop_length] at this
   exact this
  ·have hall := all_listed hp hsz hr
   have hk : l.length ≤ k := by
    rcases Nat.lt_or_ge k l.length with h | h
    ·have := (hl k).1 (hall k (by simpa using h)); omega
    ·exact h
   rw [List.drop_eq_nil_of_le hk] at hwp
   exact hwp
 ·simp
 ·exact .inl ⟨⟨by simp, fun j o _ hl => (by rw [h0 j] at hl; cases hl), fun j o d _ hl => (by rw [h0 j] at hl; cases hl), fun t v ht _ => ha.at_ t v ht, ha.dfr, ha.size, (by rw [h0]; exact hG w hw)⟩, fun i _ => h0 i⟩

/-- The usual case. -/
theorem VC.anyTA {id : Nat} {l : List Oper} {σ : Sl} {S : List Snap} {H : List Chunk} (m kk : Nat) (F : List (SFact (keys H))) (Is : List Ins) (outs : List (Nat × Nat)) (bas : List Nat)
  (hmix : P.follows .mixedOrders = true) (hp : plainRegion l.toArray = true) (htl : tailed l.toArray m = true) (hkm : (Nat.blt kk m || Nat.ble l.length kk) = true) (hml : Nat.ble m l.length = true)
  (hlate : (F.zipIdx.all fun (f, i) => !f.late || Nat.beq i kk || match l[i]? with | some o => waits o kk | none => true) = true)
  (houts : outs.all (fun (d, j) => Nat.blt j m && match l[j]? with | some p => (match p.dst with | some d' => Nat.beq d d' | none => false) | none => false) = true)
  (hbas : bas.all (fun t => (l.take m).all fun p => match p.dst with | some d => !Nat.beq d t | none => true) = true) (hn : decide ((outs.map (·.1)).Nodup) = true)
  (hobs : Obs P n l.toArray Q (Still S H) (Turn (keys H)) kk (F.map (·.f)) σ 0 Is (l.take m))
  (hend : ∀ w0, Still S H (Nat.blt kk m) w0 → EachV F w0 outs [] (fun τ => VL P n l.toArray Q (l.drop m) (τ ++ only σ bas) (fun w => w = w0))) :
  VC P n Q (.region id l.toArray true) σ (Own S H) :=
 VC.anyT (Still S H) (Turn (keys H)) m kk (F.map (·.f)) Is outs bas hmix hp htl (by
   rw [Bool.or_eq_true] at hkm
   rcases hkm with h | h
   ·left; simp [Nat.blt, Nat.ble_eq] at h; omega
   ·right; simpa [Nat.ble_eq] using h) (by simpa [Nat.ble_eq] using hml) (fun _ h => h.drew) (lateOf F) (fun i o hi hl => by
  unfold lateOf at hl
  cases hf : F[i]? with
  | none => simp [hf] at hl
  | some f =>
   simp only [hf] at hl
   have h1 := List.all_eq_true.1 hlate (f, i) (by rw [List.mem_zipIdx_iff_getElem?]; simpa using hf)
   simp only [hl, hi, Bool.not_true, Bool.false_or, Bool.or_eq_true] at h1
   rcases h1 with h1 | h1
   ·exact .inl (Nat.eq_of_beq_eq_true h1)
   ·exact .inr h1) (fact_stays F) houts hbas hobs (fun vals a w ha ⟨h1, h2⟩ => (hend w h2).spec outs [] _ h1 a w (ha.back (of_decide_eq_true hn)) rfl)
theorem VL.backOwn {rest : List Oper} {S : List Snap} {H : List Chunk} {w0 : World} {σ : Sl} (hO : Own S H w0) (h : VL P n ops Q rest σ (Own S H)) : VL P n ops Q rest σ (fun w => w = w0) := VL.turn (fun w e => by subst e; exact hO) h
end
theorem Arr.nowK {X : Type} {sz : Nat} {R : Rel X} {S : List Snap} {H : List Chunk} {s : Snap} {K : List Nat} {w : World} {p : Option Addr} {xs : List X} {c : Nat} (h : Arr sz R s.K s.w p xs c) (hR : Mono R) (ho : Own S H w) (hs : s ∈ S) (hK : keys H = K) : Arr sz R K w p xs c := hK ▸ h.now hR ho hs
end Go.Vc

/- The rules of the walks, continued: a struct built out of its parts. -/
namespace Go.Vc

/-- Where parts of these sizes lie, one behind the other. -/
def placesL : Nat → List Nat → List (Nat × Nat)
  | _, [] => []
  | o, s :: r => (o, s) :: placesL (o + s) r

theorem placesL_get : ∀ (L : List Nat) (o i : Nat), (placesL o L)[i]? = (L[i]?).map fun s => (o + (L.take i).sum, s)
 | [], o, i => by simp [placesL]
 | s :: r, o, 0 => by simp [placesL]
 | s :: r, o, i + 1 => by
  simp only [placesL, List.getElem?_cons_succ, List.take_succ_cons, List.sum_cons]
  rw [placesL_get r (o + s) i]
  congr 1
  funext x
  rw [Nat.add_assoc]

def planOf (P : Program) (t : TypeId) : Option (List (Nat × Nat) × Array Value) :=
  match P.info? t, P.underlying t with
  | some it, some (.struct fields) =>
    match it.zero, fields.toList.mapM (fun f => (P.info? f.type).map fun i => (f.offset, i.size)) with
    | some z, some places => some (places, z.cells)
    | _, _ => none
  | _, _ => none

def setAll (ps : List (List Value)) : List (Nat × List Value) → List (List Value)
  | [] => ps
  | (i, q) :: r => setAll (ps.set i q) r

theorem fill_parts : ∀ (qs : List (Nat × List Value)) (vs : List (Nat × Value)) (L : List Nat) (ps : List (List Value)), ps.map List.length = L → vs.length = qs.length → (∀ (k : Nat) i v j q, vs[k]? = some (i, v) → qs[k]? = some (j, q) → i = j ∧ v.cells = q.toArray ∧ L[i]? = some q.length) →
  Instr.fill (fun i => (placesL 0 L)[i]?) (cat ps).toArray vs = some (cat (setAll ps qs)).toArray
 | [], [], L, ps, _, _, _ => by simp [Instr.fill, setAll]
 | [], _ :: _, _, _, _, h, _ => by simp at h
 | _ :: _, [], _, _, _, h, _ => by simp at h
 | (j, q) :: qs, (i, v) :: vs, L, ps, hL, hlen, h => by
  obtain ⟨rfl, hv, hi⟩ := h 0 i v j q rfl rfl
  have hsz : v.cells.size = q.length := by rw [hv]; simp
  have hilt : i < L.length := (List.getElem?_eq_some_iff.1 hi).1
  have hips : i < ps.length := by rw [← hL] at hilt; simpa using hilt
  have hpl : (ps[i]).length = q.length := by
   have := (List.getElem?_eq_some_iff.1 hi).2
   subst hL
   simpa using this
  have e := flatten_at ps i 1
  have h1 : (ps.drop i).take 1 = [ps[i]] := by
   rw [List.drop_eq_getElem_cons hips, List.take_succ_cons, List.take_zero]
  rw [h1] at e
  simp only [List.flatten_cons, List.flatten_nil, List.append_nil] at e
  have hlen1 := sum_take_length ps i
  rw [hL] at hlen1
  have htot : (cat ps).length = (L.take i).sum + (q.length + (ps.drop (i + 1)).flatten.length) := by
   rw [cat_eq, e, List.length_append, List.length_append, hlen1, hpl]
  unfold Instr.fill
  rw [placesL_get, hi]
  simp only [Option.map_some, Nat.zero_add]
  rw [if_neg (by simp [hsz]; omega)]
  have hs := set_seg v.cells.toList 0 (L.take i).sum (cat ps).toArray (by simp [hsz]; omega)
  have hz : (v.cells.zipIdx.foldl (fun cs (c, j) => cs.setIfInBounds ((L.take i).sum + j) c) (cat ps).toArray) = (cat (ps.set i q)).toArray := by
   rw [← Array.foldl_toList, Array.toList_zipIdx, hs]
   apply congrArg
   have hq : v.cells.toList = q := by rw [hv]
   have eset : (ps.set i q).flatten = (ps.take i).flatten ++ (q ++ (ps.drop (i + 1)).flatten) := by
    rw [List.set_eq_take_append_cons_drop, if_pos hips]
    simp
   rw [hq, Nat.add_zero, cat_eq (ps.set i q), eset, cat_eq ps, List.append_assoc, ← hlen1]
   congr 1
   ·rw [e, List.take_left]
   ·congr 1
    rw [← hpl, ← List.length_append, e, ← List.append_assoc, List.drop_left]
  rw [hz]
  refine fill_parts qs vs L (ps.set i q) ?_ (by simpa using hlen) (fun k a b c d h1 h2 => h (k + 1) a b c d (by simpa using h1) (by simpa using h2))
  rw [List.map_set, hL]
  have := (List.getElem?_eq_some_iff.1 hi).2
  rw [← this]; exact List.set_getElem_self hilt

/-- The parts' values: their cells. -/
def evq (σ : Sl) (L : List Nat) : List (Nat × Operand) → List (Nat × List Value) → Prop
  | [], [] => True
  | (i, x) :: r, (j, q) :: s => (i = j ∧ (∃ v, ev σ x = some v ∧ v.cells = q.toArray) ∧ L[i]? = some q.length) ∧ evq σ L r s
  | _, _ => False

theorem evq_spec {n : Nat} {σ : Sl} {a : Act} (ha : Agr n σ a) {L : List Nat} : ∀ (parts : List (Nat × Operand)) (qs : List (Nat × List Value)), evq σ L parts qs → parts.length = qs.length ∧ ∀ (k : Nat) i v j q, (parts.map fun (i, x) => (i, a.eval x))[k]? = some (i, v) → qs[k]? = some (j, q) → i = j ∧ v.cells = q.toArray ∧ L[i]? = some q.length
 | [], [], _ => ⟨rfl, by simp⟩
 | [], _ :: _, h => h.elim
 | _ :: _, [], h => h.elim
 | (i, x) :: r, (j, q) :: s, ⟨⟨h1, ⟨v, h2, h3⟩, h4⟩, h⟩ => by
  obtain ⟨e1, e2⟩ := evq_spec ha r s h
  refine ⟨by simp [e1], fun k i' v' j' q' hk hk' => ?_⟩
  cases k with
  | zero =>
   simp at hk hk'
   obtain ⟨rfl, rfl⟩ := hk
   obtain ⟨rfl, rfl⟩ := hk'
   rw [ha.ev h2]
   exact ⟨h1, h3, h4⟩
  | succ k => exact e2 k i' v' j' q' (by simpa using hk) (by simpa using hk')

theorem VL.build {P : Program} {n : Nat} {Q : Exit → Act → World → Prop} {σ : Sl} {G : World → Prop} {ops : Array Oper} {rest : List Oper} {d : Nat} {ty : TypeId} {pos : String} {aft : Array Edge}
  {t : TypeId} {L : List Nat} {zs ps : List (List Value)} {parts : List (Nat × Operand)} (qs : List (Nat × List Value)) (hplan : planOf P t = some (placesL 0 L, (cat zs).toArray)) (hL : zs.map List.length = L) (hq : evq σ L parts qs) (hp : setAll zs qs = ps)
  (h : VL P n ops Q rest ((d, .agg (cat ps).toArray) :: σ) G) (hdn : Nat.blt d n = true := by rfl) : VL P n ops Q (⟨some d, .build t parts.toArray, ty, pos, aft, none⟩ :: rest) σ G := by
 subst hp
 refine VL.val rfl rfl hdn (fun a w ha _ => ?_) h
 obtain ⟨e1, e2⟩ := evq_spec ha parts qs hq
 have hf := fill_parts qs (parts.map fun (i, x) => (i, a.eval x)) L zs hL (by simpa using e1) e2
 have hb : P.built t (parts.toArray.map fun (i, x) => (i, a.eval x)).toList = some (cat (setAll zs qs)).toArray := by
  unfold planOf at hplan
  unfold Program.built
  cases hi : P.info? t with
  | none => simp [hi] at hplan
  | some it =>
   cases hu : P.underlying t with
   | none => simp [hi, hu] at hplan
   | some dd =>
    cases dd <;> simp [hi, hu] at hplan ⊢
    rename_i fields
    cases hz : it.zero with
    | none => simp [hz] at hplan
    | some z =>
     cases hm : fields.toList.mapM (fun f => (P.info? f.type).map fun i => (f.offset, i.size)) with
     | none => simp [hz, hm] at hplan
     | some places =>
      simp [hz, hm] at hplan
      obtain ⟨rfl, hzc⟩ := hplan
      simp only [hzc]
      simpa using hf
 have hr := run_build (P := P) w t (parts.toArray.map fun (i, x) => (i, a.eval x)) _ hb
 simp only [execOp, Sem.run_bind, hr, Result.andThen_ok, Sem.run_pure]
end Go.Vc

/- The rules of the walks, continued: arrays in variables of their own: sliced, copied into, read as a result, compared. -/
namespace Go.Vc
section
variable {P : Program} {n : Nat} {Q : Exit → Act → World → Prop} {σ : Sl} {G : World → Prop} {ops : Array Oper} {rest : List Oper}
variable {d : Nat} {ty : TypeId} {pos : String} {aft : Array Edge}
variable {S : List Snap} {H H' : List Chunk}

/-- 'x[:]' of an array. -/
theorem VL.sliceArr {t e : TypeId} {m g : Nat} {x : Operand} (ht : P.underlying t = some (.array m e)) (he : ((P.info? e).map (·.size)).isSome = true) (hx : ev σ x = some (.pointer (some ⟨g, 0, none⟩)))
  (h : VL P n ops Q rest ((d, .slice (some ⟨g, 0, none⟩) m m) :: σ) G) (hdn : Nat.blt d n = true := by rfl) : VL P n ops Q (⟨some d, .slice t x none none none, ty, pos, aft, none⟩ :: rest) σ G :=
 VL.val rfl rfl hdn (fun a w ha _ => by
  cases hi : P.info? e with
  | none => simp [hi] at he
  | some inf => simp [execOp, ha.ev hx, Instr.sliceAt, run_underlying ht, Instr.sureAddr, Instr.sliceBounds, sizeOf, typeInfo, hi, Addr.add]) h

/-- 'copy(x[:], l)', where l is as long as the array x. -/
theorem VL.copyAll {x y : Operand} {t1 t2 e T : TypeId} {tys : Array TypeId} {g m c : Nat} {p : Option Addr} {l : List UInt8} {cur : List Value} (i : Nat) (htys : tys = #[t1, t2]) (hu : P.underlying t1 = some (.slice e)) (hs : (P.info? e).map (·.size) = some 1)
  (hx : ev σ x = some (.slice (some ⟨g, 0, none⟩) m m)) (hy : ev σ y = some (.slice p l.length c)) (hi : H[i]? = some (blk g T [m] [cur])) (hl : l.length = m) (hm : 0 < m) (hA : ∀ w, Own S H w → CellsAt w p (l.map bv))
  (hH : H.set i (blk g T [m] [l.map bv]) = H') (h : ∀ v, VL P n ops Q rest ((d, v) :: σ) (Own S H')) (hdn : Nat.blt d n = true := by rfl) : VL P n ops Q (⟨some d, .call ⟨.builtin .copy, #[x, y], tys⟩, ty, pos, aft, none⟩ :: rest) σ (Own S H) := by
 subst htys
 refine VL.act (K := fun _ w' => Own S H' w') rfl rfl hdn (fun a w ha hw => ?_) h
 obtain ⟨hg, hL⟩ := hw.holds _ (List.mem_of_getElem? hi)
 have hcl : cur.length = m := by simpa using hL
 have hcat : cat [cur] = cur := rfl
 rw [hcat] at hg
 rcases hA w hw with ⟨_, h0⟩ | ⟨a', rfl, hc⟩
 ·have : l = [] := by simpa using h0
  subst this
  simp at hl; omega
 ·have hr := run_copy_row (P := P) w t1 t2 ty e g 0 m m a' l.length c cur.toArray T (l.map bv) hu hs hg (by simp [hl]) hc (by simp [hl, hcl]) (ok1_bytes l)
  have e1 : cur.toArray.toList.take 0 ++ l.map bv ++ cur.toArray.toList.drop (0 + (l.map bv).length) = l.map bv := by
   simp [List.drop_eq_nil_of_le (show cur.length ≤ l.length by omega)]
  rw [e1] at hr
  refine ⟨goInt (l.map bv).length, w.setRow g (l.map bv).toArray, ?_, blk_set (ps' := [l.map bv]) hw hi (by simp [hl]) hH⟩
  simp [execOp, resolve, invoke, builtin, ha.ev hx, ha.ev hy, hr]

/-- A result that stands in a variable: an array or a struct; the other in a slot. -/
theorem VX.ret_cell {fn : Func} {S' : Value → World → Prop} {t u g : Nat} {ty T : TypeId} {L : List Nat} {ps : List (List Value)} {x : Value} (i : Nat) {cs : List Value} (hr : fn.results = #[.cell t ty, .tmp u]) (ht : look σ t = some (.pointer (some ⟨g, 0, none⟩))) (hu : look σ u = some x)
  (hk : kindOf P ty = some (some cs.length)) (hG : ∀ w, G w → Own S H w) (hi : H[i]? = some (blk g T L ps)) (hc : cat ps = cs) (h : ∀ w, G w → S' (.tuple #[.agg cs.toArray, x]) w) : VX n (bodyPost P fn (Ret S')) .ret σ G :=
 fun a w ha hw => ⟨ha.dfr, .tuple #[.agg cs.toArray, x], by
  obtain ⟨hg, _⟩ := (hG w hw).holds _ (List.mem_of_getElem? hi)
  have h1 := ha.at_ t _ ht
  have h2 := ha.at_ u _ hu
  simp only [Array.getD_eq_getD_getElem?] at h1 h2
  have hcell : ∀ j v, cs[j]? = some v → w.cell? ((⟨g, 0, none⟩ : Addr).add j) = some v := by
   intro j v hj
   rw [add_lit, cell_of_row w g _ _ T (0, 0) hg, hc, Nat.zero_add]
   simpa using hj
  have hld : (loadVar ty ⟨g, 0, none⟩).run P w = .ok (.agg cs.toArray) w := by
   simp [loadVar, (kindOf_agg hk w).1, (kindOf_agg hk w).2, run_loadCells_list (P := P) w ⟨g, 0, none⟩ cs hcell]
  simp [results, hr, h1, h2, asAddr, hld], h w hw⟩

end
end Go.Vc

/- The rules of the walks, continued: arrays and structs, one against the other; zeros; chunks with a reading inside. -/
namespace Go.Vc

/-- Two values of a type, one against the other: the answer says p. -/
def EqT (P : Program) (d : Nat) (t : TypeId) (x y : Value) (p : Prop) : Prop := ∃ b : Bool, (∀ w, (Op.equalIn d t x y).run P w = .ok b w) ∧ (b = true ↔ p)

section
variable {P : Program}

theorem EqT.int {d : Nat} {t : TypeId} {k k' : IntKind} {a b : Int} (h : P.underlying t = some (.int k')) : EqT P (d + 1) t (.int k a) (.int k b) (a = b) :=
 ⟨a == b, fun w => run_equalIn_int (P := P) w d t k k' a b h, by simp⟩
theorem EqT.bool {d : Nat} {t : TypeId} {a b : Bool} (h : P.underlying t = some .bool) : EqT P (d + 1) t (.bool a) (.bool b) (a = b) :=
 ⟨a == b, fun w => run_equalIn_bool (P := P) w d t a b h, by simp⟩

/-- The fields of two structs, part by part. -/
def FieldsT (P : Program) (d : Nat) : List (TypeId × Nat) → Nat → List (List Value) → List (List Value) → List Prop → Prop
  | [], _, [], [], [] => True
  | f :: fs, o, p :: ps, q :: qs, b :: bs => (f.2 = o ∧ p.length = q.length ∧ ((kindOf P f.1 = some none ∧ ∃ u v, p = [u] ∧ q = [v] ∧ EqT P d f.1 u v b) ∨ (kindOf P f.1 = some (some p.length) ∧ EqT P d f.1 (.agg p.toArray) (.agg q.toArray) b))) ∧ FieldsT P d fs (o + p.length) ps qs bs
  | _, _, _, _, _ => False

def allP : List Prop → Prop
  | [] => True
  | p :: ps => p ∧ allP ps

theorem part_at {t : TypeId} {w : World} {pre p suf : List Value} : (kindOf P t = some none → ∀ u, p = [u] → (Go.part t (pre ++ (p ++ suf)).toArray pre.length).run P w = .ok u w) ∧ (kindOf P t = some (some p.length) → (Go.part t (pre ++ (p ++ suf)).toArray pre.length).run P w = .ok (.agg p.toArray) w) := by
 constructor
 ·intro h u e
  subst e
  have := (kindOf_cell h w).1
  simp [Go.part, this]
 ·intro h
  have h1 := (kindOf_agg h w).1
  have h2 := (kindOf_agg h w).2
  have e : (pre ++ (p ++ suf)).toArray.extract pre.length (pre.length + p.length) = p.toArray := by
   apply Array.ext'
   simp
  simp only [Go.part, Sem.run_bind, h1, Result.andThen_ok, Sem.run_ite, if_true, h2, Sem.run_pure, e]

theorem run_fields (d : Nat) : ∀ (fs : List Field) (o : Nat) (ps qs : List (List Value)) (bs : List Prop), (fs.all fun f => f.name != "_") = true → FieldsT P d (fs.map fun f => (f.type, f.offset)) o ps qs bs → ∃ b : Bool, (∀ (pre pre' : List Value) (w : World), pre.length = o → pre'.length = o → (Op.eqFields d (pre ++ ps.flatten).toArray (pre' ++ qs.flatten).toArray fs).run P w = .ok b w) ∧ (b = true ↔ allP bs)
 | [], _, [], [], [], _, _ => ⟨true, fun _ _ _ _ _ => by simp [Op.eqFields], by simp [allP]⟩
 | f :: fs, o, p :: ps, q :: qs, b :: bs, hn, ⟨⟨h2, h3, h4⟩, h5⟩ => by
  rw [List.all_cons, Bool.and_eq_true] at hn
  have h1 : f.name ≠ "_" := by simpa using hn.1
  simp only at h2 h4
  obtain ⟨b2, hb2, hi2⟩ := run_fields d fs (o + p.length) ps qs bs hn.2 h5
  have step : ∃ b1 : Bool, (b1 = true ↔ b) ∧ ∀ (pre pre' : List Value) (w : World), pre.length = o → pre'.length = o → ∃ u v, (Go.part f.type (pre ++ (p ++ ps.flatten)).toArray f.offset).run P w = .ok u w ∧ (Go.part f.type (pre' ++ (q ++ qs.flatten)).toArray f.offset).run P w = .ok v w ∧ (Op.equalIn d f.type u v).run P w = .ok b1 w := by
   rcases h4 with ⟨hk, u, v, rfl, rfl, b1, hr, hi⟩ | ⟨hk, b1, hr, hi⟩
   ·refine ⟨b1, hi, fun pre pre' w e1 e2 => ⟨u, v, ?_, ?_, hr w⟩⟩
    ·rw [h2, ← e1]; exact part_at.1 hk u rfl
    ·rw [h2, ← e2]; exact part_at.1 hk v rfl
   ·refine ⟨b1, hi, fun pre pre' w e1 e2 => ⟨_, _, ?_, ?_, hr w⟩⟩
    ·rw [h2, ← e1]; exact part_at.2 hk
    ·rw [h2, ← e2]; exact part_at.2 (by rw [← h3]; exact hk)
  obtain ⟨b1, hi1, hs⟩ := step
  refine ⟨b1 && b2, fun pre pre' w e1 e2 => ?_, by simp [allP, hi1, hi2]⟩
  obtain ⟨u, v, r1, r2, r3⟩ := hs pre pre' w e1 e2
  simp only [List.flatten_cons, Op.eqFields, h1, ne_eq, not_false_eq_true, if_true, Sem.run_bind, r1, r2, r3, Result.andThen_ok]
  cases b1
  ·simp
  ·have := hb2 (pre ++ p) (pre' ++ q) w (by simp [e1]) (by simp [e2, h3])
   rw [List.append_assoc, List.append_assoc] at this
   simp [this]

theorem EqT.struct {d : Nat} {t : TypeId} {ps qs : List (List Value)} {bs : List Prop} (ht : P.underlying t = some (.struct (P.fieldsOf t))) (hp : P.stoodInHeld t = false) (hn : ((P.fieldsOf t).toList.all fun f => f.name != "_") = true) (h : FieldsT P d ((P.fieldsOf t).toList.map fun f => (f.type, f.offset)) 0 ps qs bs) : EqT P (d + 1) t (.agg (cat ps).toArray) (.agg (cat qs).toArray) (allP bs) := by
 obtain ⟨b, h1, h2⟩ := run_fields d _ _ _ _ _ hn h
 refine ⟨b, fun w => ?_, h2⟩
 rw [run_equalIn_struct w d t _ _ ht hp, cat_eq, cat_eq]
 exact h1 [] [] w rfl rfl
end

section
variable {P : Program} {n : Nat} {Q : Exit → Act → World → Prop} {σ : Sl} {G : World → Prop} {ops : Array Oper} {rest : List Oper}
variable {d : Nat} {ty : TypeId} {pos : String} {aft : Array Edge}
variable {S : List Snap} {H H' : List Chunk}

/-- The one result stands in a variable. -/
theorem VX.ret_cell1 {fn : Func} {S' : Value → World → Prop} {t g : Nat} {ty T : TypeId} {L : List Nat} {ps : List (List Value)} (i : Nat) {cs : List Value} (hr : fn.results = #[.cell t ty]) (ht : look σ t = some (.pointer (some ⟨g, 0, none⟩)))
  (hk : kindOf P ty = some (some cs.length)) (hG : ∀ w, G w → Own S H w) (hi : H[i]? = some (blk g T L ps)) (hc : cat ps = cs) (h : ∀ w, G w → S' (.agg cs.toArray) w) : VX n (bodyPost P fn (Ret S')) .ret σ G :=
 fun a w ha hw => ⟨ha.dfr, .agg cs.toArray, by
  obtain ⟨hg, _⟩ := (hG w hw).holds _ (List.mem_of_getElem? hi)
  have h1 := ha.at_ t _ ht
  simp only [Array.getD_eq_getD_getElem?] at h1
  have hcell : ∀ j v, cs[j]? = some v → w.cell? ((⟨g, 0, none⟩ : Addr).add j) = some v := by
   intro j v hj
   rw [add_lit, cell_of_row w g _ _ T (0, 0) hg, hc, Nat.zero_add]
   simpa using hj
  have hld : (loadVar ty ⟨g, 0, none⟩).run P w = .ok (.agg cs.toArray) w := by
   simp [loadVar, (kindOf_agg hk w).1, (kindOf_agg hk w).2, run_loadCells_list (P := P) w ⟨g, 0, none⟩ cs hcell]
  simp [results, hr, h1, asAddr, hld], h w hw⟩

/-- The newest slot, in other words. -/
theorem VL.newv {l : List Oper} {v v' : Value} (e : v = v') (h : VL P n ops Q l ((d, v') :: σ) G) : VL P n ops Q l ((d, v) :: σ) G := e ▸ h

/-- A zero that is built. -/
theorem VL.build0 {t : TypeId} {cs : List Value} (hb : P.built t [] = some cs.toArray)
  (h : VL P n ops Q rest ((d, .agg cs.toArray) :: σ) G) (hdn : Nat.blt d n = true := by rfl) : VL P n ops Q (⟨some d, .build t #[], ty, pos, aft, none⟩ :: rest) σ G :=
 VL.val rfl rfl hdn (fun a w _ _ => by
  have hr := run_build (P := P) w t #[] _ hb
  simp only [execOp, Sem.run_bind, Array.map_empty, hr, Result.andThen_ok, Sem.run_pure]) h

/-- A variable whose cells read as something. -/
def xblk (g : Nat) (T : TypeId) (L : List Nat) (R : Rel (List (List Value))) (hR : Mono R) : Chunk :=
  ⟨[g], fun K w => ∃ ps, w.heap[g]? = some (.cells (cat ps).toArray T (0, 0)) ∧ ps.map List.length = L ∧ R K w (cat ps) ps, fun K K' w w' h hs hK ⟨ps, h1, h2, h3⟩ => ⟨ps, by rw [h g (by simp)]; exact h1, h2, hR ⟨w, K⟩ K' w' _ _ ⟨hs, hK⟩ h3⟩⟩
theorem Own.openX {w : World} {g : Nat} {T : TypeId} {L : List Nat} {R : Rel (List (List Value))} {hR : Mono R} (h : Own S (xblk g T L R hR :: H) w) : ∃ ps, Own S (blk g T L ps :: H) w ∧ R (keys (blk g T L ps :: H)) w (cat ps) ps := by
 obtain ⟨ps, h1, h2, h3⟩ := h.holds (xblk g T L R hR) (by simp)
 refine ⟨ps, ?_, h3⟩
 exact h.setK (i := 0) (c := xblk g T L R hR) (c' := blk g T L ps) rfl rfl rfl rfl (Nat.le_refl _) (fun _ _ _ => rfl) (by simp [blk]) (fun k hk => ⟨.inl hk, h.lt k (by rw [keys_cons]; simp [xblk]; left; simpa [blk] using hk)⟩) (fun K' ha => ⟨h1, h2⟩) rfl
theorem Own.shutX {w : World} {g : Nat} {T : TypeId} {L : List Nat} {ps : List (List Value)} {R : Rel (List (List Value))} (hR : Mono R) (h : Own S (blk g T L ps :: H) w) (hr : R (keys (blk g T L ps :: H)) w (cat ps) ps) : Own S (xblk g T L R hR :: H) w := by
 obtain ⟨h1, h2⟩ := h.holds (blk g T L ps) (by simp)
 exact h.setK (i := 0) (c := blk g T L ps) (c' := xblk g T L R hR) rfl rfl rfl rfl (Nat.le_refl _) (fun _ _ _ => rfl) (by simp [xblk]) (fun k hk => ⟨.inl hk, h.lt k (by rw [keys_cons]; simp [blk]; left; simpa [xblk] using hk)⟩) (fun K' ha => ⟨ps, h1, h2, hR _ K' w _ _ ha hr⟩) rfl

/-- A chunk at place i, brought to the front; and back. -/
theorem Own.front {w : World} {i : Nat} {c : Chunk} (h : Own S H w) (hi : H[i]? = some c) : Own S (c :: H.eraseIdx i) w := h.perm (perm_at hi).symm
theorem Own.back {w : World} {i : Nat} {c c' : Chunk} (hi : H[i]? = some c) (h : Own S (c' :: H.eraseIdx i) w) : Own S (H.set i c') w := Own.perm h (perm_set _ _ _ (List.getElem?_eq_some_iff.1 hi).1)
/-- Fewer snapshots. -/
theorem Own.sub {S' : List Snap} {w : World} (h : Own S' H w) (hs : ∀ s ∈ S, s ∈ S') : Own S H w := ⟨h.nodup, h.lt, h.holds, fun s hm => h.snap s (hs s hm)⟩
theorem Arr.keysTo {X : Type} {sz : Nat} {R : Rel X} {K K' : List Nat} {w : World} {p : Option Addr} {xs : List X} {c : Nat} (h : Arr sz R K w p xs c) (hR : Mono R) (hk : ∀ k ∈ K', k ∈ K) : Arr sz R K' w p xs c :=
 Arr.after (s := ⟨w, K⟩) h hR ⟨⟨rfl, rfl, rfl, Nat.le_refl _, fun _ _ _ => rfl⟩, fun k hm => .inl (hk k hm)⟩
theorem keys_set {i : Nat} {c c' : Chunk} (hi : H[i]? = some c) : ∀ k, k ∈ keys (H.set i c') ↔ k ∈ keys (c' :: H.eraseIdx i) := fun k =>
 (List.Perm.flatMap_right _ (perm_set H i c' (List.getElem?_eq_some_iff.1 hi).1)).mem_iff
end
end Go.Vc

/- Plain facts on numbers and bytes: no program in sight. -/
namespace Go.Pl

/-- A number's last k bytes, the greatest first. -/
def be : Nat → Nat → List UInt8
  | 0, _ => []
  | k + 1, n => UInt8.ofNat (n / 256 ^ k) :: be k n

/-- What bytes say as a number. -/
def num (l : List UInt8) : Nat := l.foldl (fun a b => a * 256 + b.toNat) 0

theorem be_length (k n : Nat) : (be k n).length = k := by
 induction k with
 | zero => rfl
 | succ k ih => simp [be, ih]

theorem num_snoc (l : List UInt8) (b : UInt8) : num (l ++ [b]) = num l * 256 + b.toNat := by simp [num]

theorem foldl_num (l : List UInt8) : ∀ a, l.foldl (fun a b => a * 256 + b.toNat) a = a * 256 ^ l.length + num l := by
 induction l with
 | nil => intro a; simp [num]
 | cons b r ih =>
  intro a
  simp only [num, List.foldl_cons, List.length_cons] at ih ⊢
  rw [ih, ih (0 * 256 + b.toNat), Nat.pow_succ, Nat.add_mul]
  simp only [Nat.zero_mul, Nat.zero_add]
  rw [Nat.mul_assoc, Nat.mul_comm 256, Nat.add_assoc]

theorem num_cons (b : UInt8) (l : List UInt8) : num (b :: l) = b.toNat * 256 ^ l.length + num l := by
 have := foldl_num l b.toNat
 simpa [num] using this

theorem num_lt (l : List UInt8) : num l < 256 ^ l.length := by
 induction l with
 | nil => simp [num]
 | cons b r ih =>
  rw [num_cons, List.length_cons, Nat.pow_succ]
  have hb : b.toNat ≤ 255 := by have := b.toNat_lt; omega
  have := Nat.mul_le_mul_right (256 ^ r.length) hb
  omega

theorem num_be (k n : Nat) : num (be k n) = n % 256 ^ k := by
 induction k with
 | zero => simp [be, num, Nat.mod_one]
 | succ k ih =>
  rw [be, num_cons, be_length, ih]
  have h1 : (UInt8.ofNat (n / 256 ^ k)).toNat = n / 256 ^ k % 256 := by simp
  rw [h1, Nat.pow_succ, Nat.mod_mul, Nat.mul_comm (256 ^ k)]
  omega

theorem be_add_mul (k : Nat) : ∀ (m n : Nat), be k (m * 256 ^ k + n) = be k n := by
 induction k with
 | zero => intro m n; rfl
 | succ k ih =>
  intro m n
  have hp : 0 < 256 ^ k := Nat.pow_pos (by decide)
  have e : m * 256 ^ (k + 1) + n = (m * 256) * 256 ^ k + n := by rw [Nat.pow_succ, Nat.mul_comm (256 ^ k), ← Nat.mul_assoc]
  rw [be, be, e, ih (m * 256) n]
  congr 1
  rw [Nat.add_comm, Nat.add_mul_div_right _ _ hp]
  apply UInt8.toNat_inj.1
  simp

theorem be_num (l : List UInt8) : be l.length (num l) = l := by
 induction l with
 | nil => rfl
 | cons b r ih =>
  have hp : 0 < 256 ^ r.length := Nat.pow_pos (by decide)
  rw [List.length_cons, be, num_cons, be_add_mul, ih]
  congr 1
  rw [Nat.add_comm, Nat.add_mul_div_right _ _ hp, Nat.div_eq_of_lt (num_lt r)]
  simp

theorem or_byte (a b : Nat) (hb : b < 256) : a * 256 ||| b = a * 256 + b := by
 have := Nat.two_pow_add_eq_or_of_lt (i := 8) (b := b) (by simpa using hb) a
 simp at this
 rw [Nat.mul_comm, this]

theorem u64_or_byte (a b : Nat) (ha : a ≤ 72057594037927935) (hb : b < 256) : bits .or .u64 (IntKind.u64.wrap ((a : Int) * 2 ^ (8 : Int).toNat)) (b : Int) = ((a * 256 + b : Nat) : Int) := by
 have h1 : a * 256 < 18446744073709551616 := Nat.lt_of_le_of_lt (Nat.mul_le_mul_right 256 ha) (by decide)
 have h2 : b < 18446744073709551616 := Nat.lt_trans hb (by decide)
 have h8 : (2 : Int) ^ (8 : Int).toNat = 256 := by decide
 have h3 : ((a * 256 : Nat) : Int) < ((18446744073709551616 : Nat) : Int) := Int.ofNat_lt.2 h1
 have h4 : ((a : Int) * 256) = ((a * 256 : Nat) : Int) := by rw [Int.natCast_mul]; rfl
 have h5 : ((a * 256 : Nat) : Int) % 18446744073709551616 = ((a * 256 : Nat) : Int) := Int.emod_eq_of_lt (Int.natCast_nonneg _) h3
 rw [h8, IntKind.wrap_u64, h4, h5, u64_or_nat (a * 256) b h1 h2, or_byte a b hb]

/-- k bytes hold the number (behind a name: great numerals stay out of the walks' sight). -/
def Fits (k m : Nat) : Prop := m < 256 ^ k

/-- The bytes in the middle of being written. -/
def midb (size i n : Nat) : List UInt8 := List.replicate (size - i) 0 ++ be i n

theorem midb_set (size i n : Nat) (h : i < size) : (midb size i n).set (size - 1 - i) (UInt8.ofNat (n / 256 ^ i)) = midb size (i + 1) n := by
 unfold midb
 rw [be]
 have e : size - i = (size - (i + 1)) + 1 := by omega
 rw [e, List.replicate_succ', List.append_assoc, List.set_append, if_neg (by simp; omega)]
 simp only [List.length_replicate]
 rw [show size - 1 - i - (size - (i + 1)) = 0 by omega]
 simp

theorem midb_done (size n : Nat) : midb size size n = be size n := by simp [midb]
theorem midb_start (size n : Nat) : midb size 0 n = List.replicate size 0 := by simp [midb, be]

theorem byte_wrap (m : Nat) : IntKind.u8.wrap (m : Int) = ((UInt8.ofNat m).toNat : Int) := by
 rw [IntKind.wrap_u8']; simp

theorem byte_rem (m : Nat) : IntKind.u8.wrap ((m : Int) % 256) = ((UInt8.ofNat m).toNat : Int) := by
 rw [IntKind.wrap_u8']; simp

theorem div_zero_iff (n k : Nat) : n / 256 ^ k = 0 ↔ Fits k n := by
 have hp : 0 < 256 ^ k := Nat.pow_pos (by decide)
 constructor
 ·intro h; exact (Nat.div_eq_zero_iff_lt hp).1 h
 ·intro h; exact Nat.div_eq_of_lt h

/-- Pieces, each behind its length. -/
def body (ls : List (List UInt8)) : List UInt8 := ls.flatMap fun p => be 2 p.length ++ p
/-- The joined text. -/
def joinB (ls : List (List UInt8)) : List UInt8 := UInt8.ofNat ls.length :: body ls
def joinOk (ls : List (List UInt8)) : Prop := ls.length ≤ 64 ∧ ∀ p ∈ ls, p.length ≤ 4096

theorem body_snoc (ls : List (List UInt8)) (p : List UInt8) : body (ls ++ [p]) = body ls ++ (be 2 p.length ++ p) := by simp [body]
theorem body_cons (p : List UInt8) (ls : List (List UInt8)) : body (p :: ls) = be 2 p.length ++ (p ++ body ls) := by simp [body]
theorem be_two (n : Nat) : be 2 n = [UInt8.ofNat (n / 256), UInt8.ofNat n] := by simp [be]
theorem body_le {ls : List (List UInt8)} (h : ∀ p ∈ ls, p.length ≤ 4096) : (body ls).length ≤ 4098 * ls.length := by
 induction ls with
 | nil => simp [body]
 | cons p r ih =>
  have h1 := h p (by simp)
  have h2 := ih (fun q hq => h q (by simp [hq]))
  rw [body_cons]
  simp only [List.length_append, be_length, List.length_cons]
  omega
theorem fits_two {n : Nat} (h : n ≤ 65535) : Fits 2 n := Nat.lt_of_le_of_lt h (by decide)

theorem i64_or_nat (a b : Nat) (ha : a < 4611686018427387904) (hb : b < 4611686018427387904) : bits .or .i64 (a : Int) (b : Int) = ((a ||| b : Nat) : Int) := by
 have hx : a ||| b < 2 ^ 62 := Nat.or_lt_two_pow (by omega) (by omega)
 have e1 : (BitVec.ofInt 64 (a : Int)).toNat = a := by rw [BitVec.ofInt_natCast, BitVec.toNat_ofNat]; exact Nat.mod_eq_of_lt (by omega)
 have e2 : (BitVec.ofInt 64 (b : Int)).toNat = b := by rw [BitVec.ofInt_natCast, BitVec.toNat_ofNat]; exact Nat.mod_eq_of_lt (by omega)
 show IntKind.i64.wrap ((BitVec.ofInt 64 (a : Int) ||| BitVec.ofInt 64 (b : Int)).toNat : Int) = _
 rw [BitVec.toNat_or, e1, e2, IntKind.wrap_i64]
 omega

theorem i64_shl8 (a : Nat) (ha : a < 65536) : IntKind.i64.wrap ((a : Int) * 2 ^ (8 : Int).toNat) = ((a * 256 : Nat) : Int) := by
 have h8 : (2 : Int) ^ (8 : Int).toNat = 256 := by decide
 rw [h8, IntKind.wrap_i64]
 omega

theorem i64_or_byte (a b : Nat) (ha : a < 65536) (hb : b < 256) : bits .or .i64 ((a * 256 : Nat) : Int) (b : Int) = ((a * 256 + b : Nat) : Int) := by
 rw [i64_or_nat _ _ (by omega) (by omega), or_byte a b hb]

/-! The joined text, cut: its error's number (0: none) and its pieces. -/
def cutB : Nat → List UInt8 → List (List UInt8) → Nat × List (List UInt8)
  | 0, [], acc => (0, acc)
  | 0, _ :: _, _ => (21, [])
  | k + 1, a :: b :: r, acc => if a.toNat * 256 + b.toNat > 4096 then (5, []) else if a.toNat * 256 + b.toNat > r.length then (20, []) else cutB k (r.drop (a.toNat * 256 + b.toNat)) (acc ++ [r.take (a.toNat * 256 + b.toNat)])
  | _ + 1, _, _ => (20, [])

def splitB : List UInt8 → Nat × List (List UInt8)
  | [] => (20, [])
  | n :: r => if n.toNat > 64 then (4, []) else cutB n.toNat r []

theorem splitB_cons (n : UInt8) (r : List UInt8) : splitB (n :: r) = if n.toNat > 64 then (4, []) else cutB n.toNat r [] := rfl

theorem cutB_short {k : Nat} {l : List UInt8} {acc : List (List UInt8)} (h : l.length < 2) : cutB (k + 1) l acc = (20, []) := by
 match l with
 | [] => rfl
 | [_] => rfl
 | a :: b :: r => simp at h; omega

theorem cutB_done {l : List UInt8} {acc : List (List UInt8)} : cutB 0 l acc = if l = [] then (0, acc) else (21, []) := by
 cases l <;> simp [cutB]

/-- The next piece's length, as it stands ahead of it. -/
def pre2 (l : List UInt8) : Nat := (l.getD 0 0).toNat * 256 + (l.getD 1 0).toNat

theorem cutB_next {k : Nat} {l : List UInt8} {acc : List (List UInt8)} (h : 2 ≤ l.length) : cutB (k + 1) l acc = if pre2 l > 4096 then (5, []) else if pre2 l > (l.drop 2).length then (20, []) else cutB k ((l.drop 2).drop (pre2 l)) (acc ++ [(l.drop 2).take (pre2 l)]) := by
 match l with
 | [] => simp at h
 | [_] => simp at h
 | a :: b :: r => rfl

theorem cutB_join : ∀ (ls acc : List (List UInt8)), (∀ p ∈ ls, p.length ≤ 4096) → cutB ls.length (body ls) acc = (0, acc ++ ls)
 | [], acc, _ => by simp [cutB, body]
 | p :: ls, acc, h => by
  have hp : p.length ≤ 4096 := h p (by simp)
  rw [body_cons, be_two, List.length_cons]
  show cutB (ls.length + 1) (UInt8.ofNat (p.length / 256) :: UInt8.ofNat p.length :: (p ++ body ls)) acc = _
  rw [cutB_next (by simp)]
  have e : pre2 (UInt8.ofNat (p.length / 256) :: UInt8.ofNat p.length :: (p ++ body ls)) = p.length := by
   simp [pre2]; omega
  rw [e, if_neg (by omega), if_neg (by simp)]
  simp only [List.drop_succ_cons, List.drop_zero, List.drop_left, List.take_left]
  rw [cutB_join ls _ (fun q hq => h q (by simp [hq]))]
  simp

theorem split_join {ls : List (List UInt8)} (h : joinOk ls) : splitB (joinB ls) = (0, ls) := by
 have h1 := h.1
 have e : (UInt8.ofNat ls.length).toNat = ls.length := by simp [Nat.mod_eq_of_lt (show ls.length < 256 by omega)]
 unfold joinB
 rw [splitB_cons, e, if_neg (by omega), cutB_join ls [] h.2]; rfl

theorem be_pre2 (l : List UInt8) (h : 2 ≤ l.length) : l = be 2 (pre2 l) ++ l.drop 2 := by
 match l, h with
 | a :: b :: r, _ =>
  have ha := a.toNat_lt
  have hb := b.toNat_lt
  have e5 : pre2 (a :: b :: r) = a.toNat * 256 + b.toNat := rfl
  have h6 : UInt8.ofNat ((a.toNat * 256 + b.toNat) / 256) = a := UInt8.toNat_inj.1 (by simp; omega)
  have h7 : UInt8.ofNat (a.toNat * 256 + b.toNat) = b := UInt8.toNat_inj.1 (by simp)
  rw [be_two, e5, h6, h7]; rfl

theorem cutB_ok : ∀ (k : Nat) (l : List UInt8) (acc ls : List (List UInt8)), cutB k l acc = (0, ls) → ∃ ls', ls = acc ++ ls' ∧ ls'.length = k ∧ (∀ p ∈ ls', p.length ≤ 4096) ∧ l = body ls'
 | 0, l, acc, ls, h => by
  rw [cutB_done] at h
  split at h
  ·rename_i hl
   simp at h
   exact ⟨[], by simp [h], rfl, by simp, by simp [hl, body]⟩
  ·simp at h
 | k + 1, l, acc, ls, h => by
  by_cases h2 : 2 ≤ l.length
  ·rw [cutB_next h2] at h
   split at h
   ·simp at h
   ·split at h
    ·simp at h
    ·rename_i h3 h4
     obtain ⟨ls', e1, e2, e3, e4⟩ := cutB_ok k _ _ _ h
     have hlen : ((l.drop 2).take (pre2 l)).length = pre2 l := by rw [List.length_take]; omega
     refine ⟨(l.drop 2).take (pre2 l) :: ls', by simp [e1], by simp [e2], fun p hp => ?_, ?_⟩
     ·rcases List.mem_cons.1 hp with rfl | hp
      ·omega
      ·exact e3 p hp
     ·rw [body_cons, hlen, ← e4, List.take_append_drop]
      exact be_pre2 l h2
  ·rw [cutB_short (by omega)] at h; simp at h

theorem split_ok {l : List UInt8} {ls : List (List UInt8)} (h : splitB l = (0, ls)) : joinOk ls ∧ joinB ls = l := by
 cases l with
 | nil => simp [splitB] at h
 | cons n r =>
  rw [splitB_cons] at h
  split at h
  ·simp at h
  ·obtain ⟨ls', e1, e2, e3, e4⟩ := cutB_ok _ _ _ _ h
   simp at e1
   subst e1
   refine ⟨⟨by omega, e3⟩, ?_⟩
   unfold joinB
   rw [e2, ← e4]; simp

theorem cutB_err : ∀ (k : Nat) (l : List UInt8) (acc : List (List UInt8)), (cutB k l acc).1 ≠ 0 → (cutB k l acc).2 = []
 | 0, l, acc => by rw [cutB_done]; split <;> simp
 | k + 1, l, acc => by
  by_cases h2 : 2 ≤ l.length
  ·rw [cutB_next h2]
   split
   ·simp
   ·split
    ·simp
    ·exact cutB_err k _ _
  ·rw [cutB_short (by omega)]; simp
theorem split_err (l : List UInt8) (h : (splitB l).1 ≠ 0) : (splitB l).2 = [] := by
 cases l with
 | nil => rfl
 | cons n r =>
  rw [splitB_cons] at h ⊢
  split at h
  ·rename_i h1; rw [if_pos h1]
  ·rename_i h1; rw [if_neg h1]; exact cutB_err _ _ _ h
end Go.Pl

/- The rules of the walks, continued: variables that are only read from now on. -/
namespace Go.Vc

/-- A variable's cells, as they were: nobody turns them. -/
structure CellsIn (K : List Nat) (w : World) (g : Nat) (T : TypeId) (L : List Nat) (ps : List (List Value)) : Prop where
  row : w.heap[g]? = some (.cells (cat ps).toArray T (0, 0))
  lens : ps.map List.length = L
  out : g ∉ K
  lt : g < w.heap.size

theorem CellsIn.now {s : Snap} {w : World} {g : Nat} {T : TypeId} {L : List Nat} {ps : List (List Value)} (h : CellsIn s.K s.w g T L ps) (hs : s.ok w) : w.heap[g]? = some (.cells (cat ps).toArray T (0, 0)) := by
 rw [hs.block g h.lt h.out]; exact h.row

theorem Own.letCells {S : List Snap} {H : List Chunk} {w : World} {g i : Nat} {T : TypeId} {L : List Nat} {ps : List (List Value)} (h : Own S H w) (hi : H[i]? = some (blk g T L ps)) : Own S (H.eraseIdx i) w ∧ CellsIn (keys (H.eraseIdx i)) w g T L ps := by
 have h1 := h.front hi
 obtain ⟨h2, h3⟩ := h1.holds (blk g T L ps) (by simp)
 have hnd := h1.nodup
 rw [keys_cons, List.nodup_append] at hnd
 exact ⟨h1.drop, h2, h3, fun hk => hnd.2.2 g (by simp [blk]) g hk rfl, h1.lt g (by rw [keys_cons]; simp [blk])⟩

/-- The array in part j, as bytes that are only read. -/
theorem CellsIn.bytes {K : List Nat} {w : World} {g : Nat} {T : TypeId} {L : List Nat} {ps : List (List Value)} (h : CellsIn K w g T L ps) (j o : Nat) {l : List UInt8} {m : Nat} (hj : ps[j]? = some (l.map bv)) (ho : (L.take j).sum = o) (hl : l.length = m) (hm : Nat.ble m 1000 = true) : Arr 1 byteR K w (some ⟨g, o, none⟩) l m := by
 have hm : m ≤ 1000 := by simpa [Nat.ble_eq] using hm
 subst hl
 refine ⟨Nat.le_refl _, by simp only [maxLen]; omega, fun e => (by cases e), fun a e _ => ?_⟩
 cases e
 refine ⟨rfl, h.out, h.lt, _, _, _, h.row, fun i x hx => ⟨[bv x], rfl, rfl, fun k v hv => ?_⟩⟩
 have hk0 : k = 0 := by have := (List.getElem?_eq_some_iff.1 hv).1; simp at this; exact this
 subst hk0
 simp at hv; subst hv
 have hi := (List.getElem?_eq_some_iff.1 hx).1
 have e := flatten_at ps j 1
 have hlen := sum_take_length ps j
 rw [h.lens, ho] at hlen
 have hjl := (List.getElem?_eq_some_iff.1 hj).1
 have h1 : (ps.drop j).take 1 = [l.map bv] := by
  rw [List.drop_eq_getElem_cons hjl, List.take_succ_cons, List.take_zero, (List.getElem?_eq_some_iff.1 hj).2]
 rw [h1] at e
 simp only [List.getElem?_toArray, cat_eq, e, Nat.mul_one, Nat.add_zero]
 rw [List.getElem?_append_right (by omega), hlen, Nat.add_sub_cancel_left, List.getElem?_append_left (by simpa using hi)]
 simp [hx]

section
variable {P : Program} {n : Nat} {Q : Exit → Act → World → Prop} {σ : Sl} {G : World → Prop} {ops : Array Oper} {rest : List Oper}
variable {d : Nat} {ty : TypeId} {pos : String} {aft : Array Edge}
variable {S : List Snap} {H : List Chunk} {s : Snap}

theorem VC.letCells {g : Nat} {T : TypeId} {L : List Nat} {ps : List (List Value)} {code : Code} (i : Nat) (hi : H[i]? = some (blk g T L ps)) (h : ∀ w1, Own S (H.eraseIdx i) w1 → CellsIn (keys (H.eraseIdx i)) w1 g T L ps → VC P n Q code σ (Own (⟨w1, keys (H.eraseIdx i)⟩ :: S) (H.eraseIdx i))) : VC P n Q code σ (Own S H) := fun a w ha hw =>
 h w (hw.letCells hi).1 (hw.letCells hi).2 a w ha (hw.letCells hi).1.keep
theorem VL.letCells {g : Nat} {T : TypeId} {L : List Nat} {ps : List (List Value)} (i : Nat) (hi : H[i]? = some (blk g T L ps)) (h : ∀ w1, Own S (H.eraseIdx i) w1 → CellsIn (keys (H.eraseIdx i)) w1 g T L ps → VL P n ops Q rest σ (Own (⟨w1, keys (H.eraseIdx i)⟩ :: S) (H.eraseIdx i))) : VL P n ops Q rest σ (Own S H) := fun a w ha hw =>
 h w (hw.letCells hi).1 (hw.letCells hi).2 a w ha (hw.letCells hi).1.keep

theorem VL.loadF {t : TypeId} {x : Operand} {g o : Nat} {v : Value} {T : TypeId} {L : List Nat} {ps : List (List Value)} (j : Nat) (hx : ev σ x = some (.pointer (some ⟨g, o, none⟩))) (ht : kindOf P t = some none)
  (hF : CellsIn s.K s.w g T L ps) (hG : ∀ w, G w → s.ok w) (hj : ps[j]? = some [v]) (ho : (L.take j).sum = o)
  (k : VL P n ops Q rest ((d, v) :: σ) G) (hdn : Nat.blt d n = true := by rfl) : VL P n ops Q (⟨some d, .load t x, ty, pos, aft, none⟩ :: rest) σ G :=
 VL.val rfl rfl hdn (fun a w ha hw => by
  have hg := hF.now (hG w hw)
  have hL := hF.lens
  have hc : w.cell? ⟨g, o, none⟩ = some v := by
   rw [cell_of_row w g o _ T (0, 0) hg]
   have e := flatten_at ps j 1
   have hlen := sum_take_length ps j
   rw [hL, ho] at hlen
   have h1 : (ps.drop j).take 1 = [[v]] := by
    have hlt := (List.getElem?_eq_some_iff.1 hj).1
    rw [List.drop_eq_getElem_cons hlt]
    simp [(List.getElem?_eq_some_iff.1 hj).2]
   rw [h1] at e
   simp only [List.getElem?_toArray, cat_eq, e]
   rw [List.getElem?_append_right (by omega), hlen]
   simp
  simp [execOp, ha.ev hx, run_load_cell ht hc]) k

/-- 'x[:]' of an array that lies in a variable. -/
theorem VL.sliceArrAt {t e : TypeId} {m g o : Nat} {x : Operand} (ht : P.underlying t = some (.array m e)) (he : ((P.info? e).map (·.size)).isSome = true) (hx : ev σ x = some (.pointer (some ⟨g, o, none⟩)))
  (h : VL P n ops Q rest ((d, .slice (some ⟨g, o, none⟩) m m) :: σ) G) (hdn : Nat.blt d n = true := by rfl) : VL P n ops Q (⟨some d, .slice t x none none none, ty, pos, aft, none⟩ :: rest) σ G :=
 VL.val rfl rfl hdn (fun a w ha _ => by
  cases hi : P.info? e with
  | none => simp [hi] at he
  | some inf => simp [execOp, ha.ev hx, Instr.sliceAt, run_underlying ht, Instr.sureAddr, Instr.sliceBounds, sizeOf, typeInfo, hi, Addr.add]) h

/-- '[]byte{x}' -/
theorem VL.litByte {t e : TypeId} {z : Value} {x : Operand} {m : Nat} (hE : Elem P t e 1 1 z) (hx : ev σ x = some (.int .u8 (m : Int))) (hm : m < 256)
  (h : ∀ g w1, Own S H w1 → Bytes (keys H) w1 (some ⟨g, 0, none⟩) (Pl.be 1 m) 1 → VL P n ops Q rest ((d, .slice (some ⟨g, 0, none⟩) (Pl.be 1 m).length 1) :: σ) (Own (⟨w1, keys H⟩ :: S) H)) (hdn : Nat.blt d n = true := by rfl) : VL P n ops Q (⟨some d, .buildSlice t 1 #[(0, x)], ty, pos, aft, none⟩ :: rest) σ (Own S H) := by
 have hp : evps σ 0 [(0, x)] = some [.int .u8 (m : Int)] := by
  simp [evps, hx]
 refine VL.lit (parts := [(0, x)]) hE (by decide) rfl hp (by intro v hv; simp at hv; subst hv; rfl) (by intro u hu; simp [Value.cells] at hu; subst hu; rfl) (fun g => ?_) hdn
 exact VL.letBytes (Pl.be 1 m) (by rw [Pl.be_length]) (by rw [byte_val hm]; simp [Pl.be]; rfl) (fun w1 h1 h2 => by have := h g w1 h1 h2; rw [Pl.be_length] at this; exact this)

/-- 'append(x, y...)' where x has no room: it is new memory, whoever owns x. -/
theorem VL.appendFull {x y : Operand} {t e : TypeId} {z : Value} {tys : Array TypeId} {p q : Option Addr} {l r : List UInt8} {cp c : Nat} (hE : Elem P t e 1 1 z) (htys : tys = #[t, t]) (hx : ev σ x = some (.slice p l.length cp)) (hy : ev σ y = some (.slice q r.length c))
  (hl : 0 < l.length) (hr : 0 < r.length) (hc : cp < l.length + r.length) (hb : l.length + r.length ≤ 100000) (hA : ∀ w, Own S H w → Bytes (keys H) w p l cp) (hB : ∀ w, Own S H w → Bytes (keys H) w q r c)
  (h : ∀ g c' w1, Own S H w1 → Bytes (keys H) w1 (some ⟨g, 0, none⟩) (l ++ r) c' → VL P n ops Q rest ((d, .slice (some ⟨g, 0, none⟩) (l ++ r).length c') :: σ) (Own (⟨w1, keys H⟩ :: S) H)) (hdn : Nat.blt d n = true := by rfl) : VL P n ops Q (⟨some d, .call ⟨.builtin .append, #[x, y], tys⟩, ty, pos, aft, none⟩ :: rest) σ (Own S H) := by
 subst htys
 refine VL.act (K := fun v w' => ∃ g c', v = .slice (some ⟨g, 0, none⟩) (l ++ r).length c' ∧ Own S (row e 1 (some g) (l.length + r.length) c' ((l ++ r).map bv) :: H) w') rfl rfl hdn (fun a w ha hw => ?_) (fun v => VL.ex fun g => VL.ex fun c' => VL.fact fun e0 => by
  subst e0
  exact VL.letBytes (l ++ r) (by rw [List.length_append]) rfl (fun w1 h1 h2 => h g c' w1 h1 h2))
 obtain ⟨inf, hi1, hi2, hi3, hi4⟩ := hE.get
 have hA' := hA w hw
 have hB' := hB w hw
 obtain ⟨b, rfl⟩ := hA'.isAt hl
 obtain ⟨b', rfl⟩ := hB'.isAt hr
 have c1 : ∀ j v, (l.map bv)[j]? = some v → w.cell? (b.add j) = some v := by
  rcases hA'.bytes with ⟨h0, _⟩ | ⟨a0, e0, h0⟩
  ·cases h0
  ·cases e0; exact h0
 have c2 : ∀ j v, (r.map bv)[j]? = some v → w.cell? (b'.add j) = some v := by
  rcases hB'.bytes with ⟨h0, _⟩ | ⟨a0, e0, h0⟩
  ·cases h0
  ·cases e0; exact h0
 have hr' := run_append_grow (P := P) w t ty e inf z hE.under hi1 hi2 b l.length cp (l.map bv) (by simp [hi3]) c1 b' r.length c (r.map bv) (by simp [hi3]) c2 hc (by omega) (growslice_fits hc (by rw [hi4]; omega))
 refine ⟨.slice (some ⟨w.heap.size, 0, none⟩) (l.length + r.length) (grownCap w (l.length + r.length) cp e), w.drew.alloc (.cells ((l.map bv).toArray ++ (r.map bv).toArray ++ Builtin.zeroCells z.cells (grownCap w (l.length + r.length) cp e - (l.length + r.length))) e), ?_, w.heap.size, grownCap w (l.length + r.length) cp e, (by rw [List.length_append]), ?_⟩
 ·simp only [execOp, resolve, invoke, builtin, Sem.run_bind, List.map_toArray, List.map_cons, List.map_nil, ha.ev hx, ha.ev hy, hr', Result.andThen_ok, Sem.run_pure]
 ·have hrow : (w.drew.alloc (.cells ((l.map bv).toArray ++ (r.map bv).toArray ++ Builtin.zeroCells z.cells (grownCap w (l.length + r.length) cp e - (l.length + r.length))) e)).ownsRow 0 e 1 (rowV (some w.heap.size) (l.length + r.length) (grownCap w (l.length + r.length) cp e)) (l.length + r.length) ((l ++ r).map bv) :=
   new_row (z := z.cells) (w := w) rfl (by simp) (by simp) hE.zsize (grownCap_ge _ _ _ _) (grownCap_le_maxLen _ _ _ _ (by simp only [maxLen]; omega))
  have hs := ownsRow_sizes hrow
  have := Own.grow (A := [row e 1 (some w.heap.size) (l.length + r.length) (grownCap w (l.length + r.length) cp e) ((l ++ r).map bv)]) (w' := w.drew.alloc (.cells ((l.map bv).toArray ++ (r.map bv).toArray ++ Builtin.zeroCells z.cells (grownCap w (l.length + r.length) cp e - (l.length + r.length))) e)) hw rfl rfl rfl (by simp) (fun k hk => Go.heap_alloc_old w.drew _ hk) (by simp [keys, row]) (fun k hk => ?_) (fun a0 ha0 => ?_)
  ·simpa using this
  ·simp [keys, row] at hk
   subst hk
   exact ⟨Nat.le_refl _, hs.2.2.2.2 _ rfl⟩
  ·rw [List.mem_singleton] at ha0; subst ha0
   exact ⟨hrow, ok1_bytes _⟩

/-- Slices of bytes, one by one. -/
def RowOf (K : List Nat) (w : World) : List Value → List (List UInt8) → Prop
  | [], [] => True
  | v :: vs, l :: ls => (∃ p c, v = .slice p l.length c ∧ Bytes K w p l c) ∧ RowOf K w vs ls
  | _, _ => False
theorem RowOf.at_ {K : List Nat} {w : World} : ∀ {vs : List Value} {ls : List (List UInt8)}, RowOf K w vs ls → ∀ j y, ls[j]? = some y → bytesR K w ((vs.drop (j * 1)).take 1) y
 | [], [], _, j, y, hj => by simp at hj
 | [], _ :: _, h, _, _, _ => h.elim
 | _ :: _, [], h, _, _, _ => h.elim
 | v :: vs, l :: ls, ⟨⟨p, c, e, hA⟩, h⟩, j, y, hj => by
  cases j with
  | zero =>
   simp at hj; subst hj
   exact ⟨p, c, by simp [e], hA⟩
  | succ j =>
   have := RowOf.at_ h j y (by simpa using hj)
   simpa using this
theorem VL.letRowS {e : TypeId} {m : Nat} {g : Option Nat} {c : Nat} {xs : List Value} (ls : List (List UInt8)) (hm : m = ls.length) (hx : ∀ w, Own S H w → RowOf (keys H) w xs ls) (h : ∀ w1, Own S H w1 → Arr 1 bytesR (keys H) w1 (g.map fun g => ⟨g, 0, none⟩) ls c → VL P n ops Q rest σ (Own (⟨w1, keys H⟩ :: S) H)) : VL P n ops Q rest σ (Own S (row e 1 g m c xs :: H)) :=
 VL.letRow bytesR ls hm (fun w hw => (hx w hw).at_) h

/-- Bytes, and how much room they have. -/
def capF {K : List Nat} (l : List UInt8) (c : Nat) : SFact K := ⟨fun v w => ∃ p, v = .slice p l.length c ∧ Arr 1 byteR K w p l c, false, fun _ _ w _ hs ⟨p, e, h⟩ => ⟨p, e, Arr.after (s := ⟨w, K⟩) h Mono.byte ⟨hs, fun _ hk => .inl hk⟩⟩⟩
/-- A text's answer, as a fact that stays. -/
def outF {K : List Nat} (o : Option (List UInt8)) : SFact K :=
  ⟨fun v w => ∃ p c, v = .tuple #[.slice p (o.getD []).length c, .bool o.isSome] ∧ Arr 1 byteR K w p (o.getD []) c, false, fun _ _ w _ hs ⟨p, c, e, h⟩ => ⟨p, c, e, Arr.after (s := ⟨w, K⟩) h Mono.byte ⟨hs, fun _ hk => .inl hk⟩⟩⟩
end
end Go.Vc

