/- The rules of the walks, continued: a region whose order is open but for its tail: there each operation waits for all ahead of it. -/
import Derived.Test.YtcfecmoagfgnaaaVcSet
namespace Go.Vc

/-- Operation i must be done ahead of operation t, by way of others. -/
def below (ops : Array Oper) : Nat → Nat → Nat → Bool
  | 0, _, _ => false
  | f + 1, t, i => match ops[t]? with
    | none => false
    | some o => waits o i || o.after.any fun e => Region.binds .any e && below ops f e.on i

/-- The operations from m on stand in order, behind all others. -/
def tailed (ops : Array Oper) (m : Nat) : Bool :=
  (List.range ops.size).all fun t => Nat.blt t m || (List.range t).all fun i => below ops ops.size t i

section
variable {P : Program} {n : Nat} {Q : Exit → Act → World → Prop} {ops : Array Oper}

theorem below_listed {listed : Array Bool} (hc : ∀ j o, ops[j]? = some o → listed.getD j false = true → ∀ e ∈ o.after, Region.binds .any e = true → listed.getD e.on false = true) :
    ∀ (f t i : Nat), below ops f t i = true → (∀ o, ops[t]? = some o → ∀ e ∈ o.after, Region.binds .any e = true → listed.getD e.on false = true) → listed.getD i false = true
  | 0, t, i, h, _ => by simp [below] at h
  | f + 1, t, i, h, ht => by
    unfold below at h
    cases ho : ops[t]? with
    | none => simp [ho] at h
    | some o =>
      simp only [ho, Bool.or_eq_true] at h
      rcases h with h | h
      · obtain ⟨e, he, hb, hon⟩ := waits_spec h
        exact hon ▸ ht o ho e he hb
      · obtain ⟨e, he, h1⟩ := Array.any_eq_true'.1 h
        rw [Bool.and_eq_true] at h1
        have hl := ht o ho e he h1.1
        exact below_listed hc f e.on i h1.2 (fun p hp e2 he2 hb2 => hc e.on p hp hl e2 he2 hb2)

theorem tailed_spec {m t i : Nat} (h : tailed ops m = true) (ht : t < ops.size) (hm : m ≤ t) (hi : i < t) : below ops ops.size t i = true := by
  have h1 := List.all_eq_true.1 h t (by simpa using ht)
  have h2 : Nat.blt t m = false := by
    cases hb : Nat.blt t m
    · rfl
    · simp [Nat.blt, Nat.ble_eq] at hb; omega
  rw [h2, Bool.false_or] at h1
  exact List.all_eq_true.1 h1 i (by simpa using hi)

theorem any_gen {K : Array Bool → Act → World → Prop}
    (hstep : ∀ i listed a w, K listed a w → i ∈ Region.ready .any ops listed → wpOp P ops Q i (fun a' w' => K (listed.setIfInBounds i true) a' w') a w)
    (hend : ∀ listed a w, K listed a w → Region.ready .any ops listed = [] → Q .normal a w) :
    ∀ (fuel : Nat) (listed : Array Bool) (a : Act) (w : World), (listed.toList.filter (fun b => !b)).length ≤ fuel → K listed a w → wpAny P .any ops Q fuel listed a w := by
  intro fuel
  induction fuel with
  | zero =>
    intro listed a w hm hI
    have hr : Region.ready .any ops listed = [] := by
      cases h : Region.ready .any ops listed with
      | nil => rfl
      | cons i r =>
        exfalso
        have hi : i ∈ Region.ready .any ops listed := by rw [h]; simp
        obtain ⟨hun, _, _, _⟩ := mem_ready.1 hi
        have hlt : i < listed.size := by
          rcases Nat.lt_or_ge i listed.size with h' | h'
          · exact h'
          · simp [Array.getElem?_eq_none h'] at hun
        have hmem : listed[i] ∈ listed.toList.filter (fun b => !b) := by
          rw [List.mem_filter]
          refine ⟨by simp, ?_⟩
          simp [hlt] at hun
          simp [hun]
        have := List.length_pos_of_mem hmem
        omega
    exact ⟨hr, hend _ _ _ hI hr⟩
  | succ fuel ih =>
    intro listed a w hm hI
    refine ⟨fun hr => hend _ _ _ hI hr, fun i hi => wpOp_mono (fun a' w' h => ih _ a' w' ?_ h) (hstep i listed a w hI hi)⟩
    obtain ⟨hun, _, _, _⟩ := mem_ready.1 hi
    have hlt : i < listed.size := by
      rcases Nat.lt_or_ge i listed.size with h' | h'
      · exact h'
      · simp [Array.getElem?_eq_none h'] at hun
    have hf : listed[i] = false := by simpa [hlt] using hun
    rw [Array.toList_setIfInBounds]
    have key : ∀ (l : List Bool) (i : Nat) (h : i < l.length), l[i] = false → ((l.set i true).filter (fun b => !b)).length + 1 = (l.filter (fun b => !b)).length := by
      intro l
      induction l with
      | nil => intro i h; simp at h
      | cons b r ihl =>
        intro i h hb
        cases i with
        | zero => simp at hb; subst hb; simp
        | succ i =>
          simp at hb h
          have := ihl i h hb
          cases b <;> simp [List.set_cons_succ] <;> omega
    have := key listed.toList i (by simpa using hlt) (by simpa using hf)
    omega

theorem listed_set {listed : Array Bool} {i j : Nat} (hi : i < listed.size) : (listed.setIfInBounds i true).getD j false = (Nat.beq j i || listed.getD j false) := by
  by_cases e : i = j
  · subst e; simp [hi]
  · rw [getD_set_ne false e]
    have : Nat.beq j i = false := by
      cases hb : Nat.beq j i
      · rfl
      · exact absurd (Nat.eq_of_beq_eq_true hb).symm e
    simp [this]

/-- The region: open up to operation m, in order behind. -/
theorem VC.anyT {id : Nat} {l : List Oper} {σ : Sl} {G : World → Prop} (J : Bool → World → Prop) (Stp : Bool → World → World → Prop) (m kk : Nat) (F : List Fact) (Is : List Ins) (outs : List (Nat × Nat)) (bas : List Nat)
    (hmix : P.follows .mixedOrders = true) (hp : plainRegion l.toArray = true) (htl : tailed l.toArray m = true) (hkm : kk < m ∨ l.length ≤ kk) (hml : m ≤ l.length) (hG : ∀ w, G w → J false w.drew) (late : Nat → Bool) (hlate : ∀ i o, l[i]? = some o → late i = true → i = kk ∨ waits o kk = true) (hst : ∀ ph i v w w', Stp ph w w' → (late i = true → ph = true) → factOf F i v w → factOf F i v w')
    (houts : outs.all (fun (d, j) => Nat.blt j m && match l[j]? with | some p => (match p.dst with | some d' => Nat.beq d d' | none => false) | none => false) = true)
    (hbas : bas.all (fun t => (l.take m).all fun p => match p.dst with | some d => !Nat.beq d t | none => true) = true)
    (hobs : Obs P n l.toArray Q J Stp kk F σ 0 Is (l.take m))
    (hend : ∀ vals : Nat → Value, VL P n l.toArray Q (l.drop m) (preSlots outs vals ++ only σ bas) (fun w => (∀ p ∈ outs, factOf F p.2 (vals p.2) w) ∧ J (Nat.blt kk m) w)) :
    VC P n Q (.region id l.toArray true) σ G := by
  intro a w ha hw
  refine wp_region_any hmix ?_
  have h0 : ∀ j, (Array.replicate l.toArray.size false).getD j false = false := by
    intro j
    rcases Nat.lt_or_ge j l.length with h | h
    · simp [h]
    · simp [h]
  -- all ahead of the tail are done: the tail
  have start : ∀ (listed : Array Bool) (a : Act) (w : World), Inv n l.toArray F J kk σ listed a w → (∀ i, listed.getD i false = true ↔ i < m) → wpList P l.toArray Q (l.drop m) a w := by
    intro listed a w hI hall
    let vals : Nat → Value := fun j => match l[j]? with
      | some p => match p.dst with
        | some d => a.tmps.getD d undef
        | none => undef
      | none => undef
    have hout : ∀ d j, (d, j) ∈ outs → j < m ∧ ∃ p, l[j]? = some p ∧ p.dst = some d := by
      intro d j hm
      have h1 := List.all_eq_true.1 houts (d, j) hm
      simp only [Bool.and_eq_true] at h1
      refine ⟨by have := h1.1; simp [Nat.blt, Nat.ble_eq] at this; omega, ?_⟩
      have h1 := h1.2
      cases hpj : l[j]? with
      | none => simp [hpj] at h1
      | some p =>
        cases hpd : p.dst with
        | none => simp [hpj, hpd] at h1
        | some d' => simp [hpj, hpd] at h1; subst h1; exact ⟨p, rfl, hpd⟩
    have hval : ∀ d j, (d, j) ∈ outs → vals j = a.tmps.getD d undef := by
      intro d j hm
      obtain ⟨_, p, h1, h2⟩ := hout d j hm
      simp only [vals, h1, h2]
    refine hend vals a w ⟨hI.dfr, hI.tsz, fun t v ht => ?_⟩ ⟨?_, ?_⟩
    · rw [look_append] at ht
      cases hl : look (preSlots outs vals) t with
      | some u =>
        simp [hl] at ht
        subst ht
        obtain ⟨j, hm, rfl⟩ := look_pre hl
        rw [hval t j hm]
      | none =>
        simp [hl] at ht
        obtain ⟨hts, hlσ⟩ := look_only ht
        refine hI.base t v hlσ fun j p hj hlj hd => ?_
        have h1 := List.all_eq_true.1 hbas t hts
        have hjm := (hall j).1 hlj
        have hjt : (l.take m)[j]? = some p := by rw [List.getElem?_take, if_pos hjm]; simpa using hj
        have h2 := List.all_eq_true.1 h1 p (List.mem_of_getElem? hjt)
        simp [hd] at h2
    · rintro ⟨d, j⟩ hm
      obtain ⟨h0, p, h1, h2⟩ := hout d j hm
      show factOf F j (vals j) w
      rw [hval d j hm]
      exact hI.fact j p d (by simpa using h1) ((hall j).2 h0) h2
    · have := hI.inv
      have e : listed.getD kk false = Nat.blt kk m := by
        by_cases hk : kk < m
        · rw [(hall kk).2 hk]; symm; simp [Nat.blt, Nat.ble_eq]; omega
        · have h1 : listed.getD kk false = false := by
            cases hb : listed.getD kk false
            · rfl
            · exact absurd ((hall kk).1 hb) hk
          rw [h1]; symm
          cases hb : Nat.blt kk m
          · rfl
          · simp [Nat.blt, Nat.ble_eq] at hb; omega
      rw [← e]; exact this
  let K : Array Bool → Act → World → Prop := fun listed a w =>
    (Inv n l.toArray F J kk σ listed a w ∧ ∀ i, m ≤ i → listed.getD i false = false) ∨
    (∃ k, m < k ∧ listed.size = l.toArray.size ∧ (∀ i, listed.getD i false = true ↔ i < k ∧ i < l.length) ∧ wpList P l.toArray Q (l.drop k) a w)
  have tstep : ∀ (k : Nat) (listed : Array Bool) (a : Act) (w : World), k < l.length → m ≤ k → listed.size = l.toArray.size → (∀ i, listed.getD i false = true ↔ i < k ∧ i < l.length) → wpList P l.toArray Q (l.drop k) a w →
      wpOp P l.toArray Q k (fun a' w' => K (listed.setIfInBounds k true) a' w') a w := by
    intro k listed a w hk hmk hsz hl hwp
    have hd : l.drop k = l[k] :: l.drop (k + 1) := List.drop_eq_getElem_cons hk
    have hnext : ∀ a' w', wpList P l.toArray Q (l.drop (k + 1)) a' w' → K (listed.setIfInBounds k true) a' w' := by
      intro a' w' h
      refine .inr ⟨k + 1, by omega, by simp [hsz], fun i => ?_, h⟩
      rw [listed_set (by rw [hsz]; simpa using hk), Bool.or_eq_true, hl i]
      constructor
      · rintro (h | h)
        · have := Nat.eq_of_beq_eq_true h; omega
        · omega
      · intro h
        by_cases e : i = k
        · left; subst e; simp
        · right; omega
    rw [hd] at hwp
    unfold wpList at hwp
    unfold wpOp
    have hk' : l.toArray[k]? = some l[k] := by simp [hk]
    rw [hk']
    simp only
    split
    · rename_i hwt
      rw [if_pos hwt] at hwp
      rcases hwp with hwp | hwp
      · exact .inl (Oper.wp_mono (fun a' w' h => hnext a' w' h) hwp)
      · exact .inr hwp
    · rename_i hwt
      rw [if_neg hwt] at hwp
      exact hnext _ _ hwp
  refine any_gen (K := K) (fun i listed a w hI hr => ?_) (fun listed a w hI hr => ?_) _ _ a _ ?_ ?_
  · obtain ⟨hun, o, ho, hall⟩ := mem_ready.1 hr
    have hil : i < l.length := by simpa using (Array.getElem?_eq_some_iff.1 ho).1
    rcases hI with ⟨hI, hnt⟩ | ⟨k, hmk, hsz, hl, hwp⟩
    · by_cases him : i < m
      · have hot : (l.take m)[i]? = some o := by rw [List.getElem?_take, if_pos him]; simpa using ho
        obtain ⟨I, hob⟩ := Obs.get Is (l.take m) 0 hobs i o hot
        rw [Nat.zero_add] at hob
        refine wpOp_mono (fun a' w' h => .inl ⟨h, fun j hj => ?_⟩) (step_inv hp (fun i o hi => hlate i o (by simpa using hi)) hst ho hob hI hr)
        rw [getD_set_ne false (by omega)]; exact hnt j hj
      · -- the tail's first
        have hb : ∀ j, j < i → listed.getD j false = true := fun j hj =>
          below_listed hI.closed _ i j (tailed_spec htl (by simpa using hil) (by omega) hj) (fun o' ho' e he hbd => by
            obtain rfl : o' = o := Option.some.inj (ho'.symm.trans ho)
            exact hall e he hbd)
        have hie : i = m := by
          rcases Nat.lt_or_ge m i with h | h
          · have h1 := hb m h
            rw [hnt m (Nat.le_refl _)] at h1; cases h1
          · omega
        subst hie
        have hiff : ∀ j, listed.getD j false = true ↔ j < i := fun j => ⟨fun h => by
          rcases Nat.lt_or_ge j i with h' | h'
          · exact h'
          · rw [hnt j h'] at h; exact absurd h (by simp), hb j⟩
        exact tstep i listed a w hil (Nat.le_refl _) hI.size (fun j => by rw [hiff]; constructor <;> intro h <;> omega) (start listed a w hI hiff)
    · have hki : i = k := by
        have h1 : listed.getD i false = false := by
          have : i < listed.size := by rw [hsz]; simpa using hil
          simp [this] at hun ⊢
          exact hun
        have hge : k ≤ i := by
          rcases Nat.lt_or_ge i k with h | h
          · have := (hl i).2 ⟨h, hil⟩
            rw [h1] at this; cases this
          · exact h
        rcases Nat.lt_or_ge k i with h | h
        · -- k must be done ahead of i
          have hcl : ∀ j o', l.toArray[j]? = some o' → listed.getD j false = true → ∀ e ∈ o'.after, Region.binds .any e = true → listed.getD e.on false = true := by
            intro j o' hj hlj e he hbd
            have hb := plain_back hp hj he hbd
            have := (hl j).1 hlj
            exact (hl e.on).2 ⟨by omega, by omega⟩
          have := below_listed hcl _ i k (tailed_spec htl (by simpa using hil) (by omega) h) (fun o' ho' e he hbd => by
            obtain rfl : o' = o := Option.some.inj (ho'.symm.trans ho)
            exact hall e he hbd)
          have := (hl k).1 this
          omega
        · omega
      subst hki
      exact tstep i listed a w hil (by omega) hsz hl hwp
  · rcases hI with ⟨hI, hnt⟩ | ⟨k, hmk, hsz, hl, hwp⟩
    · have hall := all_listed hp hI.size hr
      have hme : m = l.length := by
        rcases Nat.lt_or_ge m l.length with h | h
        · have := hall m (by simpa using h)
          rw [hnt m (Nat.le_refl _)] at this; cases this
        · omega
      have := start listed a w hI (fun j => ⟨fun h => by
        rcases Nat.lt_or_ge j m with h' | h'
        · exact h'
        · rw [hnt j h'] at h; exact absurd h (by simp), fun h => hall j (by simp; omega)⟩)
      rw [hme, List.drop_length] at this
      exact this
    · have hall := all_listed hp hsz hr
      have hk : l.length ≤ k := by
        rcases Nat.lt_or_ge k l.length with h | h
        · have := (hl k).1 (hall k (by simpa using h)); omega
        · exact h
      rw [List.drop_eq_nil_of_le hk] at hwp
      exact hwp
  · simp
  · exact .inl ⟨⟨by simp, fun j o _ hl => (by rw [h0 j] at hl; cases hl), fun j o d _ hl => (by rw [h0 j] at hl; cases hl), fun t v ht _ => ha.at_ t v ht, ha.dfr, ha.size, (by rw [h0]; exact hG w hw)⟩, fun i _ => h0 i⟩

/-- The usual case. -/
theorem VC.anyTA {id : Nat} {l : List Oper} {σ : Sl} {S : List Snap} {H : List Chunk} (m kk : Nat) (F : List (SFact (keys H))) (Is : List Ins) (outs : List (Nat × Nat)) (bas : List Nat)
    (hmix : P.follows .mixedOrders = true) (hp : plainRegion l.toArray = true) (htl : tailed l.toArray m = true) (hkm : (Nat.blt kk m || Nat.ble l.length kk) = true) (hml : Nat.ble m l.length = true)
    (hlate : (F.zipIdx.all fun (f, i) => !f.late || Nat.beq i kk || match l[i]? with | some o => waits o kk | none => true) = true)
    (houts : outs.all (fun (d, j) => Nat.blt j m && match l[j]? with | some p => (match p.dst with | some d' => Nat.beq d d' | none => false) | none => false) = true)
    (hbas : bas.all (fun t => (l.take m).all fun p => match p.dst with | some d => !Nat.beq d t | none => true) = true) (hn : decide ((outs.map (·.1)).Nodup) = true)
    (hobs : Obs P n l.toArray Q (Still S H) (Turn (keys H)) kk (F.map (·.f)) σ 0 Is (l.take m))
    (hend : ∀ w0, Still S H (Nat.blt kk m) w0 → EachV F w0 outs [] (fun τ => VL P n l.toArray Q (l.drop m) (τ ++ only σ bas) (fun w => w = w0))) :
    VC P n Q (.region id l.toArray true) σ (Own S H) :=
  VC.anyT (Still S H) (Turn (keys H)) m kk (F.map (·.f)) Is outs bas hmix hp htl (by
      rw [Bool.or_eq_true] at hkm
      rcases hkm with h | h
      · left; simp [Nat.blt, Nat.ble_eq] at h; omega
      · right; simpa [Nat.ble_eq] using h) (by simpa [Nat.ble_eq] using hml) (fun _ h => h.drew) (lateOf F) (fun i o hi hl => by
    unfold lateOf at hl
    cases hf : F[i]? with
    | none => simp [hf] at hl
    | some f =>
      simp only [hf] at hl
      have h1 := List.all_eq_true.1 hlate (f, i) (by rw [List.mem_zipIdx_iff_getElem?]; simpa using hf)
      simp only [hl, hi, Bool.not_true, Bool.false_or, Bool.or_eq_true] at h1
      rcases h1 with h1 | h1
      · exact .inl (Nat.eq_of_beq_eq_true h1)
      · exact .inr h1) (fact_stays F) houts hbas hobs (fun vals a w ha ⟨h1, h2⟩ => (hend w h2).spec outs [] _ h1 a w (ha.back (of_decide_eq_true hn)) rfl)
/-- The second chunk, a row of what reads as something, is let go. -/
theorem VL.letArr2 {rest : List Oper} {S : List Snap} {H : List Chunk} {σ : Sl} {X : Type} {R : Rel X} {hR : Mono R} {e : TypeId} {sz : Nat} {g : Option Nat} {c : Nat} {ys : List X} {c0 : Chunk} (h : ∀ w1, Own S (c0 :: H) w1 → Arr sz R (keys (c0 :: H)) w1 (g.map fun g => ⟨g, 0, none⟩) ys c → VL P n ops Q rest σ (Own (⟨w1, keys (c0 :: H)⟩ :: S) (c0 :: H))) : VL P n ops Q rest σ (Own S (c0 :: arow e sz R hR g c ys :: H)) :=
  fun a w ha hw =>
    have h1 := hw.perm (List.Perm.swap c0 _ H)
    h w h1.drop h1.letArr a w ha h1.drop.keep
/-- An array's variable is let go: a slice of it is only read from here on. -/
theorem Own.letBlk {S : List Snap} {H : List Chunk} {w : World} {g m : Nat} {T : TypeId} {l : List UInt8} (h : Own S (blk g T [m] [l.map bv] :: H) w) (hm : m ≤ maxLen) : Bytes (keys H) w (some ⟨g, 0, none⟩) l m := by
  obtain ⟨hg, hL⟩ := h.holds _ (List.mem_cons_self ..)
  have hl : l.length = m := by simpa using hL
  have hnd := h.nodup
  rw [keys_cons, List.nodup_append] at hnd
  refine ⟨by omega, hm, fun e => (by cases e), fun a ea _ => ?_⟩
  simp at ea; subst ea
  refine ⟨rfl, fun hk => hnd.2.2 g (by simp [blk]) g hk rfl, (Array.getElem?_eq_some_iff.1 hg).1, _, _, _, hg, fun j y hj => ⟨[bv y], rfl, rfl, fun i v hv => ?_⟩⟩
  have hi : i = 0 := by
    have := (List.getElem?_eq_some_iff.1 hv).1
    simpa using this
  subst hi
  simp at hv; subst hv
  simp [cat, hj]
theorem VC.letBlk {S : List Snap} {H : List Chunk} {σ : Sl} {g m : Nat} {T : TypeId} {l : List UInt8} {code : Code} (hm : m ≤ maxLen) (h : ∀ w1, Own S H w1 → Bytes (keys H) w1 (some ⟨g, 0, none⟩) l m → VC P n Q code σ (Own (⟨w1, keys H⟩ :: S) H)) : VC P n Q code σ (Own S (blk g T [m] [l.map bv] :: H)) :=
  fun a w ha hw => h w hw.drop (hw.letBlk hm) a w ha hw.drop.keep
theorem VL.backOwn {rest : List Oper} {S : List Snap} {H : List Chunk} {w0 : World} {σ : Sl} (hO : Own S H w0) (h : VL P n ops Q rest σ (Own S H)) : VL P n ops Q rest σ (fun w => w = w0) := VL.turn (fun w e => by subst e; exact hO) h
end
theorem Arr.nowK {X : Type} {sz : Nat} {R : Rel X} {S : List Snap} {H : List Chunk} {s : Snap} {K : List Nat} {w : World} {p : Option Addr} {xs : List X} {c : Nat} (h : Arr sz R s.K s.w p xs c) (hR : Mono R) (ho : Own S H w) (hs : s ∈ S) (hK : keys H = K) : Arr sz R K w p xs c := hK ▸ h.now hR ho hs
end Go.Vc
