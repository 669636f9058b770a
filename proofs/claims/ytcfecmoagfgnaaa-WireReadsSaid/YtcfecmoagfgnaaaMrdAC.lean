/- The statement WireReads is proved, for every input: part 3 of 27 of the texts that it needs. -/
import Derived.Test.YtcfecmoagfgnaaaMrdAB
/- The rules of the walks, continued: a region whose order is open. Of each operation a fact is named that holds from its end on, whatever else is done; so the order does not matter. -/
namespace Go.Vc

abbrev Fact := Value → World → Prop

def factOf (F : List Fact) (i : Nat) : Fact := (F[i]?).getD (fun _ _ => True)

/-- Operation j must be done ahead of operation o. -/
def waits (o : Oper) (j : Nat) : Bool := o.after.any fun e => Region.binds .any e && Nat.beq e.on j

/-- What the region's text is asked, once: edges lead back; no two operations write one slot. -/
def plainRegion (ops : Array Oper) : Bool :=
  ops.toList.zipIdx.all (fun (o, i) => o.after.toList.all (fun e => !Region.binds .any e || Nat.blt e.on i)) &&
  ops.toList.zipIdx.all (fun (o, i) => ops.toList.zipIdx.all (fun (p, j) => Nat.beq i j || match o.dst, p.dst with
    | some d, some d' => !Nat.beq d d'
    | _, _ => true))

/-- What operation i looks at: slots of operations ahead of it (slot, operation), slots from before. -/
structure Ins where
  pre : List (Nat × Nat)
  bas : List Nat

def insOk (ops : Array Oper) (i : Nat) (I : Ins) : Bool :=
  match ops[i]? with
  | none => true
  | some o =>
    I.pre.all (fun (d, j) => waits o j && match ops[j]? with
      | some p => match p.dst with
        | some d' => Nat.beq d d'
        | none => false
      | none => false) &&
    I.bas.all (fun t => ops.toList.zipIdx.all fun (p, j) => Nat.beq j i || waits p i || match p.dst with
      | some d => !Nat.beq d t
      | none => true)

def only (σ : Sl) (ts : List Nat) : Sl := ts.filterMap fun t => (look σ t).map fun v => (t, v)

def preSlots (pre : List (Nat × Nat)) (vals : Nat → Value) : Sl := pre.map fun (d, j) => (d, vals j)

theorem look_append (a b : Sl) (t : Nat) : look (a ++ b) t = (look a t).or (look b t) := by
 induction a with
 | nil => simp [look]
 | cons x r ih =>
  obtain ⟨k, v⟩ := x
  rw [List.cons_append, look_cons, look_cons, ih]
  split <;> simp

theorem look_mem {σ : Sl} {t : Nat} {v : Value} (h : look σ t = some v) : (t, v) ∈ σ := by
 induction σ with
 | nil => simp [look] at h
 | cons x r ih =>
  obtain ⟨k, u⟩ := x
  rw [look_cons] at h
  by_cases e : k = t
  ·subst e; simp at h; simp [h]
  ·simp [e] at h; simp [ih h]

/-- Behind operation i. -/
def Post (_n : Nat) (Q : Exit → Act → World → Prop) (J : Bool → World → Prop) (Stp : Bool → World → World → Prop) (f : Fact) (d : Option Nat) (ph ph' : Bool) (w0 : World) : Exit → Act → World → Prop
  | .normal, a, w => a.defers = [] ∧ (∃ v, (∀ t, d = some t → a.tmps.getD t undef = v) ∧ f v w) ∧ Stp ph w0 w ∧ J ph' w
  | e, a, w => Q e a w

section
variable {P : Program} {n : Nat} {Q : Exit → Act → World → Prop} {ops : Array Oper}

theorem wp_shape {o : Oper} {a : Act} {w : World} {K : Act → World → Prop} {Q' : Exit → Act → World → Prop} (hK : ∀ a' w', K a' w' → a'.defers = []) (hQ : ∀ e a w, e ≠ .normal → Q' e a w → Q e a w) (h : o.wp P a w K Q') :
  o.wp P a w (fun a' w' => (∃ v, a' = a.put o.dst v) ∧ K a' w') Q := by
 unfold Oper.wp at *
 generalize (execOp a.eval o).run P w = r at *
 cases r with
 | ok x w' =>
  cases x <;> simp only [Oper.upon] at h ⊢
  case value v => exact ⟨⟨v, rfl⟩, h⟩
  case skip => exact ⟨⟨undef, rfl⟩, h⟩
  case defer d =>
   have := hK _ _ h
   exfalso
   cases hdd : o.dst <;> simp [Act.put, hdd] at this
  case enter f args =>
   refine h.mono fun e w'' he => ?_
   cases e with
   | returned v => exact ⟨⟨v, rfl⟩, he⟩
   | panicked c => exact hQ _ _ _ (by simp) he
   | outgrown => obtain ⟨a1, w1, h1⟩ := he; exact ⟨a1, w1, hQ _ _ _ (by simp) h1⟩
  case row row args => exact h.mono fun v w'' he => ⟨⟨v, rfl⟩, he⟩
 | halt x w' =>
  cases x <;> simp only [Oper.upon] at h ⊢
  case panic v => exact hQ _ _ _ (by simp) h

/-- The state of a region under way. -/
structure Inv (n : Nat) (ops : Array Oper) (F : List Fact) (J : Bool → World → Prop) (kk : Nat) (σ : Sl) (listed : Array Bool) (a : Act) (w : World) : Prop where
  size : listed.size = ops.size
  closed : ∀ j o, ops[j]? = some o → listed.getD j false = true → ∀ e ∈ o.after, Region.binds .any e = true → listed.getD e.on false = true
  fact : ∀ j o d, ops[j]? = some o → listed.getD j false = true → o.dst = some d → factOf F j (a.tmps.getD d undef) w
  base : ∀ t v, look σ t = some v → (∀ j o, ops[j]? = some o → listed.getD j false = true → o.dst ≠ some t) → a.tmps.getD t undef = v
  dfr : a.defers = []
  tsz : a.tmps.size = n
  inv : J (listed.getD kk false) w

theorem plain_back (h : plainRegion ops = true) {i : Nat} {o : Oper} (hi : ops[i]? = some o) {e : Edge} (he : e ∈ o.after) (hb : Region.binds .any e = true) : e.on < i := by
 unfold plainRegion at h
 rw [Bool.and_eq_true] at h
 have h1 := List.all_eq_true.1 h.1 (o, i) (by rw [List.mem_zipIdx_iff_getElem?]; simpa using hi)
 have h2 := List.all_eq_true.1 h1 e (by simpa using he)
 simp [hb, Nat.blt, Nat.ble_eq] at h2
 omega

theorem plain_dst (h : plainRegion ops = true) {i j : Nat} {o p : Oper} {d : Nat} (hi : ops[i]? = some o) (hj : ops[j]? = some p) (h1 : o.dst = some d) (h2 : p.dst = some d) : i = j := by
 unfold plainRegion at h
 rw [Bool.and_eq_true] at h
 have h3 := List.all_eq_true.1 h.2 (o, i) (by rw [List.mem_zipIdx_iff_getElem?]; simpa using hi)
 have h4 := List.all_eq_true.1 h3 (p, j) (by rw [List.mem_zipIdx_iff_getElem?]; simpa using hj)
 simp [h1, h2] at h4
 exact h4

theorem waits_spec {o : Oper} {j : Nat} (h : waits o j = true) : ∃ e ∈ o.after, Region.binds .any e = true ∧ e.on = j := by
 obtain ⟨e, he, h1⟩ := Array.any_eq_true'.1 h
 simp at h1
 exact ⟨e, he, h1.1, h1.2⟩

theorem all_listed (hp : plainRegion ops = true) {listed : Array Bool} (hs : listed.size = ops.size) (hr : Region.ready .any ops listed = []) : ∀ i, i < ops.size → listed.getD i false = true := by
 intro i
 induction i using Nat.strongRecOn with
 | _ i ih =>
  intro hi
  cases hl : listed.getD i false with
  | true => rfl
  | false =>
   exfalso
   have hmem : i ∈ Region.ready .any ops listed := by
    rw [mem_ready]
    refine ⟨?_, ops[i], Array.getElem?_eq_getElem hi, fun e he hb => ?_⟩
    ·have : i < listed.size := by omega
     simp [this] at hl ⊢
     exact hl
    ·have h1 := plain_back hp (Array.getElem?_eq_getElem hi) he hb
     exact ih e.on h1 (by omega)
   rw [hr] at hmem
   cases hmem

/-- What is to be shown of operation i. -/
def Ob (P : Program) (n : Nat) (ops : Array Oper) (Q : Exit → Act → World → Prop) (J : Bool → World → Prop) (Stp : Bool → World → World → Prop) (kk : Nat) (F : List Fact) (σ : Sl) (i : Nat) (I : Ins) (o : Oper) : Prop :=
  insOk ops i I = true ∧ ∀ (ph : Bool) (w0 : World) (vals : Nat → Value), J ph w0 → (i = kk → ph = false) → (∀ p, ops[kk]? = some p → waits p i = true → ph = false) → (ops[kk]? = none → ph = false) → (waits o kk = true → ph = true) → (∀ p ∈ I.pre, factOf F p.2 (vals p.2) w0) →
    VL P n ops (Post n Q J Stp (factOf F i) o.dst ph (ph || Nat.beq i kk) w0) [o] (preSlots I.pre vals ++ only σ I.bas) (fun w => w = w0)

theorem look_only {σ : Sl} {ts : List Nat} {t : Nat} {v : Value} (h : look (only σ ts) t = some v) : t ∈ ts ∧ look σ t = some v := by
 have := look_mem h
 unfold only at this
 obtain ⟨s, hs, h1⟩ := List.mem_filterMap.1 this
 cases hl : look σ s with
 | none => simp [hl] at h1
 | some u =>
  simp [hl] at h1
  obtain ⟨rfl, rfl⟩ := h1
  exact ⟨hs, hl⟩

theorem look_pre {pre : List (Nat × Nat)} {vals : Nat → Value} {t : Nat} {v : Value} (h : look (preSlots pre vals) t = some v) : ∃ j, (t, j) ∈ pre ∧ v = vals j := by
 have := look_mem h
 unfold preSlots at this
 obtain ⟨p, hp, h1⟩ := List.mem_map.1 this
 obtain ⟨d, j⟩ := p
 simp at h1
 obtain ⟨rfl, rfl⟩ := h1
 exact ⟨j, hp, rfl⟩

theorem step_inv {J : Bool → World → Prop} {Stp : Bool → World → World → Prop} {kk : Nat} {F : List Fact} {σ : Sl} (hp : plainRegion ops = true) {late : Nat → Bool} (hlate : ∀ i o, ops[i]? = some o → late i = true → i = kk ∨ waits o kk = true) (hst : ∀ ph i v w w', Stp ph w w' → (late i = true → ph = true) → factOf F i v w → factOf F i v w')
  {i : Nat} {I : Ins} {o : Oper} (hi : ops[i]? = some o) (hob : Ob P n ops Q J Stp kk F σ i I o) {listed : Array Bool} {a : Act} {w : World} (hI : Inv n ops F J kk σ listed a w) (hr : i ∈ Region.ready .any ops listed) :
  wpOp P ops Q i (fun a' w' => Inv n ops F J kk σ (listed.setIfInBounds i true) a' w') a w := by
 obtain ⟨hun, o', ho', hall⟩ := mem_ready.1 hr
 obtain rfl : o' = o := Option.some.inj (ho'.symm.trans hi)
 obtain ⟨hok, hvl⟩ := hob
 unfold insOk at hok
 rw [hi] at hok
 simp only [Bool.and_eq_true] at hok
 have hilt : i < ops.size := (Array.getElem?_eq_some_iff.1 hi).1
 have hunf : listed.getD i false = false := by
  have : i < listed.size := by rw [hI.size]; exact hilt
  simp [this] at hun ⊢
  exact hun
 -- the operands
 let vals : Nat → Value := fun j => match ops[j]? with
  | some p => match p.dst with
   | some d => a.tmps.getD d undef
   | none => undef
  | none => undef
 have hpre : ∀ d j, (d, j) ∈ I.pre → listed.getD j false = true ∧ ∃ p, ops[j]? = some p ∧ p.dst = some d := by
  intro d j hm
  have h1 := List.all_eq_true.1 hok.1 (d, j) hm
  simp only [Bool.and_eq_true] at h1
  obtain ⟨e, he, hb, hon⟩ := waits_spec h1.1
  have h2 := h1.2
  cases hpj : ops[j]? with
  | none => simp [hpj] at h2
  | some p =>
   cases hpd : p.dst with
   | none => simp [hpj, hpd] at h2
   | some d' =>
    simp [hpj, hpd] at h2
    subst h2
    exact ⟨hon ▸ hall e he hb, p, rfl, hpd⟩
 have hval : ∀ d j, (d, j) ∈ I.pre → vals j = a.tmps.getD d undef := by
  intro d j hm
  obtain ⟨_, p, h1, h2⟩ := hpre d j hm
  simp only [vals, h1, h2]
 have hfacts : ∀ p ∈ I.pre, factOf F p.2 (vals p.2) w := by
  rintro ⟨d, j⟩ hm
  obtain ⟨h0, p, h1, h2⟩ := hpre d j hm
  show factOf F j (vals j) w
  rw [hval d j hm]
  exact hI.fact j p d h1 h0 h2
 have hagr : Agr n (preSlots I.pre vals ++ only σ I.bas) a := by
  refine ⟨hI.dfr, hI.tsz, fun t v ht => ?_⟩
  rw [look_append] at ht
  cases hl : look (preSlots I.pre vals) t with
  | some u =>
   simp [hl] at ht
   subst ht
   obtain ⟨j, hm, rfl⟩ := look_pre hl
   rw [hval t j hm]
  | none =>
   simp [hl] at ht
   obtain ⟨hts, hlσ⟩ := look_only ht
   refine hI.base t v hlσ fun j p hj hlj hd => ?_
   have h1 := List.all_eq_true.1 hok.2 t hts
   have h2 := List.all_eq_true.1 h1 (p, j) (by rw [List.mem_zipIdx_iff_getElem?]; simpa using hj)
   simp [hd] at h2
   rcases h2 with h2 | h2
   ·subst h2; rw [hunf] at hlj; cases hlj
   ·obtain ⟨e, he, hb, hon⟩ := waits_spec h2
    have := hI.closed j p hj hlj e he hb
    rw [hon, hunf] at this
    cases this
 have hph1 : i = kk → listed.getD kk false = false := fun e => e ▸ hunf
 have hph2 : ∀ p, ops[kk]? = some p → waits p i = true → listed.getD kk false = false := by
  intro p hpk hwt
  cases hl : listed.getD kk false with
  | false => rfl
  | true =>
   obtain ⟨e, he, hb, hon⟩ := waits_spec hwt
   have := hI.closed kk p hpk hl e he hb
   rw [hon, hunf] at this
   cases this
 have hph3 : waits o' kk = true → listed.getD kk false = true := by
  intro hwt
  obtain ⟨e, he, hb, hon⟩ := waits_spec hwt
  exact hon ▸ hall e he hb
 have hph4 : ops[kk]? = none → listed.getD kk false = false := by
  intro hn
  have h1 : listed.size ≤ kk := by rw [hI.size]; exact Array.getElem?_eq_none_iff.1 hn
  simp [Array.getElem?_eq_none h1]
 have hw := hvl _ w vals hI.inv hph1 hph2 hph4 hph3 hfacts a w hagr rfl
 -- what the operation leaves
 have keep : ∀ a' w', (∃ v, a' = a.put o'.dst v) → Post n Q J Stp (factOf F i) o'.dst (listed.getD kk false) (listed.getD kk false || Nat.beq i kk) w .normal a' w' → Inv n ops F J kk σ (listed.setIfInBounds i true) a' w' := by
  rintro a' w' ⟨u, rfl⟩ ⟨hd, ⟨v, hv1, hv2⟩, hs, hJ⟩
  have hset : ∀ j, (listed.setIfInBounds i true).getD j false = true → j = i ∨ listed.getD j false = true := by
   intro j hj
   by_cases e : i = j
   ·exact .inl e.symm
   ·right; rw [getD_set_ne false e] at hj; exact hj
  refine ⟨by simp [hI.size], fun j p hj hlj e he hb => ?_, fun j p d hj hlj hdd => ?_, fun t x ht hno => ?_, hd, (by cases o'.dst <;> simp [Act.put, hI.tsz]), ?_⟩
  ·rcases hset j hlj with rfl | hlj
   ·obtain rfl : o' = p := Option.some.inj (hi.symm.trans hj)
    exact getD_set_true (hall e he hb)
   ·exact getD_set_true (hI.closed j p hj hlj e he hb)
  ·by_cases e : j = i
   ·subst e
    obtain rfl : o' = p := Option.some.inj (hi.symm.trans hj)
    rw [hv1 d hdd]; exact hv2
   ·have hlj' := (hset j hlj).resolve_left e
    have hne : o'.dst ≠ some d := fun h => e (plain_dst hp hj hi hdd h)
    have : (a.put o'.dst u).tmps.getD d undef = a.tmps.getD d undef := by
     cases h : o'.dst with
     | none => rfl
     | some d' =>
      have hdn : d' ≠ d := fun hh => hne (by rw [h, hh])
      simp [Act.put, Array.getElem?_setIfInBounds_ne hdn]
    rw [this]
    refine hst _ j _ w w' hs (fun hlt => ?_) (hI.fact j p d hj hlj' hdd)
    rcases hlate j p hj hlt with h1 | h1
    ·exact h1 ▸ hlj'
    ·obtain ⟨e, he, hb, hon⟩ := waits_spec h1
     have := hI.closed j p hj hlj' e he hb
     exact hon ▸ this
  ·have h1 := hI.base t x ht (fun j p hj hlj => hno j p hj (getD_set_true hlj))
   have hne : o'.dst ≠ some t := by
    refine hno i o' hi ?_
    have : i < listed.size := by rw [hI.size]; exact hilt
    simp [this]
   rw [← h1]
   cases h : o'.dst with
   | none => rfl
   | some d' =>
    have hdn : d' ≠ t := fun hh => hne (by rw [h, hh])
    simp [Act.put, Array.getElem?_setIfInBounds_ne hdn]
  ·have : (listed.setIfInBounds i true).getD kk false = (listed.getD kk false || Nat.beq i kk) := by
    by_cases e : i = kk
    ·subst e
     have : i < listed.size := by rw [hI.size]; exact hilt
     simp [this]
    ·rw [getD_set_ne false e]
     have : Nat.beq i kk = false := by
      cases hb : Nat.beq i kk
      ·rfl
      ·exact absurd (Nat.eq_of_beq_eq_true hb) e
     simp [this]
   rw [this]; exact hJ
 have hQ : ∀ e a1 w1, e ≠ .normal → Post n Q J Stp (factOf F i) o'.dst (listed.getD kk false) (listed.getD kk false || Nat.beq i kk) w e a1 w1 → Q e a1 w1 := by
  intro e a1 w1 hne h
  cases e <;> first | exact absurd rfl hne | exact h
 unfold wpList at hw
 unfold wpOp
 rw [hi]
 simp only
 split
 ·rename_i hwt
  rw [if_pos hwt] at hw
  rcases hw with hw | ⟨h1, a1, w1, h2⟩
  ·left
   refine Oper.wp_mono (fun a' w' h => keep a' w' h.1 h.2) (wp_shape (fun a' w' h => ?_) hQ hw)
   exact h.1
  ·exact .inr ⟨h1, a1, w1, hQ _ _ _ (by simp) h2⟩
 ·rename_i hwt
  rw [if_neg hwt] at hw
  exact keep _ _ ⟨undef, rfl⟩ hw

theorem any_inv {J : Bool → World → Prop} {kk : Nat} {F : List Fact} {σ : Sl}
  (hstep : ∀ i listed a w, Inv n ops F J kk σ listed a w → i ∈ Region.ready .any ops listed → wpOp P ops Q i (fun a' w' => Inv n ops F J kk σ (listed.setIfInBounds i true) a' w') a w)
  (hend : ∀ listed a w, Inv n ops F J kk σ listed a w → Region.ready .any ops listed = [] → Q .normal a w) :
  ∀ (fuel : Nat) (listed : Array Bool) (a : Act) (w : World), (listed.toList.filter (fun b => !b)).length ≤ fuel → Inv n ops F J kk σ listed a w → wpAny P .any ops Q fuel listed a w := by
 intro fuel
 induction fuel with
 | zero =>
  intro listed a w hm hI
  have hr : Region.ready .any ops listed = [] := by
   cases h : Region.ready .any ops listed with
   | nil => rfl
   | cons i r =>
    exfalso
    have hi : i ∈ Region.ready .any ops listed := by rw [h]; simp
    obtain ⟨hun, _, _, _⟩ := mem_ready.1 hi
    have hlt : i < listed.size := by
     rcases Nat.lt_or_ge i listed.size with h' | h'
     ·exact h'
     ·simp [Array.getElem?_eq_none h'] at hun
    have hmem : listed[i] ∈ listed.toList.filter (fun b => !b) := by
     rw [List.mem_filter]
     refine ⟨by simp, ?_⟩
     simp [hlt] at hun
     simp [hun]
    have := List.length_pos_of_mem hmem
    omega
  exact ⟨hr, hend _ _ _ hI hr⟩
 | succ fuel ih =>
  intro listed a w hm hI
  refine ⟨fun hr => hend _ _ _ hI hr, fun i hi => wpOp_mono (fun a' w' h => ih _ a' w' ?_ h) (hstep i listed a w hI hi)⟩
  obtain ⟨hun, _, _, _⟩ := mem_ready.1 hi
  have hlt : i < listed.size := by
   rcases Nat.lt_or_ge i listed.size with h' | h'
   ·exact h'
   ·simp [Array.getElem?_eq_none h'] at hun
  have hf : listed[i] = false := by simpa [hlt] using hun
  rw [Array.toList_setIfInBounds]
  have key : ∀ (l : List Bool) (i : Nat) (h : i < l.length), l[i] = false → ((l.set i true).filter (fun b => !b)).length + 1 = (l.filter (fun b => !b)).length := by
   intro l
   induction l with
   | nil => intro i h; simp at h
   | cons b r ihl =>
    intro i h hb
    cases i with
    | zero => simp at hb; subst hb; simp
    | succ i =>
     simp at hb h
     have := ihl i h hb
     cases b <;> simp [List.set_cons_succ] <;> omega
  have := key listed.toList i (by simpa using hlt) (by simpa using hf)
  omega

/-- All obligations: one an operation. -/
def Obs (P : Program) (n : Nat) (ops : Array Oper) (Q : Exit → Act → World → Prop) (J : Bool → World → Prop) (Stp : Bool → World → World → Prop) (kk : Nat) (F : List Fact) (σ : Sl) : Nat → List Ins → List Oper → Prop
  | i, I :: Is, o :: os => Ob P n ops Q J Stp kk F σ i I o ∧ Obs P n ops Q J Stp kk F σ (i + 1) Is os
  | _, [], [] => True
  | _, _, _ => False

theorem Obs.cons {J : Bool → World → Prop} {Stp : Bool → World → World → Prop} {kk : Nat} {F : List Fact} {σ : Sl} {i : Nat} {I : Ins} {Is : List Ins} {o : Oper} {os : List Oper} (h : Ob P n ops Q J Stp kk F σ i I o) (k : Obs P n ops Q J Stp kk F σ (i + 1) Is os) : Obs P n ops Q J Stp kk F σ i (I :: Is) (o :: os) := ⟨h, k⟩
theorem Obs.nil {J : Bool → World → Prop} {Stp : Bool → World → World → Prop} {kk : Nat} {F : List Fact} {σ : Sl} {i : Nat} : Obs P n ops Q J Stp kk F σ i [] [] := trivial

theorem Obs.get {J : Bool → World → Prop} {Stp : Bool → World → World → Prop} {kk : Nat} {F : List Fact} {σ : Sl} : ∀ (Is : List Ins) (os : List Oper) (k : Nat), Obs P n ops Q J Stp kk F σ k Is os → ∀ i o, os[i]? = some o → ∃ I, Ob P n ops Q J Stp kk F σ (k + i) I o
 | [], [], _, _, i, o, h => by simp at h
 | [], _ :: _, _, h, _, _, _ => h.elim
 | _ :: _, [], _, h, _, _, _ => h.elim
 | I :: Is, o :: os, k, h, i, p, hi => by
  cases i with
  | zero => simp at hi; subst hi; exact ⟨I, h.1⟩
  | succ i =>
   obtain ⟨I', h'⟩ := Obs.get Is os (k + 1) h.2 i p (by simpa using hi)
   exact ⟨I', by rw [show k + (i + 1) = k + 1 + i by omega]; exact h'⟩

/-- The region. outs: slots that are wanted behind it, with their operations; bas: slots from before. -/
theorem VC.any {id : Nat} {l : List Oper} {σ : Sl} {G : World → Prop} (J : Bool → World → Prop) (Stp : Bool → World → World → Prop) (kk : Nat) (F : List Fact) (Is : List Ins) (outs : List (Nat × Nat)) (bas : List Nat)
  (hmix : P.follows .mixedOrders = true) (hp : plainRegion l.toArray = true) (hG : ∀ w, G w → J false w.drew) (late : Nat → Bool) (hlate : ∀ i o, l[i]? = some o → late i = true → i = kk ∨ waits o kk = true) (hst : ∀ ph i v w w', Stp ph w w' → (late i = true → ph = true) → factOf F i v w → factOf F i v w')
  (houts : outs.all (fun (d, j) => match l[j]? with | some p => (match p.dst with | some d' => Nat.beq d d' | none => false) | none => false) = true)
  (hbas : bas.all (fun t => l.all fun p => match p.dst with | some d => !Nat.beq d t | none => true) = true)
  (hobs : Obs P n l.toArray Q J Stp kk F σ 0 Is l)
  (hend : ∀ vals : Nat → Value, VX n Q .normal (preSlots outs vals ++ only σ bas) (fun w => (∀ p ∈ outs, factOf F p.2 (vals p.2) w) ∧ J (Nat.blt kk l.length) w)) :
  VC P n Q (.region id l.toArray true) σ G := by
 intro a w ha hw
 refine wp_region_any hmix ?_
 have h0 : ∀ j, (Array.replicate l.toArray.size false).getD j false = false := by
  intro j
  rcases Nat.lt_or_ge j l.length with h | h
  ·simp [h]
  ·simp [h]
 refine any_inv (J := J) (kk := kk) (F := F) (σ := σ) (n := n) (fun i listed a w hI hr => ?_) (fun listed a w hI hr => ?_) _ _ a _ ?_ ?_
 ·obtain ⟨_, o, ho, _⟩ := mem_ready.1 hr
  obtain ⟨I, hob⟩ := Obs.get Is l 0 hobs i o (by simpa using ho)
  rw [Nat.zero_add] at hob
  exact step_inv hp (fun i o hi => hlate i o (by simpa using hi)) hst ho hob hI hr
 ·have hall := all_listed hp hI.size hr
  let vals : Nat → Value := fun j => match l[j]? with
   | some p => match p.dst with
    | some d => a.tmps.getD d undef
    | none => undef
   | none => undef
  have hout : ∀ d j, (d, j) ∈ outs → ∃ p, l[j]? = some p ∧ p.dst = some d := by
   intro d j hm
   have h1 := List.all_eq_true.1 houts (d, j) hm
   cases hpj : l[j]? with
   | none => simp [hpj] at h1
   | some p =>
    cases hpd : p.dst with
    | none => simp [hpj, hpd] at h1
    | some d' => simp [hpj, hpd] at h1; subst h1; exact ⟨p, rfl, hpd⟩
  have hval : ∀ d j, (d, j) ∈ outs → vals j = a.tmps.getD d undef := by
   intro d j hm
   obtain ⟨p, h1, h2⟩ := hout d j hm
   simp only [vals, h1, h2]
  refine hend vals a w ⟨hI.dfr, hI.tsz, fun t v ht => ?_⟩ ⟨?_, ?_⟩
  ·rw [look_append] at ht
   cases hl : look (preSlots outs vals) t with
   | some u =>
    simp [hl] at ht
    subst ht
    obtain ⟨j, hm, rfl⟩ := look_pre hl
    rw [hval t j hm]
   | none =>
    simp [hl] at ht
    obtain ⟨hts, hlσ⟩ := look_only ht
    refine hI.base t v hlσ fun j p hj _ hd => ?_
    have h1 := List.all_eq_true.1 hbas t hts
    have h2 := List.all_eq_true.1 h1 p (List.mem_of_getElem? (by simpa using hj))
    simp [hd] at h2
  ·rintro ⟨d, j⟩ hm
   obtain ⟨p, h1, h2⟩ := hout d j hm
   show factOf F j (vals j) w
   rw [hval d j hm]
   have hj : j < l.length := (List.getElem?_eq_some_iff.1 h1).1
   exact hI.fact j p d (by simpa using h1) (hall j (by simpa using hj)) h2
  ·have := hI.inv
   by_cases hk : kk < l.length
   ·rw [hall kk (by simpa using hk)] at this
    have e : Nat.blt kk l.length = true := by simp [Nat.blt, Nat.ble_eq]; omega
    rw [e]; exact this
   ·have e : Nat.blt kk l.length = false := by
     cases hb : Nat.blt kk l.length
     ·rfl
     ·simp [Nat.blt, Nat.ble_eq] at hb; omega
    have e2 : listed.getD kk false = false := by
     have : listed.size ≤ kk := by rw [hI.size]; simpa using hk
     simp [Array.getElem?_eq_none this]
    rw [e2] at this
    rw [e]; exact this
 ·simp
 ·exact ⟨by simp, fun j o _ hl => (by rw [h0 j] at hl; cases hl), fun j o d _ hl => (by rw [h0 j] at hl; cases hl), fun t v ht _ => ha.at_ t v ht, ha.dfr, ha.size, (by rw [h0]; exact hG w hw)⟩

/-- An operation's obligation ends: its slot's value, its fact. -/
theorem VL.fin {J : Bool → World → Prop} {Stp : Bool → World → World → Prop} {f : Fact} {d : Nat} {ph ph' : Bool} {w0 : World} {σ : Sl} {G : World → Prop} {v : Value} (hv : look σ d = some v) (h : ∀ w, G w → f v w ∧ Stp ph w0 w ∧ J ph' w) :
  VL P n ops (Post n Q J Stp f (some d) ph ph' w0) [] σ G := fun a w ha hw => by
 obtain ⟨h1, h2, h3⟩ := h w hw
 exact ⟨ha.dfr, ⟨v, fun t ht => by cases ht; exact ha.at_ d v hv, h1⟩, h2, h3⟩
theorem VL.fin0 {J : Bool → World → Prop} {Stp : Bool → World → World → Prop} {f : Fact} {ph ph' : Bool} {w0 : World} {σ : Sl} {G : World → Prop} (h : ∀ w, G w → f undef w ∧ Stp ph w0 w ∧ J ph' w) :
  VL P n ops (Post n Q J Stp f none ph ph' w0) [] σ G := fun a w ha hw => by
 obtain ⟨h1, h2, h3⟩ := h w hw
 exact ⟨ha.dfr, ⟨undef, fun t ht => (by cases ht), h1⟩, h2, h3⟩

/-! The usual case: what is owned stays as it is; what is made is let go at once. -/

/-- A fact that stays where memory that nobody owns stays. -/
structure SFact (K : List Nat) where
  f : Fact
  late : Bool := false
  st : late = false → ∀ v w w', Snap.ok ⟨w, K⟩ w' → f v w → f v w'

/-- A fact that holds behind the last operation that turns the world. -/
def lateF {K : List Nat} (f : Fact) : SFact K := ⟨f, true, fun h => by cases h⟩

def eqF {K : List Nat} (x : Value) : SFact K := ⟨fun v _ => v = x, false, fun _ _ _ _ _ h => h⟩
def arrF {K : List Nat} {X : Type} (sz : Nat) (R : Rel X) (hR : Mono R) (xs : List X) : SFact K :=
  ⟨fun v w => ∃ p c, v = .slice p xs.length c ∧ Arr sz R K w p xs c, false, fun _ _ w _ hs ⟨p, c, e, h⟩ => ⟨p, c, e, Arr.after (s := ⟨w, K⟩) h hR ⟨hs, fun _ hk => .inl hk⟩⟩⟩
def bytesF {K : List Nat} (l : List UInt8) : SFact K := arrF 1 byteR Mono.byte l

/-- One value after the other, each with its fact. -/
def EachV {K : List Nat} (F : List (SFact K)) (w0 : World) : List (Nat × Nat) → Sl → (Sl → Prop) → Prop
  | [], acc, C => C acc
  | (d, j) :: r, acc, C => ∀ v, (match F[j]? with | some f => f.f v w0 | none => True) → EachV F w0 r ((d, v) :: acc) C

theorem EachV.spec {K : List Nat} {F : List (SFact K)} {w0 : World} {vals : Nat → Value} : ∀ (pre : List (Nat × Nat)) (acc : Sl) (C : Sl → Prop), EachV F w0 pre acc C → (∀ p ∈ pre, factOf (F.map (·.f)) p.2 (vals p.2) w0) → C ((preSlots pre vals).reverse ++ acc)
 | [], acc, C, h, _ => h
 | (d, j) :: r, acc, C, h, hf => by
  have h1 := hf (d, j) (by simp)
  have h2 := h (vals j) (by
   unfold factOf at h1
   rw [List.getElem?_map] at h1
   cases hj : F[j]? with
   | none => trivial
   | some f => simpa [hj] using h1)
  have := EachV.spec r _ C h2 (fun p hp => hf p (by simp [hp]))
  simpa [preSlots] using this

theorem look_reverse {τ : Sl} (hn : (τ.map (·.1)).Nodup) : ∀ t v, look τ.reverse t = some v → look τ t = some v := by
 intro t v h
 have hm := look_mem h
 rw [List.mem_reverse] at hm
 clear h
 induction τ with
 | nil => cases hm
 | cons x r ih =>
  obtain ⟨k, u⟩ := x
  rw [look_cons]
  rcases List.mem_cons.1 hm with e | hm
  ·cases e; simp
  ·have hne : k ≠ t := fun e => by
    subst e
    rw [List.map_cons, List.nodup_cons] at hn
    exact hn.1 (List.mem_map.2 ⟨(k, v), hm, rfl⟩)
   rw [if_neg hne]
   rw [List.map_cons, List.nodup_cons] at hn
   exact ih hn.2 hm

theorem Agr.back {pre : List (Nat × Nat)} {vals : Nat → Value} {τ : Sl} {a : Act} (hn : (pre.map (·.1)).Nodup) (h : Agr n (preSlots pre vals ++ τ) a) : Agr n ((preSlots pre vals).reverse ++ [] ++ τ) a :=
 ⟨h.dfr, h.size, fun t v ht => by
  refine h.at_ t v ?_
  rw [List.append_nil, look_append] at ht
  rw [look_append]
  have hnd : ((preSlots pre vals).map (·.1)).Nodup := by simpa [preSlots, Function.comp_def] using hn
  cases hl : look (preSlots pre vals).reverse t with
  | some u =>
   simp [hl] at ht
   rw [look_reverse hnd t u hl, ht]; rfl
  | none =>
   simp [hl] at ht
   have : look (preSlots pre vals) t = none := by
    cases h2 : look (preSlots pre vals) t with
    | none => rfl
    | some u =>
     have h3 : look (preSlots pre vals).reverse.reverse t = some u := by rw [List.reverse_reverse]; exact h2
     have h4 := look_reverse (τ := (preSlots pre vals).reverse) (by rw [List.map_reverse]; exact (List.reverse_perm _).nodup_iff.2 hnd) t u h3
     rw [hl] at h4; cases h4
   rw [this, ht]; rfl⟩

/-- How worlds may turn: ahead of the last operation that turns what is owned; behind it. -/
def Turn (K : List Nat) : Bool → World → World → Prop
  | false, w, w' => Snap.ok ⟨w, K⟩ w'
  | true, w, w' => w' = w
def Still (S : List Snap) (H : List Chunk) : Bool → World → Prop
  | false, w => Own S H w
  | true, w => ∀ s ∈ S, s.ok w
theorem Still.ok {S : List Snap} {H : List Chunk} {ph : Bool} {w : World} (h : Still S H ph w) {s : Snap} (hs : s ∈ S) : s.ok w := by
 cases ph with
 | false => exact (Own.snap h s hs).1
 | true => exact h s hs

theorem Snap.ok_refl (w : World) (K : List Nat) : Snap.ok ⟨w, K⟩ w := ⟨rfl, rfl, rfl, Nat.le_refl _, fun _ _ _ => rfl⟩
theorem Turn.rfl_ {K : List Nat} {ph : Bool} {w : World} : Turn K ph w w := by cases ph <;> first | exact Snap.ok_refl _ _ | exact rfl

/-- One operation's obligation: an operation that leaves the world alone. -/
theorem obS {S : List Snap} {H : List Chunk} {kk : Nat} {F : List (SFact (keys H))} {σ : Sl} {i : Nat} {I : Ins} {o : Oper} (hok : insOk ops i I = true) (hn : decide ((I.pre.map (·.1)).Nodup) = true) (hk : Nat.beq i kk = false)
  (h : ∀ ph w0, Still S H ph w0 → EachV F w0 I.pre [] (fun τ => VL P n ops (Post n Q (Still S H) (Turn (keys H)) (factOf (F.map (·.f)) i) o.dst ph ph w0) [o] (τ ++ only σ I.bas) (fun w => w = w0))) :
  Ob P n ops Q (Still S H) (Turn (keys H)) kk (F.map (·.f)) σ i I o :=
 ⟨hok, fun ph w0 vals hJ _ _ _ _ hF => by
  have h1 := EachV.spec I.pre [] _ (h ph w0 hJ) hF
  intro a w ha hw
  have h2 := h1 a w (ha.back (of_decide_eq_true hn)) hw
  have e : (ph || Nat.beq i kk) = ph := by rw [hk, Bool.or_false]
  rw [e]
  exact h2⟩

/-- One that comes ahead of the last that turns what is owned (or there is none such). -/
theorem ob {S : List Snap} {H : List Chunk} {kk : Nat} {F : List (SFact (keys H))} {σ : Sl} {i : Nat} {I : Ins} {o : Oper} (hok : insOk ops i I = true) (hn : decide ((I.pre.map (·.1)).Nodup) = true)
  (hk : (match ops[kk]? with | none => false | some p => !waits p i) = false) (hki : Nat.beq i kk = false)
  (h : ∀ w0, Own S H w0 → EachV F w0 I.pre [] (fun τ => VL P n ops (Post n Q (Still S H) (Turn (keys H)) (factOf (F.map (·.f)) i) o.dst false false w0) [o] (τ ++ only σ I.bas) (fun w => w = w0))) :
  Ob P n ops Q (Still S H) (Turn (keys H)) kk (F.map (·.f)) σ i I o :=
 ⟨hok, fun ph w0 vals hJ _ h2 h3 _ hF => by
  have hp : ph = false := by
   cases hkk : ops[kk]? with
   | none => exact h3 hkk
   | some p => rw [hkk] at hk; exact h2 p hkk (by simpa using hk)
  subst hp
  have h1 := EachV.spec I.pre [] _ (h w0 hJ) hF
  intro a w ha hw
  have h2 := h1 a w (ha.back (of_decide_eq_true hn)) hw
  rw [hki]
  exact h2⟩

/-- The last that turns what is owned. -/
theorem obK {S : List Snap} {H : List Chunk} {kk : Nat} {F : List (SFact (keys H))} {σ : Sl} {I : Ins} {o : Oper} (hok : insOk ops kk I = true) (hn : decide ((I.pre.map (·.1)).Nodup) = true)
  (h : ∀ w0, Own S H w0 → EachV F w0 I.pre [] (fun τ => VL P n ops (Post n Q (Still S H) (Turn (keys H)) (factOf (F.map (·.f)) kk) o.dst false true w0) [o] (τ ++ only σ I.bas) (fun w => w = w0))) :
  Ob P n ops Q (Still S H) (Turn (keys H)) kk (F.map (·.f)) σ kk I o :=
 ⟨hok, fun ph w0 vals hJ h1 _ _ _ hF => by
  have hp : ph = false := h1 rfl
  subst hp
  have h1 := EachV.spec I.pre [] _ (h w0 hJ) hF
  intro a w ha hw
  have h2 := h1 a w (ha.back (of_decide_eq_true hn)) hw
  rw [Nat.beq_refl]
  exact h2⟩

theorem Own.drew {S : List Snap} {H : List Chunk} {w : World} (h : Own S H w) : Own S H w.drew := by
 have hk : Snap.ok ⟨w, keys H⟩ w.drew := ⟨rfl, rfl, rfl, Nat.le_refl _, fun _ _ _ => rfl⟩
 refine ⟨h.nodup, h.lt, fun c hc => c.loc (keys H) (keys H) w _ (fun _ _ => rfl) hk (fun _ hk => .inl hk) (h.holds c hc), fun s hs => ?_⟩
 obtain ⟨h1, h2⟩ := h.snap s hs
 exact ⟨⟨h1.os, h1.tape, h1.output, h1.size, h1.block⟩, h2⟩

def lateOf {K : List Nat} (F : List (SFact K)) (i : Nat) : Bool := match F[i]? with
  | some f => f.late
  | none => false

theorem fact_stays {K : List Nat} (F : List (SFact K)) : ∀ ph i v w w', Turn K ph w w' → (lateOf F i = true → ph = true) → factOf (F.map (·.f)) i v w → factOf (F.map (·.f)) i v w' := by
 intro ph i v w w' hs hl h
 cases ph with
 | true => have : w' = w := hs; subst this; exact h
 | false =>
  unfold factOf at h ⊢
  rw [List.getElem?_map] at h ⊢
  cases hf : F[i]? with
  | none => trivial
  | some f =>
   simp [hf, lateOf] at h hl ⊢
   exact f.st hl v w w' hs h

/-- A region whose order is open. kk: the last operation that turns what is owned (a number beyond the region's: there is none). -/
theorem VC.anyA {id : Nat} {l : List Oper} {σ : Sl} {S : List Snap} {H : List Chunk} (kk : Nat) (F : List (SFact (keys H))) (Is : List Ins) (outs : List (Nat × Nat)) (bas : List Nat)
  (hmix : P.follows .mixedOrders = true) (hp : plainRegion l.toArray = true)
  (hlate : (F.zipIdx.all fun (f, i) => !f.late || Nat.beq i kk || match l[i]? with | some o => waits o kk | none => true) = true)
  (houts : outs.all (fun (d, j) => match l[j]? with | some p => (match p.dst with | some d' => Nat.beq d d' | none => false) | none => false) = true)
  (hbas : bas.all (fun t => l.all fun p => match p.dst with | some d => !Nat.beq d t | none => true) = true) (hn : decide ((outs.map (·.1)).Nodup) = true)
  (hobs : Obs P n l.toArray Q (Still S H) (Turn (keys H)) kk (F.map (·.f)) σ 0 Is l)
  (hend : ∀ w0, Still S H (Nat.blt kk l.length) w0 → EachV F w0 outs [] (fun τ => VX n Q .normal (τ ++ only σ bas) (fun w => w = w0))) :
  VC P n Q (.region id l.toArray true) σ (Own S H) :=
 VC.any (Still S H) (Turn (keys H)) kk (F.map (·.f)) Is outs bas hmix hp (fun _ h => h.drew) (lateOf F) (fun i o hi hl => by
  unfold lateOf at hl
  cases hf : F[i]? with
  | none => simp [hf] at hl
  | some f =>
   simp only [hf] at hl
   have h1 := List.all_eq_true.1 hlate (f, i) (by rw [List.mem_zipIdx_iff_getElem?]; simpa using hf)
   simp only [hl, hi, Bool.not_true, Bool.false_or, Bool.or_eq_true] at h1
   rcases h1 with h1 | h1
   ·exact .inl (Nat.eq_of_beq_eq_true h1)
   ·exact .inr h1) (fact_stays F) houts hbas hobs (fun vals a w ha ⟨h1, h2⟩ => (hend w h2).spec outs [] _ h1 a w (ha.back (of_decide_eq_true hn)) rfl)

/-- It left the world alone. -/
theorem VL.finS {S : List Snap} {H : List Chunk} {f : Fact} {d : Nat} {ph : Bool} {w0 : World} {σ : Sl} {v : Value} (hO : Still S H ph w0) (hv : look σ d = some v) (h : f v w0) :
  VL P n ops (Post n Q (Still S H) (Turn (keys H)) f (some d) ph ph w0) [] σ (fun w => w = w0) :=
 VL.fin hv fun w e => by subst e; exact ⟨h, Turn.rfl_, hO⟩
/-- It made memory. -/
theorem VL.finO {S : List Snap} {H : List Chunk} {f : Fact} {d : Nat} {w0 : World} {σ : Sl} {v : Value} (hv : look σ d = some v) {G : World → Prop} (hG : ∀ w, G w → Own (⟨w0, keys H⟩ :: S) H w) (h : ∀ w, G w → f v w) :
  VL P n ops (Post n Q (Still S H) (Turn (keys H)) f (some d) false false w0) [] σ G :=
 VL.fin hv fun w hw => ⟨h w hw, ((hG w hw).after (List.mem_cons_self ..)).1, (hG w hw).lose⟩
/-- It was the last to turn what is owned. -/
theorem VL.finK {S : List Snap} {H H' : List Chunk} {f : Fact} {d : Nat} {w0 : World} {σ : Sl} {v : Value} (hv : look σ d = some v) {G : World → Prop} (hG : ∀ w, G w → Own (⟨w0, keys H⟩ :: S) H' w) (h : ∀ w, G w → f v w) :
  VL P n ops (Post n Q (Still S H) (Turn (keys H)) f (some d) false true w0) [] σ G :=
 VL.fin hv fun w hw => ⟨h w hw, ((hG w hw).after (List.mem_cons_self ..)).1, fun s hs => ((hG w hw).snap s (List.mem_cons_of_mem _ hs)).1⟩
/-- To what is owned, and the world as it is now. -/
theorem VL.toOwn {S : List Snap} {H : List Chunk} {l : List Oper} {w0 : World} {σ : Sl} (hO : Own S H w0) (h : VL P n ops Q l σ (Own (⟨w0, keys H⟩ :: S) H)) : VL P n ops Q l σ (fun w => w = w0) := VL.turn (fun w e => by subst e; exact hO.keep) h
theorem VX.toOwn {S : List Snap} {H : List Chunk} {w0 : World} {σ : Sl} {e : Exit} (hO : Own S H w0) (h : VX n Q e σ (Own (⟨w0, keys H⟩ :: S) H)) : VX n Q e σ (fun w => w = w0) := VX.turn (fun w e => by subst e; exact hO.keep) h
end
end Go.Vc

/- The rules of the walks, continued: a row that the call itself makes, whose elements read as something (slices, structs with slices in them). -/
namespace Go.Vc

/-- Part j of a row of cells. -/
def part (sz : Nat) (xs : List Value) (j : Nat) : List Value := (xs.drop (j * sz)).take sz

def arow {X : Type} (e : TypeId) (sz : Nat) (R : Rel X) (hR : Mono R) (g : Option Nat) (c : Nat) (ys : List X) : Chunk :=
  ⟨g.toList, fun K w => ∃ xs, (row e sz g ys.length c xs).φ K w ∧ ∀ j y, ys[j]? = some y → R K w (part sz xs j) y, fun K K' w w' h hs hK ⟨xs, h1, h2⟩ => ⟨xs, (row e sz g ys.length c xs).loc K K' w w' h hs hK h1, fun j y hj => hR ⟨w, K⟩ K' w' _ y ⟨hs, hK⟩ (h2 j y hj)⟩⟩

/-- A chunk at place i gives way to another one, whatever is owned then. -/
theorem Own.setK {S : List Snap} {H H' : List Chunk} {w w' : World} {i : Nat} {c c' : Chunk} (h : Own S H w) (hi : H[i]? = some c) (hos : w'.os = w.os) (htape : w'.tape = w.tape) (hout : w'.output = w.output)
  (hsz : w.heap.size ≤ w'.heap.size) (hb : ∀ k, k < w.heap.size → k ∉ c.ks → w'.heap[k]? = w.heap[k]?)
  (hn : c'.ks.Nodup) (hA : ∀ k ∈ c'.ks, (k ∈ c.ks ∨ w.heap.size ≤ k) ∧ k < w'.heap.size) (hφ : ∀ K', After ⟨w, keys H⟩ K' w' → c'.φ K' w') (hH : H.set i c' = H') : Own S H' w' := by
 have hlt := (List.getElem?_eq_some_iff.1 hi).1
 have hp := perm_at hi
 have h1 := h.perm hp.symm
 have hk : (keys H).Perm (keys (c :: H.eraseIdx i)) := List.Perm.flatMap_right _ hp
 have := Own.step (A := [c']) (w' := w') h1 hos htape hout hsz hb (by simpa [keys] using hn) (by simpa [keys] using hA) (by
  intro a ha; simp at ha; subst ha
  refine hφ _ ⟨⟨hos, htape, hout, hsz, fun k hk1 hk2 => hb k hk1 (fun hc => hk2 (hk.mem_iff.2 (by rw [keys_cons]; simp [hc])))⟩, fun k hk1 => ?_⟩
  show k ∈ keys H ∨ w.heap.size ≤ k
  rw [List.singleton_append, keys_cons, List.mem_append] at hk1
  rcases hk1 with hk1 | hk1
  ·rcases (hA k hk1).1 with h2 | h2
   ·exact .inl (hk.mem_iff.2 (by rw [keys_cons]; simp [h2]))
   ·exact .inr h2
  ·exact .inl (hk.mem_iff.2 (by rw [keys_cons]; simp [hk1])))
 rw [← hH]
 exact Own.perm this (perm_set _ _ _ hlt)

/-- A row of cells that read as something. -/
theorem Own.asArr {S : List Snap} {H : List Chunk} {w : World} {X : Type} {R : Rel X} (hR : Mono R) {e : TypeId} {sz : Nat} {g : Option Nat} {m c : Nat} {xs : List Value} {ys : List X} (h : Own S (row e sz g m c xs :: H) w) (hm : m = ys.length)
  (hx : ∀ j y, ys[j]? = some y → R (keys (row e sz g m c xs :: H)) w (part sz xs j) y) : Own S (arow e sz R hR g c ys :: H) w := by
 subst hm
 have hh := h.holds (row e sz g ys.length c xs) (by simp)
 refine h.setK (i := 0) (c := row e sz g ys.length c xs) (c' := arow e sz R hR g c ys) rfl rfl rfl rfl (Nat.le_refl _) (fun _ _ _ => rfl) (by cases g <;> simp [arow]) (fun k hk => ⟨.inl hk, h.lt k (by rw [keys_cons]; simp [row]; left; simpa [arow] using hk)⟩) (fun K' ha => ?_) rfl
 exact ⟨xs, (row e sz g ys.length c xs).loc _ K' w w (fun _ _ => rfl) ha.1 ha.2 hh, fun j y hj => hR _ K' w _ y ha (hx j y hj)⟩

theorem Own.arow_nil {S : List Snap} {H : List Chunk} {w : World} {X : Type} {R : Rel X} (hR : Mono R) (e : TypeId) (sz : Nat) (h : Own S H w) : Own S (arow e sz R hR none 0 ([] : List X) :: H) w :=
 (h.row_nil e sz).asArr hR rfl (fun j y hj => by simp at hj)

/-- Let go: it is a slice that is only read. -/
theorem Own.letArr {S : List Snap} {H : List Chunk} {w : World} {X : Type} {R : Rel X} {hR : Mono R} {e : TypeId} {sz : Nat} {g : Option Nat} {c : Nat} {ys : List X} (h : Own S (arow e sz R hR g c ys :: H) w) : Arr sz R (keys H) w (g.map fun g => ⟨g, 0, none⟩) ys c := by
 obtain ⟨xs, h1, h2⟩ := h.holds (arow e sz R hR g c ys) (by simp)
 have h3 : Own S (row e sz g ys.length c xs :: H) w := by
  refine h.setK (i := 0) (c := arow e sz R hR g c ys) (c' := row e sz g ys.length c xs) rfl rfl rfl rfl (Nat.le_refl _) (fun _ _ _ => rfl) (by cases g <;> simp [row]) (fun k hk => ⟨.inl hk, h.lt k (by rw [keys_cons]; simp [arow]; left; simpa [row] using hk)⟩) (fun K' ha => (row e sz g ys.length c xs).loc _ K' w w (fun _ _ => rfl) ha.1 ha.2 h1) rfl
 refine h3.letGo rfl (fun j y hj => hR ⟨w, keys (arow e sz R hR g c ys :: H)⟩ (keys H) w _ y ⟨⟨rfl, rfl, rfl, Nat.le_refl _, fun _ _ _ => rfl⟩, fun k hk => .inl (by show k ∈ keys (_ :: _); rw [keys_cons]; simp [hk])⟩ (h2 j y hj))

/-- Two slices in one. -/
theorem Arr.cells {X : Type} {sz : Nat} {R : Rel X} {K : List Nat} {w : World} {p : Option Addr} {xs : List X} {c : Nat} (h : Arr sz R K w p xs c) : ∃ news, CellsAt w p news ∧ news.length = xs.length * sz ∧ (∀ j y, xs[j]? = some y → R K w (part sz news j) y) ∧ ∀ v ∈ news, ∃ y ∈ xs, ∃ vs, v ∈ vs ∧ R K w vs y := by
 cases p with
 | none =>
  have h1 := h.nil rfl
  have h2 := h.le
  have e : xs = [] := List.eq_nil_of_length_eq_zero (by omega)
  subst e
  exact ⟨[], .inl ⟨rfl, rfl⟩, by simp, by simp, by simp⟩
 | some a =>
  rcases Nat.eq_zero_or_pos c with hc0 | hc0
  ·have h2 := h.le
   have e : xs = [] := List.eq_nil_of_length_eq_zero (by omega)
   subst e
   exact ⟨[], .inr ⟨a, rfl, by simp⟩, by simp, by simp, by simp⟩
  obtain ⟨h1, h2, h3, cs, el, fr, hg, hx⟩ := h.at_ a rfl hc0
  -- the elements' cells
  have key : ∀ m, m ≤ xs.length → ∃ news : List Value, news.length = m * sz ∧ (∀ i v, news[i]? = some v → cs[a.off + i]? = some v) ∧ (∀ j y, j < m → xs[j]? = some y → R K w (part sz news j) y) ∧ ∀ v ∈ news, ∃ y ∈ xs, ∃ vs, v ∈ vs ∧ R K w vs y := by
   intro m
   induction m with
   | zero => intro _; exact ⟨[], by simp, by simp, by intro j y hj; omega, by simp⟩
   | succ m ih =>
    intro hm
    obtain ⟨news, e1, e2, e3, e4⟩ := ih (by omega)
    have hlt : m < xs.length := by omega
    obtain ⟨vs, f1, f2, f3⟩ := hx m xs[m] (List.getElem?_eq_getElem hlt)
    refine ⟨news ++ vs, by rw [List.length_append, e1, f1, Nat.add_mul, Nat.one_mul], fun i v hv => ?_, fun j y hj hy => ?_, fun v hv => ?_⟩
    ·rw [List.getElem?_append] at hv
     split at hv
     ·exact e2 i v hv
     ·rename_i hi
      have := f3 _ v hv
      rw [← this]
      congr 1
      omega
    ·by_cases hjm : j = m
     ·subst hjm
      have : y = xs[j] := by
       have := (List.getElem?_eq_some_iff.1 hy).2
       exact this.symm
      subst this
      have : part sz (news ++ vs) j = vs := by
       unfold part
       rw [← e1, List.drop_left]
       rw [← f1, List.take_length]
      rw [this]; exact f2
     ·have hj' : j < m := by omega
      have : part sz (news ++ vs) j = part sz news j := by
       unfold part
       have hle : (j + 1) * sz ≤ m * sz := Nat.mul_le_mul_right _ (by omega)
       rw [Nat.add_mul, Nat.one_mul] at hle
       rw [List.drop_append_of_le_length (by omega), List.take_append_of_le_length (by simp; omega)]
      rw [this]; exact e3 j y hj' hy
    ·rw [List.mem_append] at hv
     rcases hv with hv | hv
     ·exact e4 v hv
     ·exact ⟨_, List.getElem_mem hlt, vs, hv, f2⟩
  obtain ⟨news, e1, e2, e3, e4⟩ := key xs.length (Nat.le_refl _)
  refine ⟨news, .inr ⟨a, rfl, fun j u hu => ?_⟩, e1, fun j y hj => e3 j y (List.getElem?_eq_some_iff.1 hj).1 hj, e4⟩
  have ha : a.add j = ⟨a.block, a.off + j, none⟩ := by
   obtain ⟨ab, ao, asp⟩ := a
   simp at h1; subst h1
   exact add_lit _ _ _
  rw [ha]
  simp only [World.cell?, hg]
  simpa using e2 j u hu

theorem ok1_slices {K : List Nat} {w : World} {vs : List Value} {X : Type} {sz : Nat} {R : Rel X} {y : List X} (h : RV sz R K w vs y) : ok1 vs := by
 obtain ⟨p, c, rfl, _⟩ := h
 intro v hv
 simp at hv; subst hv; rfl

theorem Own.letOne {S : List Snap} {H : List Chunk} {w : World} {X : Type} {R : Rel X} {e : TypeId} {g : Option Nat} {c : Nat} {v : Value} {y : X} (h : Own S (row e 1 g 1 c [v] :: H) w) (hv : R (keys H) w [v] y) : Arr 1 R (keys H) w (g.map fun g => ⟨g, 0, none⟩) [y] c :=
 h.letGo rfl (fun j z hj => by
  have hj0 : j = 0 := by have := (List.getElem?_eq_some_iff.1 hj).1; simp at this; exact this
  subst hj0
  simp at hj; subst hj; exact hv)

theorem Arr.none {X : Type} {sz : Nat} {R : Rel X} {K : List Nat} {w : World} : Arr sz R K w none ([] : List X) 0 := ⟨by simp, by simp [maxLen], fun _ => rfl, by simp⟩

section
variable {P : Program} {n : Nat} {Q : Exit → Act → World → Prop} {σ : Sl} {G : World → Prop} {ops : Array Oper} {rest : List Oper}
variable {d : Nat} {ty : TypeId} {pos : String} {aft : Array Edge}
variable {S : List Snap} {H H' : List Chunk}
variable {X : Type} {R : Rel X} {hR : Mono R}

/-- 'out = append(out, x...)' -/
theorem VL.appends {x y : Operand} {t e : TypeId} {sz by_ : Nat} {z : Value} {tys : Array TypeId} {g : Option Nat} {c cap : Nat} {ys zs : List X} {p : Option Addr} (i : Nat) (hE : Elem P t e sz by_ z) (htys : tys = #[t, t])
  (hx : ev σ x = some (rowV g ys.length c)) (hy : ev σ y = some (.slice p zs.length cap)) (hG : ∀ w, G w → Own S H w) (hi : H[i]? = some (arow e sz R hR g c ys)) (hA : ∀ w, G w → Arr sz R (keys H) w p zs cap) (h1 : ∀ K w vs y, R K w vs y → ok1 vs) (hb : (ys.length + zs.length) * by_ ≤ 140737488355328)
  (h : ∀ g' c', VL P n ops Q rest ((d, rowV g' (ys ++ zs).length c') :: σ) (Own S (H.set i (arow e sz R hR g' c' (ys ++ zs))))) (hm : ys.length + zs.length ≤ 9223372036854775807 := by omega) (hdn : Nat.blt d n = true := by rfl) : VL P n ops Q (⟨some d, .call ⟨.builtin .append, #[x, y], tys⟩, ty, pos, aft, none⟩ :: rest) σ G := by
 subst htys
 refine VL.act (K := fun v w' => ∃ g' c', v = rowV g' (ys ++ zs).length c' ∧ Own S (H.set i (arow e sz R hR g' c' (ys ++ zs))) w') rfl rfl hdn (fun a w ha hg0 => ?_) (fun v => VL.ex fun g' => VL.ex fun c' => VL.fact fun e => by subst e; exact h g' c')
 have hw := hG w hg0
 obtain ⟨inf, hi1, hi2, hi3, hi4⟩ := hE.get
 obtain ⟨xs, ⟨hrow, hok⟩, hxs⟩ := hw.holds _ (List.mem_of_getElem? hi)
 obtain ⟨news, hc, hl, hns, hn1⟩ := (hA w hg0).cells
 have hok2 : ok1 news := fun v hv => by
  obtain ⟨y, _, vs, hvs, hr⟩ := hn1 v hv
  exact h1 _ _ _ _ hr v hvs
 have hs := ownsRow_sizes hrow
 obtain ⟨g', c', w', hr, ho, hg, hgg⟩ := run_append_cells (P := P) (ty := ty) hE.under hi1 hi2 hi3 hE.zsize hE.pos hrow hc (k := zs.length) (cap := cap) hl hok2 (by rw [hi4]; exact hb) (by simp only [maxLen]; omega)
 refine ⟨_, w', ?_, g', c', rfl, ?_⟩
 ·simp [execOp, resolve, invoke, builtin, ha.ev hx, ha.ev hy, hr]
 ·refine hw.setK (c' := arow e sz R hR g' c' (ys ++ zs)) hi hg.os hg.tape hg.output hg.size (fun q hq hqk => hg.block q hq (fun e => hqk ?_)) ?_ ?_ (fun K' haf => ⟨xs ++ news, ⟨by rw [List.length_append]; exact ho, ?_⟩, fun j y hj => ?_⟩) rfl
  ·simp [arow, ← e]
  ·cases g' <;> simp [arow]
  ·intro q hq
   have hs' := ownsRow_sizes ho
   have : g' = some q := by simpa [arow] using hq
   refine ⟨?_, hs'.2.2.2.2 q this⟩
   rcases hgg with h2 | h2
   ·left; rw [h2] at this; simp [arow, this]
   ·right; rw [h2] at this; simp at this; omega
  ·intro v hv
   rw [List.mem_append] at hv
   exact hv.elim (hok v) (hok2 v)
  ·refine hR _ K' w' _ y haf ?_
   rw [List.getElem?_append] at hj
   split at hj
   ·rename_i hlt
    have hle : (j + 1) * sz ≤ ys.length * sz := Nat.mul_le_mul_right _ (by omega)
    rw [Nat.add_mul, Nat.one_mul] at hle
    have : part sz (xs ++ news) j = part sz xs j := by
     unfold part
     have := hs.1
     rw [List.drop_append_of_le_length (by omega), List.take_append_of_le_length (by simp; omega)]
    rw [this]; exact hxs j y hj
   ·rename_i hge
    have : part sz (xs ++ news) j = part sz news (j - ys.length) := by
     unfold part
     have h3 := hs.1
     have hle : ys.length * sz ≤ j * sz := Nat.mul_le_mul_right _ (by omega)
     rw [List.drop_append, List.drop_eq_nil_of_le (by omega), List.nil_append, h3, Nat.sub_mul]
    rw [this]; exact hns _ y hj

/-- Let go in the midst of a walk: what was a row is now a fact of the world as it is there. -/
theorem VC.letBytes {e : TypeId} {g : Option Nat} {m c : Nat} {xs : List Value} {code : Code} (l : List UInt8) (hm : m = l.length) (hx : xs = l.map bv) (h : ∀ w1, Own S H w1 → Bytes (keys H) w1 (g.map fun g => ⟨g, 0, none⟩) l c → VC P n Q code σ (Own (⟨w1, keys H⟩ :: S) H)) : VC P n Q code σ (Own S (row e 1 g m c xs :: H)) :=
 fun a w ha hw => h w hw.drop (hw.letBytes hm hx) a w ha hw.drop.keep
theorem VL.letBytes {e : TypeId} {g : Option Nat} {m c : Nat} {xs : List Value} (l : List UInt8) (hm : m = l.length) (hx : xs = l.map bv) (h : ∀ w1, Own S H w1 → Bytes (keys H) w1 (g.map fun g => ⟨g, 0, none⟩) l c → VL P n ops Q rest σ (Own (⟨w1, keys H⟩ :: S) H)) : VL P n ops Q rest σ (Own S (row e 1 g m c xs :: H)) :=
 fun a w ha hw => h w hw.drop (hw.letBytes hm hx) a w ha hw.drop.keep
theorem VL.letOne {e : TypeId} {g : Option Nat} {c : Nat} (v : Value) {y : X} (hv : ∀ w, Own S H w → R (keys H) w [v] y) (h : ∀ w1, Own S H w1 → Arr 1 R (keys H) w1 (g.map fun g => ⟨g, 0, none⟩) [y] c → VL P n ops Q rest σ (Own (⟨w1, keys H⟩ :: S) H)) : VL P n ops Q rest σ (Own S (row e 1 g 1 c [v] :: H)) :=
 fun a w ha hw => h w hw.drop (hw.letOne (hv w hw.drop)) a w ha hw.drop.keep

theorem VL.letRow {e : TypeId} {sz m : Nat} {g : Option Nat} {c : Nat} {xs : List Value} (R : Rel X) (ys : List X) (hm : m = ys.length) (hx : ∀ w, Own S H w → ∀ j y, ys[j]? = some y → R (keys H) w ((xs.drop (j * sz)).take sz) y) (h : ∀ w1, Own S H w1 → Arr sz R (keys H) w1 (g.map fun g => ⟨g, 0, none⟩) ys c → VL P n ops Q rest σ (Own (⟨w1, keys H⟩ :: S) H)) : VL P n ops Q rest σ (Own S (row e sz g m c xs :: H)) :=
 fun a w ha hw => h w hw.drop (hw.letGo hm (hx w hw.drop)) a w ha hw.drop.keep

theorem VX.backOwn {w0 : World} {e : Exit} (hO : Own S H w0) (h : VX n Q e σ (Own S H)) : VX n Q e σ (fun w => w = w0) := VX.turn (fun w e => by subst e; exact hO) h

/-- A fact of a world as it was: a slice. -/
def arrS {K : List Nat} (s : Snap) {X : Type} (sz : Nat) (R : Rel X) (xs : List X) : SFact K := ⟨fun v _ => ∃ p c, v = .slice p xs.length c ∧ Arr sz R s.K s.w p xs c, false, fun _ _ _ _ _ h => h⟩

/-- 'x[a:]', 'x[:b]' -/
theorem VL.dropS {t e : TypeId} {sz c : Nat} {x o : Operand} {k : IntKind} {xs : List X} {p : Option Addr} {K : List Nat} {w' : World} (a : Nat) (hx : ev σ x = some (.slice p xs.length c)) (ho : ev σ o = some (.int k (a : Int))) (ht : P.underlying t = some (.slice e)) (hsz : (P.info? e).map (·.size) = some sz) (hA : Arr sz R K w' p xs c) (ha : a ≤ xs.length)
  (h : ∀ p', Arr sz R K w' p' (xs.drop a) (c - a) → VL P n ops Q rest ((d, .slice p' (xs.drop a).length (c - a)) :: σ) G) (hdn : Nat.blt d n = true := by rfl) : VL P n ops Q (⟨some d, .slice t x (some o) none none, ty, pos, aft, none⟩ :: rest) σ G :=
 VL.cut a xs.length hx ht hsz hA (vlo := some (.int k (a : Int))) (vhi := none) (by simpa using ho) rfl rfl rfl (.inr ⟨k, rfl⟩) (.inl ⟨rfl, rfl⟩) ha (Nat.le_refl _) (fun p' hA' => by
  have e : (xs.drop a).take (xs.length - a) = xs.drop a := List.take_of_length_le (by simp)
  rw [e] at hA'
  have := h p' hA'
  rwa [List.length_drop] at this) hdn
theorem VL.takeS {t e : TypeId} {sz c : Nat} {x o : Operand} {k : IntKind} {xs : List X} {p : Option Addr} {K : List Nat} {w' : World} (b : Nat) (hx : ev σ x = some (.slice p xs.length c)) (ho : ev σ o = some (.int k (b : Int))) (ht : P.underlying t = some (.slice e)) (hsz : (P.info? e).map (·.size) = some sz) (hA : Arr sz R K w' p xs c) (hb : b ≤ xs.length)
  (h : ∀ p', Arr sz R K w' p' (xs.take b) c → VL P n ops Q rest ((d, .slice p' (xs.take b).length c) :: σ) G) (hdn : Nat.blt d n = true := by rfl) : VL P n ops Q (⟨some d, .slice t x none (some o) none, ty, pos, aft, none⟩ :: rest) σ G :=
 VL.cut 0 b hx ht hsz hA (vlo := none) (vhi := some (.int k (b : Int))) rfl rfl (by simpa using ho) rfl (.inl ⟨rfl, rfl⟩) (.inr ⟨k, rfl⟩) (Nat.zero_le _) hb (fun p' hA' => by
  have := h p' (by simpa using hA')
  rw [List.length_take, Nat.min_eq_left hb] at this
  simpa using this) hdn

end
end Go.Vc

/- The rules of the walks, continued: a region whose order is open but for its tail: there each operation waits for all ahead of it. -/
namespace Go.Vc

/-- Operation i must be done ahead of operation t, by way of others. -/
def below (ops : Array Oper) : Nat → Nat → Nat → Bool
  | 0, _, _ => false
  | f + 1, t, i => match ops[t]? with
    | none => false
    | some o => waits o i || o.after.any fun e => Region.binds .any e && below ops f e.on i

/-- The operations from m on stand in order, behind all others. -/
def tailed (ops : Array Oper) (m : Nat) : Bool :=
  (List.range ops.size).all fun t => Nat.blt t m || (List.range t).all fun i => below ops ops.size t i

section
variable {P : Program} {n : Nat} {Q : Exit → Act → World → Prop} {ops : Array Oper}

theorem below_listed {listed : Array Bool} (hc : ∀ j o, ops[j]? = some o → listed.getD j false = true → ∀ e ∈ o.after, Region.binds .any e = true → listed.getD e.on false = true) :
  ∀ (f t i : Nat), below ops f t i = true → (∀ o, ops[t]? = some o → ∀ e ∈ o.after, Region.binds .any e = true → listed.getD e.on false = true) → listed.getD i false = true
 | 0, t, i, h, _ => by simp [below] at h
 | f + 1, t, i, h, ht => by
  unfold below at h
  cases ho : ops[t]? with
  | none => simp [ho] at h
  | some o =>
   simp only [ho, Bool.or_eq_true] at h
   rcases h with h | h
   ·obtain ⟨e, he, hb, hon⟩ := waits_spec h
    exact hon ▸ ht o ho e he hb
   ·obtain ⟨e, he, h1⟩ := Array.any_eq_true'.1 h
    rw [Bool.and_eq_true] at h1
    have hl := ht o ho e he h1.1
    exact below_listed hc f e.on i h1.2 (fun p hp e2 he2 hb2 => hc e.on p hp hl e2 he2 hb2)

theorem tailed_spec {m t i : Nat} (h : tailed ops m = true) (ht : t < ops.size) (hm : m ≤ t) (hi : i < t) : below ops ops.size t i = true := by
 have h1 := List.all_eq_true.1 h t (by simpa using ht)
 have h2 : Nat.blt t m = false := by
  cases hb : Nat.blt t m
  ·rfl
  ·simp [Nat.blt, Nat.ble_eq] at hb; omega
 rw [h2, Bool.false_or] at h1
 exact List.all_eq_true.1 h1 i (by simpa using hi)

theorem any_gen {K : Array Bool → Act → World → Prop}
  (hstep : ∀ i listed a w, K listed a w → i ∈ Region.ready .any ops listed → wpOp P ops Q i (fun a' w' => K (listed.setIfInBounds i true) a' w') a w)
  (hend : ∀ listed a w, K listed a w → Region.ready .any ops listed = [] → Q .normal a w) :
  ∀ (fuel : Nat) (listed : Array Bool) (a : Act) (w : World), (listed.toList.filter (fun b => !b)).length ≤ fuel → K listed a w → wpAny P .any ops Q fuel listed a w := by
 intro fuel
 induction fuel with
 | zero =>
  intro listed a w hm hI
  have hr : Region.ready .any ops listed = [] := by
   cases h : Region.ready .any ops listed with
   | nil => rfl
   | cons i r =>
    exfalso
    have hi : i ∈ Region.ready .any ops listed := by rw [h]; simp
    obtain ⟨hun, _, _, _⟩ := mem_ready.1 hi
    have hlt : i < listed.size := by
     rcases Nat.lt_or_ge i listed.size with h' | h'
     ·exact h'
     ·simp [Array.getElem?_eq_none h'] at hun
    have hmem : listed[i] ∈ listed.toList.filter (fun b => !b) := by
     rw [List.mem_filter]
     refine ⟨by simp, ?_⟩
     simp [hlt] at hun
     simp [hun]
    have := List.length_pos_of_mem hmem
    omega
  exact ⟨hr, hend _ _ _ hI hr⟩
 | succ fuel ih =>
  intro listed a w hm hI
  refine ⟨fun hr => hend _ _ _ hI hr, fun i hi => wpOp_mono (fun a' w' h => ih _ a' w' ?_ h) (hstep i listed a w hI hi)⟩
  obtain ⟨hun, _, _, _⟩ := mem_ready.1 hi
  have hlt : i < listed.size := by
   rcases Nat.lt_or_ge i listed.size with h' | h'
   ·exact h'
   ·simp [Array.getElem?_eq_none h'] at hun
  have hf : listed[i] = false := by simpa [hlt] using hun
  rw [Array.toList_setIfInBounds]
  have key : ∀ (l : List Bool) (i : Nat) (h : i < l.length), l[i] = false → ((l.set i true).filter (fun b => !b)).length + 1 = (l.filter (fun b => !b)).length := by
   intro l
   induction l with
   | nil => intro i h; simp at h
   | cons b r ihl =>
    intro i h hb
    cases i with
    | zero => simp at hb; subst hb; simp
    | succ i =>
     simp at hb h
     have := ihl i h hb
     cases b <;> simp [List.set_cons_succ] <;> omega
  have := key listed.toList i (by simpa using hlt) (by simpa using hf)
  omega

theorem listed_set {listed : Array Bool} {i j : Nat} (hi : i < listed.size) : (listed.setIfInBounds i true).getD j false = (Nat.beq j i || listed.getD j false) := by
 by_cases e : i = j
 ·subst e; simp [hi]
 ·rw [getD_set_ne false e]
  have : Nat.beq j i = false := by
   cases hb : Nat.beq j i
   ·rfl
   ·exact absurd (Nat.eq_of_beq_eq_true hb).symm e
  simp [this]

/-- The region: open up to operation m, in order behind. -/
theorem VC.anyT {id : Nat} {l : List Oper} {σ : Sl} {G : World → Prop} (J : Bool → World → Prop) (Stp : Bool → World → World → Prop) (m kk : Nat) (F : List Fact) (Is : List Ins) (outs : List (Nat × Nat)) (bas : List Nat)
  (hmix : P.follows .mixedOrders = true) (hp : plainRegion l.toArray = true) (htl : tailed l.toArray m = true) (hkm : kk < m ∨ l.length ≤ kk) (hml : m ≤ l.length) (hG : ∀ w, G w → J false w.drew) (late : Nat → Bool) (hlate : ∀ i o, l[i]? = some o → late i = true → i = kk ∨ waits o kk = true) (hst : ∀ ph i v w w', Stp ph w w' → (late i = true → ph = true) → factOf F i v w → factOf F i v w')
  (houts : outs.all (fun (d, j) => Nat.blt j m && match l[j]? with | some p => (match p.dst with | some d' => Nat.beq d d' | none => false) | none => false) = true)
  (hbas : bas.all (fun t => (l.take m).all fun p => match p.dst with | some d => !Nat.beq d t | none => true) = true)
  (hobs : Obs P n l.toArray Q J Stp kk F σ 0 Is (l.take m))
  (hend : ∀ vals : Nat → Value, VL P n l.toArray Q (l.drop m) (preSlots outs vals ++ only σ bas) (fun w => (∀ p ∈ outs, factOf F p.2 (vals p.2) w) ∧ J (Nat.blt kk m) w)) :
  VC P n Q (.region id l.toArray true) σ G := by
 intro a w ha hw
 refine wp_region_any hmix ?_
 have h0 : ∀ j, (Array.replicate l.toArray.size false).getD j false = false := by
  intro j
  rcases Nat.lt_or_ge j l.length with h | h
  ·simp [h]
  ·simp [h]
 -- all ahead of the tail are done: the tail
 have start : ∀ (listed : Array Bool) (a : Act) (w : World), Inv n l.toArray F J kk σ listed a w → (∀ i, listed.getD i false = true ↔ i < m) → wpList P l.toArray Q (l.drop m) a w := by
  intro listed a w hI hall
  let vals : Nat → Value := fun j => match l[j]? with
   | some p => match p.dst with
    | some d => a.tmps.getD d undef
    | none => undef
   | none => undef
  have hout : ∀ d j, (d, j) ∈ outs → j < m ∧ ∃ p, l[j]? = some p ∧ p.dst = some d := by
   intro d j hm
   have h1 := List.all_eq_true.1 houts (d, j) hm
   simp only [Bool.and_eq_true] at h1
   refine ⟨by have := h1.1; simp [Nat.blt, Nat.ble_eq] at this; omega, ?_⟩
   have h1 := h1.2
   cases hpj : l[j]? with
   | none => simp [hpj] at h1
   | some p =>
    cases hpd : p.dst with
    | none => simp [hpj, hpd] at h1
    | some d' => simp [hpj, hpd] at h1; subst h1; exact ⟨p, rfl, hpd⟩
  have hval : ∀ d j, (d, j) ∈ outs → vals j = a.tmps.getD d undef := by
   intro d j hm
   obtain ⟨_, p, h1, h2⟩ := hout d j hm
   simp only [vals, h1, h2]
  refine hend vals a w ⟨hI.dfr, hI.tsz, fun t v ht => ?_⟩ ⟨?_, ?_⟩
  ·rw [look_append] at ht
   cases hl : look (preSlots outs vals) t with
   | some u =>
    simp [hl] at ht
    subst ht
    obtain ⟨j, hm, rfl⟩ := look_pre hl
    rw [hval t j hm]
   | none =>
    simp [hl] at ht
    obtain ⟨hts, hlσ⟩ := look_only ht
    refine hI.base t v hlσ fun j p hj hlj hd => ?_
    have h1 := List.all_eq_true.1 hbas t hts
    have hjm := (hall j).1 hlj
    have hjt : (l.take m)[j]? = some p := by rw [List.getElem?_take, if_pos hjm]; simpa using hj
    have h2 := List.all_eq_true.1 h1 p (List.mem_of_getElem? hjt)
    simp [hd] at h2
  ·rintro ⟨d, j⟩ hm
   obtain ⟨h0, p, h1, h2⟩ := hout d j hm
   show factOf F j (vals j) w
   rw [hval d j hm]
   exact hI.fact j p d (by simpa using h1) ((hall j).2 h0) h2
  ·have := hI.inv
   have e : listed.getD kk false = Nat.blt kk m := by
    by_cases hk : kk < m
    ·rw [(hall kk).2 hk]; symm; simp [Nat.blt, Nat.ble_eq]; omega
    ·have h1 : listed.getD kk false = false := by
      cases hb : listed.getD kk false
      ·rfl
      ·exact absurd ((hall kk).1 hb) hk
     rw [h1]; symm
     cases hb : Nat.blt kk m
     ·rfl
     ·simp [Nat.blt, Nat.ble_eq] at hb; omega
   rw [← e]; exact this
 let K : Array Bool → Act → World → Prop := fun listed a w =>
  (Inv n l.toArray F J kk σ listed a w ∧ ∀ i, m ≤ i → listed.getD i false = false) ∨
  (∃ k, m < k ∧ listed.size = l.toArray.size ∧ (∀ i, listed.getD i false = true ↔ i < k ∧ i < l.length) ∧ wpList P l.toArray Q (l.drop k) a w)
 have tstep : ∀ (k : Nat) (listed : Array Bool) (a : Act) (w : World), k < l.length → m ≤ k → listed.size = l.toArray.size → (∀ i, listed.getD i false = true ↔ i < k ∧ i < l.length) → wpList P l.toArray Q (l.drop k) a w →
   wpOp P l.toArray Q k (fun a' w' => K (listed.setIfInBounds k true) a' w') a w := by
  intro k listed a w hk hmk hsz hl hwp
  have hd : l.drop k = l[k] :: l.drop (k + 1) := List.drop_eq_getElem_cons hk
  have hnext : ∀ a' w', wpList P l.toArray Q (l.drop (k + 1)) a' w' → K (listed.setIfInBounds k true) a' w' := by
   intro a' w' h
   refine .inr ⟨k + 1, by omega, by simp [hsz], fun i => ?_, h⟩
   rw [listed_set (by rw [hsz]; simpa using hk), Bool.or_eq_true, hl i]
   constructor
   ·rintro (h | h)
    ·have := Nat.eq_of_beq_eq_true h; omega
    ·omega
   ·intro h
    by_cases e : i = k
    ·left; subst e; simp
    ·right; omega
  rw [hd] at hwp
  unfold wpList at hwp
  unfold wpOp
  have hk' : l.toArray[k]? = some l[k] := by simp [hk]
  rw [hk']
  simp only
  split
  ·rename_i hwt
   rw [if_pos hwt] at hwp
   rcases hwp with hwp | hwp
   ·exact .inl (Oper.wp_mono (fun a' w' h => hnext a' w' h) hwp)
   ·exact .inr hwp
  ·rename_i hwt
   rw [if_neg hwt] at hwp
   exact hnext _ _ hwp
 refine any_gen (K := K) (fun i listed a w hI hr => ?_) (fun listed a w hI hr => ?_) _ _ a _ ?_ ?_
 ·obtain ⟨hun, o, ho, hall⟩ := mem_ready.1 hr
  have hil : i < l.length := by simpa using (Array.getElem?_eq_some_iff.1 ho).1
  rcases hI with ⟨hI, hnt⟩ | ⟨k, hmk, hsz, hl, hwp⟩
  ·by_cases him : i < m
   ·have hot : (l.take m)[i]? = some o := by rw [List.getElem?_take, if_pos him]; simpa using ho
    obtain ⟨I, hob⟩ := Obs.get Is (l.take m) 0 hobs i o hot
    rw [Nat.zero_add] at hob
    refine wpOp_mono (fun a' w' h => .inl ⟨h, fun j hj => ?_⟩) (step_inv hp (fun i o hi => hlate i o (by simpa using hi)) hst ho hob hI hr)
    rw [getD_set_ne false (by omega)]; exact hnt j hj
   · -- the tail's first
    have hb : ∀ j, j < i → listed.getD j false = true := fun j hj =>
     below_listed hI.closed _ i j (tailed_spec htl (by simpa using hil) (by omega) hj) (fun o' ho' e he hbd => by
      obtain rfl : o' = o := Option.some.inj (ho'.symm.trans ho)
      exact hall e he hbd)
    have hie : i = m := by
     rcases Nat.lt_or_ge m i with h | h
     ·have h1 := hb m h
      rw [hnt m (Nat.le_refl _)] at h1; cases h1
     ·omega
    subst hie
    have hiff : ∀ j, listed.getD j false = true ↔ j < i := fun j => ⟨fun h => by
     rcases Nat.lt_or_ge j i with h' | h'
     ·exact h'
     ·rw [hnt j h'] at h; exact absurd h (by simp), hb j⟩
    exact tstep i listed a w hil (Nat.le_refl _) hI.size (fun j => by rw [hiff]; constructor <;> intro h <;> omega) (start listed a w hI hiff)
  ·have hki : i = k := by
    have h1 : listed.getD i false = false := by
     have : i < listed.size := by rw [hsz]; simpa using hil
     simp [this] at hun ⊢
     exact hun
    have hge : k ≤ i := by
     rcases Nat.lt_or_ge i k with h | h
     ·have := (hl i).2 ⟨h, hil⟩
      rw [h1] at this; cases this
     ·exact h
    rcases Nat.lt_or_ge k i with h | h
    · -- k must be done ahead of i
     have hcl : ∀ j o', l.toArray[j]? = some o' → listed.getD j false = true → ∀ e ∈ o'.after, Region.binds .any e = true → listed.getD e.on false = true := by
      intro j o' hj hlj e he hbd
      have hb := plain_back hp hj he hbd
      have := (hl j).1 hlj
      exact (hl e.on).2 ⟨by omega, by omega⟩
     have := below_listed hcl _ i k (tailed_spec htl (by simpa using hil) (by omega) h) (fun o' ho' e he hbd => by
      obtain rfl : o' = o := Option.some.inj (ho'.symm.trans ho)
      exact hall e he hbd)
     have := (hl k).1 this
     omega
    ·omega
   subst hki
   exact tstep i listed a w hil (by omega) hsz hl hwp
 ·rcases hI with ⟨hI, hnt⟩ | ⟨k, hmk, hsz, hl, hwp⟩
  ·have hall := all_listed hp hI.size hr
   have hme : m = l.length := by
    rcases Nat.lt_or_ge m l.length with h | h
    ·have := hall m (by simpa using h)
     rw [hnt m (Nat.le_refl _)] at this; cases this
    ·omega
   have := start listed a w hI (fun j => ⟨fun h => by
    rcases Nat.lt_or_ge j m with h' | h'
    ·exact h'
    ·rw [hnt j h'] at h; exact absurd h (by simp), fun h => hall j (by simp; omega)⟩)
   rw [hme, List.drop_length] at this
   exact this
  ·have hall := all_listed hp hsz hr
   have hk : l.length ≤ k := by
    rcases Nat.lt_or_ge k l.length with h | h
    ·have := (hl k).1 (hall k (by simpa using h)); omega
    ·exact h
   rw [List.drop_eq_nil_of_le hk] at hwp
   exact hwp
 ·simp
 ·exact .inl ⟨⟨by simp, fun j o _ hl => (by rw [h0 j] at hl; cases hl), fun j o d _ hl => (by rw [h0 j] at hl; cases hl), fun t v ht _ => ha.at_ t v ht, ha.dfr, ha.size, (by rw [h0]; exact hG w hw)⟩, fun i _ => h0 i⟩

/-- The usual case. -/
theorem VC.anyTA {id : Nat} {l : List Oper} {σ : Sl} {S : List Snap} {H : List Chunk} (m kk : Nat) (F : List (SFact (keys H))) (Is : List Ins) (outs : List (Nat × Nat)) (bas : List Nat)
  (hmix : P.follows .mixedOrders = true) (hp : plainRegion l.toArray = true) (htl : tailed l.toArray m = true) (hkm : (Nat.blt kk m || Nat.ble l.length kk) = true) (hml : Nat.ble m l.length = true)
  (hlate : (F.zipIdx.all fun (f, i) => !f.late || Nat.beq i kk || match l[i]? with | some o => waits o kk | none => true) = true)
  (houts : outs.all (fun (d, j) => Nat.blt j m && match l[j]? with | some p => (match p.dst with | some d' => Nat.beq d d' | none => false) | none => false) = true)
  (hbas : bas.all (fun t => (l.take m).all fun p => match p.dst with | some d => !Nat.beq d t | none => true) = true) (hn : decide ((outs.map (·.1)).Nodup) = true)
  (hobs : Obs P n l.toArray Q (Still S H) (Turn (keys H)) kk (F.map (·.f)) σ 0 Is (l.take m))
  (hend : ∀ w0, Still S H (Nat.blt kk m) w0 → EachV F w0 outs [] (fun τ => VL P n l.toArray Q (l.drop m) (τ ++ only σ bas) (fun w => w = w0))) :
  VC P n Q (.region id l.toArray true) σ (Own S H) :=
 VC.anyT (Still S H) (Turn (keys H)) m kk (F.map (·.f)) Is outs bas hmix hp htl (by
   rw [Bool.or_eq_true] at hkm
   rcases hkm with h | h
   ·left; simp [Nat.blt, Nat.ble_eq] at h; omega
   ·right; simpa [Nat.ble_eq] using h) (by simpa [Nat.ble_eq] using hml) (fun _ h => h.drew) (lateOf F) (fun i o hi hl => by
  unfold lateOf at hl
  cases hf : F[i]? with
  | none => simp [hf] at hl
  | some f =>
   simp only [hf] at hl
   have h1 := List.all_eq_true.1 hlate (f, i) (by rw [List.mem_zipIdx_iff_getElem?]; simpa using hf)
   simp only [hl, hi, Bool.not_true, Bool.false_or, Bool.or_eq_true] at h1
   rcases h1 with h1 | h1
   ·exact .inl (Nat.eq_of_beq_eq_true h1)
   ·exact .inr h1) (fact_stays F) houts hbas hobs (fun vals a w ha ⟨h1, h2⟩ => (hend w h2).spec outs [] _ h1 a w (ha.back (of_decide_eq_true hn)) rfl)
/-- The second chunk, a row of what reads as something, is let go. -/
theorem VL.letArr2 {rest : List Oper} {S : List Snap} {H : List Chunk} {σ : Sl} {X : Type} {R : Rel X} {hR : Mono R} {e : TypeId} {sz : Nat} {g : Option Nat} {c : Nat} {ys : List X} {c0 : Chunk} (h : ∀ w1, Own S (c0 :: H) w1 → Arr sz R (keys (c0 :: H)) w1 (g.map fun g => ⟨g, 0, none⟩) ys c → VL P n ops Q rest σ (Own (⟨w1, keys (c0 :: H)⟩ :: S) (c0 :: H))) : VL P n ops Q rest σ (Own S (c0 :: arow e sz R hR g c ys :: H)) :=
 fun a w ha hw =>
  have h1 := hw.perm (List.Perm.swap c0 _ H)
  h w h1.drop h1.letArr a w ha h1.drop.keep
/-- An array's variable is let go: a slice of it is only read from here on. -/
theorem Own.letBlk {S : List Snap} {H : List Chunk} {w : World} {g m : Nat} {T : TypeId} {l : List UInt8} (h : Own S (blk g T [m] [l.map bv] :: H) w) (hm : m ≤ maxLen) : Bytes (keys H) w (some ⟨g, 0, none⟩) l m := by
 obtain ⟨hg, hL⟩ := h.holds _ (List.mem_cons_self ..)
 have hl : l.length = m := by simpa using hL
 have hnd := h.nodup
 rw [keys_cons, List.nodup_append] at hnd
 refine ⟨by omega, hm, fun e => (by cases e), fun a ea _ => ?_⟩
 simp at ea; subst ea
 refine ⟨rfl, fun hk => hnd.2.2 g (by simp [blk]) g hk rfl, (Array.getElem?_eq_some_iff.1 hg).1, _, _, _, hg, fun j y hj => ⟨[bv y], rfl, rfl, fun i v hv => ?_⟩⟩
 have hi : i = 0 := by
  have := (List.getElem?_eq_some_iff.1 hv).1
  simpa using this
 subst hi
 simp at hv; subst hv
 simp [cat, hj]
theorem VC.letBlk {S : List Snap} {H : List Chunk} {σ : Sl} {g m : Nat} {T : TypeId} {l : List UInt8} {code : Code} (hm : m ≤ maxLen) (h : ∀ w1, Own S H w1 → Bytes (keys H) w1 (some ⟨g, 0, none⟩) l m → VC P n Q code σ (Own (⟨w1, keys H⟩ :: S) H)) : VC P n Q code σ (Own S (blk g T [m] [l.map bv] :: H)) :=
 fun a w ha hw => h w hw.drop (hw.letBlk hm) a w ha hw.drop.keep
theorem VL.backOwn {rest : List Oper} {S : List Snap} {H : List Chunk} {w0 : World} {σ : Sl} (hO : Own S H w0) (h : VL P n ops Q rest σ (Own S H)) : VL P n ops Q rest σ (fun w => w = w0) := VL.turn (fun w e => by subst e; exact hO) h
end
theorem Arr.nowK {X : Type} {sz : Nat} {R : Rel X} {S : List Snap} {H : List Chunk} {s : Snap} {K : List Nat} {w : World} {p : Option Addr} {xs : List X} {c : Nat} (h : Arr sz R s.K s.w p xs c) (hR : Mono R) (ho : Own S H w) (hs : s ∈ S) (hK : keys H = K) : Arr sz R K w p xs c := hK ▸ h.now hR ho hs
end Go.Vc

