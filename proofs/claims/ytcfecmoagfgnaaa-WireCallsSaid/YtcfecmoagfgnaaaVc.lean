/- The rules by which the walks of this claim go: a frame's slots as a list of pairs, one rule for each form of code and of operation. -/
import Derived.WalkKit
import Derived.WalkLawsBesides
import Derived.ScopeJumps
import Derived.Orders
namespace Go.Vc

/-- Slots: number and value, the newest ahead. -/
abbrev Sl := List (Nat × Value)

def look : Sl → Nat → Option Value
  | [], _ => none
  | (k, v) :: r, t => bif Nat.beq k t then some v else look r t

structure Agr (n : Nat) (σ : Sl) (a : Act) : Prop where
  dfr : a.defers = []
  size : a.tmps.size = n
  at_ : ∀ t v, look σ t = some v → a.tmps.getD t undef = v

def ev (σ : Sl) : Operand → Option Value
  | .tmp t => look σ t
  | .const v => some v
  | .global g => some (.pointer (some ⟨g, 0, none⟩))
  | .func f => some (.func (.func f) #[] #[])

def evs (σ : Sl) : List Operand → Option (List Value)
  | [] => some []
  | x :: r => match ev σ x, evs σ r with
    | some v, some vs => some (v :: vs)
    | _, _ => none

theorem Agr.ev {n : Nat} {σ : Sl} {a : Act} (h : Agr n σ a) {x : Operand} {v : Value} (he : ev σ x = some v) : a.eval x = v := by
  cases x with
  | tmp t => exact h.at_ t v he
  | const u => simpa [Vc.ev, Act.eval] using he
  | global g => simpa [Vc.ev, Act.eval] using he
  | func f => simpa [Vc.ev, Act.eval] using he

theorem Agr.evs {n : Nat} {σ : Sl} {a : Act} (h : Agr n σ a) : ∀ {xs : List Operand} {vs : List Value}, evs σ xs = some vs → xs.map a.eval = vs
  | [], vs, he => by simp [Vc.evs] at he; simp [he]
  | x :: r, vs, he => by
    unfold Vc.evs at he
    cases h1 : Vc.ev σ x with
    | none => simp [h1] at he
    | some v =>
      cases h2 : Vc.evs σ r with
      | none => simp [h1, h2] at he
      | some us =>
        simp [h1, h2] at he
        subst he
        simp [h.ev h1, h.evs h2]

theorem look_cons (k : Nat) (v : Value) (r : Sl) (t : Nat) : look ((k, v) :: r) t = if k = t then some v else look r t := by
  show (bif Nat.beq k t then some v else look r t) = _
  by_cases h : k = t
  · subst h; simp
  · have : Nat.beq k t = false := by
      cases hb : Nat.beq k t
      · rfl
      · exact absurd (Nat.eq_of_beq_eq_true hb) h
    rw [this, if_neg h]; rfl

theorem Agr.put {n : Nat} {σ : Sl} {a : Act} (h : Agr n σ a) {d : Nat} {v : Value} (hd : Nat.blt d n = true) : Agr n ((d, v) :: σ) (a.put (some d) v) := by
  have hlt : d < n := by have := hd; simp only [Nat.blt, Nat.ble_eq] at this; omega
  refine ⟨h.dfr, by simp [Act.put, h.size], fun t u hu => ?_⟩
  rw [look_cons] at hu
  by_cases e : d = t
  · subst e
    simp at hu
    subst hu
    have hs := h.size
    have : d < (a.tmps.setIfInBounds d v).size := by simp [hs, hlt]
    simp [Act.put, Array.getD_eq_getD_getElem?, hs, hlt]
  · simp [e] at hu
    have := h.at_ t u hu
    simp only [Act.put, Array.getD_eq_getD_getElem?] at this ⊢
    rw [Array.getElem?_setIfInBounds_ne e]
    exact this

/-- The slots of the first list stand in the second. -/
def sub : Sl → Sl → Prop
  | [], _ => True
  | (t, v) :: r, σ => look σ t = some v ∧ sub r σ

theorem sub_look : ∀ {τ σ : Sl}, sub τ σ → ∀ t v, look τ t = some v → look σ t = some v
  | [], _, _, t, v, h => by simp [look] at h
  | (k, u) :: r, σ, hs, t, v, h => by
    rw [look_cons] at h
    by_cases e : k = t
    · subst e; simp at h; subst h; exact hs.1
    · simp [e] at h; exact sub_look hs.2 t v h

theorem Agr.mono {n : Nat} {σ τ : Sl} {a : Act} (h : Agr n σ a) (hs : sub τ σ) : Agr n τ a :=
  ⟨h.dfr, h.size, fun t v ht => h.at_ t v (sub_look hs t v ht)⟩

section
variable (P : Program) (n : Nat)

/-- Code, a row of operations, an exit: whatever frame bears the slots, whatever world is one of G. -/
def VC (Q : Exit → Act → World → Prop) (c : Code) (σ : Sl) (G : World → Prop) : Prop := ∀ a w, Agr n σ a → G w → c.wp P Q a w
def VL (ops : Array Oper) (Q : Exit → Act → World → Prop) (l : List Oper) (σ : Sl) (G : World → Prop) : Prop := ∀ a w, Agr n σ a → G w → wpList P ops Q l a w
end
def VX (n : Nat) (Q : Exit → Act → World → Prop) (e : Exit) (σ : Sl) (G : World → Prop) : Prop := ∀ a w, Agr n σ a → G w → Q e a w

section
variable {P : Program} {n : Nat} {Q Q' : Exit → Act → World → Prop} {σ : Sl} {G : World → Prop}

theorem VC.seq {x y : Code} (h : VC P n (Exit.then (y.wp P Q) Q) x σ G) : VC P n Q (.seq x y) σ G := fun a w ha hw => wp_seq (h a w ha hw)
theorem VC.region {id : Nat} {l : List Oper} (h : VL P n l.toArray Q l σ G) : VC P n Q (.region id l.toArray false) σ G := fun a w ha hw => wp_region_lit (h a w ha hw)
theorem VC.yes {c : Operand} {x y : Code} (hc : ev σ c = some (.bool true)) (h : VC P n Q x σ G) : VC P n Q (.cond c x y) σ G :=
  fun a w ha hw => wp_cond_true (ha.ev hc) (h a w ha hw)
theorem VC.no {c : Operand} {x y : Code} (hc : ev σ c = some (.bool false)) (h : VC P n Q y σ G) : VC P n Q (.cond c x y) σ G :=
  fun a w ha hw => wp_cond_false (ha.ev hc) (h a w ha hw)
theorem VC.split {c : Operand} {x y : Code} {b : Bool} (hc : ev σ c = some (.bool b)) (h1 : b = true → VC P n Q x σ G) (h2 : b = false → VC P n Q y σ G) : VC P n Q (.cond c x y) σ G :=
  fun a w ha hw => wp_cond_split (ha.ev hc) (fun h => h1 h a w ha hw) (fun h => h2 h a w ha hw)
theorem VC.block {id : Nat} {c : Code} (h : VC P n (Exit.inBlock id Q) c σ G) : VC P n Q (.block id c) σ G := fun a w ha hw => wp_block (h a w ha hw)
theorem VC.skip (h : VX n Q .normal σ G) : VC P n Q .skip σ G := fun a w ha hw => wp_skip (h a w ha hw)
theorem VC.label {l : Nat} (h : VX n Q .normal σ G) : VC P n Q (.label l) σ G := fun a w ha hw => wp_label (h a w ha hw)
theorem VC.exit {id : Nat} (h : VX n Q (.exit id) σ G) : VC P n Q (.exit id) σ G := fun a w ha hw => wp_exit (h a w ha hw)
theorem VC.goto {l : Nat} (h : VX n Q (.goto l) σ G) : VC P n Q (.goto l) σ G := fun a w ha hw => wp_goto (h a w ha hw)
theorem VC.ret (h : VX n Q .ret σ G) : VC P n Q .ret σ G := fun a w ha hw => wp_ret (h a w ha hw)
theorem VC.scope {c : Code} (h : VC P n (Exit.noGoto Q) c σ G) : VC P n Q (.scope c) σ G := fun a w ha hw => wp_scope_straight (h a w ha hw)
theorem VC.weaken {c : Code} (τ : Sl) (hs : sub τ σ) (h : VC P n Q c τ G) : VC P n Q c σ G := fun a w ha hw => h a w (ha.mono hs) hw
theorem VL.weaken {ops : Array Oper} {l : List Oper} (τ : Sl) (hs : sub τ σ) (h : VL P n ops Q l τ G) : VL P n ops Q l σ G := fun a w ha hw => h a w (ha.mono hs) hw
/-- Another class of worlds. -/
theorem VC.turn {c : Code} {G' : World → Prop} (hG : ∀ w, G w → G' w) (h : VC P n Q c σ G') : VC P n Q c σ G := fun a w ha hw => h a w ha (hG w hw)
theorem VL.turn {ops : Array Oper} {l : List Oper} {G' : World → Prop} (hG : ∀ w, G w → G' w) (h : VL P n ops Q l σ G') : VL P n ops Q l σ G := fun a w ha hw => h a w ha (hG w hw)
theorem VX.turn {e : Exit} {G' : World → Prop} (hG : ∀ w, G w → G' w) (h : VX n Q e σ G') : VX n Q e σ G := fun a w ha hw => h a w ha (hG w hw)
/-- One world at a time. -/
theorem VC.at {c : Code} (h : ∀ w, G w → VC P n Q c σ (fun w' => w' = w)) : VC P n Q c σ G := fun a w ha hw => h w hw a w ha rfl
theorem VL.at {ops : Array Oper} {l : List Oper} (h : ∀ w, G w → VL P n ops Q l σ (fun w' => w' = w)) : VL P n ops Q l σ G := fun a w ha hw => h w hw a w ha rfl
theorem VC.ex {X : Type} {c : Code} {K : X → World → Prop} (h : ∀ x, VC P n Q c σ (K x)) : VC P n Q c σ (fun w => ∃ x, K x w) := fun a w ha ⟨x, hw⟩ => h x a w ha hw
theorem VL.ex {X : Type} {ops : Array Oper} {l : List Oper} {K : X → World → Prop} (h : ∀ x, VL P n ops Q l σ (K x)) : VL P n ops Q l σ (fun w => ∃ x, K x w) := fun a w ha ⟨x, hw⟩ => h x a w ha hw
theorem VX.ex {X : Type} {e : Exit} {K : X → World → Prop} (h : ∀ x, VX n Q e σ (K x)) : VX n Q e σ (fun w => ∃ x, K x w) := fun a w ha ⟨x, hw⟩ => h x a w ha hw
theorem VC.fact {p : Prop} {c : Code} (h : p → VC P n Q c σ G) : VC P n Q c σ (fun w => p ∧ G w) := fun a w ha ⟨hp, hw⟩ => h hp a w ha hw
theorem VL.fact {p : Prop} {ops : Array Oper} {l : List Oper} (h : p → VL P n ops Q l σ G) : VL P n ops Q l σ (fun w => p ∧ G w) := fun a w ha ⟨hp, hw⟩ => h hp a w ha hw

theorem VX.next {y : Code} (h : VC P n Q y σ G) : VX n (Exit.then (y.wp P Q) Q') .normal σ G := fun a w ha hw => h a w ha hw
theorem VX.then_exit {nx : Act → World → Prop} {id : Nat} (h : VX n Q (.exit id) σ G) : VX n (Exit.then nx Q) (.exit id) σ G := fun a w ha hw => h a w ha hw
theorem VX.then_goto {nx : Act → World → Prop} {l : Nat} (h : VX n Q (.goto l) σ G) : VX n (Exit.then nx Q) (.goto l) σ G := fun a w ha hw => h a w ha hw
theorem VX.then_ret {nx : Act → World → Prop} (h : VX n Q .ret σ G) : VX n (Exit.then nx Q) .ret σ G := fun a w ha hw => h a w ha hw
theorem VX.block_normal {id : Nat} (h : VX n Q .normal σ G) : VX n (Exit.inBlock id Q) .normal σ G := fun a w ha hw => h a w ha hw
theorem VX.block_here {id : Nat} (h : VX n Q .normal σ G) : VX n (Exit.inBlock id Q) (.exit id) σ G := fun a w ha hw => by simpa [Exit.inBlock] using h a w ha hw
theorem VX.block_past {id id' : Nat} (hne : Nat.beq id' id = false) (h : VX n Q (.exit id') σ G) : VX n (Exit.inBlock id Q) (.exit id') σ G := fun a w ha hw => by
  have : id' ≠ id := fun e => by subst e; simp at hne
  simpa [Exit.inBlock, this] using h a w ha hw
theorem VX.block_goto {id l : Nat} (h : VX n Q (.goto l) σ G) : VX n (Exit.inBlock id Q) (.goto l) σ G := fun a w ha hw => h a w ha hw
theorem VX.block_ret {id : Nat} (h : VX n Q .ret σ G) : VX n (Exit.inBlock id Q) .ret σ G := fun a w ha hw => h a w ha hw
theorem VX.scope_normal (h : VX n Q .normal σ G) : VX n (Exit.noGoto Q) .normal σ G := fun a w ha hw => h a w ha hw
theorem VX.scope_exit {id : Nat} (h : VX n Q (.exit id) σ G) : VX n (Exit.noGoto Q) (.exit id) σ G := fun a w ha hw => h a w ha hw
theorem VX.scope_ret (h : VX n Q .ret σ G) : VX n (Exit.noGoto Q) .ret σ G := fun a w ha hw => h a w ha hw

/-- What is asked of a call's end: it returns, and this holds of the value and the world. -/
def Ret (S : Value → World → Prop) : Ending → World → Prop
  | .returned v, w => S v w
  | _, _ => False

theorem Ret.mono {S S' : Value → World → Prop} (h : ∀ v w, S v w → S' v w) : ∀ e w, Ret S e w → Ret S' e w
  | .returned v, w, r => h v w r
  | .panicked _, _, r => r.elim
  | .outgrown, _, r => r.elim

theorem calls_mono {f : FuncId} {args : Array Value} {w : World} {S S' : Value → World → Prop} (hc : Calls P f args w (Ret S)) (h : ∀ v w, S v w → S' v w) : Calls P f args w (Ret S') :=
  hc.mono (Ret.mono h)

theorem VX.end0 {fn : Func} {S : Value → World → Prop} (hr : fn.results = #[]) (h : ∀ w, G w → S (.tuple #[]) w) : VX n (bodyPost P fn (Ret S)) .normal σ G :=
  fun _ w ha hw => ⟨ha.dfr, _, results_none hr _ _ _, h w hw⟩
theorem VX.ret0 {fn : Func} {S : Value → World → Prop} (hr : fn.results = #[]) (h : ∀ w, G w → S (.tuple #[]) w) : VX n (bodyPost P fn (Ret S)) .ret σ G :=
  fun _ w ha hw => ⟨ha.dfr, _, results_none hr _ _ _, h w hw⟩
theorem VX.ret1 {fn : Func} {S : Value → World → Prop} {t : Nat} {v : Value} (hr : fn.results = #[.tmp t]) (ht : look σ t = some v) (h : ∀ w, G w → S v w) : VX n (bodyPost P fn (Ret S)) .ret σ G :=
  fun a w ha hw => ⟨ha.dfr, v, by rw [results_tmp hr, ha.at_ t v ht], h w hw⟩
theorem VX.ret2 {fn : Func} {S : Value → World → Prop} {t u : Nat} {v x : Value} (hr : fn.results = #[.tmp t, .tmp u]) (ht : look σ t = some v) (hu : look σ u = some x) (h : ∀ w, G w → S (.tuple #[v, x]) w) : VX n (bodyPost P fn (Ret S)) .ret σ G :=
  fun a w ha hw => ⟨ha.dfr, _, by rw [results_tmp2 hr, ha.at_ t v ht, ha.at_ u x hu], h w hw⟩
theorem VX.ret3 {fn : Func} {S : Value → World → Prop} {t u s : Nat} {v x y : Value} (hr : fn.results = #[.tmp t, .tmp u, .tmp s]) (ht : look σ t = some v) (hu : look σ u = some x) (hs : look σ s = some y) (h : ∀ w, G w → S (.tuple #[v, x, y]) w) : VX n (bodyPost P fn (Ret S)) .ret σ G :=
  fun a w ha hw => ⟨ha.dfr, .tuple #[v, x, y], by
    have h1 := ha.at_ t v ht
    have h2 := ha.at_ u x hu
    have h3 := ha.at_ s y hs
    simp only [Array.getD_eq_getD_getElem?] at h1 h2 h3
    simp [results, hr, h1, h2, h3], h w hw⟩

/-- The first slots are the arguments. -/
def args0 : Nat → List Value → Sl
  | _, [] => []
  | i, v :: r => (i, v) :: args0 (i + 1) r

theorem look_args0 : ∀ (vs : List Value) (i t : Nat) (v : Value), look (args0 i vs) t = some v → i ≤ t ∧ vs[t - i]? = some v
  | [], i, t, v, h => by simp [args0, look] at h
  | u :: r, i, t, v, h => by
    rw [args0, look_cons] at h
    by_cases e : i = t
    · subst e; simp at h; simp [h]
    · simp [e] at h
      obtain ⟨h1, h2⟩ := look_args0 r (i + 1) t v h
      refine ⟨by omega, ?_⟩
      have : t - i = (t - (i + 1)) + 1 := by omega
      rw [this]; simpa using h2

/-- A call, from its body. -/
theorem enter {f : FuncId} {fn : Func} {c : Code} {vs : List Value} {w : World} {S : Value → World → Prop} (hw : G w)
    (hf : P.funcs[f]? = some fn) (hb : fn.body = some c) (hn : fn.ntmps = n) (hle : Nat.ble vs.length n = true)
    (h : VC P n (bodyPost P fn (Ret S)) c (args0 0 vs) G) : Calls P f vs.toArray w (Ret S) := by
  have hle' : vs.length ≤ n := by simpa [Nat.ble_eq] using hle
  refine calls_of_wp hf hb (h _ _ ⟨rfl, ?_, fun t v ht => ?_⟩ hw)
  · simp [hn]; omega
  · obtain ⟨_, h2⟩ := look_args0 vs 0 t v ht
    simp at h2
    have hlt : t < vs.length := (List.getElem?_eq_some_iff.1 h2).1
    have he : (vs.toArray ++ Array.replicate (fn.ntmps - vs.toArray.size) undef)[t]? = some v := by
      rw [Array.getElem?_append_left (by simpa using hlt)]
      simpa using h2
    rw [Array.getD_eq_getD_getElem?, he]; rfl

/-- A loop: its state x, the slots that stand for it, what holds, a measure. -/
theorem VC.loop {X : Type} {c : Code} (st : X → Sl) (inv : X → World → Prop) (μ : X → Nat) (x0 : X) (h0 : sub (st x0) σ) (hi : ∀ w, G w → inv x0 w)
    (round : ∀ x, VC P n (Exit.then (fun a' w' => ∃ x', Agr n (st x') a' ∧ inv x' w' ∧ μ x' < μ x) Q) c (st x) (inv x)) : VC P n Q (.loop c) σ G := by
  intro a w ha hw b k cs
  have key : ∀ m x a w, μ x = m → Agr n (st x) a → inv x w →
      ∃ e a' w', Q e a' w' ∧ Arrives P (lone (b.at a (.code c :: .inLoop c :: k)) cs w) b k cs e a' w' := by
    intro m
    induction m using Nat.strongRecOn with
    | _ m ih =>
      intro x a w hm ha hI
      obtain ⟨e, a₁, w₁, hq, harr⟩ := round x a w ha hI b (.inLoop c :: k) cs
      cases e with
      | normal =>
        obtain ⟨x', ha₁, hI₁, hlt⟩ := hq
        obtain ⟨e₂, a₂, w₂, hq₂, harr₂⟩ := ih (μ x') (hm ▸ hlt) x' a₁ w₁ rfl ha₁ hI₁
        exact ⟨e₂, a₂, w₂, hq₂, .of_steps (Steps.trans harr (.one step_inLoop)) harr₂⟩
      | exit id => exact ⟨_, a₁, w₁, hq, .pass (x := .inLoop c) rfl (fun _ _ => .inl (by simp)) harr⟩
      | goto l => exact ⟨_, a₁, w₁, hq, .pass (x := .inLoop c) rfl (fun _ _ => .inl (by simp)) harr⟩
      | ret => exact ⟨_, a₁, w₁, hq, .pass (x := .inLoop c) rfl (fun _ _ => .inl (by simp)) harr⟩
      | panic ch => exact ⟨_, a₁, w₁, hq, .pass (x := .inLoop c) rfl (fun _ _ => .inl (by simp)) harr⟩
      | outgrown => exact ⟨_, a₁, w₁, hq, .pass (x := .inLoop c) rfl (fun _ _ => .inl (by simp)) harr⟩
  obtain ⟨e, a', w', hq, harr⟩ := key _ x0 a w rfl (ha.mono h0) (hi w hw)
  exact ⟨e, a', w', hq, .of_steps (.one step_loop) harr⟩

theorem VX.round {X : Type} {st : X → Sl} {inv : X → World → Prop} {μ : X → Nat} {m : Nat} (x' : X) (hs : sub (st x') σ) (hi : ∀ w, G w → inv x' w) (hm : μ x' < m) :
    VX n (Exit.then (fun a' w' => ∃ x', Agr n (st x') a' ∧ inv x' w' ∧ μ x' < m) Q) .normal σ G := fun _ w ha hw => ⟨x', ha.mono hs, hi w hw, hm⟩

/-- A scope with labels: at each jump to label l, in state x: the slots, what holds, a measure. -/
def jumps (n : Nat) {X : Type} (lab : X → Nat) (st : X → Sl) (inv : X → World → Prop) (ok : X → Prop) (Q : Exit → Act → World → Prop) : Exit → Act → World → Prop
  | .goto l, a, w => ∃ x, lab x = l ∧ Agr n (st x) a ∧ inv x w ∧ ok x
  | e, a, w => Q e a w

theorem VC.labels {X : Type} {c : Code} (lab : X → Nat) (st : X → Sl) (inv : X → World → Prop) (μ : X → Nat)
    (first : VC P n (jumps n lab st inv (fun _ => True) Q) c σ G)
    (pass : ∀ x, ∃ rest, findLabel c (lab x) = some rest ∧ VC P n (jumps n lab st inv (fun x' => μ x' < μ x) Q) rest (st x) (inv x)) : VC P n Q (.scope c) σ G := by
  intro a w ha hw b k cs
  have key : ∀ m x rest a w, μ x = m → findLabel c (lab x) = some rest → Agr n (st x) a → inv x w →
      ∃ e a' w', Q e a' w' ∧ Arrives P (lone (b.at a (.code rest :: .inScope c :: k)) cs w) b k cs e a' w' := by
    intro m
    induction m using Nat.strongRecOn with
    | _ m ih =>
      intro x rest a w hm hf ha hI
      obtain ⟨rest', hf', hp⟩ := pass x
      obtain rfl : rest' = rest := Option.some.inj (hf'.symm.trans hf)
      obtain ⟨e, a₁, w₁, hq, harr⟩ := hp a w ha hI b (.inScope c :: k) cs
      cases e with
      | normal => exact ⟨.normal, a₁, w₁, hq, Steps.trans harr (.one step_inScope)⟩
      | exit id => exact ⟨.exit id, a₁, w₁, hq, fun k' hk => harr k' (by simp [exitTo, hk])⟩
      | goto l' =>
        obtain ⟨x', rfl, ha₁, hI₁, hlt⟩ := hq
        obtain ⟨rest2, hf2, _⟩ := pass x'
        have hg : gotoIn (lab x') (.inScope c :: k) = some (.code rest2 :: .inScope c :: k) := by simp [gotoIn, hf2]
        obtain ⟨e₂, a₂, w₂, hq₂, harr₂⟩ := ih (μ x') (hm ▸ hlt) x' rest2 a₁ w₁ rfl hf2 ha₁ hI₁
        exact ⟨e₂, a₂, w₂, hq₂, .of_steps (harr _ hg) harr₂⟩
      | ret => exact ⟨_, a₁, w₁, hq, harr⟩
      | panic ch => exact ⟨_, a₁, w₁, hq, harr⟩
      | outgrown => exact ⟨_, a₁, w₁, hq, harr⟩
  obtain ⟨e, a₁, w₁, hq, harr⟩ := first a w ha hw b (.inScope c :: k) cs
  cases e with
  | normal => exact ⟨.normal, a₁, w₁, hq, .head step_scope (Steps.trans harr (.one step_inScope))⟩
  | exit id => exact ⟨.exit id, a₁, w₁, hq, fun k' hk => .head step_scope (harr k' (by simp [exitTo, hk]))⟩
  | goto l' =>
    obtain ⟨x', rfl, ha₁, hI₁, _⟩ := hq
    obtain ⟨rest2, hf2, _⟩ := pass x'
    have hg : gotoIn (lab x') (.inScope c :: k) = some (.code rest2 :: .inScope c :: k) := by simp [gotoIn, hf2]
    obtain ⟨e₂, a₂, w₂, hq₂, harr₂⟩ := key _ x' rest2 a₁ w₁ rfl hf2 ha₁ hI₁
    exact ⟨e₂, a₂, w₂, hq₂, .of_steps (.head step_scope (harr _ hg)) harr₂⟩
  | ret => exact ⟨_, a₁, w₁, hq, .of_steps (.one step_scope) harr⟩
  | panic ch => exact ⟨_, a₁, w₁, hq, .of_steps (.one step_scope) harr⟩
  | outgrown => exact ⟨_, a₁, w₁, hq, .of_steps (.one step_scope) harr⟩

theorem VX.jump {X : Type} {lab : X → Nat} {st : X → Sl} {inv : X → World → Prop} {ok : X → Prop} {l : Nat} (x : X) (hl : lab x = l) (hs : sub (st x) σ) (hi : ∀ w, G w → inv x w) (hm : ok x) :
    VX n (jumps n lab st inv ok Q) (.goto l) σ G := fun _ w ha hw => ⟨x, hl, ha.mono hs, hi w hw, hm⟩
theorem VX.jumps_normal {X : Type} {lab : X → Nat} {st : X → Sl} {inv : X → World → Prop} {ok : X → Prop} (h : VX n Q .normal σ G) : VX n (jumps n lab st inv ok Q) .normal σ G := fun a w ha hw => h a w ha hw
theorem VX.jumps_exit {X : Type} {lab : X → Nat} {st : X → Sl} {inv : X → World → Prop} {ok : X → Prop} {id : Nat} (h : VX n Q (.exit id) σ G) : VX n (jumps n lab st inv ok Q) (.exit id) σ G := fun a w ha hw => h a w ha hw
theorem VX.jumps_ret {X : Type} {lab : X → Nat} {st : X → Sl} {inv : X → World → Prop} {ok : X → Prop} (h : VX n Q .ret σ G) : VX n (jumps n lab st inv ok Q) .ret σ G := fun a w ha hw => h a w ha hw

/-! Operations -/
variable {ops : Array Oper} {rest : List Oper}

theorem VL.nil (h : VX n Q .normal σ G) : VL P n ops Q [] σ G := fun a w ha hw => h a w ha hw

/-- An operation that leaves the world alone. -/
theorem VL.val {o : Oper} {d : Nat} {v : Value} (hg : o.guard = none) (hd : o.dst = some d) (hdn : Nat.blt d n = true)
    (hr : ∀ a w, Agr n σ a → G w → (execOp a.eval o).run P w = .ok (.value v) w) (k : VL P n ops Q rest ((d, v) :: σ) G) : VL P n ops Q (o :: rest) σ G :=
  fun a w ha hw => wpList_plain hg fun K hK => by
    unfold Oper.wp
    rw [hr a w ha hw, Oper.upon_value, hd]
    exact hK _ _ (k _ _ (ha.put hdn) hw)

/-- An operation that turns the world. -/
theorem VL.act {o : Oper} {d : Nat} {K : Value → World → Prop} (hg : o.guard = none) (hd : o.dst = some d) (hdn : Nat.blt d n = true)
    (hr : ∀ a w, Agr n σ a → G w → ∃ v w', (execOp a.eval o).run P w = .ok (.value v) w' ∧ K v w') (k : ∀ v, VL P n ops Q rest ((d, v) :: σ) (K v)) : VL P n ops Q (o :: rest) σ G :=
  fun a w ha hw => wpList_plain hg fun _ hK => by
    obtain ⟨v, w', hrun, hv⟩ := hr a w ha hw
    unfold Oper.wp
    rw [hrun, Oper.upon_value, hd]
    exact hK _ _ (k v _ _ (ha.put hdn) hv)

theorem VL.act0 {o : Oper} {K : World → Prop} (hg : o.guard = none) (hd : o.dst = none)
    (hr : ∀ a w, Agr n σ a → G w → ∃ w', (execOp a.eval o).run P w = .ok .skip w' ∧ K w') (k : VL P n ops Q rest σ K) : VL P n ops Q (o :: rest) σ G :=
  fun a w ha hw => wpList_plain hg fun _ hK => by
    obtain ⟨w', hrun, hv⟩ := hr a w ha hw
    unfold Oper.wp
    rw [hrun, Oper.upon_skip, hd]
    exact hK _ _ (k _ _ ha hv)
end
end Go.Vc
