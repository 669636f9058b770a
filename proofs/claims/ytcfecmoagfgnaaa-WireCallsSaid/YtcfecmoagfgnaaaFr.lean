/- The frame of every law: arguments that read as data are opened; behind the call they read as before. -/
import Derived.Test.YtcfecmoagfgnaaaVcSet
import Derived.WalkKit
import Derived.ProofKit
import Derived.OpenShut
import Derived.Carry
namespace Go.Vc
open Go.ChangeShapes Go.WideShapes Go.ChangeAt Go.RowKit

section
variable {Hh : Type} {enc : TypeId × Value → Hh} {P : Program} {W W' : World}

theorem trodAll_below (hl : laidOutB P = true) (hb : Below W.heap.size W W') : ∀ {ts : List TypeId} {vs : List Value} {ds : List (DataW Hh)} {ps : List MemPlace}, ts.all (fun t => P.readableRec t && decide (t < P.types.size)) = true →
    DataW.TrodAll enc P W 0 (fun _ => true) true ts vs ds ps → DataW.TrodAll enc P W' 0 (fun b => decide (b < W.heap.size)) true ts vs ds ps
  | [], _, _, _, _, h => by
    obtain ⟨rfl, rfl, rfl⟩ := trodAll_nil h
    exact trodAll_mk0
  | t :: ts, _, _, _, ht, h => by
    have hlt := DataW.TrodAll.lt h
    obtain ⟨v, vs, d, ds, p, q, rfl, rfl, rfl, h1, h2⟩ := trodAll_cons h
    rw [List.all_cons, Bool.and_eq_true, Bool.and_eq_true, decide_eq_true_eq] at ht
    exact ⟨p, q, Below.trod hl ht.1.1 ht.1.2 h1 hb (fun x hx => hlt x (by simp [hx])), trodAll_below hl hb ht.2 h2, rfl⟩

theorem post_of_below {fn : Func} {s : ChangeSpec} {apart fresh handsOn : Bool} {args : Array Value} {ds gs : List (DataW Hh)} {before : List MemPlace} {tb : TypeId} (hs : s.vars = []) (hrt : fn.resultTypes = #[tb]) (htb : P.underlying tb = some .bool) (hl : laidOutB P = true)
    (hts : fn.params.toList.all (fun t => P.readableRec t && decide (t < P.types.size)) = true) (hW : DataW.Whole enc P fn.params.toList s.vars apart W args.toList ds gs before) (hfn : s.fn Hh ds = { results := [.lit (.bool true)], args := ds }) (hb : Below W.heap.size W W') :
    s.post enc P fn apart fresh handsOn false W args (.bool true) W' := by
  have hW' := hW
  obtain ⟨p, q, hA, hV, hp, _, _⟩ := hW
  rw [hs] at hV
  obtain ⟨rfl, rfl⟩ := trodVars_none hV
  rw [List.append_nil] at hp
  subst hp
  refine ⟨ds, [], before, [], before, [], hW', ?_, ?_, ?_, hb.frame _, fun h => by cases h⟩
  · rw [List.append_nil, hfn, hrt]
    exact trodAll_cons_mk (p := []) (p' := []) (shut_bool htb _) trodAll_mk0
  · rw [List.append_nil, hfn]
    exact trodAll_below hl hb hts hA
  · rw [hs, List.append_nil, hfn]; rfl

/-- A law's row, from a contract of its walk. -/
theorem law_of {C : Checked} {os : Os} (started : os.Started) {f : FuncId} {fn : Func} {s : ChangeSpec} {conds : List PathCond} {enc : TypeId × Value → Hh} {tb : TypeId} (own : ownKnob C.prog.godebug = none) (noInit : C.prog.inits.idxOf? f = none) (hfn : C.prog.funcs[f]? = some fn)
    (witness : ∃ (w : World) (tape : Tape) (i : Input), w.os = os ∧ (w.forCall tape i).Shaped C.prog ∧ i.vars = [] ∧ Input.okWide C.prog (w.forCall tape i) .any w.heap.size f i ∧
      s.pre6 enc C.prog fn conds false (w.forCall tape i).memory i.args ∧ (({} : Assume).holds C.prog (lone (Frame.enter C.prog f i.args .normal) [] (w.forCall tape i))))
    (hs : s.vars = []) (hrt : fn.resultTypes = #[tb]) (htb : C.prog.underlying tb = some .bool) (hl : laidOutB C.prog = true) (hts : fn.params.toList.all (fun t => C.prog.readableRec t && decide (t < C.prog.types.size)) = true)
    (h : ∀ (W : World) (base : Nat) (args : Array Value) (ds : List (DataW Hh)) (ps : List MemPlace), (∀ (j : Nat) t v, fn.params[j]? = some t → args[j]? = some v → Value.okWide C.prog W .any base t v) →
      DataW.TrodAll enc C.prog W 0 (fun _ => true) true fn.params.toList args.toList ds ps → (DataW.weightsEach C.prog fn.params.toList ds).all (· ≤ reachBytes) = true →
      s.fn Hh ds = { results := [.lit (.bool true)], args := ds } ∧ Calls C.prog f args W (Ret fun v w' => v = .bool true ∧ Own [⟨W, []⟩] [] w')) :
    ReturnsInHanded {} C os f .any (s.pre6 enc C.prog fn conds false) (s.post enc C.prog fn false true false false) := by
  refine returnsInHanded_of_change_sized own started noInit hfn witness ?_
  intro W base args ds gs before hval hW _ hsz _
  have hW' := hW
  obtain ⟨p, q, hA, hV, hp, _, _⟩ := hW
  rw [hs] at hV
  obtain ⟨rfl, rfl⟩ := trodVars_none hV
  have hsz' : (DataW.weightsEach C.prog fn.params.toList ds).all (· ≤ reachBytes) = true := by
    have e : s.plain.varTypes C.prog = [] := by
      unfold ChangeSpec.plain DataSpec.varTypes
      simp [hs]
    rw [e, List.append_nil, List.append_nil] at hsz
    exact hsz
  obtain ⟨h1, h2⟩ := h W base args ds p hval hA hsz'
  refine h2.mono fun e W' he => ?_
  cases e with
  | returned v =>
    obtain ⟨rfl, ho⟩ := he
    exact ⟨_, rfl, post_of_below hs hrt htb hl hts hW' h1 (ho.below (by simp))⟩
  | panicked _ => exact he.elim
  | outgrown => exact he.elim

/-! ### Arguments, opened -/
/-- What a reading's cells say. -/
def Opens (enc : TypeId × Value → Hh) (P : Program) (W : World) (t : TypeId) {X : Type} (R : Rel X) : Prop :=
  ∀ fuel cs x, DataW.trod enc P W 0 (fun _ => true) true fuel t cs = some x → ∃ y, R [] W cs y

theorem pick_list {X : Type} {p : Nat → X → Prop} : ∀ n, (∀ i, i < n → ∃ y, p i y) → ∃ ys : List X, ys.length = n ∧ ∀ i y, ys[i]? = some y → p i y
  | 0, _ => ⟨[], rfl, by simp⟩
  | n + 1, h => by
    obtain ⟨ys, h1, h2⟩ := pick_list n (fun i hi => h i (by omega))
    obtain ⟨y, hy⟩ := h n (by omega)
    refine ⟨ys ++ [y], by simp [h1], fun i z hz => ?_⟩
    rw [List.getElem?_append] at hz
    split at hz
    · exact h2 i z hz
    · rename_i hi
      have : i = n := by
        have := (List.getElem?_eq_some_iff.1 hz).1
        simp at this; omega
      subst this
      simp [h1] at hz
      subst hz; exact hy

theorem Opens.u8 {t : TypeId} (ht : P.underlying t = some (.int .u8)) : Opens enc P W t byteR := by
  intro fuel cs x h
  cases fuel with
  | zero => simp [DataW.trod] at h
  | succ n =>
    unfold DataW.trod at h
    rw [ht] at h
    split at h <;> simp_all
    rename_i k0 k n' heq
    subst heq
    obtain ⟨⟨_, hw⟩, _⟩ := h
    have hb := bounds_u8 hw
    refine ⟨UInt8.ofNat n'.toNat, ?_⟩
    show _ = [bv _]
    have : (UInt8.ofNat n'.toNat).toNat = n'.toNat := by simp; omega
    unfold bv
    rw [this]
    simp
    omega

theorem Opens.slice {t e : TypeId} {X : Type} {R : Rel X} {sz : Nat} (ht : P.underlying t = some (.slice e)) (hsz : P.cellsOf e = sz) (hpos : 0 < sz) (he : Opens enc P W e R) : Opens enc P W t (RV sz R) := by
  intro fuel cs x h
  subst hsz
  rcases DataW.trod_slice ht h with ⟨rfl, _⟩ | ⟨a, len, cap, elems, rest, n, _, rfl, _, hb, hl, hm, hlen, hel, hsp, _⟩
  · exact ⟨[], none, 0, rfl, Arr.none⟩
  · obtain ⟨hrl, hre⟩ := hsp rfl
    have each : ∀ i, i < len → ∃ y, ∃ vs : List Value, vs.length = P.cellsOf e ∧ R [] W vs y ∧ ∀ j v, vs[j]? = some v → W.cell? ((a.add (i * P.cellsOf e)).add j) = some v := by
      intro i hi
      have h1 := hel i hi
      rw [List.getElem?_eq_getElem (by omega)] at h1
      cases hc : W.cells? 0 (a.add (i * P.cellsOf e)) (P.cellsOf e) with
      | none => simp [hc] at h1
      | some vs =>
        simp [hc] at h1
        obtain ⟨y, hy⟩ := he _ _ _ h1
        obtain ⟨h2, h3, h4⟩ := World.cells?_some hc
        refine ⟨y, vs, h3, hy, fun j v hj => ?_⟩
        have hjl := (List.getElem?_eq_some_iff.1 hj).1
        rw [h4 j (by omega)]; exact hj
    obtain ⟨ys, hys, hyp⟩ := pick_list len each
    subst hys
    refine ⟨ys, some a, cap, rfl, hl, hm, fun e => (by cases e), fun a' ea hc0 => ?_⟩
    simp at ea; subst ea
    -- the first cell is there
    have hfirst : ∃ v, W.cell? a = some v := by
      have key : ∀ z, (W.cells? 0 (a.add 0) (P.cellsOf e)).bind (DataW.trod enc P W 0 (fun _ => true) true n e) = some z → ∃ v, W.cell? a = some v := by
        intro z hz
        cases hc : W.cells? 0 (a.add 0) (P.cellsOf e) with
        | none => simp [hc] at hz
        | some vs =>
          obtain ⟨h2, h3, h4⟩ := World.cells?_some hc
          have := h4 0 hpos
          rw [List.getElem?_eq_getElem (by omega)] at this
          exact ⟨_, by simpa [Addr.add] using this⟩
      by_cases h0 : 0 < ys.length
      · have h1 := hel 0 h0
        rw [List.getElem?_eq_getElem (by omega), Nat.zero_mul] at h1
        exact key _ h1
      · have h1 := hre 0 (by omega)
        rw [List.getElem?_eq_getElem (by omega)] at h1
        have e0 : (ys.length + 0) * P.cellsOf e = 0 := by rw [show ys.length + 0 = 0 by omega, Nat.zero_mul]
        rw [e0] at h1
        exact key _ h1
    obtain ⟨v0, hv0⟩ := hfirst
    unfold World.cell? at hv0
    cases hh : W.heap[a.block]? with
    | none => simp [hh] at hv0
    | some o =>
      cases o with
      | cells c el fr =>
        simp only [hh] at hv0
        have hspot : a.spot = none := by
          cases hs : a.spot with
          | none => rfl
          | some _ => simp [hs] at hv0
        refine ⟨hspot, by simp, (Array.getElem?_eq_some_iff.1 hh).1, c, el, fr, rfl, fun j y hj => ?_⟩
        obtain ⟨vs, f1, f2, f3⟩ := hyp j y hj
        refine ⟨vs, f1, f2, fun i v hv => ?_⟩
        have := f3 i v hv
        have ea : (a.add (j * P.cellsOf e)).add i = ⟨a.block, a.off + (j * P.cellsOf e + i), none⟩ := by
          obtain ⟨ab, ao, asp⟩ := a
          simp at hspot; subst hspot
          rw [add_lit, add_lit, Nat.add_assoc]
        rw [ea] at this
        simpa [World.cell?, hh] using this
      | _ => simp [hh] at hv0

theorem Opens.value {t e : TypeId} {X : Type} {R : Rel X} {sz : Nat} {r : Reach} {base : Nat} {v : Value} {d : DataW Hh} {ps : List MemPlace} (ht : P.underlying t = some (.slice e)) (h : Opens enc P W t (RV sz R)) (hval : Value.okWide P W r base t v) (hd : DataW.Trod enc P W 0 (fun _ => true) true t v d ps) :
    ∃ p xs c, v = .slice p xs.length c ∧ Arr sz R [] W p xs c := by
  obtain ⟨fuel, hf⟩ := hd
  obtain ⟨xs, p, c, hv, hA⟩ := h _ _ _ hf
  refine ⟨p, xs, c, ?_, hA⟩
  have hsl : ∃ p n c, v = .slice p n c := by
    unfold Value.okWide Cell.okWide Cell.ok at hval
    rw [ht] at hval
    cases v <;> simp at hval ⊢
  obtain ⟨p', n', c', rfl⟩ := hsl
  simpa [Value.cells] using hv
end
end Go.Vc
