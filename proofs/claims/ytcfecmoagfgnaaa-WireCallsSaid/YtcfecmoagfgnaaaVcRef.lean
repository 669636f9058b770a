/- A row of slices that the call keeps in its hand. -/
import Derived.Test.YtcfecmoagfgnaaaRef2
namespace Go.Vc
open Go.Proofs.Ytcfecmoagfgnaaa
section
variable {P : Program} {n : Nat} {Q : Exit → Act → World → Prop} {σ : Sl} {ops : Array Oper} {rest : List Oper} {d : Nat} {ty : TypeId} {pos : String} {aft : Array Edge} {S : List Snap} {H : List Chunk}
theorem VL.litB {t : TypeId} {by_ : Nat} {z : Value} {len : Nat} {parts : List (Nat × Operand)} {vs : List Value} (ls : List (List UInt8)) (hE : Elem P t 24 1 by_ z) (hlen : Nat.ble (len * 1) 16777216 = true) (hk : parts.length = len)
    (hp : evps σ 0 parts = some vs) (hv : ∀ v ∈ vs, v.cells.size = 1) (h1 : ok1 (vs.flatMap (·.cells.toList))) (hm : len = ls.length)
    (hr : ∀ g w, Own S (row 24 1 (some g) len len (vs.flatMap (·.cells.toList)) :: H) w → RowOf (keys (row 24 1 (some g) len len (vs.flatMap (·.cells.toList)) :: H)) w (vs.flatMap (·.cells.toList)) ls)
    (h : ∀ v, VL P n ops Q rest ((d, v) :: σ) (fun w' => ∃ g, v = rowV (some g) len len ∧ Own S (brow (some g) len ls :: H) w')) (hdn : Nat.blt d n = true := by rfl) : VL P n ops Q (⟨some d, .buildSlice t len parts.toArray, ty, pos, aft, none⟩ :: rest) σ (Own S H) :=
  VL.lit hE hlen hk hp hv h1 (fun g => VL.turn (fun w' hw => ⟨g, rfl, hw.asArr (Mono.slice Mono.byte) hm ((hr g w' hw).at_)⟩) (h (rowV (some g) len len))) hdn
/-- An array in an element of a slice, as a slice. -/
theorem VL.sliceIn {X : Type} {R : Rel X} {sz c : Nat} {xs : List X} {p : Option Addr} {K : List Nat} {w' : World} {G : World → Prop} {t e : TypeId} {m o : Nat} {x : Operand} {y : X} (j i : Nat) (l : List UInt8) (ht : P.underlying t = some (.array m e)) (he : ((P.info? e).map (·.size)).isSome = true) (hx : ev σ x = some (pAt p o)) (hA : Arr sz R K w' p xs c)
    (hj : xs[j]? = some y) (ho : o = j * sz + i) (hl : l.length = m) (hm : m ≤ maxLen) (hr : ∀ vs, R K w' vs y → (vs.drop i).take m = l.map bv)
    (h : ∀ q, Bytes K w' (some q) l m → VL P n ops Q rest ((d, .slice (some q) l.length m) :: σ) G) (hdn : Nat.blt d n = true := by rfl) : VL P n ops Q (⟨some d, .slice t x none none none, ty, pos, aft, none⟩ :: rest) σ G := by
  have hn := (List.getElem?_eq_some_iff.1 hj).1
  obtain ⟨a, rfl⟩ := hA.isAt (by omega)
  have hc0 : 0 < c := by have := hA.le; omega
  obtain ⟨h1, h2, h3, cs, el, fr, hg, hcs⟩ := hA.at_ a rfl hc0
  obtain ⟨vs, hvl, hvr, hvc⟩ := hcs j y hj
  have hB : Bytes K w' (some ⟨a.block, a.off + o, none⟩) l m := by
    refine ⟨by omega, hm, fun e => (by cases e), fun a' ea _ => ?_⟩
    cases ea
    refine ⟨rfl, h2, h3, cs, el, fr, hg, fun k b hk => ⟨[bv b], rfl, rfl, fun q v hv => ?_⟩⟩
    have hq : q = 0 := by have := (List.getElem?_eq_some_iff.1 hv).1; simp at this; exact this
    subst hq
    simp at hv; subst hv
    have hkl := (List.getElem?_eq_some_iff.1 hk).1
    have e1 : ((vs.drop i).take m)[k]? = some (bv b) := by rw [hr vs hvr, List.getElem?_map, hk]; rfl
    rw [List.getElem?_take_of_lt (by omega), List.getElem?_drop] at e1
    have := hvc (i + k) (bv b) e1
    rw [show (⟨a.block, a.off + o, none⟩ : Addr).off + (k * 1 + 0) = a.off + (j * sz + (i + k)) by show a.off + o + (k * 1 + 0) = _; omega]
    exact this
  have := h ⟨a.block, a.off + o, none⟩ hB
  rw [hl] at this
  exact VL.sliceArrAt ht he (by rw [hx]; rfl) this hdn
theorem VL.appendsB {X : Type} {R : Rel X} {hR : Mono R} {G : World → Prop} {x y : Operand} {t e : TypeId} {sz by_ : Nat} {z : Value} {tys : Array TypeId} {g : Option Nat} {c cap : Nat} {ys zs : List X} {p : Option Addr} (i : Nat) (hE : Elem P t e sz by_ z) (htys : tys = #[t, t])
    (hx : ev σ x = some (rowV g ys.length c)) (hy : ev σ y = some (.slice p zs.length cap)) (hG : ∀ w, G w → Own S H w) (hi : H[i]? = some (arow e sz R hR g c ys)) (hA : ∀ w, G w → Arr sz R (keys H) w p zs cap) (h1 : ∀ K w vs y, R K w vs y → ok1 vs) (hb : (ys.length + zs.length) * by_ ≤ 140737488355328)
    (h : ∀ v, VL P n ops Q rest ((d, v) :: σ) (fun w' => ∃ g' c', v = rowV g' (ys ++ zs).length c' ∧ Own S (H.set i (arow e sz R hR g' c' (ys ++ zs))) w')) (hm : ys.length + zs.length ≤ 9223372036854775807 := by omega) (hdn : Nat.blt d n = true := by rfl) : VL P n ops Q (⟨some d, .call ⟨.builtin .append, #[x, y], tys⟩, ty, pos, aft, none⟩ :: rest) σ G :=
  VL.appends i hE htys hx hy hG hi hA h1 hb (fun g' c' => VL.turn (fun w' hw => ⟨g', c', rfl, hw⟩) (h (rowV g' (ys ++ zs).length c'))) hm hdn
theorem bytesR_ok1 : ∀ (K : List Nat) (w : World) (vs : List Value) (y : List UInt8), bytesR K w vs y → ok1 vs := by
  rintro K w vs y ⟨p, c, rfl, _⟩ u hu
  simp at hu; subst hu; rfl
end
end Go.Vc
