/- wire: what gathers pieces: at its beginning, at its end. -/
import Derived.Test.YtcfecmoagfgnaaaSt
namespace Go.Proofs.Ytcfecmoagfgnaaa
open Go.Vc Go.Pl

theorem plan181 : planOf Try.prog 181 = some (placesL 0 [1, 1], (cat [[.slice none 0 0], [.bool false]]).toArray) := by kernel_rfl
theorem Own.newW {S : List Snap} {H : List Chunk} {w : World} {g : Nat} {bad : Bool} (h : Own S (blk g 181 [1, 1] [[rowV none 0 0], [.bool bad]] :: H) w) : Own S (wblk g none 0 ([] : List (List UInt8)).length bad :: brow none 0 [] :: H) w :=
  (Own.arow_nil (Mono.slice Mono.byte) 24 1 h).perm (List.Perm.swap _ _ _)
theorem fits1 {m : Nat} (h : m < 256) : Fits 1 m := h
theorem fits2 {m : Nat} (h : m < 65536) : Fits 2 m := h
theorem fits4 {m : Nat} (h : m < 4294967296) : Fits 4 m := h
theorem inr_u64 {m : Nat} (h : m < 4294967296) : InR .u64 (m : Int) :=
  ⟨Int.natCast_nonneg _, by
    have : (m : Int) ≤ 4294967296 := by omega
    exact Int.le_trans this (by decide)⟩
theorem cat_size {α : Type} {ps : List (List α)} {L : List Nat} (h : ps.map List.length = L) : (cat ps).length = L.sum := by rw [cat_eq, List.length_flatten, h]
/-- What a text's answer says: it, or none. -/
abbrev RetO (S : List Snap) (H : List Chunk) (o : Option (List UInt8)) : Ending → World → Prop := Ret fun v w' => ∃ p c, v = .tuple #[.slice p (o.getD []).length c, .bool o.isSome] ∧ Own S H w' ∧ Bytes (keys H) w' p (o.getD []) c
theorem done_O {S : List Snap} {H : List Chunk} {w : World} {g : Nat} {gp : Option Nat} {c : Nat} {parts : List (List UInt8)} {bad : Bool} (ho : Own S (wblk g gp c parts.length bad :: brow gp c parts :: H) w) : Calls Try.prog 118 #[.pointer (some ⟨g, 0, none⟩)] w (RetO S H (joinO parts (!bad))) := by
  refine calls_mono (done_w ho) fun v w' ⟨h1, h2⟩ => ?_
  rcases h2 with ⟨h3, h4, p, c, e, hA⟩ | ⟨h3, e⟩
  · have e2 : joinO parts (!bad) = some (joinB parts) := joinO_some h3 (by simp [h4])
    rw [e2]
    exact ⟨p, c, e, h1, hA⟩
  · have e2 : joinO parts (!bad) = none := joinO_none fun h => h3 ⟨h.1, by simpa using h.2⟩
    rw [e2]
    exact ⟨none, 0, e, h1, Arr.none⟩
end Go.Proofs.Ytcfecmoagfgnaaa
