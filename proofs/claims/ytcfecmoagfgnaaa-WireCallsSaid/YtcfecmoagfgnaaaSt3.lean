/- Calls as cells. -/
import Derived.Test.YtcfecmoagfgnaaaGet3
namespace Go.Proofs.Ytcfecmoagfgnaaa
open Go.Vc Go.Pl

structure Cal where
  kind : Nat
  seq : Nat
  peer : Nat
  mark : Nat
  bundles : List Bundle
  letter : Letter
structure Cal.ok (x : Cal) : Prop where
  kind : x.kind < 256
  seq : x.seq < 65536
  peer : x.peer < 256
  mark : x.mark < 65536
  bundles : ∀ b ∈ x.bundles, b.ok
  letter : x.letter.ok
def cal0 : Cal := ⟨0, 0, 0, 0, [], letter0⟩
theorem cal0_ok : cal0.ok := ⟨by decide, by decide, by decide, by decide, by simp [cal0], letter0_ok⟩
/-- The one that the law tries. -/
def cal1 : Cal := ⟨4, 1, 1, 0, [], letter0⟩
theorem cal1_ok : cal1.ok := ⟨by decide, by decide, by decide, by decide, by simp [cal1], letter0_ok⟩
def item2 : Itm := ⟨2, 1, 2, letter0, bundle0, object0⟩
theorem item2_ok : item2.ok := ⟨by decide, by decide, by decide, letter0_ok, bundle0_ok, object0_ok⟩

abbrev calV (x : Cal) (q : Option Addr) (d : Nat) (p : Option Addr) (c : Nat) : List (List Value) := [[.int .u8 x.kind], [.int .u16 x.seq], [.int .u8 x.peer], [.int .u16 x.mark], [.slice q x.bundles.length d], [.int .u8 x.letter.src], [.int .u8 x.letter.dst], x.letter.header.session.map bv, [.bool x.letter.header.first], x.letter.header.agree.map bv, x.letter.header.signer.map bv, x.letter.header.base.map bv, [.int .u16 x.letter.header.id], x.letter.header.ratchet.map bv, [.int .u16 x.letter.header.n], [.int .u16 x.letter.header.prev], [.slice p x.letter.body.length c]]
abbrev calL : List Nat := [1, 1, 1, 1, 1, 1, 1, 32, 1, 32, 32, 32, 1, 32, 1, 1, 1]
theorem zero110 : (Try.prog.info? 110).bind (·.zero) = some (.agg (cat (calV cal0 none 0 none 0)).toArray) := by kernel_rfl
theorem built110 : Try.prog.built 110 [] = some (cat (calV cal0 none 0 none 0)).toArray := by kernel_rfl
theorem guard110 : Try.prog.eqGuardType Try.prog.depth 110 = false := by kernel_rfl
abbrev calZ : List (List Value) := [[.int .u8 0], [.int .u16 0], [.int .u8 0], [.int .u16 0], [.slice none 0 0], cat (letterV letter0 none 0)]
abbrev calFL : List Nat := [1, 1, 1, 1, 1, 167]
theorem plan110 : planOf Try.prog 110 = some (placesL 0 calFL, (cat calZ).toArray) := by kernel_rfl
theorem calV_len {x : Cal} (h : x.ok) {q : Option Addr} {d : Nat} {p : Option Addr} {c : Nat} : (calV x q d p c).map List.length = calL := by simp [h.letter.header.session, h.letter.header.agree, h.letter.header.signer, h.letter.header.base, h.letter.header.ratchet]
theorem calV_ok1 (x : Cal) (q : Option Addr) (d : Nat) (p : Option Addr) (c : Nat) : ok1 (cat (calV x q d p c)) := by
  intro u hu
  rw [cat_eq] at hu
  simp only [List.mem_flatten, List.mem_cons, List.not_mem_nil, or_false] at hu
  obtain ⟨l, hl, hu⟩ := hu
  rcases hl with rfl | rfl | rfl | rfl | rfl | rfl | rfl | rfl | rfl | rfl | rfl | rfl | rfl | rfl | rfl | rfl | rfl <;> first | (simp only [List.mem_singleton] at hu; subst hu; rfl) | exact ok1_bytes _ u hu
end Go.Proofs.Ytcfecmoagfgnaaa
