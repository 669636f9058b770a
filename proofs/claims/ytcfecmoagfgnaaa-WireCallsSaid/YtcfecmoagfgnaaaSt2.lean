/- Items as cells. -/
import Derived.Test.YtcfecmoagfgnaaaPut2
import Derived.Test.YtcfecmoagfgnaaaPl4
namespace Go.Proofs.Ytcfecmoagfgnaaa
open Go.Vc Go.Pl

abbrev itemV (x : Itm) (p : Option Addr) (c : Nat) (q : Option Addr) (d : Nat) : List (List Value) := [[.int .u8 x.kind], [.int .u8 x.asker], [.int .u8 x.peer], [.int .u8 x.letter.src], [.int .u8 x.letter.dst], x.letter.header.session.map bv, [.bool x.letter.header.first], x.letter.header.agree.map bv, x.letter.header.signer.map bv, x.letter.header.base.map bv, [.int .u16 x.letter.header.id], x.letter.header.ratchet.map bv, [.int .u16 x.letter.header.n], [.int .u16 x.letter.header.prev], [.slice p x.letter.body.length c], [.int .u8 x.bundle.device], x.bundle.agree.map bv, x.bundle.signer.map bv, [.int .u16 x.bundle.id], x.bundle.once.map bv, x.bundle.sig.map bv, [.int .u8 x.object.server], [.int .u8 x.object.n], x.object.key.map bv, [.int .u32 x.object.since], [.int .u32 x.object.till], x.object.sig.map bv, [.slice q x.object.vouches.length d]]
abbrev itemL : List Nat := [1, 1, 1, 1, 1, 32, 1, 32, 32, 32, 1, 32, 1, 1, 1, 1, 32, 32, 1, 32, 64, 1, 1, 32, 1, 1, 64, 1]
theorem zero87 : (Try.prog.info? 87).bind (·.zero) = some (.agg (cat (itemV item0 none 0 none 0)).toArray) := by kernel_rfl
theorem built87 : Try.prog.built 87 [] = some (cat (itemV item0 none 0 none 0)).toArray := by kernel_rfl
theorem guard87 : Try.prog.eqGuardType Try.prog.depth 87 = false := by kernel_rfl
abbrev itemZ : List (List Value) := [[.int .u8 0], [.int .u8 0], [.int .u8 0], cat (letterV letter0 none 0), cat (bundleV bundle0), cat (objectV object0 none 0)]
abbrev itemFL : List Nat := [1, 1, 1, 167, 162, 101]
theorem plan87 : planOf Try.prog 87 = some (placesL 0 itemFL, (cat itemZ).toArray) := by kernel_rfl
theorem itemV_len {x : Itm} (h : x.ok) {p : Option Addr} {c : Nat} {q : Option Addr} {d : Nat} : (itemV x p c q d).map List.length = itemL := by simp [h.letter.header.session, h.letter.header.agree, h.letter.header.signer, h.letter.header.base, h.letter.header.ratchet, h.bundle.agree, h.bundle.signer, h.bundle.once, h.bundle.sig, h.object.key, h.object.sig]
theorem itemV_ok1 (x : Itm) (p : Option Addr) (c : Nat) (q : Option Addr) (d : Nat) : ok1 (cat (itemV x p c q d)) := by
  intro u hu
  rw [cat_eq] at hu
  simp only [List.mem_flatten, List.mem_cons, List.not_mem_nil, or_false] at hu
  obtain ⟨l, hl, hu⟩ := hu
  rcases hl with rfl | rfl | rfl | rfl | rfl | rfl | rfl | rfl | rfl | rfl | rfl | rfl | rfl | rfl | rfl | rfl | rfl | rfl | rfl | rfl | rfl | rfl | rfl | rfl | rfl | rfl | rfl | rfl <;> first | (simp only [List.mem_singleton] at hu; subst hu; rfl) | exact ok1_bytes _ u hu
end Go.Proofs.Ytcfecmoagfgnaaa
