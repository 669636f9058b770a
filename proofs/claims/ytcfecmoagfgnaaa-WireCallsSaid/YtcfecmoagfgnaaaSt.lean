/- The things as cells: their parts, their zeros; one against the other. -/
import Derived.Test.YtcfecmoagfgnaaaVcFz
import Derived.Test.YtcfecmoagfgnaaaPl3
import Derived.Test.YtcfecmoagfgnaaaRd2
namespace Go.Proofs.Ytcfecmoagfgnaaa
open Go.Vc Go.Pl

abbrev headerV (x : Header)  : List (List Value) := [x.session.map bv, [.bool x.first], x.agree.map bv, x.signer.map bv, x.base.map bv, [.int .u16 x.id], x.ratchet.map bv, [.int .u16 x.n], [.int .u16 x.prev]]
abbrev headerL : List Nat := [32, 1, 32, 32, 32, 1, 32, 1, 1]
theorem zero70 : (Try.prog.info? 70).bind (·.zero) = some (.agg (cat (headerV header0 )).toArray) := by kernel_rfl
theorem built70 : Try.prog.built 70 [] = some (cat (headerV header0 )).toArray := by kernel_rfl
theorem guard70 : Try.prog.eqGuardType Try.prog.depth 70 = false := by kernel_rfl
abbrev headerZ : List (List Value) := [(zeros 32).map bv, [.bool false], (zeros 32).map bv, (zeros 32).map bv, (zeros 32).map bv, [.int .u16 0], (zeros 32).map bv, [.int .u16 0], [.int .u16 0]]
abbrev headerFL : List Nat := [32, 1, 32, 32, 32, 1, 32, 1, 1]
theorem plan70 : planOf Try.prog 70 = some (placesL 0 headerFL, (cat headerZ).toArray) := by kernel_rfl
theorem headerV_len {x : Header} (h : x.ok)  : (headerV x ).map List.length = headerL := by simp [h.session, h.agree, h.signer, h.base, h.ratchet]
theorem headerV_ok1 (x : Header)  : ok1 (cat (headerV x )) := by
  intro u hu
  rw [cat_eq] at hu
  simp only [List.mem_flatten, List.mem_cons, List.not_mem_nil, or_false] at hu
  obtain ⟨l, hl, hu⟩ := hu
  rcases hl with rfl | rfl | rfl | rfl | rfl | rfl | rfl | rfl | rfl <;> first | (simp only [List.mem_singleton] at hu; subst hu; rfl) | exact ok1_bytes _ u hu
abbrev bundleV (x : Bundle)  : List (List Value) := [[.int .u8 x.device], x.agree.map bv, x.signer.map bv, [.int .u16 x.id], x.once.map bv, x.sig.map bv]
abbrev bundleL : List Nat := [1, 32, 32, 1, 32, 64]
theorem zero82 : (Try.prog.info? 82).bind (·.zero) = some (.agg (cat (bundleV bundle0 )).toArray) := by kernel_rfl
theorem built82 : Try.prog.built 82 [] = some (cat (bundleV bundle0 )).toArray := by kernel_rfl
theorem guard82 : Try.prog.eqGuardType Try.prog.depth 82 = false := by kernel_rfl
abbrev bundleZ : List (List Value) := [[.int .u8 0], (zeros 32).map bv, (zeros 32).map bv, [.int .u16 0], (zeros 32).map bv, (zeros 64).map bv]
abbrev bundleFL : List Nat := [1, 32, 32, 1, 32, 64]
theorem plan82 : planOf Try.prog 82 = some (placesL 0 bundleFL, (cat bundleZ).toArray) := by kernel_rfl
theorem bundleV_len {x : Bundle} (h : x.ok)  : (bundleV x ).map List.length = bundleL := by simp [h.agree, h.signer, h.once, h.sig]
theorem bundleV_ok1 (x : Bundle)  : ok1 (cat (bundleV x )) := by
  intro u hu
  rw [cat_eq] at hu
  simp only [List.mem_flatten, List.mem_cons, List.not_mem_nil, or_false] at hu
  obtain ⟨l, hl, hu⟩ := hu
  rcases hl with rfl | rfl | rfl | rfl | rfl | rfl <;> first | (simp only [List.mem_singleton] at hu; subst hu; rfl) | exact ok1_bytes _ u hu
abbrev letterV (x : Letter) (p : Option Addr) (c : Nat) : List (List Value) := [[.int .u8 x.src], [.int .u8 x.dst], x.header.session.map bv, [.bool x.header.first], x.header.agree.map bv, x.header.signer.map bv, x.header.base.map bv, [.int .u16 x.header.id], x.header.ratchet.map bv, [.int .u16 x.header.n], [.int .u16 x.header.prev], [.slice p x.body.length c]]
abbrev letterL : List Nat := [1, 1, 32, 1, 32, 32, 32, 1, 32, 1, 1, 1]
theorem zero72 : (Try.prog.info? 72).bind (·.zero) = some (.agg (cat (letterV letter0 none 0)).toArray) := by kernel_rfl
theorem built72 : Try.prog.built 72 [] = some (cat (letterV letter0 none 0)).toArray := by kernel_rfl
theorem guard72 : Try.prog.eqGuardType Try.prog.depth 72 = false := by kernel_rfl
abbrev letterZ : List (List Value) := [[.int .u8 0], [.int .u8 0], cat (headerV header0), [.slice none 0 0]]
abbrev letterFL : List Nat := [1, 1, 164, 1]
theorem plan72 : planOf Try.prog 72 = some (placesL 0 letterFL, (cat letterZ).toArray) := by kernel_rfl
theorem letterV_len {x : Letter} (h : x.ok) {p : Option Addr} {c : Nat} : (letterV x p c).map List.length = letterL := by simp [h.header.session, h.header.agree, h.header.signer, h.header.base, h.header.ratchet]
theorem letterV_ok1 (x : Letter) (p : Option Addr) (c : Nat) : ok1 (cat (letterV x p c)) := by
  intro u hu
  rw [cat_eq] at hu
  simp only [List.mem_flatten, List.mem_cons, List.not_mem_nil, or_false] at hu
  obtain ⟨l, hl, hu⟩ := hu
  rcases hl with rfl | rfl | rfl | rfl | rfl | rfl | rfl | rfl | rfl | rfl | rfl | rfl <;> first | (simp only [List.mem_singleton] at hu; subst hu; rfl) | exact ok1_bytes _ u hu
abbrev vouchV (x : Vouch)  : List (List Value) := [[.int .u8 x.notary], x.sig.map bv]
abbrev vouchL : List Nat := [1, 64]
theorem zero202 : (Try.prog.info? 202).bind (·.zero) = some (.agg (cat (vouchV vouch0 )).toArray) := by kernel_rfl
theorem built202 : Try.prog.built 202 [] = some (cat (vouchV vouch0 )).toArray := by kernel_rfl
theorem guard202 : Try.prog.eqGuardType Try.prog.depth 202 = false := by kernel_rfl
abbrev vouchZ : List (List Value) := [[.int .u8 0], (zeros 64).map bv]
abbrev vouchFL : List Nat := [1, 64]
theorem plan202 : planOf Try.prog 202 = some (placesL 0 vouchFL, (cat vouchZ).toArray) := by kernel_rfl
theorem vouchV_len {x : Vouch} (h : x.ok)  : (vouchV x ).map List.length = vouchL := by simp [h.sig]
theorem vouchV_ok1 (x : Vouch)  : ok1 (cat (vouchV x )) := by
  intro u hu
  rw [cat_eq] at hu
  simp only [List.mem_flatten, List.mem_cons, List.not_mem_nil, or_false] at hu
  obtain ⟨l, hl, hu⟩ := hu
  rcases hl with rfl | rfl <;> first | (simp only [List.mem_singleton] at hu; subst hu; rfl) | exact ok1_bytes _ u hu
abbrev objectV (x : Object) (q : Option Addr) (d : Nat) : List (List Value) := [[.int .u8 x.server], [.int .u8 x.n], x.key.map bv, [.int .u32 x.since], [.int .u32 x.till], x.sig.map bv, [.slice q x.vouches.length d]]
abbrev objectL : List Nat := [1, 1, 32, 1, 1, 64, 1]
theorem zero85 : (Try.prog.info? 85).bind (·.zero) = some (.agg (cat (objectV object0 none 0)).toArray) := by kernel_rfl
theorem built85 : Try.prog.built 85 [] = some (cat (objectV object0 none 0)).toArray := by kernel_rfl
theorem guard85 : Try.prog.eqGuardType Try.prog.depth 85 = false := by kernel_rfl
abbrev objectZ : List (List Value) := [[.int .u8 0], [.int .u8 0], (zeros 32).map bv, [.int .u32 0], [.int .u32 0], (zeros 64).map bv, [.slice none 0 0]]
abbrev objectFL : List Nat := [1, 1, 32, 1, 1, 64, 1]
theorem plan85 : planOf Try.prog 85 = some (placesL 0 objectFL, (cat objectZ).toArray) := by kernel_rfl
theorem objectV_len {x : Object} (h : x.ok) {q : Option Addr} {d : Nat} : (objectV x q d).map List.length = objectL := by simp [h.key, h.sig]
theorem objectV_ok1 (x : Object) (q : Option Addr) (d : Nat) : ok1 (cat (objectV x q d)) := by
  intro u hu
  rw [cat_eq] at hu
  simp only [List.mem_flatten, List.mem_cons, List.not_mem_nil, or_false] at hu
  obtain ⟨l, hl, hu⟩ := hu
  rcases hl with rfl | rfl | rfl | rfl | rfl | rfl | rfl <;> first | (simp only [List.mem_singleton] at hu; subst hu; rfl) | exact ok1_bytes _ u hu
theorem arr_len {l : List UInt8} {n : Nat} (h : l.length = n) : [l.map bv].map List.length = [n] := by simp [h]
theorem arr_q {l : List UInt8} {n : Nat} (h : l.length = n) : some n = some (l.map bv).length := by simp [h]
theorem guard80 : Try.prog.eqGuardType Try.prog.depth 80 = false := by kernel_rfl
theorem built44 : Try.prog.built 44 [] = some ((zeros 32).map bv).toArray := by kernel_rfl
theorem built80 : Try.prog.built 80 [] = some ((zeros 64).map bv).toArray := by kernel_rfl
theorem built43 : Try.prog.built 43 [] = some ((zeros 32).map bv).toArray := by kernel_rfl
theorem zero43 : (Try.prog.info? 43).bind (·.zero) = some (.agg ((zeros 32).map bv).toArray) := by kernel_rfl
theorem zero79 : (Try.prog.info? 79).bind (·.zero) = some (.agg ((zeros 64).map bv).toArray) := by kernel_rfl
theorem eqKey {l r : List UInt8} (k : Nat) (hl : l.length = 32) (hr : r.length = 32) : EqT Try.prog (k + 2) 44 (.agg (l.map bv).toArray) (.agg (r.map bv).toArray) (l = r) := EqT.arr Try.underlying44 Try.underlying5 kd5 hl hr
theorem eqSig {l r : List UInt8} (k : Nat) (hl : l.length = 64) (hr : r.length = 64) : EqT Try.prog (k + 2) 80 (.agg (l.map bv).toArray) (.agg (r.map bv).toArray) (l = r) := EqT.arr Try.underlying80 Try.underlying5 kd5 hl hr
def vouchR : Rel Vouch := fun _ _ vs v => v.ok ∧ vs = cat (vouchV v)
theorem Mono_vouch : Mono vouchR := fun _ _ _ _ _ _ h => h
theorem natInt {a b : Nat} : ((a : Int) = (b : Int)) ↔ a = b := Int.natCast_inj

theorem eqHeader {x y : Header} (hx : x.ok) (hy : y.ok) : EqT Try.prog 10000 70 (.agg (cat (headerV x)).toArray) (.agg (cat (headerV y)).toArray) (x = y) := by
  refine (EqT.struct (P := Try.prog) (d := 9999) (t := 70) (ps := headerV x) (qs := headerV y) (bs := [x.session = y.session, x.first = y.first, x.agree = y.agree, x.signer = y.signer, x.base = y.base, x.id = y.id, x.ratchet = y.ratchet, x.n = y.n, x.prev = y.prev]) (by kernel_rfl) (by kernel_rfl) (by kernel_rfl) ?_).imp ?_
  · rw [show ((Try.prog.fieldsOf 70).toList.map fun f => (f.type, f.offset)) = [(44, 0), (4, 32), (44, 33), (44, 65), (44, 97), (68, 129), (44, 130), (68, 162), (68, 163)] by kernel_rfl]
    exact ⟨⟨by simp [List.length_map, hx.session, List.length_map, hx.agree, List.length_map, hx.signer, List.length_map, hx.base, List.length_map, hx.ratchet], by simp [hx.session, hy.session], .inr ⟨by rw [List.length_map, hx.session]; exact kd44, eqKey 9997 hx.session hy.session⟩⟩, ⟨⟨by simp [List.length_map, hx.session, List.length_map, hx.agree, List.length_map, hx.signer, List.length_map, hx.base, List.length_map, hx.ratchet], rfl, .inl ⟨kd4, _, _, rfl, rfl, EqT.bool Try.underlying4⟩⟩, ⟨⟨by simp [List.length_map, hx.session, List.length_map, hx.agree, List.length_map, hx.signer, List.length_map, hx.base, List.length_map, hx.ratchet], by simp [hx.agree, hy.agree], .inr ⟨by rw [List.length_map, hx.agree]; exact kd44, eqKey 9997 hx.agree hy.agree⟩⟩, ⟨⟨by simp [List.length_map, hx.session, List.length_map, hx.agree, List.length_map, hx.signer, List.length_map, hx.base, List.length_map, hx.ratchet], by simp [hx.signer, hy.signer], .inr ⟨by rw [List.length_map, hx.signer]; exact kd44, eqKey 9997 hx.signer hy.signer⟩⟩, ⟨⟨by simp [List.length_map, hx.session, List.length_map, hx.agree, List.length_map, hx.signer, List.length_map, hx.base, List.length_map, hx.ratchet], by simp [hx.base, hy.base], .inr ⟨by rw [List.length_map, hx.base]; exact kd44, eqKey 9997 hx.base hy.base⟩⟩, ⟨⟨by simp [List.length_map, hx.session, List.length_map, hx.agree, List.length_map, hx.signer, List.length_map, hx.base, List.length_map, hx.ratchet], rfl, .inl ⟨kd68, _, _, rfl, rfl, (EqT.int Try.underlying68).imp natInt⟩⟩, ⟨⟨by simp [List.length_map, hx.session, List.length_map, hx.agree, List.length_map, hx.signer, List.length_map, hx.base, List.length_map, hx.ratchet], by simp [hx.ratchet, hy.ratchet], .inr ⟨by rw [List.length_map, hx.ratchet]; exact kd44, eqKey 9997 hx.ratchet hy.ratchet⟩⟩, ⟨⟨by simp [List.length_map, hx.session, List.length_map, hx.agree, List.length_map, hx.signer, List.length_map, hx.base, List.length_map, hx.ratchet], rfl, .inl ⟨kd68, _, _, rfl, rfl, (EqT.int Try.underlying68).imp natInt⟩⟩, ⟨⟨by simp [List.length_map, hx.session, List.length_map, hx.agree, List.length_map, hx.signer, List.length_map, hx.base, List.length_map, hx.ratchet], rfl, .inl ⟨kd68, _, _, rfl, rfl, (EqT.int Try.underlying68).imp natInt⟩⟩, trivial⟩⟩⟩⟩⟩⟩⟩⟩⟩
  · constructor
    · rintro ⟨h0, h1, h2, h3, h4, h5, h6, h7, h8, _⟩
      obtain ⟨a0, a1, a2, a3, a4, a5, a6, a7, a8⟩ := x
      obtain ⟨b0, b1, b2, b3, b4, b5, b6, b7, b8⟩ := y
      simp only at h0 h1 h2 h3 h4 h5 h6 h7 h8
      subst h0 h1 h2 h3 h4 h5 h6 h7 h8
      rfl
    · rintro rfl
      exact ⟨rfl, rfl, rfl, rfl, rfl, rfl, rfl, rfl, rfl, trivial⟩
theorem eqBundle {x y : Bundle} (hx : x.ok) (hy : y.ok) : EqT Try.prog 10000 82 (.agg (cat (bundleV x)).toArray) (.agg (cat (bundleV y)).toArray) (x = y) := by
  refine (EqT.struct (P := Try.prog) (d := 9999) (t := 82) (ps := bundleV x) (qs := bundleV y) (bs := [x.device = y.device, x.agree = y.agree, x.signer = y.signer, x.id = y.id, x.once = y.once, x.sig = y.sig]) (by kernel_rfl) (by kernel_rfl) (by kernel_rfl) ?_).imp ?_
  · rw [show ((Try.prog.fieldsOf 82).toList.map fun f => (f.type, f.offset)) = [(5, 0), (44, 1), (44, 33), (68, 65), (44, 66), (80, 98)] by kernel_rfl]
    exact ⟨⟨by simp [List.length_map, hx.agree, List.length_map, hx.signer, List.length_map, hx.once, List.length_map, hx.sig], rfl, .inl ⟨kd5, _, _, rfl, rfl, (EqT.int Try.underlying5).imp natInt⟩⟩, ⟨⟨by simp [List.length_map, hx.agree, List.length_map, hx.signer, List.length_map, hx.once, List.length_map, hx.sig], by simp [hx.agree, hy.agree], .inr ⟨by rw [List.length_map, hx.agree]; exact kd44, eqKey 9997 hx.agree hy.agree⟩⟩, ⟨⟨by simp [List.length_map, hx.agree, List.length_map, hx.signer, List.length_map, hx.once, List.length_map, hx.sig], by simp [hx.signer, hy.signer], .inr ⟨by rw [List.length_map, hx.signer]; exact kd44, eqKey 9997 hx.signer hy.signer⟩⟩, ⟨⟨by simp [List.length_map, hx.agree, List.length_map, hx.signer, List.length_map, hx.once, List.length_map, hx.sig], rfl, .inl ⟨kd68, _, _, rfl, rfl, (EqT.int Try.underlying68).imp natInt⟩⟩, ⟨⟨by simp [List.length_map, hx.agree, List.length_map, hx.signer, List.length_map, hx.once, List.length_map, hx.sig], by simp [hx.once, hy.once], .inr ⟨by rw [List.length_map, hx.once]; exact kd44, eqKey 9997 hx.once hy.once⟩⟩, ⟨⟨by simp [List.length_map, hx.agree, List.length_map, hx.signer, List.length_map, hx.once, List.length_map, hx.sig], by simp [hx.sig, hy.sig], .inr ⟨by rw [List.length_map, hx.sig]; exact kd80, eqSig 9997 hx.sig hy.sig⟩⟩, trivial⟩⟩⟩⟩⟩⟩
  · constructor
    · rintro ⟨h0, h1, h2, h3, h4, h5, _⟩
      obtain ⟨a0, a1, a2, a3, a4, a5⟩ := x
      obtain ⟨b0, b1, b2, b3, b4, b5⟩ := y
      simp only at h0 h1 h2 h3 h4 h5
      subst h0 h1 h2 h3 h4 h5
      rfl
    · rintro rfl
      exact ⟨rfl, rfl, rfl, rfl, rfl, rfl, trivial⟩
theorem eqVouch {x y : Vouch} (hx : x.ok) (hy : y.ok) : EqT Try.prog 10000 202 (.agg (cat (vouchV x)).toArray) (.agg (cat (vouchV y)).toArray) (x = y) := by
  refine (EqT.struct (P := Try.prog) (d := 9999) (t := 202) (ps := vouchV x) (qs := vouchV y) (bs := [x.notary = y.notary, x.sig = y.sig]) (by kernel_rfl) (by kernel_rfl) (by kernel_rfl) ?_).imp ?_
  · rw [show ((Try.prog.fieldsOf 202).toList.map fun f => (f.type, f.offset)) = [(5, 0), (80, 1)] by kernel_rfl]
    exact ⟨⟨by simp [List.length_map, hx.sig], rfl, .inl ⟨kd5, _, _, rfl, rfl, (EqT.int Try.underlying5).imp natInt⟩⟩, ⟨⟨by simp [List.length_map, hx.sig], by simp [hx.sig, hy.sig], .inr ⟨by rw [List.length_map, hx.sig]; exact kd80, eqSig 9997 hx.sig hy.sig⟩⟩, trivial⟩⟩
  · constructor
    · rintro ⟨h0, h1, _⟩
      obtain ⟨a0, a1⟩ := x
      obtain ⟨b0, b1⟩ := y
      simp only at h0 h1
      subst h0 h1
      rfl
    · rintro rfl
      exact ⟨rfl, rfl, trivial⟩
end Go.Proofs.Ytcfecmoagfgnaaa
