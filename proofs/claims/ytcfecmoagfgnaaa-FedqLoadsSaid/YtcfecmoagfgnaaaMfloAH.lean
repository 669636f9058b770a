/- The statement FedqLoads is proved, for every input: part 8 of 26 of the texts that it needs. -/
import Derived.Test.YtcfecmoagfgnaaaMfloAG
/- The things as cells: their parts, their zeros; one against the other. -/
namespace Go.Proofs.Ytcfecmoagfgnaaa
open Go.Vc Go.Pl

abbrev headerV (x : Header)  : List (List Value) := [x.session.map bv, [.bool x.first], x.agree.map bv, x.signer.map bv, x.base.map bv, [.int .u16 x.id], x.ratchet.map bv, [.int .u16 x.n], [.int .u16 x.prev]]
abbrev headerL : List Nat := [32, 1, 32, 32, 32, 1, 32, 1, 1]
theorem zero70 : (Try.prog.info? 70).bind (·.zero) = some (.agg (cat (headerV header0 )).toArray) := by kernel_rfl
theorem built70 : Try.prog.built 70 [] = some (cat (headerV header0 )).toArray := by kernel_rfl
theorem guard70 : Try.prog.eqGuardType Try.prog.depth 70 = false := by kernel_rfl
abbrev headerZ : List (List Value) := [(zeros 32).map bv, [.bool false], (zeros 32).map bv, (zeros 32).map bv, (zeros 32).map bv, [.int .u16 0], (zeros 32).map bv, [.int .u16 0], [.int .u16 0]]
abbrev headerFL : List Nat := [32, 1, 32, 32, 32, 1, 32, 1, 1]
theorem plan70 : planOf Try.prog 70 = some (placesL 0 headerFL, (cat headerZ).toArray) := by kernel_rfl
theorem headerV_len {x : Header} (h : x.ok)  : (headerV x ).map List.length = headerL := by simp [h.session, h.agree, h.signer, h.base, h.ratchet]
theorem headerV_ok1 (x : Header)  : ok1 (cat (headerV x )) := by
 intro u hu
 rw [cat_eq] at hu
 simp only [List.mem_flatten, List.mem_cons, List.not_mem_nil, or_false] at hu
 obtain ⟨l, hl, hu⟩ := hu
 rcases hl with rfl | rfl | rfl | rfl | rfl | rfl | rfl | rfl | rfl <;> first | (simp only [List.mem_singleton] at hu; subst hu; rfl) | exact ok1_bytes _ u hu
abbrev bundleV (x : Bundle)  : List (List Value) := [[.int .u8 x.device], x.agree.map bv, x.signer.map bv, [.int .u16 x.id], x.once.map bv, x.sig.map bv]
abbrev bundleL : List Nat := [1, 32, 32, 1, 32, 64]
theorem zero82 : (Try.prog.info? 82).bind (·.zero) = some (.agg (cat (bundleV bundle0 )).toArray) := by kernel_rfl
theorem built82 : Try.prog.built 82 [] = some (cat (bundleV bundle0 )).toArray := by kernel_rfl
theorem guard82 : Try.prog.eqGuardType Try.prog.depth 82 = false := by kernel_rfl
abbrev bundleZ : List (List Value) := [[.int .u8 0], (zeros 32).map bv, (zeros 32).map bv, [.int .u16 0], (zeros 32).map bv, (zeros 64).map bv]
abbrev bundleFL : List Nat := [1, 32, 32, 1, 32, 64]
theorem plan82 : planOf Try.prog 82 = some (placesL 0 bundleFL, (cat bundleZ).toArray) := by kernel_rfl
theorem bundleV_len {x : Bundle} (h : x.ok)  : (bundleV x ).map List.length = bundleL := by simp [h.agree, h.signer, h.once, h.sig]
theorem bundleV_ok1 (x : Bundle)  : ok1 (cat (bundleV x )) := by
 intro u hu
 rw [cat_eq] at hu
 simp only [List.mem_flatten, List.mem_cons, List.not_mem_nil, or_false] at hu
 obtain ⟨l, hl, hu⟩ := hu
 rcases hl with rfl | rfl | rfl | rfl | rfl | rfl <;> first | (simp only [List.mem_singleton] at hu; subst hu; rfl) | exact ok1_bytes _ u hu
abbrev letterV (x : Letter) (p : Option Addr) (c : Nat) : List (List Value) := [[.int .u8 x.src], [.int .u8 x.dst], x.header.session.map bv, [.bool x.header.first], x.header.agree.map bv, x.header.signer.map bv, x.header.base.map bv, [.int .u16 x.header.id], x.header.ratchet.map bv, [.int .u16 x.header.n], [.int .u16 x.header.prev], [.slice p x.body.length c]]
abbrev letterL : List Nat := [1, 1, 32, 1, 32, 32, 32, 1, 32, 1, 1, 1]
theorem zero72 : (Try.prog.info? 72).bind (·.zero) = some (.agg (cat (letterV letter0 none 0)).toArray) := by kernel_rfl
theorem built72 : Try.prog.built 72 [] = some (cat (letterV letter0 none 0)).toArray := by kernel_rfl
abbrev letterZ : List (List Value) := [[.int .u8 0], [.int .u8 0], cat (headerV header0), [.slice none 0 0]]
abbrev letterFL : List Nat := [1, 1, 164, 1]
theorem plan72 : planOf Try.prog 72 = some (placesL 0 letterFL, (cat letterZ).toArray) := by kernel_rfl
theorem letterV_len {x : Letter} (h : x.ok) {p : Option Addr} {c : Nat} : (letterV x p c).map List.length = letterL := by simp [h.header.session, h.header.agree, h.header.signer, h.header.base, h.header.ratchet]
theorem letterV_ok1 (x : Letter) (p : Option Addr) (c : Nat) : ok1 (cat (letterV x p c)) := by
 intro u hu
 rw [cat_eq] at hu
 simp only [List.mem_flatten, List.mem_cons, List.not_mem_nil, or_false] at hu
 obtain ⟨l, hl, hu⟩ := hu
 rcases hl with rfl | rfl | rfl | rfl | rfl | rfl | rfl | rfl | rfl | rfl | rfl | rfl <;> first | (simp only [List.mem_singleton] at hu; subst hu; rfl) | exact ok1_bytes _ u hu
abbrev vouchV (x : Vouch)  : List (List Value) := [[.int .u8 x.notary], x.sig.map bv]
abbrev vouchL : List Nat := [1, 64]
theorem zero202 : (Try.prog.info? 202).bind (·.zero) = some (.agg (cat (vouchV vouch0 )).toArray) := by kernel_rfl
theorem built202 : Try.prog.built 202 [] = some (cat (vouchV vouch0 )).toArray := by kernel_rfl
theorem guard202 : Try.prog.eqGuardType Try.prog.depth 202 = false := by kernel_rfl
abbrev vouchZ : List (List Value) := [[.int .u8 0], (zeros 64).map bv]
abbrev vouchFL : List Nat := [1, 64]
theorem plan202 : planOf Try.prog 202 = some (placesL 0 vouchFL, (cat vouchZ).toArray) := by kernel_rfl
theorem vouchV_len {x : Vouch} (h : x.ok)  : (vouchV x ).map List.length = vouchL := by simp [h.sig]
theorem vouchV_ok1 (x : Vouch)  : ok1 (cat (vouchV x )) := by
 intro u hu
 rw [cat_eq] at hu
 simp only [List.mem_flatten, List.mem_cons, List.not_mem_nil, or_false] at hu
 obtain ⟨l, hl, hu⟩ := hu
 rcases hl with rfl | rfl <;> first | (simp only [List.mem_singleton] at hu; subst hu; rfl) | exact ok1_bytes _ u hu
abbrev objectV (x : Object) (q : Option Addr) (d : Nat) : List (List Value) := [[.int .u8 x.server], [.int .u8 x.n], x.key.map bv, [.int .u32 x.since], [.int .u32 x.till], x.sig.map bv, [.slice q x.vouches.length d]]
abbrev objectL : List Nat := [1, 1, 32, 1, 1, 64, 1]
theorem zero85 : (Try.prog.info? 85).bind (·.zero) = some (.agg (cat (objectV object0 none 0)).toArray) := by kernel_rfl
theorem built85 : Try.prog.built 85 [] = some (cat (objectV object0 none 0)).toArray := by kernel_rfl
abbrev objectZ : List (List Value) := [[.int .u8 0], [.int .u8 0], (zeros 32).map bv, [.int .u32 0], [.int .u32 0], (zeros 64).map bv, [.slice none 0 0]]
abbrev objectFL : List Nat := [1, 1, 32, 1, 1, 64, 1]
theorem plan85 : planOf Try.prog 85 = some (placesL 0 objectFL, (cat objectZ).toArray) := by kernel_rfl
theorem objectV_len {x : Object} (h : x.ok) {q : Option Addr} {d : Nat} : (objectV x q d).map List.length = objectL := by simp [h.key, h.sig]
theorem objectV_ok1 (x : Object) (q : Option Addr) (d : Nat) : ok1 (cat (objectV x q d)) := by
 intro u hu
 rw [cat_eq] at hu
 simp only [List.mem_flatten, List.mem_cons, List.not_mem_nil, or_false] at hu
 obtain ⟨l, hl, hu⟩ := hu
 rcases hl with rfl | rfl | rfl | rfl | rfl | rfl | rfl <;> first | (simp only [List.mem_singleton] at hu; subst hu; rfl) | exact ok1_bytes _ u hu
theorem arr_len {l : List UInt8} {n : Nat} (h : l.length = n) : [l.map bv].map List.length = [n] := by simp [h]
theorem arr_q {l : List UInt8} {n : Nat} (h : l.length = n) : some n = some (l.map bv).length := by simp [h]
theorem guard80 : Try.prog.eqGuardType Try.prog.depth 80 = false := by kernel_rfl
theorem built44 : Try.prog.built 44 [] = some ((zeros 32).map bv).toArray := by kernel_rfl
theorem built80 : Try.prog.built 80 [] = some ((zeros 64).map bv).toArray := by kernel_rfl
theorem built43 : Try.prog.built 43 [] = some ((zeros 32).map bv).toArray := by kernel_rfl
theorem zero43 : (Try.prog.info? 43).bind (·.zero) = some (.agg ((zeros 32).map bv).toArray) := by kernel_rfl
theorem zero79 : (Try.prog.info? 79).bind (·.zero) = some (.agg ((zeros 64).map bv).toArray) := by kernel_rfl
theorem eqKey {l r : List UInt8} (k : Nat) (hl : l.length = 32) (hr : r.length = 32) : EqT Try.prog (k + 2) 44 (.agg (l.map bv).toArray) (.agg (r.map bv).toArray) (l = r) := EqT.arr Try.underlying44 Try.underlying5 kd5 hl hr
theorem eqSig {l r : List UInt8} (k : Nat) (hl : l.length = 64) (hr : r.length = 64) : EqT Try.prog (k + 2) 80 (.agg (l.map bv).toArray) (.agg (r.map bv).toArray) (l = r) := EqT.arr Try.underlying80 Try.underlying5 kd5 hl hr
def vouchR : Rel Vouch := fun _ _ vs v => v.ok ∧ vs = cat (vouchV v)
theorem Mono_vouch : Mono vouchR := fun _ _ _ _ _ _ h => h
theorem natInt {a b : Nat} : ((a : Int) = (b : Int)) ↔ a = b := Int.natCast_inj

theorem eqHeader {x y : Header} (hx : x.ok) (hy : y.ok) : EqT Try.prog 10000 70 (.agg (cat (headerV x)).toArray) (.agg (cat (headerV y)).toArray) (x = y) := by
 refine (EqT.struct (P := Try.prog) (d := 9999) (t := 70) (ps := headerV x) (qs := headerV y) (bs := [x.session = y.session, x.first = y.first, x.agree = y.agree, x.signer = y.signer, x.base = y.base, x.id = y.id, x.ratchet = y.ratchet, x.n = y.n, x.prev = y.prev]) (by kernel_rfl) (by kernel_rfl) (by kernel_rfl) ?_).imp ?_
 ·rw [show ((Try.prog.fieldsOf 70).toList.map fun f => (f.type, f.offset)) = [(44, 0), (4, 32), (44, 33), (44, 65), (44, 97), (68, 129), (44, 130), (68, 162), (68, 163)] by kernel_rfl]
  exact ⟨⟨by simp [List.length_map, hx.session, List.length_map, hx.agree, List.length_map, hx.signer, List.length_map, hx.base, List.length_map, hx.ratchet], by simp [hx.session, hy.session], .inr ⟨by rw [List.length_map, hx.session]; exact kd44, eqKey 9997 hx.session hy.session⟩⟩, ⟨⟨by simp [List.length_map, hx.session, List.length_map, hx.agree, List.length_map, hx.signer, List.length_map, hx.base, List.length_map, hx.ratchet], rfl, .inl ⟨kd4, _, _, rfl, rfl, EqT.bool Try.underlying4⟩⟩, ⟨⟨by simp [List.length_map, hx.session, List.length_map, hx.agree, List.length_map, hx.signer, List.length_map, hx.base, List.length_map, hx.ratchet], by simp [hx.agree, hy.agree], .inr ⟨by rw [List.length_map, hx.agree]; exact kd44, eqKey 9997 hx.agree hy.agree⟩⟩, ⟨⟨by simp [List.length_map, hx.session, List.length_map, hx.agree, List.length_map, hx.signer, List.length_map, hx.base, List.length_map, hx.ratchet], by simp [hx.signer, hy.signer], .inr ⟨by rw [List.length_map, hx.signer]; exact kd44, eqKey 9997 hx.signer hy.signer⟩⟩, ⟨⟨by simp [List.length_map, hx.session, List.length_map, hx.agree, List.length_map, hx.signer, List.length_map, hx.base, List.length_map, hx.ratchet], by simp [hx.base, hy.base], .inr ⟨by rw [List.length_map, hx.base]; exact kd44, eqKey 9997 hx.base hy.base⟩⟩, ⟨⟨by simp [List.length_map, hx.session, List.length_map, hx.agree, List.length_map, hx.signer, List.length_map, hx.base, List.length_map, hx.ratchet], rfl, .inl ⟨kd68, _, _, rfl, rfl, (EqT.int Try.underlying68).imp natInt⟩⟩, ⟨⟨by simp [List.length_map, hx.session, List.length_map, hx.agree, List.length_map, hx.signer, List.length_map, hx.base, List.length_map, hx.ratchet], by simp [hx.ratchet, hy.ratchet], .inr ⟨by rw [List.length_map, hx.ratchet]; exact kd44, eqKey 9997 hx.ratchet hy.ratchet⟩⟩, ⟨⟨by simp [List.length_map, hx.session, List.length_map, hx.agree, List.length_map, hx.signer, List.length_map, hx.base, List.length_map, hx.ratchet], rfl, .inl ⟨kd68, _, _, rfl, rfl, (EqT.int Try.underlying68).imp natInt⟩⟩, ⟨⟨by simp [List.length_map, hx.session, List.length_map, hx.agree, List.length_map, hx.signer, List.length_map, hx.base, List.length_map, hx.ratchet], rfl, .inl ⟨kd68, _, _, rfl, rfl, (EqT.int Try.underlying68).imp natInt⟩⟩, trivial⟩⟩⟩⟩⟩⟩⟩⟩⟩
 ·constructor
  ·rintro ⟨h0, h1, h2, h3, h4, h5, h6, h7, h8, _⟩
   obtain ⟨a0, a1, a2, a3, a4, a5, a6, a7, a8⟩ := x
   obtain ⟨b0, b1, b2, b3, b4, b5, b6, b7, b8⟩ := y
   simp only at h0 h1 h2 h3 h4 h5 h6 h7 h8
   subst h0 h1 h2 h3 h4 h5 h6 h7 h8
   rfl
  ·rintro rfl
   exact ⟨rfl, rfl, rfl, rfl, rfl, rfl, rfl, rfl, rfl, trivial⟩
theorem eqBundle {x y : Bundle} (hx : x.ok) (hy : y.ok) : EqT Try.prog 10000 82 (.agg (cat (bundleV x)).toArray) (.agg (cat (bundleV y)).toArray) (x = y) := by
 refine (EqT.struct (P := Try.prog) (d := 9999) (t := 82) (ps := bundleV x) (qs := bundleV y) (bs := [x.device = y.device, x.agree = y.agree, x.signer = y.signer, x.id = y.id, x.once = y.once, x.sig = y.sig]) (by kernel_rfl) (by kernel_rfl) (by kernel_rfl) ?_).imp ?_
 ·rw [show ((Try.prog.fieldsOf 82).toList.map fun f => (f.type, f.offset)) = [(5, 0), (44, 1), (44, 33), (68, 65), (44, 66), (80, 98)] by kernel_rfl]
  exact ⟨⟨by simp [List.length_map, hx.agree, List.length_map, hx.signer, List.length_map, hx.once, List.length_map, hx.sig], rfl, .inl ⟨kd5, _, _, rfl, rfl, (EqT.int Try.underlying5).imp natInt⟩⟩, ⟨⟨by simp [List.length_map, hx.agree, List.length_map, hx.signer, List.length_map, hx.once, List.length_map, hx.sig], by simp [hx.agree, hy.agree], .inr ⟨by rw [List.length_map, hx.agree]; exact kd44, eqKey 9997 hx.agree hy.agree⟩⟩, ⟨⟨by simp [List.length_map, hx.agree, List.length_map, hx.signer, List.length_map, hx.once, List.length_map, hx.sig], by simp [hx.signer, hy.signer], .inr ⟨by rw [List.length_map, hx.signer]; exact kd44, eqKey 9997 hx.signer hy.signer⟩⟩, ⟨⟨by simp [List.length_map, hx.agree, List.length_map, hx.signer, List.length_map, hx.once, List.length_map, hx.sig], rfl, .inl ⟨kd68, _, _, rfl, rfl, (EqT.int Try.underlying68).imp natInt⟩⟩, ⟨⟨by simp [List.length_map, hx.agree, List.length_map, hx.signer, List.length_map, hx.once, List.length_map, hx.sig], by simp [hx.once, hy.once], .inr ⟨by rw [List.length_map, hx.once]; exact kd44, eqKey 9997 hx.once hy.once⟩⟩, ⟨⟨by simp [List.length_map, hx.agree, List.length_map, hx.signer, List.length_map, hx.once, List.length_map, hx.sig], by simp [hx.sig, hy.sig], .inr ⟨by rw [List.length_map, hx.sig]; exact kd80, eqSig 9997 hx.sig hy.sig⟩⟩, trivial⟩⟩⟩⟩⟩⟩
 ·constructor
  ·rintro ⟨h0, h1, h2, h3, h4, h5, _⟩
   obtain ⟨a0, a1, a2, a3, a4, a5⟩ := x
   obtain ⟨b0, b1, b2, b3, b4, b5⟩ := y
   simp only at h0 h1 h2 h3 h4 h5
   subst h0 h1 h2 h3 h4 h5
   rfl
  ·rintro rfl
   exact ⟨rfl, rfl, rfl, rfl, rfl, rfl, trivial⟩
theorem eqVouch {x y : Vouch} (hx : x.ok) (hy : y.ok) : EqT Try.prog 10000 202 (.agg (cat (vouchV x)).toArray) (.agg (cat (vouchV y)).toArray) (x = y) := by
 refine (EqT.struct (P := Try.prog) (d := 9999) (t := 202) (ps := vouchV x) (qs := vouchV y) (bs := [x.notary = y.notary, x.sig = y.sig]) (by kernel_rfl) (by kernel_rfl) (by kernel_rfl) ?_).imp ?_
 ·rw [show ((Try.prog.fieldsOf 202).toList.map fun f => (f.type, f.offset)) = [(5, 0), (80, 1)] by kernel_rfl]
  exact ⟨⟨by simp [List.length_map, hx.sig], rfl, .inl ⟨kd5, _, _, rfl, rfl, (EqT.int Try.underlying5).imp natInt⟩⟩, ⟨⟨by simp [List.length_map, hx.sig], by simp [hx.sig, hy.sig], .inr ⟨by rw [List.length_map, hx.sig]; exact kd80, eqSig 9997 hx.sig hy.sig⟩⟩, trivial⟩⟩
 ·constructor
  ·rintro ⟨h0, h1, _⟩
   obtain ⟨a0, a1⟩ := x
   obtain ⟨b0, b1⟩ := y
   simp only at h0 h1
   subst h0 h1
   rfl
  ·rintro rfl
   exact ⟨rfl, rfl, trivial⟩
end Go.Proofs.Ytcfecmoagfgnaaa

/- wire: what gathers pieces: at its beginning, at its end. -/
namespace Go.Proofs.Ytcfecmoagfgnaaa
open Go.Vc Go.Pl

theorem plan181 : planOf Try.prog 181 = some (placesL 0 [1, 1], (cat [[.slice none 0 0], [.bool false]]).toArray) := by kernel_rfl
theorem Own.newW {S : List Snap} {H : List Chunk} {w : World} {g : Nat} {bad : Bool} (h : Own S (blk g 181 [1, 1] [[rowV none 0 0], [.bool bad]] :: H) w) : Own S (wblk g none 0 ([] : List (List UInt8)).length bad :: brow none 0 [] :: H) w :=
 (Own.arow_nil (Mono.slice Mono.byte) 24 1 h).perm (List.Perm.swap _ _ _)
theorem fits1 {m : Nat} (h : m < 256) : Fits 1 m := h
theorem fits2 {m : Nat} (h : m < 65536) : Fits 2 m := h
theorem fits4 {m : Nat} (h : m < 4294967296) : Fits 4 m := h
theorem inr_u64 {m : Nat} (h : m < 4294967296) : InR .u64 (m : Int) :=
 ⟨Int.natCast_nonneg _, by
  have : (m : Int) ≤ 4294967296 := by omega
  exact Int.le_trans this (by decide)⟩
theorem cat_size {α : Type} {ps : List (List α)} {L : List Nat} (h : ps.map List.length = L) : (cat ps).length = L.sum := by rw [cat_eq, List.length_flatten, h]
/-- What a text's answer says: it, or none. -/
abbrev RetO (S : List Snap) (H : List Chunk) (o : Option (List UInt8)) : Ending → World → Prop := Ret fun v w' => ∃ p c, v = .tuple #[.slice p (o.getD []).length c, .bool o.isSome] ∧ Own S H w' ∧ Bytes (keys H) w' p (o.getD []) c
theorem done_O {S : List Snap} {H : List Chunk} {w : World} {g : Nat} {gp : Option Nat} {c : Nat} {parts : List (List UInt8)} {bad : Bool} (ho : Own S (wblk g gp c parts.length bad :: brow gp c parts :: H) w) : Calls Try.prog 118 #[.pointer (some ⟨g, 0, none⟩)] w (RetO S H (joinO parts (!bad))) := by
 refine calls_mono (done_w ho) fun v w' ⟨h1, h2⟩ => ?_
 rcases h2 with ⟨h3, h4, p, c, e, hA⟩ | ⟨h3, e⟩
 ·have e2 : joinO parts (!bad) = some (joinB parts) := joinO_some h3 (by simp [h4])
  rw [e2]
  exact ⟨p, c, e, h1, hA⟩
 ·have e2 : joinO parts (!bad) = none := joinO_none fun h => h3 ⟨h.1, by simpa using h.2⟩
  rw [e2]
  exact ⟨none, 0, e, h1, Arr.none⟩
end Go.Proofs.Ytcfecmoagfgnaaa

/- wire: bytes of bundles, headers, letters. -/
namespace Go.Proofs.Ytcfecmoagfgnaaa
open Go.Vc Go.Pl

theorem postO {S : List Snap} {H : List Chunk} {o o' : Option (List UInt8)} (e : o' = o) {v : Value} {w' : World} (h : ∃ p c, v = .tuple #[.slice p (o'.getD []).length c, .bool o'.isSome] ∧ Own S H w' ∧ Bytes (keys H) w' p (o'.getD []) c) : ∃ p c, v = .tuple #[.slice p (o.getD []).length c, .bool o.isSome] ∧ Own S H w' ∧ Bytes (keys H) w' p (o.getD []) c := by subst e; exact h

theorem putBundle_w {S : List Snap} {H : List Chunk} {w : World} (ho : Own S H w) {x : Bundle} (hx : x.ok) : Calls Try.prog 60 #[.agg (cat (bundleV x)).toArray] w (RetO S H (some (bundleB x))) := by
 have hx1 := hx.device
 have hx2 := hx.id
 refine enter (G := Own (⟨w, keys H⟩ :: S) H) ho.keep Try.func60 rfl Try.ntmps60 rfl ?_
 refine VC.sr ?_
 refine VL.box (L := bundleL) (ps := (bundleV (x))) rfl rfl (bundleV_len hx) (fun g1 => ?_)
 refine VL.assign rfl ?_
 refine VL.assign rfl ?_
 refine VL.nn ?_
 refine VC.sr ?_
 refine VL.build (zs := [[.slice none 0 0], [.bool false]]) [] plan181 rfl trivial rfl ?_
 refine VL.box (L := [1, 1]) (ps := [[rowV none 0 0], [.bool false]]) rfl rfl rfl (fun g2 => ?_)
 refine VL.turn (fun w' hw => Own.newW hw) ?_
 refine VL.assign rfl ?_
 refine VL.nn ?_
 refine VC.sr ?_
 refine VL.move rfl ?_
 refine VL.fieldAddr rfl fo82_0 rfl ?_
 refine VL.load (v := .int .u8 (x.device)) 2 0 rfl kd5 (fun _ h => h) rfl rfl rfl ?_
 refine VL.conv (by rw [Try.underlying5]; rfl) Try.underlying22 rfl (inr_u64 (by omega)) ?_
 refine VL.call Try.func116 rfl (by decide) rfl (fun w' hw => num_w hw (by simp only [List.length_append, List.length_cons, List.length_nil, List.length_map]; omega) (x.device) (fits_small (by omega)) 1 (by decide) (by decide) (fits1 (by omega))) (fun v => ?_)
 refine VL.fact fun e5 => ?_
 subst e5
 refine VL.ex fun gp3 => VL.ex fun c4 => ?_
 refine VL.nn ?_
 refine VC.sr ?_
 refine VL.move rfl ?_
 refine VL.fieldAddr rfl fo82_1 rfl ?_
 refine VL.loads (cs := (x.agree).map bv) 2 1 1 rfl kd44 (fun _ h => h) rfl rfl rfl rfl ?_
 refine VL.call Try.func119 rfl (by decide) rfl (fun w' hw => key_w hw (by simp only [List.length_append, List.length_cons, List.length_nil, List.length_map]; omega) (l := x.agree) hx.agree) (fun v => ?_)
 refine VL.fact fun e8 => ?_
 subst e8
 refine VL.ex fun gp6 => VL.ex fun c7 => ?_
 refine VL.nn ?_
 refine VC.sr ?_
 refine VL.move rfl ?_
 refine VL.fieldAddr rfl fo82_2 rfl ?_
 refine VL.loads (cs := (x.signer).map bv) 2 2 1 rfl kd44 (fun _ h => h) rfl rfl rfl rfl ?_
 refine VL.call Try.func119 rfl (by decide) rfl (fun w' hw => key_w hw (by simp only [List.length_append, List.length_cons, List.length_nil, List.length_map]; omega) (l := x.signer) hx.signer) (fun v => ?_)
 refine VL.fact fun e11 => ?_
 subst e11
 refine VL.ex fun gp9 => VL.ex fun c10 => ?_
 refine VL.nn ?_
 refine VC.sr ?_
 refine VL.move rfl ?_
 refine VL.fieldAddr rfl fo82_3 rfl ?_
 refine VL.load (v := .int .u16 (x.id)) 2 3 rfl kd68 (fun _ h => h) rfl rfl rfl ?_
 refine VL.conv (by rw [Try.underlying68]; rfl) Try.underlying22 rfl (inr_u64 (by omega)) ?_
 refine VL.call Try.func116 rfl (by decide) rfl (fun w' hw => num_w hw (by simp only [List.length_append, List.length_cons, List.length_nil, List.length_map]; omega) (x.id) (fits_small (by omega)) 2 (by decide) (by decide) (fits2 (by omega))) (fun v => ?_)
 refine VL.fact fun e14 => ?_
 subst e14
 refine VL.ex fun gp12 => VL.ex fun c13 => ?_
 refine VL.nn ?_
 refine VC.sr ?_
 refine VL.move rfl ?_
 refine VL.fieldAddr rfl fo82_4 rfl ?_
 refine VL.loads (cs := (x.once).map bv) 2 4 1 rfl kd44 (fun _ h => h) rfl rfl rfl rfl ?_
 refine VL.call Try.func119 rfl (by decide) rfl (fun w' hw => key_w hw (by simp only [List.length_append, List.length_cons, List.length_nil, List.length_map]; omega) (l := x.once) hx.once) (fun v => ?_)
 refine VL.fact fun e17 => ?_
 subst e17
 refine VL.ex fun gp15 => VL.ex fun c16 => ?_
 refine VL.nn ?_
 refine VC.sr ?_
 refine VL.move rfl ?_
 refine VL.fieldAddr rfl fo82_5 rfl ?_
 refine VL.loads (cs := (x.sig).map bv) 2 5 1 rfl kd80 (fun _ h => h) rfl rfl rfl rfl ?_
 refine VL.call Try.func128 rfl (by decide) rfl (fun w' hw => sig_w hw (by simp only [List.length_append, List.length_cons, List.length_nil, List.length_map]; omega) (l := x.sig) hx.sig) (fun v => ?_)
 refine VL.fact fun e20 => ?_
 subst e20
 refine VL.ex fun gp18 => VL.ex fun c19 => ?_
 refine VL.nn ?_
 refine VC.sr ?_
 refine VL.move rfl ?_
 refine VL.call Try.func118 rfl (by decide) rfl (fun w' hw => done_O hw) (fun v => ?_)
 refine VL.at (fun w21 h1w => ?_)
 obtain ⟨p22, c23, rfl, hO25, hA24⟩ := h1w
 refine VL.toOwn hO25 ?_
 refine VL.extract rfl rfl ?_
 refine VL.extract rfl rfl ?_
 refine VL.assign rfl ?_
 refine VL.assign rfl ?_
 refine VL.nn ?_
 refine VC.ret ?_
 refine VX.ret2 rfl rfl rfl (fun we hw => ?_)
 exact postO (joinO_some (bundleP_ok hx) rfl) ⟨p22, c23, rfl, hw.drop.subA, (hA24.nowA (s := ⟨w21, _⟩) Mono.byte hw.drop)⟩

theorem headerO_none {x : Header} (h : headerFit x = false) : (none : Option (List UInt8)) = headerO x := by unfold headerO; rw [h]; rfl
theorem headerO_is {x : Header} (hx : x.ok) (h : headerFit x = true) : joinO (headerP x) true = headerO x := by rw [← headerO_joinO hx, h]

theorem headerBytes_w {S : List Snap} {H : List Chunk} {w : World} (ho : Own S H w) {x : Header} (hx : x.ok) : Calls Try.prog 52 #[.agg (cat (headerV x)).toArray] w (RetO S H (headerO x)) := by
 have hx1 := hx.id
 have hx2 := hx.n
 have hx3 := hx.prev
 refine enter (G := Own (⟨w, keys H⟩ :: S) H) ho.keep Try.func52 rfl Try.ntmps52 rfl ?_
 refine VC.sr ?_
 refine VL.box (L := headerL) (ps := (headerV (x))) rfl rfl (headerV_len hx) (fun g1 => ?_)
 refine VL.assign rfl ?_
 refine VL.assign rfl ?_
 refine VL.nn ?_
 refine VC.seq ?_
 refine VC.sr ?_
 refine VL.fieldAddr rfl fo70_1 rfl ?_
 refine VL.load (v := .bool x.first) 0 1 rfl kd4 (fun _ h => h) rfl rfl rfl ?_
 cases h1_1 : x.first
 ·refine VL.not rfl ?_
  refine VL.move rfl ?_
  refine VL.go rfl rfl rfl ?_
  refine VL.fieldAddr rfl fo70_2 rfl ?_
  refine VL.go rfl rfl rfl ?_
  refine VL.loads (cs := (x.agree).map bv) 0 2 1 rfl kd44 (fun _ h => h) rfl rfl rfl rfl ?_
  refine VL.go rfl rfl rfl ?_
  refine VL.build0 (cs := (zeros 32).map bv) built44 ?_
  refine VL.go rfl rfl rfl ?_
  refine VL.neT guard44 rfl rfl (eqKey 9998 hx.agree rfl) (fun b h1_7 => ?_)
  cases b
  ·have h1_7 := mt h1_7.2 (by decide)
   refine VL.go rfl rfl rfl ?_
   refine VL.move rfl ?_
   refine VL.pass rfl rfl rfl rfl rfl ?_
   refine VL.pass rfl rfl rfl rfl rfl ?_
   refine VL.pass rfl rfl rfl rfl rfl ?_
   refine VL.pass rfl rfl rfl rfl rfl ?_
   refine VL.go rfl rfl rfl ?_
   refine VL.pick_t rfl rfl ?_
   refine VL.go rfl rfl rfl ?_
   refine VL.move rfl ?_
   refine VL.pass rfl rfl rfl rfl rfl ?_
   refine VL.pass rfl rfl rfl rfl rfl ?_
   refine VL.pass rfl rfl rfl rfl rfl ?_
   refine VL.pass rfl rfl rfl rfl rfl ?_
   refine VL.go rfl rfl rfl ?_
   refine VL.pick_t rfl rfl ?_
   refine VL.go rfl rfl rfl ?_
   refine VL.move rfl ?_
   refine VL.pass rfl rfl rfl rfl rfl ?_
   refine VL.pass rfl rfl rfl rfl rfl ?_
   refine VL.pass rfl rfl rfl rfl rfl ?_
   refine VL.go rfl rfl rfl ?_
   refine VL.pick_t rfl rfl ?_
   refine VL.pick_t rfl rfl ?_
   refine VL.nn ?_
   refine VC.yes rfl ?_
   refine VC.sr ?_
   refine VL.assign rfl ?_
   refine VL.assign rfl ?_
   refine VL.nn ?_
   refine VC.ret ?_
   refine VX.then_ret ?_
   refine VX.ret2 rfl rfl rfl (fun we hw => ?_)
   exact postO (headerO_none (by unfold headerFit; simp [h1_1, h1_7])) ⟨none, 0, rfl, hw.drop.subA, Arr.none⟩
  ·have h1_7 := h1_7.1 rfl
   refine VL.go rfl rfl rfl ?_
   refine VL.move rfl ?_
   refine VL.go rfl rfl rfl ?_
   refine VL.fieldAddr rfl fo70_3 rfl ?_
   refine VL.go rfl rfl rfl ?_
   refine VL.loads (cs := (x.signer).map bv) 0 3 1 rfl kd44 (fun _ h => h) rfl rfl rfl rfl ?_
   refine VL.go rfl rfl rfl ?_
   refine VL.build0 (cs := (zeros 32).map bv) built44 ?_
   refine VL.go rfl rfl rfl ?_
   refine VL.neT guard44 rfl rfl (eqKey 9998 hx.signer rfl) (fun b h1_12 => ?_)
   cases b
   ·have h1_12 := mt h1_12.2 (by decide)
    refine VL.go rfl rfl rfl ?_
    refine VL.pick_f rfl rfl ?_
    refine VL.go rfl rfl rfl ?_
    refine VL.move rfl ?_
    refine VL.pass rfl rfl rfl rfl rfl ?_
    refine VL.pass rfl rfl rfl rfl rfl ?_
    refine VL.pass rfl rfl rfl rfl rfl ?_
    refine VL.pass rfl rfl rfl rfl rfl ?_
    refine VL.go rfl rfl rfl ?_
    refine VL.pick_t rfl rfl ?_
    refine VL.go rfl rfl rfl ?_
    refine VL.move rfl ?_
    refine VL.pass rfl rfl rfl rfl rfl ?_
    refine VL.pass rfl rfl rfl rfl rfl ?_
    refine VL.pass rfl rfl rfl rfl rfl ?_
    refine VL.go rfl rfl rfl ?_
    refine VL.pick_t rfl rfl ?_
    refine VL.pick_t rfl rfl ?_
    refine VL.nn ?_
    refine VC.yes rfl ?_
    refine VC.sr ?_
    refine VL.assign rfl ?_
    refine VL.assign rfl ?_
    refine VL.nn ?_
    refine VC.ret ?_
    refine VX.then_ret ?_
    refine VX.ret2 rfl rfl rfl (fun we hw => ?_)
    exact postO (headerO_none (by unfold headerFit; simp [h1_1, h1_7, h1_12])) ⟨none, 0, rfl, hw.drop.subA, Arr.none⟩
   ·have h1_12 := h1_12.1 rfl
    refine VL.go rfl rfl rfl ?_
    refine VL.pick_f rfl rfl ?_
    refine VL.go rfl rfl rfl ?_
    refine VL.move rfl ?_
    refine VL.go rfl rfl rfl ?_
    refine VL.fieldAddr rfl fo70_4 rfl ?_
    refine VL.go rfl rfl rfl ?_
    refine VL.loads (cs := (x.base).map bv) 0 4 1 rfl kd44 (fun _ h => h) rfl rfl rfl rfl ?_
    refine VL.go rfl rfl rfl ?_
    refine VL.build0 (cs := (zeros 32).map bv) built44 ?_
    refine VL.go rfl rfl rfl ?_
    refine VL.neT guard44 rfl rfl (eqKey 9998 hx.base rfl) (fun b h1_18 => ?_)
    cases b
    ·have h1_18 := mt h1_18.2 (by decide)
     refine VL.go rfl rfl rfl ?_
     refine VL.pick_f rfl rfl ?_
     refine VL.go rfl rfl rfl ?_
     refine VL.move rfl ?_
     refine VL.pass rfl rfl rfl rfl rfl ?_
     refine VL.pass rfl rfl rfl rfl rfl ?_
     refine VL.pass rfl rfl rfl rfl rfl ?_
     refine VL.go rfl rfl rfl ?_
     refine VL.pick_t rfl rfl ?_
     refine VL.pick_t rfl rfl ?_
     refine VL.nn ?_
     refine VC.yes rfl ?_
     refine VC.sr ?_
     refine VL.assign rfl ?_
     refine VL.assign rfl ?_
     refine VL.nn ?_
     refine VC.ret ?_
     refine VX.then_ret ?_
     refine VX.ret2 rfl rfl rfl (fun we hw => ?_)
     exact postO (headerO_none (by unfold headerFit; simp [h1_1, h1_7, h1_12, h1_18])) ⟨none, 0, rfl, hw.drop.subA, Arr.none⟩
    ·have h1_18 := h1_18.1 rfl
     refine VL.go rfl rfl rfl ?_
     refine VL.pick_f rfl rfl ?_
     refine VL.go rfl rfl rfl ?_
     refine VL.move rfl ?_
     refine VL.go rfl rfl rfl ?_
     refine VL.fieldAddr rfl fo70_5 rfl ?_
     refine VL.go rfl rfl rfl ?_
     refine VL.load (v := .int .u16 (x.id)) 0 5 rfl kd68 (fun _ h => h) rfl rfl rfl ?_
     refine VL.go rfl rfl rfl ?_
     refine VL.neq rfl rfl ?_
     refine VL.case (fun h1_23 => ?_) (fun h1_23 => ?_)
     ·have h1_23 : x.id ≠ 0 := by omega
      refine VL.go rfl rfl rfl ?_
      refine VL.pick_f rfl rfl ?_
      refine VL.pick_t rfl rfl ?_
      refine VL.nn ?_
      refine VC.yes rfl ?_
      refine VC.sr ?_
      refine VL.assign rfl ?_
      refine VL.assign rfl ?_
      refine VL.nn ?_
      refine VC.ret ?_
      refine VX.then_ret ?_
      refine VX.ret2 rfl rfl rfl (fun we hw => ?_)
      exact postO (headerO_none (by unfold headerFit; simp [h1_1, h1_7, h1_12, h1_18, h1_23])) ⟨none, 0, rfl, hw.drop.subA, Arr.none⟩
     ·have h1_23 : x.id = 0 := by omega
      refine VL.go rfl rfl rfl ?_
      refine VL.pick_f rfl rfl ?_
      refine VL.pick_t rfl rfl ?_
      refine VL.nn ?_
      refine VC.no rfl ?_
      refine VC.skip ?_
      refine VX.next ?_
      refine VC.sr ?_
      refine VL.build (zs := [[.slice none 0 0], [.bool false]]) [] plan181 rfl trivial rfl ?_
      refine VL.box (L := [1, 1]) (ps := [[rowV none 0 0], [.bool false]]) rfl rfl rfl (fun g2 => ?_)
      refine VL.turn (fun w' hw => Own.newW hw) ?_
      refine VL.assign rfl ?_
      refine VL.nn ?_
      refine VC.sr ?_
      refine VL.assign rfl ?_
      refine VL.nn ?_
      refine VC.seq ?_
      refine VC.sr ?_
      refine VL.fieldAddr rfl fo70_1 rfl ?_
      refine VL.load (v := .bool x.first) 2 1 rfl kd4 (fun _ h => h) rfl rfl rfl ?_
      rw [h1_1]
      refine VL.nn ?_
      refine VC.no rfl ?_
      refine VC.skip ?_
      refine VX.next ?_
      refine VC.sr ?_
      refine VL.move rfl ?_
      refine VL.fieldAddr rfl fo70_0 rfl ?_
      refine VL.loads (cs := (x.session).map bv) 2 0 1 rfl kd44 (fun _ h => h) rfl rfl rfl rfl ?_
      refine VL.call Try.func119 rfl (by decide) rfl (fun w' hw => key_w hw (by simp only [List.length_append, List.length_cons, List.length_nil, List.length_map]; omega) (l := x.session) hx.session) (fun v => ?_)
      refine VL.fact fun e5 => ?_
      subst e5
      refine VL.ex fun gp3 => VL.ex fun c4 => ?_
      refine VL.nn ?_
      refine VC.sr ?_
      refine VL.move rfl ?_
      refine VL.move rfl ?_
      refine VL.call Try.func116 rfl (by decide) rfl (fun w' hw => num_w hw (by simp only [List.length_append, List.length_cons, List.length_nil, List.length_map]; omega) (0) (fits_small (by omega)) 1 (by decide) (by decide) (fits1 (by omega))) (fun v => ?_)
      refine VL.fact fun e8 => ?_
      subst e8
      refine VL.ex fun gp6 => VL.ex fun c7 => ?_
      refine VL.nn ?_
      refine VC.sr ?_
      refine VL.move rfl ?_
      refine VL.fieldAddr rfl fo70_2 rfl ?_
      refine VL.loads (cs := (x.agree).map bv) 2 2 1 rfl kd44 (fun _ h => h) rfl rfl rfl rfl ?_
      refine VL.call Try.func119 rfl (by decide) rfl (fun w' hw => key_w hw (by simp only [List.length_append, List.length_cons, List.length_nil, List.length_map]; omega) (l := x.agree) hx.agree) (fun v => ?_)
      refine VL.fact fun e11 => ?_
      subst e11
      refine VL.ex fun gp9 => VL.ex fun c10 => ?_
      refine VL.nn ?_
      refine VC.sr ?_
      refine VL.move rfl ?_
      refine VL.fieldAddr rfl fo70_3 rfl ?_
      refine VL.loads (cs := (x.signer).map bv) 2 3 1 rfl kd44 (fun _ h => h) rfl rfl rfl rfl ?_
      refine VL.call Try.func119 rfl (by decide) rfl (fun w' hw => key_w hw (by simp only [List.length_append, List.length_cons, List.length_nil, List.length_map]; omega) (l := x.signer) hx.signer) (fun v => ?_)
      refine VL.fact fun e14 => ?_
      subst e14
      refine VL.ex fun gp12 => VL.ex fun c13 => ?_
      refine VL.nn ?_
      refine VC.sr ?_
      refine VL.move rfl ?_
      refine VL.fieldAddr rfl fo70_4 rfl ?_
      refine VL.loads (cs := (x.base).map bv) 2 4 1 rfl kd44 (fun _ h => h) rfl rfl rfl rfl ?_
      refine VL.call Try.func119 rfl (by decide) rfl (fun w' hw => key_w hw (by simp only [List.length_append, List.length_cons, List.length_nil, List.length_map]; omega) (l := x.base) hx.base) (fun v => ?_)
      refine VL.fact fun e17 => ?_
      subst e17
      refine VL.ex fun gp15 => VL.ex fun c16 => ?_
      refine VL.nn ?_
      refine VC.sr ?_
      refine VL.move rfl ?_
      refine VL.fieldAddr rfl fo70_5 rfl ?_
      refine VL.load (v := .int .u16 (x.id)) 2 5 rfl kd68 (fun _ h => h) rfl rfl rfl ?_
      refine VL.conv (by rw [Try.underlying68]; rfl) Try.underlying22 rfl (inr_u64 (by omega)) ?_
      refine VL.call Try.func116 rfl (by decide) rfl (fun w' hw => num_w hw (by simp only [List.length_append, List.length_cons, List.length_nil, List.length_map]; omega) (x.id) (fits_small (by omega)) 2 (by decide) (by decide) (fits2 (by omega))) (fun v => ?_)
      refine VL.fact fun e20 => ?_
      subst e20
      refine VL.ex fun gp18 => VL.ex fun c19 => ?_
      refine VL.nn ?_
      refine VC.sr ?_
      refine VL.move rfl ?_
      refine VL.fieldAddr rfl fo70_6 rfl ?_
      refine VL.loads (cs := (x.ratchet).map bv) 2 6 1 rfl kd44 (fun _ h => h) rfl rfl rfl rfl ?_
      refine VL.call Try.func119 rfl (by decide) rfl (fun w' hw => key_w hw (by simp only [List.length_append, List.length_cons, List.length_nil, List.length_map]; omega) (l := x.ratchet) hx.ratchet) (fun v => ?_)
      refine VL.fact fun e23 => ?_
      subst e23
      refine VL.ex fun gp21 => VL.ex fun c22 => ?_
      refine VL.nn ?_
      refine VC.sr ?_
      refine VL.move rfl ?_
      refine VL.fieldAddr rfl fo70_7 rfl ?_
      refine VL.load (v := .int .u16 (x.n)) 2 7 rfl kd68 (fun _ h => h) rfl rfl rfl ?_
      refine VL.conv (by rw [Try.underlying68]; rfl) Try.underlying22 rfl (inr_u64 (by omega)) ?_
      refine VL.call Try.func116 rfl (by decide) rfl (fun w' hw => num_w hw (by simp only [List.length_append, List.length_cons, List.length_nil, List.length_map]; omega) (x.n) (fits_small (by omega)) 2 (by decide) (by decide) (fits2 (by omega))) (fun v => ?_)
      refine VL.fact fun e26 => ?_
      subst e26
      refine VL.ex fun gp24 => VL.ex fun c25 => ?_
      refine VL.nn ?_
      refine VC.sr ?_
      refine VL.move rfl ?_
      refine VL.fieldAddr rfl fo70_8 rfl ?_
      refine VL.load (v := .int .u16 (x.prev)) 2 8 rfl kd68 (fun _ h => h) rfl rfl rfl ?_
      refine VL.conv (by rw [Try.underlying68]; rfl) Try.underlying22 rfl (inr_u64 (by omega)) ?_
      refine VL.call Try.func116 rfl (by decide) rfl (fun w' hw => num_w hw (by simp only [List.length_append, List.length_cons, List.length_nil, List.length_map]; omega) (x.prev) (fits_small (by omega)) 2 (by decide) (by decide) (fits2 (by omega))) (fun v => ?_)
      refine VL.fact fun e29 => ?_
      subst e29
      refine VL.ex fun gp27 => VL.ex fun c28 => ?_
      refine VL.nn ?_
      refine VC.sr ?_
      refine VL.move rfl ?_
      refine VL.call Try.func118 rfl (by decide) rfl (fun w' hw => done_O hw) (fun v => ?_)
      refine VL.at (fun w30 h1w => ?_)
      obtain ⟨p31, c32, rfl, hO34, hA33⟩ := h1w
      refine VL.toOwn hO34 ?_
      refine VL.extract rfl rfl ?_
      refine VL.extract rfl rfl ?_
      refine VL.assign rfl ?_
      refine VL.assign rfl ?_
      refine VL.nn ?_
      refine VC.ret ?_
      refine VX.ret2 rfl rfl rfl (fun we hw => ?_)
      exact postO ((by rw [← headerO_is hx (by unfold headerFit; simp [h1_1, h1_7, h1_12, h1_18, h1_23])]; unfold headerP; rw [h1_1]; rfl)) ⟨p31, c32, rfl, hw.drop.subA, (hA33.nowA (s := ⟨w30, _⟩) Mono.byte hw.drop)⟩
 ·refine VL.not rfl ?_
  refine VL.move rfl ?_
  refine VL.pass rfl rfl rfl rfl rfl ?_
  refine VL.pass rfl rfl rfl rfl rfl ?_
  refine VL.pass rfl rfl rfl rfl rfl ?_
  refine VL.pass rfl rfl rfl rfl rfl ?_
  refine VL.pass rfl rfl rfl rfl rfl ?_
  refine VL.passu rfl rfl rfl rfl ?_
  refine VL.passu rfl rfl rfl rfl ?_
  refine VL.passu rfl rfl rfl rfl ?_
  refine VL.passu rfl rfl rfl rfl ?_
  refine VL.pass rfl rfl rfl rfl rfl ?_
  refine VL.pass rfl rfl rfl rfl rfl ?_
  refine VL.passu rfl rfl rfl rfl ?_
  refine VL.passu rfl rfl rfl rfl ?_
  refine VL.passu rfl rfl rfl rfl ?_
  refine VL.passu rfl rfl rfl rfl ?_
  refine VL.pass rfl rfl rfl rfl rfl ?_
  refine VL.pass rfl rfl rfl rfl rfl ?_
  refine VL.passu rfl rfl rfl rfl ?_
  refine VL.passu rfl rfl rfl rfl ?_
  refine VL.passu rfl rfl rfl rfl ?_
  refine VL.pass rfl rfl rfl rfl rfl ?_
  refine VL.pick_f rfl rfl ?_
  refine VL.nn ?_
  refine VC.no rfl ?_
  refine VC.skip ?_
  refine VX.next ?_
  refine VC.sr ?_
  refine VL.build (zs := [[.slice none 0 0], [.bool false]]) [] plan181 rfl trivial rfl ?_
  refine VL.box (L := [1, 1]) (ps := [[rowV none 0 0], [.bool false]]) rfl rfl rfl (fun g35 => ?_)
  refine VL.turn (fun w' hw => Own.newW hw) ?_
  refine VL.assign rfl ?_
  refine VL.nn ?_
  refine VC.sr ?_
  refine VL.assign rfl ?_
  refine VL.nn ?_
  refine VC.seq ?_
  refine VC.sr ?_
  refine VL.fieldAddr rfl fo70_1 rfl ?_
  refine VL.load (v := .bool x.first) 2 1 rfl kd4 (fun _ h => h) rfl rfl rfl ?_
  rw [h1_1]
  refine VL.nn ?_
  refine VC.yes rfl ?_
  refine VC.region ?_
  refine VL.assign rfl ?_
  refine VL.nn ?_
  refine VC.sr ?_
  refine VL.move rfl ?_
  refine VL.fieldAddr rfl fo70_0 rfl ?_
  refine VL.loads (cs := (x.session).map bv) 2 0 1 rfl kd44 (fun _ h => h) rfl rfl rfl rfl ?_
  refine VL.call Try.func119 rfl (by decide) rfl (fun w' hw => key_w hw (by simp only [List.length_append, List.length_cons, List.length_nil, List.length_map]; omega) (l := x.session) hx.session) (fun v => ?_)
  refine VL.fact fun e38 => ?_
  subst e38
  refine VL.ex fun gp36 => VL.ex fun c37 => ?_
  refine VL.nn ?_
  refine VC.sr ?_
  refine VL.move rfl ?_
  refine VL.move rfl ?_
  refine VL.call Try.func116 rfl (by decide) rfl (fun w' hw => num_w hw (by simp only [List.length_append, List.length_cons, List.length_nil, List.length_map]; omega) (1) (fits_small (by omega)) 1 (by decide) (by decide) (fits1 (by omega))) (fun v => ?_)
  refine VL.fact fun e41 => ?_
  subst e41
  refine VL.ex fun gp39 => VL.ex fun c40 => ?_
  refine VL.nn ?_
  refine VC.sr ?_
  refine VL.move rfl ?_
  refine VL.fieldAddr rfl fo70_2 rfl ?_
  refine VL.loads (cs := (x.agree).map bv) 2 2 1 rfl kd44 (fun _ h => h) rfl rfl rfl rfl ?_
  refine VL.call Try.func119 rfl (by decide) rfl (fun w' hw => key_w hw (by simp only [List.length_append, List.length_cons, List.length_nil, List.length_map]; omega) (l := x.agree) hx.agree) (fun v => ?_)
  refine VL.fact fun e44 => ?_
  subst e44
  refine VL.ex fun gp42 => VL.ex fun c43 => ?_
  refine VL.nn ?_
  refine VC.sr ?_
  refine VL.move rfl ?_
  refine VL.fieldAddr rfl fo70_3 rfl ?_
  refine VL.loads (cs := (x.signer).map bv) 2 3 1 rfl kd44 (fun _ h => h) rfl rfl rfl rfl ?_
  refine VL.call Try.func119 rfl (by decide) rfl (fun w' hw => key_w hw (by simp only [List.length_append, List.length_cons, List.length_nil, List.length_map]; omega) (l := x.signer) hx.signer) (fun v => ?_)
  refine VL.fact fun e47 => ?_
  subst e47
  refine VL.ex fun gp45 => VL.ex fun c46 => ?_
  refine VL.nn ?_
  refine VC.sr ?_
  refine VL.move rfl ?_
  refine VL.fieldAddr rfl fo70_4 rfl ?_
  refine VL.loads (cs := (x.base).map bv) 2 4 1 rfl kd44 (fun _ h => h) rfl rfl rfl rfl ?_
  refine VL.call Try.func119 rfl (by decide) rfl (fun w' hw => key_w hw (by simp only [List.length_append, List.length_cons, List.length_nil, List.length_map]; omega) (l := x.base) hx.base) (fun v => ?_)
  refine VL.fact fun e50 => ?_
  subst e50
  refine VL.ex fun gp48 => VL.ex fun c49 => ?_
  refine VL.nn ?_
  refine VC.sr ?_
  refine VL.move rfl ?_
  refine VL.fieldAddr rfl fo70_5 rfl ?_
  refine VL.load (v := .int .u16 (x.id)) 2 5 rfl kd68 (fun _ h => h) rfl rfl rfl ?_
  refine VL.conv (by rw [Try.underlying68]; rfl) Try.underlying22 rfl (inr_u64 (by omega)) ?_
  refine VL.call Try.func116 rfl (by decide) rfl (fun w' hw => num_w hw (by simp only [List.length_append, List.length_cons, List.length_nil, List.length_map]; omega) (x.id) (fits_small (by omega)) 2 (by decide) (by decide) (fits2 (by omega))) (fun v => ?_)
  refine VL.fact fun e53 => ?_
  subst e53
  refine VL.ex fun gp51 => VL.ex fun c52 => ?_
  refine VL.nn ?_
  refine VC.sr ?_
  refine VL.move rfl ?_
  refine VL.fieldAddr rfl fo70_6 rfl ?_
  refine VL.loads (cs := (x.ratchet).map bv) 2 6 1 rfl kd44 (fun _ h => h) rfl rfl rfl rfl ?_
  refine VL.call Try.func119 rfl (by decide) rfl (fun w' hw => key_w hw (by simp only [List.length_append, List.length_cons, List.length_nil, List.length_map]; omega) (l := x.ratchet) hx.ratchet) (fun v => ?_)
  refine VL.fact fun e56 => ?_
  subst e56
  refine VL.ex fun gp54 => VL.ex fun c55 => ?_
  refine VL.nn ?_
  refine VC.sr ?_
  refine VL.move rfl ?_
  refine VL.fieldAddr rfl fo70_7 rfl ?_
  refine VL.load (v := .int .u16 (x.n)) 2 7 rfl kd68 (fun _ h => h) rfl rfl rfl ?_
  refine VL.conv (by rw [Try.underlying68]; rfl) Try.underlying22 rfl (inr_u64 (by omega)) ?_
  refine VL.call Try.func116 rfl (by decide) rfl (fun w' hw => num_w hw (by simp only [List.length_append, List.length_cons, List.length_nil, List.length_map]; omega) (x.n) (fits_small (by omega)) 2 (by decide) (by decide) (fits2 (by omega))) (fun v => ?_)
  refine VL.fact fun e59 => ?_
  subst e59
  refine VL.ex fun gp57 => VL.ex fun c58 => ?_
  refine VL.nn ?_
  refine VC.sr ?_
  refine VL.move rfl ?_
  refine VL.fieldAddr rfl fo70_8 rfl ?_
  refine VL.load (v := .int .u16 (x.prev)) 2 8 rfl kd68 (fun _ h => h) rfl rfl rfl ?_
  refine VL.conv (by rw [Try.underlying68]; rfl) Try.underlying22 rfl (inr_u64 (by omega)) ?_
  refine VL.call Try.func116 rfl (by decide) rfl (fun w' hw => num_w hw (by simp only [List.length_append, List.length_cons, List.length_nil, List.length_map]; omega) (x.prev) (fits_small (by omega)) 2 (by decide) (by decide) (fits2 (by omega))) (fun v => ?_)
  refine VL.fact fun e62 => ?_
  subst e62
  refine VL.ex fun gp60 => VL.ex fun c61 => ?_
  refine VL.nn ?_
  refine VC.sr ?_
  refine VL.move rfl ?_
  refine VL.call Try.func118 rfl (by decide) rfl (fun w' hw => done_O hw) (fun v => ?_)
  refine VL.at (fun w63 h1w => ?_)
  obtain ⟨p64, c65, rfl, hO67, hA66⟩ := h1w
  refine VL.toOwn hO67 ?_
  refine VL.extract rfl rfl ?_
  refine VL.extract rfl rfl ?_
  refine VL.assign rfl ?_
  refine VL.assign rfl ?_
  refine VL.nn ?_
  refine VC.ret ?_
  refine VX.ret2 rfl rfl rfl (fun we hw => ?_)
  exact postO ((by rw [← headerO_is hx (by unfold headerFit; simp [h1_1])]; unfold headerP; rw [h1_1]; rfl)) ⟨p64, c65, rfl, hw.drop.subA, (hA66.nowA (s := ⟨w63, _⟩) Mono.byte hw.drop)⟩

theorem putLetter_w {S : List Snap} {H : List Chunk} {w : World} (ho : Own S H w) {x : Letter} (hx : x.ok) {p : Option Addr} {c : Nat} (hA : Bytes (keys H) w p x.body c) : Calls Try.prog 50 #[.agg (cat (letterV x p c)).toArray] w (RetO S H (letterO x)) := by
 have hx1 := hx.src
 have hx2 := hx.dst
 refine enter (G := Own (⟨w, keys H⟩ :: S) H) ho.keep Try.func50 rfl Try.ntmps50 rfl ?_
 refine VC.sr ?_
 refine VL.box (L := letterL) (ps := (letterV (x) p c)) rfl rfl (letterV_len hx) (fun g1 => ?_)
 refine VL.assign rfl ?_
 refine VL.assign rfl ?_
 refine VL.nn ?_
 refine VC.sr ?_
 refine VL.build (zs := [[.slice none 0 0], [.bool false]]) [] plan181 rfl trivial rfl ?_
 refine VL.box (L := [1, 1]) (ps := [[rowV none 0 0], [.bool false]]) rfl rfl rfl (fun g2 => ?_)
 refine VL.turn (fun w' hw => Own.newW hw) ?_
 refine VL.assign rfl ?_
 refine VL.nn ?_
 refine VC.sr ?_
 refine VL.move rfl ?_
 refine VL.fieldAddr rfl fo72_0 rfl ?_
 refine VL.load (v := .int .u8 (x.src)) 2 0 rfl kd5 (fun _ h => h) rfl rfl rfl ?_
 refine VL.conv (by rw [Try.underlying5]; rfl) Try.underlying22 rfl (inr_u64 (by omega)) ?_
 refine VL.call Try.func116 rfl (by decide) rfl (fun w' hw => num_w hw (by simp only [List.length_append, List.length_cons, List.length_nil, List.length_map]; omega) (x.src) (fits_small (by omega)) 1 (by decide) (by decide) (fits1 (by omega))) (fun v => ?_)
 refine VL.fact fun e5 => ?_
 subst e5
 refine VL.ex fun gp3 => VL.ex fun c4 => ?_
 refine VL.nn ?_
 refine VC.sr ?_
 refine VL.move rfl ?_
 refine VL.fieldAddr rfl fo72_1 rfl ?_
 refine VL.load (v := .int .u8 (x.dst)) 2 1 rfl kd5 (fun _ h => h) rfl rfl rfl ?_
 refine VL.conv (by rw [Try.underlying5]; rfl) Try.underlying22 rfl (inr_u64 (by omega)) ?_
 refine VL.call Try.func116 rfl (by decide) rfl (fun w' hw => num_w hw (by simp only [List.length_append, List.length_cons, List.length_nil, List.length_map]; omega) (x.dst) (fits_small (by omega)) 1 (by decide) (by decide) (fits1 (by omega))) (fun v => ?_)
 refine VL.fact fun e8 => ?_
 subst e8
 refine VL.ex fun gp6 => VL.ex fun c7 => ?_
 refine VL.nn ?_
 refine VC.sr ?_
 refine VL.move rfl ?_
 refine VL.fieldAddr rfl fo72_2 rfl ?_
 refine VL.loads (cs := cat (headerV (x.header))) 2 2 9 rfl kd70 (fun _ h => h) rfl rfl rfl rfl ?_
 refine VL.call Try.func52 rfl (by decide) rfl (fun w' hw => headerBytes_w hw (x := x.header) hx.header) (fun v => ?_)
 refine VL.at (fun w9 h1w => ?_)
 obtain ⟨p10, c11, rfl, hO13, hA12⟩ := h1w
 refine VL.toOwn hO13 ?_
 refine VL.extract rfl rfl ?_
 refine VL.extract rfl rfl ?_
 refine VL.call Try.func117 rfl (by decide) rfl (fun w' hw => piece_w hw (by simp only [List.length_append, List.length_cons, List.length_nil, List.length_map]; omega) (hA12.nowA (s := ⟨w9, _⟩) Mono.byte hw) (((headerO (x.header)).isSome))) (fun v => ?_)
 refine VL.fact fun e16 => ?_
 subst e16
 refine VL.ex fun gp14 => VL.ex fun c15 => ?_
 refine VL.nn ?_
 refine VC.sr ?_
 refine VL.move rfl ?_
 refine VL.fieldAddr rfl fo72_3 rfl ?_
 refine VL.load (v := .slice p (x.body).length c) 2 11 rfl kd24 (fun _ h => h) rfl rfl rfl ?_
 refine VL.call Try.func117 rfl (by decide) rfl (fun w' hw => piece_w hw (by simp only [List.length_append, List.length_cons, List.length_nil, List.length_map]; omega) (hA.nowA (s := ⟨w, _⟩) Mono.byte hw) true) (fun v => ?_)
 refine VL.fact fun e19 => ?_
 subst e19
 refine VL.ex fun gp17 => VL.ex fun c18 => ?_
 refine VL.nn ?_
 refine VC.sr ?_
 refine VL.move rfl ?_
 refine VL.call Try.func118 rfl (by decide) rfl (fun w' hw => done_O hw) (fun v => ?_)
 refine VL.at (fun w20 h1w => ?_)
 obtain ⟨p21, c22, rfl, hO24, hA23⟩ := h1w
 refine VL.toOwn hO24 ?_
 refine VL.extract rfl rfl ?_
 refine VL.extract rfl rfl ?_
 refine VL.assign rfl ?_
 refine VL.assign rfl ?_
 refine VL.nn ?_
 refine VC.ret ?_
 refine VX.ret2 rfl rfl rfl (fun we hw => ?_)
 exact postO ((by unfold letterO; congr 1; cases (headerO x.header).isSome <;> rfl)) ⟨p21, c22, rfl, hw.drop.subA, (hA23.nowA (s := ⟨w20, _⟩) Mono.byte hw.drop)⟩

end Go.Proofs.Ytcfecmoagfgnaaa

