/- The statement BagOwn is proved, for every input: part 7 of 14 of the texts that it needs. -/
import Derived.Test.YtcfecmoagfgnaaaMbowAF
/- wire: what takes pieces, wherever it lies. -/
namespace Go.Proofs.Ytcfecmoagfgnaaa
open Go.Vc Go.Pl

/-- The reading of the variable of what takes pieces. -/
def rdR (parts : List (List UInt8)) (why : Nat) : Rel (List (List Value)) := fun K w _ ps => ∃ p c, ps = [[.slice p parts.length c], [.int .i64 why]] ∧ Arr 1 bytesR K w p parts c
theorem Mono_rd (parts : List (List UInt8)) (why : Nat) : Mono (rdR parts why) := fun _ _ _ _ _ ha ⟨p, c, e, h⟩ => ⟨p, c, e, h.after (Mono.slice Mono.byte) ha⟩
/-- What takes pieces: those that are left; the error. -/
def rch (g : Nat) (parts : List (List UInt8)) (why : Nat) : Chunk := xblk g 196 [1, 1] (rdR parts why) (Mono_rd parts why)
theorem openR {S : List Snap} {H : List Chunk} {w : World} {g : Nat} {parts : List (List UInt8)} {why : Nat} (h : Own S (rch g parts why :: H) w) : ∃ p c, Own S (rblk g p parts.length c why :: H) w ∧ Arr 1 bytesR (g :: keys H) w p parts c := by
 obtain ⟨ps, h1, p, c, rfl, h2⟩ := h.openX
 exact ⟨p, c, h1, h2⟩
theorem shutR {S : List Snap} {H : List Chunk} {w : World} {g : Nat} {parts : List (List UInt8)} {why : Nat} {p : Option Addr} {c : Nat} (h : Own S (rblk g p parts.length c why :: H) w) (hA : Arr 1 bytesR (g :: keys H) w p parts c) : Own S (rch g parts why :: H) w :=
 h.shutX (Mono_rd parts why) ⟨p, c, rfl, hA⟩
theorem set_at {H : List Chunk} {i : Nat} {c : Chunk} (hi : H[i]? = some c) (c' : Chunk) : (H.set i c')[i]? = some c' := by
 have := (List.getElem?_eq_some_iff.1 hi).1
 rw [List.getElem?_set_self (by simpa using this)]
theorem open_R {S : List Snap} {H : List Chunk} {w : World} (ho : Own S H w) {p : Option Addr} {l : List UInt8} {c : Nat} (hA : Bytes (keys H) w p l c) : Calls Try.prog 121 #[.slice p l.length c] w (Ret fun v w' => ∃ g, v = .pointer (some ⟨g, 0, none⟩) ∧ Own S (rch g (openP l) (openW l) :: H) w') :=
 calls_mono (open_r ho hA) fun v w' ⟨g, p', c', e, h1, h2⟩ => ⟨g, e, shutR h1 h2⟩
theorem fail_R {S : List Snap} {H : List Chunk} {w : World} {g : Nat} {parts : List (List UInt8)} {why : Nat} {i : Nat} (hi : H[i]? = some (rch g parts why)) (ho : Own S H w) (e : Nat) : Calls Try.prog 125 #[.pointer (some ⟨g, 0, none⟩), .int .i64 e] w (Ret fun v w' => v = .tuple #[] ∧ Own S (H.set i (rch g parts (failW why e))) w') := by
 have h0 := (ho.front hi).keep
 obtain ⟨p, c, h1, h2⟩ := openR h0
 refine calls_mono (fail_r h1 e) fun v w' ⟨e1, h3⟩ => ⟨e1, ?_⟩
 have := shutR h3 (h2.nowK (s := ⟨w, _⟩) (K := g :: keys (H.eraseIdx i)) (Mono.slice Mono.byte) h3 (by repeat (first | exact List.mem_cons_self .. | apply List.mem_cons_of_mem)) rfl)
 exact (this.lose).back hi
theorem end_R {S : List Snap} {H : List Chunk} {w : World} {g : Nat} {parts : List (List UInt8)} {why : Nat} {i : Nat} (hi : H[i]? = some (rch g parts why)) (ho : Own S H w) : Calls Try.prog 126 #[.pointer (some ⟨g, 0, none⟩)] w (Ret fun v w' => v = .int .i64 (endW parts why) ∧ Own S (H.set i (rch g parts (endW parts why))) w') := by
 have h0 := (ho.front hi).keep
 obtain ⟨p, c, h1, h2⟩ := openR h0
 refine calls_mono (end_r h1) fun v w' ⟨e1, h3⟩ => ⟨e1, ?_⟩
 have := shutR h3 (h2.nowK (s := ⟨w, _⟩) (K := g :: keys (H.eraseIdx i)) (Mono.slice Mono.byte) h3 (by repeat (first | exact List.mem_cons_self .. | apply List.mem_cons_of_mem)) rfl)
 exact (this.lose).back hi
theorem piece_R {S : List Snap} {H : List Chunk} {w : World} {g : Nat} {parts : List (List UInt8)} {why : Nat} {i : Nat} (hi : H[i]? = some (rch g parts why)) (ho : Own S H w) : Calls Try.prog 124 #[.pointer (some ⟨g, 0, none⟩)] w (Ret fun v w' => ∃ pb cb, v = .slice pb (nextP parts).length cb ∧ Own S (H.set i (rch g (parts.drop 1) (nextW parts why))) w' ∧ Bytes (keys (H.set i (rch g (parts.drop 1) (nextW parts why)))) w' pb (nextP parts) cb) := by
 have h0 := ho.front hi
 obtain ⟨p, c, h1, h2⟩ := openR h0
 refine calls_mono (piece_r h1 h2) fun v w' ⟨p', c', pb, cb, e1, h3, h4, h5⟩ => ⟨pb, cb, e1, (shutR h3 h4).back hi, h5.keysTo Mono.byte fun k hk => ?_⟩
 exact (keys_set hi k).1 hk
theorem num_R {S : List Snap} {H : List Chunk} {w : World} {g : Nat} {parts : List (List UInt8)} {why : Nat} {i : Nat} (hi : H[i]? = some (rch g parts why)) (ho : Own S H w) (k : Nat) (h1 : 1 ≤ k) (h8 : k ≤ 8) : Calls Try.prog 132 #[.pointer (some ⟨g, 0, none⟩), .int .i64 k] w (Ret fun v w' => v = .int .u64 (takeN parts k) ∧ Own S (H.set i (rch g (parts.drop 1) (lenW parts why k))) w') := by
 have h0 := ho.front hi
 obtain ⟨p, c, h1', h2⟩ := openR h0
 exact calls_mono (num_r h1' h2 k h1 h8) fun v w' ⟨p', c', e1, h3, h4⟩ => ⟨e1, (shutR h3 h4).back hi⟩
theorem byte_R {S : List Snap} {H : List Chunk} {w : World} {g : Nat} {parts : List (List UInt8)} {why : Nat} {i : Nat} (hi : H[i]? = some (rch g parts why)) (ho : Own S H w) : Calls Try.prog 122 #[.pointer (some ⟨g, 0, none⟩)] w (Ret fun v w' => v = .int .u8 (takeN parts 1) ∧ Own S (H.set i (rch g (parts.drop 1) (lenW parts why 1))) w') := by
 have h0 := ho.front hi
 obtain ⟨p, c, h1', h2⟩ := openR h0
 exact calls_mono (byte_r h1' h2) fun v w' ⟨p', c', e1, h3, h4⟩ => ⟨e1, (shutR h3 h4).back hi⟩
theorem zero80 : (Try.prog.info? 80).bind (·.zero) = some (.agg ((zeros 64).map bv).toArray) := by kernel_rfl
theorem keyOf_takeB (parts : List (List UInt8)) : keyOf (nextP parts) = takeB 32 parts := rfl

theorem key_R {S : List Snap} {H : List Chunk} {w : World} {g : Nat} {parts : List (List UInt8)} {why : Nat} {i : Nat} (hi : H[i]? = some (rch g parts why)) (ho : Own S H w) : Calls Try.prog 129 #[.pointer (some ⟨g, 0, none⟩)] w (Ret fun v w' => v = .agg ((takeB 32 parts).map bv).toArray ∧ Own S (H.set i (rch g (parts.drop 1) (lenW parts why 32))) w') := by
 refine enter (G := Own S H) ho Try.func129 rfl Try.ntmps129 rfl ?_
 refine VC.sr ?_
 refine VL.alloc (L := [32]) (ps := [key0.map bv]) zero44 rfl rfl (fun g2 => ?_)
 refine VL.nn ?_
 refine VC.sr ?_
 refine VL.move rfl ?_
 refine VL.call Try.func124 rfl (by decide) rfl (fun w' hw => piece_R (i := i + 1) hi hw) (fun v => ?_)
 refine VL.at (fun w1 h1w => ?_)
 obtain ⟨pb, cb, rfl, hO, hB1⟩ := h1w
 have hi2 := set_at hi (rch g (parts.drop 1) (nextW parts why))
 refine VL.toOwn hO ?_
 refine VL.call Try.func36 rfl (by decide) rfl (fun w' hw => key_any hw (hB1.nowA (s := ⟨w1, _⟩) Mono.byte hw)) (fun v => ?_)
 refine VL.at (fun w2 h1w => ?_)
 obtain ⟨hO2, rfl⟩ := h1w
 refine VL.toOwn hO2 ?_
 refine VL.move rfl ?_
 refine VL.extract rfl rfl ?_
 refine VL.extract rfl rfl ?_
 refine VL.alloc (L := [32]) (ps := [key0.map bv]) zero44 rfl rfl (fun g3 => ?_)
 refine VL.store (L := [32]) (qs := [(keyOf (nextP parts)).map bv]) 0 0 1 rfl rfl rfl (.inl kd44) rfl rfl (by simp [keyOf_length]) (ok1_bytes _) rfl rfl ?_
 refine VL.assign rfl ?_
 refine VL.nn ?_
 refine VC.seq ?_
 refine VC.sr ?_
 refine VL.move rfl ?_
 refine VL.not rfl ?_
 refine VL.nn ?_
 refine VC.split rfl (fun hc12 => ?_) (fun hc12 => ?_)
 ·refine VC.region ?_
  refine VL.move rfl ?_
  refine VL.call Try.func125 rfl (by decide) rfl (fun w' hw => fail_R (i := i + 2) hi2 hw 141) (fun v => ?_)
  refine VL.fact fun e => ?_
  subst e
  refine VL.nn ?_
  refine VC.sr ?_
  refine VL.loads (cs := (keyOf (nextP parts)).map bv) 0 0 1 rfl kd44 (fun _ h => h) rfl rfl rfl rfl ?_
  refine VL.store (L := [32]) (qs := [(keyOf (nextP parts)).map bv]) 1 0 1 rfl rfl rfl (.inl kd44) rfl rfl (by simp [keyOf_length]) (ok1_bytes _) rfl rfl ?_
  refine VL.nn ?_
  refine VC.ret ?_
  refine VX.ret_cell1 (cs := (keyOf (nextP parts)).map bv) 1 rfl rfl (by rw [List.length_map, keyOf_length]; exact kd44) (fun _ h => h) rfl rfl (fun we hw => ?_)
  refine ⟨by rw [keyOf_takeB], ?_⟩
  rw [show lenW parts why 32 = failW (nextW parts why) 141 from if_neg (by simpa using hc12)]
  rw [← List.set_set (a := rch g (parts.drop 1) (nextW parts why))]
  exact hw.drop.drop.lose.lose
 ·refine VC.skip ?_
  refine VX.next ?_
  refine VC.sr ?_
  refine VL.loads (cs := (keyOf (nextP parts)).map bv) 0 0 1 rfl kd44 (fun _ h => h) rfl rfl rfl rfl ?_
  refine VL.store (L := [32]) (qs := [(keyOf (nextP parts)).map bv]) 1 0 1 rfl rfl rfl (.inl kd44) rfl rfl (by simp [keyOf_length]) (ok1_bytes _) rfl rfl ?_
  refine VL.nn ?_
  refine VC.ret ?_
  refine VX.ret_cell1 (cs := (keyOf (nextP parts)).map bv) 1 rfl rfl (by rw [List.length_map, keyOf_length]; exact kd44) (fun _ h => h) rfl rfl (fun we hw => ?_)
  refine ⟨by rw [keyOf_takeB], ?_⟩
  rw [show lenW parts why 32 = nextW parts why from if_pos (by simpa using hc12)]
  exact hw.drop.drop.lose.lose

theorem sig_R {S : List Snap} {H : List Chunk} {w : World} {g : Nat} {parts : List (List UInt8)} {why : Nat} {i : Nat} (hi : H[i]? = some (rch g parts why)) (ho : Own S H w) : Calls Try.prog 131 #[.pointer (some ⟨g, 0, none⟩)] w (Ret fun v w' => v = .agg ((takeB 64 parts).map bv).toArray ∧ Own S (H.set i (rch g (parts.drop 1) (lenW parts why 64))) w') := by
 refine enter (G := Own S H) ho Try.func131 rfl Try.ntmps131 rfl ?_
 refine VC.sr ?_
 refine VL.alloc (L := [64]) (ps := [(zeros 64).map bv]) zero80 rfl rfl (fun g2 => ?_)
 refine VL.nn ?_
 refine VC.sr ?_
 refine VL.alloc (L := [64]) (ps := [(zeros 64).map bv]) zero80 rfl rfl (fun g3 => ?_)
 refine VL.nn ?_
 refine VC.sr ?_
 refine VL.move rfl ?_
 refine VL.call Try.func124 rfl (by decide) rfl (fun w' hw => piece_R (i := i + 2) hi hw) (fun v => ?_)
 refine VL.at (fun w1 h1w => ?_)
 obtain ⟨pb, cb, rfl, hO, hB1⟩ := h1w
 have hi2 := set_at hi (rch g (parts.drop 1) (nextW parts why))
 refine VL.toOwn hO ?_
 refine VL.assign rfl ?_
 refine VL.nn ?_
 refine VC.seq ?_
 refine VC.sr ?_
 refine VL.move rfl ?_
 refine VL.len Try.underlying24 rfl rfl ?_
 refine VL.neq rfl rfl ?_
 refine VL.case (fun h3_2 => ?_) (fun h3_2 => ?_)
 ·refine VL.nn ?_
  refine VC.yes rfl ?_
  refine VC.sr ?_
  refine VL.move rfl ?_
  refine VL.call Try.func125 rfl (by decide) rfl (fun w' hw => fail_R (i := i + 2) hi2 hw 141) (fun v => ?_)
  refine VL.fact fun e => ?_
  subst e
  refine VL.nn ?_
  refine VC.sr ?_
  refine VL.loads (cs := (zeros 64).map bv) 0 0 1 rfl kd80 (fun _ h => h) rfl rfl rfl rfl ?_
  refine VL.store (L := [64]) (qs := [(zeros 64).map bv]) 1 0 1 rfl rfl rfl (.inl kd80) rfl rfl rfl (ok1_bytes _) rfl rfl ?_
  refine VL.nn ?_
  refine VC.ret ?_
  refine VX.then_ret ?_
  refine VX.ret_cell1 (cs := (zeros 64).map bv) 1 rfl rfl kd80 (fun _ h => h) rfl rfl (fun we hw => ?_)
  refine ⟨by rw [show takeB 64 parts = zeros 64 from if_neg (by omega)], ?_⟩
  rw [show lenW parts why 64 = failW (nextW parts why) 141 from if_neg (by omega)]
  rw [← List.set_set (a := rch g (parts.drop 1) (nextW parts why))]
  exact hw.drop.drop.lose
 ·refine VL.nn ?_
  refine VC.no rfl ?_
  refine VC.skip ?_
  refine VX.next ?_
  refine VC.seq ?_
  have hl : (nextP parts).length = 64 := by omega
  refine VC.region ?_
  refine VL.sliceArr Try.underlying80 (by kernel_rfl) rfl ?_
  refine VL.move rfl ?_
  refine VL.copyAll (cur := (zeros 64).map bv) (l := nextP parts) 0 rfl Try.underlying24 (by kernel_rfl) rfl rfl rfl hl (by omega) (fun _ h => (hB1.nowA (s := ⟨w1, _⟩) Mono.byte h).bytes) rfl (fun _ => ?_)
  refine VL.nn ?_
  refine VC.sr ?_
  refine VL.loads (cs := (nextP parts).map bv) 0 0 1 rfl kd80 (fun _ h => h) rfl rfl rfl rfl ?_
  refine VL.store (L := [64]) (qs := [(nextP parts).map bv]) 1 0 1 rfl rfl rfl (.inl kd80) rfl rfl (by simp [hl]) (ok1_bytes _) rfl rfl ?_
  refine VL.nn ?_
  refine VC.ret ?_
  refine VX.ret_cell1 (cs := (nextP parts).map bv) 1 rfl rfl (by rw [List.length_map, hl]; exact kd80) (fun _ h => h) rfl rfl (fun we hw => ?_)
  refine ⟨by rw [show takeB 64 parts = nextP parts from if_pos hl], ?_⟩
  rw [show lenW parts why 64 = nextW parts why from if_pos hl]
  exact hw.drop.drop.lose

end Go.Proofs.Ytcfecmoagfgnaaa

/- The things as cells: their parts, their zeros; one against the other. -/
namespace Go.Proofs.Ytcfecmoagfgnaaa
open Go.Vc Go.Pl

abbrev vouchV (x : Vouch)  : List (List Value) := [[.int .u8 x.notary], x.sig.map bv]
abbrev vouchL : List Nat := [1, 64]
theorem zero202 : (Try.prog.info? 202).bind (·.zero) = some (.agg (cat (vouchV vouch0 )).toArray) := by kernel_rfl
abbrev vouchZ : List (List Value) := [[.int .u8 0], (zeros 64).map bv]
abbrev vouchFL : List Nat := [1, 64]
theorem plan202 : planOf Try.prog 202 = some (placesL 0 vouchFL, (cat vouchZ).toArray) := by kernel_rfl
theorem vouchV_len {x : Vouch} (h : x.ok)  : (vouchV x ).map List.length = vouchL := by simp [h.sig]
theorem vouchV_ok1 (x : Vouch)  : ok1 (cat (vouchV x )) := by
 intro u hu
 rw [cat_eq] at hu
 simp only [List.mem_flatten, List.mem_cons, List.not_mem_nil, or_false] at hu
 obtain ⟨l, hl, hu⟩ := hu
 rcases hl with rfl | rfl <;> first | (simp only [List.mem_singleton] at hu; subst hu; rfl) | exact ok1_bytes _ u hu
abbrev objectV (x : Object) (q : Option Addr) (d : Nat) : List (List Value) := [[.int .u8 x.server], [.int .u8 x.n], x.key.map bv, [.int .u32 x.since], [.int .u32 x.till], x.sig.map bv, [.slice q x.vouches.length d]]
abbrev objectL : List Nat := [1, 1, 32, 1, 1, 64, 1]
theorem zero85 : (Try.prog.info? 85).bind (·.zero) = some (.agg (cat (objectV object0 none 0)).toArray) := by kernel_rfl
theorem built85 : Try.prog.built 85 [] = some (cat (objectV object0 none 0)).toArray := by kernel_rfl
abbrev objectZ : List (List Value) := [[.int .u8 0], [.int .u8 0], (zeros 32).map bv, [.int .u32 0], [.int .u32 0], (zeros 64).map bv, [.slice none 0 0]]
abbrev objectFL : List Nat := [1, 1, 32, 1, 1, 64, 1]
theorem plan85 : planOf Try.prog 85 = some (placesL 0 objectFL, (cat objectZ).toArray) := by kernel_rfl
theorem objectV_len {x : Object} (h : x.ok) {q : Option Addr} {d : Nat} : (objectV x q d).map List.length = objectL := by simp [h.key, h.sig]
theorem objectV_ok1 (x : Object) (q : Option Addr) (d : Nat) : ok1 (cat (objectV x q d)) := by
 intro u hu
 rw [cat_eq] at hu
 simp only [List.mem_flatten, List.mem_cons, List.not_mem_nil, or_false] at hu
 obtain ⟨l, hl, hu⟩ := hu
 rcases hl with rfl | rfl | rfl | rfl | rfl | rfl | rfl <;> first | (simp only [List.mem_singleton] at hu; subst hu; rfl) | exact ok1_bytes _ u hu
theorem arr_len {l : List UInt8} {n : Nat} (h : l.length = n) : [l.map bv].map List.length = [n] := by simp [h]
theorem arr_q {l : List UInt8} {n : Nat} (h : l.length = n) : some n = some (l.map bv).length := by simp [h]
def vouchR : Rel Vouch := fun _ _ vs v => v.ok ∧ vs = cat (vouchV v)
theorem Mono_vouch : Mono vouchR := fun _ _ _ _ _ _ h => h
end Go.Proofs.Ytcfecmoagfgnaaa

/- wire: what gathers pieces: at its beginning, at its end. -/
namespace Go.Proofs.Ytcfecmoagfgnaaa
open Go.Vc Go.Pl

theorem fits4 {m : Nat} (h : m < 4294967296) : Fits 4 m := h
theorem inr_u64 {m : Nat} (h : m < 4294967296) : InR .u64 (m : Int) :=
 ⟨Int.natCast_nonneg _, by
  have : (m : Int) ≤ 4294967296 := by omega
  exact Int.le_trans this (by decide)⟩
theorem cat_size {α : Type} {ps : List (List α)} {L : List Nat} (h : ps.map List.length = L) : (cat ps).length = L.sum := by rw [cat_eq, List.length_flatten, h]
/-- What a text's answer says: it, or none. -/
abbrev RetO (S : List Snap) (H : List Chunk) (o : Option (List UInt8)) : Ending → World → Prop := Ret fun v w' => ∃ p c, v = .tuple #[.slice p (o.getD []).length c, .bool o.isSome] ∧ Own S H w' ∧ Bytes (keys H) w' p (o.getD []) c
end Go.Proofs.Ytcfecmoagfgnaaa

/- wire: bytes of bundles, headers, letters. -/
namespace Go.Proofs.Ytcfecmoagfgnaaa
open Go.Vc Go.Pl

theorem postO {S : List Snap} {H : List Chunk} {o o' : Option (List UInt8)} (e : o' = o) {v : Value} {w' : World} (h : ∃ p c, v = .tuple #[.slice p (o'.getD []).length c, .bool o'.isSome] ∧ Own S H w' ∧ Bytes (keys H) w' p (o'.getD []) c) : ∃ p c, v = .tuple #[.slice p (o.getD []).length c, .bool o.isSome] ∧ Own S H w' ∧ Bytes (keys H) w' p (o.getD []) c := by subst e; exact h

end Go.Proofs.Ytcfecmoagfgnaaa

/- wire: what bytes are read as: bundles, headers, letters. -/
namespace Go.Proofs.Ytcfecmoagfgnaaa
open Go.Vc Go.Pl

theorem why_none {α : Type} {o : Option α} {n : Nat} (hn : (n : Int) ≠ 0) (h : n = if o.isSome then 0 else 141) : o = none ∧ n = 141 := by
 cases o with
 | none => exact ⟨rfl, h⟩
 | some x => exact absurd (by rw [h]; rfl) hn
theorem why_some {α : Type} {o : Option α} {n : Nat} (hn : ¬ (n : Int) ≠ 0) (h : n = if o.isSome then 0 else 141) : ∃ x, o = some x := by
 cases o with
 | none => exact absurd (show (n : Int) ≠ 0 by rw [h]; exact (by decide : ((141 : Nat) : Int) ≠ 0)) hn
 | some x => exact ⟨x, rfl⟩
theorem bundleR_ok (l : List UInt8) : ((bundleR l).getD bundle0).ok := by
 cases h : bundleR l with
 | none => exact bundle0_ok
 | some x => exact (bundleR_iff.1 h).1
end Go.Proofs.Ytcfecmoagfgnaaa

/- wire: bytes of objects. -/
namespace Go.Proofs.Ytcfecmoagfgnaaa
open Go.Vc Go.Pl

theorem vouchB_is (v : Vouch) : be 1 v.notary ++ v.sig = vouchB v := by rw [be_one]; rfl
theorem vouch_next {vs : List Vouch} {i : Nat} (h : i < vs.length) : (vs.take i).map vouchB ++ [be 1 (vs[i]'h).notary ++ (vs[i]'h).sig] = (vs.take (i + 1)).map vouchB := by
 rw [List.take_succ_eq_append_getElem h, List.map_append, vouchB_is]; rfl

end Go.Proofs.Ytcfecmoagfgnaaa

/- Plain facts on what goes over the net, continued: items. -/
namespace Go.Pl

instance : DecidableEq Bundle := fun a b => decidable_of_iff (a.device = b.device ∧ a.agree = b.agree ∧ a.signer = b.signer ∧ a.id = b.id ∧ a.once = b.once ∧ a.sig = b.sig) ⟨fun h => by cases a; cases b; simp only at h; obtain ⟨rfl, rfl, rfl, rfl, rfl, rfl⟩ := h; rfl, fun h => by subst h; exact ⟨rfl, rfl, rfl, rfl, rfl, rfl⟩⟩
instance : DecidableEq Header := fun a b => decidable_of_iff (a.session = b.session ∧ a.first = b.first ∧ a.agree = b.agree ∧ a.signer = b.signer ∧ a.base = b.base ∧ a.id = b.id ∧ a.ratchet = b.ratchet ∧ a.n = b.n ∧ a.prev = b.prev) ⟨fun h => by cases a; cases b; simp only at h; obtain ⟨rfl, rfl, rfl, rfl, rfl, rfl, rfl, rfl, rfl⟩ := h; rfl, fun h => by subst h; exact ⟨rfl, rfl, rfl, rfl, rfl, rfl, rfl, rfl, rfl⟩⟩
instance : DecidableEq Letter := fun a b => decidable_of_iff (a.src = b.src ∧ a.dst = b.dst ∧ a.header = b.header ∧ a.body = b.body) ⟨fun h => by cases a; cases b; simp only at h; obtain ⟨rfl, rfl, rfl, rfl⟩ := h; rfl, fun h => by subst h; exact ⟨rfl, rfl, rfl, rfl⟩⟩
instance : DecidableEq Vouch := fun a b => decidable_of_iff (a.notary = b.notary ∧ a.sig = b.sig) ⟨fun h => by cases a; cases b; simp only at h; obtain ⟨rfl, rfl⟩ := h; rfl, fun h => by subst h; exact ⟨rfl, rfl⟩⟩
instance : DecidableEq Object := fun a b => decidable_of_iff (a.server = b.server ∧ a.n = b.n ∧ a.key = b.key ∧ a.since = b.since ∧ a.till = b.till ∧ a.sig = b.sig ∧ a.vouches = b.vouches) ⟨fun h => by cases a; cases b; simp only at h; obtain ⟨rfl, rfl, rfl, rfl, rfl, rfl, rfl⟩ := h; rfl, fun h => by subst h; exact ⟨rfl, rfl, rfl, rfl, rfl, rfl, rfl⟩⟩

structure Itm where
  kind : Nat
  asker : Nat
  peer : Nat
  letter : Letter
  bundle : Bundle
  object : Object
structure Itm.ok (x : Itm) : Prop where
  kind : x.kind < 256
  asker : x.asker < 256
  peer : x.peer < 256
  letter : x.letter.ok
  bundle : x.bundle.ok
  object : x.object.ok
def item0 : Itm := ⟨0, 0, 0, letter0, bundle0, object0⟩
theorem item0_ok : item0.ok := ⟨by decide, by decide, by decide, letter0_ok, bundle0_ok, object0_ok⟩
/-- Its kind's pieces; what is there beside its kind; is all else empty? -/
def itemP (x : Itm) : List (List UInt8) :=
  if x.kind = 1 then [be 1 x.kind, (letterO x.letter).getD []] else if x.kind = 2 ∨ x.kind = 4 then [be 1 x.kind, be 1 x.asker, be 1 x.peer]
  else if x.kind = 3 then [be 1 x.kind, be 1 x.asker, bundleB x.bundle] else [be 1 x.kind, (objectO x.object).getD []]
def itemGood (x : Itm) : Bool :=
  if x.kind = 1 then (letterO x.letter).isSome && decide (x.asker = 0 ∧ x.peer = 0 ∧ x.bundle = bundle0 ∧ x.object = object0)
  else if x.kind = 2 ∨ x.kind = 4 then decide (x.letter = letter0 ∧ x.bundle = bundle0 ∧ x.object = object0)
  else if x.kind = 3 then decide (x.peer = 0 ∧ x.letter = letter0 ∧ x.object = object0)
  else if x.kind = 5 ∨ x.kind = 6 then (objectO x.object).isSome && decide (x.asker = 0 ∧ x.peer = 0 ∧ x.letter = letter0 ∧ x.bundle = bundle0)
  else false
def itemO (x : Itm) : Option (List UInt8) := joinO (itemP x) (itemGood x)
def bareP (x : Itm) : Prop := x.asker = 0 ∧ x.peer = 0 ∧ x.letter = letter0 ∧ x.bundle = bundle0 ∧ x.object = object0
/-- What is left of an item when its kind's part is taken out. -/
abbrev itemA (x : Itm) : Itm := ⟨x.kind, x.asker, x.peer, letter0, x.bundle, x.object⟩
abbrev itemB (x : Itm) : Itm := ⟨x.kind, 0, 0, x.letter, x.bundle, x.object⟩
abbrev itemC (x : Itm) : Itm := ⟨x.kind, 0, x.peer, x.letter, bundle0, x.object⟩
abbrev itemD (x : Itm) : Itm := ⟨x.kind, x.asker, x.peer, x.letter, x.bundle, object0⟩
theorem none_joinO (ps : List (List UInt8)) : none = joinO ps false := (joinO_none (by simp)).symm
theorem item1_y {x : Itm} (h : x.kind = 1) (hb : bareP (itemA x)) : joinO [be 1 x.kind, (letterO x.letter).getD []] (letterO x.letter).isSome = itemO x := by
 unfold itemO itemGood itemP
 rw [if_pos h, if_pos h, decide_eq_true ⟨hb.1, hb.2.1, hb.2.2.2.1, hb.2.2.2.2⟩, Bool.and_true]
theorem item2_y {x : Itm} (h : x.kind = 2 ∨ x.kind = 4) (hb : bareP (itemB x)) : joinO [be 1 x.kind, be 1 x.asker, be 1 x.peer] true = itemO x := by
 unfold itemO itemGood itemP
 rw [if_neg (by omega), if_pos h, if_neg (by omega), if_pos h, decide_eq_true ⟨hb.2.2.1, hb.2.2.2.1, hb.2.2.2.2⟩]
theorem item3_y {x : Itm} (h : x.kind = 3) (hb : bareP (itemC x)) : joinO [be 1 x.kind, be 1 x.asker, bundleB x.bundle] true = itemO x := by
 unfold itemO itemGood itemP
 rw [if_neg (by omega), if_neg (by omega), if_pos h, if_neg (by omega), if_neg (by omega), if_pos h, decide_eq_true ⟨hb.2.1, hb.2.2.1, hb.2.2.2.2⟩]
theorem item5_y {x : Itm} (h : x.kind = 5 ∨ x.kind = 6) (hb : bareP (itemD x)) : joinO [be 1 x.kind, (objectO x.object).getD []] (objectO x.object).isSome = itemO x := by
 unfold itemO itemGood itemP
 rw [if_neg (by omega), if_neg (by omega), if_neg (by omega), if_pos h, if_neg (by omega), if_neg (by omega), if_neg (by omega), decide_eq_true ⟨hb.1, hb.2.1, hb.2.2.1, hb.2.2.2.1⟩, Bool.and_true]
/-! What bytes are read as. -/
abbrev itemK (a : List (List UInt8)) : Nat := takeN a 1
/-- The item that is read, if the pieces behind the first one fit. -/
def itemR (l : List UInt8) : Option Itm :=
  let a := openP l
  let b := a.drop 1
  let c := b.drop 1
  if ¬ fitsP [some 1] a then none
  else if itemK a = 1 then (if a.length = 2 then (letterR (nextP b)).map fun y => ⟨1, 0, 0, y, bundle0, object0⟩ else none)
  else if itemK a = 2 ∨ itemK a = 4 then (if fitsP [some 1, some 1, some 1] a ∧ a.length = 3 then some ⟨itemK a, takeN b 1, takeN c 1, letter0, bundle0, object0⟩ else none)
  else if itemK a = 3 then (if fitsP [some 1, some 1, none] a ∧ a.length = 3 then (bundleR (nextP c)).map fun y => ⟨3, takeN b 1, 0, letter0, y, object0⟩ else none)
  else if itemK a = 5 ∨ itemK a = 6 then (if a.length = 2 then (objectR (nextP b)).map fun y => ⟨itemK a, 0, 0, letter0, bundle0, y⟩ else none)
  else none
theorem be_ofN {p : List UInt8} {r : List (List UInt8)} (h : p.length = 1) : be 1 (takeN (p :: r) 1) = p := by rw [takeN_cons h, be_take h]
theorem itemR_some {l : List UInt8} {x : Itm} (h : itemR l = some x) : x.ok ∧ itemO x = some l := by
 unfold itemR at h
 simp only at h
 split at h
 ·cases h
 ·rename_i hf
  have hf : fitsP [some 1] (openP l) := Decidable.not_not.1 hf
  have hne : openP l ≠ [] := fun e => by rw [e] at hf; exact hf.elim
  obtain ⟨hj1, hj2⟩ := join_open hne
  have hk := takeN_lt (openP l) 1
  split at h
  ·rename_i hk1
   split at h
   ·rename_i hl
    obtain ⟨y, hy, rfl⟩ := Option.map_eq_some_iff.1 h
    obtain ⟨hy1, hy2⟩ := letterR_iff.1 hy
    refine ⟨⟨(by decide : 1 < 256), (by decide : 0 < 256), (by decide : 0 < 256), hy1, bundle0_ok, object0_ok⟩, ?_⟩
    rw [← item1_y rfl ⟨rfl, rfl, rfl, rfl, rfl⟩]
    simp only [hy2, Option.getD_some, Option.isSome_some]
    have e : [be 1 1, nextP ((openP l).drop 1)] = openP l := by
     generalize openP l = ps at *
     match ps, hl with
     | [a, b], _ =>
      have ha := hf.1 1 rfl
      have : be 1 (takeN [a, b] 1) = a := be_ofN ha
      rw [show takeN [a, b] 1 = 1 from hk1] at this
      rw [this]; rfl
    rw [e, joinO_some hj1 rfl, hj2]
   ·cases h
  ·rename_i hk1
   split at h
   ·rename_i hk2
    split at h
    ·rename_i hl
     cases h
     refine ⟨⟨hk, takeN_lt _ 1, takeN_lt _ 1, letter0_ok, bundle0_ok, object0_ok⟩, ?_⟩
     rw [← item2_y hk2 ⟨rfl, rfl, rfl, rfl, rfl⟩]
     have e : [be 1 (itemK (openP l)), be 1 (takeN ((openP l).drop 1) 1), be 1 (takeN (((openP l).drop 1).drop 1) 1)] = openP l := by
      generalize openP l = ps at *
      match ps, hl with
      | [a, b, c], hl =>
       obtain ⟨⟨h1, h2, h3, _⟩, _⟩ := hl
       have e1 : be 1 (takeN [a, b, c] 1) = a := be_ofN (h1 1 rfl)
       have e2 : be 1 (takeN [b, c] 1) = b := be_ofN (h2 1 rfl)
       have e3 : be 1 (takeN [c] 1) = c := be_ofN (h3 1 rfl)
       show [be 1 (takeN [a, b, c] 1), be 1 (takeN [b, c] 1), be 1 (takeN [c] 1)] = _
       rw [e1, e2, e3]
      | [], hl => exact absurd hl.2 (by simp)
      | [_], hl => exact absurd hl.2 (by simp)
      | [_, _], hl => exact absurd hl.2 (by simp)
      | _ :: _ :: _ :: _ :: _, hl => exact absurd hl.2 (by simp)
     rw [e, joinO_some hj1 rfl, hj2]
    ·cases h
   ·rename_i hk2
    split at h
    ·rename_i hk3
     split at h
     ·rename_i hl
      obtain ⟨y, hy, rfl⟩ := Option.map_eq_some_iff.1 h
      obtain ⟨hy1, hy2⟩ := bundleR_iff.1 hy
      refine ⟨⟨(by decide : 3 < 256), takeN_lt _ 1, (by decide : 0 < 256), letter0_ok, hy1, object0_ok⟩, ?_⟩
      rw [← item3_y rfl ⟨rfl, rfl, rfl, rfl, rfl⟩]
      simp only [hy2]
      have e : [be 1 3, be 1 (takeN ((openP l).drop 1) 1), nextP (((openP l).drop 1).drop 1)] = openP l := by
       generalize openP l = ps at *
       match ps, hl with
       | [a, b, c], hl =>
        obtain ⟨⟨h1, h2, _⟩, _⟩ := hl
        have e1 : be 1 (takeN [a, b, c] 1) = a := be_ofN (h1 1 rfl)
        have e2 : be 1 (takeN [b, c] 1) = b := be_ofN (h2 1 rfl)
        rw [show takeN [a, b, c] 1 = 3 from hk3] at e1
        show [be 1 3, be 1 (takeN [b, c] 1), c] = _
        rw [e1, e2]
       | [], hl => exact absurd hl.2 (by simp)
       | [_], hl => exact absurd hl.2 (by simp)
       | [_, _], hl => exact absurd hl.2 (by simp)
       | _ :: _ :: _ :: _ :: _, hl => exact absurd hl.2 (by simp)
      rw [e, joinO_some hj1 rfl, hj2]
     ·cases h
    ·rename_i hk3
     split at h
     ·rename_i hk5
      split at h
      ·rename_i hl
       obtain ⟨y, hy, rfl⟩ := Option.map_eq_some_iff.1 h
       obtain ⟨hy1, hy2⟩ := objectR_iff.1 hy
       refine ⟨⟨hk, (by decide : 0 < 256), (by decide : 0 < 256), letter0_ok, bundle0_ok, hy1⟩, ?_⟩
       rw [← item5_y hk5 ⟨rfl, rfl, rfl, rfl, rfl⟩]
       simp only [hy2, Option.getD_some, Option.isSome_some]
       have e : [be 1 (itemK (openP l)), nextP ((openP l).drop 1)] = openP l := by
        generalize openP l = ps at *
        match ps, hl with
        | [a, b], _ =>
         have : be 1 (takeN [a, b] 1) = a := be_ofN (hf.1 1 rfl)
         show [be 1 (takeN [a, b] 1), b] = _
         rw [this]
       rw [e, joinO_some hj1 rfl, hj2]
      ·cases h
     ·cases h
theorem itemR_of {l : List UInt8} {x : Itm} (h : x.ok) (h2 : itemO x = some l) : itemR l = some x := by
 obtain ⟨hj, hg, rfl⟩ := joinO_eq h2
 obtain ⟨k, a, p, y, b, o⟩ := x
 have hk := h.kind; have ha := h.asker; have hp := h.peer
 simp only at hk ha hp
 have hkn : ∀ r, takeN (be 1 k :: r) 1 = k := fun r => by rw [takeN_cons (be_length 1 k), num_be' (by omega)]
 have hfk : ∀ r, fitsP [some 1] (be 1 k :: r) := fun r => ⟨fun n e => by cases e; exact be_length _ _, trivial⟩
 unfold itemR
 rw [open_join hj]
 unfold itemGood at hg
 simp only at hg
 by_cases h1 : k = 1
 ·subst h1
  rw [if_pos rfl] at hg
  simp only [Bool.and_eq_true, decide_eq_true_eq] at hg
  obtain ⟨hs, rfl, rfl, rfl, rfl⟩ := hg
  obtain ⟨t, ht⟩ := Option.isSome_iff_exists.1 hs
  have e : itemP ⟨1, 0, 0, y, bundle0, object0⟩ = [be 1 1, t] := by unfold itemP; rw [if_pos rfl, ht]; rfl
  rw [e]
  simp only
  rw [if_neg (not_not_intro (hfk _)), if_pos (hkn _), if_pos (show [be 1 1, t].length = 2 from rfl)]
  rw [show nextP (List.drop 1 [be 1 1, t]) = t from rfl, letterR_iff.2 ⟨h.letter, ht⟩]; rfl
 ·rw [if_neg h1] at hg
  by_cases h2' : k = 2 ∨ k = 4
  ·rw [if_pos h2'] at hg
   simp only [decide_eq_true_eq] at hg
   obtain ⟨rfl, rfl, rfl⟩ := hg
   have e : itemP ⟨k, a, p, letter0, bundle0, object0⟩ = [be 1 k, be 1 a, be 1 p] := by unfold itemP; rw [if_neg h1, if_pos h2']
   rw [e]
   simp only
   have hkk : itemK [be 1 k, be 1 a, be 1 p] = k := hkn _
   rw [if_neg (not_not_intro (hfk _)), if_neg (by rw [hkk]; exact h1), if_pos (by rw [hkk]; exact h2'), if_pos ⟨⟨fun n e => by cases e; exact be_length _ _, fun n e => by cases e; exact be_length _ _, fun n e => by cases e; exact be_length _ _, trivial⟩, rfl⟩, hkk]
   show some (Itm.mk k (takeN [be 1 a, be 1 p] 1) (takeN [be 1 p] 1) _ _ _) = _
   rw [takeN_cons (be_length 1 a), takeN_cons (be_length 1 p), num_be' (by omega), num_be' (by omega)]
  ·rw [if_neg h2'] at hg
   by_cases h3 : k = 3
   ·subst h3
    rw [if_pos rfl] at hg
    simp only [decide_eq_true_eq] at hg
    obtain ⟨rfl, rfl, rfl⟩ := hg
    have e : itemP ⟨3, a, 0, letter0, b, object0⟩ = [be 1 3, be 1 a, bundleB b] := by unfold itemP; rw [if_neg h1, if_neg h2', if_pos rfl]
    rw [e]
    simp only
    have hkk : itemK [be 1 3, be 1 a, bundleB b] = 3 := hkn _
    rw [if_neg (not_not_intro (hfk _)), if_neg (by rw [hkk]; exact h1), if_neg (by rw [hkk]; exact h2'), if_pos hkk, if_pos ⟨⟨fun n e => by cases e; exact be_length _ _, fun n e => by cases e; exact be_length _ _, fun n e => (by cases e), trivial⟩, rfl⟩]
    rw [show nextP (List.drop 1 (List.drop 1 [be 1 3, be 1 a, bundleB b])) = bundleB b from rfl, bundleR_iff.2 ⟨h.bundle, rfl⟩]
    show some (Itm.mk 3 (takeN [be 1 a, bundleB b] 1) _ _ _ _) = _
    rw [takeN_cons (be_length 1 a), num_be' (by omega)]
   ·rw [if_neg h3] at hg
    by_cases h5 : k = 5 ∨ k = 6
    ·rw [if_pos h5] at hg
     simp only [Bool.and_eq_true, decide_eq_true_eq] at hg
     obtain ⟨hs, rfl, rfl, rfl, rfl⟩ := hg
     obtain ⟨t, ht⟩ := Option.isSome_iff_exists.1 hs
     have e : itemP ⟨k, 0, 0, letter0, bundle0, o⟩ = [be 1 k, t] := by unfold itemP; rw [if_neg h1, if_neg h2', if_neg h3, ht]; rfl
     rw [e]
     simp only
     have hkk : itemK [be 1 k, t] = k := hkn _
     rw [if_neg (not_not_intro (hfk _)), if_neg (by rw [hkk]; exact h1), if_neg (by rw [hkk]; exact h2'), if_neg (by rw [hkk]; exact h3), if_pos (by rw [hkk]; exact h5), if_pos (show [be 1 k, t].length = 2 from rfl), hkk]
     rw [show nextP (List.drop 1 [be 1 k, t]) = t from rfl, objectR_iff.2 ⟨h.object, ht⟩]; rfl
    ·rw [if_neg h5] at hg; cases hg
theorem itemR_iff {l : List UInt8} {x : Itm} : itemR l = some x ↔ x.ok ∧ itemO x = some l := ⟨itemR_some, fun h => itemR_of h.1 h.2⟩
theorem itemR_ok (l : List UInt8) : ((itemR l).getD item0).ok := by
 cases h : itemR l with
 | none => exact item0_ok
 | some x => exact (itemR_iff.1 h).1
end Go.Pl

/- wire: what takes pieces: its fields; more rules. -/
namespace Go.Vc
section
variable {P : Program} {n : Nat} {Q : Exit → Act → World → Prop} {σ : Sl} {G : World → Prop} {ops : Array Oper} {rest : List Oper}
variable {d : Nat} {ty : TypeId} {pos : String} {aft : Array Edge}
variable {S : List Snap} {H H' : List Chunk}

theorem VC.letArr {X : Type} {R : Rel X} {hR : Mono R} {e : TypeId} {sz : Nat} {g : Option Nat} {c : Nat} {ys : List X} {code : Code} (h : ∀ w1, Own S H w1 → Arr sz R (keys H) w1 (g.map fun g => ⟨g, 0, none⟩) ys c → VC P n Q code σ (Own (⟨w1, keys H⟩ :: S) H)) : VC P n Q code σ (Own S (arow e sz R hR g c ys :: H)) := fun a w ha hw =>
 h w hw.drop hw.letArr a w ha hw.drop.keep

/-- 'x[a:]', its value spelled out. -/
theorem VL.dropE {t e : TypeId} {x o : Operand} {k : IntKind} {l : List UInt8} {p : Option Addr} {c : Nat} (a : Nat) (hx : ev σ x = some (.slice p l.length c)) (ho : ev σ o = some (.int k (a : Int))) (ht : P.underlying t = some (.slice e)) (hsz : (P.info? e).map (·.size) = some 1) (ha : a ≤ l.length) (hc : l.length ≤ c)
  (h : VL P n ops Q rest ((d, .slice (if c = a then p else p.map (·.add (a * 1))) (l.drop a).length (c - a)) :: σ) G) (hdn : Nat.blt d n = true := by rfl) : VL P n ops Q (⟨some d, .slice t x (some o) none none, ty, pos, aft, none⟩ :: rest) σ G := by
 refine VL.val rfl rfl hdn (fun b' w hb' _ => ?_) h
 have := run_sliceAt (P := P) (w := w) (p := p) (m := l.length) (c := c) (a := a) (b := l.length) (hi := none) (lo := some (.int k (a : Int))) ht hsz (.inr ⟨k, rfl⟩) (.inl ⟨rfl, rfl⟩) ha hc
 simp [execOp, hb'.ev hx, hb'.ev ho, this]

theorem seg_at {α : Type} {A B : List α} {o m : Nat} (hA : A.length = o) (l cur : List α) (hl : cur.length = l.length) : (A ++ (cur ++ B)).take o ++ l ++ (A ++ (cur ++ B)).drop (o + l.length) = A ++ (l ++ B) := by
 subst hA
 rw [List.take_left, List.append_assoc]
 congr 1
 congr 1
 rw [← hl, ← List.length_append, ← List.append_assoc, List.drop_left]

/-- 'copy(x[:], l)', where l is as long as the array x, which is part j of a variable. -/
theorem VL.copyPart {x y : Operand} {t1 t2 e T : TypeId} {tys : Array TypeId} {g o m c : Nat} {p : Option Addr} {l : List UInt8} {L : List Nat} {ps ps' : List (List Value)} (i j : Nat) (htys : tys = #[t1, t2]) (hu : P.underlying t1 = some (.slice e)) (hs : (P.info? e).map (·.size) = some 1)
  (hx : ev σ x = some (.slice (some ⟨g, o, none⟩) m m)) (hy : ev σ y = some (.slice p l.length c)) (hi : H[i]? = some (blk g T L ps)) (hLj : L[j]? = some m) (ho : (L.take j).sum = o) (hl : l.length = m) (hm : 0 < m) (hA : ∀ w, Own S H w → CellsAt w p (l.map bv))
  (hp : ps.set j (l.map bv) = ps') (hH : H.set i (blk g T L ps') = H') (h : ∀ v, VL P n ops Q rest ((d, v) :: σ) (Own S H')) (hdn : Nat.blt d n = true := by rfl) : VL P n ops Q (⟨some d, .call ⟨.builtin .copy, #[x, y], tys⟩, ty, pos, aft, none⟩ :: rest) σ (Own S H) := by
 subst htys
 refine VL.act (K := fun _ w' => Own S H' w') rfl rfl hdn (fun a w ha hw => ?_) h
 obtain ⟨hg, hL⟩ := hw.holds _ (List.mem_of_getElem? hi)
 have hjl : j < ps.length := by
  have := (List.getElem?_eq_some_iff.1 hLj).1
  rw [← hL] at this; simpa using this
 have hpj : (ps[j]).length = m := by
  have := (List.getElem?_eq_some_iff.1 hLj).2
  subst hL
  simpa using this
 have e0 := flatten_at ps j 1
 have h1 : (ps.drop j).take 1 = [ps[j]] := by
  rw [List.drop_eq_getElem_cons hjl, List.take_succ_cons, List.take_zero]
 rw [h1] at e0
 simp only [List.flatten_cons, List.flatten_nil, List.append_nil] at e0
 have hlen := sum_take_length ps j
 rw [hL, ho] at hlen
 have eset : (ps.set j (l.map bv)).flatten = (ps.take j).flatten ++ (l.map bv ++ (ps.drop (j + 1)).flatten) := by
  rw [List.set_eq_take_append_cons_drop, if_pos hjl]
  simp
 rcases hA w hw with ⟨_, h0⟩ | ⟨a', rfl, hc⟩
 ·have : l = [] := by simpa using h0
  subst this
  simp at hl; omega
 ·have hr := run_copy_row (P := P) w t1 t2 ty e g o m m a' l.length c (cat ps).toArray T (l.map bv) hu hs hg (by simp [hl]) hc (by
   rw [List.size_toArray, cat_eq, e0, List.length_append, List.length_append, hlen, hpj, List.length_map, hl]
   first | omega | skip) (ok1_bytes l)
  have e1 : (cat ps).toArray.toList.take o ++ l.map bv ++ (cat ps).toArray.toList.drop (o + (l.map bv).length) = cat ps' := by
   rw [← hp, cat_eq, cat_eq, eset, e0]
   exact seg_at (m := m) hlen _ _ (by rw [List.length_map, hl, hpj])
  rw [e1] at hr
  refine ⟨goInt (l.map bv).length, w.setRow g (cat ps').toArray, ?_, blk_set (ps' := ps') hw hi ?_ hH⟩
  ·simp [execOp, resolve, invoke, builtin, ha.ev hx, ha.ev hy, hr]
  ·rw [← hp, List.map_set, hL, List.length_map, hl, ← (List.getElem?_eq_some_iff.1 hLj).2]
   exact List.set_getElem_self _
end
end Go.Vc
namespace Go.Proofs.Ytcfecmoagfgnaaa
open Go.Vc Go.Pl
section
variable {n : Nat} {Q : Exit → Act → World → Prop} {σ : Sl} {G : World → Prop} {ops : Array Oper} {rest : List Oper}
variable {d : Nat} {ty : TypeId} {pos : String} {aft : Array Edge}
variable {S : List Snap} {H H' : List Chunk}

/-- The pieces that are left, loaded. -/
theorem loadParts {x : Operand} {g : Nat} {parts : List (List UInt8)} {why : Nat} (i : Nat) (hx : ev σ x = some (.pointer (some ⟨g, 0, none⟩))) (hi : H[i]? = some (rch g parts why))
  (h : ∀ p c w1, Own S H w1 → Arr 1 bytesR (keys H) w1 p parts c → VL Try.prog n ops Q rest ((d, .slice p parts.length c) :: σ) (Own (⟨w1, keys H⟩ :: S) H)) (hdn : Nat.blt d n = true := by rfl) : VL Try.prog n ops Q (⟨some d, .load 31 x, ty, pos, aft, none⟩ :: rest) σ (Own S H) := by
 refine VL.at fun w hw => ?_
 obtain ⟨ps, h1, h2, p, c, rfl, hA⟩ := hw.holds _ (List.mem_of_getElem? hi)
 refine VL.val (v := .slice p parts.length c) rfl rfl hdn (fun a w' ha e => ?_) (VL.turn (fun w' e => by subst e; exact hw.keep) (h p c w hw hA))
 subst e
 have hc : w'.cell? ⟨g, 0, none⟩ = some (.slice p parts.length c) := by
  rw [cell_of_row w' g 0 _ 196 (0, 0) h1]; rfl
 simp [execOp, ha.ev hx, run_load_cell kd31 hc]
/-- The error, loaded. -/
theorem loadWhy {x : Operand} {g : Nat} {parts : List (List UInt8)} {why : Nat} (i : Nat) (hx : ev σ x = some (.pointer (some ⟨g, 1, none⟩))) (hG : ∀ w, G w → Own S H w) (hi : H[i]? = some (rch g parts why))
  (h : VL Try.prog n ops Q rest ((d, .int .i64 why) :: σ) G) (hdn : Nat.blt d n = true := by rfl) : VL Try.prog n ops Q (⟨some d, .load 35 x, ty, pos, aft, none⟩ :: rest) σ G :=
 VL.val rfl rfl hdn (fun a w ha hw => by
  obtain ⟨ps, h1, h2, p, c, rfl, hA⟩ := (hG w hw).holds _ (List.mem_of_getElem? hi)
  have hc : w.cell? ⟨g, 1, none⟩ = some (.int .i64 why) := by
   rw [cell_of_row w g 1 _ 196 (0, 0) h1]; rfl
  simp [execOp, ha.ev hx, run_load_cell kd35 hc]) h
end
end Go.Proofs.Ytcfecmoagfgnaaa

/- wire: what bytes are read as: objects. -/
namespace Go.Proofs.Ytcfecmoagfgnaaa
open Go.Vc Go.Pl

theorem object_why' (l : List UInt8) : endW (vouchesW 4 (((((((openP l).drop 1).drop 1).drop 1).drop 1).drop 1).drop 1)).2.1 (if (vouchesW 4 (((((((openP l).drop 1).drop 1).drop 1).drop 1).drop 1).drop 1)).2.2 then (takesW objectK (openP l) (openW l)) else failW (takesW objectK (openP l) (openW l)) 141) = if (objectR l).isSome then 0 else 141 := by
 have := object_why l
 simpa only [List.drop_drop] using this
theorem object_vouches' {l : List UInt8} (h : (objectR l).isSome = true) : objectR l = some (objectOf (openP l) (vouchesW 4 (((((((openP l).drop 1).drop 1).drop 1).drop 1).drop 1).drop 1)).1) := by
 have := object_vouches h
 simpa only [List.drop_drop] using this
theorem object_fin {l : List UInt8} {vs : List Vouch} {ps : List (List UInt8)} (hv : vouchesW 4 (((((((openP l).drop 1).drop 1).drop 1).drop 1).drop 1).drop 1) = (vs ++ (vouchesW (4 - vs.length) ps).1, (vouchesW (4 - vs.length) ps).2.1, (vouchesW (4 - vs.length) ps).2.2)) (hx : ps = [] ∨ 4 ≤ vs.length) : endW ps (takesW objectK (openP l) (openW l)) = (if (objectR l).isSome then 0 else 141) ∧ ∀ y, objectR l = some y → y = objectOf (openP l) vs := by
 have e : vouchesW (4 - vs.length) ps = ([], ps, true) := by
  rcases hx with rfl | hx
  ·cases (4 - vs.length) <;> rfl
  ·rw [show 4 - vs.length = 0 by omega]
   cases ps <;> rfl
 rw [e] at hv
 have h1 := object_why' l
 rw [hv] at h1
 refine ⟨h1, fun y hy => ?_⟩
 have h2 := object_vouches' (l := l) (by rw [hy]; rfl)
 rw [hv, hy] at h2
 have := Option.some.inj h2
 rw [List.append_nil] at this
 exact this
theorem object_brk {l : List UInt8} {vs : List Vouch} {p : List UInt8} {r : List (List UInt8)} (hv : vouchesW 4 (((((((openP l).drop 1).drop 1).drop 1).drop 1).drop 1).drop 1) = (vs ++ (vouchesW (4 - vs.length) (p :: r)).1, (vouchesW (4 - vs.length) (p :: r)).2.1, (vouchesW (4 - vs.length) (p :: r)).2.2)) (hx : vs.length < 4) (hp : p.length ≠ 65) : objectR l = none ∧ endW r (failW (takesW objectK (openP l) (openW l)) 141) = 141 := by
 obtain ⟨k, hk⟩ : ∃ k, 4 - vs.length = k + 1 := ⟨4 - vs.length - 1, by omega⟩
 have e : vouchesW (4 - vs.length) (p :: r) = ([], r, false) := by rw [hk]; exact if_neg hp
 have hw : failW (takesW objectK (openP l) (openW l)) 141 = 141 := by
  obtain ⟨h1, h2⟩ := takesW_open (ks := objectK) (by simp) l
  by_cases hf : fitsP objectK (openP l)
  ·rw [h1 hf]; rfl
  ·rw [h2 hf]; rfl
 rw [e] at hv
 have h1 := object_why' l
 rw [hv] at h1
 have e2 : (if (vs ++ ([] : List Vouch), r, false).2.2 = true then (takesW objectK (openP l) (openW l)) else failW (takesW objectK (openP l) (openW l)) 141) = 141 := hw
 rw [e2, endW_141] at h1
 refine ⟨?_, by rw [hw, endW_141]⟩
 cases ho : objectR l with
 | none => rfl
 | some y => rw [ho] at h1; exact absurd h1 (by simp)
theorem vouch_step {l : List UInt8} {vs : List Vouch} {p : List UInt8} {r : List (List UInt8)} (hv : vouchesW 4 (((((((openP l).drop 1).drop 1).drop 1).drop 1).drop 1).drop 1) = (vs ++ (vouchesW (4 - vs.length) (p :: r)).1, (vouchesW (4 - vs.length) (p :: r)).2.1, (vouchesW (4 - vs.length) (p :: r)).2.2)) (hx : vs.length < 4) (hp : p.length = 65) : vouchesW 4 (((((((openP l).drop 1).drop 1).drop 1).drop 1).drop 1).drop 1) = ((vs ++ [vouchOf p]) ++ (vouchesW (4 - (vs ++ [vouchOf p]).length) r).1, (vouchesW (4 - (vs ++ [vouchOf p]).length) r).2.1, (vouchesW (4 - (vs ++ [vouchOf p]).length) r).2.2) := by
 obtain ⟨k, hk⟩ : ∃ k, 4 - vs.length = k + 1 := ⟨4 - vs.length - 1, by omega⟩
 have e : vouchesW (4 - vs.length) (p :: r) = (vouchOf p :: (vouchesW k r).1, (vouchesW k r).2.1, (vouchesW k r).2.2) := by rw [hk]; exact if_pos hp
 rw [hv, e, List.length_append, List.length_singleton, show 4 - (vs.length + 1) = k by omega, List.append_assoc]; rfl
abbrev vouchN (p : List UInt8) : Vouch := ⟨(p.headD 0).toNat, zeros 64⟩
theorem vouchN_ok (p : List UInt8) : (vouchN p).ok := ⟨UInt8.toNat_lt _, rfl⟩
theorem el83 : Elem Try.prog 83 202 65 65 (.agg (cat (vouchV vouch0)).toArray) := ⟨Try.underlying83, by kernel_rfl, by kernel_rfl, rfl, by decide⟩
theorem one_vouch {K : List Nat} {w : World} {v : Vouch} (hv : v.ok) (j : Nat) (y : Vouch) (hj : [v][j]? = some y) : vouchR K w ((([Value.agg (cat (vouchV v)).toArray].flatMap (·.cells.toList)).drop (j * 65)).take 65) y := by
 have hj0 : j = 0 := by have := (List.getElem?_eq_some_iff.1 hj).1; simp at this; exact this
 subst hj0
 simp at hj; subst hj
 refine ⟨hv, ?_⟩
 have e : [Value.agg (cat (vouchV v)).toArray].flatMap (·.cells.toList) = cat (vouchV v) := by simp [Value.cells]
 rw [e, Nat.zero_mul, List.drop_zero, List.take_of_length_le (by rw [cat_size (vouchV_len hv)]; decide)]
theorem objectOf_ok {l : List UInt8} {vs : List Vouch} (h : ∀ v ∈ vs, v.ok) : (objectOf (openP l) vs).ok := ⟨takeN_lt _ 1, takeN_lt _ 1, takeB_length _ _, takeN_lt _ 4, takeN_lt _ 4, takeB_length _ _, h⟩
theorem objectOf_nil (l : List UInt8) : (objectOf (openP l) []).ok := objectOf_ok (by simp)
theorem objectR_ok (l : List UInt8) : ((objectR l).getD object0).ok := by
 cases h : objectR l with
 | none => exact object0_ok
 | some x => exact (objectR_iff.1 h).1
theorem newRow {S : List Snap} {H : List Chunk} {w : World} (h : Own S H w) : Own S (arow 202 65 vouchR Mono_vouch none 0 ([] : List Vouch) :: H) w := Own.arow_nil Mono_vouch 202 65 h

theorem getObject_w {S : List Snap} {H : List Chunk} {w : World} (ho : Own S H w) {p : Option Addr} {l : List UInt8} {c : Nat} (hA : Bytes (keys H) w p l c) : Calls Try.prog 71 #[.slice p l.length c] w (Ret fun v w' => ∃ q d, v = .tuple #[.agg (cat (objectV ((objectR l).getD object0) q d)).toArray, .int .i64 (((if (objectR l).isSome then 0 else 141 : Nat)) : Int)] ∧ Own S H w' ∧ Arr 65 vouchR (keys H) w' q ((objectR l).getD object0).vouches d) := by
 refine enter (G := Own (⟨w, keys H⟩ :: S) H) ho.keep Try.func71 rfl Try.ntmps71 rfl ?_
 refine VC.sr ?_
 refine VL.alloc (L := objectL) (ps := (objectV (object0) none 0)) zero85 rfl rfl (fun g1 => ?_)
 refine VL.assign rfl ?_
 refine VL.nn ?_
 refine VC.sr ?_
 refine VL.move rfl ?_
 refine VL.call Try.func121 rfl (by decide) rfl (fun w' hw => open_R hw (hA.nowA (s := ⟨w, _⟩) Mono.byte hw)) (fun v => ?_)
 refine VL.ex fun g2 => VL.fact fun e3 => ?_
 subst e3
 refine VL.assign rfl ?_
 refine VL.nn ?_
 refine VC.sr ?_
 refine VL.move rfl ?_
 refine VL.call Try.func122 rfl (by decide) rfl (fun w' hw => byte_R (i := 0) rfl hw) (fun v => ?_)
 refine VL.fact fun e4 => ?_
 subst e4
 refine VL.set0 ?_
 refine VL.move rfl ?_
 refine VL.call Try.func122 rfl (by decide) rfl (fun w' hw => byte_R (i := 0) rfl hw) (fun v => ?_)
 refine VL.fact fun e5 => ?_
 subst e5
 refine VL.set0 ?_
 refine VL.move rfl ?_
 refine VL.call Try.func129 rfl (by decide) rfl (fun w' hw => key_R (i := 0) rfl hw) (fun v => ?_)
 refine VL.fact fun e6 => ?_
 subst e6
 refine VL.set0 ?_
 refine VL.move rfl ?_
 refine VL.call Try.func132 rfl (by decide) rfl (fun w' hw => num_R (i := 0) rfl hw 4 (by decide) (by decide)) (fun v => ?_)
 refine VL.fact fun e7 => ?_
 subst e7
 refine VL.set0 ?_
 refine VL.conv (by rw [Try.underlying22]; rfl) Try.underlying48 rfl (by have hlt := (takeN_lt ((((openP (l)).drop 1).drop 1).drop 1) 4); simp only [InR]; omega) ?_
 refine VL.move rfl ?_
 refine VL.call Try.func132 rfl (by decide) rfl (fun w' hw => num_R (i := 0) rfl hw 4 (by decide) (by decide)) (fun v => ?_)
 refine VL.fact fun e8 => ?_
 subst e8
 refine VL.set0 ?_
 refine VL.conv (by rw [Try.underlying22]; rfl) Try.underlying48 rfl (by have hlt := (takeN_lt (((((openP (l)).drop 1).drop 1).drop 1).drop 1) 4); simp only [InR]; omega) ?_
 refine VL.move rfl ?_
 refine VL.call Try.func131 rfl (by decide) rfl (fun w' hw => sig_R (i := 0) rfl hw) (fun v => ?_)
 refine VL.fact fun e9 => ?_
 subst e9
 refine VL.set0 ?_
 refine VL.build (zs := objectZ) (L := objectFL) [(0, [.int .u8 (takeN (openP (l)) 1)]), (1, [.int .u8 (takeN ((openP (l)).drop 1) 1)]), (2, (takeB 32 (((openP (l)).drop 1).drop 1)).map bv), (3, [.int .u32 (takeN ((((openP (l)).drop 1).drop 1).drop 1) 4)]), (4, [.int .u32 (takeN (((((openP (l)).drop 1).drop 1).drop 1).drop 1) 4)]), (5, (takeB 64 ((((((openP (l)).drop 1).drop 1).drop 1).drop 1).drop 1)).map bv)] plan85 rfl ⟨⟨rfl, ⟨_, rfl, rfl⟩, rfl⟩, ⟨⟨rfl, ⟨_, rfl, rfl⟩, rfl⟩, ⟨⟨rfl, ⟨_, rfl, rfl⟩, (arr_q (takeB_length (((openP (l)).drop 1).drop 1) 32))⟩, ⟨⟨rfl, ⟨_, rfl, rfl⟩, rfl⟩, ⟨⟨rfl, ⟨_, rfl, rfl⟩, rfl⟩, ⟨⟨rfl, ⟨_, rfl, rfl⟩, (arr_q (takeB_length ((((((openP (l)).drop 1).drop 1).drop 1).drop 1).drop 1) 64))⟩, trivial⟩⟩⟩⟩⟩⟩ rfl ?_
 refine VL.newv (v' := .agg (cat (objectV ((objectOf (openP l) [])) none 0)).toArray) rfl ?_
 refine VL.alloc (L := objectL) (ps := (objectV (object0) none 0)) zero85 rfl rfl (fun g10 => ?_)
 refine VL.store (L := objectL) (qs := (objectV ((objectOf (openP l) [])) none 0)) (ps' := (objectV ((objectOf (openP l) [])) none 0)) 0 0 7 rfl rfl rfl (.inl kd85) rfl rfl (objectV_len (objectOf_nil l)) (objectV_ok1 ((objectOf (openP l) [])) none 0) rfl rfl ?_
 refine VL.set0 ?_
 refine VL.nn ?_
 refine VC.seq ?_
 refine VC.block ?_
 refine VC.turn (G' := Own _ (arow 202 65 vouchR Mono_vouch none 0 ([] : List Vouch) :: blk g10 85 objectL (objectV ((objectOf (openP l) [])) none 0) :: rch g2 (((((((openP (l)).drop 1).drop 1).drop 1).drop 1).drop 1).drop 1) (lenW ((((((openP (l)).drop 1).drop 1).drop 1).drop 1).drop 1) (lenW (((((openP (l)).drop 1).drop 1).drop 1).drop 1) (lenW ((((openP (l)).drop 1).drop 1).drop 1) (lenW (((openP (l)).drop 1).drop 1) (lenW ((openP (l)).drop 1) (lenW (openP (l)) (openW (l)) 1) 1) 32) 4) 4) 64) :: blk g1 85 objectL (objectV (object0) none 0) :: H)) (fun w' h => newRow h) ?_
 refine VC.loop (X := List Vouch × List (List UInt8) × Option Nat × Nat) (fun _ => [(4, .pointer (some ⟨g2, 0, none⟩)), (5, .pointer (some ⟨g10, 0, none⟩)), (2, .pointer (some ⟨g1, 0, none⟩))]) (fun (vs, ps, gv, cv) w' => (vs.length ≤ 4 ∧ (∀ v ∈ vs, v.ok) ∧ vouchesW 4 (((((((openP l).drop 1).drop 1).drop 1).drop 1).drop 1).drop 1) = (vs ++ (vouchesW (4 - vs.length) ps).1, (vouchesW (4 - vs.length) ps).2.1, (vouchesW (4 - vs.length) ps).2.2)) ∧ Own (⟨w, keys H⟩ :: S) (arow 202 65 vouchR Mono_vouch gv cv vs :: blk g10 85 objectL (objectV ((objectOf (openP l) vs)) (gv.map fun g => (⟨g, 0, none⟩ : Addr)) cv) :: rch g2 ps (lenW ((((((openP (l)).drop 1).drop 1).drop 1).drop 1).drop 1) (lenW (((((openP (l)).drop 1).drop 1).drop 1).drop 1) (lenW ((((openP (l)).drop 1).drop 1).drop 1) (lenW (((openP (l)).drop 1).drop 1) (lenW ((openP (l)).drop 1) (lenW (openP (l)) (openW (l)) 1) 1) 32) 4) 4) 64) :: blk g1 85 objectL (objectV (object0) none 0) :: H) w') (fun (_, ps, _) => ps.length) ([], (((((((openP (l)).drop 1).drop 1).drop 1).drop 1).drop 1).drop 1), none, 0) ⟨rfl, rfl, rfl, trivial⟩ (fun w' h => ⟨⟨Nat.zero_le _, by simp, rfl⟩, h⟩) (fun (vs, ps, gv, cv) => VC.fact fun ⟨hn, hvs, hveq⟩ => ?_)
 ·skip
  refine VC.seq ?_
  refine VC.sr ?_
  refine VL.move rfl ?_
  refine VL.nilCheck rfl ?_
  refine VL.fieldAddr rfl fo196_0 rfl ?_
  refine loadParts 2 rfl rfl (fun p11 c12 w13 hO14 hA15 => ?_)
  refine VL.len Try.underlying31 rfl rfl ?_
  refine VL.gtr rfl rfl ?_
  refine VL.case (fun h3_5 => ?_) (fun h3_5 => ?_)
  ·obtain ⟨pc, rest, rfl⟩ : ∃ pc rest, ps = pc :: rest := by
    cases ps with
    | nil => exact absurd h3_5 (by simp)
    | cons a b => exact ⟨a, b, rfl⟩
   refine VL.move rfl ?_
   refine VL.go rfl rfl rfl ?_
   refine VL.fieldAddr rfl fo85_6 rfl ?_
   refine VL.go rfl rfl rfl ?_
   refine VL.load (v := .slice (gv.map fun g => (⟨g, 0, none⟩ : Addr)) ((objectOf (openP l) vs).vouches).length cv) 1 6 rfl kd83 (fun _ h => h) rfl rfl rfl ?_
   refine VL.go rfl rfl rfl ?_
   refine VL.len Try.underlying83 rfl rfl ?_
   refine VL.go rfl rfl rfl ?_
   refine VL.lss rfl rfl ?_
   refine VL.case (fun h3_10 => ?_) (fun h3_10 => ?_)
   ·have h3_10 : vs.length < 4 := by have h : ((vs.length : Nat) : Int) < 4 := h3_10; omega
    refine VL.pick_t rfl rfl ?_
    refine VL.nn ?_
    refine VC.yes rfl ?_
    refine VC.skip ?_
    refine VX.next ?_
    refine VC.block ?_
    refine VC.sr ?_
    refine VL.move rfl ?_
    refine VL.call Try.func124 rfl (by decide) rfl (fun w' hw => piece_R (i := 2) rfl hw) (fun v => ?_)
    refine VL.at (fun w16 h1w => ?_)
    obtain ⟨p17, c18, rfl, hO20, hA19⟩ := h1w
    replace hO20 := ownSet2 hO20
    replace hA19 := arrSet2 hA19
    refine VL.toOwn hO20 ?_
    refine VL.assign rfl ?_
    refine VL.nn ?_
    refine VC.seq ?_
    refine VC.sr ?_
    refine VL.move rfl ?_
    refine VL.len Try.underlying24 rfl rfl ?_
    refine VL.neq rfl rfl ?_
    refine VL.case (fun h5_2 => ?_) (fun h5_2 => ?_)
    ·have hpc : pc.length ≠ 65 := by have h : ((pc.length : Nat) : Int) ≠ 65 := h5_2; omega
     refine VL.nn ?_
     refine VC.yes rfl ?_
     refine VC.sr ?_
     refine VL.move rfl ?_
     refine VL.call Try.func125 rfl (by decide) rfl (fun w' hw => fail_R (i := 2) rfl hw (141)) (fun v => ?_)
     refine VL.fact fun e21 => ?_
     subst e21
     refine VL.set2 ?_
     refine VL.nn ?_
     refine VC.exit ?_
     refine VX.then_exit ?_
     refine VX.block_past rfl ?_
     refine VX.then_exit ?_
     refine VX.block_here ?_
     refine VX.next ?_
     refine VC.seq ?_
     refine VC.seq ?_
     refine VC.letArr (fun wr hOr hAr => ?_)
     refine VC.region ?_
     refine VL.move rfl ?_
     refine VL.call Try.func126 rfl (by decide) rfl (fun w' hw => end_R (i := 1) rfl hw) (fun v => ?_)
     refine VL.fact fun e22 => ?_
     subst e22
     refine VL.set1 ?_
     refine VL.assign rfl ?_
     refine VL.nn ?_
     refine VC.sr ?_
     refine VL.move rfl ?_
     refine VL.neq rfl rfl ?_
     refine VL.case (fun h11_1 => ?_) (fun h11_1 => ?_)
     ·refine VL.nn ?_
      refine VC.yes rfl ?_
      refine VC.sr ?_
      refine VL.build0 (cs := cat (objectV (object0) none 0)) built85 ?_
      refine VL.move rfl ?_
      refine VL.store (L := objectL) (qs := (objectV (object0) none 0)) (ps' := (objectV (object0) none 0)) 2 0 7 rfl rfl rfl (.inl kd85) rfl rfl rfl (objectV_ok1 object0 none 0) rfl rfl ?_
      refine VL.set2 ?_
      refine VL.assign rfl ?_
      refine VL.nn ?_
      refine VC.ret ?_
      refine VX.then_ret ?_
      refine VX.ret_cell (cs := cat (objectV (object0) none 0)) 2 rfl rfl rfl kd85 (fun _ h => h) rfl rfl (fun we hw => ?_)
      obtain ⟨e1, e2⟩ := object_brk hveq h3_10 hpc
      exact ⟨none, 0, by rw [e1]; exact congrArg (fun n : Nat => Value.tuple #[_, .int .i64 (n : Int)]) e2, hw.drop.drop.drop.subA, by rw [e1]; exact Arr.none⟩
     ·refine VL.nn ?_
      refine VC.no rfl ?_
      refine VC.skip ?_
      refine VX.next ?_
      refine VC.sr ?_
      refine VL.loads (cs := cat (objectV ((objectOf (openP l) vs)) (gv.map fun g => (⟨g, 0, none⟩ : Addr)) cv)) 0 0 7 rfl kd85 (fun _ h => h) rfl rfl rfl rfl ?_
      refine VL.store (L := objectL) (qs := (objectV ((objectOf (openP l) vs)) (gv.map fun g => (⟨g, 0, none⟩ : Addr)) cv)) (ps' := (objectV ((objectOf (openP l) vs)) (gv.map fun g => (⟨g, 0, none⟩ : Addr)) cv)) 2 0 7 rfl rfl rfl (.inl kd85) rfl rfl (objectV_len (objectOf_ok hvs)) (objectV_ok1 ((objectOf (openP l) vs)) (gv.map fun g => (⟨g, 0, none⟩ : Addr)) cv) rfl rfl ?_
      refine VL.set2 ?_
      refine VL.assign rfl ?_
      refine VL.nn ?_
      refine VC.ret ?_
      refine VX.ret_cell (cs := cat (objectV ((objectOf (openP l) vs)) (gv.map fun g => (⟨g, 0, none⟩ : Addr)) cv)) 2 rfl rfl rfl (by rw [cat_size (objectV_len (objectOf_ok hvs))]; exact kd85) (fun _ h => h) rfl rfl (fun we hw => ?_)
      exact absurd (fun e => absurd ((congrArg (fun n : Nat => (n : Int)) (object_brk hveq h3_10 hpc).2).symm.trans e) (by decide)) h11_1
    ·have hpc : pc.length = 65 := by have h : ¬ ((pc.length : Nat) : Int) ≠ 65 := h5_2; omega
     refine VL.nn ?_
     refine VC.no rfl ?_
     refine VC.skip ?_
     refine VX.next ?_
     refine VC.sr ?_
     refine VL.move rfl ?_
     refine VL.index (xs := pc) rfl rfl Try.underlying24 sz24 hA19 (by omega) (by omega) ?_
     refine VL.byte (s := ⟨w16, _⟩) rfl kd5 (fun _ h => h) (by repeat (first | exact List.mem_cons_self .. | apply List.mem_cons_of_mem)) hA19 (y := pc.headD 0) (by
      show pc[0]? = _
      cases pc with
      | nil => simp at hpc
      | cons a r => rfl) ?_
     refine VL.build (zs := vouchZ) (L := vouchFL) [(0, [.int .u8 ((pc.headD 0).toNat)])] plan202 rfl ⟨⟨rfl, ⟨_, rfl, rfl⟩, rfl⟩, trivial⟩ rfl ?_
     refine VL.newv (v' := .agg (cat (vouchV ((vouchN pc)))).toArray) rfl ?_
     refine VL.alloc (L := vouchL) (ps := (vouchV (vouch0))) zero202 rfl rfl (fun g23 => ?_)
     refine VL.store (L := vouchL) (qs := (vouchV ((vouchN pc)))) (ps' := (vouchV ((vouchN pc)))) 0 0 2 rfl rfl rfl (.inl kd202) rfl rfl (vouchV_len (vouchN_ok pc)) (vouchV_ok1 ((vouchN pc))) rfl rfl ?_
     refine VL.set0 ?_
     refine VL.nn ?_
     refine VC.seq ?_
     apply VC.anyTA 4 1005 (F := [eqF _, eqF _, eqF _, eqF _]) [⟨[], [7]⟩, ⟨[(49, 0)], []⟩, ⟨[], [6]⟩, ⟨[(51, 2)], []⟩] [(50, 1), (52, 3)] [0, 2, 3, 4, 5, 6, 7, 8, 9, 10, 11, 12, 13, 14, 15, 16, 17, 18, 19, 20, 21, 22, 23, 24, 25, 26, 27, 28, 29, 30, 31, 32, 33, 34, 35, 36, 37, 38, 39, 40, 41, 42, 43, 45, 46, 47, 48, 54, 55, 56, 57, 58, 59, 60, 61, 62, 63, 64, 65, 66] rfl (by kernel_rfl) (by kernel_rfl) rfl rfl (by kernel_rfl) (by kernel_rfl) (by kernel_rfl) rfl ?obs8 ?end8
     case obs8 =>
      refine Obs.cons ?_ ?_
      ·refine obS (by kernel_rfl) rfl rfl (fun ph8 w8 hO8 => ?_)
       refine VL.fieldAddr rfl fo202_1 rfl ?_
       exact VL.finS hO8 rfl rfl
      refine Obs.cons ?_ ?_
      ·refine obS (by kernel_rfl) rfl rfl (fun ph8 w8 hO8 => ?_)
       rintro _ rfl
       refine VL.sliceArrAt Try.underlying80 (by kernel_rfl) rfl ?_
       exact VL.finS hO8 rfl rfl
      refine Obs.cons ?_ ?_
      ·refine obS (by kernel_rfl) rfl rfl (fun ph8 w8 hO8 => ?_)
       refine VL.move rfl ?_
       exact VL.finS hO8 rfl rfl
      refine Obs.cons ?_ ?_
      ·refine obS (by kernel_rfl) rfl rfl (fun ph8 w8 hO8 => ?_)
       rintro _ rfl
       refine VL.dropE (l := pc) 1 rfl rfl Try.underlying24 sz24 (by omega) hA19.le ?_
       exact VL.finS hO8 rfl rfl
      exact Obs.nil
     case end8 =>
      intro w8 hO8
      rintro _ rfl _ rfl
      refine VL.toOwn hO8 ?_
      refine VL.copyPart (l := pc.drop 1) (ps' := vouchV (vouchOf pc)) 0 1 rfl Try.underlying24 (by kernel_rfl) rfl rfl rfl rfl rfl (by rw [List.length_drop]; omega) (by decide) (fun _ hw => (Arr.now (s := ⟨w16, _⟩) (hA19.drop 1 (Nat.le_trans (by omega) hA19.le)) Mono.byte hw (by repeat (first | exact List.mem_cons_self .. | apply List.mem_cons_of_mem))).bytes) rfl rfl (fun _ => ?_)
      refine VL.nn ?_
      refine VC.region ?_
      refine VL.fieldAddr rfl fo85_6 rfl ?_
      refine VL.load (v := .slice (gv.map fun g => (⟨g, 0, none⟩ : Addr)) ((objectOf (openP l) vs).vouches).length cv) 2 6 rfl kd83 (fun _ h => h) rfl rfl rfl ?_
      refine VL.loads (cs := cat (vouchV ((vouchOf pc)))) 0 0 2 rfl kd202 (fun _ h => h) rfl rfl rfl rfl ?_
      refine VL.lit el83 rfl rfl rfl (by intro v hv; simp only [List.mem_singleton] at hv; subst hv; show (cat (vouchV (vouchOf pc))).toArray.size = 65; rw [List.size_toArray, cat_size (vouchV_len (vouchOf_ok hpc))]; rfl) (by rw [show [Value.agg (cat (vouchV (vouchOf pc))).toArray].flatMap (·.cells.toList) = cat (vouchV (vouchOf pc)) by simp [Value.cells]]; exact vouchV_ok1 _) (fun gl => ?_)
      refine VL.letRow vouchR [vouchOf pc] rfl (fun w' hw => one_vouch (vouchOf_ok hpc)) (fun wl hOl hAl => ?_)
      refine VL.appends (R := vouchR) (hR := Mono_vouch) (ys := vs) (zs := [vouchOf pc]) 1 el83 rfl rfl rfl (fun _ h => h) rfl (fun _ hw => (hAl.nowA (s := ⟨wl, _⟩) Mono_vouch hw)) (fun _ _ _ _ h => by obtain ⟨_, rfl⟩ := h; exact vouchV_ok1 _) (by simp only [List.length_cons, List.length_nil]; omega) (fun gv2 cv2 => ?_) (by simp only [List.length_cons, List.length_nil]; omega)
      refine VL.set1 ?_
      refine VL.fieldAddr rfl fo85_6 rfl ?_
      refine VL.store (L := objectL) (qs := [[rowV gv2 (vs ++ [vouchOf pc]).length cv2]]) (ps' := (objectV ((objectOf (openP l) (vs ++ [vouchOf pc]))) (gv2.map fun g => (⟨g, 0, none⟩ : Addr)) cv2)) 2 6 1 rfl rfl rfl (.inr ⟨kd83, rfl⟩) rfl rfl rfl (by intro u hu; simp [cat] at hu; subst hu; rfl) rfl rfl ?_
      refine VL.set2 ?_
      refine VL.nil ?_
      refine VX.block_normal ?_
      refine VX.round (vs ++ [vouchOf pc], rest, gv2, cv2) ⟨rfl, rfl, rfl, trivial⟩ (fun w' h => ⟨⟨by rw [List.length_append, List.length_singleton]; omega, fun v hv => ?_, vouch_step hveq (by omega) hpc⟩, (h.drop).subA⟩) (by show rest.length < (pc :: rest).length; simp)
      rw [List.mem_append, List.mem_singleton] at hv
      rcases hv with hv | rfl
      ·exact hvs v hv
      ·exact vouchOf_ok hpc
   ·have h3_10 : 4 ≤ vs.length := by have h : ¬ ((vs.length : Nat) : Int) < 4 := h3_10; omega
    refine VL.pick_t rfl rfl ?_
    refine VL.nn ?_
    refine VC.no rfl ?_
    refine VC.exit ?_
    refine VX.then_exit ?_
    refine VX.then_exit ?_
    refine VX.block_here ?_
    refine VX.next ?_
    refine VC.seq ?_
    refine VC.seq ?_
    refine VC.letArr (fun wr hOr hAr => ?_)
    refine VC.region ?_
    refine VL.move rfl ?_
    refine VL.call Try.func126 rfl (by decide) rfl (fun w' hw => end_R (i := 1) rfl hw) (fun v => ?_)
    refine VL.fact fun e24 => ?_
    subst e24
    refine VL.set1 ?_
    refine VL.assign rfl ?_
    refine VL.nn ?_
    refine VC.sr ?_
    refine VL.move rfl ?_
    refine VL.neq rfl rfl ?_
    refine VL.case (fun h11_1 => ?_) (fun h11_1 => ?_)
    ·refine VL.nn ?_
     refine VC.yes rfl ?_
     refine VC.sr ?_
     refine VL.build0 (cs := cat (objectV (object0) none 0)) built85 ?_
     refine VL.move rfl ?_
     refine VL.store (L := objectL) (qs := (objectV (object0) none 0)) (ps' := (objectV (object0) none 0)) 2 0 7 rfl rfl rfl (.inl kd85) rfl rfl rfl (objectV_ok1 object0 none 0) rfl rfl ?_
     refine VL.set2 ?_
     refine VL.assign rfl ?_
     refine VL.nn ?_
     refine VC.ret ?_
     refine VX.then_ret ?_
     refine VX.ret_cell (cs := cat (objectV (object0) none 0)) 2 rfl rfl rfl kd85 (fun _ h => h) rfl rfl (fun we hw => ?_)
     obtain ⟨hfin, _⟩ := object_fin hveq (.inr h3_10)
     obtain ⟨e1, e2⟩ := why_none h11_1 hfin
     exact ⟨none, 0, by rw [e1]; exact congrArg (fun n : Nat => Value.tuple #[_, .int .i64 (n : Int)]) e2, hw.drop.drop.drop.subA, by rw [e1]; exact Arr.none⟩
    ·refine VL.nn ?_
     refine VC.no rfl ?_
     refine VC.skip ?_
     refine VX.next ?_
     refine VC.sr ?_
     refine VL.loads (cs := cat (objectV ((objectOf (openP l) vs)) (gv.map fun g => (⟨g, 0, none⟩ : Addr)) cv)) 0 0 7 rfl kd85 (fun _ h => h) rfl rfl rfl rfl ?_
     refine VL.store (L := objectL) (qs := (objectV ((objectOf (openP l) vs)) (gv.map fun g => (⟨g, 0, none⟩ : Addr)) cv)) (ps' := (objectV ((objectOf (openP l) vs)) (gv.map fun g => (⟨g, 0, none⟩ : Addr)) cv)) 2 0 7 rfl rfl rfl (.inl kd85) rfl rfl (objectV_len (objectOf_ok hvs)) (objectV_ok1 ((objectOf (openP l) vs)) (gv.map fun g => (⟨g, 0, none⟩ : Addr)) cv) rfl rfl ?_
     refine VL.set2 ?_
     refine VL.assign rfl ?_
     refine VL.nn ?_
     refine VC.ret ?_
     refine VX.ret_cell (cs := cat (objectV ((objectOf (openP l) vs)) (gv.map fun g => (⟨g, 0, none⟩ : Addr)) cv)) 2 rfl rfl rfl (by rw [cat_size (objectV_len (objectOf_ok hvs))]; exact kd85) (fun _ h => h) rfl rfl (fun we hw => ?_)
     obtain ⟨hfin, hy2⟩ := object_fin hveq (.inr h3_10)
     obtain ⟨y, e1⟩ := why_some h11_1 hfin
     have e3 := hy2 y e1
     rw [e1, e3]
     exact ⟨_, _, rfl, hw.drop.drop.drop.subA, hAr.nowA (s := ⟨wr, _⟩) Mono_vouch hw.drop.drop.drop⟩
  ·obtain rfl : ps = [] := List.eq_nil_of_length_eq_zero (by omega)
   refine VL.move rfl ?_
   refine VL.pass rfl rfl rfl rfl rfl ?_
   refine VL.pass rfl rfl rfl rfl rfl ?_
   refine VL.pass rfl rfl rfl rfl rfl ?_
   refine VL.pass rfl rfl rfl rfl rfl ?_
   refine VL.pick_f rfl rfl ?_
   refine VL.nn ?_
   refine VC.no rfl ?_
   refine VC.exit ?_
   refine VX.then_exit ?_
   refine VX.then_exit ?_
   refine VX.block_here ?_
   refine VX.next ?_
   refine VC.seq ?_
   refine VC.seq ?_
   refine VC.letArr (fun wr hOr hAr => ?_)
   refine VC.region ?_
   refine VL.move rfl ?_
   refine VL.call Try.func126 rfl (by decide) rfl (fun w' hw => end_R (i := 1) rfl hw) (fun v => ?_)
   refine VL.fact fun e25 => ?_
   subst e25
   refine VL.set1 ?_
   refine VL.assign rfl ?_
   refine VL.nn ?_
   refine VC.sr ?_
   refine VL.move rfl ?_
   refine VL.neq rfl rfl ?_
   refine VL.case (fun h11_1 => ?_) (fun h11_1 => ?_)
   ·refine VL.nn ?_
    refine VC.yes rfl ?_
    refine VC.sr ?_
    refine VL.build0 (cs := cat (objectV (object0) none 0)) built85 ?_
    refine VL.move rfl ?_
    refine VL.store (L := objectL) (qs := (objectV (object0) none 0)) (ps' := (objectV (object0) none 0)) 2 0 7 rfl rfl rfl (.inl kd85) rfl rfl rfl (objectV_ok1 object0 none 0) rfl rfl ?_
    refine VL.set2 ?_
    refine VL.assign rfl ?_
    refine VL.nn ?_
    refine VC.ret ?_
    refine VX.then_ret ?_
    refine VX.ret_cell (cs := cat (objectV (object0) none 0)) 2 rfl rfl rfl kd85 (fun _ h => h) rfl rfl (fun we hw => ?_)
    obtain ⟨hfin, _⟩ := object_fin hveq (.inl rfl)
    obtain ⟨e1, e2⟩ := why_none h11_1 hfin
    exact ⟨none, 0, by rw [e1]; exact congrArg (fun n : Nat => Value.tuple #[_, .int .i64 (n : Int)]) e2, hw.drop.drop.drop.subA, by rw [e1]; exact Arr.none⟩
   ·refine VL.nn ?_
    refine VC.no rfl ?_
    refine VC.skip ?_
    refine VX.next ?_
    refine VC.sr ?_
    refine VL.loads (cs := cat (objectV ((objectOf (openP l) vs)) (gv.map fun g => (⟨g, 0, none⟩ : Addr)) cv)) 0 0 7 rfl kd85 (fun _ h => h) rfl rfl rfl rfl ?_
    refine VL.store (L := objectL) (qs := (objectV ((objectOf (openP l) vs)) (gv.map fun g => (⟨g, 0, none⟩ : Addr)) cv)) (ps' := (objectV ((objectOf (openP l) vs)) (gv.map fun g => (⟨g, 0, none⟩ : Addr)) cv)) 2 0 7 rfl rfl rfl (.inl kd85) rfl rfl (objectV_len (objectOf_ok hvs)) (objectV_ok1 ((objectOf (openP l) vs)) (gv.map fun g => (⟨g, 0, none⟩ : Addr)) cv) rfl rfl ?_
    refine VL.set2 ?_
    refine VL.assign rfl ?_
    refine VL.nn ?_
    refine VC.ret ?_
    refine VX.ret_cell (cs := cat (objectV ((objectOf (openP l) vs)) (gv.map fun g => (⟨g, 0, none⟩ : Addr)) cv)) 2 rfl rfl rfl (by rw [cat_size (objectV_len (objectOf_ok hvs))]; exact kd85) (fun _ h => h) rfl rfl (fun we hw => ?_)
    obtain ⟨hfin, hy2⟩ := object_fin hveq (.inl rfl)
    obtain ⟨y, e1⟩ := why_some h11_1 hfin
    have e3 := hy2 y e1
    rw [e1, e3]
    exact ⟨_, _, rfl, hw.drop.drop.drop.subA, hAr.nowA (s := ⟨wr, _⟩) Mono_vouch hw.drop.drop.drop⟩

end Go.Proofs.Ytcfecmoagfgnaaa

/- Calls as cells. -/
namespace Go.Proofs.Ytcfecmoagfgnaaa
open Go.Vc Go.Pl

structure Cal where
  kind : Nat
  seq : Nat
  peer : Nat
  mark : Nat
  bundles : List Bundle
  letter : Letter
structure Cal.ok (x : Cal) : Prop where
  kind : x.kind < 256
  seq : x.seq < 65536
  peer : x.peer < 256
  mark : x.mark < 65536
  bundles : ∀ b ∈ x.bundles, b.ok
  letter : x.letter.ok
end Go.Proofs.Ytcfecmoagfgnaaa

/- Struct arguments, opened. -/
namespace Go.Proofs.Ytcfecmoagfgnaaa
open Go.Vc Go.Pl

open Go.ChangeShapes Go.WideShapes Go.ChangeAt Go.RowKit
section
variable {Hh : Type} {enc : TypeId × Value → Hh} {P : Program} {W : World} {t : TypeId}
theorem Opens.struct {fs : Array Field} {X : Type} {R : Rel X} {r : Reach} {base : Nat} {v : Value} {d : DataW Hh} {ps : List MemPlace} (ht : P.underlying t = some (.struct fs)) (h : Opens enc P W t R) (hval : Value.okWide P W r base t v) (hd : DataW.Trod enc P W 0 (fun _ => true) true t v d ps) :
  ∃ cs y, v = .agg cs.toArray ∧ R [] W cs y := by
 obtain ⟨fuel, hf⟩ := hd
 obtain ⟨y, hy⟩ := h _ _ _ hf
 unfold Value.okWide at hval
 rw [ht] at hval
 obtain ⟨cs, rfl, _⟩ := hval
 exact ⟨cs.toList, y, by simp, by simpa [Value.cells] using hy⟩
end
section
variable {Hh : Type} {enc : TypeId × Value → Hh} {W : World}

def objectR' : Rel Object := fun K w vs x => ∃ p c, x.ok ∧ vs = cat (objectV x p c) ∧ Arr 65 vouchR K w p x.vouches c
end
end Go.Proofs.Ytcfecmoagfgnaaa

