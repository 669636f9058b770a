/- wire: what takes pieces, wherever it lies. -/
import Derived.Test.YtcfecmoagfgnaaaRd1
import Derived.Test.YtcfecmoagfgnaaaOct7
namespace Go.Proofs.Ytcfecmoagfgnaaa
open Go.Vc Go.Pl

/-- The reading of the variable of what takes pieces. -/
def rdR (parts : List (List UInt8)) (why : Nat) : Rel (List (List Value)) := fun K w _ ps => ∃ p c, ps = [[.slice p parts.length c], [.int .i64 why]] ∧ Arr 1 bytesR K w p parts c
theorem Mono_rd (parts : List (List UInt8)) (why : Nat) : Mono (rdR parts why) := fun _ _ _ _ _ ha ⟨p, c, e, h⟩ => ⟨p, c, e, h.after (Mono.slice Mono.byte) ha⟩
/-- What takes pieces: those that are left; the error. -/
def rch (g : Nat) (parts : List (List UInt8)) (why : Nat) : Chunk := xblk g 196 [1, 1] (rdR parts why) (Mono_rd parts why)
theorem openR {S : List Snap} {H : List Chunk} {w : World} {g : Nat} {parts : List (List UInt8)} {why : Nat} (h : Own S (rch g parts why :: H) w) : ∃ p c, Own S (rblk g p parts.length c why :: H) w ∧ Arr 1 bytesR (g :: keys H) w p parts c := by
  obtain ⟨ps, h1, p, c, rfl, h2⟩ := h.openX
  exact ⟨p, c, h1, h2⟩
theorem shutR {S : List Snap} {H : List Chunk} {w : World} {g : Nat} {parts : List (List UInt8)} {why : Nat} {p : Option Addr} {c : Nat} (h : Own S (rblk g p parts.length c why :: H) w) (hA : Arr 1 bytesR (g :: keys H) w p parts c) : Own S (rch g parts why :: H) w :=
  h.shutX (Mono_rd parts why) ⟨p, c, rfl, hA⟩
theorem set_at {H : List Chunk} {i : Nat} {c : Chunk} (hi : H[i]? = some c) (c' : Chunk) : (H.set i c')[i]? = some c' := by
  have := (List.getElem?_eq_some_iff.1 hi).1
  rw [List.getElem?_set_self (by simpa using this)]
theorem open_R {S : List Snap} {H : List Chunk} {w : World} (ho : Own S H w) {p : Option Addr} {l : List UInt8} {c : Nat} (hA : Bytes (keys H) w p l c) : Calls Try.prog 121 #[.slice p l.length c] w (Ret fun v w' => ∃ g, v = .pointer (some ⟨g, 0, none⟩) ∧ Own S (rch g (openP l) (openW l) :: H) w') :=
  calls_mono (open_r ho hA) fun v w' ⟨g, p', c', e, h1, h2⟩ => ⟨g, e, shutR h1 h2⟩
theorem fail_R {S : List Snap} {H : List Chunk} {w : World} {g : Nat} {parts : List (List UInt8)} {why : Nat} {i : Nat} (hi : H[i]? = some (rch g parts why)) (ho : Own S H w) (e : Nat) : Calls Try.prog 125 #[.pointer (some ⟨g, 0, none⟩), .int .i64 e] w (Ret fun v w' => v = .tuple #[] ∧ Own S (H.set i (rch g parts (failW why e))) w') := by
  have h0 := (ho.front hi).keep
  obtain ⟨p, c, h1, h2⟩ := openR h0
  refine calls_mono (fail_r h1 e) fun v w' ⟨e1, h3⟩ => ⟨e1, ?_⟩
  have := shutR h3 (h2.nowK (s := ⟨w, _⟩) (K := g :: keys (H.eraseIdx i)) (Mono.slice Mono.byte) h3 (by repeat (first | exact List.mem_cons_self .. | apply List.mem_cons_of_mem)) rfl)
  exact (this.lose).back hi
theorem end_R {S : List Snap} {H : List Chunk} {w : World} {g : Nat} {parts : List (List UInt8)} {why : Nat} {i : Nat} (hi : H[i]? = some (rch g parts why)) (ho : Own S H w) : Calls Try.prog 126 #[.pointer (some ⟨g, 0, none⟩)] w (Ret fun v w' => v = .int .i64 (endW parts why) ∧ Own S (H.set i (rch g parts (endW parts why))) w') := by
  have h0 := (ho.front hi).keep
  obtain ⟨p, c, h1, h2⟩ := openR h0
  refine calls_mono (end_r h1) fun v w' ⟨e1, h3⟩ => ⟨e1, ?_⟩
  have := shutR h3 (h2.nowK (s := ⟨w, _⟩) (K := g :: keys (H.eraseIdx i)) (Mono.slice Mono.byte) h3 (by repeat (first | exact List.mem_cons_self .. | apply List.mem_cons_of_mem)) rfl)
  exact (this.lose).back hi
theorem piece_R {S : List Snap} {H : List Chunk} {w : World} {g : Nat} {parts : List (List UInt8)} {why : Nat} {i : Nat} (hi : H[i]? = some (rch g parts why)) (ho : Own S H w) : Calls Try.prog 124 #[.pointer (some ⟨g, 0, none⟩)] w (Ret fun v w' => ∃ pb cb, v = .slice pb (nextP parts).length cb ∧ Own S (H.set i (rch g (parts.drop 1) (nextW parts why))) w' ∧ Bytes (keys (H.set i (rch g (parts.drop 1) (nextW parts why)))) w' pb (nextP parts) cb) := by
  have h0 := ho.front hi
  obtain ⟨p, c, h1, h2⟩ := openR h0
  refine calls_mono (piece_r h1 h2) fun v w' ⟨p', c', pb, cb, e1, h3, h4, h5⟩ => ⟨pb, cb, e1, (shutR h3 h4).back hi, h5.keysTo Mono.byte fun k hk => ?_⟩
  exact (keys_set hi k).1 hk
theorem num_R {S : List Snap} {H : List Chunk} {w : World} {g : Nat} {parts : List (List UInt8)} {why : Nat} {i : Nat} (hi : H[i]? = some (rch g parts why)) (ho : Own S H w) (k : Nat) (h1 : 1 ≤ k) (h8 : k ≤ 8) : Calls Try.prog 132 #[.pointer (some ⟨g, 0, none⟩), .int .i64 k] w (Ret fun v w' => v = .int .u64 (takeN parts k) ∧ Own S (H.set i (rch g (parts.drop 1) (lenW parts why k))) w') := by
  have h0 := ho.front hi
  obtain ⟨p, c, h1', h2⟩ := openR h0
  exact calls_mono (num_r h1' h2 k h1 h8) fun v w' ⟨p', c', e1, h3, h4⟩ => ⟨e1, (shutR h3 h4).back hi⟩
theorem byte_R {S : List Snap} {H : List Chunk} {w : World} {g : Nat} {parts : List (List UInt8)} {why : Nat} {i : Nat} (hi : H[i]? = some (rch g parts why)) (ho : Own S H w) : Calls Try.prog 122 #[.pointer (some ⟨g, 0, none⟩)] w (Ret fun v w' => v = .int .u8 (takeN parts 1) ∧ Own S (H.set i (rch g (parts.drop 1) (lenW parts why 1))) w') := by
  have h0 := ho.front hi
  obtain ⟨p, c, h1', h2⟩ := openR h0
  exact calls_mono (byte_r h1' h2) fun v w' ⟨p', c', e1, h3, h4⟩ => ⟨e1, (shutR h3 h4).back hi⟩
theorem short_R {S : List Snap} {H : List Chunk} {w : World} {g : Nat} {parts : List (List UInt8)} {why : Nat} {i : Nat} (hi : H[i]? = some (rch g parts why)) (ho : Own S H w) : Calls Try.prog 130 #[.pointer (some ⟨g, 0, none⟩)] w (Ret fun v w' => v = .int .u16 (takeN parts 2) ∧ Own S (H.set i (rch g (parts.drop 1) (lenW parts why 2))) w') := by
  have h0 := ho.front hi
  obtain ⟨p, c, h1', h2⟩ := openR h0
  exact calls_mono (short_r h1' h2) fun v w' ⟨p', c', e1, h3, h4⟩ => ⟨e1, (shutR h3 h4).back hi⟩
theorem zero80 : (Try.prog.info? 80).bind (·.zero) = some (.agg ((zeros 64).map bv).toArray) := by kernel_rfl
theorem keyOf_takeB (parts : List (List UInt8)) : keyOf (nextP parts) = takeB 32 parts := rfl

theorem key_R {S : List Snap} {H : List Chunk} {w : World} {g : Nat} {parts : List (List UInt8)} {why : Nat} {i : Nat} (hi : H[i]? = some (rch g parts why)) (ho : Own S H w) : Calls Try.prog 129 #[.pointer (some ⟨g, 0, none⟩)] w (Ret fun v w' => v = .agg ((takeB 32 parts).map bv).toArray ∧ Own S (H.set i (rch g (parts.drop 1) (lenW parts why 32))) w') := by
  refine enter (G := Own S H) ho Try.func129 rfl Try.ntmps129 rfl ?_
  refine VC.seq ?_
  refine VC.region ?_
  refine VL.alloc (L := [32]) (ps := [key0.map bv]) zero44 rfl rfl (fun g2 => ?_)
  refine VL.nil ?_
  refine VX.next ?_
  refine VC.seq ?_
  refine VC.region ?_
  refine VL.move rfl ?_
  refine VL.call Try.func124 rfl (by decide) rfl (fun w' hw => piece_R (i := i + 1) hi hw) (fun v => ?_)
  refine VL.at (fun w1 h1w => ?_)
  obtain ⟨pb, cb, rfl, hO, hB1⟩ := h1w
  have hi2 := set_at hi (rch g (parts.drop 1) (nextW parts why))
  refine VL.toOwn hO ?_
  refine VL.call Try.func36 rfl (by decide) rfl (fun w' hw => key_any hw (hB1.now (s := ⟨w1, _⟩) Mono.byte hw (by repeat (first | exact List.mem_cons_self .. | apply List.mem_cons_of_mem)))) (fun v => ?_)
  refine VL.at (fun w2 h1w => ?_)
  obtain ⟨hO2, rfl⟩ := h1w
  refine VL.toOwn hO2 ?_
  refine VL.move rfl ?_
  refine VL.extract rfl rfl ?_
  refine VL.extract rfl rfl ?_
  refine VL.alloc (L := [32]) (ps := [key0.map bv]) zero44 rfl rfl (fun g3 => ?_)
  refine VL.store (L := [32]) (qs := [(keyOf (nextP parts)).map bv]) 0 0 1 rfl rfl rfl (.inl kd44) rfl rfl (by simp [keyOf_length]) (ok1_bytes _) rfl rfl ?_
  refine VL.assign rfl ?_
  refine VL.nil ?_
  refine VX.next ?_
  refine VC.seq ?_
  refine VC.seq ?_
  refine VC.region ?_
  refine VL.move rfl ?_
  refine VL.not rfl ?_
  refine VL.nil ?_
  refine VX.next ?_
  refine VC.split rfl (fun hc12 => ?_) (fun hc12 => ?_)
  · refine VC.region ?_
    refine VL.move rfl ?_
    refine VL.call Try.func125 rfl (by decide) rfl (fun w' hw => fail_R (i := i + 2) hi2 hw 141) (fun v => ?_)
    refine VL.fact fun e => ?_
    subst e
    refine VL.nil ?_
    refine VX.next ?_
    refine VC.seq ?_
    refine VC.region ?_
    refine VL.loads (cs := (keyOf (nextP parts)).map bv) 0 0 1 rfl kd44 (fun _ h => h) rfl rfl rfl rfl ?_
    refine VL.store (L := [32]) (qs := [(keyOf (nextP parts)).map bv]) 1 0 1 rfl rfl rfl (.inl kd44) rfl rfl (by simp [keyOf_length]) (ok1_bytes _) rfl rfl ?_
    refine VL.nil ?_
    refine VX.next ?_
    refine VC.ret ?_
    refine VX.ret_cell1 (cs := (keyOf (nextP parts)).map bv) 1 rfl rfl (by rw [List.length_map, keyOf_length]; exact kd44) (fun _ h => h) rfl rfl (fun we hw => ?_)
    refine ⟨by rw [keyOf_takeB], ?_⟩
    rw [show lenW parts why 32 = failW (nextW parts why) 141 from if_neg (by simpa using hc12)]
    rw [← List.set_set (a := rch g (parts.drop 1) (nextW parts why))]
    exact hw.drop.drop.lose.lose
  · refine VC.skip ?_
    refine VX.next ?_
    refine VC.seq ?_
    refine VC.region ?_
    refine VL.loads (cs := (keyOf (nextP parts)).map bv) 0 0 1 rfl kd44 (fun _ h => h) rfl rfl rfl rfl ?_
    refine VL.store (L := [32]) (qs := [(keyOf (nextP parts)).map bv]) 1 0 1 rfl rfl rfl (.inl kd44) rfl rfl (by simp [keyOf_length]) (ok1_bytes _) rfl rfl ?_
    refine VL.nil ?_
    refine VX.next ?_
    refine VC.ret ?_
    refine VX.ret_cell1 (cs := (keyOf (nextP parts)).map bv) 1 rfl rfl (by rw [List.length_map, keyOf_length]; exact kd44) (fun _ h => h) rfl rfl (fun we hw => ?_)
    refine ⟨by rw [keyOf_takeB], ?_⟩
    rw [show lenW parts why 32 = nextW parts why from if_pos (by simpa using hc12)]
    exact hw.drop.drop.lose.lose

theorem sig_R {S : List Snap} {H : List Chunk} {w : World} {g : Nat} {parts : List (List UInt8)} {why : Nat} {i : Nat} (hi : H[i]? = some (rch g parts why)) (ho : Own S H w) : Calls Try.prog 131 #[.pointer (some ⟨g, 0, none⟩)] w (Ret fun v w' => v = .agg ((takeB 64 parts).map bv).toArray ∧ Own S (H.set i (rch g (parts.drop 1) (lenW parts why 64))) w') := by
  refine enter (G := Own S H) ho Try.func131 rfl Try.ntmps131 rfl ?_
  refine VC.seq ?_
  refine VC.region ?_
  refine VL.alloc (L := [64]) (ps := [(zeros 64).map bv]) zero80 rfl rfl (fun g2 => ?_)
  refine VL.nil ?_
  refine VX.next ?_
  refine VC.seq ?_
  refine VC.region ?_
  refine VL.alloc (L := [64]) (ps := [(zeros 64).map bv]) zero80 rfl rfl (fun g3 => ?_)
  refine VL.nil ?_
  refine VX.next ?_
  refine VC.seq ?_
  refine VC.region ?_
  refine VL.move rfl ?_
  refine VL.call Try.func124 rfl (by decide) rfl (fun w' hw => piece_R (i := i + 2) hi hw) (fun v => ?_)
  refine VL.at (fun w1 h1w => ?_)
  obtain ⟨pb, cb, rfl, hO, hB1⟩ := h1w
  have hi2 := set_at hi (rch g (parts.drop 1) (nextW parts why))
  refine VL.toOwn hO ?_
  refine VL.assign rfl ?_
  refine VL.nil ?_
  refine VX.next ?_
  refine VC.seq ?_
  refine VC.seq ?_
  refine VC.region ?_
  refine VL.move rfl ?_
  refine VL.len Try.underlying24 rfl rfl ?_
  refine VL.neq rfl rfl ?_
  refine VL.case (fun h3_2 => ?_) (fun h3_2 => ?_)
  · refine VL.nil ?_
    refine VX.next ?_
    refine VC.yes rfl ?_
    refine VC.seq ?_
    refine VC.region ?_
    refine VL.move rfl ?_
    refine VL.call Try.func125 rfl (by decide) rfl (fun w' hw => fail_R (i := i + 2) hi2 hw 141) (fun v => ?_)
    refine VL.fact fun e => ?_
    subst e
    refine VL.nil ?_
    refine VX.next ?_
    refine VC.seq ?_
    refine VC.region ?_
    refine VL.loads (cs := (zeros 64).map bv) 0 0 1 rfl kd80 (fun _ h => h) rfl rfl rfl rfl ?_
    refine VL.store (L := [64]) (qs := [(zeros 64).map bv]) 1 0 1 rfl rfl rfl (.inl kd80) rfl rfl rfl (ok1_bytes _) rfl rfl ?_
    refine VL.nil ?_
    refine VX.next ?_
    refine VC.ret ?_
    refine VX.then_ret ?_
    refine VX.ret_cell1 (cs := (zeros 64).map bv) 1 rfl rfl kd80 (fun _ h => h) rfl rfl (fun we hw => ?_)
    refine ⟨by rw [show takeB 64 parts = zeros 64 from if_neg (by omega)], ?_⟩
    rw [show lenW parts why 64 = failW (nextW parts why) 141 from if_neg (by omega)]
    rw [← List.set_set (a := rch g (parts.drop 1) (nextW parts why))]
    exact hw.drop.drop.lose
  · refine VL.nil ?_
    refine VX.next ?_
    refine VC.no rfl ?_
    refine VC.skip ?_
    refine VX.next ?_
    refine VC.seq ?_
    have hl : (nextP parts).length = 64 := by omega
    refine VC.region ?_
    refine VL.sliceArr Try.underlying80 (by kernel_rfl) rfl ?_
    refine VL.move rfl ?_
    refine VL.copyAll (cur := (zeros 64).map bv) (l := nextP parts) 0 rfl Try.underlying24 (by kernel_rfl) rfl rfl rfl hl (by omega) (fun _ h => (hB1.now (s := ⟨w1, _⟩) Mono.byte h (by repeat (first | exact List.mem_cons_self .. | apply List.mem_cons_of_mem))).bytes) rfl (fun _ => ?_)
    refine VL.nil ?_
    refine VX.next ?_
    refine VC.seq ?_
    refine VC.region ?_
    refine VL.loads (cs := (nextP parts).map bv) 0 0 1 rfl kd80 (fun _ h => h) rfl rfl rfl rfl ?_
    refine VL.store (L := [64]) (qs := [(nextP parts).map bv]) 1 0 1 rfl rfl rfl (.inl kd80) rfl rfl (by simp [hl]) (ok1_bytes _) rfl rfl ?_
    refine VL.nil ?_
    refine VX.next ?_
    refine VC.ret ?_
    refine VX.ret_cell1 (cs := (nextP parts).map bv) 1 rfl rfl (by rw [List.length_map, hl]; exact kd80) (fun _ h => h) rfl rfl (fun we hw => ?_)
    refine ⟨by rw [show takeB 64 parts = nextP parts from if_pos hl], ?_⟩
    rw [show lenW parts why 64 = nextW parts why from if_pos hl]
    exact hw.drop.drop.lose

end Go.Proofs.Ytcfecmoagfgnaaa
