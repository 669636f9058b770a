/- What octet.Put, and the reference, make of a number: by a walk through each. -/
import Derived.Test.YtcfecmoagfgnaaaOct1
namespace Go.Proofs.Ytcfecmoagfgnaaa
open Go.Vc Go.Pl

theorem put_any {S : List Snap} {H : List Chunk} {w : World} (ho : Own S H w) (m : Nat) (hm : Fits 8 m) (z : Int) : Calls Try.prog 25 #[.int .u64 m, .int .i64 z] w (Ret fun v w' => Own S H w' ∧ ((1 ≤ z ∧ z ≤ 8 ∧ Fits z.toNat m ∧ ∃ p c, v = .tuple #[.slice p z.toNat c, .bool true] ∧ Bytes (keys H) w' p (be z.toNat m) c) ∨ (¬ (1 ≤ z ∧ z ≤ 8 ∧ Fits z.toNat m) ∧ v = .tuple #[.slice none 0 0, .bool false]))) := by
  refine enter (G := Own (⟨w, keys H⟩ :: S) H) ho.keep Try.func25 rfl Try.ntmps25 rfl ?_
  refine VC.seq ?_
  refine VC.region ?_
  refine VL.assign rfl ?_
  refine VL.assign rfl ?_
  refine VL.nil ?_
  refine VX.next ?_
  refine VC.seq ?_
  refine VC.seq ?_
  refine VC.region ?_
  refine VL.move rfl ?_
  refine VL.lss rfl rfl ?_
  refine VL.case (fun h1_1 => ?_) (fun h1_1 => ?_)
  · refine VL.move rfl ?_
    refine VL.pass rfl rfl rfl rfl rfl ?_
    refine VL.pass rfl rfl rfl rfl rfl ?_
    refine VL.pick_t rfl rfl ?_
    refine VL.move rfl ?_
    refine VL.pass rfl rfl rfl rfl rfl ?_
    refine VL.pass rfl rfl rfl rfl rfl ?_
    refine VL.pass rfl rfl rfl rfl rfl ?_
    refine VL.passu rfl rfl rfl rfl ?_
    refine VL.passu rfl rfl rfl rfl ?_
    refine VL.passu rfl rfl rfl rfl ?_
    refine VL.passu rfl rfl rfl rfl ?_
    refine VL.passu rfl rfl rfl rfl ?_
    refine VL.pass rfl rfl rfl rfl rfl ?_
    refine VL.pick_t rfl rfl ?_
    refine VL.nil ?_
    refine VX.next ?_
    refine VC.yes rfl ?_
    refine VC.seq ?_
    refine VC.region ?_
    refine VL.assign rfl ?_
    refine VL.assign rfl ?_
    refine VL.nil ?_
    refine VX.next ?_
    refine VC.ret ?_
    refine VX.then_ret ?_
    refine VX.ret2 rfl rfl rfl (fun w hw => ?_)
    refine ⟨hw.lose, .inr ⟨?_, rfl⟩⟩
    omega
  · refine VL.move rfl ?_
    refine VL.go rfl rfl rfl ?_
    refine VL.move rfl ?_
    refine VL.go rfl rfl rfl ?_
    refine VL.gtr rfl rfl ?_
    refine VL.case (fun h1_4 => ?_) (fun h1_4 => ?_)
    · refine VL.pick_f rfl rfl ?_
      refine VL.move rfl ?_
      refine VL.pass rfl rfl rfl rfl rfl ?_
      refine VL.pass rfl rfl rfl rfl rfl ?_
      refine VL.pass rfl rfl rfl rfl rfl ?_
      refine VL.passu rfl rfl rfl rfl ?_
      refine VL.passu rfl rfl rfl rfl ?_
      refine VL.passu rfl rfl rfl rfl ?_
      refine VL.passu rfl rfl rfl rfl ?_
      refine VL.passu rfl rfl rfl rfl ?_
      refine VL.pass rfl rfl rfl rfl rfl ?_
      refine VL.pick_t rfl rfl ?_
      refine VL.nil ?_
      refine VX.next ?_
      refine VC.yes rfl ?_
      refine VC.seq ?_
      refine VC.region ?_
      refine VL.assign rfl ?_
      refine VL.assign rfl ?_
      refine VL.nil ?_
      refine VX.next ?_
      refine VC.ret ?_
      refine VX.then_ret ?_
      refine VX.ret2 rfl rfl rfl (fun w hw => ?_)
      refine ⟨hw.lose, .inr ⟨?_, rfl⟩⟩
      omega
    · refine VL.pick_f rfl rfl ?_
      refine VL.move rfl ?_
      refine VL.go rfl rfl rfl ?_
      refine VL.move rfl ?_
      refine VL.go rfl rfl rfl ?_
      refine VL.lss rfl rfl ?_
      refine VL.case (fun h1_8 => ?_) (fun h1_8 => ?_)
      · refine VL.go rfl rfl rfl ?_
        refine VL.move rfl ?_
        refine VL.go rfl rfl rfl ?_
        refine VL.move rfl ?_
        refine VL.go rfl rfl rfl ?_
        refine VL.move rfl ?_
        refine VL.go rfl rfl rfl ?_
        refine VL.mul rfl rfl (by simp only [InR]; omega) ?_
        refine VL.go rfl rfl rfl ?_
        refine VL.shr rfl rfl (by omega) (by simp only [IntKind.bits]; omega) ?_
        obtain ⟨k, rfl⟩ : ∃ k : Nat, z = k := ⟨z.toNat, by omega⟩
        rw [shr_int]
        refine VL.go rfl rfl rfl ?_
        refine VL.neq rfl rfl ?_
        refine VL.case (fun h14 => ?_) (fun h14 => ?_)
        · have hd := (div_zero_iff m k)
          refine VL.go rfl rfl rfl ?_
          refine VL.pick_t rfl rfl ?_
          refine VL.pick_f rfl rfl ?_
          refine VL.nil ?_
          refine VX.next ?_
          refine VC.yes rfl ?_
          refine VC.seq ?_
          refine VC.region ?_
          refine VL.assign rfl ?_
          refine VL.assign rfl ?_
          refine VL.nil ?_
          refine VX.next ?_
          refine VC.ret ?_
          refine VX.then_ret ?_
          refine VX.ret2 rfl rfl rfl (fun w hw => ?_)
          refine ⟨hw.lose, .inr ⟨?_, rfl⟩⟩
          rintro ⟨_, _, h3⟩
          exact absurd (hd.2 h3) (by omega)
        · have hd := (div_zero_iff m k)
          refine VL.go rfl rfl rfl ?_
          refine VL.pick_t rfl rfl ?_
          refine VL.pick_f rfl rfl ?_
          refine VL.nil ?_
          refine VX.next ?_
          refine VC.no rfl ?_
          refine VC.skip ?_
          refine VX.next ?_
          refine VC.seq ?_
          refine VC.region ?_
          refine VL.move rfl ?_
          refine VL.make el24 rfl rfl rfl rfl (by omega) (by omega) (fun g => ?_)
          refine VL.assign rfl ?_
          refine VL.nil ?_
          refine VX.next ?_
          refine VC.seq ?_
          refine VC.seq ?_
          refine VC.region ?_
          refine VL.move rfl ?_
          refine VL.len Try.underlying24 rfl rfl ?_
          refine VL.move rfl ?_
          refine VL.nil ?_
          refine VX.next ?_
          refine VC.block ?_
          refine VC.loop (X := Nat) (fun i => [(0, .int .u64 m), (1, .int .i64 k), (6, rowV (some g) k k), (28, .int .i64 k), (29, .int .i64 i)]) (fun i w' => i ≤ k ∧ Own (⟨w, keys H⟩ :: S) (row 5 1 (some g) k k ((midb k i m).map bv) :: H) w') (fun i => k - i) 0 ⟨rfl, rfl, rfl, rfl, rfl, trivial⟩ (fun w' h => ⟨Nat.zero_le _, ?_⟩) (fun i => VC.fact fun hi => ?_)
          · rw [midb_start]; simpa [bv] using h
          · skip
            refine VC.seq ?_
            refine VC.region ?_
            refine VL.lss rfl rfl ?_
            refine VL.case (fun h5_0 => ?_) (fun h5_0 => ?_)
            · refine VL.nil ?_
              refine VX.next ?_
              refine VC.seq ?_
              refine VC.yes rfl ?_
              refine VC.skip ?_
              refine VX.next ?_
              refine VC.seq ?_
              refine VC.block ?_
              refine VC.seq ?_
              refine VC.region ?_
              refine VL.move rfl ?_
              refine VL.assign rfl ?_
              refine VL.nil ?_
              refine VX.next ?_
              refine VC.region ?_
              refine VL.move rfl ?_
              refine VL.move rfl ?_
              refine VL.sub rfl rfl (by simp only [InR]; omega) ?_
              refine VL.move rfl ?_
              refine VL.sub rfl rfl (by simp only [InR]; omega) ?_
              refine VL.move rfl ?_
              refine VL.move rfl ?_
              refine VL.mul rfl rfl (by simp only [InR]; omega) ?_
              refine VL.shr rfl rfl (by omega) (by simp only [IntKind.bits]; omega) ?_
              rw [shr_int]
              refine VL.convw (by rw [Try.underlying22]; rfl) Try.underlying5 rfl ?_
              rw [byte_wrap]
              refine VL.rowIndex el24 rfl rfl (by omega) (by omega) ?_
              refine VL.rowStore 0 rfl rfl rfl kd5 rfl (by omega) ?_
              refine VL.nil ?_
              refine VX.block_normal ?_
              refine VX.next ?_
              refine VC.region ?_
              refine VL.add rfl rfl (by simp only [InR]; omega) ?_
              refine VL.move rfl ?_
              refine VL.nil ?_
              refine VX.round (i + 1) ⟨rfl, rfl, rfl, rfl, rfl, trivial⟩ (fun w' h => ⟨by omega, ?_⟩) (by omega)
              rw [← midb_set k i m (by omega), List.map_set]
              have e : ((k : Int) - 1 - (i : Int)).toNat * 1 = k - 1 - i := by omega
              rw [e] at h
              exact h
            · refine VL.nil ?_
              refine VX.next ?_
              refine VC.seq ?_
              refine VC.no rfl ?_
              refine VC.exit ?_
              refine VX.then_exit ?_
              refine VX.then_exit ?_
              refine VX.block_here ?_
              refine VX.next ?_
              refine VC.seq ?_
              refine VC.region ?_
              refine VL.move rfl ?_
              refine VL.assign rfl ?_
              refine VL.assign rfl ?_
              refine VL.nil ?_
              refine VX.next ?_
              refine VC.ret ?_
              refine VX.ret2 rfl rfl rfl (fun w hw => ?_)
              obtain rfl : i = k := by omega
              rw [midb_done] at hw
              have hb := hw.letBytes (l := be i m) (by rw [be_length]) rfl
              refine ⟨hw.drop.lose, .inl ⟨by omega, by omega, ?_, _, _, rfl, hb⟩⟩
              exact hd.1 (by omega)
      · refine VL.go rfl rfl rfl ?_
        refine VL.move rfl ?_
        refine VL.pass rfl rfl rfl rfl rfl ?_
        refine VL.pass rfl rfl rfl rfl rfl ?_
        refine VL.pass rfl rfl rfl rfl rfl ?_
        refine VL.pass rfl rfl rfl rfl rfl ?_
        refine VL.pass rfl rfl rfl rfl rfl ?_
        refine VL.go rfl rfl rfl ?_
        refine VL.pick_f rfl rfl ?_
        refine VL.pick_f rfl rfl ?_
        refine VL.nil ?_
        refine VX.next ?_
        refine VC.no rfl ?_
        refine VC.skip ?_
        refine VX.next ?_
        refine VC.seq ?_
        obtain ⟨k, rfl⟩ : ∃ k : Nat, z = k := ⟨z.toNat, by omega⟩
        refine VC.region ?_
        refine VL.move rfl ?_
        refine VL.make el24 rfl rfl rfl rfl (by omega) (by omega) (fun g => ?_)
        refine VL.assign rfl ?_
        refine VL.nil ?_
        refine VX.next ?_
        refine VC.seq ?_
        refine VC.seq ?_
        refine VC.region ?_
        refine VL.move rfl ?_
        refine VL.len Try.underlying24 rfl rfl ?_
        refine VL.move rfl ?_
        refine VL.nil ?_
        refine VX.next ?_
        refine VC.block ?_
        refine VC.loop (X := Nat) (fun i => [(0, .int .u64 m), (1, .int .i64 k), (6, rowV (some g) k k), (28, .int .i64 k), (29, .int .i64 i)]) (fun i w' => i ≤ k ∧ Own (⟨w, keys H⟩ :: S) (row 5 1 (some g) k k ((midb k i m).map bv) :: H) w') (fun i => k - i) 0 ⟨rfl, rfl, rfl, rfl, rfl, trivial⟩ (fun w' h => ⟨Nat.zero_le _, ?_⟩) (fun i => VC.fact fun hi => ?_)
        · rw [midb_start]; simpa [bv] using h
        · skip
          refine VC.seq ?_
          refine VC.region ?_
          refine VL.lss rfl rfl ?_
          refine VL.case (fun h5_0 => ?_) (fun h5_0 => ?_)
          · refine VL.nil ?_
            refine VX.next ?_
            refine VC.seq ?_
            refine VC.yes rfl ?_
            refine VC.skip ?_
            refine VX.next ?_
            refine VC.seq ?_
            refine VC.block ?_
            refine VC.seq ?_
            refine VC.region ?_
            refine VL.move rfl ?_
            refine VL.assign rfl ?_
            refine VL.nil ?_
            refine VX.next ?_
            refine VC.region ?_
            refine VL.move rfl ?_
            refine VL.move rfl ?_
            refine VL.sub rfl rfl (by simp only [InR]; omega) ?_
            refine VL.move rfl ?_
            refine VL.sub rfl rfl (by simp only [InR]; omega) ?_
            refine VL.move rfl ?_
            refine VL.move rfl ?_
            refine VL.mul rfl rfl (by simp only [InR]; omega) ?_
            refine VL.shr rfl rfl (by omega) (by simp only [IntKind.bits]; omega) ?_
            rw [shr_int]
            refine VL.convw (by rw [Try.underlying22]; rfl) Try.underlying5 rfl ?_
            rw [byte_wrap]
            refine VL.rowIndex el24 rfl rfl (by omega) (by omega) ?_
            refine VL.rowStore 0 rfl rfl rfl kd5 rfl (by omega) ?_
            refine VL.nil ?_
            refine VX.block_normal ?_
            refine VX.next ?_
            refine VC.region ?_
            refine VL.add rfl rfl (by simp only [InR]; omega) ?_
            refine VL.move rfl ?_
            refine VL.nil ?_
            refine VX.round (i + 1) ⟨rfl, rfl, rfl, rfl, rfl, trivial⟩ (fun w' h => ⟨by omega, ?_⟩) (by omega)
            rw [← midb_set k i m (by omega), List.map_set]
            have e : ((k : Int) - 1 - (i : Int)).toNat * 1 = k - 1 - i := by omega
            rw [e] at h
            exact h
          · refine VL.nil ?_
            refine VX.next ?_
            refine VC.seq ?_
            refine VC.no rfl ?_
            refine VC.exit ?_
            refine VX.then_exit ?_
            refine VX.then_exit ?_
            refine VX.block_here ?_
            refine VX.next ?_
            refine VC.seq ?_
            refine VC.region ?_
            refine VL.move rfl ?_
            refine VL.assign rfl ?_
            refine VL.assign rfl ?_
            refine VL.nil ?_
            refine VX.next ?_
            refine VC.ret ?_
            refine VX.ret2 rfl rfl rfl (fun w hw => ?_)
            obtain rfl : i = k := by omega
            rw [midb_done] at hw
            have hb := hw.letBytes (l := be i m) (by rw [be_length]) rfl
            refine ⟨hw.drop.lose, .inl ⟨by omega, by omega, ?_, _, _, rfl, hb⟩⟩
            obtain rfl : i = 8 := by omega
            exact hm

theorem inr_div {m : Nat} (h : Fits 8 m) (i : Nat) : InR .u64 ((m / 256 ^ i : Nat) : Int) :=
  ⟨Int.natCast_nonneg _, Int.ofNat_le.2 (Nat.le_of_lt_succ (Nat.lt_of_le_of_lt (Nat.div_le_self m (256 ^ i)) (show m < 18446744073709551616 from h)))⟩

theorem refPut_any {S : List Snap} {H : List Chunk} {w : World} (ho : Own S H w) (m : Nat) (hm : Fits 8 m) (z : Int) : Calls Try.prog 26 #[.int .u64 m, .int .i64 z] w (Ret fun v w' => Own S H w' ∧ ((1 ≤ z ∧ z ≤ 8 ∧ Fits z.toNat m ∧ ∃ p c, v = .tuple #[.slice p z.toNat c, .bool true] ∧ Bytes (keys H) w' p (be z.toNat m) c) ∨ (¬ (1 ≤ z ∧ z ≤ 8 ∧ Fits z.toNat m) ∧ v = .tuple #[.slice none 0 0, .bool false]))) := by
  refine enter (G := Own (⟨w, keys H⟩ :: S) H) ho.keep Try.func26 rfl Try.ntmps26 rfl ?_
  refine VC.seq ?_
  refine VC.region ?_
  refine VL.assign rfl ?_
  refine VL.assign rfl ?_
  refine VL.nil ?_
  refine VX.next ?_
  refine VC.seq ?_
  refine VC.seq ?_
  refine VC.region ?_
  refine VL.move rfl ?_
  refine VL.lss rfl rfl ?_
  refine VL.case (fun h1_1 => ?_) (fun h1_1 => ?_)
  · refine VL.move rfl ?_
    refine VL.pass rfl rfl rfl rfl rfl ?_
    refine VL.pass rfl rfl rfl rfl rfl ?_
    refine VL.pick_t rfl rfl ?_
    refine VL.nil ?_
    refine VX.next ?_
    refine VC.yes rfl ?_
    refine VC.seq ?_
    refine VC.region ?_
    refine VL.assign rfl ?_
    refine VL.assign rfl ?_
    refine VL.nil ?_
    refine VX.next ?_
    refine VC.ret ?_
    refine VX.then_ret ?_
    refine VX.ret2 rfl rfl rfl (fun w hw => ?_)
    exact ⟨hw.lose, .inr ⟨by omega, rfl⟩⟩
  · refine VL.move rfl ?_
    refine VL.go rfl rfl rfl ?_
    refine VL.move rfl ?_
    refine VL.go rfl rfl rfl ?_
    refine VL.gtr rfl rfl ?_
    refine VL.case (fun h1_4 => ?_) (fun h1_4 => ?_)
    · refine VL.pick_f rfl rfl ?_
      refine VL.nil ?_
      refine VX.next ?_
      refine VC.yes rfl ?_
      refine VC.seq ?_
      refine VC.region ?_
      refine VL.assign rfl ?_
      refine VL.assign rfl ?_
      refine VL.nil ?_
      refine VX.next ?_
      refine VC.ret ?_
      refine VX.then_ret ?_
      refine VX.ret2 rfl rfl rfl (fun w hw => ?_)
      exact ⟨hw.lose, .inr ⟨by omega, rfl⟩⟩
    · refine VL.pick_f rfl rfl ?_
      refine VL.nil ?_
      refine VX.next ?_
      refine VC.no rfl ?_
      refine VC.skip ?_
      refine VX.next ?_
      refine VC.seq ?_
      obtain ⟨k, rfl⟩ : ∃ k : Nat, z = k := ⟨z.toNat, by omega⟩
      refine VC.region ?_
      refine VL.move rfl ?_
      refine VL.make el24 rfl rfl rfl rfl (by omega) (by omega) (fun g => ?_)
      refine VL.assign rfl ?_
      refine VL.nil ?_
      refine VX.next ?_
      refine VC.seq ?_
      refine VC.seq ?_
      refine VC.region ?_
      refine VL.move rfl ?_
      refine VL.sub rfl rfl (by simp only [InR]; omega) ?_
      refine VL.assign rfl ?_
      refine VL.nil ?_
      refine VX.next ?_
      refine VC.block ?_
      refine VC.loop (X := Nat) (fun i => [(0, .int .u64 ((m / 256 ^ i : Nat) : Int)), (1, .int .i64 k), (6, rowV (some g) k k), (7, .int .i64 ((k : Int) - 1 - i))]) (fun i w' => i ≤ k ∧ Own (⟨w, keys H⟩ :: S) (row 5 1 (some g) k k ((midb k i m).map bv) :: H) w') (fun i => k - i) 0 ⟨?_, rfl, rfl, ?_, trivial⟩ (fun w' h => ⟨Nat.zero_le _, ?_⟩) (fun i => VC.fact fun hi => ?_)
      · show some (Value.int .u64 (m : Int)) = some (Value.int .u64 _)
        simp
      · show some (Value.int .i64 ((k : Int) - 1)) = _
        simp
      · rw [midb_start]; simpa [bv] using h
      · skip
        refine VC.seq ?_
        refine VC.seq ?_
        refine VC.region ?_
        refine VL.move rfl ?_
        refine VL.geq rfl rfl ?_
        refine VL.case (fun h5_1 => ?_) (fun h5_1 => ?_)
        · refine VL.nil ?_
          refine VX.next ?_
          refine VC.yes rfl ?_
          refine VC.skip ?_
          refine VX.next ?_
          refine VC.seq ?_
          refine VC.block ?_
          refine VC.seq ?_
          refine VC.region ?_
          refine VL.move rfl ?_
          refine VL.move rfl ?_
          refine VL.move rfl ?_
          refine VL.rem rfl rfl (Int.natCast_nonneg _) (by omega) ?_
          refine VL.convw (by rw [Try.underlying22]; rfl) Try.underlying5 rfl ?_
          rw [byte_rem]
          refine VL.rowIndex el24 rfl rfl (by omega) (by omega) ?_
          refine VL.rowStore 0 rfl rfl rfl kd5 rfl (by omega) ?_
          refine VL.nil ?_
          refine VX.next ?_
          refine VC.region ?_
          refine VL.move rfl ?_
          refine VL.quo rfl rfl (Int.natCast_nonneg _) (by omega) (inr_div hm i) ?_
          refine VL.assign rfl ?_
          refine VL.nil ?_
          refine VX.block_normal ?_
          refine VX.next ?_
          refine VC.region ?_
          refine VL.move rfl ?_
          refine VL.sub rfl rfl (by simp only [InR]; omega) ?_
          refine VL.assign rfl ?_
          refine VL.nil ?_
          refine VX.round (i + 1) ⟨?_, rfl, rfl, ?_, trivial⟩ (fun w' h => ⟨by omega, ?_⟩) (by omega)
          · show some (Value.int .u64 _) = some (Value.int .u64 _)
            rw [Nat.pow_succ, ← Nat.div_div_eq_div_mul]; rfl
          · show some (Value.int .i64 _) = some (Value.int .i64 _)
            congr 2; omega
          · rw [← midb_set k i m (by omega), List.map_set]
            have e : ((k : Int) - 1 - (i : Int)).toNat * 1 = k - 1 - i := by omega
            rw [e] at h
            exact h
        · refine VL.nil ?_
          refine VX.next ?_
          refine VC.no rfl ?_
          refine VC.exit ?_
          refine VX.then_exit ?_
          refine VX.then_exit ?_
          refine VX.block_here ?_
          refine VX.next ?_
          refine VC.seq ?_
          refine VC.seq ?_
          obtain rfl : i = k := by omega
          have hd := div_zero_iff m i
          refine VC.region ?_
          refine VL.move rfl ?_
          refine VL.neq rfl rfl ?_
          refine VL.case (fun h9_1 => ?_) (fun h9_1 => ?_)
          · refine VL.nil ?_
            refine VX.next ?_
            refine VC.yes rfl ?_
            refine VC.seq ?_
            refine VC.region ?_
            refine VL.assign rfl ?_
            refine VL.assign rfl ?_
            refine VL.nil ?_
            refine VX.next ?_
            refine VC.ret ?_
            refine VX.then_ret ?_
            refine VX.ret2 rfl rfl rfl (fun w hw => ?_)
            refine ⟨hw.drop.lose, .inr ⟨?_, rfl⟩⟩
            rintro ⟨_, _, h3⟩
            exact absurd (hd.2 h3) (by omega)
          · refine VL.nil ?_
            refine VX.next ?_
            refine VC.no rfl ?_
            refine VC.skip ?_
            refine VX.next ?_
            refine VC.seq ?_
            refine VC.region ?_
            refine VL.move rfl ?_
            refine VL.assign rfl ?_
            refine VL.assign rfl ?_
            refine VL.nil ?_
            refine VX.next ?_
            refine VC.ret ?_
            refine VX.ret2 rfl rfl rfl (fun w hw => ?_)
            rw [midb_done] at hw
            have hb := hw.letBytes (l := be i m) (by rw [be_length]) rfl
            exact ⟨hw.drop.lose, .inl ⟨by omega, by omega, hd.1 (by omega), _, _, rfl, hb⟩⟩

theorem fits_small {m : Nat} (h : m ≤ 4294967295) : Fits 8 m := Nat.lt_of_le_of_lt h (by decide)

theorem num_any {S : List Snap} {H : List Chunk} {w : World} (ho : Own S H w) (m k : Nat) (hm : m ≤ 4294967295) (h1 : 1 ≤ k) (h8 : k ≤ 8) (hf : Fits k m) : Calls Try.prog 108 #[.int .i64 m, .int .i64 k] w (Ret fun v w' => Own S H w' ∧ ∃ p c, v = .slice p k c ∧ Bytes (keys H) w' p (be k m) c) := by
  refine enter (G := Own (⟨w, keys H⟩ :: S) H) ho.keep Try.func108 rfl Try.ntmps108 rfl ?_
  refine VC.seq ?_
  refine VC.region ?_
  refine VL.assign rfl ?_
  refine VL.nil ?_
  refine VX.next ?_
  refine VC.seq ?_
  refine VC.region ?_
  refine VL.move rfl ?_
  refine VL.conv (by rw [Try.underlying3]; rfl) Try.underlying22 rfl (by simp only [InR]; omega) ?_
  refine VL.move rfl ?_
  refine VL.call Try.func26 rfl (by decide) rfl (fun w' hw => refPut_any hw m (fits_small hm) k) (fun v => ?_)
  refine VL.at (fun w1 h1w => ?_)
  obtain ⟨hO, ⟨_, _, _, p, c, rfl, hA⟩ | ⟨hno, _⟩⟩ := h1w
  rotate_left
  · exact absurd ⟨by omega, by omega, by rw [Int.toNat_natCast]; exact hf⟩ hno
  refine VL.toOwn hO ?_
  refine VL.move rfl ?_
  refine VL.extract rfl rfl ?_
  refine VL.extract rfl rfl ?_
  refine VL.assign rfl ?_
  refine VL.assign rfl ?_
  refine VL.nil ?_
  refine VX.next ?_
  refine VC.seq ?_
  refine VC.region ?_
  refine VL.move rfl ?_
  refine VL.assign rfl ?_
  refine VL.nil ?_
  refine VX.next ?_
  refine VC.ret ?_
  refine VX.ret1 rfl rfl (fun w hw => ?_)
  refine ⟨hw.lose.lose, p, c, rfl, ?_⟩
  exact hA.now (s := ⟨w1, keys H⟩) Mono.byte hw (List.mem_cons_self ..)

theorem bytes_any {S : List Snap} {H : List Chunk} {w : World} (ho : Own S H w) {p q : Option Addr} {l k : List UInt8} {c d : Nat} (hA : Bytes (keys H) w p l c) (hB : Bytes (keys H) w q k d) : Calls Try.prog 27 #[.slice p l.length c, .slice q k.length d] w (Ret fun v w' => Own S H w' ∧ v = .bool (decide (l = k))) := by
  refine enter (G := Own (⟨w, keys H⟩ :: S) H) ho.keep Try.func27 rfl Try.ntmps27 rfl ?_
  refine VC.seq ?_
  refine VC.region ?_
  refine VL.assign rfl ?_
  refine VL.nil ?_
  refine VX.next ?_
  refine VC.seq ?_
  refine VC.region ?_
  refine VL.move rfl ?_
  refine VL.str (s := ⟨w, keys H⟩) Try.underlying24 Try.underlying5 Try.underlying9 rfl (fun _ h => h) (List.mem_cons_self ..) hA ?_
  refine VL.move rfl ?_
  refine VL.str (s := ⟨w, keys H⟩) Try.underlying24 Try.underlying5 Try.underlying9 rfl (fun _ h => h) (List.mem_cons_self ..) hB ?_
  refine VL.eqls rfl rfl ?_
  refine VL.assign rfl ?_
  refine VL.nil ?_
  refine VX.next ?_
  refine VC.ret ?_
  refine VX.ret1 rfl rfl (fun w hw => ?_)
  refine ⟨hw.lose, ?_⟩
  have : ((⟨l.toArray⟩ : ByteArray) = ⟨k.toArray⟩) ↔ l = k := by simp
  rw [decide_eq_decide.2 this]

theorem lists_any {S : List Snap} {H : List Chunk} {w : World} (ho : Own S H w) {p q : Option Addr} {l k : List (List UInt8)} {c d : Nat} (hA : Arr 1 bytesR (keys H) w p l c) (hB : Arr 1 bytesR (keys H) w q k d) : Calls Try.prog 33 #[.slice p l.length c, .slice q k.length d] w (Ret fun v w' => Own S H w' ∧ v = .bool (decide (l = k))) := by
  refine enter (G := Own (⟨w, keys H⟩ :: S) H) ho.keep Try.func33 rfl Try.ntmps33 rfl ?_
  refine VC.seq ?_
  refine VC.region ?_
  refine VL.assign rfl ?_
  refine VL.nil ?_
  refine VX.next ?_
  refine VC.seq ?_
  refine VC.seq ?_
  refine VC.region ?_
  refine VL.move rfl ?_
  refine VL.len Try.underlying31 rfl rfl ?_
  refine VL.move rfl ?_
  refine VL.len Try.underlying31 rfl rfl ?_
  refine VL.neq rfl rfl ?_
  refine VL.case (fun h1_4 => ?_) (fun h1_4 => ?_)
  · refine VL.nil ?_
    refine VX.next ?_
    refine VC.yes rfl ?_
    refine VC.seq ?_
    refine VC.region ?_
    refine VL.assign rfl ?_
    refine VL.nil ?_
    refine VX.next ?_
    refine VC.ret ?_
    refine VX.then_ret ?_
    refine VX.ret1 rfl rfl (fun w hw => ?_)
    refine ⟨hw.lose, ?_⟩
    have : l ≠ k := fun e => h1_4 (by rw [e])
    simp [this]
  · refine VL.nil ?_
    refine VX.next ?_
    refine VC.no rfl ?_
    refine VC.skip ?_
    refine VX.next ?_
    refine VC.seq ?_
    refine VC.seq ?_
    have heq : l.length = k.length := by omega
    have hsm := hA.small
    refine VC.region ?_
    refine VL.assign rfl ?_
    refine VL.nil ?_
    refine VX.next ?_
    refine VC.block ?_
    refine VC.loop (X := Nat) (fun i => [(0, .slice p l.length c), (1, .slice q k.length d), (5, .int .i64 i)]) (fun i w' => (i ≤ l.length ∧ l.take i = k.take i) ∧ Own (⟨w, keys H⟩ :: S) H w') (fun i => l.length - i) 0 ⟨rfl, rfl, rfl, trivial⟩ (fun _ h => ⟨⟨Nat.zero_le _, rfl⟩, h⟩) (fun i => VC.fact fun hi => ?_)
    · obtain ⟨hi, hpre⟩ := hi
      refine VC.seq ?_
      refine VC.seq ?_
      refine VC.region ?_
      refine VL.move rfl ?_
      refine VL.move rfl ?_
      refine VL.len Try.underlying31 rfl rfl ?_
      refine VL.lss rfl rfl ?_
      refine VL.case (fun h4_3 => ?_) (fun h4_3 => ?_)
      · refine VL.nil ?_
        refine VX.next ?_
        refine VC.yes rfl ?_
        refine VC.skip ?_
        refine VX.next ?_
        refine VC.seq ?_
        refine VC.block ?_
        refine VC.seq ?_
        have hlt : i < l.length := by omega
        have hlk : i < k.length := by omega
        apply VC.anyA 1010 (F := [eqF _, eqF _, eqF _, bytesF l[i], eqF _, eqF _, eqF _, bytesF k[i], eqF _, eqF _]) [⟨[], [0]⟩, ⟨[], [5]⟩, ⟨[(17, 0), (18, 1)], []⟩, ⟨[(19, 2)], []⟩, ⟨[], [1]⟩, ⟨[], [5]⟩, ⟨[(21, 4), (22, 5)], []⟩, ⟨[(23, 6)], []⟩, ⟨[(20, 3), (24, 7)], []⟩, ⟨[(25, 8)], []⟩] [(26, 9)] [0, 1, 4, 5, 6, 7, 8, 9, 10, 11, 12, 13, 14, 15, 16] rfl (by kernel_rfl) (by kernel_rfl) (by kernel_rfl) (by kernel_rfl) rfl ?obs6 ?end6
        case obs6 =>
          refine Obs.cons ?_ ?_
          · refine obS (by kernel_rfl) rfl rfl (fun ph6 w6 hO6 => ?_)
            refine VL.move rfl ?_
            exact VL.finS hO6 rfl rfl
          refine Obs.cons ?_ ?_
          · refine obS (by kernel_rfl) rfl rfl (fun ph6 w6 hO6 => ?_)
            refine VL.move rfl ?_
            exact VL.finS hO6 rfl rfl
          refine Obs.cons ?_ ?_
          · refine obS (by kernel_rfl) rfl rfl (fun ph6 w6 hO6 => ?_)
            rintro _ rfl _ rfl
            refine VL.index rfl rfl Try.underlying31 sz31 hA (by omega) (by omega) ?_
            exact VL.finS hO6 rfl rfl
          refine Obs.cons ?_ ?_
          · refine ob (by kernel_rfl) rfl rfl rfl (fun w6 hO6 => ?_)
            rintro _ rfl
            refine VL.elem (s := ⟨w, keys H⟩) i 0 rfl kd24 (fun _ e => e ▸ hO6) (List.mem_cons_self ..) (Mono.slice Mono.byte) hA (y := l[i]) (by simp [hlt]) (by omega) (by omega) (fun vs v hl hr hv => ?_)
            obtain ⟨p3, c3, rfl, hA3⟩ := hr
            simp at hv
            subst hv
            exact VL.finS hO6 rfl ⟨p3, c3, rfl, hA3.now (s := ⟨w, keys H⟩) Mono.byte hO6 (List.mem_cons_self ..)⟩
          refine Obs.cons ?_ ?_
          · refine obS (by kernel_rfl) rfl rfl (fun ph6 w6 hO6 => ?_)
            refine VL.move rfl ?_
            exact VL.finS hO6 rfl rfl
          refine Obs.cons ?_ ?_
          · refine obS (by kernel_rfl) rfl rfl (fun ph6 w6 hO6 => ?_)
            refine VL.move rfl ?_
            exact VL.finS hO6 rfl rfl
          refine Obs.cons ?_ ?_
          · refine obS (by kernel_rfl) rfl rfl (fun ph6 w6 hO6 => ?_)
            rintro _ rfl _ rfl
            refine VL.index rfl rfl Try.underlying31 sz31 hB (by omega) (by omega) ?_
            exact VL.finS hO6 rfl rfl
          refine Obs.cons ?_ ?_
          · refine ob (by kernel_rfl) rfl rfl rfl (fun w6 hO6 => ?_)
            rintro _ rfl
            refine VL.elem (s := ⟨w, keys H⟩) i 0 rfl kd24 (fun _ e => e ▸ hO6) (List.mem_cons_self ..) (Mono.slice Mono.byte) hB (y := k[i]) (by simp [hlk]) (by omega) (by omega) (fun vs v hl hr hv => ?_)
            obtain ⟨p7, c7, rfl, hA7⟩ := hr
            simp at hv
            subst hv
            exact VL.finS hO6 rfl ⟨p7, c7, rfl, hA7.now (s := ⟨w, keys H⟩) Mono.byte hO6 (List.mem_cons_self ..)⟩
          refine Obs.cons ?_ ?_
          · refine ob (by kernel_rfl) rfl rfl rfl (fun w6 hO6 => ?_)
            rintro _ ⟨p3, c3, rfl, hA3⟩ _ ⟨p7, c7, rfl, hA7⟩
            refine VL.toOwn hO6 ?_
            refine VL.call Try.func27 rfl (by decide) rfl (fun w1 hw => bytes_any hw (hA3.now (s := ⟨w6, keys H⟩) Mono.byte hw (List.mem_cons_self ..)) (hA7.now (s := ⟨w6, keys H⟩) Mono.byte hw (List.mem_cons_self ..))) (fun v => ?_)
            exact VL.finO rfl (fun _ h => h.1) (fun _ h => h.2)
          refine Obs.cons ?_ ?_
          · refine obS (by kernel_rfl) rfl rfl (fun ph6 w6 hO6 => ?_)
            rintro _ rfl
            refine VL.not rfl ?_
            exact VL.finS hO6 rfl rfl
          exact Obs.nil
        case end6 =>
          intro w6 hO6
          rintro _ rfl
          refine VX.toOwn hO6 ?_
          refine VX.next ?_
          refine VC.split rfl (fun hc26 => ?_) (fun hc26 => ?_)
          · refine VC.seq ?_
            refine VC.region ?_
            refine VL.assign rfl ?_
            refine VL.nil ?_
            refine VX.next ?_
            refine VC.ret ?_
            refine VX.block_ret ?_
            refine VX.then_ret ?_
            refine VX.then_ret ?_
            refine VX.block_ret ?_
            refine VX.then_ret ?_
            refine VX.ret1 rfl rfl (fun w hw => ?_)
            refine ⟨hw.lose.lose, ?_⟩
            have : l ≠ k := fun e => by subst e; simp at hc26
            simp [this]
          · refine VC.skip ?_
            refine VX.block_normal ?_
            refine VX.next ?_
            refine VC.region ?_
            refine VL.move rfl ?_
            refine VL.add rfl rfl (by simp only [InR]; omega) ?_
            refine VL.assign rfl ?_
            refine VL.nil ?_
            refine VX.round (i + 1) ⟨rfl, rfl, rfl, trivial⟩ (fun _ h => ⟨⟨by omega, ?_⟩, h.lose⟩) (by omega)
            have hyes : l[i] = k[i] := by simpa using hc26
            rw [List.take_succ_eq_append_getElem hlt, List.take_succ_eq_append_getElem hlk, hpre, hyes]
      · refine VL.nil ?_
        refine VX.next ?_
        refine VC.no rfl ?_
        refine VC.exit ?_
        refine VX.then_exit ?_
        refine VX.then_exit ?_
        refine VX.block_here ?_
        refine VX.next ?_
        refine VC.seq ?_
        refine VC.region ?_
        refine VL.assign rfl ?_
        refine VL.nil ?_
        refine VX.next ?_
        refine VC.ret ?_
        refine VX.ret1 rfl rfl (fun w hw => ?_)
        refine ⟨hw.lose, ?_⟩
        have hil : i = l.length := by omega
        rw [hil, List.take_length, heq, List.take_length] at hpre
        simp [hpre]

end Go.Proofs.Ytcfecmoagfgnaaa
