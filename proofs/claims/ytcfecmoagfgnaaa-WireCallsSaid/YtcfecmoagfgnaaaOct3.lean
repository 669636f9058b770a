/- What octet.Join and the reference join, by a walk through each. -/
import Derived.Test.YtcfecmoagfgnaaaOct2
namespace Go.Proofs.Ytcfecmoagfgnaaa
open Go.Vc Go.Pl

/-- What stands behind i pieces. -/
def acc (ls : List (List UInt8)) (i : Nat) : List UInt8 := UInt8.ofNat ls.length :: body (ls.take i)
theorem acc_succ (ls : List (List UInt8)) (i : Nat) (h : i < ls.length) : acc ls (i + 1) = acc ls i ++ (be 2 ls[i].length ++ ls[i]) := by
  unfold acc
  rw [List.take_succ_eq_append_getElem h, body_snoc]; rfl
theorem acc_le (ls : List (List UInt8)) (i : Nat) (h : ∀ j (hj : j < ls.length), j < i → ls[j].length ≤ 4096) : (acc ls i).length ≤ 1 + 4098 * i := by
  unfold acc
  have := body_le (ls := ls.take i) (fun p hp => by
    obtain ⟨j, hj, rfl⟩ := List.getElem_of_mem hp
    rw [List.getElem_take]
    have h1 : j < i ∧ j < ls.length := by simp at hj; omega
    exact h j h1.2 h1.1)
  have h2 : (ls.take i).length ≤ i := List.length_take_le _ _
  have h3 := Nat.mul_le_mul_left 4098 h2
  simp only [List.length_cons]; omega
theorem acc_done (ls : List (List UInt8)) : acc ls ls.length = joinB ls := by unfold acc joinB; rw [List.take_length]

theorem join_any {S : List Snap} {H : List Chunk} {w : World} (ho : Own S H w) {p : Option Addr} {ls : List (List UInt8)} {c : Nat} (hA : Arr 1 bytesR (keys H) w p ls c) : Calls Try.prog 30 #[.slice p ls.length c] w (Ret fun v w' => Own S H w' ∧ ((joinOk ls ∧ ∃ p c, v = .tuple #[.slice p (joinB ls).length c, .bool true] ∧ Bytes (keys H) w' p (joinB ls) c) ∨ (¬ joinOk ls ∧ v = .tuple #[.slice none 0 0, .bool false]))) := by
  refine enter (G := Own (⟨w, keys H⟩ :: S) H) ho.keep Try.func30 rfl Try.ntmps30 rfl ?_
  refine VC.seq ?_
  refine VC.region ?_
  refine VL.assign rfl ?_
  refine VL.assign rfl ?_
  refine VL.nil ?_
  refine VX.next ?_
  refine VC.seq ?_
  refine VC.seq ?_
  refine VC.region ?_
  refine VL.move rfl ?_
  refine VL.len Try.underlying31 rfl rfl ?_
  refine VL.gtr rfl rfl ?_
  refine VL.case (fun h1_2 => ?_) (fun h1_2 => ?_)
  · refine VL.nil ?_
    refine VX.next ?_
    refine VC.yes rfl ?_
    refine VC.seq ?_
    refine VC.region ?_
    refine VL.assign rfl ?_
    refine VL.assign rfl ?_
    refine VL.nil ?_
    refine VX.next ?_
    refine VC.ret ?_
    refine VX.then_ret ?_
    refine VX.ret2 rfl rfl rfl (fun w hw => ?_)
    refine ⟨hw.lose, .inr ⟨fun h => absurd h.1 (by omega), rfl⟩⟩
  · refine VL.nil ?_
    refine VX.next ?_
    refine VC.no rfl ?_
    refine VC.skip ?_
    refine VX.next ?_
    refine VC.seq ?_
    refine VC.region ?_
    refine VL.move rfl ?_
    refine VL.len Try.underlying31 rfl rfl ?_
    refine VL.conv (by rw [Try.underlying3]; rfl) Try.underlying5 rfl (by simp only [InR]; omega) ?_
    refine VL.lit el24 rfl rfl rfl (by simp [Value.cells]) (by intro u hu; simp [Value.cells] at hu; subst hu; rfl) (fun g => ?_)
    refine VL.assign rfl ?_
    refine VL.nil ?_
    refine VX.next ?_
    refine VC.seq ?_
    refine VC.seq ?_
    refine VC.region ?_
    refine VL.move rfl ?_
    refine VL.len Try.underlying31 rfl rfl ?_
    refine VL.move rfl ?_
    refine VL.nil ?_
    refine VX.next ?_
    refine VC.block ?_
    refine VC.loop (X := Nat × Option Nat × Nat) (fun (i, g, c') => [(0, .slice p ls.length c), (14, .slice p ls.length c), (15, .int .i64 ls.length), (16, .int .i64 i), (4, rowV g (acc ls i).length c')]) (fun (i, g, c') w' => (i ≤ ls.length ∧ ∀ j (hj : j < ls.length), j < i → ls[j].length ≤ 4096) ∧ Own (⟨w, keys H⟩ :: S) (row 5 1 g (acc ls i).length c' ((acc ls i).map bv) :: H) w') (fun (i, _, _) => ls.length - i) (0, some g, 1) ⟨rfl, rfl, rfl, rfl, rfl, trivial⟩ (fun w' h => ⟨⟨Nat.zero_le _, fun j _ hj => absurd hj (Nat.not_lt_zero _)⟩, ?_⟩) (fun (i, g, c') => VC.fact fun hi => ?_)
    · have e : acc ls 0 = [UInt8.ofNat ls.length] := by simp [acc, body]
      rw [e]
      simpa [← byte_val (show ls.length < 256 by omega), Value.cells] using h
    · obtain ⟨hi, hsz⟩ := hi
      have hle := acc_le ls i hsz
      refine VC.seq ?_
      refine VC.region ?_
      refine VL.lss rfl rfl ?_
      refine VL.case (fun h5_0 => ?_) (fun h5_0 => ?_)
      · refine VL.nil ?_
        refine VX.next ?_
        refine VC.seq ?_
        refine VC.yes rfl ?_
        refine VC.skip ?_
        refine VX.next ?_
        refine VC.seq ?_
        refine VC.block ?_
        refine VC.seq ?_
        refine VC.region ?_
        have hlt : i < ls.length := by omega
        refine VL.index rfl rfl Try.underlying31 sz31 hA (by omega) (by omega) ?_
        refine VL.elem (s := ⟨w, keys H⟩) i 0 rfl kd24 (fun _ h => h) (List.mem_cons_self ..) (Mono.slice Mono.byte) hA (y := ls[i]) (by simp [hlt]) (by omega) (by omega) (fun vs v hl hr hv => ?_)
        obtain ⟨p3, c3, rfl, hA3⟩ := hr
        simp at hv
        subst hv
        refine VL.assign rfl ?_
        refine VL.nil ?_
        refine VX.next ?_
        refine VC.seq ?_
        refine VC.seq ?_
        refine VC.region ?_
        refine VL.move rfl ?_
        refine VL.len Try.underlying24 rfl rfl ?_
        refine VL.gtr rfl rfl ?_
        refine VL.case (fun h7_2 => ?_) (fun h7_2 => ?_)
        · refine VL.nil ?_
          refine VX.next ?_
          refine VC.yes rfl ?_
          refine VC.seq ?_
          refine VC.region ?_
          refine VL.assign rfl ?_
          refine VL.assign rfl ?_
          refine VL.nil ?_
          refine VX.next ?_
          refine VC.ret ?_
          refine VX.then_ret ?_
          refine VX.block_ret ?_
          refine VX.then_ret ?_
          refine VX.then_ret ?_
          refine VX.block_ret ?_
          refine VX.then_ret ?_
          refine VX.ret2 rfl rfl rfl (fun w hw => ?_)
          refine ⟨hw.drop.lose, .inr ⟨fun h => absurd (h.2 ls[i] (List.getElem_mem hlt)) (by omega), rfl⟩⟩
        · refine VL.nil ?_
          refine VX.next ?_
          refine VC.no rfl ?_
          refine VC.skip ?_
          refine VX.next ?_
          refine VC.seq ?_
          refine VC.region ?_
          refine VL.move rfl ?_
          refine VL.move rfl ?_
          refine VL.len Try.underlying24 rfl rfl ?_
          refine VL.shr rfl rfl (by omega) (by simp only [IntKind.bits]; omega) ?_
          have e8 : (ls[i].length : Int) / 2 ^ (8 : Int).toNat = ((ls[i].length / 256 : Nat) : Int) := by
            have : (2 : Int) ^ (8 : Int).toNat = 256 := by decide
            rw [this]; rfl
          rw [e8]
          refine VL.convw (by rw [Try.underlying3]; rfl) Try.underlying5 rfl ?_
          rw [byte_wrap]
          refine VL.move rfl ?_
          refine VL.len Try.underlying24 rfl rfl ?_
          refine VL.convw (by rw [Try.underlying3]; rfl) Try.underlying5 rfl ?_
          rw [byte_wrap]
          refine VL.lit el24 rfl rfl rfl (by simp [Value.cells]) (by intro u hu; simp [Value.cells] at hu; rcases hu with rfl | rfl <;> rfl) (fun gl => ?_)
          refine VL.append 1 el24 rfl rfl rfl rfl (fun _ h => h.rowCells 0 rfl) (by simp [Value.cells]) (by intro u hu; simp [Value.cells] at hu; rcases hu with rfl | rfl <;> rfl) (by omega) (by omega) (fun g1 c1 => ?_)
          refine VL.turn (G' := Own (⟨w, keys H⟩ :: S) (row 5 1 g1 ((acc ls i).length + 2) c1 ((acc ls i).map bv ++ (be 2 ls[i].length).map bv) :: H)) (fun w' h => ?_) ?_
          · have := h.drop
            simpa [be_two, bv, Value.cells] using this
          refine VL.assign rfl ?_
          refine VL.nil ?_
          refine VX.next ?_
          refine VC.region ?_
          refine VL.move rfl ?_
          refine VL.move rfl ?_
          refine VL.append 0 el24 rfl rfl rfl rfl (fun _ h => (hA3.now (s := ⟨w, keys H⟩) Mono.byte h.drop (List.mem_cons_self ..)).bytes) (by simp) (ok1_bytes _) (by omega) (by omega) (fun g2 c2 => ?_)
          refine VL.assign rfl ?_
          refine VL.nil ?_
          refine VX.block_normal ?_
          refine VX.next ?_
          refine VC.region ?_
          refine VL.add rfl rfl (by simp only [InR]; omega) ?_
          refine VL.move rfl ?_
          refine VL.nil ?_
          refine VX.round (i + 1, g2, c2) ⟨rfl, rfl, rfl, rfl, ?_, trivial⟩ (fun w' h => ⟨⟨by omega, ?_⟩, ?_⟩) (by show ls.length - (i + 1) < ls.length - i; omega)
          · show some _ = some _
            rw [acc_succ ls i hlt]
            simp only [List.length_append, be_length]
            rw [Nat.add_assoc]
          · intro j hj hji
            by_cases e : j = i
            · subst e; omega
            · exact hsz j hj (by omega)
          · have e : (acc ls (i + 1)).map bv = (acc ls i).map bv ++ (be 2 ls[i].length).map bv ++ ls[i].map bv := by
              rw [acc_succ ls i hlt, List.map_append, List.map_append, List.append_assoc]
            have e2 : (acc ls (i + 1)).length = (acc ls i).length + 2 + ls[i].length := by
              rw [acc_succ ls i hlt]
              simp only [List.length_append, be_length]
              omega
            rw [e, e2]
            exact h
      · refine VL.nil ?_
        refine VX.next ?_
        refine VC.seq ?_
        refine VC.no rfl ?_
        refine VC.exit ?_
        refine VX.then_exit ?_
        refine VX.then_exit ?_
        refine VX.block_here ?_
        refine VX.next ?_
        refine VC.seq ?_
        refine VC.region ?_
        refine VL.move rfl ?_
        refine VL.assign rfl ?_
        refine VL.assign rfl ?_
        refine VL.nil ?_
        refine VX.next ?_
        refine VC.ret ?_
        refine VX.ret2 rfl rfl rfl (fun w hw => ?_)
        have hil : i = ls.length := by omega
        have hok : joinOk ls := ⟨by omega, fun q hq => by
          obtain ⟨j, hj, rfl⟩ := List.getElem_of_mem hq
          exact hsz j hj (by omega)⟩
        rw [hil, acc_done] at hw
        have hb := hw.letBytes (l := joinB ls) rfl rfl
        refine ⟨hw.drop.lose, .inl ⟨hok, _, _, ?_, hb⟩⟩
        rw [hil, acc_done]; rfl

theorem refJoin_any {S : List Snap} {H : List Chunk} {w : World} (ho : Own S H w) {p : Option Addr} {ls : List (List UInt8)} {c : Nat} (hA : Arr 1 bytesR (keys H) w p ls c) : Calls Try.prog 31 #[.slice p ls.length c] w (Ret fun v w' => Own S H w' ∧ ((joinOk ls ∧ ∃ p c, v = .tuple #[.slice p (joinB ls).length c, .bool true] ∧ Bytes (keys H) w' p (joinB ls) c) ∨ (¬ joinOk ls ∧ v = .tuple #[.slice none 0 0, .bool false]))) := by
  refine enter (G := Own (⟨w, keys H⟩ :: S) H) ho.keep Try.func31 rfl Try.ntmps31 rfl ?_
  refine VC.seq ?_
  refine VC.region ?_
  refine VL.assign rfl ?_
  refine VL.assign rfl ?_
  refine VL.nil ?_
  refine VX.next ?_
  refine VC.seq ?_
  refine VC.seq ?_
  refine VC.region ?_
  refine VL.move rfl ?_
  refine VL.len Try.underlying31 rfl rfl ?_
  refine VL.gtr rfl rfl ?_
  refine VL.case (fun h1_2 => ?_) (fun h1_2 => ?_)
  · refine VL.nil ?_
    refine VX.next ?_
    refine VC.yes rfl ?_
    refine VC.seq ?_
    refine VC.region ?_
    refine VL.assign rfl ?_
    refine VL.assign rfl ?_
    refine VL.nil ?_
    refine VX.next ?_
    refine VC.ret ?_
    refine VX.then_ret ?_
    refine VX.ret2 rfl rfl rfl (fun w hw => ?_)
    refine ⟨hw.lose, .inr ⟨fun h => absurd h.1 (by omega), rfl⟩⟩
  · refine VL.nil ?_
    refine VX.next ?_
    refine VC.no rfl ?_
    refine VC.skip ?_
    refine VX.next ?_
    refine VC.seq ?_
    refine VC.region ?_
    refine VL.move rfl ?_
    refine VL.len Try.underlying31 rfl rfl ?_
    refine VL.conv (by rw [Try.underlying3]; rfl) Try.underlying5 rfl (by simp only [InR]; omega) ?_
    refine VL.lit el24 rfl rfl rfl (by simp [Value.cells]) (by intro u hu; simp [Value.cells] at hu; subst hu; rfl) (fun g => ?_)
    refine VL.assign rfl ?_
    refine VL.nil ?_
    refine VX.next ?_
    refine VC.seq ?_
    refine VC.seq ?_
    refine VC.region ?_
    refine VL.assign rfl ?_
    refine VL.nil ?_
    refine VX.next ?_
    refine VC.block ?_
    refine VC.loop (X := Nat × Option Nat × Nat) (fun (i, g, c') => [(0, .slice p ls.length c), (5, .int .i64 i), (4, rowV g (acc ls i).length c')]) (fun (i, g, c') w' => (i ≤ ls.length ∧ ∀ j (hj : j < ls.length), j < i → ls[j].length ≤ 4096) ∧ Own (⟨w, keys H⟩ :: S) (row 5 1 g (acc ls i).length c' ((acc ls i).map bv) :: H) w') (fun (i, _, _) => ls.length - i) (0, some g, 1) ⟨rfl, rfl, rfl, trivial⟩ (fun w' h => ⟨⟨Nat.zero_le _, fun j _ hj => absurd hj (Nat.not_lt_zero _)⟩, ?_⟩) (fun (i, g, c') => VC.fact fun hi => ?_)
    · have e : acc ls 0 = [UInt8.ofNat ls.length] := by simp [acc, body]
      rw [e]
      simpa [← byte_val (show ls.length < 256 by omega), Value.cells] using h
    · obtain ⟨hi, hsz⟩ := hi
      have hle := acc_le ls i hsz
      refine VC.seq ?_
      refine VC.seq ?_
      refine VC.region ?_
      refine VL.move rfl ?_
      refine VL.move rfl ?_
      refine VL.len Try.underlying31 rfl rfl ?_
      refine VL.lss rfl rfl ?_
      refine VL.case (fun h5_3 => ?_) (fun h5_3 => ?_)
      · refine VL.nil ?_
        refine VX.next ?_
        refine VC.yes rfl ?_
        refine VC.skip ?_
        refine VX.next ?_
        refine VC.seq ?_
        refine VC.block ?_
        refine VC.seq ?_
        refine VC.seq ?_
        refine VC.region ?_
        refine VL.move rfl ?_
        refine VL.move rfl ?_
        have hlt : i < ls.length := by omega
        refine VL.index rfl rfl Try.underlying31 sz31 hA (by omega) (by omega) ?_
        refine VL.elem (s := ⟨w, keys H⟩) i 0 rfl kd24 (fun _ h => h) (List.mem_cons_self ..) (Mono.slice Mono.byte) hA (y := ls[i]) (by simp [hlt]) (by omega) (by omega) (fun vs v hl hr hv => ?_)
        obtain ⟨p3, c3, rfl, hA3⟩ := hr
        simp at hv
        subst hv
        refine VL.len Try.underlying24 rfl rfl ?_
        refine VL.gtr rfl rfl ?_
        refine VL.case (fun h7_5 => ?_) (fun h7_5 => ?_)
        · refine VL.nil ?_
          refine VX.next ?_
          refine VC.yes rfl ?_
          refine VC.seq ?_
          refine VC.region ?_
          refine VL.assign rfl ?_
          refine VL.assign rfl ?_
          refine VL.nil ?_
          refine VX.next ?_
          refine VC.ret ?_
          refine VX.then_ret ?_
          refine VX.block_ret ?_
          refine VX.then_ret ?_
          refine VX.then_ret ?_
          refine VX.block_ret ?_
          refine VX.then_ret ?_
          refine VX.ret2 rfl rfl rfl (fun w hw => ?_)
          refine ⟨hw.drop.lose, .inr ⟨fun h => absurd (h.2 ls[i] (List.getElem_mem hlt)) (by omega), rfl⟩⟩
        · refine VL.nil ?_
          refine VX.next ?_
          refine VC.no rfl ?_
          refine VC.skip ?_
          refine VX.next ?_
          refine VC.seq ?_
          refine VC.region ?_
          refine VL.move rfl ?_
          refine VL.move rfl ?_
          refine VL.move rfl ?_
          refine VL.index rfl rfl Try.underlying31 sz31 hA (by omega) (by omega) ?_
          refine VL.elem (s := ⟨w, keys H⟩) i 0 rfl kd24 (fun _ h => h) (List.mem_cons_self ..) (Mono.slice Mono.byte) hA (y := ls[i]) (by simp [hlt]) (by omega) (by omega) (fun vs v hl hr hv => ?_)
          obtain ⟨p4, c4, rfl, hA4⟩ := hr
          simp at hv
          subst hv
          refine VL.len Try.underlying24 rfl rfl ?_
          refine VL.call Try.func108 rfl (by decide) rfl (fun w' hw => num_any hw ls[i].length 2 (by omega) (by omega) (by omega) (fits_two (by omega))) (fun v => ?_)
          refine VL.at (fun w1 h1w => ?_)
          obtain ⟨hO, pn, cn, rfl, hN⟩ := h1w
          refine VL.toOwn hO ?_
          refine VL.append 0 el24 rfl rfl rfl rfl (fun _ h => (hN.now (s := ⟨w1, _⟩) Mono.byte h (List.mem_cons_self ..)).bytes) (by simp [be_length]) (ok1_bytes _) (by omega) (by omega) (fun g1 c1 => ?_)
          refine VL.assign rfl ?_
          refine VL.nil ?_
          refine VX.next ?_
          refine VC.region ?_
          refine VL.move rfl ?_
          refine VL.move rfl ?_
          refine VL.move rfl ?_
          refine VL.index rfl rfl Try.underlying31 sz31 hA (by omega) (by omega) ?_
          refine VL.elem (s := ⟨w, keys H⟩) i 0 rfl kd24 (fun _ h => h) (List.mem_cons_of_mem _ (List.mem_cons_self ..)) (Mono.slice Mono.byte) hA (y := ls[i]) (by simp [hlt]) (by omega) (by omega) (fun vs v hl hr hv => ?_)
          obtain ⟨p5, c5, rfl, hA5⟩ := hr
          simp at hv
          subst hv
          refine VL.append 0 el24 rfl rfl rfl rfl (fun _ h => (hA5.now (s := ⟨w, keys H⟩) Mono.byte h.drop (List.mem_cons_of_mem _ (List.mem_cons_self ..))).bytes) (by simp) (ok1_bytes _) (by omega) (by omega) (fun g2 c2 => ?_)
          refine VL.assign rfl ?_
          refine VL.nil ?_
          refine VX.block_normal ?_
          refine VX.next ?_
          refine VC.region ?_
          refine VL.move rfl ?_
          refine VL.add rfl rfl (by simp only [InR]; omega) ?_
          refine VL.assign rfl ?_
          refine VL.nil ?_
          refine VX.round (i + 1, g2, c2) ⟨rfl, rfl, ?_, trivial⟩ (fun w' h => ⟨⟨by omega, ?_⟩, ?_⟩) (by show ls.length - (i + 1) < ls.length - i; omega)
          · show some _ = some _
            rw [acc_succ ls i hlt]
            simp only [List.length_append, be_length]
            rw [Nat.add_assoc]
          · intro j hj hji
            by_cases e : j = i
            · subst e; omega
            · exact hsz j hj (by omega)
          · have e : (acc ls (i + 1)).map bv = (acc ls i).map bv ++ (be 2 ls[i].length).map bv ++ ls[i].map bv := by
              rw [acc_succ ls i hlt, List.map_append, List.map_append, List.append_assoc]
            have e2 : (acc ls (i + 1)).length = (acc ls i).length + 2 + ls[i].length := by
              rw [acc_succ ls i hlt]
              simp only [List.length_append, be_length]
              omega
            rw [e, e2]
            exact h.lose
      · refine VL.nil ?_
        refine VX.next ?_
        refine VC.no rfl ?_
        refine VC.exit ?_
        refine VX.then_exit ?_
        refine VX.then_exit ?_
        refine VX.block_here ?_
        refine VX.next ?_
        refine VC.seq ?_
        refine VC.region ?_
        refine VL.move rfl ?_
        refine VL.assign rfl ?_
        refine VL.assign rfl ?_
        refine VL.nil ?_
        refine VX.next ?_
        refine VC.ret ?_
        refine VX.ret2 rfl rfl rfl (fun w hw => ?_)
        have hil : i = ls.length := by omega
        have hok : joinOk ls := ⟨by omega, fun q hq => by
          obtain ⟨j, hj, rfl⟩ := List.getElem_of_mem hq
          exact hsz j hj (by omega)⟩
        rw [hil, acc_done] at hw
        have hb := hw.letBytes (l := joinB ls) rfl rfl
        refine ⟨hw.drop.lose, .inl ⟨hok, _, _, ?_, hb⟩⟩
        rw [hil, acc_done]; rfl

theorem all_any {S : List Snap} {H : List Chunk} {w : World} (ho : Own S H w) {p : Option Addr} {ls : List (List UInt8)} {c : Nat} (hA : Arr 1 bytesR (keys H) w p ls c) (hok : joinOk ls) : Calls Try.prog 120 #[.slice p ls.length c] w (Ret fun v w' => Own S H w' ∧ ∃ p c, v = .slice p (joinB ls).length c ∧ Bytes (keys H) w' p (joinB ls) c) := by
  refine enter (G := Own (⟨w, keys H⟩ :: S) H) ho.keep Try.func120 rfl Try.ntmps120 rfl ?_
  refine VC.seq ?_
  refine VC.region ?_
  refine VL.assign rfl ?_
  refine VL.nil ?_
  refine VX.next ?_
  refine VC.seq ?_
  refine VC.region ?_
  refine VL.move rfl ?_
  refine VL.call Try.func31 rfl (by decide) rfl (fun w' hw => refJoin_any hw (hA.now (s := ⟨w, keys H⟩) (Mono.slice Mono.byte) hw (List.mem_cons_self ..))) (fun v => ?_)
  refine VL.at (fun w1 h1w => ?_)
  obtain ⟨hO, ⟨_, pn, cn, rfl, hN⟩ | ⟨hno, _⟩⟩ := h1w
  rotate_left
  · exact absurd hok hno
  refine VL.toOwn hO ?_
  refine VL.move rfl ?_
  refine VL.extract rfl rfl ?_
  refine VL.extract rfl rfl ?_
  refine VL.assign rfl ?_
  refine VL.assign rfl ?_
  refine VL.nil ?_
  refine VX.next ?_
  refine VC.seq ?_
  refine VC.region ?_
  refine VL.move rfl ?_
  refine VL.assign rfl ?_
  refine VL.nil ?_
  refine VX.next ?_
  refine VC.ret ?_
  refine VX.ret1 rfl rfl (fun w hw => ?_)
  refine ⟨hw.lose.lose, pn, cn, rfl, ?_⟩
  exact hN.now (s := ⟨w1, keys H⟩) Mono.byte hw (List.mem_cons_self ..)

def weight (ls : List (List UInt8)) : Nat := (ls.map fun p => 1 + p.length).sum
theorem weight_succ (ls : List (List UInt8)) (i : Nat) (h : i < ls.length) : weight (ls.take (i + 1)) = weight (ls.take i) + (1 + ls[i].length) := by
  unfold weight
  rw [List.take_succ_eq_append_getElem h, List.map_append, List.sum_append]; rfl

theorem great_any {S : List Snap} {H : List Chunk} {w : World} (ho : Own S H w) {p : Option Addr} {ls : List (List UInt8)} {c : Nat} (hA : Arr 1 bytesR (keys H) w p ls c) : Calls Try.prog 29 #[.slice p ls.length c] w (Ret fun v w' => Own S H w' ∧ ∃ b : Bool, v = .bool b ∧ (b = false → weight ls ≤ 400000)) := by
  refine enter (G := Own (⟨w, keys H⟩ :: S) H) ho.keep Try.func29 rfl Try.ntmps29 rfl ?_
  refine VC.seq ?_
  refine VC.region ?_
  refine VL.assign rfl ?_
  refine VL.nil ?_
  refine VX.next ?_
  refine VC.seq ?_
  refine VC.region ?_
  refine VL.assign rfl ?_
  refine VL.nil ?_
  refine VX.next ?_
  refine VC.seq ?_
  refine VC.seq ?_
  refine VC.region ?_
  refine VL.assign rfl ?_
  refine VL.nil ?_
  refine VX.next ?_
  refine VC.block ?_
  have hsm := hA.small
  refine VC.loop (X := Nat × Nat) (fun (i, k) => [(0, .slice p ls.length c), (3, .int .i64 k), (4, .int .i64 i)]) (fun (i, k) w' => (i ≤ ls.length ∧ k ≤ 800001 ∧ (k ≤ 400000 → k = weight (ls.take i))) ∧ Own (⟨w, keys H⟩ :: S) H w') (fun (i, _) => ls.length - i) (0, 0) ⟨rfl, rfl, rfl, trivial⟩ (fun _ h => ⟨⟨Nat.zero_le _, by omega, fun _ => by simp [weight]⟩, h⟩) (fun (i, k) => VC.fact fun hi => ?_)
  · obtain ⟨hi, hk, hkw⟩ := hi
    refine VC.seq ?_
    refine VC.seq ?_
    refine VC.region ?_
    refine VL.move rfl ?_
    refine VL.move rfl ?_
    refine VL.len Try.underlying31 rfl rfl ?_
    refine VL.lss rfl rfl ?_
    refine VL.case (fun h3_3 => ?_) (fun h3_3 => ?_)
    · refine VL.move rfl ?_
      refine VL.go rfl rfl rfl ?_
      refine VL.move rfl ?_
      refine VL.go rfl rfl rfl ?_
      refine VL.leq rfl rfl ?_
      refine VL.case (fun h3_6 => ?_) (fun h3_6 => ?_)
      · refine VL.pick_t rfl rfl ?_
        refine VL.nil ?_
        refine VX.next ?_
        refine VC.yes rfl ?_
        refine VC.skip ?_
        refine VX.next ?_
        refine VC.seq ?_
        refine VC.block ?_
        refine VC.region ?_
        refine VL.move rfl ?_
        refine VL.add rfl rfl (by simp only [InR]; omega) ?_
        refine VL.move rfl ?_
        refine VL.move rfl ?_
        have hlt : i < ls.length := by omega
        refine VL.index rfl rfl Try.underlying31 sz31 hA (by omega) (by omega) ?_
        refine VL.elem (s := ⟨w, keys H⟩) i 0 rfl kd24 (fun _ h => h) (List.mem_cons_self ..) (Mono.slice Mono.byte) hA (y := ls[i]) (by simp [hlt]) (by omega) (by omega) (fun vs v hl hr hv => ?_)
        obtain ⟨p3, c3, rfl, hA3⟩ := hr
        simp at hv
        subst hv
        refine VL.len Try.underlying24 rfl rfl ?_
        refine VL.min2 rfl rfl ?_
        refine VL.add rfl rfl (by simp only [InR]; omega) ?_
        refine VL.assign rfl ?_
        refine VL.nil ?_
        refine VX.block_normal ?_
        refine VX.next ?_
        refine VC.region ?_
        refine VL.move rfl ?_
        refine VL.add rfl rfl (by simp only [InR]; omega) ?_
        refine VL.assign rfl ?_
        refine VL.nil ?_
        obtain ⟨q, hq⟩ : ∃ q : Nat, (k : Int) + 1 + min (ls[i].length : Int) 400000 = q := ⟨k + 1 + min ls[i].length 400000, by omega⟩
        refine VX.round (i + 1, q) ⟨rfl, ?_, rfl, trivial⟩ (fun w' h => ⟨⟨by omega, by omega, fun hq4 => ?_⟩, h⟩) (by show ls.length - (i + 1) < ls.length - i; omega)
        · show some (Value.int .i64 _) = some (Value.int .i64 _)
          rw [hq]
        · have := hkw (by omega)
          rw [weight_succ ls i hlt, ← this]
          omega
      · refine VL.pick_t rfl rfl ?_
        refine VL.nil ?_
        refine VX.next ?_
        refine VC.no rfl ?_
        refine VC.exit ?_
        refine VX.then_exit ?_
        refine VX.then_exit ?_
        refine VX.block_here ?_
        refine VX.next ?_
        refine VC.seq ?_
        refine VC.region ?_
        refine VL.move rfl ?_
        refine VL.gtr rfl rfl ?_
        refine VL.assign rfl ?_
        refine VL.nil ?_
        refine VX.next ?_
        refine VC.ret ?_
        refine VX.ret1 rfl rfl (fun w hw => ?_)
        refine ⟨hw.lose, _, rfl, fun hb => ?_⟩
        simp only [decide_eq_false_iff_not] at hb
        have := hkw (by omega)
        have hil : i = ls.length := by omega
        rw [hil, List.take_length] at this
        omega
    · refine VL.move rfl ?_
      refine VL.pass rfl rfl rfl rfl rfl ?_
      refine VL.pass rfl rfl rfl rfl rfl ?_
      refine VL.pick_f rfl rfl ?_
      refine VL.nil ?_
      refine VX.next ?_
      refine VC.no rfl ?_
      refine VC.exit ?_
      refine VX.then_exit ?_
      refine VX.then_exit ?_
      refine VX.block_here ?_
      refine VX.next ?_
      refine VC.seq ?_
      refine VC.region ?_
      refine VL.move rfl ?_
      refine VL.gtr rfl rfl ?_
      refine VL.assign rfl ?_
      refine VL.nil ?_
      refine VX.next ?_
      refine VC.ret ?_
      refine VX.ret1 rfl rfl (fun w hw => ?_)
      refine ⟨hw.lose, _, rfl, fun hb => ?_⟩
      simp only [decide_eq_false_iff_not] at hb
      have := hkw (by omega)
      have hil : i = ls.length := by omega
      rw [hil, List.take_length] at this
      omega

end Go.Proofs.Ytcfecmoagfgnaaa
