/- The statement FedqLoads is proved, for every input: part 6 of 26 of the texts that it needs. -/
import Derived.Test.YtcfecmoagfgnaaaMfloAE
/- What octet.Join and the reference join, by a walk through each. -/
namespace Go.Proofs.Ytcfecmoagfgnaaa
open Go.Vc Go.Pl

/-- What stands behind i pieces. -/
def acc (ls : List (List UInt8)) (i : Nat) : List UInt8 := UInt8.ofNat ls.length :: body (ls.take i)
theorem acc_succ (ls : List (List UInt8)) (i : Nat) (h : i < ls.length) : acc ls (i + 1) = acc ls i ++ (be 2 ls[i].length ++ ls[i]) := by
 unfold acc
 rw [List.take_succ_eq_append_getElem h, body_snoc]; rfl
theorem acc_le (ls : List (List UInt8)) (i : Nat) (h : ∀ j (hj : j < ls.length), j < i → ls[j].length ≤ 4096) : (acc ls i).length ≤ 1 + 4098 * i := by
 unfold acc
 have := body_le (ls := ls.take i) (fun p hp => by
  obtain ⟨j, hj, rfl⟩ := List.getElem_of_mem hp
  rw [List.getElem_take]
  have h1 : j < i ∧ j < ls.length := by simp at hj; omega
  exact h j h1.2 h1.1)
 have h2 : (ls.take i).length ≤ i := List.length_take_le _ _
 have h3 := Nat.mul_le_mul_left 4098 h2
 simp only [List.length_cons]; omega
theorem acc_done (ls : List (List UInt8)) : acc ls ls.length = joinB ls := by unfold acc joinB; rw [List.take_length]

theorem join_any {S : List Snap} {H : List Chunk} {w : World} (ho : Own S H w) {p : Option Addr} {ls : List (List UInt8)} {c : Nat} (hA : Arr 1 bytesR (keys H) w p ls c) : Calls Try.prog 30 #[.slice p ls.length c] w (Ret fun v w' => Own S H w' ∧ ((joinOk ls ∧ ∃ p c, v = .tuple #[.slice p (joinB ls).length c, .bool true] ∧ Bytes (keys H) w' p (joinB ls) c) ∨ (¬ joinOk ls ∧ v = .tuple #[.slice none 0 0, .bool false]))) := by
 refine enter (G := Own (⟨w, keys H⟩ :: S) H) ho.keep Try.func30 rfl Try.ntmps30 rfl ?_
 refine VC.sr ?_
 refine VL.assign rfl ?_
 refine VL.assign rfl ?_
 refine VL.nn ?_
 refine VC.seq ?_
 refine VC.sr ?_
 refine VL.move rfl ?_
 refine VL.len Try.underlying31 rfl rfl ?_
 refine VL.gtr rfl rfl ?_
 refine VL.case (fun h1_2 => ?_) (fun h1_2 => ?_)
 ·refine VL.nn ?_
  refine VC.yes rfl ?_
  refine VC.sr ?_
  refine VL.assign rfl ?_
  refine VL.assign rfl ?_
  refine VL.nn ?_
  refine VC.ret ?_
  refine VX.then_ret ?_
  refine VX.ret2 rfl rfl rfl (fun w hw => ?_)
  refine ⟨hw.lose, .inr ⟨fun h => absurd h.1 (by omega), rfl⟩⟩
 ·refine VL.nn ?_
  refine VC.no rfl ?_
  refine VC.skip ?_
  refine VX.next ?_
  refine VC.sr ?_
  refine VL.move rfl ?_
  refine VL.len Try.underlying31 rfl rfl ?_
  refine VL.conv (by rw [Try.underlying3]; rfl) Try.underlying5 rfl (by simp only [InR]; omega) ?_
  refine VL.lit el24 rfl rfl rfl (by simp [Value.cells]) (by intro u hu; simp [Value.cells] at hu; subst hu; rfl) (fun g => ?_)
  refine VL.assign rfl ?_
  refine VL.nn ?_
  refine VC.seq ?_
  refine VC.sr ?_
  refine VL.move rfl ?_
  refine VL.len Try.underlying31 rfl rfl ?_
  refine VL.move rfl ?_
  refine VL.nn ?_
  refine VC.block ?_
  refine VC.loop (X := Nat × Option Nat × Nat) (fun (i, g, c') => [(0, .slice p ls.length c), (14, .slice p ls.length c), (15, .int .i64 ls.length), (16, .int .i64 i), (4, rowV g (acc ls i).length c')]) (fun (i, g, c') w' => (i ≤ ls.length ∧ ∀ j (hj : j < ls.length), j < i → ls[j].length ≤ 4096) ∧ Own (⟨w, keys H⟩ :: S) (row 5 1 g (acc ls i).length c' ((acc ls i).map bv) :: H) w') (fun (i, _, _) => ls.length - i) (0, some g, 1) ⟨rfl, rfl, rfl, rfl, rfl, trivial⟩ (fun w' h => ⟨⟨Nat.zero_le _, fun j _ hj => absurd hj (Nat.not_lt_zero _)⟩, ?_⟩) (fun (i, g, c') => VC.fact fun hi => ?_)
  ·have e : acc ls 0 = [UInt8.ofNat ls.length] := by simp [acc, body]
   rw [e]
   simpa [← byte_val (show ls.length < 256 by omega), Value.cells] using h
  ·obtain ⟨hi, hsz⟩ := hi
   have hle := acc_le ls i hsz
   refine VC.sr ?_
   refine VL.lss rfl rfl ?_
   refine VL.case (fun h5_0 => ?_) (fun h5_0 => ?_)
   ·refine VL.nn ?_
    refine VC.seq ?_
    refine VC.yes rfl ?_
    refine VC.skip ?_
    refine VX.next ?_
    refine VC.seq ?_
    refine VC.block ?_
    refine VC.sr ?_
    have hlt : i < ls.length := by omega
    refine VL.index rfl rfl Try.underlying31 sz31 hA (by omega) (by omega) ?_
    refine VL.elem (s := ⟨w, keys H⟩) i 0 rfl kd24 (fun _ h => h) (List.mem_cons_self ..) (Mono.slice Mono.byte) hA (y := ls[i]) (by simp [hlt]) (by omega) (by omega) (fun vs v hl hr hv => ?_)
    obtain ⟨p3, c3, rfl, hA3⟩ := hr
    simp at hv
    subst hv
    refine VL.assign rfl ?_
    refine VL.nn ?_
    refine VC.seq ?_
    refine VC.sr ?_
    refine VL.move rfl ?_
    refine VL.len Try.underlying24 rfl rfl ?_
    refine VL.gtr rfl rfl ?_
    refine VL.case (fun h7_2 => ?_) (fun h7_2 => ?_)
    ·refine VL.nn ?_
     refine VC.yes rfl ?_
     refine VC.sr ?_
     refine VL.assign rfl ?_
     refine VL.assign rfl ?_
     refine VL.nn ?_
     refine VC.ret ?_
     refine VX.then_ret ?_
     refine VX.block_ret ?_
     refine VX.then_ret ?_
     refine VX.then_ret ?_
     refine VX.block_ret ?_
     refine VX.then_ret ?_
     refine VX.ret2 rfl rfl rfl (fun w hw => ?_)
     refine ⟨hw.drop.lose, .inr ⟨fun h => absurd (h.2 ls[i] (List.getElem_mem hlt)) (by omega), rfl⟩⟩
    ·refine VL.nn ?_
     refine VC.no rfl ?_
     refine VC.skip ?_
     refine VX.next ?_
     refine VC.sr ?_
     refine VL.move rfl ?_
     refine VL.move rfl ?_
     refine VL.len Try.underlying24 rfl rfl ?_
     refine VL.shr rfl rfl (by omega) (by simp only [IntKind.bits]; omega) ?_
     have e8 : (ls[i].length : Int) / 2 ^ (8 : Int).toNat = ((ls[i].length / 256 : Nat) : Int) := by
      have : (2 : Int) ^ (8 : Int).toNat = 256 := by decide
      rw [this]; rfl
     rw [e8]
     refine VL.convw (by rw [Try.underlying3]; rfl) Try.underlying5 rfl ?_
     rw [byte_wrap]
     refine VL.move rfl ?_
     refine VL.len Try.underlying24 rfl rfl ?_
     refine VL.convw (by rw [Try.underlying3]; rfl) Try.underlying5 rfl ?_
     rw [byte_wrap]
     refine VL.lit el24 rfl rfl rfl (by simp [Value.cells]) (by intro u hu; simp [Value.cells] at hu; rcases hu with rfl | rfl <;> rfl) (fun gl => ?_)
     refine VL.append 1 el24 rfl rfl rfl rfl (fun _ h => h.rowCells 0 rfl) (by simp [Value.cells]) (by intro u hu; simp [Value.cells] at hu; rcases hu with rfl | rfl <;> rfl) (by omega) (by omega) (fun g1 c1 => ?_)
     refine VL.turn (G' := Own (⟨w, keys H⟩ :: S) (row 5 1 g1 ((acc ls i).length + 2) c1 ((acc ls i).map bv ++ (be 2 ls[i].length).map bv) :: H)) (fun w' h => ?_) ?_
     ·have := h.drop
      simpa [be_two, bv, Value.cells] using this
     refine VL.assign rfl ?_
     refine VL.nn ?_
     refine VC.region ?_
     refine VL.move rfl ?_
     refine VL.move rfl ?_
     refine VL.append 0 el24 rfl rfl rfl rfl (fun _ h => (hA3.now (s := ⟨w, keys H⟩) Mono.byte h.drop (List.mem_cons_self ..)).bytes) (by simp) (ok1_bytes _) (by omega) (by omega) (fun g2 c2 => ?_)
     refine VL.assign rfl ?_
     refine VL.nil ?_
     refine VX.block_normal ?_
     refine VX.next ?_
     refine VC.region ?_
     refine VL.add rfl rfl (by simp only [InR]; omega) ?_
     refine VL.move rfl ?_
     refine VL.nil ?_
     refine VX.round (i + 1, g2, c2) ⟨rfl, rfl, rfl, rfl, ?_, trivial⟩ (fun w' h => ⟨⟨by omega, ?_⟩, ?_⟩) (by show ls.length - (i + 1) < ls.length - i; omega)
     ·show some _ = some _
      rw [acc_succ ls i hlt]
      simp only [List.length_append, be_length]
      rw [Nat.add_assoc]
     ·intro j hj hji
      by_cases e : j = i
      ·subst e; omega
      ·exact hsz j hj (by omega)
     ·have e : (acc ls (i + 1)).map bv = (acc ls i).map bv ++ (be 2 ls[i].length).map bv ++ ls[i].map bv := by
       rw [acc_succ ls i hlt, List.map_append, List.map_append, List.append_assoc]
      have e2 : (acc ls (i + 1)).length = (acc ls i).length + 2 + ls[i].length := by
       rw [acc_succ ls i hlt]
       simp only [List.length_append, be_length]
       omega
      rw [e, e2]
      exact h
   ·refine VL.nn ?_
    refine VC.seq ?_
    refine VC.no rfl ?_
    refine VC.exit ?_
    refine VX.then_exit ?_
    refine VX.then_exit ?_
    refine VX.block_here ?_
    refine VX.next ?_
    refine VC.sr ?_
    refine VL.move rfl ?_
    refine VL.assign rfl ?_
    refine VL.assign rfl ?_
    refine VL.nn ?_
    refine VC.ret ?_
    refine VX.ret2 rfl rfl rfl (fun w hw => ?_)
    have hil : i = ls.length := by omega
    have hok : joinOk ls := ⟨by omega, fun q hq => by
     obtain ⟨j, hj, rfl⟩ := List.getElem_of_mem hq
     exact hsz j hj (by omega)⟩
    rw [hil, acc_done] at hw
    have hb := hw.letBytes (l := joinB ls) rfl rfl
    refine ⟨hw.drop.lose, .inl ⟨hok, _, _, ?_, hb⟩⟩
    rw [hil, acc_done]; rfl

theorem refJoin_any {S : List Snap} {H : List Chunk} {w : World} (ho : Own S H w) {p : Option Addr} {ls : List (List UInt8)} {c : Nat} (hA : Arr 1 bytesR (keys H) w p ls c) : Calls Try.prog 31 #[.slice p ls.length c] w (Ret fun v w' => Own S H w' ∧ ((joinOk ls ∧ ∃ p c, v = .tuple #[.slice p (joinB ls).length c, .bool true] ∧ Bytes (keys H) w' p (joinB ls) c) ∨ (¬ joinOk ls ∧ v = .tuple #[.slice none 0 0, .bool false]))) := by
 refine enter (G := Own (⟨w, keys H⟩ :: S) H) ho.keep Try.func31 rfl Try.ntmps31 rfl ?_
 refine VC.sr ?_
 refine VL.assign rfl ?_
 refine VL.assign rfl ?_
 refine VL.nn ?_
 refine VC.seq ?_
 refine VC.sr ?_
 refine VL.move rfl ?_
 refine VL.len Try.underlying31 rfl rfl ?_
 refine VL.gtr rfl rfl ?_
 refine VL.case (fun h1_2 => ?_) (fun h1_2 => ?_)
 ·refine VL.nn ?_
  refine VC.yes rfl ?_
  refine VC.sr ?_
  refine VL.assign rfl ?_
  refine VL.assign rfl ?_
  refine VL.nn ?_
  refine VC.ret ?_
  refine VX.then_ret ?_
  refine VX.ret2 rfl rfl rfl (fun w hw => ?_)
  refine ⟨hw.lose, .inr ⟨fun h => absurd h.1 (by omega), rfl⟩⟩
 ·refine VL.nn ?_
  refine VC.no rfl ?_
  refine VC.skip ?_
  refine VX.next ?_
  refine VC.sr ?_
  refine VL.move rfl ?_
  refine VL.len Try.underlying31 rfl rfl ?_
  refine VL.conv (by rw [Try.underlying3]; rfl) Try.underlying5 rfl (by simp only [InR]; omega) ?_
  refine VL.lit el24 rfl rfl rfl (by simp [Value.cells]) (by intro u hu; simp [Value.cells] at hu; subst hu; rfl) (fun g => ?_)
  refine VL.assign rfl ?_
  refine VL.nn ?_
  refine VC.seq ?_
  refine VC.sr ?_
  refine VL.assign rfl ?_
  refine VL.nn ?_
  refine VC.block ?_
  refine VC.loop (X := Nat × Option Nat × Nat) (fun (i, g, c') => [(0, .slice p ls.length c), (5, .int .i64 i), (4, rowV g (acc ls i).length c')]) (fun (i, g, c') w' => (i ≤ ls.length ∧ ∀ j (hj : j < ls.length), j < i → ls[j].length ≤ 4096) ∧ Own (⟨w, keys H⟩ :: S) (row 5 1 g (acc ls i).length c' ((acc ls i).map bv) :: H) w') (fun (i, _, _) => ls.length - i) (0, some g, 1) ⟨rfl, rfl, rfl, trivial⟩ (fun w' h => ⟨⟨Nat.zero_le _, fun j _ hj => absurd hj (Nat.not_lt_zero _)⟩, ?_⟩) (fun (i, g, c') => VC.fact fun hi => ?_)
  ·have e : acc ls 0 = [UInt8.ofNat ls.length] := by simp [acc, body]
   rw [e]
   simpa [← byte_val (show ls.length < 256 by omega), Value.cells] using h
  ·obtain ⟨hi, hsz⟩ := hi
   have hle := acc_le ls i hsz
   refine VC.seq ?_
   refine VC.sr ?_
   refine VL.move rfl ?_
   refine VL.move rfl ?_
   refine VL.len Try.underlying31 rfl rfl ?_
   refine VL.lss rfl rfl ?_
   refine VL.case (fun h5_3 => ?_) (fun h5_3 => ?_)
   ·refine VL.nn ?_
    refine VC.yes rfl ?_
    refine VC.skip ?_
    refine VX.next ?_
    refine VC.seq ?_
    refine VC.block ?_
    refine VC.seq ?_
    refine VC.sr ?_
    refine VL.move rfl ?_
    refine VL.move rfl ?_
    have hlt : i < ls.length := by omega
    refine VL.index rfl rfl Try.underlying31 sz31 hA (by omega) (by omega) ?_
    refine VL.elem (s := ⟨w, keys H⟩) i 0 rfl kd24 (fun _ h => h) (List.mem_cons_self ..) (Mono.slice Mono.byte) hA (y := ls[i]) (by simp [hlt]) (by omega) (by omega) (fun vs v hl hr hv => ?_)
    obtain ⟨p3, c3, rfl, hA3⟩ := hr
    simp at hv
    subst hv
    refine VL.len Try.underlying24 rfl rfl ?_
    refine VL.gtr rfl rfl ?_
    refine VL.case (fun h7_5 => ?_) (fun h7_5 => ?_)
    ·refine VL.nn ?_
     refine VC.yes rfl ?_
     refine VC.sr ?_
     refine VL.assign rfl ?_
     refine VL.assign rfl ?_
     refine VL.nn ?_
     refine VC.ret ?_
     refine VX.then_ret ?_
     refine VX.block_ret ?_
     refine VX.then_ret ?_
     refine VX.then_ret ?_
     refine VX.block_ret ?_
     refine VX.then_ret ?_
     refine VX.ret2 rfl rfl rfl (fun w hw => ?_)
     refine ⟨hw.drop.lose, .inr ⟨fun h => absurd (h.2 ls[i] (List.getElem_mem hlt)) (by omega), rfl⟩⟩
    ·refine VL.nn ?_
     refine VC.no rfl ?_
     refine VC.skip ?_
     refine VX.next ?_
     refine VC.sr ?_
     refine VL.move rfl ?_
     refine VL.move rfl ?_
     refine VL.move rfl ?_
     refine VL.index rfl rfl Try.underlying31 sz31 hA (by omega) (by omega) ?_
     refine VL.elem (s := ⟨w, keys H⟩) i 0 rfl kd24 (fun _ h => h) (List.mem_cons_self ..) (Mono.slice Mono.byte) hA (y := ls[i]) (by simp [hlt]) (by omega) (by omega) (fun vs v hl hr hv => ?_)
     obtain ⟨p4, c4, rfl, hA4⟩ := hr
     simp at hv
     subst hv
     refine VL.len Try.underlying24 rfl rfl ?_
     refine VL.call Try.func108 rfl (by decide) rfl (fun w' hw => num_any hw ls[i].length 2 (by omega) (by omega) (by omega) (fits_two (by omega))) (fun v => ?_)
     refine VL.at (fun w1 h1w => ?_)
     obtain ⟨hO, pn, cn, rfl, hN⟩ := h1w
     refine VL.toOwn hO ?_
     refine VL.append 0 el24 rfl rfl rfl rfl (fun _ h => (hN.now (s := ⟨w1, _⟩) Mono.byte h (List.mem_cons_self ..)).bytes) (by simp [be_length]) (ok1_bytes _) (by omega) (by omega) (fun g1 c1 => ?_)
     refine VL.assign rfl ?_
     refine VL.nn ?_
     refine VC.region ?_
     refine VL.move rfl ?_
     refine VL.move rfl ?_
     refine VL.move rfl ?_
     refine VL.index rfl rfl Try.underlying31 sz31 hA (by omega) (by omega) ?_
     refine VL.elem (s := ⟨w, keys H⟩) i 0 rfl kd24 (fun _ h => h) (List.mem_cons_of_mem _ (List.mem_cons_self ..)) (Mono.slice Mono.byte) hA (y := ls[i]) (by simp [hlt]) (by omega) (by omega) (fun vs v hl hr hv => ?_)
     obtain ⟨p5, c5, rfl, hA5⟩ := hr
     simp at hv
     subst hv
     refine VL.append 0 el24 rfl rfl rfl rfl (fun _ h => (hA5.now (s := ⟨w, keys H⟩) Mono.byte h.drop (List.mem_cons_of_mem _ (List.mem_cons_self ..))).bytes) (by simp) (ok1_bytes _) (by omega) (by omega) (fun g2 c2 => ?_)
     refine VL.assign rfl ?_
     refine VL.nil ?_
     refine VX.block_normal ?_
     refine VX.next ?_
     refine VC.region ?_
     refine VL.move rfl ?_
     refine VL.add rfl rfl (by simp only [InR]; omega) ?_
     refine VL.assign rfl ?_
     refine VL.nil ?_
     refine VX.round (i + 1, g2, c2) ⟨rfl, rfl, ?_, trivial⟩ (fun w' h => ⟨⟨by omega, ?_⟩, ?_⟩) (by show ls.length - (i + 1) < ls.length - i; omega)
     ·show some _ = some _
      rw [acc_succ ls i hlt]
      simp only [List.length_append, be_length]
      rw [Nat.add_assoc]
     ·intro j hj hji
      by_cases e : j = i
      ·subst e; omega
      ·exact hsz j hj (by omega)
     ·have e : (acc ls (i + 1)).map bv = (acc ls i).map bv ++ (be 2 ls[i].length).map bv ++ ls[i].map bv := by
       rw [acc_succ ls i hlt, List.map_append, List.map_append, List.append_assoc]
      have e2 : (acc ls (i + 1)).length = (acc ls i).length + 2 + ls[i].length := by
       rw [acc_succ ls i hlt]
       simp only [List.length_append, be_length]
       omega
      rw [e, e2]
      exact h.lose
   ·refine VL.nn ?_
    refine VC.no rfl ?_
    refine VC.exit ?_
    refine VX.then_exit ?_
    refine VX.then_exit ?_
    refine VX.block_here ?_
    refine VX.next ?_
    refine VC.sr ?_
    refine VL.move rfl ?_
    refine VL.assign rfl ?_
    refine VL.assign rfl ?_
    refine VL.nn ?_
    refine VC.ret ?_
    refine VX.ret2 rfl rfl rfl (fun w hw => ?_)
    have hil : i = ls.length := by omega
    have hok : joinOk ls := ⟨by omega, fun q hq => by
     obtain ⟨j, hj, rfl⟩ := List.getElem_of_mem hq
     exact hsz j hj (by omega)⟩
    rw [hil, acc_done] at hw
    have hb := hw.letBytes (l := joinB ls) rfl rfl
    refine ⟨hw.drop.lose, .inl ⟨hok, _, _, ?_, hb⟩⟩
    rw [hil, acc_done]; rfl

theorem all_any {S : List Snap} {H : List Chunk} {w : World} (ho : Own S H w) {p : Option Addr} {ls : List (List UInt8)} {c : Nat} (hA : Arr 1 bytesR (keys H) w p ls c) (hok : joinOk ls) : Calls Try.prog 120 #[.slice p ls.length c] w (Ret fun v w' => Own S H w' ∧ ∃ p c, v = .slice p (joinB ls).length c ∧ Bytes (keys H) w' p (joinB ls) c) := by
 refine enter (G := Own (⟨w, keys H⟩ :: S) H) ho.keep Try.func120 rfl Try.ntmps120 rfl ?_
 refine VC.sr ?_
 refine VL.assign rfl ?_
 refine VL.nn ?_
 refine VC.sr ?_
 refine VL.move rfl ?_
 refine VL.call Try.func31 rfl (by decide) rfl (fun w' hw => refJoin_any hw (hA.now (s := ⟨w, keys H⟩) (Mono.slice Mono.byte) hw (List.mem_cons_self ..))) (fun v => ?_)
 refine VL.at (fun w1 h1w => ?_)
 obtain ⟨hO, ⟨_, pn, cn, rfl, hN⟩ | ⟨hno, _⟩⟩ := h1w
 rotate_left
 ·exact absurd hok hno
 refine VL.toOwn hO ?_
 refine VL.move rfl ?_
 refine VL.extract rfl rfl ?_
 refine VL.extract rfl rfl ?_
 refine VL.assign rfl ?_
 refine VL.assign rfl ?_
 refine VL.nn ?_
 refine VC.sr ?_
 refine VL.move rfl ?_
 refine VL.assign rfl ?_
 refine VL.nn ?_
 refine VC.ret ?_
 refine VX.ret1 rfl rfl (fun w hw => ?_)
 refine ⟨hw.lose.lose, pn, cn, rfl, ?_⟩
 exact hN.now (s := ⟨w1, keys H⟩) Mono.byte hw (List.mem_cons_self ..)

end Go.Proofs.Ytcfecmoagfgnaaa

/- What octet.Split and the reference split compute: by a walk through each. -/
namespace Go.Proofs.Ytcfecmoagfgnaaa
open Go.Vc Go.Pl

/-- A row of byte slices that the call makes. -/
abbrev brow (g : Option Nat) (c : Nat) (ls : List (List UInt8)) : Chunk := arow 24 1 bytesR (Mono.slice Mono.byte) g c ls

inductive SpJ where
  | wrong (e : Nat)
  | fin (r : List UInt8) (p : Option Addr) (c : Nat) (acc : List (List UInt8)) (g : Option Nat) (c' : Nat)
  | next (k : Nat) (r : List UInt8) (p : Option Addr) (c : Nat) (acc : List (List UInt8)) (g : Option Nat) (c' : Nat)
def SpJ.lab : SpJ → Nat
  | .wrong _ => 0
  | .fin .. => 1
  | .next .. => 2
def SpJ.st : SpJ → Sl
  | .wrong e => [(7, .int .i64 e)]
  | .fin r p c acc g c' => [(0, .slice p r.length c), (4, rowV g acc.length c')]
  | .next k r p c acc g c' => [(0, .slice p r.length c), (4, rowV g acc.length c'), (5, .int .i64 k), (7, .int .i64 20)]
def SpJ.μ : SpJ → Nat
  | .wrong _ => 0
  | .fin .. => 1
  | .next k .. => k + 2
def SpJ.inv (l : List UInt8) (S : List Snap) (H : List Chunk) (w : World) : SpJ → World → Prop
  | .wrong e, w' => splitB l = (e, []) ∧ Own (⟨w, keys H⟩ :: S) H w'
  | .fin r p c acc g c', w' => (splitB l = cutB 0 r acc ∧ Bytes (keys H) w p r c) ∧ Own (⟨w, keys H⟩ :: S) (brow g c' acc :: H) w'
  | .next k r p c acc g c', w' => (splitB l = cutB k r acc ∧ Bytes (keys H) w p r c ∧ acc.length + k ≤ 64) ∧ Own (⟨w, keys H⟩ :: S) (brow g c' acc :: H) w'

theorem split_any {S : List Snap} {H : List Chunk} {w : World} (ho : Own S H w) {p : Option Addr} {l : List UInt8} {c : Nat} (hA : Bytes (keys H) w p l c) : Calls Try.prog 32 #[.slice p l.length c] w (Ret fun v w' => Own S H w' ∧ ∃ p' c', v = .tuple #[.slice p' (splitB l).2.length c', .int .i64 (splitB l).1] ∧ Arr 1 bytesR (keys H) w' p' (splitB l).2 c') := by
 refine enter (G := Own (⟨w, keys H⟩ :: S) H) ho.keep Try.func32 rfl Try.ntmps32 rfl ?_
 refine VC.sr ?_
 refine VL.assign rfl ?_
 refine VL.assign rfl ?_
 refine VL.nn ?_
 refine VC.labels SpJ.lab SpJ.st (SpJ.inv l S H w) SpJ.μ ?_ ?_
 ·show VC _ _ _ _ _ _
  refine VC.sr ?_
  refine VL.assign rfl ?_
  refine VL.nn ?_
  refine VC.sr ?_
  refine VL.assign rfl ?_
  refine VL.assign rfl ?_
  refine VL.nn ?_
  refine VC.sr ?_
  refine VL.assign rfl ?_
  refine VL.nn ?_
  refine VC.seq ?_
  refine VC.sr ?_
  refine VL.move rfl ?_
  refine VL.len Try.underlying24 rfl rfl ?_
  refine VL.eql rfl rfl ?_
  refine VL.case (fun h4_2 => ?_) (fun h4_2 => ?_)
  ·refine VL.nn ?_
   refine VC.yes rfl ?_
   refine VC.goto ?_
   refine VX.then_goto ?_
   refine VX.jump (SpJ.wrong 20) rfl ⟨rfl, trivial⟩ (fun w' h => ⟨by rw [List.eq_nil_of_length_eq_zero (show l.length = 0 by omega)]; rfl, h⟩) (by first | trivial | (show 0 < _; simp [SpJ.μ]))
  ·refine VL.nn ?_
   refine VC.no rfl ?_
   refine VC.skip ?_
   refine VX.next ?_
   refine VC.seq ?_
   obtain ⟨b0, r0, hl⟩ : ∃ b0 r0, l = b0 :: r0 := by
    cases l with
    | nil => exact absurd rfl h4_2
    | cons b r => exact ⟨b, r, rfl⟩
   have hb0 : l[0]? = some b0 := by rw [hl]; rfl
   have hd1 : l.drop 1 = r0 := by rw [hl]; rfl
   have hll : 0 < l.length := by omega
   have hlt := b0.toNat_lt
   apply VC.anyA 1008 (F := [eqF _, eqF _, eqF _, eqF _, eqF _, arrS ⟨w, keys H⟩ 1 byteR (l.drop 1), eqF _, arrS ⟨w, keys H⟩ 1 byteR (l.drop 1)]) [⟨[], [0]⟩, ⟨[(11, 0)], []⟩, ⟨[(12, 1)], []⟩, ⟨[(13, 2)], []⟩, ⟨[], [0]⟩, ⟨[(15, 4)], []⟩, ⟨[(14, 3)], []⟩, ⟨[(16, 5)], []⟩] [(5, 6), (0, 7)] [2, 3, 4, 6, 7, 8, 9, 10, 17, 18, 19, 20, 21, 22, 23, 24, 25, 26, 27, 28, 29, 30, 31, 32, 33, 34, 35, 36, 37, 38, 39, 40, 41, 42, 43, 44, 45, 46, 47, 48, 49, 50, 51, 52, 53, 54, 55, 56, 57, 58] rfl (by kernel_rfl) (by kernel_rfl) (by kernel_rfl) (by kernel_rfl) rfl ?obs5 ?end5
   case obs5 =>
    refine Obs.cons ?_ ?_
    ·refine obS (by kernel_rfl) rfl rfl (fun ph5 w5 hO5 => ?_)
     refine VL.move rfl ?_
     exact VL.finS hO5 rfl rfl
    refine Obs.cons ?_ ?_
    ·refine obS (by kernel_rfl) rfl rfl (fun ph5 w5 hO5 => ?_)
     rintro _ rfl
     refine VL.index rfl rfl Try.underlying24 sz24 hA (by omega) (by omega) ?_
     exact VL.finS hO5 rfl rfl
    refine Obs.cons ?_ ?_
    ·refine ob (by kernel_rfl) rfl (by kernel_rfl) rfl (fun w5 hO5 => ?_)
     rintro _ rfl
     refine VL.byte (s := ⟨w, keys H⟩) rfl kd5 (fun _ e => e ▸ hO5) (List.mem_cons_self ..) hA (y := b0) hb0 ?_
     exact VL.finS hO5 rfl rfl
    refine Obs.cons ?_ ?_
    ·refine obS (by kernel_rfl) rfl rfl (fun ph5 w5 hO5 => ?_)
     rintro _ rfl
     refine VL.conv (by rw [Try.underlying5]; rfl) Try.underlying3 rfl (by simp only [InR]; omega) ?_
     exact VL.finS hO5 rfl rfl
    refine Obs.cons ?_ ?_
    ·refine obS (by kernel_rfl) rfl rfl (fun ph5 w5 hO5 => ?_)
     refine VL.move rfl ?_
     exact VL.finS hO5 rfl rfl
    refine Obs.cons ?_ ?_
    ·refine obS (by kernel_rfl) rfl rfl (fun ph5 w5 hO5 => ?_)
     rintro _ rfl
     refine VL.dropS 1 rfl rfl Try.underlying24 sz24 hA (by omega) (fun p1 hA1 => ?_)
     exact VL.finS hO5 rfl ⟨_, _, rfl, hA1⟩
    refine Obs.cons ?_ ?_
    ·refine obS (by kernel_rfl) rfl rfl (fun ph5 w5 hO5 => ?_)
     rintro _ rfl
     refine VL.assign rfl ?_
     exact VL.finS hO5 rfl rfl
    refine Obs.cons ?_ ?_
    ·refine obS (by kernel_rfl) rfl rfl (fun ph5 w5 hO5 => ?_)
     rintro _ ⟨p1, c1, rfl, hA1⟩
     refine VL.assign rfl ?_
     exact VL.finS hO5 rfl ⟨_, _, rfl, hA1⟩
    exact Obs.nil
   case end5 =>
    intro w5 hO5
    rintro _ rfl _ ⟨p1, c1, rfl, hA1⟩
    refine VX.backOwn hO5 ?_
    refine VX.next ?_
    refine VC.seq ?_
    refine VC.sr ?_
    refine VL.move rfl ?_
    refine VL.gtr rfl rfl ?_
    refine VL.case (fun h6_1 => ?_) (fun h6_1 => ?_)
    ·refine VL.nn ?_
     refine VC.yes rfl ?_
     refine VC.sr ?_
     refine VL.assign rfl ?_
     refine VL.nn ?_
     refine VC.goto ?_
     refine VX.then_goto ?_
     refine VX.jump (SpJ.wrong 4) rfl ⟨rfl, trivial⟩ (fun w' h => ⟨by rw [hl, splitB_cons, if_pos (by omega)], h⟩) (by first | trivial | (show 0 < _; simp [SpJ.μ]))
    ·refine VL.nn ?_
     refine VC.no rfl ?_
     refine VC.skip ?_
     refine VX.next ?_
     refine VC.seq ?_
     suffices hx : ∀ (k : Nat) (r : List UInt8) (p : Option Addr) (c : Nat) (acc : List (List UInt8)) (g : Option Nat) (c' : Nat), VC _ _ _ _ (SpJ.st (.next k r p c acc g c')) (SpJ.inv l S H w (.next k r p c acc g c')) from VC.turn (fun w' h => show SpJ.inv l S H w (.next b0.toNat (l.drop 1) p1 c1 [] none 0) w' from ⟨⟨by rw [hd1, hl, splitB_cons, if_neg (by omega)], hA1, by simp; omega⟩, h.arow_nil (Mono.slice Mono.byte) 24 1⟩) (VC.weaken (SpJ.st (.next b0.toNat (l.drop 1) p1 c1 [] none 0)) ⟨rfl, rfl, rfl, rfl, trivial⟩ (hx _ _ _ _ _ _ _))
     intro k r p c acc g c'
     refine VC.fact fun ⟨hcut, hB, hk⟩ => ?_
     refine VC.label ?_
     refine VX.next ?_
     refine VC.seq ?_
     refine VC.sr ?_
     refine VL.move rfl ?_
     refine VL.eql rfl rfl ?_
     refine VL.case (fun h8_1 => ?_) (fun h8_1 => ?_)
     ·refine VL.nn ?_
      refine VC.yes rfl ?_
      refine VC.goto ?_
      refine VX.then_goto ?_
      refine VX.jump (SpJ.fin r p c acc g c') rfl ⟨rfl, rfl, trivial⟩ (fun w' h => ⟨⟨by rw [hcut]; congr 1; omega, hB⟩, h⟩) (by first | trivial | (show 1 < _; simp [SpJ.μ]))
     ·refine VL.nn ?_
      refine VC.no rfl ?_
      refine VC.skip ?_
      refine VX.next ?_
      refine VC.seq ?_
      refine VC.seq ?_
      obtain ⟨k, rfl⟩ : ∃ k2, k = k2 + 1 := ⟨k - 1, by omega⟩
      refine VC.region ?_
      refine VL.move rfl ?_
      refine VL.len Try.underlying24 rfl rfl ?_
      refine VL.lss rfl rfl ?_
      refine VL.case (fun h9_2 => ?_) (fun h9_2 => ?_)
      ·refine VL.nn ?_
       refine VC.yes rfl ?_
       refine VC.goto ?_
       refine VX.then_goto ?_
       refine VX.jump (SpJ.wrong 20) rfl ⟨rfl, trivial⟩ (fun w' h => ⟨by rw [hcut, cutB_short (by omega)], h.drop⟩) (by first | trivial | (show 0 < _; simp [SpJ.μ]))
      ·refine VL.nn ?_
       refine VC.no rfl ?_
       refine VC.skip ?_
       refine VX.next ?_
       refine VC.seq ?_
       have hr2 : 2 ≤ r.length := by omega
       have hr0 : r[0]? = some (r.getD 0 0) := by simp [List.getD, List.getElem?_eq_getElem (show 0 < r.length by omega)]
       have hr1 : r[1]? = some (r.getD 1 0) := by simp [List.getD, List.getElem?_eq_getElem (show 1 < r.length by omega)]
       have hv0 := (r.getD 0 0).toNat_lt
       have hv1 := (r.getD 1 0).toNat_lt
       rw [cutB_next hr2] at hcut
       apply VC.anyA 1014 (F := [eqF _, eqF _, eqF _, eqF _, eqF _, eqF _, eqF _, eqF _, eqF _, eqF (.int .i64 ((pre2 r : Nat) : Int)), eqF _, arrS ⟨w, keys H⟩ 1 byteR (r.drop 2), eqF _, arrS ⟨w, keys H⟩ 1 byteR (r.drop 2)]) [⟨[], [0]⟩, ⟨[(24, 0)], []⟩, ⟨[(25, 1)], []⟩, ⟨[(26, 2)], []⟩, ⟨[(27, 3)], []⟩, ⟨[], [0]⟩, ⟨[(29, 5)], []⟩, ⟨[(30, 6)], []⟩, ⟨[(31, 7)], []⟩, ⟨[(28, 4), (32, 8)], []⟩, ⟨[], [0]⟩, ⟨[(34, 10)], []⟩, ⟨[(33, 9)], []⟩, ⟨[(35, 11)], []⟩] [(6, 12), (0, 13)] [2, 3, 4, 5, 7, 8, 9, 10, 11, 12, 13, 14, 15, 16, 17, 18, 19, 20, 21, 22, 23, 36, 37, 38, 39, 40, 41, 42, 43, 44, 45, 46, 47, 48, 49, 50, 51, 52, 53, 54, 55, 56, 57, 58] rfl (by kernel_rfl) (by kernel_rfl) (by kernel_rfl) (by kernel_rfl) rfl ?obs10 ?end10
       case obs10 =>
        refine Obs.cons ?_ ?_
        ·refine obS (by kernel_rfl) rfl rfl (fun ph10 w10 hO10 => ?_)
         refine VL.move rfl ?_
         exact VL.finS hO10 rfl rfl
        refine Obs.cons ?_ ?_
        ·refine obS (by kernel_rfl) rfl rfl (fun ph10 w10 hO10 => ?_)
         rintro _ rfl
         refine VL.index rfl rfl Try.underlying24 sz24 hB (by omega) (by omega) ?_
         exact VL.finS hO10 rfl rfl
        refine Obs.cons ?_ ?_
        ·refine ob (by kernel_rfl) rfl (by kernel_rfl) rfl (fun w10 hO10 => ?_)
         rintro _ rfl
         refine VL.byte (s := ⟨w, keys H⟩) rfl kd5 (fun _ e => e ▸ hO10) (List.mem_cons_self ..) hB (y := r.getD 0 0) hr0 ?_
         exact VL.finS hO10 rfl rfl
        refine Obs.cons ?_ ?_
        ·refine obS (by kernel_rfl) rfl rfl (fun ph10 w10 hO10 => ?_)
         rintro _ rfl
         refine VL.conv (by rw [Try.underlying5]; rfl) Try.underlying3 rfl (by simp only [InR]; omega) ?_
         exact VL.finS hO10 rfl rfl
        refine Obs.cons ?_ ?_
        ·refine obS (by kernel_rfl) rfl rfl (fun ph10 w10 hO10 => ?_)
         rintro _ rfl
         refine VL.shl rfl rfl (by omega) (by simp only [IntKind.bits]; omega) ?_
         rw [i64_shl8 _ (by omega)]
         exact VL.finS hO10 rfl rfl
        refine Obs.cons ?_ ?_
        ·refine obS (by kernel_rfl) rfl rfl (fun ph10 w10 hO10 => ?_)
         refine VL.move rfl ?_
         exact VL.finS hO10 rfl rfl
        refine Obs.cons ?_ ?_
        ·refine obS (by kernel_rfl) rfl rfl (fun ph10 w10 hO10 => ?_)
         rintro _ rfl
         refine VL.index rfl rfl Try.underlying24 sz24 hB (by omega) (by omega) ?_
         exact VL.finS hO10 rfl rfl
        refine Obs.cons ?_ ?_
        ·refine ob (by kernel_rfl) rfl (by kernel_rfl) rfl (fun w10 hO10 => ?_)
         rintro _ rfl
         refine VL.byte (s := ⟨w, keys H⟩) rfl kd5 (fun _ e => e ▸ hO10) (List.mem_cons_self ..) hB (y := r.getD 1 0) hr1 ?_
         exact VL.finS hO10 rfl rfl
        refine Obs.cons ?_ ?_
        ·refine obS (by kernel_rfl) rfl rfl (fun ph10 w10 hO10 => ?_)
         rintro _ rfl
         refine VL.conv (by rw [Try.underlying5]; rfl) Try.underlying3 rfl (by simp only [InR]; omega) ?_
         exact VL.finS hO10 rfl rfl
        refine Obs.cons ?_ ?_
        ·refine obS (by kernel_rfl) rfl rfl (fun ph10 w10 hO10 => ?_)
         rintro _ rfl _ rfl
         refine VL.bits (.inr (.inl rfl)) rfl rfl ?_
         rw [i64_or_byte _ _ (by omega) (by omega)]
         exact VL.finS hO10 rfl rfl
        refine Obs.cons ?_ ?_
        ·refine obS (by kernel_rfl) rfl rfl (fun ph10 w10 hO10 => ?_)
         refine VL.move rfl ?_
         exact VL.finS hO10 rfl rfl
        refine Obs.cons ?_ ?_
        ·refine obS (by kernel_rfl) rfl rfl (fun ph10 w10 hO10 => ?_)
         rintro _ rfl
         refine VL.dropS 2 rfl rfl Try.underlying24 sz24 hB (by omega) (fun p2 hB2 => ?_)
         exact VL.finS hO10 rfl ⟨_, _, rfl, hB2⟩
        refine Obs.cons ?_ ?_
        ·refine obS (by kernel_rfl) rfl rfl (fun ph10 w10 hO10 => ?_)
         rintro _ rfl
         refine VL.assign rfl ?_
         exact VL.finS hO10 rfl rfl
        refine Obs.cons ?_ ?_
        ·refine obS (by kernel_rfl) rfl rfl (fun ph10 w10 hO10 => ?_)
         rintro _ ⟨p2, c2, rfl, hB2⟩
         refine VL.assign rfl ?_
         exact VL.finS hO10 rfl ⟨_, _, rfl, hB2⟩
        exact Obs.nil
       case end10 =>
        intro w10 hO10
        rintro _ rfl _ ⟨p2, c2, rfl, hB2⟩
        refine VX.backOwn hO10 ?_
        refine VX.next ?_
        refine VC.seq ?_
        refine VC.sr ?_
        refine VL.move rfl ?_
        refine VL.gtr rfl rfl ?_
        refine VL.case (fun h11_1 => ?_) (fun h11_1 => ?_)
        ·refine VL.nn ?_
         refine VC.yes rfl ?_
         refine VC.sr ?_
         refine VL.assign rfl ?_
         refine VL.nn ?_
         refine VC.goto ?_
         refine VX.then_goto ?_
         refine VX.jump (SpJ.wrong 5) rfl ⟨rfl, trivial⟩ (fun w' h => ⟨by rw [hcut, if_pos (by omega)], h.drop⟩) (by first | trivial | (show 0 < _; simp [SpJ.μ]))
        ·refine VL.nn ?_
         refine VC.no rfl ?_
         refine VC.skip ?_
         refine VX.next ?_
         refine VC.seq ?_
         refine VC.sr ?_
         refine VL.move rfl ?_
         refine VL.move rfl ?_
         refine VL.len Try.underlying24 rfl rfl ?_
         refine VL.gtr rfl rfl ?_
         refine VL.case (fun h13_3 => ?_) (fun h13_3 => ?_)
         ·refine VL.nn ?_
          refine VC.yes rfl ?_
          refine VC.goto ?_
          refine VX.then_goto ?_
          refine VX.jump (SpJ.wrong 20) rfl ⟨rfl, trivial⟩ (fun w' h => ⟨by rw [hcut, if_neg (by omega), if_pos (by omega)], h.drop⟩) (by first | trivial | (show 0 < _; simp [SpJ.μ]))
         ·refine VL.nn ?_
          refine VC.no rfl ?_
          refine VC.skip ?_
          refine VX.next ?_
          refine VC.seq ?_
          have hle : pre2 r ≤ (r.drop 2).length := by omega
          rw [if_neg (by omega), if_neg (by omega)] at hcut
          have hpl : ((r.drop 2).take (pre2 r)).length ≤ 4096 := by rw [List.length_take]; omega
          apply VC.anyA 6 (F := [eqF _, eqF _, eqF _, arrS ⟨w, keys H⟩ 1 byteR ((r.drop 2).take (pre2 r)), bytesF ((r.drop 2).take (pre2 r)), arrF 1 bytesR (Mono.slice Mono.byte) [((r.drop 2).take (pre2 r))], lateF (fun v w' => ∃ g6 c6, v = rowV g6 (acc ++ [((r.drop 2).take (pre2 r))]).length c6 ∧ Own (⟨w, keys H⟩ :: S) (brow g6 c6 (acc ++ [((r.drop 2).take (pre2 r))]) :: H) w'), eqF _, eqF _, arrS ⟨w, keys H⟩ 1 byteR ((r.drop 2).drop (pre2 r)), lateF (fun v w' => ∃ g6 c6, v = rowV g6 (acc ++ [((r.drop 2).take (pre2 r))]).length c6 ∧ Own (⟨w, keys H⟩ :: S) (brow g6 c6 (acc ++ [((r.drop 2).take (pre2 r))]) :: H) w'), arrS ⟨w, keys H⟩ 1 byteR ((r.drop 2).drop (pre2 r))]) [⟨[], [4]⟩, ⟨[], [0]⟩, ⟨[], [6]⟩, ⟨[(43, 1), (44, 2)], []⟩, ⟨[(45, 3)], []⟩, ⟨[(46, 4)], []⟩, ⟨[(42, 0), (47, 5)], []⟩, ⟨[], [0]⟩, ⟨[], [6]⟩, ⟨[(49, 7), (50, 8)], []⟩, ⟨[(48, 6)], []⟩, ⟨[(51, 9)], []⟩] [(4, 10), (0, 11)] [2, 3, 5, 6, 7, 8, 9, 10, 11, 12, 13, 14, 15, 16, 17, 18, 19, 20, 21, 22, 23, 24, 25, 26, 27, 28, 29, 30, 31, 32, 33, 34, 35, 36, 37, 38, 39, 40, 41, 52, 53, 54, 55, 56, 57, 58] rfl (by kernel_rfl) (by kernel_rfl) (by kernel_rfl) (by kernel_rfl) rfl ?obs14 ?end14
          case obs14 =>
           refine Obs.cons ?_ ?_
           ·refine obS (by kernel_rfl) rfl rfl (fun ph14 w14 hO14 => ?_)
            refine VL.move rfl ?_
            exact VL.finS hO14 rfl rfl
           refine Obs.cons ?_ ?_
           ·refine obS (by kernel_rfl) rfl rfl (fun ph14 w14 hO14 => ?_)
            refine VL.move rfl ?_
            exact VL.finS hO14 rfl rfl
           refine Obs.cons ?_ ?_
           ·refine obS (by kernel_rfl) rfl rfl (fun ph14 w14 hO14 => ?_)
            refine VL.move rfl ?_
            exact VL.finS hO14 rfl rfl
           refine Obs.cons ?_ ?_
           ·refine obS (by kernel_rfl) rfl rfl (fun ph14 w14 hO14 => ?_)
            rintro _ rfl _ rfl
            refine VL.takeS (pre2 r) rfl rfl Try.underlying24 sz24 hB2 hle (fun p3 hA3 => ?_)
            exact VL.finS hO14 rfl ⟨_, _, rfl, hA3⟩
           refine Obs.cons ?_ ?_
           ·refine ob (by kernel_rfl) rfl (by kernel_rfl) rfl (fun w14 hO14 => ?_)
            rintro _ ⟨p3, c3, rfl, hA3⟩
            refine VL.toOwn hO14 ?_
            refine VL.call Try.func109 rfl (by decide) rfl (fun w1 hw => clone_any hw (hA3.now (s := ⟨w, keys H⟩) Mono.byte hw (List.mem_cons_of_mem _ (List.mem_cons_self ..))) (by omega)) (fun v => ?_)
            exact VL.finO rfl (fun _ ⟨_, _, _, h, _⟩ => h) (fun _ ⟨p4, c4, e, _, h⟩ => ⟨p4, c4, e, h⟩)
           refine Obs.cons ?_ ?_
           ·refine ob (by kernel_rfl) rfl (by kernel_rfl) rfl (fun w14 hO14 => ?_)
            rintro _ ⟨p4, c4, rfl, hA4⟩
            refine VL.toOwn hO14 ?_
            refine VL.lit el31 rfl rfl rfl (by simp [Value.cells]) (by intro u hu; simp [Value.cells] at hu; subst hu; rfl) (fun g5 => ?_)
            exact VL.finO rfl (fun _ h => h.drop) (fun _ h => ⟨_, _, rfl, Own.letOne (v := .slice p4 ((r.drop 2).take (pre2 r)).length c4) h ⟨p4, c4, rfl, hA4.now (s := ⟨w14, _⟩) Mono.byte h.drop (List.mem_cons_self ..)⟩⟩)
           refine Obs.cons ?_ ?_
           ·refine obK (by kernel_rfl) rfl (fun w14 hO14 => ?_)
            rintro _ rfl _ ⟨p5, c5, rfl, hA5⟩
            refine VL.toOwn hO14 ?_
            refine VL.appends 0 el31 rfl rfl rfl (fun _ h => h) rfl (fun _ h => hA5.now (s := ⟨w14, _⟩) (Mono.slice Mono.byte) h (List.mem_cons_self ..)) (fun _ _ _ _ h => ok1_slices h) (by simp only [List.length_cons, List.length_nil]; omega) (fun g6 c6 => ?_) (by simp only [List.length_cons, List.length_nil]; omega)
            exact VL.finK rfl (fun _ h => h) (fun _ h => ⟨g6, c6, rfl, h.lose⟩)
           refine Obs.cons ?_ ?_
           ·refine obS (by kernel_rfl) rfl rfl (fun ph14 w14 hO14 => ?_)
            refine VL.move rfl ?_
            exact VL.finS hO14 rfl rfl
           refine Obs.cons ?_ ?_
           ·refine obS (by kernel_rfl) rfl rfl (fun ph14 w14 hO14 => ?_)
            refine VL.move rfl ?_
            exact VL.finS hO14 rfl rfl
           refine Obs.cons ?_ ?_
           ·refine obS (by kernel_rfl) rfl rfl (fun ph14 w14 hO14 => ?_)
            rintro _ rfl _ rfl
            refine VL.dropS (pre2 r) rfl rfl Try.underlying24 sz24 hB2 hle (fun p9 hB9 => ?_)
            exact VL.finS hO14 rfl ⟨_, _, rfl, hB9⟩
           refine Obs.cons ?_ ?_
           ·refine obS (by kernel_rfl) rfl rfl (fun ph14 w14 hO14 => ?_)
            rintro _ ⟨g6, c6, rfl, h6⟩
            refine VL.assign rfl ?_
            exact VL.finS hO14 rfl ⟨g6, c6, rfl, h6⟩
           refine Obs.cons ?_ ?_
           ·refine obS (by kernel_rfl) rfl rfl (fun ph14 w14 hO14 => ?_)
            rintro _ ⟨p9, c9, rfl, hB9⟩
            refine VL.assign rfl ?_
            exact VL.finS hO14 rfl ⟨_, _, rfl, hB9⟩
           exact Obs.nil
          case end14 =>
           intro w14 hO14
           rintro _ ⟨g6, c6, rfl, h6⟩ _ ⟨p9, c9, rfl, hB9⟩
           refine VX.turn (G' := Own (⟨w, keys H⟩ :: S) (brow g6 c6 (acc ++ [((r.drop 2).take (pre2 r))]) :: H)) (fun w' e => e ▸ h6) ?_
           refine VX.next ?_
           refine VC.sr ?_
           refine VL.move rfl ?_
           refine VL.sub rfl rfl (by simp only [InR]; omega) ?_
           refine VL.assign rfl ?_
           refine VL.nn ?_
           refine VC.seq ?_
           refine VC.goto ?_
           refine VX.then_goto ?_
           refine VX.jump (SpJ.next k ((r.drop 2).drop (pre2 r)) p9 c9 (acc ++ [((r.drop 2).take (pre2 r))]) g6 c6) rfl ⟨rfl, rfl, ?_, rfl, trivial⟩ (fun w' h => ⟨⟨hcut, hB9, by simp; omega⟩, h⟩) (by first | trivial | (show k + 2 < k + 1 + 2; omega))
           show some (Value.int .i64 _) = some (Value.int .i64 _)
           congr 2
           omega
 ·intro x
  cases x with
  | wrong e =>
   refine ⟨_, rfl, ?_⟩
   refine VC.fact fun hs => ?_
   refine VC.seq ?_
   refine VC.skip ?_
   refine VX.next ?_
   refine VC.sr ?_
   refine VL.move rfl ?_
   refine VL.assign rfl ?_
   refine VL.assign rfl ?_
   refine VL.nn ?_
   refine VC.ret ?_
   refine VX.jumps_ret ?_
   refine VX.ret2 rfl rfl rfl (fun w hw => ?_)
   exact ⟨hw.lose, none, 0, by rw [hs]; rfl, by rw [hs]; exact Arr.none⟩
  | fin r p c acc g c' =>
   refine ⟨_, rfl, ?_⟩
   refine VC.fact fun ⟨hcut, hB⟩ => ?_
   refine VC.seq ?_
   refine VC.skip ?_
   refine VX.next ?_
   refine VC.seq ?_
   refine VC.sr ?_
   refine VL.move rfl ?_
   refine VL.len Try.underlying24 rfl rfl ?_
   refine VL.eql rfl rfl ?_
   refine VL.case (fun h16_2 => ?_) (fun h16_2 => ?_)
   ·refine VL.nn ?_
    refine VC.yes rfl ?_
    refine VC.sr ?_
    refine VL.move rfl ?_
    refine VL.assign rfl ?_
    refine VL.assign rfl ?_
    refine VL.nn ?_
    refine VC.ret ?_
    refine VX.then_ret ?_
    refine VX.jumps_ret ?_
    refine VX.ret2 rfl rfl rfl (fun w hw => ?_)
    have hs : splitB l = (0, acc) := by rw [hcut, cutB_done, if_pos (List.eq_nil_of_length_eq_zero (by omega))]
    have ha := hw.letArr
    exact ⟨hw.drop.lose, g.map fun g => ⟨g, 0, none⟩, c', by rw [hs]; rfl, by rw [hs]; exact ha⟩
   ·refine VL.nn ?_
    refine VC.no rfl ?_
    refine VC.skip ?_
    refine VX.next ?_
    refine VC.seq ?_
    have hs : splitB l = (21, []) := by rw [hcut, cutB_done, if_neg (fun e => h16_2 (by rw [e]; rfl))]
    refine VC.turn (fun _ h => h.drop) ?_
    refine VC.region ?_
    refine VL.assign rfl ?_
    refine VL.nn ?_
    refine VC.seq ?_
    refine VC.label ?_
    refine VX.next ?_
    refine VC.sr ?_
    refine VL.move rfl ?_
    refine VL.assign rfl ?_
    refine VL.assign rfl ?_
    refine VL.nn ?_
    refine VC.ret ?_
    refine VX.jumps_ret ?_
    refine VX.ret2 rfl rfl rfl (fun w hw => ?_)
    exact ⟨hw.lose, none, 0, by rw [hs]; rfl, by rw [hs]; exact Arr.none⟩
  | next k r p c acc g c' =>
   refine ⟨_, rfl, ?_⟩
   refine VC.fact fun ⟨hcut, hB, hk⟩ => ?_
   refine VC.seq ?_
   refine VC.skip ?_
   refine VX.next ?_
   refine VC.seq ?_
   refine VC.sr ?_
   refine VL.move rfl ?_
   refine VL.eql rfl rfl ?_
   refine VL.case (fun h8_1 => ?_) (fun h8_1 => ?_)
   ·refine VL.nn ?_
    refine VC.yes rfl ?_
    refine VC.goto ?_
    refine VX.then_goto ?_
    refine VX.jump (SpJ.fin r p c acc g c') rfl ⟨rfl, rfl, trivial⟩ (fun w' h => ⟨⟨by rw [hcut]; congr 1; omega, hB⟩, h⟩) (by first | trivial | (show 1 < _; simp [SpJ.μ]))
   ·refine VL.nn ?_
    refine VC.no rfl ?_
    refine VC.skip ?_
    refine VX.next ?_
    refine VC.seq ?_
    refine VC.seq ?_
    obtain ⟨k, rfl⟩ : ∃ k2, k = k2 + 1 := ⟨k - 1, by omega⟩
    refine VC.region ?_
    refine VL.move rfl ?_
    refine VL.len Try.underlying24 rfl rfl ?_
    refine VL.lss rfl rfl ?_
    refine VL.case (fun h9_2 => ?_) (fun h9_2 => ?_)
    ·refine VL.nn ?_
     refine VC.yes rfl ?_
     refine VC.goto ?_
     refine VX.then_goto ?_
     refine VX.jump (SpJ.wrong 20) rfl ⟨rfl, trivial⟩ (fun w' h => ⟨by rw [hcut, cutB_short (by omega)], h.drop⟩) (by first | trivial | (show 0 < _; simp [SpJ.μ]))
    ·refine VL.nn ?_
     refine VC.no rfl ?_
     refine VC.skip ?_
     refine VX.next ?_
     refine VC.seq ?_
     have hr2 : 2 ≤ r.length := by omega
     have hr0 : r[0]? = some (r.getD 0 0) := by simp [List.getD, List.getElem?_eq_getElem (show 0 < r.length by omega)]
     have hr1 : r[1]? = some (r.getD 1 0) := by simp [List.getD, List.getElem?_eq_getElem (show 1 < r.length by omega)]
     have hv0 := (r.getD 0 0).toNat_lt
     have hv1 := (r.getD 1 0).toNat_lt
     rw [cutB_next hr2] at hcut
     apply VC.anyA 1014 (F := [eqF _, eqF _, eqF _, eqF _, eqF _, eqF _, eqF _, eqF _, eqF _, eqF (.int .i64 ((pre2 r : Nat) : Int)), eqF _, arrS ⟨w, keys H⟩ 1 byteR (r.drop 2), eqF _, arrS ⟨w, keys H⟩ 1 byteR (r.drop 2)]) [⟨[], [0]⟩, ⟨[(24, 0)], []⟩, ⟨[(25, 1)], []⟩, ⟨[(26, 2)], []⟩, ⟨[(27, 3)], []⟩, ⟨[], [0]⟩, ⟨[(29, 5)], []⟩, ⟨[(30, 6)], []⟩, ⟨[(31, 7)], []⟩, ⟨[(28, 4), (32, 8)], []⟩, ⟨[], [0]⟩, ⟨[(34, 10)], []⟩, ⟨[(33, 9)], []⟩, ⟨[(35, 11)], []⟩] [(6, 12), (0, 13)] [2, 3, 4, 5, 7, 8, 9, 10, 11, 12, 13, 14, 15, 16, 17, 18, 19, 20, 21, 22, 23, 36, 37, 38, 39, 40, 41, 42, 43, 44, 45, 46, 47, 48, 49, 50, 51, 52, 53, 54, 55, 56, 57, 58] rfl (by kernel_rfl) (by kernel_rfl) (by kernel_rfl) (by kernel_rfl) rfl ?obs10 ?end10
     case obs10 =>
      refine Obs.cons ?_ ?_
      ·refine obS (by kernel_rfl) rfl rfl (fun ph10 w10 hO10 => ?_)
       refine VL.move rfl ?_
       exact VL.finS hO10 rfl rfl
      refine Obs.cons ?_ ?_
      ·refine obS (by kernel_rfl) rfl rfl (fun ph10 w10 hO10 => ?_)
       rintro _ rfl
       refine VL.index rfl rfl Try.underlying24 sz24 hB (by omega) (by omega) ?_
       exact VL.finS hO10 rfl rfl
      refine Obs.cons ?_ ?_
      ·refine ob (by kernel_rfl) rfl (by kernel_rfl) rfl (fun w10 hO10 => ?_)
       rintro _ rfl
       refine VL.byte (s := ⟨w, keys H⟩) rfl kd5 (fun _ e => e ▸ hO10) (List.mem_cons_self ..) hB (y := r.getD 0 0) hr0 ?_
       exact VL.finS hO10 rfl rfl
      refine Obs.cons ?_ ?_
      ·refine obS (by kernel_rfl) rfl rfl (fun ph10 w10 hO10 => ?_)
       rintro _ rfl
       refine VL.conv (by rw [Try.underlying5]; rfl) Try.underlying3 rfl (by simp only [InR]; omega) ?_
       exact VL.finS hO10 rfl rfl
      refine Obs.cons ?_ ?_
      ·refine obS (by kernel_rfl) rfl rfl (fun ph10 w10 hO10 => ?_)
       rintro _ rfl
       refine VL.shl rfl rfl (by omega) (by simp only [IntKind.bits]; omega) ?_
       rw [i64_shl8 _ (by omega)]
       exact VL.finS hO10 rfl rfl
      refine Obs.cons ?_ ?_
      ·refine obS (by kernel_rfl) rfl rfl (fun ph10 w10 hO10 => ?_)
       refine VL.move rfl ?_
       exact VL.finS hO10 rfl rfl
      refine Obs.cons ?_ ?_
      ·refine obS (by kernel_rfl) rfl rfl (fun ph10 w10 hO10 => ?_)
       rintro _ rfl
       refine VL.index rfl rfl Try.underlying24 sz24 hB (by omega) (by omega) ?_
       exact VL.finS hO10 rfl rfl
      refine Obs.cons ?_ ?_
      ·refine ob (by kernel_rfl) rfl (by kernel_rfl) rfl (fun w10 hO10 => ?_)
       rintro _ rfl
       refine VL.byte (s := ⟨w, keys H⟩) rfl kd5 (fun _ e => e ▸ hO10) (List.mem_cons_self ..) hB (y := r.getD 1 0) hr1 ?_
       exact VL.finS hO10 rfl rfl
      refine Obs.cons ?_ ?_
      ·refine obS (by kernel_rfl) rfl rfl (fun ph10 w10 hO10 => ?_)
       rintro _ rfl
       refine VL.conv (by rw [Try.underlying5]; rfl) Try.underlying3 rfl (by simp only [InR]; omega) ?_
       exact VL.finS hO10 rfl rfl
      refine Obs.cons ?_ ?_
      ·refine obS (by kernel_rfl) rfl rfl (fun ph10 w10 hO10 => ?_)
       rintro _ rfl _ rfl
       refine VL.bits (.inr (.inl rfl)) rfl rfl ?_
       rw [i64_or_byte _ _ (by omega) (by omega)]
       exact VL.finS hO10 rfl rfl
      refine Obs.cons ?_ ?_
      ·refine obS (by kernel_rfl) rfl rfl (fun ph10 w10 hO10 => ?_)
       refine VL.move rfl ?_
       exact VL.finS hO10 rfl rfl
      refine Obs.cons ?_ ?_
      ·refine obS (by kernel_rfl) rfl rfl (fun ph10 w10 hO10 => ?_)
       rintro _ rfl
       refine VL.dropS 2 rfl rfl Try.underlying24 sz24 hB (by omega) (fun p2 hB2 => ?_)
       exact VL.finS hO10 rfl ⟨_, _, rfl, hB2⟩
      refine Obs.cons ?_ ?_
      ·refine obS (by kernel_rfl) rfl rfl (fun ph10 w10 hO10 => ?_)
       rintro _ rfl
       refine VL.assign rfl ?_
       exact VL.finS hO10 rfl rfl
      refine Obs.cons ?_ ?_
      ·refine obS (by kernel_rfl) rfl rfl (fun ph10 w10 hO10 => ?_)
       rintro _ ⟨p2, c2, rfl, hB2⟩
       refine VL.assign rfl ?_
       exact VL.finS hO10 rfl ⟨_, _, rfl, hB2⟩
      exact Obs.nil
     case end10 =>
      intro w10 hO10
      rintro _ rfl _ ⟨p2, c2, rfl, hB2⟩
      refine VX.backOwn hO10 ?_
      refine VX.next ?_
      refine VC.seq ?_
      refine VC.sr ?_
      refine VL.move rfl ?_
      refine VL.gtr rfl rfl ?_
      refine VL.case (fun h11_1 => ?_) (fun h11_1 => ?_)
      ·refine VL.nn ?_
       refine VC.yes rfl ?_
       refine VC.sr ?_
       refine VL.assign rfl ?_
       refine VL.nn ?_
       refine VC.goto ?_
       refine VX.then_goto ?_
       refine VX.jump (SpJ.wrong 5) rfl ⟨rfl, trivial⟩ (fun w' h => ⟨by rw [hcut, if_pos (by omega)], h.drop⟩) (by first | trivial | (show 0 < _; simp [SpJ.μ]))
      ·refine VL.nn ?_
       refine VC.no rfl ?_
       refine VC.skip ?_
       refine VX.next ?_
       refine VC.seq ?_
       refine VC.sr ?_
       refine VL.move rfl ?_
       refine VL.move rfl ?_
       refine VL.len Try.underlying24 rfl rfl ?_
       refine VL.gtr rfl rfl ?_
       refine VL.case (fun h13_3 => ?_) (fun h13_3 => ?_)
       ·refine VL.nn ?_
        refine VC.yes rfl ?_
        refine VC.goto ?_
        refine VX.then_goto ?_
        refine VX.jump (SpJ.wrong 20) rfl ⟨rfl, trivial⟩ (fun w' h => ⟨by rw [hcut, if_neg (by omega), if_pos (by omega)], h.drop⟩) (by first | trivial | (show 0 < _; simp [SpJ.μ]))
       ·refine VL.nn ?_
        refine VC.no rfl ?_
        refine VC.skip ?_
        refine VX.next ?_
        refine VC.seq ?_
        have hle : pre2 r ≤ (r.drop 2).length := by omega
        rw [if_neg (by omega), if_neg (by omega)] at hcut
        have hpl : ((r.drop 2).take (pre2 r)).length ≤ 4096 := by rw [List.length_take]; omega
        apply VC.anyA 6 (F := [eqF _, eqF _, eqF _, arrS ⟨w, keys H⟩ 1 byteR ((r.drop 2).take (pre2 r)), bytesF ((r.drop 2).take (pre2 r)), arrF 1 bytesR (Mono.slice Mono.byte) [((r.drop 2).take (pre2 r))], lateF (fun v w' => ∃ g6 c6, v = rowV g6 (acc ++ [((r.drop 2).take (pre2 r))]).length c6 ∧ Own (⟨w, keys H⟩ :: S) (brow g6 c6 (acc ++ [((r.drop 2).take (pre2 r))]) :: H) w'), eqF _, eqF _, arrS ⟨w, keys H⟩ 1 byteR ((r.drop 2).drop (pre2 r)), lateF (fun v w' => ∃ g6 c6, v = rowV g6 (acc ++ [((r.drop 2).take (pre2 r))]).length c6 ∧ Own (⟨w, keys H⟩ :: S) (brow g6 c6 (acc ++ [((r.drop 2).take (pre2 r))]) :: H) w'), arrS ⟨w, keys H⟩ 1 byteR ((r.drop 2).drop (pre2 r))]) [⟨[], [4]⟩, ⟨[], [0]⟩, ⟨[], [6]⟩, ⟨[(43, 1), (44, 2)], []⟩, ⟨[(45, 3)], []⟩, ⟨[(46, 4)], []⟩, ⟨[(42, 0), (47, 5)], []⟩, ⟨[], [0]⟩, ⟨[], [6]⟩, ⟨[(49, 7), (50, 8)], []⟩, ⟨[(48, 6)], []⟩, ⟨[(51, 9)], []⟩] [(4, 10), (0, 11)] [2, 3, 5, 6, 7, 8, 9, 10, 11, 12, 13, 14, 15, 16, 17, 18, 19, 20, 21, 22, 23, 24, 25, 26, 27, 28, 29, 30, 31, 32, 33, 34, 35, 36, 37, 38, 39, 40, 41, 52, 53, 54, 55, 56, 57, 58] rfl (by kernel_rfl) (by kernel_rfl) (by kernel_rfl) (by kernel_rfl) rfl ?obs14 ?end14
        case obs14 =>
         refine Obs.cons ?_ ?_
         ·refine obS (by kernel_rfl) rfl rfl (fun ph14 w14 hO14 => ?_)
          refine VL.move rfl ?_
          exact VL.finS hO14 rfl rfl
         refine Obs.cons ?_ ?_
         ·refine obS (by kernel_rfl) rfl rfl (fun ph14 w14 hO14 => ?_)
          refine VL.move rfl ?_
          exact VL.finS hO14 rfl rfl
         refine Obs.cons ?_ ?_
         ·refine obS (by kernel_rfl) rfl rfl (fun ph14 w14 hO14 => ?_)
          refine VL.move rfl ?_
          exact VL.finS hO14 rfl rfl
         refine Obs.cons ?_ ?_
         ·refine obS (by kernel_rfl) rfl rfl (fun ph14 w14 hO14 => ?_)
          rintro _ rfl _ rfl
          refine VL.takeS (pre2 r) rfl rfl Try.underlying24 sz24 hB2 hle (fun p3 hA3 => ?_)
          exact VL.finS hO14 rfl ⟨_, _, rfl, hA3⟩
         refine Obs.cons ?_ ?_
         ·refine ob (by kernel_rfl) rfl (by kernel_rfl) rfl (fun w14 hO14 => ?_)
          rintro _ ⟨p3, c3, rfl, hA3⟩
          refine VL.toOwn hO14 ?_
          refine VL.call Try.func109 rfl (by decide) rfl (fun w1 hw => clone_any hw (hA3.now (s := ⟨w, keys H⟩) Mono.byte hw (List.mem_cons_of_mem _ (List.mem_cons_self ..))) (by omega)) (fun v => ?_)
          exact VL.finO rfl (fun _ ⟨_, _, _, h, _⟩ => h) (fun _ ⟨p4, c4, e, _, h⟩ => ⟨p4, c4, e, h⟩)
         refine Obs.cons ?_ ?_
         ·refine ob (by kernel_rfl) rfl (by kernel_rfl) rfl (fun w14 hO14 => ?_)
          rintro _ ⟨p4, c4, rfl, hA4⟩
          refine VL.toOwn hO14 ?_
          refine VL.lit el31 rfl rfl rfl (by simp [Value.cells]) (by intro u hu; simp [Value.cells] at hu; subst hu; rfl) (fun g5 => ?_)
          exact VL.finO rfl (fun _ h => h.drop) (fun _ h => ⟨_, _, rfl, Own.letOne (v := .slice p4 ((r.drop 2).take (pre2 r)).length c4) h ⟨p4, c4, rfl, hA4.now (s := ⟨w14, _⟩) Mono.byte h.drop (List.mem_cons_self ..)⟩⟩)
         refine Obs.cons ?_ ?_
         ·refine obK (by kernel_rfl) rfl (fun w14 hO14 => ?_)
          rintro _ rfl _ ⟨p5, c5, rfl, hA5⟩
          refine VL.toOwn hO14 ?_
          refine VL.appends 0 el31 rfl rfl rfl (fun _ h => h) rfl (fun _ h => hA5.now (s := ⟨w14, _⟩) (Mono.slice Mono.byte) h (List.mem_cons_self ..)) (fun _ _ _ _ h => ok1_slices h) (by simp only [List.length_cons, List.length_nil]; omega) (fun g6 c6 => ?_) (by simp only [List.length_cons, List.length_nil]; omega)
          exact VL.finK rfl (fun _ h => h) (fun _ h => ⟨g6, c6, rfl, h.lose⟩)
         refine Obs.cons ?_ ?_
         ·refine obS (by kernel_rfl) rfl rfl (fun ph14 w14 hO14 => ?_)
          refine VL.move rfl ?_
          exact VL.finS hO14 rfl rfl
         refine Obs.cons ?_ ?_
         ·refine obS (by kernel_rfl) rfl rfl (fun ph14 w14 hO14 => ?_)
          refine VL.move rfl ?_
          exact VL.finS hO14 rfl rfl
         refine Obs.cons ?_ ?_
         ·refine obS (by kernel_rfl) rfl rfl (fun ph14 w14 hO14 => ?_)
          rintro _ rfl _ rfl
          refine VL.dropS (pre2 r) rfl rfl Try.underlying24 sz24 hB2 hle (fun p9 hB9 => ?_)
          exact VL.finS hO14 rfl ⟨_, _, rfl, hB9⟩
         refine Obs.cons ?_ ?_
         ·refine obS (by kernel_rfl) rfl rfl (fun ph14 w14 hO14 => ?_)
          rintro _ ⟨g6, c6, rfl, h6⟩
          refine VL.assign rfl ?_
          exact VL.finS hO14 rfl ⟨g6, c6, rfl, h6⟩
         refine Obs.cons ?_ ?_
         ·refine obS (by kernel_rfl) rfl rfl (fun ph14 w14 hO14 => ?_)
          rintro _ ⟨p9, c9, rfl, hB9⟩
          refine VL.assign rfl ?_
          exact VL.finS hO14 rfl ⟨_, _, rfl, hB9⟩
         exact Obs.nil
        case end14 =>
         intro w14 hO14
         rintro _ ⟨g6, c6, rfl, h6⟩ _ ⟨p9, c9, rfl, hB9⟩
         refine VX.turn (G' := Own (⟨w, keys H⟩ :: S) (brow g6 c6 (acc ++ [((r.drop 2).take (pre2 r))]) :: H)) (fun w' e => e ▸ h6) ?_
         refine VX.next ?_
         refine VC.sr ?_
         refine VL.move rfl ?_
         refine VL.sub rfl rfl (by simp only [InR]; omega) ?_
         refine VL.assign rfl ?_
         refine VL.nn ?_
         refine VC.seq ?_
         refine VC.goto ?_
         refine VX.then_goto ?_
         refine VX.jump (SpJ.next k ((r.drop 2).drop (pre2 r)) p9 c9 (acc ++ [((r.drop 2).take (pre2 r))]) g6 c6) rfl ⟨rfl, rfl, ?_, rfl, trivial⟩ (fun w' h => ⟨⟨hcut, hB9, by simp; omega⟩, h⟩) (by first | trivial | (show k + 2 < k + 1 + 2; omega))
         show some (Value.int .i64 _) = some (Value.int .i64 _)
         congr 2
         omega

theorem refSplit_any {S : List Snap} {H : List Chunk} {w : World} (ho : Own S H w) {p : Option Addr} {l : List UInt8} {c : Nat} (hA : Bytes (keys H) w p l c) : Calls Try.prog 34 #[.slice p l.length c] w (Ret fun v w' => Own S H w' ∧ ∃ p' c', v = .tuple #[.slice p' (splitB l).2.length c', .int .i64 (splitB l).1] ∧ Arr 1 bytesR (keys H) w' p' (splitB l).2 c') := by
 refine enter (G := Own (⟨w, keys H⟩ :: S) H) ho.keep Try.func34 rfl Try.ntmps34 rfl ?_
 refine VC.sr ?_
 refine VL.assign rfl ?_
 refine VL.assign rfl ?_
 refine VL.nn ?_
 refine VC.seq ?_
 refine VC.sr ?_
 refine VL.move rfl ?_
 refine VL.len Try.underlying24 rfl rfl ?_
 refine VL.eql rfl rfl ?_
 refine VL.case (fun h1_2 => ?_) (fun h1_2 => ?_)
 ·refine VL.nn ?_
  refine VC.yes rfl ?_
  refine VC.sr ?_
  refine VL.assign rfl ?_
  refine VL.assign rfl ?_
  refine VL.nn ?_
  refine VC.ret ?_
  refine VX.then_ret ?_
  refine VX.ret2 rfl rfl rfl (fun w hw => ?_)
  have hs : splitB l = (20, []) := by rw [List.eq_nil_of_length_eq_zero (show l.length = 0 by omega)]; rfl
  exact ⟨hw.lose, none, 0, by rw [hs]; rfl, by rw [hs]; exact Arr.none⟩
 ·refine VL.nn ?_
  refine VC.no rfl ?_
  refine VC.skip ?_
  refine VX.next ?_
  refine VC.seq ?_
  refine VC.seq ?_
  obtain ⟨b0, r0, hl⟩ : ∃ b0 r0, l = b0 :: r0 := by
   cases l with
   | nil => exact absurd rfl h1_2
   | cons b r => exact ⟨b, r, rfl⟩
  have hb0 : l[0]? = some b0 := by rw [hl]; rfl
  have hd1 : l.drop 1 = r0 := by rw [hl]; rfl
  have hll : 0 < l.length := by omega
  have hlt := b0.toNat_lt
  have hsm := hA.small
  refine VC.region ?_
  refine VL.move rfl ?_
  refine VL.index rfl rfl Try.underlying24 sz24 hA (by omega) (by omega) ?_
  refine VL.byte (s := ⟨w, keys H⟩) rfl kd5 (fun _ h => h) (List.mem_cons_self ..) hA (y := b0) hb0 ?_
  refine VL.gtr rfl rfl ?_
  refine VL.case (fun h3_3 => ?_) (fun h3_3 => ?_)
  ·refine VL.nn ?_
   refine VC.yes rfl ?_
   refine VC.sr ?_
   refine VL.assign rfl ?_
   refine VL.assign rfl ?_
   refine VL.nn ?_
   refine VC.ret ?_
   refine VX.then_ret ?_
   refine VX.ret2 rfl rfl rfl (fun w hw => ?_)
   have hs : splitB l = (4, []) := by rw [hl, splitB_cons, if_pos (by omega)]
   exact ⟨hw.lose, none, 0, by rw [hs]; rfl, by rw [hs]; exact Arr.none⟩
  ·refine VL.nn ?_
   refine VC.no rfl ?_
   refine VC.skip ?_
   refine VX.next ?_
   refine VC.sr ?_
   refine VL.assign rfl ?_
   refine VL.nn ?_
   refine VC.sr ?_
   refine VL.assign rfl ?_
   refine VL.nn ?_
   refine VC.seq ?_
   refine VC.sr ?_
   refine VL.assign rfl ?_
   refine VL.nn ?_
   refine VC.block ?_
   refine VC.loop (X := Nat × Nat × List (List UInt8) × Option Nat × Nat) (fun (i, off, acc, g, c') => [(0, .slice p l.length c), (6, .int .i64 i), (5, .int .i64 off), (4, rowV g acc.length c')]) (fun (i, off, acc, g, c') w' => (i ≤ b0.toNat ∧ acc.length = i ∧ off ≤ l.length ∧ splitB l = cutB (b0.toNat - i) (l.drop off) acc) ∧ Own (⟨w, keys H⟩ :: S) (brow g c' acc :: H) w') (fun (i, _) => b0.toNat - i) (0, 1, [], none, 0) ⟨rfl, rfl, rfl, rfl, trivial⟩ (fun _ h => ⟨⟨Nat.zero_le _, rfl, by omega, by rw [hd1, hl, splitB_cons, if_neg (by omega)]; rfl⟩, h.arow_nil (Mono.slice Mono.byte) 24 1⟩) (fun (i, off, acc, g, c') => VC.fact fun ⟨hi, hai, hoff, hcut⟩ => ?_)
   ·have hi0 := hi
    refine VC.seq ?_
    refine VC.sr ?_
    refine VL.move rfl ?_
    refine VL.move rfl ?_
    refine VL.index rfl rfl Try.underlying24 sz24 hA (by omega) (by omega) ?_
    refine VL.byte (s := ⟨w, keys H⟩) rfl kd5 (fun _ h => h) (List.mem_cons_self ..) (hA) (y := b0) hb0 ?_
    refine VL.conv (by rw [Try.underlying5]; rfl) Try.underlying3 rfl (by simp only [InR]; omega) ?_
    refine VL.lss rfl rfl ?_
    refine VL.case (fun h8_5 => ?_) (fun h8_5 => ?_)
    ·refine VL.nn ?_
     refine VC.yes rfl ?_
     refine VC.skip ?_
     refine VX.next ?_
     refine VC.seq ?_
     refine VC.block ?_
     refine VC.seq ?_
     refine VC.sr ?_
     refine VL.move rfl ?_
     refine VL.len Try.underlying24 rfl rfl ?_
     refine VL.move rfl ?_
     refine VL.sub rfl rfl (by simp only [InR]; omega) ?_
     refine VL.lss rfl rfl ?_
     refine VL.case (fun h10_4 => ?_) (fun h10_4 => ?_)
     ·refine VL.nn ?_
      refine VC.yes rfl ?_
      refine VC.sr ?_
      refine VL.assign rfl ?_
      refine VL.assign rfl ?_
      refine VL.nn ?_
      refine VC.ret ?_
      refine VX.then_ret ?_
      refine VX.block_ret ?_
      refine VX.then_ret ?_
      refine VX.then_ret ?_
      refine VX.block_ret ?_
      refine VX.then_ret ?_
      refine VX.ret2 rfl rfl rfl (fun w hw => ?_)
      have hs : splitB l = (20, []) := by rw [hcut, show b0.toNat - i = b0.toNat - i - 1 + 1 by omega, cutB_short (by simp; omega)]
      exact ⟨hw.drop.lose, none, 0, by rw [hs]; rfl, by rw [hs]; exact Arr.none⟩
     ·refine VL.nn ?_
      refine VC.no rfl ?_
      refine VC.skip ?_
      refine VX.next ?_
      refine VC.seq ?_
      have hr2 : 2 ≤ (l.drop off).length := by rw [List.length_drop]; omega
      have hr0 : l[off]? = some ((l.drop off).getD 0 0) := by simp [List.getD, List.getElem?_eq_getElem (show off < l.length by omega)]
      have hr1 : l[off + 1]? = some ((l.drop off).getD 1 0) := by simp [List.getD, List.getElem?_eq_getElem (show off + 1 < l.length by omega)]
      have hv0 := ((l.drop off).getD 0 0).toNat_lt
      have hv1 := ((l.drop off).getD 1 0).toNat_lt
      have hR2 : ((l.drop off).drop 2).length = l.length - off - 2 := by simp only [List.length_drop]
      rw [show b0.toNat - i = b0.toNat - i - 1 + 1 by omega, cutB_next hr2] at hcut
      apply VC.anyA 1014 (F := [eqF _, eqF _, eqF _, eqF _, eqF _, eqF _, eqF _, eqF _, eqF _, eqF _, eqF _, eqF _, eqF (.int .i64 ((pre2 (l.drop off) : Nat) : Int)), eqF _]) [⟨[], [0]⟩, ⟨[], [5]⟩, ⟨[(29, 0), (30, 1)], []⟩, ⟨[(31, 2)], []⟩, ⟨[(32, 3)], []⟩, ⟨[(33, 4)], []⟩, ⟨[], [0]⟩, ⟨[], [5]⟩, ⟨[(36, 7)], []⟩, ⟨[(35, 6), (37, 8)], []⟩, ⟨[(38, 9)], []⟩, ⟨[(39, 10)], []⟩, ⟨[(34, 5), (40, 11)], []⟩, ⟨[(41, 12)], []⟩] [(7, 13)] [0, 2, 3, 4, 5, 6, 8, 9, 10, 11, 12, 13, 14, 15, 16, 17, 18, 19, 20, 21, 22, 23, 24, 25, 26, 27, 28, 42, 43, 44, 45, 46, 47, 48, 49, 50, 51, 52, 53, 54, 55, 56, 57, 58, 59, 60, 61, 62, 63, 64, 65, 66, 67, 68, 69, 70, 71] rfl (by kernel_rfl) (by kernel_rfl) (by kernel_rfl) (by kernel_rfl) rfl ?obs12 ?end12
      case obs12 =>
       refine Obs.cons ?_ ?_
       ·refine obS (by kernel_rfl) rfl rfl (fun ph12 w12 hO12 => ?_)
        refine VL.move rfl ?_
        exact VL.finS hO12 rfl rfl
       refine Obs.cons ?_ ?_
       ·refine obS (by kernel_rfl) rfl rfl (fun ph12 w12 hO12 => ?_)
        refine VL.move rfl ?_
        exact VL.finS hO12 rfl rfl
       refine Obs.cons ?_ ?_
       ·refine obS (by kernel_rfl) rfl rfl (fun ph12 w12 hO12 => ?_)
        rintro _ rfl _ rfl
        refine VL.index rfl rfl Try.underlying24 sz24 hA (by omega) (by omega) ?_
        exact VL.finS hO12 rfl rfl
       refine Obs.cons ?_ ?_
       ·refine ob (by kernel_rfl) rfl (by kernel_rfl) rfl (fun w12 hO12 => ?_)
        rintro _ rfl
        refine VL.byte (s := ⟨w, keys H⟩) rfl kd5 (fun _ e => e ▸ hO12) (List.mem_cons_self ..) hA (y := (l.drop off).getD 0 0) (by simpa using hr0) ?_
        exact VL.finS hO12 rfl rfl
       refine Obs.cons ?_ ?_
       ·refine obS (by kernel_rfl) rfl rfl (fun ph12 w12 hO12 => ?_)
        rintro _ rfl
        refine VL.conv (by rw [Try.underlying5]; rfl) Try.underlying3 rfl (by simp only [InR]; omega) ?_
        exact VL.finS hO12 rfl rfl
       refine Obs.cons ?_ ?_
       ·refine obS (by kernel_rfl) rfl rfl (fun ph12 w12 hO12 => ?_)
        rintro _ rfl
        refine VL.mul rfl rfl (by simp only [InR]; omega) ?_
        exact VL.finS hO12 rfl rfl
       refine Obs.cons ?_ ?_
       ·refine obS (by kernel_rfl) rfl rfl (fun ph12 w12 hO12 => ?_)
        refine VL.move rfl ?_
        exact VL.finS hO12 rfl rfl
       refine Obs.cons ?_ ?_
       ·refine obS (by kernel_rfl) rfl rfl (fun ph12 w12 hO12 => ?_)
        refine VL.move rfl ?_
        exact VL.finS hO12 rfl rfl
       refine Obs.cons ?_ ?_
       ·refine obS (by kernel_rfl) rfl rfl (fun ph12 w12 hO12 => ?_)
        rintro _ rfl
        refine VL.add rfl rfl (by simp only [InR]; omega) ?_
        exact VL.finS hO12 rfl rfl
       refine Obs.cons ?_ ?_
       ·refine obS (by kernel_rfl) rfl rfl (fun ph12 w12 hO12 => ?_)
        rintro _ rfl _ rfl
        refine VL.index rfl rfl Try.underlying24 sz24 hA (by omega) (by omega) ?_
        exact VL.finS hO12 rfl rfl
       refine Obs.cons ?_ ?_
       ·refine ob (by kernel_rfl) rfl (by kernel_rfl) rfl (fun w12 hO12 => ?_)
        rintro _ rfl
        refine VL.byte (s := ⟨w, keys H⟩) rfl kd5 (fun _ e => e ▸ hO12) (List.mem_cons_self ..) hA (y := (l.drop off).getD 1 0) (by simpa using hr1) ?_
        exact VL.finS hO12 rfl rfl
       refine Obs.cons ?_ ?_
       ·refine obS (by kernel_rfl) rfl rfl (fun ph12 w12 hO12 => ?_)
        rintro _ rfl
        refine VL.conv (by rw [Try.underlying5]; rfl) Try.underlying3 rfl (by simp only [InR]; omega) ?_
        exact VL.finS hO12 rfl rfl
       refine Obs.cons ?_ ?_
       ·refine obS (by kernel_rfl) rfl rfl (fun ph12 w12 hO12 => ?_)
        rintro _ rfl _ rfl
        refine VL.add rfl rfl (by simp only [InR]; omega) ?_
        exact VL.finS hO12 rfl rfl
       refine Obs.cons ?_ ?_
       ·refine obS (by kernel_rfl) rfl rfl (fun ph12 w12 hO12 => ?_)
        rintro _ rfl
        refine VL.assign rfl ?_
        exact VL.finS hO12 rfl rfl
       exact Obs.nil
      case end12 =>
       intro w12 hO12
       rintro _ rfl
       refine VX.backOwn hO12 ?_
       refine VX.next ?_
       refine VC.sr ?_
       refine VL.move rfl ?_
       refine VL.add rfl rfl (by simp only [InR]; omega) ?_
       refine VL.assign rfl ?_
       refine VL.nn ?_
       refine VC.seq ?_
       refine VC.sr ?_
       refine VL.move rfl ?_
       refine VL.gtr rfl rfl ?_
       refine VL.case (fun h14_1 => ?_) (fun h14_1 => ?_)
       ·refine VL.nn ?_
        refine VC.yes rfl ?_
        refine VC.sr ?_
        refine VL.assign rfl ?_
        refine VL.assign rfl ?_
        refine VL.nn ?_
        refine VC.ret ?_
        refine VX.then_ret ?_
        refine VX.block_ret ?_
        refine VX.then_ret ?_
        refine VX.then_ret ?_
        refine VX.block_ret ?_
        refine VX.then_ret ?_
        refine VX.ret2 rfl rfl rfl (fun w hw => ?_)
        have hs : splitB l = (5, []) := by rw [hcut, if_pos (by omega)]
        exact ⟨hw.drop.lose, none, 0, by rw [hs]; rfl, by rw [hs]; exact Arr.none⟩
       ·refine VL.nn ?_
        refine VC.no rfl ?_
        refine VC.skip ?_
        refine VX.next ?_
        refine VC.seq ?_
        refine VC.sr ?_
        refine VL.move rfl ?_
        refine VL.len Try.underlying24 rfl rfl ?_
        refine VL.move rfl ?_
        refine VL.sub rfl rfl (by simp only [InR]; omega) ?_
        refine VL.move rfl ?_
        refine VL.lss rfl rfl ?_
        refine VL.case (fun h16_5 => ?_) (fun h16_5 => ?_)
        ·refine VL.nn ?_
         refine VC.yes rfl ?_
         refine VC.sr ?_
         refine VL.assign rfl ?_
         refine VL.assign rfl ?_
         refine VL.nn ?_
         refine VC.ret ?_
         refine VX.then_ret ?_
         refine VX.block_ret ?_
         refine VX.then_ret ?_
         refine VX.then_ret ?_
         refine VX.block_ret ?_
         refine VX.then_ret ?_
         refine VX.ret2 rfl rfl rfl (fun w hw => ?_)
         have hs : splitB l = (20, []) := by rw [hcut, if_neg (by omega), if_pos (by omega)]
         exact ⟨hw.drop.lose, none, 0, by rw [hs]; rfl, by rw [hs]; exact Arr.none⟩
        ·refine VL.nn ?_
         refine VC.no rfl ?_
         refine VC.skip ?_
         refine VX.next ?_
         refine VC.sr ?_
         refine VL.assign rfl ?_
         refine VL.nn ?_
         refine VC.seq ?_
         have hle : pre2 (l.drop off) ≤ ((l.drop off).drop 2).length := by omega
         rw [if_neg (by omega), if_neg (by omega)] at hcut
         have hpl : (((l.drop off).drop 2).take (pre2 (l.drop off))).length = pre2 (l.drop off) := by rw [List.length_take]; omega
         refine VC.turn (fun _ h => h.row_nil 5 1) ?_
         refine VC.region ?_
         refine VL.move rfl ?_
         refine VL.move rfl ?_
         refine VL.move rfl ?_
         refine VL.move rfl ?_
         refine VL.move rfl ?_
         refine VL.add rfl rfl (by simp only [InR]; omega) ?_
         refine VL.cut (off + 2) (off + 2 + pre2 (l.drop off)) rfl Try.underlying24 sz24 hA (by rfl) rfl (by rfl) rfl (.inr ⟨_, rfl⟩) (.inr ⟨_, rfl⟩) (by omega) (by omega) (fun p3 hA3 => ?_)
         have ek : off + 2 + pre2 (l.drop off) - (off + 2) = pre2 (l.drop off) := by omega
         rw [ek, ← List.drop_drop] at hA3
         rw [ek]
         refine VL.append 0 el24 rfl rfl rfl rfl (fun _ h => (hA3.now (s := ⟨w, keys H⟩) Mono.byte h (List.mem_cons_self ..)).bytes) (by rw [List.length_map, hpl, Nat.mul_one]) (ok1_bytes _) (by omega) (by omega) (fun g8 c8 => ?_)
         rw [Nat.zero_add]
         refine VL.letBytes (((l.drop off).drop 2).take (pre2 (l.drop off))) hpl.symm (by simp) (fun w8 hO8 hA8 => ?_)
         refine VL.assign rfl ?_
         refine VL.nn ?_
         refine VC.sr ?_
         refine VL.move rfl ?_
         refine VL.move rfl ?_
         refine VL.lit el31 rfl rfl rfl (by simp [Value.cells, rowV]) (by intro u hu; simp [Value.cells, rowV] at hu; subst hu; rfl) (fun g9 => ?_)
         refine VL.letOne (X := List UInt8) (R := bytesR) (y := (((l.drop off).drop 2).take (pre2 (l.drop off)))) (rowV g8 (pre2 (l.drop off)) c8) (fun w9 hO9 => ⟨_, c8, by rw [hpl]; rfl, hA8.now (s := ⟨w8, _⟩) Mono.byte hO9 (List.mem_cons_self ..)⟩) (fun w9 hO9 hA9 => ?_)
         refine VL.appends 0 el31 rfl rfl rfl (fun _ h => h) rfl (fun _ h => hA9.now (s := ⟨w9, _⟩) (Mono.slice Mono.byte) h (List.mem_cons_self ..)) (fun _ _ _ _ h => ok1_slices h) (by simp only [List.length_cons, List.length_nil]; omega) (fun g2 c2 => ?_) (by simp only [List.length_cons, List.length_nil]; omega)
         refine VL.assign rfl ?_
         refine VL.nn ?_
         refine VC.region ?_
         refine VL.move rfl ?_
         refine VL.move rfl ?_
         refine VL.add rfl rfl (by simp only [InR]; omega) ?_
         refine VL.assign rfl ?_
         refine VL.nil ?_
         refine VX.block_normal ?_
         refine VX.next ?_
         refine VC.region ?_
         refine VL.move rfl ?_
         refine VL.add rfl rfl (by simp only [InR]; omega) ?_
         refine VL.assign rfl ?_
         refine VL.nil ?_
         refine VX.round (i + 1, off + 2 + pre2 (l.drop off), acc ++ [(((l.drop off).drop 2).take (pre2 (l.drop off)))], g2, c2) ⟨rfl, rfl, rfl, rfl, trivial⟩ (fun w' h => ⟨⟨by omega, by simp; omega, by omega, ?_⟩, h.lose.lose⟩) (by show b0.toNat - (i + 1) < b0.toNat - i; omega)
         rw [hcut, List.drop_drop, List.drop_drop, ← Nat.add_assoc, show b0.toNat - i - 1 = b0.toNat - (i + 1) by omega]
    ·refine VL.nn ?_
     refine VC.no rfl ?_
     refine VC.exit ?_
     refine VX.then_exit ?_
     refine VX.then_exit ?_
     refine VX.block_here ?_
     refine VX.next ?_
     refine VC.seq ?_
     refine VC.sr ?_
     refine VL.move rfl ?_
     refine VL.move rfl ?_
     refine VL.len Try.underlying24 rfl rfl ?_
     refine VL.lss rfl rfl ?_
     refine VL.case (fun h22_3 => ?_) (fun h22_3 => ?_)
     ·refine VL.nn ?_
      refine VC.yes rfl ?_
      refine VC.sr ?_
      refine VL.assign rfl ?_
      refine VL.assign rfl ?_
      refine VL.nn ?_
      refine VC.ret ?_
      refine VX.then_ret ?_
      refine VX.ret2 rfl rfl rfl (fun w hw => ?_)
      have hs : splitB l = (21, []) := by rw [hcut, show b0.toNat - i = 0 by omega, cutB_done, if_neg (fun e => by have := congrArg List.length e; simp at this; omega)]
      exact ⟨hw.drop.lose, none, 0, by rw [hs]; rfl, by rw [hs]; exact Arr.none⟩
     ·refine VL.nn ?_
      refine VC.no rfl ?_
      refine VC.skip ?_
      refine VX.next ?_
      refine VC.sr ?_
      refine VL.move rfl ?_
      refine VL.assign rfl ?_
      refine VL.assign rfl ?_
      refine VL.nn ?_
      refine VC.ret ?_
      refine VX.ret2 rfl rfl rfl (fun w hw => ?_)
      have hs : splitB l = (0, acc) := by rw [hcut, show b0.toNat - i = 0 by omega, cutB_done, if_pos (List.eq_nil_of_length_eq_zero (by simp; omega))]
      have ha := hw.letArr
      exact ⟨hw.drop.lose, g.map fun g => ⟨g, 0, none⟩, c', by rw [hs]; rfl, by rw [hs]; exact ha⟩

end Go.Proofs.Ytcfecmoagfgnaaa

