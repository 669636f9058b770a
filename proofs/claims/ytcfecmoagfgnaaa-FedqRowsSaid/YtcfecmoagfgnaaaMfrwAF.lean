/- The statement FedqRows is proved, for every input: part 6 of 21 of the texts that it needs. -/
import Derived.Test.YtcfecmoagfgnaaaMfrwAE
import Derived.Carry
import Derived.OpenShut
import Derived.ProofKit
import Derived.WalkKit
/- What octet.Join and the reference join, by a walk through each. -/
namespace Go.Proofs.Ytcfecmoagfgnaaa
open Go.Vc Go.Pl

/-- What stands behind i pieces. -/
def acc (ls : List (List UInt8)) (i : Nat) : List UInt8 := UInt8.ofNat ls.length :: body (ls.take i)
theorem acc_succ (ls : List (List UInt8)) (i : Nat) (h : i < ls.length) : acc ls (i + 1) = acc ls i ++ (be 2 ls[i].length ++ ls[i]) := by
 unfold acc
 rw [List.take_succ_eq_append_getElem h, body_snoc]; rfl
theorem acc_le (ls : List (List UInt8)) (i : Nat) (h : ∀ j (hj : j < ls.length), j < i → ls[j].length ≤ 4096) : (acc ls i).length ≤ 1 + 4098 * i := by
 unfold acc
 have := body_le (ls := ls.take i) (fun p hp => by
  obtain ⟨j, hj, rfl⟩ := List.getElem_of_mem hp
  rw [List.getElem_take]
  have h1 : j < i ∧ j < ls.length := by simp at hj; omega
  exact h j h1.2 h1.1)
 have h2 : (ls.take i).length ≤ i := List.length_take_le _ _
 have h3 := Nat.mul_le_mul_left 4098 h2
 simp only [List.length_cons]; omega
theorem acc_done (ls : List (List UInt8)) : acc ls ls.length = joinB ls := by unfold acc joinB; rw [List.take_length]

theorem join_any {S : List Snap} {H : List Chunk} {w : World} (ho : Own S H w) {p : Option Addr} {ls : List (List UInt8)} {c : Nat} (hA : Arr 1 bytesR (keys H) w p ls c) : Calls Try.prog 30 #[.slice p ls.length c] w (Ret fun v w' => Own S H w' ∧ ((joinOk ls ∧ ∃ p c, v = .tuple #[.slice p (joinB ls).length c, .bool true] ∧ Bytes (keys H) w' p (joinB ls) c) ∨ (¬ joinOk ls ∧ v = .tuple #[.slice none 0 0, .bool false]))) := by
 refine enter (G := Own (⟨w, keys H⟩ :: S) H) ho.keep Try.func30 rfl Try.ntmps30 rfl ?_
 refine VC.sr ?_
 refine VL.assign rfl ?_
 refine VL.assign rfl ?_
 refine VL.nn ?_
 refine VC.seq ?_
 refine VC.sr ?_
 refine VL.move rfl ?_
 refine VL.len Try.underlying31 rfl rfl ?_
 refine VL.gtr rfl rfl ?_
 refine VL.case (fun h1_2 => ?_) (fun h1_2 => ?_)
 ·refine VL.nn ?_
  refine VC.yes rfl ?_
  refine VC.sr ?_
  refine VL.assign rfl ?_
  refine VL.assign rfl ?_
  refine VL.nn ?_
  refine VC.ret ?_
  refine VX.then_ret ?_
  refine VX.ret2 rfl rfl rfl (fun w hw => ?_)
  refine ⟨hw.lose, .inr ⟨fun h => absurd h.1 (by omega), rfl⟩⟩
 ·refine VL.nn ?_
  refine VC.no rfl ?_
  refine VC.skip ?_
  refine VX.next ?_
  refine VC.sr ?_
  refine VL.move rfl ?_
  refine VL.len Try.underlying31 rfl rfl ?_
  refine VL.conv (by rw [Try.underlying3]; rfl) Try.underlying5 rfl (by simp only [InR]; omega) ?_
  refine VL.lit el24 rfl rfl rfl (by simp [Value.cells]) (by intro u hu; simp [Value.cells] at hu; subst hu; rfl) (fun g => ?_)
  refine VL.assign rfl ?_
  refine VL.nn ?_
  refine VC.seq ?_
  refine VC.sr ?_
  refine VL.move rfl ?_
  refine VL.len Try.underlying31 rfl rfl ?_
  refine VL.move rfl ?_
  refine VL.nn ?_
  refine VC.block ?_
  refine VC.loop (X := Nat × Option Nat × Nat) (fun (i, g, c') => [(0, .slice p ls.length c), (14, .slice p ls.length c), (15, .int .i64 ls.length), (16, .int .i64 i), (4, rowV g (acc ls i).length c')]) (fun (i, g, c') w' => (i ≤ ls.length ∧ ∀ j (hj : j < ls.length), j < i → ls[j].length ≤ 4096) ∧ Own (⟨w, keys H⟩ :: S) (row 5 1 g (acc ls i).length c' ((acc ls i).map bv) :: H) w') (fun (i, _, _) => ls.length - i) (0, some g, 1) ⟨rfl, rfl, rfl, rfl, rfl, trivial⟩ (fun w' h => ⟨⟨Nat.zero_le _, fun j _ hj => absurd hj (Nat.not_lt_zero _)⟩, ?_⟩) (fun (i, g, c') => VC.fact fun hi => ?_)
  ·have e : acc ls 0 = [UInt8.ofNat ls.length] := by simp [acc, body]
   rw [e]
   simpa [← byte_val (show ls.length < 256 by omega), Value.cells] using h
  ·obtain ⟨hi, hsz⟩ := hi
   have hle := acc_le ls i hsz
   refine VC.sr ?_
   refine VL.lss rfl rfl ?_
   refine VL.case (fun h5_0 => ?_) (fun h5_0 => ?_)
   ·refine VL.nn ?_
    refine VC.seq ?_
    refine VC.yes rfl ?_
    refine VC.skip ?_
    refine VX.next ?_
    refine VC.seq ?_
    refine VC.block ?_
    refine VC.sr ?_
    have hlt : i < ls.length := by omega
    refine VL.index rfl rfl Try.underlying31 sz31 hA (by omega) (by omega) ?_
    refine VL.elem (s := ⟨w, keys H⟩) i 0 rfl kd24 (fun _ h => h) (List.mem_cons_self ..) (Mono.slice Mono.byte) hA (y := ls[i]) (by simp [hlt]) (by omega) (by omega) (fun vs v hl hr hv => ?_)
    obtain ⟨p3, c3, rfl, hA3⟩ := hr
    simp at hv
    subst hv
    refine VL.assign rfl ?_
    refine VL.nn ?_
    refine VC.seq ?_
    refine VC.sr ?_
    refine VL.move rfl ?_
    refine VL.len Try.underlying24 rfl rfl ?_
    refine VL.gtr rfl rfl ?_
    refine VL.case (fun h7_2 => ?_) (fun h7_2 => ?_)
    ·refine VL.nn ?_
     refine VC.yes rfl ?_
     refine VC.sr ?_
     refine VL.assign rfl ?_
     refine VL.assign rfl ?_
     refine VL.nn ?_
     refine VC.ret ?_
     refine VX.then_ret ?_
     refine VX.block_ret ?_
     refine VX.then_ret ?_
     refine VX.then_ret ?_
     refine VX.block_ret ?_
     refine VX.then_ret ?_
     refine VX.ret2 rfl rfl rfl (fun w hw => ?_)
     refine ⟨hw.drop.lose, .inr ⟨fun h => absurd (h.2 ls[i] (List.getElem_mem hlt)) (by omega), rfl⟩⟩
    ·refine VL.nn ?_
     refine VC.no rfl ?_
     refine VC.skip ?_
     refine VX.next ?_
     refine VC.sr ?_
     refine VL.move rfl ?_
     refine VL.move rfl ?_
     refine VL.len Try.underlying24 rfl rfl ?_
     refine VL.shr rfl rfl (by omega) (by simp only [IntKind.bits]; omega) ?_
     have e8 : (ls[i].length : Int) / 2 ^ (8 : Int).toNat = ((ls[i].length / 256 : Nat) : Int) := by
      have : (2 : Int) ^ (8 : Int).toNat = 256 := by decide
      rw [this]; rfl
     rw [e8]
     refine VL.convw (by rw [Try.underlying3]; rfl) Try.underlying5 rfl ?_
     rw [byte_wrap]
     refine VL.move rfl ?_
     refine VL.len Try.underlying24 rfl rfl ?_
     refine VL.convw (by rw [Try.underlying3]; rfl) Try.underlying5 rfl ?_
     rw [byte_wrap]
     refine VL.lit el24 rfl rfl rfl (by simp [Value.cells]) (by intro u hu; simp [Value.cells] at hu; rcases hu with rfl | rfl <;> rfl) (fun gl => ?_)
     refine VL.append 1 el24 rfl rfl rfl rfl (fun _ h => h.rowCells 0 rfl) (by simp [Value.cells]) (by intro u hu; simp [Value.cells] at hu; rcases hu with rfl | rfl <;> rfl) (by omega) (by omega) (fun g1 c1 => ?_)
     refine VL.turn (G' := Own (⟨w, keys H⟩ :: S) (row 5 1 g1 ((acc ls i).length + 2) c1 ((acc ls i).map bv ++ (be 2 ls[i].length).map bv) :: H)) (fun w' h => ?_) ?_
     ·have := h.drop
      simpa [be_two, bv, Value.cells] using this
     refine VL.assign rfl ?_
     refine VL.nn ?_
     refine VC.region ?_
     refine VL.move rfl ?_
     refine VL.move rfl ?_
     refine VL.append 0 el24 rfl rfl rfl rfl (fun _ h => (hA3.now (s := ⟨w, keys H⟩) Mono.byte h.drop (List.mem_cons_self ..)).bytes) (by simp) (ok1_bytes _) (by omega) (by omega) (fun g2 c2 => ?_)
     refine VL.assign rfl ?_
     refine VL.nil ?_
     refine VX.block_normal ?_
     refine VX.next ?_
     refine VC.region ?_
     refine VL.add rfl rfl (by simp only [InR]; omega) ?_
     refine VL.move rfl ?_
     refine VL.nil ?_
     refine VX.round (i + 1, g2, c2) ⟨rfl, rfl, rfl, rfl, ?_, trivial⟩ (fun w' h => ⟨⟨by omega, ?_⟩, ?_⟩) (by show ls.length - (i + 1) < ls.length - i; omega)
     ·show some _ = some _
      rw [acc_succ ls i hlt]
      simp only [List.length_append, be_length]
      rw [Nat.add_assoc]
     ·intro j hj hji
      by_cases e : j = i
      ·subst e; omega
      ·exact hsz j hj (by omega)
     ·have e : (acc ls (i + 1)).map bv = (acc ls i).map bv ++ (be 2 ls[i].length).map bv ++ ls[i].map bv := by
       rw [acc_succ ls i hlt, List.map_append, List.map_append, List.append_assoc]
      have e2 : (acc ls (i + 1)).length = (acc ls i).length + 2 + ls[i].length := by
       rw [acc_succ ls i hlt]
       simp only [List.length_append, be_length]
       omega
      rw [e, e2]
      exact h
   ·refine VL.nn ?_
    refine VC.seq ?_
    refine VC.no rfl ?_
    refine VC.exit ?_
    refine VX.then_exit ?_
    refine VX.then_exit ?_
    refine VX.block_here ?_
    refine VX.next ?_
    refine VC.sr ?_
    refine VL.move rfl ?_
    refine VL.assign rfl ?_
    refine VL.assign rfl ?_
    refine VL.nn ?_
    refine VC.ret ?_
    refine VX.ret2 rfl rfl rfl (fun w hw => ?_)
    have hil : i = ls.length := by omega
    have hok : joinOk ls := ⟨by omega, fun q hq => by
     obtain ⟨j, hj, rfl⟩ := List.getElem_of_mem hq
     exact hsz j hj (by omega)⟩
    rw [hil, acc_done] at hw
    have hb := hw.letBytes (l := joinB ls) rfl rfl
    refine ⟨hw.drop.lose, .inl ⟨hok, _, _, ?_, hb⟩⟩
    rw [hil, acc_done]; rfl

theorem refJoin_any {S : List Snap} {H : List Chunk} {w : World} (ho : Own S H w) {p : Option Addr} {ls : List (List UInt8)} {c : Nat} (hA : Arr 1 bytesR (keys H) w p ls c) : Calls Try.prog 31 #[.slice p ls.length c] w (Ret fun v w' => Own S H w' ∧ ((joinOk ls ∧ ∃ p c, v = .tuple #[.slice p (joinB ls).length c, .bool true] ∧ Bytes (keys H) w' p (joinB ls) c) ∨ (¬ joinOk ls ∧ v = .tuple #[.slice none 0 0, .bool false]))) := by
 refine enter (G := Own (⟨w, keys H⟩ :: S) H) ho.keep Try.func31 rfl Try.ntmps31 rfl ?_
 refine VC.sr ?_
 refine VL.assign rfl ?_
 refine VL.assign rfl ?_
 refine VL.nn ?_
 refine VC.seq ?_
 refine VC.sr ?_
 refine VL.move rfl ?_
 refine VL.len Try.underlying31 rfl rfl ?_
 refine VL.gtr rfl rfl ?_
 refine VL.case (fun h1_2 => ?_) (fun h1_2 => ?_)
 ·refine VL.nn ?_
  refine VC.yes rfl ?_
  refine VC.sr ?_
  refine VL.assign rfl ?_
  refine VL.assign rfl ?_
  refine VL.nn ?_
  refine VC.ret ?_
  refine VX.then_ret ?_
  refine VX.ret2 rfl rfl rfl (fun w hw => ?_)
  refine ⟨hw.lose, .inr ⟨fun h => absurd h.1 (by omega), rfl⟩⟩
 ·refine VL.nn ?_
  refine VC.no rfl ?_
  refine VC.skip ?_
  refine VX.next ?_
  refine VC.sr ?_
  refine VL.move rfl ?_
  refine VL.len Try.underlying31 rfl rfl ?_
  refine VL.conv (by rw [Try.underlying3]; rfl) Try.underlying5 rfl (by simp only [InR]; omega) ?_
  refine VL.lit el24 rfl rfl rfl (by simp [Value.cells]) (by intro u hu; simp [Value.cells] at hu; subst hu; rfl) (fun g => ?_)
  refine VL.assign rfl ?_
  refine VL.nn ?_
  refine VC.seq ?_
  refine VC.sr ?_
  refine VL.assign rfl ?_
  refine VL.nn ?_
  refine VC.block ?_
  refine VC.loop (X := Nat × Option Nat × Nat) (fun (i, g, c') => [(0, .slice p ls.length c), (5, .int .i64 i), (4, rowV g (acc ls i).length c')]) (fun (i, g, c') w' => (i ≤ ls.length ∧ ∀ j (hj : j < ls.length), j < i → ls[j].length ≤ 4096) ∧ Own (⟨w, keys H⟩ :: S) (row 5 1 g (acc ls i).length c' ((acc ls i).map bv) :: H) w') (fun (i, _, _) => ls.length - i) (0, some g, 1) ⟨rfl, rfl, rfl, trivial⟩ (fun w' h => ⟨⟨Nat.zero_le _, fun j _ hj => absurd hj (Nat.not_lt_zero _)⟩, ?_⟩) (fun (i, g, c') => VC.fact fun hi => ?_)
  ·have e : acc ls 0 = [UInt8.ofNat ls.length] := by simp [acc, body]
   rw [e]
   simpa [← byte_val (show ls.length < 256 by omega), Value.cells] using h
  ·obtain ⟨hi, hsz⟩ := hi
   have hle := acc_le ls i hsz
   refine VC.seq ?_
   refine VC.sr ?_
   refine VL.move rfl ?_
   refine VL.move rfl ?_
   refine VL.len Try.underlying31 rfl rfl ?_
   refine VL.lss rfl rfl ?_
   refine VL.case (fun h5_3 => ?_) (fun h5_3 => ?_)
   ·refine VL.nn ?_
    refine VC.yes rfl ?_
    refine VC.skip ?_
    refine VX.next ?_
    refine VC.seq ?_
    refine VC.block ?_
    refine VC.seq ?_
    refine VC.sr ?_
    refine VL.move rfl ?_
    refine VL.move rfl ?_
    have hlt : i < ls.length := by omega
    refine VL.index rfl rfl Try.underlying31 sz31 hA (by omega) (by omega) ?_
    refine VL.elem (s := ⟨w, keys H⟩) i 0 rfl kd24 (fun _ h => h) (List.mem_cons_self ..) (Mono.slice Mono.byte) hA (y := ls[i]) (by simp [hlt]) (by omega) (by omega) (fun vs v hl hr hv => ?_)
    obtain ⟨p3, c3, rfl, hA3⟩ := hr
    simp at hv
    subst hv
    refine VL.len Try.underlying24 rfl rfl ?_
    refine VL.gtr rfl rfl ?_
    refine VL.case (fun h7_5 => ?_) (fun h7_5 => ?_)
    ·refine VL.nn ?_
     refine VC.yes rfl ?_
     refine VC.sr ?_
     refine VL.assign rfl ?_
     refine VL.assign rfl ?_
     refine VL.nn ?_
     refine VC.ret ?_
     refine VX.then_ret ?_
     refine VX.block_ret ?_
     refine VX.then_ret ?_
     refine VX.then_ret ?_
     refine VX.block_ret ?_
     refine VX.then_ret ?_
     refine VX.ret2 rfl rfl rfl (fun w hw => ?_)
     refine ⟨hw.drop.lose, .inr ⟨fun h => absurd (h.2 ls[i] (List.getElem_mem hlt)) (by omega), rfl⟩⟩
    ·refine VL.nn ?_
     refine VC.no rfl ?_
     refine VC.skip ?_
     refine VX.next ?_
     refine VC.sr ?_
     refine VL.move rfl ?_
     refine VL.move rfl ?_
     refine VL.move rfl ?_
     refine VL.index rfl rfl Try.underlying31 sz31 hA (by omega) (by omega) ?_
     refine VL.elem (s := ⟨w, keys H⟩) i 0 rfl kd24 (fun _ h => h) (List.mem_cons_self ..) (Mono.slice Mono.byte) hA (y := ls[i]) (by simp [hlt]) (by omega) (by omega) (fun vs v hl hr hv => ?_)
     obtain ⟨p4, c4, rfl, hA4⟩ := hr
     simp at hv
     subst hv
     refine VL.len Try.underlying24 rfl rfl ?_
     refine VL.call Try.func108 rfl (by decide) rfl (fun w' hw => num_any hw ls[i].length 2 (by omega) (by omega) (by omega) (fits_two (by omega))) (fun v => ?_)
     refine VL.at (fun w1 h1w => ?_)
     obtain ⟨hO, pn, cn, rfl, hN⟩ := h1w
     refine VL.toOwn hO ?_
     refine VL.append 0 el24 rfl rfl rfl rfl (fun _ h => (hN.now (s := ⟨w1, _⟩) Mono.byte h (List.mem_cons_self ..)).bytes) (by simp [be_length]) (ok1_bytes _) (by omega) (by omega) (fun g1 c1 => ?_)
     refine VL.assign rfl ?_
     refine VL.nn ?_
     refine VC.region ?_
     refine VL.move rfl ?_
     refine VL.move rfl ?_
     refine VL.move rfl ?_
     refine VL.index rfl rfl Try.underlying31 sz31 hA (by omega) (by omega) ?_
     refine VL.elem (s := ⟨w, keys H⟩) i 0 rfl kd24 (fun _ h => h) (List.mem_cons_of_mem _ (List.mem_cons_self ..)) (Mono.slice Mono.byte) hA (y := ls[i]) (by simp [hlt]) (by omega) (by omega) (fun vs v hl hr hv => ?_)
     obtain ⟨p5, c5, rfl, hA5⟩ := hr
     simp at hv
     subst hv
     refine VL.append 0 el24 rfl rfl rfl rfl (fun _ h => (hA5.now (s := ⟨w, keys H⟩) Mono.byte h.drop (List.mem_cons_of_mem _ (List.mem_cons_self ..))).bytes) (by simp) (ok1_bytes _) (by omega) (by omega) (fun g2 c2 => ?_)
     refine VL.assign rfl ?_
     refine VL.nil ?_
     refine VX.block_normal ?_
     refine VX.next ?_
     refine VC.region ?_
     refine VL.move rfl ?_
     refine VL.add rfl rfl (by simp only [InR]; omega) ?_
     refine VL.assign rfl ?_
     refine VL.nil ?_
     refine VX.round (i + 1, g2, c2) ⟨rfl, rfl, ?_, trivial⟩ (fun w' h => ⟨⟨by omega, ?_⟩, ?_⟩) (by show ls.length - (i + 1) < ls.length - i; omega)
     ·show some _ = some _
      rw [acc_succ ls i hlt]
      simp only [List.length_append, be_length]
      rw [Nat.add_assoc]
     ·intro j hj hji
      by_cases e : j = i
      ·subst e; omega
      ·exact hsz j hj (by omega)
     ·have e : (acc ls (i + 1)).map bv = (acc ls i).map bv ++ (be 2 ls[i].length).map bv ++ ls[i].map bv := by
       rw [acc_succ ls i hlt, List.map_append, List.map_append, List.append_assoc]
      have e2 : (acc ls (i + 1)).length = (acc ls i).length + 2 + ls[i].length := by
       rw [acc_succ ls i hlt]
       simp only [List.length_append, be_length]
       omega
      rw [e, e2]
      exact h.lose
   ·refine VL.nn ?_
    refine VC.no rfl ?_
    refine VC.exit ?_
    refine VX.then_exit ?_
    refine VX.then_exit ?_
    refine VX.block_here ?_
    refine VX.next ?_
    refine VC.sr ?_
    refine VL.move rfl ?_
    refine VL.assign rfl ?_
    refine VL.assign rfl ?_
    refine VL.nn ?_
    refine VC.ret ?_
    refine VX.ret2 rfl rfl rfl (fun w hw => ?_)
    have hil : i = ls.length := by omega
    have hok : joinOk ls := ⟨by omega, fun q hq => by
     obtain ⟨j, hj, rfl⟩ := List.getElem_of_mem hq
     exact hsz j hj (by omega)⟩
    rw [hil, acc_done] at hw
    have hb := hw.letBytes (l := joinB ls) rfl rfl
    refine ⟨hw.drop.lose, .inl ⟨hok, _, _, ?_, hb⟩⟩
    rw [hil, acc_done]; rfl

theorem all_any {S : List Snap} {H : List Chunk} {w : World} (ho : Own S H w) {p : Option Addr} {ls : List (List UInt8)} {c : Nat} (hA : Arr 1 bytesR (keys H) w p ls c) (hok : joinOk ls) : Calls Try.prog 120 #[.slice p ls.length c] w (Ret fun v w' => Own S H w' ∧ ∃ p c, v = .slice p (joinB ls).length c ∧ Bytes (keys H) w' p (joinB ls) c) := by
 refine enter (G := Own (⟨w, keys H⟩ :: S) H) ho.keep Try.func120 rfl Try.ntmps120 rfl ?_
 refine VC.sr ?_
 refine VL.assign rfl ?_
 refine VL.nn ?_
 refine VC.sr ?_
 refine VL.move rfl ?_
 refine VL.call Try.func31 rfl (by decide) rfl (fun w' hw => refJoin_any hw (hA.now (s := ⟨w, keys H⟩) (Mono.slice Mono.byte) hw (List.mem_cons_self ..))) (fun v => ?_)
 refine VL.at (fun w1 h1w => ?_)
 obtain ⟨hO, ⟨_, pn, cn, rfl, hN⟩ | ⟨hno, _⟩⟩ := h1w
 rotate_left
 ·exact absurd hok hno
 refine VL.toOwn hO ?_
 refine VL.move rfl ?_
 refine VL.extract rfl rfl ?_
 refine VL.extract rfl rfl ?_
 refine VL.assign rfl ?_
 refine VL.assign rfl ?_
 refine VL.nn ?_
 refine VC.sr ?_
 refine VL.move rfl ?_
 refine VL.assign rfl ?_
 refine VL.nn ?_
 refine VC.ret ?_
 refine VX.ret1 rfl rfl (fun w hw => ?_)
 refine ⟨hw.lose.lose, pn, cn, rfl, ?_⟩
 exact hN.now (s := ⟨w1, keys H⟩) Mono.byte hw (List.mem_cons_self ..)

end Go.Proofs.Ytcfecmoagfgnaaa

/- What octet.Split and the reference split compute: by a walk through each. -/
namespace Go.Proofs.Ytcfecmoagfgnaaa
open Go.Vc Go.Pl

/-- A row of byte slices that the call makes. -/
abbrev brow (g : Option Nat) (c : Nat) (ls : List (List UInt8)) : Chunk := arow 24 1 bytesR (Mono.slice Mono.byte) g c ls

inductive SpJ where
  | wrong (e : Nat)
  | fin (r : List UInt8) (p : Option Addr) (c : Nat) (acc : List (List UInt8)) (g : Option Nat) (c' : Nat)
  | next (k : Nat) (r : List UInt8) (p : Option Addr) (c : Nat) (acc : List (List UInt8)) (g : Option Nat) (c' : Nat)
def SpJ.lab : SpJ → Nat
  | .wrong _ => 0
  | .fin .. => 1
  | .next .. => 2
def SpJ.st : SpJ → Sl
  | .wrong e => [(7, .int .i64 e)]
  | .fin r p c acc g c' => [(0, .slice p r.length c), (4, rowV g acc.length c')]
  | .next k r p c acc g c' => [(0, .slice p r.length c), (4, rowV g acc.length c'), (5, .int .i64 k), (7, .int .i64 20)]
def SpJ.μ : SpJ → Nat
  | .wrong _ => 0
  | .fin .. => 1
  | .next k .. => k + 2
def SpJ.inv (l : List UInt8) (S : List Snap) (H : List Chunk) (w : World) : SpJ → World → Prop
  | .wrong e, w' => splitB l = (e, []) ∧ Own (⟨w, keys H⟩ :: S) H w'
  | .fin r p c acc g c', w' => (splitB l = cutB 0 r acc ∧ Bytes (keys H) w p r c) ∧ Own (⟨w, keys H⟩ :: S) (brow g c' acc :: H) w'
  | .next k r p c acc g c', w' => (splitB l = cutB k r acc ∧ Bytes (keys H) w p r c ∧ acc.length + k ≤ 64) ∧ Own (⟨w, keys H⟩ :: S) (brow g c' acc :: H) w'

theorem split_any {S : List Snap} {H : List Chunk} {w : World} (ho : Own S H w) {p : Option Addr} {l : List UInt8} {c : Nat} (hA : Bytes (keys H) w p l c) : Calls Try.prog 32 #[.slice p l.length c] w (Ret fun v w' => Own S H w' ∧ ∃ p' c', v = .tuple #[.slice p' (splitB l).2.length c', .int .i64 (splitB l).1] ∧ Arr 1 bytesR (keys H) w' p' (splitB l).2 c') := by
 refine enter (G := Own (⟨w, keys H⟩ :: S) H) ho.keep Try.func32 rfl Try.ntmps32 rfl ?_
 refine VC.sr ?_
 refine VL.assign rfl ?_
 refine VL.assign rfl ?_
 refine VL.nn ?_
 refine VC.labels SpJ.lab SpJ.st (SpJ.inv l S H w) SpJ.μ ?_ ?_
 ·show VC _ _ _ _ _ _
  refine VC.sr ?_
  refine VL.assign rfl ?_
  refine VL.nn ?_
  refine VC.sr ?_
  refine VL.assign rfl ?_
  refine VL.assign rfl ?_
  refine VL.nn ?_
  refine VC.sr ?_
  refine VL.assign rfl ?_
  refine VL.nn ?_
  refine VC.seq ?_
  refine VC.sr ?_
  refine VL.move rfl ?_
  refine VL.len Try.underlying24 rfl rfl ?_
  refine VL.eql rfl rfl ?_
  refine VL.case (fun h4_2 => ?_) (fun h4_2 => ?_)
  ·refine VL.nn ?_
   refine VC.yes rfl ?_
   refine VC.goto ?_
   refine VX.then_goto ?_
   refine VX.jump (SpJ.wrong 20) rfl ⟨rfl, trivial⟩ (fun w' h => ⟨by rw [List.eq_nil_of_length_eq_zero (show l.length = 0 by omega)]; rfl, h⟩) (by first | trivial | (show 0 < _; simp [SpJ.μ]))
  ·refine VL.nn ?_
   refine VC.no rfl ?_
   refine VC.skip ?_
   refine VX.next ?_
   refine VC.seq ?_
   obtain ⟨b0, r0, hl⟩ : ∃ b0 r0, l = b0 :: r0 := by
    cases l with
    | nil => exact absurd rfl h4_2
    | cons b r => exact ⟨b, r, rfl⟩
   have hb0 : l[0]? = some b0 := by rw [hl]; rfl
   have hd1 : l.drop 1 = r0 := by rw [hl]; rfl
   have hll : 0 < l.length := by omega
   have hlt := b0.toNat_lt
   apply VC.anyA 1008 (F := [eqF _, eqF _, eqF _, eqF _, eqF _, arrS ⟨w, keys H⟩ 1 byteR (l.drop 1), eqF _, arrS ⟨w, keys H⟩ 1 byteR (l.drop 1)]) [⟨[], [0]⟩, ⟨[(11, 0)], []⟩, ⟨[(12, 1)], []⟩, ⟨[(13, 2)], []⟩, ⟨[], [0]⟩, ⟨[(15, 4)], []⟩, ⟨[(14, 3)], []⟩, ⟨[(16, 5)], []⟩] [(5, 6), (0, 7)] [2, 3, 4, 6, 7, 8, 9, 10, 17, 18, 19, 20, 21, 22, 23, 24, 25, 26, 27, 28, 29, 30, 31, 32, 33, 34, 35, 36, 37, 38, 39, 40, 41, 42, 43, 44, 45, 46, 47, 48, 49, 50, 51, 52, 53, 54, 55, 56, 57, 58] rfl (by kernel_rfl) (by kernel_rfl) (by kernel_rfl) (by kernel_rfl) rfl ?obs5 ?end5
   case obs5 =>
    refine Obs.cons ?_ ?_
    ·refine obS (by kernel_rfl) rfl rfl (fun ph5 w5 hO5 => ?_)
     refine VL.move rfl ?_
     exact VL.finS hO5 rfl rfl
    refine Obs.cons ?_ ?_
    ·refine obS (by kernel_rfl) rfl rfl (fun ph5 w5 hO5 => ?_)
     rintro _ rfl
     refine VL.index rfl rfl Try.underlying24 sz24 hA (by omega) (by omega) ?_
     exact VL.finS hO5 rfl rfl
    refine Obs.cons ?_ ?_
    ·refine ob (by kernel_rfl) rfl (by kernel_rfl) rfl (fun w5 hO5 => ?_)
     rintro _ rfl
     refine VL.byte (s := ⟨w, keys H⟩) rfl kd5 (fun _ e => e ▸ hO5) (List.mem_cons_self ..) hA (y := b0) hb0 ?_
     exact VL.finS hO5 rfl rfl
    refine Obs.cons ?_ ?_
    ·refine obS (by kernel_rfl) rfl rfl (fun ph5 w5 hO5 => ?_)
     rintro _ rfl
     refine VL.conv (by rw [Try.underlying5]; rfl) Try.underlying3 rfl (by simp only [InR]; omega) ?_
     exact VL.finS hO5 rfl rfl
    refine Obs.cons ?_ ?_
    ·refine obS (by kernel_rfl) rfl rfl (fun ph5 w5 hO5 => ?_)
     refine VL.move rfl ?_
     exact VL.finS hO5 rfl rfl
    refine Obs.cons ?_ ?_
    ·refine obS (by kernel_rfl) rfl rfl (fun ph5 w5 hO5 => ?_)
     rintro _ rfl
     refine VL.dropS 1 rfl rfl Try.underlying24 sz24 hA (by omega) (fun p1 hA1 => ?_)
     exact VL.finS hO5 rfl ⟨_, _, rfl, hA1⟩
    refine Obs.cons ?_ ?_
    ·refine obS (by kernel_rfl) rfl rfl (fun ph5 w5 hO5 => ?_)
     rintro _ rfl
     refine VL.assign rfl ?_
     exact VL.finS hO5 rfl rfl
    refine Obs.cons ?_ ?_
    ·refine obS (by kernel_rfl) rfl rfl (fun ph5 w5 hO5 => ?_)
     rintro _ ⟨p1, c1, rfl, hA1⟩
     refine VL.assign rfl ?_
     exact VL.finS hO5 rfl ⟨_, _, rfl, hA1⟩
    exact Obs.nil
   case end5 =>
    intro w5 hO5
    rintro _ rfl _ ⟨p1, c1, rfl, hA1⟩
    refine VX.backOwn hO5 ?_
    refine VX.next ?_
    refine VC.seq ?_
    refine VC.sr ?_
    refine VL.move rfl ?_
    refine VL.gtr rfl rfl ?_
    refine VL.case (fun h6_1 => ?_) (fun h6_1 => ?_)
    ·refine VL.nn ?_
     refine VC.yes rfl ?_
     refine VC.sr ?_
     refine VL.assign rfl ?_
     refine VL.nn ?_
     refine VC.goto ?_
     refine VX.then_goto ?_
     refine VX.jump (SpJ.wrong 4) rfl ⟨rfl, trivial⟩ (fun w' h => ⟨by rw [hl, splitB_cons, if_pos (by omega)], h⟩) (by first | trivial | (show 0 < _; simp [SpJ.μ]))
    ·refine VL.nn ?_
     refine VC.no rfl ?_
     refine VC.skip ?_
     refine VX.next ?_
     refine VC.seq ?_
     suffices hx : ∀ (k : Nat) (r : List UInt8) (p : Option Addr) (c : Nat) (acc : List (List UInt8)) (g : Option Nat) (c' : Nat), VC _ _ _ _ (SpJ.st (.next k r p c acc g c')) (SpJ.inv l S H w (.next k r p c acc g c')) from VC.turn (fun w' h => show SpJ.inv l S H w (.next b0.toNat (l.drop 1) p1 c1 [] none 0) w' from ⟨⟨by rw [hd1, hl, splitB_cons, if_neg (by omega)], hA1, by simp; omega⟩, h.arow_nil (Mono.slice Mono.byte) 24 1⟩) (VC.weaken (SpJ.st (.next b0.toNat (l.drop 1) p1 c1 [] none 0)) ⟨rfl, rfl, rfl, rfl, trivial⟩ (hx _ _ _ _ _ _ _))
     intro k r p c acc g c'
     refine VC.fact fun ⟨hcut, hB, hk⟩ => ?_
     refine VC.label ?_
     refine VX.next ?_
     refine VC.seq ?_
     refine VC.sr ?_
     refine VL.move rfl ?_
     refine VL.eql rfl rfl ?_
     refine VL.case (fun h8_1 => ?_) (fun h8_1 => ?_)
     ·refine VL.nn ?_
      refine VC.yes rfl ?_
      refine VC.goto ?_
      refine VX.then_goto ?_
      refine VX.jump (SpJ.fin r p c acc g c') rfl ⟨rfl, rfl, trivial⟩ (fun w' h => ⟨⟨by rw [hcut]; congr 1; omega, hB⟩, h⟩) (by first | trivial | (show 1 < _; simp [SpJ.μ]))
     ·refine VL.nn ?_
      refine VC.no rfl ?_
      refine VC.skip ?_
      refine VX.next ?_
      refine VC.seq ?_
      refine VC.seq ?_
      obtain ⟨k, rfl⟩ : ∃ k2, k = k2 + 1 := ⟨k - 1, by omega⟩
      refine VC.region ?_
      refine VL.move rfl ?_
      refine VL.len Try.underlying24 rfl rfl ?_
      refine VL.lss rfl rfl ?_
      refine VL.case (fun h9_2 => ?_) (fun h9_2 => ?_)
      ·refine VL.nn ?_
       refine VC.yes rfl ?_
       refine VC.goto ?_
       refine VX.then_goto ?_
       refine VX.jump (SpJ.wrong 20) rfl ⟨rfl, trivial⟩ (fun w' h => ⟨by rw [hcut, cutB_short (by omega)], h.drop⟩) (by first | trivial | (show 0 < _; simp [SpJ.μ]))
      ·refine VL.nn ?_
       refine VC.no rfl ?_
       refine VC.skip ?_
       refine VX.next ?_
       refine VC.seq ?_
       have hr2 : 2 ≤ r.length := by omega
       have hr0 : r[0]? = some (r.getD 0 0) := by simp [List.getD, List.getElem?_eq_getElem (show 0 < r.length by omega)]
       have hr1 : r[1]? = some (r.getD 1 0) := by simp [List.getD, List.getElem?_eq_getElem (show 1 < r.length by omega)]
       have hv0 := (r.getD 0 0).toNat_lt
       have hv1 := (r.getD 1 0).toNat_lt
       rw [cutB_next hr2] at hcut
       apply VC.anyA 1014 (F := [eqF _, eqF _, eqF _, eqF _, eqF _, eqF _, eqF _, eqF _, eqF _, eqF (.int .i64 ((pre2 r : Nat) : Int)), eqF _, arrS ⟨w, keys H⟩ 1 byteR (r.drop 2), eqF _, arrS ⟨w, keys H⟩ 1 byteR (r.drop 2)]) [⟨[], [0]⟩, ⟨[(24, 0)], []⟩, ⟨[(25, 1)], []⟩, ⟨[(26, 2)], []⟩, ⟨[(27, 3)], []⟩, ⟨[], [0]⟩, ⟨[(29, 5)], []⟩, ⟨[(30, 6)], []⟩, ⟨[(31, 7)], []⟩, ⟨[(28, 4), (32, 8)], []⟩, ⟨[], [0]⟩, ⟨[(34, 10)], []⟩, ⟨[(33, 9)], []⟩, ⟨[(35, 11)], []⟩] [(6, 12), (0, 13)] [2, 3, 4, 5, 7, 8, 9, 10, 11, 12, 13, 14, 15, 16, 17, 18, 19, 20, 21, 22, 23, 36, 37, 38, 39, 40, 41, 42, 43, 44, 45, 46, 47, 48, 49, 50, 51, 52, 53, 54, 55, 56, 57, 58] rfl (by kernel_rfl) (by kernel_rfl) (by kernel_rfl) (by kernel_rfl) rfl ?obs10 ?end10
       case obs10 =>
        refine Obs.cons ?_ ?_
        ·refine obS (by kernel_rfl) rfl rfl (fun ph10 w10 hO10 => ?_)
         refine VL.move rfl ?_
         exact VL.finS hO10 rfl rfl
        refine Obs.cons ?_ ?_
        ·refine obS (by kernel_rfl) rfl rfl (fun ph10 w10 hO10 => ?_)
         rintro _ rfl
         refine VL.index rfl rfl Try.underlying24 sz24 hB (by omega) (by omega) ?_
         exact VL.finS hO10 rfl rfl
        refine Obs.cons ?_ ?_
        ·refine ob (by kernel_rfl) rfl (by kernel_rfl) rfl (fun w10 hO10 => ?_)
         rintro _ rfl
         refine VL.byte (s := ⟨w, keys H⟩) rfl kd5 (fun _ e => e ▸ hO10) (List.mem_cons_self ..) hB (y := r.getD 0 0) hr0 ?_
         exact VL.finS hO10 rfl rfl
        refine Obs.cons ?_ ?_
        ·refine obS (by kernel_rfl) rfl rfl (fun ph10 w10 hO10 => ?_)
         rintro _ rfl
         refine VL.conv (by rw [Try.underlying5]; rfl) Try.underlying3 rfl (by simp only [InR]; omega) ?_
         exact VL.finS hO10 rfl rfl
        refine Obs.cons ?_ ?_
        ·refine obS (by kernel_rfl) rfl rfl (fun ph10 w10 hO10 => ?_)
         rintro _ rfl
         refine VL.shl rfl rfl (by omega) (by simp only [IntKind.bits]; omega) ?_
         rw [i64_shl8 _ (by omega)]
         exact VL.finS hO10 rfl rfl
        refine Obs.cons ?_ ?_
        ·refine obS (by kernel_rfl) rfl rfl (fun ph10 w10 hO10 => ?_)
         refine VL.move rfl ?_
         exact VL.finS hO10 rfl rfl
        refine Obs.cons ?_ ?_
        ·refine obS (by kernel_rfl) rfl rfl (fun ph10 w10 hO10 => ?_)
         rintro _ rfl
         refine VL.index rfl rfl Try.underlying24 sz24 hB (by omega) (by omega) ?_
         exact VL.finS hO10 rfl rfl
        refine Obs.cons ?_ ?_
        ·refine ob (by kernel_rfl) rfl (by kernel_rfl) rfl (fun w10 hO10 => ?_)
         rintro _ rfl
         refine VL.byte (s := ⟨w, keys H⟩) rfl kd5 (fun _ e => e ▸ hO10) (List.mem_cons_self ..) hB (y := r.getD 1 0) hr1 ?_
         exact VL.finS hO10 rfl rfl
        refine Obs.cons ?_ ?_
        ·refine obS (by kernel_rfl) rfl rfl (fun ph10 w10 hO10 => ?_)
         rintro _ rfl
         refine VL.conv (by rw [Try.underlying5]; rfl) Try.underlying3 rfl (by simp only [InR]; omega) ?_
         exact VL.finS hO10 rfl rfl
        refine Obs.cons ?_ ?_
        ·refine obS (by kernel_rfl) rfl rfl (fun ph10 w10 hO10 => ?_)
         rintro _ rfl _ rfl
         refine VL.bits (.inr (.inl rfl)) rfl rfl ?_
         rw [i64_or_byte _ _ (by omega) (by omega)]
         exact VL.finS hO10 rfl rfl
        refine Obs.cons ?_ ?_
        ·refine obS (by kernel_rfl) rfl rfl (fun ph10 w10 hO10 => ?_)
         refine VL.move rfl ?_
         exact VL.finS hO10 rfl rfl
        refine Obs.cons ?_ ?_
        ·refine obS (by kernel_rfl) rfl rfl (fun ph10 w10 hO10 => ?_)
         rintro _ rfl
         refine VL.dropS 2 rfl rfl Try.underlying24 sz24 hB (by omega) (fun p2 hB2 => ?_)
         exact VL.finS hO10 rfl ⟨_, _, rfl, hB2⟩
        refine Obs.cons ?_ ?_
        ·refine obS (by kernel_rfl) rfl rfl (fun ph10 w10 hO10 => ?_)
         rintro _ rfl
         refine VL.assign rfl ?_
         exact VL.finS hO10 rfl rfl
        refine Obs.cons ?_ ?_
        ·refine obS (by kernel_rfl) rfl rfl (fun ph10 w10 hO10 => ?_)
         rintro _ ⟨p2, c2, rfl, hB2⟩
         refine VL.assign rfl ?_
         exact VL.finS hO10 rfl ⟨_, _, rfl, hB2⟩
        exact Obs.nil
       case end10 =>
        intro w10 hO10
        rintro _ rfl _ ⟨p2, c2, rfl, hB2⟩
        refine VX.backOwn hO10 ?_
        refine VX.next ?_
        refine VC.seq ?_
        refine VC.sr ?_
        refine VL.move rfl ?_
        refine VL.gtr rfl rfl ?_
        refine VL.case (fun h11_1 => ?_) (fun h11_1 => ?_)
        ·refine VL.nn ?_
         refine VC.yes rfl ?_
         refine VC.sr ?_
         refine VL.assign rfl ?_
         refine VL.nn ?_
         refine VC.goto ?_
         refine VX.then_goto ?_
         refine VX.jump (SpJ.wrong 5) rfl ⟨rfl, trivial⟩ (fun w' h => ⟨by rw [hcut, if_pos (by omega)], h.drop⟩) (by first | trivial | (show 0 < _; simp [SpJ.μ]))
        ·refine VL.nn ?_
         refine VC.no rfl ?_
         refine VC.skip ?_
         refine VX.next ?_
         refine VC.seq ?_
         refine VC.sr ?_
         refine VL.move rfl ?_
         refine VL.move rfl ?_
         refine VL.len Try.underlying24 rfl rfl ?_
         refine VL.gtr rfl rfl ?_
         refine VL.case (fun h13_3 => ?_) (fun h13_3 => ?_)
         ·refine VL.nn ?_
          refine VC.yes rfl ?_
          refine VC.goto ?_
          refine VX.then_goto ?_
          refine VX.jump (SpJ.wrong 20) rfl ⟨rfl, trivial⟩ (fun w' h => ⟨by rw [hcut, if_neg (by omega), if_pos (by omega)], h.drop⟩) (by first | trivial | (show 0 < _; simp [SpJ.μ]))
         ·refine VL.nn ?_
          refine VC.no rfl ?_
          refine VC.skip ?_
          refine VX.next ?_
          refine VC.seq ?_
          have hle : pre2 r ≤ (r.drop 2).length := by omega
          rw [if_neg (by omega), if_neg (by omega)] at hcut
          have hpl : ((r.drop 2).take (pre2 r)).length ≤ 4096 := by rw [List.length_take]; omega
          apply VC.anyA 6 (F := [eqF _, eqF _, eqF _, arrS ⟨w, keys H⟩ 1 byteR ((r.drop 2).take (pre2 r)), bytesF ((r.drop 2).take (pre2 r)), arrF 1 bytesR (Mono.slice Mono.byte) [((r.drop 2).take (pre2 r))], lateF (fun v w' => ∃ g6 c6, v = rowV g6 (acc ++ [((r.drop 2).take (pre2 r))]).length c6 ∧ Own (⟨w, keys H⟩ :: S) (brow g6 c6 (acc ++ [((r.drop 2).take (pre2 r))]) :: H) w'), eqF _, eqF _, arrS ⟨w, keys H⟩ 1 byteR ((r.drop 2).drop (pre2 r)), lateF (fun v w' => ∃ g6 c6, v = rowV g6 (acc ++ [((r.drop 2).take (pre2 r))]).length c6 ∧ Own (⟨w, keys H⟩ :: S) (brow g6 c6 (acc ++ [((r.drop 2).take (pre2 r))]) :: H) w'), arrS ⟨w, keys H⟩ 1 byteR ((r.drop 2).drop (pre2 r))]) [⟨[], [4]⟩, ⟨[], [0]⟩, ⟨[], [6]⟩, ⟨[(43, 1), (44, 2)], []⟩, ⟨[(45, 3)], []⟩, ⟨[(46, 4)], []⟩, ⟨[(42, 0), (47, 5)], []⟩, ⟨[], [0]⟩, ⟨[], [6]⟩, ⟨[(49, 7), (50, 8)], []⟩, ⟨[(48, 6)], []⟩, ⟨[(51, 9)], []⟩] [(4, 10), (0, 11)] [2, 3, 5, 6, 7, 8, 9, 10, 11, 12, 13, 14, 15, 16, 17, 18, 19, 20, 21, 22, 23, 24, 25, 26, 27, 28, 29, 30, 31, 32, 33, 34, 35, 36, 37, 38, 39, 40, 41, 52, 53, 54, 55, 56, 57, 58] rfl (by kernel_rfl) (by kernel_rfl) (by kernel_rfl) (by kernel_rfl) rfl ?obs14 ?end14
          case obs14 =>
           refine Obs.cons ?_ ?_
           ·refine obS (by kernel_rfl) rfl rfl (fun ph14 w14 hO14 => ?_)
            refine VL.move rfl ?_
            exact VL.finS hO14 rfl rfl
           refine Obs.cons ?_ ?_
           ·refine obS (by kernel_rfl) rfl rfl (fun ph14 w14 hO14 => ?_)
            refine VL.move rfl ?_
            exact VL.finS hO14 rfl rfl
           refine Obs.cons ?_ ?_
           ·refine obS (by kernel_rfl) rfl rfl (fun ph14 w14 hO14 => ?_)
            refine VL.move rfl ?_
            exact VL.finS hO14 rfl rfl
           refine Obs.cons ?_ ?_
           ·refine obS (by kernel_rfl) rfl rfl (fun ph14 w14 hO14 => ?_)
            rintro _ rfl _ rfl
            refine VL.takeS (pre2 r) rfl rfl Try.underlying24 sz24 hB2 hle (fun p3 hA3 => ?_)
            exact VL.finS hO14 rfl ⟨_, _, rfl, hA3⟩
           refine Obs.cons ?_ ?_
           ·refine ob (by kernel_rfl) rfl (by kernel_rfl) rfl (fun w14 hO14 => ?_)
            rintro _ ⟨p3, c3, rfl, hA3⟩
            refine VL.toOwn hO14 ?_
            refine VL.call Try.func109 rfl (by decide) rfl (fun w1 hw => clone_any hw (hA3.now (s := ⟨w, keys H⟩) Mono.byte hw (List.mem_cons_of_mem _ (List.mem_cons_self ..))) (by omega)) (fun v => ?_)
            exact VL.finO rfl (fun _ ⟨_, _, _, h, _⟩ => h) (fun _ ⟨p4, c4, e, _, h⟩ => ⟨p4, c4, e, h⟩)
           refine Obs.cons ?_ ?_
           ·refine ob (by kernel_rfl) rfl (by kernel_rfl) rfl (fun w14 hO14 => ?_)
            rintro _ ⟨p4, c4, rfl, hA4⟩
            refine VL.toOwn hO14 ?_
            refine VL.lit el31 rfl rfl rfl (by simp [Value.cells]) (by intro u hu; simp [Value.cells] at hu; subst hu; rfl) (fun g5 => ?_)
            exact VL.finO rfl (fun _ h => h.drop) (fun _ h => ⟨_, _, rfl, Own.letOne (v := .slice p4 ((r.drop 2).take (pre2 r)).length c4) h ⟨p4, c4, rfl, hA4.now (s := ⟨w14, _⟩) Mono.byte h.drop (List.mem_cons_self ..)⟩⟩)
           refine Obs.cons ?_ ?_
           ·refine obK (by kernel_rfl) rfl (fun w14 hO14 => ?_)
            rintro _ rfl _ ⟨p5, c5, rfl, hA5⟩
            refine VL.toOwn hO14 ?_
            refine VL.appends 0 el31 rfl rfl rfl (fun _ h => h) rfl (fun _ h => hA5.now (s := ⟨w14, _⟩) (Mono.slice Mono.byte) h (List.mem_cons_self ..)) (fun _ _ _ _ h => ok1_slices h) (by simp only [List.length_cons, List.length_nil]; omega) (fun g6 c6 => ?_) (by simp only [List.length_cons, List.length_nil]; omega)
            exact VL.finK rfl (fun _ h => h) (fun _ h => ⟨g6, c6, rfl, h.lose⟩)
           refine Obs.cons ?_ ?_
           ·refine obS (by kernel_rfl) rfl rfl (fun ph14 w14 hO14 => ?_)
            refine VL.move rfl ?_
            exact VL.finS hO14 rfl rfl
           refine Obs.cons ?_ ?_
           ·refine obS (by kernel_rfl) rfl rfl (fun ph14 w14 hO14 => ?_)
            refine VL.move rfl ?_
            exact VL.finS hO14 rfl rfl
           refine Obs.cons ?_ ?_
           ·refine obS (by kernel_rfl) rfl rfl (fun ph14 w14 hO14 => ?_)
            rintro _ rfl _ rfl
            refine VL.dropS (pre2 r) rfl rfl Try.underlying24 sz24 hB2 hle (fun p9 hB9 => ?_)
            exact VL.finS hO14 rfl ⟨_, _, rfl, hB9⟩
           refine Obs.cons ?_ ?_
           ·refine obS (by kernel_rfl) rfl rfl (fun ph14 w14 hO14 => ?_)
            rintro _ ⟨g6, c6, rfl, h6⟩
            refine VL.assign rfl ?_
            exact VL.finS hO14 rfl ⟨g6, c6, rfl, h6⟩
           refine Obs.cons ?_ ?_
           ·refine obS (by kernel_rfl) rfl rfl (fun ph14 w14 hO14 => ?_)
            rintro _ ⟨p9, c9, rfl, hB9⟩
            refine VL.assign rfl ?_
            exact VL.finS hO14 rfl ⟨_, _, rfl, hB9⟩
           exact Obs.nil
          case end14 =>
           intro w14 hO14
           rintro _ ⟨g6, c6, rfl, h6⟩ _ ⟨p9, c9, rfl, hB9⟩
           refine VX.turn (G' := Own (⟨w, keys H⟩ :: S) (brow g6 c6 (acc ++ [((r.drop 2).take (pre2 r))]) :: H)) (fun w' e => e ▸ h6) ?_
           refine VX.next ?_
           refine VC.sr ?_
           refine VL.move rfl ?_
           refine VL.sub rfl rfl (by simp only [InR]; omega) ?_
           refine VL.assign rfl ?_
           refine VL.nn ?_
           refine VC.seq ?_
           refine VC.goto ?_
           refine VX.then_goto ?_
           refine VX.jump (SpJ.next k ((r.drop 2).drop (pre2 r)) p9 c9 (acc ++ [((r.drop 2).take (pre2 r))]) g6 c6) rfl ⟨rfl, rfl, ?_, rfl, trivial⟩ (fun w' h => ⟨⟨hcut, hB9, by simp; omega⟩, h⟩) (by first | trivial | (show k + 2 < k + 1 + 2; omega))
           show some (Value.int .i64 _) = some (Value.int .i64 _)
           congr 2
           omega
 ·intro x
  cases x with
  | wrong e =>
   refine ⟨_, rfl, ?_⟩
   refine VC.fact fun hs => ?_
   refine VC.seq ?_
   refine VC.skip ?_
   refine VX.next ?_
   refine VC.sr ?_
   refine VL.move rfl ?_
   refine VL.assign rfl ?_
   refine VL.assign rfl ?_
   refine VL.nn ?_
   refine VC.ret ?_
   refine VX.jumps_ret ?_
   refine VX.ret2 rfl rfl rfl (fun w hw => ?_)
   exact ⟨hw.lose, none, 0, by rw [hs]; rfl, by rw [hs]; exact Arr.none⟩
  | fin r p c acc g c' =>
   refine ⟨_, rfl, ?_⟩
   refine VC.fact fun ⟨hcut, hB⟩ => ?_
   refine VC.seq ?_
   refine VC.skip ?_
   refine VX.next ?_
   refine VC.seq ?_
   refine VC.sr ?_
   refine VL.move rfl ?_
   refine VL.len Try.underlying24 rfl rfl ?_
   refine VL.eql rfl rfl ?_
   refine VL.case (fun h16_2 => ?_) (fun h16_2 => ?_)
   ·refine VL.nn ?_
    refine VC.yes rfl ?_
    refine VC.sr ?_
    refine VL.move rfl ?_
    refine VL.assign rfl ?_
    refine VL.assign rfl ?_
    refine VL.nn ?_
    refine VC.ret ?_
    refine VX.then_ret ?_
    refine VX.jumps_ret ?_
    refine VX.ret2 rfl rfl rfl (fun w hw => ?_)
    have hs : splitB l = (0, acc) := by rw [hcut, cutB_done, if_pos (List.eq_nil_of_length_eq_zero (by omega))]
    have ha := hw.letArr
    exact ⟨hw.drop.lose, g.map fun g => ⟨g, 0, none⟩, c', by rw [hs]; rfl, by rw [hs]; exact ha⟩
   ·refine VL.nn ?_
    refine VC.no rfl ?_
    refine VC.skip ?_
    refine VX.next ?_
    refine VC.seq ?_
    have hs : splitB l = (21, []) := by rw [hcut, cutB_done, if_neg (fun e => h16_2 (by rw [e]; rfl))]
    refine VC.turn (fun _ h => h.drop) ?_
    refine VC.region ?_
    refine VL.assign rfl ?_
    refine VL.nn ?_
    refine VC.seq ?_
    refine VC.label ?_
    refine VX.next ?_
    refine VC.sr ?_
    refine VL.move rfl ?_
    refine VL.assign rfl ?_
    refine VL.assign rfl ?_
    refine VL.nn ?_
    refine VC.ret ?_
    refine VX.jumps_ret ?_
    refine VX.ret2 rfl rfl rfl (fun w hw => ?_)
    exact ⟨hw.lose, none, 0, by rw [hs]; rfl, by rw [hs]; exact Arr.none⟩
  | next k r p c acc g c' =>
   refine ⟨_, rfl, ?_⟩
   refine VC.fact fun ⟨hcut, hB, hk⟩ => ?_
   refine VC.seq ?_
   refine VC.skip ?_
   refine VX.next ?_
   refine VC.seq ?_
   refine VC.sr ?_
   refine VL.move rfl ?_
   refine VL.eql rfl rfl ?_
   refine VL.case (fun h8_1 => ?_) (fun h8_1 => ?_)
   ·refine VL.nn ?_
    refine VC.yes rfl ?_
    refine VC.goto ?_
    refine VX.then_goto ?_
    refine VX.jump (SpJ.fin r p c acc g c') rfl ⟨rfl, rfl, trivial⟩ (fun w' h => ⟨⟨by rw [hcut]; congr 1; omega, hB⟩, h⟩) (by first | trivial | (show 1 < _; simp [SpJ.μ]))
   ·refine VL.nn ?_
    refine VC.no rfl ?_
    refine VC.skip ?_
    refine VX.next ?_
    refine VC.seq ?_
    refine VC.seq ?_
    obtain ⟨k, rfl⟩ : ∃ k2, k = k2 + 1 := ⟨k - 1, by omega⟩
    refine VC.region ?_
    refine VL.move rfl ?_
    refine VL.len Try.underlying24 rfl rfl ?_
    refine VL.lss rfl rfl ?_
    refine VL.case (fun h9_2 => ?_) (fun h9_2 => ?_)
    ·refine VL.nn ?_
     refine VC.yes rfl ?_
     refine VC.goto ?_
     refine VX.then_goto ?_
     refine VX.jump (SpJ.wrong 20) rfl ⟨rfl, trivial⟩ (fun w' h => ⟨by rw [hcut, cutB_short (by omega)], h.drop⟩) (by first | trivial | (show 0 < _; simp [SpJ.μ]))
    ·refine VL.nn ?_
     refine VC.no rfl ?_
     refine VC.skip ?_
     refine VX.next ?_
     refine VC.seq ?_
     have hr2 : 2 ≤ r.length := by omega
     have hr0 : r[0]? = some (r.getD 0 0) := by simp [List.getD, List.getElem?_eq_getElem (show 0 < r.length by omega)]
     have hr1 : r[1]? = some (r.getD 1 0) := by simp [List.getD, List.getElem?_eq_getElem (show 1 < r.length by omega)]
     have hv0 := (r.getD 0 0).toNat_lt
     have hv1 := (r.getD 1 0).toNat_lt
     rw [cutB_next hr2] at hcut
     apply VC.anyA 1014 (F := [eqF _, eqF _, eqF _, eqF _, eqF _, eqF _, eqF _, eqF _, eqF _, eqF (.int .i64 ((pre2 r : Nat) : Int)), eqF _, arrS ⟨w, keys H⟩ 1 byteR (r.drop 2), eqF _, arrS ⟨w, keys H⟩ 1 byteR (r.drop 2)]) [⟨[], [0]⟩, ⟨[(24, 0)], []⟩, ⟨[(25, 1)], []⟩, ⟨[(26, 2)], []⟩, ⟨[(27, 3)], []⟩, ⟨[], [0]⟩, ⟨[(29, 5)], []⟩, ⟨[(30, 6)], []⟩, ⟨[(31, 7)], []⟩, ⟨[(28, 4), (32, 8)], []⟩, ⟨[], [0]⟩, ⟨[(34, 10)], []⟩, ⟨[(33, 9)], []⟩, ⟨[(35, 11)], []⟩] [(6, 12), (0, 13)] [2, 3, 4, 5, 7, 8, 9, 10, 11, 12, 13, 14, 15, 16, 17, 18, 19, 20, 21, 22, 23, 36, 37, 38, 39, 40, 41, 42, 43, 44, 45, 46, 47, 48, 49, 50, 51, 52, 53, 54, 55, 56, 57, 58] rfl (by kernel_rfl) (by kernel_rfl) (by kernel_rfl) (by kernel_rfl) rfl ?obs10 ?end10
     case obs10 =>
      refine Obs.cons ?_ ?_
      ·refine obS (by kernel_rfl) rfl rfl (fun ph10 w10 hO10 => ?_)
       refine VL.move rfl ?_
       exact VL.finS hO10 rfl rfl
      refine Obs.cons ?_ ?_
      ·refine obS (by kernel_rfl) rfl rfl (fun ph10 w10 hO10 => ?_)
       rintro _ rfl
       refine VL.index rfl rfl Try.underlying24 sz24 hB (by omega) (by omega) ?_
       exact VL.finS hO10 rfl rfl
      refine Obs.cons ?_ ?_
      ·refine ob (by kernel_rfl) rfl (by kernel_rfl) rfl (fun w10 hO10 => ?_)
       rintro _ rfl
       refine VL.byte (s := ⟨w, keys H⟩) rfl kd5 (fun _ e => e ▸ hO10) (List.mem_cons_self ..) hB (y := r.getD 0 0) hr0 ?_
       exact VL.finS hO10 rfl rfl
      refine Obs.cons ?_ ?_
      ·refine obS (by kernel_rfl) rfl rfl (fun ph10 w10 hO10 => ?_)
       rintro _ rfl
       refine VL.conv (by rw [Try.underlying5]; rfl) Try.underlying3 rfl (by simp only [InR]; omega) ?_
       exact VL.finS hO10 rfl rfl
      refine Obs.cons ?_ ?_
      ·refine obS (by kernel_rfl) rfl rfl (fun ph10 w10 hO10 => ?_)
       rintro _ rfl
       refine VL.shl rfl rfl (by omega) (by simp only [IntKind.bits]; omega) ?_
       rw [i64_shl8 _ (by omega)]
       exact VL.finS hO10 rfl rfl
      refine Obs.cons ?_ ?_
      ·refine obS (by kernel_rfl) rfl rfl (fun ph10 w10 hO10 => ?_)
       refine VL.move rfl ?_
       exact VL.finS hO10 rfl rfl
      refine Obs.cons ?_ ?_
      ·refine obS (by kernel_rfl) rfl rfl (fun ph10 w10 hO10 => ?_)
       rintro _ rfl
       refine VL.index rfl rfl Try.underlying24 sz24 hB (by omega) (by omega) ?_
       exact VL.finS hO10 rfl rfl
      refine Obs.cons ?_ ?_
      ·refine ob (by kernel_rfl) rfl (by kernel_rfl) rfl (fun w10 hO10 => ?_)
       rintro _ rfl
       refine VL.byte (s := ⟨w, keys H⟩) rfl kd5 (fun _ e => e ▸ hO10) (List.mem_cons_self ..) hB (y := r.getD 1 0) hr1 ?_
       exact VL.finS hO10 rfl rfl
      refine Obs.cons ?_ ?_
      ·refine obS (by kernel_rfl) rfl rfl (fun ph10 w10 hO10 => ?_)
       rintro _ rfl
       refine VL.conv (by rw [Try.underlying5]; rfl) Try.underlying3 rfl (by simp only [InR]; omega) ?_
       exact VL.finS hO10 rfl rfl
      refine Obs.cons ?_ ?_
      ·refine obS (by kernel_rfl) rfl rfl (fun ph10 w10 hO10 => ?_)
       rintro _ rfl _ rfl
       refine VL.bits (.inr (.inl rfl)) rfl rfl ?_
       rw [i64_or_byte _ _ (by omega) (by omega)]
       exact VL.finS hO10 rfl rfl
      refine Obs.cons ?_ ?_
      ·refine obS (by kernel_rfl) rfl rfl (fun ph10 w10 hO10 => ?_)
       refine VL.move rfl ?_
       exact VL.finS hO10 rfl rfl
      refine Obs.cons ?_ ?_
      ·refine obS (by kernel_rfl) rfl rfl (fun ph10 w10 hO10 => ?_)
       rintro _ rfl
       refine VL.dropS 2 rfl rfl Try.underlying24 sz24 hB (by omega) (fun p2 hB2 => ?_)
       exact VL.finS hO10 rfl ⟨_, _, rfl, hB2⟩
      refine Obs.cons ?_ ?_
      ·refine obS (by kernel_rfl) rfl rfl (fun ph10 w10 hO10 => ?_)
       rintro _ rfl
       refine VL.assign rfl ?_
       exact VL.finS hO10 rfl rfl
      refine Obs.cons ?_ ?_
      ·refine obS (by kernel_rfl) rfl rfl (fun ph10 w10 hO10 => ?_)
       rintro _ ⟨p2, c2, rfl, hB2⟩
       refine VL.assign rfl ?_
       exact VL.finS hO10 rfl ⟨_, _, rfl, hB2⟩
      exact Obs.nil
     case end10 =>
      intro w10 hO10
      rintro _ rfl _ ⟨p2, c2, rfl, hB2⟩
      refine VX.backOwn hO10 ?_
      refine VX.next ?_
      refine VC.seq ?_
      refine VC.sr ?_
      refine VL.move rfl ?_
      refine VL.gtr rfl rfl ?_
      refine VL.case (fun h11_1 => ?_) (fun h11_1 => ?_)
      ·refine VL.nn ?_
       refine VC.yes rfl ?_
       refine VC.sr ?_
       refine VL.assign rfl ?_
       refine VL.nn ?_
       refine VC.goto ?_
       refine VX.then_goto ?_
       refine VX.jump (SpJ.wrong 5) rfl ⟨rfl, trivial⟩ (fun w' h => ⟨by rw [hcut, if_pos (by omega)], h.drop⟩) (by first | trivial | (show 0 < _; simp [SpJ.μ]))
      ·refine VL.nn ?_
       refine VC.no rfl ?_
       refine VC.skip ?_
       refine VX.next ?_
       refine VC.seq ?_
       refine VC.sr ?_
       refine VL.move rfl ?_
       refine VL.move rfl ?_
       refine VL.len Try.underlying24 rfl rfl ?_
       refine VL.gtr rfl rfl ?_
       refine VL.case (fun h13_3 => ?_) (fun h13_3 => ?_)
       ·refine VL.nn ?_
        refine VC.yes rfl ?_
        refine VC.goto ?_
        refine VX.then_goto ?_
        refine VX.jump (SpJ.wrong 20) rfl ⟨rfl, trivial⟩ (fun w' h => ⟨by rw [hcut, if_neg (by omega), if_pos (by omega)], h.drop⟩) (by first | trivial | (show 0 < _; simp [SpJ.μ]))
       ·refine VL.nn ?_
        refine VC.no rfl ?_
        refine VC.skip ?_
        refine VX.next ?_
        refine VC.seq ?_
        have hle : pre2 r ≤ (r.drop 2).length := by omega
        rw [if_neg (by omega), if_neg (by omega)] at hcut
        have hpl : ((r.drop 2).take (pre2 r)).length ≤ 4096 := by rw [List.length_take]; omega
        apply VC.anyA 6 (F := [eqF _, eqF _, eqF _, arrS ⟨w, keys H⟩ 1 byteR ((r.drop 2).take (pre2 r)), bytesF ((r.drop 2).take (pre2 r)), arrF 1 bytesR (Mono.slice Mono.byte) [((r.drop 2).take (pre2 r))], lateF (fun v w' => ∃ g6 c6, v = rowV g6 (acc ++ [((r.drop 2).take (pre2 r))]).length c6 ∧ Own (⟨w, keys H⟩ :: S) (brow g6 c6 (acc ++ [((r.drop 2).take (pre2 r))]) :: H) w'), eqF _, eqF _, arrS ⟨w, keys H⟩ 1 byteR ((r.drop 2).drop (pre2 r)), lateF (fun v w' => ∃ g6 c6, v = rowV g6 (acc ++ [((r.drop 2).take (pre2 r))]).length c6 ∧ Own (⟨w, keys H⟩ :: S) (brow g6 c6 (acc ++ [((r.drop 2).take (pre2 r))]) :: H) w'), arrS ⟨w, keys H⟩ 1 byteR ((r.drop 2).drop (pre2 r))]) [⟨[], [4]⟩, ⟨[], [0]⟩, ⟨[], [6]⟩, ⟨[(43, 1), (44, 2)], []⟩, ⟨[(45, 3)], []⟩, ⟨[(46, 4)], []⟩, ⟨[(42, 0), (47, 5)], []⟩, ⟨[], [0]⟩, ⟨[], [6]⟩, ⟨[(49, 7), (50, 8)], []⟩, ⟨[(48, 6)], []⟩, ⟨[(51, 9)], []⟩] [(4, 10), (0, 11)] [2, 3, 5, 6, 7, 8, 9, 10, 11, 12, 13, 14, 15, 16, 17, 18, 19, 20, 21, 22, 23, 24, 25, 26, 27, 28, 29, 30, 31, 32, 33, 34, 35, 36, 37, 38, 39, 40, 41, 52, 53, 54, 55, 56, 57, 58] rfl (by kernel_rfl) (by kernel_rfl) (by kernel_rfl) (by kernel_rfl) rfl ?obs14 ?end14
        case obs14 =>
         refine Obs.cons ?_ ?_
         ·refine obS (by kernel_rfl) rfl rfl (fun ph14 w14 hO14 => ?_)
          refine VL.move rfl ?_
          exact VL.finS hO14 rfl rfl
         refine Obs.cons ?_ ?_
         ·refine obS (by kernel_rfl) rfl rfl (fun ph14 w14 hO14 => ?_)
          refine VL.move rfl ?_
          exact VL.finS hO14 rfl rfl
         refine Obs.cons ?_ ?_
         ·refine obS (by kernel_rfl) rfl rfl (fun ph14 w14 hO14 => ?_)
          refine VL.move rfl ?_
          exact VL.finS hO14 rfl rfl
         refine Obs.cons ?_ ?_
         ·refine obS (by kernel_rfl) rfl rfl (fun ph14 w14 hO14 => ?_)
          rintro _ rfl _ rfl
          refine VL.takeS (pre2 r) rfl rfl Try.underlying24 sz24 hB2 hle (fun p3 hA3 => ?_)
          exact VL.finS hO14 rfl ⟨_, _, rfl, hA3⟩
         refine Obs.cons ?_ ?_
         ·refine ob (by kernel_rfl) rfl (by kernel_rfl) rfl (fun w14 hO14 => ?_)
          rintro _ ⟨p3, c3, rfl, hA3⟩
          refine VL.toOwn hO14 ?_
          refine VL.call Try.func109 rfl (by decide) rfl (fun w1 hw => clone_any hw (hA3.now (s := ⟨w, keys H⟩) Mono.byte hw (List.mem_cons_of_mem _ (List.mem_cons_self ..))) (by omega)) (fun v => ?_)
          exact VL.finO rfl (fun _ ⟨_, _, _, h, _⟩ => h) (fun _ ⟨p4, c4, e, _, h⟩ => ⟨p4, c4, e, h⟩)
         refine Obs.cons ?_ ?_
         ·refine ob (by kernel_rfl) rfl (by kernel_rfl) rfl (fun w14 hO14 => ?_)
          rintro _ ⟨p4, c4, rfl, hA4⟩
          refine VL.toOwn hO14 ?_
          refine VL.lit el31 rfl rfl rfl (by simp [Value.cells]) (by intro u hu; simp [Value.cells] at hu; subst hu; rfl) (fun g5 => ?_)
          exact VL.finO rfl (fun _ h => h.drop) (fun _ h => ⟨_, _, rfl, Own.letOne (v := .slice p4 ((r.drop 2).take (pre2 r)).length c4) h ⟨p4, c4, rfl, hA4.now (s := ⟨w14, _⟩) Mono.byte h.drop (List.mem_cons_self ..)⟩⟩)
         refine Obs.cons ?_ ?_
         ·refine obK (by kernel_rfl) rfl (fun w14 hO14 => ?_)
          rintro _ rfl _ ⟨p5, c5, rfl, hA5⟩
          refine VL.toOwn hO14 ?_
          refine VL.appends 0 el31 rfl rfl rfl (fun _ h => h) rfl (fun _ h => hA5.now (s := ⟨w14, _⟩) (Mono.slice Mono.byte) h (List.mem_cons_self ..)) (fun _ _ _ _ h => ok1_slices h) (by simp only [List.length_cons, List.length_nil]; omega) (fun g6 c6 => ?_) (by simp only [List.length_cons, List.length_nil]; omega)
          exact VL.finK rfl (fun _ h => h) (fun _ h => ⟨g6, c6, rfl, h.lose⟩)
         refine Obs.cons ?_ ?_
         ·refine obS (by kernel_rfl) rfl rfl (fun ph14 w14 hO14 => ?_)
          refine VL.move rfl ?_
          exact VL.finS hO14 rfl rfl
         refine Obs.cons ?_ ?_
         ·refine obS (by kernel_rfl) rfl rfl (fun ph14 w14 hO14 => ?_)
          refine VL.move rfl ?_
          exact VL.finS hO14 rfl rfl
         refine Obs.cons ?_ ?_
         ·refine obS (by kernel_rfl) rfl rfl (fun ph14 w14 hO14 => ?_)
          rintro _ rfl _ rfl
          refine VL.dropS (pre2 r) rfl rfl Try.underlying24 sz24 hB2 hle (fun p9 hB9 => ?_)
          exact VL.finS hO14 rfl ⟨_, _, rfl, hB9⟩
         refine Obs.cons ?_ ?_
         ·refine obS (by kernel_rfl) rfl rfl (fun ph14 w14 hO14 => ?_)
          rintro _ ⟨g6, c6, rfl, h6⟩
          refine VL.assign rfl ?_
          exact VL.finS hO14 rfl ⟨g6, c6, rfl, h6⟩
         refine Obs.cons ?_ ?_
         ·refine obS (by kernel_rfl) rfl rfl (fun ph14 w14 hO14 => ?_)
          rintro _ ⟨p9, c9, rfl, hB9⟩
          refine VL.assign rfl ?_
          exact VL.finS hO14 rfl ⟨_, _, rfl, hB9⟩
         exact Obs.nil
        case end14 =>
         intro w14 hO14
         rintro _ ⟨g6, c6, rfl, h6⟩ _ ⟨p9, c9, rfl, hB9⟩
         refine VX.turn (G' := Own (⟨w, keys H⟩ :: S) (brow g6 c6 (acc ++ [((r.drop 2).take (pre2 r))]) :: H)) (fun w' e => e ▸ h6) ?_
         refine VX.next ?_
         refine VC.sr ?_
         refine VL.move rfl ?_
         refine VL.sub rfl rfl (by simp only [InR]; omega) ?_
         refine VL.assign rfl ?_
         refine VL.nn ?_
         refine VC.seq ?_
         refine VC.goto ?_
         refine VX.then_goto ?_
         refine VX.jump (SpJ.next k ((r.drop 2).drop (pre2 r)) p9 c9 (acc ++ [((r.drop 2).take (pre2 r))]) g6 c6) rfl ⟨rfl, rfl, ?_, rfl, trivial⟩ (fun w' h => ⟨⟨hcut, hB9, by simp; omega⟩, h⟩) (by first | trivial | (show k + 2 < k + 1 + 2; omega))
         show some (Value.int .i64 _) = some (Value.int .i64 _)
         congr 2
         omega

end Go.Proofs.Ytcfecmoagfgnaaa

/- The frame of every law: arguments that read as data are opened; behind the call they read as before. -/
namespace Go.Vc
open Go.ChangeShapes Go.WideShapes Go.ChangeAt Go.RowKit

section
variable {Hh : Type} {enc : TypeId × Value → Hh} {P : Program} {W W' : World}

theorem trodAll_below (hl : laidOutB P = true) (hb : Below W.heap.size W W') : ∀ {ts : List TypeId} {vs : List Value} {ds : List (DataW Hh)} {ps : List MemPlace}, ts.all (fun t => P.readableRec t && decide (t < P.types.size)) = true →
  DataW.TrodAll enc P W 0 (fun _ => true) true ts vs ds ps → DataW.TrodAll enc P W' 0 (fun b => decide (b < W.heap.size)) true ts vs ds ps
 | [], _, _, _, _, h => by
  obtain ⟨rfl, rfl, rfl⟩ := trodAll_nil h
  exact trodAll_mk0
 | t :: ts, _, _, _, ht, h => by
  have hlt := DataW.TrodAll.lt h
  obtain ⟨v, vs, d, ds, p, q, rfl, rfl, rfl, h1, h2⟩ := trodAll_cons h
  rw [List.all_cons, Bool.and_eq_true, Bool.and_eq_true, decide_eq_true_eq] at ht
  exact ⟨p, q, Below.trod hl ht.1.1 ht.1.2 h1 hb (fun x hx => hlt x (by simp [hx])), trodAll_below hl hb ht.2 h2, rfl⟩

theorem post_of_below {fn : Func} {s : ChangeSpec} {apart fresh handsOn : Bool} {args : Array Value} {ds gs : List (DataW Hh)} {before : List MemPlace} {tb : TypeId} (hs : s.vars = []) (hrt : fn.resultTypes = #[tb]) (htb : P.underlying tb = some .bool) (hl : laidOutB P = true)
  (hts : fn.params.toList.all (fun t => P.readableRec t && decide (t < P.types.size)) = true) (hW : DataW.Whole enc P fn.params.toList s.vars apart W args.toList ds gs before) (hfn : s.fn Hh ds = { results := [.lit (.bool true)], args := ds }) (hb : Below W.heap.size W W') :
  s.post enc P fn apart fresh handsOn false W args (.bool true) W' := by
 have hW' := hW
 obtain ⟨p, q, hA, hV, hp, _, _⟩ := hW
 rw [hs] at hV
 obtain ⟨rfl, rfl⟩ := trodVars_none hV
 rw [List.append_nil] at hp
 subst hp
 refine ⟨ds, [], before, [], before, [], hW', ?_, ?_, ?_, hb.frame _, fun h => by cases h⟩
 ·rw [List.append_nil, hfn, hrt]
  exact trodAll_cons_mk (p := []) (p' := []) (shut_bool htb _) trodAll_mk0
 ·rw [List.append_nil, hfn]
  exact trodAll_below hl hb hts hA
 ·rw [hs, List.append_nil, hfn]; rfl

/-- A law's row, from a contract of its walk. -/
theorem law_of {C : Checked} {os : Os} (started : os.Started) {f : FuncId} {fn : Func} {s : ChangeSpec} {conds : List PathCond} {enc : TypeId × Value → Hh} {tb : TypeId} (own : ownKnob C.prog.godebug = none) (noInit : C.prog.inits.idxOf? f = none) (hfn : C.prog.funcs[f]? = some fn)
  (witness : ∃ (w : World) (tape : Tape) (i : Input), w.os = os ∧ (w.forCall tape i).Shaped C.prog ∧ i.vars = [] ∧ Input.okWide C.prog (w.forCall tape i) .any w.heap.size f i ∧
   s.pre6 enc C.prog fn conds false (w.forCall tape i).memory i.args ∧ (({} : Assume).holds C.prog (lone (Frame.enter C.prog f i.args .normal) [] (w.forCall tape i))))
  (hs : s.vars = []) (hrt : fn.resultTypes = #[tb]) (htb : C.prog.underlying tb = some .bool) (hl : laidOutB C.prog = true) (hts : fn.params.toList.all (fun t => C.prog.readableRec t && decide (t < C.prog.types.size)) = true)
  (h : ∀ (W : World) (base : Nat) (args : Array Value) (ds : List (DataW Hh)) (ps : List MemPlace), (∀ (j : Nat) t v, fn.params[j]? = some t → args[j]? = some v → Value.okWide C.prog W .any base t v) →
   DataW.TrodAll enc C.prog W 0 (fun _ => true) true fn.params.toList args.toList ds ps → (DataW.weightsEach C.prog fn.params.toList ds).all (· ≤ reachBytes) = true →
   s.fn Hh ds = { results := [.lit (.bool true)], args := ds } ∧ Calls C.prog f args W (Ret fun v w' => v = .bool true ∧ Own [⟨W, []⟩] [] w')) :
  ReturnsInHanded {} C os f .any (s.pre6 enc C.prog fn conds false) (s.post enc C.prog fn false true false false) := by
 refine returnsInHanded_of_change_sized own started noInit hfn witness ?_
 intro W base args ds gs before hval hW _ hsz _
 have hW' := hW
 obtain ⟨p, q, hA, hV, hp, _, _⟩ := hW
 rw [hs] at hV
 obtain ⟨rfl, rfl⟩ := trodVars_none hV
 have hsz' : (DataW.weightsEach C.prog fn.params.toList ds).all (· ≤ reachBytes) = true := by
  have e : s.plain.varTypes C.prog = [] := by
   unfold ChangeSpec.plain DataSpec.varTypes
   simp [hs]
  rw [e, List.append_nil, List.append_nil] at hsz
  exact hsz
 obtain ⟨h1, h2⟩ := h W base args ds p hval hA hsz'
 refine h2.mono fun e W' he => ?_
 cases e with
 | returned v =>
  obtain ⟨rfl, ho⟩ := he
  exact ⟨_, rfl, post_of_below hs hrt htb hl hts hW' h1 (ho.below (by simp))⟩
 | panicked _ => exact he.elim
 | outgrown => exact he.elim

/-! ### Arguments, opened -/
/-- What a reading's cells say. -/
def Opens (enc : TypeId × Value → Hh) (P : Program) (W : World) (t : TypeId) {X : Type} (R : Rel X) : Prop :=
  ∀ fuel cs x, DataW.trod enc P W 0 (fun _ => true) true fuel t cs = some x → ∃ y, R [] W cs y

theorem pick_list {X : Type} {p : Nat → X → Prop} : ∀ n, (∀ i, i < n → ∃ y, p i y) → ∃ ys : List X, ys.length = n ∧ ∀ i y, ys[i]? = some y → p i y
 | 0, _ => ⟨[], rfl, by simp⟩
 | n + 1, h => by
  obtain ⟨ys, h1, h2⟩ := pick_list n (fun i hi => h i (by omega))
  obtain ⟨y, hy⟩ := h n (by omega)
  refine ⟨ys ++ [y], by simp [h1], fun i z hz => ?_⟩
  rw [List.getElem?_append] at hz
  split at hz
  ·exact h2 i z hz
  ·rename_i hi
   have : i = n := by
    have := (List.getElem?_eq_some_iff.1 hz).1
    simp at this; omega
   subst this
   simp [h1] at hz
   subst hz; exact hy

theorem Opens.u8 {t : TypeId} (ht : P.underlying t = some (.int .u8)) : Opens enc P W t byteR := by
 intro fuel cs x h
 cases fuel with
 | zero => simp [DataW.trod] at h
 | succ n =>
  unfold DataW.trod at h
  rw [ht] at h
  split at h <;> simp_all
  rename_i k0 k n' heq
  subst heq
  obtain ⟨⟨_, hw⟩, _⟩ := h
  have hb := bounds_u8 hw
  refine ⟨UInt8.ofNat n'.toNat, ?_⟩
  show _ = [bv _]
  have : (UInt8.ofNat n'.toNat).toNat = n'.toNat := by simp; omega
  unfold bv
  rw [this]
  simp
  omega

theorem Opens.slice {t e : TypeId} {X : Type} {R : Rel X} {sz : Nat} (ht : P.underlying t = some (.slice e)) (hsz : P.cellsOf e = sz) (hpos : 0 < sz) (he : Opens enc P W e R) : Opens enc P W t (RV sz R) := by
 intro fuel cs x h
 subst hsz
 rcases DataW.trod_slice ht h with ⟨rfl, _⟩ | ⟨a, len, cap, elems, rest, n, _, rfl, _, hb, hl, hm, hlen, hel, hsp, _⟩
 ·exact ⟨[], none, 0, rfl, Arr.none⟩
 ·obtain ⟨hrl, hre⟩ := hsp rfl
  have each : ∀ i, i < len → ∃ y, ∃ vs : List Value, vs.length = P.cellsOf e ∧ R [] W vs y ∧ ∀ j v, vs[j]? = some v → W.cell? ((a.add (i * P.cellsOf e)).add j) = some v := by
   intro i hi
   have h1 := hel i hi
   rw [List.getElem?_eq_getElem (by omega)] at h1
   cases hc : W.cells? 0 (a.add (i * P.cellsOf e)) (P.cellsOf e) with
   | none => simp [hc] at h1
   | some vs =>
    simp [hc] at h1
    obtain ⟨y, hy⟩ := he _ _ _ h1
    obtain ⟨h2, h3, h4⟩ := World.cells?_some hc
    refine ⟨y, vs, h3, hy, fun j v hj => ?_⟩
    have hjl := (List.getElem?_eq_some_iff.1 hj).1
    rw [h4 j (by omega)]; exact hj
  obtain ⟨ys, hys, hyp⟩ := pick_list len each
  subst hys
  refine ⟨ys, some a, cap, rfl, hl, hm, fun e => (by cases e), fun a' ea hc0 => ?_⟩
  simp at ea; subst ea
  -- the first cell is there
  have hfirst : ∃ v, W.cell? a = some v := by
   have key : ∀ z, (W.cells? 0 (a.add 0) (P.cellsOf e)).bind (DataW.trod enc P W 0 (fun _ => true) true n e) = some z → ∃ v, W.cell? a = some v := by
    intro z hz
    cases hc : W.cells? 0 (a.add 0) (P.cellsOf e) with
    | none => simp [hc] at hz
    | some vs =>
     obtain ⟨h2, h3, h4⟩ := World.cells?_some hc
     have := h4 0 hpos
     rw [List.getElem?_eq_getElem (by omega)] at this
     exact ⟨_, by simpa [Addr.add] using this⟩
   by_cases h0 : 0 < ys.length
   ·have h1 := hel 0 h0
    rw [List.getElem?_eq_getElem (by omega), Nat.zero_mul] at h1
    exact key _ h1
   ·have h1 := hre 0 (by omega)
    rw [List.getElem?_eq_getElem (by omega)] at h1
    have e0 : (ys.length + 0) * P.cellsOf e = 0 := by rw [show ys.length + 0 = 0 by omega, Nat.zero_mul]
    rw [e0] at h1
    exact key _ h1
  obtain ⟨v0, hv0⟩ := hfirst
  unfold World.cell? at hv0
  cases hh : W.heap[a.block]? with
  | none => simp [hh] at hv0
  | some o =>
   cases o with
   | cells c el fr =>
    simp only [hh] at hv0
    have hspot : a.spot = none := by
     cases hs : a.spot with
     | none => rfl
     | some _ => simp [hs] at hv0
    refine ⟨hspot, by simp, (Array.getElem?_eq_some_iff.1 hh).1, c, el, fr, rfl, fun j y hj => ?_⟩
    obtain ⟨vs, f1, f2, f3⟩ := hyp j y hj
    refine ⟨vs, f1, f2, fun i v hv => ?_⟩
    have := f3 i v hv
    have ea : (a.add (j * P.cellsOf e)).add i = ⟨a.block, a.off + (j * P.cellsOf e + i), none⟩ := by
     obtain ⟨ab, ao, asp⟩ := a
     simp at hspot; subst hspot
     rw [add_lit, add_lit, Nat.add_assoc]
    rw [ea] at this
    simpa [World.cell?, hh] using this
   | _ => simp [hh] at hv0

theorem Opens.value {t e : TypeId} {X : Type} {R : Rel X} {sz : Nat} {r : Reach} {base : Nat} {v : Value} {d : DataW Hh} {ps : List MemPlace} (ht : P.underlying t = some (.slice e)) (h : Opens enc P W t (RV sz R)) (hval : Value.okWide P W r base t v) (hd : DataW.Trod enc P W 0 (fun _ => true) true t v d ps) :
  ∃ p xs c, v = .slice p xs.length c ∧ Arr sz R [] W p xs c := by
 obtain ⟨fuel, hf⟩ := hd
 obtain ⟨xs, p, c, hv, hA⟩ := h _ _ _ hf
 refine ⟨p, xs, c, ?_, hA⟩
 have hsl : ∃ p n c, v = .slice p n c := by
  unfold Value.okWide Cell.okWide Cell.ok at hval
  rw [ht] at hval
  cases v <;> simp at hval ⊢
 obtain ⟨p', n', c', rfl⟩ := hsl
 simpa [Value.cells] using hv
end
end Go.Vc

/- octet.Key, and the law on bytes. -/
namespace Go.Proofs.Ytcfecmoagfgnaaa
open Go.Vc Go.Pl

def key0 : List UInt8 := List.replicate 32 0
def keyOf (l : List UInt8) : List UInt8 := if l.length = 32 then l else key0
theorem keyOf_length (l : List UInt8) : (keyOf l).length = 32 := by
 unfold keyOf
 split
 ·assumption
 ·decide
theorem zero44 : (Try.prog.info? 44).bind (·.zero) = some (.agg (key0.map bv).toArray) := by kernel_rfl
theorem guard44 : Try.prog.eqGuardType Try.prog.depth 44 = false := by kernel_rfl

theorem key_any {S : List Snap} {H : List Chunk} {w : World} (ho : Own S H w) {p : Option Addr} {l : List UInt8} {c : Nat} (hA : Bytes (keys H) w p l c) : Calls Try.prog 36 #[.slice p l.length c] w (Ret fun v w' => Own S H w' ∧ v = .tuple #[.agg ((keyOf l).map bv).toArray, .bool (decide (l.length = 32))]) := by
 refine enter (G := Own (⟨w, keys H⟩ :: S) H) ho.keep Try.func36 rfl Try.ntmps36 rfl ?_
 refine VC.sr ?_
 refine VL.alloc (L := [32]) (ps := [key0.map bv]) zero44 rfl rfl (fun g2 => ?_)
 refine VL.assign rfl ?_
 refine VL.nn ?_
 refine VC.sr ?_
 refine VL.alloc (L := [32]) (ps := [key0.map bv]) zero44 rfl rfl (fun g4 => ?_)
 refine VL.nn ?_
 refine VC.seq ?_
 refine VC.sr ?_
 refine VL.move rfl ?_
 refine VL.len Try.underlying24 rfl rfl ?_
 refine VL.neq rfl rfl ?_
 refine VL.case (fun h2_2 => ?_) (fun h2_2 => ?_)
 ·refine VL.nn ?_
  refine VC.yes rfl ?_
  refine VC.sr ?_
  refine VL.loads (cs := (key0).map bv) 0 0 1 rfl kd44 (fun _ h => h) rfl rfl rfl rfl ?_
  refine VL.store (L := [32]) (qs := [(key0).map bv]) 1 0 1 rfl rfl rfl (.inl kd44) rfl rfl rfl (ok1_bytes _) rfl rfl ?_
  refine VL.assign rfl ?_
  refine VL.nn ?_
  refine VC.ret ?_
  refine VX.then_ret ?_
  refine VX.ret_cell (cs := key0.map bv) 1 rfl rfl rfl kd44 (fun _ h => h) rfl rfl (fun w hw => ?_)
  have e : keyOf l = key0 := if_neg (by omega)
  exact ⟨hw.drop.drop.lose, by rw [e, decide_eq_false (by omega)]⟩
 ·refine VL.nn ?_
  refine VC.no rfl ?_
  refine VC.skip ?_
  refine VX.next ?_
  refine VC.seq ?_
  have hl : l.length = 32 := by omega
  refine VC.region ?_
  refine VL.sliceArr Try.underlying44 (by kernel_rfl) rfl ?_
  refine VL.move rfl ?_
  refine VL.copyAll (cur := key0.map bv) (l := l) 0 rfl Try.underlying24 (by kernel_rfl) rfl rfl rfl hl (by omega) (fun _ h => (hA.now (s := ⟨w, keys H⟩) Mono.byte h.drop.drop (List.mem_cons_self ..)).bytes) rfl (fun _ => ?_)
  refine VL.nn ?_
  refine VC.sr ?_
  refine VL.loads (cs := (l).map bv) 0 0 1 rfl kd44 (fun _ h => h) rfl rfl rfl rfl ?_
  refine VL.store (L := [32]) (qs := [(l).map bv]) 1 0 1 rfl rfl rfl (.inl kd44) rfl rfl (by simp [hl]) (ok1_bytes _) rfl rfl ?_
  refine VL.assign rfl ?_
  refine VL.nn ?_
  refine VC.ret ?_
  refine VX.ret_cell (cs := l.map bv) 1 rfl rfl rfl (by rw [List.length_map, hl]; exact kd44) (fun _ h => h) rfl rfl (fun w hw => ?_)
  have e : keyOf l = l := if_pos hl
  exact ⟨hw.drop.drop.lose, by rw [e, decide_eq_true hl]⟩

end Go.Proofs.Ytcfecmoagfgnaaa

