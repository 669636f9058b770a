/- What the smaller functions of package octet compute: by a walk through each. -/
import Derived.Test.YtcfecmoagfgnaaaVcMore
import Derived.Test.YtcfecmoagfgnaaaVcAny
import Derived.Test.YtcfecmoagfgnaaaPl
namespace Go.Proofs.Ytcfecmoagfgnaaa
open Go.Vc Go.Pl

theorem clone_nil {S : List Snap} {H : List Chunk} {w : World} (ho : Own S H w) {c : Nat} : Calls Try.prog 109 #[.slice none 0 c] w (Ret fun v w' => ∃ p' c', v = .slice p' 0 c' ∧ Own S H w' ∧ Bytes (keys H) w' p' [] c') := by
  refine enter (G := Own (⟨w, keys H⟩ :: S) H) ho.keep Try.func109 rfl Try.ntmps109 rfl ?_
  refine VC.seq ?_
  refine VC.region ?_
  refine VL.assign rfl ?_
  refine VL.nil ?_
  refine VX.next ?_
  refine VC.seq ?_
  refine VC.seq ?_
  refine VC.region ?_
  refine VL.move rfl ?_
  refine VL.eqnil Try.underlying24 rfl rfl ?_
  refine VL.nil ?_
  refine VX.next ?_
  refine VC.yes rfl ?_
  refine VC.seq ?_
  refine VC.region ?_
  refine VL.assign rfl ?_
  refine VL.nil ?_
  refine VX.next ?_
  refine VC.ret ?_
  refine VX.then_ret ?_
  refine VX.ret1 rfl rfl (fun w hw => ?_)
  exact ⟨none, 0, rfl, hw.lose, Arr.after ⟨by simp, by simp [maxLen], fun _ => rfl, by simp⟩ Mono.byte (hw.after (List.mem_cons_self ..))⟩

theorem clone_some {S : List Snap} {H : List Chunk} {w : World} (ho : Own S H w) {a : Addr} {l : List UInt8} {c : Nat} (hA : Bytes (keys H) w (some a) l c) (hl : l.length ≤ 1099511627776) : Calls Try.prog 109 #[.slice (some a) l.length c] w (Ret fun v w' => ∃ p' c', v = .slice p' l.length c' ∧ Own S H w' ∧ Bytes (keys H) w' p' l c') := by
  refine enter (G := Own (⟨w, keys H⟩ :: S) H) ho.keep Try.func109 rfl Try.ntmps109 rfl ?_
  refine VC.seq ?_
  refine VC.region ?_
  refine VL.assign rfl ?_
  refine VL.nil ?_
  refine VX.next ?_
  refine VC.seq ?_
  refine VC.seq ?_
  refine VC.region ?_
  refine VL.move rfl ?_
  refine VL.eqnil Try.underlying24 rfl rfl ?_
  refine VL.nil ?_
  refine VX.next ?_
  refine VC.no rfl ?_
  refine VC.skip ?_
  refine VX.next ?_
  refine VC.seq ?_
  refine VC.region ?_
  refine VL.lit el24 rfl rfl rfl (by simp) (by simp [ok1]) (fun g => ?_)
  refine VL.move rfl ?_
  refine VL.append 0 el24 rfl rfl rfl rfl (fun _ h => (hA.now (s := ⟨w, keys H⟩) Mono.byte h.drop (List.mem_cons_self ..)).bytes) (by simp) (ok1_bytes l) (by omega) (by omega) (fun g1 c1 => ?_)
  refine VL.assign rfl ?_
  refine VL.nil ?_
  refine VX.next ?_
  refine VC.ret ?_
  refine VX.ret1 rfl rfl (fun w hw => ?_)
  have hb := hw.letBytes (l := l) (by omega) (by simp)
  exact ⟨_, _, by simp [rowV], hw.drop.lose, hb⟩

theorem clone_any {S : List Snap} {H : List Chunk} {w : World} (ho : Own S H w) {p : Option Addr} {l : List UInt8} {c : Nat} (hA : Bytes (keys H) w p l c) (hl : l.length ≤ 1099511627776) : Calls Try.prog 109 #[.slice p l.length c] w (Ret fun v w' => ∃ p' c', v = .slice p' l.length c' ∧ Own S H w' ∧ Bytes (keys H) w' p' l c') := by
  cases p with
  | none =>
    have h1 := hA.nil rfl
    have h2 := hA.le
    obtain rfl : l = [] := List.eq_nil_of_length_eq_zero (by omega)
    exact clone_nil ho
  | some a => exact clone_some ho hA hl

theorem get_any {S : List Snap} {H : List Chunk} {w : World} (ho : Own S H w) {p : Option Addr} {l : List UInt8} {c : Nat} (hA : Bytes (keys H) w p l c) : Calls Try.prog 28 #[.slice p l.length c] w (Ret fun v w' => Own S H w' ∧ ((1 ≤ l.length ∧ l.length ≤ 8 ∧ v = .tuple #[.int .u64 (num l), .bool true]) ∨ ((l.length < 1 ∨ 8 < l.length) ∧ v = .tuple #[.int .u64 0, .bool false]))) := by
  refine enter (G := Own (⟨w, keys H⟩ :: S) H) ho.keep Try.func28 rfl Try.ntmps28 rfl ?_
  refine VC.seq ?_
  refine VC.region ?_
  refine VL.assign rfl ?_
  refine VL.assign rfl ?_
  refine VL.nil ?_
  refine VX.next ?_
  refine VC.seq ?_
  refine VC.seq ?_
  refine VC.region ?_
  refine VL.move rfl ?_
  refine VL.len Try.underlying24 rfl rfl ?_
  refine VL.lss rfl rfl ?_
  refine VL.case (fun h1_2 => ?_) (fun h1_2 => ?_)
  · refine VL.move rfl ?_
    refine VL.pass rfl rfl rfl rfl rfl ?_
    refine VL.pass rfl rfl rfl rfl rfl ?_
    refine VL.pass rfl rfl rfl rfl rfl ?_
    refine VL.pick_t rfl rfl ?_
    refine VL.nil ?_
    refine VX.next ?_
    refine VC.yes rfl ?_
    refine VC.seq ?_
    refine VC.region ?_
    refine VL.assign rfl ?_
    refine VL.assign rfl ?_
    refine VL.nil ?_
    refine VX.next ?_
    refine VC.ret ?_
    refine VX.then_ret ?_
    refine VX.ret2 rfl rfl rfl (fun w hw => ?_)
    exact ⟨hw.lose, .inr ⟨by omega, rfl⟩⟩
  · refine VL.move rfl ?_
    refine VL.go rfl rfl rfl ?_
    refine VL.move rfl ?_
    refine VL.go rfl rfl rfl ?_
    refine VL.len Try.underlying24 rfl rfl ?_
    refine VL.go rfl rfl rfl ?_
    refine VL.gtr rfl rfl ?_
    refine VL.case (fun h1_6 => ?_) (fun h1_6 => ?_)
    · refine VL.pick_f rfl rfl ?_
      refine VL.nil ?_
      refine VX.next ?_
      refine VC.yes rfl ?_
      refine VC.seq ?_
      refine VC.region ?_
      refine VL.assign rfl ?_
      refine VL.assign rfl ?_
      refine VL.nil ?_
      refine VX.next ?_
      refine VC.ret ?_
      refine VX.then_ret ?_
      refine VX.ret2 rfl rfl rfl (fun w hw => ?_)
      exact ⟨hw.lose, .inr ⟨by omega, rfl⟩⟩
    · refine VL.pick_f rfl rfl ?_
      refine VL.nil ?_
      refine VX.next ?_
      refine VC.no rfl ?_
      refine VC.skip ?_
      refine VX.next ?_
      refine VC.seq ?_
      refine VC.region ?_
      refine VL.assign rfl ?_
      refine VL.nil ?_
      refine VX.next ?_
      refine VC.seq ?_
      refine VC.seq ?_
      refine VC.region ?_
      refine VL.move rfl ?_
      refine VL.len Try.underlying24 rfl rfl ?_
      refine VL.move rfl ?_
      refine VL.nil ?_
      refine VX.next ?_
      refine VC.block ?_
      refine VC.loop (X := Nat) (fun k => [(15, .slice p l.length c), (16, .int .i64 l.length), (17, .int .i64 k), (4, .int .u64 (num (l.take k)))]) (fun k w' => k ≤ l.length ∧ Own (⟨w, keys H⟩ :: S) H w') (fun k => l.length - k) 0 ⟨rfl, rfl, rfl, rfl, trivial⟩ (fun _ h => ⟨Nat.zero_le _, h⟩) (fun k => VC.fact fun hk => ?_)
      · skip
        refine VC.seq ?_
        refine VC.region ?_
        refine VL.lss rfl rfl ?_
        refine VL.case (fun h5_0 => ?_) (fun h5_0 => ?_)
        · refine VL.nil ?_
          refine VX.next ?_
          refine VC.seq ?_
          refine VC.yes rfl ?_
          refine VC.skip ?_
          refine VX.next ?_
          refine VC.seq ?_
          refine VC.block ?_
          refine VC.seq ?_
          refine VC.region ?_
          have hlt : k < l.length := by omega
          have hsn : num (l.take (k + 1)) = num (l.take k) * 256 + l[k].toNat := by rw [List.take_succ_eq_append_getElem hlt, num_snoc]
          have hnl : num (l.take k) ≤ 72057594037927935 := by
            have h1 := num_lt (l.take k)
            have h2 : (l.take k).length ≤ 7 := by rw [List.length_take]; omega
            have h3 : 256 ^ (l.take k).length ≤ 256 ^ 7 := Nat.pow_le_pow_right (by decide) h2
            have h4 : (256 : Nat) ^ 7 = 72057594037927936 := by decide
            omega
          refine VL.index rfl rfl Try.underlying24 sz24 hA (by omega) (by omega) ?_
          refine VL.byte (s := ⟨w, keys H⟩) (y := l[k]) rfl kd5 (fun _ h => h) (List.mem_cons_self ..) hA (by simp [hlt]) ?_
          refine VL.assign rfl ?_
          refine VL.nil ?_
          refine VX.next ?_
          refine VC.region ?_
          refine VL.move rfl ?_
          refine VL.shl rfl rfl (by omega) (by simp only [IntKind.bits]; omega) ?_
          refine VL.move rfl ?_
          have hb := l[k].toNat_lt
          refine VL.conv (by rw [Try.underlying5]; rfl) Try.underlying22 rfl (by simp only [InR]; omega) ?_
          refine VL.bits (.inr (.inl rfl)) rfl rfl ?_
          rw [u64_or_byte _ _ hnl (by omega)]
          refine VL.assign rfl ?_
          refine VL.nil ?_
          refine VX.block_normal ?_
          refine VX.next ?_
          refine VC.region ?_
          refine VL.add rfl rfl (by simp only [InR]; omega) ?_
          refine VL.move rfl ?_
          refine VL.nil ?_
          refine VX.round (k + 1) ⟨rfl, rfl, rfl, ?_, trivial⟩ (fun _ h => ⟨by omega, h⟩) (by omega)
          simp only [hsn]; rfl
        · refine VL.nil ?_
          refine VX.next ?_
          refine VC.seq ?_
          refine VC.no rfl ?_
          refine VC.exit ?_
          refine VX.then_exit ?_
          refine VX.then_exit ?_
          refine VX.block_here ?_
          refine VX.next ?_
          refine VC.seq ?_
          refine VC.region ?_
          refine VL.move rfl ?_
          refine VL.assign rfl ?_
          refine VL.assign rfl ?_
          refine VL.nil ?_
          refine VX.next ?_
          refine VC.ret ?_
          refine VX.ret2 rfl rfl rfl (fun w hw => ?_)
          obtain rfl : k = l.length := by omega
          refine ⟨hw.lose, .inl ⟨by omega, by omega, ?_⟩⟩
          rw [List.take_length]

end Go.Proofs.Ytcfecmoagfgnaaa
