/- wire: what takes pieces. -/
import Derived.Test.YtcfecmoagfgnaaaWr1
import Derived.Test.YtcfecmoagfgnaaaVcEq
import Derived.Test.YtcfecmoagfgnaaaPl3
namespace Go.Proofs.Ytcfecmoagfgnaaa
open Go.Vc Go.Pl

/-- The variable of what takes pieces. -/
abbrev rblk (g : Nat) (p : Option Addr) (m c : Nat) (why : Nat) : Chunk := blk g 196 [1, 1] [[.slice p m c], [.int .i64 why]]

theorem fail_r {m : Nat} {S : List Snap} {H : List Chunk} {w : World} {g : Nat} {p : Option Addr} {c : Nat} {why : Nat} (ho : Own S (rblk g p m c why :: H) w) (e : Nat) : Calls Try.prog 125 #[.pointer (some ⟨g, 0, none⟩), .int .i64 e] w (Ret fun v w' => v = .tuple #[] ∧ Own S (rblk g p m c (failW why e) :: H) w') := by
  refine enter (G := Own (⟨w, keys (rblk g p m c why :: H)⟩ :: S) (rblk g p m c why :: H)) ho.keep Try.func125 rfl Try.ntmps125 rfl ?_
  refine VC.seq ?_
  refine VC.region ?_
  refine VL.move rfl ?_
  refine VL.nilCheck rfl ?_
  refine VL.fieldAddr rfl fo196_1 rfl ?_
  refine VL.load (v := .int .i64 why) 0 1 rfl kd35 (fun _ h => h) rfl rfl rfl ?_
  refine VL.eql rfl rfl ?_
  refine VL.case (fun h0_4 => ?_) (fun h0_4 => ?_)
  · refine VL.nil ?_
    refine VX.next ?_
    refine VC.yes rfl ?_
    refine VC.region ?_
    refine VL.move rfl ?_
    refine VL.move rfl ?_
    refine VL.nilCheck rfl ?_
    refine VL.fieldAddr rfl fo196_1 rfl ?_
    refine VL.store (L := [1, 1]) (qs := [[.int .i64 e]]) 0 1 1 rfl rfl rfl (.inr ⟨kd35, rfl⟩) rfl rfl rfl (by intro u hu; simp [cat] at hu; subst hu; rfl) rfl rfl ?_
    refine VL.nil ?_
    refine VX.end0 rfl (fun we hw => ?_)
    exact ⟨rfl, by rw [show failW why e = e from if_pos (by omega)]; exact hw.lose⟩
  · refine VL.nil ?_
    refine VX.next ?_
    refine VC.no rfl ?_
    refine VC.skip ?_
    refine VX.end0 rfl (fun we hw => ?_)
    exact ⟨rfl, by rw [show failW why e = why from if_neg (by omega)]; exact hw.lose⟩

theorem piece_r {S : List Snap} {H : List Chunk} {w : World} {g : Nat} {p : Option Addr} {c : Nat} {parts : List (List UInt8)} {why : Nat} (ho : Own S (rblk g p parts.length c why :: H) w) (hA : Arr 1 bytesR (g :: keys H) w p parts c) : Calls Try.prog 124 #[.pointer (some ⟨g, 0, none⟩)] w (Ret fun v w' => ∃ p' c' pb cb, v = .slice pb (nextP parts).length cb ∧ Own S (rblk g p' (parts.drop 1).length c' (nextW parts why) :: H) w' ∧ Arr 1 bytesR (g :: keys H) w' p' (parts.drop 1) c' ∧ Bytes (g :: keys H) w' pb (nextP parts) cb) := by
  refine enter (G := Own (⟨w, keys (rblk g p parts.length c why :: H)⟩ :: S) (rblk g p parts.length c why :: H)) ho.keep Try.func124 rfl Try.ntmps124 rfl ?_
  refine VC.seq ?_
  refine VC.region ?_
  refine VL.assign rfl ?_
  refine VL.nil ?_
  refine VX.next ?_
  refine VC.seq ?_
  refine VC.seq ?_
  refine VC.region ?_
  refine VL.move rfl ?_
  refine VL.nilCheck rfl ?_
  refine VL.fieldAddr rfl fo196_0 rfl ?_
  refine VL.load (v := .slice p parts.length c) 0 0 rfl kd31 (fun _ h => h) rfl rfl rfl ?_
  refine VL.len Try.underlying31 rfl rfl ?_
  refine VL.eql rfl rfl ?_
  refine VL.case (fun h1_5 => ?_) (fun h1_5 => ?_)
  · refine VL.nil ?_
    refine VX.next ?_
    refine VC.yes rfl ?_
    refine VC.seq ?_
    refine VC.region ?_
    refine VL.move rfl ?_
    refine VL.call Try.func125 rfl (by decide) rfl (fun w' hw => fail_r hw 141) (fun v => ?_)
    refine VL.fact fun e => ?_
    subst e
    refine VL.nil ?_
    refine VX.next ?_
    refine VC.seq ?_
    refine VC.region ?_
    refine VL.assign rfl ?_
    refine VL.nil ?_
    refine VX.next ?_
    refine VC.ret ?_
    refine VX.then_ret ?_
    refine VX.ret1 rfl rfl (fun we hw => ?_)
    obtain rfl : parts = [] := List.eq_nil_of_length_eq_zero (by omega)
    exact ⟨p, c, none, 0, rfl, hw.lose, hA.nowK (s := ⟨w, _⟩) (Mono.slice Mono.byte) hw (List.mem_cons_self ..) rfl, Arr.none⟩
  · refine VL.nil ?_
    refine VX.next ?_
    refine VC.no rfl ?_
    refine VC.skip ?_
    refine VX.next ?_
    refine VC.seq ?_
    obtain ⟨b, r, rfl⟩ : ∃ b r, parts = b :: r := by
      cases parts with
      | nil => exact absurd rfl h1_5
      | cons b r => exact ⟨b, r, rfl⟩
    refine VC.region ?_
    refine VL.move rfl ?_
    refine VL.nilCheck rfl ?_
    refine VL.fieldAddr rfl fo196_0 rfl ?_
    refine VL.load (v := .slice p (b :: r).length c) 0 0 rfl kd31 (fun _ h => h) rfl rfl rfl ?_
    refine VL.index rfl rfl Try.underlying31 sz31 hA (by omega) (by simp only [List.length_cons]; omega) ?_
    refine VL.elem (s := ⟨w, _⟩) 0 0 rfl kd24 (fun _ h => h) (List.mem_cons_self ..) (Mono.slice Mono.byte) hA (y := b) rfl (by omega) (by omega) (fun vs v hl hr hv => ?_)
    obtain ⟨p3, c3, rfl, hA3⟩ := hr
    simp at hv
    subst hv
    refine VL.assign rfl ?_
    refine VL.nil ?_
    refine VX.next ?_
    refine VC.seq ?_
    refine VC.region ?_
    refine VL.move rfl ?_
    refine VL.move rfl ?_
    refine VL.nilCheck rfl ?_
    refine VL.fieldAddr rfl fo196_0 rfl ?_
    refine VL.load (v := .slice p (b :: r).length c) 0 0 rfl kd31 (fun _ h => h) rfl rfl rfl ?_
    refine VL.dropS 1 rfl rfl Try.underlying31 sz31 hA (by simp) (fun p5 hA5 => ?_)
    refine VL.nilCheck rfl ?_
    refine VL.fieldAddr rfl fo196_0 rfl ?_
    refine VL.store (L := [1, 1]) (qs := [[.slice p5 ((b :: r).drop 1).length (c - 1)]]) 0 0 1 rfl rfl rfl (.inr ⟨kd31, rfl⟩) rfl rfl rfl (by intro u hu; simp [cat] at hu; subst hu; rfl) rfl rfl ?_
    refine VL.nil ?_
    refine VX.next ?_
    refine VC.seq ?_
    refine VC.region ?_
    refine VL.move rfl ?_
    refine VL.assign rfl ?_
    refine VL.nil ?_
    refine VX.next ?_
    refine VC.ret ?_
    refine VX.ret1 rfl rfl (fun we hw => ?_)
    refine ⟨p5, c - 1, p3, c3, rfl, hw.lose, ?_, ?_⟩
    · exact hA5.nowK (s := ⟨w, _⟩) (Mono.slice Mono.byte) hw (List.mem_cons_self ..) rfl
    · exact hA3.nowK (s := ⟨w, _⟩) Mono.byte hw (List.mem_cons_self ..) rfl

theorem end_r {S : List Snap} {H : List Chunk} {w : World} {g : Nat} {p : Option Addr} {c : Nat} {parts : List (List UInt8)} {why : Nat} (ho : Own S (rblk g p parts.length c why :: H) w) : Calls Try.prog 126 #[.pointer (some ⟨g, 0, none⟩)] w (Ret fun v w' => v = .int .i64 (endW parts why) ∧ Own S (rblk g p parts.length c (endW parts why) :: H) w') := by
  refine enter (G := Own (⟨w, keys (rblk g p parts.length c why :: H)⟩ :: S) (rblk g p parts.length c why :: H)) ho.keep Try.func126 rfl Try.ntmps126 rfl ?_
  refine VC.seq ?_
  refine VC.region ?_
  refine VL.assign rfl ?_
  refine VL.nil ?_
  refine VX.next ?_
  refine VC.seq ?_
  refine VC.seq ?_
  refine VC.region ?_
  refine VL.move rfl ?_
  refine VL.nilCheck rfl ?_
  refine VL.fieldAddr rfl fo196_0 rfl ?_
  refine VL.load (v := .slice p parts.length c) 0 0 rfl kd31 (fun _ h => h) rfl rfl rfl ?_
  refine VL.len Try.underlying31 rfl rfl ?_
  refine VL.gtr rfl rfl ?_
  refine VL.case (fun h1_5 => ?_) (fun h1_5 => ?_)
  · refine VL.nil ?_
    refine VX.next ?_
    refine VC.yes rfl ?_
    refine VC.region ?_
    refine VL.move rfl ?_
    refine VL.call Try.func125 rfl (by decide) rfl (fun w' hw => fail_r hw 141) (fun v => ?_)
    refine VL.fact fun e => ?_
    subst e
    refine VL.nil ?_
    refine VX.next ?_
    refine VC.seq ?_
    refine VC.region ?_
    refine VL.move rfl ?_
    refine VL.nilCheck rfl ?_
    refine VL.fieldAddr rfl fo196_1 rfl ?_
    refine VL.load (v := .int .i64 (failW why 141)) 0 1 rfl kd35 (fun _ h => h) rfl rfl rfl ?_
    refine VL.assign rfl ?_
    refine VL.nil ?_
    refine VX.next ?_
    refine VC.ret ?_
    refine VX.ret1 rfl rfl (fun we hw => ?_)
    have e : endW parts why = failW why 141 := if_neg (fun e => by rw [e] at h1_5; exact absurd h1_5 (by simp))
    rw [e]
    exact ⟨rfl, hw.lose⟩
  · refine VL.nil ?_
    refine VX.next ?_
    refine VC.no rfl ?_
    refine VC.skip ?_
    refine VX.next ?_
    refine VC.seq ?_
    refine VC.region ?_
    refine VL.move rfl ?_
    refine VL.nilCheck rfl ?_
    refine VL.fieldAddr rfl fo196_1 rfl ?_
    refine VL.load (v := .int .i64 (why)) 0 1 rfl kd35 (fun _ h => h) rfl rfl rfl ?_
    refine VL.assign rfl ?_
    refine VL.nil ?_
    refine VX.next ?_
    refine VC.ret ?_
    refine VX.ret1 rfl rfl (fun we hw => ?_)
    have e : endW parts why = why := if_pos (List.eq_nil_of_length_eq_zero (by omega))
    rw [e]
    exact ⟨rfl, hw.lose⟩

theorem num_r {S : List Snap} {H : List Chunk} {w : World} {g : Nat} {p : Option Addr} {c : Nat} {parts : List (List UInt8)} {why : Nat} (ho : Own S (rblk g p parts.length c why :: H) w) (hA : Arr 1 bytesR (g :: keys H) w p parts c) (k : Nat) (h1 : 1 ≤ k) (h8 : k ≤ 8) : Calls Try.prog 132 #[.pointer (some ⟨g, 0, none⟩), .int .i64 k] w (Ret fun v w' => ∃ p' c', v = .int .u64 (takeN parts k) ∧ Own S (rblk g p' (parts.drop 1).length c' (lenW parts why k) :: H) w' ∧ Arr 1 bytesR (g :: keys H) w' p' (parts.drop 1) c') := by
  refine enter (G := Own (⟨w, keys (rblk g p parts.length c why :: H)⟩ :: S) (rblk g p parts.length c why :: H)) ho.keep Try.func132 rfl Try.ntmps132 rfl ?_
  refine VC.seq ?_
  refine VC.region ?_
  refine VL.assign rfl ?_
  refine VL.nil ?_
  refine VX.next ?_
  refine VC.seq ?_
  refine VC.region ?_
  refine VL.move rfl ?_
  refine VL.call Try.func124 rfl (by decide) rfl (fun w' hw => piece_r hw (hA.nowK (s := ⟨w, _⟩) (Mono.slice Mono.byte) hw (List.mem_cons_self ..) rfl)) (fun v => ?_)
  refine VL.at (fun w1 h1w => ?_)
  obtain ⟨p1, c1, pb, cb, rfl, hO, hA1, hB1⟩ := h1w
  refine VL.toOwn hO ?_
  refine VL.assign rfl ?_
  refine VL.nil ?_
  refine VX.next ?_
  refine VC.seq ?_
  refine VC.seq ?_
  refine VC.region ?_
  refine VL.move rfl ?_
  refine VL.len Try.underlying24 rfl rfl ?_
  refine VL.move rfl ?_
  refine VL.neq rfl rfl ?_
  refine VL.case (fun h2_3 => ?_) (fun h2_3 => ?_)
  · refine VL.nil ?_
    refine VX.next ?_
    refine VC.yes rfl ?_
    refine VC.seq ?_
    refine VC.region ?_
    refine VL.move rfl ?_
    refine VL.call Try.func125 rfl (by decide) rfl (fun w' hw => fail_r hw 141) (fun v => ?_)
    refine VL.fact fun e => ?_
    subst e
    refine VL.nil ?_
    refine VX.next ?_
    refine VC.seq ?_
    refine VC.region ?_
    refine VL.assign rfl ?_
    refine VL.nil ?_
    refine VX.next ?_
    refine VC.ret ?_
    refine VX.then_ret ?_
    refine VX.ret1 rfl rfl (fun we hw => ?_)
    have hne : (nextP parts).length ≠ k := by omega
    exact ⟨p1, c1, by rw [show takeN parts k = 0 from if_neg hne]; rfl, by rw [show lenW parts why k = failW (nextW parts why) 141 from if_neg hne]; exact hw.lose.lose, hA1.nowK (s := ⟨w1, _⟩) (Mono.slice Mono.byte) hw (List.mem_cons_self ..) rfl⟩
  · refine VL.nil ?_
    refine VX.next ?_
    refine VC.no rfl ?_
    refine VC.skip ?_
    refine VX.next ?_
    refine VC.seq ?_
    refine VC.region ?_
    refine VL.move rfl ?_
    refine VL.call Try.func28 rfl (by decide) rfl (fun w' hw => get_any hw (hB1.now (s := ⟨w1, _⟩) Mono.byte hw (List.mem_cons_self ..))) (fun v => ?_)
    refine VL.at (fun w2 h1w => ?_)
    obtain ⟨hO2, ⟨_, _, rfl⟩ | ⟨hno, _⟩⟩ := h1w
    rotate_left
    · omega
    refine VL.toOwn hO2 ?_
    refine VL.move rfl ?_
    refine VL.extract rfl rfl ?_
    refine VL.extract rfl rfl ?_
    refine VL.assign rfl ?_
    refine VL.assign rfl ?_
    refine VL.nil ?_
    refine VX.next ?_
    refine VC.seq ?_
    refine VC.region ?_
    refine VL.move rfl ?_
    refine VL.assign rfl ?_
    refine VL.nil ?_
    refine VX.next ?_
    refine VC.ret ?_
    refine VX.ret1 rfl rfl (fun we hw => ?_)
    have he : (nextP parts).length = k := by omega
    exact ⟨p1, c1, by rw [show takeN parts k = num (nextP parts) from if_pos he]; rfl, by rw [show lenW parts why k = nextW parts why from if_pos he]; exact hw.lose.lose.lose, hA1.nowK (s := ⟨w1, _⟩) (Mono.slice Mono.byte) hw (by repeat (first | exact List.mem_cons_self .. | apply List.mem_cons_of_mem)) rfl⟩

theorem byte_r {S : List Snap} {H : List Chunk} {w : World} {g : Nat} {p : Option Addr} {c : Nat} {parts : List (List UInt8)} {why : Nat} (ho : Own S (rblk g p parts.length c why :: H) w) (hA : Arr 1 bytesR (g :: keys H) w p parts c) : Calls Try.prog 122 #[.pointer (some ⟨g, 0, none⟩)] w (Ret fun v w' => ∃ p' c', v = .int .u8 (takeN parts 1) ∧ Own S (rblk g p' (parts.drop 1).length c' (lenW parts why 1) :: H) w' ∧ Arr 1 bytesR (g :: keys H) w' p' (parts.drop 1) c') := by
  refine enter (G := Own (⟨w, keys (rblk g p parts.length c why :: H)⟩ :: S) (rblk g p parts.length c why :: H)) ho.keep Try.func122 rfl Try.ntmps122 rfl ?_
  refine VC.seq ?_
  refine VC.region ?_
  refine VL.assign rfl ?_
  refine VL.nil ?_
  refine VX.next ?_
  refine VC.seq ?_
  refine VC.region ?_
  refine VL.move rfl ?_
  refine VL.call Try.func132 rfl (by decide) rfl (fun w' hw => num_r hw (hA.nowK (s := ⟨w, _⟩) (Mono.slice Mono.byte) hw (List.mem_cons_self ..) rfl) 1 (by decide) (by decide)) (fun v => ?_)
  refine VL.at (fun w1 h1w => ?_)
  obtain ⟨p1, c1, rfl, hO, hA1⟩ := h1w
  refine VL.toOwn hO ?_
  refine VL.conv (by rw [Try.underlying22]; rfl) Try.underlying5 rfl (by have := takeN_lt parts 1; simp only [InR]; omega) ?_
  refine VL.assign rfl ?_
  refine VL.nil ?_
  refine VX.next ?_
  refine VC.ret ?_
  refine VX.ret1 rfl rfl (fun we hw => ?_)
  exact ⟨p1, c1, rfl, hw.lose.lose, hA1.nowK (s := ⟨w1, _⟩) (Mono.slice Mono.byte) hw (List.mem_cons_self ..) rfl⟩

theorem short_r {S : List Snap} {H : List Chunk} {w : World} {g : Nat} {p : Option Addr} {c : Nat} {parts : List (List UInt8)} {why : Nat} (ho : Own S (rblk g p parts.length c why :: H) w) (hA : Arr 1 bytesR (g :: keys H) w p parts c) : Calls Try.prog 130 #[.pointer (some ⟨g, 0, none⟩)] w (Ret fun v w' => ∃ p' c', v = .int .u16 (takeN parts 2) ∧ Own S (rblk g p' (parts.drop 1).length c' (lenW parts why 2) :: H) w' ∧ Arr 1 bytesR (g :: keys H) w' p' (parts.drop 1) c') := by
  refine enter (G := Own (⟨w, keys (rblk g p parts.length c why :: H)⟩ :: S) (rblk g p parts.length c why :: H)) ho.keep Try.func130 rfl Try.ntmps130 rfl ?_
  refine VC.seq ?_
  refine VC.region ?_
  refine VL.assign rfl ?_
  refine VL.nil ?_
  refine VX.next ?_
  refine VC.seq ?_
  refine VC.region ?_
  refine VL.move rfl ?_
  refine VL.call Try.func132 rfl (by decide) rfl (fun w' hw => num_r hw (hA.nowK (s := ⟨w, _⟩) (Mono.slice Mono.byte) hw (List.mem_cons_self ..) rfl) 2 (by decide) (by decide)) (fun v => ?_)
  refine VL.at (fun w1 h1w => ?_)
  obtain ⟨p1, c1, rfl, hO, hA1⟩ := h1w
  refine VL.toOwn hO ?_
  refine VL.conv (by rw [Try.underlying22]; rfl) Try.underlying68 rfl (by have := takeN_lt parts 2; simp only [InR]; omega) ?_
  refine VL.assign rfl ?_
  refine VL.nil ?_
  refine VX.next ?_
  refine VC.ret ?_
  refine VX.ret1 rfl rfl (fun we hw => ?_)
  exact ⟨p1, c1, rfl, hw.lose.lose, hA1.nowK (s := ⟨w1, _⟩) (Mono.slice Mono.byte) hw (List.mem_cons_self ..) rfl⟩

theorem plan196 : planOf Try.prog 196 = some (placesL 0 [1, 1], (cat [[.slice none 0 0], [.int .i64 0]]).toArray) := by kernel_rfl

theorem open_r {S : List Snap} {H : List Chunk} {w : World} (ho : Own S H w) {p : Option Addr} {l : List UInt8} {c : Nat} (hA : Bytes (keys H) w p l c) : Calls Try.prog 121 #[.slice p l.length c] w (Ret fun v w' => ∃ g p' c', v = .pointer (some ⟨g, 0, none⟩) ∧ Own S (rblk g p' (openP l).length c' (openW l) :: H) w' ∧ Arr 1 bytesR (g :: keys H) w' p' (openP l) c') := by
  refine enter (G := Own (⟨w, keys H⟩ :: S) H) ho.keep Try.func121 rfl Try.ntmps121 rfl ?_
  refine VC.seq ?_
  refine VC.region ?_
  refine VL.assign rfl ?_
  refine VL.nil ?_
  refine VX.next ?_
  refine VC.seq ?_
  refine VC.region ?_
  refine VL.move rfl ?_
  refine VL.call Try.func32 rfl (by decide) rfl (fun w' hw => split_any hw (hA.now (s := ⟨w, keys H⟩) Mono.byte hw (by repeat (first | exact List.mem_cons_self .. | apply List.mem_cons_of_mem)))) (fun v => ?_)
  refine VL.at (fun w1 h1w => ?_)
  obtain ⟨hO, p1, c1, rfl, hA1⟩ := h1w
  refine VL.toOwn hO ?_
  refine VL.move rfl ?_
  refine VL.extract rfl rfl ?_
  refine VL.extract rfl rfl ?_
  refine VL.assign rfl ?_
  refine VL.assign rfl ?_
  refine VL.nil ?_
  refine VX.next ?_
  refine VC.seq ?_
  refine VC.seq ?_
  refine VC.region ?_
  refine VL.move rfl ?_
  refine VL.neq rfl rfl ?_
  refine VL.case (fun h2_1 => ?_) (fun h2_1 => ?_)
  · have hs : (splitB l).2 = [] := split_err l (by omega)
    refine VL.move rfl ?_
    refine VL.pass rfl rfl rfl rfl rfl ?_
    refine VL.pass rfl rfl rfl rfl rfl ?_
    refine VL.pass rfl rfl rfl rfl rfl ?_
    refine VL.pick_t rfl rfl ?_
    refine VL.nil ?_
    refine VX.next ?_
    refine VC.yes rfl ?_
    refine VC.seq ?_
    refine VC.region ?_
    refine VL.build (zs := [[.slice none 0 0], [.int .i64 0]]) [(1, [.int .i64 141])] plan196 rfl ⟨⟨rfl, ⟨_, rfl, rfl⟩, rfl⟩, trivial⟩ rfl ?_
    refine VL.box (L := [1, 1]) (ps := [[.slice none 0 0], [.int .i64 141]]) rfl rfl rfl (fun gr => ?_)
    refine VL.assign rfl ?_
    refine VL.nil ?_
    refine VX.next ?_
    refine VC.ret ?_
    refine VX.then_ret ?_
    refine VX.ret1 rfl rfl (fun we hw => ?_)
    refine ⟨gr, none, 0, rfl, ?_, ?_⟩
    · have e1 : openP l = [] := hs
      have e2 : openW l = 141 := if_pos hs
      rw [e1, e2]; exact hw.lose.lose
    · rw [show openP l = [] from hs]; exact Arr.none
  · refine VL.move rfl ?_
    refine VL.go rfl rfl rfl ?_
    refine VL.move rfl ?_
    refine VL.go rfl rfl rfl ?_
    refine VL.len Try.underlying31 rfl rfl ?_
    refine VL.go rfl rfl rfl ?_
    refine VL.eql rfl rfl ?_
    refine VL.case (fun h2_5 => ?_) (fun h2_5 => ?_)
    · have hs : (splitB l).2 = [] := List.eq_nil_of_length_eq_zero (by omega)
      refine VL.pick_f rfl rfl ?_
      refine VL.nil ?_
      refine VX.next ?_
      refine VC.yes rfl ?_
      refine VC.seq ?_
      refine VC.region ?_
      refine VL.build (zs := [[.slice none 0 0], [.int .i64 0]]) [(1, [.int .i64 141])] plan196 rfl ⟨⟨rfl, ⟨_, rfl, rfl⟩, rfl⟩, trivial⟩ rfl ?_
      refine VL.box (L := [1, 1]) (ps := [[.slice none 0 0], [.int .i64 141]]) rfl rfl rfl (fun gr => ?_)
      refine VL.assign rfl ?_
      refine VL.nil ?_
      refine VX.next ?_
      refine VC.ret ?_
      refine VX.then_ret ?_
      refine VX.ret1 rfl rfl (fun we hw => ?_)
      refine ⟨gr, none, 0, rfl, ?_, ?_⟩
      · have e1 : openP l = [] := hs
        have e2 : openW l = 141 := if_pos hs
        rw [e1, e2]; exact hw.lose.lose
      · rw [show openP l = [] from hs]; exact Arr.none
    · have hs : (splitB l).2 ≠ [] := fun e => h2_5 (by rw [e]; rfl)
      refine VL.pick_f rfl rfl ?_
      refine VL.nil ?_
      refine VX.next ?_
      refine VC.no rfl ?_
      refine VC.skip ?_
      refine VX.next ?_
      refine VC.seq ?_
      refine VC.region ?_
      refine VL.move rfl ?_
      refine VL.build (zs := [[.slice none 0 0], [.int .i64 0]]) [(0, [.slice p1 (splitB l).2.length c1])] plan196 rfl ⟨⟨rfl, ⟨_, rfl, rfl⟩, rfl⟩, trivial⟩ rfl ?_
      refine VL.box (L := [1, 1]) (ps := [[.slice p1 (splitB l).2.length c1], [.int .i64 0]]) rfl rfl rfl (fun gr => ?_)
      refine VL.assign rfl ?_
      refine VL.nil ?_
      refine VX.next ?_
      refine VC.ret ?_
      refine VX.ret1 rfl rfl (fun we hw => ?_)
      refine ⟨gr, p1, c1, rfl, ?_, ?_⟩
      · rw [show openW l = 0 from if_neg hs]; exact hw.lose.lose
      · exact hA1.nowK (s := ⟨w1, _⟩) (Mono.slice Mono.byte) hw (List.mem_cons_self ..) rfl

end Go.Proofs.Ytcfecmoagfgnaaa
