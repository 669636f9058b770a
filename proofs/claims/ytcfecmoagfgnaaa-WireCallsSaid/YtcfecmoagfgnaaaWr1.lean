/- wire: what gathers pieces. -/
import Derived.Test.YtcfecmoagfgnaaaOct7
import Derived.Test.YtcfecmoagfgnaaaVcTail
namespace Go.Proofs.Ytcfecmoagfgnaaa
open Go.Vc Go.Pl

/-- The variable of what gathers pieces; the row of its pieces stands behind it. -/
abbrev wblk (g : Nat) (gp : Option Nat) (c m : Nat) (bad : Bool) : Chunk := blk g 181 [1, 1] [[rowV gp m c], [.bool bad]]

theorem num_w {S : List Snap} {H : List Chunk} {w : World} {g : Nat} {gp : Option Nat} {c : Nat} {parts : List (List UInt8)} {bad : Bool} (ho : Own S (wblk g gp c parts.length bad :: brow gp c parts :: H) w) (hp : parts.length ≤ 100000) (m : Nat) (hm : Fits 8 m) (k : Nat) (h1 : 1 ≤ k) (h8 : k ≤ 8) (hf : Fits k m) : Calls Try.prog 116 #[.pointer (some ⟨g, 0, none⟩), .int .u64 m, .int .i64 k] w (Ret fun v w' => v = .tuple #[] ∧ ∃ gp' c', Own S (wblk g gp' c' (parts ++ [be k m]).length bad :: brow gp' c' (parts ++ [be k m]) :: H) w') := by
  refine enter (G := Own (⟨w, keys (wblk g gp c parts.length bad :: brow gp c parts :: H)⟩ :: S) (wblk g gp c parts.length bad :: brow gp c parts :: H)) ho.keep Try.func116 rfl Try.ntmps116 rfl ?_
  refine VC.seq ?_
  refine VC.region ?_
  refine VL.move rfl ?_
  refine VL.move rfl ?_
  refine VL.call Try.func25 rfl (by decide) rfl (fun w' hw => put_any hw m hm k) (fun v => ?_)
  refine VL.at (fun w1 h1w => ?_)
  obtain ⟨hO, ⟨_, _, _, p1, c1, rfl, hA1⟩ | ⟨hno, _⟩⟩ := h1w
  rotate_left
  · exact absurd ⟨by omega, by omega, by rw [Int.toNat_natCast]; exact hf⟩ hno
  rw [Int.toNat_natCast] at hA1
  rw [Int.toNat_natCast]
  refine VL.toOwn hO ?_
  refine VL.move rfl ?_
  refine VL.extract rfl rfl ?_
  refine VL.extract rfl rfl ?_
  refine VL.assign rfl ?_
  refine VL.assign rfl ?_
  refine VL.nil ?_
  refine VX.next ?_
  refine VC.region ?_
  refine VL.move rfl ?_
  refine VL.move rfl ?_
  refine VL.nilCheck rfl ?_
  refine VL.fieldAddr rfl fo181_0 rfl ?_
  refine VL.load 0 0 rfl kd31 (fun _ h => h) rfl rfl rfl ?_
  refine VL.move rfl ?_
  refine VL.lit el31 rfl rfl rfl (by simp [Value.cells]) (by intro u hu; simp [Value.cells] at hu; subst hu; rfl) (fun g9 => ?_)
  refine VL.letOne (X := List UInt8) (R := bytesR) (y := be k m) (.slice p1 k c1) (fun w9 hO9 => ⟨p1, c1, by rw [be_length], hA1.now (s := ⟨w1, _⟩) Mono.byte hO9 (List.mem_cons_self ..)⟩) (fun w9 hO9 hA9 => ?_)
  refine VL.appends 1 el31 rfl rfl rfl (fun _ h => h) rfl (fun _ h => hA9.now (s := ⟨w9, _⟩) (Mono.slice Mono.byte) h (List.mem_cons_self ..)) (fun _ _ _ _ h => ok1_slices h) (by simp only [List.length_cons, List.length_nil]; omega) (fun g2 c2 => ?_) (by simp only [List.length_cons, List.length_nil]; omega)
  refine VL.nilCheck rfl ?_
  refine VL.fieldAddr rfl fo181_0 rfl ?_
  refine VL.store (L := [1, 1]) (qs := [[rowV g2 (parts ++ [be k m]).length c2]]) 0 0 1 rfl rfl rfl (.inr ⟨kd31, rfl⟩) rfl rfl rfl (by intro u hu; simp [cat] at hu; subst hu; rfl) rfl rfl ?_
  refine VL.nil ?_
  refine VX.end0 rfl (fun we hw => ?_)
  exact ⟨rfl, g2, c2, hw.lose.lose.lose⟩

theorem piece_w {S : List Snap} {H : List Chunk} {w : World} {g : Nat} {gp : Option Nat} {c : Nat} {parts : List (List UInt8)} {bad : Bool} (ho : Own S (wblk g gp c parts.length bad :: brow gp c parts :: H) w) (hp : parts.length ≤ 100000) {p : Option Addr} {l : List UInt8} {c1 : Nat} (hA : Bytes (keys (wblk g gp c parts.length bad :: brow gp c parts :: H)) w p l c1) (ok : Bool) : Calls Try.prog 117 #[.pointer (some ⟨g, 0, none⟩), .slice p l.length c1, .bool ok] w (Ret fun v w' => v = .tuple #[] ∧ ∃ gp' c', Own S (wblk g gp' c' (parts ++ [l]).length (bad || !ok) :: brow gp' c' (parts ++ [l]) :: H) w') := by
  refine enter (G := Own (⟨w, keys (wblk g gp c parts.length bad :: brow gp c parts :: H)⟩ :: S) (wblk g gp c parts.length bad :: brow gp c parts :: H)) ho.keep Try.func117 rfl Try.ntmps117 rfl ?_
  refine VC.seq ?_
  refine VC.region ?_
  refine VL.move rfl ?_
  refine VL.move rfl ?_
  refine VL.nilCheck rfl ?_
  refine VL.fieldAddr rfl fo181_0 rfl ?_
  refine VL.load 0 0 rfl kd31 (fun _ h => h) rfl rfl rfl ?_
  refine VL.move rfl ?_
  refine VL.lit el31 rfl rfl rfl (by simp [Value.cells]) (by intro u hu; simp [Value.cells] at hu; subst hu; rfl) (fun g9 => ?_)
  refine VL.letOne (X := List UInt8) (R := bytesR) (y := l) (.slice p l.length c1) (fun w9 hO9 => ⟨p, c1, rfl, hA.now (s := ⟨w, _⟩) Mono.byte hO9 (List.mem_cons_self ..)⟩) (fun w9 hO9 hA9 => ?_)
  refine VL.appends 1 el31 rfl rfl rfl (fun _ h => h) rfl (fun _ h => hA9.now (s := ⟨w9, _⟩) (Mono.slice Mono.byte) h (List.mem_cons_self ..)) (fun _ _ _ _ h => ok1_slices h) (by simp only [List.length_cons, List.length_nil]; omega) (fun g2 c2 => ?_) (by simp only [List.length_cons, List.length_nil]; omega)
  refine VL.nilCheck rfl ?_
  refine VL.fieldAddr rfl fo181_0 rfl ?_
  refine VL.store (L := [1, 1]) (qs := [[rowV g2 (parts ++ [l]).length c2]]) 0 0 1 rfl rfl rfl (.inr ⟨kd31, rfl⟩) rfl rfl rfl (by intro u hu; simp [cat] at hu; subst hu; rfl) rfl rfl ?_
  refine VL.nil ?_
  refine VX.next ?_
  refine VC.region ?_
  refine VL.move rfl ?_
  refine VL.move rfl ?_
  refine VL.nilCheck rfl ?_
  refine VL.fieldAddr rfl fo181_1 rfl ?_
  refine VL.load (v := .bool bad) 0 1 rfl kd4 (fun _ h => h) rfl rfl rfl ?_
  cases bad
  · refine VL.move rfl ?_
    refine VL.go rfl rfl rfl ?_
    refine VL.move rfl ?_
    cases ok
    · refine VL.go rfl rfl rfl ?_
      refine VL.not rfl ?_
      refine VL.pick_f rfl rfl ?_
      refine VL.nilCheck rfl ?_
      refine VL.fieldAddr rfl fo181_1 rfl ?_
      refine VL.store (L := [1, 1]) (qs := [[.bool _]]) 0 1 1 rfl rfl rfl (.inr ⟨kd4, rfl⟩) rfl rfl rfl (by intro u hu; simp [cat] at hu; subst hu; rfl) rfl rfl ?_
      refine VL.nil ?_
      refine VX.end0 rfl (fun we hw => ?_)
      exact ⟨rfl, g2, c2, hw.lose.lose⟩
    · refine VL.go rfl rfl rfl ?_
      refine VL.not rfl ?_
      refine VL.pick_f rfl rfl ?_
      refine VL.nilCheck rfl ?_
      refine VL.fieldAddr rfl fo181_1 rfl ?_
      refine VL.store (L := [1, 1]) (qs := [[.bool _]]) 0 1 1 rfl rfl rfl (.inr ⟨kd4, rfl⟩) rfl rfl rfl (by intro u hu; simp [cat] at hu; subst hu; rfl) rfl rfl ?_
      refine VL.nil ?_
      refine VX.end0 rfl (fun we hw => ?_)
      exact ⟨rfl, g2, c2, hw.lose.lose⟩
  · refine VL.move rfl ?_
    refine VL.pass rfl rfl rfl rfl rfl ?_
    refine VL.pass rfl rfl rfl rfl rfl ?_
    refine VL.pick_t rfl rfl ?_
    refine VL.nilCheck rfl ?_
    refine VL.fieldAddr rfl fo181_1 rfl ?_
    refine VL.store (L := [1, 1]) (qs := [[.bool _]]) 0 1 1 rfl rfl rfl (.inr ⟨kd4, rfl⟩) rfl rfl rfl (by intro u hu; simp [cat] at hu; subst hu; rfl) rfl rfl ?_
    refine VL.nil ?_
    refine VX.end0 rfl (fun we hw => ?_)
    exact ⟨rfl, g2, c2, hw.lose.lose⟩

theorem done_w {S : List Snap} {H : List Chunk} {w : World} {g : Nat} {gp : Option Nat} {c : Nat} {parts : List (List UInt8)} {bad : Bool} (ho : Own S (wblk g gp c parts.length bad :: brow gp c parts :: H) w) : Calls Try.prog 118 #[.pointer (some ⟨g, 0, none⟩)] w (Ret fun v w' => Own S H w' ∧ ((joinOk parts ∧ bad = false ∧ ∃ p c, v = .tuple #[.slice p (joinB parts).length c, .bool true] ∧ Bytes (keys H) w' p (joinB parts) c) ∨ (¬ (joinOk parts ∧ bad = false) ∧ v = .tuple #[.slice none 0 0, .bool false]))) := by
  refine enter (G := Own (⟨w, keys (wblk g gp c parts.length bad :: brow gp c parts :: H)⟩ :: S) (wblk g gp c parts.length bad :: brow gp c parts :: H)) ho.keep Try.func118 rfl Try.ntmps118 rfl ?_
  refine VC.seq ?_
  refine VC.region ?_
  refine VL.assign rfl ?_
  refine VL.assign rfl ?_
  refine VL.nil ?_
  refine VX.next ?_
  refine VC.seq ?_
  refine VC.region ?_
  refine VL.move rfl ?_
  refine VL.nilCheck rfl ?_
  refine VL.fieldAddr rfl fo181_0 rfl ?_
  refine VL.load 0 0 rfl kd31 (fun _ h => h) rfl rfl rfl ?_
  refine VL.letArr2 (fun w9 hO9 hA9 => ?_)
  by_cases hok : joinOk parts
  · refine VL.call Try.func30 rfl (by decide) rfl (fun w' hw => join_any (ls := parts) (p := gp.map fun g => ⟨g, 0, none⟩) (c := c) hw (hA9.now (s := ⟨w9, _⟩) (Mono.slice Mono.byte) hw (List.mem_cons_self ..))) (fun v => ?_)
    refine VL.at (fun w1 h1w => ?_)
    obtain ⟨hO, ⟨_, p1, c1, rfl, hA1⟩ | ⟨hno, _⟩⟩ := h1w
    rotate_left
    · exact absurd hok hno
    refine VL.toOwn hO ?_
    refine VL.move rfl ?_
    refine VL.extract rfl rfl ?_
    refine VL.extract rfl rfl ?_
    refine VL.assign rfl ?_
    refine VL.assign rfl ?_
    refine VL.nil ?_
    refine VX.next ?_
    refine VC.seq ?_
    refine VC.seq ?_
    refine VC.region ?_
    refine VL.move rfl ?_
    refine VL.not rfl ?_
    refine VL.move rfl ?_
    refine VL.go rfl rfl rfl ?_
    refine VL.move rfl ?_
    refine VL.go rfl rfl rfl ?_
    refine VL.nilCheck rfl ?_
    refine VL.go rfl rfl rfl ?_
    refine VL.fieldAddr rfl fo181_1 rfl ?_
    refine VL.go rfl rfl rfl ?_
    refine VL.load (v := .bool bad) 0 1 rfl kd4 (fun _ h => h) rfl rfl rfl ?_
    cases bad
    · refine VL.pick_f rfl rfl ?_
      refine VL.nil ?_
      refine VX.next ?_
      refine VC.no rfl ?_
      refine VC.skip ?_
      refine VX.next ?_
      refine VC.seq ?_
      refine VC.region ?_
      refine VL.move rfl ?_
      refine VL.assign rfl ?_
      refine VL.assign rfl ?_
      refine VL.nil ?_
      refine VX.next ?_
      refine VC.ret ?_
      refine VX.ret2 rfl rfl rfl (fun we hw => ?_)
      exact ⟨hw.drop.lose.lose.lose, .inl ⟨hok, rfl, p1, c1, rfl, hA1.now (s := ⟨w1, _⟩) Mono.byte hw.drop (by repeat (first | exact List.mem_cons_self .. | apply List.mem_cons_of_mem))⟩⟩
    · refine VL.pick_f rfl rfl ?_
      refine VL.nil ?_
      refine VX.next ?_
      refine VC.yes rfl ?_
      refine VC.seq ?_
      refine VC.region ?_
      refine VL.assign rfl ?_
      refine VL.assign rfl ?_
      refine VL.nil ?_
      refine VX.next ?_
      refine VC.ret ?_
      refine VX.then_ret ?_
      refine VX.ret2 rfl rfl rfl (fun we hw => ?_)
      exact ⟨hw.drop.lose.lose.lose, .inr ⟨fun h => by simp at h, rfl⟩⟩
  · refine VL.call Try.func30 rfl (by decide) rfl (fun w' hw => join_any (ls := parts) (p := gp.map fun g => ⟨g, 0, none⟩) (c := c) hw (hA9.now (s := ⟨w9, _⟩) (Mono.slice Mono.byte) hw (List.mem_cons_self ..))) (fun v => ?_)
    refine VL.at (fun w1 h1w => ?_)
    obtain ⟨hO, ⟨hyes, _⟩ | ⟨_, rfl⟩⟩ := h1w
    · exact absurd hyes hok
    refine VL.toOwn hO ?_
    refine VL.move rfl ?_
    refine VL.extract rfl rfl ?_
    refine VL.extract rfl rfl ?_
    refine VL.assign rfl ?_
    refine VL.assign rfl ?_
    refine VL.nil ?_
    refine VX.next ?_
    refine VC.seq ?_
    refine VC.seq ?_
    refine VC.region ?_
    refine VL.move rfl ?_
    refine VL.not rfl ?_
    refine VL.move rfl ?_
    refine VL.pass rfl rfl rfl rfl rfl ?_
    refine VL.pass rfl rfl rfl rfl rfl ?_
    refine VL.pass rfl rfl rfl rfl rfl ?_
    refine VL.pass rfl rfl rfl rfl rfl ?_
    refine VL.pick_t rfl rfl ?_
    refine VL.nil ?_
    refine VX.next ?_
    refine VC.yes rfl ?_
    refine VC.seq ?_
    refine VC.region ?_
    refine VL.assign rfl ?_
    refine VL.assign rfl ?_
    refine VL.nil ?_
    refine VX.next ?_
    refine VC.ret ?_
    refine VX.then_ret ?_
    refine VX.ret2 rfl rfl rfl (fun we hw => ?_)
    exact ⟨hw.drop.lose.lose.lose, .inr ⟨fun h => hok h.1, rfl⟩⟩

theorem key_w {S : List Snap} {H : List Chunk} {w : World} {g : Nat} {gp : Option Nat} {c : Nat} {parts : List (List UInt8)} {bad : Bool} (ho : Own S (wblk g gp c parts.length bad :: brow gp c parts :: H) w) (hp : parts.length ≤ 100000) {l : List UInt8} (hl : l.length = 32) : Calls Try.prog 119 #[.pointer (some ⟨g, 0, none⟩), .agg (l.map bv).toArray] w (Ret fun v w' => v = .tuple #[] ∧ ∃ gp' c', Own S (wblk g gp' c' (parts ++ [l]).length bad :: brow gp' c' (parts ++ [l]) :: H) w') := by
  refine enter (G := Own (⟨w, keys (wblk g gp c parts.length bad :: brow gp c parts :: H)⟩ :: S) (wblk g gp c parts.length bad :: brow gp c parts :: H)) ho.keep Try.func119 rfl Try.ntmps119 rfl ?_
  refine VC.seq ?_
  refine VC.region ?_
  refine VL.box (L := [32]) (ps := [l.map bv]) rfl rfl (by simp [hl]) (fun gk => ?_)
  refine VL.nil ?_
  refine VX.next ?_
  refine VC.letBlk (by decide) (fun w8 hO8 hA8 => ?_)
  apply VC.anyTA 8 7 (F := [eqF _, eqF _, eqF _, eqF _, eqF _, eqF _, arrF 1 bytesR (Mono.slice Mono.byte) [l], lateF (fun v w' => ∃ g2 c2, v = rowV g2 (parts ++ [l]).length c2 ∧ Own (⟨w8, keys (wblk g gp c parts.length bad :: brow gp c parts :: H)⟩ :: ⟨w, keys (wblk g gp c parts.length bad :: brow gp c parts :: H)⟩ :: S) (wblk g gp c parts.length bad :: brow g2 c2 (parts ++ [l]) :: H) w')]) [⟨[], [0]⟩, ⟨[], [0]⟩, ⟨[(5, 1)], []⟩, ⟨[(6, 2)], []⟩, ⟨[(7, 3)], []⟩, ⟨[], [3]⟩, ⟨[(9, 5)], []⟩, ⟨[(8, 4), (10, 6)], []⟩] [(4, 0), (11, 7)] [1, 12, 13] rfl (by kernel_rfl) (by kernel_rfl) rfl rfl (by kernel_rfl) (by kernel_rfl) (by kernel_rfl) rfl ?obs1 ?end1
  case obs1 =>
    refine Obs.cons ?_ ?_
    · refine obS (by kernel_rfl) rfl rfl (fun ph1 w1 hO1 => ?_)
      refine VL.move rfl ?_
      exact VL.finS hO1 rfl rfl
    refine Obs.cons ?_ ?_
    · refine obS (by kernel_rfl) rfl rfl (fun ph1 w1 hO1 => ?_)
      refine VL.move rfl ?_
      exact VL.finS hO1 rfl rfl
    refine Obs.cons ?_ ?_
    · refine obS (by kernel_rfl) rfl rfl (fun ph1 w1 hO1 => ?_)
      rintro _ rfl
      refine VL.nilCheck rfl ?_
      exact VL.finS hO1 rfl rfl
    refine Obs.cons ?_ ?_
    · refine obS (by kernel_rfl) rfl rfl (fun ph1 w1 hO1 => ?_)
      rintro _ rfl
      refine VL.fieldAddr rfl fo181_0 rfl ?_
      exact VL.finS hO1 rfl rfl
    refine Obs.cons ?_ ?_
    · refine ob (by kernel_rfl) rfl (by kernel_rfl) rfl (fun w1 hO1 => ?_)
      rintro _ rfl
      refine VL.load 0 0 rfl kd31 (fun _ e => e ▸ hO1) rfl rfl rfl ?_
      exact VL.finS hO1 rfl rfl
    refine Obs.cons ?_ ?_
    · refine obS (by kernel_rfl) rfl rfl (fun ph1 w1 hO1 => ?_)
      refine VL.sliceArr Try.underlying44 (by kernel_rfl) rfl ?_
      exact VL.finS hO1 rfl rfl
    refine Obs.cons ?_ ?_
    · refine ob (by kernel_rfl) rfl (by kernel_rfl) rfl (fun w1 hO1 => ?_)
      rintro _ rfl
      refine VL.toOwn hO1 ?_
      refine VL.lit el31 rfl rfl rfl (by simp [Value.cells]) (by intro u hu; simp [Value.cells] at hu; subst hu; rfl) (fun g5 => ?_)
      exact VL.finO rfl (fun _ h => h.drop) (fun _ h => ⟨_, _, rfl, Own.letOne (v := .slice (some ⟨gk, 0, none⟩) 32 32) h ⟨_, _, by rw [hl], hA8.now (s := ⟨w8, _⟩) Mono.byte h.drop (by repeat (first | exact List.mem_cons_self .. | apply List.mem_cons_of_mem))⟩⟩)
    refine Obs.cons ?_ ?_
    · refine obK (by kernel_rfl) rfl (fun w1 hO1 => ?_)
      rintro _ rfl _ ⟨p6, c6, rfl, hA6⟩
      refine VL.toOwn hO1 ?_
      refine VL.appends 1 el31 rfl rfl rfl (fun _ h => h) rfl (fun _ h => hA6.now (s := ⟨w1, _⟩) (Mono.slice Mono.byte) h (by repeat (first | exact List.mem_cons_self .. | apply List.mem_cons_of_mem))) (fun _ _ _ _ h => ok1_slices h) (by simp only [List.length_cons, List.length_nil]; omega) (fun g2 c2 => ?_) (by simp only [List.length_cons, List.length_nil]; omega)
      exact VL.finK rfl (fun _ h => h) (fun _ h => ⟨g2, c2, rfl, h.lose⟩)
    exact Obs.nil
  case end1 =>
    intro w1 hO1
    rintro _ rfl _ ⟨g2, c2, rfl, h7⟩
    refine VL.turn (G' := Own (⟨w8, keys (wblk g gp c parts.length bad :: brow gp c parts :: H)⟩ :: ⟨w, keys (wblk g gp c parts.length bad :: brow gp c parts :: H)⟩ :: S) (wblk g gp c parts.length bad :: brow g2 c2 (parts ++ [l]) :: H)) (fun w' e => e ▸ h7) ?_
    refine VL.nilCheck rfl ?_
    refine VL.fieldAddr rfl fo181_0 rfl ?_
    refine VL.store (L := [1, 1]) (qs := [[rowV g2 (parts ++ [l]).length c2]]) 0 0 1 rfl rfl rfl (.inr ⟨kd31, rfl⟩) rfl rfl rfl (by intro u hu; simp [cat] at hu; subst hu; rfl) rfl rfl ?_
    refine VL.nil ?_
    refine VX.end0 rfl (fun we hw => ?_)
    exact ⟨rfl, g2, c2, hw.lose.lose⟩

theorem sig_w {S : List Snap} {H : List Chunk} {w : World} {g : Nat} {gp : Option Nat} {c : Nat} {parts : List (List UInt8)} {bad : Bool} (ho : Own S (wblk g gp c parts.length bad :: brow gp c parts :: H) w) (hp : parts.length ≤ 100000) {l : List UInt8} (hl : l.length = 64) : Calls Try.prog 128 #[.pointer (some ⟨g, 0, none⟩), .agg (l.map bv).toArray] w (Ret fun v w' => v = .tuple #[] ∧ ∃ gp' c', Own S (wblk g gp' c' (parts ++ [l]).length bad :: brow gp' c' (parts ++ [l]) :: H) w') := by
  refine enter (G := Own (⟨w, keys (wblk g gp c parts.length bad :: brow gp c parts :: H)⟩ :: S) (wblk g gp c parts.length bad :: brow gp c parts :: H)) ho.keep Try.func128 rfl Try.ntmps128 rfl ?_
  refine VC.seq ?_
  refine VC.region ?_
  refine VL.box (L := [64]) (ps := [l.map bv]) rfl rfl (by simp [hl]) (fun gk => ?_)
  refine VL.nil ?_
  refine VX.next ?_
  refine VC.letBlk (by decide) (fun w8 hO8 hA8 => ?_)
  apply VC.anyTA 8 7 (F := [eqF _, eqF _, eqF _, eqF _, eqF _, eqF _, arrF 1 bytesR (Mono.slice Mono.byte) [l], lateF (fun v w' => ∃ g2 c2, v = rowV g2 (parts ++ [l]).length c2 ∧ Own (⟨w8, keys (wblk g gp c parts.length bad :: brow gp c parts :: H)⟩ :: ⟨w, keys (wblk g gp c parts.length bad :: brow gp c parts :: H)⟩ :: S) (wblk g gp c parts.length bad :: brow g2 c2 (parts ++ [l]) :: H) w')]) [⟨[], [0]⟩, ⟨[], [0]⟩, ⟨[(5, 1)], []⟩, ⟨[(6, 2)], []⟩, ⟨[(7, 3)], []⟩, ⟨[], [3]⟩, ⟨[(9, 5)], []⟩, ⟨[(8, 4), (10, 6)], []⟩] [(4, 0), (11, 7)] [1, 12, 13] rfl (by kernel_rfl) (by kernel_rfl) rfl rfl (by kernel_rfl) (by kernel_rfl) (by kernel_rfl) rfl ?obs1 ?end1
  case obs1 =>
    refine Obs.cons ?_ ?_
    · refine obS (by kernel_rfl) rfl rfl (fun ph1 w1 hO1 => ?_)
      refine VL.move rfl ?_
      exact VL.finS hO1 rfl rfl
    refine Obs.cons ?_ ?_
    · refine obS (by kernel_rfl) rfl rfl (fun ph1 w1 hO1 => ?_)
      refine VL.move rfl ?_
      exact VL.finS hO1 rfl rfl
    refine Obs.cons ?_ ?_
    · refine obS (by kernel_rfl) rfl rfl (fun ph1 w1 hO1 => ?_)
      rintro _ rfl
      refine VL.nilCheck rfl ?_
      exact VL.finS hO1 rfl rfl
    refine Obs.cons ?_ ?_
    · refine obS (by kernel_rfl) rfl rfl (fun ph1 w1 hO1 => ?_)
      rintro _ rfl
      refine VL.fieldAddr rfl fo181_0 rfl ?_
      exact VL.finS hO1 rfl rfl
    refine Obs.cons ?_ ?_
    · refine ob (by kernel_rfl) rfl (by kernel_rfl) rfl (fun w1 hO1 => ?_)
      rintro _ rfl
      refine VL.load 0 0 rfl kd31 (fun _ e => e ▸ hO1) rfl rfl rfl ?_
      exact VL.finS hO1 rfl rfl
    refine Obs.cons ?_ ?_
    · refine obS (by kernel_rfl) rfl rfl (fun ph1 w1 hO1 => ?_)
      refine VL.sliceArr Try.underlying80 (by kernel_rfl) rfl ?_
      exact VL.finS hO1 rfl rfl
    refine Obs.cons ?_ ?_
    · refine ob (by kernel_rfl) rfl (by kernel_rfl) rfl (fun w1 hO1 => ?_)
      rintro _ rfl
      refine VL.toOwn hO1 ?_
      refine VL.lit el31 rfl rfl rfl (by simp [Value.cells]) (by intro u hu; simp [Value.cells] at hu; subst hu; rfl) (fun g5 => ?_)
      exact VL.finO rfl (fun _ h => h.drop) (fun _ h => ⟨_, _, rfl, Own.letOne (v := .slice (some ⟨gk, 0, none⟩) 64 64) h ⟨_, _, by rw [hl], hA8.now (s := ⟨w8, _⟩) Mono.byte h.drop (by repeat (first | exact List.mem_cons_self .. | apply List.mem_cons_of_mem))⟩⟩)
    refine Obs.cons ?_ ?_
    · refine obK (by kernel_rfl) rfl (fun w1 hO1 => ?_)
      rintro _ rfl _ ⟨p6, c6, rfl, hA6⟩
      refine VL.toOwn hO1 ?_
      refine VL.appends 1 el31 rfl rfl rfl (fun _ h => h) rfl (fun _ h => hA6.now (s := ⟨w1, _⟩) (Mono.slice Mono.byte) h (by repeat (first | exact List.mem_cons_self .. | apply List.mem_cons_of_mem))) (fun _ _ _ _ h => ok1_slices h) (by simp only [List.length_cons, List.length_nil]; omega) (fun g2 c2 => ?_) (by simp only [List.length_cons, List.length_nil]; omega)
      exact VL.finK rfl (fun _ h => h) (fun _ h => ⟨g2, c2, rfl, h.lose⟩)
    exact Obs.nil
  case end1 =>
    intro w1 hO1
    rintro _ rfl _ ⟨g2, c2, rfl, h7⟩
    refine VL.turn (G' := Own (⟨w8, keys (wblk g gp c parts.length bad :: brow gp c parts :: H)⟩ :: ⟨w, keys (wblk g gp c parts.length bad :: brow gp c parts :: H)⟩ :: S) (wblk g gp c parts.length bad :: brow g2 c2 (parts ++ [l]) :: H)) (fun w' e => e ▸ h7) ?_
    refine VL.nilCheck rfl ?_
    refine VL.fieldAddr rfl fo181_0 rfl ?_
    refine VL.store (L := [1, 1]) (qs := [[rowV g2 (parts ++ [l]).length c2]]) 0 0 1 rfl rfl rfl (.inr ⟨kd31, rfl⟩) rfl rfl rfl (by intro u hu; simp [cat] at hu; subst hu; rfl) rfl rfl ?_
    refine VL.nil ?_
    refine VX.end0 rfl (fun we hw => ?_)
    exact ⟨rfl, g2, c2, hw.lose.lose⟩

end Go.Proofs.Ytcfecmoagfgnaaa
