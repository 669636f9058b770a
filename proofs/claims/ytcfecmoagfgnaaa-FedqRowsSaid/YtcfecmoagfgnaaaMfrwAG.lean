/- The statement FedqRows is proved, for every input: part 7 of 21 of the texts that it needs. -/
import Derived.Test.YtcfecmoagfgnaaaMfrwAF
/- wire: what gathers pieces. -/
namespace Go.Proofs.Ytcfecmoagfgnaaa
open Go.Vc Go.Pl

/-- The variable of what gathers pieces; the row of its pieces stands behind it. -/
abbrev wblk (g : Nat) (gp : Option Nat) (c m : Nat) (bad : Bool) : Chunk := blk g 181 [1, 1] [[rowV gp m c], [.bool bad]]

theorem num_w {S : List Snap} {H : List Chunk} {w : World} {g : Nat} {gp : Option Nat} {c : Nat} {parts : List (List UInt8)} {bad : Bool} (ho : Own S (wblk g gp c parts.length bad :: brow gp c parts :: H) w) (hp : parts.length ≤ 100000) (m : Nat) (hm : Fits 8 m) (k : Nat) (h1 : 1 ≤ k) (h8 : k ≤ 8) (hf : Fits k m) : Calls Try.prog 116 #[.pointer (some ⟨g, 0, none⟩), .int .u64 m, .int .i64 k] w (Ret fun v w' => v = .tuple #[] ∧ ∃ gp' c', Own S (wblk g gp' c' (parts ++ [be k m]).length bad :: brow gp' c' (parts ++ [be k m]) :: H) w') := by
 refine enter (G := Own (⟨w, keys (wblk g gp c parts.length bad :: brow gp c parts :: H)⟩ :: S) (wblk g gp c parts.length bad :: brow gp c parts :: H)) ho.keep Try.func116 rfl Try.ntmps116 rfl ?_
 refine VC.sr ?_
 refine VL.move rfl ?_
 refine VL.move rfl ?_
 refine VL.call Try.func25 rfl (by decide) rfl (fun w' hw => put_any hw m hm k) (fun v => ?_)
 refine VL.at (fun w1 h1w => ?_)
 obtain ⟨hO, ⟨_, _, _, p1, c1, rfl, hA1⟩ | ⟨hno, _⟩⟩ := h1w
 rotate_left
 ·exact absurd ⟨by omega, by omega, by rw [Int.toNat_natCast]; exact hf⟩ hno
 rw [Int.toNat_natCast] at hA1
 rw [Int.toNat_natCast]
 refine VL.toOwn hO ?_
 refine VL.move rfl ?_
 refine VL.extract rfl rfl ?_
 refine VL.extract rfl rfl ?_
 refine VL.assign rfl ?_
 refine VL.assign rfl ?_
 refine VL.nn ?_
 refine VC.region ?_
 refine VL.move rfl ?_
 refine VL.move rfl ?_
 refine VL.nilCheck rfl ?_
 refine VL.fieldAddr rfl fo181_0 rfl ?_
 refine VL.load 0 0 rfl kd31 (fun _ h => h) rfl rfl rfl ?_
 refine VL.move rfl ?_
 refine VL.lit el31 rfl rfl rfl (by simp [Value.cells]) (by intro u hu; simp [Value.cells] at hu; subst hu; rfl) (fun g9 => ?_)
 refine VL.letOne (X := List UInt8) (R := bytesR) (y := be k m) (.slice p1 k c1) (fun w9 hO9 => ⟨p1, c1, by rw [be_length], hA1.now (s := ⟨w1, _⟩) Mono.byte hO9 (List.mem_cons_self ..)⟩) (fun w9 hO9 hA9 => ?_)
 refine VL.appends 1 el31 rfl rfl rfl (fun _ h => h) rfl (fun _ h => hA9.now (s := ⟨w9, _⟩) (Mono.slice Mono.byte) h (List.mem_cons_self ..)) (fun _ _ _ _ h => ok1_slices h) (by simp only [List.length_cons, List.length_nil]; omega) (fun g2 c2 => ?_) (by simp only [List.length_cons, List.length_nil]; omega)
 refine VL.nilCheck rfl ?_
 refine VL.fieldAddr rfl fo181_0 rfl ?_
 refine VL.store (L := [1, 1]) (qs := [[rowV g2 (parts ++ [be k m]).length c2]]) 0 0 1 rfl rfl rfl (.inr ⟨kd31, rfl⟩) rfl rfl rfl (by intro u hu; simp [cat] at hu; subst hu; rfl) rfl rfl ?_
 refine VL.nil ?_
 refine VX.end0 rfl (fun we hw => ?_)
 exact ⟨rfl, g2, c2, hw.lose.lose.lose⟩

theorem piece_w {S : List Snap} {H : List Chunk} {w : World} {g : Nat} {gp : Option Nat} {c : Nat} {parts : List (List UInt8)} {bad : Bool} (ho : Own S (wblk g gp c parts.length bad :: brow gp c parts :: H) w) (hp : parts.length ≤ 100000) {p : Option Addr} {l : List UInt8} {c1 : Nat} (hA : Bytes (keys (wblk g gp c parts.length bad :: brow gp c parts :: H)) w p l c1) (ok : Bool) : Calls Try.prog 117 #[.pointer (some ⟨g, 0, none⟩), .slice p l.length c1, .bool ok] w (Ret fun v w' => v = .tuple #[] ∧ ∃ gp' c', Own S (wblk g gp' c' (parts ++ [l]).length (bad || !ok) :: brow gp' c' (parts ++ [l]) :: H) w') := by
 refine enter (G := Own (⟨w, keys (wblk g gp c parts.length bad :: brow gp c parts :: H)⟩ :: S) (wblk g gp c parts.length bad :: brow gp c parts :: H)) ho.keep Try.func117 rfl Try.ntmps117 rfl ?_
 refine VC.sr ?_
 refine VL.move rfl ?_
 refine VL.move rfl ?_
 refine VL.nilCheck rfl ?_
 refine VL.fieldAddr rfl fo181_0 rfl ?_
 refine VL.load 0 0 rfl kd31 (fun _ h => h) rfl rfl rfl ?_
 refine VL.move rfl ?_
 refine VL.lit el31 rfl rfl rfl (by simp [Value.cells]) (by intro u hu; simp [Value.cells] at hu; subst hu; rfl) (fun g9 => ?_)
 refine VL.letOne (X := List UInt8) (R := bytesR) (y := l) (.slice p l.length c1) (fun w9 hO9 => ⟨p, c1, rfl, hA.now (s := ⟨w, _⟩) Mono.byte hO9 (List.mem_cons_self ..)⟩) (fun w9 hO9 hA9 => ?_)
 refine VL.appends 1 el31 rfl rfl rfl (fun _ h => h) rfl (fun _ h => hA9.now (s := ⟨w9, _⟩) (Mono.slice Mono.byte) h (List.mem_cons_self ..)) (fun _ _ _ _ h => ok1_slices h) (by simp only [List.length_cons, List.length_nil]; omega) (fun g2 c2 => ?_) (by simp only [List.length_cons, List.length_nil]; omega)
 refine VL.nilCheck rfl ?_
 refine VL.fieldAddr rfl fo181_0 rfl ?_
 refine VL.store (L := [1, 1]) (qs := [[rowV g2 (parts ++ [l]).length c2]]) 0 0 1 rfl rfl rfl (.inr ⟨kd31, rfl⟩) rfl rfl rfl (by intro u hu; simp [cat] at hu; subst hu; rfl) rfl rfl ?_
 refine VL.nn ?_
 refine VC.region ?_
 refine VL.move rfl ?_
 refine VL.move rfl ?_
 refine VL.nilCheck rfl ?_
 refine VL.fieldAddr rfl fo181_1 rfl ?_
 refine VL.load (v := .bool bad) 0 1 rfl kd4 (fun _ h => h) rfl rfl rfl ?_
 cases bad
 ·refine VL.move rfl ?_
  refine VL.go rfl rfl rfl ?_
  refine VL.move rfl ?_
  cases ok
  ·refine VL.go rfl rfl rfl ?_
   refine VL.not rfl ?_
   refine VL.pick_f rfl rfl ?_
   refine VL.nilCheck rfl ?_
   refine VL.fieldAddr rfl fo181_1 rfl ?_
   refine VL.store (L := [1, 1]) (qs := [[.bool _]]) 0 1 1 rfl rfl rfl (.inr ⟨kd4, rfl⟩) rfl rfl rfl (by intro u hu; simp [cat] at hu; subst hu; rfl) rfl rfl ?_
   refine VL.nil ?_
   refine VX.end0 rfl (fun we hw => ?_)
   exact ⟨rfl, g2, c2, hw.lose.lose⟩
  ·refine VL.go rfl rfl rfl ?_
   refine VL.not rfl ?_
   refine VL.pick_f rfl rfl ?_
   refine VL.nilCheck rfl ?_
   refine VL.fieldAddr rfl fo181_1 rfl ?_
   refine VL.store (L := [1, 1]) (qs := [[.bool _]]) 0 1 1 rfl rfl rfl (.inr ⟨kd4, rfl⟩) rfl rfl rfl (by intro u hu; simp [cat] at hu; subst hu; rfl) rfl rfl ?_
   refine VL.nil ?_
   refine VX.end0 rfl (fun we hw => ?_)
   exact ⟨rfl, g2, c2, hw.lose.lose⟩
 ·refine VL.move rfl ?_
  refine VL.pass rfl rfl rfl rfl rfl ?_
  refine VL.pass rfl rfl rfl rfl rfl ?_
  refine VL.pick_t rfl rfl ?_
  refine VL.nilCheck rfl ?_
  refine VL.fieldAddr rfl fo181_1 rfl ?_
  refine VL.store (L := [1, 1]) (qs := [[.bool _]]) 0 1 1 rfl rfl rfl (.inr ⟨kd4, rfl⟩) rfl rfl rfl (by intro u hu; simp [cat] at hu; subst hu; rfl) rfl rfl ?_
  refine VL.nil ?_
  refine VX.end0 rfl (fun we hw => ?_)
  exact ⟨rfl, g2, c2, hw.lose.lose⟩

theorem done_w {S : List Snap} {H : List Chunk} {w : World} {g : Nat} {gp : Option Nat} {c : Nat} {parts : List (List UInt8)} {bad : Bool} (ho : Own S (wblk g gp c parts.length bad :: brow gp c parts :: H) w) : Calls Try.prog 118 #[.pointer (some ⟨g, 0, none⟩)] w (Ret fun v w' => Own S H w' ∧ ((joinOk parts ∧ bad = false ∧ ∃ p c, v = .tuple #[.slice p (joinB parts).length c, .bool true] ∧ Bytes (keys H) w' p (joinB parts) c) ∨ (¬ (joinOk parts ∧ bad = false) ∧ v = .tuple #[.slice none 0 0, .bool false]))) := by
 refine enter (G := Own (⟨w, keys (wblk g gp c parts.length bad :: brow gp c parts :: H)⟩ :: S) (wblk g gp c parts.length bad :: brow gp c parts :: H)) ho.keep Try.func118 rfl Try.ntmps118 rfl ?_
 refine VC.sr ?_
 refine VL.assign rfl ?_
 refine VL.assign rfl ?_
 refine VL.nn ?_
 refine VC.sr ?_
 refine VL.move rfl ?_
 refine VL.nilCheck rfl ?_
 refine VL.fieldAddr rfl fo181_0 rfl ?_
 refine VL.load 0 0 rfl kd31 (fun _ h => h) rfl rfl rfl ?_
 refine VL.letArr2 (fun w9 hO9 hA9 => ?_)
 by_cases hok : joinOk parts
 ·refine VL.call Try.func30 rfl (by decide) rfl (fun w' hw => join_any (ls := parts) (p := gp.map fun g => ⟨g, 0, none⟩) (c := c) hw (hA9.now (s := ⟨w9, _⟩) (Mono.slice Mono.byte) hw (List.mem_cons_self ..))) (fun v => ?_)
  refine VL.at (fun w1 h1w => ?_)
  obtain ⟨hO, ⟨_, p1, c1, rfl, hA1⟩ | ⟨hno, _⟩⟩ := h1w
  rotate_left
  ·exact absurd hok hno
  refine VL.toOwn hO ?_
  refine VL.move rfl ?_
  refine VL.extract rfl rfl ?_
  refine VL.extract rfl rfl ?_
  refine VL.assign rfl ?_
  refine VL.assign rfl ?_
  refine VL.nn ?_
  refine VC.seq ?_
  refine VC.sr ?_
  refine VL.move rfl ?_
  refine VL.not rfl ?_
  refine VL.move rfl ?_
  refine VL.go rfl rfl rfl ?_
  refine VL.move rfl ?_
  refine VL.go rfl rfl rfl ?_
  refine VL.nilCheck rfl ?_
  refine VL.go rfl rfl rfl ?_
  refine VL.fieldAddr rfl fo181_1 rfl ?_
  refine VL.go rfl rfl rfl ?_
  refine VL.load (v := .bool bad) 0 1 rfl kd4 (fun _ h => h) rfl rfl rfl ?_
  cases bad
  ·refine VL.pick_f rfl rfl ?_
   refine VL.nn ?_
   refine VC.no rfl ?_
   refine VC.skip ?_
   refine VX.next ?_
   refine VC.sr ?_
   refine VL.move rfl ?_
   refine VL.assign rfl ?_
   refine VL.assign rfl ?_
   refine VL.nn ?_
   refine VC.ret ?_
   refine VX.ret2 rfl rfl rfl (fun we hw => ?_)
   exact ⟨hw.drop.lose.lose.lose, .inl ⟨hok, rfl, p1, c1, rfl, hA1.nowA (s := ⟨w1, _⟩) Mono.byte hw.drop⟩⟩
  ·refine VL.pick_f rfl rfl ?_
   refine VL.nn ?_
   refine VC.yes rfl ?_
   refine VC.sr ?_
   refine VL.assign rfl ?_
   refine VL.assign rfl ?_
   refine VL.nn ?_
   refine VC.ret ?_
   refine VX.then_ret ?_
   refine VX.ret2 rfl rfl rfl (fun we hw => ?_)
   exact ⟨hw.drop.lose.lose.lose, .inr ⟨fun h => by simp at h, rfl⟩⟩
 ·refine VL.call Try.func30 rfl (by decide) rfl (fun w' hw => join_any (ls := parts) (p := gp.map fun g => ⟨g, 0, none⟩) (c := c) hw (hA9.now (s := ⟨w9, _⟩) (Mono.slice Mono.byte) hw (List.mem_cons_self ..))) (fun v => ?_)
  refine VL.at (fun w1 h1w => ?_)
  obtain ⟨hO, ⟨hyes, _⟩ | ⟨_, rfl⟩⟩ := h1w
  ·exact absurd hyes hok
  refine VL.toOwn hO ?_
  refine VL.move rfl ?_
  refine VL.extract rfl rfl ?_
  refine VL.extract rfl rfl ?_
  refine VL.assign rfl ?_
  refine VL.assign rfl ?_
  refine VL.nn ?_
  refine VC.seq ?_
  refine VC.sr ?_
  refine VL.move rfl ?_
  refine VL.not rfl ?_
  refine VL.move rfl ?_
  refine VL.pass rfl rfl rfl rfl rfl ?_
  refine VL.pass rfl rfl rfl rfl rfl ?_
  refine VL.pass rfl rfl rfl rfl rfl ?_
  refine VL.pass rfl rfl rfl rfl rfl ?_
  refine VL.pick_t rfl rfl ?_
  refine VL.nn ?_
  refine VC.yes rfl ?_
  refine VC.sr ?_
  refine VL.assign rfl ?_
  refine VL.assign rfl ?_
  refine VL.nn ?_
  refine VC.ret ?_
  refine VX.then_ret ?_
  refine VX.ret2 rfl rfl rfl (fun we hw => ?_)
  exact ⟨hw.drop.lose.lose.lose, .inr ⟨fun h => hok h.1, rfl⟩⟩

theorem key_w {S : List Snap} {H : List Chunk} {w : World} {g : Nat} {gp : Option Nat} {c : Nat} {parts : List (List UInt8)} {bad : Bool} (ho : Own S (wblk g gp c parts.length bad :: brow gp c parts :: H) w) (hp : parts.length ≤ 100000) {l : List UInt8} (hl : l.length = 32) : Calls Try.prog 119 #[.pointer (some ⟨g, 0, none⟩), .agg (l.map bv).toArray] w (Ret fun v w' => v = .tuple #[] ∧ ∃ gp' c', Own S (wblk g gp' c' (parts ++ [l]).length bad :: brow gp' c' (parts ++ [l]) :: H) w') := by
 refine enter (G := Own (⟨w, keys (wblk g gp c parts.length bad :: brow gp c parts :: H)⟩ :: S) (wblk g gp c parts.length bad :: brow gp c parts :: H)) ho.keep Try.func119 rfl Try.ntmps119 rfl ?_
 refine VC.sr ?_
 refine VL.box (L := [32]) (ps := [l.map bv]) rfl rfl (by simp [hl]) (fun gk => ?_)
 refine VL.nn ?_
 refine VC.letBlk (by decide) (fun w8 hO8 hA8 => ?_)
 apply VC.anyTA 8 7 (F := [eqF _, eqF _, eqF _, eqF _, eqF _, eqF _, arrF 1 bytesR (Mono.slice Mono.byte) [l], lateF (fun v w' => ∃ g2 c2, v = rowV g2 (parts ++ [l]).length c2 ∧ Own (⟨w8, keys (wblk g gp c parts.length bad :: brow gp c parts :: H)⟩ :: ⟨w, keys (wblk g gp c parts.length bad :: brow gp c parts :: H)⟩ :: S) (wblk g gp c parts.length bad :: brow g2 c2 (parts ++ [l]) :: H) w')]) [⟨[], [0]⟩, ⟨[], [0]⟩, ⟨[(5, 1)], []⟩, ⟨[(6, 2)], []⟩, ⟨[(7, 3)], []⟩, ⟨[], [3]⟩, ⟨[(9, 5)], []⟩, ⟨[(8, 4), (10, 6)], []⟩] [(4, 0), (11, 7)] [1, 12, 13] rfl (by kernel_rfl) (by kernel_rfl) rfl rfl (by kernel_rfl) (by kernel_rfl) (by kernel_rfl) rfl ?obs1 ?end1
 case obs1 =>
  refine Obs.cons ?_ ?_
  ·refine obS (by kernel_rfl) rfl rfl (fun ph1 w1 hO1 => ?_)
   refine VL.move rfl ?_
   exact VL.finS hO1 rfl rfl
  refine Obs.cons ?_ ?_
  ·refine obS (by kernel_rfl) rfl rfl (fun ph1 w1 hO1 => ?_)
   refine VL.move rfl ?_
   exact VL.finS hO1 rfl rfl
  refine Obs.cons ?_ ?_
  ·refine obS (by kernel_rfl) rfl rfl (fun ph1 w1 hO1 => ?_)
   rintro _ rfl
   refine VL.nilCheck rfl ?_
   exact VL.finS hO1 rfl rfl
  refine Obs.cons ?_ ?_
  ·refine obS (by kernel_rfl) rfl rfl (fun ph1 w1 hO1 => ?_)
   rintro _ rfl
   refine VL.fieldAddr rfl fo181_0 rfl ?_
   exact VL.finS hO1 rfl rfl
  refine Obs.cons ?_ ?_
  ·refine ob (by kernel_rfl) rfl (by kernel_rfl) rfl (fun w1 hO1 => ?_)
   rintro _ rfl
   refine VL.load 0 0 rfl kd31 (fun _ e => e ▸ hO1) rfl rfl rfl ?_
   exact VL.finS hO1 rfl rfl
  refine Obs.cons ?_ ?_
  ·refine obS (by kernel_rfl) rfl rfl (fun ph1 w1 hO1 => ?_)
   refine VL.sliceArr Try.underlying44 (by kernel_rfl) rfl ?_
   exact VL.finS hO1 rfl rfl
  refine Obs.cons ?_ ?_
  ·refine ob (by kernel_rfl) rfl (by kernel_rfl) rfl (fun w1 hO1 => ?_)
   rintro _ rfl
   refine VL.toOwn hO1 ?_
   refine VL.lit el31 rfl rfl rfl (by simp [Value.cells]) (by intro u hu; simp [Value.cells] at hu; subst hu; rfl) (fun g5 => ?_)
   exact VL.finO rfl (fun _ h => h.drop) (fun _ h => ⟨_, _, rfl, Own.letOne (v := .slice (some ⟨gk, 0, none⟩) 32 32) h ⟨_, _, by rw [hl], hA8.nowA (s := ⟨w8, _⟩) Mono.byte h.drop⟩⟩)
  refine Obs.cons ?_ ?_
  ·refine obK (by kernel_rfl) rfl (fun w1 hO1 => ?_)
   rintro _ rfl _ ⟨p6, c6, rfl, hA6⟩
   refine VL.toOwn hO1 ?_
   refine VL.appends 1 el31 rfl rfl rfl (fun _ h => h) rfl (fun _ h => hA6.nowA (s := ⟨w1, _⟩) (Mono.slice Mono.byte) h) (fun _ _ _ _ h => ok1_slices h) (by simp only [List.length_cons, List.length_nil]; omega) (fun g2 c2 => ?_) (by simp only [List.length_cons, List.length_nil]; omega)
   exact VL.finK rfl (fun _ h => h) (fun _ h => ⟨g2, c2, rfl, h.lose⟩)
  exact Obs.nil
 case end1 =>
  intro w1 hO1
  rintro _ rfl _ ⟨g2, c2, rfl, h7⟩
  refine VL.turn (G' := Own (⟨w8, keys (wblk g gp c parts.length bad :: brow gp c parts :: H)⟩ :: ⟨w, keys (wblk g gp c parts.length bad :: brow gp c parts :: H)⟩ :: S) (wblk g gp c parts.length bad :: brow g2 c2 (parts ++ [l]) :: H)) (fun w' e => e ▸ h7) ?_
  refine VL.nilCheck rfl ?_
  refine VL.fieldAddr rfl fo181_0 rfl ?_
  refine VL.store (L := [1, 1]) (qs := [[rowV g2 (parts ++ [l]).length c2]]) 0 0 1 rfl rfl rfl (.inr ⟨kd31, rfl⟩) rfl rfl rfl (by intro u hu; simp [cat] at hu; subst hu; rfl) rfl rfl ?_
  refine VL.nil ?_
  refine VX.end0 rfl (fun we hw => ?_)
  exact ⟨rfl, g2, c2, hw.lose.lose⟩

theorem sig_w {S : List Snap} {H : List Chunk} {w : World} {g : Nat} {gp : Option Nat} {c : Nat} {parts : List (List UInt8)} {bad : Bool} (ho : Own S (wblk g gp c parts.length bad :: brow gp c parts :: H) w) (hp : parts.length ≤ 100000) {l : List UInt8} (hl : l.length = 64) : Calls Try.prog 128 #[.pointer (some ⟨g, 0, none⟩), .agg (l.map bv).toArray] w (Ret fun v w' => v = .tuple #[] ∧ ∃ gp' c', Own S (wblk g gp' c' (parts ++ [l]).length bad :: brow gp' c' (parts ++ [l]) :: H) w') := by
 refine enter (G := Own (⟨w, keys (wblk g gp c parts.length bad :: brow gp c parts :: H)⟩ :: S) (wblk g gp c parts.length bad :: brow gp c parts :: H)) ho.keep Try.func128 rfl Try.ntmps128 rfl ?_
 refine VC.sr ?_
 refine VL.box (L := [64]) (ps := [l.map bv]) rfl rfl (by simp [hl]) (fun gk => ?_)
 refine VL.nn ?_
 refine VC.letBlk (by decide) (fun w8 hO8 hA8 => ?_)
 apply VC.anyTA 8 7 (F := [eqF _, eqF _, eqF _, eqF _, eqF _, eqF _, arrF 1 bytesR (Mono.slice Mono.byte) [l], lateF (fun v w' => ∃ g2 c2, v = rowV g2 (parts ++ [l]).length c2 ∧ Own (⟨w8, keys (wblk g gp c parts.length bad :: brow gp c parts :: H)⟩ :: ⟨w, keys (wblk g gp c parts.length bad :: brow gp c parts :: H)⟩ :: S) (wblk g gp c parts.length bad :: brow g2 c2 (parts ++ [l]) :: H) w')]) [⟨[], [0]⟩, ⟨[], [0]⟩, ⟨[(5, 1)], []⟩, ⟨[(6, 2)], []⟩, ⟨[(7, 3)], []⟩, ⟨[], [3]⟩, ⟨[(9, 5)], []⟩, ⟨[(8, 4), (10, 6)], []⟩] [(4, 0), (11, 7)] [1, 12, 13] rfl (by kernel_rfl) (by kernel_rfl) rfl rfl (by kernel_rfl) (by kernel_rfl) (by kernel_rfl) rfl ?obs1 ?end1
 case obs1 =>
  refine Obs.cons ?_ ?_
  ·refine obS (by kernel_rfl) rfl rfl (fun ph1 w1 hO1 => ?_)
   refine VL.move rfl ?_
   exact VL.finS hO1 rfl rfl
  refine Obs.cons ?_ ?_
  ·refine obS (by kernel_rfl) rfl rfl (fun ph1 w1 hO1 => ?_)
   refine VL.move rfl ?_
   exact VL.finS hO1 rfl rfl
  refine Obs.cons ?_ ?_
  ·refine obS (by kernel_rfl) rfl rfl (fun ph1 w1 hO1 => ?_)
   rintro _ rfl
   refine VL.nilCheck rfl ?_
   exact VL.finS hO1 rfl rfl
  refine Obs.cons ?_ ?_
  ·refine obS (by kernel_rfl) rfl rfl (fun ph1 w1 hO1 => ?_)
   rintro _ rfl
   refine VL.fieldAddr rfl fo181_0 rfl ?_
   exact VL.finS hO1 rfl rfl
  refine Obs.cons ?_ ?_
  ·refine ob (by kernel_rfl) rfl (by kernel_rfl) rfl (fun w1 hO1 => ?_)
   rintro _ rfl
   refine VL.load 0 0 rfl kd31 (fun _ e => e ▸ hO1) rfl rfl rfl ?_
   exact VL.finS hO1 rfl rfl
  refine Obs.cons ?_ ?_
  ·refine obS (by kernel_rfl) rfl rfl (fun ph1 w1 hO1 => ?_)
   refine VL.sliceArr Try.underlying80 (by kernel_rfl) rfl ?_
   exact VL.finS hO1 rfl rfl
  refine Obs.cons ?_ ?_
  ·refine ob (by kernel_rfl) rfl (by kernel_rfl) rfl (fun w1 hO1 => ?_)
   rintro _ rfl
   refine VL.toOwn hO1 ?_
   refine VL.lit el31 rfl rfl rfl (by simp [Value.cells]) (by intro u hu; simp [Value.cells] at hu; subst hu; rfl) (fun g5 => ?_)
   exact VL.finO rfl (fun _ h => h.drop) (fun _ h => ⟨_, _, rfl, Own.letOne (v := .slice (some ⟨gk, 0, none⟩) 64 64) h ⟨_, _, by rw [hl], hA8.nowA (s := ⟨w8, _⟩) Mono.byte h.drop⟩⟩)
  refine Obs.cons ?_ ?_
  ·refine obK (by kernel_rfl) rfl (fun w1 hO1 => ?_)
   rintro _ rfl _ ⟨p6, c6, rfl, hA6⟩
   refine VL.toOwn hO1 ?_
   refine VL.appends 1 el31 rfl rfl rfl (fun _ h => h) rfl (fun _ h => hA6.nowA (s := ⟨w1, _⟩) (Mono.slice Mono.byte) h) (fun _ _ _ _ h => ok1_slices h) (by simp only [List.length_cons, List.length_nil]; omega) (fun g2 c2 => ?_) (by simp only [List.length_cons, List.length_nil]; omega)
   exact VL.finK rfl (fun _ h => h) (fun _ h => ⟨g2, c2, rfl, h.lose⟩)
  exact Obs.nil
 case end1 =>
  intro w1 hO1
  rintro _ rfl _ ⟨g2, c2, rfl, h7⟩
  refine VL.turn (G' := Own (⟨w8, keys (wblk g gp c parts.length bad :: brow gp c parts :: H)⟩ :: ⟨w, keys (wblk g gp c parts.length bad :: brow gp c parts :: H)⟩ :: S) (wblk g gp c parts.length bad :: brow g2 c2 (parts ++ [l]) :: H)) (fun w' e => e ▸ h7) ?_
  refine VL.nilCheck rfl ?_
  refine VL.fieldAddr rfl fo181_0 rfl ?_
  refine VL.store (L := [1, 1]) (qs := [[rowV g2 (parts ++ [l]).length c2]]) 0 0 1 rfl rfl rfl (.inr ⟨kd31, rfl⟩) rfl rfl rfl (by intro u hu; simp [cat] at hu; subst hu; rfl) rfl rfl ?_
  refine VL.nil ?_
  refine VX.end0 rfl (fun we hw => ?_)
  exact ⟨rfl, g2, c2, hw.lose.lose⟩

end Go.Proofs.Ytcfecmoagfgnaaa

/- wire: what takes pieces. -/
namespace Go.Proofs.Ytcfecmoagfgnaaa
open Go.Vc Go.Pl

/-- The variable of what takes pieces. -/
abbrev rblk (g : Nat) (p : Option Addr) (m c : Nat) (why : Nat) : Chunk := blk g 196 [1, 1] [[.slice p m c], [.int .i64 why]]

theorem fail_r {m : Nat} {S : List Snap} {H : List Chunk} {w : World} {g : Nat} {p : Option Addr} {c : Nat} {why : Nat} (ho : Own S (rblk g p m c why :: H) w) (e : Nat) : Calls Try.prog 125 #[.pointer (some ⟨g, 0, none⟩), .int .i64 e] w (Ret fun v w' => v = .tuple #[] ∧ Own S (rblk g p m c (failW why e) :: H) w') := by
 refine enter (G := Own (⟨w, keys (rblk g p m c why :: H)⟩ :: S) (rblk g p m c why :: H)) ho.keep Try.func125 rfl Try.ntmps125 rfl ?_
 refine VC.sr ?_
 refine VL.move rfl ?_
 refine VL.nilCheck rfl ?_
 refine VL.fieldAddr rfl fo196_1 rfl ?_
 refine VL.load (v := .int .i64 why) 0 1 rfl kd35 (fun _ h => h) rfl rfl rfl ?_
 refine VL.eql rfl rfl ?_
 refine VL.case (fun h0_4 => ?_) (fun h0_4 => ?_)
 ·refine VL.nn ?_
  refine VC.yes rfl ?_
  refine VC.region ?_
  refine VL.move rfl ?_
  refine VL.move rfl ?_
  refine VL.nilCheck rfl ?_
  refine VL.fieldAddr rfl fo196_1 rfl ?_
  refine VL.store (L := [1, 1]) (qs := [[.int .i64 e]]) 0 1 1 rfl rfl rfl (.inr ⟨kd35, rfl⟩) rfl rfl rfl (by intro u hu; simp [cat] at hu; subst hu; rfl) rfl rfl ?_
  refine VL.nil ?_
  refine VX.end0 rfl (fun we hw => ?_)
  exact ⟨rfl, by rw [show failW why e = e from if_pos (by omega)]; exact hw.lose⟩
 ·refine VL.nn ?_
  refine VC.no rfl ?_
  refine VC.skip ?_
  refine VX.end0 rfl (fun we hw => ?_)
  exact ⟨rfl, by rw [show failW why e = why from if_neg (by omega)]; exact hw.lose⟩

theorem piece_r {S : List Snap} {H : List Chunk} {w : World} {g : Nat} {p : Option Addr} {c : Nat} {parts : List (List UInt8)} {why : Nat} (ho : Own S (rblk g p parts.length c why :: H) w) (hA : Arr 1 bytesR (g :: keys H) w p parts c) : Calls Try.prog 124 #[.pointer (some ⟨g, 0, none⟩)] w (Ret fun v w' => ∃ p' c' pb cb, v = .slice pb (nextP parts).length cb ∧ Own S (rblk g p' (parts.drop 1).length c' (nextW parts why) :: H) w' ∧ Arr 1 bytesR (g :: keys H) w' p' (parts.drop 1) c' ∧ Bytes (g :: keys H) w' pb (nextP parts) cb) := by
 refine enter (G := Own (⟨w, keys (rblk g p parts.length c why :: H)⟩ :: S) (rblk g p parts.length c why :: H)) ho.keep Try.func124 rfl Try.ntmps124 rfl ?_
 refine VC.sr ?_
 refine VL.assign rfl ?_
 refine VL.nn ?_
 refine VC.seq ?_
 refine VC.sr ?_
 refine VL.move rfl ?_
 refine VL.nilCheck rfl ?_
 refine VL.fieldAddr rfl fo196_0 rfl ?_
 refine VL.load (v := .slice p parts.length c) 0 0 rfl kd31 (fun _ h => h) rfl rfl rfl ?_
 refine VL.len Try.underlying31 rfl rfl ?_
 refine VL.eql rfl rfl ?_
 refine VL.case (fun h1_5 => ?_) (fun h1_5 => ?_)
 ·refine VL.nn ?_
  refine VC.yes rfl ?_
  refine VC.sr ?_
  refine VL.move rfl ?_
  refine VL.call Try.func125 rfl (by decide) rfl (fun w' hw => fail_r hw 141) (fun v => ?_)
  refine VL.fact fun e => ?_
  subst e
  refine VL.nn ?_
  refine VC.sr ?_
  refine VL.assign rfl ?_
  refine VL.nn ?_
  refine VC.ret ?_
  refine VX.then_ret ?_
  refine VX.ret1 rfl rfl (fun we hw => ?_)
  obtain rfl : parts = [] := List.eq_nil_of_length_eq_zero (by omega)
  exact ⟨p, c, none, 0, rfl, hw.lose, hA.nowK (s := ⟨w, _⟩) (Mono.slice Mono.byte) hw (List.mem_cons_self ..) rfl, Arr.none⟩
 ·refine VL.nn ?_
  refine VC.no rfl ?_
  refine VC.skip ?_
  refine VX.next ?_
  refine VC.seq ?_
  obtain ⟨b, r, rfl⟩ : ∃ b r, parts = b :: r := by
   cases parts with
   | nil => exact absurd rfl h1_5
   | cons b r => exact ⟨b, r, rfl⟩
  refine VC.region ?_
  refine VL.move rfl ?_
  refine VL.nilCheck rfl ?_
  refine VL.fieldAddr rfl fo196_0 rfl ?_
  refine VL.load (v := .slice p (b :: r).length c) 0 0 rfl kd31 (fun _ h => h) rfl rfl rfl ?_
  refine VL.index rfl rfl Try.underlying31 sz31 hA (by omega) (by simp only [List.length_cons]; omega) ?_
  refine VL.elem (s := ⟨w, _⟩) 0 0 rfl kd24 (fun _ h => h) (List.mem_cons_self ..) (Mono.slice Mono.byte) hA (y := b) rfl (by omega) (by omega) (fun vs v hl hr hv => ?_)
  obtain ⟨p3, c3, rfl, hA3⟩ := hr
  simp at hv
  subst hv
  refine VL.assign rfl ?_
  refine VL.nn ?_
  refine VC.sr ?_
  refine VL.move rfl ?_
  refine VL.move rfl ?_
  refine VL.nilCheck rfl ?_
  refine VL.fieldAddr rfl fo196_0 rfl ?_
  refine VL.load (v := .slice p (b :: r).length c) 0 0 rfl kd31 (fun _ h => h) rfl rfl rfl ?_
  refine VL.dropS 1 rfl rfl Try.underlying31 sz31 hA (by simp) (fun p5 hA5 => ?_)
  refine VL.nilCheck rfl ?_
  refine VL.fieldAddr rfl fo196_0 rfl ?_
  refine VL.store (L := [1, 1]) (qs := [[.slice p5 ((b :: r).drop 1).length (c - 1)]]) 0 0 1 rfl rfl rfl (.inr ⟨kd31, rfl⟩) rfl rfl rfl (by intro u hu; simp [cat] at hu; subst hu; rfl) rfl rfl ?_
  refine VL.nn ?_
  refine VC.sr ?_
  refine VL.move rfl ?_
  refine VL.assign rfl ?_
  refine VL.nn ?_
  refine VC.ret ?_
  refine VX.ret1 rfl rfl (fun we hw => ?_)
  refine ⟨p5, c - 1, p3, c3, rfl, hw.lose, ?_, ?_⟩
  ·exact hA5.nowK (s := ⟨w, _⟩) (Mono.slice Mono.byte) hw (List.mem_cons_self ..) rfl
  ·exact hA3.nowK (s := ⟨w, _⟩) Mono.byte hw (List.mem_cons_self ..) rfl

theorem end_r {S : List Snap} {H : List Chunk} {w : World} {g : Nat} {p : Option Addr} {c : Nat} {parts : List (List UInt8)} {why : Nat} (ho : Own S (rblk g p parts.length c why :: H) w) : Calls Try.prog 126 #[.pointer (some ⟨g, 0, none⟩)] w (Ret fun v w' => v = .int .i64 (endW parts why) ∧ Own S (rblk g p parts.length c (endW parts why) :: H) w') := by
 refine enter (G := Own (⟨w, keys (rblk g p parts.length c why :: H)⟩ :: S) (rblk g p parts.length c why :: H)) ho.keep Try.func126 rfl Try.ntmps126 rfl ?_
 refine VC.sr ?_
 refine VL.assign rfl ?_
 refine VL.nn ?_
 refine VC.seq ?_
 refine VC.sr ?_
 refine VL.move rfl ?_
 refine VL.nilCheck rfl ?_
 refine VL.fieldAddr rfl fo196_0 rfl ?_
 refine VL.load (v := .slice p parts.length c) 0 0 rfl kd31 (fun _ h => h) rfl rfl rfl ?_
 refine VL.len Try.underlying31 rfl rfl ?_
 refine VL.gtr rfl rfl ?_
 refine VL.case (fun h1_5 => ?_) (fun h1_5 => ?_)
 ·refine VL.nn ?_
  refine VC.yes rfl ?_
  refine VC.region ?_
  refine VL.move rfl ?_
  refine VL.call Try.func125 rfl (by decide) rfl (fun w' hw => fail_r hw 141) (fun v => ?_)
  refine VL.fact fun e => ?_
  subst e
  refine VL.nn ?_
  refine VC.sr ?_
  refine VL.move rfl ?_
  refine VL.nilCheck rfl ?_
  refine VL.fieldAddr rfl fo196_1 rfl ?_
  refine VL.load (v := .int .i64 (failW why 141)) 0 1 rfl kd35 (fun _ h => h) rfl rfl rfl ?_
  refine VL.assign rfl ?_
  refine VL.nn ?_
  refine VC.ret ?_
  refine VX.ret1 rfl rfl (fun we hw => ?_)
  have e : endW parts why = failW why 141 := if_neg (fun e => by rw [e] at h1_5; exact absurd h1_5 (by simp))
  rw [e]
  exact ⟨rfl, hw.lose⟩
 ·refine VL.nn ?_
  refine VC.no rfl ?_
  refine VC.skip ?_
  refine VX.next ?_
  refine VC.sr ?_
  refine VL.move rfl ?_
  refine VL.nilCheck rfl ?_
  refine VL.fieldAddr rfl fo196_1 rfl ?_
  refine VL.load (v := .int .i64 (why)) 0 1 rfl kd35 (fun _ h => h) rfl rfl rfl ?_
  refine VL.assign rfl ?_
  refine VL.nn ?_
  refine VC.ret ?_
  refine VX.ret1 rfl rfl (fun we hw => ?_)
  have e : endW parts why = why := if_pos (List.eq_nil_of_length_eq_zero (by omega))
  rw [e]
  exact ⟨rfl, hw.lose⟩

theorem num_r {S : List Snap} {H : List Chunk} {w : World} {g : Nat} {p : Option Addr} {c : Nat} {parts : List (List UInt8)} {why : Nat} (ho : Own S (rblk g p parts.length c why :: H) w) (hA : Arr 1 bytesR (g :: keys H) w p parts c) (k : Nat) (h1 : 1 ≤ k) (h8 : k ≤ 8) : Calls Try.prog 132 #[.pointer (some ⟨g, 0, none⟩), .int .i64 k] w (Ret fun v w' => ∃ p' c', v = .int .u64 (takeN parts k) ∧ Own S (rblk g p' (parts.drop 1).length c' (lenW parts why k) :: H) w' ∧ Arr 1 bytesR (g :: keys H) w' p' (parts.drop 1) c') := by
 refine enter (G := Own (⟨w, keys (rblk g p parts.length c why :: H)⟩ :: S) (rblk g p parts.length c why :: H)) ho.keep Try.func132 rfl Try.ntmps132 rfl ?_
 refine VC.sr ?_
 refine VL.assign rfl ?_
 refine VL.nn ?_
 refine VC.sr ?_
 refine VL.move rfl ?_
 refine VL.call Try.func124 rfl (by decide) rfl (fun w' hw => piece_r hw (hA.nowK (s := ⟨w, _⟩) (Mono.slice Mono.byte) hw (List.mem_cons_self ..) rfl)) (fun v => ?_)
 refine VL.at (fun w1 h1w => ?_)
 obtain ⟨p1, c1, pb, cb, rfl, hO, hA1, hB1⟩ := h1w
 refine VL.toOwn hO ?_
 refine VL.assign rfl ?_
 refine VL.nn ?_
 refine VC.seq ?_
 refine VC.sr ?_
 refine VL.move rfl ?_
 refine VL.len Try.underlying24 rfl rfl ?_
 refine VL.move rfl ?_
 refine VL.neq rfl rfl ?_
 refine VL.case (fun h2_3 => ?_) (fun h2_3 => ?_)
 ·refine VL.nn ?_
  refine VC.yes rfl ?_
  refine VC.sr ?_
  refine VL.move rfl ?_
  refine VL.call Try.func125 rfl (by decide) rfl (fun w' hw => fail_r hw 141) (fun v => ?_)
  refine VL.fact fun e => ?_
  subst e
  refine VL.nn ?_
  refine VC.sr ?_
  refine VL.assign rfl ?_
  refine VL.nn ?_
  refine VC.ret ?_
  refine VX.then_ret ?_
  refine VX.ret1 rfl rfl (fun we hw => ?_)
  have hne : (nextP parts).length ≠ k := by omega
  exact ⟨p1, c1, by rw [show takeN parts k = 0 from if_neg hne]; rfl, by rw [show lenW parts why k = failW (nextW parts why) 141 from if_neg hne]; exact hw.lose.lose, hA1.nowK (s := ⟨w1, _⟩) (Mono.slice Mono.byte) hw (List.mem_cons_self ..) rfl⟩
 ·refine VL.nn ?_
  refine VC.no rfl ?_
  refine VC.skip ?_
  refine VX.next ?_
  refine VC.sr ?_
  refine VL.move rfl ?_
  refine VL.call Try.func28 rfl (by decide) rfl (fun w' hw => get_any hw (hB1.now (s := ⟨w1, _⟩) Mono.byte hw (List.mem_cons_self ..))) (fun v => ?_)
  refine VL.at (fun w2 h1w => ?_)
  obtain ⟨hO2, ⟨_, _, rfl⟩ | ⟨hno, _⟩⟩ := h1w
  rotate_left
  ·omega
  refine VL.toOwn hO2 ?_
  refine VL.move rfl ?_
  refine VL.extract rfl rfl ?_
  refine VL.extract rfl rfl ?_
  refine VL.assign rfl ?_
  refine VL.assign rfl ?_
  refine VL.nn ?_
  refine VC.sr ?_
  refine VL.move rfl ?_
  refine VL.assign rfl ?_
  refine VL.nn ?_
  refine VC.ret ?_
  refine VX.ret1 rfl rfl (fun we hw => ?_)
  have he : (nextP parts).length = k := by omega
  exact ⟨p1, c1, by rw [show takeN parts k = num (nextP parts) from if_pos he]; rfl, by rw [show lenW parts why k = nextW parts why from if_pos he]; exact hw.lose.lose.lose, hA1.nowK (s := ⟨w1, _⟩) (Mono.slice Mono.byte) hw (by repeat (first | exact List.mem_cons_self .. | apply List.mem_cons_of_mem)) rfl⟩

theorem byte_r {S : List Snap} {H : List Chunk} {w : World} {g : Nat} {p : Option Addr} {c : Nat} {parts : List (List UInt8)} {why : Nat} (ho : Own S (rblk g p parts.length c why :: H) w) (hA : Arr 1 bytesR (g :: keys H) w p parts c) : Calls Try.prog 122 #[.pointer (some ⟨g, 0, none⟩)] w (Ret fun v w' => ∃ p' c', v = .int .u8 (takeN parts 1) ∧ Own S (rblk g p' (parts.drop 1).length c' (lenW parts why 1) :: H) w' ∧ Arr 1 bytesR (g :: keys H) w' p' (parts.drop 1) c') := by
 refine enter (G := Own (⟨w, keys (rblk g p parts.length c why :: H)⟩ :: S) (rblk g p parts.length c why :: H)) ho.keep Try.func122 rfl Try.ntmps122 rfl ?_
 refine VC.sr ?_
 refine VL.assign rfl ?_
 refine VL.nn ?_
 refine VC.sr ?_
 refine VL.move rfl ?_
 refine VL.call Try.func132 rfl (by decide) rfl (fun w' hw => num_r hw (hA.nowK (s := ⟨w, _⟩) (Mono.slice Mono.byte) hw (List.mem_cons_self ..) rfl) 1 (by decide) (by decide)) (fun v => ?_)
 refine VL.at (fun w1 h1w => ?_)
 obtain ⟨p1, c1, rfl, hO, hA1⟩ := h1w
 refine VL.toOwn hO ?_
 refine VL.conv (by rw [Try.underlying22]; rfl) Try.underlying5 rfl (by have := takeN_lt parts 1; simp only [InR]; omega) ?_
 refine VL.assign rfl ?_
 refine VL.nn ?_
 refine VC.ret ?_
 refine VX.ret1 rfl rfl (fun we hw => ?_)
 exact ⟨p1, c1, rfl, hw.lose.lose, hA1.nowK (s := ⟨w1, _⟩) (Mono.slice Mono.byte) hw (List.mem_cons_self ..) rfl⟩

theorem short_r {S : List Snap} {H : List Chunk} {w : World} {g : Nat} {p : Option Addr} {c : Nat} {parts : List (List UInt8)} {why : Nat} (ho : Own S (rblk g p parts.length c why :: H) w) (hA : Arr 1 bytesR (g :: keys H) w p parts c) : Calls Try.prog 130 #[.pointer (some ⟨g, 0, none⟩)] w (Ret fun v w' => ∃ p' c', v = .int .u16 (takeN parts 2) ∧ Own S (rblk g p' (parts.drop 1).length c' (lenW parts why 2) :: H) w' ∧ Arr 1 bytesR (g :: keys H) w' p' (parts.drop 1) c') := by
 refine enter (G := Own (⟨w, keys (rblk g p parts.length c why :: H)⟩ :: S) (rblk g p parts.length c why :: H)) ho.keep Try.func130 rfl Try.ntmps130 rfl ?_
 refine VC.sr ?_
 refine VL.assign rfl ?_
 refine VL.nn ?_
 refine VC.sr ?_
 refine VL.move rfl ?_
 refine VL.call Try.func132 rfl (by decide) rfl (fun w' hw => num_r hw (hA.nowK (s := ⟨w, _⟩) (Mono.slice Mono.byte) hw (List.mem_cons_self ..) rfl) 2 (by decide) (by decide)) (fun v => ?_)
 refine VL.at (fun w1 h1w => ?_)
 obtain ⟨p1, c1, rfl, hO, hA1⟩ := h1w
 refine VL.toOwn hO ?_
 refine VL.conv (by rw [Try.underlying22]; rfl) Try.underlying68 rfl (by have := takeN_lt parts 2; simp only [InR]; omega) ?_
 refine VL.assign rfl ?_
 refine VL.nn ?_
 refine VC.ret ?_
 refine VX.ret1 rfl rfl (fun we hw => ?_)
 exact ⟨p1, c1, rfl, hw.lose.lose, hA1.nowK (s := ⟨w1, _⟩) (Mono.slice Mono.byte) hw (List.mem_cons_self ..) rfl⟩

theorem plan196 : planOf Try.prog 196 = some (placesL 0 [1, 1], (cat [[.slice none 0 0], [.int .i64 0]]).toArray) := by kernel_rfl

theorem open_r {S : List Snap} {H : List Chunk} {w : World} (ho : Own S H w) {p : Option Addr} {l : List UInt8} {c : Nat} (hA : Bytes (keys H) w p l c) : Calls Try.prog 121 #[.slice p l.length c] w (Ret fun v w' => ∃ g p' c', v = .pointer (some ⟨g, 0, none⟩) ∧ Own S (rblk g p' (openP l).length c' (openW l) :: H) w' ∧ Arr 1 bytesR (g :: keys H) w' p' (openP l) c') := by
 refine enter (G := Own (⟨w, keys H⟩ :: S) H) ho.keep Try.func121 rfl Try.ntmps121 rfl ?_
 refine VC.sr ?_
 refine VL.assign rfl ?_
 refine VL.nn ?_
 refine VC.sr ?_
 refine VL.move rfl ?_
 refine VL.call Try.func32 rfl (by decide) rfl (fun w' hw => split_any hw (hA.now (s := ⟨w, keys H⟩) Mono.byte hw (by repeat (first | exact List.mem_cons_self .. | apply List.mem_cons_of_mem)))) (fun v => ?_)
 refine VL.at (fun w1 h1w => ?_)
 obtain ⟨hO, p1, c1, rfl, hA1⟩ := h1w
 refine VL.toOwn hO ?_
 refine VL.move rfl ?_
 refine VL.extract rfl rfl ?_
 refine VL.extract rfl rfl ?_
 refine VL.assign rfl ?_
 refine VL.assign rfl ?_
 refine VL.nn ?_
 refine VC.seq ?_
 refine VC.sr ?_
 refine VL.move rfl ?_
 refine VL.neq rfl rfl ?_
 refine VL.case (fun h2_1 => ?_) (fun h2_1 => ?_)
 ·have hs : (splitB l).2 = [] := split_err l (by omega)
  refine VL.move rfl ?_
  refine VL.pass rfl rfl rfl rfl rfl ?_
  refine VL.pass rfl rfl rfl rfl rfl ?_
  refine VL.pass rfl rfl rfl rfl rfl ?_
  refine VL.pick_t rfl rfl ?_
  refine VL.nn ?_
  refine VC.yes rfl ?_
  refine VC.sr ?_
  refine VL.build (zs := [[.slice none 0 0], [.int .i64 0]]) [(1, [.int .i64 141])] plan196 rfl ⟨⟨rfl, ⟨_, rfl, rfl⟩, rfl⟩, trivial⟩ rfl ?_
  refine VL.box (L := [1, 1]) (ps := [[.slice none 0 0], [.int .i64 141]]) rfl rfl rfl (fun gr => ?_)
  refine VL.assign rfl ?_
  refine VL.nn ?_
  refine VC.ret ?_
  refine VX.then_ret ?_
  refine VX.ret1 rfl rfl (fun we hw => ?_)
  refine ⟨gr, none, 0, rfl, ?_, ?_⟩
  ·have e1 : openP l = [] := hs
   have e2 : openW l = 141 := if_pos hs
   rw [e1, e2]; exact hw.lose.lose
  ·rw [show openP l = [] from hs]; exact Arr.none
 ·refine VL.move rfl ?_
  refine VL.go rfl rfl rfl ?_
  refine VL.move rfl ?_
  refine VL.go rfl rfl rfl ?_
  refine VL.len Try.underlying31 rfl rfl ?_
  refine VL.go rfl rfl rfl ?_
  refine VL.eql rfl rfl ?_
  refine VL.case (fun h2_5 => ?_) (fun h2_5 => ?_)
  ·have hs : (splitB l).2 = [] := List.eq_nil_of_length_eq_zero (by omega)
   refine VL.pick_f rfl rfl ?_
   refine VL.nn ?_
   refine VC.yes rfl ?_
   refine VC.sr ?_
   refine VL.build (zs := [[.slice none 0 0], [.int .i64 0]]) [(1, [.int .i64 141])] plan196 rfl ⟨⟨rfl, ⟨_, rfl, rfl⟩, rfl⟩, trivial⟩ rfl ?_
   refine VL.box (L := [1, 1]) (ps := [[.slice none 0 0], [.int .i64 141]]) rfl rfl rfl (fun gr => ?_)
   refine VL.assign rfl ?_
   refine VL.nn ?_
   refine VC.ret ?_
   refine VX.then_ret ?_
   refine VX.ret1 rfl rfl (fun we hw => ?_)
   refine ⟨gr, none, 0, rfl, ?_, ?_⟩
   ·have e1 : openP l = [] := hs
    have e2 : openW l = 141 := if_pos hs
    rw [e1, e2]; exact hw.lose.lose
   ·rw [show openP l = [] from hs]; exact Arr.none
  ·have hs : (splitB l).2 ≠ [] := fun e => h2_5 (by rw [e]; rfl)
   refine VL.pick_f rfl rfl ?_
   refine VL.nn ?_
   refine VC.no rfl ?_
   refine VC.skip ?_
   refine VX.next ?_
   refine VC.sr ?_
   refine VL.move rfl ?_
   refine VL.build (zs := [[.slice none 0 0], [.int .i64 0]]) [(0, [.slice p1 (splitB l).2.length c1])] plan196 rfl ⟨⟨rfl, ⟨_, rfl, rfl⟩, rfl⟩, trivial⟩ rfl ?_
   refine VL.box (L := [1, 1]) (ps := [[.slice p1 (splitB l).2.length c1], [.int .i64 0]]) rfl rfl rfl (fun gr => ?_)
   refine VL.assign rfl ?_
   refine VL.nn ?_
   refine VC.ret ?_
   refine VX.ret1 rfl rfl (fun we hw => ?_)
   refine ⟨gr, p1, c1, rfl, ?_, ?_⟩
   ·rw [show openW l = 0 from if_neg hs]; exact hw.lose.lose
   ·exact hA1.nowK (s := ⟨w1, _⟩) (Mono.slice Mono.byte) hw (List.mem_cons_self ..) rfl

end Go.Proofs.Ytcfecmoagfgnaaa

/- wire: what takes pieces, wherever it lies. -/
namespace Go.Proofs.Ytcfecmoagfgnaaa
open Go.Vc Go.Pl

/-- The reading of the variable of what takes pieces. -/
def rdR (parts : List (List UInt8)) (why : Nat) : Rel (List (List Value)) := fun K w _ ps => ∃ p c, ps = [[.slice p parts.length c], [.int .i64 why]] ∧ Arr 1 bytesR K w p parts c
theorem Mono_rd (parts : List (List UInt8)) (why : Nat) : Mono (rdR parts why) := fun _ _ _ _ _ ha ⟨p, c, e, h⟩ => ⟨p, c, e, h.after (Mono.slice Mono.byte) ha⟩
/-- What takes pieces: those that are left; the error. -/
def rch (g : Nat) (parts : List (List UInt8)) (why : Nat) : Chunk := xblk g 196 [1, 1] (rdR parts why) (Mono_rd parts why)
theorem openR {S : List Snap} {H : List Chunk} {w : World} {g : Nat} {parts : List (List UInt8)} {why : Nat} (h : Own S (rch g parts why :: H) w) : ∃ p c, Own S (rblk g p parts.length c why :: H) w ∧ Arr 1 bytesR (g :: keys H) w p parts c := by
 obtain ⟨ps, h1, p, c, rfl, h2⟩ := h.openX
 exact ⟨p, c, h1, h2⟩
theorem shutR {S : List Snap} {H : List Chunk} {w : World} {g : Nat} {parts : List (List UInt8)} {why : Nat} {p : Option Addr} {c : Nat} (h : Own S (rblk g p parts.length c why :: H) w) (hA : Arr 1 bytesR (g :: keys H) w p parts c) : Own S (rch g parts why :: H) w :=
 h.shutX (Mono_rd parts why) ⟨p, c, rfl, hA⟩
theorem set_at {H : List Chunk} {i : Nat} {c : Chunk} (hi : H[i]? = some c) (c' : Chunk) : (H.set i c')[i]? = some c' := by
 have := (List.getElem?_eq_some_iff.1 hi).1
 rw [List.getElem?_set_self (by simpa using this)]
theorem open_R {S : List Snap} {H : List Chunk} {w : World} (ho : Own S H w) {p : Option Addr} {l : List UInt8} {c : Nat} (hA : Bytes (keys H) w p l c) : Calls Try.prog 121 #[.slice p l.length c] w (Ret fun v w' => ∃ g, v = .pointer (some ⟨g, 0, none⟩) ∧ Own S (rch g (openP l) (openW l) :: H) w') :=
 calls_mono (open_r ho hA) fun v w' ⟨g, p', c', e, h1, h2⟩ => ⟨g, e, shutR h1 h2⟩
theorem fail_R {S : List Snap} {H : List Chunk} {w : World} {g : Nat} {parts : List (List UInt8)} {why : Nat} {i : Nat} (hi : H[i]? = some (rch g parts why)) (ho : Own S H w) (e : Nat) : Calls Try.prog 125 #[.pointer (some ⟨g, 0, none⟩), .int .i64 e] w (Ret fun v w' => v = .tuple #[] ∧ Own S (H.set i (rch g parts (failW why e))) w') := by
 have h0 := (ho.front hi).keep
 obtain ⟨p, c, h1, h2⟩ := openR h0
 refine calls_mono (fail_r h1 e) fun v w' ⟨e1, h3⟩ => ⟨e1, ?_⟩
 have := shutR h3 (h2.nowK (s := ⟨w, _⟩) (K := g :: keys (H.eraseIdx i)) (Mono.slice Mono.byte) h3 (by repeat (first | exact List.mem_cons_self .. | apply List.mem_cons_of_mem)) rfl)
 exact (this.lose).back hi
theorem end_R {S : List Snap} {H : List Chunk} {w : World} {g : Nat} {parts : List (List UInt8)} {why : Nat} {i : Nat} (hi : H[i]? = some (rch g parts why)) (ho : Own S H w) : Calls Try.prog 126 #[.pointer (some ⟨g, 0, none⟩)] w (Ret fun v w' => v = .int .i64 (endW parts why) ∧ Own S (H.set i (rch g parts (endW parts why))) w') := by
 have h0 := (ho.front hi).keep
 obtain ⟨p, c, h1, h2⟩ := openR h0
 refine calls_mono (end_r h1) fun v w' ⟨e1, h3⟩ => ⟨e1, ?_⟩
 have := shutR h3 (h2.nowK (s := ⟨w, _⟩) (K := g :: keys (H.eraseIdx i)) (Mono.slice Mono.byte) h3 (by repeat (first | exact List.mem_cons_self .. | apply List.mem_cons_of_mem)) rfl)
 exact (this.lose).back hi
theorem piece_R {S : List Snap} {H : List Chunk} {w : World} {g : Nat} {parts : List (List UInt8)} {why : Nat} {i : Nat} (hi : H[i]? = some (rch g parts why)) (ho : Own S H w) : Calls Try.prog 124 #[.pointer (some ⟨g, 0, none⟩)] w (Ret fun v w' => ∃ pb cb, v = .slice pb (nextP parts).length cb ∧ Own S (H.set i (rch g (parts.drop 1) (nextW parts why))) w' ∧ Bytes (keys (H.set i (rch g (parts.drop 1) (nextW parts why)))) w' pb (nextP parts) cb) := by
 have h0 := ho.front hi
 obtain ⟨p, c, h1, h2⟩ := openR h0
 refine calls_mono (piece_r h1 h2) fun v w' ⟨p', c', pb, cb, e1, h3, h4, h5⟩ => ⟨pb, cb, e1, (shutR h3 h4).back hi, h5.keysTo Mono.byte fun k hk => ?_⟩
 exact (keys_set hi k).1 hk
theorem num_R {S : List Snap} {H : List Chunk} {w : World} {g : Nat} {parts : List (List UInt8)} {why : Nat} {i : Nat} (hi : H[i]? = some (rch g parts why)) (ho : Own S H w) (k : Nat) (h1 : 1 ≤ k) (h8 : k ≤ 8) : Calls Try.prog 132 #[.pointer (some ⟨g, 0, none⟩), .int .i64 k] w (Ret fun v w' => v = .int .u64 (takeN parts k) ∧ Own S (H.set i (rch g (parts.drop 1) (lenW parts why k))) w') := by
 have h0 := ho.front hi
 obtain ⟨p, c, h1', h2⟩ := openR h0
 exact calls_mono (num_r h1' h2 k h1 h8) fun v w' ⟨p', c', e1, h3, h4⟩ => ⟨e1, (shutR h3 h4).back hi⟩
theorem byte_R {S : List Snap} {H : List Chunk} {w : World} {g : Nat} {parts : List (List UInt8)} {why : Nat} {i : Nat} (hi : H[i]? = some (rch g parts why)) (ho : Own S H w) : Calls Try.prog 122 #[.pointer (some ⟨g, 0, none⟩)] w (Ret fun v w' => v = .int .u8 (takeN parts 1) ∧ Own S (H.set i (rch g (parts.drop 1) (lenW parts why 1))) w') := by
 have h0 := ho.front hi
 obtain ⟨p, c, h1', h2⟩ := openR h0
 exact calls_mono (byte_r h1' h2) fun v w' ⟨p', c', e1, h3, h4⟩ => ⟨e1, (shutR h3 h4).back hi⟩
theorem short_R {S : List Snap} {H : List Chunk} {w : World} {g : Nat} {parts : List (List UInt8)} {why : Nat} {i : Nat} (hi : H[i]? = some (rch g parts why)) (ho : Own S H w) : Calls Try.prog 130 #[.pointer (some ⟨g, 0, none⟩)] w (Ret fun v w' => v = .int .u16 (takeN parts 2) ∧ Own S (H.set i (rch g (parts.drop 1) (lenW parts why 2))) w') := by
 have h0 := ho.front hi
 obtain ⟨p, c, h1', h2⟩ := openR h0
 exact calls_mono (short_r h1' h2) fun v w' ⟨p', c', e1, h3, h4⟩ => ⟨e1, (shutR h3 h4).back hi⟩
theorem zero80 : (Try.prog.info? 80).bind (·.zero) = some (.agg ((zeros 64).map bv).toArray) := by kernel_rfl
theorem keyOf_takeB (parts : List (List UInt8)) : keyOf (nextP parts) = takeB 32 parts := rfl

theorem key_R {S : List Snap} {H : List Chunk} {w : World} {g : Nat} {parts : List (List UInt8)} {why : Nat} {i : Nat} (hi : H[i]? = some (rch g parts why)) (ho : Own S H w) : Calls Try.prog 129 #[.pointer (some ⟨g, 0, none⟩)] w (Ret fun v w' => v = .agg ((takeB 32 parts).map bv).toArray ∧ Own S (H.set i (rch g (parts.drop 1) (lenW parts why 32))) w') := by
 refine enter (G := Own S H) ho Try.func129 rfl Try.ntmps129 rfl ?_
 refine VC.sr ?_
 refine VL.alloc (L := [32]) (ps := [key0.map bv]) zero44 rfl rfl (fun g2 => ?_)
 refine VL.nn ?_
 refine VC.sr ?_
 refine VL.move rfl ?_
 refine VL.call Try.func124 rfl (by decide) rfl (fun w' hw => piece_R (i := i + 1) hi hw) (fun v => ?_)
 refine VL.at (fun w1 h1w => ?_)
 obtain ⟨pb, cb, rfl, hO, hB1⟩ := h1w
 have hi2 := set_at hi (rch g (parts.drop 1) (nextW parts why))
 refine VL.toOwn hO ?_
 refine VL.call Try.func36 rfl (by decide) rfl (fun w' hw => key_any hw (hB1.nowA (s := ⟨w1, _⟩) Mono.byte hw)) (fun v => ?_)
 refine VL.at (fun w2 h1w => ?_)
 obtain ⟨hO2, rfl⟩ := h1w
 refine VL.toOwn hO2 ?_
 refine VL.move rfl ?_
 refine VL.extract rfl rfl ?_
 refine VL.extract rfl rfl ?_
 refine VL.alloc (L := [32]) (ps := [key0.map bv]) zero44 rfl rfl (fun g3 => ?_)
 refine VL.store (L := [32]) (qs := [(keyOf (nextP parts)).map bv]) 0 0 1 rfl rfl rfl (.inl kd44) rfl rfl (by simp [keyOf_length]) (ok1_bytes _) rfl rfl ?_
 refine VL.assign rfl ?_
 refine VL.nn ?_
 refine VC.seq ?_
 refine VC.sr ?_
 refine VL.move rfl ?_
 refine VL.not rfl ?_
 refine VL.nn ?_
 refine VC.split rfl (fun hc12 => ?_) (fun hc12 => ?_)
 ·refine VC.region ?_
  refine VL.move rfl ?_
  refine VL.call Try.func125 rfl (by decide) rfl (fun w' hw => fail_R (i := i + 2) hi2 hw 141) (fun v => ?_)
  refine VL.fact fun e => ?_
  subst e
  refine VL.nn ?_
  refine VC.sr ?_
  refine VL.loads (cs := (keyOf (nextP parts)).map bv) 0 0 1 rfl kd44 (fun _ h => h) rfl rfl rfl rfl ?_
  refine VL.store (L := [32]) (qs := [(keyOf (nextP parts)).map bv]) 1 0 1 rfl rfl rfl (.inl kd44) rfl rfl (by simp [keyOf_length]) (ok1_bytes _) rfl rfl ?_
  refine VL.nn ?_
  refine VC.ret ?_
  refine VX.ret_cell1 (cs := (keyOf (nextP parts)).map bv) 1 rfl rfl (by rw [List.length_map, keyOf_length]; exact kd44) (fun _ h => h) rfl rfl (fun we hw => ?_)
  refine ⟨by rw [keyOf_takeB], ?_⟩
  rw [show lenW parts why 32 = failW (nextW parts why) 141 from if_neg (by simpa using hc12)]
  rw [← List.set_set (a := rch g (parts.drop 1) (nextW parts why))]
  exact hw.drop.drop.lose.lose
 ·refine VC.skip ?_
  refine VX.next ?_
  refine VC.sr ?_
  refine VL.loads (cs := (keyOf (nextP parts)).map bv) 0 0 1 rfl kd44 (fun _ h => h) rfl rfl rfl rfl ?_
  refine VL.store (L := [32]) (qs := [(keyOf (nextP parts)).map bv]) 1 0 1 rfl rfl rfl (.inl kd44) rfl rfl (by simp [keyOf_length]) (ok1_bytes _) rfl rfl ?_
  refine VL.nn ?_
  refine VC.ret ?_
  refine VX.ret_cell1 (cs := (keyOf (nextP parts)).map bv) 1 rfl rfl (by rw [List.length_map, keyOf_length]; exact kd44) (fun _ h => h) rfl rfl (fun we hw => ?_)
  refine ⟨by rw [keyOf_takeB], ?_⟩
  rw [show lenW parts why 32 = nextW parts why from if_pos (by simpa using hc12)]
  exact hw.drop.drop.lose.lose

theorem sig_R {S : List Snap} {H : List Chunk} {w : World} {g : Nat} {parts : List (List UInt8)} {why : Nat} {i : Nat} (hi : H[i]? = some (rch g parts why)) (ho : Own S H w) : Calls Try.prog 131 #[.pointer (some ⟨g, 0, none⟩)] w (Ret fun v w' => v = .agg ((takeB 64 parts).map bv).toArray ∧ Own S (H.set i (rch g (parts.drop 1) (lenW parts why 64))) w') := by
 refine enter (G := Own S H) ho Try.func131 rfl Try.ntmps131 rfl ?_
 refine VC.sr ?_
 refine VL.alloc (L := [64]) (ps := [(zeros 64).map bv]) zero80 rfl rfl (fun g2 => ?_)
 refine VL.nn ?_
 refine VC.sr ?_
 refine VL.alloc (L := [64]) (ps := [(zeros 64).map bv]) zero80 rfl rfl (fun g3 => ?_)
 refine VL.nn ?_
 refine VC.sr ?_
 refine VL.move rfl ?_
 refine VL.call Try.func124 rfl (by decide) rfl (fun w' hw => piece_R (i := i + 2) hi hw) (fun v => ?_)
 refine VL.at (fun w1 h1w => ?_)
 obtain ⟨pb, cb, rfl, hO, hB1⟩ := h1w
 have hi2 := set_at hi (rch g (parts.drop 1) (nextW parts why))
 refine VL.toOwn hO ?_
 refine VL.assign rfl ?_
 refine VL.nn ?_
 refine VC.seq ?_
 refine VC.sr ?_
 refine VL.move rfl ?_
 refine VL.len Try.underlying24 rfl rfl ?_
 refine VL.neq rfl rfl ?_
 refine VL.case (fun h3_2 => ?_) (fun h3_2 => ?_)
 ·refine VL.nn ?_
  refine VC.yes rfl ?_
  refine VC.sr ?_
  refine VL.move rfl ?_
  refine VL.call Try.func125 rfl (by decide) rfl (fun w' hw => fail_R (i := i + 2) hi2 hw 141) (fun v => ?_)
  refine VL.fact fun e => ?_
  subst e
  refine VL.nn ?_
  refine VC.sr ?_
  refine VL.loads (cs := (zeros 64).map bv) 0 0 1 rfl kd80 (fun _ h => h) rfl rfl rfl rfl ?_
  refine VL.store (L := [64]) (qs := [(zeros 64).map bv]) 1 0 1 rfl rfl rfl (.inl kd80) rfl rfl rfl (ok1_bytes _) rfl rfl ?_
  refine VL.nn ?_
  refine VC.ret ?_
  refine VX.then_ret ?_
  refine VX.ret_cell1 (cs := (zeros 64).map bv) 1 rfl rfl kd80 (fun _ h => h) rfl rfl (fun we hw => ?_)
  refine ⟨by rw [show takeB 64 parts = zeros 64 from if_neg (by omega)], ?_⟩
  rw [show lenW parts why 64 = failW (nextW parts why) 141 from if_neg (by omega)]
  rw [← List.set_set (a := rch g (parts.drop 1) (nextW parts why))]
  exact hw.drop.drop.lose
 ·refine VL.nn ?_
  refine VC.no rfl ?_
  refine VC.skip ?_
  refine VX.next ?_
  refine VC.seq ?_
  have hl : (nextP parts).length = 64 := by omega
  refine VC.region ?_
  refine VL.sliceArr Try.underlying80 (by kernel_rfl) rfl ?_
  refine VL.move rfl ?_
  refine VL.copyAll (cur := (zeros 64).map bv) (l := nextP parts) 0 rfl Try.underlying24 (by kernel_rfl) rfl rfl rfl hl (by omega) (fun _ h => (hB1.nowA (s := ⟨w1, _⟩) Mono.byte h).bytes) rfl (fun _ => ?_)
  refine VL.nn ?_
  refine VC.sr ?_
  refine VL.loads (cs := (nextP parts).map bv) 0 0 1 rfl kd80 (fun _ h => h) rfl rfl rfl rfl ?_
  refine VL.store (L := [64]) (qs := [(nextP parts).map bv]) 1 0 1 rfl rfl rfl (.inl kd80) rfl rfl (by simp [hl]) (ok1_bytes _) rfl rfl ?_
  refine VL.nn ?_
  refine VC.ret ?_
  refine VX.ret_cell1 (cs := (nextP parts).map bv) 1 rfl rfl (by rw [List.length_map, hl]; exact kd80) (fun _ h => h) rfl rfl (fun we hw => ?_)
  refine ⟨by rw [show takeB 64 parts = nextP parts from if_pos hl], ?_⟩
  rw [show lenW parts why 64 = nextW parts why from if_pos hl]
  exact hw.drop.drop.lose

end Go.Proofs.Ytcfecmoagfgnaaa

/- The things as cells: their parts, their zeros; one against the other. -/
namespace Go.Proofs.Ytcfecmoagfgnaaa
open Go.Vc Go.Pl

abbrev headerV (x : Header)  : List (List Value) := [x.session.map bv, [.bool x.first], x.agree.map bv, x.signer.map bv, x.base.map bv, [.int .u16 x.id], x.ratchet.map bv, [.int .u16 x.n], [.int .u16 x.prev]]
abbrev headerL : List Nat := [32, 1, 32, 32, 32, 1, 32, 1, 1]
theorem zero70 : (Try.prog.info? 70).bind (·.zero) = some (.agg (cat (headerV header0 )).toArray) := by kernel_rfl
theorem built70 : Try.prog.built 70 [] = some (cat (headerV header0 )).toArray := by kernel_rfl
theorem guard70 : Try.prog.eqGuardType Try.prog.depth 70 = false := by kernel_rfl
abbrev headerZ : List (List Value) := [(zeros 32).map bv, [.bool false], (zeros 32).map bv, (zeros 32).map bv, (zeros 32).map bv, [.int .u16 0], (zeros 32).map bv, [.int .u16 0], [.int .u16 0]]
abbrev headerFL : List Nat := [32, 1, 32, 32, 32, 1, 32, 1, 1]
theorem plan70 : planOf Try.prog 70 = some (placesL 0 headerFL, (cat headerZ).toArray) := by kernel_rfl
theorem headerV_len {x : Header} (h : x.ok)  : (headerV x ).map List.length = headerL := by simp [h.session, h.agree, h.signer, h.base, h.ratchet]
theorem headerV_ok1 (x : Header)  : ok1 (cat (headerV x )) := by
 intro u hu
 rw [cat_eq] at hu
 simp only [List.mem_flatten, List.mem_cons, List.not_mem_nil, or_false] at hu
 obtain ⟨l, hl, hu⟩ := hu
 rcases hl with rfl | rfl | rfl | rfl | rfl | rfl | rfl | rfl | rfl <;> first | (simp only [List.mem_singleton] at hu; subst hu; rfl) | exact ok1_bytes _ u hu
abbrev bundleV (x : Bundle)  : List (List Value) := [[.int .u8 x.device], x.agree.map bv, x.signer.map bv, [.int .u16 x.id], x.once.map bv, x.sig.map bv]
abbrev bundleL : List Nat := [1, 32, 32, 1, 32, 64]
theorem zero82 : (Try.prog.info? 82).bind (·.zero) = some (.agg (cat (bundleV bundle0 )).toArray) := by kernel_rfl
theorem built82 : Try.prog.built 82 [] = some (cat (bundleV bundle0 )).toArray := by kernel_rfl
theorem guard82 : Try.prog.eqGuardType Try.prog.depth 82 = false := by kernel_rfl
abbrev bundleZ : List (List Value) := [[.int .u8 0], (zeros 32).map bv, (zeros 32).map bv, [.int .u16 0], (zeros 32).map bv, (zeros 64).map bv]
abbrev bundleFL : List Nat := [1, 32, 32, 1, 32, 64]
theorem plan82 : planOf Try.prog 82 = some (placesL 0 bundleFL, (cat bundleZ).toArray) := by kernel_rfl
theorem bundleV_len {x : Bundle} (h : x.ok)  : (bundleV x ).map List.length = bundleL := by simp [h.agree, h.signer, h.once, h.sig]
theorem bundleV_ok1 (x : Bundle)  : ok1 (cat (bundleV x )) := by
 intro u hu
 rw [cat_eq] at hu
 simp only [List.mem_flatten, List.mem_cons, List.not_mem_nil, or_false] at hu
 obtain ⟨l, hl, hu⟩ := hu
 rcases hl with rfl | rfl | rfl | rfl | rfl | rfl <;> first | (simp only [List.mem_singleton] at hu; subst hu; rfl) | exact ok1_bytes _ u hu
abbrev letterV (x : Letter) (p : Option Addr) (c : Nat) : List (List Value) := [[.int .u8 x.src], [.int .u8 x.dst], x.header.session.map bv, [.bool x.header.first], x.header.agree.map bv, x.header.signer.map bv, x.header.base.map bv, [.int .u16 x.header.id], x.header.ratchet.map bv, [.int .u16 x.header.n], [.int .u16 x.header.prev], [.slice p x.body.length c]]
abbrev letterL : List Nat := [1, 1, 32, 1, 32, 32, 32, 1, 32, 1, 1, 1]
theorem zero72 : (Try.prog.info? 72).bind (·.zero) = some (.agg (cat (letterV letter0 none 0)).toArray) := by kernel_rfl
theorem built72 : Try.prog.built 72 [] = some (cat (letterV letter0 none 0)).toArray := by kernel_rfl
abbrev letterZ : List (List Value) := [[.int .u8 0], [.int .u8 0], cat (headerV header0), [.slice none 0 0]]
abbrev letterFL : List Nat := [1, 1, 164, 1]
theorem plan72 : planOf Try.prog 72 = some (placesL 0 letterFL, (cat letterZ).toArray) := by kernel_rfl
theorem letterV_len {x : Letter} (h : x.ok) {p : Option Addr} {c : Nat} : (letterV x p c).map List.length = letterL := by simp [h.header.session, h.header.agree, h.header.signer, h.header.base, h.header.ratchet]
theorem letterV_ok1 (x : Letter) (p : Option Addr) (c : Nat) : ok1 (cat (letterV x p c)) := by
 intro u hu
 rw [cat_eq] at hu
 simp only [List.mem_flatten, List.mem_cons, List.not_mem_nil, or_false] at hu
 obtain ⟨l, hl, hu⟩ := hu
 rcases hl with rfl | rfl | rfl | rfl | rfl | rfl | rfl | rfl | rfl | rfl | rfl | rfl <;> first | (simp only [List.mem_singleton] at hu; subst hu; rfl) | exact ok1_bytes _ u hu
abbrev vouchV (x : Vouch)  : List (List Value) := [[.int .u8 x.notary], x.sig.map bv]
abbrev vouchL : List Nat := [1, 64]
theorem zero202 : (Try.prog.info? 202).bind (·.zero) = some (.agg (cat (vouchV vouch0 )).toArray) := by kernel_rfl
theorem guard202 : Try.prog.eqGuardType Try.prog.depth 202 = false := by kernel_rfl
abbrev vouchZ : List (List Value) := [[.int .u8 0], (zeros 64).map bv]
abbrev vouchFL : List Nat := [1, 64]
theorem plan202 : planOf Try.prog 202 = some (placesL 0 vouchFL, (cat vouchZ).toArray) := by kernel_rfl
theorem vouchV_len {x : Vouch} (h : x.ok)  : (vouchV x ).map List.length = vouchL := by simp [h.sig]
theorem vouchV_ok1 (x : Vouch)  : ok1 (cat (vouchV x )) := by
 intro u hu
 rw [cat_eq] at hu
 simp only [List.mem_flatten, List.mem_cons, List.not_mem_nil, or_false] at hu
 obtain ⟨l, hl, hu⟩ := hu
 rcases hl with rfl | rfl <;> first | (simp only [List.mem_singleton] at hu; subst hu; rfl) | exact ok1_bytes _ u hu
abbrev objectV (x : Object) (q : Option Addr) (d : Nat) : List (List Value) := [[.int .u8 x.server], [.int .u8 x.n], x.key.map bv, [.int .u32 x.since], [.int .u32 x.till], x.sig.map bv, [.slice q x.vouches.length d]]
abbrev objectL : List Nat := [1, 1, 32, 1, 1, 64, 1]
theorem zero85 : (Try.prog.info? 85).bind (·.zero) = some (.agg (cat (objectV object0 none 0)).toArray) := by kernel_rfl
theorem built85 : Try.prog.built 85 [] = some (cat (objectV object0 none 0)).toArray := by kernel_rfl
abbrev objectZ : List (List Value) := [[.int .u8 0], [.int .u8 0], (zeros 32).map bv, [.int .u32 0], [.int .u32 0], (zeros 64).map bv, [.slice none 0 0]]
abbrev objectFL : List Nat := [1, 1, 32, 1, 1, 64, 1]
theorem plan85 : planOf Try.prog 85 = some (placesL 0 objectFL, (cat objectZ).toArray) := by kernel_rfl
theorem objectV_len {x : Object} (h : x.ok) {q : Option Addr} {d : Nat} : (objectV x q d).map List.length = objectL := by simp [h.key, h.sig]
theorem objectV_ok1 (x : Object) (q : Option Addr) (d : Nat) : ok1 (cat (objectV x q d)) := by
 intro u hu
 rw [cat_eq] at hu
 simp only [List.mem_flatten, List.mem_cons, List.not_mem_nil, or_false] at hu
 obtain ⟨l, hl, hu⟩ := hu
 rcases hl with rfl | rfl | rfl | rfl | rfl | rfl | rfl <;> first | (simp only [List.mem_singleton] at hu; subst hu; rfl) | exact ok1_bytes _ u hu
theorem arr_len {l : List UInt8} {n : Nat} (h : l.length = n) : [l.map bv].map List.length = [n] := by simp [h]
theorem arr_q {l : List UInt8} {n : Nat} (h : l.length = n) : some n = some (l.map bv).length := by simp [h]
theorem guard80 : Try.prog.eqGuardType Try.prog.depth 80 = false := by kernel_rfl
theorem built44 : Try.prog.built 44 [] = some ((zeros 32).map bv).toArray := by kernel_rfl
theorem built80 : Try.prog.built 80 [] = some ((zeros 64).map bv).toArray := by kernel_rfl
theorem built43 : Try.prog.built 43 [] = some ((zeros 32).map bv).toArray := by kernel_rfl
theorem eqKey {l r : List UInt8} (k : Nat) (hl : l.length = 32) (hr : r.length = 32) : EqT Try.prog (k + 2) 44 (.agg (l.map bv).toArray) (.agg (r.map bv).toArray) (l = r) := EqT.arr Try.underlying44 Try.underlying5 kd5 hl hr
theorem eqSig {l r : List UInt8} (k : Nat) (hl : l.length = 64) (hr : r.length = 64) : EqT Try.prog (k + 2) 80 (.agg (l.map bv).toArray) (.agg (r.map bv).toArray) (l = r) := EqT.arr Try.underlying80 Try.underlying5 kd5 hl hr
def vouchR : Rel Vouch := fun _ _ vs v => v.ok ∧ vs = cat (vouchV v)
theorem Mono_vouch : Mono vouchR := fun _ _ _ _ _ _ h => h
theorem natInt {a b : Nat} : ((a : Int) = (b : Int)) ↔ a = b := Int.natCast_inj

theorem eqHeader {x y : Header} (hx : x.ok) (hy : y.ok) : EqT Try.prog 10000 70 (.agg (cat (headerV x)).toArray) (.agg (cat (headerV y)).toArray) (x = y) := by
 refine (EqT.struct (P := Try.prog) (d := 9999) (t := 70) (ps := headerV x) (qs := headerV y) (bs := [x.session = y.session, x.first = y.first, x.agree = y.agree, x.signer = y.signer, x.base = y.base, x.id = y.id, x.ratchet = y.ratchet, x.n = y.n, x.prev = y.prev]) (by kernel_rfl) (by kernel_rfl) (by kernel_rfl) ?_).imp ?_
 ·rw [show ((Try.prog.fieldsOf 70).toList.map fun f => (f.type, f.offset)) = [(44, 0), (4, 32), (44, 33), (44, 65), (44, 97), (68, 129), (44, 130), (68, 162), (68, 163)] by kernel_rfl]
  exact ⟨⟨by simp [List.length_map, hx.session, List.length_map, hx.agree, List.length_map, hx.signer, List.length_map, hx.base, List.length_map, hx.ratchet], by simp [hx.session, hy.session], .inr ⟨by rw [List.length_map, hx.session]; exact kd44, eqKey 9997 hx.session hy.session⟩⟩, ⟨⟨by simp [List.length_map, hx.session, List.length_map, hx.agree, List.length_map, hx.signer, List.length_map, hx.base, List.length_map, hx.ratchet], rfl, .inl ⟨kd4, _, _, rfl, rfl, EqT.bool Try.underlying4⟩⟩, ⟨⟨by simp [List.length_map, hx.session, List.length_map, hx.agree, List.length_map, hx.signer, List.length_map, hx.base, List.length_map, hx.ratchet], by simp [hx.agree, hy.agree], .inr ⟨by rw [List.length_map, hx.agree]; exact kd44, eqKey 9997 hx.agree hy.agree⟩⟩, ⟨⟨by simp [List.length_map, hx.session, List.length_map, hx.agree, List.length_map, hx.signer, List.length_map, hx.base, List.length_map, hx.ratchet], by simp [hx.signer, hy.signer], .inr ⟨by rw [List.length_map, hx.signer]; exact kd44, eqKey 9997 hx.signer hy.signer⟩⟩, ⟨⟨by simp [List.length_map, hx.session, List.length_map, hx.agree, List.length_map, hx.signer, List.length_map, hx.base, List.length_map, hx.ratchet], by simp [hx.base, hy.base], .inr ⟨by rw [List.length_map, hx.base]; exact kd44, eqKey 9997 hx.base hy.base⟩⟩, ⟨⟨by simp [List.length_map, hx.session, List.length_map, hx.agree, List.length_map, hx.signer, List.length_map, hx.base, List.length_map, hx.ratchet], rfl, .inl ⟨kd68, _, _, rfl, rfl, (EqT.int Try.underlying68).imp natInt⟩⟩, ⟨⟨by simp [List.length_map, hx.session, List.length_map, hx.agree, List.length_map, hx.signer, List.length_map, hx.base, List.length_map, hx.ratchet], by simp [hx.ratchet, hy.ratchet], .inr ⟨by rw [List.length_map, hx.ratchet]; exact kd44, eqKey 9997 hx.ratchet hy.ratchet⟩⟩, ⟨⟨by simp [List.length_map, hx.session, List.length_map, hx.agree, List.length_map, hx.signer, List.length_map, hx.base, List.length_map, hx.ratchet], rfl, .inl ⟨kd68, _, _, rfl, rfl, (EqT.int Try.underlying68).imp natInt⟩⟩, ⟨⟨by simp [List.length_map, hx.session, List.length_map, hx.agree, List.length_map, hx.signer, List.length_map, hx.base, List.length_map, hx.ratchet], rfl, .inl ⟨kd68, _, _, rfl, rfl, (EqT.int Try.underlying68).imp natInt⟩⟩, trivial⟩⟩⟩⟩⟩⟩⟩⟩⟩
 ·constructor
  ·rintro ⟨h0, h1, h2, h3, h4, h5, h6, h7, h8, _⟩
   obtain ⟨a0, a1, a2, a3, a4, a5, a6, a7, a8⟩ := x
   obtain ⟨b0, b1, b2, b3, b4, b5, b6, b7, b8⟩ := y
   simp only at h0 h1 h2 h3 h4 h5 h6 h7 h8
   subst h0 h1 h2 h3 h4 h5 h6 h7 h8
   rfl
  ·rintro rfl
   exact ⟨rfl, rfl, rfl, rfl, rfl, rfl, rfl, rfl, rfl, trivial⟩
theorem eqBundle {x y : Bundle} (hx : x.ok) (hy : y.ok) : EqT Try.prog 10000 82 (.agg (cat (bundleV x)).toArray) (.agg (cat (bundleV y)).toArray) (x = y) := by
 refine (EqT.struct (P := Try.prog) (d := 9999) (t := 82) (ps := bundleV x) (qs := bundleV y) (bs := [x.device = y.device, x.agree = y.agree, x.signer = y.signer, x.id = y.id, x.once = y.once, x.sig = y.sig]) (by kernel_rfl) (by kernel_rfl) (by kernel_rfl) ?_).imp ?_
 ·rw [show ((Try.prog.fieldsOf 82).toList.map fun f => (f.type, f.offset)) = [(5, 0), (44, 1), (44, 33), (68, 65), (44, 66), (80, 98)] by kernel_rfl]
  exact ⟨⟨by simp [List.length_map, hx.agree, List.length_map, hx.signer, List.length_map, hx.once, List.length_map, hx.sig], rfl, .inl ⟨kd5, _, _, rfl, rfl, (EqT.int Try.underlying5).imp natInt⟩⟩, ⟨⟨by simp [List.length_map, hx.agree, List.length_map, hx.signer, List.length_map, hx.once, List.length_map, hx.sig], by simp [hx.agree, hy.agree], .inr ⟨by rw [List.length_map, hx.agree]; exact kd44, eqKey 9997 hx.agree hy.agree⟩⟩, ⟨⟨by simp [List.length_map, hx.agree, List.length_map, hx.signer, List.length_map, hx.once, List.length_map, hx.sig], by simp [hx.signer, hy.signer], .inr ⟨by rw [List.length_map, hx.signer]; exact kd44, eqKey 9997 hx.signer hy.signer⟩⟩, ⟨⟨by simp [List.length_map, hx.agree, List.length_map, hx.signer, List.length_map, hx.once, List.length_map, hx.sig], rfl, .inl ⟨kd68, _, _, rfl, rfl, (EqT.int Try.underlying68).imp natInt⟩⟩, ⟨⟨by simp [List.length_map, hx.agree, List.length_map, hx.signer, List.length_map, hx.once, List.length_map, hx.sig], by simp [hx.once, hy.once], .inr ⟨by rw [List.length_map, hx.once]; exact kd44, eqKey 9997 hx.once hy.once⟩⟩, ⟨⟨by simp [List.length_map, hx.agree, List.length_map, hx.signer, List.length_map, hx.once, List.length_map, hx.sig], by simp [hx.sig, hy.sig], .inr ⟨by rw [List.length_map, hx.sig]; exact kd80, eqSig 9997 hx.sig hy.sig⟩⟩, trivial⟩⟩⟩⟩⟩⟩
 ·constructor
  ·rintro ⟨h0, h1, h2, h3, h4, h5, _⟩
   obtain ⟨a0, a1, a2, a3, a4, a5⟩ := x
   obtain ⟨b0, b1, b2, b3, b4, b5⟩ := y
   simp only at h0 h1 h2 h3 h4 h5
   subst h0 h1 h2 h3 h4 h5
   rfl
  ·rintro rfl
   exact ⟨rfl, rfl, rfl, rfl, rfl, rfl, trivial⟩
theorem eqVouch {x y : Vouch} (hx : x.ok) (hy : y.ok) : EqT Try.prog 10000 202 (.agg (cat (vouchV x)).toArray) (.agg (cat (vouchV y)).toArray) (x = y) := by
 refine (EqT.struct (P := Try.prog) (d := 9999) (t := 202) (ps := vouchV x) (qs := vouchV y) (bs := [x.notary = y.notary, x.sig = y.sig]) (by kernel_rfl) (by kernel_rfl) (by kernel_rfl) ?_).imp ?_
 ·rw [show ((Try.prog.fieldsOf 202).toList.map fun f => (f.type, f.offset)) = [(5, 0), (80, 1)] by kernel_rfl]
  exact ⟨⟨by simp [List.length_map, hx.sig], rfl, .inl ⟨kd5, _, _, rfl, rfl, (EqT.int Try.underlying5).imp natInt⟩⟩, ⟨⟨by simp [List.length_map, hx.sig], by simp [hx.sig, hy.sig], .inr ⟨by rw [List.length_map, hx.sig]; exact kd80, eqSig 9997 hx.sig hy.sig⟩⟩, trivial⟩⟩
 ·constructor
  ·rintro ⟨h0, h1, _⟩
   obtain ⟨a0, a1⟩ := x
   obtain ⟨b0, b1⟩ := y
   simp only at h0 h1
   subst h0 h1
   rfl
  ·rintro rfl
   exact ⟨rfl, rfl, trivial⟩
end Go.Proofs.Ytcfecmoagfgnaaa

/- wire: what gathers pieces: at its beginning, at its end. -/
namespace Go.Proofs.Ytcfecmoagfgnaaa
open Go.Vc Go.Pl

theorem plan181 : planOf Try.prog 181 = some (placesL 0 [1, 1], (cat [[.slice none 0 0], [.bool false]]).toArray) := by kernel_rfl
theorem Own.newW {S : List Snap} {H : List Chunk} {w : World} {g : Nat} {bad : Bool} (h : Own S (blk g 181 [1, 1] [[rowV none 0 0], [.bool bad]] :: H) w) : Own S (wblk g none 0 ([] : List (List UInt8)).length bad :: brow none 0 [] :: H) w :=
 (Own.arow_nil (Mono.slice Mono.byte) 24 1 h).perm (List.Perm.swap _ _ _)
theorem fits1 {m : Nat} (h : m < 256) : Fits 1 m := h
theorem fits2 {m : Nat} (h : m < 65536) : Fits 2 m := h
theorem fits4 {m : Nat} (h : m < 4294967296) : Fits 4 m := h
theorem inr_u64 {m : Nat} (h : m < 4294967296) : InR .u64 (m : Int) :=
 ⟨Int.natCast_nonneg _, by
  have : (m : Int) ≤ 4294967296 := by omega
  exact Int.le_trans this (by decide)⟩
theorem cat_size {α : Type} {ps : List (List α)} {L : List Nat} (h : ps.map List.length = L) : (cat ps).length = L.sum := by rw [cat_eq, List.length_flatten, h]
/-- What a text's answer says: it, or none. -/
abbrev RetO (S : List Snap) (H : List Chunk) (o : Option (List UInt8)) : Ending → World → Prop := Ret fun v w' => ∃ p c, v = .tuple #[.slice p (o.getD []).length c, .bool o.isSome] ∧ Own S H w' ∧ Bytes (keys H) w' p (o.getD []) c
theorem done_O {S : List Snap} {H : List Chunk} {w : World} {g : Nat} {gp : Option Nat} {c : Nat} {parts : List (List UInt8)} {bad : Bool} (ho : Own S (wblk g gp c parts.length bad :: brow gp c parts :: H) w) : Calls Try.prog 118 #[.pointer (some ⟨g, 0, none⟩)] w (RetO S H (joinO parts (!bad))) := by
 refine calls_mono (done_w ho) fun v w' ⟨h1, h2⟩ => ?_
 rcases h2 with ⟨h3, h4, p, c, e, hA⟩ | ⟨h3, e⟩
 ·have e2 : joinO parts (!bad) = some (joinB parts) := joinO_some h3 (by simp [h4])
  rw [e2]
  exact ⟨p, c, e, h1, hA⟩
 ·have e2 : joinO parts (!bad) = none := joinO_none fun h => h3 ⟨h.1, by simpa using h.2⟩
  rw [e2]
  exact ⟨none, 0, e, h1, Arr.none⟩
end Go.Proofs.Ytcfecmoagfgnaaa

