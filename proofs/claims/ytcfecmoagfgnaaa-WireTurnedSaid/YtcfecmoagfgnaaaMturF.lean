/- The statement WireTurned is proved, for every input: part 6 of 6 of the texts that it needs. -/
import Derived.Test.YtcfecmoagfgnaaaMturE
import Derived.Test.YtcfecmoagfgnaaaRows
/- Joined texts that the call owns. -/
namespace Go.Proofs.Ytcfecmoagfgnaaa
open Go.Vc Go.Pl

theorem join_own {S : List Snap} {H : List Chunk} {w : World} (ho : Own S H w) {p : Option Addr} {ls : List (List UInt8)} {c : Nat} (hA : Arr 1 bytesR (keys H) w p ls c) : Calls Try.prog 30 #[.slice p ls.length c] w (Ret fun v w' => (joinOk ls ∧ ∃ g c, v = .tuple #[rowV g (joinB ls).length c, .bool true] ∧ Own S (row 5 1 g (joinB ls).length c ((joinB ls).map bv) :: H) w') ∨ (¬ joinOk ls ∧ v = .tuple #[.slice none 0 0, .bool false] ∧ Own S H w')) := by
  refine enter (G := Own (⟨w, keys H⟩ :: S) H) ho.keep Try.func30 rfl Try.ntmps30 rfl ?_
  refine VC.seq ?_
  refine VC.region ?_
  refine VL.assign rfl ?_
  refine VL.assign rfl ?_
  refine VL.nil ?_
  refine VX.next ?_
  refine VC.seq ?_
  refine VC.seq ?_
  refine VC.region ?_
  refine VL.move rfl ?_
  refine VL.len Try.underlying31 rfl rfl ?_
  refine VL.gtr rfl rfl ?_
  refine VL.case (fun h1_2 => ?_) (fun h1_2 => ?_)
  · refine VL.nil ?_
    refine VX.next ?_
    refine VC.yes rfl ?_
    refine VC.seq ?_
    refine VC.region ?_
    refine VL.assign rfl ?_
    refine VL.assign rfl ?_
    refine VL.nil ?_
    refine VX.next ?_
    refine VC.ret ?_
    refine VX.then_ret ?_
    refine VX.ret2 rfl rfl rfl (fun we hw => ?_)
    refine .inr ⟨fun h => absurd h.1 (by omega), rfl, hw.lose⟩
  · refine VL.nil ?_
    refine VX.next ?_
    refine VC.no rfl ?_
    refine VC.skip ?_
    refine VX.next ?_
    refine VC.seq ?_
    refine VC.region ?_
    refine VL.move rfl ?_
    refine VL.len Try.underlying31 rfl rfl ?_
    refine VL.conv (by rw [Try.underlying3]; rfl) Try.underlying5 rfl (by simp only [InR]; omega) ?_
    refine VL.lit el24 rfl rfl rfl (by simp [Value.cells]) (by intro u hu; simp [Value.cells] at hu; subst hu; rfl) (fun g => ?_)
    refine VL.assign rfl ?_
    refine VL.nil ?_
    refine VX.next ?_
    refine VC.seq ?_
    refine VC.seq ?_
    refine VC.region ?_
    refine VL.move rfl ?_
    refine VL.len Try.underlying31 rfl rfl ?_
    refine VL.move rfl ?_
    refine VL.nil ?_
    refine VX.next ?_
    refine VC.block ?_
    refine VC.loop (X := Nat × Option Nat × Nat) (fun (i, g, c') => [(0, .slice p ls.length c), (14, .slice p ls.length c), (15, .int .i64 ls.length), (16, .int .i64 i), (4, rowV g (acc ls i).length c')]) (fun (i, g, c') w' => (i ≤ ls.length ∧ ∀ j (hj : j < ls.length), j < i → ls[j].length ≤ 4096) ∧ Own (⟨w, keys H⟩ :: S) (row 5 1 g (acc ls i).length c' ((acc ls i).map bv) :: H) w') (fun (i, _, _) => ls.length - i) (0, some g, 1) ⟨rfl, rfl, rfl, rfl, rfl, trivial⟩ (fun w' h => ⟨⟨Nat.zero_le _, fun j _ hj => absurd hj (Nat.not_lt_zero _)⟩, ?_⟩) (fun (i, g, c') => VC.fact fun hi => ?_)
    · have e : acc ls 0 = [UInt8.ofNat ls.length] := by simp [acc, body]
      rw [e]
      simpa [← byte_val (show ls.length < 256 by omega), Value.cells] using h
    · obtain ⟨hi, hsz⟩ := hi
      have hle := acc_le ls i hsz
      refine VC.seq ?_
      refine VC.region ?_
      refine VL.lss rfl rfl ?_
      refine VL.case (fun h5_0 => ?_) (fun h5_0 => ?_)
      · refine VL.nil ?_
        refine VX.next ?_
        refine VC.seq ?_
        refine VC.yes rfl ?_
        refine VC.skip ?_
        refine VX.next ?_
        refine VC.seq ?_
        refine VC.block ?_
        refine VC.seq ?_
        refine VC.region ?_
        have hlt : i < ls.length := by omega
        refine VL.index rfl rfl Try.underlying31 sz31 hA (by omega) (by omega) ?_
        refine VL.elem (s := ⟨w, keys H⟩) i 0 rfl kd24 (fun _ h => h) (List.mem_cons_self ..) (Mono.slice Mono.byte) hA (y := ls[i]) (by simp [hlt]) (by omega) (by omega) (fun vs v hl hr hv => ?_)
        obtain ⟨p3, c3, rfl, hA3⟩ := hr
        simp at hv
        subst hv
        refine VL.assign rfl ?_
        refine VL.nil ?_
        refine VX.next ?_
        refine VC.seq ?_
        refine VC.seq ?_
        refine VC.region ?_
        refine VL.move rfl ?_
        refine VL.len Try.underlying24 rfl rfl ?_
        refine VL.gtr rfl rfl ?_
        refine VL.case (fun h7_2 => ?_) (fun h7_2 => ?_)
        · refine VL.nil ?_
          refine VX.next ?_
          refine VC.yes rfl ?_
          refine VC.seq ?_
          refine VC.region ?_
          refine VL.assign rfl ?_
          refine VL.assign rfl ?_
          refine VL.nil ?_
          refine VX.next ?_
          refine VC.ret ?_
          refine VX.then_ret ?_
          refine VX.block_ret ?_
          refine VX.then_ret ?_
          refine VX.then_ret ?_
          refine VX.block_ret ?_
          refine VX.then_ret ?_
          refine VX.ret2 rfl rfl rfl (fun we hw => ?_)
          refine .inr ⟨fun h => absurd (h.2 ls[i] (List.getElem_mem hlt)) (by omega), rfl, hw.drop.lose⟩
        · refine VL.nil ?_
          refine VX.next ?_
          refine VC.no rfl ?_
          refine VC.skip ?_
          refine VX.next ?_
          refine VC.seq ?_
          refine VC.region ?_
          refine VL.move rfl ?_
          refine VL.move rfl ?_
          refine VL.len Try.underlying24 rfl rfl ?_
          refine VL.shr rfl rfl (by omega) (by simp only [IntKind.bits]; omega) ?_
          have e8 : (ls[i].length : Int) / 2 ^ (8 : Int).toNat = ((ls[i].length / 256 : Nat) : Int) := by
            have : (2 : Int) ^ (8 : Int).toNat = 256 := by decide
            rw [this]; rfl
          rw [e8]
          refine VL.convw (by rw [Try.underlying3]; rfl) Try.underlying5 rfl ?_
          rw [byte_wrap]
          refine VL.move rfl ?_
          refine VL.len Try.underlying24 rfl rfl ?_
          refine VL.convw (by rw [Try.underlying3]; rfl) Try.underlying5 rfl ?_
          rw [byte_wrap]
          refine VL.lit el24 rfl rfl rfl (by simp [Value.cells]) (by intro u hu; simp [Value.cells] at hu; rcases hu with rfl | rfl <;> rfl) (fun gl => ?_)
          refine VL.append 1 el24 rfl rfl rfl rfl (fun _ h => h.rowCells 0 rfl) (by simp [Value.cells]) (by intro u hu; simp [Value.cells] at hu; rcases hu with rfl | rfl <;> rfl) (by omega) (by omega) (fun g1 c1 => ?_)
          refine VL.turn (G' := Own (⟨w, keys H⟩ :: S) (row 5 1 g1 ((acc ls i).length + 2) c1 ((acc ls i).map bv ++ (be 2 ls[i].length).map bv) :: H)) (fun w' h => ?_) ?_
          · have := h.drop
            simpa [be_two, bv, Value.cells] using this
          refine VL.assign rfl ?_
          refine VL.nil ?_
          refine VX.next ?_
          refine VC.region ?_
          refine VL.move rfl ?_
          refine VL.move rfl ?_
          refine VL.append 0 el24 rfl rfl rfl rfl (fun _ h => (hA3.now (s := ⟨w, keys H⟩) Mono.byte h.drop (List.mem_cons_self ..)).bytes) (by simp) (ok1_bytes _) (by omega) (by omega) (fun g2 c2 => ?_)
          refine VL.assign rfl ?_
          refine VL.nil ?_
          refine VX.block_normal ?_
          refine VX.next ?_
          refine VC.region ?_
          refine VL.add rfl rfl (by simp only [InR]; omega) ?_
          refine VL.move rfl ?_
          refine VL.nil ?_
          refine VX.round (i + 1, g2, c2) ⟨rfl, rfl, rfl, rfl, ?_, trivial⟩ (fun w' h => ⟨⟨by omega, ?_⟩, ?_⟩) (by show ls.length - (i + 1) < ls.length - i; omega)
          · show some _ = some _
            rw [acc_succ ls i hlt]
            simp only [List.length_append, be_length]
            rw [Nat.add_assoc]
          · intro j hj hji
            by_cases e : j = i
            · subst e; omega
            · exact hsz j hj (by omega)
          · have e : (acc ls (i + 1)).map bv = (acc ls i).map bv ++ (be 2 ls[i].length).map bv ++ ls[i].map bv := by
              rw [acc_succ ls i hlt, List.map_append, List.map_append, List.append_assoc]
            have e2 : (acc ls (i + 1)).length = (acc ls i).length + 2 + ls[i].length := by
              rw [acc_succ ls i hlt]
              simp only [List.length_append, be_length]
              omega
            rw [e, e2]
            exact h
      · refine VL.nil ?_
        refine VX.next ?_
        refine VC.seq ?_
        refine VC.no rfl ?_
        refine VC.exit ?_
        refine VX.then_exit ?_
        refine VX.then_exit ?_
        refine VX.block_here ?_
        refine VX.next ?_
        refine VC.seq ?_
        refine VC.region ?_
        refine VL.move rfl ?_
        refine VL.assign rfl ?_
        refine VL.assign rfl ?_
        refine VL.nil ?_
        refine VX.next ?_
        refine VC.ret ?_
        refine VX.ret2 rfl rfl rfl (fun we hw => ?_)
        have hil : i = ls.length := by omega
        have hok : joinOk ls := ⟨by omega, fun q hq => by
          obtain ⟨j, hj, rfl⟩ := List.getElem_of_mem hq
          exact hsz j hj (by omega)⟩
        rw [hil, acc_done] at hw
        refine .inl ⟨hok, _, _, ?_, hw.lose⟩
        rw [hil, acc_done]

/-- A row of bytes that is owned, or none. -/
def RowO (S : List Snap) (H : List Chunk) (o : Option (List UInt8)) : Ending → World → Prop :=
  Ret fun v w' => ∃ g c, v = .tuple #[rowV g (o.getD []).length c, .bool o.isSome] ∧ Own S (row 5 1 g (o.getD []).length c ((o.getD []).map bv) :: H) w'
theorem rowO_none {S : List Snap} {H : List Chunk} {w : World} (h : Own S H w) {o : Option (List UInt8)} (e : none = o) : ∃ g c, (.tuple #[.slice none 0 0, .bool false] : Value) = .tuple #[rowV g (o.getD []).length c, .bool o.isSome] ∧ Own S (row 5 1 g (o.getD []).length c ((o.getD []).map bv) :: H) w := by
  subst e; exact ⟨none, 0, rfl, Own.row_nil 5 1 h⟩
theorem rowO_some {S : List Snap} {H : List Chunk} {w : World} {g : Option Nat} {c : Nat} {l : List UInt8} (h : Own S (row 5 1 g l.length c (l.map bv) :: H) w) {o : Option (List UInt8)} (e : some l = o) : ∃ g' c', (.tuple #[rowV g l.length c, .bool true] : Value) = .tuple #[rowV g' (o.getD []).length c', .bool o.isSome] ∧ Own S (row 5 1 g' (o.getD []).length c' ((o.getD []).map bv) :: H) w := by
  subst e; exact ⟨g, c, rfl, h⟩
theorem drop3rd {S : List Snap} {a b : Chunk} {H : List Chunk} {w : World} (h : Own S (a :: b :: H) w) : Own S (a :: H) w := Own.drop (c := b) (h.perm (List.Perm.swap a b H))

theorem done_own {S : List Snap} {H : List Chunk} {w : World} {g : Nat} {gp : Option Nat} {c : Nat} {parts : List (List UInt8)} {bad : Bool} (ho : Own S (wblk g gp c parts.length bad :: brow gp c parts :: H) w) : Calls Try.prog 118 #[.pointer (some ⟨g, 0, none⟩)] w (RowO S H (joinO parts (!bad))) := by
  refine enter (G := Own (⟨w, keys (wblk g gp c parts.length bad :: brow gp c parts :: H)⟩ :: S) (wblk g gp c parts.length bad :: brow gp c parts :: H)) ho.keep Try.func118 rfl Try.ntmps118 rfl ?_
  refine VC.seq ?_
  refine VC.region ?_
  refine VL.assign rfl ?_
  refine VL.assign rfl ?_
  refine VL.nil ?_
  refine VX.next ?_
  refine VC.seq ?_
  refine VC.region ?_
  refine VL.move rfl ?_
  refine VL.nilCheck rfl ?_
  refine VL.fieldAddr rfl fo181_0 rfl ?_
  refine VL.load 0 0 rfl kd31 (fun _ h => h) rfl rfl rfl ?_
  refine VL.letArr2 (fun w9 hO9 hA9 => ?_)
  by_cases hok : joinOk parts
  · refine VL.call Try.func30 rfl (by decide) rfl (fun w' hw => join_own (ls := parts) (p := gp.map fun g => ⟨g, 0, none⟩) (c := c) hw (hA9.now (s := ⟨w9, _⟩) (Mono.slice Mono.byte) hw (List.mem_cons_self ..))) (fun v => ?_)
    refine VL.at (fun w1 h1w => ?_)
    obtain ⟨_, gJ, cJ, rfl, hO⟩ | ⟨hno, _⟩ := h1w
    rotate_left
    · exact absurd hok hno
    refine VL.toOwn hO ?_
    refine VL.move rfl ?_
    refine VL.extract rfl rfl ?_
    refine VL.extract rfl rfl ?_
    refine VL.assign rfl ?_
    refine VL.assign rfl ?_
    refine VL.nil ?_
    refine VX.next ?_
    refine VC.seq ?_
    refine VC.seq ?_
    refine VC.region ?_
    refine VL.move rfl ?_
    refine VL.not rfl ?_
    refine VL.move rfl ?_
    refine VL.go rfl rfl rfl ?_
    refine VL.move rfl ?_
    refine VL.go rfl rfl rfl ?_
    refine VL.nilCheck rfl ?_
    refine VL.go rfl rfl rfl ?_
    refine VL.fieldAddr rfl fo181_1 rfl ?_
    refine VL.go rfl rfl rfl ?_
    refine VL.load (v := .bool bad) 1 1 rfl kd4 (fun _ h => h) rfl rfl rfl ?_
    cases bad
    · refine VL.pick_f rfl rfl ?_
      refine VL.nil ?_
      refine VX.next ?_
      refine VC.no rfl ?_
      refine VC.skip ?_
      refine VX.next ?_
      refine VC.seq ?_
      refine VC.region ?_
      refine VL.move rfl ?_
      refine VL.assign rfl ?_
      refine VL.assign rfl ?_
      refine VL.nil ?_
      refine VX.next ?_
      refine VC.ret ?_
      refine VX.ret2 rfl rfl rfl (fun we hw => ?_)
      exact rowO_some (drop3rd hw).lose.lose.lose (joinO_some hok rfl).symm
    · refine VL.pick_f rfl rfl ?_
      refine VL.nil ?_
      refine VX.next ?_
      refine VC.yes rfl ?_
      refine VC.seq ?_
      refine VC.region ?_
      refine VL.assign rfl ?_
      refine VL.assign rfl ?_
      refine VL.nil ?_
      refine VX.next ?_
      refine VC.ret ?_
      refine VX.then_ret ?_
      refine VX.ret2 rfl rfl rfl (fun we hw => ?_)
      exact rowO_none (drop3rd hw).drop.lose.lose.lose (joinO_none (by simp)).symm
  · refine VL.call Try.func30 rfl (by decide) rfl (fun w' hw => join_own (ls := parts) (p := gp.map fun g => ⟨g, 0, none⟩) (c := c) hw (hA9.now (s := ⟨w9, _⟩) (Mono.slice Mono.byte) hw (List.mem_cons_self ..))) (fun v => ?_)
    refine VL.at (fun w1 h1w => ?_)
    obtain ⟨hyes, _⟩ | ⟨_, rfl, hO⟩ := h1w
    · exact absurd hyes hok
    refine VL.toOwn hO ?_
    refine VL.move rfl ?_
    refine VL.extract rfl rfl ?_
    refine VL.extract rfl rfl ?_
    refine VL.assign rfl ?_
    refine VL.assign rfl ?_
    refine VL.nil ?_
    refine VX.next ?_
    refine VC.seq ?_
    refine VC.seq ?_
    refine VC.region ?_
    refine VL.move rfl ?_
    refine VL.not rfl ?_
    refine VL.move rfl ?_
    refine VL.pass rfl rfl rfl rfl rfl ?_
    refine VL.pass rfl rfl rfl rfl rfl ?_
    refine VL.pass rfl rfl rfl rfl rfl ?_
    refine VL.pass rfl rfl rfl rfl rfl ?_
    refine VL.pick_t rfl rfl ?_
    refine VL.nil ?_
    refine VX.next ?_
    refine VC.yes rfl ?_
    refine VC.seq ?_
    refine VC.region ?_
    refine VL.assign rfl ?_
    refine VL.assign rfl ?_
    refine VL.nil ?_
    refine VX.next ?_
    refine VC.ret ?_
    refine VX.then_ret ?_
    refine VX.ret2 rfl rfl rfl (fun we hw => ?_)
    exact rowO_none hw.drop.lose.lose.lose (joinO_none fun h => hok h.1).symm

theorem postRow {S : List Snap} {H : List Chunk} {o o' : Option (List UInt8)} (e : o' = o) {v : Value} {w' : World} (h : ∃ g c, v = .tuple #[rowV g (o'.getD []).length c, .bool o'.isSome] ∧ Own S (row 5 1 g (o'.getD []).length c ((o'.getD []).map bv) :: H) w') : ∃ g c, v = .tuple #[rowV g (o.getD []).length c, .bool o.isSome] ∧ Own S (row 5 1 g (o.getD []).length c ((o.getD []).map bv) :: H) w' := by subst e; exact h

theorem putPkt_own {S : List Snap} {H : List Chunk} {w : World} (ho : Own S H w) {x : Pkt} (hx : x.ok) {q : Option Addr} {d : Nat} (hV : Arr 101 objectR' (keys H) w q x.chain d) {p : Option Addr} {c : Nat} (hA : Bytes (keys H) w p x.body c) : Calls Try.prog 80 #[.agg (cat (pktV x q d p c)).toArray] w (RowO S H (pktO x)) := by
  have hx1 := hx.src
  have hx2 := hx.dst
  have hx3 := hx.kind
  refine enter (G := Own (⟨w, keys H⟩ :: S) H) ho.keep Try.func80 rfl Try.ntmps80 rfl ?_
  refine VC.seq ?_
  refine VC.region ?_
  refine VL.box (L := pktL) (ps := (pktV (x) q d p c)) rfl rfl (pktV_len hx) (fun g1 => ?_)
  refine VL.assign rfl ?_
  refine VL.assign rfl ?_
  refine VL.nil ?_
  refine VX.next ?_
  refine VC.seq ?_
  refine VC.seq ?_
  refine VC.region ?_
  refine VL.fieldAddr rfl fo118_2 rfl ?_
  refine VL.load (v := .int .u8 (x.kind)) 0 2 rfl kd5 (fun _ h => h) rfl rfl rfl ?_
  refine VL.lss rfl rfl ?_
  refine VL.case (fun h1_2 => ?_) (fun h1_2 => ?_)
  · have h1_2 : x.kind < 1 := by have h : ((x.kind : Nat) : Int) < 1 := h1_2; omega
    have hkin : kindIn x.kind = false := by unfold kindIn; simp; omega
    refine VL.move rfl ?_
    refine VL.pass rfl rfl rfl rfl rfl ?_
    refine VL.pass rfl rfl rfl rfl rfl ?_
    refine VL.pass rfl rfl rfl rfl rfl ?_
    refine VL.pick_t rfl rfl ?_
    refine VL.nil ?_
    refine VX.next ?_
    refine VC.yes rfl ?_
    refine VC.seq ?_
    refine VC.region ?_
    refine VL.assign rfl ?_
    refine VL.assign rfl ?_
    refine VL.nil ?_
    refine VX.next ?_
    refine VC.ret ?_
    refine VX.then_ret ?_
    refine VX.ret2 rfl rfl rfl (fun we hw => ?_)
    exact rowO_none (hw.drop.sub (fun _ hs => by repeat (first | exact hs | apply List.mem_cons_of_mem))) (pktO_none hkin)
  · have h1_2 : 1 ≤ x.kind := by have h : ¬ ((x.kind : Nat) : Int) < 1 := h1_2; omega
    refine VL.move rfl ?_
    refine VL.go rfl rfl rfl ?_
    refine VL.fieldAddr rfl fo118_2 rfl ?_
    refine VL.go rfl rfl rfl ?_
    refine VL.load (v := .int .u8 (x.kind)) 0 2 rfl kd5 (fun _ h => h) rfl rfl rfl ?_
    refine VL.go rfl rfl rfl ?_
    refine VL.gtr rfl rfl ?_
    refine VL.case (fun h1_6 => ?_) (fun h1_6 => ?_)
    · have h1_6 : 4 < x.kind := by have h : (4 : Int) < ((x.kind : Nat) : Int) := h1_6; omega
      have hkin : kindIn x.kind = false := by unfold kindIn; simp; omega
      refine VL.pick_f rfl rfl ?_
      refine VL.nil ?_
      refine VX.next ?_
      refine VC.yes rfl ?_
      refine VC.seq ?_
      refine VC.region ?_
      refine VL.assign rfl ?_
      refine VL.assign rfl ?_
      refine VL.nil ?_
      refine VX.next ?_
      refine VC.ret ?_
      refine VX.then_ret ?_
      refine VX.ret2 rfl rfl rfl (fun we hw => ?_)
      exact rowO_none (hw.drop.sub (fun _ hs => by repeat (first | exact hs | apply List.mem_cons_of_mem))) (pktO_none hkin)
    · have h1_6 : x.kind ≤ 4 := by have h : ¬ (4 : Int) < ((x.kind : Nat) : Int) := h1_6; omega
      refine VL.pick_f rfl rfl ?_
      refine VL.nil ?_
      refine VX.next ?_
      refine VC.no rfl ?_
      refine VC.skip ?_
      refine VX.next ?_
      refine VC.seq ?_
      refine VC.region ?_
      refine VL.build (zs := [[.slice none 0 0], [.bool false]]) [] plan181 rfl trivial rfl ?_
      refine VL.box (L := [1, 1]) (ps := [[rowV none 0 0], [.bool false]]) rfl rfl rfl (fun g2 => ?_)
      refine VL.turn (fun w' hw => Own.newW hw) ?_
      refine VL.assign rfl ?_
      refine VL.nil ?_
      refine VX.next ?_
      refine VC.seq ?_
      refine VC.region ?_
      refine VL.move rfl ?_
      refine VL.fieldAddr rfl fo118_0 rfl ?_
      refine VL.load (v := .int .u8 (x.src)) 2 0 rfl kd5 (fun _ h => h) rfl rfl rfl ?_
      refine VL.conv (by rw [Try.underlying5]; rfl) Try.underlying22 rfl (inr_u64 (by omega)) ?_
      refine VL.call Try.func116 rfl (by decide) rfl (fun w' hw => num_w hw (by simp only [List.length_append, List.length_cons, List.length_nil, List.length_map]; omega) (x.src) (fits_small (by omega)) 1 (by decide) (by decide) (fits1 (by omega))) (fun v => ?_)
      refine VL.fact fun e5 => ?_
      subst e5
      refine VL.ex fun gp3 => VL.ex fun c4 => ?_
      refine VL.nil ?_
      refine VX.next ?_
      refine VC.seq ?_
      refine VC.region ?_
      refine VL.move rfl ?_
      refine VL.fieldAddr rfl fo118_1 rfl ?_
      refine VL.load (v := .int .u8 (x.dst)) 2 1 rfl kd5 (fun _ h => h) rfl rfl rfl ?_
      refine VL.conv (by rw [Try.underlying5]; rfl) Try.underlying22 rfl (inr_u64 (by omega)) ?_
      refine VL.call Try.func116 rfl (by decide) rfl (fun w' hw => num_w hw (by simp only [List.length_append, List.length_cons, List.length_nil, List.length_map]; omega) (x.dst) (fits_small (by omega)) 1 (by decide) (by decide) (fits1 (by omega))) (fun v => ?_)
      refine VL.fact fun e8 => ?_
      subst e8
      refine VL.ex fun gp6 => VL.ex fun c7 => ?_
      refine VL.nil ?_
      refine VX.next ?_
      refine VC.seq ?_
      refine VC.region ?_
      refine VL.move rfl ?_
      refine VL.fieldAddr rfl fo118_2 rfl ?_
      refine VL.load (v := .int .u8 (x.kind)) 2 2 rfl kd5 (fun _ h => h) rfl rfl rfl ?_
      refine VL.conv (by rw [Try.underlying5]; rfl) Try.underlying22 rfl (inr_u64 (by omega)) ?_
      refine VL.call Try.func116 rfl (by decide) rfl (fun w' hw => num_w hw (by simp only [List.length_append, List.length_cons, List.length_nil, List.length_map]; omega) (x.kind) (fits_small (by omega)) 1 (by decide) (by decide) (fits1 (by omega))) (fun v => ?_)
      refine VL.fact fun e11 => ?_
      subst e11
      refine VL.ex fun gp9 => VL.ex fun c10 => ?_
      refine VL.nil ?_
      refine VX.next ?_
      refine VC.seq ?_
      refine VC.region ?_
      refine VL.move rfl ?_
      refine VL.fieldAddr rfl fo118_3 rfl ?_
      refine VL.load (v := .slice q (x.chain).length d) 2 3 rfl kd116 (fun _ h => h) rfl rfl rfl ?_
      refine VL.call Try.func139 rfl (by decide) rfl (fun w' hw => chain_w hw hx.chain (hV.now (s := ⟨w, _⟩) Mono_object hw (by repeat (first | exact List.mem_cons_self .. | apply List.mem_cons_of_mem)))) (fun v => ?_)
      refine VL.at (fun w12 h1w => ?_)
      obtain ⟨p13, c14, rfl, hO16, hA15⟩ := h1w
      refine VL.toOwn hO16 ?_
      refine VL.extract rfl rfl ?_
      refine VL.extract rfl rfl ?_
      refine VL.call Try.func117 rfl (by decide) rfl (fun w' hw => piece_w hw (by simp only [List.length_append, List.length_cons, List.length_nil, List.length_map]; omega) (hA15.now (s := ⟨w12, _⟩) Mono.byte hw (by repeat (first | exact List.mem_cons_self .. | apply List.mem_cons_of_mem))) (((chainO x.chain).isSome))) (fun v => ?_)
      refine VL.fact fun e19 => ?_
      subst e19
      refine VL.ex fun gp17 => VL.ex fun c18 => ?_
      refine VL.nil ?_
      refine VX.next ?_
      refine VC.seq ?_
      refine VC.region ?_
      refine VL.move rfl ?_
      refine VL.fieldAddr rfl fo118_4 rfl ?_
      refine VL.load (v := .slice p (x.body).length c) 2 4 rfl kd24 (fun _ h => h) rfl rfl rfl ?_
      refine VL.call Try.func117 rfl (by decide) rfl (fun w' hw => piece_w hw (by simp only [List.length_append, List.length_cons, List.length_nil, List.length_map]; omega) (hA.now (s := ⟨w, _⟩) Mono.byte hw (by repeat (first | exact List.mem_cons_self .. | apply List.mem_cons_of_mem))) true) (fun v => ?_)
      refine VL.fact fun e22 => ?_
      subst e22
      refine VL.ex fun gp20 => VL.ex fun c21 => ?_
      refine VL.nil ?_
      refine VX.next ?_
      refine VC.seq ?_
      refine VC.region ?_
      refine VL.move rfl ?_
      refine VL.fieldAddr rfl fo118_5 rfl ?_
      refine VL.loads (cs := (x.sig).map bv) 2 5 1 rfl kd80 (fun _ h => h) rfl rfl rfl rfl ?_
      refine VL.call Try.func128 rfl (by decide) rfl (fun w' hw => sig_w hw (by simp only [List.length_append, List.length_cons, List.length_nil, List.length_map]; omega) (l := x.sig) hx.sig) (fun v => ?_)
      refine VL.fact fun e25 => ?_
      subst e25
      refine VL.ex fun gp23 => VL.ex fun c24 => ?_
      refine VL.nil ?_
      refine VX.next ?_
      refine VC.seq ?_
      refine VC.region ?_
      refine VL.move rfl ?_
      refine VL.call Try.func118 rfl (by decide) rfl (fun w' hw => done_own hw) (fun v => ?_)
      refine VL.at (fun w26 h1w => ?_)
      obtain ⟨g27, c28, rfl, hO29⟩ := h1w
      refine VL.toOwn hO29 ?_
      refine VL.extract rfl rfl ?_
      refine VL.extract rfl rfl ?_
      refine VL.assign rfl ?_
      refine VL.assign rfl ?_
      refine VL.nil ?_
      refine VX.next ?_
      refine VC.ret ?_
      refine VX.ret2 rfl rfl rfl (fun we hw => ?_)
      exact postRow (pktO_is (kindIn_of.2 ⟨h1_2, h1_6⟩)) ⟨g27, c28, rfl, (drop3rd hw).sub (fun _ hs => by repeat (first | exact hs | apply List.mem_cons_of_mem))⟩

end Go.Proofs.Ytcfecmoagfgnaaa

/- The rules of the walks, continued: bytes that are read, owned or not: a view. -/
namespace Go.Vc

/-- Whatever else is owned on top, and whatever worlds are kept beside: there these bytes lie. -/
def Vw (S : List Snap) (H : List Chunk) (p : Option Addr) (l : List UInt8) (c : Nat) : Prop :=
  ∀ S' A w', (∀ s ∈ S, s ∈ S') → Own S' (A ++ H) w' → Bytes [] w' p l c

theorem Arr.bare {X : Type} {sz : Nat} {R : Rel X} {K : List Nat} {w : World} {p : Option Addr} {xs : List X} {c : Nat} (h : Arr sz R K w p xs c) (hR : Mono R) : Arr sz R [] w p xs c :=
  Arr.after (s := ⟨w, K⟩) h hR ⟨⟨rfl, rfl, rfl, Nat.le_refl _, fun _ _ _ => rfl⟩, by simp⟩

theorem Vw.of {S : List Snap} {H : List Chunk} {s : Snap} {p : Option Addr} {l : List UInt8} {c : Nat} (hs : s ∈ S) (h : Bytes s.K s.w p l c) : Vw S H p l c :=
  fun _ _ _ hS ho => (h.now Mono.byte ho (hS s hs)).bare Mono.byte

theorem Vw.up {S S1 : List Snap} {H : List Chunk} {p : Option Addr} {l : List UInt8} {c : Nat} (h : Vw S H p l c) (A : List Chunk) (hS : ∀ s ∈ S, s ∈ S1) : Vw S1 (A ++ H) p l c :=
  fun S' B w' h1 ho => h S' (B ++ A) w' (fun s hs => h1 s (hS s hs)) (by rw [List.append_assoc]; exact ho)

section
variable {P : Program} {n : Nat} {Q : Exit → Act → World → Prop} {σ : Sl} {G : World → Prop} {ops : Array Oper} {rest : List Oper}
variable {d : Nat} {ty : TypeId} {pos : String} {aft : Array Edge}
variable {S : List Snap} {H H' : List Chunk}

/-- A row of something has a block. -/
theorem VC.someRow {e : TypeId} {sz m c : Nat} {g : Option Nat} {xs : List Value} {code : Code} (hm : 0 < m) (h : ∀ g', g = some g' → VC P n Q code σ (Own S (row e sz g m c xs :: H))) : VC P n Q code σ (Own S (row e sz g m c xs :: H)) := fun a w ha hw => by
  obtain ⟨hrow, _⟩ := hw.holds (row e sz g m c xs) (by simp)
  have hs := ownsRow_sizes hrow
  cases g with
  | none => have := hs.2.2.2.1 rfl; omega
  | some g' => exact h g' rfl a w ha hw

theorem VL.rowByte {t e : TypeId} {x : Operand} {g m c j : Nat} {l : List UInt8} {y : UInt8} (i : Nat) (hx : ev σ x = some (.pointer (some ⟨g, j, none⟩))) (ht : kindOf P t = some none) (hG : ∀ w, G w → Own S H w) (hi : H[i]? = some (row e 1 (some g) m c (l.map bv))) (hy : l[j]? = some y)
    (k : VL P n ops Q rest ((d, bv y) :: σ) G) (hdn : Nat.blt d n = true := by rfl) : VL P n ops Q (⟨some d, .load t x, ty, pos, aft, none⟩ :: rest) σ G :=
  VL.val rfl rfl hdn (fun b w hb hw => by
    obtain ⟨hrow, _⟩ := (hG w hw).holds _ (List.mem_of_getElem? hi)
    have hc := hrow.cells (g := g) rfl j (bv y) (by rw [List.getElem?_map, hy]; rfl)
    rw [add_lit, Nat.zero_add] at hc
    simp [execOp, hb.ev hx, run_load_cell ht hc]) k

end
end Go.Vc

/- The law on a packet of which a byte is turned. -/
namespace Go.Proofs.Ytcfecmoagfgnaaa
open Go.Vc Go.Pl

theorem xor_ne (x : UInt8) {s : Nat} (h : s < 256) (h0 : s ≠ 0) : x ^^^ UInt8.ofNat s ≠ x := by
  intro e
  have h1 := congrArg (fun y => x ^^^ y) e
  simp only [← UInt8.xor_assoc, UInt8.xor_self, UInt8.zero_xor] at h1
  have := congrArg UInt8.toNat h1
  rw [UInt8.toNat_ofNat_of_lt' (by simpa using h)] at this
  exact h0 (by simpa using this)
theorem xor_bv (x : UInt8) {s : Nat} (h : s < 256) : Value.int .u8 (bits .xor .u8 ((x.toNat : Nat) : Int) (s : Int)) = bv (x ^^^ UInt8.ofNat s) := by
  unfold bv
  rw [UInt8.toNat_xor, UInt8.toNat_ofNat_of_lt' (by simpa using h)]
  have hx := UInt8.toNat_lt x
  congr 1
  have h1 : x.toNat ^^^ s < 256 := Nat.xor_lt_two_pow (n := 8) hx h
  have a1 : (BitVec.ofInt 8 ((x.toNat : Nat) : Int)).toNat = x.toNat := by rw [BitVec.toNat_ofInt]; omega
  have a2 : (BitVec.ofInt 8 (s : Int)).toNat = s := by rw [BitVec.toNat_ofInt]; omega
  show IntKind.u8.wrap (((BitVec.ofInt 8 ((x.toNat : Nat) : Int) ^^^ BitVec.ofInt 8 (s : Int)).toNat : Nat) : Int) = _
  rw [BitVec.toNat_xor, a1, a2]
  show ((x.toNat ^^^ s : Nat) : Int) % 256 = _
  omega
theorem turned_ne {x : Pkt} {l l' : List UInt8} (hl : pktO x = some l) (hne : l' ≠ l) (h : ((pktW l' : Nat) : Int) = 0) : ¬ (pktR l').getD pkt0 = x := by
  cases e : pktR l' with
  | none =>
    unfold pktW at h
    rw [e, if_neg (by simp)] at h
    split at h <;> cases h
  | some y =>
    intro e2
    have e2 : y = x := e2
    obtain ⟨_, h2⟩ := pktR_iff.1 e
    rw [e2, hl] at h2
    exact hne (Option.some.inj h2).symm
theorem set_ne {l : List UInt8} {k : Nat} (hk : k < l.length) {z : UInt8} (h : z ≠ l[k]'hk) : l.set k z ≠ l := by
  intro e
  have := congrArg (fun m : List UInt8 => m[k]?) e
  simp only [List.getElem?_set_self hk, List.getElem?_eq_getElem hk] at this
  exact h (Option.some.inj this)
theorem getD_is {α : Type} {o : Option α} {d : α} (h : o.isSome = true) : o = some (o.getD d) := by
  cases o with
  | none => cases h
  | some x => rfl

theorem wireTurned_w {S : List Snap} {H : List Chunk} {w : World} (ho : Own S H w) {x : Pkt} (hx : x.ok) {q : Option Addr} {d : Nat} (hV : Arr 101 objectR' (keys H) w q x.chain d) {p : Option Addr} {c : Nat} (hA : Bytes (keys H) w p x.body c) (a : Int) (s : Nat) (hs2 : s < 256) : Calls Try.prog 18 #[.agg (cat (pktV x q d p c)).toArray, .int .i64 a, .int .u8 (s : Int)] w (Ret fun v w' => v = .bool true ∧ Own S H w') := by
  refine enter (G := Own (⟨w, keys H⟩ :: S) H) ho.keep Try.func18 rfl Try.ntmps18 rfl ?_
  refine VC.seq ?_
  refine VC.region ?_
  refine VL.box (L := pktL) (ps := (pktV (x) q d p c)) rfl rfl (pktV_len hx) (fun g1 => ?_)
  refine VL.assign rfl ?_
  refine VL.nil ?_
  refine VX.next ?_
  refine VC.seq ?_
  refine VC.seq ?_
  refine VC.region ?_
  refine VL.call Try.func49 rfl (by decide) rfl (fun w' hw => alive_w hw) (fun v => ?_)
  refine VL.fact fun e2 => ?_
  subst e2
  refine VL.not rfl ?_
  refine VL.nil ?_
  refine VX.next ?_
  refine VC.no rfl ?_
  refine VC.skip ?_
  refine VX.next ?_
  refine VC.seq ?_
  refine VC.region ?_
  refine VL.loads (cs := cat (pktV (x) q d p c)) 0 0 6 rfl kd118 (fun _ h => h) rfl rfl rfl rfl ?_
  refine VL.call Try.func80 rfl (by decide) rfl (fun w' hw => putPkt_own hw (x := x) hx (hV.now (s := ⟨w, _⟩) Mono_object hw (by repeat (first | exact List.mem_cons_self .. | apply List.mem_cons_of_mem))) (hA.now (s := ⟨w, _⟩) Mono.byte hw (by repeat (first | exact List.mem_cons_self .. | apply List.mem_cons_of_mem)))) (fun v => ?_)
  refine VL.at (fun w3 h1w => ?_)
  obtain ⟨gR, cR, rfl, hO4⟩ := h1w
  refine VL.toOwn hO4 ?_
  refine VL.move rfl ?_
  refine VL.extract rfl rfl ?_
  refine VL.extract rfl rfl ?_
  refine VL.assign rfl ?_
  refine VL.assign rfl ?_
  refine VL.nil ?_
  refine VX.next ?_
  refine VC.seq ?_
  refine VC.seq ?_
  refine VC.region ?_
  refine VL.move rfl ?_
  cases hs : (pktO x).isSome
  · refine VL.not rfl ?_
    refine VL.move rfl ?_
    refine VL.pass rfl rfl rfl rfl rfl ?_
    refine VL.pass rfl rfl rfl rfl rfl ?_
    refine VL.pick_t rfl rfl ?_
    refine VL.move rfl ?_
    refine VL.pass rfl rfl rfl rfl rfl ?_
    refine VL.pass rfl rfl rfl rfl rfl ?_
    refine VL.pass rfl rfl rfl rfl rfl ?_
    refine VL.pass rfl rfl rfl rfl rfl ?_
    refine VL.pick_t rfl rfl ?_
    refine VL.move rfl ?_
    refine VL.pass rfl rfl rfl rfl rfl ?_
    refine VL.pass rfl rfl rfl rfl rfl ?_
    refine VL.pick_t rfl rfl ?_
    refine VL.nil ?_
    refine VX.next ?_
    refine VC.yes rfl ?_
    refine VC.seq ?_
    refine VC.region ?_
    refine VL.assign rfl ?_
    refine VL.nil ?_
    refine VX.next ?_
    refine VC.ret ?_
    refine VX.then_ret ?_
    refine VX.ret1 rfl rfl (fun we hw => ?_)
    exact ⟨rfl, hw.drop.drop.sub (fun _ hs => by repeat (first | exact hs | apply List.mem_cons_of_mem))⟩
  · refine VL.not rfl ?_
    refine VL.move rfl ?_
    refine VL.go rfl rfl rfl ?_
    refine VL.move rfl ?_
    refine VL.go rfl rfl rfl ?_
    refine VL.lss rfl rfl ?_
    refine VL.case (fun h4_4 => ?_) (fun h4_4 => ?_)
    · refine VL.pick_f rfl rfl ?_
      refine VL.move rfl ?_
      refine VL.pass rfl rfl rfl rfl rfl ?_
      refine VL.pass rfl rfl rfl rfl rfl ?_
      refine VL.pass rfl rfl rfl rfl rfl ?_
      refine VL.pass rfl rfl rfl rfl rfl ?_
      refine VL.pick_t rfl rfl ?_
      refine VL.move rfl ?_
      refine VL.pass rfl rfl rfl rfl rfl ?_
      refine VL.pass rfl rfl rfl rfl rfl ?_
      refine VL.pick_t rfl rfl ?_
      refine VL.nil ?_
      refine VX.next ?_
      refine VC.yes rfl ?_
      refine VC.seq ?_
      refine VC.region ?_
      refine VL.assign rfl ?_
      refine VL.nil ?_
      refine VX.next ?_
      refine VC.ret ?_
      refine VX.then_ret ?_
      refine VX.ret1 rfl rfl (fun we hw => ?_)
      exact ⟨rfl, hw.drop.drop.sub (fun _ hs => by repeat (first | exact hs | apply List.mem_cons_of_mem))⟩
    · refine VL.pick_f rfl rfl ?_
      refine VL.move rfl ?_
      refine VL.go rfl rfl rfl ?_
      refine VL.move rfl ?_
      refine VL.go rfl rfl rfl ?_
      refine VL.move rfl ?_
      refine VL.go rfl rfl rfl ?_
      refine VL.len Try.underlying24 rfl rfl ?_
      refine VL.go rfl rfl rfl ?_
      refine VL.geq rfl rfl ?_
      refine VL.case (fun h4_10 => ?_) (fun h4_10 => ?_)
      · refine VL.pick_f rfl rfl ?_
        refine VL.move rfl ?_
        refine VL.pass rfl rfl rfl rfl rfl ?_
        refine VL.pass rfl rfl rfl rfl rfl ?_
        refine VL.pick_t rfl rfl ?_
        refine VL.nil ?_
        refine VX.next ?_
        refine VC.yes rfl ?_
        refine VC.seq ?_
        refine VC.region ?_
        refine VL.assign rfl ?_
        refine VL.nil ?_
        refine VX.next ?_
        refine VC.ret ?_
        refine VX.then_ret ?_
        refine VX.ret1 rfl rfl (fun we hw => ?_)
        exact ⟨rfl, hw.drop.drop.sub (fun _ hs => by repeat (first | exact hs | apply List.mem_cons_of_mem))⟩
      · refine VL.pick_f rfl rfl ?_
        refine VL.move rfl ?_
        refine VL.go rfl rfl rfl ?_
        refine VL.move rfl ?_
        refine VL.go rfl rfl rfl ?_
        refine VL.eql rfl rfl ?_
        refine VL.case (fun h4_14 => ?_) (fun h4_14 => ?_)
        · refine VL.pick_f rfl rfl ?_
          refine VL.nil ?_
          refine VX.next ?_
          refine VC.yes rfl ?_
          refine VC.seq ?_
          refine VC.region ?_
          refine VL.assign rfl ?_
          refine VL.nil ?_
          refine VX.next ?_
          refine VC.ret ?_
          refine VX.then_ret ?_
          refine VX.ret1 rfl rfl (fun we hw => ?_)
          exact ⟨rfl, hw.drop.drop.sub (fun _ hs => by repeat (first | exact hs | apply List.mem_cons_of_mem))⟩
        · have hs0 : s ≠ 0 := by omega
          refine VL.pick_f rfl rfl ?_
          refine VL.nil ?_
          refine VX.next ?_
          refine VC.no rfl ?_
          refine VC.skip ?_
          refine VX.next ?_
          refine VC.seq ?_
          obtain ⟨k, rfl⟩ := Int.eq_ofNat_of_zero_le (show 0 ≤ a by omega)
          have hk : k < ((pktO x).getD []).length := by omega
          refine VC.someRow (by omega) (fun gS hgR => ?_)
          subst hgR
          refine VC.region ?_
          refine VL.move rfl ?_
          refine VL.move rfl ?_
          refine VL.move rfl ?_
          refine VL.move rfl ?_
          refine VL.rowIndex el24 rfl rfl (by omega) (by omega) ?_
          refine VL.newv (v' := .pointer (some ⟨gS, k, none⟩)) (by simp) ?_
          refine VL.rowByte 0 rfl kd5 (fun _ h => h) rfl (List.getElem?_eq_getElem hk) ?_
          refine VL.newv (v' := .int .u8 ((((pktO x).getD [])[k]'hk).toNat : Nat)) rfl ?_
          refine VL.move rfl ?_
          refine VL.bits (.inr (.inr rfl)) rfl rfl ?_
          refine VL.newv (v' := bv (((pktO x).getD [])[k]'hk ^^^ UInt8.ofNat s)) (xor_bv _ hs2) ?_
          refine VL.rowIndex el24 rfl rfl (by omega) (by omega) ?_
          refine VL.newv (v' := .pointer (some ⟨gS, k, none⟩)) (by simp) ?_
          refine VL.rowStore 0 rfl rfl rfl kd5 rfl hk ?_
          refine VL.turn (G' := Own _ (row 5 1 (some gS) ((pktO x).getD []).length cR ((((pktO x).getD []).map bv).set k (bv (((pktO x).getD [])[k]'hk ^^^ UInt8.ofNat s))) :: blk g1 118 pktL (pktV (x) q d p c) :: H)) (fun _ h => h) ?_
          refine VL.nil ?_
          refine VX.next ?_
          refine VC.seq ?_
          have hlen : ((pktO x).getD []).length = (((pktO x).getD []).set k (((pktO x).getD [])[k]'hk ^^^ UInt8.ofNat s)).length := by rw [List.length_set]
          refine VC.letBytes (((pktO x).getD []).set k (((pktO x).getD [])[k]'hk ^^^ UInt8.ofNat s)) hlen (by rw [List.map_set]) (fun wl hOl hAl => ?_)
          refine VC.weaken [(3, .pointer (some ⟨g1, 0, none⟩)), (7, .slice (some ⟨gS, 0, none⟩) (((pktO x).getD []).set k (((pktO x).getD [])[k]'hk ^^^ UInt8.ofNat s)).length cR)] ⟨rfl, congrArg (fun n : Nat => some (Value.slice (some ⟨gS, 0, none⟩) n cR)) hlen, trivial⟩ ?_
          have hl := getD_is (d := []) hs
          have hne : (((pktO x).getD []).set k (((pktO x).getD [])[k]'hk ^^^ UInt8.ofNat s)) ≠ ((pktO x).getD []) := set_ne hk (xor_ne _ hs2 hs0)
          refine VC.region ?_
          refine VL.move rfl ?_
          refine VL.call Try.func81 rfl (by decide) rfl (fun w' hw => getPkt_w hw (hAl.now (s := ⟨wl, _⟩) Mono.byte hw (by repeat (first | exact List.mem_cons_self .. | apply List.mem_cons_of_mem)))) (fun v => ?_)
          refine VL.at (fun w5 h1w => ?_)
          obtain ⟨q7, d8, p10, c11, rfl, hO6, hB9, hA12⟩ := h1w
          refine VL.toOwn hO6 ?_
          refine VL.move rfl ?_
          refine VL.extract rfl rfl ?_
          refine VL.extract rfl rfl ?_
          refine VL.alloc (L := pktL) (ps := (pktV (pkt0) none 0 none 0)) zero118 rfl rfl (fun g13 => ?_)
          refine VL.store (L := pktL) (qs := (pktV (((pktR ((((pktO x).getD []).set k (((pktO x).getD [])[k]'hk ^^^ UInt8.ofNat s)))).getD pkt0)) q7 d8 p10 c11)) (ps' := (pktV (((pktR ((((pktO x).getD []).set k (((pktO x).getD [])[k]'hk ^^^ UInt8.ofNat s)))).getD pkt0)) q7 d8 p10 c11)) 0 0 6 rfl rfl rfl (.inl kd118) rfl rfl (pktV_len (pktR_ok ((((pktO x).getD []).set k (((pktO x).getD [])[k]'hk ^^^ UInt8.ofNat s))))) (pktV_ok1 (((pktR ((((pktO x).getD []).set k (((pktO x).getD [])[k]'hk ^^^ UInt8.ofNat s)))).getD pkt0)) q7 d8 p10 c11) rfl rfl ?_
          refine VL.turn (G' := Own _ (blk g13 118 pktL (pktV (((pktR ((((pktO x).getD []).set k (((pktO x).getD [])[k]'hk ^^^ UInt8.ofNat s)))).getD pkt0)) q7 d8 p10 c11) :: blk g1 118 pktL (pktV (x) q d p c) :: H)) (fun _ h => h) ?_
          refine VL.assign rfl ?_
          refine VL.nil ?_
          refine VX.next ?_
          refine VC.seq ?_
          refine VC.region ?_
          refine VL.move rfl ?_
          refine VL.call Try.func82 rfl (by decide) rfl (fun w' hw => readPkt_w hw (hAl.now (s := ⟨wl, _⟩) Mono.byte hw (by repeat (first | exact List.mem_cons_self .. | apply List.mem_cons_of_mem)))) (fun v => ?_)
          refine VL.at (fun w14 h1w => ?_)
          obtain ⟨q16, d17, p19, c20, rfl, hO15, hB18, hA21⟩ := h1w
          refine VL.toOwn hO15 ?_
          refine VL.move rfl ?_
          refine VL.extract rfl rfl ?_
          refine VL.extract rfl rfl ?_
          refine VL.alloc (L := pktL) (ps := (pktV (pkt0) none 0 none 0)) zero118 rfl rfl (fun g22 => ?_)
          refine VL.store (L := pktL) (qs := (pktV (((pktR ((((pktO x).getD []).set k (((pktO x).getD [])[k]'hk ^^^ UInt8.ofNat s)))).getD pkt0)) q16 d17 p19 c20)) (ps' := (pktV (((pktR ((((pktO x).getD []).set k (((pktO x).getD [])[k]'hk ^^^ UInt8.ofNat s)))).getD pkt0)) q16 d17 p19 c20)) 0 0 6 rfl rfl rfl (.inl kd118) rfl rfl (pktV_len (pktR_ok ((((pktO x).getD []).set k (((pktO x).getD [])[k]'hk ^^^ UInt8.ofNat s))))) (pktV_ok1 (((pktR ((((pktO x).getD []).set k (((pktO x).getD [])[k]'hk ^^^ UInt8.ofNat s)))).getD pkt0)) q16 d17 p19 c20) rfl rfl ?_
          refine VL.turn (G' := Own _ (blk g22 118 pktL (pktV (((pktR ((((pktO x).getD []).set k (((pktO x).getD [])[k]'hk ^^^ UInt8.ofNat s)))).getD pkt0)) q16 d17 p19 c20) :: blk g13 118 pktL (pktV (((pktR ((((pktO x).getD []).set k (((pktO x).getD [])[k]'hk ^^^ UInt8.ofNat s)))).getD pkt0)) q7 d8 p10 c11) :: blk g1 118 pktL (pktV (x) q d p c) :: H)) (fun _ h => h) ?_
          refine VL.assign rfl ?_
          refine VL.nil ?_
          refine VX.next ?_
          refine VC.seq ?_
          refine VC.region ?_
          refine VL.move rfl ?_
          refine VL.move rfl ?_
          refine VL.eql rfl rfl ?_
          refine VL.yes (by omega) ?_
          refine VL.move rfl ?_
          refine VL.go rfl rfl rfl ?_
          refine VL.loads (cs := cat (pktV (((pktR ((((pktO x).getD []).set k (((pktO x).getD [])[k]'hk ^^^ UInt8.ofNat s)))).getD pkt0)) q7 d8 p10 c11)) 1 0 6 rfl kd118 (fun _ h => h) rfl rfl rfl rfl ?_
          refine VL.go rfl rfl rfl ?_
          refine VL.loads (cs := cat (pktV (((pktR ((((pktO x).getD []).set k (((pktO x).getD [])[k]'hk ^^^ UInt8.ofNat s)))).getD pkt0)) q16 d17 p19 c20)) 0 0 6 rfl kd118 (fun _ h => h) rfl rfl rfl rfl ?_
          refine VL.go rfl rfl rfl ?_
          refine VL.call Try.func83 rfl (by decide) rfl (fun w' hw => samePkts_e hw (pktR_ok ((((pktO x).getD []).set k (((pktO x).getD [])[k]'hk ^^^ UInt8.ofNat s)))) (hB9.now (s := ⟨w5, _⟩) Mono_object hw (by repeat (first | exact List.mem_cons_self .. | apply List.mem_cons_of_mem))) (hA12.now (s := ⟨w5, _⟩) Mono.byte hw (by repeat (first | exact List.mem_cons_self .. | apply List.mem_cons_of_mem))) (hB18.now (s := ⟨w14, _⟩) Mono_object hw (by repeat (first | exact List.mem_cons_self .. | apply List.mem_cons_of_mem))) (hA21.now (s := ⟨w14, _⟩) Mono.byte hw (by repeat (first | exact List.mem_cons_self .. | apply List.mem_cons_of_mem))) rfl) (fun v => ?_)
          refine VL.fact fun e23 => ?_
          subst e23
          refine VL.pick_t rfl rfl ?_
          refine VL.move rfl ?_
          refine VL.go rfl rfl rfl ?_
          refine VL.move rfl ?_
          refine VL.go rfl rfl rfl ?_
          refine VL.neq rfl rfl ?_
          refine VL.case (fun h9_10 => ?_) (fun h9_10 => ?_)
          · refine VL.go rfl rfl rfl ?_
            refine VL.move rfl ?_
            refine VL.pass rfl rfl rfl rfl rfl ?_
            refine VL.pass rfl rfl rfl rfl rfl ?_
            refine VL.pass rfl rfl rfl rfl rfl ?_
            refine VL.pass rfl rfl rfl rfl rfl ?_
            refine VL.go rfl rfl rfl ?_
            refine VL.pick_t rfl rfl ?_
            refine VL.pick_t rfl rfl ?_
            refine VL.assign rfl ?_
            refine VL.nil ?_
            refine VX.next ?_
            refine VC.ret ?_
            refine VX.ret1 rfl rfl (fun we hw => ?_)
            exact ⟨rfl, hw.drop.drop.drop.sub (fun _ hs => by repeat (first | exact hs | apply List.mem_cons_of_mem))⟩
          · have he : ((pktW (((pktO x).getD []).set k (((pktO x).getD [])[k]'hk ^^^ UInt8.ofNat s)) : Nat) : Int) = 0 := Classical.not_not.1 h9_10
            refine VL.go rfl rfl rfl ?_
            refine VL.move rfl ?_
            refine VL.go rfl rfl rfl ?_
            refine VL.loads (cs := cat (pktV (x) q d p c)) 2 0 6 rfl kd118 (fun _ h => h) rfl rfl rfl rfl ?_
            refine VL.go rfl rfl rfl ?_
            refine VL.loads (cs := cat (pktV (((pktR ((((pktO x).getD []).set k (((pktO x).getD [])[k]'hk ^^^ UInt8.ofNat s)))).getD pkt0)) q7 d8 p10 c11)) 1 0 6 rfl kd118 (fun _ h => h) rfl rfl rfl rfl ?_
            refine VL.go rfl rfl rfl ?_
            refine VL.call Try.func83 rfl (by decide) rfl (fun w' hw => samePkts_g hw hx (hV.now (s := ⟨w, _⟩) Mono_object hw (by repeat (first | exact List.mem_cons_self .. | apply List.mem_cons_of_mem))) (hA.now (s := ⟨w, _⟩) Mono.byte hw (by repeat (first | exact List.mem_cons_self .. | apply List.mem_cons_of_mem))) (pktR_ok ((((pktO x).getD []).set k (((pktO x).getD [])[k]'hk ^^^ UInt8.ofNat s)))) (hB9.now (s := ⟨w5, _⟩) Mono_object hw (by repeat (first | exact List.mem_cons_self .. | apply List.mem_cons_of_mem))) (hA12.now (s := ⟨w5, _⟩) Mono.byte hw (by repeat (first | exact List.mem_cons_self .. | apply List.mem_cons_of_mem)))) (fun v => ?_)
            refine VL.ex fun b => VL.fact fun e => VL.fact fun h2 => ?_
            subst e
            obtain rfl : b = false := by
              cases b with
              | false => rfl
              | true => exact absurd (h2.1 rfl) (turned_ne hl hne he)
            refine VL.go rfl rfl rfl ?_
            refine VL.not rfl ?_
            refine VL.go rfl rfl rfl ?_
            refine VL.pick_f rfl rfl ?_
            refine VL.pick_t rfl rfl ?_
            refine VL.assign rfl ?_
            refine VL.nil ?_
            refine VX.next ?_
            refine VC.ret ?_
            refine VX.ret1 rfl rfl (fun we hw => ?_)
            exact ⟨rfl, hw.drop.drop.drop.sub (fun _ hs => by repeat (first | exact hs | apply List.mem_cons_of_mem))⟩

end Go.Proofs.Ytcfecmoagfgnaaa

/- Packets as arguments, opened. -/
namespace Go.Proofs.Ytcfecmoagfgnaaa
open Go.Vc Go.Pl

open Go.ChangeShapes Go.WideShapes Go.ChangeAt Go.RowKit
section
variable {Hh : Type} {enc : TypeId × Value → Hh} {W : World}
def pktR' : Rel Pkt := fun K w vs x => ∃ q d p c, x.ok ∧ vs = cat (pktV x q d p c) ∧ Arr 101 objectR' K w q x.chain d ∧ Bytes K w p x.body c
theorem open118 : Opens enc Try.prog W 118 pktR' := by
  intro fuel cs x h
  obtain ⟨hl, m, hz0, hz1, hz2, hz3, hz4, hz5, _⟩ := openFields [(5, 0, 1), (5, 1, 1), (5, 2, 1), (116, 3, 1), (24, 4, 1), (80, 5, 64)] Try.underlying118 (by kernel_rfl) h
  rw [show Try.prog.cellsOf 118 = 69 by kernel_rfl] at hl
  obtain ⟨z0, hz0⟩ := hz0
  obtain ⟨y0, ho0, hy0⟩ := (openU8 Try.underlying5) _ _ _ hz0
  obtain ⟨z1, hz1⟩ := hz1
  obtain ⟨y1, ho1, hy1⟩ := (openU8 Try.underlying5) _ _ _ hz1
  obtain ⟨z2, hz2⟩ := hz2
  obtain ⟨y2, ho2, hy2⟩ := (openU8 Try.underlying5) _ _ _ hz2
  obtain ⟨z3, hz3⟩ := hz3
  obtain ⟨y3, p3, c3, hy3, hA3⟩ := (Opens.slice (sz := 101) Try.underlying116 (by kernel_rfl) (by decide) open85) _ _ _ hz3
  obtain ⟨z4, hz4⟩ := hz4
  obtain ⟨y4, p4, c4, hy4, hA4⟩ := (Opens.slice (sz := 1) Try.underlying24 (by kernel_rfl) (by decide) (Opens.u8 Try.underlying5)) _ _ _ hz4
  obtain ⟨z5, hz5⟩ := hz5
  obtain ⟨y5, ho5, hy5⟩ := (openArr (n := 64) Try.underlying80 Try.underlying5 (by kernel_rfl) (by kernel_rfl)) _ _ _ hz5
  have hbs : ∀ b ∈ y3, b.ok := fun b hb => by
    obtain ⟨i, hi⟩ := List.mem_iff_getElem?.1 hb
    obtain ⟨vs, a, _, _, h1, _⟩ := hA3.cell hi
    obtain ⟨_, _, h2, _⟩ := h1
    exact h2
  refine ⟨⟨y0, y1, y2, y3, y4, y5⟩, p3, c3, p4, c4, ⟨ho0, ho1, ho2, hbs, ho5⟩, ?_, hA3, hA4⟩
  have e0 : cs = cs.drop 0 := rfl
  have f0 := cutCells 0 1 hy0
  have f1 := cutCells 1 1 hy1
  have f2 := cutCells 2 1 hy2
  have f3 := cutCells 3 1 hy3
  have f4 := cutCells 4 1 hy4
  have f5 := cutCells 5 64 hy5
  have fe : cs.drop 69 = [] := List.drop_eq_nil_of_le (by omega)
  rw [e0, f0, f1, f2, f3, f4, f5, fe]
  simp only [cat, List.append_assoc, List.append_nil, List.nil_append]
end
end Go.Proofs.Ytcfecmoagfgnaaa

/- The dump's head, taken apart once: its kernel's run is long. -/
set_option maxRecDepth 100000
namespace Go.Proofs.Ytcfecmoagfgnaaa
open Go

def signs : List Char := [104, 97, 114, 110, 101, 115, 115, 32, 102, 100, 52, 102, 57, 98, 57, 102, 49, 55, 56, 57, 57, 51, 101, 97, 57, 99, 99, 102, 101, 98, 51, 98, 102, 53, 98, 50, 100, 102, 54, 99, 50, 101, 100, 98, 49, 51, 57, 102, 51, 101, 52, 102, 100, 56, 51, 97, 49, 50, 97, 97, 48, 99, 53, 98, 50, 54, 97, 51, 52, 53, 48, 48, 32, 99, 117, 116, 32, 97, 116, 32, 109, 105, 115, 115, 105, 118, 101, 47, 109, 105, 115, 115, 105, 118, 101, 108, 97, 119, 48, 50, 46, 79, 99, 116, 101, 116, 78, 117, 109, 98, 101, 114, 115, 32, 109, 105, 115, 115, 105, 118, 101, 47, 109, 105, 115, 115, 105, 118, 101, 108, 97, 119, 48, 50, 46, 79, 99, 116, 101, 116, 74, 111, 105, 110, 115, 32, 109, 105, 115, 115, 105, 118, 101, 47, 109, 105, 115, 115, 105, 118, 101, 108, 97, 119, 48, 50, 46, 79, 99, 116, 101, 116, 83, 112, 108, 105, 116, 115, 32, 109, 105, 115, 115, 105, 118, 101, 47, 109, 105, 115, 115, 105, 118, 101, 108, 97, 119, 48, 50, 46, 79, 99, 116, 101, 116, 67, 117, 116, 32, 109, 105, 115, 115, 105, 118, 101, 47, 109, 105, 115, 115, 105, 118, 101, 108, 97, 119, 48, 50, 46, 79, 99, 116, 101, 116, 79, 119, 110, 32, 109, 105, 115, 115, 105, 118, 101, 47, 109, 105, 115, 115, 105, 118, 101, 108, 97, 119, 48, 50, 46, 79, 99, 116, 101, 116, 66, 121, 116, 101, 115, 32, 109, 105, 115, 115, 105, 118, 101, 47, 109, 105, 115, 115, 105, 118, 101, 108, 97, 119, 50, 52, 46, 66, 97, 103, 82, 105, 112, 101, 32, 109, 105, 115, 115, 105, 118, 101, 47, 109, 105, 115, 115, 105, 118, 101, 108, 97, 119, 50, 52, 46, 66, 97, 103, 80, 108, 97, 121, 115, 32, 109, 105, 115, 115, 105, 118, 101, 47, 109, 105, 115, 115, 105, 118, 101, 108, 97, 119, 50, 52, 46, 66, 97, 103, 79, 119, 110, 32, 109, 105, 115, 115, 105, 118, 101, 47, 109, 105, 115, 115, 105, 118, 101, 108, 97, 119, 49, 52, 46, 87, 105, 114, 101, 76, 101, 116, 116, 101, 114, 115, 32, 109, 105, 115, 115, 105, 118, 101, 47, 109, 105, 115, 115, 105, 118, 101, 108, 97, 119, 49, 52, 46, 87, 105, 114, 101, 73, 116, 101, 109, 115, 32, 109, 105, 115, 115, 105, 118, 101, 47, 109, 105, 115, 115, 105, 118, 101, 108, 97, 119, 49, 52, 46, 87, 105, 114, 101, 66, 117, 110, 100, 108, 101, 115, 32, 109, 105, 115, 115, 105, 118, 101, 47, 109, 105, 115, 115, 105, 118, 101, 108, 97, 119, 49, 52, 46, 87, 105, 114, 101, 79, 98, 106, 101, 99, 116, 115, 32, 109, 105, 115, 115, 105, 118, 101, 47, 109, 105, 115, 115, 105, 118, 101, 108, 97, 119, 50, 49, 46, 70, 101, 100, 113, 84, 97, 107, 101, 115, 32, 109, 105, 115, 115, 105, 118, 101, 47, 109, 105, 115, 115, 105, 118, 101, 108, 97, 119, 49, 52, 46, 87, 105, 114, 101, 67, 97, 108, 108, 115, 32, 109, 105, 115, 115, 105, 118, 101, 47, 109, 105, 115, 115, 105, 118, 101, 108, 97, 119, 49, 52, 46, 87, 105, 114, 101, 84, 117, 114, 110, 101, 100, 32, 109, 105, 115, 115, 105, 118, 101, 47, 109, 105, 115, 115, 105, 118, 101, 108, 97, 119, 49, 52, 46, 87, 105, 114, 101, 82, 101, 112, 108, 105, 101, 115, 32, 109, 105, 115, 115, 105, 118, 101, 47, 109, 105, 115, 115, 105, 118, 101, 108, 97, 119, 49, 52, 46, 87, 105, 114, 101, 80, 97, 99, 107, 101, 116, 115, 32, 109, 105, 115, 115, 105, 118, 101, 47, 109, 105, 115, 115, 105, 118, 101, 108, 97, 119, 49, 52, 46, 87, 105, 114, 101, 82, 101, 97, 100, 115, 32, 109, 105, 115, 115, 105, 118, 101, 47, 109, 105, 115, 115, 105, 118, 101, 108, 97, 119, 50, 49, 46, 70, 101, 100, 113, 82, 111, 119, 115, 32, 109, 105, 115, 115, 105, 118, 101, 47, 109, 105, 115, 115, 105, 118, 101, 108, 97, 119, 50, 49, 46, 70, 101, 100, 113, 76, 111, 97, 100, 115].map Char.ofNat
def words : List (List Char) := [[104, 97, 114, 110, 101, 115, 115], [102, 100, 52, 102, 57, 98, 57, 102, 49, 55, 56, 57, 57, 51, 101, 97, 57, 99, 99, 102, 101, 98, 51, 98, 102, 53, 98, 50, 100, 102, 54, 99, 50, 101, 100, 98, 49, 51, 57, 102, 51, 101, 52, 102, 100, 56, 51, 97, 49, 50, 97, 97, 48, 99, 53, 98, 50, 54, 97, 51, 52, 53, 48, 48], [99, 117, 116], [97, 116], [109, 105, 115, 115, 105, 118, 101, 47, 109, 105, 115, 115, 105, 118, 101, 108, 97, 119, 48, 50, 46, 79, 99, 116, 101, 116, 78, 117, 109, 98, 101, 114, 115], [109, 105, 115, 115, 105, 118, 101, 47, 109, 105, 115, 115, 105, 118, 101, 108, 97, 119, 48, 50, 46, 79, 99, 116, 101, 116, 74, 111, 105, 110, 115], [109, 105, 115, 115, 105, 118, 101, 47, 109, 105, 115, 115, 105, 118, 101, 108, 97, 119, 48, 50, 46, 79, 99, 116, 101, 116, 83, 112, 108, 105, 116, 115], [109, 105, 115, 115, 105, 118, 101, 47, 109, 105, 115, 115, 105, 118, 101, 108, 97, 119, 48, 50, 46, 79, 99, 116, 101, 116, 67, 117, 116], [109, 105, 115, 115, 105, 118, 101, 47, 109, 105, 115, 115, 105, 118, 101, 108, 97, 119, 48, 50, 46, 79, 99, 116, 101, 116, 79, 119, 110], [109, 105, 115, 115, 105, 118, 101, 47, 109, 105, 115, 115, 105, 118, 101, 108, 97, 119, 48, 50, 46, 79, 99, 116, 101, 116, 66, 121, 116, 101, 115], [109, 105, 115, 115, 105, 118, 101, 47, 109, 105, 115, 115, 105, 118, 101, 108, 97, 119, 50, 52, 46, 66, 97, 103, 82, 105, 112, 101], [109, 105, 115, 115, 105, 118, 101, 47, 109, 105, 115, 115, 105, 118, 101, 108, 97, 119, 50, 52, 46, 66, 97, 103, 80, 108, 97, 121, 115], [109, 105, 115, 115, 105, 118, 101, 47, 109, 105, 115, 115, 105, 118, 101, 108, 97, 119, 50, 52, 46, 66, 97, 103, 79, 119, 110], [109, 105, 115, 115, 105, 118, 101, 47, 109, 105, 115, 115, 105, 118, 101, 108, 97, 119, 49, 52, 46, 87, 105, 114, 101, 76, 101, 116, 116, 101, 114, 115], [109, 105, 115, 115, 105, 118, 101, 47, 109, 105, 115, 115, 105, 118, 101, 108, 97, 119, 49, 52, 46, 87, 105, 114, 101, 73, 116, 101, 109, 115], [109, 105, 115, 115, 105, 118, 101, 47, 109, 105, 115, 115, 105, 118, 101, 108, 97, 119, 49, 52, 46, 87, 105, 114, 101, 66, 117, 110, 100, 108, 101, 115], [109, 105, 115, 115, 105, 118, 101, 47, 109, 105, 115, 115, 105, 118, 101, 108, 97, 119, 49, 52, 46, 87, 105, 114, 101, 79, 98, 106, 101, 99, 116, 115], [109, 105, 115, 115, 105, 118, 101, 47, 109, 105, 115, 115, 105, 118, 101, 108, 97, 119, 50, 49, 46, 70, 101, 100, 113, 84, 97, 107, 101, 115], [109, 105, 115, 115, 105, 118, 101, 47, 109, 105, 115, 115, 105, 118, 101, 108, 97, 119, 49, 52, 46, 87, 105, 114, 101, 67, 97, 108, 108, 115], [109, 105, 115, 115, 105, 118, 101, 47, 109, 105, 115, 115, 105, 118, 101, 108, 97, 119, 49, 52, 46, 87, 105, 114, 101, 84, 117, 114, 110, 101, 100], [109, 105, 115, 115, 105, 118, 101, 47, 109, 105, 115, 115, 105, 118, 101, 108, 97, 119, 49, 52, 46, 87, 105, 114, 101, 82, 101, 112, 108, 105, 101, 115], [109, 105, 115, 115, 105, 118, 101, 47, 109, 105, 115, 115, 105, 118, 101, 108, 97, 119, 49, 52, 46, 87, 105, 114, 101, 80, 97, 99, 107, 101, 116, 115], [109, 105, 115, 115, 105, 118, 101, 47, 109, 105, 115, 115, 105, 118, 101, 108, 97, 119, 49, 52, 46, 87, 105, 114, 101, 82, 101, 97, 100, 115], [109, 105, 115, 115, 105, 118, 101, 47, 109, 105, 115, 115, 105, 118, 101, 108, 97, 119, 50, 49, 46, 70, 101, 100, 113, 82, 111, 119, 115], [109, 105, 115, 115, 105, 118, 101, 47, 109, 105, 115, 115, 105, 118, 101, 108, 97, 119, 50, 49, 46, 70, 101, 100, 113, 76, 111, 97, 100, 115]].map (List.map Char.ofNat)
theorem signs_is : Try.prog.initOrder.toList = signs := String.toList_ofList (l := signs)
theorem words_is : wordsSigns Try.prog.initOrder.toList = words := by rw [signs_is]; kernel_rfl
theorem mayEnter_is : Try.prog.mayEnter = true := by unfold Program.mayEnter; rw [words_is]; kernel_rfl
theorem headLifts_is : Try.prog.headLifts = [] := by unfold Program.headLifts; rw [words_is]; kernel_rfl
theorem liftsFinal_is : Try.prog.liftsFinal = Rows.octetJoinsRow.lifted := by unfold Program.liftsFinal; rw [words_is, headLifts_is]; kernel_rfl
theorem make_is : Try.prog.make = some Rows.octetJoinsRow.make := by unfold Program.make; rw [words_is, headLifts_is]; kernel_rfl
end Go.Proofs.Ytcfecmoagfgnaaa

/- The statement WireTurned. -/
set_option maxRecDepth 100000
namespace Go.Proofs.Ytcfecmoagfgnaaa.wireTurned
open Go.ChangeShapes Go.WideShapes Go.ChangeAt Go.RowKit Go.Vc Go.Pl

theorem own : ownKnob Try.prog.godebug = none := by kernel_rfl

theorem lifted (os : Os) (started : os.Started) (H : Type) (enc : TypeId × Value → H) :
    ReturnsInHanded {} Try.checked os 18 .any (Rows.wireTurnedSpec.pre6 enc Try.prog Try.f18 Rows.wireTurnedRow.domain false) (Rows.wireTurnedSpec.post enc Try.prog Try.f18 false true false false) := by
  refine law_of (C := Try.checked) (tb := 4) started own (by kernel_rfl) Try.func18
    (ChangeSpec.witness6 (enc := enc) (C := Try.checked) false ⟨#[], #[.agg (cat (pktV pkt0 none 0 none 0)).toArray, .int .i64 0, .int .u8 0], []⟩ 8 (by kernel_rfl) (by kernel_rfl) (by kernel_rfl) (by kernel_rfl)) rfl (by kernel_rfl) Try.underlying4 (by kernel_rfl) (by kernel_rfl) ?_
  intro W base args ds ps hval0 hAA hsz
  have hval : ∀ (j : Nat) t v, Try.f18.params[j]? = some t → args[j]? = some v → Value.okWide Try.prog W .any base t v := hval0
  have hA : DataW.TrodAll enc Try.prog W 0 (fun _ => true) true Try.f18.params.toList args.toList ds ps := hAA
  rw [Try.params18] at hA hval
  obtain ⟨v0, vs0, d0, ds0, p0, q0, hargs, rfl, rfl, h0, r0⟩ := trodAll_cons hA
  obtain ⟨v1, vs1, d1, ds1, p1, q1, rfl, rfl, rfl, h1, r1⟩ := trodAll_cons r0
  obtain ⟨v2, vs2, d2, ds2, p2, q2, rfl, rfl, rfl, h2, r2⟩ := trodAll_cons r1
  obtain ⟨rfl, rfl, rfl⟩ := trodAll_nil r2
  obtain rfl : args = #[v0, v1, v2] := by cases args; simp_all
  obtain ⟨cs0, x0, rfl, q0, d0, p0, c0, hx0, rfl, hV0, hA0⟩ := Opens.struct Try.underlying118 open118 (hval 0 118 v0 rfl rfl) h0
  obtain ⟨a1, rfl, rfl, rfl, w1⟩ := open_int Try.underlying3 (hval 1 3 v1 rfl rfl) h1
  obtain ⟨a2, rfl, rfl, rfl, w2⟩ := open_int Try.underlying5 (hval 2 5 v2 rfl rfl) h2
  exact ⟨rfl, by have := wireTurned_w (Own.start W) hx0 hV0 hA0 a1 a2.toNat (by have := bounds_u8 w2; omega); rw [Int.toNat_of_nonneg (bounds_u8 w2).1] at this; exact this⟩

theorem closed : joinedFacts Try.prog 18 Try.f18 Rows.wireTurnedSpec Rows.wireTurnedRow = true := by
  unfold joinedFacts
  rw [mayEnter_is, liftsFinal_is, make_is]
  kernel_rfl

theorem over : Rows.wireTurnedRow.holds Try.pinned (OpenSpec.ofChange Rows.wireTurnedSpec) :=
  OpenClaim.holds_of_wide 18 Try.f18 rfl rfl rfl rfl rfl rfl rfl ⟨rfl, rfl, rfl, rfl, rfl⟩ rfl rfl rfl rfl rfl (by kernel_rfl) Try.func18 closed
    (of_decide_eq_true (by kernel_rfl)) (by unfold Func.isWrapper; first | (rw [if_pos (by decide +kernel)]; kernel_rfl) | (rw [if_neg (by decide +kernel)]; exact ⟨rfl, rfl⟩))
    (fun os started H enc _ => lifted os started H enc)

/-- The statement. -/
theorem proved : Rows.WireTurnedSaid :=
  over
end Go.Proofs.Ytcfecmoagfgnaaa.wireTurned

