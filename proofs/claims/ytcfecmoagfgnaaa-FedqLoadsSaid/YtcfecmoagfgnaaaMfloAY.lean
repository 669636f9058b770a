/- The statement FedqLoads is proved, for every input: part 25 of 26 of the texts that it needs. -/
import Derived.Test.YtcfecmoagfgnaaaMfloAX
/- fedq: poll, acknowledged, take. -/
namespace Go.Proofs.Ytcfecmoagfgnaaa
open Go.Vc Go.Pl

/-- What is taken: the number, whether it is done, whether it is told. -/
def takeS (l i : Nat) : Nat × Bool × Bool := if i = 0 then (l, false, false) else if i ≤ l then (l, false, true) else if i = l + 1 then (i, true, true) else (l, false, false)
theorem takeS_0 {l i : Nat} (h : i = 0) : takeS l i = (l, false, false) := if_pos h
theorem takeS_1 {l i : Nat} (h : ¬ i = 0) (h2 : i ≤ l) : takeS l i = (l, false, true) := by unfold takeS; rw [if_neg h, if_pos h2]
theorem takeS_2 {l i : Nat} (h : i = l + 1) : takeS l i = (i, true, true) := by unfold takeS; rw [if_neg (by omega), if_neg (by omega), if_pos h]
theorem takeS_3 {l i : Nat} (h : ¬ i = 0) (h2 : ¬ i ≤ l) (h3 : ¬ i = l + 1) : takeS l i = (l, false, false) := by unfold takeS; rw [if_neg h, if_neg h2, if_neg h3]

theorem take_w {S : List Snap} {H : List Chunk} {w : World} (ho : Own S H w) (l i : Nat) (hl : l < 65536) (hi : i < 65536) : Calls Try.prog 74 #[.int .u16 (l : Int), .int .u16 (i : Int)] w (Ret fun v w' => v = .tuple #[.int .u16 ((takeS l i).1 : Nat), .bool (takeS l i).2.1, .bool (takeS l i).2.2] ∧ Own S H w') := by
 refine enter (G := Own (⟨w, keys H⟩ :: S) H) ho.keep Try.func74 rfl Try.ntmps74 rfl ?_
 refine VC.sr ?_
 refine VL.assign rfl ?_
 refine VL.assign rfl ?_
 refine VL.assign rfl ?_
 refine VL.nn ?_
 refine VC.seq ?_
 refine VC.block ?_
 refine VC.sr ?_
 refine VL.move rfl ?_
 refine VL.eql rfl rfl ?_
 refine VL.case (fun h1 => ?_) (fun h1 => ?_)
 ·have h1 : i = 0 := by omega
  refine VL.assign rfl ?_
  refine VL.nn ?_
  refine VC.yes rfl ?_
  refine VC.sr ?_
  refine VL.move rfl ?_
  refine VL.assign rfl ?_
  refine VL.assign rfl ?_
  refine VL.assign rfl ?_
  refine VL.nn ?_
  refine VC.ret ?_
  refine VX.block_ret ?_
  refine VX.then_ret ?_
  refine VX.ret3 rfl rfl rfl rfl (fun we hw => ?_)
  exact ⟨by rw [takeS_0 h1], hw.subA⟩
 ·have h1 : ¬ i = 0 := by omega
  refine VL.assign rfl ?_
  refine VL.nn ?_
  refine VC.no rfl ?_
  refine VC.sr ?_
  refine VL.move rfl ?_
  refine VL.move rfl ?_
  refine VL.leq rfl rfl ?_
  refine VL.case (fun h3 => ?_) (fun h3 => ?_)
  ·have h3 : i ≤ l := by omega
   refine VL.assign rfl ?_
   refine VL.nn ?_
   refine VC.yes rfl ?_
   refine VC.sr ?_
   refine VL.move rfl ?_
   refine VL.assign rfl ?_
   refine VL.assign rfl ?_
   refine VL.assign rfl ?_
   refine VL.nn ?_
   refine VC.ret ?_
   refine VX.block_ret ?_
   refine VX.then_ret ?_
   refine VX.ret3 rfl rfl rfl rfl (fun we hw => ?_)
   exact ⟨by rw [takeS_1 h1 h3], hw.subA⟩
  ·have h3 : ¬ i ≤ l := by omega
   refine VL.assign rfl ?_
   refine VL.nn ?_
   refine VC.no rfl ?_
   refine VC.sr ?_
   refine VL.move rfl ?_
   refine VL.sub rfl rfl (by simp only [InR]; omega) ?_
   refine VL.move rfl ?_
   refine VL.eql rfl rfl ?_
   refine VL.case (fun h5 => ?_) (fun h5 => ?_)
   ·have h5 : i = l + 1 := by omega
    refine VL.assign rfl ?_
    refine VL.nn ?_
    refine VC.yes rfl ?_
    refine VC.sr ?_
    refine VL.move rfl ?_
    refine VL.assign rfl ?_
    refine VL.assign rfl ?_
    refine VL.assign rfl ?_
    refine VL.nn ?_
    refine VC.ret ?_
    refine VX.block_ret ?_
    refine VX.then_ret ?_
    refine VX.ret3 rfl rfl rfl rfl (fun we hw => ?_)
    exact ⟨by rw [takeS_2 h5], hw.subA⟩
   ·have h5 : ¬ i = l + 1 := by omega
    refine VL.assign rfl ?_
    refine VL.nn ?_
    refine VC.no rfl ?_
    refine VC.skip ?_
    refine VX.block_normal ?_
    refine VX.next ?_
    refine VC.sr ?_
    refine VL.move rfl ?_
    refine VL.assign rfl ?_
    refine VL.assign rfl ?_
    refine VL.assign rfl ?_
    refine VL.nn ?_
    refine VC.ret ?_
    refine VX.ret3 rfl rfl rfl rfl (fun we hw => ?_)
    exact ⟨by rw [takeS_3 h1 h3 h5], hw.subA⟩

/-- A transaction's value, with its slice. -/
def trnF {K : List Nat} (y : Trn) : SFact K :=
  ⟨fun v w => ∃ q d, v = .agg (cat (trnV y q d)).toArray ∧ Arr 433 itemR' K w q y.items d, false,
   fun _ _ w _ hs ⟨q, d, e, h⟩ => ⟨q, d, e, Arr.after (s := ⟨w, K⟩) h Mono_item ⟨hs, fun _ hk => .inl hk⟩⟩⟩
theorem z256 : (0 : Nat) < 256 := by decide
theorem drops_ok {x : Que} (hx : x.ok) (k : Nat) : ∀ i ∈ x.items.drop k, i.ok := fun i hi => hx.items i (List.mem_of_mem_drop hi)
theorem takes_ok {x : Que} (hx : x.ok) (k : Nat) : ∀ i ∈ x.items.take k, i.ok := fun i hi => hx.items i (List.mem_of_mem_take hi)

theorem acked_w {S : List Snap} {H : List Chunk} {w : World} (ho : Own S H w) {x : Que} (hx : x.ok) {q : Option Addr} {d : Nat} (hV : Arr 433 itemR' (keys H) w q x.items d) (hl : x.items.length ≤ 1000) (i : Nat) (hi : i = x.id) (k : Nat) (hk : x.sent = (k : Int)) (hk0 : 0 < k) : Calls Try.prog 137 #[.agg (cat (queV x q d)).toArray, .int .u16 (i : Int)] w (Ret fun v w' => ∃ q d, v = .tuple #[.agg (cat (queV (Que.mk (x.items.drop (min k x.items.length)) 0 x.id 0 0) q d)).toArray, .bool true] ∧ Own S H w' ∧ Arr 433 itemR' (keys H) w' q (x.items.drop (min k x.items.length)) d) := by
 have hx1 := hx.id
 refine enter (G := Own (⟨w, keys H⟩ :: S) H) ho.keep Try.func137 rfl Try.ntmps137 rfl ?_
 refine VC.sr ?_
 refine VL.box (L := queL) (ps := (queV (x) q d)) rfl rfl (queV_len hx) (fun g1 => ?_)
 refine VL.alloc (L := queL) (ps := (queV (que0) none 0)) zero157 rfl rfl (fun g2 => ?_)
 refine VL.assign rfl ?_
 refine VL.nn ?_
 refine VC.sr ?_
 refine VL.loads (cs := cat (queV (x) q d)) 1 0 5 rfl kd157 (fun _ h => h) rfl rfl rfl rfl ?_
 refine VL.call Try.func164 rfl (by decide) rfl (fun w' hw => own_w hw (x := x) hx (hV.nowA (s := ⟨w, _⟩) Mono_item hw) (by first | omega | decide)) (fun v => ?_)
 refine VL.at (fun w5 h1w => ?_)
 obtain ⟨gv3, cv4, rfl, hO6⟩ := h1w
 refine VL.toOwn hO6 ?_
 refine VL.store (L := queL) (qs := (queV (x) (gv3.map fun g => (⟨g, 0, none⟩ : Addr)) cv4)) (ps' := (queV (x) (gv3.map fun g => (⟨g, 0, none⟩ : Addr)) cv4)) 2 0 5 rfl rfl rfl (.inl kd157) rfl rfl (queV_len hx) (queV_ok1 x (gv3.map fun g => (⟨g, 0, none⟩ : Addr)) cv4) rfl rfl ?_
 refine VL.set2 ?_
 refine VL.nn ?_
 refine VC.seq ?_
 refine VC.sr ?_
 refine VL.fieldAddr rfl fo157_1 rfl ?_
 refine VL.load (v := .int .i64 (x.sent)) 2 1 rfl kd3 (fun _ h => h) rfl rfl rfl ?_
 refine VL.leq rfl rfl ?_
 refine VL.no (by omega) ?_
 refine VL.move rfl ?_
 refine VL.go rfl rfl rfl ?_
 refine VL.move rfl ?_
 refine VL.go rfl rfl rfl ?_
 refine VL.fieldAddr rfl fo157_2 rfl ?_
 refine VL.go rfl rfl rfl ?_
 refine VL.load (v := .int .u16 (x.id)) 2 2 rfl kd68 (fun _ h => h) rfl rfl rfl ?_
 refine VL.go rfl rfl rfl ?_
 refine VL.neq rfl rfl ?_
 refine VL.no (by omega) ?_
 refine VL.pick_f rfl rfl ?_
 refine VL.nn ?_
 refine VC.no rfl ?_
 refine VC.skip ?_
 refine VX.next ?_
 refine VC.seq ?_
 refine VC.letArr (fun wr hOr hAr => ?_)
 refine VC.region ?_
 refine VL.fieldAddr rfl fo157_0 rfl ?_
 refine VL.load (v := .slice (gv3.map fun g => (⟨g, 0, none⟩ : Addr)) (x.items).length cv4) 1 0 rfl kd126 (fun _ h => h) rfl rfl rfl ?_
 refine VL.fieldAddr rfl fo157_1 rfl ?_
 refine VL.load (v := .int .i64 (x.sent)) 1 1 rfl kd3 (fun _ h => h) rfl rfl rfl ?_
 refine VL.fieldAddr rfl fo157_0 rfl ?_
 refine VL.load (v := .slice (gv3.map fun g => (⟨g, 0, none⟩ : Addr)) (x.items).length cv4) 1 0 rfl kd126 (fun _ h => h) rfl rfl rfl ?_
 refine VL.len Try.underlying126 rfl rfl ?_
 refine VL.min2 rfl rfl ?_
 refine VL.newv (v' := .int .i64 ((min (k) (x.items.length) : Nat) : Int)) (congrArg (Value.int .i64) (by omega)) ?_
 refine VL.dropS (min k x.items.length) rfl rfl Try.underlying126 sz126 hAr (by omega) (fun p9 hA9 => ?_)
 refine VL.call Try.func165 rfl (by decide) rfl (fun w' hw => clone_l hw (hA9.nowA (s := ⟨wr, _⟩) Mono_item hw) (by simp only [List.length_drop, List.length_take]; omega)) (fun v => ?_)
 refine VL.at (fun w7 h1w => ?_)
 obtain ⟨p8, c9, rfl, hO11, hA10⟩ := h1w
 refine VL.toOwn hO11 ?_
 refine VL.fieldAddr rfl fo157_0 rfl ?_
 refine VL.store (L := queL) (qs := [[.slice p8 ((x.items.drop (min k x.items.length))).length c9]]) 1 0 1 rfl rfl rfl (.inr ⟨kd126, rfl⟩) rfl rfl rfl (by intro u hu; simp [cat] at hu; subst hu; rfl) rfl rfl ?_
 refine VL.set1 ?_
 refine VL.nn ?_
 refine VC.sr ?_
 refine VL.fieldAddr rfl fo157_1 rfl ?_
 refine VL.store (L := queL) (qs := [[.int .i64 (0)]]) 1 1 1 rfl rfl rfl (.inr ⟨kd3, rfl⟩) rfl rfl rfl (by intro u hu; simp [cat] at hu; subst hu; rfl) rfl rfl ?_
 refine VL.set1 ?_
 refine VL.fieldAddr rfl fo157_3 rfl ?_
 refine VL.store (L := queL) (qs := [[.int .u8 (0)]]) (ps' := [[.slice p8 ((x.items.drop (min k x.items.length))).length c9], [.int .i64 (0)], [.int .u16 (x.id)], [.int .u8 (0)], [.int .u8 (x.back)]]) 1 3 1 rfl rfl rfl (.inr ⟨kd5, rfl⟩) rfl rfl rfl (by intro u hu; simp [cat] at hu; subst hu; rfl) rfl rfl ?_
 refine VL.set1 ?_
 refine VL.fieldAddr rfl fo157_4 rfl ?_
 refine VL.store (L := queL) (qs := [[.int .u8 (0)]]) (ps' := [[.slice p8 ((x.items.drop (min k x.items.length))).length c9], [.int .i64 (0)], [.int .u16 (x.id)], [.int .u8 (0)], [.int .u8 (0)]]) 1 4 1 rfl rfl rfl (.inr ⟨kd5, rfl⟩) rfl rfl rfl (by intro u hu; simp [cat] at hu; subst hu; rfl) rfl rfl ?_
 refine VL.set1 ?_
 refine VL.nn ?_
 refine VC.sr ?_
 refine VL.loads (cs := cat (queV ((Que.mk (x.items.drop (min k x.items.length)) 0 x.id 0 0)) p8 c9)) 1 0 5 rfl kd157 (fun _ h => h) rfl rfl rfl rfl ?_
 refine VL.store (L := queL) (qs := (queV ((Que.mk (x.items.drop (min k x.items.length)) 0 x.id 0 0)) p8 c9)) (ps' := (queV ((Que.mk (x.items.drop (min k x.items.length)) 0 x.id 0 0)) p8 c9)) 0 0 5 rfl rfl rfl (.inl kd157) rfl rfl (queV_len (⟨drops_ok hx _, hx.id, z256, z256⟩ : Que.ok (Que.mk (x.items.drop (min k x.items.length)) 0 x.id 0 0))) (queV_ok1 ((Que.mk (x.items.drop (min k x.items.length)) 0 x.id 0 0)) p8 c9) rfl rfl ?_
 refine VL.set0 ?_
 refine VL.assign rfl ?_
 refine VL.nn ?_
 refine VC.ret ?_
 refine VX.ret_cell (cs := cat (queV ((Que.mk (x.items.drop (min k x.items.length)) 0 x.id 0 0)) p8 c9)) 0 rfl rfl rfl (by rw [cat_size (queV_len (⟨drops_ok hx _, hx.id, z256, z256⟩ : Que.ok (Que.mk (x.items.drop (min k x.items.length)) 0 x.id 0 0)))]; exact kd157) (fun _ h => h) rfl rfl (fun we hw => ?_)
 exact ⟨_, _, rfl, hw.drop.drop.subA, (hA10.nowA (s := ⟨w7, _⟩) Mono_item hw.drop.drop)⟩

theorem poll_0 {S : List Snap} {H : List Chunk} {w : World} (ho : Own S H w) {x : Que} (hx : x.ok) {q : Option Addr} {d : Nat} (hV : Arr 433 itemR' (keys H) w q x.items d) (hl : x.items.length ≤ 1000) (hw0 : 0 < x.wait) (hne : 0 < x.items.length) : Calls Try.prog 135 #[.agg (cat (queV x q d)).toArray] w (Ret fun v w' => ∃ q d, v = .tuple #[.agg (cat (queV x q d)).toArray, .agg (cat (trnV trn0 none 0)).toArray, .bool false] ∧ Own S H w' ∧ Arr 433 itemR' (keys H) w' q x.items d) := by
 refine enter (G := Own (⟨w, keys H⟩ :: S) H) ho.keep Try.func135 rfl Try.ntmps135 rfl ?_
 refine VC.sr ?_
 refine VL.box (L := queL) (ps := (queV (x) q d)) rfl rfl (queV_len hx) (fun g1 => ?_)
 refine VL.alloc (L := queL) (ps := (queV (que0) none 0)) zero157 rfl rfl (fun g2 => ?_)
 refine VL.alloc (L := trnL) (ps := (trnV (trn0) none 0)) zero132 rfl rfl (fun g3 => ?_)
 refine VL.assign rfl ?_
 refine VL.nn ?_
 refine VC.sr ?_
 refine VL.loads (cs := cat (queV (x) q d)) 2 0 5 rfl kd157 (fun _ h => h) rfl rfl rfl rfl ?_
 refine VL.call Try.func164 rfl (by decide) rfl (fun w' hw => own_w hw (x := x) hx (hV.nowA (s := ⟨w, _⟩) Mono_item hw) (by first | omega | decide)) (fun v => ?_)
 refine VL.at (fun w6 h1w => ?_)
 obtain ⟨gv4, cv5, rfl, hO7⟩ := h1w
 refine VL.toOwn hO7 ?_
 refine VL.store (L := queL) (qs := (queV (x) (gv4.map fun g => (⟨g, 0, none⟩ : Addr)) cv5)) (ps' := (queV (x) (gv4.map fun g => (⟨g, 0, none⟩ : Addr)) cv5)) 3 0 5 rfl rfl rfl (.inl kd157) rfl rfl (queV_len hx) (queV_ok1 x (gv4.map fun g => (⟨g, 0, none⟩ : Addr)) cv5) rfl rfl ?_
 refine VL.set3 ?_
 refine VL.nn ?_
 refine VC.seq ?_
 refine VC.sr ?_
 refine VL.fieldAddr rfl fo157_0 rfl ?_
 refine VL.load (v := .slice (gv4.map fun g => (⟨g, 0, none⟩ : Addr)) (x.items).length cv5) 3 0 rfl kd126 (fun _ h => h) rfl rfl rfl ?_
 refine VL.len Try.underlying126 rfl rfl ?_
 refine VL.eql rfl rfl ?_
 refine VL.no (by omega) ?_
 refine VL.move rfl ?_
 refine VL.go rfl rfl rfl ?_
 refine VL.fieldAddr rfl fo157_3 rfl ?_
 refine VL.go rfl rfl rfl ?_
 refine VL.load (v := .int .u8 (x.wait)) 3 3 rfl kd5 (fun _ h => h) rfl rfl rfl ?_
 refine VL.go rfl rfl rfl ?_
 refine VL.gtr rfl rfl ?_
 refine VL.yes (by omega) ?_
 refine VL.pick_f rfl rfl ?_
 refine VL.move rfl ?_
 refine VL.pass rfl rfl rfl rfl rfl ?_
 refine VL.pass rfl rfl rfl rfl rfl ?_
 refine VL.pass rfl rfl rfl rfl rfl ?_
 refine VL.pass rfl rfl rfl rfl rfl ?_
 refine VL.passu rfl rfl rfl rfl ?_
 refine VL.passu rfl rfl rfl rfl ?_
 refine VL.passu rfl rfl rfl rfl ?_
 refine VL.pass rfl rfl rfl rfl rfl ?_
 refine VL.pick_t rfl rfl ?_
 refine VL.nn ?_
 refine VC.yes rfl ?_
 refine VC.sr ?_
 refine VL.loads (cs := cat (queV (x) (gv4.map fun g => (⟨g, 0, none⟩ : Addr)) cv5)) 3 0 5 rfl kd157 (fun _ h => h) rfl rfl rfl rfl ?_
 refine VL.build0 (cs := cat (trnV (trn0) none 0)) built132 ?_
 refine VL.store (L := queL) (qs := (queV (x) (gv4.map fun g => (⟨g, 0, none⟩ : Addr)) cv5)) (ps' := (queV (x) (gv4.map fun g => (⟨g, 0, none⟩ : Addr)) cv5)) 2 0 5 rfl rfl rfl (.inl kd157) rfl rfl (queV_len hx) (queV_ok1 x (gv4.map fun g => (⟨g, 0, none⟩ : Addr)) cv5) rfl rfl ?_
 refine VL.set2 ?_
 refine VL.store (L := trnL) (qs := (trnV (trn0) none 0)) (ps' := (trnV (trn0) none 0)) 1 0 2 rfl rfl rfl (.inl kd132) rfl rfl rfl (trnV_ok1 trn0 none 0) rfl rfl ?_
 refine VL.set1 ?_
 refine VL.assign rfl ?_
 refine VL.nn ?_
 refine VC.ret ?_
 refine VX.then_ret ?_
 refine VX.ret_cells2 (cs1 := cat (queV (x) (gv4.map fun g => (⟨g, 0, none⟩ : Addr)) cv5)) (cs2 := cat (trnV (trn0) none 0)) 2 1 rfl rfl rfl rfl (by rw [cat_size (queV_len hx)]; exact kd157) kd132 (fun _ h => h) rfl rfl rfl rfl (fun we hw => ?_)
 have h7 := (ownDropAt 1 (ownDropAt 2 (ownDropAt 3 hw)))
 exact ⟨_, _, rfl, h7.drop.subA, h7.letArr⟩

theorem poll_1 {S : List Snap} {H : List Chunk} {w : World} (ho : Own S H w) {x : Que} (hx : x.ok) {q : Option Addr} {d : Nat} (hV : Arr 433 itemR' (keys H) w q x.items d) (hl : x.items.length ≤ 1000) (hs0 : x.sent = 0) (hw0 : x.wait = 0) (hid : x.id < 65535) (hne : 0 < x.items.length) : Calls Try.prog 135 #[.agg (cat (queV x q d)).toArray] w (Ret fun v w' => ∃ q d q2 d2, v = .tuple #[.agg (cat (queV (Que.mk x.items ((min x.items.length 4 : Nat) : Nat) (x.id + 1) 1 1) q d)).toArray, .agg (cat (trnV (Trn.mk (x.id + 1) (x.items.take (min (min x.items.length 4) x.items.length))) q2 d2)).toArray, .bool true] ∧ Own S H w' ∧ Arr 433 itemR' (keys H) w' q x.items d ∧ Arr 433 itemR' (keys H) w' q2 (x.items.take (min (min x.items.length 4) x.items.length)) d2) := by
 have hx1 := hx.id
 have hx2 := hx.back
 have hx3 := hx.wait
 have hid1 : x.id + 1 < 65536 := by omega
 refine enter (G := Own (⟨w, keys H⟩ :: S) H) ho.keep Try.func135 rfl Try.ntmps135 rfl ?_
 refine VC.sr ?_
 refine VL.box (L := queL) (ps := (queV (x) q d)) rfl rfl (queV_len hx) (fun g1 => ?_)
 refine VL.alloc (L := queL) (ps := (queV (que0) none 0)) zero157 rfl rfl (fun g2 => ?_)
 refine VL.alloc (L := trnL) (ps := (trnV (trn0) none 0)) zero132 rfl rfl (fun g3 => ?_)
 refine VL.assign rfl ?_
 refine VL.nn ?_
 refine VC.sr ?_
 refine VL.loads (cs := cat (queV (x) q d)) 2 0 5 rfl kd157 (fun _ h => h) rfl rfl rfl rfl ?_
 refine VL.call Try.func164 rfl (by decide) rfl (fun w' hw => own_w hw (x := x) hx (hV.nowA (s := ⟨w, _⟩) Mono_item hw) (by first | omega | decide)) (fun v => ?_)
 refine VL.at (fun w6 h1w => ?_)
 obtain ⟨gv4, cv5, rfl, hO7⟩ := h1w
 refine VL.toOwn hO7 ?_
 refine VL.store (L := queL) (qs := (queV (x) (gv4.map fun g => (⟨g, 0, none⟩ : Addr)) cv5)) (ps' := (queV (x) (gv4.map fun g => (⟨g, 0, none⟩ : Addr)) cv5)) 3 0 5 rfl rfl rfl (.inl kd157) rfl rfl (queV_len hx) (queV_ok1 x (gv4.map fun g => (⟨g, 0, none⟩ : Addr)) cv5) rfl rfl ?_
 refine VL.set3 ?_
 refine VL.nn ?_
 refine VC.seq ?_
 refine VC.sr ?_
 refine VL.fieldAddr rfl fo157_0 rfl ?_
 refine VL.load (v := .slice (gv4.map fun g => (⟨g, 0, none⟩ : Addr)) (x.items).length cv5) 3 0 rfl kd126 (fun _ h => h) rfl rfl rfl ?_
 refine VL.len Try.underlying126 rfl rfl ?_
 refine VL.eql rfl rfl ?_
 refine VL.no (by omega) ?_
 refine VL.move rfl ?_
 refine VL.go rfl rfl rfl ?_
 refine VL.fieldAddr rfl fo157_3 rfl ?_
 refine VL.go rfl rfl rfl ?_
 refine VL.load (v := .int .u8 (x.wait)) 3 3 rfl kd5 (fun _ h => h) rfl rfl rfl ?_
 refine VL.go rfl rfl rfl ?_
 refine VL.gtr rfl rfl ?_
 refine VL.no (by omega) ?_
 refine VL.pick_f rfl rfl ?_
 refine VL.move rfl ?_
 refine VL.go rfl rfl rfl ?_
 refine VL.fieldAddr rfl fo157_1 rfl ?_
 refine VL.go rfl rfl rfl ?_
 refine VL.load (v := .int .i64 (x.sent)) 3 1 rfl kd3 (fun _ h => h) rfl rfl rfl ?_
 refine VL.go rfl rfl rfl ?_
 refine VL.eql rfl rfl ?_
 refine VL.yes (by omega) ?_
 refine VL.go rfl rfl rfl ?_
 refine VL.move rfl ?_
 refine VL.go rfl rfl rfl ?_
 refine VL.fieldAddr rfl fo157_2 rfl ?_
 refine VL.go rfl rfl rfl ?_
 refine VL.load (v := .int .u16 (x.id)) 3 2 rfl kd68 (fun _ h => h) rfl rfl rfl ?_
 refine VL.go rfl rfl rfl ?_
 refine VL.eql rfl rfl ?_
 refine VL.no (by omega) ?_
 refine VL.go rfl rfl rfl ?_
 refine VL.pick_t rfl rfl ?_
 refine VL.pick_f rfl rfl ?_
 refine VL.nn ?_
 refine VC.no rfl ?_
 refine VC.skip ?_
 refine VX.next ?_
 refine VC.seq ?_
 refine VC.sr ?_
 refine VL.fieldAddr rfl fo157_1 rfl ?_
 refine VL.load (v := .int .i64 (x.sent)) 3 1 rfl kd3 (fun _ h => h) rfl rfl rfl ?_
 refine VL.eql rfl rfl ?_
 refine VL.yes (by omega) ?_
 refine VL.nn ?_
 refine VC.yes rfl ?_
 refine VC.sr ?_
 refine VL.fieldAddr rfl fo157_2 rfl ?_
 refine VL.load (v := .int .u16 (x.id)) 3 2 rfl kd68 (fun _ h => h) rfl rfl rfl ?_
 refine VL.add rfl rfl (by simp only [InR]; omega) ?_
 refine VL.fieldAddr rfl fo157_2 rfl ?_
 refine VL.store (L := queL) (qs := [[.int .u16 (x.id + 1)]]) 3 2 1 rfl rfl rfl (.inr ⟨kd68, rfl⟩) rfl rfl rfl (by intro u hu; simp [cat] at hu; subst hu; rfl) rfl rfl ?_
 refine VL.set3 ?_
 refine VL.nn ?_
 refine VC.region ?_
 refine VL.fieldAddr rfl fo157_0 rfl ?_
 refine VL.load (v := .slice (gv4.map fun g => (⟨g, 0, none⟩ : Addr)) (x.items).length cv5) 3 0 rfl kd126 (fun _ h => h) rfl rfl rfl ?_
 refine VL.len Try.underlying126 rfl rfl ?_
 refine VL.min2 rfl rfl ?_
 refine VL.newv (v' := .int .i64 ((min (x.items.length) (4) : Nat) : Int)) (congrArg (Value.int .i64) (by omega)) ?_
 refine VL.fieldAddr rfl fo157_1 rfl ?_
 refine VL.store (L := queL) (qs := [[.int .i64 ((min (x.items.length) (4) : Nat))]]) 3 1 1 rfl rfl rfl (.inr ⟨kd3, rfl⟩) rfl rfl rfl (by intro u hu; simp [cat] at hu; subst hu; rfl) rfl rfl ?_
 refine VL.set3 ?_
 refine VL.fieldAddr rfl fo157_3 rfl ?_
 refine VL.store (L := queL) (qs := [[.int .u8 (1)]]) 3 3 1 rfl rfl rfl (.inr ⟨kd5, rfl⟩) rfl rfl rfl (by intro u hu; simp [cat] at hu; subst hu; rfl) rfl rfl ?_
 refine VL.set3 ?_
 refine VL.fieldAddr rfl fo157_4 rfl ?_
 refine VL.store (L := queL) (qs := [[.int .u8 (1)]]) 3 4 1 rfl rfl rfl (.inr ⟨kd5, rfl⟩) rfl rfl rfl (by intro u hu; simp [cat] at hu; subst hu; rfl) rfl rfl ?_
 refine VL.set3 ?_
 refine VL.nn ?_
 refine VC.seq ?_
 refine VC.letArr (fun wr hOr hAr => ?_)
 refine VC.letCells 2 rfl (fun w8 hO10 hF9 => ?_)
 apply VC.anyTL (blk g3 132 trnL (trnV (trn0) none 0) :: blk g2 157 queL (queV ((Que.mk x.items ((min x.items.length 4 : Nat) : Nat) (x.id + 1) 1 1)) (gv4.map fun g => (⟨g, 0, none⟩ : Addr)) cv5) :: H) 16 15 (F := [eqF _, eqF _, eqF _, eqF _, eqF _, eqF _, eqF _, eqF _, eqF _, eqF _, eqF _, eqF _, arrS ⟨wr, keys (blk g3 132 trnL (trnV (trn0) none 0) :: blk g2 157 queL (queV (que0) none 0) :: blk g1 157 queL [[.slice (gv4.map fun g => (⟨g, 0, none⟩ : Addr)) (x.items).length cv5], [.int .i64 ((min (x.items.length) (4) : Nat))], [.int .u16 (x.id + 1)], [.int .u8 (1)], [.int .u8 (1)]] :: H)⟩ 433 itemR' (x.items.take (min (min x.items.length 4) x.items.length)), arrF 433 itemR' Mono_item ((x.items.take (min (min x.items.length 4) x.items.length))), trnF (Trn.mk (x.id + 1) (x.items.take (min (min x.items.length 4) x.items.length))), eqF undef]) [⟨[], [1]⟩, ⟨[], [1]⟩, ⟨[(53, 1)], []⟩, ⟨[], [1]⟩, ⟨[(55, 3)], []⟩, ⟨[], [1]⟩, ⟨[(57, 5)], []⟩, ⟨[], [1]⟩, ⟨[(59, 7)], []⟩, ⟨[(60, 8)], []⟩, ⟨[(58, 6), (61, 9)], []⟩, ⟨[(62, 10)], []⟩, ⟨[(56, 4), (63, 11)], []⟩, ⟨[(64, 12)], []⟩, ⟨[(54, 2), (65, 13)], []⟩, ⟨[(52, 0)], [2]⟩] [(66, 14)] [0, 1, 2, 3, 4, 5, 6, 7, 8, 9, 10, 11, 12, 13, 14, 15, 16, 17, 18, 19, 20, 21, 22, 23, 24, 25, 26, 27, 28, 29, 30, 31, 32, 33, 34, 35, 36, 37, 38, 39, 40, 41, 42, 43, 44, 45, 46, 47, 48, 49, 50, 51] rfl (by kernel_rfl) (by kernel_rfl) rfl rfl (by kernel_rfl) (by kernel_rfl) (by kernel_rfl) rfl ?obs9 ?end9
 case obs9 =>
  refine Obs.cons ?_ ?_
  ·refine obSL (by kernel_rfl) rfl rfl (fun ph9 w9 hO9 => ?_)
   refine VL.loadsF (s := ⟨w8, _⟩) (cs := cat (queV ((Que.mk x.items ((min x.items.length 4 : Nat) : Nat) (x.id + 1) 1 1)) (gv4.map fun g => (⟨g, 0, none⟩ : Addr)) cv5)) 0 5 rfl kd157 hF9 (fun _ e => e ▸ JL.ok hO9 (by repeat (first | exact List.mem_cons_self .. | apply List.mem_cons_of_mem))) rfl rfl rfl ?_
   exact VL.finSL hO9 rfl rfl
  refine Obs.cons ?_ ?_
  ·refine obSL (by kernel_rfl) rfl rfl (fun ph9 w9 hO9 => ?_)
   refine VL.fieldAddr rfl fo157_2 rfl ?_
   exact VL.finSL hO9 rfl rfl
  refine Obs.cons ?_ ?_
  ·refine obSL (by kernel_rfl) rfl rfl (fun ph9 w9 hO9 => ?_)
   rintro _ rfl
   refine VL.loadF (s := ⟨w8, _⟩) (v := .int .u16 (x.id + 1)) 2 rfl kd68 hF9 (fun _ e => e ▸ JL.ok hO9 (by repeat (first | exact List.mem_cons_self .. | apply List.mem_cons_of_mem))) rfl rfl ?_
   exact VL.finSL hO9 rfl rfl
  refine Obs.cons ?_ ?_
  ·refine obSL (by kernel_rfl) rfl rfl (fun ph9 w9 hO9 => ?_)
   refine VL.fieldAddr rfl fo157_0 rfl ?_
   exact VL.finSL hO9 rfl rfl
  refine Obs.cons ?_ ?_
  ·refine obSL (by kernel_rfl) rfl rfl (fun ph9 w9 hO9 => ?_)
   rintro _ rfl
   refine VL.loadF (s := ⟨w8, _⟩) (v := .slice (gv4.map fun g => (⟨g, 0, none⟩ : Addr)) (x.items).length cv5) 0 rfl kd126 hF9 (fun _ e => e ▸ JL.ok hO9 (by repeat (first | exact List.mem_cons_self .. | apply List.mem_cons_of_mem))) rfl rfl ?_
   exact VL.finSL hO9 rfl rfl
  refine Obs.cons ?_ ?_
  ·refine obSL (by kernel_rfl) rfl rfl (fun ph9 w9 hO9 => ?_)
   refine VL.fieldAddr rfl fo157_1 rfl ?_
   exact VL.finSL hO9 rfl rfl
  refine Obs.cons ?_ ?_
  ·refine obSL (by kernel_rfl) rfl rfl (fun ph9 w9 hO9 => ?_)
   rintro _ rfl
   refine VL.loadF (s := ⟨w8, _⟩) (v := .int .i64 ((min (x.items.length) (4) : Nat))) 1 rfl kd3 hF9 (fun _ e => e ▸ JL.ok hO9 (by repeat (first | exact List.mem_cons_self .. | apply List.mem_cons_of_mem))) rfl rfl ?_
   exact VL.finSL hO9 rfl rfl
  refine Obs.cons ?_ ?_
  ·refine obSL (by kernel_rfl) rfl rfl (fun ph9 w9 hO9 => ?_)
   refine VL.fieldAddr rfl fo157_0 rfl ?_
   exact VL.finSL hO9 rfl rfl
  refine Obs.cons ?_ ?_
  ·refine obSL (by kernel_rfl) rfl rfl (fun ph9 w9 hO9 => ?_)
   rintro _ rfl
   refine VL.loadF (s := ⟨w8, _⟩) (v := .slice (gv4.map fun g => (⟨g, 0, none⟩ : Addr)) (x.items).length cv5) 0 rfl kd126 hF9 (fun _ e => e ▸ JL.ok hO9 (by repeat (first | exact List.mem_cons_self .. | apply List.mem_cons_of_mem))) rfl rfl ?_
   exact VL.finSL hO9 rfl rfl
  refine Obs.cons ?_ ?_
  ·refine obSL (by kernel_rfl) rfl rfl (fun ph9 w9 hO9 => ?_)
   rintro _ rfl
   refine VL.len Try.underlying126 rfl rfl ?_
   exact VL.finSL hO9 rfl rfl
  refine Obs.cons ?_ ?_
  ·refine obSL (by kernel_rfl) rfl rfl (fun ph9 w9 hO9 => ?_)
   rintro _ rfl _ rfl
   refine VL.min2 rfl rfl ?_
   refine VL.newv (v' := .int .i64 ((min (min x.items.length 4) x.items.length) : Nat)) (congrArg (Value.int .i64) (by omega)) ?_
   exact VL.finSL hO9 rfl rfl
  refine Obs.cons ?_ ?_
  ·refine obSL (by kernel_rfl) rfl rfl (fun ph9 w9 hO9 => ?_)
   rintro _ rfl
   refine VL.max2 rfl rfl ?_
   refine VL.newv (v' := .int .i64 ((min (min x.items.length 4) x.items.length) : Nat)) (congrArg (Value.int .i64) (by omega)) ?_
   exact VL.finSL hO9 rfl rfl
  refine Obs.cons ?_ ?_
  ·refine obSL (by kernel_rfl) rfl rfl (fun ph9 w9 hO9 => ?_)
   rintro _ rfl _ rfl
   refine VL.takeS (min (min x.items.length 4) x.items.length) rfl rfl Try.underlying126 sz126 hAr (by omega) (fun p9 hA9 => ?_)
   exact VL.finSL hO9 rfl ⟨_, _, rfl, hA9⟩
  refine Obs.cons ?_ ?_
  ·refine obL (by kernel_rfl) rfl (by kernel_rfl) rfl (fun w9 hO9 => ?_)
   rintro _ ⟨pt, ct, rfl, hAt⟩
   refine VL.toOwn hO9 ?_
   refine VL.call Try.func165 rfl (by decide) rfl (fun w' hw => clone_l hw (hAt.nowA (s := ⟨wr, _⟩) Mono_item hw) (by simp only [List.length_drop, List.length_take]; omega)) (fun v => ?_)
   refine VL.at (fun w11 h1w => ?_)
   obtain ⟨p12, c13, rfl, hO15, hA14⟩ := h1w
   refine VL.toOwn hO15 ?_
   exact VL.finOL rfl (fun _ h => h.subA) (fun _ h => ⟨_, _, rfl, (hA14.nowA (s := ⟨w11, _⟩) Mono_item h)⟩)
  refine Obs.cons ?_ ?_
  ·refine obSL (by kernel_rfl) rfl rfl (fun ph9 w9 hO9 => ?_)
   rintro _ rfl _ ⟨p9_13, c9_13, rfl, hA9_13⟩
   refine VL.build (zs := trnZ) (L := trnFL) [(0, [.int .u16 (x.id + 1)]), (1, [.slice p9_13 ((x.items.take (min (min x.items.length 4) x.items.length))).length c9_13])] plan132 rfl ⟨⟨rfl, ⟨_, rfl, rfl⟩, rfl⟩, ⟨rfl, ⟨_, rfl, rfl⟩, rfl⟩, trivial⟩ rfl ?_
   refine VL.newv (v' := .agg (cat (trnV (Trn.mk (x.id + 1) (x.items.take (min (min x.items.length 4) x.items.length))) p9_13 c9_13)).toArray) rfl ?_
   exact VL.finSL hO9 rfl ⟨_, _, rfl, hA9_13⟩
  refine Obs.cons ?_ ?_
  ·refine obKL (by kernel_rfl) rfl (fun w9 hO9 => ?_)
   rintro _ rfl
   refine VL.toOwn hO9 ?_
   refine VL.store (L := queL) (qs := (queV ((Que.mk x.items ((min x.items.length 4 : Nat) : Nat) (x.id + 1) 1 1)) (gv4.map fun g => (⟨g, 0, none⟩ : Addr)) cv5)) (ps' := (queV ((Que.mk x.items ((min x.items.length 4 : Nat) : Nat) (x.id + 1) 1 1)) (gv4.map fun g => (⟨g, 0, none⟩ : Addr)) cv5)) 1 0 5 rfl rfl rfl (.inl kd157) rfl rfl (queV_len (⟨hx.items, hid1, (show (1 : Nat) < 256 by decide), (show (1 : Nat) < 256 by decide)⟩ : Que.ok (Que.mk x.items ((min x.items.length 4 : Nat) : Nat) (x.id + 1) 1 1))) (queV_ok1 ((Que.mk x.items ((min x.items.length 4 : Nat) : Nat) (x.id + 1) 1 1)) (gv4.map fun g => (⟨g, 0, none⟩ : Addr)) cv5) rfl rfl ?_
   refine VL.set1 ?_
   exact VL.finKL0 (fun _ h => h) (fun _ h => rfl)
  exact Obs.nil
 case end9 =>
  intro w9 hO9
  rintro _ ⟨q14, d14, rfl, hA14⟩
  refine VL.toOwn hO9 ?_
  refine VL.store (L := trnL) (qs := (trnV ((Trn.mk (x.id + 1) (x.items.take (min (min x.items.length 4) x.items.length)))) q14 d14)) (ps' := (trnV ((Trn.mk (x.id + 1) (x.items.take (min (min x.items.length 4) x.items.length)))) q14 d14)) 0 0 2 rfl rfl rfl (.inl kd132) rfl rfl (trnV_len (⟨hid1, takes_ok hx _⟩ : Trn.ok (Trn.mk (x.id + 1) (x.items.take (min (min x.items.length 4) x.items.length))))) (trnV_ok1 ((Trn.mk (x.id + 1) (x.items.take (min (min x.items.length 4) x.items.length)))) q14 d14) rfl rfl ?_
  refine VL.set0 ?_
  refine VL.assign rfl ?_
  refine VL.nn ?_
  refine VC.ret ?_
  refine VX.ret_cells2 (cs1 := cat (queV ((Que.mk x.items ((min x.items.length 4 : Nat) : Nat) (x.id + 1) 1 1)) (gv4.map fun g => (⟨g, 0, none⟩ : Addr)) cv5)) (cs2 := cat (trnV ((Trn.mk (x.id + 1) (x.items.take (min (min x.items.length 4) x.items.length)))) q14 d14)) 1 0 rfl rfl rfl rfl (by rw [cat_size (queV_len (⟨hx.items, hid1, (show (1 : Nat) < 256 by decide), (show (1 : Nat) < 256 by decide)⟩ : Que.ok (Que.mk x.items ((min x.items.length 4 : Nat) : Nat) (x.id + 1) 1 1)))]; exact kd157) (by rw [cat_size (trnV_len (⟨hid1, takes_ok hx _⟩ : Trn.ok (Trn.mk (x.id + 1) (x.items.take (min (min x.items.length 4) x.items.length)))))]; exact kd132) (fun _ h => h) rfl rfl rfl rfl (fun we hw => ?_)
  exact ⟨_, _, _, _, rfl, hw.drop.drop.subA, (hAr.nowA (s := ⟨wr, _⟩) Mono_item hw.drop.drop), (hA14.nowA (s := ⟨w9, _⟩) Mono_item hw.drop.drop)⟩

theorem poll_2 {S : List Snap} {H : List Chunk} {w : World} (ho : Own S H w) {x : Que} (hx : x.ok) {q : Option Addr} {d : Nat} (hV : Arr 433 itemR' (keys H) w q x.items d) (hl : x.items.length ≤ 1000) (k : Nat) (hk : x.sent = (k : Int)) (hk0 : 0 < k) (hw0 : x.wait = 0) (hne : 0 < x.items.length) : Calls Try.prog 135 #[.agg (cat (queV x q d)).toArray] w (Ret fun v w' => ∃ q d q2 d2, v = .tuple #[.agg (cat (queV (Que.mk x.items x.sent x.id (min (2 * x.back) 16) (min (2 * x.back) 16)) q d)).toArray, .agg (cat (trnV (Trn.mk (x.id) (x.items.take (min k x.items.length))) q2 d2)).toArray, .bool true] ∧ Own S H w' ∧ Arr 433 itemR' (keys H) w' q x.items d ∧ Arr 433 itemR' (keys H) w' q2 (x.items.take (min k x.items.length)) d2) := by
 have hx1 := hx.id
 have hx2 := hx.back
 have hx3 := hx.wait
 have hb1 : min (2 * x.back) 16 < 256 := by omega
 refine enter (G := Own (⟨w, keys H⟩ :: S) H) ho.keep Try.func135 rfl Try.ntmps135 rfl ?_
 refine VC.sr ?_
 refine VL.box (L := queL) (ps := (queV (x) q d)) rfl rfl (queV_len hx) (fun g1 => ?_)
 refine VL.alloc (L := queL) (ps := (queV (que0) none 0)) zero157 rfl rfl (fun g2 => ?_)
 refine VL.alloc (L := trnL) (ps := (trnV (trn0) none 0)) zero132 rfl rfl (fun g3 => ?_)
 refine VL.assign rfl ?_
 refine VL.nn ?_
 refine VC.sr ?_
 refine VL.loads (cs := cat (queV (x) q d)) 2 0 5 rfl kd157 (fun _ h => h) rfl rfl rfl rfl ?_
 refine VL.call Try.func164 rfl (by decide) rfl (fun w' hw => own_w hw (x := x) hx (hV.nowA (s := ⟨w, _⟩) Mono_item hw) (by first | omega | decide)) (fun v => ?_)
 refine VL.at (fun w6 h1w => ?_)
 obtain ⟨gv4, cv5, rfl, hO7⟩ := h1w
 refine VL.toOwn hO7 ?_
 refine VL.store (L := queL) (qs := (queV (x) (gv4.map fun g => (⟨g, 0, none⟩ : Addr)) cv5)) (ps' := (queV (x) (gv4.map fun g => (⟨g, 0, none⟩ : Addr)) cv5)) 3 0 5 rfl rfl rfl (.inl kd157) rfl rfl (queV_len hx) (queV_ok1 x (gv4.map fun g => (⟨g, 0, none⟩ : Addr)) cv5) rfl rfl ?_
 refine VL.set3 ?_
 refine VL.nn ?_
 refine VC.seq ?_
 refine VC.sr ?_
 refine VL.fieldAddr rfl fo157_0 rfl ?_
 refine VL.load (v := .slice (gv4.map fun g => (⟨g, 0, none⟩ : Addr)) (x.items).length cv5) 3 0 rfl kd126 (fun _ h => h) rfl rfl rfl ?_
 refine VL.len Try.underlying126 rfl rfl ?_
 refine VL.eql rfl rfl ?_
 refine VL.no (by omega) ?_
 refine VL.move rfl ?_
 refine VL.go rfl rfl rfl ?_
 refine VL.fieldAddr rfl fo157_3 rfl ?_
 refine VL.go rfl rfl rfl ?_
 refine VL.load (v := .int .u8 (x.wait)) 3 3 rfl kd5 (fun _ h => h) rfl rfl rfl ?_
 refine VL.go rfl rfl rfl ?_
 refine VL.gtr rfl rfl ?_
 refine VL.no (by omega) ?_
 refine VL.pick_f rfl rfl ?_
 refine VL.move rfl ?_
 refine VL.go rfl rfl rfl ?_
 refine VL.fieldAddr rfl fo157_1 rfl ?_
 refine VL.go rfl rfl rfl ?_
 refine VL.load (v := .int .i64 (x.sent)) 3 1 rfl kd3 (fun _ h => h) rfl rfl rfl ?_
 refine VL.go rfl rfl rfl ?_
 refine VL.eql rfl rfl ?_
 refine VL.no (by omega) ?_
 refine VL.go rfl rfl rfl ?_
 refine VL.move rfl ?_
 refine VL.pass rfl rfl rfl rfl rfl ?_
 refine VL.pass rfl rfl rfl rfl rfl ?_
 refine VL.pass rfl rfl rfl rfl rfl ?_
 refine VL.go rfl rfl rfl ?_
 refine VL.pick_f rfl rfl ?_
 refine VL.pick_f rfl rfl ?_
 refine VL.nn ?_
 refine VC.no rfl ?_
 refine VC.skip ?_
 refine VX.next ?_
 refine VC.seq ?_
 refine VC.sr ?_
 refine VL.fieldAddr rfl fo157_1 rfl ?_
 refine VL.load (v := .int .i64 (x.sent)) 3 1 rfl kd3 (fun _ h => h) rfl rfl rfl ?_
 refine VL.eql rfl rfl ?_
 refine VL.no (by omega) ?_
 refine VL.nn ?_
 refine VC.no rfl ?_
 refine VC.sr ?_
 refine VL.fieldAddr rfl fo157_4 rfl ?_
 refine VL.load (v := .int .u8 (x.back)) 3 4 rfl kd5 (fun _ h => h) rfl rfl rfl ?_
 refine VL.conv (by rw [Try.underlying5]; rfl) Try.underlying3 rfl (by simp only [InR]; omega) ?_
 refine VL.mul rfl rfl (by simp only [InR]; omega) ?_
 refine VL.min2 rfl rfl ?_
 refine VL.newv (v' := .int .i64 ((min (2 * x.back) (16) : Nat) : Int)) (congrArg (Value.int .i64) (by omega)) ?_
 refine VL.conv (by rw [Try.underlying3]; rfl) Try.underlying5 rfl (by simp only [InR]; omega) ?_
 refine VL.fieldAddr rfl fo157_4 rfl ?_
 refine VL.store (L := queL) (qs := [[.int .u8 ((min (2 * x.back) 16 : Nat))]]) 3 4 1 rfl rfl rfl (.inr ⟨kd5, rfl⟩) rfl rfl rfl (by intro u hu; simp [cat] at hu; subst hu; rfl) rfl rfl ?_
 refine VL.set3 ?_
 refine VL.nn ?_
 refine VC.region ?_
 refine VL.fieldAddr rfl fo157_4 rfl ?_
 refine VL.load (v := .int .u8 ((min (2 * x.back) 16 : Nat))) 3 4 rfl kd5 (fun _ h => h) rfl rfl rfl ?_
 refine VL.fieldAddr rfl fo157_3 rfl ?_
 refine VL.store (L := queL) (qs := [[.int .u8 ((min (2 * x.back) 16 : Nat))]]) 3 3 1 rfl rfl rfl (.inr ⟨kd5, rfl⟩) rfl rfl rfl (by intro u hu; simp [cat] at hu; subst hu; rfl) rfl rfl ?_
 refine VL.set3 ?_
 refine VL.nn ?_
 refine VC.seq ?_
 refine VC.letArr (fun wr hOr hAr => ?_)
 refine VC.letCells 2 rfl (fun w8 hO10 hF9 => ?_)
 apply VC.anyTL (blk g3 132 trnL (trnV (trn0) none 0) :: blk g2 157 queL (queV ((Que.mk x.items x.sent x.id (min (2 * x.back) 16) (min (2 * x.back) 16))) (gv4.map fun g => (⟨g, 0, none⟩ : Addr)) cv5) :: H) 16 15 (F := [eqF _, eqF _, eqF _, eqF _, eqF _, eqF _, eqF _, eqF _, eqF _, eqF _, eqF _, eqF _, arrS ⟨wr, keys (blk g3 132 trnL (trnV (trn0) none 0) :: blk g2 157 queL (queV (que0) none 0) :: blk g1 157 queL [[.slice (gv4.map fun g => (⟨g, 0, none⟩ : Addr)) (x.items).length cv5], [.int .i64 (x.sent)], [.int .u16 (x.id)], [.int .u8 ((min (2 * x.back) 16 : Nat))], [.int .u8 ((min (2 * x.back) 16 : Nat))]] :: H)⟩ 433 itemR' (x.items.take (min k x.items.length)), arrF 433 itemR' Mono_item ((x.items.take (min k x.items.length))), trnF (Trn.mk (x.id) (x.items.take (min k x.items.length))), eqF undef]) [⟨[], [1]⟩, ⟨[], [1]⟩, ⟨[(53, 1)], []⟩, ⟨[], [1]⟩, ⟨[(55, 3)], []⟩, ⟨[], [1]⟩, ⟨[(57, 5)], []⟩, ⟨[], [1]⟩, ⟨[(59, 7)], []⟩, ⟨[(60, 8)], []⟩, ⟨[(58, 6), (61, 9)], []⟩, ⟨[(62, 10)], []⟩, ⟨[(56, 4), (63, 11)], []⟩, ⟨[(64, 12)], []⟩, ⟨[(54, 2), (65, 13)], []⟩, ⟨[(52, 0)], [2]⟩] [(66, 14)] [0, 1, 2, 3, 4, 5, 6, 7, 8, 9, 10, 11, 12, 13, 14, 15, 16, 17, 18, 19, 20, 21, 22, 23, 24, 25, 26, 27, 28, 29, 30, 31, 32, 33, 34, 35, 36, 37, 38, 39, 40, 41, 42, 43, 44, 45, 46, 47, 48, 49, 50, 51] rfl (by kernel_rfl) (by kernel_rfl) rfl rfl (by kernel_rfl) (by kernel_rfl) (by kernel_rfl) rfl ?obs9 ?end9
 case obs9 =>
  refine Obs.cons ?_ ?_
  ·refine obSL (by kernel_rfl) rfl rfl (fun ph9 w9 hO9 => ?_)
   refine VL.loadsF (s := ⟨w8, _⟩) (cs := cat (queV ((Que.mk x.items x.sent x.id (min (2 * x.back) 16) (min (2 * x.back) 16))) (gv4.map fun g => (⟨g, 0, none⟩ : Addr)) cv5)) 0 5 rfl kd157 hF9 (fun _ e => e ▸ JL.ok hO9 (by repeat (first | exact List.mem_cons_self .. | apply List.mem_cons_of_mem))) rfl rfl rfl ?_
   exact VL.finSL hO9 rfl rfl
  refine Obs.cons ?_ ?_
  ·refine obSL (by kernel_rfl) rfl rfl (fun ph9 w9 hO9 => ?_)
   refine VL.fieldAddr rfl fo157_2 rfl ?_
   exact VL.finSL hO9 rfl rfl
  refine Obs.cons ?_ ?_
  ·refine obSL (by kernel_rfl) rfl rfl (fun ph9 w9 hO9 => ?_)
   rintro _ rfl
   refine VL.loadF (s := ⟨w8, _⟩) (v := .int .u16 (x.id)) 2 rfl kd68 hF9 (fun _ e => e ▸ JL.ok hO9 (by repeat (first | exact List.mem_cons_self .. | apply List.mem_cons_of_mem))) rfl rfl ?_
   exact VL.finSL hO9 rfl rfl
  refine Obs.cons ?_ ?_
  ·refine obSL (by kernel_rfl) rfl rfl (fun ph9 w9 hO9 => ?_)
   refine VL.fieldAddr rfl fo157_0 rfl ?_
   exact VL.finSL hO9 rfl rfl
  refine Obs.cons ?_ ?_
  ·refine obSL (by kernel_rfl) rfl rfl (fun ph9 w9 hO9 => ?_)
   rintro _ rfl
   refine VL.loadF (s := ⟨w8, _⟩) (v := .slice (gv4.map fun g => (⟨g, 0, none⟩ : Addr)) (x.items).length cv5) 0 rfl kd126 hF9 (fun _ e => e ▸ JL.ok hO9 (by repeat (first | exact List.mem_cons_self .. | apply List.mem_cons_of_mem))) rfl rfl ?_
   exact VL.finSL hO9 rfl rfl
  refine Obs.cons ?_ ?_
  ·refine obSL (by kernel_rfl) rfl rfl (fun ph9 w9 hO9 => ?_)
   refine VL.fieldAddr rfl fo157_1 rfl ?_
   exact VL.finSL hO9 rfl rfl
  refine Obs.cons ?_ ?_
  ·refine obSL (by kernel_rfl) rfl rfl (fun ph9 w9 hO9 => ?_)
   rintro _ rfl
   refine VL.loadF (s := ⟨w8, _⟩) (v := .int .i64 (x.sent)) 1 rfl kd3 hF9 (fun _ e => e ▸ JL.ok hO9 (by repeat (first | exact List.mem_cons_self .. | apply List.mem_cons_of_mem))) rfl rfl ?_
   exact VL.finSL hO9 rfl rfl
  refine Obs.cons ?_ ?_
  ·refine obSL (by kernel_rfl) rfl rfl (fun ph9 w9 hO9 => ?_)
   refine VL.fieldAddr rfl fo157_0 rfl ?_
   exact VL.finSL hO9 rfl rfl
  refine Obs.cons ?_ ?_
  ·refine obSL (by kernel_rfl) rfl rfl (fun ph9 w9 hO9 => ?_)
   rintro _ rfl
   refine VL.loadF (s := ⟨w8, _⟩) (v := .slice (gv4.map fun g => (⟨g, 0, none⟩ : Addr)) (x.items).length cv5) 0 rfl kd126 hF9 (fun _ e => e ▸ JL.ok hO9 (by repeat (first | exact List.mem_cons_self .. | apply List.mem_cons_of_mem))) rfl rfl ?_
   exact VL.finSL hO9 rfl rfl
  refine Obs.cons ?_ ?_
  ·refine obSL (by kernel_rfl) rfl rfl (fun ph9 w9 hO9 => ?_)
   rintro _ rfl
   refine VL.len Try.underlying126 rfl rfl ?_
   exact VL.finSL hO9 rfl rfl
  refine Obs.cons ?_ ?_
  ·refine obSL (by kernel_rfl) rfl rfl (fun ph9 w9 hO9 => ?_)
   rintro _ rfl _ rfl
   refine VL.min2 rfl rfl ?_
   refine VL.newv (v' := .int .i64 ((min k x.items.length) : Nat)) (congrArg (Value.int .i64) (by omega)) ?_
   exact VL.finSL hO9 rfl rfl
  refine Obs.cons ?_ ?_
  ·refine obSL (by kernel_rfl) rfl rfl (fun ph9 w9 hO9 => ?_)
   rintro _ rfl
   refine VL.max2 rfl rfl ?_
   refine VL.newv (v' := .int .i64 ((min k x.items.length) : Nat)) (congrArg (Value.int .i64) (by omega)) ?_
   exact VL.finSL hO9 rfl rfl
  refine Obs.cons ?_ ?_
  ·refine obSL (by kernel_rfl) rfl rfl (fun ph9 w9 hO9 => ?_)
   rintro _ rfl _ rfl
   refine VL.takeS (min k x.items.length) rfl rfl Try.underlying126 sz126 hAr (by omega) (fun p9 hA9 => ?_)
   exact VL.finSL hO9 rfl ⟨_, _, rfl, hA9⟩
  refine Obs.cons ?_ ?_
  ·refine obL (by kernel_rfl) rfl (by kernel_rfl) rfl (fun w9 hO9 => ?_)
   rintro _ ⟨pt, ct, rfl, hAt⟩
   refine VL.toOwn hO9 ?_
   refine VL.call Try.func165 rfl (by decide) rfl (fun w' hw => clone_l hw (hAt.nowA (s := ⟨wr, _⟩) Mono_item hw) (by simp only [List.length_drop, List.length_take]; omega)) (fun v => ?_)
   refine VL.at (fun w11 h1w => ?_)
   obtain ⟨p12, c13, rfl, hO15, hA14⟩ := h1w
   refine VL.toOwn hO15 ?_
   exact VL.finOL rfl (fun _ h => h.subA) (fun _ h => ⟨_, _, rfl, (hA14.nowA (s := ⟨w11, _⟩) Mono_item h)⟩)
  refine Obs.cons ?_ ?_
  ·refine obSL (by kernel_rfl) rfl rfl (fun ph9 w9 hO9 => ?_)
   rintro _ rfl _ ⟨p9_13, c9_13, rfl, hA9_13⟩
   refine VL.build (zs := trnZ) (L := trnFL) [(0, [.int .u16 (x.id)]), (1, [.slice p9_13 ((x.items.take (min k x.items.length))).length c9_13])] plan132 rfl ⟨⟨rfl, ⟨_, rfl, rfl⟩, rfl⟩, ⟨rfl, ⟨_, rfl, rfl⟩, rfl⟩, trivial⟩ rfl ?_
   refine VL.newv (v' := .agg (cat (trnV (Trn.mk (x.id) (x.items.take (min k x.items.length))) p9_13 c9_13)).toArray) rfl ?_
   exact VL.finSL hO9 rfl ⟨_, _, rfl, hA9_13⟩
  refine Obs.cons ?_ ?_
  ·refine obKL (by kernel_rfl) rfl (fun w9 hO9 => ?_)
   rintro _ rfl
   refine VL.toOwn hO9 ?_
   refine VL.store (L := queL) (qs := (queV ((Que.mk x.items x.sent x.id (min (2 * x.back) 16) (min (2 * x.back) 16))) (gv4.map fun g => (⟨g, 0, none⟩ : Addr)) cv5)) (ps' := (queV ((Que.mk x.items x.sent x.id (min (2 * x.back) 16) (min (2 * x.back) 16))) (gv4.map fun g => (⟨g, 0, none⟩ : Addr)) cv5)) 1 0 5 rfl rfl rfl (.inl kd157) rfl rfl (queV_len (⟨hx.items, hx.id, hb1, hb1⟩ : Que.ok (Que.mk x.items x.sent x.id (min (2 * x.back) 16) (min (2 * x.back) 16)))) (queV_ok1 ((Que.mk x.items x.sent x.id (min (2 * x.back) 16) (min (2 * x.back) 16))) (gv4.map fun g => (⟨g, 0, none⟩ : Addr)) cv5) rfl rfl ?_
   refine VL.set1 ?_
   exact VL.finKL0 (fun _ h => h) (fun _ h => rfl)
  exact Obs.nil
 case end9 =>
  intro w9 hO9
  rintro _ ⟨q14, d14, rfl, hA14⟩
  refine VL.toOwn hO9 ?_
  refine VL.store (L := trnL) (qs := (trnV ((Trn.mk (x.id) (x.items.take (min k x.items.length)))) q14 d14)) (ps' := (trnV ((Trn.mk (x.id) (x.items.take (min k x.items.length)))) q14 d14)) 0 0 2 rfl rfl rfl (.inl kd132) rfl rfl (trnV_len (⟨hx.id, takes_ok hx _⟩ : Trn.ok (Trn.mk (x.id) (x.items.take (min k x.items.length))))) (trnV_ok1 ((Trn.mk (x.id) (x.items.take (min k x.items.length)))) q14 d14) rfl rfl ?_
  refine VL.set0 ?_
  refine VL.assign rfl ?_
  refine VL.nn ?_
  refine VC.ret ?_
  refine VX.ret_cells2 (cs1 := cat (queV ((Que.mk x.items x.sent x.id (min (2 * x.back) 16) (min (2 * x.back) 16))) (gv4.map fun g => (⟨g, 0, none⟩ : Addr)) cv5)) (cs2 := cat (trnV ((Trn.mk (x.id) (x.items.take (min k x.items.length)))) q14 d14)) 1 0 rfl rfl rfl rfl (by rw [cat_size (queV_len (⟨hx.items, hx.id, hb1, hb1⟩ : Que.ok (Que.mk x.items x.sent x.id (min (2 * x.back) 16) (min (2 * x.back) 16))))]; exact kd157) (by rw [cat_size (trnV_len (⟨hx.id, takes_ok hx _⟩ : Trn.ok (Trn.mk (x.id) (x.items.take (min k x.items.length)))))]; exact kd132) (fun _ h => h) rfl rfl rfl rfl (fun we hw => ?_)
  exact ⟨_, _, _, _, rfl, hw.drop.drop.subA, (hAr.nowA (s := ⟨wr, _⟩) Mono_item hw.drop.drop), (hA14.nowA (s := ⟨w9, _⟩) Mono_item hw.drop.drop)⟩

end Go.Proofs.Ytcfecmoagfgnaaa

/- fedq: a queue that lives, the law on what is taken. -/
namespace Go.Proofs.Ytcfecmoagfgnaaa
open Go.Vc Go.Pl

def asks : Nat → List Itm
  | 0 => []
  | n + 1 => asks n ++ [askI n]
theorem asks_len (n : Nat) : (asks n).length = n := by
 induction n with
 | zero => rfl
 | succ n ih => show (asks n ++ [askI n]).length = n + 1; rw [List.length_append, ih]; rfl
theorem asks_ok {n : Nat} (h : n ≤ 5) : ∀ i ∈ asks n, i.ok := by
 induction n with
 | zero => intro i hi; cases hi
 | succ n ih => exact fun i hi => (List.mem_append.1 hi).elim (ih (by omega) i) (fun h => by rw [List.mem_singleton] at h; subst h; exact ask_ok n (by omega))
def qn (n : Nat) : Que := ⟨asks n, 0, 0, 0, 0⟩
theorem qn_ok {n : Nat} (h : n ≤ 5) : (qn n).ok := ⟨asks_ok h, (show (0 : Nat) < 65536 by decide), z256, z256⟩
theorem ask_some (n : Nat) : (itemO (askI n)).isSome = true := by rw [ask_O]; rfl
def qb : Que := ⟨asks 5, 4, 1, 1, 1⟩
def qc : Que := ⟨asks 5, 4, 1, 0, 1⟩
def qd : Que := ⟨asks 5, 4, 1, 2, 2⟩
def qe : Que := ⟨[askI 4], 0, 1, 0, 0⟩
def qf : Que := ⟨[askI 4], 1, 2, 1, 1⟩
def ta : Trn := ⟨1, asks 4⟩
def tb : Trn := ⟨2, [askI 4]⟩
theorem one_256 : (1 : Nat) < 256 := by decide
theorem two_256 : (2 : Nat) < 256 := by decide
theorem one_65536 : (1 : Nat) < 65536 := by decide
theorem two_65536 : (2 : Nat) < 65536 := by decide
theorem qb_ok : qb.ok := ⟨asks_ok (n := 5) (by omega), one_65536, one_256, one_256⟩
theorem qc_ok : qc.ok := ⟨asks_ok (n := 5) (by omega), one_65536, z256, one_256⟩
theorem qd_ok : qd.ok := ⟨asks_ok (n := 5) (by omega), one_65536, two_256, two_256⟩
theorem ask4_ok : ∀ i ∈ [askI 4], i.ok := by intro i hi; rw [List.mem_singleton] at hi; subst hi; exact ask_ok 4 (by omega)
theorem qe_ok : qe.ok := ⟨ask4_ok, one_65536, z256, z256⟩
theorem qf_ok : qf.ok := ⟨ask4_ok, two_65536, one_256, one_256⟩
theorem ta_ok : ta.ok := ⟨one_65536, asks_ok (n := 4) (by omega)⟩
theorem tb_ok : tb.ok := ⟨two_65536, ask4_ok⟩
/-- A variable that holds such a queue. -/
def queRel (x : Que) : Rel (List (List Value)) := fun K w _ ps => ∃ q d, ps = queV x q d ∧ Arr 433 itemR' K w q x.items d
theorem Mono_que (x : Que) : Mono (queRel x) := fun _ _ _ _ _ ha ⟨q, d, e, h⟩ => ⟨q, d, e, h.after Mono_item ha⟩
def qch (g : Nat) (x : Que) : Chunk := xblk g 157 queL (queRel x) (Mono_que x)
theorem shutQ {S : List Snap} {H : List Chunk} {w : World} {g : Nat} (x : Que) {q : Option Addr} {d : Nat} (h : Own S (blk g 157 queL (queV x q d) :: H) w) (hA : Arr 433 itemR' (keys (blk g 157 queL (queV x q d) :: H)) w q x.items d) : Own S (qch g x :: H) w :=
 h.shutX (Mono_que x) ⟨q, d, rfl, hA⟩
theorem VC.letQ {P : Program} {n : Nat} {Q : Exit → Act → World → Prop} {S : List Snap} {H : List Chunk} {σ : Sl} {g : Nat} {x : Que} {code : Code} (h : ∀ w1 q d, Own S (blk g 157 queL (queV x q d) :: H) w1 → Arr 433 itemR' (keys (blk g 157 queL (queV x q d) :: H)) w1 q x.items d → VC P n Q code σ (Own (⟨w1, keys (blk g 157 queL (queV x q d) :: H)⟩ :: S) (blk g 157 queL (queV x q d) :: H))) : VC P n Q code σ (Own S (qch g x :: H)) := fun a w ha hw => by
 obtain ⟨ps, h1, q, d, rfl, h2⟩ := Own.openX hw
 exact h w q d h1 h2 a w ha h1.keep
def queTF {K : List Nat} (x : Que) : SFact K :=
  ⟨fun v w => ∃ q d, v = .tuple #[.agg (cat (queV x q d)).toArray, .int .i64 0] ∧ Arr 433 itemR' K w q x.items d, false,
   fun _ _ w _ hs ⟨q, d, e, h⟩ => ⟨q, d, e, Arr.after (s := ⟨w, K⟩) h Mono_item ⟨hs, fun _ hk => .inl hk⟩⟩⟩
def queVF {K : List Nat} (x : Que) : SFact K :=
  ⟨fun v w => ∃ q d, v = .agg (cat (queV x q d)).toArray ∧ Arr 433 itemR' K w q x.items d, false,
   fun _ _ w _ hs ⟨q, d, e, h⟩ => ⟨q, d, e, Arr.after (s := ⟨w, K⟩) h Mono_item ⟨hs, fun _ hk => .inl hk⟩⟩⟩
theorem put_ask {S : List Snap} {H : List Chunk} {w : World} (ho : Own S H w) (n : Nat) (hn : n < 5) {q : Option Addr} {d : Nat} (hV : Arr 433 itemR' (keys H) w q (qn n).items d) : Calls Try.prog 133 #[.agg (cat (queV (qn n) q d)).toArray, .agg (cat (itemV (askI n) none 0 none 0)).toArray] w (Ret fun v w' => ∃ q d, v = .tuple #[.agg (cat (queV (qn (n + 1)) q d)).toArray, .int .i64 0] ∧ Own S H w' ∧ Arr 433 itemR' (keys H) w' q (qn (n + 1)).items d) :=
 put_w ho (x := qn n) (qn_ok (by omega)) hV (by show (asks n).length ≤ 1000; rw [asks_len]; omega) (ask_ok n (by omega)) (ask_some n) (ask_len n) (by show (asks n).length < 8; rw [asks_len]; omega) Arr.none Arr.none

theorem poll_a {S : List Snap} {H : List Chunk} {w : World} (ho : Own S H w) {q : Option Addr} {d : Nat} (hV : Arr 433 itemR' (keys H) w q (qn 5).items d) : Calls Try.prog 135 #[.agg (cat (queV (qn 5) q d)).toArray] w (Ret fun v w' => ∃ q d q2 d2, v = .tuple #[.agg (cat (queV qb q d)).toArray, .agg (cat (trnV ta q2 d2)).toArray, .bool true] ∧ Own S H w' ∧ Arr 433 itemR' (keys H) w' q qb.items d ∧ Arr 433 itemR' (keys H) w' q2 ta.items d2) :=
 poll_1 ho (x := qn 5) (qn_ok (by omega)) hV (by decide) rfl rfl (by decide) (by decide)

theorem poll_c {S : List Snap} {H : List Chunk} {w : World} (ho : Own S H w) {q : Option Addr} {d : Nat} (hV : Arr 433 itemR' (keys H) w q qc.items d) : Calls Try.prog 135 #[.agg (cat (queV qc q d)).toArray] w (Ret fun v w' => ∃ q d q2 d2, v = .tuple #[.agg (cat (queV qd q d)).toArray, .agg (cat (trnV ta q2 d2)).toArray, .bool true] ∧ Own S H w' ∧ Arr 433 itemR' (keys H) w' q qd.items d ∧ Arr 433 itemR' (keys H) w' q2 ta.items d2) :=
 poll_2 ho (x := qc) qc_ok hV (by decide) 4 rfl (by decide) rfl (by decide)

theorem poll_e {S : List Snap} {H : List Chunk} {w : World} (ho : Own S H w) {q : Option Addr} {d : Nat} (hV : Arr 433 itemR' (keys H) w q qe.items d) : Calls Try.prog 135 #[.agg (cat (queV qe q d)).toArray] w (Ret fun v w' => ∃ q d q2 d2, v = .tuple #[.agg (cat (queV qf q d)).toArray, .agg (cat (trnV tb q2 d2)).toArray, .bool true] ∧ Own S H w' ∧ Arr 433 itemR' (keys H) w' q qf.items d ∧ Arr 433 itemR' (keys H) w' q2 tb.items d2) :=
 poll_1 ho (x := qe) qe_ok hV (by decide) rfl rfl (by decide) (by decide)

theorem tick_b {S : List Snap} {H : List Chunk} {w : World} (ho : Own S H w) {q : Option Addr} {d : Nat} (hV : Arr 433 itemR' (keys H) w q qb.items d) : Calls Try.prog 136 #[.agg (cat (queV qb q d)).toArray] w (Ret fun v w' => ∃ q d, v = .agg (cat (queV qc q d)).toArray ∧ Own S H w' ∧ Arr 433 itemR' (keys H) w' q qc.items d) :=
 tick_w ho (x := qb) qb_ok hV (by decide) (by decide)
theorem acked_d {S : List Snap} {H : List Chunk} {w : World} (ho : Own S H w) {q : Option Addr} {d : Nat} (hV : Arr 433 itemR' (keys H) w q qd.items d) : Calls Try.prog 137 #[.agg (cat (queV qd q d)).toArray, .int .u16 1] w (Ret fun v w' => ∃ q d, v = .tuple #[.agg (cat (queV qe q d)).toArray, .bool true] ∧ Own S H w' ∧ Arr 433 itemR' (keys H) w' q qe.items d) :=
 acked_w ho (x := qd) qd_ok hV (by decide) 1 rfl 4 rfl (by decide)
theorem take_11 {S : List Snap} {H : List Chunk} {w : World} (ho : Own S H w) : Calls Try.prog 74 #[.int .u16 1, .int .u16 1] w (Ret fun v w' => v = .tuple #[.int .u16 1, .bool false, .bool true] ∧ Own S H w') :=
 take_w ho 1 1 (by decide) (by decide)

theorem alive21_w {S : List Snap} {H : List Chunk} {w : World} (ho : Own S H w) : Calls Try.prog 73 #[] w (Ret fun v w' => v = .bool true ∧ Own S H w') := by
 refine enter (G := Own (⟨w, keys H⟩ :: S) H) ho.keep Try.func73 rfl Try.ntmps73 rfl ?_
 refine VC.sr ?_
 refine VL.assign rfl ?_
 refine VL.nn ?_
 refine VC.sr ?_
 refine VL.alloc (L := queL) (ps := (queV (que0) none 0)) zero157 rfl rfl (fun g1 => ?_)
 refine VL.nn ?_
 refine VC.seq ?_
 refine VC.sr ?_
 refine VL.assign rfl ?_
 refine VL.nn ?_
 refine VC.block ?_
 refine VC.loop (X := Nat) (fun i => [(0, .bool false), (1, .pointer (some ⟨g1, 0, none⟩)), (2, .int .i64 (i : Int))]) (fun i w' => i ≤ 5 ∧ Own (⟨w, keys H⟩ :: S) (qch g1 (qn i) :: H) w') (fun i => 5 - i) 0 ⟨rfl, rfl, rfl, trivial⟩ (fun w' h => ⟨by omega, (shutQ (qn 0) h Arr.none).subA⟩) (fun i => VC.fact fun hi5 => ?_)
 refine VC.letQ (fun wa q1 d1 hOa hAa => ?_)
 ·skip
  refine VC.seq ?_
  refine VC.sr ?_
  refine VL.move rfl ?_
  refine VL.lss rfl rfl ?_
  refine VL.case (fun h31 => ?_) (fun h31 => ?_)
  ·have hi : i < 5 := by omega
   refine VL.nn ?_
   refine VC.yes rfl ?_
   refine VC.skip ?_
   refine VX.next ?_
   refine VC.seq ?_
   refine VC.block ?_
   apply VC.anyTL (qch g1 (qn (i + 1)) :: H) 8 7 (F := [eqF _, eqF _, eqF _, queTF (qn (i + 1)), queTF (qn (i + 1)), queVF (qn (i + 1)), eqF _, eqF undef]) [⟨[], [1]⟩, ⟨[], [2]⟩, ⟨[(23, 1)], []⟩, ⟨[(22, 0), (24, 2)], []⟩, ⟨[(25, 3)], []⟩, ⟨[(21, 4)], []⟩, ⟨[(21, 4)], []⟩, ⟨[(26, 5)], [1]⟩] [] [0, 1, 2, 3, 4, 5, 6, 7, 8, 9, 10, 11, 12, 13, 15, 16, 17, 18, 19, 20, 28, 29, 30, 31, 32, 33, 34, 35, 36, 37, 38, 39, 40, 41, 42, 43, 44, 45, 46, 47, 48, 49, 50, 51, 52, 53, 54, 55, 56, 57, 58, 59, 60, 61, 62, 63, 64, 65, 66, 67, 68, 69, 70, 71, 72, 73, 74, 75, 76, 77, 78, 79, 80, 81, 82, 83, 84, 85, 86, 87, 88, 89, 90, 91, 92, 93, 94, 95, 96, 97, 98, 99, 100, 101, 102, 103, 104, 105, 106, 107, 108, 109, 110, 111, 112, 113, 114, 115, 116, 117, 118, 119, 120, 121, 122] rfl (by kernel_rfl) (by kernel_rfl) rfl rfl (by kernel_rfl) (by kernel_rfl) (by kernel_rfl) rfl ?obs5 ?end5
   case obs5 =>
    refine Obs.cons ?_ ?_
    ·refine obL (by kernel_rfl) rfl (by kernel_rfl) rfl (fun w5 hO5 => ?_)
     refine VL.loads (cs := cat (queV ((qn i)) q1 d1)) 0 0 5 rfl kd157 (fun _ e => e ▸ hO5) rfl rfl rfl rfl ?_
     exact VL.finSL hO5 rfl rfl
    refine Obs.cons ?_ ?_
    ·refine obSL (by kernel_rfl) rfl rfl (fun ph5 w5 hO5 => ?_)
     refine VL.move rfl ?_
     exact VL.finSL hO5 rfl rfl
    refine Obs.cons ?_ ?_
    ·refine obL (by kernel_rfl) rfl (by kernel_rfl) rfl (fun w5 hO5 => ?_)
     rintro _ rfl
     refine VL.toOwn hO5 ?_
     refine VL.call Try.func134 rfl (by decide) rfl (fun w' hw => ask_w hw i (by omega)) (fun v => ?_)
     refine VL.fact fun e2 => ?_
     subst e2
     exact VL.finOL rfl (fun _ h => h.subA) (fun _ h => rfl)
    refine Obs.cons ?_ ?_
    ·refine obL (by kernel_rfl) rfl (by kernel_rfl) rfl (fun w5 hO5 => ?_)
     rintro _ rfl _ rfl
     refine VL.toOwn hO5 ?_
     refine VL.call Try.func133 rfl (by decide) rfl (fun w' hw => put_ask hw i (by omega) (hAa.nowA (s := ⟨wa, _⟩) Mono_item hw)) (fun v => ?_)
     refine VL.at (fun w8 h1w => ?_)
     obtain ⟨q8, d8, rfl, hO8, hA8⟩ := h1w
     refine VL.toOwn hO8 ?_
     exact VL.finOL rfl (fun _ h => h.subA) (fun _ h => ⟨_, _, rfl, hA8.nowA (s := ⟨w8, _⟩) Mono_item h⟩)
    refine Obs.cons ?_ ?_
    ·refine obSL (by kernel_rfl) rfl rfl (fun ph5 w5 hO5 => ?_)
     rintro _ ⟨q5, d5, rfl, hA5⟩
     refine VL.move rfl ?_
     exact VL.finSL hO5 rfl ⟨_, _, rfl, hA5⟩
    refine Obs.cons ?_ ?_
    ·refine obSL (by kernel_rfl) rfl rfl (fun ph5 w5 hO5 => ?_)
     rintro _ ⟨q5, d5, rfl, hA5⟩
     refine VL.extract rfl rfl ?_
     exact VL.finSL hO5 rfl ⟨_, _, rfl, hA5⟩
    refine Obs.cons ?_ ?_
    ·refine obSL (by kernel_rfl) rfl rfl (fun ph5 w5 hO5 => ?_)
     rintro _ ⟨q5, d5, rfl, hA5⟩
     refine VL.extract rfl rfl ?_
     exact VL.finSL hO5 rfl rfl
    refine Obs.cons ?_ ?_
    ·refine obKL (by kernel_rfl) rfl (fun w5 hO5 => ?_)
     rintro _ ⟨q5, d5, rfl, hA5⟩
     refine VL.toOwn hO5 ?_
     refine VL.store (L := queL) (qs := (queV (qn (i + 1)) q5 d5)) (ps' := (queV (qn (i + 1)) q5 d5)) 0 0 5 rfl rfl rfl (.inl kd157) rfl rfl (queV_len (qn_ok (by omega))) (queV_ok1 (qn (i + 1)) q5 d5) rfl rfl ?_
     refine VL.turn (fun w' h => shutQ (qn (i + 1)) (H := H) h (hA5.nowA (s := ⟨w5, _⟩) Mono_item h)) ?_
     exact VL.finKL0 (fun _ h => h) (fun _ h => rfl)
    exact Obs.nil
   case end5 =>
    intro w5 hO5
    refine VL.toOwn hO5 ?_
    refine VL.nil ?_
    refine VX.block_normal ?_
    refine VX.next ?_
    refine VC.region ?_
    refine VL.move rfl ?_
    refine VL.add rfl rfl (by simp only [InR]; omega) ?_
    refine VL.assign rfl ?_
    refine VL.nil ?_
    refine VX.round (i + 1) ⟨rfl, rfl, rfl, trivial⟩ (fun w' h => ⟨by omega, h.subA⟩) (by omega)
  ·refine VL.nn ?_
   refine VC.no rfl ?_
   refine VC.exit ?_
   refine VX.then_exit ?_
   refine VX.then_exit ?_
   refine VX.block_here ?_
   refine VX.next ?_
   refine VC.seq ?_
   obtain rfl : i = 5 := by omega
   refine VC.region ?_
   refine VL.loads (cs := cat (queV ((qn 5)) q1 d1)) 0 0 5 rfl kd157 (fun _ h => h) rfl rfl rfl rfl ?_
   refine VL.call Try.func135 rfl (by decide) rfl (fun w' hw => poll_a hw (hAa.nowA (s := ⟨wa, _⟩) Mono_item hw)) (fun v => ?_)
   refine VL.at (fun w3 h1w => ?_)
   obtain ⟨p5, c6, p8, c9, rfl, hO4, hA7, hA10⟩ := h1w
   refine VL.toOwn hO4 ?_
   refine VL.move rfl ?_
   refine VL.extract rfl rfl ?_
   refine VL.extract rfl rfl ?_
   refine VL.extract rfl rfl ?_
   refine VL.alloc (L := trnL) (ps := (trnV (trn0) none 0)) zero132 rfl rfl (fun g11 => ?_)
   refine VL.store (L := queL) (qs := (queV (qb) p5 c6)) (ps' := (queV (qb) p5 c6)) 1 0 5 rfl rfl rfl (.inl kd157) rfl rfl (queV_len qb_ok) (queV_ok1 qb p5 c6) rfl rfl ?_
   refine VL.set1 ?_
   refine VL.store (L := trnL) (qs := (trnV (ta) p8 c9)) (ps' := (trnV (ta) p8 c9)) 0 0 2 rfl rfl rfl (.inl kd132) rfl rfl (trnV_len ta_ok) (trnV_ok1 ta p8 c9) rfl rfl ?_
   refine VL.set0 ?_
   refine VL.assign rfl ?_
   refine VL.nn ?_
   refine VC.sr ?_
   refine VL.loads (cs := cat (queV (qb) p5 c6)) 1 0 5 rfl kd157 (fun _ h => h) rfl rfl rfl rfl ?_
   refine VL.call Try.func135 rfl (by decide) rfl (fun w' hw => poll_0 hw (x := qb) qb_ok (hA7.nowA (s := ⟨w3, _⟩) Mono_item hw) (by decide) (by decide) (by decide)) (fun v => ?_)
   refine VL.at (fun w12 h1w => ?_)
   obtain ⟨p14, c15, rfl, hO13, hA16⟩ := h1w
   refine VL.toOwn hO13 ?_
   refine VL.move rfl ?_
   refine VL.extract rfl rfl ?_
   refine VL.extract rfl rfl ?_
   refine VL.extract rfl rfl ?_
   refine VL.alloc (L := queL) (ps := (queV (que0) none 0)) zero157 rfl rfl (fun g17 => ?_)
   refine VL.alloc (L := trnL) (ps := (trnV (trn0) none 0)) zero132 rfl rfl (fun g18 => ?_)
   refine VL.store (L := queL) (qs := (queV (qb) p14 c15)) (ps' := (queV (qb) p14 c15)) 1 0 5 rfl rfl rfl (.inl kd157) rfl rfl (queV_len qb_ok) (queV_ok1 qb p14 c15) rfl rfl ?_
   refine VL.set1 ?_
   refine VL.store (L := trnL) (qs := (trnV (trn0) none 0)) (ps' := (trnV (trn0) none 0)) 0 0 2 rfl rfl rfl (.inl kd132) rfl rfl rfl (trnV_ok1 trn0 none 0) rfl rfl ?_
   refine VL.set0 ?_
   refine VL.assign rfl ?_
   refine VL.nn ?_
   refine VC.sr ?_
   refine VL.loads (cs := cat (queV (qb) p5 c6)) 3 0 5 rfl kd157 (fun _ h => h) rfl rfl rfl rfl ?_
   refine VL.call Try.func136 rfl (by decide) rfl (fun w' hw => tick_b hw (hA7.nowA (s := ⟨w3, _⟩) Mono_item hw)) (fun v => ?_)
   refine VL.at (fun w19 h1w => ?_)
   obtain ⟨p21, c22, rfl, hO20, hA23⟩ := h1w
   refine VL.toOwn hO20 ?_
   refine VL.call Try.func135 rfl (by decide) rfl (fun w' hw => poll_c hw (hA23.nowA (s := ⟨w19, _⟩) Mono_item hw)) (fun v => ?_)
   refine VL.at (fun w24 h1w => ?_)
   obtain ⟨p26, c27, p29, c30, rfl, hO25, hA28, hA31⟩ := h1w
   refine VL.toOwn hO25 ?_
   refine VL.move rfl ?_
   refine VL.extract rfl rfl ?_
   refine VL.extract rfl rfl ?_
   refine VL.extract rfl rfl ?_
   refine VL.alloc (L := trnL) (ps := (trnV (trn0) none 0)) zero132 rfl rfl (fun g32 => ?_)
   refine VL.store (L := queL) (qs := (queV (qd) p26 c27)) (ps' := (queV (qd) p26 c27)) 4 0 5 rfl rfl rfl (.inl kd157) rfl rfl (queV_len qd_ok) (queV_ok1 qd p26 c27) rfl rfl ?_
   refine VL.set4 ?_
   refine VL.store (L := trnL) (qs := (trnV (ta) p29 c30)) (ps' := (trnV (ta) p29 c30)) 0 0 2 rfl rfl rfl (.inl kd132) rfl rfl (trnV_len ta_ok) (trnV_ok1 ta p29 c30) rfl rfl ?_
   refine VL.set0 ?_
   refine VL.assign rfl ?_
   refine VL.nn ?_
   refine VC.sr ?_
   refine VL.fieldAddr rfl fo157_3 rfl ?_
   refine VL.load (v := .int .u8 (qd.wait)) 4 3 rfl kd5 (fun _ h => h) rfl rfl rfl ?_
   refine VL.assign rfl ?_
   refine VL.nn ?_
   refine VC.sr ?_
   refine VL.loads (cs := cat (queV (qd) p26 c27)) 4 0 5 rfl kd157 (fun _ h => h) rfl rfl rfl rfl ?_
   refine VL.call Try.func137 rfl (by decide) rfl (fun w' hw => acked_d hw (hA28.nowA (s := ⟨w24, _⟩) Mono_item hw)) (fun v => ?_)
   refine VL.at (fun w33 h1w => ?_)
   obtain ⟨p35, c36, rfl, hO34, hA37⟩ := h1w
   refine VL.toOwn hO34 ?_
   refine VL.move rfl ?_
   refine VL.extract rfl rfl ?_
   refine VL.extract rfl rfl ?_
   refine VL.store (L := queL) (qs := (queV (qe) p35 c36)) (ps' := (queV (qe) p35 c36)) 4 0 5 rfl rfl rfl (.inl kd157) rfl rfl (queV_len qe_ok) (queV_ok1 qe p35 c36) rfl rfl ?_
   refine VL.set4 ?_
   refine VL.assign rfl ?_
   refine VL.nn ?_
   refine VC.sr ?_
   refine VL.loads (cs := cat (queV (qe) p35 c36)) 4 0 5 rfl kd157 (fun _ h => h) rfl rfl rfl rfl ?_
   refine VL.call Try.func135 rfl (by decide) rfl (fun w' hw => poll_e hw (hA37.nowA (s := ⟨w33, _⟩) Mono_item hw)) (fun v => ?_)
   refine VL.at (fun w38 h1w => ?_)
   obtain ⟨p40, c41, p43, c44, rfl, hO39, hA42, hA45⟩ := h1w
   refine VL.toOwn hO39 ?_
   refine VL.move rfl ?_
   refine VL.extract rfl rfl ?_
   refine VL.extract rfl rfl ?_
   refine VL.extract rfl rfl ?_
   refine VL.alloc (L := trnL) (ps := (trnV (trn0) none 0)) zero132 rfl rfl (fun g46 => ?_)
   refine VL.store (L := queL) (qs := (queV (qf) p40 c41)) (ps' := (queV (qf) p40 c41)) 5 0 5 rfl rfl rfl (.inl kd157) rfl rfl (queV_len qf_ok) (queV_ok1 qf p40 c41) rfl rfl ?_
   refine VL.set5 ?_
   refine VL.store (L := trnL) (qs := (trnV (tb) p43 c44)) (ps' := (trnV (tb) p43 c44)) 0 0 2 rfl rfl rfl (.inl kd132) rfl rfl (trnV_len tb_ok) (trnV_ok1 tb p43 c44) rfl rfl ?_
   refine VL.set0 ?_
   refine VL.assign rfl ?_
   refine VL.nn ?_
   refine VC.sr ?_
   refine VL.call Try.func74 rfl (by decide) rfl (fun w' hw => take_11 hw) (fun v => ?_)
   refine VL.fact fun e47 => ?_
   subst e47
   refine VL.move rfl ?_
   refine VL.extract rfl rfl ?_
   refine VL.extract rfl rfl ?_
   refine VL.extract rfl rfl ?_
   refine VL.assign rfl ?_
   refine VL.assign rfl ?_
   refine VL.assign rfl ?_
   refine VL.nn ?_
   refine VC.sr ?_
   refine VL.move rfl ?_
   refine VL.move rfl ?_
   refine VL.go rfl rfl rfl ?_
   refine VL.fieldAddr rfl fo132_0 rfl ?_
   refine VL.go rfl rfl rfl ?_
   refine VL.load (v := .int .u16 (ta.seq)) 4 0 rfl kd68 (fun _ h => h) rfl rfl rfl ?_
   refine VL.go rfl rfl rfl ?_
   refine VL.eql rfl rfl ?_
   refine VL.yes (rfl) ?_
   refine VL.pick_t rfl rfl ?_
   refine VL.move rfl ?_
   refine VL.go rfl rfl rfl ?_
   refine VL.fieldAddr rfl fo132_1 rfl ?_
   refine VL.go rfl rfl rfl ?_
   refine VL.load (v := .slice p8 (ta.items).length c9) 4 1 rfl kd126 (fun _ h => h) rfl rfl rfl ?_
   refine VL.go rfl rfl rfl ?_
   refine VL.len Try.underlying126 rfl rfl ?_
   refine VL.go rfl rfl rfl ?_
   refine VL.eql rfl rfl ?_
   refine VL.yes (rfl) ?_
   refine VL.pick_t rfl rfl ?_
   refine VL.move rfl ?_
   refine VL.go rfl rfl rfl ?_
   refine VL.move rfl ?_
   refine VL.go rfl rfl rfl ?_
   refine VL.not rfl ?_
   refine VL.pick_t rfl rfl ?_
   refine VL.move rfl ?_
   refine VL.go rfl rfl rfl ?_
   refine VL.move rfl ?_
   refine VL.pick_t rfl rfl ?_
   refine VL.move rfl ?_
   refine VL.go rfl rfl rfl ?_
   refine VL.fieldAddr rfl fo132_0 rfl ?_
   refine VL.go rfl rfl rfl ?_
   refine VL.load (v := .int .u16 (ta.seq)) 1 0 rfl kd68 (fun _ h => h) rfl rfl rfl ?_
   refine VL.go rfl rfl rfl ?_
   refine VL.eql rfl rfl ?_
   refine VL.yes (rfl) ?_
   refine VL.pick_t rfl rfl ?_
   refine VL.move rfl ?_
   refine VL.go rfl rfl rfl ?_
   refine VL.move rfl ?_
   refine VL.go rfl rfl rfl ?_
   refine VL.eql rfl rfl ?_
   refine VL.yes (rfl) ?_
   refine VL.pick_t rfl rfl ?_
   refine VL.move rfl ?_
   refine VL.go rfl rfl rfl ?_
   refine VL.move rfl ?_
   refine VL.pick_t rfl rfl ?_
   refine VL.move rfl ?_
   refine VL.go rfl rfl rfl ?_
   refine VL.move rfl ?_
   refine VL.pick_t rfl rfl ?_
   refine VL.move rfl ?_
   refine VL.go rfl rfl rfl ?_
   refine VL.fieldAddr rfl fo132_0 rfl ?_
   refine VL.go rfl rfl rfl ?_
   refine VL.load (v := .int .u16 (tb.seq)) 0 0 rfl kd68 (fun _ h => h) rfl rfl rfl ?_
   refine VL.go rfl rfl rfl ?_
   refine VL.eql rfl rfl ?_
   refine VL.yes (rfl) ?_
   refine VL.pick_t rfl rfl ?_
   refine VL.move rfl ?_
   refine VL.go rfl rfl rfl ?_
   refine VL.fieldAddr rfl fo132_1 rfl ?_
   refine VL.go rfl rfl rfl ?_
   refine VL.load (v := .slice p43 (tb.items).length c44) 0 1 rfl kd126 (fun _ h => h) rfl rfl rfl ?_
   refine VL.go rfl rfl rfl ?_
   refine VL.len Try.underlying126 rfl rfl ?_
   refine VL.go rfl rfl rfl ?_
   refine VL.eql rfl rfl ?_
   refine VL.yes (rfl) ?_
   refine VL.pick_t rfl rfl ?_
   refine VL.move rfl ?_
   refine VL.go rfl rfl rfl ?_
   refine VL.fieldAddr rfl fo157_0 rfl ?_
   refine VL.go rfl rfl rfl ?_
   refine VL.load (v := .slice p40 (qf.items).length c41) 5 0 rfl kd126 (fun _ h => h) rfl rfl rfl ?_
   refine VL.go rfl rfl rfl ?_
   refine VL.len Try.underlying126 rfl rfl ?_
   refine VL.go rfl rfl rfl ?_
   refine VL.eql rfl rfl ?_
   refine VL.yes (rfl) ?_
   refine VL.pick_t rfl rfl ?_
   refine VL.move rfl ?_
   refine VL.go rfl rfl rfl ?_
   refine VL.move rfl ?_
   refine VL.go rfl rfl rfl ?_
   refine VL.not rfl ?_
   refine VL.pick_t rfl rfl ?_
   refine VL.move rfl ?_
   refine VL.go rfl rfl rfl ?_
   refine VL.move rfl ?_
   refine VL.pick_t rfl rfl ?_
   refine VL.assign rfl ?_
   refine VL.nn ?_
   refine VC.ret ?_
   refine VX.ret1 rfl rfl (fun we hw => ?_)
   exact ⟨rfl, hw.drop.drop.drop.drop.drop.drop.subA⟩

end Go.Proofs.Ytcfecmoagfgnaaa

/- wire: what bytes are read as: replies. -/
namespace Go.Proofs.Ytcfecmoagfgnaaa
open Go.Vc Go.Pl

theorem Own.front {S : List Snap} {H : List Chunk} {w : World} {i : Nat} {c : Chunk} (hi : H[i]? = some c) (h : Own S H w) : Own S (c :: H.eraseIdx i) w := h.perm (perm_at hi).symm
end Go.Proofs.Ytcfecmoagfgnaaa

