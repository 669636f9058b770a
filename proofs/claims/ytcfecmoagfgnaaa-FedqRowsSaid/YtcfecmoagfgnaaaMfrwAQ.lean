/- The statement FedqRows is proved, for every input: part 17 of 21 of the texts that it needs. -/
import Derived.Test.YtcfecmoagfgnaaaMfrwAP
/- fedq: put, poll, tick, acknowledged, take. -/
namespace Go.Proofs.Ytcfecmoagfgnaaa
open Go.Vc Go.Pl

theorem ask_w {S : List Snap} {H : List Chunk} {w : World} (ho : Own S H w) (n : Nat) (hn : n < 256) : Calls Try.prog 134 #[.int .i64 (n : Int)] w (Ret fun v w' => v = .agg (cat (itemV (askI n) none 0 none 0)).toArray ∧ Own S H w') := by
 refine enter (G := Own (⟨w, keys H⟩ :: S) H) ho.keep Try.func134 rfl Try.ntmps134 rfl ?_
 refine VC.sr ?_
 refine VL.alloc (L := itemL) (ps := (itemV (item0) none 0 none 0)) zero87 rfl rfl (fun g1 => ?_)
 refine VL.nn ?_
 refine VC.sr ?_
 refine VL.move rfl ?_
 refine VL.conv (by rw [Try.underlying3]; rfl) Try.underlying5 rfl (by simp only [InR]; omega) ?_
 refine VL.move rfl ?_
 refine VL.shr rfl rfl (by omega) (by simp only [IntKind.bits]; omega) ?_
 refine VL.newv (v' := .int .i64 0) (congrArg (Value.int .i64) (by rw [show (2 : Int) ^ (8 : Int).toNat = 256 by decide]; omega)) ?_
 refine VL.conv (by rw [Try.underlying3]; rfl) Try.underlying5 rfl (by simp only [InR]; omega) ?_
 refine VL.build (zs := itemZ) (L := itemFL) [(0, [.int .u8 (2)]), (1, [.int .u8 (n)]), (2, [.int .u8 (0)])] plan87 rfl ⟨⟨rfl, ⟨_, rfl, rfl⟩, rfl⟩, ⟨⟨rfl, ⟨_, rfl, rfl⟩, rfl⟩, ⟨⟨rfl, ⟨_, rfl, rfl⟩, rfl⟩, trivial⟩⟩⟩ rfl ?_
 refine VL.newv (v' := .agg (cat (itemV ((askI n)) none 0 none 0)).toArray) (by kernel_rfl) ?_
 refine VL.store (L := itemL) (qs := (itemV ((askI n)) none 0 none 0)) (ps' := (itemV ((askI n)) none 0 none 0)) 0 0 28 rfl rfl rfl (.inl kd87) rfl rfl (itemV_len (ask_ok n hn)) (itemV_ok1 ((askI n)) none 0 none 0) rfl rfl ?_
 refine VL.set0 ?_
 refine VL.nn ?_
 refine VC.ret ?_
 refine VX.ret_cell1 (cs := cat (itemV (askI n) none 0 none 0)) 0 rfl rfl (by rw [cat_size (itemV_len (ask_ok n hn))]; exact kd87) (fun _ h => h) rfl rfl (fun we hw => ?_)
 exact ⟨rfl, hw.drop.subA⟩

theorem getBack_w {S : List Snap} {H : List Chunk} {w : World} (ho : Own S H w) {y : Itm} (hy : y.ok) (hg : (itemO y).isSome = true) {p : Option Addr} {c : Nat} (hA : Bytes (keys H) w p ((itemO y).getD []) c) : Calls Try.prog 58 #[.slice p ((itemO y).getD []).length c] w (Ret fun v w' => ∃ p c q d, v = .tuple #[.agg (cat (itemV y p c q d)).toArray, .int .i64 ((itemW ((itemO y).getD []) : Nat) : Int)] ∧ Own S H w' ∧ Bytes (keys H) w' p y.letter.body c ∧ Arr 65 vouchR (keys H) w' q y.object.vouches d) := by
 have h := getItem_w ho hA
 rw [get_back hy hg] at h
 exact h

theorem puts_ok {x : Que} {y : Itm} (hx : x.ok) (hy : y.ok) : ∀ i ∈ x.items ++ [y], i.ok := fun i hi => (List.mem_append.1 hi).elim (hx.items i) (fun h => by rw [List.mem_singleton] at h; subst h; exact hy)

theorem put_w {S : List Snap} {H : List Chunk} {w : World} (ho : Own S H w) {x : Que} (hx : x.ok) {q : Option Addr} {d : Nat} (hV : Arr 433 itemR' (keys H) w q x.items d) (hl : x.items.length ≤ 1000) {y : Itm} (hy : y.ok) (hg : (itemO y).isSome = true) (h9 : ((itemO y).getD []).length ≤ 900) (h8 : x.items.length < 8) {p : Option Addr} {c : Nat} (hA : Bytes (keys H) w p y.letter.body c) {q2 : Option Addr} {d2 : Nat} (hU : Arr 65 vouchR (keys H) w q2 y.object.vouches d2) : Calls Try.prog 133 #[.agg (cat (queV x q d)).toArray, .agg (cat (itemV y p c q2 d2)).toArray] w (Ret fun v w' => ∃ q d, v = .tuple #[.agg (cat (queV (Que.mk (x.items ++ [y]) x.sent x.id x.wait x.back) q d)).toArray, .int .i64 0] ∧ Own S H w' ∧ Arr 433 itemR' (keys H) w' q (x.items ++ [y]) d) := by
 refine enter (G := Own (⟨w, keys H⟩ :: S) H) ho.keep Try.func133 rfl Try.ntmps133 rfl ?_
 refine VC.sr ?_
 refine VL.box (L := queL) (ps := (queV (x) q d)) rfl rfl (queV_len hx) (fun g1 => ?_)
 refine VL.box (L := itemL) (ps := (itemV (y) p c q2 d2)) rfl rfl (itemV_len hy) (fun g2 => ?_)
 refine VL.alloc (L := queL) (ps := (queV (que0) none 0)) zero157 rfl rfl (fun g3 => ?_)
 refine VL.assign rfl ?_
 refine VL.nn ?_
 refine VC.sr ?_
 refine VL.loads (cs := cat (queV (x) q d)) 2 0 5 rfl kd157 (fun _ h => h) rfl rfl rfl rfl ?_
 refine VL.call Try.func164 rfl (by decide) rfl (fun w' hw => own_w hw (x := x) hx (hV.nowA (s := ⟨w, _⟩) Mono_item hw) (by first | omega | decide)) (fun v => ?_)
 refine VL.at (fun w6 h1w => ?_)
 obtain ⟨gv4, cv5, rfl, hO7⟩ := h1w
 refine VL.toOwn hO7 ?_
 refine VL.store (L := queL) (qs := (queV (x) (gv4.map fun g => (⟨g, 0, none⟩ : Addr)) cv5)) (ps' := (queV (x) (gv4.map fun g => (⟨g, 0, none⟩ : Addr)) cv5)) 3 0 5 rfl rfl rfl (.inl kd157) rfl rfl (queV_len hx) (queV_ok1 x (gv4.map fun g => (⟨g, 0, none⟩ : Addr)) cv5) rfl rfl ?_
 refine VL.set3 ?_
 refine VL.nn ?_
 refine VC.sr ?_
 refine VL.loads (cs := cat (itemV (y) p c q2 d2)) 2 0 28 rfl kd87 (fun _ h => h) rfl rfl rfl rfl ?_
 refine VL.call Try.func56 rfl (by decide) rfl (fun w' hw => putItem_w hw (x := y) hy (hA.nowA (s := ⟨w, _⟩) Mono.byte hw) (hU.nowA (s := ⟨w, _⟩) Mono_vouch hw)) (fun v => ?_)
 refine VL.at (fun w8 h1w => ?_)
 obtain ⟨p9, c10, rfl, hO12, hA11⟩ := h1w
 refine VL.toOwn hO12 ?_
 refine VL.move rfl ?_
 refine VL.extract rfl rfl ?_
 refine VL.extract rfl rfl ?_
 refine VL.assign rfl ?_
 refine VL.assign rfl ?_
 refine VL.nn ?_
 refine VC.seq ?_
 refine VC.block ?_
 refine VC.sr ?_
 refine VL.move rfl ?_
 refine VL.sets hg ?_
 refine VL.not rfl ?_
 refine VL.assign rfl ?_
 refine VL.nn ?_
 refine VC.no rfl ?_
 refine VC.sr ?_
 refine VL.move rfl ?_
 refine VL.len Try.underlying24 rfl rfl ?_
 refine VL.gtr rfl rfl ?_
 refine VL.no (by omega) ?_
 refine VL.assign rfl ?_
 refine VL.nn ?_
 refine VC.no rfl ?_
 refine VC.sr ?_
 refine VL.fieldAddr rfl fo157_0 rfl ?_
 refine VL.load (v := .slice (gv4.map fun g => (⟨g, 0, none⟩ : Addr)) (x.items).length cv5) 3 0 rfl kd126 (fun _ h => h) rfl rfl rfl ?_
 refine VL.len Try.underlying126 rfl rfl ?_
 refine VL.geq rfl rfl ?_
 refine VL.no (by omega) ?_
 refine VL.assign rfl ?_
 refine VL.nn ?_
 refine VC.no rfl ?_
 refine VC.skip ?_
 refine VX.block_normal ?_
 refine VX.next ?_
 refine VC.sr ?_
 refine VL.move rfl ?_
 refine VL.call Try.func58 rfl (by decide) rfl (fun w' hw => getBack_w hw hy hg (hA11.nowA (s := ⟨w8, _⟩) Mono.byte hw)) (fun v => ?_)
 refine VL.at (fun w13 h1w => ?_)
 obtain ⟨p15, c16, q18, d19, rfl, hO14, hA17, hB20⟩ := h1w
 refine VL.toOwn hO14 ?_
 refine VL.move rfl ?_
 refine VL.extract rfl rfl ?_
 refine VL.extract rfl rfl ?_
 refine VL.store (L := itemL) (qs := (itemV (y) p15 c16 q18 d19)) (ps' := (itemV (y) p15 c16 q18 d19)) 2 0 28 rfl rfl rfl (.inl kd87) rfl rfl (itemV_len hy) (itemV_ok1 y p15 c16 q18 d19) rfl rfl ?_
 refine VL.set2 ?_
 refine VL.nn ?_
 refine VC.sr ?_
 refine VL.fieldAddr rfl fo157_0 rfl ?_
 refine VL.load (v := .slice (gv4.map fun g => (⟨g, 0, none⟩ : Addr)) (x.items).length cv5) 3 0 rfl kd126 (fun _ h => h) rfl rfl rfl ?_
 refine VL.loads (cs := cat (itemV (y) p15 c16 q18 d19)) 2 0 28 rfl kd87 (fun _ h => h) rfl rfl rfl rfl ?_
 refine VL.lit el126 rfl rfl rfl (by intro v hv; simp only [List.mem_singleton] at hv; subst hv; show (cat (itemV y p15 c16 q18 d19)).toArray.size = 433; rw [List.size_toArray, cat_size (itemV_len hy)]; rfl) (by rw [show [Value.agg (cat (itemV y p15 c16 q18 d19)).toArray].flatMap (·.cells.toList) = (cat (itemV y p15 c16 q18 d19)) by simp [Value.cells]]; exact itemV_ok1 _ _ _ _ _) (fun gl => ?_)
 refine VL.letRow itemR' [y] rfl (fun w' hw => one_item hy (hA17.nowA (s := ⟨w13, _⟩) Mono.byte hw) (hB20.nowA (s := ⟨w13, _⟩) Mono_vouch hw)) (fun wl hOl hAl => ?_)
 refine VL.appends (R := itemR') (hR := Mono_item) (ys := x.items) (zs := [y]) 0 el126 rfl rfl rfl (fun _ h => h) rfl (fun _ hw => hAl.nowA (s := ⟨wl, _⟩) Mono_item hw) itemR'_ok1 (by simp only [List.length_cons, List.length_nil]; omega) (fun gv2 cv2 => ?_) (by simp only [List.length_cons, List.length_nil]; omega)
 refine VL.set0 ?_
 refine VL.fieldAddr rfl fo157_0 rfl ?_
 refine VL.store (L := queL) (qs := [[.slice (gv2.map fun g => (⟨g, 0, none⟩ : Addr)) ((x.items ++ [y])).length cv2]]) 3 0 1 rfl rfl rfl (.inr ⟨kd126, rfl⟩) rfl rfl rfl (by intro u hu; simp [cat] at hu; subst hu; rfl) rfl rfl ?_
 refine VL.set3 ?_
 refine VL.nn ?_
 refine VC.sr ?_
 refine VL.loads (cs := cat (queV ((Que.mk (x.items ++ [y]) x.sent x.id x.wait x.back)) (gv2.map fun g => (⟨g, 0, none⟩ : Addr)) cv2)) 3 0 5 rfl kd157 (fun _ h => h) rfl rfl rfl rfl ?_
 refine VL.store (L := queL) (qs := (queV ((Que.mk (x.items ++ [y]) x.sent x.id x.wait x.back)) (gv2.map fun g => (⟨g, 0, none⟩ : Addr)) cv2)) (ps' := (queV ((Que.mk (x.items ++ [y]) x.sent x.id x.wait x.back)) (gv2.map fun g => (⟨g, 0, none⟩ : Addr)) cv2)) 1 0 5 rfl rfl rfl (.inl kd157) rfl rfl (queV_len (⟨puts_ok hx hy, hx.id, hx.wait, hx.back⟩ : Que.ok (Que.mk (x.items ++ [y]) x.sent x.id x.wait x.back))) (queV_ok1 ((Que.mk (x.items ++ [y]) x.sent x.id x.wait x.back)) (gv2.map fun g => (⟨g, 0, none⟩ : Addr)) cv2) rfl rfl ?_
 refine VL.set1 ?_
 refine VL.assign rfl ?_
 refine VL.nn ?_
 refine VC.ret ?_
 refine VX.ret_cell (cs := cat (queV ((Que.mk (x.items ++ [y]) x.sent x.id x.wait x.back)) (gv2.map fun g => (⟨g, 0, none⟩ : Addr)) cv2)) 1 rfl rfl rfl (by rw [cat_size (queV_len (⟨puts_ok hx hy, hx.id, hx.wait, hx.back⟩ : Que.ok (Que.mk (x.items ++ [y]) x.sent x.id x.wait x.back)))]; exact kd157) (fun _ h => h) rfl rfl (fun we hw => ?_)
 have h7 := (ownDropAt 1 (ownDropAt 2 (ownDropAt 3 hw)))
 exact ⟨_, _, rfl, h7.drop.subA, h7.letArr⟩

theorem tick_lt {x : Que} (hx : x.ok) : x.wait - 1 < 256 := by have := hx.wait; omega

theorem tick_w {S : List Snap} {H : List Chunk} {w : World} (ho : Own S H w) {x : Que} (hx : x.ok) {q : Option Addr} {d : Nat} (hV : Arr 433 itemR' (keys H) w q x.items d) (hl : x.items.length ≤ 1000) (hp : 0 < x.wait) : Calls Try.prog 136 #[.agg (cat (queV x q d)).toArray] w (Ret fun v w' => ∃ q d, v = .agg (cat (queV (Que.mk x.items x.sent x.id (x.wait - 1) x.back) q d)).toArray ∧ Own S H w' ∧ Arr 433 itemR' (keys H) w' q x.items d) := by
 have hx1 := hx.wait
 refine enter (G := Own (⟨w, keys H⟩ :: S) H) ho.keep Try.func136 rfl Try.ntmps136 rfl ?_
 refine VC.sr ?_
 refine VL.box (L := queL) (ps := (queV (x) q d)) rfl rfl (queV_len hx) (fun g1 => ?_)
 refine VL.alloc (L := queL) (ps := (queV (que0) none 0)) zero157 rfl rfl (fun g2 => ?_)
 refine VL.nn ?_
 refine VC.seq ?_
 refine VC.sr ?_
 refine VL.fieldAddr rfl fo157_3 rfl ?_
 refine VL.load (v := .int .u8 (x.wait)) 1 3 rfl kd5 (fun _ h => h) rfl rfl rfl ?_
 refine VL.gtr rfl rfl ?_
 refine VL.yes (by omega) ?_
 refine VL.nn ?_
 refine VC.yes rfl ?_
 refine VC.region ?_
 refine VL.fieldAddr rfl fo157_3 rfl ?_
 refine VL.load (v := .int .u8 (x.wait)) 1 3 rfl kd5 (fun _ h => h) rfl rfl rfl ?_
 refine VL.sub rfl rfl (by simp only [InR]; omega) ?_
 refine VL.newv (v' := .int .u8 ((x.wait - 1 : Nat) : Int)) (congrArg (Value.int .u8) (by omega)) ?_
 refine VL.fieldAddr rfl fo157_3 rfl ?_
 refine VL.store (L := queL) (qs := [[.int .u8 ((x.wait - 1 : Nat))]]) (ps' := [[.slice q (x.items).length d], [.int .i64 (x.sent)], [.int .u16 (x.id)], [.int .u8 ((x.wait - 1 : Nat))], [.int .u8 (x.back)]]) 1 3 1 rfl rfl rfl (.inr ⟨kd5, rfl⟩) rfl rfl rfl (by intro u hu; simp [cat] at hu; subst hu; rfl) rfl rfl ?_
 refine VL.set1 ?_
 refine VL.nn ?_
 refine VC.sr ?_
 refine VL.loads (cs := cat (queV ((Que.mk x.items x.sent x.id (x.wait - 1) x.back)) q d)) 1 0 5 rfl kd157 (fun _ h => h) rfl rfl rfl rfl ?_
 refine VL.call Try.func164 rfl (by decide) rfl (fun w' hw => own_w hw (x := (Que.mk x.items x.sent x.id (x.wait - 1) x.back)) (⟨hx.items, hx.id, tick_lt hx, hx.back⟩ : Que.ok (Que.mk x.items x.sent x.id (x.wait - 1) x.back)) (hV.nowA (s := ⟨w, _⟩) Mono_item hw) (by first | omega | decide)) (fun v => ?_)
 refine VL.at (fun w5 h1w => ?_)
 obtain ⟨gv3, cv4, rfl, hO6⟩ := h1w
 refine VL.toOwn hO6 ?_
 refine VL.store (L := queL) (qs := (queV ((Que.mk x.items x.sent x.id (x.wait - 1) x.back)) (gv3.map fun g => (⟨g, 0, none⟩ : Addr)) cv4)) (ps' := (queV ((Que.mk x.items x.sent x.id (x.wait - 1) x.back)) (gv3.map fun g => (⟨g, 0, none⟩ : Addr)) cv4)) 1 0 5 rfl rfl rfl (.inl kd157) rfl rfl (queV_len (⟨hx.items, hx.id, tick_lt hx, hx.back⟩ : Que.ok (Que.mk x.items x.sent x.id (x.wait - 1) x.back))) (queV_ok1 ((Que.mk x.items x.sent x.id (x.wait - 1) x.back)) (gv3.map fun g => (⟨g, 0, none⟩ : Addr)) cv4) rfl rfl ?_
 refine VL.set1 ?_
 refine VL.nn ?_
 refine VC.ret ?_
 refine VX.ret_cell1 (cs := cat (queV ((Que.mk x.items x.sent x.id (x.wait - 1) x.back)) (gv3.map fun g => (⟨g, 0, none⟩ : Addr)) cv4)) 1 rfl rfl (by rw [cat_size (queV_len (⟨hx.items, hx.id, tick_lt hx, hx.back⟩ : Que.ok (Que.mk x.items x.sent x.id (x.wait - 1) x.back)))]; exact kd157) (fun _ h => h) rfl rfl (fun we hw => ?_)
 have h7 := (ownDropAt 1 (ownDropAt 2 hw))
 exact ⟨_, _, rfl, h7.drop.subA, h7.letArr⟩

end Go.Proofs.Ytcfecmoagfgnaaa

/- The reference: a queue's rows. -/
namespace Go.Proofs.Ytcfecmoagfgnaaa
open Go.Vc Go.Pl

/-- The bytes of the first four; of those behind them. -/
def fstB (xs : List Itm) (i : Nat) : List (List UInt8) := ((xs.take 4).take i).map byt
def sndB (xs : List Itm) (i : Nat) : List (List UInt8) := ((xs.take i).drop 4).map byt
theorem fstB_lt {xs : List Itm} {i : Nat} (h : i < xs.length) (h4 : i < 4) : fstB xs (i + 1) = fstB xs i ++ [byt (xs[i]'h)] := by
 have hl : i < (xs.take 4).length := by rw [List.length_take]; omega
 unfold fstB
 rw [List.take_succ_eq_append_getElem hl, List.map_append, List.getElem_take]; rfl
theorem sndB_lt {xs : List Itm} {i : Nat} (h4 : i < 4) : sndB xs (i + 1) = sndB xs i := by
 have h1 : ∀ k, k ≤ 4 → (xs.take k).drop 4 = [] := fun k hk => List.drop_eq_nil_of_le (by rw [List.length_take]; omega)
 unfold sndB
 rw [h1 _ (by omega), h1 _ (by omega)]
theorem fstB_ge {xs : List Itm} {i : Nat} (h4 : ¬ i < 4) : fstB xs (i + 1) = fstB xs i := by
 have h1 : ∀ k, 4 ≤ k → (xs.take 4).take k = xs.take 4 := fun k hk => List.take_of_length_le (by rw [List.length_take]; omega)
 unfold fstB
 rw [h1 _ (by omega), h1 _ (by omega)]
theorem sndB_ge {xs : List Itm} {i : Nat} (h : i < xs.length) (h4 : ¬ i < 4) : sndB xs (i + 1) = sndB xs i ++ [byt (xs[i]'h)] := by
 unfold sndB
 rw [List.take_succ_eq_append_getElem h, List.drop_append_of_le_length (by rw [List.length_take]; omega), List.map_append]; rfl
theorem fstB_all {xs : List Itm} {i : Nat} (h : i = xs.length) : fstB xs i = (xs.take 4).map byt := by
 subst h
 unfold fstB
 rw [List.take_of_length_le (by rw [List.length_take]; omega)]
theorem sndB_all {xs : List Itm} {i : Nat} (h : i = xs.length) : sndB xs i = (xs.drop 4).map byt := by
 subst h
 unfold sndB
 rw [List.take_length]
theorem fstB_len (xs : List Itm) (i : Nat) : (fstB xs i).length ≤ 4 := by
 unfold fstB
 rw [List.length_map, List.length_take, List.length_take]; omega
theorem sndB_len {xs : List Itm} (h : xs.length ≤ 8) (i : Nat) : (sndB xs i).length ≤ 8 := by
 unfold sndB
 rw [List.length_map, List.length_drop, List.length_take]; omega
theorem good_step {xs : List Itm} {i : Nat} (h : i < xs.length) (ha : ∀ y ∈ xs.take i, good9 y = true) (hs : (itemO (xs[i]'h)).isSome = true) (h9 : (byt (xs[i]'h)).length ≤ 900) : ∀ y ∈ xs.take (i + 1), good9 y = true := by
 intro y hy
 rw [List.take_succ_eq_append_getElem h] at hy
 rcases List.mem_append.1 hy with hy | hy
 ·exact ha y hy
 ·rw [List.mem_singleton] at hy; subst hy; exact good9_iff.2 ⟨hs, h9⟩
theorem rows_bad {nm : ByteArray} {x : Que} {i : Nat} (h : i < x.items.length) (hs : ¬ ((itemO (x.items[i]'h)).isSome = true ∧ (byt (x.items[i]'h)).length ≤ 900)) : rowsO nm x = none := rowsO_none fun hg => hs (good9_iff.1 (hg.2.2.2.2.2 _ (List.getElem_mem h)))
theorem rows_post {S : List Snap} {H : List Chunk} {w : World} {o : Option (List Chg)} (e : o = none) (hw : Own S H w) : ∃ p c, Value.tuple #[.slice none 0 0, .bool false] = .tuple #[.slice p (o.getD []).length c, .bool o.isSome] ∧ Own S H w ∧ Arr 3 chgR (keys H) w p (o.getD []) c := by
 subst e
 exact ⟨none, 0, rfl, hw, Arr.none⟩

theorem refRows_w {S : List Snap} {H : List Chunk} {w : World} (ho : Own S H w) {x : Que} (hx : x.ok) {q : Option Addr} {d : Nat} (hV : Arr 433 itemR' (keys H) w q x.items d) (nm : ByteArray) : Calls Try.prog 103 #[.string nm, .agg (cat (queV x q d)).toArray] w (Ret fun v w' => ∃ p c, v = .tuple #[.slice p ((rowsO nm x).getD []).length c, .bool (rowsO nm x).isSome] ∧ Own S H w' ∧ Arr 3 chgR (keys H) w' p ((rowsO nm x).getD []) c) := by
 have hx1 := hx.id
 have hx2 := hx.wait
 have hx3 := hx.back
 have hsm := hV.small
 refine enter (G := Own (⟨w, keys H⟩ :: S) H) ho.keep Try.func103 rfl Try.ntmps103 rfl ?_
 refine VC.sr ?_
 refine VL.box (L := queL) (ps := (queV (x) q d)) rfl rfl (queV_len hx) (fun g1 => ?_)
 refine VL.assign rfl ?_
 refine VL.assign rfl ?_
 refine VL.nn ?_
 refine VC.seq ?_
 refine VC.sr ?_
 refine VL.move rfl ?_
 refine VL.lens Try.underlying9 rfl rfl ?_
 refine VL.gtr rfl rfl ?_
 refine VL.case (fun h1 => ?_) (fun h1 => ?_)
 ·refine VL.move rfl ?_
  refine VL.pass rfl rfl rfl rfl rfl ?_
  refine VL.pass rfl rfl rfl rfl rfl ?_
  refine VL.pass rfl rfl rfl rfl rfl ?_
  refine VL.pass rfl rfl rfl rfl rfl ?_
  refine VL.pick_t rfl rfl ?_
  refine VL.move rfl ?_
  refine VL.pass rfl rfl rfl rfl rfl ?_
  refine VL.pass rfl rfl rfl rfl rfl ?_
  refine VL.pass rfl rfl rfl rfl rfl ?_
  refine VL.pick_t rfl rfl ?_
  refine VL.move rfl ?_
  refine VL.pass rfl rfl rfl rfl rfl ?_
  refine VL.pass rfl rfl rfl rfl rfl ?_
  refine VL.pass rfl rfl rfl rfl rfl ?_
  refine VL.pick_t rfl rfl ?_
  refine VL.move rfl ?_
  refine VL.pass rfl rfl rfl rfl rfl ?_
  refine VL.pass rfl rfl rfl rfl rfl ?_
  refine VL.pass rfl rfl rfl rfl rfl ?_
  refine VL.pass rfl rfl rfl rfl rfl ?_
  refine VL.pass rfl rfl rfl rfl rfl ?_
  refine VL.pass rfl rfl rfl rfl rfl ?_
  refine VL.pick_t rfl rfl ?_
  refine VL.nn ?_
  refine VC.yes rfl ?_
  refine VC.sr ?_
  refine VL.assign rfl ?_
  refine VL.assign rfl ?_
  refine VL.nn ?_
  refine VC.ret ?_
  refine VX.then_ret ?_
  refine VX.ret2 rfl rfl rfl (fun we hw => ?_)
  exact rows_post (rowsO_none (fun hg => by obtain ⟨g1, g2, g3, g4, g5, _⟩ := hg; omega)) (hw.drop.subA)
 ·refine VL.move rfl ?_
  refine VL.go rfl rfl rfl ?_
  refine VL.fieldAddr rfl fo157_0 rfl ?_
  refine VL.go rfl rfl rfl ?_
  refine VL.load (v := .slice q (x.items).length d) 0 0 rfl kd126 (fun _ h => h) rfl rfl rfl ?_
  refine VL.go rfl rfl rfl ?_
  refine VL.len Try.underlying126 rfl rfl ?_
  refine VL.go rfl rfl rfl ?_
  refine VL.gtr rfl rfl ?_
  refine VL.case (fun h2 => ?_) (fun h2 => ?_)
  ·refine VL.pick_f rfl rfl ?_
   refine VL.move rfl ?_
   refine VL.pass rfl rfl rfl rfl rfl ?_
   refine VL.pass rfl rfl rfl rfl rfl ?_
   refine VL.pass rfl rfl rfl rfl rfl ?_
   refine VL.pick_t rfl rfl ?_
   refine VL.move rfl ?_
   refine VL.pass rfl rfl rfl rfl rfl ?_
   refine VL.pass rfl rfl rfl rfl rfl ?_
   refine VL.pass rfl rfl rfl rfl rfl ?_
   refine VL.pick_t rfl rfl ?_
   refine VL.move rfl ?_
   refine VL.pass rfl rfl rfl rfl rfl ?_
   refine VL.pass rfl rfl rfl rfl rfl ?_
   refine VL.pass rfl rfl rfl rfl rfl ?_
   refine VL.pass rfl rfl rfl rfl rfl ?_
   refine VL.pass rfl rfl rfl rfl rfl ?_
   refine VL.pass rfl rfl rfl rfl rfl ?_
   refine VL.pick_t rfl rfl ?_
   refine VL.nn ?_
   refine VC.yes rfl ?_
   refine VC.sr ?_
   refine VL.assign rfl ?_
   refine VL.assign rfl ?_
   refine VL.nn ?_
   refine VC.ret ?_
   refine VX.then_ret ?_
   refine VX.ret2 rfl rfl rfl (fun we hw => ?_)
   exact rows_post (rowsO_none (fun hg => by obtain ⟨g1, g2, g3, g4, g5, _⟩ := hg; omega)) (hw.drop.subA)
  ·refine VL.pick_f rfl rfl ?_
   refine VL.move rfl ?_
   refine VL.go rfl rfl rfl ?_
   refine VL.fieldAddr rfl fo157_1 rfl ?_
   refine VL.go rfl rfl rfl ?_
   refine VL.load (v := .int .i64 (x.sent)) 0 1 rfl kd3 (fun _ h => h) rfl rfl rfl ?_
   refine VL.go rfl rfl rfl ?_
   refine VL.lss rfl rfl ?_
   refine VL.case (fun h3 => ?_) (fun h3 => ?_)
   ·refine VL.pick_f rfl rfl ?_
    refine VL.move rfl ?_
    refine VL.pass rfl rfl rfl rfl rfl ?_
    refine VL.pass rfl rfl rfl rfl rfl ?_
    refine VL.pass rfl rfl rfl rfl rfl ?_
    refine VL.pick_t rfl rfl ?_
    refine VL.move rfl ?_
    refine VL.pass rfl rfl rfl rfl rfl ?_
    refine VL.pass rfl rfl rfl rfl rfl ?_
    refine VL.pass rfl rfl rfl rfl rfl ?_
    refine VL.pass rfl rfl rfl rfl rfl ?_
    refine VL.pass rfl rfl rfl rfl rfl ?_
    refine VL.pass rfl rfl rfl rfl rfl ?_
    refine VL.pick_t rfl rfl ?_
    refine VL.nn ?_
    refine VC.yes rfl ?_
    refine VC.sr ?_
    refine VL.assign rfl ?_
    refine VL.assign rfl ?_
    refine VL.nn ?_
    refine VC.ret ?_
    refine VX.then_ret ?_
    refine VX.ret2 rfl rfl rfl (fun we hw => ?_)
    exact rows_post (rowsO_none (fun hg => by obtain ⟨g1, g2, g3, g4, g5, _⟩ := hg; omega)) (hw.drop.subA)
   ·refine VL.pick_f rfl rfl ?_
    refine VL.move rfl ?_
    refine VL.go rfl rfl rfl ?_
    refine VL.fieldAddr rfl fo157_1 rfl ?_
    refine VL.go rfl rfl rfl ?_
    refine VL.load (v := .int .i64 (x.sent)) 0 1 rfl kd3 (fun _ h => h) rfl rfl rfl ?_
    refine VL.go rfl rfl rfl ?_
    refine VL.gtr rfl rfl ?_
    refine VL.case (fun h4 => ?_) (fun h4 => ?_)
    ·refine VL.pick_f rfl rfl ?_
     refine VL.move rfl ?_
     refine VL.pass rfl rfl rfl rfl rfl ?_
     refine VL.pass rfl rfl rfl rfl rfl ?_
     refine VL.pass rfl rfl rfl rfl rfl ?_
     refine VL.pass rfl rfl rfl rfl rfl ?_
     refine VL.pass rfl rfl rfl rfl rfl ?_
     refine VL.pass rfl rfl rfl rfl rfl ?_
     refine VL.pick_t rfl rfl ?_
     refine VL.nn ?_
     refine VC.yes rfl ?_
     refine VC.sr ?_
     refine VL.assign rfl ?_
     refine VL.assign rfl ?_
     refine VL.nn ?_
     refine VC.ret ?_
     refine VX.then_ret ?_
     refine VX.ret2 rfl rfl rfl (fun we hw => ?_)
     exact rows_post (rowsO_none (fun hg => by obtain ⟨g1, g2, g3, g4, g5, _⟩ := hg; omega)) (hw.drop.subA)
    ·refine VL.pick_f rfl rfl ?_
     refine VL.move rfl ?_
     refine VL.go rfl rfl rfl ?_
     refine VL.fieldAddr rfl fo157_1 rfl ?_
     refine VL.go rfl rfl rfl ?_
     refine VL.load (v := .int .i64 (x.sent)) 0 1 rfl kd3 (fun _ h => h) rfl rfl rfl ?_
     refine VL.go rfl rfl rfl ?_
     refine VL.fieldAddr rfl fo157_0 rfl ?_
     refine VL.go rfl rfl rfl ?_
     refine VL.load (v := .slice q (x.items).length d) 0 0 rfl kd126 (fun _ h => h) rfl rfl rfl ?_
     refine VL.go rfl rfl rfl ?_
     refine VL.len Try.underlying126 rfl rfl ?_
     refine VL.go rfl rfl rfl ?_
     refine VL.gtr rfl rfl ?_
     refine VL.case (fun h5 => ?_) (fun h5 => ?_)
     ·refine VL.pick_f rfl rfl ?_
      refine VL.nn ?_
      refine VC.yes rfl ?_
      refine VC.sr ?_
      refine VL.assign rfl ?_
      refine VL.assign rfl ?_
      refine VL.nn ?_
      refine VC.ret ?_
      refine VX.then_ret ?_
      refine VX.ret2 rfl rfl rfl (fun we hw => ?_)
      exact rows_post (rowsO_none (fun hg => by obtain ⟨g1, g2, g3, g4, g5, _⟩ := hg; omega)) (hw.drop.subA)
     ·refine VL.pick_f rfl rfl ?_
      refine VL.nn ?_
      refine VC.no rfl ?_
      refine VC.skip ?_
      refine VX.next ?_
      refine VC.seq ?_
      have hs0 : 0 ≤ x.sent := by omega
      have hl8 : x.items.length ≤ 8 := by omega
      have hs4 : x.sent.toNat ≤ 4 := by omega
      refine VC.letCells 0 rfl (fun w2 hO4 hF3 => ?_)
      apply VC.anyTA 21 1024 (F := [eqF _, eqF _, eqF _, eqF _, eqF _, bytesF (be 2 (x.id)), eqF _, eqF _, bytesF (be 1 (x.sent.toNat)), eqF _, eqF _, capF (be 1 (x.wait)) 1, eqF _, eqF _, capF (be 1 (x.back)) 1, eqF _, eqF _, eqF _, bytesF (be 1 (x.items.length)), arrF 1 bytesR (Mono.slice Mono.byte) ([be 2 (x.id), be 1 (x.sent.toNat), be 1 (x.wait), be 1 (x.back), be 1 (x.items.length)]), bytesF ((joinB [be 2 (x.id), be 1 (x.sent.toNat), be 1 (x.wait), be 1 (x.back), be 1 (x.items.length)]))]) [⟨[], [0]⟩, ⟨[(39, 0)], []⟩, ⟨[], [3]⟩, ⟨[(41, 2)], []⟩, ⟨[(42, 3)], []⟩, ⟨[(43, 4)], []⟩, ⟨[], [3]⟩, ⟨[(45, 6)], []⟩, ⟨[(46, 7)], []⟩, ⟨[], [3]⟩, ⟨[(48, 9)], []⟩, ⟨[(49, 10)], []⟩, ⟨[], [3]⟩, ⟨[(51, 12)], []⟩, ⟨[(52, 13)], []⟩, ⟨[], [3]⟩, ⟨[(54, 15)], []⟩, ⟨[(55, 16)], []⟩, ⟨[(56, 17)], []⟩, ⟨[(44, 5), (47, 8), (50, 11), (53, 14), (57, 18)], []⟩, ⟨[(58, 19)], []⟩] [(40, 1), (59, 20)] [0, 1, 3, 4, 5, 6, 7, 8, 9, 10, 11, 12, 13, 14, 15, 16, 17, 18, 19, 20, 21, 22, 23, 24, 25, 26, 27, 28, 29, 30, 31, 32, 33, 34, 35, 36, 37, 38, 60, 61, 62, 63, 64, 65, 66, 67, 68, 69, 70, 71, 72, 73, 74, 75, 76, 77, 78, 79, 80, 81, 82, 83, 84, 85, 86, 87, 88, 89, 90, 91, 92, 93, 94, 95, 96, 97, 98, 99, 100, 101, 102, 103, 104, 105, 106, 107, 108, 109, 110, 111, 112, 113, 114, 115, 116, 117] rfl (by kernel_rfl) (by kernel_rfl) rfl rfl (by kernel_rfl) (by kernel_rfl) (by kernel_rfl) rfl ?obs3 ?end3
      case obs3 =>
       refine Obs.cons ?_ ?_
       ·refine obS (by kernel_rfl) rfl rfl (fun ph3 w3 hO3 => ?_)
        refine VL.move rfl ?_
        exact VL.finS hO3 rfl rfl
       refine Obs.cons ?_ ?_
       ·refine obS (by kernel_rfl) rfl rfl (fun ph3 w3 hO3 => ?_)
        rintro _ rfl
        refine VL.cats rfl rfl (show nm.size + 1 ≤ 9223372036854775807 by omega) ?_
        exact VL.finS hO3 rfl rfl
       refine Obs.cons ?_ ?_
       ·refine obS (by kernel_rfl) rfl rfl (fun ph3 w3 hO3 => ?_)
        refine VL.fieldAddr rfl fo157_2 rfl ?_
        exact VL.finS hO3 rfl rfl
       refine Obs.cons ?_ ?_
       ·refine obS (by kernel_rfl) rfl rfl (fun ph3 w3 hO3 => ?_)
        rintro _ rfl
        refine VL.loadF (s := ⟨w2, _⟩) (v := .int .u16 (x.id)) 2 rfl kd68 hF3 (fun _ e => e ▸ Still.ok hO3 (by repeat (first | exact List.mem_cons_self .. | apply List.mem_cons_of_mem))) rfl rfl ?_
        exact VL.finS hO3 rfl rfl
       refine Obs.cons ?_ ?_
       ·refine obS (by kernel_rfl) rfl rfl (fun ph3 w3 hO3 => ?_)
        rintro _ rfl
        refine VL.conv (by rw [Try.underlying68]; rfl) Try.underlying3 rfl (by simp only [InR]; omega) ?_
        exact VL.finS hO3 rfl rfl
       refine Obs.cons ?_ ?_
       ·refine ob (by kernel_rfl) rfl (by kernel_rfl) rfl (fun w3 hO3 => ?_)
        rintro _ rfl
        refine VL.toOwn hO3 ?_
        refine VL.call Try.func108 rfl (by decide) rfl (fun w' hw => num_S hw (x.id) 2 (by omega) (by decide) (by decide) (fits2 (by omega))) (fun v => ?_)
        refine VL.at (fun w5 h1w => ?_)
        obtain ⟨p6, c7, rfl, hO9, hA8⟩ := h1w
        refine VL.toOwn hO9 ?_
        exact VL.finO rfl (fun _ h => h.subA) (fun _ h => ⟨_, _, rfl, (hA8.nowA (s := ⟨w5, _⟩) Mono.byte h)⟩)
       refine Obs.cons ?_ ?_
       ·refine obS (by kernel_rfl) rfl rfl (fun ph3 w3 hO3 => ?_)
        refine VL.fieldAddr rfl fo157_1 rfl ?_
        exact VL.finS hO3 rfl rfl
       refine Obs.cons ?_ ?_
       ·refine obS (by kernel_rfl) rfl rfl (fun ph3 w3 hO3 => ?_)
        rintro _ rfl
        refine VL.loadF (s := ⟨w2, _⟩) (v := .int .i64 (x.sent)) 1 rfl kd3 hF3 (fun _ e => e ▸ Still.ok hO3 (by repeat (first | exact List.mem_cons_self .. | apply List.mem_cons_of_mem))) rfl rfl ?_
        refine VL.newv (v' := .int .i64 ((x.sent.toNat : Nat) : Int)) (congrArg (Value.int .i64) (Int.toNat_of_nonneg hs0).symm) ?_
        exact VL.finS hO3 rfl rfl
       refine Obs.cons ?_ ?_
       ·refine ob (by kernel_rfl) rfl (by kernel_rfl) rfl (fun w3 hO3 => ?_)
        rintro _ rfl
        refine VL.toOwn hO3 ?_
        refine VL.call Try.func108 rfl (by decide) rfl (fun w' hw => num_S hw (x.sent.toNat) 1 (by omega) (by decide) (by decide) (fits1 (by omega))) (fun v => ?_)
        refine VL.at (fun w10 h1w => ?_)
        obtain ⟨p11, c12, rfl, hO14, hA13⟩ := h1w
        refine VL.toOwn hO14 ?_
        exact VL.finO rfl (fun _ h => h.subA) (fun _ h => ⟨_, _, rfl, (hA13.nowA (s := ⟨w10, _⟩) Mono.byte h)⟩)
       refine Obs.cons ?_ ?_
       ·refine obS (by kernel_rfl) rfl rfl (fun ph3 w3 hO3 => ?_)
        refine VL.fieldAddr rfl fo157_3 rfl ?_
        exact VL.finS hO3 rfl rfl
       refine Obs.cons ?_ ?_
       ·refine obS (by kernel_rfl) rfl rfl (fun ph3 w3 hO3 => ?_)
        rintro _ rfl
        refine VL.loadF (s := ⟨w2, _⟩) (v := .int .u8 (x.wait)) 3 rfl kd5 hF3 (fun _ e => e ▸ Still.ok hO3 (by repeat (first | exact List.mem_cons_self .. | apply List.mem_cons_of_mem))) rfl rfl ?_
        exact VL.finS hO3 rfl rfl
       refine Obs.cons ?_ ?_
       ·refine ob (by kernel_rfl) rfl (by kernel_rfl) rfl (fun w3 hO3 => ?_)
        rintro _ rfl
        refine VL.toOwn hO3 ?_
        refine VL.litByte (m := x.wait) el24 rfl (by have hm := hx.wait; omega) (fun g15 w16 hO17 hA18 => ?_)
        exact VL.finO rfl (fun _ h => h.subA) (fun _ h => ⟨_, rfl, (hA18.nowA (s := ⟨w16, _⟩) Mono.byte h)⟩)
       refine Obs.cons ?_ ?_
       ·refine obS (by kernel_rfl) rfl rfl (fun ph3 w3 hO3 => ?_)
        refine VL.fieldAddr rfl fo157_4 rfl ?_
        exact VL.finS hO3 rfl rfl
       refine Obs.cons ?_ ?_
       ·refine obS (by kernel_rfl) rfl rfl (fun ph3 w3 hO3 => ?_)
        rintro _ rfl
        refine VL.loadF (s := ⟨w2, _⟩) (v := .int .u8 (x.back)) 4 rfl kd5 hF3 (fun _ e => e ▸ Still.ok hO3 (by repeat (first | exact List.mem_cons_self .. | apply List.mem_cons_of_mem))) rfl rfl ?_
        exact VL.finS hO3 rfl rfl
       refine Obs.cons ?_ ?_
       ·refine ob (by kernel_rfl) rfl (by kernel_rfl) rfl (fun w3 hO3 => ?_)
        rintro _ rfl
        refine VL.toOwn hO3 ?_
        refine VL.litByte (m := x.back) el24 rfl (by have hm := hx.back; omega) (fun g19 w20 hO21 hA22 => ?_)
        exact VL.finO rfl (fun _ h => h.subA) (fun _ h => ⟨_, rfl, (hA22.nowA (s := ⟨w20, _⟩) Mono.byte h)⟩)
       refine Obs.cons ?_ ?_
       ·refine obS (by kernel_rfl) rfl rfl (fun ph3 w3 hO3 => ?_)
        refine VL.fieldAddr rfl fo157_0 rfl ?_
        exact VL.finS hO3 rfl rfl
       refine Obs.cons ?_ ?_
       ·refine obS (by kernel_rfl) rfl rfl (fun ph3 w3 hO3 => ?_)
        rintro _ rfl
        refine VL.loadF (s := ⟨w2, _⟩) (v := .slice q (x.items).length d) 0 rfl kd126 hF3 (fun _ e => e ▸ Still.ok hO3 (by repeat (first | exact List.mem_cons_self .. | apply List.mem_cons_of_mem))) rfl rfl ?_
        exact VL.finS hO3 rfl rfl
       refine Obs.cons ?_ ?_
       ·refine obS (by kernel_rfl) rfl rfl (fun ph3 w3 hO3 => ?_)
        rintro _ rfl
        refine VL.len Try.underlying126 rfl rfl ?_
        exact VL.finS hO3 rfl rfl
       refine Obs.cons ?_ ?_
       ·refine ob (by kernel_rfl) rfl (by kernel_rfl) rfl (fun w3 hO3 => ?_)
        rintro _ rfl
        refine VL.toOwn hO3 ?_
        refine VL.call Try.func108 rfl (by decide) rfl (fun w' hw => num_S hw (x.items.length) 1 (by omega) (by decide) (by decide) (fits1 (by omega))) (fun v => ?_)
        refine VL.at (fun w23 h1w => ?_)
        obtain ⟨p24, c25, rfl, hO27, hA26⟩ := h1w
        refine VL.toOwn hO27 ?_
        exact VL.finO rfl (fun _ h => h.subA) (fun _ h => ⟨_, _, rfl, (hA26.nowA (s := ⟨w23, _⟩) Mono.byte h)⟩)
       refine Obs.cons ?_ ?_
       ·refine ob (by kernel_rfl) rfl (by kernel_rfl) rfl (fun w3 hO3 => ?_)
        rintro _ ⟨p3_5, c3_5, rfl, hA3_5⟩ _ ⟨p3_8, c3_8, rfl, hA3_8⟩ _ ⟨p3_11, rfl, hA3_11⟩ _ ⟨p3_14, rfl, hA3_14⟩ _ ⟨p3_18, c3_18, rfl, hA3_18⟩
        refine VL.toOwn hO3 ?_
        refine VL.lit el31 rfl rfl rfl (by simp [Value.cells]) (by intro u hu; simp [Value.cells] at hu; rcases hu with rfl | rfl | rfl | rfl | rfl <;> rfl) (fun g28 => ?_)
        refine VL.letRowS [be 2 (x.id), be 1 (x.sent.toNat), be 1 (x.wait), be 1 (x.back), be 1 (x.items.length)] rfl (fun w' hw => ⟨⟨_, _, rfl, (hA3_5.nowA (s := ⟨w3, _⟩) Mono.byte hw)⟩, ⟨⟨_, _, rfl, (hA3_8.nowA (s := ⟨w3, _⟩) Mono.byte hw)⟩, ⟨⟨_, _, rfl, (hA3_11.nowA (s := ⟨w3, _⟩) Mono.byte hw)⟩, ⟨⟨_, _, rfl, (hA3_14.nowA (s := ⟨w3, _⟩) Mono.byte hw)⟩, ⟨⟨_, _, rfl, (hA3_18.nowA (s := ⟨w3, _⟩) Mono.byte hw)⟩, trivial⟩⟩⟩⟩⟩) (fun w29 hO30 hA31 => ?_)
        exact VL.finO rfl (fun _ h => h.subA) (fun _ h => ⟨_, _, rfl, (hA31.nowA (s := ⟨w29, _⟩) (Mono.slice Mono.byte) h)⟩)
       refine Obs.cons ?_ ?_
       ·refine ob (by kernel_rfl) rfl (by kernel_rfl) rfl (fun w3 hO3 => ?_)
        rintro _ ⟨p3_19, c3_19, rfl, hA3_19⟩
        refine VL.toOwn hO3 ?_
        refine VL.call Try.func120 rfl (by decide) rfl (fun w' hw => all_S (ls := [be 2 (x.id), be 1 (x.sent.toNat), be 1 (x.wait), be 1 (x.back), be 1 (x.items.length)]) hw (hA3_19.nowA (s := ⟨w3, _⟩) (Mono.slice Mono.byte) hw) (head_joinOk x)) (fun v => ?_)
        refine VL.at (fun w32 h1w => ?_)
        obtain ⟨p33, c34, rfl, hO36, hA35⟩ := h1w
        refine VL.toOwn hO36 ?_
        exact VL.finO rfl (fun _ h => h.subA) (fun _ h => ⟨_, _, rfl, (hA35.nowA (s := ⟨w32, _⟩) Mono.byte h)⟩)
       exact Obs.nil
      case end3 =>
       intro w3 hO3
       rintro _ rfl _ ⟨p3_20, c3_20, rfl, hA3_20⟩
       refine VL.toOwn hO3 ?_
       refine VL.build (zs := chgZ) (L := chgFL) [(0, [.string ((nm ++ sH))]), (1, [.slice p3_20 ((joinB [be 2 (x.id), be 1 (x.sent.toNat), be 1 (x.wait), be 1 (x.back), be 1 (x.items.length)])).length c3_20])] plan167 rfl ⟨⟨rfl, ⟨_, rfl, rfl⟩, rfl⟩, ⟨⟨rfl, ⟨_, rfl, rfl⟩, rfl⟩, trivial⟩⟩ rfl ?_
       refine VL.newv (v' := .agg (cat (chgV ((rowH nm x)) p3_20 c3_20)).toArray) rfl ?_
       refine VL.lit el158 rfl rfl rfl (by intro v hv; simp only [List.mem_singleton] at hv; subst hv; rfl) (by rw [show [Value.agg (cat (chgV (rowH nm x) p3_20 c3_20)).toArray].flatMap (·.cells.toList) = (cat (chgV (rowH nm x) p3_20 c3_20)) by simp [Value.cells]]; exact chgV_ok1 _ _ _) (fun gl => ?_)
       refine VL.turn (G' := Own _ (arow 167 3 chgR Mono_chg (some gl) 1 [(rowH nm x)] :: H)) (fun w' hw => hw.asArr Mono_chg rfl (one_chg (hA3_20.nowA (s := ⟨w3, _⟩) Mono.byte hw))) ?_
       refine VL.assign rfl ?_
       refine VL.nn ?_
       refine VC.sr ?_
       refine VL.assign rfl ?_
       refine VL.assign rfl ?_
       refine VL.nn ?_
       refine VC.seq ?_
       refine VC.sr ?_
       refine VL.assign rfl ?_
       refine VL.nn ?_
       refine VC.block ?_
       refine VC.turn (G' := Own _ (brow none 0 (([] : List (List UInt8))) :: brow none 0 (([] : List (List UInt8))) :: arow 167 3 chgR Mono_chg (some gl) 1 [(rowH nm x)] :: H)) (fun w' h => brow0 (brow0 h)) ?_
       refine VC.loop (X := Nat × Option Nat × Nat × Option Nat × Nat) (fun (i, gq, cq, gr, cr) => [(0, .string nm), (3, .pointer (some ⟨g1, 0, none⟩)), (6, rowV (some gl) 1 1), (7, rowV gq (fstB x.items i).length cq), (8, rowV gr (sndB x.items i).length cr), (9, .int .i64 (i : Int))]) (fun (i, gq, cq, gr, cr) w' => (i ≤ x.items.length ∧ ∀ y ∈ x.items.take i, good9 y = true) ∧ Own (⟨w2, keys H⟩ :: ⟨w, keys H⟩ :: S) (brow gq cq ((fstB x.items i)) :: brow gr cr ((sndB x.items i)) :: arow 167 3 chgR Mono_chg (some gl) 1 [(rowH nm x)] :: H) w') (fun (i, _) => x.items.length - i) (0, none, 0, none, 0) ⟨rfl, rfl, rfl, rfl, rfl, rfl, trivial⟩ (fun w' h => ⟨⟨Nat.zero_le _, fun y hy => by cases hy⟩, h.subA⟩) (fun (i, gq, cq, gr, cr) => VC.fact fun ⟨hi, hall⟩ => ?_)
       ·have hf4 := fstB_len x.items i
        have hs8 := sndB_len (xs := x.items) hl8 i
        refine VC.seq ?_
        refine VC.sr ?_
        refine VL.move rfl ?_
        refine VL.fieldAddr rfl fo157_0 rfl ?_
        refine VL.loadF (s := ⟨w2, _⟩) (v := .slice q (x.items).length d) 0 rfl kd126 hF3 (fun _ h => (h.after (by repeat (first | exact List.mem_cons_self .. | apply List.mem_cons_of_mem))).1) rfl rfl ?_
        refine VL.len Try.underlying126 rfl rfl ?_
        refine VL.lss rfl rfl ?_
        refine VL.case (fun h6 => ?_) (fun h6 => ?_)
        ·have hlt : i < x.items.length := by omega
         refine VL.nn ?_
         refine VC.yes rfl ?_
         refine VC.skip ?_
         refine VX.next ?_
         refine VC.seq ?_
         refine VC.block ?_
         refine VC.sr ?_
         refine VL.fieldAddr rfl fo157_0 rfl ?_
         refine VL.loadF (s := ⟨w2, _⟩) (v := .slice q (x.items).length d) 0 rfl kd126 hF3 (fun _ h => (h.after (by repeat (first | exact List.mem_cons_self .. | apply List.mem_cons_of_mem))).1) rfl rfl ?_
         refine VL.move rfl ?_
         refine VL.index (xs := x.items) rfl rfl Try.underlying126 sz126 hV (by omega) (by have hi := hlt; omega) ?_
         refine VL.elems (s := ⟨w, _⟩) (m := 433) (i) 0 rfl kd87 (fun _ h => h) (by repeat (first | exact List.mem_cons_self .. | apply List.mem_cons_of_mem)) hV (List.getElem?_eq_getElem hlt) (by simp) (by decide) (fun vs hl hr => ?_)
         obtain ⟨p39, c40, q41, d42, hy38, rfl, hA43, hV44⟩ := hr
         refine VL.newv (v' := .agg (cat (itemV (x.items[i]'hlt) p39 c40 q41 d42)).toArray) (by rw [List.drop_zero, List.take_of_length_le (by rw [hl]; decide)]) ?_
         refine VL.call Try.func57 rfl (by decide) rfl (fun w' hw => refItem_w hw (x := (x.items[i]'hlt)) (hx.items _ (List.getElem_mem hlt)) (hA43.nowA (s := ⟨w, _⟩) Mono.byte hw) (hV44.nowA (s := ⟨w, _⟩) Mono_vouch hw)) (fun v => ?_)
         refine VL.at (fun w45 h1w => ?_)
         obtain ⟨p46, c47, rfl, hO49, hA48⟩ := h1w
         refine VL.toOwn hO49 ?_
         refine VL.move rfl ?_
         refine VL.extract rfl rfl ?_
         refine VL.extract rfl rfl ?_
         refine VL.assign rfl ?_
         refine VL.assign rfl ?_
         refine VL.nn ?_
         refine VC.seq ?_
         refine VC.sr ?_
         refine VL.move rfl ?_
         cases hs : (itemO (x.items[i]'hlt)).isSome
         ·refine VL.not rfl ?_
          refine VL.move rfl ?_
          refine VL.pass rfl rfl rfl rfl rfl ?_
          refine VL.pass rfl rfl rfl rfl rfl ?_
          refine VL.pass rfl rfl rfl rfl rfl ?_
          refine VL.pick_t rfl rfl ?_
          refine VL.nn ?_
          refine VC.yes rfl ?_
          refine VC.sr ?_
          refine VL.assign rfl ?_
          refine VL.assign rfl ?_
          refine VL.nn ?_
          refine VC.ret ?_
          refine VX.then_ret ?_
          refine VX.block_ret ?_
          refine VX.then_ret ?_
          refine VX.then_ret ?_
          refine VX.block_ret ?_
          refine VX.then_ret ?_
          refine VX.ret2 rfl rfl rfl (fun we hw => ?_)
          exact rows_post (rows_bad hlt (fun h => by rw [hs] at h; cases h.1)) (hw.drop.drop.drop.subA)
         ·refine VL.not rfl ?_
          refine VL.move rfl ?_
          refine VL.go rfl rfl rfl ?_
          refine VL.move rfl ?_
          refine VL.go rfl rfl rfl ?_
          refine VL.len Try.underlying24 rfl rfl ?_
          refine VL.go rfl rfl rfl ?_
          refine VL.gtr rfl rfl ?_
          refine VL.case (fun h9 => ?_) (fun h9 => ?_)
          ·refine VL.pick_f rfl rfl ?_
           refine VL.nn ?_
           refine VC.yes rfl ?_
           refine VC.sr ?_
           refine VL.assign rfl ?_
           refine VL.assign rfl ?_
           refine VL.nn ?_
           refine VC.ret ?_
           refine VX.then_ret ?_
           refine VX.block_ret ?_
           refine VX.then_ret ?_
           refine VX.then_ret ?_
           refine VX.block_ret ?_
           refine VX.then_ret ?_
           refine VX.ret2 rfl rfl rfl (fun we hw => ?_)
           exact rows_post (rows_bad hlt (fun h => absurd h.2 (by unfold byt; omega))) (hw.drop.drop.drop.subA)
          ·refine VL.pick_f rfl rfl ?_
           refine VL.nn ?_
           refine VC.no rfl ?_
           refine VC.skip ?_
           refine VX.next ?_
           refine VC.sr ?_
           refine VL.move rfl ?_
           refine VL.lss rfl rfl ?_
           refine VL.case (fun h11 => ?_) (fun h11 => ?_)
           ·have h11 : i < 4 := by omega
            refine VL.nn ?_
            refine VC.yes rfl ?_
            refine VC.region ?_
            refine VL.move rfl ?_
            refine VL.move rfl ?_
            refine VL.lit el31 rfl rfl rfl (by simp [Value.cells]) (by intro u hu; simp [Value.cells] at hu; rcases hu with rfl <;> rfl) (fun g50 => ?_)
            refine VL.letRowS [((itemO ((x.items[i]'hlt))).getD [])] rfl (fun w' hw => ⟨⟨_, _, rfl, (hA48.nowA (s := ⟨w45, _⟩) Mono.byte hw)⟩, trivial⟩) (fun w51 hO52 hA53 => ?_)
            refine VL.appends (R := bytesR) (hR := Mono.slice Mono.byte) (ys := (fstB x.items i)) (zs := [((itemO ((x.items[i]'hlt))).getD [])]) 0 el31 rfl rfl rfl (fun _ h => h) rfl (fun _ hw => (hA53.nowA (s := ⟨w51, _⟩) (Mono.slice Mono.byte) hw)) bytesR_ok1 (by simp only [List.length_append, List.length_cons, List.length_nil, List.length_map]; omega) (fun g54 c55 => ?_) (by simp only [List.length_append, List.length_cons, List.length_nil, List.length_map]; omega)
            refine VL.set0 ?_
            refine VL.assign rfl ?_
            refine VL.nil ?_
            refine VX.block_normal ?_
            refine VX.next ?_
            refine VC.region ?_
            refine VL.move rfl ?_
            refine VL.add rfl rfl (by simp only [InR]; omega) ?_
            refine VL.assign rfl ?_
            refine VL.nil ?_
            have h15 : (byt (x.items[i]'hlt)).length ≤ 900 := by unfold byt; omega
            refine VX.round (i + 1, g54, c55, gr, cr) ⟨rfl, rfl, rfl, congrArg (fun l : List (List UInt8) => some (rowV g54 l.length c55)) (fstB_lt hlt h11).symm, congrArg (fun l : List (List UInt8) => some (rowV gr l.length cr)) (sndB_lt h11).symm, rfl, trivial⟩ (fun w' h => ⟨⟨by omega, good_step hlt hall hs h15⟩, ?_⟩) (by show x.items.length - (i + 1) < x.items.length - i; omega)
            rw [fstB_lt hlt h11, sndB_lt h11]
            exact h.subA
           ·have h11 : ¬ i < 4 := by omega
            refine VL.nn ?_
            refine VC.no rfl ?_
            refine VC.region ?_
            refine VL.move rfl ?_
            refine VL.move rfl ?_
            refine VL.lit el31 rfl rfl rfl (by simp [Value.cells]) (by intro u hu; simp [Value.cells] at hu; rcases hu with rfl <;> rfl) (fun g56 => ?_)
            refine VL.letRowS [((itemO ((x.items[i]'hlt))).getD [])] rfl (fun w' hw => ⟨⟨_, _, rfl, (hA48.nowA (s := ⟨w45, _⟩) Mono.byte hw)⟩, trivial⟩) (fun w57 hO58 hA59 => ?_)
            refine VL.appends (R := bytesR) (hR := Mono.slice Mono.byte) (ys := (sndB x.items i)) (zs := [((itemO ((x.items[i]'hlt))).getD [])]) 1 el31 rfl rfl rfl (fun _ h => h) rfl (fun _ hw => (hA59.nowA (s := ⟨w57, _⟩) (Mono.slice Mono.byte) hw)) bytesR_ok1 (by simp only [List.length_append, List.length_cons, List.length_nil, List.length_map]; omega) (fun g60 c61 => ?_) (by simp only [List.length_append, List.length_cons, List.length_nil, List.length_map]; omega)
            refine VL.set1 ?_
            refine VL.assign rfl ?_
            refine VL.nil ?_
            refine VX.block_normal ?_
            refine VX.next ?_
            refine VC.region ?_
            refine VL.move rfl ?_
            refine VL.add rfl rfl (by simp only [InR]; omega) ?_
            refine VL.assign rfl ?_
            refine VL.nil ?_
            have h15 : (byt (x.items[i]'hlt)).length ≤ 900 := by unfold byt; omega
            refine VX.round (i + 1, gq, cq, g60, c61) ⟨rfl, rfl, rfl, congrArg (fun l : List (List UInt8) => some (rowV gq l.length cq)) (fstB_ge h11).symm, congrArg (fun l : List (List UInt8) => some (rowV g60 l.length c61)) (sndB_ge hlt h11).symm, rfl, trivial⟩ (fun w' h => ⟨⟨by omega, good_step hlt hall hs h15⟩, ?_⟩) (by show x.items.length - (i + 1) < x.items.length - i; omega)
            rw [fstB_ge h11, sndB_ge hlt h11]
            exact h.subA
        ·have hie : i = x.items.length := by omega
         have hgd : ∀ y ∈ x.items, good9 y = true := by rw [hie, List.take_length] at hall; exact hall
         refine VL.nn ?_
         refine VC.no rfl ?_
         refine VC.exit ?_
         refine VX.then_exit ?_
         refine VX.then_exit ?_
         refine VX.block_here ?_
         refine VX.next ?_
         refine VC.seq ?_
         refine VC.seq ?_
         have e14 : (fstB x.items i).length = min 4 x.items.length := by rw [fstB_all hie, List.length_map, List.length_take]
         have e16 : (sndB x.items i).length = x.items.length - 4 := by rw [sndB_all hie, List.length_map, List.length_drop]
         refine VC.region ?_
         refine VL.move rfl ?_
         refine VL.len Try.underlying31 rfl rfl ?_
         refine VL.gtr rfl rfl ?_
         refine VL.case (fun h14 => ?_) (fun h14 => ?_)
         ·refine VL.nn ?_
          refine VC.yes rfl ?_
          refine VC.letArr (fun wr7 hOr7 hAr7 => ?_)
          refine VC.region ?_
          refine VL.move rfl ?_
          refine VL.move rfl ?_
          refine VL.cats rfl rfl (show nm.size + 1 ≤ 9223372036854775807 by omega) ?_
          refine VL.move rfl ?_
          refine VL.call Try.func120 rfl (by decide) rfl (fun w' hw => all_S (ls := (fstB x.items i)) hw (hAr7.nowA (s := ⟨wr7, _⟩) (Mono.slice Mono.byte) hw) (by rw [fstB_all hie]; exact part_joinOk (by rw [List.length_take]; omega) (fun y hy => hgd y (List.mem_of_mem_take hy)))) (fun v => ?_)
          refine VL.at (fun w62 h1w => ?_)
          obtain ⟨p63, c64, rfl, hO66, hA65⟩ := h1w
          refine VL.toOwn hO66 ?_
          refine VL.build (zs := chgZ) (L := chgFL) [(0, [.string ((nm ++ s0))]), (1, [.slice p63 ((joinB (fstB x.items i))).length c64])] plan167 rfl ⟨⟨rfl, ⟨_, rfl, rfl⟩, rfl⟩, ⟨⟨rfl, ⟨_, rfl, rfl⟩, rfl⟩, trivial⟩⟩ rfl ?_
          refine VL.newv (v' := .agg (cat (chgV ((Chg.mk (nm ++ s0) (joinB (fstB x.items i)) false)) p63 c64)).toArray) rfl ?_
          refine VL.lit el158 rfl rfl rfl (by intro v hv; simp only [List.mem_singleton] at hv; subst hv; rfl) (by rw [show [Value.agg (cat (chgV (Chg.mk (nm ++ s0) (joinB (fstB x.items i)) false) p63 c64)).toArray].flatMap (·.cells.toList) = (cat (chgV (Chg.mk (nm ++ s0) (joinB (fstB x.items i)) false) p63 c64)) by simp [Value.cells]]; exact chgV_ok1 _ _ _) (fun gla => ?_)
          refine VL.letRow chgR [(Chg.mk (nm ++ s0) (joinB (fstB x.items i)) false)] rfl (fun w' hw => one_chg (hA65.nowA (s := ⟨w62, _⟩) Mono.byte hw)) (fun wla hOla hAla => ?_)
          refine VL.appends (R := chgR) (hR := Mono_chg) (ys := [(rowH nm x)]) (zs := [(Chg.mk (nm ++ s0) (joinB (fstB x.items i)) false)]) 1 el158 rfl rfl rfl (fun _ h => h) rfl (fun _ hw => (hAla.nowA (s := ⟨wla, _⟩) Mono_chg hw)) chgR_ok1 (by simp only [List.length_append, List.length_cons, List.length_nil]; omega) (fun gca cca => ?_) (by simp only [List.length_append, List.length_cons, List.length_nil]; omega)
          refine VL.set1 ?_
          refine VL.assign rfl ?_
          refine VL.nn ?_
          refine VC.seq ?_
          refine VC.sr ?_
          refine VL.move rfl ?_
          refine VL.len Try.underlying31 rfl rfl ?_
          refine VL.gtr rfl rfl ?_
          refine VL.case (fun h16 => ?_) (fun h16 => ?_)
          ·refine VL.nn ?_
           refine VC.yes rfl ?_
           refine VC.letArr (fun wr8 hOr8 hAr8 => ?_)
           refine VC.region ?_
           refine VL.move rfl ?_
           refine VL.move rfl ?_
           refine VL.cats rfl rfl (show nm.size + 1 ≤ 9223372036854775807 by omega) ?_
           refine VL.move rfl ?_
           refine VL.call Try.func120 rfl (by decide) rfl (fun w' hw => all_S (ls := (sndB x.items i)) hw (hAr8.nowA (s := ⟨wr8, _⟩) (Mono.slice Mono.byte) hw) (by rw [sndB_all hie]; exact part_joinOk (by rw [List.length_drop]; omega) (fun y hy => hgd y (List.mem_of_mem_drop hy)))) (fun v => ?_)
           refine VL.at (fun w67 h1w => ?_)
           obtain ⟨p68, c69, rfl, hO71, hA70⟩ := h1w
           refine VL.toOwn hO71 ?_
           refine VL.build (zs := chgZ) (L := chgFL) [(0, [.string ((nm ++ s1))]), (1, [.slice p68 ((joinB (sndB x.items i))).length c69])] plan167 rfl ⟨⟨rfl, ⟨_, rfl, rfl⟩, rfl⟩, ⟨⟨rfl, ⟨_, rfl, rfl⟩, rfl⟩, trivial⟩⟩ rfl ?_
           refine VL.newv (v' := .agg (cat (chgV ((Chg.mk (nm ++ s1) (joinB (sndB x.items i)) false)) p68 c69)).toArray) rfl ?_
           refine VL.lit el158 rfl rfl rfl (by intro v hv; simp only [List.mem_singleton] at hv; subst hv; rfl) (by rw [show [Value.agg (cat (chgV (Chg.mk (nm ++ s1) (joinB (sndB x.items i)) false) p68 c69)).toArray].flatMap (·.cells.toList) = (cat (chgV (Chg.mk (nm ++ s1) (joinB (sndB x.items i)) false) p68 c69)) by simp [Value.cells]]; exact chgV_ok1 _ _ _) (fun glb => ?_)
           refine VL.letRow chgR [(Chg.mk (nm ++ s1) (joinB (sndB x.items i)) false)] rfl (fun w' hw => one_chg (hA70.nowA (s := ⟨w67, _⟩) Mono.byte hw)) (fun wlb hOlb hAlb => ?_)
           refine VL.appends (R := chgR) (hR := Mono_chg) (ys := ([(rowH nm x)] ++ [(Chg.mk (nm ++ s0) (joinB (fstB x.items i)) false)])) (zs := [(Chg.mk (nm ++ s1) (joinB (sndB x.items i)) false)]) 0 el158 rfl rfl rfl (fun _ h => h) rfl (fun _ hw => (hAlb.nowA (s := ⟨wlb, _⟩) Mono_chg hw)) chgR_ok1 (by simp only [List.length_append, List.length_cons, List.length_nil]; omega) (fun gcb ccb => ?_) (by simp only [List.length_append, List.length_cons, List.length_nil]; omega)
           refine VL.set0 ?_
           refine VL.assign rfl ?_
           refine VL.nn ?_
           refine VC.sr ?_
           refine VL.move rfl ?_
           refine VL.assign rfl ?_
           refine VL.assign rfl ?_
           refine VL.nn ?_
           refine VC.ret ?_
           refine VX.ret2 rfl rfl rfl (fun we hw => ?_)
           have e1 : rowsO nm x = some (([(rowH nm x)] ++ [(Chg.mk (nm ++ s0) (joinB (fstB x.items i)) false)]) ++ [(Chg.mk (nm ++ s1) (joinB (sndB x.items i)) false)]) := by
            rw [rowsO_some ⟨by omega, by omega, by omega, by omega, by omega, hgd⟩]
            unfold rowsL
            rw [part_some (by rw [List.length_take]; omega), part_some (by rw [List.length_drop]; omega)]
            rw [fstB_all hie]
            rw [sndB_all hie]
            rfl
           rw [e1]
           have h7 := hw
           exact ⟨_, _, rfl, h7.drop.subA, h7.letArr⟩
          ·refine VL.nn ?_
           refine VC.no rfl ?_
           refine VC.skip ?_
           refine VX.next ?_
           refine VC.sr ?_
           refine VL.move rfl ?_
           refine VL.assign rfl ?_
           refine VL.assign rfl ?_
           refine VL.nn ?_
           refine VC.ret ?_
           refine VX.ret2 rfl rfl rfl (fun we hw => ?_)
           have e1 : rowsO nm x = some ([(rowH nm x)] ++ [(Chg.mk (nm ++ s0) (joinB (fstB x.items i)) false)]) := by
            rw [rowsO_some ⟨by omega, by omega, by omega, by omega, by omega, hgd⟩]
            unfold rowsL
            rw [part_some (by rw [List.length_take]; omega), part_nil (by rw [List.length_drop]; omega)]
            rw [fstB_all hie]
            rfl
           rw [e1]
           have h7 := (ownDropAt 0 hw)
           exact ⟨_, _, rfl, h7.drop.subA, h7.letArr⟩
         ·refine VL.nn ?_
          refine VC.no rfl ?_
          refine VC.skip ?_
          refine VX.next ?_
          refine VC.seq ?_
          refine VC.sr ?_
          refine VL.move rfl ?_
          refine VL.len Try.underlying31 rfl rfl ?_
          refine VL.gtr rfl rfl ?_
          refine VL.case (fun h16 => ?_) (fun h16 => ?_)
          ·refine VL.nn ?_
           refine VC.yes rfl ?_
           refine VC.turn (G' := Own _ (brow gr cr ((sndB x.items i)) :: brow gq cq ((fstB x.items i)) :: arow 167 3 chgR Mono_chg (some gl) 1 [(rowH nm x)] :: H)) (fun w' h => h.perm (List.Perm.swap _ _ _)) ?_
           refine VC.letArr (fun wr8 hOr8 hAr8 => ?_)
           refine VC.region ?_
           refine VL.move rfl ?_
           refine VL.move rfl ?_
           refine VL.cats rfl rfl (show nm.size + 1 ≤ 9223372036854775807 by omega) ?_
           refine VL.move rfl ?_
           refine VL.call Try.func120 rfl (by decide) rfl (fun w' hw => all_S (ls := (sndB x.items i)) hw (hAr8.nowA (s := ⟨wr8, _⟩) (Mono.slice Mono.byte) hw) (by rw [sndB_all hie]; exact part_joinOk (by rw [List.length_drop]; omega) (fun y hy => hgd y (List.mem_of_mem_drop hy)))) (fun v => ?_)
           refine VL.at (fun w72 h1w => ?_)
           obtain ⟨p73, c74, rfl, hO76, hA75⟩ := h1w
           refine VL.toOwn hO76 ?_
           refine VL.build (zs := chgZ) (L := chgFL) [(0, [.string ((nm ++ s1))]), (1, [.slice p73 ((joinB (sndB x.items i))).length c74])] plan167 rfl ⟨⟨rfl, ⟨_, rfl, rfl⟩, rfl⟩, ⟨⟨rfl, ⟨_, rfl, rfl⟩, rfl⟩, trivial⟩⟩ rfl ?_
           refine VL.newv (v' := .agg (cat (chgV ((Chg.mk (nm ++ s1) (joinB (sndB x.items i)) false)) p73 c74)).toArray) rfl ?_
           refine VL.lit el158 rfl rfl rfl (by intro v hv; simp only [List.mem_singleton] at hv; subst hv; rfl) (by rw [show [Value.agg (cat (chgV (Chg.mk (nm ++ s1) (joinB (sndB x.items i)) false) p73 c74)).toArray].flatMap (·.cells.toList) = (cat (chgV (Chg.mk (nm ++ s1) (joinB (sndB x.items i)) false) p73 c74)) by simp [Value.cells]]; exact chgV_ok1 _ _ _) (fun glb => ?_)
           refine VL.letRow chgR [(Chg.mk (nm ++ s1) (joinB (sndB x.items i)) false)] rfl (fun w' hw => one_chg (hA75.nowA (s := ⟨w72, _⟩) Mono.byte hw)) (fun wlb hOlb hAlb => ?_)
           refine VL.appends (R := chgR) (hR := Mono_chg) (ys := [(rowH nm x)]) (zs := [(Chg.mk (nm ++ s1) (joinB (sndB x.items i)) false)]) 1 el158 rfl rfl rfl (fun _ h => h) rfl (fun _ hw => (hAlb.nowA (s := ⟨wlb, _⟩) Mono_chg hw)) chgR_ok1 (by simp only [List.length_append, List.length_cons, List.length_nil]; omega) (fun gcb ccb => ?_) (by simp only [List.length_append, List.length_cons, List.length_nil]; omega)
           refine VL.set1 ?_
           refine VL.assign rfl ?_
           refine VL.nn ?_
           refine VC.sr ?_
           refine VL.move rfl ?_
           refine VL.assign rfl ?_
           refine VL.assign rfl ?_
           refine VL.nn ?_
           refine VC.ret ?_
           refine VX.ret2 rfl rfl rfl (fun we hw => ?_)
           have e1 : rowsO nm x = some ([(rowH nm x)] ++ [(Chg.mk (nm ++ s1) (joinB (sndB x.items i)) false)]) := by
            rw [rowsO_some ⟨by omega, by omega, by omega, by omega, by omega, hgd⟩]
            unfold rowsL
            rw [part_nil (by rw [List.length_take]; omega), part_some (by rw [List.length_drop]; omega)]
            rw [sndB_all hie]
            rfl
           rw [e1]
           have h7 := (ownDropAt 0 hw)
           exact ⟨_, _, rfl, h7.drop.subA, h7.letArr⟩
          ·refine VL.nn ?_
           refine VC.no rfl ?_
           refine VC.skip ?_
           refine VX.next ?_
           refine VC.sr ?_
           refine VL.move rfl ?_
           refine VL.assign rfl ?_
           refine VL.assign rfl ?_
           refine VL.nn ?_
           refine VC.ret ?_
           refine VX.ret2 rfl rfl rfl (fun we hw => ?_)
           have e1 : rowsO nm x = some [(rowH nm x)] := by
            rw [rowsO_some ⟨by omega, by omega, by omega, by omega, by omega, hgd⟩]
            unfold rowsL
            rw [part_nil (by rw [List.length_take]; omega), part_nil (by rw [List.length_drop]; omega)]
            rfl
           rw [e1]
           have h7 := (ownDropAt 0 (ownDropAt 1 hw))
           exact ⟨_, _, rfl, h7.drop.subA, h7.letArr⟩

end Go.Proofs.Ytcfecmoagfgnaaa

