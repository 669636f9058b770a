/- The statement WireReads is proved, for every input: part 27 of 27 of the texts that it needs. -/
import Derived.Test.YtcfecmoagfgnaaaMrdAZ
import Derived.Test.YtcfecmoagfgnaaaRows
/- The law on what bytes are read as. -/
namespace Go.Proofs.Ytcfecmoagfgnaaa
open Go.Vc Go.Pl

theorem sameObjects_r {S : List Snap} {H : List Chunk} {w : World} (ho : Own S H w) {x : Object} (hx : x.ok) {q : Option Addr} {d : Nat} (hV : Arr 65 vouchR (keys H) w q x.vouches d) {p : Option Addr} {c : Nat} (hU : Arr 65 vouchR (keys H) w p x.vouches c) : Calls Try.prog 72 #[.agg (cat (objectV x q d)).toArray, .agg (cat (objectV x p c)).toArray] w (Ret fun v w' => v = .bool true ∧ Own S H w') :=
 calls_mono (sameObjects_g ho hx hV hx hU) fun v w' ⟨b, h1, h2, h3⟩ => ⟨by rw [h1, h2.2 rfl], h3⟩

theorem told_t {S : List Snap} {H : List Chunk} {w : World} (ho : Own S H w) : Calls Try.prog 101 #[.int .i64 0, .bool true] w (Ret fun v w' => v = .bool true ∧ Own S H w') := by
 refine enter (G := Own (⟨w, keys H⟩ :: S) H) ho.keep Try.func101 rfl Try.ntmps101 rfl ?_
 refine VC.sr ?_
 refine VL.assign rfl ?_
 refine VL.nn ?_
 refine VC.sr ?_
 refine VL.move rfl ?_
 refine VL.move rfl ?_
 refine VL.go rfl rfl rfl ?_
 refine VL.move rfl ?_
 refine VL.go rfl rfl rfl ?_
 refine VL.eql rfl rfl ?_
 refine VL.yes (by omega) ?_
 refine VL.pick_t rfl rfl ?_
 refine VL.move rfl ?_
 refine VL.pass rfl rfl rfl rfl rfl ?_
 refine VL.pass rfl rfl rfl rfl rfl ?_
 refine VL.pass rfl rfl rfl rfl rfl ?_
 refine VL.passu rfl rfl rfl rfl ?_
 refine VL.passu rfl rfl rfl rfl ?_
 refine VL.pass rfl rfl rfl rfl rfl ?_
 refine VL.pick_t rfl rfl ?_
 refine VL.assign rfl ?_
 refine VL.nn ?_
 refine VC.ret ?_
 refine VX.ret1 rfl rfl (fun we hw => ?_)
 exact ⟨rfl, hw.subA⟩

theorem told_f {S : List Snap} {H : List Chunk} {w : World} (ho : Own S H w) : Calls Try.prog 101 #[.int .i64 141, .bool false] w (Ret fun v w' => v = .bool true ∧ Own S H w') := by
 refine enter (G := Own (⟨w, keys H⟩ :: S) H) ho.keep Try.func101 rfl Try.ntmps101 rfl ?_
 refine VC.sr ?_
 refine VL.assign rfl ?_
 refine VL.nn ?_
 refine VC.sr ?_
 refine VL.move rfl ?_
 refine VL.move rfl ?_
 refine VL.pass rfl rfl rfl rfl rfl ?_
 refine VL.pass rfl rfl rfl rfl rfl ?_
 refine VL.pick_f rfl rfl ?_
 refine VL.move rfl ?_
 refine VL.go rfl rfl rfl ?_
 refine VL.move rfl ?_
 refine VL.go rfl rfl rfl ?_
 refine VL.not rfl ?_
 refine VL.go rfl rfl rfl ?_
 refine VL.move rfl ?_
 refine VL.go rfl rfl rfl ?_
 refine VL.move rfl ?_
 refine VL.go rfl rfl rfl ?_
 refine VL.eql rfl rfl ?_
 refine VL.yes (by omega) ?_
 refine VL.go rfl rfl rfl ?_
 refine VL.pick_t rfl rfl ?_
 refine VL.pick_f rfl rfl ?_
 refine VL.assign rfl ?_
 refine VL.nn ?_
 refine VC.ret ?_
 refine VX.ret1 rfl rfl (fun we hw => ?_)
 exact ⟨rfl, hw.subA⟩

theorem told_w {S : List Snap} {H : List Chunk} {w : World} (ho : Own S H w) (b : Bool) : Calls Try.prog 101 #[.int .i64 ((if b = true then 0 else 141 : Nat) : Int), .bool b] w (Ret fun v w' => v = .bool true ∧ Own S H w') := by
 cases b
 ·exact told_f ho
 ·exact told_t ho

theorem wireReads_w {S : List Snap} {H : List Chunk} {w : World} (ho : Own S H w) {p : Option Addr} {l : List UInt8} {c : Nat} (hA : Bytes (keys H) w p l c) : Calls Try.prog 21 #[.slice p l.length c] w (Ret fun v w' => v = .bool true ∧ Own S H w') := by
 refine enter (G := Own (⟨w, keys H⟩ :: S) H) ho.keep Try.func21 rfl Try.ntmps21 rfl ?_
 refine VC.sr ?_
 refine VL.assign rfl ?_
 refine VL.nn ?_
 refine VC.seq ?_
 refine VC.sr ?_
 refine VL.call Try.func49 rfl (by decide) rfl (fun w' hw => alive_w hw) (fun v => ?_)
 refine VL.fact fun e1 => ?_
 subst e1
 refine VL.not rfl ?_
 refine VL.nn ?_
 refine VC.no rfl ?_
 refine VC.skip ?_
 refine VX.next ?_
 refine VC.seq ?_
 refine VC.sr ?_
 refine VL.move rfl ?_
 refine VL.len Try.underlying24 rfl rfl ?_
 refine VL.gtr rfl rfl ?_
 refine VL.case (fun h3 => ?_) (fun h3 => ?_)
 ·refine VL.nn ?_
  refine VC.yes rfl ?_
  refine VC.sr ?_
  refine VL.assign rfl ?_
  refine VL.nn ?_
  refine VC.ret ?_
  refine VX.then_ret ?_
  refine VX.ret1 rfl rfl (fun we hw => ?_)
  exact ⟨rfl, hw.subA⟩
 ·refine VL.nn ?_
  refine VC.no rfl ?_
  refine VC.skip ?_
  refine VX.next ?_
  refine VC.sr ?_
  refine VL.move rfl ?_
  refine VL.call Try.func61 rfl (by decide) rfl (fun w' hw => getBundle_w hw (hA.nowA (s := ⟨w, _⟩) Mono.byte hw)) (fun v => ?_)
  refine VL.fact fun e2 => ?_
  subst e2
  refine VL.move rfl ?_
  refine VL.extract rfl rfl ?_
  refine VL.extract rfl rfl ?_
  refine VL.alloc (L := bundleL) (ps := (bundleV (bundle0))) zero82 rfl rfl (fun g3 => ?_)
  refine VL.store (L := bundleL) (qs := (bundleV (((bundleR l).getD bundle0)))) (ps' := (bundleV (((bundleR l).getD bundle0)))) 0 0 6 rfl rfl rfl (.inl kd82) rfl rfl (bundleV_len (bundleR_ok l)) (bundleV_ok1 (((bundleR l).getD bundle0))) rfl rfl ?_
  refine VL.set0 ?_
  refine VL.assign rfl ?_
  refine VL.nn ?_
  refine VC.seq ?_
  refine VC.letCells 0 rfl (fun w4 hO6 hF5 => ?_)
  refine VC.region ?_
  refine VL.move rfl ?_
  refine VL.call Try.func94 rfl (by decide) rfl (fun w' hw => readBundle_w hw (hA.nowA (s := ⟨w, _⟩) Mono.byte hw)) (fun v => ?_)
  refine VL.fact fun e7 => ?_
  subst e7
  refine VL.move rfl ?_
  refine VL.extract rfl rfl ?_
  refine VL.extract rfl rfl ?_
  refine VL.alloc (L := bundleL) (ps := (bundleV (bundle0))) zero82 rfl rfl (fun g8 => ?_)
  refine VL.store (L := bundleL) (qs := (bundleV (((bundleR l).getD bundle0)))) (ps' := (bundleV (((bundleR l).getD bundle0)))) 0 0 6 rfl rfl rfl (.inl kd82) rfl rfl (bundleV_len (bundleR_ok l)) (bundleV_ok1 (((bundleR l).getD bundle0))) rfl rfl ?_
  refine VL.set0 ?_
  refine VL.assign rfl ?_
  refine VL.nn ?_
  refine VC.seq ?_
  refine VC.letCells 0 rfl (fun w9 hO11 hF10 => ?_)
  refine VC.region ?_
  refine VL.move rfl ?_
  refine VL.call Try.func54 rfl (by decide) rfl (fun w' hw => getLetter_w hw (hA.nowA (s := ⟨w, _⟩) Mono.byte hw)) (fun v => ?_)
  refine VL.at (fun w12 h1w => ?_)
  obtain ⟨p14, c15, rfl, hO13, hA16⟩ := h1w
  refine VL.toOwn hO13 ?_
  refine VL.move rfl ?_
  refine VL.extract rfl rfl ?_
  refine VL.extract rfl rfl ?_
  refine VL.alloc (L := letterL) (ps := (letterV (letter0) none 0)) zero72 rfl rfl (fun g17 => ?_)
  refine VL.store (L := letterL) (qs := (letterV (((letterR l).getD letter0)) p14 c15)) (ps' := (letterV (((letterR l).getD letter0)) p14 c15)) 0 0 12 rfl rfl rfl (.inl kd72) rfl rfl (letterV_len (letterR_ok l)) (letterV_ok1 (((letterR l).getD letter0)) p14 c15) rfl rfl ?_
  refine VL.set0 ?_
  refine VL.assign rfl ?_
  refine VL.nn ?_
  refine VC.seq ?_
  refine VC.letCells 0 rfl (fun w18 hO20 hF19 => ?_)
  refine VC.region ?_
  refine VL.move rfl ?_
  refine VL.call Try.func95 rfl (by decide) rfl (fun w' hw => readLetter_w hw (hA.nowA (s := ⟨w, _⟩) Mono.byte hw)) (fun v => ?_)
  refine VL.at (fun w21 h1w => ?_)
  obtain ⟨p23, c24, rfl, hO22, hA25⟩ := h1w
  refine VL.toOwn hO22 ?_
  refine VL.move rfl ?_
  refine VL.extract rfl rfl ?_
  refine VL.extract rfl rfl ?_
  refine VL.alloc (L := letterL) (ps := (letterV (letter0) none 0)) zero72 rfl rfl (fun g26 => ?_)
  refine VL.store (L := letterL) (qs := (letterV (((letterR l).getD letter0)) p23 c24)) (ps' := (letterV (((letterR l).getD letter0)) p23 c24)) 0 0 12 rfl rfl rfl (.inl kd72) rfl rfl (letterV_len (letterR_ok l)) (letterV_ok1 (((letterR l).getD letter0)) p23 c24) rfl rfl ?_
  refine VL.set0 ?_
  refine VL.assign rfl ?_
  refine VL.nn ?_
  refine VC.seq ?_
  refine VC.letCells 0 rfl (fun w27 hO29 hF28 => ?_)
  refine VC.region ?_
  refine VL.move rfl ?_
  refine VL.call Try.func71 rfl (by decide) rfl (fun w' hw => getObject_w hw (hA.nowA (s := ⟨w, _⟩) Mono.byte hw)) (fun v => ?_)
  refine VL.at (fun w30 h1w => ?_)
  obtain ⟨p32, c33, rfl, hO31, hA34⟩ := h1w
  refine VL.toOwn hO31 ?_
  refine VL.move rfl ?_
  refine VL.extract rfl rfl ?_
  refine VL.extract rfl rfl ?_
  refine VL.alloc (L := objectL) (ps := (objectV (object0) none 0)) zero85 rfl rfl (fun g35 => ?_)
  refine VL.store (L := objectL) (qs := (objectV (((objectR l).getD object0)) p32 c33)) (ps' := (objectV (((objectR l).getD object0)) p32 c33)) 0 0 7 rfl rfl rfl (.inl kd85) rfl rfl (objectV_len (objectR_ok l)) (objectV_ok1 (((objectR l).getD object0)) p32 c33) rfl rfl ?_
  refine VL.set0 ?_
  refine VL.assign rfl ?_
  refine VL.nn ?_
  refine VC.seq ?_
  refine VC.letCells 0 rfl (fun w36 hO38 hF37 => ?_)
  refine VC.region ?_
  refine VL.move rfl ?_
  refine VL.call Try.func96 rfl (by decide) rfl (fun w' hw => readObject_w hw (hA.nowA (s := ⟨w, _⟩) Mono.byte hw)) (fun v => ?_)
  refine VL.at (fun w39 h1w => ?_)
  obtain ⟨p41, c42, rfl, hO40, hA43⟩ := h1w
  refine VL.toOwn hO40 ?_
  refine VL.move rfl ?_
  refine VL.extract rfl rfl ?_
  refine VL.extract rfl rfl ?_
  refine VL.alloc (L := objectL) (ps := (objectV (object0) none 0)) zero85 rfl rfl (fun g44 => ?_)
  refine VL.store (L := objectL) (qs := (objectV (((objectR l).getD object0)) p41 c42)) (ps' := (objectV (((objectR l).getD object0)) p41 c42)) 0 0 7 rfl rfl rfl (.inl kd85) rfl rfl (objectV_len (objectR_ok l)) (objectV_ok1 (((objectR l).getD object0)) p41 c42) rfl rfl ?_
  refine VL.set0 ?_
  refine VL.assign rfl ?_
  refine VL.nn ?_
  refine VC.seq ?_
  refine VC.letCells 0 rfl (fun w45 hO47 hF46 => ?_)
  refine VC.region ?_
  refine VL.move rfl ?_
  refine VL.call Try.func58 rfl (by decide) rfl (fun w' hw => getItem_w hw (hA.nowA (s := ⟨w, _⟩) Mono.byte hw)) (fun v => ?_)
  refine VL.at (fun w48 h1w => ?_)
  obtain ⟨p50, c51, q53, d54, rfl, hO49, hA52, hB55⟩ := h1w
  refine VL.toOwn hO49 ?_
  refine VL.move rfl ?_
  refine VL.extract rfl rfl ?_
  refine VL.extract rfl rfl ?_
  refine VL.alloc (L := itemL) (ps := (itemV (item0) none 0 none 0)) zero87 rfl rfl (fun g56 => ?_)
  refine VL.store (L := itemL) (qs := (itemV (((itemR l).getD item0)) p50 c51 q53 d54)) (ps' := (itemV (((itemR l).getD item0)) p50 c51 q53 d54)) 0 0 28 rfl rfl rfl (.inl kd87) rfl rfl (itemV_len (itemR_ok l)) (itemV_ok1 (((itemR l).getD item0)) p50 c51 q53 d54) rfl rfl ?_
  refine VL.set0 ?_
  refine VL.assign rfl ?_
  refine VL.nn ?_
  refine VC.seq ?_
  refine VC.letCells 0 rfl (fun w57 hO59 hF58 => ?_)
  refine VC.region ?_
  refine VL.move rfl ?_
  refine VL.call Try.func97 rfl (by decide) rfl (fun w' hw => readItem_w hw (hA.nowA (s := ⟨w, _⟩) Mono.byte hw)) (fun v => ?_)
  refine VL.at (fun w60 h1w => ?_)
  obtain ⟨p62, c63, q65, d66, rfl, hO61, hA64, hB67⟩ := h1w
  refine VL.toOwn hO61 ?_
  refine VL.move rfl ?_
  refine VL.extract rfl rfl ?_
  refine VL.extract rfl rfl ?_
  refine VL.alloc (L := itemL) (ps := (itemV (item0) none 0 none 0)) zero87 rfl rfl (fun g68 => ?_)
  refine VL.store (L := itemL) (qs := (itemV (((itemR l).getD item0)) p62 c63 q65 d66)) (ps' := (itemV (((itemR l).getD item0)) p62 c63 q65 d66)) 0 0 28 rfl rfl rfl (.inl kd87) rfl rfl (itemV_len (itemR_ok l)) (itemV_ok1 (((itemR l).getD item0)) p62 c63 q65 d66) rfl rfl ?_
  refine VL.set0 ?_
  refine VL.assign rfl ?_
  refine VL.nn ?_
  refine VC.seq ?_
  refine VC.letCells 0 rfl (fun w69 hO71 hF70 => ?_)
  refine VC.region ?_
  refine VL.move rfl ?_
  refine VL.call Try.func78 rfl (by decide) rfl (fun w' hw => getCall_w hw (hA.nowA (s := ⟨w, _⟩) Mono.byte hw)) (fun v => ?_)
  refine VL.at (fun w72 h1w => ?_)
  obtain ⟨q74, d75, p77, c78, rfl, hO73, hB76, hA79⟩ := h1w
  refine VL.toOwn hO73 ?_
  refine VL.move rfl ?_
  refine VL.extract rfl rfl ?_
  refine VL.extract rfl rfl ?_
  refine VL.alloc (L := calL) (ps := (calV (cal0) none 0 none 0)) zero110 rfl rfl (fun g80 => ?_)
  refine VL.store (L := calL) (qs := (calV (((callR l).getD cal0)) q74 d75 p77 c78)) (ps' := (calV (((callR l).getD cal0)) q74 d75 p77 c78)) 0 0 17 rfl rfl rfl (.inl kd110) rfl rfl (calV_len (callR_ok l)) (calV_ok1 (((callR l).getD cal0)) q74 d75 p77 c78) rfl rfl ?_
  refine VL.set0 ?_
  refine VL.assign rfl ?_
  refine VL.nn ?_
  refine VC.seq ?_
  refine VC.letCells 0 rfl (fun w81 hO83 hF82 => ?_)
  refine VC.region ?_
  refine VL.move rfl ?_
  refine VL.call Try.func98 rfl (by decide) rfl (fun w' hw => readCall_w hw (hA.nowA (s := ⟨w, _⟩) Mono.byte hw)) (fun v => ?_)
  refine VL.at (fun w84 h1w => ?_)
  obtain ⟨q86, d87, p89, c90, rfl, hO85, hB88, hA91⟩ := h1w
  refine VL.toOwn hO85 ?_
  refine VL.move rfl ?_
  refine VL.extract rfl rfl ?_
  refine VL.extract rfl rfl ?_
  refine VL.alloc (L := calL) (ps := (calV (cal0) none 0 none 0)) zero110 rfl rfl (fun g92 => ?_)
  refine VL.store (L := calL) (qs := (calV (((callR l).getD cal0)) q86 d87 p89 c90)) (ps' := (calV (((callR l).getD cal0)) q86 d87 p89 c90)) 0 0 17 rfl rfl rfl (.inl kd110) rfl rfl (calV_len (callR_ok l)) (calV_ok1 (((callR l).getD cal0)) q86 d87 p89 c90) rfl rfl ?_
  refine VL.set0 ?_
  refine VL.assign rfl ?_
  refine VL.nn ?_
  refine VC.seq ?_
  refine VC.letCells 0 rfl (fun w93 hO95 hF94 => ?_)
  refine VC.region ?_
  refine VL.move rfl ?_
  refine VL.call Try.func88 rfl (by decide) rfl (fun w' hw => getRep_w hw (hA.nowA (s := ⟨w, _⟩) Mono.byte hw)) (fun v => ?_)
  refine VL.at (fun w96 h1w => ?_)
  obtain ⟨q98, d99, rfl, hO97, hA100⟩ := h1w
  refine VL.toOwn hO97 ?_
  refine VL.move rfl ?_
  refine VL.extract rfl rfl ?_
  refine VL.extract rfl rfl ?_
  refine VL.alloc (L := repL) (ps := (repV (rep0) none 0)) zero128 rfl rfl (fun g101 => ?_)
  refine VL.store (L := repL) (qs := (repV (((repR l).getD rep0)) q98 d99)) (ps' := (repV (((repR l).getD rep0)) q98 d99)) 0 0 4 rfl rfl rfl (.inl kd128) rfl rfl (repV_len (repR_ok l)) (repV_ok1 (((repR l).getD rep0)) q98 d99) rfl rfl ?_
  refine VL.set0 ?_
  refine VL.assign rfl ?_
  refine VL.nn ?_
  refine VC.seq ?_
  refine VC.letCells 0 rfl (fun w102 hO104 hF103 => ?_)
  refine VC.region ?_
  refine VL.move rfl ?_
  refine VL.call Try.func99 rfl (by decide) rfl (fun w' hw => readRep_w hw (hA.nowA (s := ⟨w, _⟩) Mono.byte hw)) (fun v => ?_)
  refine VL.at (fun w105 h1w => ?_)
  obtain ⟨q107, d108, rfl, hO106, hA109⟩ := h1w
  refine VL.toOwn hO106 ?_
  refine VL.move rfl ?_
  refine VL.extract rfl rfl ?_
  refine VL.extract rfl rfl ?_
  refine VL.alloc (L := repL) (ps := (repV (rep0) none 0)) zero128 rfl rfl (fun g110 => ?_)
  refine VL.store (L := repL) (qs := (repV (((repR l).getD rep0)) q107 d108)) (ps' := (repV (((repR l).getD rep0)) q107 d108)) 0 0 4 rfl rfl rfl (.inl kd128) rfl rfl (repV_len (repR_ok l)) (repV_ok1 (((repR l).getD rep0)) q107 d108) rfl rfl ?_
  refine VL.set0 ?_
  refine VL.assign rfl ?_
  refine VL.nn ?_
  refine VC.seq ?_
  refine VC.letCells 0 rfl (fun w111 hO113 hF112 => ?_)
  refine VC.region ?_
  refine VL.move rfl ?_
  refine VL.call Try.func89 rfl (by decide) rfl (fun w' hw => getTrn_w hw (hA.nowA (s := ⟨w, _⟩) Mono.byte hw)) (fun v => ?_)
  refine VL.at (fun w114 h1w => ?_)
  obtain ⟨q116, d117, rfl, hO115, hA118⟩ := h1w
  refine VL.toOwn hO115 ?_
  refine VL.move rfl ?_
  refine VL.extract rfl rfl ?_
  refine VL.extract rfl rfl ?_
  refine VL.alloc (L := trnL) (ps := (trnV (trn0) none 0)) zero132 rfl rfl (fun g119 => ?_)
  refine VL.store (L := trnL) (qs := (trnV (((trnR l).getD trn0)) q116 d117)) (ps' := (trnV (((trnR l).getD trn0)) q116 d117)) 0 0 2 rfl rfl rfl (.inl kd132) rfl rfl (trnV_len (trnR_ok l)) (trnV_ok1 (((trnR l).getD trn0)) q116 d117) rfl rfl ?_
  refine VL.set0 ?_
  refine VL.assign rfl ?_
  refine VL.nn ?_
  refine VC.seq ?_
  refine VC.letCells 0 rfl (fun w120 hO122 hF121 => ?_)
  refine VC.region ?_
  refine VL.move rfl ?_
  refine VL.call Try.func100 rfl (by decide) rfl (fun w' hw => readTrn_w hw (hA.nowA (s := ⟨w, _⟩) Mono.byte hw)) (fun v => ?_)
  refine VL.at (fun w123 h1w => ?_)
  obtain ⟨q125, d126, rfl, hO124, hA127⟩ := h1w
  refine VL.toOwn hO124 ?_
  refine VL.move rfl ?_
  refine VL.extract rfl rfl ?_
  refine VL.extract rfl rfl ?_
  refine VL.alloc (L := trnL) (ps := (trnV (trn0) none 0)) zero132 rfl rfl (fun g128 => ?_)
  refine VL.store (L := trnL) (qs := (trnV (((trnR l).getD trn0)) q125 d126)) (ps' := (trnV (((trnR l).getD trn0)) q125 d126)) 0 0 2 rfl rfl rfl (.inl kd132) rfl rfl (trnV_len (trnR_ok l)) (trnV_ok1 (((trnR l).getD trn0)) q125 d126) rfl rfl ?_
  refine VL.set0 ?_
  refine VL.assign rfl ?_
  refine VL.nn ?_
  refine VC.seq ?_
  refine VC.letCells 0 rfl (fun w129 hO131 hF130 => ?_)
  refine VC.region ?_
  refine VL.move rfl ?_
  refine VL.call Try.func81 rfl (by decide) rfl (fun w' hw => getPkt_w hw (hA.nowA (s := ⟨w, _⟩) Mono.byte hw)) (fun v => ?_)
  refine VL.at (fun w132 h1w => ?_)
  obtain ⟨q134, d135, p137, c138, rfl, hO133, hB136, hA139⟩ := h1w
  refine VL.toOwn hO133 ?_
  refine VL.move rfl ?_
  refine VL.extract rfl rfl ?_
  refine VL.extract rfl rfl ?_
  refine VL.alloc (L := pktL) (ps := (pktV (pkt0) none 0 none 0)) zero118 rfl rfl (fun g140 => ?_)
  refine VL.store (L := pktL) (qs := (pktV (((pktR l).getD pkt0)) q134 d135 p137 c138)) (ps' := (pktV (((pktR l).getD pkt0)) q134 d135 p137 c138)) 0 0 6 rfl rfl rfl (.inl kd118) rfl rfl (pktV_len (pktR_ok l)) (pktV_ok1 (((pktR l).getD pkt0)) q134 d135 p137 c138) rfl rfl ?_
  refine VL.set0 ?_
  refine VL.assign rfl ?_
  refine VL.nn ?_
  refine VC.seq ?_
  refine VC.letCells 0 rfl (fun w141 hO143 hF142 => ?_)
  refine VC.region ?_
  refine VL.move rfl ?_
  refine VL.call Try.func82 rfl (by decide) rfl (fun w' hw => readPkt_w hw (hA.nowA (s := ⟨w, _⟩) Mono.byte hw)) (fun v => ?_)
  refine VL.at (fun w144 h1w => ?_)
  obtain ⟨q146, d147, p149, c150, rfl, hO145, hB148, hA151⟩ := h1w
  refine VL.toOwn hO145 ?_
  refine VL.move rfl ?_
  refine VL.extract rfl rfl ?_
  refine VL.extract rfl rfl ?_
  refine VL.alloc (L := pktL) (ps := (pktV (pkt0) none 0 none 0)) zero118 rfl rfl (fun g152 => ?_)
  refine VL.store (L := pktL) (qs := (pktV (((pktR l).getD pkt0)) q146 d147 p149 c150)) (ps' := (pktV (((pktR l).getD pkt0)) q146 d147 p149 c150)) 0 0 6 rfl rfl rfl (.inl kd118) rfl rfl (pktV_len (pktR_ok l)) (pktV_ok1 (((pktR l).getD pkt0)) q146 d147 p149 c150) rfl rfl ?_
  refine VL.set0 ?_
  refine VL.assign rfl ?_
  refine VL.nn ?_
  refine VC.seq ?_
  refine VC.letCells 0 rfl (fun w153 hO155 hF154 => ?_)
  refine VC.region ?_
  refine VL.move rfl ?_
  refine VL.move rfl ?_
  refine VL.call Try.func101 rfl (by decide) rfl (fun w' hw => told_w hw ((bundleR l).isSome)) (fun v => ?_)
  refine VL.fact fun e156 => ?_
  subst e156
  refine VL.move rfl ?_
  refine VL.go rfl rfl rfl ?_
  refine VL.loadsF (s := ⟨w4, _⟩) (cs := cat (bundleV (((bundleR l).getD bundle0)))) 0 6 rfl kd82 hF5 (fun _ h => (h.after (by repeat (first | exact List.mem_cons_self .. | apply List.mem_cons_of_mem))).1) rfl rfl rfl ?_
  refine VL.go rfl rfl rfl ?_
  refine VL.loadsF (s := ⟨w9, _⟩) (cs := cat (bundleV (((bundleR l).getD bundle0)))) 0 6 rfl kd82 hF10 (fun _ h => (h.after (by repeat (first | exact List.mem_cons_self .. | apply List.mem_cons_of_mem))).1) rfl rfl rfl ?_
  refine VL.go rfl rfl rfl ?_
  refine VL.eqT guard82 rfl rfl (eqBundle (bundleR_ok l) (bundleR_ok l)) (fun b h => ?_)
  obtain rfl : b = true := h.2 rfl
  refine VL.pick_t rfl rfl ?_
  refine VL.move rfl ?_
  refine VL.go rfl rfl rfl ?_
  refine VL.move rfl ?_
  refine VL.go rfl rfl rfl ?_
  refine VL.move rfl ?_
  refine VL.go rfl rfl rfl ?_
  refine VL.call Try.func101 rfl (by decide) rfl (fun w' hw => told_w hw ((letterR l).isSome)) (fun v => ?_)
  refine VL.fact fun e157 => ?_
  subst e157
  refine VL.pick_t rfl rfl ?_
  refine VL.move rfl ?_
  refine VL.go rfl rfl rfl ?_
  refine VL.loadsF (s := ⟨w18, _⟩) (cs := cat (letterV (((letterR l).getD letter0)) p14 c15)) 0 12 rfl kd72 hF19 (fun _ h => (h.after (by repeat (first | exact List.mem_cons_self .. | apply List.mem_cons_of_mem))).1) rfl rfl rfl ?_
  refine VL.go rfl rfl rfl ?_
  refine VL.loadsF (s := ⟨w27, _⟩) (cs := cat (letterV (((letterR l).getD letter0)) p23 c24)) 0 12 rfl kd72 hF28 (fun _ h => (h.after (by repeat (first | exact List.mem_cons_self .. | apply List.mem_cons_of_mem))).1) rfl rfl rfl ?_
  refine VL.go rfl rfl rfl ?_
  refine VL.call Try.func55 rfl (by decide) rfl (fun w' hw => sameLetters_e hw (letterR_ok l) (hA16.nowA (s := ⟨w12, _⟩) Mono.byte hw) (hA25.nowA (s := ⟨w21, _⟩) Mono.byte hw) rfl) (fun v => ?_)
  refine VL.fact fun e158 => ?_
  subst e158
  refine VL.pick_t rfl rfl ?_
  refine VL.move rfl ?_
  refine VL.go rfl rfl rfl ?_
  refine VL.move rfl ?_
  refine VL.go rfl rfl rfl ?_
  refine VL.move rfl ?_
  refine VL.go rfl rfl rfl ?_
  refine VL.call Try.func101 rfl (by decide) rfl (fun w' hw => told_w hw ((objectR l).isSome)) (fun v => ?_)
  refine VL.fact fun e159 => ?_
  subst e159
  refine VL.pick_t rfl rfl ?_
  refine VL.move rfl ?_
  refine VL.go rfl rfl rfl ?_
  refine VL.loadsF (s := ⟨w36, _⟩) (cs := cat (objectV (((objectR l).getD object0)) p32 c33)) 0 7 rfl kd85 hF37 (fun _ h => (h.after (by repeat (first | exact List.mem_cons_self .. | apply List.mem_cons_of_mem))).1) rfl rfl rfl ?_
  refine VL.go rfl rfl rfl ?_
  refine VL.loadsF (s := ⟨w45, _⟩) (cs := cat (objectV (((objectR l).getD object0)) p41 c42)) 0 7 rfl kd85 hF46 (fun _ h => (h.after (by repeat (first | exact List.mem_cons_self .. | apply List.mem_cons_of_mem))).1) rfl rfl rfl ?_
  refine VL.go rfl rfl rfl ?_
  refine VL.call Try.func72 rfl (by decide) rfl (fun w' hw => sameObjects_r hw (objectR_ok l) (hA34.nowA (s := ⟨w30, _⟩) Mono_vouch hw) (hA43.nowA (s := ⟨w39, _⟩) Mono_vouch hw)) (fun v => ?_)
  refine VL.fact fun e160 => ?_
  subst e160
  refine VL.pick_t rfl rfl ?_
  refine VL.assign rfl ?_
  refine VL.nn ?_
  refine VC.sr ?_
  refine VL.move rfl ?_
  refine VL.move rfl ?_
  refine VL.eql rfl rfl ?_
  refine VL.yes (by omega) ?_
  refine VL.move rfl ?_
  refine VL.go rfl rfl rfl ?_
  refine VL.loadsF (s := ⟨w57, _⟩) (cs := cat (itemV (((itemR l).getD item0)) p50 c51 q53 d54)) 0 28 rfl kd87 hF58 (fun _ h => (h.after (by repeat (first | exact List.mem_cons_self .. | apply List.mem_cons_of_mem))).1) rfl rfl rfl ?_
  refine VL.go rfl rfl rfl ?_
  refine VL.loadsF (s := ⟨w69, _⟩) (cs := cat (itemV (((itemR l).getD item0)) p62 c63 q65 d66)) 0 28 rfl kd87 hF70 (fun _ h => (h.after (by repeat (first | exact List.mem_cons_self .. | apply List.mem_cons_of_mem))).1) rfl rfl rfl ?_
  refine VL.go rfl rfl rfl ?_
  refine VL.call Try.func59 rfl (by decide) rfl (fun w' hw => sameItems_e hw (itemR_ok l) (hA52.nowA (s := ⟨w48, _⟩) Mono.byte hw) (hB55.nowA (s := ⟨w48, _⟩) Mono_vouch hw) (hA64.nowA (s := ⟨w60, _⟩) Mono.byte hw) (hB67.nowA (s := ⟨w60, _⟩) Mono_vouch hw) rfl) (fun v => ?_)
  refine VL.fact fun e161 => ?_
  subst e161
  refine VL.pick_t rfl rfl ?_
  refine VL.move rfl ?_
  refine VL.go rfl rfl rfl ?_
  refine VL.move rfl ?_
  refine VL.go rfl rfl rfl ?_
  refine VL.move rfl ?_
  refine VL.go rfl rfl rfl ?_
  refine VL.eql rfl rfl ?_
  refine VL.yes (by omega) ?_
  refine VL.pick_t rfl rfl ?_
  refine VL.move rfl ?_
  refine VL.go rfl rfl rfl ?_
  refine VL.loadsF (s := ⟨w81, _⟩) (cs := cat (calV (((callR l).getD cal0)) q74 d75 p77 c78)) 0 17 rfl kd110 hF82 (fun _ h => (h.after (by repeat (first | exact List.mem_cons_self .. | apply List.mem_cons_of_mem))).1) rfl rfl rfl ?_
  refine VL.go rfl rfl rfl ?_
  refine VL.loadsF (s := ⟨w93, _⟩) (cs := cat (calV (((callR l).getD cal0)) q86 d87 p89 c90)) 0 17 rfl kd110 hF94 (fun _ h => (h.after (by repeat (first | exact List.mem_cons_self .. | apply List.mem_cons_of_mem))).1) rfl rfl rfl ?_
  refine VL.go rfl rfl rfl ?_
  refine VL.call Try.func79 rfl (by decide) rfl (fun w' hw => sameCalls_e hw (callR_ok l) (hB76.nowA (s := ⟨w72, _⟩) Mono_bundle hw) (hA79.nowA (s := ⟨w72, _⟩) Mono.byte hw) (hB88.nowA (s := ⟨w84, _⟩) Mono_bundle hw) (hA91.nowA (s := ⟨w84, _⟩) Mono.byte hw) rfl) (fun v => ?_)
  refine VL.fact fun e162 => ?_
  subst e162
  refine VL.pick_t rfl rfl ?_
  refine VL.move rfl ?_
  refine VL.go rfl rfl rfl ?_
  refine VL.move rfl ?_
  refine VL.go rfl rfl rfl ?_
  refine VL.move rfl ?_
  refine VL.go rfl rfl rfl ?_
  refine VL.eql rfl rfl ?_
  refine VL.yes (by omega) ?_
  refine VL.pick_t rfl rfl ?_
  refine VL.move rfl ?_
  refine VL.go rfl rfl rfl ?_
  refine VL.loadsF (s := ⟨w141, _⟩) (cs := cat (pktV (((pktR l).getD pkt0)) q134 d135 p137 c138)) 0 6 rfl kd118 hF142 (fun _ h => (h.after (by repeat (first | exact List.mem_cons_self .. | apply List.mem_cons_of_mem))).1) rfl rfl rfl ?_
  refine VL.go rfl rfl rfl ?_
  refine VL.loadsF (s := ⟨w153, _⟩) (cs := cat (pktV (((pktR l).getD pkt0)) q146 d147 p149 c150)) 0 6 rfl kd118 hF154 (fun _ h => (h.after (by repeat (first | exact List.mem_cons_self .. | apply List.mem_cons_of_mem))).1) rfl rfl rfl ?_
  refine VL.go rfl rfl rfl ?_
  refine VL.call Try.func83 rfl (by decide) rfl (fun w' hw => samePkts_e hw (pktR_ok l) (hB136.nowA (s := ⟨w132, _⟩) Mono_object hw) (hA139.nowA (s := ⟨w132, _⟩) Mono.byte hw) (hB148.nowA (s := ⟨w144, _⟩) Mono_object hw) (hA151.nowA (s := ⟨w144, _⟩) Mono.byte hw) rfl) (fun v => ?_)
  refine VL.fact fun e163 => ?_
  subst e163
  refine VL.pick_t rfl rfl ?_
  refine VL.assign rfl ?_
  refine VL.nn ?_
  refine VC.sr ?_
  refine VL.move rfl ?_
  refine VL.move rfl ?_
  refine VL.call Try.func101 rfl (by decide) rfl (fun w' hw => told_w hw ((repR l).isSome)) (fun v => ?_)
  refine VL.fact fun e164 => ?_
  subst e164
  refine VL.move rfl ?_
  refine VL.go rfl rfl rfl ?_
  refine VL.fieldAddr rfl fo128_0 rfl ?_
  refine VL.go rfl rfl rfl ?_
  refine VL.loadF (s := ⟨w102, _⟩) (v := .int .u16 (((repR l).getD rep0).seq)) 0 rfl kd68 hF103 (fun _ h => (h.after (by repeat (first | exact List.mem_cons_self .. | apply List.mem_cons_of_mem))).1) rfl rfl ?_
  refine VL.go rfl rfl rfl ?_
  refine VL.fieldAddr rfl fo128_0 rfl ?_
  refine VL.go rfl rfl rfl ?_
  refine VL.loadF (s := ⟨w111, _⟩) (v := .int .u16 (((repR l).getD rep0).seq)) 0 rfl kd68 hF112 (fun _ h => (h.after (by repeat (first | exact List.mem_cons_self .. | apply List.mem_cons_of_mem))).1) rfl rfl ?_
  refine VL.go rfl rfl rfl ?_
  refine VL.eql rfl rfl ?_
  refine VL.yes (by omega) ?_
  refine VL.pick_t rfl rfl ?_
  refine VL.move rfl ?_
  refine VL.go rfl rfl rfl ?_
  refine VL.fieldAddr rfl fo128_1 rfl ?_
  refine VL.go rfl rfl rfl ?_
  refine VL.loadF (s := ⟨w102, _⟩) (v := .int .u8 (((repR l).getD rep0).tag)) 1 rfl kd5 hF103 (fun _ h => (h.after (by repeat (first | exact List.mem_cons_self .. | apply List.mem_cons_of_mem))).1) rfl rfl ?_
  refine VL.go rfl rfl rfl ?_
  refine VL.fieldAddr rfl fo128_1 rfl ?_
  refine VL.go rfl rfl rfl ?_
  refine VL.loadF (s := ⟨w111, _⟩) (v := .int .u8 (((repR l).getD rep0).tag)) 1 rfl kd5 hF112 (fun _ h => (h.after (by repeat (first | exact List.mem_cons_self .. | apply List.mem_cons_of_mem))).1) rfl rfl ?_
  refine VL.go rfl rfl rfl ?_
  refine VL.eql rfl rfl ?_
  refine VL.yes (by omega) ?_
  refine VL.pick_t rfl rfl ?_
  refine VL.move rfl ?_
  refine VL.go rfl rfl rfl ?_
  refine VL.fieldAddr rfl fo128_2 rfl ?_
  refine VL.go rfl rfl rfl ?_
  refine VL.loadF (s := ⟨w102, _⟩) (v := .int .u16 (((repR l).getD rep0).mark)) 2 rfl kd68 hF103 (fun _ h => (h.after (by repeat (first | exact List.mem_cons_self .. | apply List.mem_cons_of_mem))).1) rfl rfl ?_
  refine VL.go rfl rfl rfl ?_
  refine VL.fieldAddr rfl fo128_2 rfl ?_
  refine VL.go rfl rfl rfl ?_
  refine VL.loadF (s := ⟨w111, _⟩) (v := .int .u16 (((repR l).getD rep0).mark)) 2 rfl kd68 hF112 (fun _ h => (h.after (by repeat (first | exact List.mem_cons_self .. | apply List.mem_cons_of_mem))).1) rfl rfl ?_
  refine VL.go rfl rfl rfl ?_
  refine VL.eql rfl rfl ?_
  refine VL.yes (by omega) ?_
  refine VL.pick_t rfl rfl ?_
  refine VL.move rfl ?_
  refine VL.go rfl rfl rfl ?_
  refine VL.fieldAddr rfl fo128_3 rfl ?_
  refine VL.go rfl rfl rfl ?_
  refine VL.loadF (s := ⟨w102, _⟩) (v := .slice q98 (((repR l).getD rep0).items).length d99) 3 rfl kd126 hF103 (fun _ h => (h.after (by repeat (first | exact List.mem_cons_self .. | apply List.mem_cons_of_mem))).1) rfl rfl ?_
  refine VL.go rfl rfl rfl ?_
  refine VL.fieldAddr rfl fo128_3 rfl ?_
  refine VL.go rfl rfl rfl ?_
  refine VL.loadF (s := ⟨w111, _⟩) (v := .slice q107 (((repR l).getD rep0).items).length d108) 3 rfl kd126 hF112 (fun _ h => (h.after (by repeat (first | exact List.mem_cons_self .. | apply List.mem_cons_of_mem))).1) rfl rfl ?_
  refine VL.go rfl rfl rfl ?_
  refine VL.call Try.func90 rfl (by decide) rfl (fun w' hw => sameLists_e hw (repR_ok l).items (hA100.nowA (s := ⟨w96, _⟩) Mono_item hw) (hA109.nowA (s := ⟨w105, _⟩) Mono_item hw) rfl) (fun v => ?_)
  refine VL.fact fun e165 => ?_
  subst e165
  refine VL.pick_t rfl rfl ?_
  refine VL.assign rfl ?_
  refine VL.nn ?_
  refine VC.sr ?_
  refine VL.move rfl ?_
  refine VL.move rfl ?_
  refine VL.go rfl rfl rfl ?_
  refine VL.move rfl ?_
  refine VL.pick_t rfl rfl ?_
  refine VL.move rfl ?_
  refine VL.go rfl rfl rfl ?_
  refine VL.move rfl ?_
  refine VL.pick_t rfl rfl ?_
  refine VL.move rfl ?_
  refine VL.go rfl rfl rfl ?_
  refine VL.move rfl ?_
  refine VL.go rfl rfl rfl ?_
  refine VL.move rfl ?_
  refine VL.go rfl rfl rfl ?_
  refine VL.call Try.func101 rfl (by decide) rfl (fun w' hw => told_w hw ((trnR l).isSome)) (fun v => ?_)
  refine VL.fact fun e166 => ?_
  subst e166
  refine VL.pick_t rfl rfl ?_
  refine VL.move rfl ?_
  refine VL.go rfl rfl rfl ?_
  refine VL.fieldAddr rfl fo132_0 rfl ?_
  refine VL.go rfl rfl rfl ?_
  refine VL.loadF (s := ⟨w120, _⟩) (v := .int .u16 (((trnR l).getD trn0).seq)) 0 rfl kd68 hF121 (fun _ h => (h.after (by repeat (first | exact List.mem_cons_self .. | apply List.mem_cons_of_mem))).1) rfl rfl ?_
  refine VL.go rfl rfl rfl ?_
  refine VL.fieldAddr rfl fo132_0 rfl ?_
  refine VL.go rfl rfl rfl ?_
  refine VL.loadF (s := ⟨w129, _⟩) (v := .int .u16 (((trnR l).getD trn0).seq)) 0 rfl kd68 hF130 (fun _ h => (h.after (by repeat (first | exact List.mem_cons_self .. | apply List.mem_cons_of_mem))).1) rfl rfl ?_
  refine VL.go rfl rfl rfl ?_
  refine VL.eql rfl rfl ?_
  refine VL.yes (by omega) ?_
  refine VL.pick_t rfl rfl ?_
  refine VL.move rfl ?_
  refine VL.go rfl rfl rfl ?_
  refine VL.fieldAddr rfl fo132_1 rfl ?_
  refine VL.go rfl rfl rfl ?_
  refine VL.loadF (s := ⟨w120, _⟩) (v := .slice q116 (((trnR l).getD trn0).items).length d117) 1 rfl kd126 hF121 (fun _ h => (h.after (by repeat (first | exact List.mem_cons_self .. | apply List.mem_cons_of_mem))).1) rfl rfl ?_
  refine VL.go rfl rfl rfl ?_
  refine VL.fieldAddr rfl fo132_1 rfl ?_
  refine VL.go rfl rfl rfl ?_
  refine VL.loadF (s := ⟨w129, _⟩) (v := .slice q125 (((trnR l).getD trn0).items).length d126) 1 rfl kd126 hF130 (fun _ h => (h.after (by repeat (first | exact List.mem_cons_self .. | apply List.mem_cons_of_mem))).1) rfl rfl ?_
  refine VL.go rfl rfl rfl ?_
  refine VL.call Try.func90 rfl (by decide) rfl (fun w' hw => sameLists_e hw (trnR_ok l).items (hA118.nowA (s := ⟨w114, _⟩) Mono_item hw) (hA127.nowA (s := ⟨w123, _⟩) Mono_item hw) rfl) (fun v => ?_)
  refine VL.fact fun e167 => ?_
  subst e167
  refine VL.pick_t rfl rfl ?_
  refine VL.assign rfl ?_
  refine VL.nn ?_
  refine VC.ret ?_
  refine VX.ret1 rfl rfl (fun we hw => ?_)
  exact ⟨rfl, hw.subA⟩

end Go.Proofs.Ytcfecmoagfgnaaa

/- The dump's head, taken apart once: its kernel's run is long. -/
set_option maxRecDepth 100000
namespace Go.Proofs.Ytcfecmoagfgnaaa
open Go

def signs : List Char := [104, 97, 114, 110, 101, 115, 115, 32, 102, 100, 52, 102, 57, 98, 57, 102, 49, 55, 56, 57, 57, 51, 101, 97, 57, 99, 99, 102, 101, 98, 51, 98, 102, 53, 98, 50, 100, 102, 54, 99, 50, 101, 100, 98, 49, 51, 57, 102, 51, 101, 52, 102, 100, 56, 51, 97, 49, 50, 97, 97, 48, 99, 53, 98, 50, 54, 97, 51, 52, 53, 48, 48, 32, 99, 117, 116, 32, 97, 116, 32, 109, 105, 115, 115, 105, 118, 101, 47, 109, 105, 115, 115, 105, 118, 101, 108, 97, 119, 48, 50, 46, 79, 99, 116, 101, 116, 78, 117, 109, 98, 101, 114, 115, 32, 109, 105, 115, 115, 105, 118, 101, 47, 109, 105, 115, 115, 105, 118, 101, 108, 97, 119, 48, 50, 46, 79, 99, 116, 101, 116, 74, 111, 105, 110, 115, 32, 109, 105, 115, 115, 105, 118, 101, 47, 109, 105, 115, 115, 105, 118, 101, 108, 97, 119, 48, 50, 46, 79, 99, 116, 101, 116, 83, 112, 108, 105, 116, 115, 32, 109, 105, 115, 115, 105, 118, 101, 47, 109, 105, 115, 115, 105, 118, 101, 108, 97, 119, 48, 50, 46, 79, 99, 116, 101, 116, 67, 117, 116, 32, 109, 105, 115, 115, 105, 118, 101, 47, 109, 105, 115, 115, 105, 118, 101, 108, 97, 119, 48, 50, 46, 79, 99, 116, 101, 116, 79, 119, 110, 32, 109, 105, 115, 115, 105, 118, 101, 47, 109, 105, 115, 115, 105, 118, 101, 108, 97, 119, 48, 50, 46, 79, 99, 116, 101, 116, 66, 121, 116, 101, 115, 32, 109, 105, 115, 115, 105, 118, 101, 47, 109, 105, 115, 115, 105, 118, 101, 108, 97, 119, 50, 52, 46, 66, 97, 103, 82, 105, 112, 101, 32, 109, 105, 115, 115, 105, 118, 101, 47, 109, 105, 115, 115, 105, 118, 101, 108, 97, 119, 50, 52, 46, 66, 97, 103, 80, 108, 97, 121, 115, 32, 109, 105, 115, 115, 105, 118, 101, 47, 109, 105, 115, 115, 105, 118, 101, 108, 97, 119, 50, 52, 46, 66, 97, 103, 79, 119, 110, 32, 109, 105, 115, 115, 105, 118, 101, 47, 109, 105, 115, 115, 105, 118, 101, 108, 97, 119, 49, 52, 46, 87, 105, 114, 101, 76, 101, 116, 116, 101, 114, 115, 32, 109, 105, 115, 115, 105, 118, 101, 47, 109, 105, 115, 115, 105, 118, 101, 108, 97, 119, 49, 52, 46, 87, 105, 114, 101, 73, 116, 101, 109, 115, 32, 109, 105, 115, 115, 105, 118, 101, 47, 109, 105, 115, 115, 105, 118, 101, 108, 97, 119, 49, 52, 46, 87, 105, 114, 101, 66, 117, 110, 100, 108, 101, 115, 32, 109, 105, 115, 115, 105, 118, 101, 47, 109, 105, 115, 115, 105, 118, 101, 108, 97, 119, 49, 52, 46, 87, 105, 114, 101, 79, 98, 106, 101, 99, 116, 115, 32, 109, 105, 115, 115, 105, 118, 101, 47, 109, 105, 115, 115, 105, 118, 101, 108, 97, 119, 50, 49, 46, 70, 101, 100, 113, 84, 97, 107, 101, 115, 32, 109, 105, 115, 115, 105, 118, 101, 47, 109, 105, 115, 115, 105, 118, 101, 108, 97, 119, 49, 52, 46, 87, 105, 114, 101, 67, 97, 108, 108, 115, 32, 109, 105, 115, 115, 105, 118, 101, 47, 109, 105, 115, 115, 105, 118, 101, 108, 97, 119, 49, 52, 46, 87, 105, 114, 101, 84, 117, 114, 110, 101, 100, 32, 109, 105, 115, 115, 105, 118, 101, 47, 109, 105, 115, 115, 105, 118, 101, 108, 97, 119, 49, 52, 46, 87, 105, 114, 101, 82, 101, 112, 108, 105, 101, 115, 32, 109, 105, 115, 115, 105, 118, 101, 47, 109, 105, 115, 115, 105, 118, 101, 108, 97, 119, 49, 52, 46, 87, 105, 114, 101, 80, 97, 99, 107, 101, 116, 115, 32, 109, 105, 115, 115, 105, 118, 101, 47, 109, 105, 115, 115, 105, 118, 101, 108, 97, 119, 49, 52, 46, 87, 105, 114, 101, 82, 101, 97, 100, 115, 32, 109, 105, 115, 115, 105, 118, 101, 47, 109, 105, 115, 115, 105, 118, 101, 108, 97, 119, 50, 49, 46, 70, 101, 100, 113, 82, 111, 119, 115, 32, 109, 105, 115, 115, 105, 118, 101, 47, 109, 105, 115, 115, 105, 118, 101, 108, 97, 119, 50, 49, 46, 70, 101, 100, 113, 76, 111, 97, 100, 115].map Char.ofNat
def words : List (List Char) := [[104, 97, 114, 110, 101, 115, 115], [102, 100, 52, 102, 57, 98, 57, 102, 49, 55, 56, 57, 57, 51, 101, 97, 57, 99, 99, 102, 101, 98, 51, 98, 102, 53, 98, 50, 100, 102, 54, 99, 50, 101, 100, 98, 49, 51, 57, 102, 51, 101, 52, 102, 100, 56, 51, 97, 49, 50, 97, 97, 48, 99, 53, 98, 50, 54, 97, 51, 52, 53, 48, 48], [99, 117, 116], [97, 116], [109, 105, 115, 115, 105, 118, 101, 47, 109, 105, 115, 115, 105, 118, 101, 108, 97, 119, 48, 50, 46, 79, 99, 116, 101, 116, 78, 117, 109, 98, 101, 114, 115], [109, 105, 115, 115, 105, 118, 101, 47, 109, 105, 115, 115, 105, 118, 101, 108, 97, 119, 48, 50, 46, 79, 99, 116, 101, 116, 74, 111, 105, 110, 115], [109, 105, 115, 115, 105, 118, 101, 47, 109, 105, 115, 115, 105, 118, 101, 108, 97, 119, 48, 50, 46, 79, 99, 116, 101, 116, 83, 112, 108, 105, 116, 115], [109, 105, 115, 115, 105, 118, 101, 47, 109, 105, 115, 115, 105, 118, 101, 108, 97, 119, 48, 50, 46, 79, 99, 116, 101, 116, 67, 117, 116], [109, 105, 115, 115, 105, 118, 101, 47, 109, 105, 115, 115, 105, 118, 101, 108, 97, 119, 48, 50, 46, 79, 99, 116, 101, 116, 79, 119, 110], [109, 105, 115, 115, 105, 118, 101, 47, 109, 105, 115, 115, 105, 118, 101, 108, 97, 119, 48, 50, 46, 79, 99, 116, 101, 116, 66, 121, 116, 101, 115], [109, 105, 115, 115, 105, 118, 101, 47, 109, 105, 115, 115, 105, 118, 101, 108, 97, 119, 50, 52, 46, 66, 97, 103, 82, 105, 112, 101], [109, 105, 115, 115, 105, 118, 101, 47, 109, 105, 115, 115, 105, 118, 101, 108, 97, 119, 50, 52, 46, 66, 97, 103, 80, 108, 97, 121, 115], [109, 105, 115, 115, 105, 118, 101, 47, 109, 105, 115, 115, 105, 118, 101, 108, 97, 119, 50, 52, 46, 66, 97, 103, 79, 119, 110], [109, 105, 115, 115, 105, 118, 101, 47, 109, 105, 115, 115, 105, 118, 101, 108, 97, 119, 49, 52, 46, 87, 105, 114, 101, 76, 101, 116, 116, 101, 114, 115], [109, 105, 115, 115, 105, 118, 101, 47, 109, 105, 115, 115, 105, 118, 101, 108, 97, 119, 49, 52, 46, 87, 105, 114, 101, 73, 116, 101, 109, 115], [109, 105, 115, 115, 105, 118, 101, 47, 109, 105, 115, 115, 105, 118, 101, 108, 97, 119, 49, 52, 46, 87, 105, 114, 101, 66, 117, 110, 100, 108, 101, 115], [109, 105, 115, 115, 105, 118, 101, 47, 109, 105, 115, 115, 105, 118, 101, 108, 97, 119, 49, 52, 46, 87, 105, 114, 101, 79, 98, 106, 101, 99, 116, 115], [109, 105, 115, 115, 105, 118, 101, 47, 109, 105, 115, 115, 105, 118, 101, 108, 97, 119, 50, 49, 46, 70, 101, 100, 113, 84, 97, 107, 101, 115], [109, 105, 115, 115, 105, 118, 101, 47, 109, 105, 115, 115, 105, 118, 101, 108, 97, 119, 49, 52, 46, 87, 105, 114, 101, 67, 97, 108, 108, 115], [109, 105, 115, 115, 105, 118, 101, 47, 109, 105, 115, 115, 105, 118, 101, 108, 97, 119, 49, 52, 46, 87, 105, 114, 101, 84, 117, 114, 110, 101, 100], [109, 105, 115, 115, 105, 118, 101, 47, 109, 105, 115, 115, 105, 118, 101, 108, 97, 119, 49, 52, 46, 87, 105, 114, 101, 82, 101, 112, 108, 105, 101, 115], [109, 105, 115, 115, 105, 118, 101, 47, 109, 105, 115, 115, 105, 118, 101, 108, 97, 119, 49, 52, 46, 87, 105, 114, 101, 80, 97, 99, 107, 101, 116, 115], [109, 105, 115, 115, 105, 118, 101, 47, 109, 105, 115, 115, 105, 118, 101, 108, 97, 119, 49, 52, 46, 87, 105, 114, 101, 82, 101, 97, 100, 115], [109, 105, 115, 115, 105, 118, 101, 47, 109, 105, 115, 115, 105, 118, 101, 108, 97, 119, 50, 49, 46, 70, 101, 100, 113, 82, 111, 119, 115], [109, 105, 115, 115, 105, 118, 101, 47, 109, 105, 115, 115, 105, 118, 101, 108, 97, 119, 50, 49, 46, 70, 101, 100, 113, 76, 111, 97, 100, 115]].map (List.map Char.ofNat)
theorem signs_is : Try.prog.initOrder.toList = signs := String.toList_ofList (l := signs)
theorem words_is : wordsSigns Try.prog.initOrder.toList = words := by rw [signs_is]; kernel_rfl
theorem mayEnter_is : Try.prog.mayEnter = true := by unfold Program.mayEnter; rw [words_is]; kernel_rfl
theorem headLifts_is : Try.prog.headLifts = [] := by unfold Program.headLifts; rw [words_is]; kernel_rfl
theorem liftsFinal_is : Try.prog.liftsFinal = Rows.octetJoinsRow.lifted := by unfold Program.liftsFinal; rw [words_is, headLifts_is]; kernel_rfl
theorem make_is : Try.prog.make = some Rows.octetJoinsRow.make := by unfold Program.make; rw [words_is, headLifts_is]; kernel_rfl
end Go.Proofs.Ytcfecmoagfgnaaa

/- The statement WireReads. -/
set_option maxRecDepth 100000
namespace Go.Proofs.Ytcfecmoagfgnaaa.wireReads
open Go.ChangeShapes Go.WideShapes Go.ChangeAt Go.RowKit Go.Vc Go.Pl

theorem own : ownKnob Try.prog.godebug = none := by kernel_rfl

theorem lifted (os : Os) (started : os.Started) (H : Type) (enc : TypeId × Value → H) :
  ReturnsInHanded {} Try.checked os 21 .any (Rows.wireReadsSpec.pre6 enc Try.prog Try.f21 Rows.wireReadsRow.domain false) (Rows.wireReadsSpec.post enc Try.prog Try.f21 false true false false) := by
 refine law_of (C := Try.checked) (tb := 4) started own (by kernel_rfl) Try.func21
  (ChangeSpec.witness6 (enc := enc) (C := Try.checked) false ⟨#[], #[.slice none 0 0], []⟩ 8 (by kernel_rfl) (by kernel_rfl) (by kernel_rfl) (by kernel_rfl)) rfl (by kernel_rfl) Try.underlying4 (by kernel_rfl) (by kernel_rfl) ?_
 intro W base args ds ps hval0 hAA hsz
 have hval : ∀ (j : Nat) t v, Try.f21.params[j]? = some t → args[j]? = some v → Value.okWide Try.prog W .any base t v := hval0
 have hA : DataW.TrodAll enc Try.prog W 0 (fun _ => true) true Try.f21.params.toList args.toList ds ps := hAA
 rw [Try.params21] at hA hval
 obtain ⟨v0, vs0, d0, ds0, p0, q0, hargs, rfl, rfl, h0, r0⟩ := trodAll_cons hA
 obtain ⟨rfl, rfl, rfl⟩ := trodAll_nil r0
 obtain rfl : args = #[v0] := by cases args; simp_all
 obtain ⟨p0, l0, c0, rfl, hA0⟩ := Opens.value Try.underlying24 (Opens.slice (sz := 1) Try.underlying24 (by kernel_rfl) (by decide) (Opens.u8 Try.underlying5)) (hval 0 24 v0 rfl rfl) h0
 exact ⟨rfl, wireReads_w (Own.start W) hA0⟩

theorem closed : joinedFacts Try.prog 21 Try.f21 Rows.wireReadsSpec Rows.wireReadsRow = true := by
 unfold joinedFacts
 rw [mayEnter_is, liftsFinal_is, make_is]
 kernel_rfl

theorem over : Rows.wireReadsRow.holds Try.pinned (OpenSpec.ofChange Rows.wireReadsSpec) :=
 OpenClaim.holds_of_wide 21 Try.f21 rfl rfl rfl rfl rfl rfl rfl ⟨rfl, rfl, rfl, rfl, rfl⟩ rfl rfl rfl rfl rfl (by kernel_rfl) Try.func21 closed
  (of_decide_eq_true (by kernel_rfl)) (by unfold Func.isWrapper; first | (rw [if_pos (by decide +kernel)]; kernel_rfl) | (rw [if_neg (by decide +kernel)]; exact ⟨rfl, rfl⟩))
  (fun os started H enc _ => lifted os started H enc)

/-- The statement. -/
theorem proved : Rows.WireReadsSaid :=
 over
end Go.Proofs.Ytcfecmoagfgnaaa.wireReads

