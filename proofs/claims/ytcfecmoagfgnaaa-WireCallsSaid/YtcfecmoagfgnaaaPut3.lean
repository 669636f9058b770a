/- wire: bytes of items. -/
import Derived.Test.YtcfecmoagfgnaaaSt2
namespace Go.Proofs.Ytcfecmoagfgnaaa
open Go.Vc Go.Pl

theorem bare_w {S : List Snap} {H : List Chunk} {w : World} (ho : Own S H w) {x : Itm} (hx : x.ok) {p : Option Addr} {c : Nat} {q : Option Addr} {d : Nat} : Calls Try.prog 127 #[.agg (cat (itemV x p c q d)).toArray] w (Ret fun v w' => ∃ b : Bool, v = .bool b ∧ (b = true ↔ bareP x) ∧ Own S H w') := by
  refine enter (G := Own (⟨w, keys H⟩ :: S) H) ho.keep Try.func127 rfl Try.ntmps127 rfl ?_
  refine VC.seq ?_
  refine VC.region ?_
  refine VL.box (L := itemL) (ps := (itemV (x) p c q d)) rfl rfl (itemV_len hx) (fun g1 => ?_)
  refine VL.assign rfl ?_
  refine VL.nil ?_
  refine VX.next ?_
  refine VC.seq ?_
  refine VC.region ?_
  refine VL.fieldAddr rfl fo87_1 rfl ?_
  refine VL.load (v := .int .u8 (x.asker)) 0 1 rfl kd5 (fun _ h => h) rfl rfl rfl ?_
  refine VL.eql rfl rfl ?_
  refine VL.case (fun h1_2 => ?_) (fun h1_2 => ?_)
  · have h1_2 : x.asker = 0 := by omega
    refine VL.move rfl ?_
    refine VL.go rfl rfl rfl ?_
    refine VL.fieldAddr rfl fo87_2 rfl ?_
    refine VL.go rfl rfl rfl ?_
    refine VL.load (v := .int .u8 (x.peer)) 0 2 rfl kd5 (fun _ h => h) rfl rfl rfl ?_
    refine VL.go rfl rfl rfl ?_
    refine VL.eql rfl rfl ?_
    refine VL.case (fun h1_6 => ?_) (fun h1_6 => ?_)
    · have h1_6 : x.peer = 0 := by omega
      refine VL.pick_t rfl rfl ?_
      refine VL.move rfl ?_
      refine VL.go rfl rfl rfl ?_
      refine VL.fieldAddr rfl fo87_3 rfl ?_
      refine VL.go rfl rfl rfl ?_
      refine VL.loads (cs := cat (letterV (x.letter) p c)) 0 3 12 rfl kd72 (fun _ h => h) rfl rfl rfl rfl ?_
      refine VL.go rfl rfl rfl ?_
      refine VL.call Try.func138 rfl (by decide) rfl (fun w' hw => emptyLetter_w hw (x := x.letter) hx.letter) (fun v => ?_)
      refine VL.ex fun b => VL.fact fun e => VL.fact fun h1_11 => ?_
      subst e
      cases b
      · have h1_11 := mt h1_11.2 (by decide)
        refine VL.pick_t rfl rfl ?_
        refine VL.move rfl ?_
        refine VL.pass rfl rfl rfl rfl rfl ?_
        refine VL.pass rfl rfl rfl rfl rfl ?_
        refine VL.pass rfl rfl rfl rfl rfl ?_
        refine VL.pass rfl rfl rfl rfl rfl ?_
        refine VL.pick_f rfl rfl ?_
        refine VL.move rfl ?_
        refine VL.pass rfl rfl rfl rfl rfl ?_
        refine VL.pass rfl rfl rfl rfl rfl ?_
        refine VL.pass rfl rfl rfl rfl rfl ?_
        refine VL.pick_f rfl rfl ?_
        refine VL.assign rfl ?_
        refine VL.nil ?_
        refine VX.next ?_
        refine VC.ret ?_
        refine VX.ret1 rfl rfl (fun we hw => ?_)
        refine ⟨false, rfl, ?_, hw.drop.sub (fun _ hs => by repeat (first | exact hs | apply List.mem_cons_of_mem))⟩
        unfold bareP
        simp [h1_2, h1_6, h1_11]
      · have h1_11 := h1_11.1 rfl
        refine VL.pick_t rfl rfl ?_
        refine VL.move rfl ?_
        refine VL.go rfl rfl rfl ?_
        refine VL.fieldAddr rfl fo87_4 rfl ?_
        refine VL.go rfl rfl rfl ?_
        refine VL.loads (cs := cat (bundleV (x.bundle))) 0 15 6 rfl kd82 (fun _ h => h) rfl rfl rfl rfl ?_
        refine VL.go rfl rfl rfl ?_
        refine VL.build0 (cs := cat (bundleV (bundle0))) built82 ?_
        refine VL.go rfl rfl rfl ?_
        refine VL.eqT guard82 rfl rfl (eqBundle hx.bundle bundle0_ok) (fun b h1_17 => ?_)
        cases b
        · have h1_17 := mt h1_17.2 (by decide)
          refine VL.pick_t rfl rfl ?_
          refine VL.move rfl ?_
          refine VL.pass rfl rfl rfl rfl rfl ?_
          refine VL.pass rfl rfl rfl rfl rfl ?_
          refine VL.pass rfl rfl rfl rfl rfl ?_
          refine VL.pick_f rfl rfl ?_
          refine VL.assign rfl ?_
          refine VL.nil ?_
          refine VX.next ?_
          refine VC.ret ?_
          refine VX.ret1 rfl rfl (fun we hw => ?_)
          refine ⟨false, rfl, ?_, hw.drop.sub (fun _ hs => by repeat (first | exact hs | apply List.mem_cons_of_mem))⟩
          unfold bareP
          simp [h1_2, h1_6, h1_11, h1_17]
        · have h1_17 := h1_17.1 rfl
          refine VL.pick_t rfl rfl ?_
          refine VL.move rfl ?_
          refine VL.go rfl rfl rfl ?_
          refine VL.fieldAddr rfl fo87_5 rfl ?_
          refine VL.go rfl rfl rfl ?_
          refine VL.loads (cs := cat (objectV (x.object) q d)) 0 21 7 rfl kd85 (fun _ h => h) rfl rfl rfl rfl ?_
          refine VL.go rfl rfl rfl ?_
          refine VL.call Try.func163 rfl (by decide) rfl (fun w' hw => emptyObject_w hw (x := x.object) hx.object) (fun v => ?_)
          refine VL.ex fun b => VL.fact fun e => VL.fact fun h1_22 => ?_
          subst e
          cases b
          · have h1_22 := mt h1_22.2 (by decide)
            refine VL.pick_t rfl rfl ?_
            refine VL.assign rfl ?_
            refine VL.nil ?_
            refine VX.next ?_
            refine VC.ret ?_
            refine VX.ret1 rfl rfl (fun we hw => ?_)
            refine ⟨false, rfl, ?_, hw.drop.sub (fun _ hs => by repeat (first | exact hs | apply List.mem_cons_of_mem))⟩
            unfold bareP
            simp [h1_2, h1_6, h1_11, h1_17, h1_22]
          · have h1_22 := h1_22.1 rfl
            refine VL.pick_t rfl rfl ?_
            refine VL.assign rfl ?_
            refine VL.nil ?_
            refine VX.next ?_
            refine VC.ret ?_
            refine VX.ret1 rfl rfl (fun we hw => ?_)
            refine ⟨true, rfl, ?_, hw.drop.sub (fun _ hs => by repeat (first | exact hs | apply List.mem_cons_of_mem))⟩
            unfold bareP
            simp [h1_2, h1_6, h1_11, h1_17, h1_22]
    · have h1_6 : ¬ x.peer = 0 := by omega
      refine VL.pick_t rfl rfl ?_
      refine VL.move rfl ?_
      refine VL.pass rfl rfl rfl rfl rfl ?_
      refine VL.pass rfl rfl rfl rfl rfl ?_
      refine VL.pass rfl rfl rfl rfl rfl ?_
      refine VL.pick_f rfl rfl ?_
      refine VL.move rfl ?_
      refine VL.pass rfl rfl rfl rfl rfl ?_
      refine VL.pass rfl rfl rfl rfl rfl ?_
      refine VL.pass rfl rfl rfl rfl rfl ?_
      refine VL.pass rfl rfl rfl rfl rfl ?_
      refine VL.pick_f rfl rfl ?_
      refine VL.move rfl ?_
      refine VL.pass rfl rfl rfl rfl rfl ?_
      refine VL.pass rfl rfl rfl rfl rfl ?_
      refine VL.pass rfl rfl rfl rfl rfl ?_
      refine VL.pick_f rfl rfl ?_
      refine VL.assign rfl ?_
      refine VL.nil ?_
      refine VX.next ?_
      refine VC.ret ?_
      refine VX.ret1 rfl rfl (fun we hw => ?_)
      refine ⟨false, rfl, ?_, hw.drop.sub (fun _ hs => by repeat (first | exact hs | apply List.mem_cons_of_mem))⟩
      unfold bareP
      simp [h1_2, h1_6]
  · have h1_2 : ¬ x.asker = 0 := by omega
    refine VL.move rfl ?_
    refine VL.pass rfl rfl rfl rfl rfl ?_
    refine VL.pass rfl rfl rfl rfl rfl ?_
    refine VL.pass rfl rfl rfl rfl rfl ?_
    refine VL.pick_f rfl rfl ?_
    refine VL.move rfl ?_
    refine VL.pass rfl rfl rfl rfl rfl ?_
    refine VL.pass rfl rfl rfl rfl rfl ?_
    refine VL.pass rfl rfl rfl rfl rfl ?_
    refine VL.pick_f rfl rfl ?_
    refine VL.move rfl ?_
    refine VL.pass rfl rfl rfl rfl rfl ?_
    refine VL.pass rfl rfl rfl rfl rfl ?_
    refine VL.pass rfl rfl rfl rfl rfl ?_
    refine VL.pass rfl rfl rfl rfl rfl ?_
    refine VL.pick_f rfl rfl ?_
    refine VL.move rfl ?_
    refine VL.pass rfl rfl rfl rfl rfl ?_
    refine VL.pass rfl rfl rfl rfl rfl ?_
    refine VL.pass rfl rfl rfl rfl rfl ?_
    refine VL.pick_f rfl rfl ?_
    refine VL.assign rfl ?_
    refine VL.nil ?_
    refine VX.next ?_
    refine VC.ret ?_
    refine VX.ret1 rfl rfl (fun we hw => ?_)
    refine ⟨false, rfl, ?_, hw.drop.sub (fun _ hs => by repeat (first | exact hs | apply List.mem_cons_of_mem))⟩
    unfold bareP
    simp [h1_2]

theorem putItem_w {S : List Snap} {H : List Chunk} {w : World} (ho : Own S H w) {x : Itm} (hx : x.ok) {p : Option Addr} {c : Nat} (hA : Bytes (keys H) w p x.letter.body c) {q : Option Addr} {d : Nat} (hV : Arr 65 vouchR (keys H) w q x.object.vouches d) : Calls Try.prog 56 #[.agg (cat (itemV x p c q d)).toArray] w (RetO S H (itemO x)) := by
  have hx1 := hx.kind
  have hx2 := hx.asker
  have hx3 := hx.peer
  refine enter (G := Own (⟨w, keys H⟩ :: S) H) ho.keep Try.func56 rfl Try.ntmps56 rfl ?_
  refine VC.seq ?_
  refine VC.region ?_
  refine VL.box (L := itemL) (ps := (itemV (x) p c q d)) rfl rfl (itemV_len hx) (fun g1 => ?_)
  refine VL.assign rfl ?_
  refine VL.assign rfl ?_
  refine VL.nil ?_
  refine VX.next ?_
  refine VC.seq ?_
  refine VC.region ?_
  refine VL.build (zs := [[.slice none 0 0], [.bool false]]) [] plan181 rfl trivial rfl ?_
  refine VL.box (L := [1, 1]) (ps := [[rowV none 0 0], [.bool false]]) rfl rfl rfl (fun g2 => ?_)
  refine VL.turn (fun w' hw => Own.newW hw) ?_
  refine VL.assign rfl ?_
  refine VL.nil ?_
  refine VX.next ?_
  refine VC.seq ?_
  refine VC.region ?_
  refine VL.move rfl ?_
  refine VL.fieldAddr rfl fo87_0 rfl ?_
  refine VL.load (v := .int .u8 (x.kind)) 2 0 rfl kd5 (fun _ h => h) rfl rfl rfl ?_
  refine VL.conv (by rw [Try.underlying5]; rfl) Try.underlying22 rfl (inr_u64 (by omega)) ?_
  refine VL.call Try.func116 rfl (by decide) rfl (fun w' hw => num_w hw (by simp only [List.length_append, List.length_cons, List.length_nil, List.length_map]; omega) (x.kind) (fits_small (by omega)) 1 (by decide) (by decide) (fits1 (by omega))) (fun v => ?_)
  refine VL.fact fun e5 => ?_
  subst e5
  refine VL.ex fun gp3 => VL.ex fun c4 => ?_
  refine VL.nil ?_
  refine VX.next ?_
  refine VC.seq ?_
  refine VC.seq ?_
  refine VC.region ?_
  refine VL.fieldAddr rfl fo87_0 rfl ?_
  refine VL.load (v := .int .u8 (x.kind)) 2 0 rfl kd5 (fun _ h => h) rfl rfl rfl ?_
  refine VL.nil ?_
  refine VX.next ?_
  refine VC.block ?_
  refine VC.seq ?_
  refine VC.region ?_
  refine VL.eql rfl rfl ?_
  refine VL.case (fun h5_0 => ?_) (fun h5_0 => ?_)
  · have h5_0 : x.kind = 1 := by omega
    refine VL.assign rfl ?_
    refine VL.nil ?_
    refine VX.next ?_
    refine VC.yes rfl ?_
    refine VC.seq ?_
    refine VC.region ?_
    refine VL.move rfl ?_
    refine VL.fieldAddr rfl fo87_3 rfl ?_
    refine VL.loads (cs := cat (letterV (x.letter) p c)) 2 3 12 rfl kd72 (fun _ h => h) rfl rfl rfl rfl ?_
    refine VL.call Try.func50 rfl (by decide) rfl (fun w' hw => putLetter_w hw (x := x.letter) hx.letter (hA.now (s := ⟨w, _⟩) Mono.byte hw (by repeat (first | exact List.mem_cons_self .. | apply List.mem_cons_of_mem)))) (fun v => ?_)
    refine VL.at (fun w6 h1w => ?_)
    obtain ⟨p7, c8, rfl, hO10, hA9⟩ := h1w
    refine VL.toOwn hO10 ?_
    refine VL.extract rfl rfl ?_
    refine VL.extract rfl rfl ?_
    refine VL.call Try.func117 rfl (by decide) rfl (fun w' hw => piece_w hw (by simp only [List.length_append, List.length_cons, List.length_nil, List.length_map]; omega) (hA9.now (s := ⟨w6, _⟩) Mono.byte hw (by repeat (first | exact List.mem_cons_self .. | apply List.mem_cons_of_mem))) (((letterO (x.letter)).isSome))) (fun v => ?_)
    refine VL.fact fun e13 => ?_
    subst e13
    refine VL.ex fun gp11 => VL.ex fun c12 => ?_
    refine VL.nil ?_
    refine VX.next ?_
    refine VC.region ?_
    refine VL.build0 (cs := cat (letterV (letter0) none 0)) built72 ?_
    refine VL.fieldAddr rfl fo87_3 rfl ?_
    refine VL.store (L := itemL) (qs := (letterV (letter0) none 0)) (ps' := [[.int .u8 (x.kind)], [.int .u8 (x.asker)], [.int .u8 (x.peer)], [.int .u8 (letter0.src)], [.int .u8 (letter0.dst)], (letter0.header.session).map bv, [.bool letter0.header.first], (letter0.header.agree).map bv, (letter0.header.signer).map bv, (letter0.header.base).map bv, [.int .u16 (letter0.header.id)], (letter0.header.ratchet).map bv, [.int .u16 (letter0.header.n)], [.int .u16 (letter0.header.prev)], [.slice none ([]).length 0], [.int .u8 (x.bundle.device)], (x.bundle.agree).map bv, (x.bundle.signer).map bv, [.int .u16 (x.bundle.id)], (x.bundle.once).map bv, (x.bundle.sig).map bv, [.int .u8 (x.object.server)], [.int .u8 (x.object.n)], (x.object.key).map bv, [.int .u32 (x.object.since)], [.int .u32 (x.object.till)], (x.object.sig).map bv, [.slice q (x.object.vouches).length d]]) 2 3 12 rfl rfl rfl (.inl kd72) rfl rfl rfl (letterV_ok1 letter0 none 0) rfl rfl ?_
    refine VL.turn (G' := Own _ (wblk g2 gp11 c12 (((([] : List (List UInt8)) ++ [be 1 (x.kind)]) ++ [((letterO (x.letter)).getD [])])).length (false || !((letterO (x.letter)).isSome)) :: brow gp11 c12 (((([] : List (List UInt8)) ++ [be 1 (x.kind)]) ++ [((letterO (x.letter)).getD [])])) :: blk g1 87 itemL [[.int .u8 (x.kind)], [.int .u8 (x.asker)], [.int .u8 (x.peer)], [.int .u8 (letter0.src)], [.int .u8 (letter0.dst)], (letter0.header.session).map bv, [.bool letter0.header.first], (letter0.header.agree).map bv, (letter0.header.signer).map bv, (letter0.header.base).map bv, [.int .u16 (letter0.header.id)], (letter0.header.ratchet).map bv, [.int .u16 (letter0.header.n)], [.int .u16 (letter0.header.prev)], [.slice none ([]).length 0], [.int .u8 (x.bundle.device)], (x.bundle.agree).map bv, (x.bundle.signer).map bv, [.int .u16 (x.bundle.id)], (x.bundle.once).map bv, (x.bundle.sig).map bv, [.int .u8 (x.object.server)], [.int .u8 (x.object.n)], (x.object.key).map bv, [.int .u32 (x.object.since)], [.int .u32 (x.object.till)], (x.object.sig).map bv, [.slice q (x.object.vouches).length d]] :: H)) (fun _ h => h) ?_
    refine VL.nil ?_
    refine VX.block_normal ?_
    refine VX.next ?_
    refine VC.seq ?_
    refine VC.seq ?_
    refine VC.region ?_
    refine VL.loads (cs := cat (itemV ((itemA x)) none 0 q d)) 2 0 28 rfl kd87 (fun _ h => h) rfl rfl rfl rfl ?_
    refine VL.call Try.func127 rfl (by decide) rfl (fun w' hw => bare_w hw (x := (itemA x)) (itemA_ok hx)) (fun v => ?_)
    refine VL.ex fun b => VL.fact fun e => VL.fact fun h21_1 => ?_
    subst e
    cases b
    · have h21_1 := mt h21_1.2 (by decide)
      refine VL.not rfl ?_
      refine VL.nil ?_
      refine VX.next ?_
      refine VC.yes rfl ?_
      refine VC.seq ?_
      refine VC.region ?_
      refine VL.assign rfl ?_
      refine VL.assign rfl ?_
      refine VL.nil ?_
      refine VX.next ?_
      refine VC.ret ?_
      refine VX.then_ret ?_
      refine VX.ret2 rfl rfl rfl (fun we hw => ?_)
      exact postO ((item1_n h5_0 h21_1)) ⟨none, 0, rfl, hw.drop.drop.drop.sub (fun _ hs => by repeat (first | exact hs | apply List.mem_cons_of_mem)), Arr.none⟩
    · have h21_1 := h21_1.1 rfl
      refine VL.not rfl ?_
      refine VL.nil ?_
      refine VX.next ?_
      refine VC.no rfl ?_
      refine VC.skip ?_
      refine VX.next ?_
      refine VC.seq ?_
      refine VC.region ?_
      refine VL.move rfl ?_
      refine VL.call Try.func118 rfl (by decide) rfl (fun w' hw => done_O hw) (fun v => ?_)
      refine VL.at (fun w14 h1w => ?_)
      obtain ⟨p15, c16, rfl, hO18, hA17⟩ := h1w
      refine VL.toOwn hO18 ?_
      refine VL.extract rfl rfl ?_
      refine VL.extract rfl rfl ?_
      refine VL.assign rfl ?_
      refine VL.assign rfl ?_
      refine VL.nil ?_
      refine VX.next ?_
      refine VC.ret ?_
      refine VX.ret2 rfl rfl rfl (fun we hw => ?_)
      exact postO (((by cases hs : (letterO x.letter).isSome <;> rfl : joinO ([be 1 x.kind, (letterO x.letter).getD []]) (!(false || !(letterO x.letter).isSome)) = joinO [be 1 x.kind, (letterO x.letter).getD []] (letterO x.letter).isSome).trans (item1_y h5_0 h21_1))) ⟨p15, c16, rfl, hw.drop.sub (fun _ hs => by repeat (first | exact hs | apply List.mem_cons_of_mem)), (hA17.now (s := ⟨w14, _⟩) Mono.byte hw.drop (by repeat (first | exact List.mem_cons_self .. | apply List.mem_cons_of_mem)))⟩
  · have h5_0 : x.kind ≠ 1 := by omega
    refine VL.assign rfl ?_
    refine VL.nil ?_
    refine VX.next ?_
    refine VC.no rfl ?_
    refine VC.seq ?_
    refine VC.seq ?_
    refine VC.region ?_
    refine VL.eql rfl rfl ?_
    refine VL.case (fun h8_0 => ?_) (fun h8_0 => ?_)
    · have h8_0 : x.kind = 2 := by omega
      refine VL.assign rfl ?_
      refine VL.nil ?_
      refine VX.next ?_
      refine VC.yes rfl ?_
      refine VC.skip ?_
      refine VX.next ?_
      refine VC.yes rfl ?_
      refine VC.seq ?_
      refine VC.region ?_
      refine VL.move rfl ?_
      refine VL.fieldAddr rfl fo87_1 rfl ?_
      refine VL.load (v := .int .u8 (x.asker)) 2 1 rfl kd5 (fun _ h => h) rfl rfl rfl ?_
      refine VL.conv (by rw [Try.underlying5]; rfl) Try.underlying22 rfl (inr_u64 (by omega)) ?_
      refine VL.call Try.func116 rfl (by decide) rfl (fun w' hw => num_w hw (by simp only [List.length_append, List.length_cons, List.length_nil, List.length_map]; omega) (x.asker) (fits_small (by omega)) 1 (by decide) (by decide) (fits1 (by omega))) (fun v => ?_)
      refine VL.fact fun e21 => ?_
      subst e21
      refine VL.ex fun gp19 => VL.ex fun c20 => ?_
      refine VL.nil ?_
      refine VX.next ?_
      refine VC.seq ?_
      refine VC.region ?_
      refine VL.move rfl ?_
      refine VL.fieldAddr rfl fo87_2 rfl ?_
      refine VL.load (v := .int .u8 (x.peer)) 2 2 rfl kd5 (fun _ h => h) rfl rfl rfl ?_
      refine VL.conv (by rw [Try.underlying5]; rfl) Try.underlying22 rfl (inr_u64 (by omega)) ?_
      refine VL.call Try.func116 rfl (by decide) rfl (fun w' hw => num_w hw (by simp only [List.length_append, List.length_cons, List.length_nil, List.length_map]; omega) (x.peer) (fits_small (by omega)) 1 (by decide) (by decide) (fits1 (by omega))) (fun v => ?_)
      refine VL.fact fun e24 => ?_
      subst e24
      refine VL.ex fun gp22 => VL.ex fun c23 => ?_
      refine VL.nil ?_
      refine VX.next ?_
      refine VC.region ?_
      refine VL.fieldAddr rfl fo87_1 rfl ?_
      refine VL.store (L := itemL) (qs := [[.int .u8 (0)]]) (ps' := [[.int .u8 (x.kind)], [.int .u8 (0)], [.int .u8 (x.peer)], [.int .u8 (x.letter.src)], [.int .u8 (x.letter.dst)], (x.letter.header.session).map bv, [.bool x.letter.header.first], (x.letter.header.agree).map bv, (x.letter.header.signer).map bv, (x.letter.header.base).map bv, [.int .u16 (x.letter.header.id)], (x.letter.header.ratchet).map bv, [.int .u16 (x.letter.header.n)], [.int .u16 (x.letter.header.prev)], [.slice p (x.letter.body).length c], [.int .u8 (x.bundle.device)], (x.bundle.agree).map bv, (x.bundle.signer).map bv, [.int .u16 (x.bundle.id)], (x.bundle.once).map bv, (x.bundle.sig).map bv, [.int .u8 (x.object.server)], [.int .u8 (x.object.n)], (x.object.key).map bv, [.int .u32 (x.object.since)], [.int .u32 (x.object.till)], (x.object.sig).map bv, [.slice q (x.object.vouches).length d]]) 2 1 1 rfl rfl rfl (.inr ⟨kd5, rfl⟩) rfl rfl rfl (by intro u hu; simp [cat] at hu; subst hu; rfl) rfl rfl ?_
      refine VL.turn (G' := Own _ (wblk g2 gp22 c23 ((((([] : List (List UInt8)) ++ [be 1 (x.kind)]) ++ [be 1 (x.asker)]) ++ [be 1 (x.peer)])).length false :: brow gp22 c23 ((((([] : List (List UInt8)) ++ [be 1 (x.kind)]) ++ [be 1 (x.asker)]) ++ [be 1 (x.peer)])) :: blk g1 87 itemL [[.int .u8 (x.kind)], [.int .u8 (0)], [.int .u8 (x.peer)], [.int .u8 (x.letter.src)], [.int .u8 (x.letter.dst)], (x.letter.header.session).map bv, [.bool x.letter.header.first], (x.letter.header.agree).map bv, (x.letter.header.signer).map bv, (x.letter.header.base).map bv, [.int .u16 (x.letter.header.id)], (x.letter.header.ratchet).map bv, [.int .u16 (x.letter.header.n)], [.int .u16 (x.letter.header.prev)], [.slice p (x.letter.body).length c], [.int .u8 (x.bundle.device)], (x.bundle.agree).map bv, (x.bundle.signer).map bv, [.int .u16 (x.bundle.id)], (x.bundle.once).map bv, (x.bundle.sig).map bv, [.int .u8 (x.object.server)], [.int .u8 (x.object.n)], (x.object.key).map bv, [.int .u32 (x.object.since)], [.int .u32 (x.object.till)], (x.object.sig).map bv, [.slice q (x.object.vouches).length d]] :: H)) (fun _ h => h) ?_
      refine VL.fieldAddr rfl fo87_2 rfl ?_
      refine VL.store (L := itemL) (qs := [[.int .u8 (0)]]) (ps' := [[.int .u8 (x.kind)], [.int .u8 (0)], [.int .u8 (0)], [.int .u8 (x.letter.src)], [.int .u8 (x.letter.dst)], (x.letter.header.session).map bv, [.bool x.letter.header.first], (x.letter.header.agree).map bv, (x.letter.header.signer).map bv, (x.letter.header.base).map bv, [.int .u16 (x.letter.header.id)], (x.letter.header.ratchet).map bv, [.int .u16 (x.letter.header.n)], [.int .u16 (x.letter.header.prev)], [.slice p (x.letter.body).length c], [.int .u8 (x.bundle.device)], (x.bundle.agree).map bv, (x.bundle.signer).map bv, [.int .u16 (x.bundle.id)], (x.bundle.once).map bv, (x.bundle.sig).map bv, [.int .u8 (x.object.server)], [.int .u8 (x.object.n)], (x.object.key).map bv, [.int .u32 (x.object.since)], [.int .u32 (x.object.till)], (x.object.sig).map bv, [.slice q (x.object.vouches).length d]]) 2 2 1 rfl rfl rfl (.inr ⟨kd5, rfl⟩) rfl rfl rfl (by intro u hu; simp [cat] at hu; subst hu; rfl) rfl rfl ?_
      refine VL.turn (G' := Own _ (wblk g2 gp22 c23 ((((([] : List (List UInt8)) ++ [be 1 (x.kind)]) ++ [be 1 (x.asker)]) ++ [be 1 (x.peer)])).length false :: brow gp22 c23 ((((([] : List (List UInt8)) ++ [be 1 (x.kind)]) ++ [be 1 (x.asker)]) ++ [be 1 (x.peer)])) :: blk g1 87 itemL [[.int .u8 (x.kind)], [.int .u8 (0)], [.int .u8 (0)], [.int .u8 (x.letter.src)], [.int .u8 (x.letter.dst)], (x.letter.header.session).map bv, [.bool x.letter.header.first], (x.letter.header.agree).map bv, (x.letter.header.signer).map bv, (x.letter.header.base).map bv, [.int .u16 (x.letter.header.id)], (x.letter.header.ratchet).map bv, [.int .u16 (x.letter.header.n)], [.int .u16 (x.letter.header.prev)], [.slice p (x.letter.body).length c], [.int .u8 (x.bundle.device)], (x.bundle.agree).map bv, (x.bundle.signer).map bv, [.int .u16 (x.bundle.id)], (x.bundle.once).map bv, (x.bundle.sig).map bv, [.int .u8 (x.object.server)], [.int .u8 (x.object.n)], (x.object.key).map bv, [.int .u32 (x.object.since)], [.int .u32 (x.object.till)], (x.object.sig).map bv, [.slice q (x.object.vouches).length d]] :: H)) (fun _ h => h) ?_
      refine VL.nil ?_
      refine VX.block_normal ?_
      refine VX.next ?_
      refine VC.seq ?_
      refine VC.seq ?_
      refine VC.region ?_
      refine VL.loads (cs := cat (itemV ((itemB x)) p c q d)) 2 0 28 rfl kd87 (fun _ h => h) rfl rfl rfl rfl ?_
      refine VL.call Try.func127 rfl (by decide) rfl (fun w' hw => bare_w hw (x := (itemB x)) (itemB_ok hx)) (fun v => ?_)
      refine VL.ex fun b => VL.fact fun e => VL.fact fun h21_1 => ?_
      subst e
      cases b
      · have h21_1 := mt h21_1.2 (by decide)
        refine VL.not rfl ?_
        refine VL.nil ?_
        refine VX.next ?_
        refine VC.yes rfl ?_
        refine VC.seq ?_
        refine VC.region ?_
        refine VL.assign rfl ?_
        refine VL.assign rfl ?_
        refine VL.nil ?_
        refine VX.next ?_
        refine VC.ret ?_
        refine VX.then_ret ?_
        refine VX.ret2 rfl rfl rfl (fun we hw => ?_)
        exact postO ((item2_n (.inl h8_0) h21_1)) ⟨none, 0, rfl, hw.drop.drop.drop.sub (fun _ hs => by repeat (first | exact hs | apply List.mem_cons_of_mem)), Arr.none⟩
      · have h21_1 := h21_1.1 rfl
        refine VL.not rfl ?_
        refine VL.nil ?_
        refine VX.next ?_
        refine VC.no rfl ?_
        refine VC.skip ?_
        refine VX.next ?_
        refine VC.seq ?_
        refine VC.region ?_
        refine VL.move rfl ?_
        refine VL.call Try.func118 rfl (by decide) rfl (fun w' hw => done_O hw) (fun v => ?_)
        refine VL.at (fun w25 h1w => ?_)
        obtain ⟨p26, c27, rfl, hO29, hA28⟩ := h1w
        refine VL.toOwn hO29 ?_
        refine VL.extract rfl rfl ?_
        refine VL.extract rfl rfl ?_
        refine VL.assign rfl ?_
        refine VL.assign rfl ?_
        refine VL.nil ?_
        refine VX.next ?_
        refine VC.ret ?_
        refine VX.ret2 rfl rfl rfl (fun we hw => ?_)
        exact postO ((item2_y (.inl h8_0) h21_1)) ⟨p26, c27, rfl, hw.drop.sub (fun _ hs => by repeat (first | exact hs | apply List.mem_cons_of_mem)), (hA28.now (s := ⟨w25, _⟩) Mono.byte hw.drop (by repeat (first | exact List.mem_cons_self .. | apply List.mem_cons_of_mem)))⟩
    · have h8_0 : x.kind ≠ 2 := by omega
      refine VL.assign rfl ?_
      refine VL.nil ?_
      refine VX.next ?_
      refine VC.no rfl ?_
      refine VC.region ?_
      refine VL.eql rfl rfl ?_
      refine VL.case (fun h9_0 => ?_) (fun h9_0 => ?_)
      · have h9_0 : x.kind = 4 := by omega
        refine VL.assign rfl ?_
        refine VL.nil ?_
        refine VX.next ?_
        refine VC.yes rfl ?_
        refine VC.seq ?_
        refine VC.region ?_
        refine VL.move rfl ?_
        refine VL.fieldAddr rfl fo87_1 rfl ?_
        refine VL.load (v := .int .u8 (x.asker)) 2 1 rfl kd5 (fun _ h => h) rfl rfl rfl ?_
        refine VL.conv (by rw [Try.underlying5]; rfl) Try.underlying22 rfl (inr_u64 (by omega)) ?_
        refine VL.call Try.func116 rfl (by decide) rfl (fun w' hw => num_w hw (by simp only [List.length_append, List.length_cons, List.length_nil, List.length_map]; omega) (x.asker) (fits_small (by omega)) 1 (by decide) (by decide) (fits1 (by omega))) (fun v => ?_)
        refine VL.fact fun e32 => ?_
        subst e32
        refine VL.ex fun gp30 => VL.ex fun c31 => ?_
        refine VL.nil ?_
        refine VX.next ?_
        refine VC.seq ?_
        refine VC.region ?_
        refine VL.move rfl ?_
        refine VL.fieldAddr rfl fo87_2 rfl ?_
        refine VL.load (v := .int .u8 (x.peer)) 2 2 rfl kd5 (fun _ h => h) rfl rfl rfl ?_
        refine VL.conv (by rw [Try.underlying5]; rfl) Try.underlying22 rfl (inr_u64 (by omega)) ?_
        refine VL.call Try.func116 rfl (by decide) rfl (fun w' hw => num_w hw (by simp only [List.length_append, List.length_cons, List.length_nil, List.length_map]; omega) (x.peer) (fits_small (by omega)) 1 (by decide) (by decide) (fits1 (by omega))) (fun v => ?_)
        refine VL.fact fun e35 => ?_
        subst e35
        refine VL.ex fun gp33 => VL.ex fun c34 => ?_
        refine VL.nil ?_
        refine VX.next ?_
        refine VC.region ?_
        refine VL.fieldAddr rfl fo87_1 rfl ?_
        refine VL.store (L := itemL) (qs := [[.int .u8 (0)]]) (ps' := [[.int .u8 (x.kind)], [.int .u8 (0)], [.int .u8 (x.peer)], [.int .u8 (x.letter.src)], [.int .u8 (x.letter.dst)], (x.letter.header.session).map bv, [.bool x.letter.header.first], (x.letter.header.agree).map bv, (x.letter.header.signer).map bv, (x.letter.header.base).map bv, [.int .u16 (x.letter.header.id)], (x.letter.header.ratchet).map bv, [.int .u16 (x.letter.header.n)], [.int .u16 (x.letter.header.prev)], [.slice p (x.letter.body).length c], [.int .u8 (x.bundle.device)], (x.bundle.agree).map bv, (x.bundle.signer).map bv, [.int .u16 (x.bundle.id)], (x.bundle.once).map bv, (x.bundle.sig).map bv, [.int .u8 (x.object.server)], [.int .u8 (x.object.n)], (x.object.key).map bv, [.int .u32 (x.object.since)], [.int .u32 (x.object.till)], (x.object.sig).map bv, [.slice q (x.object.vouches).length d]]) 2 1 1 rfl rfl rfl (.inr ⟨kd5, rfl⟩) rfl rfl rfl (by intro u hu; simp [cat] at hu; subst hu; rfl) rfl rfl ?_
        refine VL.turn (G' := Own _ (wblk g2 gp33 c34 ((((([] : List (List UInt8)) ++ [be 1 (x.kind)]) ++ [be 1 (x.asker)]) ++ [be 1 (x.peer)])).length false :: brow gp33 c34 ((((([] : List (List UInt8)) ++ [be 1 (x.kind)]) ++ [be 1 (x.asker)]) ++ [be 1 (x.peer)])) :: blk g1 87 itemL [[.int .u8 (x.kind)], [.int .u8 (0)], [.int .u8 (x.peer)], [.int .u8 (x.letter.src)], [.int .u8 (x.letter.dst)], (x.letter.header.session).map bv, [.bool x.letter.header.first], (x.letter.header.agree).map bv, (x.letter.header.signer).map bv, (x.letter.header.base).map bv, [.int .u16 (x.letter.header.id)], (x.letter.header.ratchet).map bv, [.int .u16 (x.letter.header.n)], [.int .u16 (x.letter.header.prev)], [.slice p (x.letter.body).length c], [.int .u8 (x.bundle.device)], (x.bundle.agree).map bv, (x.bundle.signer).map bv, [.int .u16 (x.bundle.id)], (x.bundle.once).map bv, (x.bundle.sig).map bv, [.int .u8 (x.object.server)], [.int .u8 (x.object.n)], (x.object.key).map bv, [.int .u32 (x.object.since)], [.int .u32 (x.object.till)], (x.object.sig).map bv, [.slice q (x.object.vouches).length d]] :: H)) (fun _ h => h) ?_
        refine VL.fieldAddr rfl fo87_2 rfl ?_
        refine VL.store (L := itemL) (qs := [[.int .u8 (0)]]) (ps' := [[.int .u8 (x.kind)], [.int .u8 (0)], [.int .u8 (0)], [.int .u8 (x.letter.src)], [.int .u8 (x.letter.dst)], (x.letter.header.session).map bv, [.bool x.letter.header.first], (x.letter.header.agree).map bv, (x.letter.header.signer).map bv, (x.letter.header.base).map bv, [.int .u16 (x.letter.header.id)], (x.letter.header.ratchet).map bv, [.int .u16 (x.letter.header.n)], [.int .u16 (x.letter.header.prev)], [.slice p (x.letter.body).length c], [.int .u8 (x.bundle.device)], (x.bundle.agree).map bv, (x.bundle.signer).map bv, [.int .u16 (x.bundle.id)], (x.bundle.once).map bv, (x.bundle.sig).map bv, [.int .u8 (x.object.server)], [.int .u8 (x.object.n)], (x.object.key).map bv, [.int .u32 (x.object.since)], [.int .u32 (x.object.till)], (x.object.sig).map bv, [.slice q (x.object.vouches).length d]]) 2 2 1 rfl rfl rfl (.inr ⟨kd5, rfl⟩) rfl rfl rfl (by intro u hu; simp [cat] at hu; subst hu; rfl) rfl rfl ?_
        refine VL.turn (G' := Own _ (wblk g2 gp33 c34 ((((([] : List (List UInt8)) ++ [be 1 (x.kind)]) ++ [be 1 (x.asker)]) ++ [be 1 (x.peer)])).length false :: brow gp33 c34 ((((([] : List (List UInt8)) ++ [be 1 (x.kind)]) ++ [be 1 (x.asker)]) ++ [be 1 (x.peer)])) :: blk g1 87 itemL [[.int .u8 (x.kind)], [.int .u8 (0)], [.int .u8 (0)], [.int .u8 (x.letter.src)], [.int .u8 (x.letter.dst)], (x.letter.header.session).map bv, [.bool x.letter.header.first], (x.letter.header.agree).map bv, (x.letter.header.signer).map bv, (x.letter.header.base).map bv, [.int .u16 (x.letter.header.id)], (x.letter.header.ratchet).map bv, [.int .u16 (x.letter.header.n)], [.int .u16 (x.letter.header.prev)], [.slice p (x.letter.body).length c], [.int .u8 (x.bundle.device)], (x.bundle.agree).map bv, (x.bundle.signer).map bv, [.int .u16 (x.bundle.id)], (x.bundle.once).map bv, (x.bundle.sig).map bv, [.int .u8 (x.object.server)], [.int .u8 (x.object.n)], (x.object.key).map bv, [.int .u32 (x.object.since)], [.int .u32 (x.object.till)], (x.object.sig).map bv, [.slice q (x.object.vouches).length d]] :: H)) (fun _ h => h) ?_
        refine VL.nil ?_
        refine VX.block_normal ?_
        refine VX.next ?_
        refine VC.seq ?_
        refine VC.seq ?_
        refine VC.region ?_
        refine VL.loads (cs := cat (itemV ((itemB x)) p c q d)) 2 0 28 rfl kd87 (fun _ h => h) rfl rfl rfl rfl ?_
        refine VL.call Try.func127 rfl (by decide) rfl (fun w' hw => bare_w hw (x := (itemB x)) (itemB_ok hx)) (fun v => ?_)
        refine VL.ex fun b => VL.fact fun e => VL.fact fun h21_1 => ?_
        subst e
        cases b
        · have h21_1 := mt h21_1.2 (by decide)
          refine VL.not rfl ?_
          refine VL.nil ?_
          refine VX.next ?_
          refine VC.yes rfl ?_
          refine VC.seq ?_
          refine VC.region ?_
          refine VL.assign rfl ?_
          refine VL.assign rfl ?_
          refine VL.nil ?_
          refine VX.next ?_
          refine VC.ret ?_
          refine VX.then_ret ?_
          refine VX.ret2 rfl rfl rfl (fun we hw => ?_)
          exact postO ((item2_n (.inr h9_0) h21_1)) ⟨none, 0, rfl, hw.drop.drop.drop.sub (fun _ hs => by repeat (first | exact hs | apply List.mem_cons_of_mem)), Arr.none⟩
        · have h21_1 := h21_1.1 rfl
          refine VL.not rfl ?_
          refine VL.nil ?_
          refine VX.next ?_
          refine VC.no rfl ?_
          refine VC.skip ?_
          refine VX.next ?_
          refine VC.seq ?_
          refine VC.region ?_
          refine VL.move rfl ?_
          refine VL.call Try.func118 rfl (by decide) rfl (fun w' hw => done_O hw) (fun v => ?_)
          refine VL.at (fun w36 h1w => ?_)
          obtain ⟨p37, c38, rfl, hO40, hA39⟩ := h1w
          refine VL.toOwn hO40 ?_
          refine VL.extract rfl rfl ?_
          refine VL.extract rfl rfl ?_
          refine VL.assign rfl ?_
          refine VL.assign rfl ?_
          refine VL.nil ?_
          refine VX.next ?_
          refine VC.ret ?_
          refine VX.ret2 rfl rfl rfl (fun we hw => ?_)
          exact postO ((item2_y (.inr h9_0) h21_1)) ⟨p37, c38, rfl, hw.drop.sub (fun _ hs => by repeat (first | exact hs | apply List.mem_cons_of_mem)), (hA39.now (s := ⟨w36, _⟩) Mono.byte hw.drop (by repeat (first | exact List.mem_cons_self .. | apply List.mem_cons_of_mem)))⟩
      · have h9_0 : x.kind ≠ 4 := by omega
        refine VL.assign rfl ?_
        refine VL.nil ?_
        refine VX.next ?_
        refine VC.no rfl ?_
        refine VC.seq ?_
        refine VC.region ?_
        refine VL.eql rfl rfl ?_
        refine VL.case (fun h13_0 => ?_) (fun h13_0 => ?_)
        · have h13_0 : x.kind = 3 := by omega
          refine VL.assign rfl ?_
          refine VL.nil ?_
          refine VX.next ?_
          refine VC.yes rfl ?_
          refine VC.seq ?_
          refine VC.region ?_
          refine VL.move rfl ?_
          refine VL.fieldAddr rfl fo87_1 rfl ?_
          refine VL.load (v := .int .u8 (x.asker)) 2 1 rfl kd5 (fun _ h => h) rfl rfl rfl ?_
          refine VL.conv (by rw [Try.underlying5]; rfl) Try.underlying22 rfl (inr_u64 (by omega)) ?_
          refine VL.call Try.func116 rfl (by decide) rfl (fun w' hw => num_w hw (by simp only [List.length_append, List.length_cons, List.length_nil, List.length_map]; omega) (x.asker) (fits_small (by omega)) 1 (by decide) (by decide) (fits1 (by omega))) (fun v => ?_)
          refine VL.fact fun e43 => ?_
          subst e43
          refine VL.ex fun gp41 => VL.ex fun c42 => ?_
          refine VL.nil ?_
          refine VX.next ?_
          refine VC.seq ?_
          refine VC.region ?_
          refine VL.move rfl ?_
          refine VL.fieldAddr rfl fo87_4 rfl ?_
          refine VL.loads (cs := cat (bundleV (x.bundle))) 2 15 6 rfl kd82 (fun _ h => h) rfl rfl rfl rfl ?_
          refine VL.call Try.func60 rfl (by decide) rfl (fun w' hw => putBundle_w hw (x := x.bundle) hx.bundle) (fun v => ?_)
          refine VL.at (fun w44 h1w => ?_)
          obtain ⟨p45, c46, rfl, hO48, hA47⟩ := h1w
          refine VL.toOwn hO48 ?_
          refine VL.extract rfl rfl ?_
          refine VL.extract rfl rfl ?_
          refine VL.call Try.func117 rfl (by decide) rfl (fun w' hw => piece_w hw (by simp only [List.length_append, List.length_cons, List.length_nil, List.length_map]; omega) (hA47.now (s := ⟨w44, _⟩) Mono.byte hw (by repeat (first | exact List.mem_cons_self .. | apply List.mem_cons_of_mem))) (((some (bundleB (x.bundle))).isSome))) (fun v => ?_)
          refine VL.fact fun e51 => ?_
          subst e51
          refine VL.ex fun gp49 => VL.ex fun c50 => ?_
          refine VL.nil ?_
          refine VX.next ?_
          refine VC.region ?_
          refine VL.build0 (cs := cat (bundleV (bundle0))) built82 ?_
          refine VL.fieldAddr rfl fo87_1 rfl ?_
          refine VL.store (L := itemL) (qs := [[.int .u8 (0)]]) (ps' := [[.int .u8 (x.kind)], [.int .u8 (0)], [.int .u8 (x.peer)], [.int .u8 (x.letter.src)], [.int .u8 (x.letter.dst)], (x.letter.header.session).map bv, [.bool x.letter.header.first], (x.letter.header.agree).map bv, (x.letter.header.signer).map bv, (x.letter.header.base).map bv, [.int .u16 (x.letter.header.id)], (x.letter.header.ratchet).map bv, [.int .u16 (x.letter.header.n)], [.int .u16 (x.letter.header.prev)], [.slice p (x.letter.body).length c], [.int .u8 (x.bundle.device)], (x.bundle.agree).map bv, (x.bundle.signer).map bv, [.int .u16 (x.bundle.id)], (x.bundle.once).map bv, (x.bundle.sig).map bv, [.int .u8 (x.object.server)], [.int .u8 (x.object.n)], (x.object.key).map bv, [.int .u32 (x.object.since)], [.int .u32 (x.object.till)], (x.object.sig).map bv, [.slice q (x.object.vouches).length d]]) 2 1 1 rfl rfl rfl (.inr ⟨kd5, rfl⟩) rfl rfl rfl (by intro u hu; simp [cat] at hu; subst hu; rfl) rfl rfl ?_
          refine VL.turn (G' := Own _ (wblk g2 gp49 c50 ((((([] : List (List UInt8)) ++ [be 1 (x.kind)]) ++ [be 1 (x.asker)]) ++ [((some (bundleB (x.bundle))).getD [])])).length (false || !((some (bundleB (x.bundle))).isSome)) :: brow gp49 c50 ((((([] : List (List UInt8)) ++ [be 1 (x.kind)]) ++ [be 1 (x.asker)]) ++ [((some (bundleB (x.bundle))).getD [])])) :: blk g1 87 itemL [[.int .u8 (x.kind)], [.int .u8 (0)], [.int .u8 (x.peer)], [.int .u8 (x.letter.src)], [.int .u8 (x.letter.dst)], (x.letter.header.session).map bv, [.bool x.letter.header.first], (x.letter.header.agree).map bv, (x.letter.header.signer).map bv, (x.letter.header.base).map bv, [.int .u16 (x.letter.header.id)], (x.letter.header.ratchet).map bv, [.int .u16 (x.letter.header.n)], [.int .u16 (x.letter.header.prev)], [.slice p (x.letter.body).length c], [.int .u8 (x.bundle.device)], (x.bundle.agree).map bv, (x.bundle.signer).map bv, [.int .u16 (x.bundle.id)], (x.bundle.once).map bv, (x.bundle.sig).map bv, [.int .u8 (x.object.server)], [.int .u8 (x.object.n)], (x.object.key).map bv, [.int .u32 (x.object.since)], [.int .u32 (x.object.till)], (x.object.sig).map bv, [.slice q (x.object.vouches).length d]] :: H)) (fun _ h => h) ?_
          refine VL.fieldAddr rfl fo87_4 rfl ?_
          refine VL.store (L := itemL) (qs := (bundleV (bundle0))) (ps' := [[.int .u8 (x.kind)], [.int .u8 (0)], [.int .u8 (x.peer)], [.int .u8 (x.letter.src)], [.int .u8 (x.letter.dst)], (x.letter.header.session).map bv, [.bool x.letter.header.first], (x.letter.header.agree).map bv, (x.letter.header.signer).map bv, (x.letter.header.base).map bv, [.int .u16 (x.letter.header.id)], (x.letter.header.ratchet).map bv, [.int .u16 (x.letter.header.n)], [.int .u16 (x.letter.header.prev)], [.slice p (x.letter.body).length c], [.int .u8 (bundle0.device)], (bundle0.agree).map bv, (bundle0.signer).map bv, [.int .u16 (bundle0.id)], (bundle0.once).map bv, (bundle0.sig).map bv, [.int .u8 (x.object.server)], [.int .u8 (x.object.n)], (x.object.key).map bv, [.int .u32 (x.object.since)], [.int .u32 (x.object.till)], (x.object.sig).map bv, [.slice q (x.object.vouches).length d]]) 2 15 6 rfl rfl rfl (.inl kd82) rfl rfl rfl (bundleV_ok1 bundle0) rfl rfl ?_
          refine VL.turn (G' := Own _ (wblk g2 gp49 c50 ((((([] : List (List UInt8)) ++ [be 1 (x.kind)]) ++ [be 1 (x.asker)]) ++ [((some (bundleB (x.bundle))).getD [])])).length (false || !((some (bundleB (x.bundle))).isSome)) :: brow gp49 c50 ((((([] : List (List UInt8)) ++ [be 1 (x.kind)]) ++ [be 1 (x.asker)]) ++ [((some (bundleB (x.bundle))).getD [])])) :: blk g1 87 itemL [[.int .u8 (x.kind)], [.int .u8 (0)], [.int .u8 (x.peer)], [.int .u8 (x.letter.src)], [.int .u8 (x.letter.dst)], (x.letter.header.session).map bv, [.bool x.letter.header.first], (x.letter.header.agree).map bv, (x.letter.header.signer).map bv, (x.letter.header.base).map bv, [.int .u16 (x.letter.header.id)], (x.letter.header.ratchet).map bv, [.int .u16 (x.letter.header.n)], [.int .u16 (x.letter.header.prev)], [.slice p (x.letter.body).length c], [.int .u8 (bundle0.device)], (bundle0.agree).map bv, (bundle0.signer).map bv, [.int .u16 (bundle0.id)], (bundle0.once).map bv, (bundle0.sig).map bv, [.int .u8 (x.object.server)], [.int .u8 (x.object.n)], (x.object.key).map bv, [.int .u32 (x.object.since)], [.int .u32 (x.object.till)], (x.object.sig).map bv, [.slice q (x.object.vouches).length d]] :: H)) (fun _ h => h) ?_
          refine VL.nil ?_
          refine VX.block_normal ?_
          refine VX.next ?_
          refine VC.seq ?_
          refine VC.seq ?_
          refine VC.region ?_
          refine VL.loads (cs := cat (itemV ((itemC x)) p c q d)) 2 0 28 rfl kd87 (fun _ h => h) rfl rfl rfl rfl ?_
          refine VL.call Try.func127 rfl (by decide) rfl (fun w' hw => bare_w hw (x := (itemC x)) (itemC_ok hx)) (fun v => ?_)
          refine VL.ex fun b => VL.fact fun e => VL.fact fun h21_1 => ?_
          subst e
          cases b
          · have h21_1 := mt h21_1.2 (by decide)
            refine VL.not rfl ?_
            refine VL.nil ?_
            refine VX.next ?_
            refine VC.yes rfl ?_
            refine VC.seq ?_
            refine VC.region ?_
            refine VL.assign rfl ?_
            refine VL.assign rfl ?_
            refine VL.nil ?_
            refine VX.next ?_
            refine VC.ret ?_
            refine VX.then_ret ?_
            refine VX.ret2 rfl rfl rfl (fun we hw => ?_)
            exact postO ((item3_n h13_0 h21_1)) ⟨none, 0, rfl, hw.drop.drop.drop.sub (fun _ hs => by repeat (first | exact hs | apply List.mem_cons_of_mem)), Arr.none⟩
          · have h21_1 := h21_1.1 rfl
            refine VL.not rfl ?_
            refine VL.nil ?_
            refine VX.next ?_
            refine VC.no rfl ?_
            refine VC.skip ?_
            refine VX.next ?_
            refine VC.seq ?_
            refine VC.region ?_
            refine VL.move rfl ?_
            refine VL.call Try.func118 rfl (by decide) rfl (fun w' hw => done_O hw) (fun v => ?_)
            refine VL.at (fun w52 h1w => ?_)
            obtain ⟨p53, c54, rfl, hO56, hA55⟩ := h1w
            refine VL.toOwn hO56 ?_
            refine VL.extract rfl rfl ?_
            refine VL.extract rfl rfl ?_
            refine VL.assign rfl ?_
            refine VL.assign rfl ?_
            refine VL.nil ?_
            refine VX.next ?_
            refine VC.ret ?_
            refine VX.ret2 rfl rfl rfl (fun we hw => ?_)
            exact postO ((item3_y h13_0 h21_1)) ⟨p53, c54, rfl, hw.drop.sub (fun _ hs => by repeat (first | exact hs | apply List.mem_cons_of_mem)), (hA55.now (s := ⟨w52, _⟩) Mono.byte hw.drop (by repeat (first | exact List.mem_cons_self .. | apply List.mem_cons_of_mem)))⟩
        · have h13_0 : x.kind ≠ 3 := by omega
          refine VL.assign rfl ?_
          refine VL.nil ?_
          refine VX.next ?_
          refine VC.no rfl ?_
          refine VC.seq ?_
          refine VC.seq ?_
          refine VC.region ?_
          refine VL.eql rfl rfl ?_
          refine VL.case (fun h17_0 => ?_) (fun h17_0 => ?_)
          · have h17_0 : x.kind = 5 := by omega
            refine VL.assign rfl ?_
            refine VL.nil ?_
            refine VX.next ?_
            refine VC.yes rfl ?_
            refine VC.skip ?_
            refine VX.next ?_
            refine VC.yes rfl ?_
            refine VC.seq ?_
            refine VC.region ?_
            refine VL.move rfl ?_
            refine VL.fieldAddr rfl fo87_5 rfl ?_
            refine VL.loads (cs := cat (objectV (x.object) q d)) 2 21 7 rfl kd85 (fun _ h => h) rfl rfl rfl rfl ?_
            refine VL.call Try.func65 rfl (by decide) rfl (fun w' hw => putObject_w hw (x := x.object) hx.object (hV.now (s := ⟨w, _⟩) Mono_vouch hw (by repeat (first | exact List.mem_cons_self .. | apply List.mem_cons_of_mem)))) (fun v => ?_)
            refine VL.at (fun w57 h1w => ?_)
            obtain ⟨p58, c59, rfl, hO61, hA60⟩ := h1w
            refine VL.toOwn hO61 ?_
            refine VL.extract rfl rfl ?_
            refine VL.extract rfl rfl ?_
            refine VL.call Try.func117 rfl (by decide) rfl (fun w' hw => piece_w hw (by simp only [List.length_append, List.length_cons, List.length_nil, List.length_map]; omega) (hA60.now (s := ⟨w57, _⟩) Mono.byte hw (by repeat (first | exact List.mem_cons_self .. | apply List.mem_cons_of_mem))) (((objectO (x.object)).isSome))) (fun v => ?_)
            refine VL.fact fun e64 => ?_
            subst e64
            refine VL.ex fun gp62 => VL.ex fun c63 => ?_
            refine VL.nil ?_
            refine VX.next ?_
            refine VC.region ?_
            refine VL.build0 (cs := cat (objectV (object0) none 0)) built85 ?_
            refine VL.fieldAddr rfl fo87_5 rfl ?_
            refine VL.store (L := itemL) (qs := (objectV (object0) none 0)) (ps' := [[.int .u8 (x.kind)], [.int .u8 (x.asker)], [.int .u8 (x.peer)], [.int .u8 (x.letter.src)], [.int .u8 (x.letter.dst)], (x.letter.header.session).map bv, [.bool x.letter.header.first], (x.letter.header.agree).map bv, (x.letter.header.signer).map bv, (x.letter.header.base).map bv, [.int .u16 (x.letter.header.id)], (x.letter.header.ratchet).map bv, [.int .u16 (x.letter.header.n)], [.int .u16 (x.letter.header.prev)], [.slice p (x.letter.body).length c], [.int .u8 (x.bundle.device)], (x.bundle.agree).map bv, (x.bundle.signer).map bv, [.int .u16 (x.bundle.id)], (x.bundle.once).map bv, (x.bundle.sig).map bv, [.int .u8 (object0.server)], [.int .u8 (object0.n)], (object0.key).map bv, [.int .u32 (object0.since)], [.int .u32 (object0.till)], (object0.sig).map bv, [.slice none ([]).length 0]]) 2 21 7 rfl rfl rfl (.inl kd85) rfl rfl rfl (objectV_ok1 object0 none 0) rfl rfl ?_
            refine VL.turn (G' := Own _ (wblk g2 gp62 c63 (((([] : List (List UInt8)) ++ [be 1 (x.kind)]) ++ [((objectO (x.object)).getD [])])).length (false || !((objectO (x.object)).isSome)) :: brow gp62 c63 (((([] : List (List UInt8)) ++ [be 1 (x.kind)]) ++ [((objectO (x.object)).getD [])])) :: blk g1 87 itemL [[.int .u8 (x.kind)], [.int .u8 (x.asker)], [.int .u8 (x.peer)], [.int .u8 (x.letter.src)], [.int .u8 (x.letter.dst)], (x.letter.header.session).map bv, [.bool x.letter.header.first], (x.letter.header.agree).map bv, (x.letter.header.signer).map bv, (x.letter.header.base).map bv, [.int .u16 (x.letter.header.id)], (x.letter.header.ratchet).map bv, [.int .u16 (x.letter.header.n)], [.int .u16 (x.letter.header.prev)], [.slice p (x.letter.body).length c], [.int .u8 (x.bundle.device)], (x.bundle.agree).map bv, (x.bundle.signer).map bv, [.int .u16 (x.bundle.id)], (x.bundle.once).map bv, (x.bundle.sig).map bv, [.int .u8 (object0.server)], [.int .u8 (object0.n)], (object0.key).map bv, [.int .u32 (object0.since)], [.int .u32 (object0.till)], (object0.sig).map bv, [.slice none ([]).length 0]] :: H)) (fun _ h => h) ?_
            refine VL.nil ?_
            refine VX.block_normal ?_
            refine VX.next ?_
            refine VC.seq ?_
            refine VC.seq ?_
            refine VC.region ?_
            refine VL.loads (cs := cat (itemV ((itemD x)) p c none 0)) 2 0 28 rfl kd87 (fun _ h => h) rfl rfl rfl rfl ?_
            refine VL.call Try.func127 rfl (by decide) rfl (fun w' hw => bare_w hw (x := (itemD x)) (itemD_ok hx)) (fun v => ?_)
            refine VL.ex fun b => VL.fact fun e => VL.fact fun h21_1 => ?_
            subst e
            cases b
            · have h21_1 := mt h21_1.2 (by decide)
              refine VL.not rfl ?_
              refine VL.nil ?_
              refine VX.next ?_
              refine VC.yes rfl ?_
              refine VC.seq ?_
              refine VC.region ?_
              refine VL.assign rfl ?_
              refine VL.assign rfl ?_
              refine VL.nil ?_
              refine VX.next ?_
              refine VC.ret ?_
              refine VX.then_ret ?_
              refine VX.ret2 rfl rfl rfl (fun we hw => ?_)
              exact postO ((item5_n (.inl h17_0) h21_1)) ⟨none, 0, rfl, hw.drop.drop.drop.sub (fun _ hs => by repeat (first | exact hs | apply List.mem_cons_of_mem)), Arr.none⟩
            · have h21_1 := h21_1.1 rfl
              refine VL.not rfl ?_
              refine VL.nil ?_
              refine VX.next ?_
              refine VC.no rfl ?_
              refine VC.skip ?_
              refine VX.next ?_
              refine VC.seq ?_
              refine VC.region ?_
              refine VL.move rfl ?_
              refine VL.call Try.func118 rfl (by decide) rfl (fun w' hw => done_O hw) (fun v => ?_)
              refine VL.at (fun w65 h1w => ?_)
              obtain ⟨p66, c67, rfl, hO69, hA68⟩ := h1w
              refine VL.toOwn hO69 ?_
              refine VL.extract rfl rfl ?_
              refine VL.extract rfl rfl ?_
              refine VL.assign rfl ?_
              refine VL.assign rfl ?_
              refine VL.nil ?_
              refine VX.next ?_
              refine VC.ret ?_
              refine VX.ret2 rfl rfl rfl (fun we hw => ?_)
              exact postO (((by cases hs : (objectO x.object).isSome <;> rfl : joinO ([be 1 x.kind, (objectO x.object).getD []]) (!(false || !(objectO x.object).isSome)) = joinO [be 1 x.kind, (objectO x.object).getD []] (objectO x.object).isSome).trans (item5_y (.inl h17_0) h21_1))) ⟨p66, c67, rfl, hw.drop.sub (fun _ hs => by repeat (first | exact hs | apply List.mem_cons_of_mem)), (hA68.now (s := ⟨w65, _⟩) Mono.byte hw.drop (by repeat (first | exact List.mem_cons_self .. | apply List.mem_cons_of_mem)))⟩
          · have h17_0 : x.kind ≠ 5 := by omega
            refine VL.assign rfl ?_
            refine VL.nil ?_
            refine VX.next ?_
            refine VC.no rfl ?_
            refine VC.region ?_
            refine VL.eql rfl rfl ?_
            refine VL.case (fun h18_0 => ?_) (fun h18_0 => ?_)
            · have h18_0 : x.kind = 6 := by omega
              refine VL.assign rfl ?_
              refine VL.nil ?_
              refine VX.next ?_
              refine VC.yes rfl ?_
              refine VC.seq ?_
              refine VC.region ?_
              refine VL.move rfl ?_
              refine VL.fieldAddr rfl fo87_5 rfl ?_
              refine VL.loads (cs := cat (objectV (x.object) q d)) 2 21 7 rfl kd85 (fun _ h => h) rfl rfl rfl rfl ?_
              refine VL.call Try.func65 rfl (by decide) rfl (fun w' hw => putObject_w hw (x := x.object) hx.object (hV.now (s := ⟨w, _⟩) Mono_vouch hw (by repeat (first | exact List.mem_cons_self .. | apply List.mem_cons_of_mem)))) (fun v => ?_)
              refine VL.at (fun w70 h1w => ?_)
              obtain ⟨p71, c72, rfl, hO74, hA73⟩ := h1w
              refine VL.toOwn hO74 ?_
              refine VL.extract rfl rfl ?_
              refine VL.extract rfl rfl ?_
              refine VL.call Try.func117 rfl (by decide) rfl (fun w' hw => piece_w hw (by simp only [List.length_append, List.length_cons, List.length_nil, List.length_map]; omega) (hA73.now (s := ⟨w70, _⟩) Mono.byte hw (by repeat (first | exact List.mem_cons_self .. | apply List.mem_cons_of_mem))) (((objectO (x.object)).isSome))) (fun v => ?_)
              refine VL.fact fun e77 => ?_
              subst e77
              refine VL.ex fun gp75 => VL.ex fun c76 => ?_
              refine VL.nil ?_
              refine VX.next ?_
              refine VC.region ?_
              refine VL.build0 (cs := cat (objectV (object0) none 0)) built85 ?_
              refine VL.fieldAddr rfl fo87_5 rfl ?_
              refine VL.store (L := itemL) (qs := (objectV (object0) none 0)) (ps' := [[.int .u8 (x.kind)], [.int .u8 (x.asker)], [.int .u8 (x.peer)], [.int .u8 (x.letter.src)], [.int .u8 (x.letter.dst)], (x.letter.header.session).map bv, [.bool x.letter.header.first], (x.letter.header.agree).map bv, (x.letter.header.signer).map bv, (x.letter.header.base).map bv, [.int .u16 (x.letter.header.id)], (x.letter.header.ratchet).map bv, [.int .u16 (x.letter.header.n)], [.int .u16 (x.letter.header.prev)], [.slice p (x.letter.body).length c], [.int .u8 (x.bundle.device)], (x.bundle.agree).map bv, (x.bundle.signer).map bv, [.int .u16 (x.bundle.id)], (x.bundle.once).map bv, (x.bundle.sig).map bv, [.int .u8 (object0.server)], [.int .u8 (object0.n)], (object0.key).map bv, [.int .u32 (object0.since)], [.int .u32 (object0.till)], (object0.sig).map bv, [.slice none ([]).length 0]]) 2 21 7 rfl rfl rfl (.inl kd85) rfl rfl rfl (objectV_ok1 object0 none 0) rfl rfl ?_
              refine VL.turn (G' := Own _ (wblk g2 gp75 c76 (((([] : List (List UInt8)) ++ [be 1 (x.kind)]) ++ [((objectO (x.object)).getD [])])).length (false || !((objectO (x.object)).isSome)) :: brow gp75 c76 (((([] : List (List UInt8)) ++ [be 1 (x.kind)]) ++ [((objectO (x.object)).getD [])])) :: blk g1 87 itemL [[.int .u8 (x.kind)], [.int .u8 (x.asker)], [.int .u8 (x.peer)], [.int .u8 (x.letter.src)], [.int .u8 (x.letter.dst)], (x.letter.header.session).map bv, [.bool x.letter.header.first], (x.letter.header.agree).map bv, (x.letter.header.signer).map bv, (x.letter.header.base).map bv, [.int .u16 (x.letter.header.id)], (x.letter.header.ratchet).map bv, [.int .u16 (x.letter.header.n)], [.int .u16 (x.letter.header.prev)], [.slice p (x.letter.body).length c], [.int .u8 (x.bundle.device)], (x.bundle.agree).map bv, (x.bundle.signer).map bv, [.int .u16 (x.bundle.id)], (x.bundle.once).map bv, (x.bundle.sig).map bv, [.int .u8 (object0.server)], [.int .u8 (object0.n)], (object0.key).map bv, [.int .u32 (object0.since)], [.int .u32 (object0.till)], (object0.sig).map bv, [.slice none ([]).length 0]] :: H)) (fun _ h => h) ?_
              refine VL.nil ?_
              refine VX.block_normal ?_
              refine VX.next ?_
              refine VC.seq ?_
              refine VC.seq ?_
              refine VC.region ?_
              refine VL.loads (cs := cat (itemV ((itemD x)) p c none 0)) 2 0 28 rfl kd87 (fun _ h => h) rfl rfl rfl rfl ?_
              refine VL.call Try.func127 rfl (by decide) rfl (fun w' hw => bare_w hw (x := (itemD x)) (itemD_ok hx)) (fun v => ?_)
              refine VL.ex fun b => VL.fact fun e => VL.fact fun h21_1 => ?_
              subst e
              cases b
              · have h21_1 := mt h21_1.2 (by decide)
                refine VL.not rfl ?_
                refine VL.nil ?_
                refine VX.next ?_
                refine VC.yes rfl ?_
                refine VC.seq ?_
                refine VC.region ?_
                refine VL.assign rfl ?_
                refine VL.assign rfl ?_
                refine VL.nil ?_
                refine VX.next ?_
                refine VC.ret ?_
                refine VX.then_ret ?_
                refine VX.ret2 rfl rfl rfl (fun we hw => ?_)
                exact postO ((item5_n (.inr h18_0) h21_1)) ⟨none, 0, rfl, hw.drop.drop.drop.sub (fun _ hs => by repeat (first | exact hs | apply List.mem_cons_of_mem)), Arr.none⟩
              · have h21_1 := h21_1.1 rfl
                refine VL.not rfl ?_
                refine VL.nil ?_
                refine VX.next ?_
                refine VC.no rfl ?_
                refine VC.skip ?_
                refine VX.next ?_
                refine VC.seq ?_
                refine VC.region ?_
                refine VL.move rfl ?_
                refine VL.call Try.func118 rfl (by decide) rfl (fun w' hw => done_O hw) (fun v => ?_)
                refine VL.at (fun w78 h1w => ?_)
                obtain ⟨p79, c80, rfl, hO82, hA81⟩ := h1w
                refine VL.toOwn hO82 ?_
                refine VL.extract rfl rfl ?_
                refine VL.extract rfl rfl ?_
                refine VL.assign rfl ?_
                refine VL.assign rfl ?_
                refine VL.nil ?_
                refine VX.next ?_
                refine VC.ret ?_
                refine VX.ret2 rfl rfl rfl (fun we hw => ?_)
                exact postO (((by cases hs : (objectO x.object).isSome <;> rfl : joinO ([be 1 x.kind, (objectO x.object).getD []]) (!(false || !(objectO x.object).isSome)) = joinO [be 1 x.kind, (objectO x.object).getD []] (objectO x.object).isSome).trans (item5_y (.inr h18_0) h21_1))) ⟨p79, c80, rfl, hw.drop.sub (fun _ hs => by repeat (first | exact hs | apply List.mem_cons_of_mem)), (hA81.now (s := ⟨w78, _⟩) Mono.byte hw.drop (by repeat (first | exact List.mem_cons_self .. | apply List.mem_cons_of_mem)))⟩
            · have h18_0 : x.kind ≠ 6 := by omega
              refine VL.assign rfl ?_
              refine VL.nil ?_
              refine VX.next ?_
              refine VC.no rfl ?_
              refine VC.seq ?_
              refine VC.region ?_
              refine VL.assign rfl ?_
              refine VL.assign rfl ?_
              refine VL.nil ?_
              refine VX.next ?_
              refine VC.ret ?_
              refine VX.block_ret ?_
              refine VX.then_ret ?_
              refine VX.ret2 rfl rfl rfl (fun we hw => ?_)
              exact postO ((item0_n h5_0 h8_0 h13_0 h9_0 h17_0 h18_0)) ⟨none, 0, rfl, hw.drop.drop.drop.sub (fun _ hs => by repeat (first | exact hs | apply List.mem_cons_of_mem)), Arr.none⟩

end Go.Proofs.Ytcfecmoagfgnaaa
