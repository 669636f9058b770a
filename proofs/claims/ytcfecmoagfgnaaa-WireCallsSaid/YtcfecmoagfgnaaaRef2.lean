/- The law on letters. -/
import Derived.Test.YtcfecmoagfgnaaaRef1
import Derived.Test.YtcfecmoagfgnaaaFr2
namespace Go.Proofs.Ytcfecmoagfgnaaa
open Go.Vc Go.Pl

theorem sameLetters_w {S : List Snap} {H : List Chunk} {w : World} (ho : Own S H w) {x : Letter} (hx : x.ok) {p : Option Addr} {c : Nat} (hA : Bytes (keys H) w p x.body c) {q : Option Addr} {d : Nat} (hB : Bytes (keys H) w q x.body d) : Calls Try.prog 55 #[.agg (cat (letterV x p c)).toArray, .agg (cat (letterV x q d)).toArray] w (Ret fun v w' => v = .bool true ∧ Own S H w') := by
  refine enter (G := Own (⟨w, keys H⟩ :: S) H) ho.keep Try.func55 rfl Try.ntmps55 rfl ?_
  refine VC.seq ?_
  refine VC.region ?_
  refine VL.box (L := letterL) (ps := (letterV (x) p c)) rfl rfl (letterV_len hx) (fun g1 => ?_)
  refine VL.box (L := letterL) (ps := (letterV (x) q d)) rfl rfl (letterV_len hx) (fun g2 => ?_)
  refine VL.assign rfl ?_
  refine VL.nil ?_
  refine VX.next ?_
  refine VC.seq ?_
  refine VC.region ?_
  refine VL.fieldAddr rfl fo72_0 rfl ?_
  refine VL.load (v := .int .u8 (x.src)) 1 0 rfl kd5 (fun _ h => h) rfl rfl rfl ?_
  refine VL.fieldAddr rfl fo72_0 rfl ?_
  refine VL.load (v := .int .u8 (x.src)) 0 0 rfl kd5 (fun _ h => h) rfl rfl rfl ?_
  refine VL.eql rfl rfl ?_
  refine VL.yes (by omega) ?_
  refine VL.move rfl ?_
  refine VL.go rfl rfl rfl ?_
  refine VL.fieldAddr rfl fo72_1 rfl ?_
  refine VL.go rfl rfl rfl ?_
  refine VL.load (v := .int .u8 (x.dst)) 1 1 rfl kd5 (fun _ h => h) rfl rfl rfl ?_
  refine VL.go rfl rfl rfl ?_
  refine VL.fieldAddr rfl fo72_1 rfl ?_
  refine VL.go rfl rfl rfl ?_
  refine VL.load (v := .int .u8 (x.dst)) 0 1 rfl kd5 (fun _ h => h) rfl rfl rfl ?_
  refine VL.go rfl rfl rfl ?_
  refine VL.eql rfl rfl ?_
  refine VL.yes (by omega) ?_
  refine VL.pick_t rfl rfl ?_
  refine VL.move rfl ?_
  refine VL.go rfl rfl rfl ?_
  refine VL.fieldAddr rfl fo72_2 rfl ?_
  refine VL.go rfl rfl rfl ?_
  refine VL.loads (cs := cat (headerV (x.header))) 1 2 9 rfl kd70 (fun _ h => h) rfl rfl rfl rfl ?_
  refine VL.go rfl rfl rfl ?_
  refine VL.fieldAddr rfl fo72_2 rfl ?_
  refine VL.go rfl rfl rfl ?_
  refine VL.loads (cs := cat (headerV (x.header))) 0 2 9 rfl kd70 (fun _ h => h) rfl rfl rfl rfl ?_
  refine VL.go rfl rfl rfl ?_
  refine VL.eqT guard70 rfl rfl (eqHeader hx.header hx.header) (fun b h => ?_)
  obtain rfl : b = true := h.2 rfl
  refine VL.pick_t rfl rfl ?_
  refine VL.move rfl ?_
  refine VL.go rfl rfl rfl ?_
  refine VL.fieldAddr rfl fo72_3 rfl ?_
  refine VL.go rfl rfl rfl ?_
  refine VL.load (v := .slice p (x.body).length c) 1 11 rfl kd24 (fun _ h => h) rfl rfl rfl ?_
  refine VL.go rfl rfl rfl ?_
  refine VL.fieldAddr rfl fo72_3 rfl ?_
  refine VL.go rfl rfl rfl ?_
  refine VL.load (v := .slice q (x.body).length d) 0 11 rfl kd24 (fun _ h => h) rfl rfl rfl ?_
  refine VL.go rfl rfl rfl ?_
  refine VL.call Try.func27 rfl (by decide) rfl (fun w' hw => bytes_T hw (hA.now (s := ⟨w, _⟩) Mono.byte hw (by repeat (first | exact List.mem_cons_self .. | apply List.mem_cons_of_mem))) (hB.now (s := ⟨w, _⟩) Mono.byte hw (by repeat (first | exact List.mem_cons_self .. | apply List.mem_cons_of_mem))) rfl) (fun v => ?_)
  refine VL.fact fun e3 => ?_
  subst e3
  refine VL.pick_t rfl rfl ?_
  refine VL.assign rfl ?_
  refine VL.nil ?_
  refine VX.next ?_
  refine VC.ret ?_
  refine VX.ret1 rfl rfl (fun we hw => ?_)
  exact ⟨rfl, hw.drop.drop.sub (fun _ hs => by repeat (first | exact hs | apply List.mem_cons_of_mem))⟩

theorem sameLetters_e {S : List Snap} {H : List Chunk} {w : World} (ho : Own S H w) {x y : Letter} (hx : x.ok) {p : Option Addr} {c : Nat} (hA : Bytes (keys H) w p x.body c) {q : Option Addr} {d : Nat} (hB : Bytes (keys H) w q y.body d) (e : y = x) : Calls Try.prog 55 #[.agg (cat (letterV x p c)).toArray, .agg (cat (letterV y q d)).toArray] w (Ret fun v w' => v = .bool true ∧ Own S H w') := by
  subst e; exact sameLetters_w ho hx hA hB
theorem letter_back {x : Letter} (hx : x.ok) (h : (letterO x).isSome = true) : letterR ((letterO x).getD []) = some x := by
  obtain ⟨l, hl⟩ := Option.isSome_iff_exists.1 h
  rw [hl]
  exact letterR_iff.2 ⟨hx, hl⟩
theorem err_0 {α : Type} {o : Option α} {x : α} (h : o = some x) : (((if o.isSome then 0 else 141 : Nat)) : Int) = 0 := by rw [h]; rfl
theorem back_is {α : Type} {o : Option α} {x z : α} (h : o = some x) : o.getD z = x := by rw [h]; rfl

theorem wireLetters_w {S : List Snap} {H : List Chunk} {w : World} (ho : Own S H w) {x : Letter} (hx : x.ok) {p : Option Addr} {c : Nat} (hA : Bytes (keys H) w p x.body c) : Calls Try.prog 12 #[.agg (cat (letterV x p c)).toArray] w (Ret fun v w' => v = .bool true ∧ Own S H w') := by
  refine enter (G := Own (⟨w, keys H⟩ :: S) H) ho.keep Try.func12 rfl Try.ntmps12 rfl ?_
  refine VC.seq ?_
  refine VC.region ?_
  refine VL.box (L := letterL) (ps := (letterV (x) p c)) rfl rfl (letterV_len hx) (fun g1 => ?_)
  refine VL.assign rfl ?_
  refine VL.nil ?_
  refine VX.next ?_
  refine VC.seq ?_
  refine VC.seq ?_
  refine VC.region ?_
  refine VL.call Try.func49 rfl (by decide) rfl (fun w' hw => alive_w hw) (fun v => ?_)
  refine VL.fact fun e2 => ?_
  subst e2
  refine VL.not rfl ?_
  refine VL.nil ?_
  refine VX.next ?_
  refine VC.no rfl ?_
  refine VC.skip ?_
  refine VX.next ?_
  refine VC.seq ?_
  refine VC.region ?_
  refine VL.loads (cs := cat (letterV (x) p c)) 0 0 12 rfl kd72 (fun _ h => h) rfl rfl rfl rfl ?_
  refine VL.call Try.func50 rfl (by decide) rfl (fun w' hw => putLetter_w hw (x := x) hx (hA.now (s := ⟨w, _⟩) Mono.byte hw (by repeat (first | exact List.mem_cons_self .. | apply List.mem_cons_of_mem)))) (fun v => ?_)
  refine VL.at (fun w3 h1w => ?_)
  obtain ⟨p4, c5, rfl, hO7, hA6⟩ := h1w
  refine VL.toOwn hO7 ?_
  refine VL.move rfl ?_
  refine VL.extract rfl rfl ?_
  refine VL.extract rfl rfl ?_
  refine VL.assign rfl ?_
  refine VL.assign rfl ?_
  refine VL.nil ?_
  refine VX.next ?_
  refine VC.seq ?_
  refine VC.region ?_
  refine VL.loads (cs := cat (letterV (x) p c)) 0 0 12 rfl kd72 (fun _ h => h) rfl rfl rfl rfl ?_
  refine VL.call Try.func51 rfl (by decide) rfl (fun w' hw => refLetter_w hw (x := x) hx (hA.now (s := ⟨w, _⟩) Mono.byte hw (by repeat (first | exact List.mem_cons_self .. | apply List.mem_cons_of_mem)))) (fun v => ?_)
  refine VL.at (fun w8 h1w => ?_)
  obtain ⟨p9, c10, rfl, hO12, hA11⟩ := h1w
  refine VL.toOwn hO12 ?_
  refine VL.move rfl ?_
  refine VL.extract rfl rfl ?_
  refine VL.extract rfl rfl ?_
  refine VL.assign rfl ?_
  refine VL.assign rfl ?_
  refine VL.nil ?_
  refine VX.next ?_
  refine VC.seq ?_
  refine VC.region ?_
  refine VL.fieldAddr rfl fo72_2 rfl ?_
  refine VL.loads (cs := cat (headerV (x.header))) 0 2 9 rfl kd70 (fun _ h => h) rfl rfl rfl rfl ?_
  refine VL.call Try.func52 rfl (by decide) rfl (fun w' hw => headerBytes_w hw (x := x.header) hx.header) (fun v => ?_)
  refine VL.at (fun w13 h1w => ?_)
  obtain ⟨p14, c15, rfl, hO17, hA16⟩ := h1w
  refine VL.toOwn hO17 ?_
  refine VL.move rfl ?_
  refine VL.extract rfl rfl ?_
  refine VL.extract rfl rfl ?_
  refine VL.assign rfl ?_
  refine VL.assign rfl ?_
  refine VL.nil ?_
  refine VX.next ?_
  refine VC.seq ?_
  refine VC.region ?_
  refine VL.fieldAddr rfl fo72_2 rfl ?_
  refine VL.loads (cs := cat (headerV (x.header))) 0 2 9 rfl kd70 (fun _ h => h) rfl rfl rfl rfl ?_
  refine VL.call Try.func53 rfl (by decide) rfl (fun w' hw => refHeader_w hw (x := x.header) hx.header) (fun v => ?_)
  refine VL.at (fun w18 h1w => ?_)
  obtain ⟨p19, c20, rfl, hO22, hA21⟩ := h1w
  refine VL.toOwn hO22 ?_
  refine VL.move rfl ?_
  refine VL.extract rfl rfl ?_
  refine VL.extract rfl rfl ?_
  refine VL.assign rfl ?_
  refine VL.assign rfl ?_
  refine VL.nil ?_
  refine VX.next ?_
  refine VC.seq ?_
  refine VC.seq ?_
  refine VC.region ?_
  refine VL.move rfl ?_
  refine VL.move rfl ?_
  refine VL.neb Try.underlying4 rfl rfl ?_
  refine VL.sets (show _ = false by simp) ?_
  refine VL.move rfl ?_
  refine VL.go rfl rfl rfl ?_
  refine VL.move rfl ?_
  refine VL.go rfl rfl rfl ?_
  refine VL.move rfl ?_
  refine VL.go rfl rfl rfl ?_
  refine VL.call Try.func27 rfl (by decide) rfl (fun w' hw => bytes_T hw (hA6.now (s := ⟨w3, _⟩) Mono.byte hw (by repeat (first | exact List.mem_cons_self .. | apply List.mem_cons_of_mem))) (hA11.now (s := ⟨w8, _⟩) Mono.byte hw (by repeat (first | exact List.mem_cons_self .. | apply List.mem_cons_of_mem))) rfl) (fun v => ?_)
  refine VL.fact fun e23 => ?_
  subst e23
  refine VL.go rfl rfl rfl ?_
  refine VL.not rfl ?_
  refine VL.pick_f rfl rfl ?_
  refine VL.move rfl ?_
  refine VL.go rfl rfl rfl ?_
  refine VL.move rfl ?_
  refine VL.go rfl rfl rfl ?_
  refine VL.move rfl ?_
  refine VL.go rfl rfl rfl ?_
  refine VL.neb Try.underlying4 rfl rfl ?_
  refine VL.sets (show _ = false by simp) ?_
  refine VL.pick_f rfl rfl ?_
  refine VL.move rfl ?_
  refine VL.go rfl rfl rfl ?_
  refine VL.move rfl ?_
  refine VL.go rfl rfl rfl ?_
  refine VL.move rfl ?_
  refine VL.go rfl rfl rfl ?_
  refine VL.call Try.func27 rfl (by decide) rfl (fun w' hw => bytes_T hw (hA16.now (s := ⟨w13, _⟩) Mono.byte hw (by repeat (first | exact List.mem_cons_self .. | apply List.mem_cons_of_mem))) (hA21.now (s := ⟨w18, _⟩) Mono.byte hw (by repeat (first | exact List.mem_cons_self .. | apply List.mem_cons_of_mem))) rfl) (fun v => ?_)
  refine VL.fact fun e24 => ?_
  subst e24
  refine VL.go rfl rfl rfl ?_
  refine VL.not rfl ?_
  refine VL.pick_f rfl rfl ?_
  refine VL.nil ?_
  refine VX.next ?_
  refine VC.no rfl ?_
  refine VC.skip ?_
  refine VX.next ?_
  refine VC.seq ?_
  refine VC.region ?_
  refine VL.move rfl ?_
  refine VL.call Try.func54 rfl (by decide) rfl (fun w' hw => getLetter_w hw (hA6.now (s := ⟨w3, _⟩) Mono.byte hw (by repeat (first | exact List.mem_cons_self .. | apply List.mem_cons_of_mem)))) (fun v => ?_)
  refine VL.at (fun w25 h1w => ?_)
  obtain ⟨p27, c28, rfl, hO26, hA29⟩ := h1w
  refine VL.toOwn hO26 ?_
  refine VL.move rfl ?_
  refine VL.extract rfl rfl ?_
  refine VL.extract rfl rfl ?_
  refine VL.alloc (L := letterL) (ps := (letterV (letter0) none 0)) zero72 rfl rfl (fun g30 => ?_)
  refine VL.store (L := letterL) (qs := (letterV (((letterR (((letterO x).getD []))).getD letter0)) p27 c28)) (ps' := (letterV (((letterR (((letterO x).getD []))).getD letter0)) p27 c28)) 0 0 12 rfl rfl rfl (.inl kd72) rfl rfl (letterV_len (letterR_ok (((letterO x).getD [])))) (letterV_ok1 (((letterR (((letterO x).getD []))).getD letter0)) p27 c28) rfl rfl ?_
  refine VL.turn (G' := Own _ (blk g30 72 letterL (letterV (((letterR (((letterO x).getD []))).getD letter0)) p27 c28) :: blk g1 72 letterL (letterV (x) p c) :: H)) (fun _ h => h) ?_
  refine VL.assign rfl ?_
  refine VL.nil ?_
  refine VX.next ?_
  refine VC.seq ?_
  refine VC.region ?_
  refine VL.move rfl ?_
  cases hs : (letterO x).isSome
  · refine VL.not rfl ?_
    refine VL.move rfl ?_
    refine VL.pass rfl rfl rfl rfl rfl ?_
    refine VL.pass rfl rfl rfl rfl rfl ?_
    refine VL.pass rfl rfl rfl rfl rfl ?_
    refine VL.passu rfl rfl rfl rfl ?_
    refine VL.passu rfl rfl rfl rfl ?_
    refine VL.passu rfl rfl rfl rfl ?_
    refine VL.pass rfl rfl rfl rfl rfl ?_
    refine VL.pick_t rfl rfl ?_
    refine VL.assign rfl ?_
    refine VL.nil ?_
    refine VX.next ?_
    refine VC.ret ?_
    refine VX.ret1 rfl rfl (fun we hw => ?_)
    exact ⟨rfl, hw.drop.drop.sub (fun _ hs => by repeat (first | exact hs | apply List.mem_cons_of_mem))⟩
  · have hb := letter_back hx hs
    refine VL.not rfl ?_
    refine VL.move rfl ?_
    refine VL.go rfl rfl rfl ?_
    refine VL.move rfl ?_
    refine VL.go rfl rfl rfl ?_
    refine VL.eql rfl rfl ?_
    refine VL.yes (err_0 hb) ?_
    refine VL.go rfl rfl rfl ?_
    refine VL.move rfl ?_
    refine VL.go rfl rfl rfl ?_
    refine VL.loads (cs := cat (letterV (x) p c)) 1 0 12 rfl kd72 (fun _ h => h) rfl rfl rfl rfl ?_
    refine VL.go rfl rfl rfl ?_
    refine VL.loads (cs := cat (letterV (((letterR (((letterO x).getD []))).getD letter0)) p27 c28)) 0 0 12 rfl kd72 (fun _ h => h) rfl rfl rfl rfl ?_
    refine VL.go rfl rfl rfl ?_
    refine VL.call Try.func55 rfl (by decide) rfl (fun w' hw => sameLetters_e hw hx (hA.now (s := ⟨w, _⟩) Mono.byte hw (by repeat (first | exact List.mem_cons_self .. | apply List.mem_cons_of_mem))) (hA29.now (s := ⟨w25, _⟩) Mono.byte hw (by repeat (first | exact List.mem_cons_self .. | apply List.mem_cons_of_mem))) (back_is hb)) (fun v => ?_)
    refine VL.fact fun e31 => ?_
    subst e31
    refine VL.go rfl rfl rfl ?_
    refine VL.pick_t rfl rfl ?_
    refine VL.pick_f rfl rfl ?_
    refine VL.assign rfl ?_
    refine VL.nil ?_
    refine VX.next ?_
    refine VC.ret ?_
    refine VX.ret1 rfl rfl (fun we hw => ?_)
    exact ⟨rfl, hw.drop.drop.sub (fun _ hs => by repeat (first | exact hs | apply List.mem_cons_of_mem))⟩

end Go.Proofs.Ytcfecmoagfgnaaa
