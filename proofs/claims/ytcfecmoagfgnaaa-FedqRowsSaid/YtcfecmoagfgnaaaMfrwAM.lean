/- The statement FedqRows is proved, for every input: part 13 of 21 of the texts that it needs. -/
import Derived.Test.YtcfecmoagfgnaaaMfrwAL
/- The reference: objects; one against the other. -/
namespace Go.Proofs.Ytcfecmoagfgnaaa
open Go.Vc Go.Pl

theorem bytes_B {S : List Snap} {H : List Chunk} {w : World} (ho : Own S H w) {p q : Option Addr} {l k : List UInt8} {c d : Nat} (hA : Bytes (keys H) w p l c) (hB : Bytes (keys H) w q k d) : Calls Try.prog 27 #[.slice p l.length c, .slice q k.length d] w (Ret fun v w' => ∃ b : Bool, v = .bool b ∧ (b = true ↔ l = k) ∧ Own S H w') :=
 calls_mono (bytes_any ho hA hB) fun v w' ⟨h1, h2⟩ => ⟨decide (l = k), h2, by simp, h1⟩
theorem vouch_sig {K : List Nat} {w : World} {v : Vouch} {vs : List Value} (h : vouchR K w vs v) : (vs.drop 1).take 64 = v.sig.map bv := by
 obtain ⟨hv, rfl⟩ := h
 have : (v.sig.map bv).length = 64 := by rw [List.length_map]; exact hv.sig
 simp [cat, List.take_of_length_le, this]
theorem letter_iff {x y : Letter} : y = x ↔ x.src = y.src ∧ x.dst = y.dst ∧ x.header = y.header ∧ x.body = y.body := by
 constructor
 ·rintro rfl; exact ⟨rfl, rfl, rfl, rfl⟩
 ·rintro ⟨h1, h2, h3, h4⟩
  cases x; cases y
  simp only at h1 h2 h3 h4
  subst h1 h2 h3 h4; rfl
theorem object_iff {x y : Object} : y = x ↔ x.server = y.server ∧ x.n = y.n ∧ x.key = y.key ∧ x.since = y.since ∧ x.till = y.till ∧ x.sig = y.sig ∧ x.vouches = y.vouches := by
 constructor
 ·rintro rfl; exact ⟨rfl, rfl, rfl, rfl, rfl, rfl, rfl⟩
 ·rintro ⟨h1, h2, h3, h4, h5, h6, h7⟩
  cases x; cases y
  simp only at h1 h2 h3 h4 h5 h6 h7
  subst h1 h2 h3 h4 h5 h6 h7; rfl
theorem item_iff {x y : Itm} : y = x ↔ x.kind = y.kind ∧ x.asker = y.asker ∧ x.peer = y.peer ∧ y.letter = x.letter ∧ x.bundle = y.bundle ∧ y.object = x.object := by
 constructor
 ·rintro rfl; exact ⟨rfl, rfl, rfl, rfl, rfl, rfl⟩
 ·rintro ⟨h1, h2, h3, h4, h5, h6⟩
  cases x; cases y
  simp only at h1 h2 h3 h4 h5 h6
  subst h1 h2 h3 h4 h5 h6; rfl

theorem sameLetters_g {S : List Snap} {H : List Chunk} {w : World} (ho : Own S H w) {x y : Letter} (hx : x.ok) {p : Option Addr} {c : Nat} (hA : Bytes (keys H) w p x.body c) (hy : y.ok) {q : Option Addr} {d : Nat} (hB : Bytes (keys H) w q y.body d) : Calls Try.prog 55 #[.agg (cat (letterV x p c)).toArray, .agg (cat (letterV y q d)).toArray] w (Ret fun v w' => ∃ b : Bool, v = .bool b ∧ (b = true ↔ y = x) ∧ Own S H w') := by
 refine enter (G := Own (⟨w, keys H⟩ :: S) H) ho.keep Try.func55 rfl Try.ntmps55 rfl ?_
 refine VC.sr ?_
 refine VL.box (L := letterL) (ps := (letterV (x) p c)) rfl rfl (letterV_len hx) (fun g1 => ?_)
 refine VL.box (L := letterL) (ps := (letterV (y) q d)) rfl rfl (letterV_len hy) (fun g2 => ?_)
 refine VL.assign rfl ?_
 refine VL.nn ?_
 refine VC.sr ?_
 refine VL.fieldAddr rfl fo72_0 rfl ?_
 refine VL.load (v := .int .u8 (x.src)) 1 0 rfl kd5 (fun _ h => h) rfl rfl rfl ?_
 refine VL.fieldAddr rfl fo72_0 rfl ?_
 refine VL.load (v := .int .u8 (y.src)) 0 0 rfl kd5 (fun _ h => h) rfl rfl rfl ?_
 refine VL.eql rfl rfl ?_
 refine VL.case (fun h1_4 => ?_) (fun h1_4 => ?_)
 ·have h1_4 : x.src = y.src := by omega
  refine VL.move rfl ?_
  refine VL.go rfl rfl rfl ?_
  refine VL.fieldAddr rfl fo72_1 rfl ?_
  refine VL.go rfl rfl rfl ?_
  refine VL.load (v := .int .u8 (x.dst)) 1 1 rfl kd5 (fun _ h => h) rfl rfl rfl ?_
  refine VL.go rfl rfl rfl ?_
  refine VL.fieldAddr rfl fo72_1 rfl ?_
  refine VL.go rfl rfl rfl ?_
  refine VL.load (v := .int .u8 (y.dst)) 0 1 rfl kd5 (fun _ h => h) rfl rfl rfl ?_
  refine VL.go rfl rfl rfl ?_
  refine VL.eql rfl rfl ?_
  refine VL.case (fun h1_10 => ?_) (fun h1_10 => ?_)
  ·have h1_10 : x.dst = y.dst := by omega
   refine VL.pick_t rfl rfl ?_
   refine VL.move rfl ?_
   refine VL.go rfl rfl rfl ?_
   refine VL.fieldAddr rfl fo72_2 rfl ?_
   refine VL.go rfl rfl rfl ?_
   refine VL.loads (cs := cat (headerV (x.header))) 1 2 9 rfl kd70 (fun _ h => h) rfl rfl rfl rfl ?_
   refine VL.go rfl rfl rfl ?_
   refine VL.fieldAddr rfl fo72_2 rfl ?_
   refine VL.go rfl rfl rfl ?_
   refine VL.loads (cs := cat (headerV (y.header))) 0 2 9 rfl kd70 (fun _ h => h) rfl rfl rfl rfl ?_
   refine VL.go rfl rfl rfl ?_
   refine VL.eqT guard70 rfl rfl (eqHeader hx.header hy.header) (fun b h1_17 => ?_)
   cases b
   ·have h1_17 := mt h1_17.2 (by decide)
    refine VL.pick_t rfl rfl ?_
    refine VL.move rfl ?_
    refine VL.pass rfl rfl rfl rfl rfl ?_
    refine VL.pass rfl rfl rfl rfl rfl ?_
    refine VL.pass rfl rfl rfl rfl rfl ?_
    refine VL.pass rfl rfl rfl rfl rfl ?_
    refine VL.pass rfl rfl rfl rfl rfl ?_
    refine VL.pick_f rfl rfl ?_
    refine VL.assign rfl ?_
    refine VL.nn ?_
    refine VC.ret ?_
    refine VX.ret1 rfl rfl (fun we hw => ?_)
    refine ⟨false, rfl, ?_, hw.drop.drop.subA⟩
    rw [letter_iff]
    simp [h1_4, h1_10, h1_17]
   ·have h1_17 := h1_17.1 rfl
    refine VL.pick_t rfl rfl ?_
    refine VL.move rfl ?_
    refine VL.go rfl rfl rfl ?_
    refine VL.fieldAddr rfl fo72_3 rfl ?_
    refine VL.go rfl rfl rfl ?_
    refine VL.load (v := .slice p (x.body).length c) 1 11 rfl kd24 (fun _ h => h) rfl rfl rfl ?_
    refine VL.go rfl rfl rfl ?_
    refine VL.fieldAddr rfl fo72_3 rfl ?_
    refine VL.go rfl rfl rfl ?_
    refine VL.load (v := .slice q (y.body).length d) 0 11 rfl kd24 (fun _ h => h) rfl rfl rfl ?_
    refine VL.go rfl rfl rfl ?_
    refine VL.call Try.func27 rfl (by decide) rfl (fun w' hw => bytes_B hw (hA.nowA (s := ⟨w, _⟩) Mono.byte hw) (hB.nowA (s := ⟨w, _⟩) Mono.byte hw)) (fun v => ?_)
    refine VL.ex fun b => VL.fact fun e => VL.fact fun h1_24 => ?_
    subst e
    cases b
    ·have h1_24 := mt h1_24.2 (by decide)
     refine VL.pick_t rfl rfl ?_
     refine VL.assign rfl ?_
     refine VL.nn ?_
     refine VC.ret ?_
     refine VX.ret1 rfl rfl (fun we hw => ?_)
     refine ⟨false, rfl, ?_, hw.drop.drop.subA⟩
     rw [letter_iff]
     simp [h1_4, h1_10, h1_17, h1_24]
    ·have h1_24 := h1_24.1 rfl
     refine VL.pick_t rfl rfl ?_
     refine VL.assign rfl ?_
     refine VL.nn ?_
     refine VC.ret ?_
     refine VX.ret1 rfl rfl (fun we hw => ?_)
     refine ⟨true, rfl, ?_, hw.drop.drop.subA⟩
     rw [letter_iff]
     simp [h1_4, h1_10, h1_17, h1_24]
  ·have h1_10 : ¬ x.dst = y.dst := by omega
   refine VL.pick_t rfl rfl ?_
   refine VL.move rfl ?_
   refine VL.pass rfl rfl rfl rfl rfl ?_
   refine VL.pass rfl rfl rfl rfl rfl ?_
   refine VL.pass rfl rfl rfl rfl rfl ?_
   refine VL.pass rfl rfl rfl rfl rfl ?_
   refine VL.pass rfl rfl rfl rfl rfl ?_
   refine VL.pick_f rfl rfl ?_
   refine VL.move rfl ?_
   refine VL.pass rfl rfl rfl rfl rfl ?_
   refine VL.pass rfl rfl rfl rfl rfl ?_
   refine VL.pass rfl rfl rfl rfl rfl ?_
   refine VL.pass rfl rfl rfl rfl rfl ?_
   refine VL.pass rfl rfl rfl rfl rfl ?_
   refine VL.pick_f rfl rfl ?_
   refine VL.assign rfl ?_
   refine VL.nn ?_
   refine VC.ret ?_
   refine VX.ret1 rfl rfl (fun we hw => ?_)
   refine ⟨false, rfl, ?_, hw.drop.drop.subA⟩
   rw [letter_iff]
   simp [h1_4, h1_10]
 ·have h1_4 : ¬ x.src = y.src := by omega
  refine VL.move rfl ?_
  refine VL.pass rfl rfl rfl rfl rfl ?_
  refine VL.pass rfl rfl rfl rfl rfl ?_
  refine VL.pass rfl rfl rfl rfl rfl ?_
  refine VL.pass rfl rfl rfl rfl rfl ?_
  refine VL.pass rfl rfl rfl rfl rfl ?_
  refine VL.pick_f rfl rfl ?_
  refine VL.move rfl ?_
  refine VL.pass rfl rfl rfl rfl rfl ?_
  refine VL.pass rfl rfl rfl rfl rfl ?_
  refine VL.pass rfl rfl rfl rfl rfl ?_
  refine VL.pass rfl rfl rfl rfl rfl ?_
  refine VL.pass rfl rfl rfl rfl rfl ?_
  refine VL.pick_f rfl rfl ?_
  refine VL.move rfl ?_
  refine VL.pass rfl rfl rfl rfl rfl ?_
  refine VL.pass rfl rfl rfl rfl rfl ?_
  refine VL.pass rfl rfl rfl rfl rfl ?_
  refine VL.pass rfl rfl rfl rfl rfl ?_
  refine VL.pass rfl rfl rfl rfl rfl ?_
  refine VL.pick_f rfl rfl ?_
  refine VL.assign rfl ?_
  refine VL.nn ?_
  refine VC.ret ?_
  refine VX.ret1 rfl rfl (fun we hw => ?_)
  refine ⟨false, rfl, ?_, hw.drop.drop.subA⟩
  rw [letter_iff]
  simp [h1_4]

theorem sameObjects_g {S : List Snap} {H : List Chunk} {w : World} (ho : Own S H w) {x y : Object} (hx : x.ok) {q : Option Addr} {d : Nat} (hV : Arr 65 vouchR (keys H) w q x.vouches d) (hy : y.ok) {p : Option Addr} {c : Nat} (hU : Arr 65 vouchR (keys H) w p y.vouches c) : Calls Try.prog 72 #[.agg (cat (objectV x q d)).toArray, .agg (cat (objectV y p c)).toArray] w (Ret fun v w' => ∃ b : Bool, v = .bool b ∧ (b = true ↔ y = x) ∧ Own S H w') := by
 have hsm1 := hV.small
 refine enter (G := Own (⟨w, keys H⟩ :: S) H) ho.keep Try.func72 rfl Try.ntmps72 rfl ?_
 refine VC.sr ?_
 refine VL.box (L := objectL) (ps := (objectV (x) q d)) rfl rfl (objectV_len hx) (fun g1 => ?_)
 refine VL.box (L := objectL) (ps := (objectV (y) p c)) rfl rfl (objectV_len hy) (fun g2 => ?_)
 refine VL.assign rfl ?_
 refine VL.nn ?_
 refine VC.seq ?_
 refine VC.sr ?_
 refine VL.fieldAddr rfl fo85_0 rfl ?_
 refine VL.load (v := .int .u8 (x.server)) 1 0 rfl kd5 (fun _ h => h) rfl rfl rfl ?_
 refine VL.fieldAddr rfl fo85_0 rfl ?_
 refine VL.load (v := .int .u8 (y.server)) 0 0 rfl kd5 (fun _ h => h) rfl rfl rfl ?_
 refine VL.neq rfl rfl ?_
 refine VL.case (fun h1_4 => ?_) (fun h1_4 => ?_)
 ·have h1_4 : ¬ x.server = y.server := by omega
  refine VL.move rfl ?_
  refine VL.pass rfl rfl rfl rfl rfl ?_
  refine VL.pass rfl rfl rfl rfl rfl ?_
  refine VL.pass rfl rfl rfl rfl rfl ?_
  refine VL.pass rfl rfl rfl rfl rfl ?_
  refine VL.pass rfl rfl rfl rfl rfl ?_
  refine VL.pick_t rfl rfl ?_
  refine VL.move rfl ?_
  refine VL.pass rfl rfl rfl rfl rfl ?_
  refine VL.pass rfl rfl rfl rfl rfl ?_
  refine VL.pass rfl rfl rfl rfl rfl ?_
  refine VL.pass rfl rfl rfl rfl rfl ?_
  refine VL.pass rfl rfl rfl rfl rfl ?_
  refine VL.pick_t rfl rfl ?_
  refine VL.move rfl ?_
  refine VL.pass rfl rfl rfl rfl rfl ?_
  refine VL.pass rfl rfl rfl rfl rfl ?_
  refine VL.pass rfl rfl rfl rfl rfl ?_
  refine VL.pass rfl rfl rfl rfl rfl ?_
  refine VL.pass rfl rfl rfl rfl rfl ?_
  refine VL.pick_t rfl rfl ?_
  refine VL.move rfl ?_
  refine VL.pass rfl rfl rfl rfl rfl ?_
  refine VL.pass rfl rfl rfl rfl rfl ?_
  refine VL.pass rfl rfl rfl rfl rfl ?_
  refine VL.pass rfl rfl rfl rfl rfl ?_
  refine VL.pass rfl rfl rfl rfl rfl ?_
  refine VL.pick_t rfl rfl ?_
  refine VL.move rfl ?_
  refine VL.pass rfl rfl rfl rfl rfl ?_
  refine VL.pass rfl rfl rfl rfl rfl ?_
  refine VL.pass rfl rfl rfl rfl rfl ?_
  refine VL.pass rfl rfl rfl rfl rfl ?_
  refine VL.pass rfl rfl rfl rfl rfl ?_
  refine VL.pick_t rfl rfl ?_
  refine VL.move rfl ?_
  refine VL.pass rfl rfl rfl rfl rfl ?_
  refine VL.pass rfl rfl rfl rfl rfl ?_
  refine VL.pass rfl rfl rfl rfl rfl ?_
  refine VL.pass rfl rfl rfl rfl rfl ?_
  refine VL.pass rfl rfl rfl rfl rfl ?_
  refine VL.pass rfl rfl rfl rfl rfl ?_
  refine VL.pass rfl rfl rfl rfl rfl ?_
  refine VL.pick_t rfl rfl ?_
  refine VL.nn ?_
  refine VC.yes rfl ?_
  refine VC.sr ?_
  refine VL.assign rfl ?_
  refine VL.nn ?_
  refine VC.ret ?_
  refine VX.then_ret ?_
  refine VX.ret1 rfl rfl (fun we hw => ?_)
  refine ⟨false, rfl, ?_, hw.drop.drop.subA⟩
  rw [object_iff]
  simp [h1_4]
 ·have h1_4 : x.server = y.server := by omega
  refine VL.move rfl ?_
  refine VL.go rfl rfl rfl ?_
  refine VL.fieldAddr rfl fo85_1 rfl ?_
  refine VL.go rfl rfl rfl ?_
  refine VL.load (v := .int .u8 (x.n)) 1 1 rfl kd5 (fun _ h => h) rfl rfl rfl ?_
  refine VL.go rfl rfl rfl ?_
  refine VL.fieldAddr rfl fo85_1 rfl ?_
  refine VL.go rfl rfl rfl ?_
  refine VL.load (v := .int .u8 (y.n)) 0 1 rfl kd5 (fun _ h => h) rfl rfl rfl ?_
  refine VL.go rfl rfl rfl ?_
  refine VL.neq rfl rfl ?_
  refine VL.case (fun h1_10 => ?_) (fun h1_10 => ?_)
  ·have h1_10 : ¬ x.n = y.n := by omega
   refine VL.pick_f rfl rfl ?_
   refine VL.move rfl ?_
   refine VL.pass rfl rfl rfl rfl rfl ?_
   refine VL.pass rfl rfl rfl rfl rfl ?_
   refine VL.pass rfl rfl rfl rfl rfl ?_
   refine VL.pass rfl rfl rfl rfl rfl ?_
   refine VL.pass rfl rfl rfl rfl rfl ?_
   refine VL.pick_t rfl rfl ?_
   refine VL.move rfl ?_
   refine VL.pass rfl rfl rfl rfl rfl ?_
   refine VL.pass rfl rfl rfl rfl rfl ?_
   refine VL.pass rfl rfl rfl rfl rfl ?_
   refine VL.pass rfl rfl rfl rfl rfl ?_
   refine VL.pass rfl rfl rfl rfl rfl ?_
   refine VL.pick_t rfl rfl ?_
   refine VL.move rfl ?_
   refine VL.pass rfl rfl rfl rfl rfl ?_
   refine VL.pass rfl rfl rfl rfl rfl ?_
   refine VL.pass rfl rfl rfl rfl rfl ?_
   refine VL.pass rfl rfl rfl rfl rfl ?_
   refine VL.pass rfl rfl rfl rfl rfl ?_
   refine VL.pick_t rfl rfl ?_
   refine VL.move rfl ?_
   refine VL.pass rfl rfl rfl rfl rfl ?_
   refine VL.pass rfl rfl rfl rfl rfl ?_
   refine VL.pass rfl rfl rfl rfl rfl ?_
   refine VL.pass rfl rfl rfl rfl rfl ?_
   refine VL.pass rfl rfl rfl rfl rfl ?_
   refine VL.pick_t rfl rfl ?_
   refine VL.move rfl ?_
   refine VL.pass rfl rfl rfl rfl rfl ?_
   refine VL.pass rfl rfl rfl rfl rfl ?_
   refine VL.pass rfl rfl rfl rfl rfl ?_
   refine VL.pass rfl rfl rfl rfl rfl ?_
   refine VL.pass rfl rfl rfl rfl rfl ?_
   refine VL.pass rfl rfl rfl rfl rfl ?_
   refine VL.pass rfl rfl rfl rfl rfl ?_
   refine VL.pick_t rfl rfl ?_
   refine VL.nn ?_
   refine VC.yes rfl ?_
   refine VC.sr ?_
   refine VL.assign rfl ?_
   refine VL.nn ?_
   refine VC.ret ?_
   refine VX.then_ret ?_
   refine VX.ret1 rfl rfl (fun we hw => ?_)
   refine ⟨false, rfl, ?_, hw.drop.drop.subA⟩
   rw [object_iff]
   simp [h1_4, h1_10]
  ·have h1_10 : x.n = y.n := by omega
   refine VL.pick_f rfl rfl ?_
   refine VL.move rfl ?_
   refine VL.go rfl rfl rfl ?_
   refine VL.fieldAddr rfl fo85_2 rfl ?_
   refine VL.go rfl rfl rfl ?_
   refine VL.loads (cs := (x.key).map bv) 1 2 1 rfl kd44 (fun _ h => h) rfl rfl rfl rfl ?_
   refine VL.go rfl rfl rfl ?_
   refine VL.fieldAddr rfl fo85_2 rfl ?_
   refine VL.go rfl rfl rfl ?_
   refine VL.loads (cs := (y.key).map bv) 0 2 1 rfl kd44 (fun _ h => h) rfl rfl rfl rfl ?_
   refine VL.go rfl rfl rfl ?_
   refine VL.neT guard44 rfl rfl (eqKey 9998 hx.key hy.key) (fun b h1_17 => ?_)
   cases b
   ·have h1_17 := mt h1_17.2 (by decide)
    refine VL.pick_f rfl rfl ?_
    refine VL.move rfl ?_
    refine VL.pass rfl rfl rfl rfl rfl ?_
    refine VL.pass rfl rfl rfl rfl rfl ?_
    refine VL.pass rfl rfl rfl rfl rfl ?_
    refine VL.pass rfl rfl rfl rfl rfl ?_
    refine VL.pass rfl rfl rfl rfl rfl ?_
    refine VL.pick_t rfl rfl ?_
    refine VL.move rfl ?_
    refine VL.pass rfl rfl rfl rfl rfl ?_
    refine VL.pass rfl rfl rfl rfl rfl ?_
    refine VL.pass rfl rfl rfl rfl rfl ?_
    refine VL.pass rfl rfl rfl rfl rfl ?_
    refine VL.pass rfl rfl rfl rfl rfl ?_
    refine VL.pick_t rfl rfl ?_
    refine VL.move rfl ?_
    refine VL.pass rfl rfl rfl rfl rfl ?_
    refine VL.pass rfl rfl rfl rfl rfl ?_
    refine VL.pass rfl rfl rfl rfl rfl ?_
    refine VL.pass rfl rfl rfl rfl rfl ?_
    refine VL.pass rfl rfl rfl rfl rfl ?_
    refine VL.pick_t rfl rfl ?_
    refine VL.move rfl ?_
    refine VL.pass rfl rfl rfl rfl rfl ?_
    refine VL.pass rfl rfl rfl rfl rfl ?_
    refine VL.pass rfl rfl rfl rfl rfl ?_
    refine VL.pass rfl rfl rfl rfl rfl ?_
    refine VL.pass rfl rfl rfl rfl rfl ?_
    refine VL.pass rfl rfl rfl rfl rfl ?_
    refine VL.pass rfl rfl rfl rfl rfl ?_
    refine VL.pick_t rfl rfl ?_
    refine VL.nn ?_
    refine VC.yes rfl ?_
    refine VC.sr ?_
    refine VL.assign rfl ?_
    refine VL.nn ?_
    refine VC.ret ?_
    refine VX.then_ret ?_
    refine VX.ret1 rfl rfl (fun we hw => ?_)
    refine ⟨false, rfl, ?_, hw.drop.drop.subA⟩
    rw [object_iff]
    simp [h1_4, h1_10, h1_17]
   ·have h1_17 := h1_17.1 rfl
    refine VL.pick_f rfl rfl ?_
    refine VL.move rfl ?_
    refine VL.go rfl rfl rfl ?_
    refine VL.fieldAddr rfl fo85_3 rfl ?_
    refine VL.go rfl rfl rfl ?_
    refine VL.load (v := .int .u32 (x.since)) 1 3 rfl kd48 (fun _ h => h) rfl rfl rfl ?_
    refine VL.go rfl rfl rfl ?_
    refine VL.fieldAddr rfl fo85_3 rfl ?_
    refine VL.go rfl rfl rfl ?_
    refine VL.load (v := .int .u32 (y.since)) 0 3 rfl kd48 (fun _ h => h) rfl rfl rfl ?_
    refine VL.go rfl rfl rfl ?_
    refine VL.neq rfl rfl ?_
    refine VL.case (fun h1_24 => ?_) (fun h1_24 => ?_)
    ·have h1_24 : ¬ x.since = y.since := by omega
     refine VL.pick_f rfl rfl ?_
     refine VL.move rfl ?_
     refine VL.pass rfl rfl rfl rfl rfl ?_
     refine VL.pass rfl rfl rfl rfl rfl ?_
     refine VL.pass rfl rfl rfl rfl rfl ?_
     refine VL.pass rfl rfl rfl rfl rfl ?_
     refine VL.pass rfl rfl rfl rfl rfl ?_
     refine VL.pick_t rfl rfl ?_
     refine VL.move rfl ?_
     refine VL.pass rfl rfl rfl rfl rfl ?_
     refine VL.pass rfl rfl rfl rfl rfl ?_
     refine VL.pass rfl rfl rfl rfl rfl ?_
     refine VL.pass rfl rfl rfl rfl rfl ?_
     refine VL.pass rfl rfl rfl rfl rfl ?_
     refine VL.pick_t rfl rfl ?_
     refine VL.move rfl ?_
     refine VL.pass rfl rfl rfl rfl rfl ?_
     refine VL.pass rfl rfl rfl rfl rfl ?_
     refine VL.pass rfl rfl rfl rfl rfl ?_
     refine VL.pass rfl rfl rfl rfl rfl ?_
     refine VL.pass rfl rfl rfl rfl rfl ?_
     refine VL.pass rfl rfl rfl rfl rfl ?_
     refine VL.pass rfl rfl rfl rfl rfl ?_
     refine VL.pick_t rfl rfl ?_
     refine VL.nn ?_
     refine VC.yes rfl ?_
     refine VC.sr ?_
     refine VL.assign rfl ?_
     refine VL.nn ?_
     refine VC.ret ?_
     refine VX.then_ret ?_
     refine VX.ret1 rfl rfl (fun we hw => ?_)
     refine ⟨false, rfl, ?_, hw.drop.drop.subA⟩
     rw [object_iff]
     simp [h1_4, h1_10, h1_17, h1_24]
    ·have h1_24 : x.since = y.since := by omega
     refine VL.pick_f rfl rfl ?_
     refine VL.move rfl ?_
     refine VL.go rfl rfl rfl ?_
     refine VL.fieldAddr rfl fo85_4 rfl ?_
     refine VL.go rfl rfl rfl ?_
     refine VL.load (v := .int .u32 (x.till)) 1 4 rfl kd48 (fun _ h => h) rfl rfl rfl ?_
     refine VL.go rfl rfl rfl ?_
     refine VL.fieldAddr rfl fo85_4 rfl ?_
     refine VL.go rfl rfl rfl ?_
     refine VL.load (v := .int .u32 (y.till)) 0 4 rfl kd48 (fun _ h => h) rfl rfl rfl ?_
     refine VL.go rfl rfl rfl ?_
     refine VL.neq rfl rfl ?_
     refine VL.case (fun h1_31 => ?_) (fun h1_31 => ?_)
     ·have h1_31 : ¬ x.till = y.till := by omega
      refine VL.pick_f rfl rfl ?_
      refine VL.move rfl ?_
      refine VL.pass rfl rfl rfl rfl rfl ?_
      refine VL.pass rfl rfl rfl rfl rfl ?_
      refine VL.pass rfl rfl rfl rfl rfl ?_
      refine VL.pass rfl rfl rfl rfl rfl ?_
      refine VL.pass rfl rfl rfl rfl rfl ?_
      refine VL.pick_t rfl rfl ?_
      refine VL.move rfl ?_
      refine VL.pass rfl rfl rfl rfl rfl ?_
      refine VL.pass rfl rfl rfl rfl rfl ?_
      refine VL.pass rfl rfl rfl rfl rfl ?_
      refine VL.pass rfl rfl rfl rfl rfl ?_
      refine VL.pass rfl rfl rfl rfl rfl ?_
      refine VL.pass rfl rfl rfl rfl rfl ?_
      refine VL.pass rfl rfl rfl rfl rfl ?_
      refine VL.pick_t rfl rfl ?_
      refine VL.nn ?_
      refine VC.yes rfl ?_
      refine VC.sr ?_
      refine VL.assign rfl ?_
      refine VL.nn ?_
      refine VC.ret ?_
      refine VX.then_ret ?_
      refine VX.ret1 rfl rfl (fun we hw => ?_)
      refine ⟨false, rfl, ?_, hw.drop.drop.subA⟩
      rw [object_iff]
      simp [h1_4, h1_10, h1_17, h1_24, h1_31]
     ·have h1_31 : x.till = y.till := by omega
      refine VL.pick_f rfl rfl ?_
      refine VL.move rfl ?_
      refine VL.go rfl rfl rfl ?_
      refine VL.fieldAddr rfl fo85_5 rfl ?_
      refine VL.go rfl rfl rfl ?_
      refine VL.loads (cs := (x.sig).map bv) 1 5 1 rfl kd80 (fun _ h => h) rfl rfl rfl rfl ?_
      refine VL.go rfl rfl rfl ?_
      refine VL.fieldAddr rfl fo85_5 rfl ?_
      refine VL.go rfl rfl rfl ?_
      refine VL.loads (cs := (y.sig).map bv) 0 5 1 rfl kd80 (fun _ h => h) rfl rfl rfl rfl ?_
      refine VL.go rfl rfl rfl ?_
      refine VL.neT guard80 rfl rfl (eqSig 9998 hx.sig hy.sig) (fun b h1_38 => ?_)
      cases b
      ·have h1_38 := mt h1_38.2 (by decide)
       refine VL.pick_f rfl rfl ?_
       refine VL.move rfl ?_
       refine VL.pass rfl rfl rfl rfl rfl ?_
       refine VL.pass rfl rfl rfl rfl rfl ?_
       refine VL.pass rfl rfl rfl rfl rfl ?_
       refine VL.pass rfl rfl rfl rfl rfl ?_
       refine VL.pass rfl rfl rfl rfl rfl ?_
       refine VL.pass rfl rfl rfl rfl rfl ?_
       refine VL.pass rfl rfl rfl rfl rfl ?_
       refine VL.pick_t rfl rfl ?_
       refine VL.nn ?_
       refine VC.yes rfl ?_
       refine VC.sr ?_
       refine VL.assign rfl ?_
       refine VL.nn ?_
       refine VC.ret ?_
       refine VX.then_ret ?_
       refine VX.ret1 rfl rfl (fun we hw => ?_)
       refine ⟨false, rfl, ?_, hw.drop.drop.subA⟩
       rw [object_iff]
       simp [h1_4, h1_10, h1_17, h1_24, h1_31, h1_38]
      ·have h1_38 := h1_38.1 rfl
       refine VL.pick_f rfl rfl ?_
       refine VL.move rfl ?_
       refine VL.go rfl rfl rfl ?_
       refine VL.fieldAddr rfl fo85_6 rfl ?_
       refine VL.go rfl rfl rfl ?_
       refine VL.load (v := .slice q (x.vouches).length d) 1 6 rfl kd83 (fun _ h => h) rfl rfl rfl ?_
       refine VL.go rfl rfl rfl ?_
       refine VL.len Try.underlying83 rfl rfl ?_
       refine VL.go rfl rfl rfl ?_
       refine VL.fieldAddr rfl fo85_6 rfl ?_
       refine VL.go rfl rfl rfl ?_
       refine VL.load (v := .slice p (y.vouches).length c) 0 6 rfl kd83 (fun _ h => h) rfl rfl rfl ?_
       refine VL.go rfl rfl rfl ?_
       refine VL.len Try.underlying83 rfl rfl ?_
       refine VL.go rfl rfl rfl ?_
       refine VL.neq rfl rfl ?_
       refine VL.case (fun h1_47 => ?_) (fun h1_47 => ?_)
       ·have h1_47 : ¬ x.vouches.length = y.vouches.length := by omega
        refine VL.pick_f rfl rfl ?_
        refine VL.nn ?_
        refine VC.yes rfl ?_
        refine VC.sr ?_
        refine VL.assign rfl ?_
        refine VL.nn ?_
        refine VC.ret ?_
        refine VX.then_ret ?_
        refine VX.ret1 rfl rfl (fun we hw => ?_)
        exact ⟨false, rfl, ⟨fun h => absurd h (by decide), fun h => absurd (congrArg List.length (object_iff.1 h).2.2.2.2.2.2) h1_47⟩, hw.drop.drop.subA⟩
       ·have h1_47 : x.vouches.length = y.vouches.length := by omega
        refine VL.pick_f rfl rfl ?_
        refine VL.nn ?_
        refine VC.no rfl ?_
        refine VC.skip ?_
        refine VX.next ?_
        refine VC.seq ?_
        refine VC.sr ?_
        refine VL.assign rfl ?_
        refine VL.nn ?_
        refine VC.block ?_
        refine VC.loop (X := Nat) (fun i => [(2, .pointer (some ⟨g1, 0, none⟩)), (3, .pointer (some ⟨g2, 0, none⟩)), (5, .int .i64 (i : Int))]) (fun i w' => (i ≤ x.vouches.length ∧ ∀ j, j < i → x.vouches[j]? = y.vouches[j]?) ∧ Own (⟨w, keys H⟩ :: S) (blk g2 85 objectL (objectV (y) p c) :: blk g1 85 objectL (objectV (x) q d) :: H) w') (fun i => x.vouches.length - i) 0 ⟨rfl, rfl, rfl, trivial⟩ (fun w' h => ⟨⟨Nat.zero_le _, fun j hj => absurd hj (Nat.not_lt_zero _)⟩, h.subA⟩) (fun i => VC.fact fun ⟨hi, hall⟩ => ?_)
        ·skip
         refine VC.seq ?_
         refine VC.sr ?_
         refine VL.move rfl ?_
         refine VL.fieldAddr rfl fo85_6 rfl ?_
         refine VL.load (v := .slice q (x.vouches).length d) 1 6 rfl kd83 (fun _ h => h) rfl rfl rfl ?_
         refine VL.len Try.underlying83 rfl rfl ?_
         refine VL.lss rfl rfl ?_
         refine VL.case (fun h4 => ?_) (fun h4 => ?_)
         ·have hlt : i < x.vouches.length := by omega
          have hlt2 : i < y.vouches.length := by omega
          refine VL.nn ?_
          refine VC.yes rfl ?_
          refine VC.skip ?_
          refine VX.next ?_
          refine VC.seq ?_
          refine VC.block ?_
          refine VC.seq ?_
          by_cases hv : x.vouches[i]'hlt = y.vouches[i]'hlt2
          ·apply VC.anyTA 10 1011 (F := [eqF _, eqF _, eqF _, eqF _, eqF _, eqF _, eqF _, eqF _, eqF _, eqF _]) [⟨[], [2]⟩, ⟨[(62, 0)], []⟩, ⟨[], [5]⟩, ⟨[(63, 1), (64, 2)], []⟩, ⟨[(65, 3)], []⟩, ⟨[], [3]⟩, ⟨[(67, 5)], []⟩, ⟨[], [5]⟩, ⟨[(68, 6), (69, 7)], []⟩, ⟨[(70, 8)], []⟩] [(66, 4), (71, 9)] [0, 1, 2, 3, 4, 5, 6, 7, 8, 9, 10, 11, 12, 13, 14, 15, 16, 17, 18, 19, 20, 21, 22, 23, 24, 25, 26, 27, 28, 29, 30, 31, 32, 33, 34, 35, 36, 37, 38, 39, 40, 41, 42, 43, 44, 45, 46, 47, 48, 49, 50, 51, 52, 53, 54, 55, 56, 57, 58, 59, 60, 61, 72] rfl (by kernel_rfl) (by kernel_rfl) rfl rfl (by kernel_rfl) (by kernel_rfl) (by kernel_rfl) rfl ?obs6 ?end6
           case obs6 =>
            refine Obs.cons ?_ ?_
            ·refine obS (by kernel_rfl) rfl rfl (fun ph6 w6 hO6 => ?_)
             refine VL.fieldAddr rfl fo85_6 rfl ?_
             exact VL.finS hO6 rfl rfl
            refine Obs.cons ?_ ?_
            ·refine ob (by kernel_rfl) rfl (by kernel_rfl) rfl (fun w6 hO6 => ?_)
             rintro _ rfl
             refine VL.load (v := .slice q (x.vouches).length d) 1 6 rfl kd83 (fun _ e => e ▸ hO6) rfl rfl rfl ?_
             exact VL.finS hO6 rfl rfl
            refine Obs.cons ?_ ?_
            ·refine obS (by kernel_rfl) rfl rfl (fun ph6 w6 hO6 => ?_)
             refine VL.move rfl ?_
             exact VL.finS hO6 rfl rfl
            refine Obs.cons ?_ ?_
            ·refine obS (by kernel_rfl) rfl rfl (fun ph6 w6 hO6 => ?_)
             rintro _ rfl _ rfl
             refine VL.index (xs := x.vouches) rfl rfl Try.underlying83 sz83 hV (by omega) (by have hi := hlt; omega) ?_
             exact VL.finS hO6 rfl rfl
            refine Obs.cons ?_ ?_
            ·refine ob (by kernel_rfl) rfl (by kernel_rfl) rfl (fun w6 hO6 => ?_)
             rintro _ rfl
             refine VL.elems (s := ⟨w, _⟩) (m := 65) (i) 0 rfl kd202 (fun _ e => e ▸ hO6) (by repeat (first | exact List.mem_cons_self .. | apply List.mem_cons_of_mem)) hV (List.getElem?_eq_getElem hlt) (by simp) (by decide) (fun vs hl hr => ?_)
             obtain ⟨hy4, rfl⟩ := hr
             refine VL.newv (v' := .agg (cat (vouchV (x.vouches[i]'hlt))).toArray) (by rw [List.drop_zero, List.take_of_length_le (by rw [hl]; decide)]) ?_
             exact VL.finS hO6 rfl rfl
            refine Obs.cons ?_ ?_
            ·refine obS (by kernel_rfl) rfl rfl (fun ph6 w6 hO6 => ?_)
             refine VL.fieldAddr rfl fo85_6 rfl ?_
             exact VL.finS hO6 rfl rfl
            refine Obs.cons ?_ ?_
            ·refine ob (by kernel_rfl) rfl (by kernel_rfl) rfl (fun w6 hO6 => ?_)
             rintro _ rfl
             refine VL.load (v := .slice p (y.vouches).length c) 0 6 rfl kd83 (fun _ e => e ▸ hO6) rfl rfl rfl ?_
             exact VL.finS hO6 rfl rfl
            refine Obs.cons ?_ ?_
            ·refine obS (by kernel_rfl) rfl rfl (fun ph6 w6 hO6 => ?_)
             refine VL.move rfl ?_
             exact VL.finS hO6 rfl rfl
            refine Obs.cons ?_ ?_
            ·refine obS (by kernel_rfl) rfl rfl (fun ph6 w6 hO6 => ?_)
             rintro _ rfl _ rfl
             refine VL.index (xs := y.vouches) rfl rfl Try.underlying83 sz83 hU (by omega) (by have hi := hlt2; omega) ?_
             exact VL.finS hO6 rfl rfl
            refine Obs.cons ?_ ?_
            ·refine ob (by kernel_rfl) rfl (by kernel_rfl) rfl (fun w6 hO6 => ?_)
             rintro _ rfl
             refine VL.elems (s := ⟨w, _⟩) (m := 65) (i) 0 rfl kd202 (fun _ e => e ▸ hO6) (by repeat (first | exact List.mem_cons_self .. | apply List.mem_cons_of_mem)) hU (List.getElem?_eq_getElem hlt2) (by simp) (by decide) (fun vs hl hr => ?_)
             obtain ⟨hy6, rfl⟩ := hr
             refine VL.newv (v' := .agg (cat (vouchV (y.vouches[i]'hlt2))).toArray) (by rw [List.drop_zero, List.take_of_length_le (by rw [hl]; decide)]) ?_
             exact VL.finS hO6 rfl rfl
            exact Obs.nil
           case end6 =>
            intro w6 hO6
            rintro _ rfl _ rfl
            refine VL.toOwn hO6 ?_
            refine VL.neT guard202 rfl rfl (eqVouch (hx.vouches _ (List.getElem_mem hlt)) (hy.vouches _ (List.getElem_mem hlt2))) (fun b h => ?_)
            obtain rfl : b = true := h.2 hv
            refine VL.nn ?_
            refine VC.no rfl ?_
            refine VC.skip ?_
            refine VX.block_normal ?_
            refine VX.next ?_
            refine VC.region ?_
            refine VL.move rfl ?_
            refine VL.add rfl rfl (by have hsm := hV.small; simp only [InR]; omega) ?_
            refine VL.assign rfl ?_
            refine VL.nil ?_
            refine VX.round (i + 1) ⟨rfl, rfl, rfl, trivial⟩ (fun w' h => ⟨⟨by omega, fun j hj => ?_⟩, h.subA⟩) (by show x.vouches.length - (i + 1) < x.vouches.length - i; omega)
            by_cases hji : j < i
            ·exact hall j hji
            ·obtain rfl : j = i := by omega
             rw [List.getElem?_eq_getElem hlt, List.getElem?_eq_getElem hlt2, hv]
          ·apply VC.anyTA 10 1011 (F := [eqF _, eqF _, eqF _, eqF _, eqF _, eqF _, eqF _, eqF _, eqF _, eqF _]) [⟨[], [2]⟩, ⟨[(62, 0)], []⟩, ⟨[], [5]⟩, ⟨[(63, 1), (64, 2)], []⟩, ⟨[(65, 3)], []⟩, ⟨[], [3]⟩, ⟨[(67, 5)], []⟩, ⟨[], [5]⟩, ⟨[(68, 6), (69, 7)], []⟩, ⟨[(70, 8)], []⟩] [(66, 4), (71, 9)] [0, 1, 2, 3, 4, 5, 6, 7, 8, 9, 10, 11, 12, 13, 14, 15, 16, 17, 18, 19, 20, 21, 22, 23, 24, 25, 26, 27, 28, 29, 30, 31, 32, 33, 34, 35, 36, 37, 38, 39, 40, 41, 42, 43, 44, 45, 46, 47, 48, 49, 50, 51, 52, 53, 54, 55, 56, 57, 58, 59, 60, 61, 72] rfl (by kernel_rfl) (by kernel_rfl) rfl rfl (by kernel_rfl) (by kernel_rfl) (by kernel_rfl) rfl ?obs6 ?end6
           case obs6 =>
            refine Obs.cons ?_ ?_
            ·refine obS (by kernel_rfl) rfl rfl (fun ph6 w6 hO6 => ?_)
             refine VL.fieldAddr rfl fo85_6 rfl ?_
             exact VL.finS hO6 rfl rfl
            refine Obs.cons ?_ ?_
            ·refine ob (by kernel_rfl) rfl (by kernel_rfl) rfl (fun w6 hO6 => ?_)
             rintro _ rfl
             refine VL.load (v := .slice q (x.vouches).length d) 1 6 rfl kd83 (fun _ e => e ▸ hO6) rfl rfl rfl ?_
             exact VL.finS hO6 rfl rfl
            refine Obs.cons ?_ ?_
            ·refine obS (by kernel_rfl) rfl rfl (fun ph6 w6 hO6 => ?_)
             refine VL.move rfl ?_
             exact VL.finS hO6 rfl rfl
            refine Obs.cons ?_ ?_
            ·refine obS (by kernel_rfl) rfl rfl (fun ph6 w6 hO6 => ?_)
             rintro _ rfl _ rfl
             refine VL.index (xs := x.vouches) rfl rfl Try.underlying83 sz83 hV (by omega) (by have hi := hlt; omega) ?_
             exact VL.finS hO6 rfl rfl
            refine Obs.cons ?_ ?_
            ·refine ob (by kernel_rfl) rfl (by kernel_rfl) rfl (fun w6 hO6 => ?_)
             rintro _ rfl
             refine VL.elems (s := ⟨w, _⟩) (m := 65) (i) 0 rfl kd202 (fun _ e => e ▸ hO6) (by repeat (first | exact List.mem_cons_self .. | apply List.mem_cons_of_mem)) hV (List.getElem?_eq_getElem hlt) (by simp) (by decide) (fun vs hl hr => ?_)
             obtain ⟨hy8, rfl⟩ := hr
             refine VL.newv (v' := .agg (cat (vouchV (x.vouches[i]'hlt))).toArray) (by rw [List.drop_zero, List.take_of_length_le (by rw [hl]; decide)]) ?_
             exact VL.finS hO6 rfl rfl
            refine Obs.cons ?_ ?_
            ·refine obS (by kernel_rfl) rfl rfl (fun ph6 w6 hO6 => ?_)
             refine VL.fieldAddr rfl fo85_6 rfl ?_
             exact VL.finS hO6 rfl rfl
            refine Obs.cons ?_ ?_
            ·refine ob (by kernel_rfl) rfl (by kernel_rfl) rfl (fun w6 hO6 => ?_)
             rintro _ rfl
             refine VL.load (v := .slice p (y.vouches).length c) 0 6 rfl kd83 (fun _ e => e ▸ hO6) rfl rfl rfl ?_
             exact VL.finS hO6 rfl rfl
            refine Obs.cons ?_ ?_
            ·refine obS (by kernel_rfl) rfl rfl (fun ph6 w6 hO6 => ?_)
             refine VL.move rfl ?_
             exact VL.finS hO6 rfl rfl
            refine Obs.cons ?_ ?_
            ·refine obS (by kernel_rfl) rfl rfl (fun ph6 w6 hO6 => ?_)
             rintro _ rfl _ rfl
             refine VL.index (xs := y.vouches) rfl rfl Try.underlying83 sz83 hU (by omega) (by have hi := hlt2; omega) ?_
             exact VL.finS hO6 rfl rfl
            refine Obs.cons ?_ ?_
            ·refine ob (by kernel_rfl) rfl (by kernel_rfl) rfl (fun w6 hO6 => ?_)
             rintro _ rfl
             refine VL.elems (s := ⟨w, _⟩) (m := 65) (i) 0 rfl kd202 (fun _ e => e ▸ hO6) (by repeat (first | exact List.mem_cons_self .. | apply List.mem_cons_of_mem)) hU (List.getElem?_eq_getElem hlt2) (by simp) (by decide) (fun vs hl hr => ?_)
             obtain ⟨hy10, rfl⟩ := hr
             refine VL.newv (v' := .agg (cat (vouchV (y.vouches[i]'hlt2))).toArray) (by rw [List.drop_zero, List.take_of_length_le (by rw [hl]; decide)]) ?_
             exact VL.finS hO6 rfl rfl
            exact Obs.nil
           case end6 =>
            intro w6 hO6
            rintro _ rfl _ rfl
            refine VL.toOwn hO6 ?_
            refine VL.neT guard202 rfl rfl (eqVouch (hx.vouches _ (List.getElem_mem hlt)) (hy.vouches _ (List.getElem_mem hlt2))) (fun b h => ?_)
            obtain rfl : b = false := by cases b with
             | false => rfl
             | true => exact absurd (h.1 rfl) hv
            refine VL.nn ?_
            refine VC.yes rfl ?_
            refine VC.sr ?_
            refine VL.assign rfl ?_
            refine VL.nn ?_
            refine VC.ret ?_
            refine VX.block_ret ?_
            refine VX.then_ret ?_
            refine VX.then_ret ?_
            refine VX.block_ret ?_
            refine VX.then_ret ?_
            refine VX.ret1 rfl rfl (fun we hw => ?_)
            refine ⟨false, rfl, ⟨fun h => absurd h (by decide), fun h => absurd (object_iff.1 h).2.2.2.2.2.2 fun e => hv ?_⟩, hw.drop.drop.subA⟩
            have e1 := congrArg (fun l : List Vouch => l[i]?) e
            simp only [List.getElem?_eq_getElem hlt, List.getElem?_eq_getElem hlt2] at e1
            exact Option.some.inj e1
         ·obtain rfl : i = x.vouches.length := by omega
          refine VL.nn ?_
          refine VC.no rfl ?_
          refine VC.exit ?_
          refine VX.then_exit ?_
          refine VX.then_exit ?_
          refine VX.block_here ?_
          refine VX.next ?_
          refine VC.sr ?_
          refine VL.assign rfl ?_
          refine VL.nn ?_
          refine VC.ret ?_
          refine VX.ret1 rfl rfl (fun we hw => ?_)
          refine ⟨true, rfl, ⟨fun _ => object_iff.2 ⟨h1_4, h1_10, h1_17, h1_24, h1_31, h1_38, List.ext_getElem? fun k => ?_⟩, fun _ => rfl⟩, hw.drop.drop.subA⟩
          by_cases hk : k < x.vouches.length
          ·exact hall k (by omega)
          ·rw [List.getElem?_eq_none (by omega), List.getElem?_eq_none (by omega)]

end Go.Proofs.Ytcfecmoagfgnaaa

/- The reference: bundles, objects, items. -/
namespace Go.Proofs.Ytcfecmoagfgnaaa
open Go.Vc Go.Pl

theorem refBundle_w {S : List Snap} {H : List Chunk} {w : World} (ho : Own S H w) {x : Bundle} (hx : x.ok) : Calls Try.prog 62 #[.agg (cat (bundleV x)).toArray] w (Ret fun v w' => ∃ p c, v = .slice p (bundleB x).length c ∧ Own S H w' ∧ Bytes (keys H) w' p (bundleB x) c) := by
 have hx1 := hx.device
 have hx2 := hx.id
 refine enter (G := Own (⟨w, keys H⟩ :: S) H) ho.keep Try.func62 rfl Try.ntmps62 rfl ?_
 refine VC.sr ?_
 refine VL.box (L := bundleL) (ps := (bundleV (x))) rfl rfl (bundleV_len hx) (fun g1 => ?_)
 refine VL.assign rfl ?_
 refine VL.nn ?_
 refine VC.seq ?_
 refine VC.letCells 0 rfl (fun w2 hO4 hF3 => ?_)
 apply VC.anyTA 15 1018 (F := [eqF _, eqF _, capF (be 1 (x.device)) 1, eqF _, eqF _, eqF _, eqF _, eqF _, eqF _, eqF _, bytesF (be 2 (x.id)), eqF _, eqF _, eqF _, eqF _]) [⟨[], [1]⟩, ⟨[(3, 0)], []⟩, ⟨[(4, 1)], []⟩, ⟨[], [1]⟩, ⟨[(6, 3)], []⟩, ⟨[], [1]⟩, ⟨[(8, 5)], []⟩, ⟨[], [1]⟩, ⟨[(10, 7)], []⟩, ⟨[(11, 8)], []⟩, ⟨[(12, 9)], []⟩, ⟨[], [1]⟩, ⟨[(14, 11)], []⟩, ⟨[], [1]⟩, ⟨[(16, 13)], []⟩] [(5, 2), (7, 4), (9, 6), (13, 10), (15, 12), (17, 14)] [0, 2, 18, 19] rfl (by kernel_rfl) (by kernel_rfl) rfl rfl (by kernel_rfl) (by kernel_rfl) (by kernel_rfl) rfl ?obs1 ?end1
 case obs1 =>
  refine Obs.cons ?_ ?_
  ·refine obS (by kernel_rfl) rfl rfl (fun ph1 w1 hO1 => ?_)
   refine VL.fieldAddr rfl fo82_0 rfl ?_
   exact VL.finS hO1 rfl rfl
  refine Obs.cons ?_ ?_
  ·refine obS (by kernel_rfl) rfl rfl (fun ph1 w1 hO1 => ?_)
   rintro _ rfl
   refine VL.loadF (s := ⟨w2, _⟩) (v := .int .u8 (x.device)) 0 rfl kd5 hF3 (fun _ e => e ▸ Still.ok hO1 (by repeat (first | exact List.mem_cons_self .. | apply List.mem_cons_of_mem))) rfl rfl ?_
   exact VL.finS hO1 rfl rfl
  refine Obs.cons ?_ ?_
  ·refine ob (by kernel_rfl) rfl (by kernel_rfl) rfl (fun w1 hO1 => ?_)
   rintro _ rfl
   refine VL.toOwn hO1 ?_
   refine VL.litByte (m := x.device) el24 rfl (by have hm := hx.device; omega) (fun g5 w6 hO7 hA8 => ?_)
   exact VL.finO rfl (fun _ h => h.subA) (fun _ h => ⟨_, rfl, (hA8.nowA (s := ⟨w6, _⟩) Mono.byte h)⟩)
  refine Obs.cons ?_ ?_
  ·refine obS (by kernel_rfl) rfl rfl (fun ph1 w1 hO1 => ?_)
   refine VL.fieldAddr rfl fo82_1 rfl ?_
   exact VL.finS hO1 rfl rfl
  refine Obs.cons ?_ ?_
  ·refine obS (by kernel_rfl) rfl rfl (fun ph1 w1 hO1 => ?_)
   rintro _ rfl
   refine VL.sliceArrAt Try.underlying44 (by kernel_rfl) rfl ?_
   refine VL.newv (v' := .slice (some ⟨g1, 1, none⟩) (x.agree).length 32) (by rw [hx.agree]) ?_
   exact VL.finS hO1 rfl rfl
  refine Obs.cons ?_ ?_
  ·refine obS (by kernel_rfl) rfl rfl (fun ph1 w1 hO1 => ?_)
   refine VL.fieldAddr rfl fo82_2 rfl ?_
   exact VL.finS hO1 rfl rfl
  refine Obs.cons ?_ ?_
  ·refine obS (by kernel_rfl) rfl rfl (fun ph1 w1 hO1 => ?_)
   rintro _ rfl
   refine VL.sliceArrAt Try.underlying44 (by kernel_rfl) rfl ?_
   refine VL.newv (v' := .slice (some ⟨g1, 33, none⟩) (x.signer).length 32) (by rw [hx.signer]) ?_
   exact VL.finS hO1 rfl rfl
  refine Obs.cons ?_ ?_
  ·refine obS (by kernel_rfl) rfl rfl (fun ph1 w1 hO1 => ?_)
   refine VL.fieldAddr rfl fo82_3 rfl ?_
   exact VL.finS hO1 rfl rfl
  refine Obs.cons ?_ ?_
  ·refine obS (by kernel_rfl) rfl rfl (fun ph1 w1 hO1 => ?_)
   rintro _ rfl
   refine VL.loadF (s := ⟨w2, _⟩) (v := .int .u16 (x.id)) 3 rfl kd68 hF3 (fun _ e => e ▸ Still.ok hO1 (by repeat (first | exact List.mem_cons_self .. | apply List.mem_cons_of_mem))) rfl rfl ?_
   exact VL.finS hO1 rfl rfl
  refine Obs.cons ?_ ?_
  ·refine obS (by kernel_rfl) rfl rfl (fun ph1 w1 hO1 => ?_)
   rintro _ rfl
   refine VL.conv (by rw [Try.underlying68]; rfl) Try.underlying3 rfl (by simp only [InR]; omega) ?_
   exact VL.finS hO1 rfl rfl
  refine Obs.cons ?_ ?_
  ·refine ob (by kernel_rfl) rfl (by kernel_rfl) rfl (fun w1 hO1 => ?_)
   rintro _ rfl
   refine VL.toOwn hO1 ?_
   refine VL.call Try.func108 rfl (by decide) rfl (fun w' hw => num_S hw (x.id) 2 (by omega) (by decide) (by decide) (fits2 (by omega))) (fun v => ?_)
   refine VL.at (fun w9 h1w => ?_)
   obtain ⟨p10, c11, rfl, hO13, hA12⟩ := h1w
   refine VL.toOwn hO13 ?_
   exact VL.finO rfl (fun _ h => h.subA) (fun _ h => ⟨_, _, rfl, (hA12.nowA (s := ⟨w9, _⟩) Mono.byte h)⟩)
  refine Obs.cons ?_ ?_
  ·refine obS (by kernel_rfl) rfl rfl (fun ph1 w1 hO1 => ?_)
   refine VL.fieldAddr rfl fo82_4 rfl ?_
   exact VL.finS hO1 rfl rfl
  refine Obs.cons ?_ ?_
  ·refine obS (by kernel_rfl) rfl rfl (fun ph1 w1 hO1 => ?_)
   rintro _ rfl
   refine VL.sliceArrAt Try.underlying44 (by kernel_rfl) rfl ?_
   refine VL.newv (v' := .slice (some ⟨g1, 66, none⟩) (x.once).length 32) (by rw [hx.once]) ?_
   exact VL.finS hO1 rfl rfl
  refine Obs.cons ?_ ?_
  ·refine obS (by kernel_rfl) rfl rfl (fun ph1 w1 hO1 => ?_)
   refine VL.fieldAddr rfl fo82_5 rfl ?_
   exact VL.finS hO1 rfl rfl
  refine Obs.cons ?_ ?_
  ·refine obS (by kernel_rfl) rfl rfl (fun ph1 w1 hO1 => ?_)
   rintro _ rfl
   refine VL.sliceArrAt Try.underlying80 (by kernel_rfl) rfl ?_
   refine VL.newv (v' := .slice (some ⟨g1, 98, none⟩) (x.sig).length 64) (by rw [hx.sig]) ?_
   exact VL.finS hO1 rfl rfl
  exact Obs.nil
 case end1 =>
  intro w1 hO1
  rintro _ ⟨p1_2, rfl, hA1_2⟩ _ rfl _ rfl _ ⟨p1_10, c1_10, rfl, hA1_10⟩ _ rfl _ rfl
  refine VL.toOwn hO1 ?_
  refine VL.lit el31 rfl rfl rfl (by simp [Value.cells]) (by intro u hu; simp [Value.cells] at hu; rcases hu with rfl | rfl | rfl | rfl | rfl | rfl <;> rfl) (fun g14 => ?_)
  refine VL.letRowS [be 1 (x.device), x.agree, x.signer, be 2 (x.id), x.once, x.sig] rfl (fun w' hw => ⟨⟨_, _, rfl, (hA1_2.nowA (s := ⟨w1, _⟩) Mono.byte hw)⟩, ⟨⟨_, _, rfl, ((hF3.bytes 1 1 rfl rfl hx.agree rfl).nowA (s := ⟨w2, _⟩) Mono.byte hw)⟩, ⟨⟨_, _, rfl, ((hF3.bytes 2 33 rfl rfl hx.signer rfl).nowA (s := ⟨w2, _⟩) Mono.byte hw)⟩, ⟨⟨_, _, rfl, (hA1_10.nowA (s := ⟨w1, _⟩) Mono.byte hw)⟩, ⟨⟨_, _, rfl, ((hF3.bytes 4 66 rfl rfl hx.once rfl).nowA (s := ⟨w2, _⟩) Mono.byte hw)⟩, ⟨⟨_, _, rfl, ((hF3.bytes 5 98 rfl rfl hx.sig rfl).nowA (s := ⟨w2, _⟩) Mono.byte hw)⟩, trivial⟩⟩⟩⟩⟩⟩) (fun w15 hO16 hA17 => ?_)
  refine VL.call Try.func120 rfl (by decide) rfl (fun w' hw => all_S (ls := [be 1 (x.device), x.agree, x.signer, be 2 (x.id), x.once, x.sig]) hw (hA17.nowA (s := ⟨w15, _⟩) (Mono.slice Mono.byte) hw) (bundleP_ok hx)) (fun v => ?_)
  refine VL.at (fun w18 h1w => ?_)
  obtain ⟨p19, c20, rfl, hO22, hA21⟩ := h1w
  refine VL.toOwn hO22 ?_
  refine VL.assign rfl ?_
  refine VL.nn ?_
  refine VC.ret ?_
  refine VX.ret1 rfl rfl (fun we hw => ?_)
  exact ⟨p19, c20, rfl, hw.subA, (hA21.nowA (s := ⟨w18, _⟩) Mono.byte hw)⟩

theorem refObject_w {S : List Snap} {H : List Chunk} {w : World} (ho : Own S H w) {x : Object} (hx : x.ok) {q : Option Addr} {d : Nat} (hV : Arr 65 vouchR (keys H) w q x.vouches d) : Calls Try.prog 66 #[.agg (cat (objectV x q d)).toArray] w (RetO S H (objectO x)) := by
 have hx1 := hx.server
 have hx2 := hx.n
 have hx3 := hx.since
 have hx4 := hx.till
 refine enter (G := Own (⟨w, keys H⟩ :: S) H) ho.keep Try.func66 rfl Try.ntmps66 rfl ?_
 refine VC.sr ?_
 refine VL.box (L := objectL) (ps := (objectV (x) q d)) rfl rfl (objectV_len hx) (fun g1 => ?_)
 refine VL.assign rfl ?_
 refine VL.assign rfl ?_
 refine VL.nn ?_
 refine VC.seq ?_
 refine VC.sr ?_
 refine VL.fieldAddr rfl fo85_6 rfl ?_
 refine VL.load (v := .slice q (x.vouches).length d) 0 6 rfl kd83 (fun _ h => h) rfl rfl rfl ?_
 refine VL.len Try.underlying83 rfl rfl ?_
 refine VL.gtr rfl rfl ?_
 refine VL.case (fun h1_3 => ?_) (fun h1_3 => ?_)
 ·refine VL.nn ?_
  refine VC.yes rfl ?_
  refine VC.sr ?_
  refine VL.assign rfl ?_
  refine VL.assign rfl ?_
  refine VL.nn ?_
  refine VC.ret ?_
  refine VX.then_ret ?_
  refine VX.ret2 rfl rfl rfl (fun we hw => ?_)
  exact postO ((show (none : Option (List UInt8)) = objectO x from (if_neg (by omega)).symm)) ⟨none, 0, rfl, hw.drop.subA, Arr.none⟩
 ·refine VL.nn ?_
  refine VC.no rfl ?_
  refine VC.skip ?_
  refine VX.next ?_
  refine VC.seq ?_
  refine VC.letCells 0 rfl (fun w2 hO4 hF3 => ?_)
  apply VC.anyTA 18 1020 (F := [eqF _, eqF _, capF (be 1 (x.server)) 1, eqF _, eqF _, capF (be 1 (x.n)) 1, eqF _, eqF _, eqF _, eqF _, eqF _, bytesF (be 4 (x.since)), eqF _, eqF _, eqF _, bytesF (be 4 (x.till)), eqF _, eqF _]) [⟨[], [1]⟩, ⟨[(11, 0)], []⟩, ⟨[(12, 1)], []⟩, ⟨[], [1]⟩, ⟨[(14, 3)], []⟩, ⟨[(15, 4)], []⟩, ⟨[], [1]⟩, ⟨[(17, 6)], []⟩, ⟨[], [1]⟩, ⟨[(19, 8)], []⟩, ⟨[(20, 9)], []⟩, ⟨[(21, 10)], []⟩, ⟨[], [1]⟩, ⟨[(23, 12)], []⟩, ⟨[(24, 13)], []⟩, ⟨[(25, 14)], []⟩, ⟨[], [1]⟩, ⟨[(27, 16)], []⟩] [(13, 2), (16, 5), (18, 7), (22, 11), (26, 15), (28, 17)] [0, 1, 2, 3, 4, 5, 6, 7, 8, 9, 10, 29, 30, 31, 32, 33, 34, 35, 36, 37, 38, 39, 40, 41, 42, 43, 44, 45, 46, 47, 48, 49, 50, 51, 52, 53, 54, 55, 56, 57, 58] rfl (by kernel_rfl) (by kernel_rfl) rfl rfl (by kernel_rfl) (by kernel_rfl) (by kernel_rfl) rfl ?obs3 ?end3
  case obs3 =>
   refine Obs.cons ?_ ?_
   ·refine obS (by kernel_rfl) rfl rfl (fun ph3 w3 hO3 => ?_)
    refine VL.fieldAddr rfl fo85_0 rfl ?_
    exact VL.finS hO3 rfl rfl
   refine Obs.cons ?_ ?_
   ·refine obS (by kernel_rfl) rfl rfl (fun ph3 w3 hO3 => ?_)
    rintro _ rfl
    refine VL.loadF (s := ⟨w2, _⟩) (v := .int .u8 (x.server)) 0 rfl kd5 hF3 (fun _ e => e ▸ Still.ok hO3 (by repeat (first | exact List.mem_cons_self .. | apply List.mem_cons_of_mem))) rfl rfl ?_
    exact VL.finS hO3 rfl rfl
   refine Obs.cons ?_ ?_
   ·refine ob (by kernel_rfl) rfl (by kernel_rfl) rfl (fun w3 hO3 => ?_)
    rintro _ rfl
    refine VL.toOwn hO3 ?_
    refine VL.litByte (m := x.server) el24 rfl (by have hm := hx.server; omega) (fun g5 w6 hO7 hA8 => ?_)
    exact VL.finO rfl (fun _ h => h.subA) (fun _ h => ⟨_, rfl, (hA8.nowA (s := ⟨w6, _⟩) Mono.byte h)⟩)
   refine Obs.cons ?_ ?_
   ·refine obS (by kernel_rfl) rfl rfl (fun ph3 w3 hO3 => ?_)
    refine VL.fieldAddr rfl fo85_1 rfl ?_
    exact VL.finS hO3 rfl rfl
   refine Obs.cons ?_ ?_
   ·refine obS (by kernel_rfl) rfl rfl (fun ph3 w3 hO3 => ?_)
    rintro _ rfl
    refine VL.loadF (s := ⟨w2, _⟩) (v := .int .u8 (x.n)) 1 rfl kd5 hF3 (fun _ e => e ▸ Still.ok hO3 (by repeat (first | exact List.mem_cons_self .. | apply List.mem_cons_of_mem))) rfl rfl ?_
    exact VL.finS hO3 rfl rfl
   refine Obs.cons ?_ ?_
   ·refine ob (by kernel_rfl) rfl (by kernel_rfl) rfl (fun w3 hO3 => ?_)
    rintro _ rfl
    refine VL.toOwn hO3 ?_
    refine VL.litByte (m := x.n) el24 rfl (by have hm := hx.n; omega) (fun g9 w10 hO11 hA12 => ?_)
    exact VL.finO rfl (fun _ h => h.subA) (fun _ h => ⟨_, rfl, (hA12.nowA (s := ⟨w10, _⟩) Mono.byte h)⟩)
   refine Obs.cons ?_ ?_
   ·refine obS (by kernel_rfl) rfl rfl (fun ph3 w3 hO3 => ?_)
    refine VL.fieldAddr rfl fo85_2 rfl ?_
    exact VL.finS hO3 rfl rfl
   refine Obs.cons ?_ ?_
   ·refine obS (by kernel_rfl) rfl rfl (fun ph3 w3 hO3 => ?_)
    rintro _ rfl
    refine VL.sliceArrAt Try.underlying44 (by kernel_rfl) rfl ?_
    refine VL.newv (v' := .slice (some ⟨g1, 2, none⟩) (x.key).length 32) (by rw [hx.key]) ?_
    exact VL.finS hO3 rfl rfl
   refine Obs.cons ?_ ?_
   ·refine obS (by kernel_rfl) rfl rfl (fun ph3 w3 hO3 => ?_)
    refine VL.fieldAddr rfl fo85_3 rfl ?_
    exact VL.finS hO3 rfl rfl
   refine Obs.cons ?_ ?_
   ·refine obS (by kernel_rfl) rfl rfl (fun ph3 w3 hO3 => ?_)
    rintro _ rfl
    refine VL.loadF (s := ⟨w2, _⟩) (v := .int .u32 (x.since)) 3 rfl kd48 hF3 (fun _ e => e ▸ Still.ok hO3 (by repeat (first | exact List.mem_cons_self .. | apply List.mem_cons_of_mem))) rfl rfl ?_
    exact VL.finS hO3 rfl rfl
   refine Obs.cons ?_ ?_
   ·refine obS (by kernel_rfl) rfl rfl (fun ph3 w3 hO3 => ?_)
    rintro _ rfl
    refine VL.conv (by rw [Try.underlying48]; rfl) Try.underlying3 rfl (by simp only [InR]; omega) ?_
    exact VL.finS hO3 rfl rfl
   refine Obs.cons ?_ ?_
   ·refine ob (by kernel_rfl) rfl (by kernel_rfl) rfl (fun w3 hO3 => ?_)
    rintro _ rfl
    refine VL.toOwn hO3 ?_
    refine VL.call Try.func108 rfl (by decide) rfl (fun w' hw => num_S hw (x.since) 4 (by omega) (by decide) (by decide) (fits4 (by omega))) (fun v => ?_)
    refine VL.at (fun w13 h1w => ?_)
    obtain ⟨p14, c15, rfl, hO17, hA16⟩ := h1w
    refine VL.toOwn hO17 ?_
    exact VL.finO rfl (fun _ h => h.subA) (fun _ h => ⟨_, _, rfl, (hA16.nowA (s := ⟨w13, _⟩) Mono.byte h)⟩)
   refine Obs.cons ?_ ?_
   ·refine obS (by kernel_rfl) rfl rfl (fun ph3 w3 hO3 => ?_)
    refine VL.fieldAddr rfl fo85_4 rfl ?_
    exact VL.finS hO3 rfl rfl
   refine Obs.cons ?_ ?_
   ·refine obS (by kernel_rfl) rfl rfl (fun ph3 w3 hO3 => ?_)
    rintro _ rfl
    refine VL.loadF (s := ⟨w2, _⟩) (v := .int .u32 (x.till)) 4 rfl kd48 hF3 (fun _ e => e ▸ Still.ok hO3 (by repeat (first | exact List.mem_cons_self .. | apply List.mem_cons_of_mem))) rfl rfl ?_
    exact VL.finS hO3 rfl rfl
   refine Obs.cons ?_ ?_
   ·refine obS (by kernel_rfl) rfl rfl (fun ph3 w3 hO3 => ?_)
    rintro _ rfl
    refine VL.conv (by rw [Try.underlying48]; rfl) Try.underlying3 rfl (by simp only [InR]; omega) ?_
    exact VL.finS hO3 rfl rfl
   refine Obs.cons ?_ ?_
   ·refine ob (by kernel_rfl) rfl (by kernel_rfl) rfl (fun w3 hO3 => ?_)
    rintro _ rfl
    refine VL.toOwn hO3 ?_
    refine VL.call Try.func108 rfl (by decide) rfl (fun w' hw => num_S hw (x.till) 4 (by omega) (by decide) (by decide) (fits4 (by omega))) (fun v => ?_)
    refine VL.at (fun w18 h1w => ?_)
    obtain ⟨p19, c20, rfl, hO22, hA21⟩ := h1w
    refine VL.toOwn hO22 ?_
    exact VL.finO rfl (fun _ h => h.subA) (fun _ h => ⟨_, _, rfl, (hA21.nowA (s := ⟨w18, _⟩) Mono.byte h)⟩)
   refine Obs.cons ?_ ?_
   ·refine obS (by kernel_rfl) rfl rfl (fun ph3 w3 hO3 => ?_)
    refine VL.fieldAddr rfl fo85_5 rfl ?_
    exact VL.finS hO3 rfl rfl
   refine Obs.cons ?_ ?_
   ·refine obS (by kernel_rfl) rfl rfl (fun ph3 w3 hO3 => ?_)
    rintro _ rfl
    refine VL.sliceArrAt Try.underlying80 (by kernel_rfl) rfl ?_
    refine VL.newv (v' := .slice (some ⟨g1, 36, none⟩) (x.sig).length 64) (by rw [hx.sig]) ?_
    exact VL.finS hO3 rfl rfl
   exact Obs.nil
  case end3 =>
   intro w3 hO3
   rintro _ ⟨p3_2, rfl, hA3_2⟩ _ ⟨p3_5, rfl, hA3_5⟩ _ rfl _ ⟨p3_11, c3_11, rfl, hA3_11⟩ _ ⟨p3_15, c3_15, rfl, hA3_15⟩ _ rfl
   refine VL.toOwn hO3 ?_
   refine VL.litB [be 1 (x.server), be 1 (x.n), x.key, be 4 (x.since), be 4 (x.till), x.sig] el31 rfl rfl rfl (by simp [Value.cells]) (by intro u hu; simp [Value.cells] at hu; rcases hu with rfl | rfl | rfl | rfl | rfl | rfl <;> rfl) rfl (fun _ w' hw => ⟨⟨_, _, rfl, (hA3_2.nowA (s := ⟨w3, _⟩) Mono.byte hw)⟩, ⟨⟨_, _, rfl, (hA3_5.nowA (s := ⟨w3, _⟩) Mono.byte hw)⟩, ⟨⟨_, _, rfl, ((hF3.bytes 2 2 rfl rfl hx.key rfl).nowA (s := ⟨w2, _⟩) Mono.byte hw)⟩, ⟨⟨_, _, rfl, (hA3_11.nowA (s := ⟨w3, _⟩) Mono.byte hw)⟩, ⟨⟨_, _, rfl, (hA3_15.nowA (s := ⟨w3, _⟩) Mono.byte hw)⟩, ⟨⟨_, _, rfl, ((hF3.bytes 5 36 rfl rfl hx.sig rfl).nowA (s := ⟨w2, _⟩) Mono.byte hw)⟩, trivial⟩⟩⟩⟩⟩⟩) (fun v => ?_)
   refine VL.ex fun g23 => VL.fact fun e24 => ?_
   subst e24
   refine VL.assign rfl ?_
   refine VL.nn ?_
   refine VC.seq ?_
   refine VC.sr ?_
   refine VL.assign rfl ?_
   refine VL.nn ?_
   refine VC.block ?_
   refine VC.loop (X := Nat × Option Nat × Nat) (fun (i, gp, c) => [(1, .pointer (some ⟨g1, 0, none⟩)), (4, rowV gp (objectP0 x ++ (x.vouches.take i).map vouchB).length c), (5, .int .i64 (i : Int))]) (fun (i, gp, c) w' => i ≤ x.vouches.length ∧ Own (⟨w2, keys H⟩ :: ⟨w, keys H⟩ :: S) (brow gp c ((objectP0 x ++ (x.vouches.take i).map vouchB)) :: H) w') (fun (i, _) => x.vouches.length - i) (0, (some g23), 6) ⟨rfl, rfl, rfl, trivial⟩ (fun w' h => ⟨Nat.zero_le _, h.subA⟩) (fun (i, gp, c) => VC.fact fun hi => ?_)
   ·have hpl : (objectP0 x).length = 6 := rfl
    have htk : (List.take i x.vouches).length ≤ i := List.length_take_le _ _
    refine VC.seq ?_
    refine VC.sr ?_
    refine VL.move rfl ?_
    refine VL.fieldAddr rfl fo85_6 rfl ?_
    refine VL.loadF (s := ⟨w2, _⟩) (v := .slice q (x.vouches).length d) 6 rfl kd83 hF3 (fun _ h => (h.after (by repeat (first | exact List.mem_cons_self .. | apply List.mem_cons_of_mem))).1) rfl rfl ?_
    refine VL.len Try.underlying83 rfl rfl ?_
    refine VL.lss rfl rfl ?_
    refine VL.case (fun h5 => ?_) (fun h5 => ?_)
    ·have hlt : i < x.vouches.length := by omega
     refine VL.nn ?_
     refine VC.yes rfl ?_
     refine VC.skip ?_
     refine VX.next ?_
     refine VC.seq ?_
     refine VC.block ?_
     refine VC.sr ?_
     refine VL.fieldAddr rfl fo85_6 rfl ?_
     refine VL.loadF (s := ⟨w2, _⟩) (v := .slice q (x.vouches).length d) 6 rfl kd83 hF3 (fun _ h => (h.after (by repeat (first | exact List.mem_cons_self .. | apply List.mem_cons_of_mem))).1) rfl rfl ?_
     refine VL.move rfl ?_
     refine VL.index (xs := x.vouches) rfl rfl Try.underlying83 sz83 hV (by omega) (by have hi := hlt; omega) ?_
     refine VL.fieldAt rfl (by obtain ⟨a, ha⟩ := hV.isAt (by have hi := hlt; omega); rw [ha]; rfl) fo202_0 ?_
     refine VL.elem (s := ⟨w, _⟩) (i) 0 rfl kd5 (fun _ h => h) (by repeat (first | exact List.mem_cons_self .. | apply List.mem_cons_of_mem)) Mono_vouch hV (List.getElem?_eq_getElem hlt) (by simp) (by decide) (fun vs v hl hr hv => ?_)
     obtain ⟨hy25, rfl⟩ := hr
     have ehy25 : v = .int .u8 ((x.vouches[i]'hlt).notary : Nat) := (Option.some.inj (hv.symm.trans rfl))
     subst ehy25
     refine VL.litByte (m := (x.vouches[i]'hlt).notary) el24 rfl (by have hm := (hx.vouches _ (List.getElem_mem hlt)).notary; omega) (fun g26 w27 hO28 hA29 => ?_)
     refine VL.assign rfl ?_
     refine VL.nn ?_
     refine VC.region ?_
     refine VL.move rfl ?_
     refine VL.move rfl ?_
     refine VL.fieldAddr rfl fo85_6 rfl ?_
     refine VL.loadF (s := ⟨w2, _⟩) (v := .slice q (x.vouches).length d) 6 rfl kd83 hF3 (fun _ h => (h.after (by repeat (first | exact List.mem_cons_self .. | apply List.mem_cons_of_mem))).1) rfl rfl ?_
     refine VL.move rfl ?_
     refine VL.index (xs := x.vouches) rfl rfl Try.underlying83 sz83 hV (by omega) (by have hi := hlt; omega) ?_
     refine VL.fieldAt rfl (by obtain ⟨a, ha⟩ := hV.isAt (by have hi := hlt; omega); rw [ha]; rfl) fo202_1 ?_
     refine VL.sliceIn (i) 1 ((x.vouches[i]'hlt).sig) Try.underlying80 (by kernel_rfl) rfl hV (List.getElem?_eq_getElem hlt) (by simp) (hx.vouches _ (List.getElem_mem hlt)).sig (by decide) (fun vs hr => vouch_sig hr) (fun q30 hA31 => ?_)
     refine VL.appendFull el24 rfl rfl rfl (by simp only [be_length]; omega) (by have hl := (hx.vouches _ (List.getElem_mem hlt)).sig; omega) (by simp only [be_length]; have hl := (hx.vouches _ (List.getElem_mem hlt)).sig; omega) (by simp only [be_length]; have hl := (hx.vouches _ (List.getElem_mem hlt)).sig; omega) (fun _ hw => (hA29.nowA (s := ⟨w27, _⟩) Mono.byte hw)) (fun _ hw => (hA31.nowA (s := ⟨w, _⟩) Mono.byte hw)) (fun g32 c36 w33 hO34 hA35 => ?_)
     refine VL.lit el31 rfl rfl rfl (by simp [Value.cells]) (by intro u hu; simp [Value.cells] at hu; rcases hu with rfl <;> rfl) (fun g37 => ?_)
     refine VL.letRowS [(be 1 ((x.vouches[i]'hlt).notary) ++ (x.vouches[i]'hlt).sig)] rfl (fun w' hw => ⟨⟨_, _, rfl, (hA35.nowA (s := ⟨w33, _⟩) Mono.byte hw)⟩, trivial⟩) (fun w38 hO39 hA40 => ?_)
     refine VL.appends (R := bytesR) (hR := Mono.slice Mono.byte) (ys := (objectP0 x ++ (x.vouches.take i).map vouchB)) (zs := [(be 1 ((x.vouches[i]'hlt).notary) ++ (x.vouches[i]'hlt).sig)]) 0 el31 rfl rfl rfl (fun _ h => h) rfl (fun _ hw => (hA40.nowA (s := ⟨w38, _⟩) (Mono.slice Mono.byte) hw)) bytesR_ok1 (by simp only [List.length_append, List.length_cons, List.length_nil, List.length_map]; omega) (fun g41 c42 => ?_) (by simp only [List.length_append, List.length_cons, List.length_nil, List.length_map]; omega)
     refine VL.set0 ?_
     refine VL.assign rfl ?_
     refine VL.nil ?_
     refine VX.block_normal ?_
     refine VX.next ?_
     refine VC.region ?_
     refine VL.move rfl ?_
     refine VL.add rfl rfl (by simp only [InR]; omega) ?_
     refine VL.assign rfl ?_
     refine VL.nil ?_
     have el : objectP0 x ++ (x.vouches.take i).map vouchB ++ [be 1 (x.vouches[i]'hlt).notary ++ (x.vouches[i]'hlt).sig] = objectP0 x ++ (x.vouches.take (i + 1)).map vouchB := by rw [← vouch_next hlt, List.append_assoc]
     refine VX.round (i + 1, g41, c42) ⟨rfl, congrArg (fun l : List (List UInt8) => some (rowV g41 l.length c42)) el, rfl, trivial⟩ (fun w' h => ⟨by omega, ?_⟩) (by show x.vouches.length - (i + 1) < x.vouches.length - i; omega)
     rw [← el]
     exact h.subA
    ·have hie : i = x.vouches.length := by omega
     refine VL.nn ?_
     refine VC.no rfl ?_
     refine VC.exit ?_
     refine VX.then_exit ?_
     refine VX.then_exit ?_
     refine VX.block_here ?_
     refine VX.next ?_
     refine VC.seq ?_
     refine VC.letArr (fun wr hOr hAr => ?_)
     refine VC.region ?_
     refine VL.move rfl ?_
     refine VL.call Try.func31 rfl (by decide) rfl (fun w' hw => join_O (ls := (objectP0 x ++ (x.vouches.take i).map vouchB)) hw (hAr.nowA (s := ⟨wr, _⟩) (Mono.slice Mono.byte) hw)) (fun v => ?_)
     refine VL.at (fun w43 h1w => ?_)
     obtain ⟨p44, c45, rfl, hO47, hA46⟩ := h1w
     refine VL.toOwn hO47 ?_
     refine VL.extract rfl rfl ?_
     refine VL.extract rfl rfl ?_
     refine VL.assign rfl ?_
     refine VL.assign rfl ?_
     refine VL.nn ?_
     refine VC.ret ?_
     refine VX.ret2 rfl rfl rfl (fun we hw => ?_)
     exact postO ((show joinO (objectP0 x ++ (x.vouches.take i).map vouchB) true = objectO x from by rw [hie, List.take_length]; unfold objectO; rw [if_pos (by omega)]; exact joinO_some (objectP_ok hx (by omega)) rfl)) ⟨p44, c45, rfl, hw.subA, (hA46.nowA (s := ⟨w43, _⟩) Mono.byte hw)⟩

end Go.Proofs.Ytcfecmoagfgnaaa

