/- The reference: objects; one against the other. -/
import Derived.Test.YtcfecmoagfgnaaaVcRef
namespace Go.Proofs.Ytcfecmoagfgnaaa
open Go.Vc Go.Pl

theorem bytes_B {S : List Snap} {H : List Chunk} {w : World} (ho : Own S H w) {p q : Option Addr} {l k : List UInt8} {c d : Nat} (hA : Bytes (keys H) w p l c) (hB : Bytes (keys H) w q k d) : Calls Try.prog 27 #[.slice p l.length c, .slice q k.length d] w (Ret fun v w' => ∃ b : Bool, v = .bool b ∧ (b = true ↔ l = k) ∧ Own S H w') :=
  calls_mono (bytes_any ho hA hB) fun v w' ⟨h1, h2⟩ => ⟨decide (l = k), h2, by simp, h1⟩
theorem vouch_sig {K : List Nat} {w : World} {v : Vouch} {vs : List Value} (h : vouchR K w vs v) : (vs.drop 1).take 64 = v.sig.map bv := by
  obtain ⟨hv, rfl⟩ := h
  have : (v.sig.map bv).length = 64 := by rw [List.length_map]; exact hv.sig
  simp [cat, List.take_of_length_le, this]
theorem letter_iff {x y : Letter} : y = x ↔ x.src = y.src ∧ x.dst = y.dst ∧ x.header = y.header ∧ x.body = y.body := by
  constructor
  · rintro rfl; exact ⟨rfl, rfl, rfl, rfl⟩
  · rintro ⟨h1, h2, h3, h4⟩
    cases x; cases y
    simp only at h1 h2 h3 h4
    subst h1 h2 h3 h4; rfl
theorem object_iff {x y : Object} : y = x ↔ x.server = y.server ∧ x.n = y.n ∧ x.key = y.key ∧ x.since = y.since ∧ x.till = y.till ∧ x.sig = y.sig ∧ x.vouches = y.vouches := by
  constructor
  · rintro rfl; exact ⟨rfl, rfl, rfl, rfl, rfl, rfl, rfl⟩
  · rintro ⟨h1, h2, h3, h4, h5, h6, h7⟩
    cases x; cases y
    simp only at h1 h2 h3 h4 h5 h6 h7
    subst h1 h2 h3 h4 h5 h6 h7; rfl
theorem item_iff {x y : Itm} : y = x ↔ x.kind = y.kind ∧ x.asker = y.asker ∧ x.peer = y.peer ∧ y.letter = x.letter ∧ x.bundle = y.bundle ∧ y.object = x.object := by
  constructor
  · rintro rfl; exact ⟨rfl, rfl, rfl, rfl, rfl, rfl⟩
  · rintro ⟨h1, h2, h3, h4, h5, h6⟩
    cases x; cases y
    simp only at h1 h2 h3 h4 h5 h6
    subst h1 h2 h3 h4 h5 h6; rfl

theorem sameLetters_g {S : List Snap} {H : List Chunk} {w : World} (ho : Own S H w) {x y : Letter} (hx : x.ok) {p : Option Addr} {c : Nat} (hA : Bytes (keys H) w p x.body c) (hy : y.ok) {q : Option Addr} {d : Nat} (hB : Bytes (keys H) w q y.body d) : Calls Try.prog 55 #[.agg (cat (letterV x p c)).toArray, .agg (cat (letterV y q d)).toArray] w (Ret fun v w' => ∃ b : Bool, v = .bool b ∧ (b = true ↔ y = x) ∧ Own S H w') := by
  refine enter (G := Own (⟨w, keys H⟩ :: S) H) ho.keep Try.func55 rfl Try.ntmps55 rfl ?_
  refine VC.seq ?_
  refine VC.region ?_
  refine VL.box (L := letterL) (ps := (letterV (x) p c)) rfl rfl (letterV_len hx) (fun g1 => ?_)
  refine VL.box (L := letterL) (ps := (letterV (y) q d)) rfl rfl (letterV_len hy) (fun g2 => ?_)
  refine VL.assign rfl ?_
  refine VL.nil ?_
  refine VX.next ?_
  refine VC.seq ?_
  refine VC.region ?_
  refine VL.fieldAddr rfl fo72_0 rfl ?_
  refine VL.load (v := .int .u8 (x.src)) 1 0 rfl kd5 (fun _ h => h) rfl rfl rfl ?_
  refine VL.fieldAddr rfl fo72_0 rfl ?_
  refine VL.load (v := .int .u8 (y.src)) 0 0 rfl kd5 (fun _ h => h) rfl rfl rfl ?_
  refine VL.eql rfl rfl ?_
  refine VL.case (fun h1_4 => ?_) (fun h1_4 => ?_)
  · have h1_4 : x.src = y.src := by omega
    refine VL.move rfl ?_
    refine VL.go rfl rfl rfl ?_
    refine VL.fieldAddr rfl fo72_1 rfl ?_
    refine VL.go rfl rfl rfl ?_
    refine VL.load (v := .int .u8 (x.dst)) 1 1 rfl kd5 (fun _ h => h) rfl rfl rfl ?_
    refine VL.go rfl rfl rfl ?_
    refine VL.fieldAddr rfl fo72_1 rfl ?_
    refine VL.go rfl rfl rfl ?_
    refine VL.load (v := .int .u8 (y.dst)) 0 1 rfl kd5 (fun _ h => h) rfl rfl rfl ?_
    refine VL.go rfl rfl rfl ?_
    refine VL.eql rfl rfl ?_
    refine VL.case (fun h1_10 => ?_) (fun h1_10 => ?_)
    · have h1_10 : x.dst = y.dst := by omega
      refine VL.pick_t rfl rfl ?_
      refine VL.move rfl ?_
      refine VL.go rfl rfl rfl ?_
      refine VL.fieldAddr rfl fo72_2 rfl ?_
      refine VL.go rfl rfl rfl ?_
      refine VL.loads (cs := cat (headerV (x.header))) 1 2 9 rfl kd70 (fun _ h => h) rfl rfl rfl rfl ?_
      refine VL.go rfl rfl rfl ?_
      refine VL.fieldAddr rfl fo72_2 rfl ?_
      refine VL.go rfl rfl rfl ?_
      refine VL.loads (cs := cat (headerV (y.header))) 0 2 9 rfl kd70 (fun _ h => h) rfl rfl rfl rfl ?_
      refine VL.go rfl rfl rfl ?_
      refine VL.eqT guard70 rfl rfl (eqHeader hx.header hy.header) (fun b h1_17 => ?_)
      cases b
      · have h1_17 := mt h1_17.2 (by decide)
        refine VL.pick_t rfl rfl ?_
        refine VL.move rfl ?_
        refine VL.pass rfl rfl rfl rfl rfl ?_
        refine VL.pass rfl rfl rfl rfl rfl ?_
        refine VL.pass rfl rfl rfl rfl rfl ?_
        refine VL.pass rfl rfl rfl rfl rfl ?_
        refine VL.pass rfl rfl rfl rfl rfl ?_
        refine VL.pick_f rfl rfl ?_
        refine VL.assign rfl ?_
        refine VL.nil ?_
        refine VX.next ?_
        refine VC.ret ?_
        refine VX.ret1 rfl rfl (fun we hw => ?_)
        refine ⟨false, rfl, ?_, hw.drop.drop.sub (fun _ hs => by repeat (first | exact hs | apply List.mem_cons_of_mem))⟩
        rw [letter_iff]
        simp [h1_4, h1_10, h1_17]
      · have h1_17 := h1_17.1 rfl
        refine VL.pick_t rfl rfl ?_
        refine VL.move rfl ?_
        refine VL.go rfl rfl rfl ?_
        refine VL.fieldAddr rfl fo72_3 rfl ?_
        refine VL.go rfl rfl rfl ?_
        refine VL.load (v := .slice p (x.body).length c) 1 11 rfl kd24 (fun _ h => h) rfl rfl rfl ?_
        refine VL.go rfl rfl rfl ?_
        refine VL.fieldAddr rfl fo72_3 rfl ?_
        refine VL.go rfl rfl rfl ?_
        refine VL.load (v := .slice q (y.body).length d) 0 11 rfl kd24 (fun _ h => h) rfl rfl rfl ?_
        refine VL.go rfl rfl rfl ?_
        refine VL.call Try.func27 rfl (by decide) rfl (fun w' hw => bytes_B hw (hA.now (s := ⟨w, _⟩) Mono.byte hw (by repeat (first | exact List.mem_cons_self .. | apply List.mem_cons_of_mem))) (hB.now (s := ⟨w, _⟩) Mono.byte hw (by repeat (first | exact List.mem_cons_self .. | apply List.mem_cons_of_mem)))) (fun v => ?_)
        refine VL.ex fun b => VL.fact fun e => VL.fact fun h1_24 => ?_
        subst e
        cases b
        · have h1_24 := mt h1_24.2 (by decide)
          refine VL.pick_t rfl rfl ?_
          refine VL.assign rfl ?_
          refine VL.nil ?_
          refine VX.next ?_
          refine VC.ret ?_
          refine VX.ret1 rfl rfl (fun we hw => ?_)
          refine ⟨false, rfl, ?_, hw.drop.drop.sub (fun _ hs => by repeat (first | exact hs | apply List.mem_cons_of_mem))⟩
          rw [letter_iff]
          simp [h1_4, h1_10, h1_17, h1_24]
        · have h1_24 := h1_24.1 rfl
          refine VL.pick_t rfl rfl ?_
          refine VL.assign rfl ?_
          refine VL.nil ?_
          refine VX.next ?_
          refine VC.ret ?_
          refine VX.ret1 rfl rfl (fun we hw => ?_)
          refine ⟨true, rfl, ?_, hw.drop.drop.sub (fun _ hs => by repeat (first | exact hs | apply List.mem_cons_of_mem))⟩
          rw [letter_iff]
          simp [h1_4, h1_10, h1_17, h1_24]
    · have h1_10 : ¬ x.dst = y.dst := by omega
      refine VL.pick_t rfl rfl ?_
      refine VL.move rfl ?_
      refine VL.pass rfl rfl rfl rfl rfl ?_
      refine VL.pass rfl rfl rfl rfl rfl ?_
      refine VL.pass rfl rfl rfl rfl rfl ?_
      refine VL.pass rfl rfl rfl rfl rfl ?_
      refine VL.pass rfl rfl rfl rfl rfl ?_
      refine VL.pick_f rfl rfl ?_
      refine VL.move rfl ?_
      refine VL.pass rfl rfl rfl rfl rfl ?_
      refine VL.pass rfl rfl rfl rfl rfl ?_
      refine VL.pass rfl rfl rfl rfl rfl ?_
      refine VL.pass rfl rfl rfl rfl rfl ?_
      refine VL.pass rfl rfl rfl rfl rfl ?_
      refine VL.pick_f rfl rfl ?_
      refine VL.assign rfl ?_
      refine VL.nil ?_
      refine VX.next ?_
      refine VC.ret ?_
      refine VX.ret1 rfl rfl (fun we hw => ?_)
      refine ⟨false, rfl, ?_, hw.drop.drop.sub (fun _ hs => by repeat (first | exact hs | apply List.mem_cons_of_mem))⟩
      rw [letter_iff]
      simp [h1_4, h1_10]
  · have h1_4 : ¬ x.src = y.src := by omega
    refine VL.move rfl ?_
    refine VL.pass rfl rfl rfl rfl rfl ?_
    refine VL.pass rfl rfl rfl rfl rfl ?_
    refine VL.pass rfl rfl rfl rfl rfl ?_
    refine VL.pass rfl rfl rfl rfl rfl ?_
    refine VL.pass rfl rfl rfl rfl rfl ?_
    refine VL.pick_f rfl rfl ?_
    refine VL.move rfl ?_
    refine VL.pass rfl rfl rfl rfl rfl ?_
    refine VL.pass rfl rfl rfl rfl rfl ?_
    refine VL.pass rfl rfl rfl rfl rfl ?_
    refine VL.pass rfl rfl rfl rfl rfl ?_
    refine VL.pass rfl rfl rfl rfl rfl ?_
    refine VL.pick_f rfl rfl ?_
    refine VL.move rfl ?_
    refine VL.pass rfl rfl rfl rfl rfl ?_
    refine VL.pass rfl rfl rfl rfl rfl ?_
    refine VL.pass rfl rfl rfl rfl rfl ?_
    refine VL.pass rfl rfl rfl rfl rfl ?_
    refine VL.pass rfl rfl rfl rfl rfl ?_
    refine VL.pick_f rfl rfl ?_
    refine VL.assign rfl ?_
    refine VL.nil ?_
    refine VX.next ?_
    refine VC.ret ?_
    refine VX.ret1 rfl rfl (fun we hw => ?_)
    refine ⟨false, rfl, ?_, hw.drop.drop.sub (fun _ hs => by repeat (first | exact hs | apply List.mem_cons_of_mem))⟩
    rw [letter_iff]
    simp [h1_4]

theorem sameObjects_g {S : List Snap} {H : List Chunk} {w : World} (ho : Own S H w) {x y : Object} (hx : x.ok) {q : Option Addr} {d : Nat} (hV : Arr 65 vouchR (keys H) w q x.vouches d) (hy : y.ok) {p : Option Addr} {c : Nat} (hU : Arr 65 vouchR (keys H) w p y.vouches c) : Calls Try.prog 72 #[.agg (cat (objectV x q d)).toArray, .agg (cat (objectV y p c)).toArray] w (Ret fun v w' => ∃ b : Bool, v = .bool b ∧ (b = true ↔ y = x) ∧ Own S H w') := by
  have hsm1 := hV.small
  refine enter (G := Own (⟨w, keys H⟩ :: S) H) ho.keep Try.func72 rfl Try.ntmps72 rfl ?_
  refine VC.seq ?_
  refine VC.region ?_
  refine VL.box (L := objectL) (ps := (objectV (x) q d)) rfl rfl (objectV_len hx) (fun g1 => ?_)
  refine VL.box (L := objectL) (ps := (objectV (y) p c)) rfl rfl (objectV_len hy) (fun g2 => ?_)
  refine VL.assign rfl ?_
  refine VL.nil ?_
  refine VX.next ?_
  refine VC.seq ?_
  refine VC.seq ?_
  refine VC.region ?_
  refine VL.fieldAddr rfl fo85_0 rfl ?_
  refine VL.load (v := .int .u8 (x.server)) 1 0 rfl kd5 (fun _ h => h) rfl rfl rfl ?_
  refine VL.fieldAddr rfl fo85_0 rfl ?_
  refine VL.load (v := .int .u8 (y.server)) 0 0 rfl kd5 (fun _ h => h) rfl rfl rfl ?_
  refine VL.neq rfl rfl ?_
  refine VL.case (fun h1_4 => ?_) (fun h1_4 => ?_)
  · have h1_4 : ¬ x.server = y.server := by omega
    refine VL.move rfl ?_
    refine VL.pass rfl rfl rfl rfl rfl ?_
    refine VL.pass rfl rfl rfl rfl rfl ?_
    refine VL.pass rfl rfl rfl rfl rfl ?_
    refine VL.pass rfl rfl rfl rfl rfl ?_
    refine VL.pass rfl rfl rfl rfl rfl ?_
    refine VL.pick_t rfl rfl ?_
    refine VL.move rfl ?_
    refine VL.pass rfl rfl rfl rfl rfl ?_
    refine VL.pass rfl rfl rfl rfl rfl ?_
    refine VL.pass rfl rfl rfl rfl rfl ?_
    refine VL.pass rfl rfl rfl rfl rfl ?_
    refine VL.pass rfl rfl rfl rfl rfl ?_
    refine VL.pick_t rfl rfl ?_
    refine VL.move rfl ?_
    refine VL.pass rfl rfl rfl rfl rfl ?_
    refine VL.pass rfl rfl rfl rfl rfl ?_
    refine VL.pass rfl rfl rfl rfl rfl ?_
    refine VL.pass rfl rfl rfl rfl rfl ?_
    refine VL.pass rfl rfl rfl rfl rfl ?_
    refine VL.pick_t rfl rfl ?_
    refine VL.move rfl ?_
    refine VL.pass rfl rfl rfl rfl rfl ?_
    refine VL.pass rfl rfl rfl rfl rfl ?_
    refine VL.pass rfl rfl rfl rfl rfl ?_
    refine VL.pass rfl rfl rfl rfl rfl ?_
    refine VL.pass rfl rfl rfl rfl rfl ?_
    refine VL.pick_t rfl rfl ?_
    refine VL.move rfl ?_
    refine VL.pass rfl rfl rfl rfl rfl ?_
    refine VL.pass rfl rfl rfl rfl rfl ?_
    refine VL.pass rfl rfl rfl rfl rfl ?_
    refine VL.pass rfl rfl rfl rfl rfl ?_
    refine VL.pass rfl rfl rfl rfl rfl ?_
    refine VL.pick_t rfl rfl ?_
    refine VL.move rfl ?_
    refine VL.pass rfl rfl rfl rfl rfl ?_
    refine VL.pass rfl rfl rfl rfl rfl ?_
    refine VL.pass rfl rfl rfl rfl rfl ?_
    refine VL.pass rfl rfl rfl rfl rfl ?_
    refine VL.pass rfl rfl rfl rfl rfl ?_
    refine VL.pass rfl rfl rfl rfl rfl ?_
    refine VL.pass rfl rfl rfl rfl rfl ?_
    refine VL.pick_t rfl rfl ?_
    refine VL.nil ?_
    refine VX.next ?_
    refine VC.yes rfl ?_
    refine VC.seq ?_
    refine VC.region ?_
    refine VL.assign rfl ?_
    refine VL.nil ?_
    refine VX.next ?_
    refine VC.ret ?_
    refine VX.then_ret ?_
    refine VX.ret1 rfl rfl (fun we hw => ?_)
    refine ⟨false, rfl, ?_, hw.drop.drop.sub (fun _ hs => by repeat (first | exact hs | apply List.mem_cons_of_mem))⟩
    rw [object_iff]
    simp [h1_4]
  · have h1_4 : x.server = y.server := by omega
    refine VL.move rfl ?_
    refine VL.go rfl rfl rfl ?_
    refine VL.fieldAddr rfl fo85_1 rfl ?_
    refine VL.go rfl rfl rfl ?_
    refine VL.load (v := .int .u8 (x.n)) 1 1 rfl kd5 (fun _ h => h) rfl rfl rfl ?_
    refine VL.go rfl rfl rfl ?_
    refine VL.fieldAddr rfl fo85_1 rfl ?_
    refine VL.go rfl rfl rfl ?_
    refine VL.load (v := .int .u8 (y.n)) 0 1 rfl kd5 (fun _ h => h) rfl rfl rfl ?_
    refine VL.go rfl rfl rfl ?_
    refine VL.neq rfl rfl ?_
    refine VL.case (fun h1_10 => ?_) (fun h1_10 => ?_)
    · have h1_10 : ¬ x.n = y.n := by omega
      refine VL.pick_f rfl rfl ?_
      refine VL.move rfl ?_
      refine VL.pass rfl rfl rfl rfl rfl ?_
      refine VL.pass rfl rfl rfl rfl rfl ?_
      refine VL.pass rfl rfl rfl rfl rfl ?_
      refine VL.pass rfl rfl rfl rfl rfl ?_
      refine VL.pass rfl rfl rfl rfl rfl ?_
      refine VL.pick_t rfl rfl ?_
      refine VL.move rfl ?_
      refine VL.pass rfl rfl rfl rfl rfl ?_
      refine VL.pass rfl rfl rfl rfl rfl ?_
      refine VL.pass rfl rfl rfl rfl rfl ?_
      refine VL.pass rfl rfl rfl rfl rfl ?_
      refine VL.pass rfl rfl rfl rfl rfl ?_
      refine VL.pick_t rfl rfl ?_
      refine VL.move rfl ?_
      refine VL.pass rfl rfl rfl rfl rfl ?_
      refine VL.pass rfl rfl rfl rfl rfl ?_
      refine VL.pass rfl rfl rfl rfl rfl ?_
      refine VL.pass rfl rfl rfl rfl rfl ?_
      refine VL.pass rfl rfl rfl rfl rfl ?_
      refine VL.pick_t rfl rfl ?_
      refine VL.move rfl ?_
      refine VL.pass rfl rfl rfl rfl rfl ?_
      refine VL.pass rfl rfl rfl rfl rfl ?_
      refine VL.pass rfl rfl rfl rfl rfl ?_
      refine VL.pass rfl rfl rfl rfl rfl ?_
      refine VL.pass rfl rfl rfl rfl rfl ?_
      refine VL.pick_t rfl rfl ?_
      refine VL.move rfl ?_
      refine VL.pass rfl rfl rfl rfl rfl ?_
      refine VL.pass rfl rfl rfl rfl rfl ?_
      refine VL.pass rfl rfl rfl rfl rfl ?_
      refine VL.pass rfl rfl rfl rfl rfl ?_
      refine VL.pass rfl rfl rfl rfl rfl ?_
      refine VL.pass rfl rfl rfl rfl rfl ?_
      refine VL.pass rfl rfl rfl rfl rfl ?_
      refine VL.pick_t rfl rfl ?_
      refine VL.nil ?_
      refine VX.next ?_
      refine VC.yes rfl ?_
      refine VC.seq ?_
      refine VC.region ?_
      refine VL.assign rfl ?_
      refine VL.nil ?_
      refine VX.next ?_
      refine VC.ret ?_
      refine VX.then_ret ?_
      refine VX.ret1 rfl rfl (fun we hw => ?_)
      refine ⟨false, rfl, ?_, hw.drop.drop.sub (fun _ hs => by repeat (first | exact hs | apply List.mem_cons_of_mem))⟩
      rw [object_iff]
      simp [h1_4, h1_10]
    · have h1_10 : x.n = y.n := by omega
      refine VL.pick_f rfl rfl ?_
      refine VL.move rfl ?_
      refine VL.go rfl rfl rfl ?_
      refine VL.fieldAddr rfl fo85_2 rfl ?_
      refine VL.go rfl rfl rfl ?_
      refine VL.loads (cs := (x.key).map bv) 1 2 1 rfl kd44 (fun _ h => h) rfl rfl rfl rfl ?_
      refine VL.go rfl rfl rfl ?_
      refine VL.fieldAddr rfl fo85_2 rfl ?_
      refine VL.go rfl rfl rfl ?_
      refine VL.loads (cs := (y.key).map bv) 0 2 1 rfl kd44 (fun _ h => h) rfl rfl rfl rfl ?_
      refine VL.go rfl rfl rfl ?_
      refine VL.neT guard44 rfl rfl (eqKey 9998 hx.key hy.key) (fun b h1_17 => ?_)
      cases b
      · have h1_17 := mt h1_17.2 (by decide)
        refine VL.pick_f rfl rfl ?_
        refine VL.move rfl ?_
        refine VL.pass rfl rfl rfl rfl rfl ?_
        refine VL.pass rfl rfl rfl rfl rfl ?_
        refine VL.pass rfl rfl rfl rfl rfl ?_
        refine VL.pass rfl rfl rfl rfl rfl ?_
        refine VL.pass rfl rfl rfl rfl rfl ?_
        refine VL.pick_t rfl rfl ?_
        refine VL.move rfl ?_
        refine VL.pass rfl rfl rfl rfl rfl ?_
        refine VL.pass rfl rfl rfl rfl rfl ?_
        refine VL.pass rfl rfl rfl rfl rfl ?_
        refine VL.pass rfl rfl rfl rfl rfl ?_
        refine VL.pass rfl rfl rfl rfl rfl ?_
        refine VL.pick_t rfl rfl ?_
        refine VL.move rfl ?_
        refine VL.pass rfl rfl rfl rfl rfl ?_
        refine VL.pass rfl rfl rfl rfl rfl ?_
        refine VL.pass rfl rfl rfl rfl rfl ?_
        refine VL.pass rfl rfl rfl rfl rfl ?_
        refine VL.pass rfl rfl rfl rfl rfl ?_
        refine VL.pick_t rfl rfl ?_
        refine VL.move rfl ?_
        refine VL.pass rfl rfl rfl rfl rfl ?_
        refine VL.pass rfl rfl rfl rfl rfl ?_
        refine VL.pass rfl rfl rfl rfl rfl ?_
        refine VL.pass rfl rfl rfl rfl rfl ?_
        refine VL.pass rfl rfl rfl rfl rfl ?_
        refine VL.pass rfl rfl rfl rfl rfl ?_
        refine VL.pass rfl rfl rfl rfl rfl ?_
        refine VL.pick_t rfl rfl ?_
        refine VL.nil ?_
        refine VX.next ?_
        refine VC.yes rfl ?_
        refine VC.seq ?_
        refine VC.region ?_
        refine VL.assign rfl ?_
        refine VL.nil ?_
        refine VX.next ?_
        refine VC.ret ?_
        refine VX.then_ret ?_
        refine VX.ret1 rfl rfl (fun we hw => ?_)
        refine ⟨false, rfl, ?_, hw.drop.drop.sub (fun _ hs => by repeat (first | exact hs | apply List.mem_cons_of_mem))⟩
        rw [object_iff]
        simp [h1_4, h1_10, h1_17]
      · have h1_17 := h1_17.1 rfl
        refine VL.pick_f rfl rfl ?_
        refine VL.move rfl ?_
        refine VL.go rfl rfl rfl ?_
        refine VL.fieldAddr rfl fo85_3 rfl ?_
        refine VL.go rfl rfl rfl ?_
        refine VL.load (v := .int .u32 (x.since)) 1 3 rfl kd48 (fun _ h => h) rfl rfl rfl ?_
        refine VL.go rfl rfl rfl ?_
        refine VL.fieldAddr rfl fo85_3 rfl ?_
        refine VL.go rfl rfl rfl ?_
        refine VL.load (v := .int .u32 (y.since)) 0 3 rfl kd48 (fun _ h => h) rfl rfl rfl ?_
        refine VL.go rfl rfl rfl ?_
        refine VL.neq rfl rfl ?_
        refine VL.case (fun h1_24 => ?_) (fun h1_24 => ?_)
        · have h1_24 : ¬ x.since = y.since := by omega
          refine VL.pick_f rfl rfl ?_
          refine VL.move rfl ?_
          refine VL.pass rfl rfl rfl rfl rfl ?_
          refine VL.pass rfl rfl rfl rfl rfl ?_
          refine VL.pass rfl rfl rfl rfl rfl ?_
          refine VL.pass rfl rfl rfl rfl rfl ?_
          refine VL.pass rfl rfl rfl rfl rfl ?_
          refine VL.pick_t rfl rfl ?_
          refine VL.move rfl ?_
          refine VL.pass rfl rfl rfl rfl rfl ?_
          refine VL.pass rfl rfl rfl rfl rfl ?_
          refine VL.pass rfl rfl rfl rfl rfl ?_
          refine VL.pass rfl rfl rfl rfl rfl ?_
          refine VL.pass rfl rfl rfl rfl rfl ?_
          refine VL.pick_t rfl rfl ?_
          refine VL.move rfl ?_
          refine VL.pass rfl rfl rfl rfl rfl ?_
          refine VL.pass rfl rfl rfl rfl rfl ?_
          refine VL.pass rfl rfl rfl rfl rfl ?_
          refine VL.pass rfl rfl rfl rfl rfl ?_
          refine VL.pass rfl rfl rfl rfl rfl ?_
          refine VL.pass rfl rfl rfl rfl rfl ?_
          refine VL.pass rfl rfl rfl rfl rfl ?_
          refine VL.pick_t rfl rfl ?_
          refine VL.nil ?_
          refine VX.next ?_
          refine VC.yes rfl ?_
          refine VC.seq ?_
          refine VC.region ?_
          refine VL.assign rfl ?_
          refine VL.nil ?_
          refine VX.next ?_
          refine VC.ret ?_
          refine VX.then_ret ?_
          refine VX.ret1 rfl rfl (fun we hw => ?_)
          refine ⟨false, rfl, ?_, hw.drop.drop.sub (fun _ hs => by repeat (first | exact hs | apply List.mem_cons_of_mem))⟩
          rw [object_iff]
          simp [h1_4, h1_10, h1_17, h1_24]
        · have h1_24 : x.since = y.since := by omega
          refine VL.pick_f rfl rfl ?_
          refine VL.move rfl ?_
          refine VL.go rfl rfl rfl ?_
          refine VL.fieldAddr rfl fo85_4 rfl ?_
          refine VL.go rfl rfl rfl ?_
          refine VL.load (v := .int .u32 (x.till)) 1 4 rfl kd48 (fun _ h => h) rfl rfl rfl ?_
          refine VL.go rfl rfl rfl ?_
          refine VL.fieldAddr rfl fo85_4 rfl ?_
          refine VL.go rfl rfl rfl ?_
          refine VL.load (v := .int .u32 (y.till)) 0 4 rfl kd48 (fun _ h => h) rfl rfl rfl ?_
          refine VL.go rfl rfl rfl ?_
          refine VL.neq rfl rfl ?_
          refine VL.case (fun h1_31 => ?_) (fun h1_31 => ?_)
          · have h1_31 : ¬ x.till = y.till := by omega
            refine VL.pick_f rfl rfl ?_
            refine VL.move rfl ?_
            refine VL.pass rfl rfl rfl rfl rfl ?_
            refine VL.pass rfl rfl rfl rfl rfl ?_
            refine VL.pass rfl rfl rfl rfl rfl ?_
            refine VL.pass rfl rfl rfl rfl rfl ?_
            refine VL.pass rfl rfl rfl rfl rfl ?_
            refine VL.pick_t rfl rfl ?_
            refine VL.move rfl ?_
            refine VL.pass rfl rfl rfl rfl rfl ?_
            refine VL.pass rfl rfl rfl rfl rfl ?_
            refine VL.pass rfl rfl rfl rfl rfl ?_
            refine VL.pass rfl rfl rfl rfl rfl ?_
            refine VL.pass rfl rfl rfl rfl rfl ?_
            refine VL.pass rfl rfl rfl rfl rfl ?_
            refine VL.pass rfl rfl rfl rfl rfl ?_
            refine VL.pick_t rfl rfl ?_
            refine VL.nil ?_
            refine VX.next ?_
            refine VC.yes rfl ?_
            refine VC.seq ?_
            refine VC.region ?_
            refine VL.assign rfl ?_
            refine VL.nil ?_
            refine VX.next ?_
            refine VC.ret ?_
            refine VX.then_ret ?_
            refine VX.ret1 rfl rfl (fun we hw => ?_)
            refine ⟨false, rfl, ?_, hw.drop.drop.sub (fun _ hs => by repeat (first | exact hs | apply List.mem_cons_of_mem))⟩
            rw [object_iff]
            simp [h1_4, h1_10, h1_17, h1_24, h1_31]
          · have h1_31 : x.till = y.till := by omega
            refine VL.pick_f rfl rfl ?_
            refine VL.move rfl ?_
            refine VL.go rfl rfl rfl ?_
            refine VL.fieldAddr rfl fo85_5 rfl ?_
            refine VL.go rfl rfl rfl ?_
            refine VL.loads (cs := (x.sig).map bv) 1 5 1 rfl kd80 (fun _ h => h) rfl rfl rfl rfl ?_
            refine VL.go rfl rfl rfl ?_
            refine VL.fieldAddr rfl fo85_5 rfl ?_
            refine VL.go rfl rfl rfl ?_
            refine VL.loads (cs := (y.sig).map bv) 0 5 1 rfl kd80 (fun _ h => h) rfl rfl rfl rfl ?_
            refine VL.go rfl rfl rfl ?_
            refine VL.neT guard80 rfl rfl (eqSig 9998 hx.sig hy.sig) (fun b h1_38 => ?_)
            cases b
            · have h1_38 := mt h1_38.2 (by decide)
              refine VL.pick_f rfl rfl ?_
              refine VL.move rfl ?_
              refine VL.pass rfl rfl rfl rfl rfl ?_
              refine VL.pass rfl rfl rfl rfl rfl ?_
              refine VL.pass rfl rfl rfl rfl rfl ?_
              refine VL.pass rfl rfl rfl rfl rfl ?_
              refine VL.pass rfl rfl rfl rfl rfl ?_
              refine VL.pass rfl rfl rfl rfl rfl ?_
              refine VL.pass rfl rfl rfl rfl rfl ?_
              refine VL.pick_t rfl rfl ?_
              refine VL.nil ?_
              refine VX.next ?_
              refine VC.yes rfl ?_
              refine VC.seq ?_
              refine VC.region ?_
              refine VL.assign rfl ?_
              refine VL.nil ?_
              refine VX.next ?_
              refine VC.ret ?_
              refine VX.then_ret ?_
              refine VX.ret1 rfl rfl (fun we hw => ?_)
              refine ⟨false, rfl, ?_, hw.drop.drop.sub (fun _ hs => by repeat (first | exact hs | apply List.mem_cons_of_mem))⟩
              rw [object_iff]
              simp [h1_4, h1_10, h1_17, h1_24, h1_31, h1_38]
            · have h1_38 := h1_38.1 rfl
              refine VL.pick_f rfl rfl ?_
              refine VL.move rfl ?_
              refine VL.go rfl rfl rfl ?_
              refine VL.fieldAddr rfl fo85_6 rfl ?_
              refine VL.go rfl rfl rfl ?_
              refine VL.load (v := .slice q (x.vouches).length d) 1 6 rfl kd83 (fun _ h => h) rfl rfl rfl ?_
              refine VL.go rfl rfl rfl ?_
              refine VL.len Try.underlying83 rfl rfl ?_
              refine VL.go rfl rfl rfl ?_
              refine VL.fieldAddr rfl fo85_6 rfl ?_
              refine VL.go rfl rfl rfl ?_
              refine VL.load (v := .slice p (y.vouches).length c) 0 6 rfl kd83 (fun _ h => h) rfl rfl rfl ?_
              refine VL.go rfl rfl rfl ?_
              refine VL.len Try.underlying83 rfl rfl ?_
              refine VL.go rfl rfl rfl ?_
              refine VL.neq rfl rfl ?_
              refine VL.case (fun h1_47 => ?_) (fun h1_47 => ?_)
              · have h1_47 : ¬ x.vouches.length = y.vouches.length := by omega
                refine VL.pick_f rfl rfl ?_
                refine VL.nil ?_
                refine VX.next ?_
                refine VC.yes rfl ?_
                refine VC.seq ?_
                refine VC.region ?_
                refine VL.assign rfl ?_
                refine VL.nil ?_
                refine VX.next ?_
                refine VC.ret ?_
                refine VX.then_ret ?_
                refine VX.ret1 rfl rfl (fun we hw => ?_)
                exact ⟨false, rfl, ⟨fun h => absurd h (by decide), fun h => absurd (congrArg List.length (object_iff.1 h).2.2.2.2.2.2) h1_47⟩, hw.drop.drop.sub (fun _ hs => by repeat (first | exact hs | apply List.mem_cons_of_mem))⟩
              · have h1_47 : x.vouches.length = y.vouches.length := by omega
                refine VL.pick_f rfl rfl ?_
                refine VL.nil ?_
                refine VX.next ?_
                refine VC.no rfl ?_
                refine VC.skip ?_
                refine VX.next ?_
                refine VC.seq ?_
                refine VC.seq ?_
                refine VC.region ?_
                refine VL.assign rfl ?_
                refine VL.nil ?_
                refine VX.next ?_
                refine VC.block ?_
                refine VC.loop (X := Nat) (fun i => [(2, .pointer (some ⟨g1, 0, none⟩)), (3, .pointer (some ⟨g2, 0, none⟩)), (5, .int .i64 (i : Int))]) (fun i w' => (i ≤ x.vouches.length ∧ ∀ j, j < i → x.vouches[j]? = y.vouches[j]?) ∧ Own (⟨w, keys H⟩ :: S) (blk g2 85 objectL (objectV (y) p c) :: blk g1 85 objectL (objectV (x) q d) :: H) w') (fun i => x.vouches.length - i) 0 ⟨rfl, rfl, rfl, trivial⟩ (fun w' h => ⟨⟨Nat.zero_le _, fun j hj => absurd hj (Nat.not_lt_zero _)⟩, h.sub (fun _ hs => by repeat (first | exact hs | apply List.mem_cons_of_mem))⟩) (fun i => VC.fact fun ⟨hi, hall⟩ => ?_)
                · skip
                  refine VC.seq ?_
                  refine VC.seq ?_
                  refine VC.region ?_
                  refine VL.move rfl ?_
                  refine VL.fieldAddr rfl fo85_6 rfl ?_
                  refine VL.load (v := .slice q (x.vouches).length d) 1 6 rfl kd83 (fun _ h => h) rfl rfl rfl ?_
                  refine VL.len Try.underlying83 rfl rfl ?_
                  refine VL.lss rfl rfl ?_
                  refine VL.case (fun h4 => ?_) (fun h4 => ?_)
                  · have hlt : i < x.vouches.length := by omega
                    have hlt2 : i < y.vouches.length := by omega
                    refine VL.nil ?_
                    refine VX.next ?_
                    refine VC.yes rfl ?_
                    refine VC.skip ?_
                    refine VX.next ?_
                    refine VC.seq ?_
                    refine VC.block ?_
                    refine VC.seq ?_
                    by_cases hv : x.vouches[i]'hlt = y.vouches[i]'hlt2
                    · apply VC.anyTA 10 1011 (F := [eqF _, eqF _, eqF _, eqF _, eqF _, eqF _, eqF _, eqF _, eqF _, eqF _]) [⟨[], [2]⟩, ⟨[(62, 0)], []⟩, ⟨[], [5]⟩, ⟨[(63, 1), (64, 2)], []⟩, ⟨[(65, 3)], []⟩, ⟨[], [3]⟩, ⟨[(67, 5)], []⟩, ⟨[], [5]⟩, ⟨[(68, 6), (69, 7)], []⟩, ⟨[(70, 8)], []⟩] [(66, 4), (71, 9)] [0, 1, 2, 3, 4, 5, 6, 7, 8, 9, 10, 11, 12, 13, 14, 15, 16, 17, 18, 19, 20, 21, 22, 23, 24, 25, 26, 27, 28, 29, 30, 31, 32, 33, 34, 35, 36, 37, 38, 39, 40, 41, 42, 43, 44, 45, 46, 47, 48, 49, 50, 51, 52, 53, 54, 55, 56, 57, 58, 59, 60, 61, 72] rfl (by kernel_rfl) (by kernel_rfl) rfl rfl (by kernel_rfl) (by kernel_rfl) (by kernel_rfl) rfl ?obs6 ?end6
                      case obs6 =>
                        refine Obs.cons ?_ ?_
                        · refine obS (by kernel_rfl) rfl rfl (fun ph6 w6 hO6 => ?_)
                          refine VL.fieldAddr rfl fo85_6 rfl ?_
                          exact VL.finS hO6 rfl rfl
                        refine Obs.cons ?_ ?_
                        · refine ob (by kernel_rfl) rfl (by kernel_rfl) rfl (fun w6 hO6 => ?_)
                          rintro _ rfl
                          refine VL.load (v := .slice q (x.vouches).length d) 1 6 rfl kd83 (fun _ e => e ▸ hO6) rfl rfl rfl ?_
                          exact VL.finS hO6 rfl rfl
                        refine Obs.cons ?_ ?_
                        · refine obS (by kernel_rfl) rfl rfl (fun ph6 w6 hO6 => ?_)
                          refine VL.move rfl ?_
                          exact VL.finS hO6 rfl rfl
                        refine Obs.cons ?_ ?_
                        · refine obS (by kernel_rfl) rfl rfl (fun ph6 w6 hO6 => ?_)
                          rintro _ rfl _ rfl
                          refine VL.index (xs := x.vouches) rfl rfl Try.underlying83 sz83 hV (by omega) (by have hi := hlt; omega) ?_
                          exact VL.finS hO6 rfl rfl
                        refine Obs.cons ?_ ?_
                        · refine ob (by kernel_rfl) rfl (by kernel_rfl) rfl (fun w6 hO6 => ?_)
                          rintro _ rfl
                          refine VL.elems (s := ⟨w, _⟩) (m := 65) (i) 0 rfl kd202 (fun _ e => e ▸ hO6) (by repeat (first | exact List.mem_cons_self .. | apply List.mem_cons_of_mem)) hV (List.getElem?_eq_getElem hlt) (by simp) (by decide) (fun vs hl hr => ?_)
                          obtain ⟨hy4, rfl⟩ := hr
                          refine VL.newv (v' := .agg (cat (vouchV (x.vouches[i]'hlt))).toArray) (by rw [List.drop_zero, List.take_of_length_le (by rw [hl]; decide)]) ?_
                          exact VL.finS hO6 rfl rfl
                        refine Obs.cons ?_ ?_
                        · refine obS (by kernel_rfl) rfl rfl (fun ph6 w6 hO6 => ?_)
                          refine VL.fieldAddr rfl fo85_6 rfl ?_
                          exact VL.finS hO6 rfl rfl
                        refine Obs.cons ?_ ?_
                        · refine ob (by kernel_rfl) rfl (by kernel_rfl) rfl (fun w6 hO6 => ?_)
                          rintro _ rfl
                          refine VL.load (v := .slice p (y.vouches).length c) 0 6 rfl kd83 (fun _ e => e ▸ hO6) rfl rfl rfl ?_
                          exact VL.finS hO6 rfl rfl
                        refine Obs.cons ?_ ?_
                        · refine obS (by kernel_rfl) rfl rfl (fun ph6 w6 hO6 => ?_)
                          refine VL.move rfl ?_
                          exact VL.finS hO6 rfl rfl
                        refine Obs.cons ?_ ?_
                        · refine obS (by kernel_rfl) rfl rfl (fun ph6 w6 hO6 => ?_)
                          rintro _ rfl _ rfl
                          refine VL.index (xs := y.vouches) rfl rfl Try.underlying83 sz83 hU (by omega) (by have hi := hlt2; omega) ?_
                          exact VL.finS hO6 rfl rfl
                        refine Obs.cons ?_ ?_
                        · refine ob (by kernel_rfl) rfl (by kernel_rfl) rfl (fun w6 hO6 => ?_)
                          rintro _ rfl
                          refine VL.elems (s := ⟨w, _⟩) (m := 65) (i) 0 rfl kd202 (fun _ e => e ▸ hO6) (by repeat (first | exact List.mem_cons_self .. | apply List.mem_cons_of_mem)) hU (List.getElem?_eq_getElem hlt2) (by simp) (by decide) (fun vs hl hr => ?_)
                          obtain ⟨hy6, rfl⟩ := hr
                          refine VL.newv (v' := .agg (cat (vouchV (y.vouches[i]'hlt2))).toArray) (by rw [List.drop_zero, List.take_of_length_le (by rw [hl]; decide)]) ?_
                          exact VL.finS hO6 rfl rfl
                        exact Obs.nil
                      case end6 =>
                        intro w6 hO6
                        rintro _ rfl _ rfl
                        refine VL.toOwn hO6 ?_
                        refine VL.neT guard202 rfl rfl (eqVouch (hx.vouches _ (List.getElem_mem hlt)) (hy.vouches _ (List.getElem_mem hlt2))) (fun b h => ?_)
                        obtain rfl : b = true := h.2 hv
                        refine VL.nil ?_
                        refine VX.next ?_
                        refine VC.no rfl ?_
                        refine VC.skip ?_
                        refine VX.block_normal ?_
                        refine VX.next ?_
                        refine VC.region ?_
                        refine VL.move rfl ?_
                        refine VL.add rfl rfl (by have hsm := hV.small; simp only [InR]; omega) ?_
                        refine VL.assign rfl ?_
                        refine VL.nil ?_
                        refine VX.round (i + 1) ⟨rfl, rfl, rfl, trivial⟩ (fun w' h => ⟨⟨by omega, fun j hj => ?_⟩, h.sub (fun _ hs => by repeat (first | exact hs | apply List.mem_cons_of_mem))⟩) (by show x.vouches.length - (i + 1) < x.vouches.length - i; omega)
                        by_cases hji : j < i
                        · exact hall j hji
                        · obtain rfl : j = i := by omega
                          rw [List.getElem?_eq_getElem hlt, List.getElem?_eq_getElem hlt2, hv]
                    · apply VC.anyTA 10 1011 (F := [eqF _, eqF _, eqF _, eqF _, eqF _, eqF _, eqF _, eqF _, eqF _, eqF _]) [⟨[], [2]⟩, ⟨[(62, 0)], []⟩, ⟨[], [5]⟩, ⟨[(63, 1), (64, 2)], []⟩, ⟨[(65, 3)], []⟩, ⟨[], [3]⟩, ⟨[(67, 5)], []⟩, ⟨[], [5]⟩, ⟨[(68, 6), (69, 7)], []⟩, ⟨[(70, 8)], []⟩] [(66, 4), (71, 9)] [0, 1, 2, 3, 4, 5, 6, 7, 8, 9, 10, 11, 12, 13, 14, 15, 16, 17, 18, 19, 20, 21, 22, 23, 24, 25, 26, 27, 28, 29, 30, 31, 32, 33, 34, 35, 36, 37, 38, 39, 40, 41, 42, 43, 44, 45, 46, 47, 48, 49, 50, 51, 52, 53, 54, 55, 56, 57, 58, 59, 60, 61, 72] rfl (by kernel_rfl) (by kernel_rfl) rfl rfl (by kernel_rfl) (by kernel_rfl) (by kernel_rfl) rfl ?obs6 ?end6
                      case obs6 =>
                        refine Obs.cons ?_ ?_
                        · refine obS (by kernel_rfl) rfl rfl (fun ph6 w6 hO6 => ?_)
                          refine VL.fieldAddr rfl fo85_6 rfl ?_
                          exact VL.finS hO6 rfl rfl
                        refine Obs.cons ?_ ?_
                        · refine ob (by kernel_rfl) rfl (by kernel_rfl) rfl (fun w6 hO6 => ?_)
                          rintro _ rfl
                          refine VL.load (v := .slice q (x.vouches).length d) 1 6 rfl kd83 (fun _ e => e ▸ hO6) rfl rfl rfl ?_
                          exact VL.finS hO6 rfl rfl
                        refine Obs.cons ?_ ?_
                        · refine obS (by kernel_rfl) rfl rfl (fun ph6 w6 hO6 => ?_)
                          refine VL.move rfl ?_
                          exact VL.finS hO6 rfl rfl
                        refine Obs.cons ?_ ?_
                        · refine obS (by kernel_rfl) rfl rfl (fun ph6 w6 hO6 => ?_)
                          rintro _ rfl _ rfl
                          refine VL.index (xs := x.vouches) rfl rfl Try.underlying83 sz83 hV (by omega) (by have hi := hlt; omega) ?_
                          exact VL.finS hO6 rfl rfl
                        refine Obs.cons ?_ ?_
                        · refine ob (by kernel_rfl) rfl (by kernel_rfl) rfl (fun w6 hO6 => ?_)
                          rintro _ rfl
                          refine VL.elems (s := ⟨w, _⟩) (m := 65) (i) 0 rfl kd202 (fun _ e => e ▸ hO6) (by repeat (first | exact List.mem_cons_self .. | apply List.mem_cons_of_mem)) hV (List.getElem?_eq_getElem hlt) (by simp) (by decide) (fun vs hl hr => ?_)
                          obtain ⟨hy8, rfl⟩ := hr
                          refine VL.newv (v' := .agg (cat (vouchV (x.vouches[i]'hlt))).toArray) (by rw [List.drop_zero, List.take_of_length_le (by rw [hl]; decide)]) ?_
                          exact VL.finS hO6 rfl rfl
                        refine Obs.cons ?_ ?_
                        · refine obS (by kernel_rfl) rfl rfl (fun ph6 w6 hO6 => ?_)
                          refine VL.fieldAddr rfl fo85_6 rfl ?_
                          exact VL.finS hO6 rfl rfl
                        refine Obs.cons ?_ ?_
                        · refine ob (by kernel_rfl) rfl (by kernel_rfl) rfl (fun w6 hO6 => ?_)
                          rintro _ rfl
                          refine VL.load (v := .slice p (y.vouches).length c) 0 6 rfl kd83 (fun _ e => e ▸ hO6) rfl rfl rfl ?_
                          exact VL.finS hO6 rfl rfl
                        refine Obs.cons ?_ ?_
                        · refine obS (by kernel_rfl) rfl rfl (fun ph6 w6 hO6 => ?_)
                          refine VL.move rfl ?_
                          exact VL.finS hO6 rfl rfl
                        refine Obs.cons ?_ ?_
                        · refine obS (by kernel_rfl) rfl rfl (fun ph6 w6 hO6 => ?_)
                          rintro _ rfl _ rfl
                          refine VL.index (xs := y.vouches) rfl rfl Try.underlying83 sz83 hU (by omega) (by have hi := hlt2; omega) ?_
                          exact VL.finS hO6 rfl rfl
                        refine Obs.cons ?_ ?_
                        · refine ob (by kernel_rfl) rfl (by kernel_rfl) rfl (fun w6 hO6 => ?_)
                          rintro _ rfl
                          refine VL.elems (s := ⟨w, _⟩) (m := 65) (i) 0 rfl kd202 (fun _ e => e ▸ hO6) (by repeat (first | exact List.mem_cons_self .. | apply List.mem_cons_of_mem)) hU (List.getElem?_eq_getElem hlt2) (by simp) (by decide) (fun vs hl hr => ?_)
                          obtain ⟨hy10, rfl⟩ := hr
                          refine VL.newv (v' := .agg (cat (vouchV (y.vouches[i]'hlt2))).toArray) (by rw [List.drop_zero, List.take_of_length_le (by rw [hl]; decide)]) ?_
                          exact VL.finS hO6 rfl rfl
                        exact Obs.nil
                      case end6 =>
                        intro w6 hO6
                        rintro _ rfl _ rfl
                        refine VL.toOwn hO6 ?_
                        refine VL.neT guard202 rfl rfl (eqVouch (hx.vouches _ (List.getElem_mem hlt)) (hy.vouches _ (List.getElem_mem hlt2))) (fun b h => ?_)
                        obtain rfl : b = false := by cases b with
                          | false => rfl
                          | true => exact absurd (h.1 rfl) hv
                        refine VL.nil ?_
                        refine VX.next ?_
                        refine VC.yes rfl ?_
                        refine VC.seq ?_
                        refine VC.region ?_
                        refine VL.assign rfl ?_
                        refine VL.nil ?_
                        refine VX.next ?_
                        refine VC.ret ?_
                        refine VX.block_ret ?_
                        refine VX.then_ret ?_
                        refine VX.then_ret ?_
                        refine VX.block_ret ?_
                        refine VX.then_ret ?_
                        refine VX.ret1 rfl rfl (fun we hw => ?_)
                        refine ⟨false, rfl, ⟨fun h => absurd h (by decide), fun h => absurd (object_iff.1 h).2.2.2.2.2.2 fun e => hv ?_⟩, hw.drop.drop.sub (fun _ hs => by repeat (first | exact hs | apply List.mem_cons_of_mem))⟩
                        have e1 := congrArg (fun l : List Vouch => l[i]?) e
                        simp only [List.getElem?_eq_getElem hlt, List.getElem?_eq_getElem hlt2] at e1
                        exact Option.some.inj e1
                  · obtain rfl : i = x.vouches.length := by omega
                    refine VL.nil ?_
                    refine VX.next ?_
                    refine VC.no rfl ?_
                    refine VC.exit ?_
                    refine VX.then_exit ?_
                    refine VX.then_exit ?_
                    refine VX.block_here ?_
                    refine VX.next ?_
                    refine VC.seq ?_
                    refine VC.region ?_
                    refine VL.assign rfl ?_
                    refine VL.nil ?_
                    refine VX.next ?_
                    refine VC.ret ?_
                    refine VX.ret1 rfl rfl (fun we hw => ?_)
                    refine ⟨true, rfl, ⟨fun _ => object_iff.2 ⟨h1_4, h1_10, h1_17, h1_24, h1_31, h1_38, List.ext_getElem? fun k => ?_⟩, fun _ => rfl⟩, hw.drop.drop.sub (fun _ hs => by repeat (first | exact hs | apply List.mem_cons_of_mem))⟩
                    by_cases hk : k < x.vouches.length
                    · exact hall k (by omega)
                    · rw [List.getElem?_eq_none (by omega), List.getElem?_eq_none (by omega)]

end Go.Proofs.Ytcfecmoagfgnaaa
