/- The statement WireReplies is proved, for every input: part 5 of 6 of the texts that it needs. -/
import Derived.Test.YtcfecmoagfgnaaaMrepD
/- The reference: objects; one against the other. -/
namespace Go.Proofs.Ytcfecmoagfgnaaa
open Go.Vc Go.Pl

theorem bytes_B {S : List Snap} {H : List Chunk} {w : World} (ho : Own S H w) {p q : Option Addr} {l k : List UInt8} {c d : Nat} (hA : Bytes (keys H) w p l c) (hB : Bytes (keys H) w q k d) : Calls Try.prog 27 #[.slice p l.length c, .slice q k.length d] w (Ret fun v w' => ∃ b : Bool, v = .bool b ∧ (b = true ↔ l = k) ∧ Own S H w') :=
  calls_mono (bytes_any ho hA hB) fun v w' ⟨h1, h2⟩ => ⟨decide (l = k), h2, by simp, h1⟩
theorem vouch_sig {K : List Nat} {w : World} {v : Vouch} {vs : List Value} (h : vouchR K w vs v) : (vs.drop 1).take 64 = v.sig.map bv := by
  obtain ⟨hv, rfl⟩ := h
  have : (v.sig.map bv).length = 64 := by rw [List.length_map]; exact hv.sig
  simp [cat, List.take_of_length_le, this]
theorem letter_iff {x y : Letter} : y = x ↔ x.src = y.src ∧ x.dst = y.dst ∧ x.header = y.header ∧ x.body = y.body := by
  constructor
  · rintro rfl; exact ⟨rfl, rfl, rfl, rfl⟩
  · rintro ⟨h1, h2, h3, h4⟩
    cases x; cases y
    simp only at h1 h2 h3 h4
    subst h1 h2 h3 h4; rfl
theorem object_iff {x y : Object} : y = x ↔ x.server = y.server ∧ x.n = y.n ∧ x.key = y.key ∧ x.since = y.since ∧ x.till = y.till ∧ x.sig = y.sig ∧ x.vouches = y.vouches := by
  constructor
  · rintro rfl; exact ⟨rfl, rfl, rfl, rfl, rfl, rfl, rfl⟩
  · rintro ⟨h1, h2, h3, h4, h5, h6, h7⟩
    cases x; cases y
    simp only at h1 h2 h3 h4 h5 h6 h7
    subst h1 h2 h3 h4 h5 h6 h7; rfl
theorem item_iff {x y : Itm} : y = x ↔ x.kind = y.kind ∧ x.asker = y.asker ∧ x.peer = y.peer ∧ y.letter = x.letter ∧ x.bundle = y.bundle ∧ y.object = x.object := by
  constructor
  · rintro rfl; exact ⟨rfl, rfl, rfl, rfl, rfl, rfl⟩
  · rintro ⟨h1, h2, h3, h4, h5, h6⟩
    cases x; cases y
    simp only at h1 h2 h3 h4 h5 h6
    subst h1 h2 h3 h4 h5 h6; rfl

theorem sameLetters_g {S : List Snap} {H : List Chunk} {w : World} (ho : Own S H w) {x y : Letter} (hx : x.ok) {p : Option Addr} {c : Nat} (hA : Bytes (keys H) w p x.body c) (hy : y.ok) {q : Option Addr} {d : Nat} (hB : Bytes (keys H) w q y.body d) : Calls Try.prog 55 #[.agg (cat (letterV x p c)).toArray, .agg (cat (letterV y q d)).toArray] w (Ret fun v w' => ∃ b : Bool, v = .bool b ∧ (b = true ↔ y = x) ∧ Own S H w') := by
  refine enter (G := Own (⟨w, keys H⟩ :: S) H) ho.keep Try.func55 rfl Try.ntmps55 rfl ?_
  refine VC.seq ?_
  refine VC.region ?_
  refine VL.box (L := letterL) (ps := (letterV (x) p c)) rfl rfl (letterV_len hx) (fun g1 => ?_)
  refine VL.box (L := letterL) (ps := (letterV (y) q d)) rfl rfl (letterV_len hy) (fun g2 => ?_)
  refine VL.assign rfl ?_
  refine VL.nil ?_
  refine VX.next ?_
  refine VC.seq ?_
  refine VC.region ?_
  refine VL.fieldAddr rfl fo72_0 rfl ?_
  refine VL.load (v := .int .u8 (x.src)) 1 0 rfl kd5 (fun _ h => h) rfl rfl rfl ?_
  refine VL.fieldAddr rfl fo72_0 rfl ?_
  refine VL.load (v := .int .u8 (y.src)) 0 0 rfl kd5 (fun _ h => h) rfl rfl rfl ?_
  refine VL.eql rfl rfl ?_
  refine VL.case (fun h1_4 => ?_) (fun h1_4 => ?_)
  · have h1_4 : x.src = y.src := by omega
    refine VL.move rfl ?_
    refine VL.go rfl rfl rfl ?_
    refine VL.fieldAddr rfl fo72_1 rfl ?_
    refine VL.go rfl rfl rfl ?_
    refine VL.load (v := .int .u8 (x.dst)) 1 1 rfl kd5 (fun _ h => h) rfl rfl rfl ?_
    refine VL.go rfl rfl rfl ?_
    refine VL.fieldAddr rfl fo72_1 rfl ?_
    refine VL.go rfl rfl rfl ?_
    refine VL.load (v := .int .u8 (y.dst)) 0 1 rfl kd5 (fun _ h => h) rfl rfl rfl ?_
    refine VL.go rfl rfl rfl ?_
    refine VL.eql rfl rfl ?_
    refine VL.case (fun h1_10 => ?_) (fun h1_10 => ?_)
    · have h1_10 : x.dst = y.dst := by omega
      refine VL.pick_t rfl rfl ?_
      refine VL.move rfl ?_
      refine VL.go rfl rfl rfl ?_
      refine VL.fieldAddr rfl fo72_2 rfl ?_
      refine VL.go rfl rfl rfl ?_
      refine VL.loads (cs := cat (headerV (x.header))) 1 2 9 rfl kd70 (fun _ h => h) rfl rfl rfl rfl ?_
      refine VL.go rfl rfl rfl ?_
      refine VL.fieldAddr rfl fo72_2 rfl ?_
      refine VL.go rfl rfl rfl ?_
      refine VL.loads (cs := cat (headerV (y.header))) 0 2 9 rfl kd70 (fun _ h => h) rfl rfl rfl rfl ?_
      refine VL.go rfl rfl rfl ?_
      refine VL.eqT guard70 rfl rfl (eqHeader hx.header hy.header) (fun b h1_17 => ?_)
      cases b
      · have h1_17 := mt h1_17.2 (by decide)
        refine VL.pick_t rfl rfl ?_
        refine VL.move rfl ?_
        refine VL.pass rfl rfl rfl rfl rfl ?_
        refine VL.pass rfl rfl rfl rfl rfl ?_
        refine VL.pass rfl rfl rfl rfl rfl ?_
        refine VL.pass rfl rfl rfl rfl rfl ?_
        refine VL.pass rfl rfl rfl rfl rfl ?_
        refine VL.pick_f rfl rfl ?_
        refine VL.assign rfl ?_
        refine VL.nil ?_
        refine VX.next ?_
        refine VC.ret ?_
        refine VX.ret1 rfl rfl (fun we hw => ?_)
        refine ⟨false, rfl, ?_, hw.drop.drop.sub (fun _ hs => by repeat (first | exact hs | apply List.mem_cons_of_mem))⟩
        rw [letter_iff]
        simp [h1_4, h1_10, h1_17]
      · have h1_17 := h1_17.1 rfl
        refine VL.pick_t rfl rfl ?_
        refine VL.move rfl ?_
        refine VL.go rfl rfl rfl ?_
        refine VL.fieldAddr rfl fo72_3 rfl ?_
        refine VL.go rfl rfl rfl ?_
        refine VL.load (v := .slice p (x.body).length c) 1 11 rfl kd24 (fun _ h => h) rfl rfl rfl ?_
        refine VL.go rfl rfl rfl ?_
        refine VL.fieldAddr rfl fo72_3 rfl ?_
        refine VL.go rfl rfl rfl ?_
        refine VL.load (v := .slice q (y.body).length d) 0 11 rfl kd24 (fun _ h => h) rfl rfl rfl ?_
        refine VL.go rfl rfl rfl ?_
        refine VL.call Try.func27 rfl (by decide) rfl (fun w' hw => bytes_B hw (hA.now (s := ⟨w, _⟩) Mono.byte hw (by repeat (first | exact List.mem_cons_self .. | apply List.mem_cons_of_mem))) (hB.now (s := ⟨w, _⟩) Mono.byte hw (by repeat (first | exact List.mem_cons_self .. | apply List.mem_cons_of_mem)))) (fun v => ?_)
        refine VL.ex fun b => VL.fact fun e => VL.fact fun h1_24 => ?_
        subst e
        cases b
        · have h1_24 := mt h1_24.2 (by decide)
          refine VL.pick_t rfl rfl ?_
          refine VL.assign rfl ?_
          refine VL.nil ?_
          refine VX.next ?_
          refine VC.ret ?_
          refine VX.ret1 rfl rfl (fun we hw => ?_)
          refine ⟨false, rfl, ?_, hw.drop.drop.sub (fun _ hs => by repeat (first | exact hs | apply List.mem_cons_of_mem))⟩
          rw [letter_iff]
          simp [h1_4, h1_10, h1_17, h1_24]
        · have h1_24 := h1_24.1 rfl
          refine VL.pick_t rfl rfl ?_
          refine VL.assign rfl ?_
          refine VL.nil ?_
          refine VX.next ?_
          refine VC.ret ?_
          refine VX.ret1 rfl rfl (fun we hw => ?_)
          refine ⟨true, rfl, ?_, hw.drop.drop.sub (fun _ hs => by repeat (first | exact hs | apply List.mem_cons_of_mem))⟩
          rw [letter_iff]
          simp [h1_4, h1_10, h1_17, h1_24]
    · have h1_10 : ¬ x.dst = y.dst := by omega
      refine VL.pick_t rfl rfl ?_
      refine VL.move rfl ?_
      refine VL.pass rfl rfl rfl rfl rfl ?_
      refine VL.pass rfl rfl rfl rfl rfl ?_
      refine VL.pass rfl rfl rfl rfl rfl ?_
      refine VL.pass rfl rfl rfl rfl rfl ?_
      refine VL.pass rfl rfl rfl rfl rfl ?_
      refine VL.pick_f rfl rfl ?_
      refine VL.move rfl ?_
      refine VL.pass rfl rfl rfl rfl rfl ?_
      refine VL.pass rfl rfl rfl rfl rfl ?_
      refine VL.pass rfl rfl rfl rfl rfl ?_
      refine VL.pass rfl rfl rfl rfl rfl ?_
      refine VL.pass rfl rfl rfl rfl rfl ?_
      refine VL.pick_f rfl rfl ?_
      refine VL.assign rfl ?_
      refine VL.nil ?_
      refine VX.next ?_
      refine VC.ret ?_
      refine VX.ret1 rfl rfl (fun we hw => ?_)
      refine ⟨false, rfl, ?_, hw.drop.drop.sub (fun _ hs => by repeat (first | exact hs | apply List.mem_cons_of_mem))⟩
      rw [letter_iff]
      simp [h1_4, h1_10]
  · have h1_4 : ¬ x.src = y.src := by omega
    refine VL.move rfl ?_
    refine VL.pass rfl rfl rfl rfl rfl ?_
    refine VL.pass rfl rfl rfl rfl rfl ?_
    refine VL.pass rfl rfl rfl rfl rfl ?_
    refine VL.pass rfl rfl rfl rfl rfl ?_
    refine VL.pass rfl rfl rfl rfl rfl ?_
    refine VL.pick_f rfl rfl ?_
    refine VL.move rfl ?_
    refine VL.pass rfl rfl rfl rfl rfl ?_
    refine VL.pass rfl rfl rfl rfl rfl ?_
    refine VL.pass rfl rfl rfl rfl rfl ?_
    refine VL.pass rfl rfl rfl rfl rfl ?_
    refine VL.pass rfl rfl rfl rfl rfl ?_
    refine VL.pick_f rfl rfl ?_
    refine VL.move rfl ?_
    refine VL.pass rfl rfl rfl rfl rfl ?_
    refine VL.pass rfl rfl rfl rfl rfl ?_
    refine VL.pass rfl rfl rfl rfl rfl ?_
    refine VL.pass rfl rfl rfl rfl rfl ?_
    refine VL.pass rfl rfl rfl rfl rfl ?_
    refine VL.pick_f rfl rfl ?_
    refine VL.assign rfl ?_
    refine VL.nil ?_
    refine VX.next ?_
    refine VC.ret ?_
    refine VX.ret1 rfl rfl (fun we hw => ?_)
    refine ⟨false, rfl, ?_, hw.drop.drop.sub (fun _ hs => by repeat (first | exact hs | apply List.mem_cons_of_mem))⟩
    rw [letter_iff]
    simp [h1_4]

theorem sameObjects_g {S : List Snap} {H : List Chunk} {w : World} (ho : Own S H w) {x y : Object} (hx : x.ok) {q : Option Addr} {d : Nat} (hV : Arr 65 vouchR (keys H) w q x.vouches d) (hy : y.ok) {p : Option Addr} {c : Nat} (hU : Arr 65 vouchR (keys H) w p y.vouches c) : Calls Try.prog 72 #[.agg (cat (objectV x q d)).toArray, .agg (cat (objectV y p c)).toArray] w (Ret fun v w' => ∃ b : Bool, v = .bool b ∧ (b = true ↔ y = x) ∧ Own S H w') := by
  have hsm1 := hV.small
  refine enter (G := Own (⟨w, keys H⟩ :: S) H) ho.keep Try.func72 rfl Try.ntmps72 rfl ?_
  refine VC.seq ?_
  refine VC.region ?_
  refine VL.box (L := objectL) (ps := (objectV (x) q d)) rfl rfl (objectV_len hx) (fun g1 => ?_)
  refine VL.box (L := objectL) (ps := (objectV (y) p c)) rfl rfl (objectV_len hy) (fun g2 => ?_)
  refine VL.assign rfl ?_
  refine VL.nil ?_
  refine VX.next ?_
  refine VC.seq ?_
  refine VC.seq ?_
  refine VC.region ?_
  refine VL.fieldAddr rfl fo85_0 rfl ?_
  refine VL.load (v := .int .u8 (x.server)) 1 0 rfl kd5 (fun _ h => h) rfl rfl rfl ?_
  refine VL.fieldAddr rfl fo85_0 rfl ?_
  refine VL.load (v := .int .u8 (y.server)) 0 0 rfl kd5 (fun _ h => h) rfl rfl rfl ?_
  refine VL.neq rfl rfl ?_
  refine VL.case (fun h1_4 => ?_) (fun h1_4 => ?_)
  · have h1_4 : ¬ x.server = y.server := by omega
    refine VL.move rfl ?_
    refine VL.pass rfl rfl rfl rfl rfl ?_
    refine VL.pass rfl rfl rfl rfl rfl ?_
    refine VL.pass rfl rfl rfl rfl rfl ?_
    refine VL.pass rfl rfl rfl rfl rfl ?_
    refine VL.pass rfl rfl rfl rfl rfl ?_
    refine VL.pick_t rfl rfl ?_
    refine VL.move rfl ?_
    refine VL.pass rfl rfl rfl rfl rfl ?_
    refine VL.pass rfl rfl rfl rfl rfl ?_
    refine VL.pass rfl rfl rfl rfl rfl ?_
    refine VL.pass rfl rfl rfl rfl rfl ?_
    refine VL.pass rfl rfl rfl rfl rfl ?_
    refine VL.pick_t rfl rfl ?_
    refine VL.move rfl ?_
    refine VL.pass rfl rfl rfl rfl rfl ?_
    refine VL.pass rfl rfl rfl rfl rfl ?_
    refine VL.pass rfl rfl rfl rfl rfl ?_
    refine VL.pass rfl rfl rfl rfl rfl ?_
    refine VL.pass rfl rfl rfl rfl rfl ?_
    refine VL.pick_t rfl rfl ?_
    refine VL.move rfl ?_
    refine VL.pass rfl rfl rfl rfl rfl ?_
    refine VL.pass rfl rfl rfl rfl rfl ?_
    refine VL.pass rfl rfl rfl rfl rfl ?_
    refine VL.pass rfl rfl rfl rfl rfl ?_
    refine VL.pass rfl rfl rfl rfl rfl ?_
    refine VL.pick_t rfl rfl ?_
    refine VL.move rfl ?_
    refine VL.pass rfl rfl rfl rfl rfl ?_
    refine VL.pass rfl rfl rfl rfl rfl ?_
    refine VL.pass rfl rfl rfl rfl rfl ?_
    refine VL.pass rfl rfl rfl rfl rfl ?_
    refine VL.pass rfl rfl rfl rfl rfl ?_
    refine VL.pick_t rfl rfl ?_
    refine VL.move rfl ?_
    refine VL.pass rfl rfl rfl rfl rfl ?_
    refine VL.pass rfl rfl rfl rfl rfl ?_
    refine VL.pass rfl rfl rfl rfl rfl ?_
    refine VL.pass rfl rfl rfl rfl rfl ?_
    refine VL.pass rfl rfl rfl rfl rfl ?_
    refine VL.pass rfl rfl rfl rfl rfl ?_
    refine VL.pass rfl rfl rfl rfl rfl ?_
    refine VL.pick_t rfl rfl ?_
    refine VL.nil ?_
    refine VX.next ?_
    refine VC.yes rfl ?_
    refine VC.seq ?_
    refine VC.region ?_
    refine VL.assign rfl ?_
    refine VL.nil ?_
    refine VX.next ?_
    refine VC.ret ?_
    refine VX.then_ret ?_
    refine VX.ret1 rfl rfl (fun we hw => ?_)
    refine ⟨false, rfl, ?_, hw.drop.drop.sub (fun _ hs => by repeat (first | exact hs | apply List.mem_cons_of_mem))⟩
    rw [object_iff]
    simp [h1_4]
  · have h1_4 : x.server = y.server := by omega
    refine VL.move rfl ?_
    refine VL.go rfl rfl rfl ?_
    refine VL.fieldAddr rfl fo85_1 rfl ?_
    refine VL.go rfl rfl rfl ?_
    refine VL.load (v := .int .u8 (x.n)) 1 1 rfl kd5 (fun _ h => h) rfl rfl rfl ?_
    refine VL.go rfl rfl rfl ?_
    refine VL.fieldAddr rfl fo85_1 rfl ?_
    refine VL.go rfl rfl rfl ?_
    refine VL.load (v := .int .u8 (y.n)) 0 1 rfl kd5 (fun _ h => h) rfl rfl rfl ?_
    refine VL.go rfl rfl rfl ?_
    refine VL.neq rfl rfl ?_
    refine VL.case (fun h1_10 => ?_) (fun h1_10 => ?_)
    · have h1_10 : ¬ x.n = y.n := by omega
      refine VL.pick_f rfl rfl ?_
      refine VL.move rfl ?_
      refine VL.pass rfl rfl rfl rfl rfl ?_
      refine VL.pass rfl rfl rfl rfl rfl ?_
      refine VL.pass rfl rfl rfl rfl rfl ?_
      refine VL.pass rfl rfl rfl rfl rfl ?_
      refine VL.pass rfl rfl rfl rfl rfl ?_
      refine VL.pick_t rfl rfl ?_
      refine VL.move rfl ?_
      refine VL.pass rfl rfl rfl rfl rfl ?_
      refine VL.pass rfl rfl rfl rfl rfl ?_
      refine VL.pass rfl rfl rfl rfl rfl ?_
      refine VL.pass rfl rfl rfl rfl rfl ?_
      refine VL.pass rfl rfl rfl rfl rfl ?_
      refine VL.pick_t rfl rfl ?_
      refine VL.move rfl ?_
      refine VL.pass rfl rfl rfl rfl rfl ?_
      refine VL.pass rfl rfl rfl rfl rfl ?_
      refine VL.pass rfl rfl rfl rfl rfl ?_
      refine VL.pass rfl rfl rfl rfl rfl ?_
      refine VL.pass rfl rfl rfl rfl rfl ?_
      refine VL.pick_t rfl rfl ?_
      refine VL.move rfl ?_
      refine VL.pass rfl rfl rfl rfl rfl ?_
      refine VL.pass rfl rfl rfl rfl rfl ?_
      refine VL.pass rfl rfl rfl rfl rfl ?_
      refine VL.pass rfl rfl rfl rfl rfl ?_
      refine VL.pass rfl rfl rfl rfl rfl ?_
      refine VL.pick_t rfl rfl ?_
      refine VL.move rfl ?_
      refine VL.pass rfl rfl rfl rfl rfl ?_
      refine VL.pass rfl rfl rfl rfl rfl ?_
      refine VL.pass rfl rfl rfl rfl rfl ?_
      refine VL.pass rfl rfl rfl rfl rfl ?_
      refine VL.pass rfl rfl rfl rfl rfl ?_
      refine VL.pass rfl rfl rfl rfl rfl ?_
      refine VL.pass rfl rfl rfl rfl rfl ?_
      refine VL.pick_t rfl rfl ?_
      refine VL.nil ?_
      refine VX.next ?_
      refine VC.yes rfl ?_
      refine VC.seq ?_
      refine VC.region ?_
      refine VL.assign rfl ?_
      refine VL.nil ?_
      refine VX.next ?_
      refine VC.ret ?_
      refine VX.then_ret ?_
      refine VX.ret1 rfl rfl (fun we hw => ?_)
      refine ⟨false, rfl, ?_, hw.drop.drop.sub (fun _ hs => by repeat (first | exact hs | apply List.mem_cons_of_mem))⟩
      rw [object_iff]
      simp [h1_4, h1_10]
    · have h1_10 : x.n = y.n := by omega
      refine VL.pick_f rfl rfl ?_
      refine VL.move rfl ?_
      refine VL.go rfl rfl rfl ?_
      refine VL.fieldAddr rfl fo85_2 rfl ?_
      refine VL.go rfl rfl rfl ?_
      refine VL.loads (cs := (x.key).map bv) 1 2 1 rfl kd44 (fun _ h => h) rfl rfl rfl rfl ?_
      refine VL.go rfl rfl rfl ?_
      refine VL.fieldAddr rfl fo85_2 rfl ?_
      refine VL.go rfl rfl rfl ?_
      refine VL.loads (cs := (y.key).map bv) 0 2 1 rfl kd44 (fun _ h => h) rfl rfl rfl rfl ?_
      refine VL.go rfl rfl rfl ?_
      refine VL.neT guard44 rfl rfl (eqKey 9998 hx.key hy.key) (fun b h1_17 => ?_)
      cases b
      · have h1_17 := mt h1_17.2 (by decide)
        refine VL.pick_f rfl rfl ?_
        refine VL.move rfl ?_
        refine VL.pass rfl rfl rfl rfl rfl ?_
        refine VL.pass rfl rfl rfl rfl rfl ?_
        refine VL.pass rfl rfl rfl rfl rfl ?_
        refine VL.pass rfl rfl rfl rfl rfl ?_
        refine VL.pass rfl rfl rfl rfl rfl ?_
        refine VL.pick_t rfl rfl ?_
        refine VL.move rfl ?_
        refine VL.pass rfl rfl rfl rfl rfl ?_
        refine VL.pass rfl rfl rfl rfl rfl ?_
        refine VL.pass rfl rfl rfl rfl rfl ?_
        refine VL.pass rfl rfl rfl rfl rfl ?_
        refine VL.pass rfl rfl rfl rfl rfl ?_
        refine VL.pick_t rfl rfl ?_
        refine VL.move rfl ?_
        refine VL.pass rfl rfl rfl rfl rfl ?_
        refine VL.pass rfl rfl rfl rfl rfl ?_
        refine VL.pass rfl rfl rfl rfl rfl ?_
        refine VL.pass rfl rfl rfl rfl rfl ?_
        refine VL.pass rfl rfl rfl rfl rfl ?_
        refine VL.pick_t rfl rfl ?_
        refine VL.move rfl ?_
        refine VL.pass rfl rfl rfl rfl rfl ?_
        refine VL.pass rfl rfl rfl rfl rfl ?_
        refine VL.pass rfl rfl rfl rfl rfl ?_
        refine VL.pass rfl rfl rfl rfl rfl ?_
        refine VL.pass rfl rfl rfl rfl rfl ?_
        refine VL.pass rfl rfl rfl rfl rfl ?_
        refine VL.pass rfl rfl rfl rfl rfl ?_
        refine VL.pick_t rfl rfl ?_
        refine VL.nil ?_
        refine VX.next ?_
        refine VC.yes rfl ?_
        refine VC.seq ?_
        refine VC.region ?_
        refine VL.assign rfl ?_
        refine VL.nil ?_
        refine VX.next ?_
        refine VC.ret ?_
        refine VX.then_ret ?_
        refine VX.ret1 rfl rfl (fun we hw => ?_)
        refine ⟨false, rfl, ?_, hw.drop.drop.sub (fun _ hs => by repeat (first | exact hs | apply List.mem_cons_of_mem))⟩
        rw [object_iff]
        simp [h1_4, h1_10, h1_17]
      · have h1_17 := h1_17.1 rfl
        refine VL.pick_f rfl rfl ?_
        refine VL.move rfl ?_
        refine VL.go rfl rfl rfl ?_
        refine VL.fieldAddr rfl fo85_3 rfl ?_
        refine VL.go rfl rfl rfl ?_
        refine VL.load (v := .int .u32 (x.since)) 1 3 rfl kd48 (fun _ h => h) rfl rfl rfl ?_
        refine VL.go rfl rfl rfl ?_
        refine VL.fieldAddr rfl fo85_3 rfl ?_
        refine VL.go rfl rfl rfl ?_
        refine VL.load (v := .int .u32 (y.since)) 0 3 rfl kd48 (fun _ h => h) rfl rfl rfl ?_
        refine VL.go rfl rfl rfl ?_
        refine VL.neq rfl rfl ?_
        refine VL.case (fun h1_24 => ?_) (fun h1_24 => ?_)
        · have h1_24 : ¬ x.since = y.since := by omega
          refine VL.pick_f rfl rfl ?_
          refine VL.move rfl ?_
          refine VL.pass rfl rfl rfl rfl rfl ?_
          refine VL.pass rfl rfl rfl rfl rfl ?_
          refine VL.pass rfl rfl rfl rfl rfl ?_
          refine VL.pass rfl rfl rfl rfl rfl ?_
          refine VL.pass rfl rfl rfl rfl rfl ?_
          refine VL.pick_t rfl rfl ?_
          refine VL.move rfl ?_
          refine VL.pass rfl rfl rfl rfl rfl ?_
          refine VL.pass rfl rfl rfl rfl rfl ?_
          refine VL.pass rfl rfl rfl rfl rfl ?_
          refine VL.pass rfl rfl rfl rfl rfl ?_
          refine VL.pass rfl rfl rfl rfl rfl ?_
          refine VL.pick_t rfl rfl ?_
          refine VL.move rfl ?_
          refine VL.pass rfl rfl rfl rfl rfl ?_
          refine VL.pass rfl rfl rfl rfl rfl ?_
          refine VL.pass rfl rfl rfl rfl rfl ?_
          refine VL.pass rfl rfl rfl rfl rfl ?_
          refine VL.pass rfl rfl rfl rfl rfl ?_
          refine VL.pass rfl rfl rfl rfl rfl ?_
          refine VL.pass rfl rfl rfl rfl rfl ?_
          refine VL.pick_t rfl rfl ?_
          refine VL.nil ?_
          refine VX.next ?_
          refine VC.yes rfl ?_
          refine VC.seq ?_
          refine VC.region ?_
          refine VL.assign rfl ?_
          refine VL.nil ?_
          refine VX.next ?_
          refine VC.ret ?_
          refine VX.then_ret ?_
          refine VX.ret1 rfl rfl (fun we hw => ?_)
          refine ⟨false, rfl, ?_, hw.drop.drop.sub (fun _ hs => by repeat (first | exact hs | apply List.mem_cons_of_mem))⟩
          rw [object_iff]
          simp [h1_4, h1_10, h1_17, h1_24]
        · have h1_24 : x.since = y.since := by omega
          refine VL.pick_f rfl rfl ?_
          refine VL.move rfl ?_
          refine VL.go rfl rfl rfl ?_
          refine VL.fieldAddr rfl fo85_4 rfl ?_
          refine VL.go rfl rfl rfl ?_
          refine VL.load (v := .int .u32 (x.till)) 1 4 rfl kd48 (fun _ h => h) rfl rfl rfl ?_
          refine VL.go rfl rfl rfl ?_
          refine VL.fieldAddr rfl fo85_4 rfl ?_
          refine VL.go rfl rfl rfl ?_
          refine VL.load (v := .int .u32 (y.till)) 0 4 rfl kd48 (fun _ h => h) rfl rfl rfl ?_
          refine VL.go rfl rfl rfl ?_
          refine VL.neq rfl rfl ?_
          refine VL.case (fun h1_31 => ?_) (fun h1_31 => ?_)
          · have h1_31 : ¬ x.till = y.till := by omega
            refine VL.pick_f rfl rfl ?_
            refine VL.move rfl ?_
            refine VL.pass rfl rfl rfl rfl rfl ?_
            refine VL.pass rfl rfl rfl rfl rfl ?_
            refine VL.pass rfl rfl rfl rfl rfl ?_
            refine VL.pass rfl rfl rfl rfl rfl ?_
            refine VL.pass rfl rfl rfl rfl rfl ?_
            refine VL.pick_t rfl rfl ?_
            refine VL.move rfl ?_
            refine VL.pass rfl rfl rfl rfl rfl ?_
            refine VL.pass rfl rfl rfl rfl rfl ?_
            refine VL.pass rfl rfl rfl rfl rfl ?_
            refine VL.pass rfl rfl rfl rfl rfl ?_
            refine VL.pass rfl rfl rfl rfl rfl ?_
            refine VL.pass rfl rfl rfl rfl rfl ?_
            refine VL.pass rfl rfl rfl rfl rfl ?_
            refine VL.pick_t rfl rfl ?_
            refine VL.nil ?_
            refine VX.next ?_
            refine VC.yes rfl ?_
            refine VC.seq ?_
            refine VC.region ?_
            refine VL.assign rfl ?_
            refine VL.nil ?_
            refine VX.next ?_
            refine VC.ret ?_
            refine VX.then_ret ?_
            refine VX.ret1 rfl rfl (fun we hw => ?_)
            refine ⟨false, rfl, ?_, hw.drop.drop.sub (fun _ hs => by repeat (first | exact hs | apply List.mem_cons_of_mem))⟩
            rw [object_iff]
            simp [h1_4, h1_10, h1_17, h1_24, h1_31]
          · have h1_31 : x.till = y.till := by omega
            refine VL.pick_f rfl rfl ?_
            refine VL.move rfl ?_
            refine VL.go rfl rfl rfl ?_
            refine VL.fieldAddr rfl fo85_5 rfl ?_
            refine VL.go rfl rfl rfl ?_
            refine VL.loads (cs := (x.sig).map bv) 1 5 1 rfl kd80 (fun _ h => h) rfl rfl rfl rfl ?_
            refine VL.go rfl rfl rfl ?_
            refine VL.fieldAddr rfl fo85_5 rfl ?_
            refine VL.go rfl rfl rfl ?_
            refine VL.loads (cs := (y.sig).map bv) 0 5 1 rfl kd80 (fun _ h => h) rfl rfl rfl rfl ?_
            refine VL.go rfl rfl rfl ?_
            refine VL.neT guard80 rfl rfl (eqSig 9998 hx.sig hy.sig) (fun b h1_38 => ?_)
            cases b
            · have h1_38 := mt h1_38.2 (by decide)
              refine VL.pick_f rfl rfl ?_
              refine VL.move rfl ?_
              refine VL.pass rfl rfl rfl rfl rfl ?_
              refine VL.pass rfl rfl rfl rfl rfl ?_
              refine VL.pass rfl rfl rfl rfl rfl ?_
              refine VL.pass rfl rfl rfl rfl rfl ?_
              refine VL.pass rfl rfl rfl rfl rfl ?_
              refine VL.pass rfl rfl rfl rfl rfl ?_
              refine VL.pass rfl rfl rfl rfl rfl ?_
              refine VL.pick_t rfl rfl ?_
              refine VL.nil ?_
              refine VX.next ?_
              refine VC.yes rfl ?_
              refine VC.seq ?_
              refine VC.region ?_
              refine VL.assign rfl ?_
              refine VL.nil ?_
              refine VX.next ?_
              refine VC.ret ?_
              refine VX.then_ret ?_
              refine VX.ret1 rfl rfl (fun we hw => ?_)
              refine ⟨false, rfl, ?_, hw.drop.drop.sub (fun _ hs => by repeat (first | exact hs | apply List.mem_cons_of_mem))⟩
              rw [object_iff]
              simp [h1_4, h1_10, h1_17, h1_24, h1_31, h1_38]
            · have h1_38 := h1_38.1 rfl
              refine VL.pick_f rfl rfl ?_
              refine VL.move rfl ?_
              refine VL.go rfl rfl rfl ?_
              refine VL.fieldAddr rfl fo85_6 rfl ?_
              refine VL.go rfl rfl rfl ?_
              refine VL.load (v := .slice q (x.vouches).length d) 1 6 rfl kd83 (fun _ h => h) rfl rfl rfl ?_
              refine VL.go rfl rfl rfl ?_
              refine VL.len Try.underlying83 rfl rfl ?_
              refine VL.go rfl rfl rfl ?_
              refine VL.fieldAddr rfl fo85_6 rfl ?_
              refine VL.go rfl rfl rfl ?_
              refine VL.load (v := .slice p (y.vouches).length c) 0 6 rfl kd83 (fun _ h => h) rfl rfl rfl ?_
              refine VL.go rfl rfl rfl ?_
              refine VL.len Try.underlying83 rfl rfl ?_
              refine VL.go rfl rfl rfl ?_
              refine VL.neq rfl rfl ?_
              refine VL.case (fun h1_47 => ?_) (fun h1_47 => ?_)
              · have h1_47 : ¬ x.vouches.length = y.vouches.length := by omega
                refine VL.pick_f rfl rfl ?_
                refine VL.nil ?_
                refine VX.next ?_
                refine VC.yes rfl ?_
                refine VC.seq ?_
                refine VC.region ?_
                refine VL.assign rfl ?_
                refine VL.nil ?_
                refine VX.next ?_
                refine VC.ret ?_
                refine VX.then_ret ?_
                refine VX.ret1 rfl rfl (fun we hw => ?_)
                exact ⟨false, rfl, ⟨fun h => absurd h (by decide), fun h => absurd (congrArg List.length (object_iff.1 h).2.2.2.2.2.2) h1_47⟩, hw.drop.drop.sub (fun _ hs => by repeat (first | exact hs | apply List.mem_cons_of_mem))⟩
              · have h1_47 : x.vouches.length = y.vouches.length := by omega
                refine VL.pick_f rfl rfl ?_
                refine VL.nil ?_
                refine VX.next ?_
                refine VC.no rfl ?_
                refine VC.skip ?_
                refine VX.next ?_
                refine VC.seq ?_
                refine VC.seq ?_
                refine VC.region ?_
                refine VL.assign rfl ?_
                refine VL.nil ?_
                refine VX.next ?_
                refine VC.block ?_
                refine VC.loop (X := Nat) (fun i => [(2, .pointer (some ⟨g1, 0, none⟩)), (3, .pointer (some ⟨g2, 0, none⟩)), (5, .int .i64 (i : Int))]) (fun i w' => (i ≤ x.vouches.length ∧ ∀ j, j < i → x.vouches[j]? = y.vouches[j]?) ∧ Own (⟨w, keys H⟩ :: S) (blk g2 85 objectL (objectV (y) p c) :: blk g1 85 objectL (objectV (x) q d) :: H) w') (fun i => x.vouches.length - i) 0 ⟨rfl, rfl, rfl, trivial⟩ (fun w' h => ⟨⟨Nat.zero_le _, fun j hj => absurd hj (Nat.not_lt_zero _)⟩, h.sub (fun _ hs => by repeat (first | exact hs | apply List.mem_cons_of_mem))⟩) (fun i => VC.fact fun ⟨hi, hall⟩ => ?_)
                · skip
                  refine VC.seq ?_
                  refine VC.seq ?_
                  refine VC.region ?_
                  refine VL.move rfl ?_
                  refine VL.fieldAddr rfl fo85_6 rfl ?_
                  refine VL.load (v := .slice q (x.vouches).length d) 1 6 rfl kd83 (fun _ h => h) rfl rfl rfl ?_
                  refine VL.len Try.underlying83 rfl rfl ?_
                  refine VL.lss rfl rfl ?_
                  refine VL.case (fun h4 => ?_) (fun h4 => ?_)
                  · have hlt : i < x.vouches.length := by omega
                    have hlt2 : i < y.vouches.length := by omega
                    refine VL.nil ?_
                    refine VX.next ?_
                    refine VC.yes rfl ?_
                    refine VC.skip ?_
                    refine VX.next ?_
                    refine VC.seq ?_
                    refine VC.block ?_
                    refine VC.seq ?_
                    by_cases hv : x.vouches[i]'hlt = y.vouches[i]'hlt2
                    · apply VC.anyTA 10 1011 (F := [eqF _, eqF _, eqF _, eqF _, eqF _, eqF _, eqF _, eqF _, eqF _, eqF _]) [⟨[], [2]⟩, ⟨[(62, 0)], []⟩, ⟨[], [5]⟩, ⟨[(63, 1), (64, 2)], []⟩, ⟨[(65, 3)], []⟩, ⟨[], [3]⟩, ⟨[(67, 5)], []⟩, ⟨[], [5]⟩, ⟨[(68, 6), (69, 7)], []⟩, ⟨[(70, 8)], []⟩] [(66, 4), (71, 9)] [0, 1, 2, 3, 4, 5, 6, 7, 8, 9, 10, 11, 12, 13, 14, 15, 16, 17, 18, 19, 20, 21, 22, 23, 24, 25, 26, 27, 28, 29, 30, 31, 32, 33, 34, 35, 36, 37, 38, 39, 40, 41, 42, 43, 44, 45, 46, 47, 48, 49, 50, 51, 52, 53, 54, 55, 56, 57, 58, 59, 60, 61, 72] rfl (by kernel_rfl) (by kernel_rfl) rfl rfl (by kernel_rfl) (by kernel_rfl) (by kernel_rfl) rfl ?obs6 ?end6
                      case obs6 =>
                        refine Obs.cons ?_ ?_
                        · refine obS (by kernel_rfl) rfl rfl (fun ph6 w6 hO6 => ?_)
                          refine VL.fieldAddr rfl fo85_6 rfl ?_
                          exact VL.finS hO6 rfl rfl
                        refine Obs.cons ?_ ?_
                        · refine ob (by kernel_rfl) rfl (by kernel_rfl) rfl (fun w6 hO6 => ?_)
                          rintro _ rfl
                          refine VL.load (v := .slice q (x.vouches).length d) 1 6 rfl kd83 (fun _ e => e ▸ hO6) rfl rfl rfl ?_
                          exact VL.finS hO6 rfl rfl
                        refine Obs.cons ?_ ?_
                        · refine obS (by kernel_rfl) rfl rfl (fun ph6 w6 hO6 => ?_)
                          refine VL.move rfl ?_
                          exact VL.finS hO6 rfl rfl
                        refine Obs.cons ?_ ?_
                        · refine obS (by kernel_rfl) rfl rfl (fun ph6 w6 hO6 => ?_)
                          rintro _ rfl _ rfl
                          refine VL.index (xs := x.vouches) rfl rfl Try.underlying83 sz83 hV (by omega) (by have hi := hlt; omega) ?_
                          exact VL.finS hO6 rfl rfl
                        refine Obs.cons ?_ ?_
                        · refine ob (by kernel_rfl) rfl (by kernel_rfl) rfl (fun w6 hO6 => ?_)
                          rintro _ rfl
                          refine VL.elems (s := ⟨w, _⟩) (m := 65) (i) 0 rfl kd202 (fun _ e => e ▸ hO6) (by repeat (first | exact List.mem_cons_self .. | apply List.mem_cons_of_mem)) hV (List.getElem?_eq_getElem hlt) (by simp) (by decide) (fun vs hl hr => ?_)
                          obtain ⟨hy4, rfl⟩ := hr
                          refine VL.newv (v' := .agg (cat (vouchV (x.vouches[i]'hlt))).toArray) (by rw [List.drop_zero, List.take_of_length_le (by rw [hl]; decide)]) ?_
                          exact VL.finS hO6 rfl rfl
                        refine Obs.cons ?_ ?_
                        · refine obS (by kernel_rfl) rfl rfl (fun ph6 w6 hO6 => ?_)
                          refine VL.fieldAddr rfl fo85_6 rfl ?_
                          exact VL.finS hO6 rfl rfl
                        refine Obs.cons ?_ ?_
                        · refine ob (by kernel_rfl) rfl (by kernel_rfl) rfl (fun w6 hO6 => ?_)
                          rintro _ rfl
                          refine VL.load (v := .slice p (y.vouches).length c) 0 6 rfl kd83 (fun _ e => e ▸ hO6) rfl rfl rfl ?_
                          exact VL.finS hO6 rfl rfl
                        refine Obs.cons ?_ ?_
                        · refine obS (by kernel_rfl) rfl rfl (fun ph6 w6 hO6 => ?_)
                          refine VL.move rfl ?_
                          exact VL.finS hO6 rfl rfl
                        refine Obs.cons ?_ ?_
                        · refine obS (by kernel_rfl) rfl rfl (fun ph6 w6 hO6 => ?_)
                          rintro _ rfl _ rfl
                          refine VL.index (xs := y.vouches) rfl rfl Try.underlying83 sz83 hU (by omega) (by have hi := hlt2; omega) ?_
                          exact VL.finS hO6 rfl rfl
                        refine Obs.cons ?_ ?_
                        · refine ob (by kernel_rfl) rfl (by kernel_rfl) rfl (fun w6 hO6 => ?_)
                          rintro _ rfl
                          refine VL.elems (s := ⟨w, _⟩) (m := 65) (i) 0 rfl kd202 (fun _ e => e ▸ hO6) (by repeat (first | exact List.mem_cons_self .. | apply List.mem_cons_of_mem)) hU (List.getElem?_eq_getElem hlt2) (by simp) (by decide) (fun vs hl hr => ?_)
                          obtain ⟨hy6, rfl⟩ := hr
                          refine VL.newv (v' := .agg (cat (vouchV (y.vouches[i]'hlt2))).toArray) (by rw [List.drop_zero, List.take_of_length_le (by rw [hl]; decide)]) ?_
                          exact VL.finS hO6 rfl rfl
                        exact Obs.nil
                      case end6 =>
                        intro w6 hO6
                        rintro _ rfl _ rfl
                        refine VL.toOwn hO6 ?_
                        refine VL.neT guard202 rfl rfl (eqVouch (hx.vouches _ (List.getElem_mem hlt)) (hy.vouches _ (List.getElem_mem hlt2))) (fun b h => ?_)
                        obtain rfl : b = true := h.2 hv
                        refine VL.nil ?_
                        refine VX.next ?_
                        refine VC.no rfl ?_
                        refine VC.skip ?_
                        refine VX.block_normal ?_
                        refine VX.next ?_
                        refine VC.region ?_
                        refine VL.move rfl ?_
                        refine VL.add rfl rfl (by have hsm := hV.small; simp only [InR]; omega) ?_
                        refine VL.assign rfl ?_
                        refine VL.nil ?_
                        refine VX.round (i + 1) ⟨rfl, rfl, rfl, trivial⟩ (fun w' h => ⟨⟨by omega, fun j hj => ?_⟩, h.sub (fun _ hs => by repeat (first | exact hs | apply List.mem_cons_of_mem))⟩) (by show x.vouches.length - (i + 1) < x.vouches.length - i; omega)
                        by_cases hji : j < i
                        · exact hall j hji
                        · obtain rfl : j = i := by omega
                          rw [List.getElem?_eq_getElem hlt, List.getElem?_eq_getElem hlt2, hv]
                    · apply VC.anyTA 10 1011 (F := [eqF _, eqF _, eqF _, eqF _, eqF _, eqF _, eqF _, eqF _, eqF _, eqF _]) [⟨[], [2]⟩, ⟨[(62, 0)], []⟩, ⟨[], [5]⟩, ⟨[(63, 1), (64, 2)], []⟩, ⟨[(65, 3)], []⟩, ⟨[], [3]⟩, ⟨[(67, 5)], []⟩, ⟨[], [5]⟩, ⟨[(68, 6), (69, 7)], []⟩, ⟨[(70, 8)], []⟩] [(66, 4), (71, 9)] [0, 1, 2, 3, 4, 5, 6, 7, 8, 9, 10, 11, 12, 13, 14, 15, 16, 17, 18, 19, 20, 21, 22, 23, 24, 25, 26, 27, 28, 29, 30, 31, 32, 33, 34, 35, 36, 37, 38, 39, 40, 41, 42, 43, 44, 45, 46, 47, 48, 49, 50, 51, 52, 53, 54, 55, 56, 57, 58, 59, 60, 61, 72] rfl (by kernel_rfl) (by kernel_rfl) rfl rfl (by kernel_rfl) (by kernel_rfl) (by kernel_rfl) rfl ?obs6 ?end6
                      case obs6 =>
                        refine Obs.cons ?_ ?_
                        · refine obS (by kernel_rfl) rfl rfl (fun ph6 w6 hO6 => ?_)
                          refine VL.fieldAddr rfl fo85_6 rfl ?_
                          exact VL.finS hO6 rfl rfl
                        refine Obs.cons ?_ ?_
                        · refine ob (by kernel_rfl) rfl (by kernel_rfl) rfl (fun w6 hO6 => ?_)
                          rintro _ rfl
                          refine VL.load (v := .slice q (x.vouches).length d) 1 6 rfl kd83 (fun _ e => e ▸ hO6) rfl rfl rfl ?_
                          exact VL.finS hO6 rfl rfl
                        refine Obs.cons ?_ ?_
                        · refine obS (by kernel_rfl) rfl rfl (fun ph6 w6 hO6 => ?_)
                          refine VL.move rfl ?_
                          exact VL.finS hO6 rfl rfl
                        refine Obs.cons ?_ ?_
                        · refine obS (by kernel_rfl) rfl rfl (fun ph6 w6 hO6 => ?_)
                          rintro _ rfl _ rfl
                          refine VL.index (xs := x.vouches) rfl rfl Try.underlying83 sz83 hV (by omega) (by have hi := hlt; omega) ?_
                          exact VL.finS hO6 rfl rfl
                        refine Obs.cons ?_ ?_
                        · refine ob (by kernel_rfl) rfl (by kernel_rfl) rfl (fun w6 hO6 => ?_)
                          rintro _ rfl
                          refine VL.elems (s := ⟨w, _⟩) (m := 65) (i) 0 rfl kd202 (fun _ e => e ▸ hO6) (by repeat (first | exact List.mem_cons_self .. | apply List.mem_cons_of_mem)) hV (List.getElem?_eq_getElem hlt) (by simp) (by decide) (fun vs hl hr => ?_)
                          obtain ⟨hy8, rfl⟩ := hr
                          refine VL.newv (v' := .agg (cat (vouchV (x.vouches[i]'hlt))).toArray) (by rw [List.drop_zero, List.take_of_length_le (by rw [hl]; decide)]) ?_
                          exact VL.finS hO6 rfl rfl
                        refine Obs.cons ?_ ?_
                        · refine obS (by kernel_rfl) rfl rfl (fun ph6 w6 hO6 => ?_)
                          refine VL.fieldAddr rfl fo85_6 rfl ?_
                          exact VL.finS hO6 rfl rfl
                        refine Obs.cons ?_ ?_
                        · refine ob (by kernel_rfl) rfl (by kernel_rfl) rfl (fun w6 hO6 => ?_)
                          rintro _ rfl
                          refine VL.load (v := .slice p (y.vouches).length c) 0 6 rfl kd83 (fun _ e => e ▸ hO6) rfl rfl rfl ?_
                          exact VL.finS hO6 rfl rfl
                        refine Obs.cons ?_ ?_
                        · refine obS (by kernel_rfl) rfl rfl (fun ph6 w6 hO6 => ?_)
                          refine VL.move rfl ?_
                          exact VL.finS hO6 rfl rfl
                        refine Obs.cons ?_ ?_
                        · refine obS (by kernel_rfl) rfl rfl (fun ph6 w6 hO6 => ?_)
                          rintro _ rfl _ rfl
                          refine VL.index (xs := y.vouches) rfl rfl Try.underlying83 sz83 hU (by omega) (by have hi := hlt2; omega) ?_
                          exact VL.finS hO6 rfl rfl
                        refine Obs.cons ?_ ?_
                        · refine ob (by kernel_rfl) rfl (by kernel_rfl) rfl (fun w6 hO6 => ?_)
                          rintro _ rfl
                          refine VL.elems (s := ⟨w, _⟩) (m := 65) (i) 0 rfl kd202 (fun _ e => e ▸ hO6) (by repeat (first | exact List.mem_cons_self .. | apply List.mem_cons_of_mem)) hU (List.getElem?_eq_getElem hlt2) (by simp) (by decide) (fun vs hl hr => ?_)
                          obtain ⟨hy10, rfl⟩ := hr
                          refine VL.newv (v' := .agg (cat (vouchV (y.vouches[i]'hlt2))).toArray) (by rw [List.drop_zero, List.take_of_length_le (by rw [hl]; decide)]) ?_
                          exact VL.finS hO6 rfl rfl
                        exact Obs.nil
                      case end6 =>
                        intro w6 hO6
                        rintro _ rfl _ rfl
                        refine VL.toOwn hO6 ?_
                        refine VL.neT guard202 rfl rfl (eqVouch (hx.vouches _ (List.getElem_mem hlt)) (hy.vouches _ (List.getElem_mem hlt2))) (fun b h => ?_)
                        obtain rfl : b = false := by cases b with
                          | false => rfl
                          | true => exact absurd (h.1 rfl) hv
                        refine VL.nil ?_
                        refine VX.next ?_
                        refine VC.yes rfl ?_
                        refine VC.seq ?_
                        refine VC.region ?_
                        refine VL.assign rfl ?_
                        refine VL.nil ?_
                        refine VX.next ?_
                        refine VC.ret ?_
                        refine VX.block_ret ?_
                        refine VX.then_ret ?_
                        refine VX.then_ret ?_
                        refine VX.block_ret ?_
                        refine VX.then_ret ?_
                        refine VX.ret1 rfl rfl (fun we hw => ?_)
                        refine ⟨false, rfl, ⟨fun h => absurd h (by decide), fun h => absurd (object_iff.1 h).2.2.2.2.2.2 fun e => hv ?_⟩, hw.drop.drop.sub (fun _ hs => by repeat (first | exact hs | apply List.mem_cons_of_mem))⟩
                        have e1 := congrArg (fun l : List Vouch => l[i]?) e
                        simp only [List.getElem?_eq_getElem hlt, List.getElem?_eq_getElem hlt2] at e1
                        exact Option.some.inj e1
                  · obtain rfl : i = x.vouches.length := by omega
                    refine VL.nil ?_
                    refine VX.next ?_
                    refine VC.no rfl ?_
                    refine VC.exit ?_
                    refine VX.then_exit ?_
                    refine VX.then_exit ?_
                    refine VX.block_here ?_
                    refine VX.next ?_
                    refine VC.seq ?_
                    refine VC.region ?_
                    refine VL.assign rfl ?_
                    refine VL.nil ?_
                    refine VX.next ?_
                    refine VC.ret ?_
                    refine VX.ret1 rfl rfl (fun we hw => ?_)
                    refine ⟨true, rfl, ⟨fun _ => object_iff.2 ⟨h1_4, h1_10, h1_17, h1_24, h1_31, h1_38, List.ext_getElem? fun k => ?_⟩, fun _ => rfl⟩, hw.drop.drop.sub (fun _ hs => by repeat (first | exact hs | apply List.mem_cons_of_mem))⟩
                    by_cases hk : k < x.vouches.length
                    · exact hall k (by omega)
                    · rw [List.getElem?_eq_none (by omega), List.getElem?_eq_none (by omega)]

end Go.Proofs.Ytcfecmoagfgnaaa

/- The reference: bundles, objects, items. -/
namespace Go.Proofs.Ytcfecmoagfgnaaa
open Go.Vc Go.Pl

theorem refBundle_w {S : List Snap} {H : List Chunk} {w : World} (ho : Own S H w) {x : Bundle} (hx : x.ok) : Calls Try.prog 62 #[.agg (cat (bundleV x)).toArray] w (Ret fun v w' => ∃ p c, v = .slice p (bundleB x).length c ∧ Own S H w' ∧ Bytes (keys H) w' p (bundleB x) c) := by
  have hx1 := hx.device
  have hx2 := hx.id
  refine enter (G := Own (⟨w, keys H⟩ :: S) H) ho.keep Try.func62 rfl Try.ntmps62 rfl ?_
  refine VC.seq ?_
  refine VC.region ?_
  refine VL.box (L := bundleL) (ps := (bundleV (x))) rfl rfl (bundleV_len hx) (fun g1 => ?_)
  refine VL.assign rfl ?_
  refine VL.nil ?_
  refine VX.next ?_
  refine VC.seq ?_
  refine VC.letCells 0 rfl (fun w2 hO4 hF3 => ?_)
  apply VC.anyTA 15 1018 (F := [eqF _, eqF _, capF (be 1 (x.device)) 1, eqF _, eqF _, eqF _, eqF _, eqF _, eqF _, eqF _, bytesF (be 2 (x.id)), eqF _, eqF _, eqF _, eqF _]) [⟨[], [1]⟩, ⟨[(3, 0)], []⟩, ⟨[(4, 1)], []⟩, ⟨[], [1]⟩, ⟨[(6, 3)], []⟩, ⟨[], [1]⟩, ⟨[(8, 5)], []⟩, ⟨[], [1]⟩, ⟨[(10, 7)], []⟩, ⟨[(11, 8)], []⟩, ⟨[(12, 9)], []⟩, ⟨[], [1]⟩, ⟨[(14, 11)], []⟩, ⟨[], [1]⟩, ⟨[(16, 13)], []⟩] [(5, 2), (7, 4), (9, 6), (13, 10), (15, 12), (17, 14)] [0, 2, 18, 19] rfl (by kernel_rfl) (by kernel_rfl) rfl rfl (by kernel_rfl) (by kernel_rfl) (by kernel_rfl) rfl ?obs1 ?end1
  case obs1 =>
    refine Obs.cons ?_ ?_
    · refine obS (by kernel_rfl) rfl rfl (fun ph1 w1 hO1 => ?_)
      refine VL.fieldAddr rfl fo82_0 rfl ?_
      exact VL.finS hO1 rfl rfl
    refine Obs.cons ?_ ?_
    · refine obS (by kernel_rfl) rfl rfl (fun ph1 w1 hO1 => ?_)
      rintro _ rfl
      refine VL.loadF (s := ⟨w2, _⟩) (v := .int .u8 (x.device)) 0 rfl kd5 hF3 (fun _ e => e ▸ Still.ok hO1 (by repeat (first | exact List.mem_cons_self .. | apply List.mem_cons_of_mem))) rfl rfl ?_
      exact VL.finS hO1 rfl rfl
    refine Obs.cons ?_ ?_
    · refine ob (by kernel_rfl) rfl (by kernel_rfl) rfl (fun w1 hO1 => ?_)
      rintro _ rfl
      refine VL.toOwn hO1 ?_
      refine VL.litByte (m := x.device) el24 rfl (by have hm := hx.device; omega) (fun g5 w6 hO7 hA8 => ?_)
      exact VL.finO rfl (fun _ h => h.sub (fun _ hs => by repeat (first | exact hs | apply List.mem_cons_of_mem))) (fun _ h => ⟨_, rfl, (hA8.now (s := ⟨w6, _⟩) Mono.byte h (by repeat (first | exact List.mem_cons_self .. | apply List.mem_cons_of_mem)))⟩)
    refine Obs.cons ?_ ?_
    · refine obS (by kernel_rfl) rfl rfl (fun ph1 w1 hO1 => ?_)
      refine VL.fieldAddr rfl fo82_1 rfl ?_
      exact VL.finS hO1 rfl rfl
    refine Obs.cons ?_ ?_
    · refine obS (by kernel_rfl) rfl rfl (fun ph1 w1 hO1 => ?_)
      rintro _ rfl
      refine VL.sliceArrAt Try.underlying44 (by kernel_rfl) rfl ?_
      refine VL.newv (v' := .slice (some ⟨g1, 1, none⟩) (x.agree).length 32) (by rw [hx.agree]) ?_
      exact VL.finS hO1 rfl rfl
    refine Obs.cons ?_ ?_
    · refine obS (by kernel_rfl) rfl rfl (fun ph1 w1 hO1 => ?_)
      refine VL.fieldAddr rfl fo82_2 rfl ?_
      exact VL.finS hO1 rfl rfl
    refine Obs.cons ?_ ?_
    · refine obS (by kernel_rfl) rfl rfl (fun ph1 w1 hO1 => ?_)
      rintro _ rfl
      refine VL.sliceArrAt Try.underlying44 (by kernel_rfl) rfl ?_
      refine VL.newv (v' := .slice (some ⟨g1, 33, none⟩) (x.signer).length 32) (by rw [hx.signer]) ?_
      exact VL.finS hO1 rfl rfl
    refine Obs.cons ?_ ?_
    · refine obS (by kernel_rfl) rfl rfl (fun ph1 w1 hO1 => ?_)
      refine VL.fieldAddr rfl fo82_3 rfl ?_
      exact VL.finS hO1 rfl rfl
    refine Obs.cons ?_ ?_
    · refine obS (by kernel_rfl) rfl rfl (fun ph1 w1 hO1 => ?_)
      rintro _ rfl
      refine VL.loadF (s := ⟨w2, _⟩) (v := .int .u16 (x.id)) 3 rfl kd68 hF3 (fun _ e => e ▸ Still.ok hO1 (by repeat (first | exact List.mem_cons_self .. | apply List.mem_cons_of_mem))) rfl rfl ?_
      exact VL.finS hO1 rfl rfl
    refine Obs.cons ?_ ?_
    · refine obS (by kernel_rfl) rfl rfl (fun ph1 w1 hO1 => ?_)
      rintro _ rfl
      refine VL.conv (by rw [Try.underlying68]; rfl) Try.underlying3 rfl (by simp only [InR]; omega) ?_
      exact VL.finS hO1 rfl rfl
    refine Obs.cons ?_ ?_
    · refine ob (by kernel_rfl) rfl (by kernel_rfl) rfl (fun w1 hO1 => ?_)
      rintro _ rfl
      refine VL.toOwn hO1 ?_
      refine VL.call Try.func108 rfl (by decide) rfl (fun w' hw => num_S hw (x.id) 2 (by omega) (by decide) (by decide) (fits2 (by omega))) (fun v => ?_)
      refine VL.at (fun w9 h1w => ?_)
      obtain ⟨p10, c11, rfl, hO13, hA12⟩ := h1w
      refine VL.toOwn hO13 ?_
      exact VL.finO rfl (fun _ h => h.sub (fun _ hs => by repeat (first | exact hs | apply List.mem_cons_of_mem))) (fun _ h => ⟨_, _, rfl, (hA12.now (s := ⟨w9, _⟩) Mono.byte h (by repeat (first | exact List.mem_cons_self .. | apply List.mem_cons_of_mem)))⟩)
    refine Obs.cons ?_ ?_
    · refine obS (by kernel_rfl) rfl rfl (fun ph1 w1 hO1 => ?_)
      refine VL.fieldAddr rfl fo82_4 rfl ?_
      exact VL.finS hO1 rfl rfl
    refine Obs.cons ?_ ?_
    · refine obS (by kernel_rfl) rfl rfl (fun ph1 w1 hO1 => ?_)
      rintro _ rfl
      refine VL.sliceArrAt Try.underlying44 (by kernel_rfl) rfl ?_
      refine VL.newv (v' := .slice (some ⟨g1, 66, none⟩) (x.once).length 32) (by rw [hx.once]) ?_
      exact VL.finS hO1 rfl rfl
    refine Obs.cons ?_ ?_
    · refine obS (by kernel_rfl) rfl rfl (fun ph1 w1 hO1 => ?_)
      refine VL.fieldAddr rfl fo82_5 rfl ?_
      exact VL.finS hO1 rfl rfl
    refine Obs.cons ?_ ?_
    · refine obS (by kernel_rfl) rfl rfl (fun ph1 w1 hO1 => ?_)
      rintro _ rfl
      refine VL.sliceArrAt Try.underlying80 (by kernel_rfl) rfl ?_
      refine VL.newv (v' := .slice (some ⟨g1, 98, none⟩) (x.sig).length 64) (by rw [hx.sig]) ?_
      exact VL.finS hO1 rfl rfl
    exact Obs.nil
  case end1 =>
    intro w1 hO1
    rintro _ ⟨p1_2, rfl, hA1_2⟩ _ rfl _ rfl _ ⟨p1_10, c1_10, rfl, hA1_10⟩ _ rfl _ rfl
    refine VL.toOwn hO1 ?_
    refine VL.lit el31 rfl rfl rfl (by simp [Value.cells]) (by intro u hu; simp [Value.cells] at hu; rcases hu with rfl | rfl | rfl | rfl | rfl | rfl <;> rfl) (fun g14 => ?_)
    refine VL.letRowS [be 1 (x.device), x.agree, x.signer, be 2 (x.id), x.once, x.sig] rfl (fun w' hw => ⟨⟨_, _, rfl, (hA1_2.now (s := ⟨w1, _⟩) Mono.byte hw (by repeat (first | exact List.mem_cons_self .. | apply List.mem_cons_of_mem)))⟩, ⟨⟨_, _, rfl, ((hF3.bytes 1 1 rfl rfl hx.agree rfl).now (s := ⟨w2, _⟩) Mono.byte hw (by repeat (first | exact List.mem_cons_self .. | apply List.mem_cons_of_mem)))⟩, ⟨⟨_, _, rfl, ((hF3.bytes 2 33 rfl rfl hx.signer rfl).now (s := ⟨w2, _⟩) Mono.byte hw (by repeat (first | exact List.mem_cons_self .. | apply List.mem_cons_of_mem)))⟩, ⟨⟨_, _, rfl, (hA1_10.now (s := ⟨w1, _⟩) Mono.byte hw (by repeat (first | exact List.mem_cons_self .. | apply List.mem_cons_of_mem)))⟩, ⟨⟨_, _, rfl, ((hF3.bytes 4 66 rfl rfl hx.once rfl).now (s := ⟨w2, _⟩) Mono.byte hw (by repeat (first | exact List.mem_cons_self .. | apply List.mem_cons_of_mem)))⟩, ⟨⟨_, _, rfl, ((hF3.bytes 5 98 rfl rfl hx.sig rfl).now (s := ⟨w2, _⟩) Mono.byte hw (by repeat (first | exact List.mem_cons_self .. | apply List.mem_cons_of_mem)))⟩, trivial⟩⟩⟩⟩⟩⟩) (fun w15 hO16 hA17 => ?_)
    refine VL.call Try.func120 rfl (by decide) rfl (fun w' hw => all_S (ls := [be 1 (x.device), x.agree, x.signer, be 2 (x.id), x.once, x.sig]) hw (hA17.now (s := ⟨w15, _⟩) (Mono.slice Mono.byte) hw (by repeat (first | exact List.mem_cons_self .. | apply List.mem_cons_of_mem))) (bundleP_ok hx)) (fun v => ?_)
    refine VL.at (fun w18 h1w => ?_)
    obtain ⟨p19, c20, rfl, hO22, hA21⟩ := h1w
    refine VL.toOwn hO22 ?_
    refine VL.assign rfl ?_
    refine VL.nil ?_
    refine VX.next ?_
    refine VC.ret ?_
    refine VX.ret1 rfl rfl (fun we hw => ?_)
    exact ⟨p19, c20, rfl, hw.sub (fun _ hs => by repeat (first | exact hs | apply List.mem_cons_of_mem)), (hA21.now (s := ⟨w18, _⟩) Mono.byte hw (by repeat (first | exact List.mem_cons_self .. | apply List.mem_cons_of_mem)))⟩

theorem refObject_w {S : List Snap} {H : List Chunk} {w : World} (ho : Own S H w) {x : Object} (hx : x.ok) {q : Option Addr} {d : Nat} (hV : Arr 65 vouchR (keys H) w q x.vouches d) : Calls Try.prog 66 #[.agg (cat (objectV x q d)).toArray] w (RetO S H (objectO x)) := by
  have hx1 := hx.server
  have hx2 := hx.n
  have hx3 := hx.since
  have hx4 := hx.till
  refine enter (G := Own (⟨w, keys H⟩ :: S) H) ho.keep Try.func66 rfl Try.ntmps66 rfl ?_
  refine VC.seq ?_
  refine VC.region ?_
  refine VL.box (L := objectL) (ps := (objectV (x) q d)) rfl rfl (objectV_len hx) (fun g1 => ?_)
  refine VL.assign rfl ?_
  refine VL.assign rfl ?_
  refine VL.nil ?_
  refine VX.next ?_
  refine VC.seq ?_
  refine VC.seq ?_
  refine VC.region ?_
  refine VL.fieldAddr rfl fo85_6 rfl ?_
  refine VL.load (v := .slice q (x.vouches).length d) 0 6 rfl kd83 (fun _ h => h) rfl rfl rfl ?_
  refine VL.len Try.underlying83 rfl rfl ?_
  refine VL.gtr rfl rfl ?_
  refine VL.case (fun h1_3 => ?_) (fun h1_3 => ?_)
  · refine VL.nil ?_
    refine VX.next ?_
    refine VC.yes rfl ?_
    refine VC.seq ?_
    refine VC.region ?_
    refine VL.assign rfl ?_
    refine VL.assign rfl ?_
    refine VL.nil ?_
    refine VX.next ?_
    refine VC.ret ?_
    refine VX.then_ret ?_
    refine VX.ret2 rfl rfl rfl (fun we hw => ?_)
    exact postO ((show (none : Option (List UInt8)) = objectO x from (if_neg (by omega)).symm)) ⟨none, 0, rfl, hw.drop.sub (fun _ hs => by repeat (first | exact hs | apply List.mem_cons_of_mem)), Arr.none⟩
  · refine VL.nil ?_
    refine VX.next ?_
    refine VC.no rfl ?_
    refine VC.skip ?_
    refine VX.next ?_
    refine VC.seq ?_
    refine VC.letCells 0 rfl (fun w2 hO4 hF3 => ?_)
    apply VC.anyTA 18 1020 (F := [eqF _, eqF _, capF (be 1 (x.server)) 1, eqF _, eqF _, capF (be 1 (x.n)) 1, eqF _, eqF _, eqF _, eqF _, eqF _, bytesF (be 4 (x.since)), eqF _, eqF _, eqF _, bytesF (be 4 (x.till)), eqF _, eqF _]) [⟨[], [1]⟩, ⟨[(11, 0)], []⟩, ⟨[(12, 1)], []⟩, ⟨[], [1]⟩, ⟨[(14, 3)], []⟩, ⟨[(15, 4)], []⟩, ⟨[], [1]⟩, ⟨[(17, 6)], []⟩, ⟨[], [1]⟩, ⟨[(19, 8)], []⟩, ⟨[(20, 9)], []⟩, ⟨[(21, 10)], []⟩, ⟨[], [1]⟩, ⟨[(23, 12)], []⟩, ⟨[(24, 13)], []⟩, ⟨[(25, 14)], []⟩, ⟨[], [1]⟩, ⟨[(27, 16)], []⟩] [(13, 2), (16, 5), (18, 7), (22, 11), (26, 15), (28, 17)] [0, 1, 2, 3, 4, 5, 6, 7, 8, 9, 10, 29, 30, 31, 32, 33, 34, 35, 36, 37, 38, 39, 40, 41, 42, 43, 44, 45, 46, 47, 48, 49, 50, 51, 52, 53, 54, 55, 56, 57, 58] rfl (by kernel_rfl) (by kernel_rfl) rfl rfl (by kernel_rfl) (by kernel_rfl) (by kernel_rfl) rfl ?obs3 ?end3
    case obs3 =>
      refine Obs.cons ?_ ?_
      · refine obS (by kernel_rfl) rfl rfl (fun ph3 w3 hO3 => ?_)
        refine VL.fieldAddr rfl fo85_0 rfl ?_
        exact VL.finS hO3 rfl rfl
      refine Obs.cons ?_ ?_
      · refine obS (by kernel_rfl) rfl rfl (fun ph3 w3 hO3 => ?_)
        rintro _ rfl
        refine VL.loadF (s := ⟨w2, _⟩) (v := .int .u8 (x.server)) 0 rfl kd5 hF3 (fun _ e => e ▸ Still.ok hO3 (by repeat (first | exact List.mem_cons_self .. | apply List.mem_cons_of_mem))) rfl rfl ?_
        exact VL.finS hO3 rfl rfl
      refine Obs.cons ?_ ?_
      · refine ob (by kernel_rfl) rfl (by kernel_rfl) rfl (fun w3 hO3 => ?_)
        rintro _ rfl
        refine VL.toOwn hO3 ?_
        refine VL.litByte (m := x.server) el24 rfl (by have hm := hx.server; omega) (fun g5 w6 hO7 hA8 => ?_)
        exact VL.finO rfl (fun _ h => h.sub (fun _ hs => by repeat (first | exact hs | apply List.mem_cons_of_mem))) (fun _ h => ⟨_, rfl, (hA8.now (s := ⟨w6, _⟩) Mono.byte h (by repeat (first | exact List.mem_cons_self .. | apply List.mem_cons_of_mem)))⟩)
      refine Obs.cons ?_ ?_
      · refine obS (by kernel_rfl) rfl rfl (fun ph3 w3 hO3 => ?_)
        refine VL.fieldAddr rfl fo85_1 rfl ?_
        exact VL.finS hO3 rfl rfl
      refine Obs.cons ?_ ?_
      · refine obS (by kernel_rfl) rfl rfl (fun ph3 w3 hO3 => ?_)
        rintro _ rfl
        refine VL.loadF (s := ⟨w2, _⟩) (v := .int .u8 (x.n)) 1 rfl kd5 hF3 (fun _ e => e ▸ Still.ok hO3 (by repeat (first | exact List.mem_cons_self .. | apply List.mem_cons_of_mem))) rfl rfl ?_
        exact VL.finS hO3 rfl rfl
      refine Obs.cons ?_ ?_
      · refine ob (by kernel_rfl) rfl (by kernel_rfl) rfl (fun w3 hO3 => ?_)
        rintro _ rfl
        refine VL.toOwn hO3 ?_
        refine VL.litByte (m := x.n) el24 rfl (by have hm := hx.n; omega) (fun g9 w10 hO11 hA12 => ?_)
        exact VL.finO rfl (fun _ h => h.sub (fun _ hs => by repeat (first | exact hs | apply List.mem_cons_of_mem))) (fun _ h => ⟨_, rfl, (hA12.now (s := ⟨w10, _⟩) Mono.byte h (by repeat (first | exact List.mem_cons_self .. | apply List.mem_cons_of_mem)))⟩)
      refine Obs.cons ?_ ?_
      · refine obS (by kernel_rfl) rfl rfl (fun ph3 w3 hO3 => ?_)
        refine VL.fieldAddr rfl fo85_2 rfl ?_
        exact VL.finS hO3 rfl rfl
      refine Obs.cons ?_ ?_
      · refine obS (by kernel_rfl) rfl rfl (fun ph3 w3 hO3 => ?_)
        rintro _ rfl
        refine VL.sliceArrAt Try.underlying44 (by kernel_rfl) rfl ?_
        refine VL.newv (v' := .slice (some ⟨g1, 2, none⟩) (x.key).length 32) (by rw [hx.key]) ?_
        exact VL.finS hO3 rfl rfl
      refine Obs.cons ?_ ?_
      · refine obS (by kernel_rfl) rfl rfl (fun ph3 w3 hO3 => ?_)
        refine VL.fieldAddr rfl fo85_3 rfl ?_
        exact VL.finS hO3 rfl rfl
      refine Obs.cons ?_ ?_
      · refine obS (by kernel_rfl) rfl rfl (fun ph3 w3 hO3 => ?_)
        rintro _ rfl
        refine VL.loadF (s := ⟨w2, _⟩) (v := .int .u32 (x.since)) 3 rfl kd48 hF3 (fun _ e => e ▸ Still.ok hO3 (by repeat (first | exact List.mem_cons_self .. | apply List.mem_cons_of_mem))) rfl rfl ?_
        exact VL.finS hO3 rfl rfl
      refine Obs.cons ?_ ?_
      · refine obS (by kernel_rfl) rfl rfl (fun ph3 w3 hO3 => ?_)
        rintro _ rfl
        refine VL.conv (by rw [Try.underlying48]; rfl) Try.underlying3 rfl (by simp only [InR]; omega) ?_
        exact VL.finS hO3 rfl rfl
      refine Obs.cons ?_ ?_
      · refine ob (by kernel_rfl) rfl (by kernel_rfl) rfl (fun w3 hO3 => ?_)
        rintro _ rfl
        refine VL.toOwn hO3 ?_
        refine VL.call Try.func108 rfl (by decide) rfl (fun w' hw => num_S hw (x.since) 4 (by omega) (by decide) (by decide) (fits4 (by omega))) (fun v => ?_)
        refine VL.at (fun w13 h1w => ?_)
        obtain ⟨p14, c15, rfl, hO17, hA16⟩ := h1w
        refine VL.toOwn hO17 ?_
        exact VL.finO rfl (fun _ h => h.sub (fun _ hs => by repeat (first | exact hs | apply List.mem_cons_of_mem))) (fun _ h => ⟨_, _, rfl, (hA16.now (s := ⟨w13, _⟩) Mono.byte h (by repeat (first | exact List.mem_cons_self .. | apply List.mem_cons_of_mem)))⟩)
      refine Obs.cons ?_ ?_
      · refine obS (by kernel_rfl) rfl rfl (fun ph3 w3 hO3 => ?_)
        refine VL.fieldAddr rfl fo85_4 rfl ?_
        exact VL.finS hO3 rfl rfl
      refine Obs.cons ?_ ?_
      · refine obS (by kernel_rfl) rfl rfl (fun ph3 w3 hO3 => ?_)
        rintro _ rfl
        refine VL.loadF (s := ⟨w2, _⟩) (v := .int .u32 (x.till)) 4 rfl kd48 hF3 (fun _ e => e ▸ Still.ok hO3 (by repeat (first | exact List.mem_cons_self .. | apply List.mem_cons_of_mem))) rfl rfl ?_
        exact VL.finS hO3 rfl rfl
      refine Obs.cons ?_ ?_
      · refine obS (by kernel_rfl) rfl rfl (fun ph3 w3 hO3 => ?_)
        rintro _ rfl
        refine VL.conv (by rw [Try.underlying48]; rfl) Try.underlying3 rfl (by simp only [InR]; omega) ?_
        exact VL.finS hO3 rfl rfl
      refine Obs.cons ?_ ?_
      · refine ob (by kernel_rfl) rfl (by kernel_rfl) rfl (fun w3 hO3 => ?_)
        rintro _ rfl
        refine VL.toOwn hO3 ?_
        refine VL.call Try.func108 rfl (by decide) rfl (fun w' hw => num_S hw (x.till) 4 (by omega) (by decide) (by decide) (fits4 (by omega))) (fun v => ?_)
        refine VL.at (fun w18 h1w => ?_)
        obtain ⟨p19, c20, rfl, hO22, hA21⟩ := h1w
        refine VL.toOwn hO22 ?_
        exact VL.finO rfl (fun _ h => h.sub (fun _ hs => by repeat (first | exact hs | apply List.mem_cons_of_mem))) (fun _ h => ⟨_, _, rfl, (hA21.now (s := ⟨w18, _⟩) Mono.byte h (by repeat (first | exact List.mem_cons_self .. | apply List.mem_cons_of_mem)))⟩)
      refine Obs.cons ?_ ?_
      · refine obS (by kernel_rfl) rfl rfl (fun ph3 w3 hO3 => ?_)
        refine VL.fieldAddr rfl fo85_5 rfl ?_
        exact VL.finS hO3 rfl rfl
      refine Obs.cons ?_ ?_
      · refine obS (by kernel_rfl) rfl rfl (fun ph3 w3 hO3 => ?_)
        rintro _ rfl
        refine VL.sliceArrAt Try.underlying80 (by kernel_rfl) rfl ?_
        refine VL.newv (v' := .slice (some ⟨g1, 36, none⟩) (x.sig).length 64) (by rw [hx.sig]) ?_
        exact VL.finS hO3 rfl rfl
      exact Obs.nil
    case end3 =>
      intro w3 hO3
      rintro _ ⟨p3_2, rfl, hA3_2⟩ _ ⟨p3_5, rfl, hA3_5⟩ _ rfl _ ⟨p3_11, c3_11, rfl, hA3_11⟩ _ ⟨p3_15, c3_15, rfl, hA3_15⟩ _ rfl
      refine VL.toOwn hO3 ?_
      refine VL.litB [be 1 (x.server), be 1 (x.n), x.key, be 4 (x.since), be 4 (x.till), x.sig] el31 rfl rfl rfl (by simp [Value.cells]) (by intro u hu; simp [Value.cells] at hu; rcases hu with rfl | rfl | rfl | rfl | rfl | rfl <;> rfl) rfl (fun _ w' hw => ⟨⟨_, _, rfl, (hA3_2.now (s := ⟨w3, _⟩) Mono.byte hw (by repeat (first | exact List.mem_cons_self .. | apply List.mem_cons_of_mem)))⟩, ⟨⟨_, _, rfl, (hA3_5.now (s := ⟨w3, _⟩) Mono.byte hw (by repeat (first | exact List.mem_cons_self .. | apply List.mem_cons_of_mem)))⟩, ⟨⟨_, _, rfl, ((hF3.bytes 2 2 rfl rfl hx.key rfl).now (s := ⟨w2, _⟩) Mono.byte hw (by repeat (first | exact List.mem_cons_self .. | apply List.mem_cons_of_mem)))⟩, ⟨⟨_, _, rfl, (hA3_11.now (s := ⟨w3, _⟩) Mono.byte hw (by repeat (first | exact List.mem_cons_self .. | apply List.mem_cons_of_mem)))⟩, ⟨⟨_, _, rfl, (hA3_15.now (s := ⟨w3, _⟩) Mono.byte hw (by repeat (first | exact List.mem_cons_self .. | apply List.mem_cons_of_mem)))⟩, ⟨⟨_, _, rfl, ((hF3.bytes 5 36 rfl rfl hx.sig rfl).now (s := ⟨w2, _⟩) Mono.byte hw (by repeat (first | exact List.mem_cons_self .. | apply List.mem_cons_of_mem)))⟩, trivial⟩⟩⟩⟩⟩⟩) (fun v => ?_)
      refine VL.ex fun g23 => VL.fact fun e24 => ?_
      subst e24
      refine VL.assign rfl ?_
      refine VL.nil ?_
      refine VX.next ?_
      refine VC.seq ?_
      refine VC.seq ?_
      refine VC.region ?_
      refine VL.assign rfl ?_
      refine VL.nil ?_
      refine VX.next ?_
      refine VC.block ?_
      refine VC.loop (X := Nat × Option Nat × Nat) (fun (i, gp, c) => [(1, .pointer (some ⟨g1, 0, none⟩)), (4, rowV gp (objectP0 x ++ (x.vouches.take i).map vouchB).length c), (5, .int .i64 (i : Int))]) (fun (i, gp, c) w' => i ≤ x.vouches.length ∧ Own (⟨w2, keys H⟩ :: ⟨w, keys H⟩ :: S) (brow gp c ((objectP0 x ++ (x.vouches.take i).map vouchB)) :: H) w') (fun (i, _) => x.vouches.length - i) (0, (some g23), 6) ⟨rfl, rfl, rfl, trivial⟩ (fun w' h => ⟨Nat.zero_le _, h.sub (fun _ hs => by repeat (first | exact hs | apply List.mem_cons_of_mem))⟩) (fun (i, gp, c) => VC.fact fun hi => ?_)
      · have hpl : (objectP0 x).length = 6 := rfl
        have htk : (List.take i x.vouches).length ≤ i := List.length_take_le _ _
        refine VC.seq ?_
        refine VC.seq ?_
        refine VC.region ?_
        refine VL.move rfl ?_
        refine VL.fieldAddr rfl fo85_6 rfl ?_
        refine VL.loadF (s := ⟨w2, _⟩) (v := .slice q (x.vouches).length d) 6 rfl kd83 hF3 (fun _ h => (h.after (by repeat (first | exact List.mem_cons_self .. | apply List.mem_cons_of_mem))).1) rfl rfl ?_
        refine VL.len Try.underlying83 rfl rfl ?_
        refine VL.lss rfl rfl ?_
        refine VL.case (fun h5 => ?_) (fun h5 => ?_)
        · have hlt : i < x.vouches.length := by omega
          refine VL.nil ?_
          refine VX.next ?_
          refine VC.yes rfl ?_
          refine VC.skip ?_
          refine VX.next ?_
          refine VC.seq ?_
          refine VC.block ?_
          refine VC.seq ?_
          refine VC.region ?_
          refine VL.fieldAddr rfl fo85_6 rfl ?_
          refine VL.loadF (s := ⟨w2, _⟩) (v := .slice q (x.vouches).length d) 6 rfl kd83 hF3 (fun _ h => (h.after (by repeat (first | exact List.mem_cons_self .. | apply List.mem_cons_of_mem))).1) rfl rfl ?_
          refine VL.move rfl ?_
          refine VL.index (xs := x.vouches) rfl rfl Try.underlying83 sz83 hV (by omega) (by have hi := hlt; omega) ?_
          refine VL.fieldAt rfl (by obtain ⟨a, ha⟩ := hV.isAt (by have hi := hlt; omega); rw [ha]; rfl) fo202_0 ?_
          refine VL.elem (s := ⟨w, _⟩) (i) 0 rfl kd5 (fun _ h => h) (by repeat (first | exact List.mem_cons_self .. | apply List.mem_cons_of_mem)) Mono_vouch hV (List.getElem?_eq_getElem hlt) (by simp) (by decide) (fun vs v hl hr hv => ?_)
          obtain ⟨hy25, rfl⟩ := hr
          have ehy25 : v = .int .u8 ((x.vouches[i]'hlt).notary : Nat) := (Option.some.inj (hv.symm.trans rfl))
          subst ehy25
          refine VL.litByte (m := (x.vouches[i]'hlt).notary) el24 rfl (by have hm := (hx.vouches _ (List.getElem_mem hlt)).notary; omega) (fun g26 w27 hO28 hA29 => ?_)
          refine VL.assign rfl ?_
          refine VL.nil ?_
          refine VX.next ?_
          refine VC.region ?_
          refine VL.move rfl ?_
          refine VL.move rfl ?_
          refine VL.fieldAddr rfl fo85_6 rfl ?_
          refine VL.loadF (s := ⟨w2, _⟩) (v := .slice q (x.vouches).length d) 6 rfl kd83 hF3 (fun _ h => (h.after (by repeat (first | exact List.mem_cons_self .. | apply List.mem_cons_of_mem))).1) rfl rfl ?_
          refine VL.move rfl ?_
          refine VL.index (xs := x.vouches) rfl rfl Try.underlying83 sz83 hV (by omega) (by have hi := hlt; omega) ?_
          refine VL.fieldAt rfl (by obtain ⟨a, ha⟩ := hV.isAt (by have hi := hlt; omega); rw [ha]; rfl) fo202_1 ?_
          refine VL.sliceIn (i) 1 ((x.vouches[i]'hlt).sig) Try.underlying80 (by kernel_rfl) rfl hV (List.getElem?_eq_getElem hlt) (by simp) (hx.vouches _ (List.getElem_mem hlt)).sig (by decide) (fun vs hr => vouch_sig hr) (fun q30 hA31 => ?_)
          refine VL.appendFull el24 rfl rfl rfl (by simp only [be_length]; omega) (by have hl := (hx.vouches _ (List.getElem_mem hlt)).sig; omega) (by simp only [be_length]; have hl := (hx.vouches _ (List.getElem_mem hlt)).sig; omega) (by simp only [be_length]; have hl := (hx.vouches _ (List.getElem_mem hlt)).sig; omega) (fun _ hw => (hA29.now (s := ⟨w27, _⟩) Mono.byte hw (by repeat (first | exact List.mem_cons_self .. | apply List.mem_cons_of_mem)))) (fun _ hw => (hA31.now (s := ⟨w, _⟩) Mono.byte hw (by repeat (first | exact List.mem_cons_self .. | apply List.mem_cons_of_mem)))) (fun g32 c36 w33 hO34 hA35 => ?_)
          refine VL.lit el31 rfl rfl rfl (by simp [Value.cells]) (by intro u hu; simp [Value.cells] at hu; rcases hu with rfl <;> rfl) (fun g37 => ?_)
          refine VL.letRowS [(be 1 ((x.vouches[i]'hlt).notary) ++ (x.vouches[i]'hlt).sig)] rfl (fun w' hw => ⟨⟨_, _, rfl, (hA35.now (s := ⟨w33, _⟩) Mono.byte hw (by repeat (first | exact List.mem_cons_self .. | apply List.mem_cons_of_mem)))⟩, trivial⟩) (fun w38 hO39 hA40 => ?_)
          refine VL.appends (R := bytesR) (hR := Mono.slice Mono.byte) (ys := (objectP0 x ++ (x.vouches.take i).map vouchB)) (zs := [(be 1 ((x.vouches[i]'hlt).notary) ++ (x.vouches[i]'hlt).sig)]) 0 el31 rfl rfl rfl (fun _ h => h) rfl (fun _ hw => (hA40.now (s := ⟨w38, _⟩) (Mono.slice Mono.byte) hw (by repeat (first | exact List.mem_cons_self .. | apply List.mem_cons_of_mem)))) bytesR_ok1 (by simp only [List.length_append, List.length_cons, List.length_nil, List.length_map]; omega) (fun g41 c42 => ?_) (by simp only [List.length_append, List.length_cons, List.length_nil, List.length_map]; omega)
          refine VL.turn (G' := Own _ (brow g41 c42 (((objectP0 x ++ (x.vouches.take i).map vouchB) ++ [(be 1 ((x.vouches[i]'hlt).notary) ++ (x.vouches[i]'hlt).sig)])) :: H)) (fun _ h => h) ?_
          refine VL.assign rfl ?_
          refine VL.nil ?_
          refine VX.block_normal ?_
          refine VX.next ?_
          refine VC.region ?_
          refine VL.move rfl ?_
          refine VL.add rfl rfl (by simp only [InR]; omega) ?_
          refine VL.assign rfl ?_
          refine VL.nil ?_
          have el : objectP0 x ++ (x.vouches.take i).map vouchB ++ [be 1 (x.vouches[i]'hlt).notary ++ (x.vouches[i]'hlt).sig] = objectP0 x ++ (x.vouches.take (i + 1)).map vouchB := by rw [← vouch_next hlt, List.append_assoc]
          refine VX.round (i + 1, g41, c42) ⟨rfl, congrArg (fun l : List (List UInt8) => some (rowV g41 l.length c42)) el, rfl, trivial⟩ (fun w' h => ⟨by omega, ?_⟩) (by show x.vouches.length - (i + 1) < x.vouches.length - i; omega)
          rw [← el]
          exact h.sub (fun _ hs => by repeat (first | exact hs | apply List.mem_cons_of_mem))
        · have hie : i = x.vouches.length := by omega
          refine VL.nil ?_
          refine VX.next ?_
          refine VC.no rfl ?_
          refine VC.exit ?_
          refine VX.then_exit ?_
          refine VX.then_exit ?_
          refine VX.block_here ?_
          refine VX.next ?_
          refine VC.seq ?_
          refine VC.letArr (fun wr hOr hAr => ?_)
          refine VC.region ?_
          refine VL.move rfl ?_
          refine VL.call Try.func31 rfl (by decide) rfl (fun w' hw => join_O (ls := (objectP0 x ++ (x.vouches.take i).map vouchB)) hw (hAr.now (s := ⟨wr, _⟩) (Mono.slice Mono.byte) hw (by repeat (first | exact List.mem_cons_self .. | apply List.mem_cons_of_mem)))) (fun v => ?_)
          refine VL.at (fun w43 h1w => ?_)
          obtain ⟨p44, c45, rfl, hO47, hA46⟩ := h1w
          refine VL.toOwn hO47 ?_
          refine VL.extract rfl rfl ?_
          refine VL.extract rfl rfl ?_
          refine VL.assign rfl ?_
          refine VL.assign rfl ?_
          refine VL.nil ?_
          refine VX.next ?_
          refine VC.ret ?_
          refine VX.ret2 rfl rfl rfl (fun we hw => ?_)
          exact postO ((show joinO (objectP0 x ++ (x.vouches.take i).map vouchB) true = objectO x from by rw [hie, List.take_length]; unfold objectO; rw [if_pos (by omega)]; exact joinO_some (objectP_ok hx (by omega)) rfl)) ⟨p44, c45, rfl, hw.sub (fun _ hs => by repeat (first | exact hs | apply List.mem_cons_of_mem)), (hA46.now (s := ⟨w43, _⟩) Mono.byte hw (by repeat (first | exact List.mem_cons_self .. | apply List.mem_cons_of_mem)))⟩

end Go.Proofs.Ytcfecmoagfgnaaa

/- Calls: their bytes; what bytes are read as. -/
namespace Go.Proofs.Ytcfecmoagfgnaaa
open Go.Vc Go.Pl

/-! The error's number. -/
/-- Where the loop over bundles stands. -/
def CInv (c : List (List UInt8)) (bs : List Bundle) (ps : List (List UInt8)) (e : Nat) : Prop :=
  (∀ b ∈ bs, b.ok) ∧ bs.length ≤ 9 ∧ ((e = 0 ∧ ∃ d, c = d ++ ps ∧ d.map bundleR = bs.map some) ∨ (e = 141 ∧ ∃ p ∈ c, bundleR p = none))
theorem CInv.start (c : List (List UInt8)) : CInv c [] c 0 := ⟨by simp, by simp, .inl ⟨rfl, [], rfl, rfl⟩⟩
theorem CInv.step {c : List (List UInt8)} {bs : List Bundle} {p : List UInt8} {r : List (List UInt8)} (h : CInv c bs (p :: r) 0) (h8 : bs.length ≤ 8) : CInv c (bs ++ [(bundleR p).getD bundle0]) r (if (bundleR p).isSome then 0 else 141) := by
  obtain ⟨h1, h2, h3⟩ := h
  refine ⟨fun b hb => ?_, by simp; omega, ?_⟩
  · rcases List.mem_append.1 hb with hb | hb
    · exact h1 b hb
    · rw [List.mem_singleton] at hb; subst hb; exact bundleR_ok p
  · rcases h3 with ⟨_, d, hd, hm⟩ | ⟨h, _⟩
    · cases hp : bundleR p with
      | none => exact .inr ⟨rfl, p, by rw [hd]; simp, hp⟩
      | some b => exact .inl ⟨rfl, d ++ [p], by rw [hd]; simp, by simp [hm, hp]⟩
    · cases h
end Go.Proofs.Ytcfecmoagfgnaaa

/- wire: bytes of calls. -/
namespace Go.Proofs.Ytcfecmoagfgnaaa
open Go.Vc Go.Pl

theorem Own.rot3 {S : List Snap} {a b c : Chunk} {H : List Chunk} {w : World} (h : Own S (a :: b :: c :: H) w) : Own S (b :: c :: a :: H) w := h.perm (((List.Perm.swap a c H).cons b).trans (List.Perm.swap a b (c :: H)))
theorem Own.drop3 {S : List Snap} {a b c : Chunk} {H : List Chunk} {w : World} (h : Own S (a :: b :: c :: H) w) : Own S (a :: b :: H) w := Own.drop (c := c) (h.perm (((List.Perm.swap a c (b :: H)).trans ((List.Perm.swap b c H).cons a))))
end Go.Proofs.Ytcfecmoagfgnaaa

/- wire: lists of items, written. -/
namespace Go.Proofs.Ytcfecmoagfgnaaa
open Go.Vc Go.Pl

def itemsIn (xs : List Itm) : List (List UInt8) := if xs.length ≤ 4 then itemsP xs else []
theorem items_next {xs : List Itm} {i : Nat} (h : i < xs.length) : itemsP (xs.take i) ++ [(itemO (xs[i]'h)).getD []] = itemsP (xs.take (i + 1)) := by
  unfold itemsP; rw [List.take_succ_eq_append_getElem h, List.map_append]; rfl
theorem all_next {xs : List Itm} {i : Nat} (h : i < xs.length) (b : Bool) : ((b || !((xs.take i).all fun x => (itemO x).isSome)) || !(itemO (xs[i]'h)).isSome) = (b || !((xs.take (i + 1)).all fun x => (itemO x).isSome)) := by
  rw [List.take_succ_eq_append_getElem h, List.all_append]
  simp only [List.all_cons, List.all_nil, Bool.and_true]
  cases b <;> cases ((xs.take i).all fun x => (itemO x).isSome) <;> rfl
theorem itemsP_length (xs : List Itm) : (itemsP xs).length = xs.length := by unfold itemsP; rw [List.length_map]

theorem items_w {S : List Snap} {H : List Chunk} {w : World} {g : Nat} {gp : Option Nat} {c0 : Nat} {parts : List (List UInt8)} {bad : Bool} (ho : Own S (wblk g gp c0 parts.length bad :: brow gp c0 parts :: H) w) (hp : parts.length ≤ 90000) {xs : List Itm} (hxs : ∀ x ∈ xs, x.ok) {p : Option Addr} {c : Nat} (hX : Arr 433 itemR' (keys (wblk g gp c0 parts.length bad :: brow gp c0 parts :: H)) w p xs c) : Calls Try.prog 146 #[.pointer (some ⟨g, 0, none⟩), .slice p xs.length c] w (Ret fun v w' => v = .tuple #[] ∧ ∃ gp' c', Own S (wblk g gp' c' (parts ++ itemsIn xs).length (bad || !itemsGood xs) :: brow gp' c' (parts ++ itemsIn xs) :: H) w') := by
  have hsm := hX.small
  refine enter (G := Own (⟨w, keys (wblk g gp c0 parts.length bad :: brow gp c0 parts :: H)⟩ :: S) (wblk g gp c0 parts.length bad :: brow gp c0 parts :: H)) ho.keep Try.func146 rfl Try.ntmps146 rfl ?_
  refine VC.seq ?_
  refine VC.seq ?_
  refine VC.region ?_
  refine VL.move rfl ?_
  refine VL.len Try.underlying126 rfl rfl ?_
  refine VL.gtr rfl rfl ?_
  refine VL.case (fun h0 => ?_) (fun h0 => ?_)
  · have h0 : ¬ xs.length ≤ 4 := by omega
    refine VL.nil ?_
    refine VX.next ?_
    refine VC.yes rfl ?_
    refine VC.seq ?_
    refine VC.region ?_
    refine VL.move rfl ?_
    refine VL.nilCheck rfl ?_
    refine VL.fieldAddr rfl fo181_1 rfl ?_
    refine VL.store (L := [1, 1]) (qs := [[.bool true]]) (ps' := [[rowV gp parts.length c0], [.bool true]]) 0 1 1 rfl rfl rfl (.inr ⟨kd4, rfl⟩) rfl rfl rfl (by intro u hu; simp [cat] at hu; subst hu; rfl) rfl rfl ?_
    refine VL.turn (G' := Own _ (wblk g gp c0 (parts).length true :: brow gp c0 (parts) :: H)) (fun _ h => h) ?_
    refine VL.nil ?_
    refine VX.next ?_
    refine VC.ret ?_
    refine VX.then_ret ?_
    refine VX.ret0 rfl (fun we hw => ?_)
    have e1 : itemsIn xs = [] := if_neg h0
    have e2 : itemsGood xs = false := by unfold itemsGood; rw [decide_eq_false h0, Bool.false_and]
    refine ⟨rfl, gp, c0, ?_⟩
    rw [e1, e2, List.append_nil, Bool.not_false, Bool.or_true]
    exact hw.sub (fun _ hs => by repeat (first | exact hs | apply List.mem_cons_of_mem))
  · have h0 : xs.length ≤ 4 := by omega
    refine VL.nil ?_
    refine VX.next ?_
    refine VC.no rfl ?_
    refine VC.skip ?_
    refine VX.next ?_
    refine VC.seq ?_
    refine VC.region ?_
    refine VL.move rfl ?_
    refine VL.len Try.underlying126 rfl rfl ?_
    refine VL.move rfl ?_
    refine VL.nil ?_
    refine VX.next ?_
    refine VC.block ?_
    refine VC.loop (X := Nat × Option Nat × Nat) (fun (i, gq, cq) => [(0, .pointer (some ⟨g, 0, none⟩)), (12, .slice p xs.length c), (13, .int .i64 xs.length), (14, .int .i64 (i : Int))]) (fun (i, gq, cq) w' => i ≤ xs.length ∧ Own (⟨w, keys (wblk g gp c0 parts.length bad :: brow gp c0 parts :: H)⟩ :: S) (wblk g gq cq ((parts ++ itemsP (xs.take i))).length (bad || !((xs.take i).all fun x => (itemO x).isSome)) :: brow gq cq ((parts ++ itemsP (xs.take i))) :: H) w') (fun (i, _) => xs.length - i) (0, gp, c0) ⟨rfl, rfl, rfl, rfl, trivial⟩ (fun w' h => ⟨Nat.zero_le _, by have e1 : parts ++ itemsP (xs.take 0) = parts := List.append_nil _; have e2 : (bad || !((xs.take 0).all fun x => (itemO x).isSome)) = bad := (by simp); rw [e1, e2]; exact h.sub (fun _ hs => by repeat (first | exact hs | apply List.mem_cons_of_mem))⟩) (fun (i, gq, cq) => VC.fact fun hi => ?_)
    · have htk : (itemsP (List.take i xs)).length ≤ i := by rw [itemsP_length]; exact List.length_take_le _ _
      refine VC.seq ?_
      refine VC.region ?_
      refine VL.lss rfl rfl ?_
      refine VL.case (fun h3 => ?_) (fun h3 => ?_)
      · have hlt : i < xs.length := by omega
        refine VL.nil ?_
        refine VX.next ?_
        refine VC.seq ?_
        refine VC.yes rfl ?_
        refine VC.skip ?_
        refine VX.next ?_
        refine VC.seq ?_
        refine VC.block ?_
        refine VC.seq ?_
        refine VC.region ?_
        refine VL.index (xs := xs) rfl rfl Try.underlying126 sz126 hX (by omega) (by have hi := hlt; omega) ?_
        refine VL.elems (s := ⟨w, _⟩) (m := 433) (i) 0 rfl kd87 (fun _ h => h) (by repeat (first | exact List.mem_cons_self .. | apply List.mem_cons_of_mem)) hX (List.getElem?_eq_getElem hlt) (by simp) (by decide) (fun vs hl hr => ?_)
        obtain ⟨p3, c4, q5, d6, hy2, rfl, hA7, hV8⟩ := hr
        refine VL.newv (v' := .agg (cat (itemV (xs[i]'hlt) p3 c4 q5 d6)).toArray) (by rw [List.drop_zero, List.take_of_length_le (by rw [hl]; decide)]) ?_
        refine VL.alloc (L := itemL) (ps := (itemV (item0) none 0 none 0)) zero87 rfl rfl (fun g9 => ?_)
        refine VL.store (L := itemL) (qs := (itemV ((xs[i]'hlt)) p3 c4 q5 d6)) (ps' := (itemV ((xs[i]'hlt)) p3 c4 q5 d6)) 0 0 28 rfl rfl rfl (.inl kd87) rfl rfl (itemV_len (hxs _ (List.getElem_mem hlt))) (itemV_ok1 ((xs[i]'hlt)) p3 c4 q5 d6) rfl rfl ?_
        refine VL.turn (G' := Own _ (blk g9 87 itemL (itemV ((xs[i]'hlt)) p3 c4 q5 d6) :: wblk g gq cq ((parts ++ itemsP (xs.take i))).length (bad || !((xs.take i).all fun x => (itemO x).isSome)) :: brow gq cq ((parts ++ itemsP (xs.take i))) :: H)) (fun _ h => h) ?_
        refine VL.nil ?_
        refine VX.next ?_
        refine VC.turn (G' := Own _ (wblk g gq cq ((parts ++ itemsP (xs.take i))).length (bad || !((xs.take i).all fun x => (itemO x).isSome)) :: brow gq cq ((parts ++ itemsP (xs.take i))) :: blk g9 87 itemL (itemV ((xs[i]'hlt)) p3 c4 q5 d6) :: H)) (fun w' h => Own.rot3 h) ?_
        refine VC.region ?_
        refine VL.move rfl ?_
        refine VL.loads (cs := cat (itemV ((xs[i]'hlt)) p3 c4 q5 d6)) 2 0 28 rfl kd87 (fun _ h => h) rfl rfl rfl rfl ?_
        refine VL.call Try.func56 rfl (by decide) rfl (fun w' hw => putItem_w hw (x := (xs[i]'hlt)) (hxs _ (List.getElem_mem hlt)) (hA7.now (s := ⟨w, _⟩) Mono.byte hw (by repeat (first | exact List.mem_cons_self .. | apply List.mem_cons_of_mem))) (hV8.now (s := ⟨w, _⟩) Mono_vouch hw (by repeat (first | exact List.mem_cons_self .. | apply List.mem_cons_of_mem)))) (fun v => ?_)
        refine VL.at (fun w10 h1w => ?_)
        obtain ⟨p11, c12, rfl, hO14, hA13⟩ := h1w
        refine VL.toOwn hO14 ?_
        refine VL.extract rfl rfl ?_
        refine VL.extract rfl rfl ?_
        refine VL.call Try.func117 rfl (by decide) rfl (fun w' hw => by have h := piece_w hw (by simp only [List.length_append, List.length_cons, List.length_nil, List.length_map]; omega) (hA13.now (s := ⟨w10, _⟩) Mono.byte hw (by repeat (first | exact List.mem_cons_self .. | apply List.mem_cons_of_mem))) (((itemO ((xs[i]'hlt))).isSome)); exact h) (fun v => ?_)
        refine VL.fact fun e17 => ?_
        subst e17
        refine VL.ex fun gp15 => VL.ex fun c16 => ?_
        refine VL.nil ?_
        refine VX.block_normal ?_
        refine VX.next ?_
        refine VC.region ?_
        refine VL.add rfl rfl (by simp only [InR]; omega) ?_
        refine VL.move rfl ?_
        refine VL.nil ?_
        refine VX.round (i + 1, gp15, c16) ⟨rfl, rfl, rfl, rfl, trivial⟩ (fun w' h => ⟨by omega, ?_⟩) (by show xs.length - (i + 1) < xs.length - i; omega)
        rw [← items_next hlt, ← List.append_assoc, ← all_next hlt]
        exact (Own.drop3 h).sub (fun _ hs => by repeat (first | exact hs | apply List.mem_cons_of_mem))
      · have hie : i = xs.length := by omega
        refine VL.nil ?_
        refine VX.next ?_
        refine VC.seq ?_
        refine VC.no rfl ?_
        refine VC.exit ?_
        refine VX.then_exit ?_
        refine VX.then_exit ?_
        refine VX.block_here ?_
        refine VX.end0 rfl (fun we hw => ?_)
        have e1 : itemsIn xs = itemsP (xs.take i) := by rw [hie, List.take_length]; exact if_pos h0
        have e2 : itemsGood xs = (xs.take i).all fun x => (itemO x).isSome := by unfold itemsGood; rw [decide_eq_true h0, Bool.true_and, hie, List.take_length]
        refine ⟨rfl, gq, cq, ?_⟩
        rw [e1, e2]
        exact hw.sub (fun _ hs => by repeat (first | exact hs | apply List.mem_cons_of_mem))

end Go.Proofs.Ytcfecmoagfgnaaa

/- wire: lists of items, read. -/
namespace Go.Proofs.Ytcfecmoagfgnaaa
open Go.Vc Go.Pl

theorem el126 : Elem Try.prog 126 87 433 512 (.agg (cat (itemV item0 none 0 none 0)).toArray) := ⟨Try.underlying126, by kernel_rfl, by kernel_rfl, by kernel_rfl, by decide⟩
theorem one_item {K : List Nat} {w : World} {v : Itm} (hv : v.ok) {p : Option Addr} {c : Nat} {q : Option Addr} {d : Nat} (hA : Bytes K w p v.letter.body c) (hV : Arr 65 vouchR K w q v.object.vouches d) (j : Nat) (y : Itm) (hj : [v][j]? = some y) : itemR' K w ((([Value.agg (cat (itemV v p c q d)).toArray].flatMap (·.cells.toList)).drop (j * 433)).take 433) y := by
  have hj0 : j = 0 := by have := (List.getElem?_eq_some_iff.1 hj).1; simp at this; exact this
  subst hj0
  simp at hj; subst hj
  refine ⟨p, c, q, d, hv, ?_, hA, hV⟩
  have e : [Value.agg (cat (itemV v p c q d)).toArray].flatMap (·.cells.toList) = cat (itemV v p c q d) := by simp [Value.cells]
  rw [e, Nat.zero_mul, List.drop_zero, List.take_of_length_le (by rw [cat_size (itemV_len hv)]; decide)]
theorem newRowI {S : List Snap} {H : List Chunk} {w : World} (h : Own S H w) : Own S (arow 87 433 itemR' Mono_item none 0 ([] : List Itm) :: H) w := Own.arow_nil Mono_item 87 433 h
theorem itemR'_ok1 : ∀ (K : List Nat) (w : World) (vs : List Value) (y : Itm), itemR' K w vs y → ok1 vs := by
  rintro K w vs y ⟨p, c, q, d, _, rfl, _, _⟩
  exact itemV_ok1 _ _ _ _ _
theorem itemW_err {l : List UInt8} (h : ((itemW l : Nat) : Int) ≠ 0) : (if (itemR l).isSome then 0 else 141) = 141 := by
  cases e : itemR l with
  | none => rfl
  | some x => exact absurd (by unfold itemW; rw [e]; rfl) h
theorem itemW_fine {l : List UInt8} (h : ¬ ((itemW l : Nat) : Int) ≠ 0) : (if (itemR l).isSome then 0 else 141) = 0 := by
  cases e : itemR l with
  | none =>
    refine absurd (fun h2 => ?_) h
    unfold itemW at h2
    rw [e, if_neg (by simp)] at h2
    split at h2 <;> cases h2
  | some x => rfl

theorem getItems_w {S : List Snap} {H : List Chunk} {w : World} {g : Nat} {c0 : List (List UInt8)} {why0 : Nat} (ho : Own S (rch g c0 why0 :: H) w) : Calls Try.prog 148 #[.pointer (some ⟨g, 0, none⟩)] w (Ret fun v w' => ∃ q d xs ps why, v = .slice q xs.length d ∧ IInv c0 why0 xs ps why ∧ (ps = [] ∨ 4 ≤ xs.length ∨ why ≠ 0) ∧ Own S (rch g ps why :: H) w' ∧ Arr 433 itemR' (keys (rch g ps why :: H)) w' q xs d) := by
  refine enter (G := Own (⟨w, keys (rch g c0 why0 :: H)⟩ :: S) (rch g c0 why0 :: H)) ho.keep Try.func148 rfl Try.ntmps148 rfl ?_
  refine VC.seq ?_
  refine VC.region ?_
  refine VL.assign rfl ?_
  refine VL.nil ?_
  refine VX.next ?_
  refine VC.seq ?_
  refine VC.region ?_
  refine VL.assign rfl ?_
  refine VL.nil ?_
  refine VX.next ?_
  refine VC.seq ?_
  refine VC.block ?_
  refine VC.turn (G' := Own _ (arow 87 433 itemR' Mono_item none 0 ([] : List Itm) :: rch g c0 why0 :: H)) (fun w' h => newRowI h) ?_
  refine VC.loop (X := List Itm × List (List UInt8) × Nat × Option Nat × Nat) (fun (xs, _, _, gv, cv) => [(0, .pointer (some ⟨g, 0, none⟩)), (3, rowV gv xs.length cv)]) (fun (xs, ps, er, gv, cv) w' => IInv c0 why0 xs ps er ∧ Own (⟨w, keys (rch g c0 why0 :: H)⟩ :: S) (arow 87 433 itemR' Mono_item gv cv xs :: rch g ps er :: H) w') (fun (_, ps, _) => ps.length) ([], c0, why0, none, 0) ⟨rfl, rfl, trivial⟩ (fun w' h => ⟨IInv.start _ _, h.sub (fun _ hs => by repeat (first | exact hs | apply List.mem_cons_of_mem))⟩) (fun (xs, ps, er, gv, cv) => VC.fact fun hinv => ?_)
  · skip
    refine VC.seq ?_
    refine VC.seq ?_
    refine VC.region ?_
    refine VL.move rfl ?_
    refine VL.nilCheck rfl ?_
    refine VL.fieldAddr rfl fo196_0 rfl ?_
    refine loadParts 1 rfl rfl (fun p1 c2 w3 hO4 hA5 => ?_)
    refine VL.len Try.underlying31 rfl rfl ?_
    refine VL.gtr rfl rfl ?_
    refine VL.case (fun h2_5 => ?_) (fun h2_5 => ?_)
    · obtain ⟨pc, rest, rfl⟩ : ∃ pc rest, ps = pc :: rest := by
        cases ps with
        | nil => exact absurd h2_5 (by simp)
        | cons a b => exact ⟨a, b, rfl⟩
      refine VL.move rfl ?_
      refine VL.go rfl rfl rfl ?_
      refine VL.move rfl ?_
      refine VL.go rfl rfl rfl ?_
      refine VL.len Try.underlying126 rfl rfl ?_
      refine VL.go rfl rfl rfl ?_
      refine VL.lss rfl rfl ?_
      refine VL.case (fun h2_9 => ?_) (fun h2_9 => ?_)
      · have h2_9 : xs.length < 4 := by have h : ((xs.length : Nat) : Int) < 4 := h2_9; omega
        refine VL.pick_t rfl rfl ?_
        refine VL.move rfl ?_
        refine VL.go rfl rfl rfl ?_
        refine VL.move rfl ?_
        refine VL.go rfl rfl rfl ?_
        refine VL.nilCheck rfl ?_
        refine VL.go rfl rfl rfl ?_
        refine VL.fieldAddr rfl fo196_1 rfl ?_
        refine VL.go rfl rfl rfl ?_
        refine loadWhy 1 rfl (fun _ h => h) rfl ?_
        refine VL.go rfl rfl rfl ?_
        refine VL.eql rfl rfl ?_
        refine VL.case (fun h2_16 => ?_) (fun h2_16 => ?_)
        · have her : er = 0 := by omega
          refine VL.pick_t rfl rfl ?_
          refine VL.nil ?_
          refine VX.next ?_
          refine VC.yes rfl ?_
          refine VC.skip ?_
          refine VX.next ?_
          refine VC.block ?_
          refine VC.seq ?_
          refine VC.region ?_
          refine VL.move rfl ?_
          refine VL.call Try.func124 rfl (by decide) rfl (fun w' hw => piece_R (i := 1) rfl hw) (fun v => ?_)
          refine VL.at (fun w6 h1w => ?_)
          obtain ⟨p7, c8, rfl, hO10, hA9⟩ := h1w
          replace hO10 : Own _ (arow 87 433 itemR' Mono_item gv cv xs :: rch g rest er :: H) w6 := hO10
          replace hA9 : Bytes (keys (arow 87 433 itemR' Mono_item gv cv xs :: rch g rest er :: H)) w6 p7 (pc) c8 := hA9
          refine VL.toOwn hO10 ?_
          refine VL.call Try.func58 rfl (by decide) rfl (fun w' hw => getItem_w hw (hA9.now (s := ⟨w6, _⟩) Mono.byte hw (by repeat (first | exact List.mem_cons_self .. | apply List.mem_cons_of_mem)))) (fun v => ?_)
          refine VL.at (fun w11 h1w => ?_)
          obtain ⟨p13, c14, q16, d17, rfl, hO12, hA15, hB18⟩ := h1w
          refine VL.toOwn hO12 ?_
          refine VL.move rfl ?_
          refine VL.extract rfl rfl ?_
          refine VL.extract rfl rfl ?_
          refine VL.alloc (L := itemL) (ps := (itemV (item0) none 0 none 0)) zero87 rfl rfl (fun g19 => ?_)
          refine VL.store (L := itemL) (qs := (itemV (((itemR pc).getD item0)) p13 c14 q16 d17)) (ps' := (itemV (((itemR pc).getD item0)) p13 c14 q16 d17)) 0 0 28 rfl rfl rfl (.inl kd87) rfl rfl (itemV_len (itemR_ok pc)) (itemV_ok1 (((itemR pc).getD item0)) p13 c14 q16 d17) rfl rfl ?_
          refine VL.turn (G' := Own _ (blk g19 87 itemL (itemV (((itemR pc).getD item0)) p13 c14 q16 d17) :: arow 87 433 itemR' Mono_item gv cv xs :: rch g rest er :: H)) (fun _ h => h) ?_
          refine VL.assign rfl ?_
          refine VL.nil ?_
          refine VX.next ?_
          refine VC.seq ?_
          refine VC.seq ?_
          refine VC.region ?_
          refine VL.move rfl ?_
          refine VL.neq rfl rfl ?_
          refine VL.case (fun h4_1 => ?_) (fun h4_1 => ?_)
          · refine VL.nil ?_
            refine VX.next ?_
            refine VC.yes rfl ?_
            refine VC.region ?_
            refine VL.move rfl ?_
            refine VL.call Try.func125 rfl (by decide) rfl (fun w' hw => fail_R (i := 2) rfl hw (141)) (fun v => ?_)
            refine VL.fact fun e20 => ?_
            subst e20
            refine VL.turn (G' := Own _ (blk g19 87 itemL (itemV (((itemR pc).getD item0)) p13 c14 q16 d17) :: arow 87 433 itemR' Mono_item gv cv xs :: rch g rest (failW er (141)) :: H)) (fun _ h => h) ?_
            refine VL.nil ?_
            refine VX.next ?_
            refine VC.region ?_
            refine VL.move rfl ?_
            refine VL.loads (cs := cat (itemV (((itemR pc).getD item0)) p13 c14 q16 d17)) 0 0 28 rfl kd87 (fun _ h => h) rfl rfl rfl rfl ?_
            refine VL.lit el126 rfl rfl rfl (by intro v hv; simp only [List.mem_singleton] at hv; subst hv; show (cat (itemV ((itemR pc).getD item0) p13 c14 q16 d17)).toArray.size = 433; rw [List.size_toArray, cat_size (itemV_len (itemR_ok pc))]; rfl) (by rw [show [Value.agg (cat (itemV ((itemR pc).getD item0) p13 c14 q16 d17)).toArray].flatMap (·.cells.toList) = (cat (itemV ((itemR pc).getD item0) p13 c14 q16 d17)) by simp [Value.cells]]; exact itemV_ok1 _ _ _ _ _) (fun gl => ?_)
            refine VL.letRow itemR' [((itemR pc).getD item0)] rfl (fun w' hw => one_item (itemR_ok pc) (hA15.now (s := ⟨w11, _⟩) Mono.byte hw (by repeat (first | exact List.mem_cons_self .. | apply List.mem_cons_of_mem))) (hB18.now (s := ⟨w11, _⟩) Mono_vouch hw (by repeat (first | exact List.mem_cons_self .. | apply List.mem_cons_of_mem)))) (fun wl hOl hAl => ?_)
            refine VL.appends (R := itemR') (hR := Mono_item) (ys := xs) (zs := [((itemR pc).getD item0)]) 1 el126 rfl rfl rfl (fun _ h => h) rfl (fun _ hw => hAl.now (s := ⟨wl, _⟩) Mono_item hw (by repeat (first | exact List.mem_cons_self .. | apply List.mem_cons_of_mem))) itemR'_ok1 (by simp only [List.length_cons, List.length_nil]; omega) (fun gv2 cv2 => ?_) (by simp only [List.length_cons, List.length_nil]; omega)
            refine VL.turn (G' := Own _ (blk g19 87 itemL (itemV (((itemR pc).getD item0)) p13 c14 q16 d17) :: arow 87 433 itemR' Mono_item gv2 cv2 (xs ++ [((itemR pc).getD item0)]) :: rch g rest (failW er (141)) :: H)) (fun _ h => h) ?_
            refine VL.assign rfl ?_
            refine VL.nil ?_
            refine VX.block_normal ?_
            subst her
            obtain rfl : why0 = 0 := by
              rcases hinv.2.2 with ⟨e, _⟩ | ⟨e, _⟩
              · exact e.symm
              · cases e
            have ee : (if (itemR pc).isSome then 0 else 141) = 141 := itemW_err h4_1
            have hst := hinv.step h2_9
            rw [ee] at hst
            refine VX.round (xs ++ [(itemR pc).getD item0], rest, 141, gv2, cv2) ⟨rfl, rfl, trivial⟩ (fun w' h => ⟨hst, (h.drop).sub (fun _ hs => by repeat (first | exact hs | apply List.mem_cons_of_mem))⟩) (by show rest.length < (pc :: rest).length; simp)
          · refine VL.nil ?_
            refine VX.next ?_
            refine VC.no rfl ?_
            refine VC.skip ?_
            refine VX.next ?_
            refine VC.region ?_
            refine VL.move rfl ?_
            refine VL.loads (cs := cat (itemV (((itemR pc).getD item0)) p13 c14 q16 d17)) 0 0 28 rfl kd87 (fun _ h => h) rfl rfl rfl rfl ?_
            refine VL.lit el126 rfl rfl rfl (by intro v hv; simp only [List.mem_singleton] at hv; subst hv; show (cat (itemV ((itemR pc).getD item0) p13 c14 q16 d17)).toArray.size = 433; rw [List.size_toArray, cat_size (itemV_len (itemR_ok pc))]; rfl) (by rw [show [Value.agg (cat (itemV ((itemR pc).getD item0) p13 c14 q16 d17)).toArray].flatMap (·.cells.toList) = (cat (itemV ((itemR pc).getD item0) p13 c14 q16 d17)) by simp [Value.cells]]; exact itemV_ok1 _ _ _ _ _) (fun gl => ?_)
            refine VL.letRow itemR' [((itemR pc).getD item0)] rfl (fun w' hw => one_item (itemR_ok pc) (hA15.now (s := ⟨w11, _⟩) Mono.byte hw (by repeat (first | exact List.mem_cons_self .. | apply List.mem_cons_of_mem))) (hB18.now (s := ⟨w11, _⟩) Mono_vouch hw (by repeat (first | exact List.mem_cons_self .. | apply List.mem_cons_of_mem)))) (fun wl hOl hAl => ?_)
            refine VL.appends (R := itemR') (hR := Mono_item) (ys := xs) (zs := [((itemR pc).getD item0)]) 1 el126 rfl rfl rfl (fun _ h => h) rfl (fun _ hw => hAl.now (s := ⟨wl, _⟩) Mono_item hw (by repeat (first | exact List.mem_cons_self .. | apply List.mem_cons_of_mem))) itemR'_ok1 (by simp only [List.length_cons, List.length_nil]; omega) (fun gv2 cv2 => ?_) (by simp only [List.length_cons, List.length_nil]; omega)
            refine VL.turn (G' := Own _ (blk g19 87 itemL (itemV (((itemR pc).getD item0)) p13 c14 q16 d17) :: arow 87 433 itemR' Mono_item gv2 cv2 (xs ++ [((itemR pc).getD item0)]) :: rch g rest er :: H)) (fun _ h => h) ?_
            refine VL.assign rfl ?_
            refine VL.nil ?_
            refine VX.block_normal ?_
            subst her
            obtain rfl : why0 = 0 := by
              rcases hinv.2.2 with ⟨e, _⟩ | ⟨e, _⟩
              · exact e.symm
              · cases e
            have ee : (if (itemR pc).isSome then 0 else 141) = 0 := itemW_fine h4_1
            have hst := hinv.step h2_9
            rw [ee] at hst
            refine VX.round (xs ++ [(itemR pc).getD item0], rest, 0, gv2, cv2) ⟨rfl, rfl, trivial⟩ (fun w' h => ⟨hst, (h.drop).sub (fun _ hs => by repeat (first | exact hs | apply List.mem_cons_of_mem))⟩) (by show rest.length < (pc :: rest).length; simp)
        · have h2_16 : er ≠ 0 := by omega
          refine VL.pick_t rfl rfl ?_
          refine VL.nil ?_
          refine VX.next ?_
          refine VC.no rfl ?_
          refine VC.exit ?_
          refine VX.then_exit ?_
          refine VX.then_exit ?_
          refine VX.block_here ?_
          refine VX.next ?_
          refine VC.seq ?_
          refine VC.letArr (fun wr hOr hAr => ?_)
          refine VC.region ?_
          refine VL.move rfl ?_
          refine VL.assign rfl ?_
          refine VL.nil ?_
          refine VX.next ?_
          refine VC.ret ?_
          refine VX.ret1 rfl rfl (fun we hw => ?_)
          exact ⟨_, _, xs, (pc :: rest), er, rfl, hinv, (.inr (.inr h2_16)), hw.sub (fun _ hs => by repeat (first | exact hs | apply List.mem_cons_of_mem)), (hAr.now (s := ⟨wr, _⟩) Mono_item hw (by repeat (first | exact List.mem_cons_self .. | apply List.mem_cons_of_mem)))⟩
      · have h2_9 : 4 ≤ xs.length := by have h : ¬ ((xs.length : Nat) : Int) < 4 := h2_9; omega
        refine VL.pick_t rfl rfl ?_
        refine VL.move rfl ?_
        refine VL.pass rfl rfl rfl rfl rfl ?_
        refine VL.pass rfl rfl rfl rfl rfl ?_
        refine VL.pass rfl rfl rfl rfl rfl ?_
        refine VL.pass rfl rfl rfl rfl rfl ?_
        refine VL.pass rfl rfl rfl rfl rfl ?_
        refine VL.pick_f rfl rfl ?_
        refine VL.nil ?_
        refine VX.next ?_
        refine VC.no rfl ?_
        refine VC.exit ?_
        refine VX.then_exit ?_
        refine VX.then_exit ?_
        refine VX.block_here ?_
        refine VX.next ?_
        refine VC.seq ?_
        refine VC.letArr (fun wr hOr hAr => ?_)
        refine VC.region ?_
        refine VL.move rfl ?_
        refine VL.assign rfl ?_
        refine VL.nil ?_
        refine VX.next ?_
        refine VC.ret ?_
        refine VX.ret1 rfl rfl (fun we hw => ?_)
        exact ⟨_, _, xs, (pc :: rest), er, rfl, hinv, (.inr (.inl h2_9)), hw.sub (fun _ hs => by repeat (first | exact hs | apply List.mem_cons_of_mem)), (hAr.now (s := ⟨wr, _⟩) Mono_item hw (by repeat (first | exact List.mem_cons_self .. | apply List.mem_cons_of_mem)))⟩
    · obtain rfl : ps = [] := List.eq_nil_of_length_eq_zero (by omega)
      refine VL.move rfl ?_
      refine VL.pass rfl rfl rfl rfl rfl ?_
      refine VL.pass rfl rfl rfl rfl rfl ?_
      refine VL.pass rfl rfl rfl rfl rfl ?_
      refine VL.pick_f rfl rfl ?_
      refine VL.move rfl ?_
      refine VL.pass rfl rfl rfl rfl rfl ?_
      refine VL.pass rfl rfl rfl rfl rfl ?_
      refine VL.pass rfl rfl rfl rfl rfl ?_
      refine VL.pass rfl rfl rfl rfl rfl ?_
      refine VL.pass rfl rfl rfl rfl rfl ?_
      refine VL.pick_f rfl rfl ?_
      refine VL.nil ?_
      refine VX.next ?_
      refine VC.no rfl ?_
      refine VC.exit ?_
      refine VX.then_exit ?_
      refine VX.then_exit ?_
      refine VX.block_here ?_
      refine VX.next ?_
      refine VC.seq ?_
      refine VC.letArr (fun wr hOr hAr => ?_)
      refine VC.region ?_
      refine VL.move rfl ?_
      refine VL.assign rfl ?_
      refine VL.nil ?_
      refine VX.next ?_
      refine VC.ret ?_
      refine VX.ret1 rfl rfl (fun we hw => ?_)
      exact ⟨_, _, xs, [], er, rfl, hinv, (.inl rfl), hw.sub (fun _ hs => by repeat (first | exact hs | apply List.mem_cons_of_mem)), (hAr.now (s := ⟨wr, _⟩) Mono_item hw (by repeat (first | exact List.mem_cons_self .. | apply List.mem_cons_of_mem)))⟩

end Go.Proofs.Ytcfecmoagfgnaaa

/- Replies as cells. -/
namespace Go.Proofs.Ytcfecmoagfgnaaa
open Go.Vc Go.Pl

abbrev repV (x : Rep) (q : Option Addr) (d : Nat) : List (List Value) := [[.int .u16 x.seq], [.int .u8 x.tag], [.int .u16 x.mark], [.slice q x.items.length d]]
abbrev repL : List Nat := [1, 1, 1, 1]
theorem zero128 : (Try.prog.info? 128).bind (·.zero) = some (.agg (cat (repV rep0 none 0)).toArray) := by kernel_rfl
theorem built128 : Try.prog.built 128 [] = some (cat (repV rep0 none 0)).toArray := by kernel_rfl
abbrev repZ : List (List Value) := [[.int .u16 0], [.int .u8 0], [.int .u16 0], [.slice none 0 0]]
abbrev repFL : List Nat := [1, 1, 1, 1]
theorem plan128 : planOf Try.prog 128 = some (placesL 0 repFL, (cat repZ).toArray) := by kernel_rfl
theorem repV_len {x : Rep} (h : x.ok) {q : Option Addr} {d : Nat} : (repV x q d).map List.length = repL := by simp []
theorem repV_ok1 (x : Rep) (q : Option Addr) (d : Nat) : ok1 (cat (repV x q d)) := by
  intro u hu
  rw [cat_eq] at hu
  simp only [List.mem_flatten, List.mem_cons, List.not_mem_nil, or_false] at hu
  obtain ⟨l, hl, hu⟩ := hu
  rcases hl with rfl | rfl | rfl | rfl <;> first | (simp only [List.mem_singleton] at hu; subst hu; rfl) | exact ok1_bytes _ u hu
abbrev trnV (x : Trn) (q : Option Addr) (d : Nat) : List (List Value) := [[.int .u16 x.seq], [.slice q x.items.length d]]
abbrev trnL : List Nat := [1, 1]
theorem zero132 : (Try.prog.info? 132).bind (·.zero) = some (.agg (cat (trnV trn0 none 0)).toArray) := by kernel_rfl
theorem built132 : Try.prog.built 132 [] = some (cat (trnV trn0 none 0)).toArray := by kernel_rfl
abbrev trnZ : List (List Value) := [[.int .u16 0], [.slice none 0 0]]
abbrev trnFL : List Nat := [1, 1]
theorem plan132 : planOf Try.prog 132 = some (placesL 0 trnFL, (cat trnZ).toArray) := by kernel_rfl
theorem trnV_len {x : Trn} (h : x.ok) {q : Option Addr} {d : Nat} : (trnV x q d).map List.length = trnL := by simp []
theorem trnV_ok1 (x : Trn) (q : Option Addr) (d : Nat) : ok1 (cat (trnV x q d)) := by
  intro u hu
  rw [cat_eq] at hu
  simp only [List.mem_flatten, List.mem_cons, List.not_mem_nil, or_false] at hu
  obtain ⟨l, hl, hu⟩ := hu
  rcases hl with rfl | rfl <;> first | (simp only [List.mem_singleton] at hu; subst hu; rfl) | exact ok1_bytes _ u hu
end Go.Proofs.Ytcfecmoagfgnaaa

/- The law on items. -/
namespace Go.Proofs.Ytcfecmoagfgnaaa
open Go.Vc Go.Pl

theorem keep1 {x : Itm} : Itm.mk x.kind 0 0 x.letter bundle0 object0 = x ↔ bareP (itemA x) := by
  obtain ⟨k, a, p, l, b, o⟩ := x
  constructor
  · intro h; rw [Itm.mk.injEq] at h; obtain ⟨_, h1, h2, h3, h4, h5⟩ := h; exact ⟨h1.symm, h2.symm, rfl, h4.symm, h5.symm⟩
  · rintro ⟨h1, h2, h3, h4, h5⟩; simp only at h1 h2 h4 h5; subst h1 h2 h4 h5; rfl
theorem keep2 {x : Itm} : Itm.mk x.kind x.asker x.peer letter0 bundle0 object0 = x ↔ bareP (itemB x) := by
  obtain ⟨k, a, p, l, b, o⟩ := x
  constructor
  · intro h; rw [Itm.mk.injEq] at h; obtain ⟨_, h1, h2, h3, h4, h5⟩ := h; exact ⟨rfl, rfl, h3.symm, h4.symm, h5.symm⟩
  · rintro ⟨h1, h2, h3, h4, h5⟩; simp only at h3 h4 h5; subst h3 h4 h5; rfl
theorem keep3 {x : Itm} : Itm.mk x.kind x.asker 0 letter0 x.bundle object0 = x ↔ bareP (itemC x) := by
  obtain ⟨k, a, p, l, b, o⟩ := x
  constructor
  · intro h; rw [Itm.mk.injEq] at h; obtain ⟨_, h1, h2, h3, h4, h5⟩ := h; exact ⟨rfl, h2.symm, h3.symm, rfl, h5.symm⟩
  · rintro ⟨h1, h2, h3, h4, h5⟩; simp only at h2 h3 h5; subst h2 h3 h5; rfl
theorem keep5 {x : Itm} : Itm.mk x.kind 0 0 letter0 bundle0 x.object = x ↔ bareP (itemD x) := by
  obtain ⟨k, a, p, l, b, o⟩ := x
  constructor
  · intro h; rw [Itm.mk.injEq] at h; obtain ⟨_, h1, h2, h3, h4, h5⟩ := h; exact ⟨h1.symm, h2.symm, h3.symm, h4.symm, rfl⟩
  · rintro ⟨h1, h2, h3, h4, h5⟩; simp only at h1 h2 h3 h4; subst h1 h2 h3 h4; rfl
theorem item1_f {x : Itm} (h : x.kind = 1) (hs : (letterO x.letter).isSome = false) : none = itemO x := by
  unfold itemO itemGood
  rw [if_pos h, hs, Bool.false_and]
  exact none_joinO _
theorem item5_f {x : Itm} (h : x.kind = 5 ∨ x.kind = 6) (hs : (objectO x.object).isSome = false) : none = itemO x := by
  unfold itemO itemGood
  rw [if_neg (by omega), if_neg (by omega), if_neg (by omega), if_pos h, hs, Bool.false_and]
  exact none_joinO _
theorem sameItems_g {S : List Snap} {H : List Chunk} {w : World} (ho : Own S H w) {x : Itm} (hx : x.ok) {p : Option Addr} {c : Nat} (hA : Bytes (keys H) w p x.letter.body c) {q : Option Addr} {d : Nat} (hV : Arr 65 vouchR (keys H) w q x.object.vouches d) {y : Itm} (hy : y.ok) {p2 : Option Addr} {c2 : Nat} (hB : Bytes (keys H) w p2 y.letter.body c2) {q2 : Option Addr} {d2 : Nat} (hU : Arr 65 vouchR (keys H) w q2 y.object.vouches d2) : Calls Try.prog 59 #[.agg (cat (itemV x p c q d)).toArray, .agg (cat (itemV y p2 c2 q2 d2)).toArray] w (Ret fun v w' => ∃ b : Bool, v = .bool b ∧ (b = true ↔ y = x) ∧ Own S H w') := by
  refine enter (G := Own (⟨w, keys H⟩ :: S) H) ho.keep Try.func59 rfl Try.ntmps59 rfl ?_
  refine VC.seq ?_
  refine VC.region ?_
  refine VL.box (L := itemL) (ps := (itemV (x) p c q d)) rfl rfl (itemV_len hx) (fun g1 => ?_)
  refine VL.box (L := itemL) (ps := (itemV (y) p2 c2 q2 d2)) rfl rfl (itemV_len hy) (fun g2 => ?_)
  refine VL.assign rfl ?_
  refine VL.nil ?_
  refine VX.next ?_
  refine VC.seq ?_
  refine VC.region ?_
  refine VL.fieldAddr rfl fo87_0 rfl ?_
  refine VL.load (v := .int .u8 (x.kind)) 1 0 rfl kd5 (fun _ h => h) rfl rfl rfl ?_
  refine VL.fieldAddr rfl fo87_0 rfl ?_
  refine VL.load (v := .int .u8 (y.kind)) 0 0 rfl kd5 (fun _ h => h) rfl rfl rfl ?_
  refine VL.eql rfl rfl ?_
  refine VL.case (fun h1_4 => ?_) (fun h1_4 => ?_)
  · have h1_4 : x.kind = y.kind := by omega
    refine VL.move rfl ?_
    refine VL.go rfl rfl rfl ?_
    refine VL.fieldAddr rfl fo87_1 rfl ?_
    refine VL.go rfl rfl rfl ?_
    refine VL.load (v := .int .u8 (x.asker)) 1 1 rfl kd5 (fun _ h => h) rfl rfl rfl ?_
    refine VL.go rfl rfl rfl ?_
    refine VL.fieldAddr rfl fo87_1 rfl ?_
    refine VL.go rfl rfl rfl ?_
    refine VL.load (v := .int .u8 (y.asker)) 0 1 rfl kd5 (fun _ h => h) rfl rfl rfl ?_
    refine VL.go rfl rfl rfl ?_
    refine VL.eql rfl rfl ?_
    refine VL.case (fun h1_10 => ?_) (fun h1_10 => ?_)
    · have h1_10 : x.asker = y.asker := by omega
      refine VL.pick_t rfl rfl ?_
      refine VL.move rfl ?_
      refine VL.go rfl rfl rfl ?_
      refine VL.fieldAddr rfl fo87_2 rfl ?_
      refine VL.go rfl rfl rfl ?_
      refine VL.load (v := .int .u8 (x.peer)) 1 2 rfl kd5 (fun _ h => h) rfl rfl rfl ?_
      refine VL.go rfl rfl rfl ?_
      refine VL.fieldAddr rfl fo87_2 rfl ?_
      refine VL.go rfl rfl rfl ?_
      refine VL.load (v := .int .u8 (y.peer)) 0 2 rfl kd5 (fun _ h => h) rfl rfl rfl ?_
      refine VL.go rfl rfl rfl ?_
      refine VL.eql rfl rfl ?_
      refine VL.case (fun h1_17 => ?_) (fun h1_17 => ?_)
      · have h1_17 : x.peer = y.peer := by omega
        refine VL.pick_t rfl rfl ?_
        refine VL.move rfl ?_
        refine VL.go rfl rfl rfl ?_
        refine VL.fieldAddr rfl fo87_3 rfl ?_
        refine VL.go rfl rfl rfl ?_
        refine VL.loads (cs := cat (letterV (x.letter) p c)) 1 3 12 rfl kd72 (fun _ h => h) rfl rfl rfl rfl ?_
        refine VL.go rfl rfl rfl ?_
        refine VL.fieldAddr rfl fo87_3 rfl ?_
        refine VL.go rfl rfl rfl ?_
        refine VL.loads (cs := cat (letterV (y.letter) p2 c2)) 0 3 12 rfl kd72 (fun _ h => h) rfl rfl rfl rfl ?_
        refine VL.go rfl rfl rfl ?_
        refine VL.call Try.func55 rfl (by decide) rfl (fun w' hw => sameLetters_g hw hx.letter (hA.now (s := ⟨w, _⟩) Mono.byte hw (by repeat (first | exact List.mem_cons_self .. | apply List.mem_cons_of_mem))) hy.letter (hB.now (s := ⟨w, _⟩) Mono.byte hw (by repeat (first | exact List.mem_cons_self .. | apply List.mem_cons_of_mem)))) (fun v => ?_)
        refine VL.ex fun b => VL.fact fun e => VL.fact fun h1_24 => ?_
        subst e
        cases b
        · have h1_24 := mt h1_24.2 (by decide)
          refine VL.pick_t rfl rfl ?_
          refine VL.move rfl ?_
          refine VL.pass rfl rfl rfl rfl rfl ?_
          refine VL.pass rfl rfl rfl rfl rfl ?_
          refine VL.pass rfl rfl rfl rfl rfl ?_
          refine VL.pass rfl rfl rfl rfl rfl ?_
          refine VL.pass rfl rfl rfl rfl rfl ?_
          refine VL.pick_f rfl rfl ?_
          refine VL.move rfl ?_
          refine VL.pass rfl rfl rfl rfl rfl ?_
          refine VL.pass rfl rfl rfl rfl rfl ?_
          refine VL.pass rfl rfl rfl rfl rfl ?_
          refine VL.pass rfl rfl rfl rfl rfl ?_
          refine VL.pass rfl rfl rfl rfl rfl ?_
          refine VL.pick_f rfl rfl ?_
          refine VL.assign rfl ?_
          refine VL.nil ?_
          refine VX.next ?_
          refine VC.ret ?_
          refine VX.ret1 rfl rfl (fun we hw => ?_)
          refine ⟨false, rfl, ?_, hw.drop.drop.sub (fun _ hs => by repeat (first | exact hs | apply List.mem_cons_of_mem))⟩
          rw [item_iff]
          simp [h1_4, h1_10, h1_17, h1_24]
        · have h1_24 := h1_24.1 rfl
          refine VL.pick_t rfl rfl ?_
          refine VL.move rfl ?_
          refine VL.go rfl rfl rfl ?_
          refine VL.fieldAddr rfl fo87_4 rfl ?_
          refine VL.go rfl rfl rfl ?_
          refine VL.loads (cs := cat (bundleV (x.bundle))) 1 15 6 rfl kd82 (fun _ h => h) rfl rfl rfl rfl ?_
          refine VL.go rfl rfl rfl ?_
          refine VL.fieldAddr rfl fo87_4 rfl ?_
          refine VL.go rfl rfl rfl ?_
          refine VL.loads (cs := cat (bundleV (y.bundle))) 0 15 6 rfl kd82 (fun _ h => h) rfl rfl rfl rfl ?_
          refine VL.go rfl rfl rfl ?_
          refine VL.eqT guard82 rfl rfl (eqBundle hx.bundle hy.bundle) (fun b h1_31 => ?_)
          cases b
          · have h1_31 := mt h1_31.2 (by decide)
            refine VL.pick_t rfl rfl ?_
            refine VL.move rfl ?_
            refine VL.pass rfl rfl rfl rfl rfl ?_
            refine VL.pass rfl rfl rfl rfl rfl ?_
            refine VL.pass rfl rfl rfl rfl rfl ?_
            refine VL.pass rfl rfl rfl rfl rfl ?_
            refine VL.pass rfl rfl rfl rfl rfl ?_
            refine VL.pick_f rfl rfl ?_
            refine VL.assign rfl ?_
            refine VL.nil ?_
            refine VX.next ?_
            refine VC.ret ?_
            refine VX.ret1 rfl rfl (fun we hw => ?_)
            refine ⟨false, rfl, ?_, hw.drop.drop.sub (fun _ hs => by repeat (first | exact hs | apply List.mem_cons_of_mem))⟩
            rw [item_iff]
            simp [h1_4, h1_10, h1_17, h1_24, h1_31]
          · have h1_31 := h1_31.1 rfl
            refine VL.pick_t rfl rfl ?_
            refine VL.move rfl ?_
            refine VL.go rfl rfl rfl ?_
            refine VL.fieldAddr rfl fo87_5 rfl ?_
            refine VL.go rfl rfl rfl ?_
            refine VL.loads (cs := cat (objectV (x.object) q d)) 1 21 7 rfl kd85 (fun _ h => h) rfl rfl rfl rfl ?_
            refine VL.go rfl rfl rfl ?_
            refine VL.fieldAddr rfl fo87_5 rfl ?_
            refine VL.go rfl rfl rfl ?_
            refine VL.loads (cs := cat (objectV (y.object) q2 d2)) 0 21 7 rfl kd85 (fun _ h => h) rfl rfl rfl rfl ?_
            refine VL.go rfl rfl rfl ?_
            refine VL.call Try.func72 rfl (by decide) rfl (fun w' hw => sameObjects_g hw hx.object (hV.now (s := ⟨w, _⟩) Mono_vouch hw (by repeat (first | exact List.mem_cons_self .. | apply List.mem_cons_of_mem))) hy.object (hU.now (s := ⟨w, _⟩) Mono_vouch hw (by repeat (first | exact List.mem_cons_self .. | apply List.mem_cons_of_mem)))) (fun v => ?_)
            refine VL.ex fun b => VL.fact fun e => VL.fact fun h1_38 => ?_
            subst e
            cases b
            · have h1_38 := mt h1_38.2 (by decide)
              refine VL.pick_t rfl rfl ?_
              refine VL.assign rfl ?_
              refine VL.nil ?_
              refine VX.next ?_
              refine VC.ret ?_
              refine VX.ret1 rfl rfl (fun we hw => ?_)
              refine ⟨false, rfl, ?_, hw.drop.drop.sub (fun _ hs => by repeat (first | exact hs | apply List.mem_cons_of_mem))⟩
              rw [item_iff]
              simp [h1_4, h1_10, h1_17, h1_24, h1_31, h1_38]
            · have h1_38 := h1_38.1 rfl
              refine VL.pick_t rfl rfl ?_
              refine VL.assign rfl ?_
              refine VL.nil ?_
              refine VX.next ?_
              refine VC.ret ?_
              refine VX.ret1 rfl rfl (fun we hw => ?_)
              refine ⟨true, rfl, ?_, hw.drop.drop.sub (fun _ hs => by repeat (first | exact hs | apply List.mem_cons_of_mem))⟩
              rw [item_iff]
              simp [h1_4, h1_10, h1_17, h1_24, h1_31, h1_38]
      · have h1_17 : ¬ x.peer = y.peer := by omega
        refine VL.pick_t rfl rfl ?_
        refine VL.move rfl ?_
        refine VL.pass rfl rfl rfl rfl rfl ?_
        refine VL.pass rfl rfl rfl rfl rfl ?_
        refine VL.pass rfl rfl rfl rfl rfl ?_
        refine VL.pass rfl rfl rfl rfl rfl ?_
        refine VL.pass rfl rfl rfl rfl rfl ?_
        refine VL.pick_f rfl rfl ?_
        refine VL.move rfl ?_
        refine VL.pass rfl rfl rfl rfl rfl ?_
        refine VL.pass rfl rfl rfl rfl rfl ?_
        refine VL.pass rfl rfl rfl rfl rfl ?_
        refine VL.pass rfl rfl rfl rfl rfl ?_
        refine VL.pass rfl rfl rfl rfl rfl ?_
        refine VL.pick_f rfl rfl ?_
        refine VL.move rfl ?_
        refine VL.pass rfl rfl rfl rfl rfl ?_
        refine VL.pass rfl rfl rfl rfl rfl ?_
        refine VL.pass rfl rfl rfl rfl rfl ?_
        refine VL.pass rfl rfl rfl rfl rfl ?_
        refine VL.pass rfl rfl rfl rfl rfl ?_
        refine VL.pick_f rfl rfl ?_
        refine VL.assign rfl ?_
        refine VL.nil ?_
        refine VX.next ?_
        refine VC.ret ?_
        refine VX.ret1 rfl rfl (fun we hw => ?_)
        refine ⟨false, rfl, ?_, hw.drop.drop.sub (fun _ hs => by repeat (first | exact hs | apply List.mem_cons_of_mem))⟩
        rw [item_iff]
        simp [h1_4, h1_10, h1_17]
    · have h1_10 : ¬ x.asker = y.asker := by omega
      refine VL.pick_t rfl rfl ?_
      refine VL.move rfl ?_
      refine VL.pass rfl rfl rfl rfl rfl ?_
      refine VL.pass rfl rfl rfl rfl rfl ?_
      refine VL.pass rfl rfl rfl rfl rfl ?_
      refine VL.pass rfl rfl rfl rfl rfl ?_
      refine VL.pass rfl rfl rfl rfl rfl ?_
      refine VL.pick_f rfl rfl ?_
      refine VL.move rfl ?_
      refine VL.pass rfl rfl rfl rfl rfl ?_
      refine VL.pass rfl rfl rfl rfl rfl ?_
      refine VL.pass rfl rfl rfl rfl rfl ?_
      refine VL.pass rfl rfl rfl rfl rfl ?_
      refine VL.pass rfl rfl rfl rfl rfl ?_
      refine VL.pick_f rfl rfl ?_
      refine VL.move rfl ?_
      refine VL.pass rfl rfl rfl rfl rfl ?_
      refine VL.pass rfl rfl rfl rfl rfl ?_
      refine VL.pass rfl rfl rfl rfl rfl ?_
      refine VL.pass rfl rfl rfl rfl rfl ?_
      refine VL.pass rfl rfl rfl rfl rfl ?_
      refine VL.pick_f rfl rfl ?_
      refine VL.move rfl ?_
      refine VL.pass rfl rfl rfl rfl rfl ?_
      refine VL.pass rfl rfl rfl rfl rfl ?_
      refine VL.pass rfl rfl rfl rfl rfl ?_
      refine VL.pass rfl rfl rfl rfl rfl ?_
      refine VL.pass rfl rfl rfl rfl rfl ?_
      refine VL.pick_f rfl rfl ?_
      refine VL.assign rfl ?_
      refine VL.nil ?_
      refine VX.next ?_
      refine VC.ret ?_
      refine VX.ret1 rfl rfl (fun we hw => ?_)
      refine ⟨false, rfl, ?_, hw.drop.drop.sub (fun _ hs => by repeat (first | exact hs | apply List.mem_cons_of_mem))⟩
      rw [item_iff]
      simp [h1_4, h1_10]
  · have h1_4 : ¬ x.kind = y.kind := by omega
    refine VL.move rfl ?_
    refine VL.pass rfl rfl rfl rfl rfl ?_
    refine VL.pass rfl rfl rfl rfl rfl ?_
    refine VL.pass rfl rfl rfl rfl rfl ?_
    refine VL.pass rfl rfl rfl rfl rfl ?_
    refine VL.pass rfl rfl rfl rfl rfl ?_
    refine VL.pick_f rfl rfl ?_
    refine VL.move rfl ?_
    refine VL.pass rfl rfl rfl rfl rfl ?_
    refine VL.pass rfl rfl rfl rfl rfl ?_
    refine VL.pass rfl rfl rfl rfl rfl ?_
    refine VL.pass rfl rfl rfl rfl rfl ?_
    refine VL.pass rfl rfl rfl rfl rfl ?_
    refine VL.pick_f rfl rfl ?_
    refine VL.move rfl ?_
    refine VL.pass rfl rfl rfl rfl rfl ?_
    refine VL.pass rfl rfl rfl rfl rfl ?_
    refine VL.pass rfl rfl rfl rfl rfl ?_
    refine VL.pass rfl rfl rfl rfl rfl ?_
    refine VL.pass rfl rfl rfl rfl rfl ?_
    refine VL.pick_f rfl rfl ?_
    refine VL.move rfl ?_
    refine VL.pass rfl rfl rfl rfl rfl ?_
    refine VL.pass rfl rfl rfl rfl rfl ?_
    refine VL.pass rfl rfl rfl rfl rfl ?_
    refine VL.pass rfl rfl rfl rfl rfl ?_
    refine VL.pass rfl rfl rfl rfl rfl ?_
    refine VL.pick_f rfl rfl ?_
    refine VL.move rfl ?_
    refine VL.pass rfl rfl rfl rfl rfl ?_
    refine VL.pass rfl rfl rfl rfl rfl ?_
    refine VL.pass rfl rfl rfl rfl rfl ?_
    refine VL.pass rfl rfl rfl rfl rfl ?_
    refine VL.pass rfl rfl rfl rfl rfl ?_
    refine VL.pick_f rfl rfl ?_
    refine VL.assign rfl ?_
    refine VL.nil ?_
    refine VX.next ?_
    refine VC.ret ?_
    refine VX.ret1 rfl rfl (fun we hw => ?_)
    refine ⟨false, rfl, ?_, hw.drop.drop.sub (fun _ hs => by repeat (first | exact hs | apply List.mem_cons_of_mem))⟩
    rw [item_iff]
    simp [h1_4]

theorem refItem_w {S : List Snap} {H : List Chunk} {w : World} (ho : Own S H w) {x : Itm} (hx : x.ok) {p : Option Addr} {c : Nat} (hA : Bytes (keys H) w p x.letter.body c) {q : Option Addr} {d : Nat} (hV : Arr 65 vouchR (keys H) w q x.object.vouches d) : Calls Try.prog 57 #[.agg (cat (itemV x p c q d)).toArray] w (RetO S H (itemO x)) := by
  have hx1 := hx.kind
  have hx2 := hx.asker
  have hx3 := hx.peer
  refine enter (G := Own (⟨w, keys H⟩ :: S) H) ho.keep Try.func57 rfl Try.ntmps57 rfl ?_
  refine VC.seq ?_
  refine VC.region ?_
  refine VL.box (L := itemL) (ps := (itemV (x) p c q d)) rfl rfl (itemV_len hx) (fun g1 => ?_)
  refine VL.assign rfl ?_
  refine VL.assign rfl ?_
  refine VL.nil ?_
  refine VX.next ?_
  refine VC.seq ?_
  refine VC.region ?_
  refine VL.fieldAddr rfl fo87_0 rfl ?_
  refine VL.load (v := .int .u8 (x.kind)) 0 0 rfl kd5 (fun _ h => h) rfl rfl rfl ?_
  refine VL.build (zs := itemZ) (L := itemFL) [(0, [.int .u8 (x.kind)])] plan87 rfl ⟨⟨rfl, ⟨_, rfl, rfl⟩, rfl⟩, trivial⟩ rfl ?_
  refine VL.newv (v' := .agg (cat (itemV ((Itm.mk x.kind 0 0 letter0 bundle0 object0)) none 0 none 0)).toArray) (by kernel_rfl) ?_
  refine VL.alloc (L := itemL) (ps := (itemV (item0) none 0 none 0)) zero87 rfl rfl (fun g2 => ?_)
  refine VL.store (L := itemL) (qs := (itemV ((Itm.mk x.kind 0 0 letter0 bundle0 object0)) none 0 none 0)) (ps' := (itemV ((Itm.mk x.kind 0 0 letter0 bundle0 object0)) none 0 none 0)) 0 0 28 rfl rfl rfl (.inl kd87) rfl rfl (itemV_len (⟨hx.kind, (show (0 : Nat) < 256 by decide), (show (0 : Nat) < 256 by decide), letter0_ok, bundle0_ok, object0_ok⟩ : Itm.ok (Itm.mk x.kind 0 0 letter0 bundle0 object0))) (itemV_ok1 ((Itm.mk x.kind 0 0 letter0 bundle0 object0)) none 0 none 0) rfl rfl ?_
  refine VL.turn (G' := Own _ (blk g2 87 itemL (itemV ((Itm.mk x.kind 0 0 letter0 bundle0 object0)) none 0 none 0) :: blk g1 87 itemL (itemV (x) p c q d) :: H)) (fun _ h => h) ?_
  refine VL.nil ?_
  refine VX.next ?_
  refine VC.seq ?_
  refine VC.region ?_
  refine VL.fieldAddr rfl fo87_0 rfl ?_
  refine VL.load (v := .int .u8 (x.kind)) 1 0 rfl kd5 (fun _ h => h) rfl rfl rfl ?_
  refine VL.litByte (m := x.kind) el24 rfl (by have hm := hx.kind; omega) (fun g3 w4 hO5 hA6 => ?_)
  refine VL.litB [be 1 (x.kind)] el31 rfl rfl rfl (by simp [Value.cells]) (by intro u hu; simp [Value.cells] at hu; rcases hu with rfl <;> rfl) rfl (fun _ w' hw => ⟨⟨_, _, rfl, (hA6.now (s := ⟨w4, _⟩) Mono.byte hw (by repeat (first | exact List.mem_cons_self .. | apply List.mem_cons_of_mem)))⟩, trivial⟩) (fun v => ?_)
  refine VL.ex fun g7 => VL.fact fun e8 => ?_
  subst e8
  refine VL.assign rfl ?_
  refine VL.nil ?_
  refine VX.next ?_
  refine VC.seq ?_
  refine VC.region ?_
  refine VL.assign rfl ?_
  refine VL.nil ?_
  refine VX.next ?_
  refine VC.seq ?_
  refine VC.region ?_
  refine VL.assign rfl ?_
  refine VL.nil ?_
  refine VX.next ?_
  refine VC.seq ?_
  refine VC.seq ?_
  refine VC.region ?_
  refine VL.fieldAddr rfl fo87_0 rfl ?_
  refine VL.load (v := .int .u8 (x.kind)) 2 0 rfl kd5 (fun _ h => h) rfl rfl rfl ?_
  refine VL.nil ?_
  refine VX.next ?_
  refine VC.block ?_
  refine VC.seq ?_
  refine VC.region ?_
  refine VL.eql rfl rfl ?_
  refine VL.case (fun h7_0 => ?_) (fun h7_0 => ?_)
  · have h7_0 : x.kind = 1 := by have h : ((x.kind : Nat) : Int) = 1 := h7_0; omega
    refine VL.assign rfl ?_
    refine VL.nil ?_
    refine VX.next ?_
    refine VC.yes rfl ?_
    refine VC.seq ?_
    refine VC.region ?_
    refine VL.fieldAddr rfl fo87_3 rfl ?_
    refine VL.loads (cs := cat (letterV (x.letter) p c)) 2 3 12 rfl kd72 (fun _ h => h) rfl rfl rfl rfl ?_
    refine VL.fieldAddr rfl fo87_3 rfl ?_
    refine VL.store (L := itemL) (qs := (letterV (x.letter) p c)) (ps' := [[.int .u8 ((Itm.mk x.kind 0 0 letter0 bundle0 object0).kind)], [.int .u8 ((Itm.mk x.kind 0 0 letter0 bundle0 object0).asker)], [.int .u8 ((Itm.mk x.kind 0 0 letter0 bundle0 object0).peer)], [.int .u8 (x.letter.src)], [.int .u8 (x.letter.dst)], (x.letter.header.session).map bv, [.bool x.letter.header.first], (x.letter.header.agree).map bv, (x.letter.header.signer).map bv, (x.letter.header.base).map bv, [.int .u16 (x.letter.header.id)], (x.letter.header.ratchet).map bv, [.int .u16 (x.letter.header.n)], [.int .u16 (x.letter.header.prev)], [.slice p (x.letter.body).length c], [.int .u8 ((Itm.mk x.kind 0 0 letter0 bundle0 object0).bundle.device)], ((Itm.mk x.kind 0 0 letter0 bundle0 object0).bundle.agree).map bv, ((Itm.mk x.kind 0 0 letter0 bundle0 object0).bundle.signer).map bv, [.int .u16 ((Itm.mk x.kind 0 0 letter0 bundle0 object0).bundle.id)], ((Itm.mk x.kind 0 0 letter0 bundle0 object0).bundle.once).map bv, ((Itm.mk x.kind 0 0 letter0 bundle0 object0).bundle.sig).map bv, [.int .u8 ((Itm.mk x.kind 0 0 letter0 bundle0 object0).object.server)], [.int .u8 ((Itm.mk x.kind 0 0 letter0 bundle0 object0).object.n)], ((Itm.mk x.kind 0 0 letter0 bundle0 object0).object.key).map bv, [.int .u32 ((Itm.mk x.kind 0 0 letter0 bundle0 object0).object.since)], [.int .u32 ((Itm.mk x.kind 0 0 letter0 bundle0 object0).object.till)], ((Itm.mk x.kind 0 0 letter0 bundle0 object0).object.sig).map bv, [.slice none ([]).length 0]]) 1 3 12 rfl rfl rfl (.inl kd72) rfl rfl (letterV_len hx.letter) (letterV_ok1 (x.letter) p c) rfl rfl ?_
    refine VL.turn (G' := Own _ (brow (some g7) 1 ([be 1 (x.kind)]) :: blk g2 87 itemL [[.int .u8 ((Itm.mk x.kind 0 0 letter0 bundle0 object0).kind)], [.int .u8 ((Itm.mk x.kind 0 0 letter0 bundle0 object0).asker)], [.int .u8 ((Itm.mk x.kind 0 0 letter0 bundle0 object0).peer)], [.int .u8 (x.letter.src)], [.int .u8 (x.letter.dst)], (x.letter.header.session).map bv, [.bool x.letter.header.first], (x.letter.header.agree).map bv, (x.letter.header.signer).map bv, (x.letter.header.base).map bv, [.int .u16 (x.letter.header.id)], (x.letter.header.ratchet).map bv, [.int .u16 (x.letter.header.n)], [.int .u16 (x.letter.header.prev)], [.slice p (x.letter.body).length c], [.int .u8 ((Itm.mk x.kind 0 0 letter0 bundle0 object0).bundle.device)], ((Itm.mk x.kind 0 0 letter0 bundle0 object0).bundle.agree).map bv, ((Itm.mk x.kind 0 0 letter0 bundle0 object0).bundle.signer).map bv, [.int .u16 ((Itm.mk x.kind 0 0 letter0 bundle0 object0).bundle.id)], ((Itm.mk x.kind 0 0 letter0 bundle0 object0).bundle.once).map bv, ((Itm.mk x.kind 0 0 letter0 bundle0 object0).bundle.sig).map bv, [.int .u8 ((Itm.mk x.kind 0 0 letter0 bundle0 object0).object.server)], [.int .u8 ((Itm.mk x.kind 0 0 letter0 bundle0 object0).object.n)], ((Itm.mk x.kind 0 0 letter0 bundle0 object0).object.key).map bv, [.int .u32 ((Itm.mk x.kind 0 0 letter0 bundle0 object0).object.since)], [.int .u32 ((Itm.mk x.kind 0 0 letter0 bundle0 object0).object.till)], ((Itm.mk x.kind 0 0 letter0 bundle0 object0).object.sig).map bv, [.slice none ([]).length 0]] :: blk g1 87 itemL (itemV (x) p c q d) :: H)) (fun _ h => h) ?_
    refine VL.nil ?_
    refine VX.next ?_
    refine VC.seq ?_
    refine VC.region ?_
    refine VL.fieldAddr rfl fo87_3 rfl ?_
    refine VL.loads (cs := cat (letterV (x.letter) p c)) 2 3 12 rfl kd72 (fun _ h => h) rfl rfl rfl rfl ?_
    refine VL.call Try.func51 rfl (by decide) rfl (fun w' hw => refLetter_w hw (x := x.letter) hx.letter (hA.now (s := ⟨w, _⟩) Mono.byte hw (by repeat (first | exact List.mem_cons_self .. | apply List.mem_cons_of_mem)))) (fun v => ?_)
    refine VL.at (fun w9 h1w => ?_)
    obtain ⟨p10, c11, rfl, hO13, hA12⟩ := h1w
    refine VL.toOwn hO13 ?_
    refine VL.move rfl ?_
    refine VL.extract rfl rfl ?_
    refine VL.extract rfl rfl ?_
    refine VL.assign rfl ?_
    refine VL.assign rfl ?_
    refine VL.nil ?_
    refine VX.next ?_
    refine VC.region ?_
    refine VL.move rfl ?_
    refine VL.move rfl ?_
    refine VL.lit el31 rfl rfl rfl (by simp [Value.cells]) (by intro u hu; simp [Value.cells] at hu; rcases hu with rfl <;> rfl) (fun g14 => ?_)
    refine VL.letRowS [((letterO (x.letter)).getD [])] rfl (fun w' hw => ⟨⟨_, _, rfl, (hA12.now (s := ⟨w9, _⟩) Mono.byte hw (by repeat (first | exact List.mem_cons_self .. | apply List.mem_cons_of_mem)))⟩, trivial⟩) (fun w15 hO16 hA17 => ?_)
    refine VL.appends (R := bytesR) (hR := Mono.slice Mono.byte) (ys := [be 1 (x.kind)]) (zs := [((letterO (x.letter)).getD [])]) 0 el31 rfl rfl rfl (fun _ h => h) rfl (fun _ hw => (hA17.now (s := ⟨w15, _⟩) (Mono.slice Mono.byte) hw (by repeat (first | exact List.mem_cons_self .. | apply List.mem_cons_of_mem)))) bytesR_ok1 (by simp only [List.length_append, List.length_cons, List.length_nil, List.length_map]; omega) (fun g18 c19 => ?_) (by simp only [List.length_append, List.length_cons, List.length_nil, List.length_map]; omega)
    refine VL.turn (G' := Own _ (brow g18 c19 (([be 1 (x.kind)] ++ [((letterO (x.letter)).getD [])])) :: blk g2 87 itemL [[.int .u8 ((Itm.mk x.kind 0 0 letter0 bundle0 object0).kind)], [.int .u8 ((Itm.mk x.kind 0 0 letter0 bundle0 object0).asker)], [.int .u8 ((Itm.mk x.kind 0 0 letter0 bundle0 object0).peer)], [.int .u8 (x.letter.src)], [.int .u8 (x.letter.dst)], (x.letter.header.session).map bv, [.bool x.letter.header.first], (x.letter.header.agree).map bv, (x.letter.header.signer).map bv, (x.letter.header.base).map bv, [.int .u16 (x.letter.header.id)], (x.letter.header.ratchet).map bv, [.int .u16 (x.letter.header.n)], [.int .u16 (x.letter.header.prev)], [.slice p (x.letter.body).length c], [.int .u8 ((Itm.mk x.kind 0 0 letter0 bundle0 object0).bundle.device)], ((Itm.mk x.kind 0 0 letter0 bundle0 object0).bundle.agree).map bv, ((Itm.mk x.kind 0 0 letter0 bundle0 object0).bundle.signer).map bv, [.int .u16 ((Itm.mk x.kind 0 0 letter0 bundle0 object0).bundle.id)], ((Itm.mk x.kind 0 0 letter0 bundle0 object0).bundle.once).map bv, ((Itm.mk x.kind 0 0 letter0 bundle0 object0).bundle.sig).map bv, [.int .u8 ((Itm.mk x.kind 0 0 letter0 bundle0 object0).object.server)], [.int .u8 ((Itm.mk x.kind 0 0 letter0 bundle0 object0).object.n)], ((Itm.mk x.kind 0 0 letter0 bundle0 object0).object.key).map bv, [.int .u32 ((Itm.mk x.kind 0 0 letter0 bundle0 object0).object.since)], [.int .u32 ((Itm.mk x.kind 0 0 letter0 bundle0 object0).object.till)], ((Itm.mk x.kind 0 0 letter0 bundle0 object0).object.sig).map bv, [.slice none ([]).length 0]] :: blk g1 87 itemL (itemV (x) p c q d) :: H)) (fun _ h => h) ?_
    refine VL.assign rfl ?_
    refine VL.nil ?_
    refine VX.block_normal ?_
    refine VX.next ?_
    refine VC.seq ?_
    refine VC.seq ?_
    refine VC.region ?_
    refine VL.move rfl ?_
    cases hs : (letterO x.letter).isSome
    · refine VL.not rfl ?_
      refine VL.move rfl ?_
      refine VL.pass rfl rfl rfl rfl rfl ?_
      refine VL.pass rfl rfl rfl rfl rfl ?_
      refine VL.pass rfl rfl rfl rfl rfl ?_
      refine VL.pass rfl rfl rfl rfl rfl ?_
      refine VL.pick_t rfl rfl ?_
      refine VL.nil ?_
      refine VX.next ?_
      refine VC.yes rfl ?_
      refine VC.seq ?_
      refine VC.region ?_
      refine VL.assign rfl ?_
      refine VL.assign rfl ?_
      refine VL.nil ?_
      refine VX.next ?_
      refine VC.ret ?_
      refine VX.then_ret ?_
      refine VX.ret2 rfl rfl rfl (fun we hw => ?_)
      exact postO ((item1_f h7_0 hs)) ⟨none, 0, rfl, hw.drop.drop.drop.sub (fun _ hs => by repeat (first | exact hs | apply List.mem_cons_of_mem)), Arr.none⟩
    · refine VL.not rfl ?_
      refine VL.move rfl ?_
      refine VL.go rfl rfl rfl ?_
      refine VL.loads (cs := cat (itemV (x) p c q d)) 2 0 28 rfl kd87 (fun _ h => h) rfl rfl rfl rfl ?_
      refine VL.go rfl rfl rfl ?_
      refine VL.loads (cs := cat (itemV ((Itm.mk x.kind 0 0 x.letter bundle0 object0)) p c none 0)) 1 0 28 rfl kd87 (fun _ h => h) rfl rfl rfl rfl ?_
      refine VL.go rfl rfl rfl ?_
      refine VL.call Try.func59 rfl (by decide) rfl (fun w' hw => sameItems_g hw hx (hA.now (s := ⟨w, _⟩) Mono.byte hw (by repeat (first | exact List.mem_cons_self .. | apply List.mem_cons_of_mem))) (hV.now (s := ⟨w, _⟩) Mono_vouch hw (by repeat (first | exact List.mem_cons_self .. | apply List.mem_cons_of_mem))) (⟨hx.kind, (show (0 : Nat) < 256 by decide), (show (0 : Nat) < 256 by decide), hx.letter, bundle0_ok, object0_ok⟩ : Itm.ok (Itm.mk x.kind 0 0 x.letter bundle0 object0)) (hA.now (s := ⟨w, _⟩) Mono.byte hw (by repeat (first | exact List.mem_cons_self .. | apply List.mem_cons_of_mem))) Arr.none) (fun v => ?_)
      refine VL.ex fun b => VL.fact fun e => VL.fact fun h25_5 => ?_
      subst e
      cases b
      · have h25_5 := mt h25_5.2 (by decide)
        refine VL.go rfl rfl rfl ?_
        refine VL.not rfl ?_
        refine VL.pick_f rfl rfl ?_
        refine VL.nil ?_
        refine VX.next ?_
        refine VC.yes rfl ?_
        refine VC.seq ?_
        refine VC.region ?_
        refine VL.assign rfl ?_
        refine VL.assign rfl ?_
        refine VL.nil ?_
        refine VX.next ?_
        refine VC.ret ?_
        refine VX.then_ret ?_
        refine VX.ret2 rfl rfl rfl (fun we hw => ?_)
        exact postO ((item1_n h7_0 fun e => h25_5 (keep1.2 e))) ⟨none, 0, rfl, hw.drop.drop.drop.sub (fun _ hs => by repeat (first | exact hs | apply List.mem_cons_of_mem)), Arr.none⟩
      · have h25_5 := h25_5.1 rfl
        refine VL.go rfl rfl rfl ?_
        refine VL.not rfl ?_
        refine VL.pick_f rfl rfl ?_
        refine VL.nil ?_
        refine VX.next ?_
        refine VC.no rfl ?_
        refine VC.skip ?_
        refine VX.next ?_
        refine VC.seq ?_
        refine VC.letArr (fun wr hOr hAr => ?_)
        refine VC.region ?_
        refine VL.move rfl ?_
        refine VL.call Try.func31 rfl (by decide) rfl (fun w' hw => join_O (ls := ([be 1 (x.kind)] ++ [((letterO (x.letter)).getD [])])) hw (hAr.now (s := ⟨wr, _⟩) (Mono.slice Mono.byte) hw (by repeat (first | exact List.mem_cons_self .. | apply List.mem_cons_of_mem)))) (fun v => ?_)
        refine VL.at (fun w20 h1w => ?_)
        obtain ⟨p21, c22, rfl, hO24, hA23⟩ := h1w
        refine VL.toOwn hO24 ?_
        refine VL.extract rfl rfl ?_
        refine VL.extract rfl rfl ?_
        refine VL.assign rfl ?_
        refine VL.assign rfl ?_
        refine VL.nil ?_
        refine VX.next ?_
        refine VC.ret ?_
        refine VX.ret2 rfl rfl rfl (fun we hw => ?_)
        exact postO ((show joinO ([be 1 (x.kind)] ++ [((letterO (x.letter)).getD [])]) true = itemO x from by rw [← item1_y h7_0 (keep1.1 h25_5)]; rw [hs]; rfl)) ⟨p21, c22, rfl, hw.drop.drop.sub (fun _ hs => by repeat (first | exact hs | apply List.mem_cons_of_mem)), (hA23.now (s := ⟨w20, _⟩) Mono.byte hw.drop.drop (by repeat (first | exact List.mem_cons_self .. | apply List.mem_cons_of_mem)))⟩
  · have h7_0 : x.kind ≠ 1 := by have h : ¬ ((x.kind : Nat) : Int) = 1 := h7_0; omega
    refine VL.assign rfl ?_
    refine VL.nil ?_
    refine VX.next ?_
    refine VC.no rfl ?_
    refine VC.seq ?_
    refine VC.seq ?_
    refine VC.region ?_
    refine VL.eql rfl rfl ?_
    refine VL.case (fun h11_0 => ?_) (fun h11_0 => ?_)
    · have h11_0 : x.kind = 2 := by have h : ((x.kind : Nat) : Int) = 2 := h11_0; omega
      refine VL.assign rfl ?_
      refine VL.nil ?_
      refine VX.next ?_
      refine VC.yes rfl ?_
      refine VC.skip ?_
      refine VX.next ?_
      refine VC.yes rfl ?_
      refine VC.seq ?_
      refine VC.region ?_
      refine VL.fieldAddr rfl fo87_1 rfl ?_
      refine VL.load (v := .int .u8 (x.asker)) 2 1 rfl kd5 (fun _ h => h) rfl rfl rfl ?_
      refine VL.fieldAddr rfl fo87_1 rfl ?_
      refine VL.store (L := itemL) (qs := [[.int .u8 (x.asker)]]) (ps' := [[.int .u8 ((Itm.mk x.kind 0 0 letter0 bundle0 object0).kind)], [.int .u8 (x.asker)], [.int .u8 ((Itm.mk x.kind 0 0 letter0 bundle0 object0).peer)], [.int .u8 ((Itm.mk x.kind 0 0 letter0 bundle0 object0).letter.src)], [.int .u8 ((Itm.mk x.kind 0 0 letter0 bundle0 object0).letter.dst)], ((Itm.mk x.kind 0 0 letter0 bundle0 object0).letter.header.session).map bv, [.bool ((Itm.mk x.kind 0 0 letter0 bundle0 object0).letter.header.first)], ((Itm.mk x.kind 0 0 letter0 bundle0 object0).letter.header.agree).map bv, ((Itm.mk x.kind 0 0 letter0 bundle0 object0).letter.header.signer).map bv, ((Itm.mk x.kind 0 0 letter0 bundle0 object0).letter.header.base).map bv, [.int .u16 ((Itm.mk x.kind 0 0 letter0 bundle0 object0).letter.header.id)], ((Itm.mk x.kind 0 0 letter0 bundle0 object0).letter.header.ratchet).map bv, [.int .u16 ((Itm.mk x.kind 0 0 letter0 bundle0 object0).letter.header.n)], [.int .u16 ((Itm.mk x.kind 0 0 letter0 bundle0 object0).letter.header.prev)], [.slice none ([]).length 0], [.int .u8 ((Itm.mk x.kind 0 0 letter0 bundle0 object0).bundle.device)], ((Itm.mk x.kind 0 0 letter0 bundle0 object0).bundle.agree).map bv, ((Itm.mk x.kind 0 0 letter0 bundle0 object0).bundle.signer).map bv, [.int .u16 ((Itm.mk x.kind 0 0 letter0 bundle0 object0).bundle.id)], ((Itm.mk x.kind 0 0 letter0 bundle0 object0).bundle.once).map bv, ((Itm.mk x.kind 0 0 letter0 bundle0 object0).bundle.sig).map bv, [.int .u8 ((Itm.mk x.kind 0 0 letter0 bundle0 object0).object.server)], [.int .u8 ((Itm.mk x.kind 0 0 letter0 bundle0 object0).object.n)], ((Itm.mk x.kind 0 0 letter0 bundle0 object0).object.key).map bv, [.int .u32 ((Itm.mk x.kind 0 0 letter0 bundle0 object0).object.since)], [.int .u32 ((Itm.mk x.kind 0 0 letter0 bundle0 object0).object.till)], ((Itm.mk x.kind 0 0 letter0 bundle0 object0).object.sig).map bv, [.slice none ([]).length 0]]) 1 1 1 rfl rfl rfl (.inr ⟨kd5, rfl⟩) rfl rfl rfl (by intro u hu; simp [cat] at hu; subst hu; rfl) rfl rfl ?_
      refine VL.turn (G' := Own _ (brow (some g7) 1 ([be 1 (x.kind)]) :: blk g2 87 itemL [[.int .u8 ((Itm.mk x.kind 0 0 letter0 bundle0 object0).kind)], [.int .u8 (x.asker)], [.int .u8 ((Itm.mk x.kind 0 0 letter0 bundle0 object0).peer)], [.int .u8 ((Itm.mk x.kind 0 0 letter0 bundle0 object0).letter.src)], [.int .u8 ((Itm.mk x.kind 0 0 letter0 bundle0 object0).letter.dst)], ((Itm.mk x.kind 0 0 letter0 bundle0 object0).letter.header.session).map bv, [.bool ((Itm.mk x.kind 0 0 letter0 bundle0 object0).letter.header.first)], ((Itm.mk x.kind 0 0 letter0 bundle0 object0).letter.header.agree).map bv, ((Itm.mk x.kind 0 0 letter0 bundle0 object0).letter.header.signer).map bv, ((Itm.mk x.kind 0 0 letter0 bundle0 object0).letter.header.base).map bv, [.int .u16 ((Itm.mk x.kind 0 0 letter0 bundle0 object0).letter.header.id)], ((Itm.mk x.kind 0 0 letter0 bundle0 object0).letter.header.ratchet).map bv, [.int .u16 ((Itm.mk x.kind 0 0 letter0 bundle0 object0).letter.header.n)], [.int .u16 ((Itm.mk x.kind 0 0 letter0 bundle0 object0).letter.header.prev)], [.slice none ([]).length 0], [.int .u8 ((Itm.mk x.kind 0 0 letter0 bundle0 object0).bundle.device)], ((Itm.mk x.kind 0 0 letter0 bundle0 object0).bundle.agree).map bv, ((Itm.mk x.kind 0 0 letter0 bundle0 object0).bundle.signer).map bv, [.int .u16 ((Itm.mk x.kind 0 0 letter0 bundle0 object0).bundle.id)], ((Itm.mk x.kind 0 0 letter0 bundle0 object0).bundle.once).map bv, ((Itm.mk x.kind 0 0 letter0 bundle0 object0).bundle.sig).map bv, [.int .u8 ((Itm.mk x.kind 0 0 letter0 bundle0 object0).object.server)], [.int .u8 ((Itm.mk x.kind 0 0 letter0 bundle0 object0).object.n)], ((Itm.mk x.kind 0 0 letter0 bundle0 object0).object.key).map bv, [.int .u32 ((Itm.mk x.kind 0 0 letter0 bundle0 object0).object.since)], [.int .u32 ((Itm.mk x.kind 0 0 letter0 bundle0 object0).object.till)], ((Itm.mk x.kind 0 0 letter0 bundle0 object0).object.sig).map bv, [.slice none ([]).length 0]] :: blk g1 87 itemL (itemV (x) p c q d) :: H)) (fun _ h => h) ?_
      refine VL.nil ?_
      refine VX.next ?_
      refine VC.seq ?_
      refine VC.region ?_
      refine VL.fieldAddr rfl fo87_2 rfl ?_
      refine VL.load (v := .int .u8 (x.peer)) 2 2 rfl kd5 (fun _ h => h) rfl rfl rfl ?_
      refine VL.fieldAddr rfl fo87_2 rfl ?_
      refine VL.store (L := itemL) (qs := [[.int .u8 (x.peer)]]) (ps' := [[.int .u8 ((Itm.mk x.kind 0 0 letter0 bundle0 object0).kind)], [.int .u8 (x.asker)], [.int .u8 (x.peer)], [.int .u8 ((Itm.mk x.kind 0 0 letter0 bundle0 object0).letter.src)], [.int .u8 ((Itm.mk x.kind 0 0 letter0 bundle0 object0).letter.dst)], ((Itm.mk x.kind 0 0 letter0 bundle0 object0).letter.header.session).map bv, [.bool ((Itm.mk x.kind 0 0 letter0 bundle0 object0).letter.header.first)], ((Itm.mk x.kind 0 0 letter0 bundle0 object0).letter.header.agree).map bv, ((Itm.mk x.kind 0 0 letter0 bundle0 object0).letter.header.signer).map bv, ((Itm.mk x.kind 0 0 letter0 bundle0 object0).letter.header.base).map bv, [.int .u16 ((Itm.mk x.kind 0 0 letter0 bundle0 object0).letter.header.id)], ((Itm.mk x.kind 0 0 letter0 bundle0 object0).letter.header.ratchet).map bv, [.int .u16 ((Itm.mk x.kind 0 0 letter0 bundle0 object0).letter.header.n)], [.int .u16 ((Itm.mk x.kind 0 0 letter0 bundle0 object0).letter.header.prev)], [.slice none ([]).length 0], [.int .u8 ((Itm.mk x.kind 0 0 letter0 bundle0 object0).bundle.device)], ((Itm.mk x.kind 0 0 letter0 bundle0 object0).bundle.agree).map bv, ((Itm.mk x.kind 0 0 letter0 bundle0 object0).bundle.signer).map bv, [.int .u16 ((Itm.mk x.kind 0 0 letter0 bundle0 object0).bundle.id)], ((Itm.mk x.kind 0 0 letter0 bundle0 object0).bundle.once).map bv, ((Itm.mk x.kind 0 0 letter0 bundle0 object0).bundle.sig).map bv, [.int .u8 ((Itm.mk x.kind 0 0 letter0 bundle0 object0).object.server)], [.int .u8 ((Itm.mk x.kind 0 0 letter0 bundle0 object0).object.n)], ((Itm.mk x.kind 0 0 letter0 bundle0 object0).object.key).map bv, [.int .u32 ((Itm.mk x.kind 0 0 letter0 bundle0 object0).object.since)], [.int .u32 ((Itm.mk x.kind 0 0 letter0 bundle0 object0).object.till)], ((Itm.mk x.kind 0 0 letter0 bundle0 object0).object.sig).map bv, [.slice none ([]).length 0]]) 1 2 1 rfl rfl rfl (.inr ⟨kd5, rfl⟩) rfl rfl rfl (by intro u hu; simp [cat] at hu; subst hu; rfl) rfl rfl ?_
      refine VL.turn (G' := Own _ (brow (some g7) 1 ([be 1 (x.kind)]) :: blk g2 87 itemL [[.int .u8 ((Itm.mk x.kind 0 0 letter0 bundle0 object0).kind)], [.int .u8 (x.asker)], [.int .u8 (x.peer)], [.int .u8 ((Itm.mk x.kind 0 0 letter0 bundle0 object0).letter.src)], [.int .u8 ((Itm.mk x.kind 0 0 letter0 bundle0 object0).letter.dst)], ((Itm.mk x.kind 0 0 letter0 bundle0 object0).letter.header.session).map bv, [.bool ((Itm.mk x.kind 0 0 letter0 bundle0 object0).letter.header.first)], ((Itm.mk x.kind 0 0 letter0 bundle0 object0).letter.header.agree).map bv, ((Itm.mk x.kind 0 0 letter0 bundle0 object0).letter.header.signer).map bv, ((Itm.mk x.kind 0 0 letter0 bundle0 object0).letter.header.base).map bv, [.int .u16 ((Itm.mk x.kind 0 0 letter0 bundle0 object0).letter.header.id)], ((Itm.mk x.kind 0 0 letter0 bundle0 object0).letter.header.ratchet).map bv, [.int .u16 ((Itm.mk x.kind 0 0 letter0 bundle0 object0).letter.header.n)], [.int .u16 ((Itm.mk x.kind 0 0 letter0 bundle0 object0).letter.header.prev)], [.slice none ([]).length 0], [.int .u8 ((Itm.mk x.kind 0 0 letter0 bundle0 object0).bundle.device)], ((Itm.mk x.kind 0 0 letter0 bundle0 object0).bundle.agree).map bv, ((Itm.mk x.kind 0 0 letter0 bundle0 object0).bundle.signer).map bv, [.int .u16 ((Itm.mk x.kind 0 0 letter0 bundle0 object0).bundle.id)], ((Itm.mk x.kind 0 0 letter0 bundle0 object0).bundle.once).map bv, ((Itm.mk x.kind 0 0 letter0 bundle0 object0).bundle.sig).map bv, [.int .u8 ((Itm.mk x.kind 0 0 letter0 bundle0 object0).object.server)], [.int .u8 ((Itm.mk x.kind 0 0 letter0 bundle0 object0).object.n)], ((Itm.mk x.kind 0 0 letter0 bundle0 object0).object.key).map bv, [.int .u32 ((Itm.mk x.kind 0 0 letter0 bundle0 object0).object.since)], [.int .u32 ((Itm.mk x.kind 0 0 letter0 bundle0 object0).object.till)], ((Itm.mk x.kind 0 0 letter0 bundle0 object0).object.sig).map bv, [.slice none ([]).length 0]] :: blk g1 87 itemL (itemV (x) p c q d) :: H)) (fun _ h => h) ?_
      refine VL.nil ?_
      refine VX.next ?_
      refine VC.region ?_
      refine VL.move rfl ?_
      refine VL.fieldAddr rfl fo87_1 rfl ?_
      refine VL.load (v := .int .u8 (x.asker)) 2 1 rfl kd5 (fun _ h => h) rfl rfl rfl ?_
      refine VL.litByte (m := x.asker) el24 rfl (by have hm := hx.asker; omega) (fun g25 w26 hO27 hA28 => ?_)
      refine VL.fieldAddr rfl fo87_2 rfl ?_
      refine VL.load (v := .int .u8 (x.peer)) 2 2 rfl kd5 (fun _ h => h) rfl rfl rfl ?_
      refine VL.litByte (m := x.peer) el24 rfl (by have hm := hx.peer; omega) (fun g29 w30 hO31 hA32 => ?_)
      refine VL.lit el31 rfl rfl rfl (by simp [Value.cells]) (by intro u hu; simp [Value.cells] at hu; rcases hu with rfl | rfl <;> rfl) (fun g33 => ?_)
      refine VL.letRowS [be 1 (x.asker), be 1 (x.peer)] rfl (fun w' hw => ⟨⟨_, _, rfl, (hA28.now (s := ⟨w26, _⟩) Mono.byte hw (by repeat (first | exact List.mem_cons_self .. | apply List.mem_cons_of_mem)))⟩, ⟨⟨_, _, rfl, (hA32.now (s := ⟨w30, _⟩) Mono.byte hw (by repeat (first | exact List.mem_cons_self .. | apply List.mem_cons_of_mem)))⟩, trivial⟩⟩) (fun w34 hO35 hA36 => ?_)
      refine VL.appends (R := bytesR) (hR := Mono.slice Mono.byte) (ys := [be 1 (x.kind)]) (zs := [be 1 (x.asker), be 1 (x.peer)]) 0 el31 rfl rfl rfl (fun _ h => h) rfl (fun _ hw => (hA36.now (s := ⟨w34, _⟩) (Mono.slice Mono.byte) hw (by repeat (first | exact List.mem_cons_self .. | apply List.mem_cons_of_mem)))) bytesR_ok1 (by simp only [List.length_append, List.length_cons, List.length_nil, List.length_map]; omega) (fun g37 c38 => ?_) (by simp only [List.length_append, List.length_cons, List.length_nil, List.length_map]; omega)
      refine VL.turn (G' := Own _ (brow g37 c38 (([be 1 (x.kind)] ++ [be 1 (x.asker), be 1 (x.peer)])) :: blk g2 87 itemL [[.int .u8 ((Itm.mk x.kind 0 0 letter0 bundle0 object0).kind)], [.int .u8 (x.asker)], [.int .u8 (x.peer)], [.int .u8 ((Itm.mk x.kind 0 0 letter0 bundle0 object0).letter.src)], [.int .u8 ((Itm.mk x.kind 0 0 letter0 bundle0 object0).letter.dst)], ((Itm.mk x.kind 0 0 letter0 bundle0 object0).letter.header.session).map bv, [.bool ((Itm.mk x.kind 0 0 letter0 bundle0 object0).letter.header.first)], ((Itm.mk x.kind 0 0 letter0 bundle0 object0).letter.header.agree).map bv, ((Itm.mk x.kind 0 0 letter0 bundle0 object0).letter.header.signer).map bv, ((Itm.mk x.kind 0 0 letter0 bundle0 object0).letter.header.base).map bv, [.int .u16 ((Itm.mk x.kind 0 0 letter0 bundle0 object0).letter.header.id)], ((Itm.mk x.kind 0 0 letter0 bundle0 object0).letter.header.ratchet).map bv, [.int .u16 ((Itm.mk x.kind 0 0 letter0 bundle0 object0).letter.header.n)], [.int .u16 ((Itm.mk x.kind 0 0 letter0 bundle0 object0).letter.header.prev)], [.slice none ([]).length 0], [.int .u8 ((Itm.mk x.kind 0 0 letter0 bundle0 object0).bundle.device)], ((Itm.mk x.kind 0 0 letter0 bundle0 object0).bundle.agree).map bv, ((Itm.mk x.kind 0 0 letter0 bundle0 object0).bundle.signer).map bv, [.int .u16 ((Itm.mk x.kind 0 0 letter0 bundle0 object0).bundle.id)], ((Itm.mk x.kind 0 0 letter0 bundle0 object0).bundle.once).map bv, ((Itm.mk x.kind 0 0 letter0 bundle0 object0).bundle.sig).map bv, [.int .u8 ((Itm.mk x.kind 0 0 letter0 bundle0 object0).object.server)], [.int .u8 ((Itm.mk x.kind 0 0 letter0 bundle0 object0).object.n)], ((Itm.mk x.kind 0 0 letter0 bundle0 object0).object.key).map bv, [.int .u32 ((Itm.mk x.kind 0 0 letter0 bundle0 object0).object.since)], [.int .u32 ((Itm.mk x.kind 0 0 letter0 bundle0 object0).object.till)], ((Itm.mk x.kind 0 0 letter0 bundle0 object0).object.sig).map bv, [.slice none ([]).length 0]] :: blk g1 87 itemL (itemV (x) p c q d) :: H)) (fun _ h => h) ?_
      refine VL.assign rfl ?_
      refine VL.nil ?_
      refine VX.block_normal ?_
      refine VX.next ?_
      refine VC.seq ?_
      refine VC.seq ?_
      refine VC.region ?_
      refine VL.move rfl ?_
      refine VL.not rfl ?_
      refine VL.move rfl ?_
      refine VL.go rfl rfl rfl ?_
      refine VL.loads (cs := cat (itemV (x) p c q d)) 2 0 28 rfl kd87 (fun _ h => h) rfl rfl rfl rfl ?_
      refine VL.go rfl rfl rfl ?_
      refine VL.loads (cs := cat (itemV ((Itm.mk x.kind x.asker x.peer letter0 bundle0 object0)) none 0 none 0)) 1 0 28 rfl kd87 (fun _ h => h) rfl rfl rfl rfl ?_
      refine VL.go rfl rfl rfl ?_
      refine VL.call Try.func59 rfl (by decide) rfl (fun w' hw => sameItems_g hw hx (hA.now (s := ⟨w, _⟩) Mono.byte hw (by repeat (first | exact List.mem_cons_self .. | apply List.mem_cons_of_mem))) (hV.now (s := ⟨w, _⟩) Mono_vouch hw (by repeat (first | exact List.mem_cons_self .. | apply List.mem_cons_of_mem))) (⟨hx.kind, hx.asker, hx.peer, letter0_ok, bundle0_ok, object0_ok⟩ : Itm.ok (Itm.mk x.kind x.asker x.peer letter0 bundle0 object0)) Arr.none Arr.none) (fun v => ?_)
      refine VL.ex fun b => VL.fact fun e => VL.fact fun h25_5 => ?_
      subst e
      cases b
      · have h25_5 := mt h25_5.2 (by decide)
        refine VL.go rfl rfl rfl ?_
        refine VL.not rfl ?_
        refine VL.pick_f rfl rfl ?_
        refine VL.nil ?_
        refine VX.next ?_
        refine VC.yes rfl ?_
        refine VC.seq ?_
        refine VC.region ?_
        refine VL.assign rfl ?_
        refine VL.assign rfl ?_
        refine VL.nil ?_
        refine VX.next ?_
        refine VC.ret ?_
        refine VX.then_ret ?_
        refine VX.ret2 rfl rfl rfl (fun we hw => ?_)
        exact postO ((item2_n (.inl h11_0) fun e => h25_5 (keep2.2 e))) ⟨none, 0, rfl, hw.drop.drop.drop.sub (fun _ hs => by repeat (first | exact hs | apply List.mem_cons_of_mem)), Arr.none⟩
      · have h25_5 := h25_5.1 rfl
        refine VL.go rfl rfl rfl ?_
        refine VL.not rfl ?_
        refine VL.pick_f rfl rfl ?_
        refine VL.nil ?_
        refine VX.next ?_
        refine VC.no rfl ?_
        refine VC.skip ?_
        refine VX.next ?_
        refine VC.seq ?_
        refine VC.letArr (fun wr hOr hAr => ?_)
        refine VC.region ?_
        refine VL.move rfl ?_
        refine VL.call Try.func31 rfl (by decide) rfl (fun w' hw => join_O (ls := ([be 1 (x.kind)] ++ [be 1 (x.asker), be 1 (x.peer)])) hw (hAr.now (s := ⟨wr, _⟩) (Mono.slice Mono.byte) hw (by repeat (first | exact List.mem_cons_self .. | apply List.mem_cons_of_mem)))) (fun v => ?_)
        refine VL.at (fun w39 h1w => ?_)
        obtain ⟨p40, c41, rfl, hO43, hA42⟩ := h1w
        refine VL.toOwn hO43 ?_
        refine VL.extract rfl rfl ?_
        refine VL.extract rfl rfl ?_
        refine VL.assign rfl ?_
        refine VL.assign rfl ?_
        refine VL.nil ?_
        refine VX.next ?_
        refine VC.ret ?_
        refine VX.ret2 rfl rfl rfl (fun we hw => ?_)
        exact postO ((show joinO ([be 1 (x.kind)] ++ [be 1 (x.asker), be 1 (x.peer)]) true = itemO x from item2_y (.inl h11_0) (keep2.1 h25_5))) ⟨p40, c41, rfl, hw.drop.drop.sub (fun _ hs => by repeat (first | exact hs | apply List.mem_cons_of_mem)), (hA42.now (s := ⟨w39, _⟩) Mono.byte hw.drop.drop (by repeat (first | exact List.mem_cons_self .. | apply List.mem_cons_of_mem)))⟩
    · have h11_0 : x.kind ≠ 2 := by have h : ¬ ((x.kind : Nat) : Int) = 2 := h11_0; omega
      refine VL.assign rfl ?_
      refine VL.nil ?_
      refine VX.next ?_
      refine VC.no rfl ?_
      refine VC.region ?_
      refine VL.eql rfl rfl ?_
      refine VL.case (fun h12_0 => ?_) (fun h12_0 => ?_)
      · have h12_0 : x.kind = 4 := by have h : ((x.kind : Nat) : Int) = 4 := h12_0; omega
        refine VL.assign rfl ?_
        refine VL.nil ?_
        refine VX.next ?_
        refine VC.yes rfl ?_
        refine VC.seq ?_
        refine VC.region ?_
        refine VL.fieldAddr rfl fo87_1 rfl ?_
        refine VL.load (v := .int .u8 (x.asker)) 2 1 rfl kd5 (fun _ h => h) rfl rfl rfl ?_
        refine VL.fieldAddr rfl fo87_1 rfl ?_
        refine VL.store (L := itemL) (qs := [[.int .u8 (x.asker)]]) (ps' := [[.int .u8 ((Itm.mk x.kind 0 0 letter0 bundle0 object0).kind)], [.int .u8 (x.asker)], [.int .u8 ((Itm.mk x.kind 0 0 letter0 bundle0 object0).peer)], [.int .u8 ((Itm.mk x.kind 0 0 letter0 bundle0 object0).letter.src)], [.int .u8 ((Itm.mk x.kind 0 0 letter0 bundle0 object0).letter.dst)], ((Itm.mk x.kind 0 0 letter0 bundle0 object0).letter.header.session).map bv, [.bool ((Itm.mk x.kind 0 0 letter0 bundle0 object0).letter.header.first)], ((Itm.mk x.kind 0 0 letter0 bundle0 object0).letter.header.agree).map bv, ((Itm.mk x.kind 0 0 letter0 bundle0 object0).letter.header.signer).map bv, ((Itm.mk x.kind 0 0 letter0 bundle0 object0).letter.header.base).map bv, [.int .u16 ((Itm.mk x.kind 0 0 letter0 bundle0 object0).letter.header.id)], ((Itm.mk x.kind 0 0 letter0 bundle0 object0).letter.header.ratchet).map bv, [.int .u16 ((Itm.mk x.kind 0 0 letter0 bundle0 object0).letter.header.n)], [.int .u16 ((Itm.mk x.kind 0 0 letter0 bundle0 object0).letter.header.prev)], [.slice none ([]).length 0], [.int .u8 ((Itm.mk x.kind 0 0 letter0 bundle0 object0).bundle.device)], ((Itm.mk x.kind 0 0 letter0 bundle0 object0).bundle.agree).map bv, ((Itm.mk x.kind 0 0 letter0 bundle0 object0).bundle.signer).map bv, [.int .u16 ((Itm.mk x.kind 0 0 letter0 bundle0 object0).bundle.id)], ((Itm.mk x.kind 0 0 letter0 bundle0 object0).bundle.once).map bv, ((Itm.mk x.kind 0 0 letter0 bundle0 object0).bundle.sig).map bv, [.int .u8 ((Itm.mk x.kind 0 0 letter0 bundle0 object0).object.server)], [.int .u8 ((Itm.mk x.kind 0 0 letter0 bundle0 object0).object.n)], ((Itm.mk x.kind 0 0 letter0 bundle0 object0).object.key).map bv, [.int .u32 ((Itm.mk x.kind 0 0 letter0 bundle0 object0).object.since)], [.int .u32 ((Itm.mk x.kind 0 0 letter0 bundle0 object0).object.till)], ((Itm.mk x.kind 0 0 letter0 bundle0 object0).object.sig).map bv, [.slice none ([]).length 0]]) 1 1 1 rfl rfl rfl (.inr ⟨kd5, rfl⟩) rfl rfl rfl (by intro u hu; simp [cat] at hu; subst hu; rfl) rfl rfl ?_
        refine VL.turn (G' := Own _ (brow (some g7) 1 ([be 1 (x.kind)]) :: blk g2 87 itemL [[.int .u8 ((Itm.mk x.kind 0 0 letter0 bundle0 object0).kind)], [.int .u8 (x.asker)], [.int .u8 ((Itm.mk x.kind 0 0 letter0 bundle0 object0).peer)], [.int .u8 ((Itm.mk x.kind 0 0 letter0 bundle0 object0).letter.src)], [.int .u8 ((Itm.mk x.kind 0 0 letter0 bundle0 object0).letter.dst)], ((Itm.mk x.kind 0 0 letter0 bundle0 object0).letter.header.session).map bv, [.bool ((Itm.mk x.kind 0 0 letter0 bundle0 object0).letter.header.first)], ((Itm.mk x.kind 0 0 letter0 bundle0 object0).letter.header.agree).map bv, ((Itm.mk x.kind 0 0 letter0 bundle0 object0).letter.header.signer).map bv, ((Itm.mk x.kind 0 0 letter0 bundle0 object0).letter.header.base).map bv, [.int .u16 ((Itm.mk x.kind 0 0 letter0 bundle0 object0).letter.header.id)], ((Itm.mk x.kind 0 0 letter0 bundle0 object0).letter.header.ratchet).map bv, [.int .u16 ((Itm.mk x.kind 0 0 letter0 bundle0 object0).letter.header.n)], [.int .u16 ((Itm.mk x.kind 0 0 letter0 bundle0 object0).letter.header.prev)], [.slice none ([]).length 0], [.int .u8 ((Itm.mk x.kind 0 0 letter0 bundle0 object0).bundle.device)], ((Itm.mk x.kind 0 0 letter0 bundle0 object0).bundle.agree).map bv, ((Itm.mk x.kind 0 0 letter0 bundle0 object0).bundle.signer).map bv, [.int .u16 ((Itm.mk x.kind 0 0 letter0 bundle0 object0).bundle.id)], ((Itm.mk x.kind 0 0 letter0 bundle0 object0).bundle.once).map bv, ((Itm.mk x.kind 0 0 letter0 bundle0 object0).bundle.sig).map bv, [.int .u8 ((Itm.mk x.kind 0 0 letter0 bundle0 object0).object.server)], [.int .u8 ((Itm.mk x.kind 0 0 letter0 bundle0 object0).object.n)], ((Itm.mk x.kind 0 0 letter0 bundle0 object0).object.key).map bv, [.int .u32 ((Itm.mk x.kind 0 0 letter0 bundle0 object0).object.since)], [.int .u32 ((Itm.mk x.kind 0 0 letter0 bundle0 object0).object.till)], ((Itm.mk x.kind 0 0 letter0 bundle0 object0).object.sig).map bv, [.slice none ([]).length 0]] :: blk g1 87 itemL (itemV (x) p c q d) :: H)) (fun _ h => h) ?_
        refine VL.nil ?_
        refine VX.next ?_
        refine VC.seq ?_
        refine VC.region ?_
        refine VL.fieldAddr rfl fo87_2 rfl ?_
        refine VL.load (v := .int .u8 (x.peer)) 2 2 rfl kd5 (fun _ h => h) rfl rfl rfl ?_
        refine VL.fieldAddr rfl fo87_2 rfl ?_
        refine VL.store (L := itemL) (qs := [[.int .u8 (x.peer)]]) (ps' := [[.int .u8 ((Itm.mk x.kind 0 0 letter0 bundle0 object0).kind)], [.int .u8 (x.asker)], [.int .u8 (x.peer)], [.int .u8 ((Itm.mk x.kind 0 0 letter0 bundle0 object0).letter.src)], [.int .u8 ((Itm.mk x.kind 0 0 letter0 bundle0 object0).letter.dst)], ((Itm.mk x.kind 0 0 letter0 bundle0 object0).letter.header.session).map bv, [.bool ((Itm.mk x.kind 0 0 letter0 bundle0 object0).letter.header.first)], ((Itm.mk x.kind 0 0 letter0 bundle0 object0).letter.header.agree).map bv, ((Itm.mk x.kind 0 0 letter0 bundle0 object0).letter.header.signer).map bv, ((Itm.mk x.kind 0 0 letter0 bundle0 object0).letter.header.base).map bv, [.int .u16 ((Itm.mk x.kind 0 0 letter0 bundle0 object0).letter.header.id)], ((Itm.mk x.kind 0 0 letter0 bundle0 object0).letter.header.ratchet).map bv, [.int .u16 ((Itm.mk x.kind 0 0 letter0 bundle0 object0).letter.header.n)], [.int .u16 ((Itm.mk x.kind 0 0 letter0 bundle0 object0).letter.header.prev)], [.slice none ([]).length 0], [.int .u8 ((Itm.mk x.kind 0 0 letter0 bundle0 object0).bundle.device)], ((Itm.mk x.kind 0 0 letter0 bundle0 object0).bundle.agree).map bv, ((Itm.mk x.kind 0 0 letter0 bundle0 object0).bundle.signer).map bv, [.int .u16 ((Itm.mk x.kind 0 0 letter0 bundle0 object0).bundle.id)], ((Itm.mk x.kind 0 0 letter0 bundle0 object0).bundle.once).map bv, ((Itm.mk x.kind 0 0 letter0 bundle0 object0).bundle.sig).map bv, [.int .u8 ((Itm.mk x.kind 0 0 letter0 bundle0 object0).object.server)], [.int .u8 ((Itm.mk x.kind 0 0 letter0 bundle0 object0).object.n)], ((Itm.mk x.kind 0 0 letter0 bundle0 object0).object.key).map bv, [.int .u32 ((Itm.mk x.kind 0 0 letter0 bundle0 object0).object.since)], [.int .u32 ((Itm.mk x.kind 0 0 letter0 bundle0 object0).object.till)], ((Itm.mk x.kind 0 0 letter0 bundle0 object0).object.sig).map bv, [.slice none ([]).length 0]]) 1 2 1 rfl rfl rfl (.inr ⟨kd5, rfl⟩) rfl rfl rfl (by intro u hu; simp [cat] at hu; subst hu; rfl) rfl rfl ?_
        refine VL.turn (G' := Own _ (brow (some g7) 1 ([be 1 (x.kind)]) :: blk g2 87 itemL [[.int .u8 ((Itm.mk x.kind 0 0 letter0 bundle0 object0).kind)], [.int .u8 (x.asker)], [.int .u8 (x.peer)], [.int .u8 ((Itm.mk x.kind 0 0 letter0 bundle0 object0).letter.src)], [.int .u8 ((Itm.mk x.kind 0 0 letter0 bundle0 object0).letter.dst)], ((Itm.mk x.kind 0 0 letter0 bundle0 object0).letter.header.session).map bv, [.bool ((Itm.mk x.kind 0 0 letter0 bundle0 object0).letter.header.first)], ((Itm.mk x.kind 0 0 letter0 bundle0 object0).letter.header.agree).map bv, ((Itm.mk x.kind 0 0 letter0 bundle0 object0).letter.header.signer).map bv, ((Itm.mk x.kind 0 0 letter0 bundle0 object0).letter.header.base).map bv, [.int .u16 ((Itm.mk x.kind 0 0 letter0 bundle0 object0).letter.header.id)], ((Itm.mk x.kind 0 0 letter0 bundle0 object0).letter.header.ratchet).map bv, [.int .u16 ((Itm.mk x.kind 0 0 letter0 bundle0 object0).letter.header.n)], [.int .u16 ((Itm.mk x.kind 0 0 letter0 bundle0 object0).letter.header.prev)], [.slice none ([]).length 0], [.int .u8 ((Itm.mk x.kind 0 0 letter0 bundle0 object0).bundle.device)], ((Itm.mk x.kind 0 0 letter0 bundle0 object0).bundle.agree).map bv, ((Itm.mk x.kind 0 0 letter0 bundle0 object0).bundle.signer).map bv, [.int .u16 ((Itm.mk x.kind 0 0 letter0 bundle0 object0).bundle.id)], ((Itm.mk x.kind 0 0 letter0 bundle0 object0).bundle.once).map bv, ((Itm.mk x.kind 0 0 letter0 bundle0 object0).bundle.sig).map bv, [.int .u8 ((Itm.mk x.kind 0 0 letter0 bundle0 object0).object.server)], [.int .u8 ((Itm.mk x.kind 0 0 letter0 bundle0 object0).object.n)], ((Itm.mk x.kind 0 0 letter0 bundle0 object0).object.key).map bv, [.int .u32 ((Itm.mk x.kind 0 0 letter0 bundle0 object0).object.since)], [.int .u32 ((Itm.mk x.kind 0 0 letter0 bundle0 object0).object.till)], ((Itm.mk x.kind 0 0 letter0 bundle0 object0).object.sig).map bv, [.slice none ([]).length 0]] :: blk g1 87 itemL (itemV (x) p c q d) :: H)) (fun _ h => h) ?_
        refine VL.nil ?_
        refine VX.next ?_
        refine VC.region ?_
        refine VL.move rfl ?_
        refine VL.fieldAddr rfl fo87_1 rfl ?_
        refine VL.load (v := .int .u8 (x.asker)) 2 1 rfl kd5 (fun _ h => h) rfl rfl rfl ?_
        refine VL.litByte (m := x.asker) el24 rfl (by have hm := hx.asker; omega) (fun g44 w45 hO46 hA47 => ?_)
        refine VL.fieldAddr rfl fo87_2 rfl ?_
        refine VL.load (v := .int .u8 (x.peer)) 2 2 rfl kd5 (fun _ h => h) rfl rfl rfl ?_
        refine VL.litByte (m := x.peer) el24 rfl (by have hm := hx.peer; omega) (fun g48 w49 hO50 hA51 => ?_)
        refine VL.lit el31 rfl rfl rfl (by simp [Value.cells]) (by intro u hu; simp [Value.cells] at hu; rcases hu with rfl | rfl <;> rfl) (fun g52 => ?_)
        refine VL.letRowS [be 1 (x.asker), be 1 (x.peer)] rfl (fun w' hw => ⟨⟨_, _, rfl, (hA47.now (s := ⟨w45, _⟩) Mono.byte hw (by repeat (first | exact List.mem_cons_self .. | apply List.mem_cons_of_mem)))⟩, ⟨⟨_, _, rfl, (hA51.now (s := ⟨w49, _⟩) Mono.byte hw (by repeat (first | exact List.mem_cons_self .. | apply List.mem_cons_of_mem)))⟩, trivial⟩⟩) (fun w53 hO54 hA55 => ?_)
        refine VL.appends (R := bytesR) (hR := Mono.slice Mono.byte) (ys := [be 1 (x.kind)]) (zs := [be 1 (x.asker), be 1 (x.peer)]) 0 el31 rfl rfl rfl (fun _ h => h) rfl (fun _ hw => (hA55.now (s := ⟨w53, _⟩) (Mono.slice Mono.byte) hw (by repeat (first | exact List.mem_cons_self .. | apply List.mem_cons_of_mem)))) bytesR_ok1 (by simp only [List.length_append, List.length_cons, List.length_nil, List.length_map]; omega) (fun g56 c57 => ?_) (by simp only [List.length_append, List.length_cons, List.length_nil, List.length_map]; omega)
        refine VL.turn (G' := Own _ (brow g56 c57 (([be 1 (x.kind)] ++ [be 1 (x.asker), be 1 (x.peer)])) :: blk g2 87 itemL [[.int .u8 ((Itm.mk x.kind 0 0 letter0 bundle0 object0).kind)], [.int .u8 (x.asker)], [.int .u8 (x.peer)], [.int .u8 ((Itm.mk x.kind 0 0 letter0 bundle0 object0).letter.src)], [.int .u8 ((Itm.mk x.kind 0 0 letter0 bundle0 object0).letter.dst)], ((Itm.mk x.kind 0 0 letter0 bundle0 object0).letter.header.session).map bv, [.bool ((Itm.mk x.kind 0 0 letter0 bundle0 object0).letter.header.first)], ((Itm.mk x.kind 0 0 letter0 bundle0 object0).letter.header.agree).map bv, ((Itm.mk x.kind 0 0 letter0 bundle0 object0).letter.header.signer).map bv, ((Itm.mk x.kind 0 0 letter0 bundle0 object0).letter.header.base).map bv, [.int .u16 ((Itm.mk x.kind 0 0 letter0 bundle0 object0).letter.header.id)], ((Itm.mk x.kind 0 0 letter0 bundle0 object0).letter.header.ratchet).map bv, [.int .u16 ((Itm.mk x.kind 0 0 letter0 bundle0 object0).letter.header.n)], [.int .u16 ((Itm.mk x.kind 0 0 letter0 bundle0 object0).letter.header.prev)], [.slice none ([]).length 0], [.int .u8 ((Itm.mk x.kind 0 0 letter0 bundle0 object0).bundle.device)], ((Itm.mk x.kind 0 0 letter0 bundle0 object0).bundle.agree).map bv, ((Itm.mk x.kind 0 0 letter0 bundle0 object0).bundle.signer).map bv, [.int .u16 ((Itm.mk x.kind 0 0 letter0 bundle0 object0).bundle.id)], ((Itm.mk x.kind 0 0 letter0 bundle0 object0).bundle.once).map bv, ((Itm.mk x.kind 0 0 letter0 bundle0 object0).bundle.sig).map bv, [.int .u8 ((Itm.mk x.kind 0 0 letter0 bundle0 object0).object.server)], [.int .u8 ((Itm.mk x.kind 0 0 letter0 bundle0 object0).object.n)], ((Itm.mk x.kind 0 0 letter0 bundle0 object0).object.key).map bv, [.int .u32 ((Itm.mk x.kind 0 0 letter0 bundle0 object0).object.since)], [.int .u32 ((Itm.mk x.kind 0 0 letter0 bundle0 object0).object.till)], ((Itm.mk x.kind 0 0 letter0 bundle0 object0).object.sig).map bv, [.slice none ([]).length 0]] :: blk g1 87 itemL (itemV (x) p c q d) :: H)) (fun _ h => h) ?_
        refine VL.assign rfl ?_
        refine VL.nil ?_
        refine VX.block_normal ?_
        refine VX.next ?_
        refine VC.seq ?_
        refine VC.seq ?_
        refine VC.region ?_
        refine VL.move rfl ?_
        refine VL.not rfl ?_
        refine VL.move rfl ?_
        refine VL.go rfl rfl rfl ?_
        refine VL.loads (cs := cat (itemV (x) p c q d)) 2 0 28 rfl kd87 (fun _ h => h) rfl rfl rfl rfl ?_
        refine VL.go rfl rfl rfl ?_
        refine VL.loads (cs := cat (itemV ((Itm.mk x.kind x.asker x.peer letter0 bundle0 object0)) none 0 none 0)) 1 0 28 rfl kd87 (fun _ h => h) rfl rfl rfl rfl ?_
        refine VL.go rfl rfl rfl ?_
        refine VL.call Try.func59 rfl (by decide) rfl (fun w' hw => sameItems_g hw hx (hA.now (s := ⟨w, _⟩) Mono.byte hw (by repeat (first | exact List.mem_cons_self .. | apply List.mem_cons_of_mem))) (hV.now (s := ⟨w, _⟩) Mono_vouch hw (by repeat (first | exact List.mem_cons_self .. | apply List.mem_cons_of_mem))) (⟨hx.kind, hx.asker, hx.peer, letter0_ok, bundle0_ok, object0_ok⟩ : Itm.ok (Itm.mk x.kind x.asker x.peer letter0 bundle0 object0)) Arr.none Arr.none) (fun v => ?_)
        refine VL.ex fun b => VL.fact fun e => VL.fact fun h25_5 => ?_
        subst e
        cases b
        · have h25_5 := mt h25_5.2 (by decide)
          refine VL.go rfl rfl rfl ?_
          refine VL.not rfl ?_
          refine VL.pick_f rfl rfl ?_
          refine VL.nil ?_
          refine VX.next ?_
          refine VC.yes rfl ?_
          refine VC.seq ?_
          refine VC.region ?_
          refine VL.assign rfl ?_
          refine VL.assign rfl ?_
          refine VL.nil ?_
          refine VX.next ?_
          refine VC.ret ?_
          refine VX.then_ret ?_
          refine VX.ret2 rfl rfl rfl (fun we hw => ?_)
          exact postO ((item2_n (.inr h12_0) fun e => h25_5 (keep2.2 e))) ⟨none, 0, rfl, hw.drop.drop.drop.sub (fun _ hs => by repeat (first | exact hs | apply List.mem_cons_of_mem)), Arr.none⟩
        · have h25_5 := h25_5.1 rfl
          refine VL.go rfl rfl rfl ?_
          refine VL.not rfl ?_
          refine VL.pick_f rfl rfl ?_
          refine VL.nil ?_
          refine VX.next ?_
          refine VC.no rfl ?_
          refine VC.skip ?_
          refine VX.next ?_
          refine VC.seq ?_
          refine VC.letArr (fun wr hOr hAr => ?_)
          refine VC.region ?_
          refine VL.move rfl ?_
          refine VL.call Try.func31 rfl (by decide) rfl (fun w' hw => join_O (ls := ([be 1 (x.kind)] ++ [be 1 (x.asker), be 1 (x.peer)])) hw (hAr.now (s := ⟨wr, _⟩) (Mono.slice Mono.byte) hw (by repeat (first | exact List.mem_cons_self .. | apply List.mem_cons_of_mem)))) (fun v => ?_)
          refine VL.at (fun w58 h1w => ?_)
          obtain ⟨p59, c60, rfl, hO62, hA61⟩ := h1w
          refine VL.toOwn hO62 ?_
          refine VL.extract rfl rfl ?_
          refine VL.extract rfl rfl ?_
          refine VL.assign rfl ?_
          refine VL.assign rfl ?_
          refine VL.nil ?_
          refine VX.next ?_
          refine VC.ret ?_
          refine VX.ret2 rfl rfl rfl (fun we hw => ?_)
          exact postO ((show joinO ([be 1 (x.kind)] ++ [be 1 (x.asker), be 1 (x.peer)]) true = itemO x from item2_y (.inr h12_0) (keep2.1 h25_5))) ⟨p59, c60, rfl, hw.drop.drop.sub (fun _ hs => by repeat (first | exact hs | apply List.mem_cons_of_mem)), (hA61.now (s := ⟨w58, _⟩) Mono.byte hw.drop.drop (by repeat (first | exact List.mem_cons_self .. | apply List.mem_cons_of_mem)))⟩
      · have h12_0 : x.kind ≠ 4 := by have h : ¬ ((x.kind : Nat) : Int) = 4 := h12_0; omega
        refine VL.assign rfl ?_
        refine VL.nil ?_
        refine VX.next ?_
        refine VC.no rfl ?_
        refine VC.seq ?_
        refine VC.region ?_
        refine VL.eql rfl rfl ?_
        refine VL.case (fun h16_0 => ?_) (fun h16_0 => ?_)
        · have h16_0 : x.kind = 3 := by have h : ((x.kind : Nat) : Int) = 3 := h16_0; omega
          refine VL.assign rfl ?_
          refine VL.nil ?_
          refine VX.next ?_
          refine VC.yes rfl ?_
          refine VC.seq ?_
          refine VC.region ?_
          refine VL.fieldAddr rfl fo87_1 rfl ?_
          refine VL.load (v := .int .u8 (x.asker)) 2 1 rfl kd5 (fun _ h => h) rfl rfl rfl ?_
          refine VL.fieldAddr rfl fo87_1 rfl ?_
          refine VL.store (L := itemL) (qs := [[.int .u8 (x.asker)]]) (ps' := [[.int .u8 ((Itm.mk x.kind 0 0 letter0 bundle0 object0).kind)], [.int .u8 (x.asker)], [.int .u8 ((Itm.mk x.kind 0 0 letter0 bundle0 object0).peer)], [.int .u8 ((Itm.mk x.kind 0 0 letter0 bundle0 object0).letter.src)], [.int .u8 ((Itm.mk x.kind 0 0 letter0 bundle0 object0).letter.dst)], ((Itm.mk x.kind 0 0 letter0 bundle0 object0).letter.header.session).map bv, [.bool ((Itm.mk x.kind 0 0 letter0 bundle0 object0).letter.header.first)], ((Itm.mk x.kind 0 0 letter0 bundle0 object0).letter.header.agree).map bv, ((Itm.mk x.kind 0 0 letter0 bundle0 object0).letter.header.signer).map bv, ((Itm.mk x.kind 0 0 letter0 bundle0 object0).letter.header.base).map bv, [.int .u16 ((Itm.mk x.kind 0 0 letter0 bundle0 object0).letter.header.id)], ((Itm.mk x.kind 0 0 letter0 bundle0 object0).letter.header.ratchet).map bv, [.int .u16 ((Itm.mk x.kind 0 0 letter0 bundle0 object0).letter.header.n)], [.int .u16 ((Itm.mk x.kind 0 0 letter0 bundle0 object0).letter.header.prev)], [.slice none ([]).length 0], [.int .u8 ((Itm.mk x.kind 0 0 letter0 bundle0 object0).bundle.device)], ((Itm.mk x.kind 0 0 letter0 bundle0 object0).bundle.agree).map bv, ((Itm.mk x.kind 0 0 letter0 bundle0 object0).bundle.signer).map bv, [.int .u16 ((Itm.mk x.kind 0 0 letter0 bundle0 object0).bundle.id)], ((Itm.mk x.kind 0 0 letter0 bundle0 object0).bundle.once).map bv, ((Itm.mk x.kind 0 0 letter0 bundle0 object0).bundle.sig).map bv, [.int .u8 ((Itm.mk x.kind 0 0 letter0 bundle0 object0).object.server)], [.int .u8 ((Itm.mk x.kind 0 0 letter0 bundle0 object0).object.n)], ((Itm.mk x.kind 0 0 letter0 bundle0 object0).object.key).map bv, [.int .u32 ((Itm.mk x.kind 0 0 letter0 bundle0 object0).object.since)], [.int .u32 ((Itm.mk x.kind 0 0 letter0 bundle0 object0).object.till)], ((Itm.mk x.kind 0 0 letter0 bundle0 object0).object.sig).map bv, [.slice none ([]).length 0]]) 1 1 1 rfl rfl rfl (.inr ⟨kd5, rfl⟩) rfl rfl rfl (by intro u hu; simp [cat] at hu; subst hu; rfl) rfl rfl ?_
          refine VL.turn (G' := Own _ (brow (some g7) 1 ([be 1 (x.kind)]) :: blk g2 87 itemL [[.int .u8 ((Itm.mk x.kind 0 0 letter0 bundle0 object0).kind)], [.int .u8 (x.asker)], [.int .u8 ((Itm.mk x.kind 0 0 letter0 bundle0 object0).peer)], [.int .u8 ((Itm.mk x.kind 0 0 letter0 bundle0 object0).letter.src)], [.int .u8 ((Itm.mk x.kind 0 0 letter0 bundle0 object0).letter.dst)], ((Itm.mk x.kind 0 0 letter0 bundle0 object0).letter.header.session).map bv, [.bool ((Itm.mk x.kind 0 0 letter0 bundle0 object0).letter.header.first)], ((Itm.mk x.kind 0 0 letter0 bundle0 object0).letter.header.agree).map bv, ((Itm.mk x.kind 0 0 letter0 bundle0 object0).letter.header.signer).map bv, ((Itm.mk x.kind 0 0 letter0 bundle0 object0).letter.header.base).map bv, [.int .u16 ((Itm.mk x.kind 0 0 letter0 bundle0 object0).letter.header.id)], ((Itm.mk x.kind 0 0 letter0 bundle0 object0).letter.header.ratchet).map bv, [.int .u16 ((Itm.mk x.kind 0 0 letter0 bundle0 object0).letter.header.n)], [.int .u16 ((Itm.mk x.kind 0 0 letter0 bundle0 object0).letter.header.prev)], [.slice none ([]).length 0], [.int .u8 ((Itm.mk x.kind 0 0 letter0 bundle0 object0).bundle.device)], ((Itm.mk x.kind 0 0 letter0 bundle0 object0).bundle.agree).map bv, ((Itm.mk x.kind 0 0 letter0 bundle0 object0).bundle.signer).map bv, [.int .u16 ((Itm.mk x.kind 0 0 letter0 bundle0 object0).bundle.id)], ((Itm.mk x.kind 0 0 letter0 bundle0 object0).bundle.once).map bv, ((Itm.mk x.kind 0 0 letter0 bundle0 object0).bundle.sig).map bv, [.int .u8 ((Itm.mk x.kind 0 0 letter0 bundle0 object0).object.server)], [.int .u8 ((Itm.mk x.kind 0 0 letter0 bundle0 object0).object.n)], ((Itm.mk x.kind 0 0 letter0 bundle0 object0).object.key).map bv, [.int .u32 ((Itm.mk x.kind 0 0 letter0 bundle0 object0).object.since)], [.int .u32 ((Itm.mk x.kind 0 0 letter0 bundle0 object0).object.till)], ((Itm.mk x.kind 0 0 letter0 bundle0 object0).object.sig).map bv, [.slice none ([]).length 0]] :: blk g1 87 itemL (itemV (x) p c q d) :: H)) (fun _ h => h) ?_
          refine VL.nil ?_
          refine VX.next ?_
          refine VC.seq ?_
          refine VC.region ?_
          refine VL.fieldAddr rfl fo87_4 rfl ?_
          refine VL.loads (cs := cat (bundleV (x.bundle))) 2 15 6 rfl kd82 (fun _ h => h) rfl rfl rfl rfl ?_
          refine VL.fieldAddr rfl fo87_4 rfl ?_
          refine VL.store (L := itemL) (qs := (bundleV (x.bundle))) (ps' := [[.int .u8 ((Itm.mk x.kind 0 0 letter0 bundle0 object0).kind)], [.int .u8 (x.asker)], [.int .u8 ((Itm.mk x.kind 0 0 letter0 bundle0 object0).peer)], [.int .u8 ((Itm.mk x.kind 0 0 letter0 bundle0 object0).letter.src)], [.int .u8 ((Itm.mk x.kind 0 0 letter0 bundle0 object0).letter.dst)], ((Itm.mk x.kind 0 0 letter0 bundle0 object0).letter.header.session).map bv, [.bool ((Itm.mk x.kind 0 0 letter0 bundle0 object0).letter.header.first)], ((Itm.mk x.kind 0 0 letter0 bundle0 object0).letter.header.agree).map bv, ((Itm.mk x.kind 0 0 letter0 bundle0 object0).letter.header.signer).map bv, ((Itm.mk x.kind 0 0 letter0 bundle0 object0).letter.header.base).map bv, [.int .u16 ((Itm.mk x.kind 0 0 letter0 bundle0 object0).letter.header.id)], ((Itm.mk x.kind 0 0 letter0 bundle0 object0).letter.header.ratchet).map bv, [.int .u16 ((Itm.mk x.kind 0 0 letter0 bundle0 object0).letter.header.n)], [.int .u16 ((Itm.mk x.kind 0 0 letter0 bundle0 object0).letter.header.prev)], [.slice none ([]).length 0], [.int .u8 (x.bundle.device)], (x.bundle.agree).map bv, (x.bundle.signer).map bv, [.int .u16 (x.bundle.id)], (x.bundle.once).map bv, (x.bundle.sig).map bv, [.int .u8 ((Itm.mk x.kind 0 0 letter0 bundle0 object0).object.server)], [.int .u8 ((Itm.mk x.kind 0 0 letter0 bundle0 object0).object.n)], ((Itm.mk x.kind 0 0 letter0 bundle0 object0).object.key).map bv, [.int .u32 ((Itm.mk x.kind 0 0 letter0 bundle0 object0).object.since)], [.int .u32 ((Itm.mk x.kind 0 0 letter0 bundle0 object0).object.till)], ((Itm.mk x.kind 0 0 letter0 bundle0 object0).object.sig).map bv, [.slice none ([]).length 0]]) 1 15 6 rfl rfl rfl (.inl kd82) rfl rfl (bundleV_len hx.bundle) (bundleV_ok1 (x.bundle)) rfl rfl ?_
          refine VL.turn (G' := Own _ (brow (some g7) 1 ([be 1 (x.kind)]) :: blk g2 87 itemL [[.int .u8 ((Itm.mk x.kind 0 0 letter0 bundle0 object0).kind)], [.int .u8 (x.asker)], [.int .u8 ((Itm.mk x.kind 0 0 letter0 bundle0 object0).peer)], [.int .u8 ((Itm.mk x.kind 0 0 letter0 bundle0 object0).letter.src)], [.int .u8 ((Itm.mk x.kind 0 0 letter0 bundle0 object0).letter.dst)], ((Itm.mk x.kind 0 0 letter0 bundle0 object0).letter.header.session).map bv, [.bool ((Itm.mk x.kind 0 0 letter0 bundle0 object0).letter.header.first)], ((Itm.mk x.kind 0 0 letter0 bundle0 object0).letter.header.agree).map bv, ((Itm.mk x.kind 0 0 letter0 bundle0 object0).letter.header.signer).map bv, ((Itm.mk x.kind 0 0 letter0 bundle0 object0).letter.header.base).map bv, [.int .u16 ((Itm.mk x.kind 0 0 letter0 bundle0 object0).letter.header.id)], ((Itm.mk x.kind 0 0 letter0 bundle0 object0).letter.header.ratchet).map bv, [.int .u16 ((Itm.mk x.kind 0 0 letter0 bundle0 object0).letter.header.n)], [.int .u16 ((Itm.mk x.kind 0 0 letter0 bundle0 object0).letter.header.prev)], [.slice none ([]).length 0], [.int .u8 (x.bundle.device)], (x.bundle.agree).map bv, (x.bundle.signer).map bv, [.int .u16 (x.bundle.id)], (x.bundle.once).map bv, (x.bundle.sig).map bv, [.int .u8 ((Itm.mk x.kind 0 0 letter0 bundle0 object0).object.server)], [.int .u8 ((Itm.mk x.kind 0 0 letter0 bundle0 object0).object.n)], ((Itm.mk x.kind 0 0 letter0 bundle0 object0).object.key).map bv, [.int .u32 ((Itm.mk x.kind 0 0 letter0 bundle0 object0).object.since)], [.int .u32 ((Itm.mk x.kind 0 0 letter0 bundle0 object0).object.till)], ((Itm.mk x.kind 0 0 letter0 bundle0 object0).object.sig).map bv, [.slice none ([]).length 0]] :: blk g1 87 itemL (itemV (x) p c q d) :: H)) (fun _ h => h) ?_
          refine VL.nil ?_
          refine VX.next ?_
          apply VC.anyTA 8 1010 (F := [eqF _, eqF _, eqF _, capF (be 1 (x.asker)) 1, eqF _, eqF _, bytesF (bundleB (x.bundle)), arrF 1 bytesR (Mono.slice Mono.byte) ([be 1 (x.asker), bundleB (x.bundle)])]) [⟨[], [5]⟩, ⟨[], [1]⟩, ⟨[(59, 1)], []⟩, ⟨[(60, 2)], []⟩, ⟨[], [1]⟩, ⟨[(62, 4)], []⟩, ⟨[(63, 5)], []⟩, ⟨[(61, 3), (64, 6)], []⟩] [(58, 0), (65, 7)] [0, 1, 2, 3, 4, 5, 6, 7, 8, 9, 10, 11, 12, 13, 14, 15, 16, 17, 18, 19, 20, 21, 22, 23, 24, 25, 26, 27, 28, 29, 30, 31, 32, 33, 34, 35, 36, 37, 38, 39, 40, 41, 42, 43, 44, 45, 46, 47, 48, 49, 50, 51, 52, 53, 54, 55, 56, 57, 66, 67, 68, 69, 70, 71, 72, 73, 74, 75, 76, 77, 78, 79, 80, 81, 82, 83, 84, 85, 86, 87, 88, 89, 90, 91, 92, 93, 94] rfl (by kernel_rfl) (by kernel_rfl) rfl rfl (by kernel_rfl) (by kernel_rfl) (by kernel_rfl) rfl ?obs19 ?end19
          case obs19 =>
            refine Obs.cons ?_ ?_
            · refine obS (by kernel_rfl) rfl rfl (fun ph19 w19 hO19 => ?_)
              refine VL.move rfl ?_
              exact VL.finS hO19 rfl rfl
            refine Obs.cons ?_ ?_
            · refine obS (by kernel_rfl) rfl rfl (fun ph19 w19 hO19 => ?_)
              refine VL.fieldAddr rfl fo87_1 rfl ?_
              exact VL.finS hO19 rfl rfl
            refine Obs.cons ?_ ?_
            · refine ob (by kernel_rfl) rfl (by kernel_rfl) rfl (fun w19 hO19 => ?_)
              rintro _ rfl
              refine VL.load (v := .int .u8 (x.asker)) 2 1 rfl kd5 (fun _ e => e ▸ hO19) rfl rfl rfl ?_
              exact VL.finS hO19 rfl rfl
            refine Obs.cons ?_ ?_
            · refine ob (by kernel_rfl) rfl (by kernel_rfl) rfl (fun w19 hO19 => ?_)
              rintro _ rfl
              refine VL.toOwn hO19 ?_
              refine VL.litByte (m := x.asker) el24 rfl (by have hm := hx.asker; omega) (fun g63 w64 hO65 hA66 => ?_)
              exact VL.finO rfl (fun _ h => h.sub (fun _ hs => by repeat (first | exact hs | apply List.mem_cons_of_mem))) (fun _ h => ⟨_, rfl, (hA66.now (s := ⟨w64, _⟩) Mono.byte h (by repeat (first | exact List.mem_cons_self .. | apply List.mem_cons_of_mem)))⟩)
            refine Obs.cons ?_ ?_
            · refine obS (by kernel_rfl) rfl rfl (fun ph19 w19 hO19 => ?_)
              refine VL.fieldAddr rfl fo87_4 rfl ?_
              exact VL.finS hO19 rfl rfl
            refine Obs.cons ?_ ?_
            · refine ob (by kernel_rfl) rfl (by kernel_rfl) rfl (fun w19 hO19 => ?_)
              rintro _ rfl
              refine VL.loads (cs := cat (bundleV (x.bundle))) 2 15 6 rfl kd82 (fun _ e => e ▸ hO19) rfl rfl rfl rfl ?_
              exact VL.finS hO19 rfl rfl
            refine Obs.cons ?_ ?_
            · refine ob (by kernel_rfl) rfl (by kernel_rfl) rfl (fun w19 hO19 => ?_)
              rintro _ rfl
              refine VL.toOwn hO19 ?_
              refine VL.call Try.func62 rfl (by decide) rfl (fun w' hw => refBundle_w hw (x := x.bundle) hx.bundle) (fun v => ?_)
              refine VL.at (fun w67 h1w => ?_)
              obtain ⟨p68, c69, rfl, hO71, hA70⟩ := h1w
              refine VL.toOwn hO71 ?_
              exact VL.finO rfl (fun _ h => h.sub (fun _ hs => by repeat (first | exact hs | apply List.mem_cons_of_mem))) (fun _ h => ⟨_, _, rfl, (hA70.now (s := ⟨w67, _⟩) Mono.byte h (by repeat (first | exact List.mem_cons_self .. | apply List.mem_cons_of_mem)))⟩)
            refine Obs.cons ?_ ?_
            · refine ob (by kernel_rfl) rfl (by kernel_rfl) rfl (fun w19 hO19 => ?_)
              rintro _ ⟨p19_3, rfl, hA19_3⟩ _ ⟨p19_6, c19_6, rfl, hA19_6⟩
              refine VL.toOwn hO19 ?_
              refine VL.lit el31 rfl rfl rfl (by simp [Value.cells]) (by intro u hu; simp [Value.cells] at hu; rcases hu with rfl | rfl <;> rfl) (fun g72 => ?_)
              refine VL.letRowS [be 1 (x.asker), bundleB (x.bundle)] rfl (fun w' hw => ⟨⟨_, _, rfl, (hA19_3.now (s := ⟨w19, _⟩) Mono.byte hw (by repeat (first | exact List.mem_cons_self .. | apply List.mem_cons_of_mem)))⟩, ⟨⟨_, _, rfl, (hA19_6.now (s := ⟨w19, _⟩) Mono.byte hw (by repeat (first | exact List.mem_cons_self .. | apply List.mem_cons_of_mem)))⟩, trivial⟩⟩) (fun w73 hO74 hA75 => ?_)
              exact VL.finO rfl (fun _ h => h.sub (fun _ hs => by repeat (first | exact hs | apply List.mem_cons_of_mem))) (fun _ h => ⟨_, _, rfl, (hA75.now (s := ⟨w73, _⟩) (Mono.slice Mono.byte) h (by repeat (first | exact List.mem_cons_self .. | apply List.mem_cons_of_mem)))⟩)
            exact Obs.nil
          case end19 =>
            intro w19 hO19
            rintro _ rfl _ ⟨p19_7, c19_7, rfl, hA19_7⟩
            refine VL.toOwn hO19 ?_
            refine VL.appends (R := bytesR) (hR := Mono.slice Mono.byte) (ys := [be 1 (x.kind)]) (zs := [be 1 (x.asker), bundleB (x.bundle)]) 0 el31 rfl rfl rfl (fun _ h => h) rfl (fun _ hw => (hA19_7.now (s := ⟨w19, _⟩) (Mono.slice Mono.byte) hw (by repeat (first | exact List.mem_cons_self .. | apply List.mem_cons_of_mem)))) bytesR_ok1 (by simp only [List.length_append, List.length_cons, List.length_nil, List.length_map]; omega) (fun g76 c77 => ?_) (by simp only [List.length_append, List.length_cons, List.length_nil, List.length_map]; omega)
            refine VL.turn (G' := Own _ (brow g76 c77 (([be 1 (x.kind)] ++ [be 1 (x.asker), bundleB (x.bundle)])) :: blk g2 87 itemL [[.int .u8 ((Itm.mk x.kind 0 0 letter0 bundle0 object0).kind)], [.int .u8 (x.asker)], [.int .u8 ((Itm.mk x.kind 0 0 letter0 bundle0 object0).peer)], [.int .u8 ((Itm.mk x.kind 0 0 letter0 bundle0 object0).letter.src)], [.int .u8 ((Itm.mk x.kind 0 0 letter0 bundle0 object0).letter.dst)], ((Itm.mk x.kind 0 0 letter0 bundle0 object0).letter.header.session).map bv, [.bool ((Itm.mk x.kind 0 0 letter0 bundle0 object0).letter.header.first)], ((Itm.mk x.kind 0 0 letter0 bundle0 object0).letter.header.agree).map bv, ((Itm.mk x.kind 0 0 letter0 bundle0 object0).letter.header.signer).map bv, ((Itm.mk x.kind 0 0 letter0 bundle0 object0).letter.header.base).map bv, [.int .u16 ((Itm.mk x.kind 0 0 letter0 bundle0 object0).letter.header.id)], ((Itm.mk x.kind 0 0 letter0 bundle0 object0).letter.header.ratchet).map bv, [.int .u16 ((Itm.mk x.kind 0 0 letter0 bundle0 object0).letter.header.n)], [.int .u16 ((Itm.mk x.kind 0 0 letter0 bundle0 object0).letter.header.prev)], [.slice none ([]).length 0], [.int .u8 (x.bundle.device)], (x.bundle.agree).map bv, (x.bundle.signer).map bv, [.int .u16 (x.bundle.id)], (x.bundle.once).map bv, (x.bundle.sig).map bv, [.int .u8 ((Itm.mk x.kind 0 0 letter0 bundle0 object0).object.server)], [.int .u8 ((Itm.mk x.kind 0 0 letter0 bundle0 object0).object.n)], ((Itm.mk x.kind 0 0 letter0 bundle0 object0).object.key).map bv, [.int .u32 ((Itm.mk x.kind 0 0 letter0 bundle0 object0).object.since)], [.int .u32 ((Itm.mk x.kind 0 0 letter0 bundle0 object0).object.till)], ((Itm.mk x.kind 0 0 letter0 bundle0 object0).object.sig).map bv, [.slice none ([]).length 0]] :: blk g1 87 itemL (itemV (x) p c q d) :: H)) (fun _ h => h) ?_
            refine VL.assign rfl ?_
            refine VL.nil ?_
            refine VX.block_normal ?_
            refine VX.next ?_
            refine VC.seq ?_
            refine VC.seq ?_
            refine VC.region ?_
            refine VL.move rfl ?_
            refine VL.not rfl ?_
            refine VL.move rfl ?_
            refine VL.go rfl rfl rfl ?_
            refine VL.loads (cs := cat (itemV (x) p c q d)) 2 0 28 rfl kd87 (fun _ h => h) rfl rfl rfl rfl ?_
            refine VL.go rfl rfl rfl ?_
            refine VL.loads (cs := cat (itemV ((Itm.mk x.kind x.asker 0 letter0 x.bundle object0)) none 0 none 0)) 1 0 28 rfl kd87 (fun _ h => h) rfl rfl rfl rfl ?_
            refine VL.go rfl rfl rfl ?_
            refine VL.call Try.func59 rfl (by decide) rfl (fun w' hw => sameItems_g hw hx (hA.now (s := ⟨w, _⟩) Mono.byte hw (by repeat (first | exact List.mem_cons_self .. | apply List.mem_cons_of_mem))) (hV.now (s := ⟨w, _⟩) Mono_vouch hw (by repeat (first | exact List.mem_cons_self .. | apply List.mem_cons_of_mem))) (⟨hx.kind, hx.asker, (show (0 : Nat) < 256 by decide), letter0_ok, hx.bundle, object0_ok⟩ : Itm.ok (Itm.mk x.kind x.asker 0 letter0 x.bundle object0)) Arr.none Arr.none) (fun v => ?_)
            refine VL.ex fun b => VL.fact fun e => VL.fact fun h25_5 => ?_
            subst e
            cases b
            · have h25_5 := mt h25_5.2 (by decide)
              refine VL.go rfl rfl rfl ?_
              refine VL.not rfl ?_
              refine VL.pick_f rfl rfl ?_
              refine VL.nil ?_
              refine VX.next ?_
              refine VC.yes rfl ?_
              refine VC.seq ?_
              refine VC.region ?_
              refine VL.assign rfl ?_
              refine VL.assign rfl ?_
              refine VL.nil ?_
              refine VX.next ?_
              refine VC.ret ?_
              refine VX.then_ret ?_
              refine VX.ret2 rfl rfl rfl (fun we hw => ?_)
              exact postO ((item3_n h16_0 fun e => h25_5 (keep3.2 e))) ⟨none, 0, rfl, hw.drop.drop.drop.sub (fun _ hs => by repeat (first | exact hs | apply List.mem_cons_of_mem)), Arr.none⟩
            · have h25_5 := h25_5.1 rfl
              refine VL.go rfl rfl rfl ?_
              refine VL.not rfl ?_
              refine VL.pick_f rfl rfl ?_
              refine VL.nil ?_
              refine VX.next ?_
              refine VC.no rfl ?_
              refine VC.skip ?_
              refine VX.next ?_
              refine VC.seq ?_
              refine VC.letArr (fun wr hOr hAr => ?_)
              refine VC.region ?_
              refine VL.move rfl ?_
              refine VL.call Try.func31 rfl (by decide) rfl (fun w' hw => join_O (ls := ([be 1 (x.kind)] ++ [be 1 (x.asker), bundleB (x.bundle)])) hw (hAr.now (s := ⟨wr, _⟩) (Mono.slice Mono.byte) hw (by repeat (first | exact List.mem_cons_self .. | apply List.mem_cons_of_mem)))) (fun v => ?_)
              refine VL.at (fun w78 h1w => ?_)
              obtain ⟨p79, c80, rfl, hO82, hA81⟩ := h1w
              refine VL.toOwn hO82 ?_
              refine VL.extract rfl rfl ?_
              refine VL.extract rfl rfl ?_
              refine VL.assign rfl ?_
              refine VL.assign rfl ?_
              refine VL.nil ?_
              refine VX.next ?_
              refine VC.ret ?_
              refine VX.ret2 rfl rfl rfl (fun we hw => ?_)
              exact postO ((show joinO ([be 1 (x.kind)] ++ [be 1 (x.asker), bundleB (x.bundle)]) true = itemO x from item3_y h16_0 (keep3.1 h25_5))) ⟨p79, c80, rfl, hw.drop.drop.sub (fun _ hs => by repeat (first | exact hs | apply List.mem_cons_of_mem)), (hA81.now (s := ⟨w78, _⟩) Mono.byte hw.drop.drop (by repeat (first | exact List.mem_cons_self .. | apply List.mem_cons_of_mem)))⟩
        · have h16_0 : x.kind ≠ 3 := by have h : ¬ ((x.kind : Nat) : Int) = 3 := h16_0; omega
          refine VL.assign rfl ?_
          refine VL.nil ?_
          refine VX.next ?_
          refine VC.no rfl ?_
          refine VC.seq ?_
          refine VC.seq ?_
          refine VC.region ?_
          refine VL.eql rfl rfl ?_
          refine VL.case (fun h20_0 => ?_) (fun h20_0 => ?_)
          · have h20_0 : x.kind = 5 := by have h : ((x.kind : Nat) : Int) = 5 := h20_0; omega
            refine VL.assign rfl ?_
            refine VL.nil ?_
            refine VX.next ?_
            refine VC.yes rfl ?_
            refine VC.skip ?_
            refine VX.next ?_
            refine VC.yes rfl ?_
            refine VC.seq ?_
            refine VC.region ?_
            refine VL.fieldAddr rfl fo87_5 rfl ?_
            refine VL.loads (cs := cat (objectV (x.object) q d)) 2 21 7 rfl kd85 (fun _ h => h) rfl rfl rfl rfl ?_
            refine VL.fieldAddr rfl fo87_5 rfl ?_
            refine VL.store (L := itemL) (qs := (objectV (x.object) q d)) (ps' := [[.int .u8 ((Itm.mk x.kind 0 0 letter0 bundle0 object0).kind)], [.int .u8 ((Itm.mk x.kind 0 0 letter0 bundle0 object0).asker)], [.int .u8 ((Itm.mk x.kind 0 0 letter0 bundle0 object0).peer)], [.int .u8 ((Itm.mk x.kind 0 0 letter0 bundle0 object0).letter.src)], [.int .u8 ((Itm.mk x.kind 0 0 letter0 bundle0 object0).letter.dst)], ((Itm.mk x.kind 0 0 letter0 bundle0 object0).letter.header.session).map bv, [.bool ((Itm.mk x.kind 0 0 letter0 bundle0 object0).letter.header.first)], ((Itm.mk x.kind 0 0 letter0 bundle0 object0).letter.header.agree).map bv, ((Itm.mk x.kind 0 0 letter0 bundle0 object0).letter.header.signer).map bv, ((Itm.mk x.kind 0 0 letter0 bundle0 object0).letter.header.base).map bv, [.int .u16 ((Itm.mk x.kind 0 0 letter0 bundle0 object0).letter.header.id)], ((Itm.mk x.kind 0 0 letter0 bundle0 object0).letter.header.ratchet).map bv, [.int .u16 ((Itm.mk x.kind 0 0 letter0 bundle0 object0).letter.header.n)], [.int .u16 ((Itm.mk x.kind 0 0 letter0 bundle0 object0).letter.header.prev)], [.slice none ([]).length 0], [.int .u8 ((Itm.mk x.kind 0 0 letter0 bundle0 object0).bundle.device)], ((Itm.mk x.kind 0 0 letter0 bundle0 object0).bundle.agree).map bv, ((Itm.mk x.kind 0 0 letter0 bundle0 object0).bundle.signer).map bv, [.int .u16 ((Itm.mk x.kind 0 0 letter0 bundle0 object0).bundle.id)], ((Itm.mk x.kind 0 0 letter0 bundle0 object0).bundle.once).map bv, ((Itm.mk x.kind 0 0 letter0 bundle0 object0).bundle.sig).map bv, [.int .u8 (x.object.server)], [.int .u8 (x.object.n)], (x.object.key).map bv, [.int .u32 (x.object.since)], [.int .u32 (x.object.till)], (x.object.sig).map bv, [.slice q (x.object.vouches).length d]]) 1 21 7 rfl rfl rfl (.inl kd85) rfl rfl (objectV_len hx.object) (objectV_ok1 (x.object) q d) rfl rfl ?_
            refine VL.turn (G' := Own _ (brow (some g7) 1 ([be 1 (x.kind)]) :: blk g2 87 itemL [[.int .u8 ((Itm.mk x.kind 0 0 letter0 bundle0 object0).kind)], [.int .u8 ((Itm.mk x.kind 0 0 letter0 bundle0 object0).asker)], [.int .u8 ((Itm.mk x.kind 0 0 letter0 bundle0 object0).peer)], [.int .u8 ((Itm.mk x.kind 0 0 letter0 bundle0 object0).letter.src)], [.int .u8 ((Itm.mk x.kind 0 0 letter0 bundle0 object0).letter.dst)], ((Itm.mk x.kind 0 0 letter0 bundle0 object0).letter.header.session).map bv, [.bool ((Itm.mk x.kind 0 0 letter0 bundle0 object0).letter.header.first)], ((Itm.mk x.kind 0 0 letter0 bundle0 object0).letter.header.agree).map bv, ((Itm.mk x.kind 0 0 letter0 bundle0 object0).letter.header.signer).map bv, ((Itm.mk x.kind 0 0 letter0 bundle0 object0).letter.header.base).map bv, [.int .u16 ((Itm.mk x.kind 0 0 letter0 bundle0 object0).letter.header.id)], ((Itm.mk x.kind 0 0 letter0 bundle0 object0).letter.header.ratchet).map bv, [.int .u16 ((Itm.mk x.kind 0 0 letter0 bundle0 object0).letter.header.n)], [.int .u16 ((Itm.mk x.kind 0 0 letter0 bundle0 object0).letter.header.prev)], [.slice none ([]).length 0], [.int .u8 ((Itm.mk x.kind 0 0 letter0 bundle0 object0).bundle.device)], ((Itm.mk x.kind 0 0 letter0 bundle0 object0).bundle.agree).map bv, ((Itm.mk x.kind 0 0 letter0 bundle0 object0).bundle.signer).map bv, [.int .u16 ((Itm.mk x.kind 0 0 letter0 bundle0 object0).bundle.id)], ((Itm.mk x.kind 0 0 letter0 bundle0 object0).bundle.once).map bv, ((Itm.mk x.kind 0 0 letter0 bundle0 object0).bundle.sig).map bv, [.int .u8 (x.object.server)], [.int .u8 (x.object.n)], (x.object.key).map bv, [.int .u32 (x.object.since)], [.int .u32 (x.object.till)], (x.object.sig).map bv, [.slice q (x.object.vouches).length d]] :: blk g1 87 itemL (itemV (x) p c q d) :: H)) (fun _ h => h) ?_
            refine VL.nil ?_
            refine VX.next ?_
            refine VC.seq ?_
            refine VC.region ?_
            refine VL.fieldAddr rfl fo87_5 rfl ?_
            refine VL.loads (cs := cat (objectV (x.object) q d)) 2 21 7 rfl kd85 (fun _ h => h) rfl rfl rfl rfl ?_
            refine VL.call Try.func66 rfl (by decide) rfl (fun w' hw => refObject_w hw (x := x.object) hx.object (hV.now (s := ⟨w, _⟩) Mono_vouch hw (by repeat (first | exact List.mem_cons_self .. | apply List.mem_cons_of_mem)))) (fun v => ?_)
            refine VL.at (fun w83 h1w => ?_)
            obtain ⟨p84, c85, rfl, hO87, hA86⟩ := h1w
            refine VL.toOwn hO87 ?_
            refine VL.move rfl ?_
            refine VL.extract rfl rfl ?_
            refine VL.extract rfl rfl ?_
            refine VL.assign rfl ?_
            refine VL.assign rfl ?_
            refine VL.nil ?_
            refine VX.next ?_
            refine VC.region ?_
            refine VL.move rfl ?_
            refine VL.move rfl ?_
            refine VL.lit el31 rfl rfl rfl (by simp [Value.cells]) (by intro u hu; simp [Value.cells] at hu; rcases hu with rfl <;> rfl) (fun g88 => ?_)
            refine VL.letRowS [((objectO (x.object)).getD [])] rfl (fun w' hw => ⟨⟨_, _, rfl, (hA86.now (s := ⟨w83, _⟩) Mono.byte hw (by repeat (first | exact List.mem_cons_self .. | apply List.mem_cons_of_mem)))⟩, trivial⟩) (fun w89 hO90 hA91 => ?_)
            refine VL.appends (R := bytesR) (hR := Mono.slice Mono.byte) (ys := [be 1 (x.kind)]) (zs := [((objectO (x.object)).getD [])]) 0 el31 rfl rfl rfl (fun _ h => h) rfl (fun _ hw => (hA91.now (s := ⟨w89, _⟩) (Mono.slice Mono.byte) hw (by repeat (first | exact List.mem_cons_self .. | apply List.mem_cons_of_mem)))) bytesR_ok1 (by simp only [List.length_append, List.length_cons, List.length_nil, List.length_map]; omega) (fun g92 c93 => ?_) (by simp only [List.length_append, List.length_cons, List.length_nil, List.length_map]; omega)
            refine VL.turn (G' := Own _ (brow g92 c93 (([be 1 (x.kind)] ++ [((objectO (x.object)).getD [])])) :: blk g2 87 itemL [[.int .u8 ((Itm.mk x.kind 0 0 letter0 bundle0 object0).kind)], [.int .u8 ((Itm.mk x.kind 0 0 letter0 bundle0 object0).asker)], [.int .u8 ((Itm.mk x.kind 0 0 letter0 bundle0 object0).peer)], [.int .u8 ((Itm.mk x.kind 0 0 letter0 bundle0 object0).letter.src)], [.int .u8 ((Itm.mk x.kind 0 0 letter0 bundle0 object0).letter.dst)], ((Itm.mk x.kind 0 0 letter0 bundle0 object0).letter.header.session).map bv, [.bool ((Itm.mk x.kind 0 0 letter0 bundle0 object0).letter.header.first)], ((Itm.mk x.kind 0 0 letter0 bundle0 object0).letter.header.agree).map bv, ((Itm.mk x.kind 0 0 letter0 bundle0 object0).letter.header.signer).map bv, ((Itm.mk x.kind 0 0 letter0 bundle0 object0).letter.header.base).map bv, [.int .u16 ((Itm.mk x.kind 0 0 letter0 bundle0 object0).letter.header.id)], ((Itm.mk x.kind 0 0 letter0 bundle0 object0).letter.header.ratchet).map bv, [.int .u16 ((Itm.mk x.kind 0 0 letter0 bundle0 object0).letter.header.n)], [.int .u16 ((Itm.mk x.kind 0 0 letter0 bundle0 object0).letter.header.prev)], [.slice none ([]).length 0], [.int .u8 ((Itm.mk x.kind 0 0 letter0 bundle0 object0).bundle.device)], ((Itm.mk x.kind 0 0 letter0 bundle0 object0).bundle.agree).map bv, ((Itm.mk x.kind 0 0 letter0 bundle0 object0).bundle.signer).map bv, [.int .u16 ((Itm.mk x.kind 0 0 letter0 bundle0 object0).bundle.id)], ((Itm.mk x.kind 0 0 letter0 bundle0 object0).bundle.once).map bv, ((Itm.mk x.kind 0 0 letter0 bundle0 object0).bundle.sig).map bv, [.int .u8 (x.object.server)], [.int .u8 (x.object.n)], (x.object.key).map bv, [.int .u32 (x.object.since)], [.int .u32 (x.object.till)], (x.object.sig).map bv, [.slice q (x.object.vouches).length d]] :: blk g1 87 itemL (itemV (x) p c q d) :: H)) (fun _ h => h) ?_
            refine VL.assign rfl ?_
            refine VL.nil ?_
            refine VX.block_normal ?_
            refine VX.next ?_
            refine VC.seq ?_
            refine VC.seq ?_
            refine VC.region ?_
            refine VL.move rfl ?_
            cases hs : (objectO x.object).isSome
            · refine VL.not rfl ?_
              refine VL.move rfl ?_
              refine VL.pass rfl rfl rfl rfl rfl ?_
              refine VL.pass rfl rfl rfl rfl rfl ?_
              refine VL.pass rfl rfl rfl rfl rfl ?_
              refine VL.pass rfl rfl rfl rfl rfl ?_
              refine VL.pick_t rfl rfl ?_
              refine VL.nil ?_
              refine VX.next ?_
              refine VC.yes rfl ?_
              refine VC.seq ?_
              refine VC.region ?_
              refine VL.assign rfl ?_
              refine VL.assign rfl ?_
              refine VL.nil ?_
              refine VX.next ?_
              refine VC.ret ?_
              refine VX.then_ret ?_
              refine VX.ret2 rfl rfl rfl (fun we hw => ?_)
              exact postO ((item5_f (.inl h20_0) hs)) ⟨none, 0, rfl, hw.drop.drop.drop.sub (fun _ hs => by repeat (first | exact hs | apply List.mem_cons_of_mem)), Arr.none⟩
            · refine VL.not rfl ?_
              refine VL.move rfl ?_
              refine VL.go rfl rfl rfl ?_
              refine VL.loads (cs := cat (itemV (x) p c q d)) 2 0 28 rfl kd87 (fun _ h => h) rfl rfl rfl rfl ?_
              refine VL.go rfl rfl rfl ?_
              refine VL.loads (cs := cat (itemV ((Itm.mk x.kind 0 0 letter0 bundle0 x.object)) none 0 q d)) 1 0 28 rfl kd87 (fun _ h => h) rfl rfl rfl rfl ?_
              refine VL.go rfl rfl rfl ?_
              refine VL.call Try.func59 rfl (by decide) rfl (fun w' hw => sameItems_g hw hx (hA.now (s := ⟨w, _⟩) Mono.byte hw (by repeat (first | exact List.mem_cons_self .. | apply List.mem_cons_of_mem))) (hV.now (s := ⟨w, _⟩) Mono_vouch hw (by repeat (first | exact List.mem_cons_self .. | apply List.mem_cons_of_mem))) (⟨hx.kind, (show (0 : Nat) < 256 by decide), (show (0 : Nat) < 256 by decide), letter0_ok, bundle0_ok, hx.object⟩ : Itm.ok (Itm.mk x.kind 0 0 letter0 bundle0 x.object)) Arr.none (hV.now (s := ⟨w, _⟩) Mono_vouch hw (by repeat (first | exact List.mem_cons_self .. | apply List.mem_cons_of_mem)))) (fun v => ?_)
              refine VL.ex fun b => VL.fact fun e => VL.fact fun h25_5 => ?_
              subst e
              cases b
              · have h25_5 := mt h25_5.2 (by decide)
                refine VL.go rfl rfl rfl ?_
                refine VL.not rfl ?_
                refine VL.pick_f rfl rfl ?_
                refine VL.nil ?_
                refine VX.next ?_
                refine VC.yes rfl ?_
                refine VC.seq ?_
                refine VC.region ?_
                refine VL.assign rfl ?_
                refine VL.assign rfl ?_
                refine VL.nil ?_
                refine VX.next ?_
                refine VC.ret ?_
                refine VX.then_ret ?_
                refine VX.ret2 rfl rfl rfl (fun we hw => ?_)
                exact postO ((item5_n (.inl h20_0) fun e => h25_5 (keep5.2 e))) ⟨none, 0, rfl, hw.drop.drop.drop.sub (fun _ hs => by repeat (first | exact hs | apply List.mem_cons_of_mem)), Arr.none⟩
              · have h25_5 := h25_5.1 rfl
                refine VL.go rfl rfl rfl ?_
                refine VL.not rfl ?_
                refine VL.pick_f rfl rfl ?_
                refine VL.nil ?_
                refine VX.next ?_
                refine VC.no rfl ?_
                refine VC.skip ?_
                refine VX.next ?_
                refine VC.seq ?_
                refine VC.letArr (fun wr hOr hAr => ?_)
                refine VC.region ?_
                refine VL.move rfl ?_
                refine VL.call Try.func31 rfl (by decide) rfl (fun w' hw => join_O (ls := ([be 1 (x.kind)] ++ [((objectO (x.object)).getD [])])) hw (hAr.now (s := ⟨wr, _⟩) (Mono.slice Mono.byte) hw (by repeat (first | exact List.mem_cons_self .. | apply List.mem_cons_of_mem)))) (fun v => ?_)
                refine VL.at (fun w94 h1w => ?_)
                obtain ⟨p95, c96, rfl, hO98, hA97⟩ := h1w
                refine VL.toOwn hO98 ?_
                refine VL.extract rfl rfl ?_
                refine VL.extract rfl rfl ?_
                refine VL.assign rfl ?_
                refine VL.assign rfl ?_
                refine VL.nil ?_
                refine VX.next ?_
                refine VC.ret ?_
                refine VX.ret2 rfl rfl rfl (fun we hw => ?_)
                exact postO ((show joinO ([be 1 (x.kind)] ++ [((objectO (x.object)).getD [])]) true = itemO x from by rw [← item5_y (.inl h20_0) (keep5.1 h25_5)]; rw [hs]; rfl)) ⟨p95, c96, rfl, hw.drop.drop.sub (fun _ hs => by repeat (first | exact hs | apply List.mem_cons_of_mem)), (hA97.now (s := ⟨w94, _⟩) Mono.byte hw.drop.drop (by repeat (first | exact List.mem_cons_self .. | apply List.mem_cons_of_mem)))⟩
          · have h20_0 : x.kind ≠ 5 := by have h : ¬ ((x.kind : Nat) : Int) = 5 := h20_0; omega
            refine VL.assign rfl ?_
            refine VL.nil ?_
            refine VX.next ?_
            refine VC.no rfl ?_
            refine VC.region ?_
            refine VL.eql rfl rfl ?_
            refine VL.case (fun h21_0 => ?_) (fun h21_0 => ?_)
            · have h21_0 : x.kind = 6 := by have h : ((x.kind : Nat) : Int) = 6 := h21_0; omega
              refine VL.assign rfl ?_
              refine VL.nil ?_
              refine VX.next ?_
              refine VC.yes rfl ?_
              refine VC.seq ?_
              refine VC.region ?_
              refine VL.fieldAddr rfl fo87_5 rfl ?_
              refine VL.loads (cs := cat (objectV (x.object) q d)) 2 21 7 rfl kd85 (fun _ h => h) rfl rfl rfl rfl ?_
              refine VL.fieldAddr rfl fo87_5 rfl ?_
              refine VL.store (L := itemL) (qs := (objectV (x.object) q d)) (ps' := [[.int .u8 ((Itm.mk x.kind 0 0 letter0 bundle0 object0).kind)], [.int .u8 ((Itm.mk x.kind 0 0 letter0 bundle0 object0).asker)], [.int .u8 ((Itm.mk x.kind 0 0 letter0 bundle0 object0).peer)], [.int .u8 ((Itm.mk x.kind 0 0 letter0 bundle0 object0).letter.src)], [.int .u8 ((Itm.mk x.kind 0 0 letter0 bundle0 object0).letter.dst)], ((Itm.mk x.kind 0 0 letter0 bundle0 object0).letter.header.session).map bv, [.bool ((Itm.mk x.kind 0 0 letter0 bundle0 object0).letter.header.first)], ((Itm.mk x.kind 0 0 letter0 bundle0 object0).letter.header.agree).map bv, ((Itm.mk x.kind 0 0 letter0 bundle0 object0).letter.header.signer).map bv, ((Itm.mk x.kind 0 0 letter0 bundle0 object0).letter.header.base).map bv, [.int .u16 ((Itm.mk x.kind 0 0 letter0 bundle0 object0).letter.header.id)], ((Itm.mk x.kind 0 0 letter0 bundle0 object0).letter.header.ratchet).map bv, [.int .u16 ((Itm.mk x.kind 0 0 letter0 bundle0 object0).letter.header.n)], [.int .u16 ((Itm.mk x.kind 0 0 letter0 bundle0 object0).letter.header.prev)], [.slice none ([]).length 0], [.int .u8 ((Itm.mk x.kind 0 0 letter0 bundle0 object0).bundle.device)], ((Itm.mk x.kind 0 0 letter0 bundle0 object0).bundle.agree).map bv, ((Itm.mk x.kind 0 0 letter0 bundle0 object0).bundle.signer).map bv, [.int .u16 ((Itm.mk x.kind 0 0 letter0 bundle0 object0).bundle.id)], ((Itm.mk x.kind 0 0 letter0 bundle0 object0).bundle.once).map bv, ((Itm.mk x.kind 0 0 letter0 bundle0 object0).bundle.sig).map bv, [.int .u8 (x.object.server)], [.int .u8 (x.object.n)], (x.object.key).map bv, [.int .u32 (x.object.since)], [.int .u32 (x.object.till)], (x.object.sig).map bv, [.slice q (x.object.vouches).length d]]) 1 21 7 rfl rfl rfl (.inl kd85) rfl rfl (objectV_len hx.object) (objectV_ok1 (x.object) q d) rfl rfl ?_
              refine VL.turn (G' := Own _ (brow (some g7) 1 ([be 1 (x.kind)]) :: blk g2 87 itemL [[.int .u8 ((Itm.mk x.kind 0 0 letter0 bundle0 object0).kind)], [.int .u8 ((Itm.mk x.kind 0 0 letter0 bundle0 object0).asker)], [.int .u8 ((Itm.mk x.kind 0 0 letter0 bundle0 object0).peer)], [.int .u8 ((Itm.mk x.kind 0 0 letter0 bundle0 object0).letter.src)], [.int .u8 ((Itm.mk x.kind 0 0 letter0 bundle0 object0).letter.dst)], ((Itm.mk x.kind 0 0 letter0 bundle0 object0).letter.header.session).map bv, [.bool ((Itm.mk x.kind 0 0 letter0 bundle0 object0).letter.header.first)], ((Itm.mk x.kind 0 0 letter0 bundle0 object0).letter.header.agree).map bv, ((Itm.mk x.kind 0 0 letter0 bundle0 object0).letter.header.signer).map bv, ((Itm.mk x.kind 0 0 letter0 bundle0 object0).letter.header.base).map bv, [.int .u16 ((Itm.mk x.kind 0 0 letter0 bundle0 object0).letter.header.id)], ((Itm.mk x.kind 0 0 letter0 bundle0 object0).letter.header.ratchet).map bv, [.int .u16 ((Itm.mk x.kind 0 0 letter0 bundle0 object0).letter.header.n)], [.int .u16 ((Itm.mk x.kind 0 0 letter0 bundle0 object0).letter.header.prev)], [.slice none ([]).length 0], [.int .u8 ((Itm.mk x.kind 0 0 letter0 bundle0 object0).bundle.device)], ((Itm.mk x.kind 0 0 letter0 bundle0 object0).bundle.agree).map bv, ((Itm.mk x.kind 0 0 letter0 bundle0 object0).bundle.signer).map bv, [.int .u16 ((Itm.mk x.kind 0 0 letter0 bundle0 object0).bundle.id)], ((Itm.mk x.kind 0 0 letter0 bundle0 object0).bundle.once).map bv, ((Itm.mk x.kind 0 0 letter0 bundle0 object0).bundle.sig).map bv, [.int .u8 (x.object.server)], [.int .u8 (x.object.n)], (x.object.key).map bv, [.int .u32 (x.object.since)], [.int .u32 (x.object.till)], (x.object.sig).map bv, [.slice q (x.object.vouches).length d]] :: blk g1 87 itemL (itemV (x) p c q d) :: H)) (fun _ h => h) ?_
              refine VL.nil ?_
              refine VX.next ?_
              refine VC.seq ?_
              refine VC.region ?_
              refine VL.fieldAddr rfl fo87_5 rfl ?_
              refine VL.loads (cs := cat (objectV (x.object) q d)) 2 21 7 rfl kd85 (fun _ h => h) rfl rfl rfl rfl ?_
              refine VL.call Try.func66 rfl (by decide) rfl (fun w' hw => refObject_w hw (x := x.object) hx.object (hV.now (s := ⟨w, _⟩) Mono_vouch hw (by repeat (first | exact List.mem_cons_self .. | apply List.mem_cons_of_mem)))) (fun v => ?_)
              refine VL.at (fun w99 h1w => ?_)
              obtain ⟨p100, c101, rfl, hO103, hA102⟩ := h1w
              refine VL.toOwn hO103 ?_
              refine VL.move rfl ?_
              refine VL.extract rfl rfl ?_
              refine VL.extract rfl rfl ?_
              refine VL.assign rfl ?_
              refine VL.assign rfl ?_
              refine VL.nil ?_
              refine VX.next ?_
              refine VC.region ?_
              refine VL.move rfl ?_
              refine VL.move rfl ?_
              refine VL.lit el31 rfl rfl rfl (by simp [Value.cells]) (by intro u hu; simp [Value.cells] at hu; rcases hu with rfl <;> rfl) (fun g104 => ?_)
              refine VL.letRowS [((objectO (x.object)).getD [])] rfl (fun w' hw => ⟨⟨_, _, rfl, (hA102.now (s := ⟨w99, _⟩) Mono.byte hw (by repeat (first | exact List.mem_cons_self .. | apply List.mem_cons_of_mem)))⟩, trivial⟩) (fun w105 hO106 hA107 => ?_)
              refine VL.appends (R := bytesR) (hR := Mono.slice Mono.byte) (ys := [be 1 (x.kind)]) (zs := [((objectO (x.object)).getD [])]) 0 el31 rfl rfl rfl (fun _ h => h) rfl (fun _ hw => (hA107.now (s := ⟨w105, _⟩) (Mono.slice Mono.byte) hw (by repeat (first | exact List.mem_cons_self .. | apply List.mem_cons_of_mem)))) bytesR_ok1 (by simp only [List.length_append, List.length_cons, List.length_nil, List.length_map]; omega) (fun g108 c109 => ?_) (by simp only [List.length_append, List.length_cons, List.length_nil, List.length_map]; omega)
              refine VL.turn (G' := Own _ (brow g108 c109 (([be 1 (x.kind)] ++ [((objectO (x.object)).getD [])])) :: blk g2 87 itemL [[.int .u8 ((Itm.mk x.kind 0 0 letter0 bundle0 object0).kind)], [.int .u8 ((Itm.mk x.kind 0 0 letter0 bundle0 object0).asker)], [.int .u8 ((Itm.mk x.kind 0 0 letter0 bundle0 object0).peer)], [.int .u8 ((Itm.mk x.kind 0 0 letter0 bundle0 object0).letter.src)], [.int .u8 ((Itm.mk x.kind 0 0 letter0 bundle0 object0).letter.dst)], ((Itm.mk x.kind 0 0 letter0 bundle0 object0).letter.header.session).map bv, [.bool ((Itm.mk x.kind 0 0 letter0 bundle0 object0).letter.header.first)], ((Itm.mk x.kind 0 0 letter0 bundle0 object0).letter.header.agree).map bv, ((Itm.mk x.kind 0 0 letter0 bundle0 object0).letter.header.signer).map bv, ((Itm.mk x.kind 0 0 letter0 bundle0 object0).letter.header.base).map bv, [.int .u16 ((Itm.mk x.kind 0 0 letter0 bundle0 object0).letter.header.id)], ((Itm.mk x.kind 0 0 letter0 bundle0 object0).letter.header.ratchet).map bv, [.int .u16 ((Itm.mk x.kind 0 0 letter0 bundle0 object0).letter.header.n)], [.int .u16 ((Itm.mk x.kind 0 0 letter0 bundle0 object0).letter.header.prev)], [.slice none ([]).length 0], [.int .u8 ((Itm.mk x.kind 0 0 letter0 bundle0 object0).bundle.device)], ((Itm.mk x.kind 0 0 letter0 bundle0 object0).bundle.agree).map bv, ((Itm.mk x.kind 0 0 letter0 bundle0 object0).bundle.signer).map bv, [.int .u16 ((Itm.mk x.kind 0 0 letter0 bundle0 object0).bundle.id)], ((Itm.mk x.kind 0 0 letter0 bundle0 object0).bundle.once).map bv, ((Itm.mk x.kind 0 0 letter0 bundle0 object0).bundle.sig).map bv, [.int .u8 (x.object.server)], [.int .u8 (x.object.n)], (x.object.key).map bv, [.int .u32 (x.object.since)], [.int .u32 (x.object.till)], (x.object.sig).map bv, [.slice q (x.object.vouches).length d]] :: blk g1 87 itemL (itemV (x) p c q d) :: H)) (fun _ h => h) ?_
              refine VL.assign rfl ?_
              refine VL.nil ?_
              refine VX.block_normal ?_
              refine VX.next ?_
              refine VC.seq ?_
              refine VC.seq ?_
              refine VC.region ?_
              refine VL.move rfl ?_
              cases hs : (objectO x.object).isSome
              · refine VL.not rfl ?_
                refine VL.move rfl ?_
                refine VL.pass rfl rfl rfl rfl rfl ?_
                refine VL.pass rfl rfl rfl rfl rfl ?_
                refine VL.pass rfl rfl rfl rfl rfl ?_
                refine VL.pass rfl rfl rfl rfl rfl ?_
                refine VL.pick_t rfl rfl ?_
                refine VL.nil ?_
                refine VX.next ?_
                refine VC.yes rfl ?_
                refine VC.seq ?_
                refine VC.region ?_
                refine VL.assign rfl ?_
                refine VL.assign rfl ?_
                refine VL.nil ?_
                refine VX.next ?_
                refine VC.ret ?_
                refine VX.then_ret ?_
                refine VX.ret2 rfl rfl rfl (fun we hw => ?_)
                exact postO ((item5_f (.inr h21_0) hs)) ⟨none, 0, rfl, hw.drop.drop.drop.sub (fun _ hs => by repeat (first | exact hs | apply List.mem_cons_of_mem)), Arr.none⟩
              · refine VL.not rfl ?_
                refine VL.move rfl ?_
                refine VL.go rfl rfl rfl ?_
                refine VL.loads (cs := cat (itemV (x) p c q d)) 2 0 28 rfl kd87 (fun _ h => h) rfl rfl rfl rfl ?_
                refine VL.go rfl rfl rfl ?_
                refine VL.loads (cs := cat (itemV ((Itm.mk x.kind 0 0 letter0 bundle0 x.object)) none 0 q d)) 1 0 28 rfl kd87 (fun _ h => h) rfl rfl rfl rfl ?_
                refine VL.go rfl rfl rfl ?_
                refine VL.call Try.func59 rfl (by decide) rfl (fun w' hw => sameItems_g hw hx (hA.now (s := ⟨w, _⟩) Mono.byte hw (by repeat (first | exact List.mem_cons_self .. | apply List.mem_cons_of_mem))) (hV.now (s := ⟨w, _⟩) Mono_vouch hw (by repeat (first | exact List.mem_cons_self .. | apply List.mem_cons_of_mem))) (⟨hx.kind, (show (0 : Nat) < 256 by decide), (show (0 : Nat) < 256 by decide), letter0_ok, bundle0_ok, hx.object⟩ : Itm.ok (Itm.mk x.kind 0 0 letter0 bundle0 x.object)) Arr.none (hV.now (s := ⟨w, _⟩) Mono_vouch hw (by repeat (first | exact List.mem_cons_self .. | apply List.mem_cons_of_mem)))) (fun v => ?_)
                refine VL.ex fun b => VL.fact fun e => VL.fact fun h25_5 => ?_
                subst e
                cases b
                · have h25_5 := mt h25_5.2 (by decide)
                  refine VL.go rfl rfl rfl ?_
                  refine VL.not rfl ?_
                  refine VL.pick_f rfl rfl ?_
                  refine VL.nil ?_
                  refine VX.next ?_
                  refine VC.yes rfl ?_
                  refine VC.seq ?_
                  refine VC.region ?_
                  refine VL.assign rfl ?_
                  refine VL.assign rfl ?_
                  refine VL.nil ?_
                  refine VX.next ?_
                  refine VC.ret ?_
                  refine VX.then_ret ?_
                  refine VX.ret2 rfl rfl rfl (fun we hw => ?_)
                  exact postO ((item5_n (.inr h21_0) fun e => h25_5 (keep5.2 e))) ⟨none, 0, rfl, hw.drop.drop.drop.sub (fun _ hs => by repeat (first | exact hs | apply List.mem_cons_of_mem)), Arr.none⟩
                · have h25_5 := h25_5.1 rfl
                  refine VL.go rfl rfl rfl ?_
                  refine VL.not rfl ?_
                  refine VL.pick_f rfl rfl ?_
                  refine VL.nil ?_
                  refine VX.next ?_
                  refine VC.no rfl ?_
                  refine VC.skip ?_
                  refine VX.next ?_
                  refine VC.seq ?_
                  refine VC.letArr (fun wr hOr hAr => ?_)
                  refine VC.region ?_
                  refine VL.move rfl ?_
                  refine VL.call Try.func31 rfl (by decide) rfl (fun w' hw => join_O (ls := ([be 1 (x.kind)] ++ [((objectO (x.object)).getD [])])) hw (hAr.now (s := ⟨wr, _⟩) (Mono.slice Mono.byte) hw (by repeat (first | exact List.mem_cons_self .. | apply List.mem_cons_of_mem)))) (fun v => ?_)
                  refine VL.at (fun w110 h1w => ?_)
                  obtain ⟨p111, c112, rfl, hO114, hA113⟩ := h1w
                  refine VL.toOwn hO114 ?_
                  refine VL.extract rfl rfl ?_
                  refine VL.extract rfl rfl ?_
                  refine VL.assign rfl ?_
                  refine VL.assign rfl ?_
                  refine VL.nil ?_
                  refine VX.next ?_
                  refine VC.ret ?_
                  refine VX.ret2 rfl rfl rfl (fun we hw => ?_)
                  exact postO ((show joinO ([be 1 (x.kind)] ++ [((objectO (x.object)).getD [])]) true = itemO x from by rw [← item5_y (.inr h21_0) (keep5.1 h25_5)]; rw [hs]; rfl)) ⟨p111, c112, rfl, hw.drop.drop.sub (fun _ hs => by repeat (first | exact hs | apply List.mem_cons_of_mem)), (hA113.now (s := ⟨w110, _⟩) Mono.byte hw.drop.drop (by repeat (first | exact List.mem_cons_self .. | apply List.mem_cons_of_mem)))⟩
            · have h21_0 : x.kind ≠ 6 := by have h : ¬ ((x.kind : Nat) : Int) = 6 := h21_0; omega
              refine VL.assign rfl ?_
              refine VL.nil ?_
              refine VX.next ?_
              refine VC.no rfl ?_
              refine VC.seq ?_
              refine VC.region ?_
              refine VL.assign rfl ?_
              refine VL.assign rfl ?_
              refine VL.nil ?_
              refine VX.next ?_
              refine VC.ret ?_
              refine VX.block_ret ?_
              refine VX.then_ret ?_
              refine VX.ret2 rfl rfl rfl (fun we hw => ?_)
              exact postO ((item0_n h7_0 h11_0 h16_0 h12_0 h20_0 h21_0)) ⟨none, 0, rfl, hw.drop.drop.drop.sub (fun _ hs => by repeat (first | exact hs | apply List.mem_cons_of_mem)), Arr.none⟩

theorem sameItems_e {S : List Snap} {H : List Chunk} {w : World} (ho : Own S H w) {x y : Itm} (hx : x.ok) {p : Option Addr} {c : Nat} (hA : Bytes (keys H) w p x.letter.body c) {q : Option Addr} {d : Nat} (hV : Arr 65 vouchR (keys H) w q x.object.vouches d) {p2 : Option Addr} {c2 : Nat} (hB : Bytes (keys H) w p2 y.letter.body c2) {q2 : Option Addr} {d2 : Nat} (hU : Arr 65 vouchR (keys H) w q2 y.object.vouches d2) (e : y = x) : Calls Try.prog 59 #[.agg (cat (itemV x p c q d)).toArray, .agg (cat (itemV y p2 c2 q2 d2)).toArray] w (Ret fun v w' => v = .bool true ∧ Own S H w') :=
  calls_mono (sameItems_g ho hx hA hV (e ▸ hx) hB hU) fun v w' ⟨b, h1, h2, h3⟩ => ⟨by rw [h1, h2.2 e], h3⟩

end Go.Proofs.Ytcfecmoagfgnaaa

/- The reference: lists of items. -/
namespace Go.Proofs.Ytcfecmoagfgnaaa
open Go.Vc Go.Pl

theorem list_none {ls : List (List UInt8)} {xs : List Itm} (h : itemsGood xs = false) : none = joinO (ls ++ itemsP xs) (itemsGood xs) := by rw [h]; exact none_joinO _
theorem all_some {xs : List Itm} {i : Nat} (h : i < xs.length) (h1 : ((xs.take i).all fun x => (itemO x).isSome) = true) (h2 : (itemO (xs[i]'h)).isSome = true) : ((xs.take (i + 1)).all fun x => (itemO x).isSome) = true := by
  rw [List.take_succ_eq_append_getElem h, List.all_append, h1]
  simp [h2]
theorem list_good {ls : List (List UInt8)} {xs : List Itm} {i : Nat} (h0 : xs.length ≤ 4) (hie : i = xs.length) (hall : ((xs.take i).all fun x => (itemO x).isSome) = true) : joinO (ls ++ itemsP (xs.take i)) true = joinO (ls ++ itemsP xs) (itemsGood xs) := by
  rw [hie, List.take_length] at hall ⊢
  have hg : itemsGood xs = true := by unfold itemsGood; rw [decide_eq_true h0, Bool.true_and]; exact hall
  rw [hg]
theorem not_all {xs : List Itm} {i : Nat} (h : i < xs.length) (h2 : (itemO (xs[i]'h)).isSome = false) : itemsGood xs = false := by
  unfold itemsGood
  rw [Bool.and_eq_false_iff]
  right
  rw [List.all_eq_false]
  exact ⟨xs[i]'h, List.getElem_mem h, by rw [h2]; decide⟩

end Go.Proofs.Ytcfecmoagfgnaaa

/- wire and the reference: bytes of replies. -/
namespace Go.Proofs.Ytcfecmoagfgnaaa
open Go.Vc Go.Pl

theorem in_is {P : List (List UInt8)} {xs : List Itm} : joinO (P ++ itemsIn xs) (!(false || !itemsGood xs)) = joinO (P ++ itemsP xs) (itemsGood xs) := by
  cases hg : itemsGood xs with
  | false => exact (joinO_none (by simp)).trans (joinO_none (by simp)).symm
  | true =>
    have : xs.length ≤ 4 := by unfold itemsGood at hg; rw [Bool.and_eq_true, decide_eq_true_iff] at hg; exact hg.1
    unfold itemsIn
    rw [if_pos this]; rfl

theorem putRep_w {S : List Snap} {H : List Chunk} {w : World} (ho : Own S H w) {x : Rep} (hx : x.ok) {q : Option Addr} {d : Nat} (hV : Arr 433 itemR' (keys H) w q x.items d) : Calls Try.prog 84 #[.agg (cat (repV x q d)).toArray] w (RetO S H (repO x)) := by
  have hx1 := hx.seq
  have hx2 := hx.tag
  have hx3 := hx.mark
  refine enter (G := Own (⟨w, keys H⟩ :: S) H) ho.keep Try.func84 rfl Try.ntmps84 rfl ?_
  refine VC.seq ?_
  refine VC.region ?_
  refine VL.box (L := repL) (ps := (repV (x) q d)) rfl rfl (repV_len hx) (fun g1 => ?_)
  refine VL.assign rfl ?_
  refine VL.assign rfl ?_
  refine VL.nil ?_
  refine VX.next ?_
  refine VC.seq ?_
  refine VC.region ?_
  refine VL.build (zs := [[.slice none 0 0], [.bool false]]) [] plan181 rfl trivial rfl ?_
  refine VL.box (L := [1, 1]) (ps := [[rowV none 0 0], [.bool false]]) rfl rfl rfl (fun g2 => ?_)
  refine VL.turn (fun w' hw => Own.newW hw) ?_
  refine VL.assign rfl ?_
  refine VL.nil ?_
  refine VX.next ?_
  refine VC.seq ?_
  refine VC.region ?_
  refine VL.move rfl ?_
  refine VL.fieldAddr rfl fo128_0 rfl ?_
  refine VL.load (v := .int .u16 (x.seq)) 2 0 rfl kd68 (fun _ h => h) rfl rfl rfl ?_
  refine VL.conv (by rw [Try.underlying68]; rfl) Try.underlying22 rfl (inr_u64 (by omega)) ?_
  refine VL.call Try.func116 rfl (by decide) rfl (fun w' hw => num_w hw (by simp only [List.length_append, List.length_cons, List.length_nil, List.length_map]; omega) (x.seq) (fits_small (by omega)) 2 (by decide) (by decide) (fits2 (by omega))) (fun v => ?_)
  refine VL.fact fun e5 => ?_
  subst e5
  refine VL.ex fun gp3 => VL.ex fun c4 => ?_
  refine VL.nil ?_
  refine VX.next ?_
  refine VC.seq ?_
  refine VC.region ?_
  refine VL.move rfl ?_
  refine VL.fieldAddr rfl fo128_1 rfl ?_
  refine VL.load (v := .int .u8 (x.tag)) 2 1 rfl kd5 (fun _ h => h) rfl rfl rfl ?_
  refine VL.conv (by rw [Try.underlying5]; rfl) Try.underlying22 rfl (inr_u64 (by omega)) ?_
  refine VL.call Try.func116 rfl (by decide) rfl (fun w' hw => num_w hw (by simp only [List.length_append, List.length_cons, List.length_nil, List.length_map]; omega) (x.tag) (fits_small (by omega)) 1 (by decide) (by decide) (fits1 (by omega))) (fun v => ?_)
  refine VL.fact fun e8 => ?_
  subst e8
  refine VL.ex fun gp6 => VL.ex fun c7 => ?_
  refine VL.nil ?_
  refine VX.next ?_
  refine VC.seq ?_
  refine VC.region ?_
  refine VL.move rfl ?_
  refine VL.fieldAddr rfl fo128_2 rfl ?_
  refine VL.load (v := .int .u16 (x.mark)) 2 2 rfl kd68 (fun _ h => h) rfl rfl rfl ?_
  refine VL.conv (by rw [Try.underlying68]; rfl) Try.underlying22 rfl (inr_u64 (by omega)) ?_
  refine VL.call Try.func116 rfl (by decide) rfl (fun w' hw => num_w hw (by simp only [List.length_append, List.length_cons, List.length_nil, List.length_map]; omega) (x.mark) (fits_small (by omega)) 2 (by decide) (by decide) (fits2 (by omega))) (fun v => ?_)
  refine VL.fact fun e11 => ?_
  subst e11
  refine VL.ex fun gp9 => VL.ex fun c10 => ?_
  refine VL.nil ?_
  refine VX.next ?_
  refine VC.seq ?_
  refine VC.region ?_
  refine VL.move rfl ?_
  refine VL.fieldAddr rfl fo128_3 rfl ?_
  refine VL.load (v := .slice q (x.items).length d) 2 3 rfl kd126 (fun _ h => h) rfl rfl rfl ?_
  refine VL.call Try.func146 rfl (by decide) rfl (fun w' hw => items_w hw (by simp only [List.length_append, List.length_cons, List.length_nil, List.length_map]; omega) hx.items (hV.now (s := ⟨w, _⟩) Mono_item hw (by repeat (first | exact List.mem_cons_self .. | apply List.mem_cons_of_mem)))) (fun v => ?_)
  refine VL.fact fun e14 => ?_
  subst e14
  refine VL.ex fun gp12 => VL.ex fun c13 => ?_
  refine VL.nil ?_
  refine VX.next ?_
  refine VC.seq ?_
  refine VC.region ?_
  refine VL.move rfl ?_
  refine VL.call Try.func118 rfl (by decide) rfl (fun w' hw => done_O hw) (fun v => ?_)
  refine VL.at (fun w15 h1w => ?_)
  obtain ⟨p16, c17, rfl, hO19, hA18⟩ := h1w
  refine VL.toOwn hO19 ?_
  refine VL.extract rfl rfl ?_
  refine VL.extract rfl rfl ?_
  refine VL.assign rfl ?_
  refine VL.assign rfl ?_
  refine VL.nil ?_
  refine VX.next ?_
  refine VC.ret ?_
  refine VX.ret2 rfl rfl rfl (fun we hw => ?_)
  exact postO ((show joinO (repP x ++ itemsIn x.items) (!(false || !itemsGood x.items)) = repO x from in_is)) ⟨p16, c17, rfl, hw.drop.sub (fun _ hs => by repeat (first | exact hs | apply List.mem_cons_of_mem)), (hA18.now (s := ⟨w15, _⟩) Mono.byte hw.drop (by repeat (first | exact List.mem_cons_self .. | apply List.mem_cons_of_mem)))⟩

theorem putTrn_w {S : List Snap} {H : List Chunk} {w : World} (ho : Own S H w) {x : Trn} (hx : x.ok) {q : Option Addr} {d : Nat} (hV : Arr 433 itemR' (keys H) w q x.items d) : Calls Try.prog 86 #[.agg (cat (trnV x q d)).toArray] w (RetO S H (trnO x)) := by
  have hx1 := hx.seq
  refine enter (G := Own (⟨w, keys H⟩ :: S) H) ho.keep Try.func86 rfl Try.ntmps86 rfl ?_
  refine VC.seq ?_
  refine VC.region ?_
  refine VL.box (L := trnL) (ps := (trnV (x) q d)) rfl rfl (trnV_len hx) (fun g1 => ?_)
  refine VL.assign rfl ?_
  refine VL.assign rfl ?_
  refine VL.nil ?_
  refine VX.next ?_
  refine VC.seq ?_
  refine VC.region ?_
  refine VL.build (zs := [[.slice none 0 0], [.bool false]]) [] plan181 rfl trivial rfl ?_
  refine VL.box (L := [1, 1]) (ps := [[rowV none 0 0], [.bool false]]) rfl rfl rfl (fun g2 => ?_)
  refine VL.turn (fun w' hw => Own.newW hw) ?_
  refine VL.assign rfl ?_
  refine VL.nil ?_
  refine VX.next ?_
  refine VC.seq ?_
  refine VC.region ?_
  refine VL.move rfl ?_
  refine VL.fieldAddr rfl fo132_0 rfl ?_
  refine VL.load (v := .int .u16 (x.seq)) 2 0 rfl kd68 (fun _ h => h) rfl rfl rfl ?_
  refine VL.conv (by rw [Try.underlying68]; rfl) Try.underlying22 rfl (inr_u64 (by omega)) ?_
  refine VL.call Try.func116 rfl (by decide) rfl (fun w' hw => num_w hw (by simp only [List.length_append, List.length_cons, List.length_nil, List.length_map]; omega) (x.seq) (fits_small (by omega)) 2 (by decide) (by decide) (fits2 (by omega))) (fun v => ?_)
  refine VL.fact fun e5 => ?_
  subst e5
  refine VL.ex fun gp3 => VL.ex fun c4 => ?_
  refine VL.nil ?_
  refine VX.next ?_
  refine VC.seq ?_
  refine VC.region ?_
  refine VL.move rfl ?_
  refine VL.fieldAddr rfl fo132_1 rfl ?_
  refine VL.load (v := .slice q (x.items).length d) 2 1 rfl kd126 (fun _ h => h) rfl rfl rfl ?_
  refine VL.call Try.func146 rfl (by decide) rfl (fun w' hw => items_w hw (by simp only [List.length_append, List.length_cons, List.length_nil, List.length_map]; omega) hx.items (hV.now (s := ⟨w, _⟩) Mono_item hw (by repeat (first | exact List.mem_cons_self .. | apply List.mem_cons_of_mem)))) (fun v => ?_)
  refine VL.fact fun e8 => ?_
  subst e8
  refine VL.ex fun gp6 => VL.ex fun c7 => ?_
  refine VL.nil ?_
  refine VX.next ?_
  refine VC.seq ?_
  refine VC.region ?_
  refine VL.move rfl ?_
  refine VL.call Try.func118 rfl (by decide) rfl (fun w' hw => done_O hw) (fun v => ?_)
  refine VL.at (fun w9 h1w => ?_)
  obtain ⟨p10, c11, rfl, hO13, hA12⟩ := h1w
  refine VL.toOwn hO13 ?_
  refine VL.extract rfl rfl ?_
  refine VL.extract rfl rfl ?_
  refine VL.assign rfl ?_
  refine VL.assign rfl ?_
  refine VL.nil ?_
  refine VX.next ?_
  refine VC.ret ?_
  refine VX.ret2 rfl rfl rfl (fun we hw => ?_)
  exact postO ((show joinO ([be 2 x.seq] ++ itemsIn x.items) (!(false || !itemsGood x.items)) = trnO x from in_is)) ⟨p10, c11, rfl, hw.drop.sub (fun _ hs => by repeat (first | exact hs | apply List.mem_cons_of_mem)), (hA12.now (s := ⟨w9, _⟩) Mono.byte hw.drop (by repeat (first | exact List.mem_cons_self .. | apply List.mem_cons_of_mem)))⟩

end Go.Proofs.Ytcfecmoagfgnaaa

/- 'append' to a full row that is only read: a new row. -/
namespace Go.Vc
section
variable {P : Program} {n : Nat} {Q : Exit → Act → World → Prop} {σ : Sl} {ops : Array Oper} {rest : List Oper} {d : Nat} {ty : TypeId} {pos : String} {aft : Array Edge} {S : List Snap} {H : List Chunk}
theorem VL.appendL {X : Type} {R : Rel X} {hR : Mono R} {x y : Operand} {t e : TypeId} {by_ : Nat} {z : Value} {tys : Array TypeId} {p q : Option Addr} {l r : List X} {cp c : Nat} (hE : Elem P t e 1 by_ z) (htys : tys = #[t, t]) (hx : ev σ x = some (.slice p l.length cp)) (hy : ev σ y = some (.slice q r.length c))
    (hl : 0 < l.length) (hr : 0 < r.length) (hc : cp < l.length + r.length) (hn : l.length + r.length ≤ 100000) (hb : (l.length + r.length) * by_ ≤ 140737488355328) (hA : ∀ w, Own S H w → Arr 1 R (keys H) w p l cp) (hB : ∀ w, Own S H w → Arr 1 R (keys H) w q r c) (h1 : ∀ K w vs y, R K w vs y → ok1 vs)
    (h : ∀ g c', VL P n ops Q rest ((d, rowV (some g) (l ++ r).length c') :: σ) (Own S (arow e 1 R hR (some g) c' (l ++ r) :: H))) (hdn : Nat.blt d n = true := by rfl) : VL P n ops Q (⟨some d, .call ⟨.builtin .append, #[x, y], tys⟩, ty, pos, aft, none⟩ :: rest) σ (Own S H) := by
  subst htys
  refine VL.act (K := fun v w' => ∃ g c', v = rowV (some g) (l ++ r).length c' ∧ Own S (arow e 1 R hR (some g) c' (l ++ r) :: H) w') rfl rfl hdn (fun a w ha hw => ?_) (fun v => VL.ex fun g => VL.ex fun c' => VL.fact fun e0 => by subst e0; exact h g c')
  obtain ⟨inf, hi1, hi2, hi3, hi4⟩ := hE.get
  have hA' := hA w hw
  have hB' := hB w hw
  obtain ⟨b, rfl⟩ := hA'.isAt hl
  obtain ⟨b', rfl⟩ := hB'.isAt hr
  obtain ⟨n1, k1, e1, r1, o1⟩ := hA'.cells
  obtain ⟨n2, k2, e2, r2, o2⟩ := hB'.cells
  rw [Nat.mul_one] at e1 e2
  have c1 : ∀ j v, n1[j]? = some v → w.cell? (b.add j) = some v := by
    rcases k1 with ⟨h0, _⟩ | ⟨a0, e0, h0⟩
    · cases h0
    · cases e0; exact h0
  have c2 : ∀ j v, n2[j]? = some v → w.cell? (b'.add j) = some v := by
    rcases k2 with ⟨h0, _⟩ | ⟨a0, e0, h0⟩
    · cases h0
    · cases e0; exact h0
  have hr' := run_append_grow (P := P) w t ty e inf z hE.under hi1 hi2 b l.length cp n1 (by simp [hi3, e1]) c1 b' r.length c n2 (by simp [hi3, e2]) c2 hc (by omega) (growslice_fits hc (by rw [hi4]; omega))
  have hok : ok1 (n1 ++ n2) := by
    intro u hu
    rcases List.mem_append.1 hu with hu | hu
    · obtain ⟨y, _, vs, hv, hy⟩ := o1 u hu
      exact h1 _ _ _ _ hy u hv
    · obtain ⟨y, _, vs, hv, hy⟩ := o2 u hu
      exact h1 _ _ _ _ hy u hv
  refine ⟨.slice (some ⟨w.heap.size, 0, none⟩) (l.length + r.length) (grownCap w (l.length + r.length) cp e), w.drew.alloc (.cells (n1.toArray ++ n2.toArray ++ Builtin.zeroCells z.cells (grownCap w (l.length + r.length) cp e - (l.length + r.length))) e), ?_, w.heap.size, grownCap w (l.length + r.length) cp e, (by rw [List.length_append]; rfl), ?_⟩
  · simp only [execOp, resolve, invoke, builtin, Sem.run_bind, List.map_toArray, List.map_cons, List.map_nil, ha.ev hx, ha.ev hy, hr', Result.andThen_ok, Sem.run_pure]
  · have hrow : (w.drew.alloc (.cells (n1.toArray ++ n2.toArray ++ Builtin.zeroCells z.cells (grownCap w (l.length + r.length) cp e - (l.length + r.length))) e)).ownsRow 0 e 1 (rowV (some w.heap.size) (l.length + r.length) (grownCap w (l.length + r.length) cp e)) (l.length + r.length) (n1 ++ n2) :=
      new_row (z := z.cells) (w := w) rfl (by simp) (by simp [e1, e2]) hE.zsize (grownCap_ge _ _ _ _) (grownCap_le_maxLen _ _ _ _ (by simp only [maxLen]; omega))
    have hs := ownsRow_sizes hrow
    have h2 := Own.grow (A := [row e 1 (some w.heap.size) (l.length + r.length) (grownCap w (l.length + r.length) cp e) (n1 ++ n2)]) (w' := w.drew.alloc (.cells (n1.toArray ++ n2.toArray ++ Builtin.zeroCells z.cells (grownCap w (l.length + r.length) cp e - (l.length + r.length))) e)) hw.keep rfl rfl rfl (by simp) (fun k hk => Go.heap_alloc_old w.drew _ hk) (by simp [keys, row]) (fun k hk => ?_) (fun a0 ha0 => ?_)
    · have h2 : Own (⟨w, keys H⟩ :: S) (row e 1 (some w.heap.size) (l.length + r.length) (grownCap w (l.length + r.length) cp e) (n1 ++ n2) :: H) _ := h2
      have h3 := Own.asArr (ys := l ++ r) hR h2 (by rw [List.length_append]) (fun j y hj => ?_)
      · exact h3.lose
      · refine hR ⟨w, keys H⟩ _ _ _ y (h2.after (List.mem_cons_self ..)) ?_
        rw [List.getElem?_append] at hj
        unfold part at r1 r2 ⊢
        split at hj
        · rename_i hlt
          have := r1 j y hj
          rw [Nat.mul_one] at this ⊢
          rw [List.drop_append_of_le_length (by omega), List.take_append_of_le_length (by rw [List.length_drop]; omega)]
          exact this
        · rename_i hge
          have := r2 (j - l.length) y hj
          rw [Nat.mul_one] at this ⊢
          rw [List.drop_append, List.drop_eq_nil_of_le (by omega), List.nil_append, e1]
          exact this
    · simp [keys, row] at hk
      subst hk
      exact ⟨Nat.le_refl _, hs.2.2.2.2 _ rfl⟩
    · rw [List.mem_singleton] at ha0; subst ha0
      exact ⟨hrow, hok⟩
end
end Go.Vc

/- The reference: lists of items behind a full row. -/
namespace Go.Proofs.Ytcfecmoagfgnaaa
open Go.Vc Go.Pl

theorem refItems_f {S : List Snap} {H : List Chunk} {w : World} (ho : Own S H w) {p0 : Option Addr} {ls : List (List UInt8)} (hL : Arr 1 bytesR (keys H) w p0 ls ls.length) (h1 : 0 < ls.length) (hp : ls.length ≤ 90000) {xs : List Itm} (hxs : ∀ x ∈ xs, x.ok) {p : Option Addr} {c : Nat} (hX : Arr 433 itemR' (keys H) w p xs c) : Calls Try.prog 147 #[.slice p0 ls.length ls.length, .slice p xs.length c] w (RetO S H (joinO (ls ++ itemsP xs) (itemsGood xs))) := by
  have hsm := hX.small
  refine enter (G := Own (⟨w, keys H⟩ :: S) H) ho.keep Try.func147 rfl Try.ntmps147 rfl ?_
  refine VC.seq ?_
  refine VC.region ?_
  refine VL.assign rfl ?_
  refine VL.assign rfl ?_
  refine VL.nil ?_
  refine VX.next ?_
  refine VC.seq ?_
  refine VC.seq ?_
  refine VC.region ?_
  refine VL.move rfl ?_
  refine VL.len Try.underlying126 rfl rfl ?_
  refine VL.gtr rfl rfl ?_
  refine VL.case (fun h0 => ?_) (fun h0 => ?_)
  · have h0 : ¬ xs.length ≤ 4 := by omega
    refine VL.nil ?_
    refine VX.next ?_
    refine VC.yes rfl ?_
    refine VC.seq ?_
    refine VC.region ?_
    refine VL.assign rfl ?_
    refine VL.assign rfl ?_
    refine VL.nil ?_
    refine VX.next ?_
    refine VC.ret ?_
    refine VX.then_ret ?_
    refine VX.ret2 rfl rfl rfl (fun we hw => ?_)
    exact postO ((list_none (by unfold itemsGood; rw [decide_eq_false h0, Bool.false_and]))) ⟨none, 0, rfl, hw.sub (fun _ hs => by repeat (first | exact hs | apply List.mem_cons_of_mem)), Arr.none⟩
  · have h0 : xs.length ≤ 4 := by omega
    refine VL.nil ?_
    refine VX.next ?_
    refine VC.no rfl ?_
    refine VC.skip ?_
    refine VX.next ?_
    refine VC.seq ?_
    refine VC.seq ?_
    refine VC.region ?_
    refine VL.assign rfl ?_
    refine VL.nil ?_
    refine VX.next ?_
    refine VC.block ?_
    refine VC.loop (X := Nat × Option (Option Nat × Nat)) (fun (i, st) => [(0, match st with | none => .slice p0 ls.length ls.length | some (gq, cq) => rowV gq (ls ++ itemsP (xs.take i)).length cq), (1, .slice p xs.length c), (6, .int .i64 (i : Int))]) (fun (i, st) w' => (i ≤ xs.length ∧ ((xs.take i).all fun x => (itemO x).isSome) = true ∧ (st = none → i = 0)) ∧ (match st with | none => Own (⟨w, keys H⟩ :: S) H w' | some (gq, cq) => Own (⟨w, keys H⟩ :: S) (brow gq cq (ls ++ itemsP (xs.take i)) :: H) w')) (fun (i, _) => xs.length - i) (0, none) ⟨rfl, rfl, rfl, trivial⟩ (fun w' h => ⟨⟨Nat.zero_le _, rfl, fun _ => rfl⟩, h.sub (fun _ hs => by repeat (first | exact hs | apply List.mem_cons_of_mem))⟩) (fun (i, st) => VC.fact fun ⟨hi, hall, hst⟩ => ?_)
    · have htk : (itemsP (List.take i xs)).length ≤ i := by rw [itemsP_length]; exact List.length_take_le _ _
      refine VC.seq ?_
      refine VC.seq ?_
      rcases st with _ | ⟨gq, cq⟩
      · have hi0 : i = 0 := hst rfl
        have e0 : itemsP (xs.take i) = [] := by rw [hi0]; rfl
        refine VC.turn (G' := Own (⟨w, keys H⟩ :: S) H) (fun _ h => h) ?_
        refine VC.region ?_
        refine VL.move rfl ?_
        refine VL.move rfl ?_
        refine VL.len Try.underlying126 rfl rfl ?_
        refine VL.lss rfl rfl ?_
        refine VL.case (fun h4 => ?_) (fun h4 => ?_)
        · have hlt : i < xs.length := by omega
          refine VL.nil ?_
          refine VX.next ?_
          refine VC.yes rfl ?_
          refine VC.skip ?_
          refine VX.next ?_
          refine VC.seq ?_
          refine VC.block ?_
          refine VC.seq ?_
          refine VC.region ?_
          refine VL.move rfl ?_
          refine VL.move rfl ?_
          refine VL.index (xs := xs) rfl rfl Try.underlying126 sz126 hX (by omega) (by have hi := hlt; omega) ?_
          refine VL.elems (s := ⟨w, _⟩) (m := 433) (i) 0 rfl kd87 (fun _ h => h) (by repeat (first | exact List.mem_cons_self .. | apply List.mem_cons_of_mem)) hX (List.getElem?_eq_getElem hlt) (by simp) (by decide) (fun vs hl hr => ?_)
          obtain ⟨p3, c4, q5, d6, hy2, rfl, hA7, hV8⟩ := hr
          refine VL.newv (v' := .agg (cat (itemV (xs[i]'hlt) p3 c4 q5 d6)).toArray) (by rw [List.drop_zero, List.take_of_length_le (by rw [hl]; decide)]) ?_
          refine VL.call Try.func57 rfl (by decide) rfl (fun w' hw => refItem_w hw (x := (xs[i]'hlt)) (hxs _ (List.getElem_mem hlt)) (hA7.now (s := ⟨w, _⟩) Mono.byte hw (by repeat (first | exact List.mem_cons_self .. | apply List.mem_cons_of_mem))) (hV8.now (s := ⟨w, _⟩) Mono_vouch hw (by repeat (first | exact List.mem_cons_self .. | apply List.mem_cons_of_mem)))) (fun v => ?_)
          refine VL.at (fun w9 h1w => ?_)
          obtain ⟨p10, c11, rfl, hO13, hA12⟩ := h1w
          refine VL.toOwn hO13 ?_
          refine VL.move rfl ?_
          refine VL.extract rfl rfl ?_
          refine VL.extract rfl rfl ?_
          refine VL.assign rfl ?_
          refine VL.assign rfl ?_
          refine VL.nil ?_
          refine VX.next ?_
          refine VC.seq ?_
          refine VC.seq ?_
          refine VC.region ?_
          refine VL.move rfl ?_
          cases hs : (itemO (xs[i]'hlt)).isSome
          · refine VL.not rfl ?_
            refine VL.nil ?_
            refine VX.next ?_
            refine VC.yes rfl ?_
            refine VC.seq ?_
            refine VC.region ?_
            refine VL.assign rfl ?_
            refine VL.assign rfl ?_
            refine VL.nil ?_
            refine VX.next ?_
            refine VC.ret ?_
            refine VX.then_ret ?_
            refine VX.block_ret ?_
            refine VX.then_ret ?_
            refine VX.then_ret ?_
            refine VX.block_ret ?_
            refine VX.then_ret ?_
            refine VX.ret2 rfl rfl rfl (fun we hw => ?_)
            exact postO ((list_none (not_all hlt hs))) ⟨none, 0, rfl, hw.sub (fun _ hs => by repeat (first | exact hs | apply List.mem_cons_of_mem)), Arr.none⟩
          · refine VL.not rfl ?_
            refine VL.nil ?_
            refine VX.next ?_
            refine VC.no rfl ?_
            refine VC.skip ?_
            refine VX.next ?_
            refine VC.region ?_
            refine VL.move rfl ?_
            refine VL.move rfl ?_
            refine VL.lit el31 rfl rfl rfl (by simp [Value.cells]) (by intro u hu; simp [Value.cells] at hu; rcases hu with rfl <;> rfl) (fun g14 => ?_)
            refine VL.letRowS [((itemO ((xs[i]'hlt))).getD [])] rfl (fun w' hw => ⟨⟨_, _, rfl, (hA12.now (s := ⟨w9, _⟩) Mono.byte hw (by repeat (first | exact List.mem_cons_self .. | apply List.mem_cons_of_mem)))⟩, trivial⟩) (fun w15 hO16 hA17 => ?_)
            refine VL.appendL (hR := Mono.slice Mono.byte) (l := ls) (r := [((itemO ((xs[i]'hlt))).getD [])]) el31 rfl rfl rfl h1 (by simp) (by simp only [List.length_cons, List.length_nil]; omega) (by simp only [List.length_cons, List.length_nil]; omega) (by simp only [List.length_cons, List.length_nil]; omega) (fun _ hw => (hL.now (s := ⟨w, _⟩) (Mono.slice Mono.byte) hw (by repeat (first | exact List.mem_cons_self .. | apply List.mem_cons_of_mem)))) (fun _ hw => (hA17.now (s := ⟨w15, _⟩) (Mono.slice Mono.byte) hw (by repeat (first | exact List.mem_cons_self .. | apply List.mem_cons_of_mem)))) bytesR_ok1 (fun gA cA => ?_)
            refine VL.turn (G' := Own _ (brow (some gA) cA ((ls ++ [((itemO ((xs[i]'hlt))).getD [])])) :: H)) (fun _ h => h) ?_
            refine VL.assign rfl ?_
            refine VL.nil ?_
            refine VX.block_normal ?_
            refine VX.next ?_
            refine VC.region ?_
            refine VL.move rfl ?_
            refine VL.add rfl rfl (by simp only [InR]; omega) ?_
            refine VL.assign rfl ?_
            refine VL.nil ?_
            have el : ls ++ [(itemO (xs[i]'hlt)).getD []] = ls ++ itemsP (xs.take (i + 1)) := by rw [← items_next hlt, e0]; rfl
            refine VX.round (i + 1, some ((some gA), cA)) ⟨congrArg (fun l : List (List UInt8) => some (rowV (some gA) l.length cA)) el, rfl, rfl, trivial⟩ (fun w' h => ⟨⟨by omega, all_some hlt hall hs, fun h => by cases h⟩, ?_⟩) (by show xs.length - (i + 1) < xs.length - i; omega)
            show Own (⟨w, keys H⟩ :: S) (brow (some gA) cA (ls ++ itemsP (xs.take (i + 1))) :: H) w'
            rw [← el]
            exact h.sub (fun _ hs => by repeat (first | exact hs | apply List.mem_cons_of_mem))
        · have hie : i = xs.length := by omega
          refine VL.nil ?_
          refine VX.next ?_
          refine VC.no rfl ?_
          refine VC.exit ?_
          refine VX.then_exit ?_
          refine VX.then_exit ?_
          refine VX.block_here ?_
          refine VX.next ?_
          refine VC.seq ?_
          refine VC.region ?_
          refine VL.move rfl ?_
          refine VL.call Try.func31 rfl (by decide) rfl (fun w' hw => join_O (ls := ls) hw (hL.now (s := ⟨w, _⟩) (Mono.slice Mono.byte) hw (by repeat (first | exact List.mem_cons_self .. | apply List.mem_cons_of_mem)))) (fun v => ?_)
          refine VL.at (fun w18 h1w => ?_)
          obtain ⟨p19, c20, rfl, hO22, hA21⟩ := h1w
          refine VL.toOwn hO22 ?_
          refine VL.extract rfl rfl ?_
          refine VL.extract rfl rfl ?_
          refine VL.assign rfl ?_
          refine VL.assign rfl ?_
          refine VL.nil ?_
          refine VX.next ?_
          refine VC.ret ?_
          refine VX.ret2 rfl rfl rfl (fun we hw => ?_)
          exact postO ((show joinO ls true = _ from by have e := list_good (ls := ls) h0 hie hall; rw [e0, List.append_nil] at e; exact e)) ⟨p19, c20, rfl, hw.sub (fun _ hs => by repeat (first | exact hs | apply List.mem_cons_of_mem)), (hA21.now (s := ⟨w18, _⟩) Mono.byte hw (by repeat (first | exact List.mem_cons_self .. | apply List.mem_cons_of_mem)))⟩
      · refine VC.turn (G' := Own (⟨w, keys H⟩ :: S) (brow gq cq (ls ++ itemsP (xs.take i)) :: H)) (fun _ h => h) ?_
        refine VC.region ?_
        refine VL.move rfl ?_
        refine VL.move rfl ?_
        refine VL.len Try.underlying126 rfl rfl ?_
        refine VL.lss rfl rfl ?_
        refine VL.case (fun h4 => ?_) (fun h4 => ?_)
        · have hlt : i < xs.length := by omega
          refine VL.nil ?_
          refine VX.next ?_
          refine VC.yes rfl ?_
          refine VC.skip ?_
          refine VX.next ?_
          refine VC.seq ?_
          refine VC.block ?_
          refine VC.seq ?_
          refine VC.region ?_
          refine VL.move rfl ?_
          refine VL.move rfl ?_
          refine VL.index (xs := xs) rfl rfl Try.underlying126 sz126 hX (by omega) (by have hi := hlt; omega) ?_
          refine VL.elems (s := ⟨w, _⟩) (m := 433) (i) 0 rfl kd87 (fun _ h => h) (by repeat (first | exact List.mem_cons_self .. | apply List.mem_cons_of_mem)) hX (List.getElem?_eq_getElem hlt) (by simp) (by decide) (fun vs hl hr => ?_)
          obtain ⟨p25, c26, q27, d28, hy24, rfl, hA29, hV30⟩ := hr
          refine VL.newv (v' := .agg (cat (itemV (xs[i]'hlt) p25 c26 q27 d28)).toArray) (by rw [List.drop_zero, List.take_of_length_le (by rw [hl]; decide)]) ?_
          refine VL.call Try.func57 rfl (by decide) rfl (fun w' hw => refItem_w hw (x := (xs[i]'hlt)) (hxs _ (List.getElem_mem hlt)) (hA29.now (s := ⟨w, _⟩) Mono.byte hw (by repeat (first | exact List.mem_cons_self .. | apply List.mem_cons_of_mem))) (hV30.now (s := ⟨w, _⟩) Mono_vouch hw (by repeat (first | exact List.mem_cons_self .. | apply List.mem_cons_of_mem)))) (fun v => ?_)
          refine VL.at (fun w31 h1w => ?_)
          obtain ⟨p32, c33, rfl, hO35, hA34⟩ := h1w
          refine VL.toOwn hO35 ?_
          refine VL.move rfl ?_
          refine VL.extract rfl rfl ?_
          refine VL.extract rfl rfl ?_
          refine VL.assign rfl ?_
          refine VL.assign rfl ?_
          refine VL.nil ?_
          refine VX.next ?_
          refine VC.seq ?_
          refine VC.seq ?_
          refine VC.region ?_
          refine VL.move rfl ?_
          cases hs : (itemO (xs[i]'hlt)).isSome
          · refine VL.not rfl ?_
            refine VL.nil ?_
            refine VX.next ?_
            refine VC.yes rfl ?_
            refine VC.seq ?_
            refine VC.region ?_
            refine VL.assign rfl ?_
            refine VL.assign rfl ?_
            refine VL.nil ?_
            refine VX.next ?_
            refine VC.ret ?_
            refine VX.then_ret ?_
            refine VX.block_ret ?_
            refine VX.then_ret ?_
            refine VX.then_ret ?_
            refine VX.block_ret ?_
            refine VX.then_ret ?_
            refine VX.ret2 rfl rfl rfl (fun we hw => ?_)
            exact postO ((list_none (not_all hlt hs))) ⟨none, 0, rfl, hw.drop.sub (fun _ hs => by repeat (first | exact hs | apply List.mem_cons_of_mem)), Arr.none⟩
          · refine VL.not rfl ?_
            refine VL.nil ?_
            refine VX.next ?_
            refine VC.no rfl ?_
            refine VC.skip ?_
            refine VX.next ?_
            refine VC.region ?_
            refine VL.move rfl ?_
            refine VL.move rfl ?_
            refine VL.lit el31 rfl rfl rfl (by simp [Value.cells]) (by intro u hu; simp [Value.cells] at hu; rcases hu with rfl <;> rfl) (fun g36 => ?_)
            refine VL.letRowS [((itemO ((xs[i]'hlt))).getD [])] rfl (fun w' hw => ⟨⟨_, _, rfl, (hA34.now (s := ⟨w31, _⟩) Mono.byte hw (by repeat (first | exact List.mem_cons_self .. | apply List.mem_cons_of_mem)))⟩, trivial⟩) (fun w37 hO38 hA39 => ?_)
            refine VL.appends (R := bytesR) (hR := Mono.slice Mono.byte) (ys := (ls ++ itemsP (xs.take i))) (zs := [((itemO ((xs[i]'hlt))).getD [])]) 0 el31 rfl rfl rfl (fun _ h => h) rfl (fun _ hw => (hA39.now (s := ⟨w37, _⟩) (Mono.slice Mono.byte) hw (by repeat (first | exact List.mem_cons_self .. | apply List.mem_cons_of_mem)))) bytesR_ok1 (by simp only [List.length_append, List.length_cons, List.length_nil, List.length_map]; omega) (fun g40 c41 => ?_) (by simp only [List.length_append, List.length_cons, List.length_nil, List.length_map]; omega)
            refine VL.turn (G' := Own _ (brow g40 c41 (((ls ++ itemsP (xs.take i)) ++ [((itemO ((xs[i]'hlt))).getD [])])) :: H)) (fun _ h => h) ?_
            refine VL.assign rfl ?_
            refine VL.nil ?_
            refine VX.block_normal ?_
            refine VX.next ?_
            refine VC.region ?_
            refine VL.move rfl ?_
            refine VL.add rfl rfl (by simp only [InR]; omega) ?_
            refine VL.assign rfl ?_
            refine VL.nil ?_
            have el : ls ++ itemsP (xs.take i) ++ [(itemO (xs[i]'hlt)).getD []] = ls ++ itemsP (xs.take (i + 1)) := by rw [← items_next hlt, List.append_assoc]
            refine VX.round (i + 1, some (g40, c41)) ⟨congrArg (fun l : List (List UInt8) => some (rowV g40 l.length c41)) el, rfl, rfl, trivial⟩ (fun w' h => ⟨⟨by omega, all_some hlt hall hs, fun h => by cases h⟩, ?_⟩) (by show xs.length - (i + 1) < xs.length - i; omega)
            show Own (⟨w, keys H⟩ :: S) (brow g40 c41 (ls ++ itemsP (xs.take (i + 1))) :: H) w'
            rw [← el]
            exact h.sub (fun _ hs => by repeat (first | exact hs | apply List.mem_cons_of_mem))
        · have hie : i = xs.length := by omega
          refine VL.nil ?_
          refine VX.next ?_
          refine VC.no rfl ?_
          refine VC.exit ?_
          refine VX.then_exit ?_
          refine VX.then_exit ?_
          refine VX.block_here ?_
          refine VX.next ?_
          refine VC.seq ?_
          refine VC.letArr (fun wr hOr hAr => ?_)
          refine VC.region ?_
          refine VL.move rfl ?_
          refine VL.call Try.func31 rfl (by decide) rfl (fun w' hw => join_O (ls := (ls ++ itemsP (xs.take i))) hw (hAr.now (s := ⟨wr, _⟩) (Mono.slice Mono.byte) hw (by repeat (first | exact List.mem_cons_self .. | apply List.mem_cons_of_mem)))) (fun v => ?_)
          refine VL.at (fun w42 h1w => ?_)
          obtain ⟨p43, c44, rfl, hO46, hA45⟩ := h1w
          refine VL.toOwn hO46 ?_
          refine VL.extract rfl rfl ?_
          refine VL.extract rfl rfl ?_
          refine VL.assign rfl ?_
          refine VL.assign rfl ?_
          refine VL.nil ?_
          refine VX.next ?_
          refine VC.ret ?_
          refine VX.ret2 rfl rfl rfl (fun we hw => ?_)
          exact postO ((list_good h0 hie hall)) ⟨p43, c44, rfl, hw.sub (fun _ hs => by repeat (first | exact hs | apply List.mem_cons_of_mem)), (hA45.now (s := ⟨w42, _⟩) Mono.byte hw (by repeat (first | exact List.mem_cons_self .. | apply List.mem_cons_of_mem)))⟩

end Go.Proofs.Ytcfecmoagfgnaaa

/- The reference: bytes of replies. -/
namespace Go.Proofs.Ytcfecmoagfgnaaa
open Go.Vc Go.Pl

/-- Slices in a row, and how much room it has. -/
def capLF {K : List Nat} (ls : List (List UInt8)) (c : Nat) : SFact K := ⟨fun v w => ∃ p, v = .slice p ls.length c ∧ Arr 1 bytesR K w p ls c, false, fun _ _ w _ hs ⟨p, e, h⟩ => ⟨p, e, Arr.after (s := ⟨w, K⟩) h (Mono.slice Mono.byte) ⟨hs, fun _ hk => .inl hk⟩⟩⟩

theorem refRep_w {S : List Snap} {H : List Chunk} {w : World} (ho : Own S H w) {x : Rep} (hx : x.ok) {q : Option Addr} {d : Nat} (hV : Arr 433 itemR' (keys H) w q x.items d) : Calls Try.prog 85 #[.agg (cat (repV x q d)).toArray] w (RetO S H (repO x)) := by
  have hx1 := hx.seq
  have hx2 := hx.tag
  have hx3 := hx.mark
  refine enter (G := Own (⟨w, keys H⟩ :: S) H) ho.keep Try.func85 rfl Try.ntmps85 rfl ?_
  refine VC.seq ?_
  refine VC.region ?_
  refine VL.box (L := repL) (ps := (repV (x) q d)) rfl rfl (repV_len hx) (fun g1 => ?_)
  refine VL.assign rfl ?_
  refine VL.assign rfl ?_
  refine VL.nil ?_
  refine VX.next ?_
  refine VC.seq ?_
  refine VC.letCells 0 rfl (fun w2 hO4 hF3 => ?_)
  apply VC.anyTA 17 1019 (F := [eqF _, eqF _, eqF _, bytesF (be 2 (x.seq)), eqF _, eqF _, capF (be 1 (x.tag)) 1, eqF _, eqF _, eqF _, bytesF (be 2 (x.mark)), capLF [be 2 (x.seq), be 1 (x.tag), be 2 (x.mark)] 3, eqF _, eqF _, outF (joinO ([be 2 (x.seq), be 1 (x.tag), be 2 (x.mark)] ++ itemsP x.items) (itemsGood x.items)), bytesF ((joinO ([be 2 (x.seq), be 1 (x.tag), be 2 (x.mark)] ++ itemsP x.items) (itemsGood x.items)).getD []), eqF _]) [⟨[], [1]⟩, ⟨[(4, 0)], []⟩, ⟨[(5, 1)], []⟩, ⟨[(6, 2)], []⟩, ⟨[], [1]⟩, ⟨[(8, 4)], []⟩, ⟨[(9, 5)], []⟩, ⟨[], [1]⟩, ⟨[(11, 7)], []⟩, ⟨[(12, 8)], []⟩, ⟨[(13, 9)], []⟩, ⟨[(7, 3), (10, 6), (14, 10)], []⟩, ⟨[], [1]⟩, ⟨[(16, 12)], []⟩, ⟨[(15, 11), (17, 13)], []⟩, ⟨[(18, 14)], []⟩, ⟨[(18, 14)], []⟩] [(19, 15), (20, 16)] [0, 2, 3] rfl (by kernel_rfl) (by kernel_rfl) rfl rfl (by kernel_rfl) (by kernel_rfl) (by kernel_rfl) rfl ?obs1 ?end1
  case obs1 =>
    refine Obs.cons ?_ ?_
    · refine obS (by kernel_rfl) rfl rfl (fun ph1 w1 hO1 => ?_)
      refine VL.fieldAddr rfl fo128_0 rfl ?_
      exact VL.finS hO1 rfl rfl
    refine Obs.cons ?_ ?_
    · refine obS (by kernel_rfl) rfl rfl (fun ph1 w1 hO1 => ?_)
      rintro _ rfl
      refine VL.loadF (s := ⟨w2, _⟩) (v := .int .u16 (x.seq)) 0 rfl kd68 hF3 (fun _ e => e ▸ Still.ok hO1 (by repeat (first | exact List.mem_cons_self .. | apply List.mem_cons_of_mem))) rfl rfl ?_
      exact VL.finS hO1 rfl rfl
    refine Obs.cons ?_ ?_
    · refine obS (by kernel_rfl) rfl rfl (fun ph1 w1 hO1 => ?_)
      rintro _ rfl
      refine VL.conv (by rw [Try.underlying68]; rfl) Try.underlying3 rfl (by simp only [InR]; omega) ?_
      exact VL.finS hO1 rfl rfl
    refine Obs.cons ?_ ?_
    · refine ob (by kernel_rfl) rfl (by kernel_rfl) rfl (fun w1 hO1 => ?_)
      rintro _ rfl
      refine VL.toOwn hO1 ?_
      refine VL.call Try.func108 rfl (by decide) rfl (fun w' hw => num_S hw (x.seq) 2 (by omega) (by decide) (by decide) (fits2 (by omega))) (fun v => ?_)
      refine VL.at (fun w5 h1w => ?_)
      obtain ⟨p6, c7, rfl, hO9, hA8⟩ := h1w
      refine VL.toOwn hO9 ?_
      exact VL.finO rfl (fun _ h => h.sub (fun _ hs => by repeat (first | exact hs | apply List.mem_cons_of_mem))) (fun _ h => ⟨_, _, rfl, (hA8.now (s := ⟨w5, _⟩) Mono.byte h (by repeat (first | exact List.mem_cons_self .. | apply List.mem_cons_of_mem)))⟩)
    refine Obs.cons ?_ ?_
    · refine obS (by kernel_rfl) rfl rfl (fun ph1 w1 hO1 => ?_)
      refine VL.fieldAddr rfl fo128_1 rfl ?_
      exact VL.finS hO1 rfl rfl
    refine Obs.cons ?_ ?_
    · refine obS (by kernel_rfl) rfl rfl (fun ph1 w1 hO1 => ?_)
      rintro _ rfl
      refine VL.loadF (s := ⟨w2, _⟩) (v := .int .u8 (x.tag)) 1 rfl kd5 hF3 (fun _ e => e ▸ Still.ok hO1 (by repeat (first | exact List.mem_cons_self .. | apply List.mem_cons_of_mem))) rfl rfl ?_
      exact VL.finS hO1 rfl rfl
    refine Obs.cons ?_ ?_
    · refine ob (by kernel_rfl) rfl (by kernel_rfl) rfl (fun w1 hO1 => ?_)
      rintro _ rfl
      refine VL.toOwn hO1 ?_
      refine VL.litByte (m := x.tag) el24 rfl (by have hm := hx.tag; omega) (fun g10 w11 hO12 hA13 => ?_)
      exact VL.finO rfl (fun _ h => h.sub (fun _ hs => by repeat (first | exact hs | apply List.mem_cons_of_mem))) (fun _ h => ⟨_, rfl, (hA13.now (s := ⟨w11, _⟩) Mono.byte h (by repeat (first | exact List.mem_cons_self .. | apply List.mem_cons_of_mem)))⟩)
    refine Obs.cons ?_ ?_
    · refine obS (by kernel_rfl) rfl rfl (fun ph1 w1 hO1 => ?_)
      refine VL.fieldAddr rfl fo128_2 rfl ?_
      exact VL.finS hO1 rfl rfl
    refine Obs.cons ?_ ?_
    · refine obS (by kernel_rfl) rfl rfl (fun ph1 w1 hO1 => ?_)
      rintro _ rfl
      refine VL.loadF (s := ⟨w2, _⟩) (v := .int .u16 (x.mark)) 2 rfl kd68 hF3 (fun _ e => e ▸ Still.ok hO1 (by repeat (first | exact List.mem_cons_self .. | apply List.mem_cons_of_mem))) rfl rfl ?_
      exact VL.finS hO1 rfl rfl
    refine Obs.cons ?_ ?_
    · refine obS (by kernel_rfl) rfl rfl (fun ph1 w1 hO1 => ?_)
      rintro _ rfl
      refine VL.conv (by rw [Try.underlying68]; rfl) Try.underlying3 rfl (by simp only [InR]; omega) ?_
      exact VL.finS hO1 rfl rfl
    refine Obs.cons ?_ ?_
    · refine ob (by kernel_rfl) rfl (by kernel_rfl) rfl (fun w1 hO1 => ?_)
      rintro _ rfl
      refine VL.toOwn hO1 ?_
      refine VL.call Try.func108 rfl (by decide) rfl (fun w' hw => num_S hw (x.mark) 2 (by omega) (by decide) (by decide) (fits2 (by omega))) (fun v => ?_)
      refine VL.at (fun w14 h1w => ?_)
      obtain ⟨p15, c16, rfl, hO18, hA17⟩ := h1w
      refine VL.toOwn hO18 ?_
      exact VL.finO rfl (fun _ h => h.sub (fun _ hs => by repeat (first | exact hs | apply List.mem_cons_of_mem))) (fun _ h => ⟨_, _, rfl, (hA17.now (s := ⟨w14, _⟩) Mono.byte h (by repeat (first | exact List.mem_cons_self .. | apply List.mem_cons_of_mem)))⟩)
    refine Obs.cons ?_ ?_
    · refine ob (by kernel_rfl) rfl (by kernel_rfl) rfl (fun w1 hO1 => ?_)
      rintro _ ⟨p1_3, c1_3, rfl, hA1_3⟩ _ ⟨p1_6, rfl, hA1_6⟩ _ ⟨p1_10, c1_10, rfl, hA1_10⟩
      refine VL.toOwn hO1 ?_
      refine VL.lit el31 rfl rfl rfl (by simp [Value.cells]) (by intro u hu; simp [Value.cells] at hu; rcases hu with rfl | rfl | rfl <;> rfl) (fun g19 => ?_)
      refine VL.letRowS [be 2 (x.seq), be 1 (x.tag), be 2 (x.mark)] rfl (fun w' hw => ⟨⟨_, _, rfl, (hA1_3.now (s := ⟨w1, _⟩) Mono.byte hw (by repeat (first | exact List.mem_cons_self .. | apply List.mem_cons_of_mem)))⟩, ⟨⟨_, _, rfl, (hA1_6.now (s := ⟨w1, _⟩) Mono.byte hw (by repeat (first | exact List.mem_cons_self .. | apply List.mem_cons_of_mem)))⟩, ⟨⟨_, _, rfl, (hA1_10.now (s := ⟨w1, _⟩) Mono.byte hw (by repeat (first | exact List.mem_cons_self .. | apply List.mem_cons_of_mem)))⟩, trivial⟩⟩⟩) (fun w20 hO21 hA22 => ?_)
      exact VL.finO rfl (fun _ h => h.sub (fun _ hs => by repeat (first | exact hs | apply List.mem_cons_of_mem))) (fun _ h => ⟨_, rfl, (hA22.now (s := ⟨w20, _⟩) (Mono.slice Mono.byte) h (by repeat (first | exact List.mem_cons_self .. | apply List.mem_cons_of_mem)))⟩)
    refine Obs.cons ?_ ?_
    · refine obS (by kernel_rfl) rfl rfl (fun ph1 w1 hO1 => ?_)
      refine VL.fieldAddr rfl fo128_3 rfl ?_
      exact VL.finS hO1 rfl rfl
    refine Obs.cons ?_ ?_
    · refine obS (by kernel_rfl) rfl rfl (fun ph1 w1 hO1 => ?_)
      rintro _ rfl
      refine VL.loadF (s := ⟨w2, _⟩) (v := .slice q (x.items).length d) 3 rfl kd126 hF3 (fun _ e => e ▸ Still.ok hO1 (by repeat (first | exact List.mem_cons_self .. | apply List.mem_cons_of_mem))) rfl rfl ?_
      exact VL.finS hO1 rfl rfl
    refine Obs.cons ?_ ?_
    · refine ob (by kernel_rfl) rfl (by kernel_rfl) rfl (fun w1 hO1 => ?_)
      rintro _ ⟨p1_11, rfl, hA1_11⟩ _ rfl
      refine VL.toOwn hO1 ?_
      refine VL.call Try.func147 rfl (by decide) rfl (fun w' hw => refItems_f (ls := [be 2 (x.seq), be 1 (x.tag), be 2 (x.mark)]) hw (hA1_11.now (s := ⟨w1, _⟩) (Mono.slice Mono.byte) hw (by repeat (first | exact List.mem_cons_self .. | apply List.mem_cons_of_mem))) (by simp) (by simp only [List.length_append, List.length_cons, List.length_nil, List.length_map]; omega) hx.items (hV.now (s := ⟨w, _⟩) Mono_item hw (by repeat (first | exact List.mem_cons_self .. | apply List.mem_cons_of_mem)))) (fun v => ?_)
      refine VL.at (fun w23 h1w => ?_)
      obtain ⟨p24, c25, rfl, hO27, hA26⟩ := h1w
      refine VL.toOwn hO27 ?_
      exact VL.finO rfl (fun _ h => h.sub (fun _ hs => by repeat (first | exact hs | apply List.mem_cons_of_mem))) (fun _ h => ⟨_, _, rfl, (hA26.now (s := ⟨w23, _⟩) Mono.byte h (by repeat (first | exact List.mem_cons_self .. | apply List.mem_cons_of_mem)))⟩)
    refine Obs.cons ?_ ?_
    · refine obS (by kernel_rfl) rfl rfl (fun ph1 w1 hO1 => ?_)
      rintro _ ⟨p1_14, c1_14, rfl, hA1_14⟩
      refine VL.extract rfl rfl ?_
      exact VL.finS hO1 rfl ⟨_, _, rfl, hA1_14⟩
    refine Obs.cons ?_ ?_
    · refine obS (by kernel_rfl) rfl rfl (fun ph1 w1 hO1 => ?_)
      rintro _ ⟨p1_14, c1_14, rfl, hA1_14⟩
      refine VL.extract rfl rfl ?_
      exact VL.finS hO1 rfl rfl
    exact Obs.nil
  case end1 =>
    intro w1 hO1
    rintro _ ⟨pz, cz, rfl, hz⟩ _ rfl
    refine VL.toOwn hO1 ?_
    refine VL.assign rfl ?_
    refine VL.assign rfl ?_
    refine VL.nil ?_
    refine VX.next ?_
    refine VC.ret ?_
    refine VX.ret2 rfl rfl rfl (fun we hw => ?_)
    exact postO ((show joinO (repP x ++ itemsP x.items) (itemsGood x.items) = repO x from rfl)) ⟨pz, cz, rfl, hw.sub (fun _ hs => by repeat (first | exact hs | apply List.mem_cons_of_mem)), (hz.now (s := ⟨w1, _⟩) Mono.byte hw (by repeat (first | exact List.mem_cons_self .. | apply List.mem_cons_of_mem)))⟩

theorem refTrn_w {S : List Snap} {H : List Chunk} {w : World} (ho : Own S H w) {x : Trn} (hx : x.ok) {q : Option Addr} {d : Nat} (hV : Arr 433 itemR' (keys H) w q x.items d) : Calls Try.prog 87 #[.agg (cat (trnV x q d)).toArray] w (RetO S H (trnO x)) := by
  have hx1 := hx.seq
  refine enter (G := Own (⟨w, keys H⟩ :: S) H) ho.keep Try.func87 rfl Try.ntmps87 rfl ?_
  refine VC.seq ?_
  refine VC.region ?_
  refine VL.box (L := trnL) (ps := (trnV (x) q d)) rfl rfl (trnV_len hx) (fun g1 => ?_)
  refine VL.assign rfl ?_
  refine VL.assign rfl ?_
  refine VL.nil ?_
  refine VX.next ?_
  refine VC.seq ?_
  refine VC.letCells 0 rfl (fun w2 hO4 hF3 => ?_)
  apply VC.anyTA 10 1012 (F := [eqF _, eqF _, eqF _, bytesF (be 2 (x.seq)), capLF [be 2 (x.seq)] 1, eqF _, eqF _, outF (joinO ([be 2 (x.seq)] ++ itemsP x.items) (itemsGood x.items)), bytesF ((joinO ([be 2 (x.seq)] ++ itemsP x.items) (itemsGood x.items)).getD []), eqF _]) [⟨[], [1]⟩, ⟨[(4, 0)], []⟩, ⟨[(5, 1)], []⟩, ⟨[(6, 2)], []⟩, ⟨[(7, 3)], []⟩, ⟨[], [1]⟩, ⟨[(9, 5)], []⟩, ⟨[(8, 4), (10, 6)], []⟩, ⟨[(11, 7)], []⟩, ⟨[(11, 7)], []⟩] [(12, 8), (13, 9)] [0, 2, 3] rfl (by kernel_rfl) (by kernel_rfl) rfl rfl (by kernel_rfl) (by kernel_rfl) (by kernel_rfl) rfl ?obs1 ?end1
  case obs1 =>
    refine Obs.cons ?_ ?_
    · refine obS (by kernel_rfl) rfl rfl (fun ph1 w1 hO1 => ?_)
      refine VL.fieldAddr rfl fo132_0 rfl ?_
      exact VL.finS hO1 rfl rfl
    refine Obs.cons ?_ ?_
    · refine obS (by kernel_rfl) rfl rfl (fun ph1 w1 hO1 => ?_)
      rintro _ rfl
      refine VL.loadF (s := ⟨w2, _⟩) (v := .int .u16 (x.seq)) 0 rfl kd68 hF3 (fun _ e => e ▸ Still.ok hO1 (by repeat (first | exact List.mem_cons_self .. | apply List.mem_cons_of_mem))) rfl rfl ?_
      exact VL.finS hO1 rfl rfl
    refine Obs.cons ?_ ?_
    · refine obS (by kernel_rfl) rfl rfl (fun ph1 w1 hO1 => ?_)
      rintro _ rfl
      refine VL.conv (by rw [Try.underlying68]; rfl) Try.underlying3 rfl (by simp only [InR]; omega) ?_
      exact VL.finS hO1 rfl rfl
    refine Obs.cons ?_ ?_
    · refine ob (by kernel_rfl) rfl (by kernel_rfl) rfl (fun w1 hO1 => ?_)
      rintro _ rfl
      refine VL.toOwn hO1 ?_
      refine VL.call Try.func108 rfl (by decide) rfl (fun w' hw => num_S hw (x.seq) 2 (by omega) (by decide) (by decide) (fits2 (by omega))) (fun v => ?_)
      refine VL.at (fun w5 h1w => ?_)
      obtain ⟨p6, c7, rfl, hO9, hA8⟩ := h1w
      refine VL.toOwn hO9 ?_
      exact VL.finO rfl (fun _ h => h.sub (fun _ hs => by repeat (first | exact hs | apply List.mem_cons_of_mem))) (fun _ h => ⟨_, _, rfl, (hA8.now (s := ⟨w5, _⟩) Mono.byte h (by repeat (first | exact List.mem_cons_self .. | apply List.mem_cons_of_mem)))⟩)
    refine Obs.cons ?_ ?_
    · refine ob (by kernel_rfl) rfl (by kernel_rfl) rfl (fun w1 hO1 => ?_)
      rintro _ ⟨p1_3, c1_3, rfl, hA1_3⟩
      refine VL.toOwn hO1 ?_
      refine VL.lit el31 rfl rfl rfl (by simp [Value.cells]) (by intro u hu; simp [Value.cells] at hu; rcases hu with rfl <;> rfl) (fun g10 => ?_)
      refine VL.letRowS [be 2 (x.seq)] rfl (fun w' hw => ⟨⟨_, _, rfl, (hA1_3.now (s := ⟨w1, _⟩) Mono.byte hw (by repeat (first | exact List.mem_cons_self .. | apply List.mem_cons_of_mem)))⟩, trivial⟩) (fun w11 hO12 hA13 => ?_)
      exact VL.finO rfl (fun _ h => h.sub (fun _ hs => by repeat (first | exact hs | apply List.mem_cons_of_mem))) (fun _ h => ⟨_, rfl, (hA13.now (s := ⟨w11, _⟩) (Mono.slice Mono.byte) h (by repeat (first | exact List.mem_cons_self .. | apply List.mem_cons_of_mem)))⟩)
    refine Obs.cons ?_ ?_
    · refine obS (by kernel_rfl) rfl rfl (fun ph1 w1 hO1 => ?_)
      refine VL.fieldAddr rfl fo132_1 rfl ?_
      exact VL.finS hO1 rfl rfl
    refine Obs.cons ?_ ?_
    · refine obS (by kernel_rfl) rfl rfl (fun ph1 w1 hO1 => ?_)
      rintro _ rfl
      refine VL.loadF (s := ⟨w2, _⟩) (v := .slice q (x.items).length d) 1 rfl kd126 hF3 (fun _ e => e ▸ Still.ok hO1 (by repeat (first | exact List.mem_cons_self .. | apply List.mem_cons_of_mem))) rfl rfl ?_
      exact VL.finS hO1 rfl rfl
    refine Obs.cons ?_ ?_
    · refine ob (by kernel_rfl) rfl (by kernel_rfl) rfl (fun w1 hO1 => ?_)
      rintro _ ⟨p1_4, rfl, hA1_4⟩ _ rfl
      refine VL.toOwn hO1 ?_
      refine VL.call Try.func147 rfl (by decide) rfl (fun w' hw => refItems_f (ls := [be 2 (x.seq)]) hw (hA1_4.now (s := ⟨w1, _⟩) (Mono.slice Mono.byte) hw (by repeat (first | exact List.mem_cons_self .. | apply List.mem_cons_of_mem))) (by simp) (by simp only [List.length_append, List.length_cons, List.length_nil, List.length_map]; omega) hx.items (hV.now (s := ⟨w, _⟩) Mono_item hw (by repeat (first | exact List.mem_cons_self .. | apply List.mem_cons_of_mem)))) (fun v => ?_)
      refine VL.at (fun w14 h1w => ?_)
      obtain ⟨p15, c16, rfl, hO18, hA17⟩ := h1w
      refine VL.toOwn hO18 ?_
      exact VL.finO rfl (fun _ h => h.sub (fun _ hs => by repeat (first | exact hs | apply List.mem_cons_of_mem))) (fun _ h => ⟨_, _, rfl, (hA17.now (s := ⟨w14, _⟩) Mono.byte h (by repeat (first | exact List.mem_cons_self .. | apply List.mem_cons_of_mem)))⟩)
    refine Obs.cons ?_ ?_
    · refine obS (by kernel_rfl) rfl rfl (fun ph1 w1 hO1 => ?_)
      rintro _ ⟨p1_7, c1_7, rfl, hA1_7⟩
      refine VL.extract rfl rfl ?_
      exact VL.finS hO1 rfl ⟨_, _, rfl, hA1_7⟩
    refine Obs.cons ?_ ?_
    · refine obS (by kernel_rfl) rfl rfl (fun ph1 w1 hO1 => ?_)
      rintro _ ⟨p1_7, c1_7, rfl, hA1_7⟩
      refine VL.extract rfl rfl ?_
      exact VL.finS hO1 rfl rfl
    exact Obs.nil
  case end1 =>
    intro w1 hO1
    rintro _ ⟨pz, cz, rfl, hz⟩ _ rfl
    refine VL.toOwn hO1 ?_
    refine VL.assign rfl ?_
    refine VL.assign rfl ?_
    refine VL.nil ?_
    refine VX.next ?_
    refine VC.ret ?_
    refine VX.ret2 rfl rfl rfl (fun we hw => ?_)
    exact postO ((show joinO ([be 2 x.seq] ++ itemsP x.items) (itemsGood x.items) = trnO x from rfl)) ⟨pz, cz, rfl, hw.sub (fun _ hs => by repeat (first | exact hs | apply List.mem_cons_of_mem)), (hz.now (s := ⟨w1, _⟩) Mono.byte hw (by repeat (first | exact List.mem_cons_self .. | apply List.mem_cons_of_mem)))⟩

end Go.Proofs.Ytcfecmoagfgnaaa

