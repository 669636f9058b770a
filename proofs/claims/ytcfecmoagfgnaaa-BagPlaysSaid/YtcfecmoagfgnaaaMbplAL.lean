/- The statement BagPlays is proved, for every input: part 12 of 19 of the texts that it needs. -/
import Derived.Test.YtcfecmoagfgnaaaMbplAK
/- bag: lay. -/
namespace Go.Proofs.Ytcfecmoagfgnaaa
open Go.Vc Go.Pl

theorem pktW_zero {l : List UInt8} : pktW l = 0 ↔ (pktR l).isSome = true := by
 unfold pktW
 constructor
 ·intro h
  split at h
  ·rename_i h1; exact h1
  ·split at h <;> cases h
 ·intro h; rw [if_pos h]
/-- A packet's bytes, laid at a time. -/
def layP (l : List UInt8) (now : Nat) : Par := ⟨((pktR l).getD pkt0).src, ((pktR l).getD pkt0).dst, min (now + 1 + farN (servN ((pktR l).getD pkt0).src) (servN ((pktR l).getD pkt0).dst)) 4294967295, l⟩
theorem layP_ok (l : List UInt8) (now : Nat) : (layP l now).ok := ⟨(pktR_ok l).src, (pktR_ok l).dst, by show min _ _ < 4294967296; omega⟩
theorem inr_u64c {n : Int} (h0 : 0 ≤ n) (h : n ≤ 8589934592) : InR .u64 n := ⟨h0, Int.le_trans h (by decide)⟩
theorem farN_le (i j : Nat) : farN i j ≤ 1 := by unfold farN; split <;> decide
theorem spot_yes {S : List Snap} {H : List Chunk} {w : World} (ho : Own S H w) (a : Nat) (ha : a < 256) (h : servN a < 4) : Calls Try.prog 112 #[.int .u8 (a : Int)] w (Ret fun v w' => v = .tuple #[spotV (servN a), .bool true] ∧ Own S H w') :=
 calls_mono (bagspot_w ho a ha) fun v w' ⟨e, h2⟩ => ⟨by rw [e, if_pos h, decide_eq_true h], h2⟩
theorem spot_no {S : List Snap} {H : List Chunk} {w : World} (ho : Own S H w) (a : Nat) (ha : a < 256) (h : ¬ servN a < 4) : Calls Try.prog 112 #[.int .u8 (a : Int)] w (Ret fun v w' => v = .tuple #[cx (0, 0), .bool false] ∧ Own S H w') :=
 calls_mono (bagspot_w ho a ha) fun v w' ⟨e, h2⟩ => ⟨by rw [e, if_neg h, decide_eq_false h], h2⟩

/-- Bytes, cloned: they lie in a block of bytes. -/
theorem cloneT_some {S : List Snap} {H : List Chunk} {w : World} (ho : Own S H w) {a : Addr} {l : List UInt8} {c : Nat} (hA : Bytes (keys H) w (some a) l c) (hl : l.length ≤ 140737488351232) : Calls Try.prog 109 #[.slice (some a) l.length c] w (Ret fun v w' => ∃ p' c', v = .slice p' l.length c' ∧ Own S H w' ∧ BytesT (keys H) w' p' l c') := by
 refine enter (G := Own (⟨w, keys H⟩ :: S) H) ho.keep Try.func109 rfl Try.ntmps109 rfl ?_
 refine VC.sr ?_
 refine VL.assign rfl ?_
 refine VL.nn ?_
 refine VC.seq ?_
 refine VC.sr ?_
 refine VL.move rfl ?_
 refine VL.eqnil Try.underlying24 rfl rfl ?_
 refine VL.nn ?_
 refine VC.no rfl ?_
 refine VC.skip ?_
 refine VX.next ?_
 refine VC.sr ?_
 refine VL.lit el24 rfl rfl rfl (by simp) (by simp [ok1]) (fun g => ?_)
 refine VL.move rfl ?_
 refine VL.append 0 el24 rfl rfl rfl rfl (fun _ h => (hA.now (s := ⟨w, keys H⟩) Mono.byte h.drop (by repeat (first | exact List.mem_cons_self .. | apply List.mem_cons_of_mem))).bytes) (by simp) (ok1_bytes l) (by omega) (by omega) (fun g1 c1 => ?_)
 refine VL.assign rfl ?_
 refine VL.nn ?_
 refine VC.ret ?_
 refine VX.ret1 rfl rfl (fun we hw => ?_)
 have hb := hw.letBytes (l := l) (by omega) (by simp)
 refine ⟨_, _, by simp [rowV], hw.drop.lose, hb, fun _ a ea => ?_⟩
 obtain ⟨hrow, _⟩ := hw.holds (row 5 1 g1 (0 + l.length) c1 ([] ++ l.map bv)) (by simp)
 cases g1 with
 | none => cases ea
 | some g1 =>
  cases ea
  rcases hrow.2 with ⟨e1, _⟩ | ⟨g2, cap1, cur, e1, _, e3, _⟩
  ·simp [rowV] at e1
  ·simp [rowV] at e1
   obtain ⟨rfl, rfl⟩ := e1
   exact ⟨_, _, e3⟩

theorem cloneT_nil {S : List Snap} {H : List Chunk} {w : World} (ho : Own S H w) {c : Nat} : Calls Try.prog 109 #[.slice none 0 c] w (Ret fun v w' => v = .slice none 0 0 ∧ Own S H w') := by
 refine enter (G := Own (⟨w, keys H⟩ :: S) H) ho.keep Try.func109 rfl Try.ntmps109 rfl ?_
 refine VC.sr ?_
 refine VL.assign rfl ?_
 refine VL.nn ?_
 refine VC.seq ?_
 refine VC.sr ?_
 refine VL.move rfl ?_
 refine VL.eqnil Try.underlying24 rfl rfl ?_
 refine VL.nn ?_
 refine VC.yes rfl ?_
 refine VC.sr ?_
 refine VL.assign rfl ?_
 refine VL.nn ?_
 refine VC.ret ?_
 refine VX.then_ret ?_
 refine VX.ret1 rfl rfl (fun we hw => ?_)
 exact ⟨rfl, hw.subA⟩

theorem cloneA {S : List Snap} {H : List Chunk} {w : World} (ho : Own S H w) {p : Option Addr} {l : List UInt8} {c : Nat} (hA : Bytes (keys H) w p l c) (hl : l.length ≤ 140737488351232) {K' : List Nat} (hK : ∀ k ∈ K', k ∈ keys H) : Calls Try.prog 109 #[.slice p l.length c] w (Ret fun v w' => ∃ p' c', v = .slice p' l.length c' ∧ Snap.ok ⟨w, []⟩ w' ∧ BytesT K' w' p' l c') := by
 have hA' : Bytes (keys [memo w (keys H)]) w p l c := by rw [keys_memo]; exact hA
 cases p with
 | none =>
  have h1 := hA.nil rfl
  have h2 := hA.le
  obtain rfl : l = [] := List.eq_nil_of_length_eq_zero (by omega)
  exact calls_mono (cloneT_nil ho.memo (c := c)) fun v w' ⟨e, h3⟩ => ⟨none, 0, e, grown h3, Arr.none, fun h => by omega⟩
 | some a =>
  refine calls_mono (cloneT_some ho.memo hA' hl) fun v w' ⟨p', c', e, h3, h4, h5⟩ => ?_
  rw [keys_memo] at h4
  exact ⟨p', c', e, grown h3, h4.keysTo Mono.byte hK, h5⟩

theorem lay_no1 {S : List Snap} {H : List Chunk} {w : World} (ho : Own S H w) {xs : List Par} {p : Option Addr} {c : Nat} (hX : Arr 4 parR (keys H) w p xs c) (hl : xs.length ≤ 1000) {l : List UInt8} {p1 : Option Addr} {c1 : Nat} (hA : Bytes (keys H) w p1 l c1) {now : Nat} (hnow : now < 4294967296) (h1 : ¬ pktW l = 0) : Calls Try.prog 42 #[.slice p xs.length c, .slice p1 l.length c1, .int .u32 (now : Int)] w (Ret fun v w' => ∃ q d, v = .tuple #[.slice q xs.length d, .bool false] ∧ Own S H w' ∧ Arr 4 parR (keys H) w' q xs d) := by
 refine enter (G := Own (⟨w, keys H⟩ :: S) H) ho.keep Try.func42 rfl Try.ntmps42 rfl ?_
 refine VC.sr ?_
 refine VL.assign rfl ?_
 refine VL.assign rfl ?_
 refine VL.nn ?_
 refine VC.sr ?_
 refine VL.move rfl ?_
 refine VL.call Try.func81 rfl (by decide) rfl (fun w' hw => getPkt_w hw (hA.nowA (s := ⟨w, _⟩) Mono.byte hw)) (fun v => ?_)
 refine VL.at (fun w1 h1w => ?_)
 obtain ⟨q3, d4, p6, c7, rfl, hO2, hB5, hA8⟩ := h1w
 refine VL.toOwn hO2 ?_
 refine VL.move rfl ?_
 refine VL.extract rfl rfl ?_
 refine VL.extract rfl rfl ?_
 refine VL.alloc (L := pktL) (ps := (pktV (pkt0) none 0 none 0)) zero118 rfl rfl (fun g9 => ?_)
 refine VL.store (L := pktL) (qs := (pktV (((pktR l).getD pkt0)) q3 d4 p6 c7)) (ps' := (pktV (((pktR l).getD pkt0)) q3 d4 p6 c7)) 0 0 6 rfl rfl rfl (.inl kd118) rfl rfl (pktV_len (pktR_ok l)) (pktV_ok1 (((pktR l).getD pkt0)) q3 d4 p6 c7) rfl rfl ?_
 refine VL.set0 ?_
 refine VL.assign rfl ?_
 refine VL.nn ?_
 refine VC.sr ?_
 refine VL.fieldAddr rfl fo118_0 rfl ?_
 refine VL.load (v := .int .u8 (((pktR l).getD pkt0).src)) 0 0 rfl kd5 (fun _ h => h) rfl rfl rfl ?_
 refine VL.call Try.func112 rfl (by decide) rfl (fun w' hw => bagspot_w hw (((pktR l).getD pkt0).src) (pktR_ok l).src) (fun v => ?_)
 refine VL.fact fun e10 => ?_
 subst e10
 refine VL.move rfl ?_
 refine VL.extract rfl rfl ?_
 refine VL.extract rfl rfl ?_
 refine VL.assign rfl ?_
 refine VL.assign rfl ?_
 refine VL.nn ?_
 refine VC.sr ?_
 refine VL.fieldAddr rfl fo118_1 rfl ?_
 refine VL.load (v := .int .u8 (((pktR l).getD pkt0).dst)) 0 1 rfl kd5 (fun _ h => h) rfl rfl rfl ?_
 refine VL.call Try.func112 rfl (by decide) rfl (fun w' hw => bagspot_w hw (((pktR l).getD pkt0).dst) (pktR_ok l).dst) (fun v => ?_)
 refine VL.fact fun e11 => ?_
 subst e11
 refine VL.move rfl ?_
 refine VL.extract rfl rfl ?_
 refine VL.extract rfl rfl ?_
 refine VL.assign rfl ?_
 refine VL.assign rfl ?_
 refine VL.nn ?_
 refine VC.seq ?_
 refine VC.sr ?_
 refine VL.move rfl ?_
 refine VL.neq rfl rfl ?_
 refine VL.yes (by omega) ?_
 refine VL.move rfl ?_
 refine VL.pass rfl rfl rfl rfl rfl ?_
 refine VL.pass rfl rfl rfl rfl rfl ?_
 refine VL.pick_t rfl rfl ?_
 refine VL.move rfl ?_
 refine VL.pass rfl rfl rfl rfl rfl ?_
 refine VL.pass rfl rfl rfl rfl rfl ?_
 refine VL.pick_t rfl rfl ?_
 refine VL.move rfl ?_
 refine VL.pass rfl rfl rfl rfl rfl ?_
 refine VL.pass rfl rfl rfl rfl rfl ?_
 refine VL.pass rfl rfl rfl rfl rfl ?_
 refine VL.pick_t rfl rfl ?_
 refine VL.nn ?_
 refine VC.yes rfl ?_
 refine VC.sr ?_
 refine VL.move rfl ?_
 refine VL.call Try.func110 rfl (by decide) rfl (fun w' hw => clone_p hw (hX.nowA (s := ⟨w, _⟩) Mono_par hw) (by omega)) (fun v => ?_)
 refine VL.at (fun w14 h1w => ?_)
 obtain ⟨gv12, cv13, rfl, hO15⟩ := h1w
 refine VL.toOwn hO15 ?_
 refine VL.assign rfl ?_
 refine VL.assign rfl ?_
 refine VL.nn ?_
 refine VC.ret ?_
 refine VX.then_ret ?_
 refine VX.ret2 rfl rfl rfl (fun we hw => ?_)
 have h7 := (ownDropK 1 hw)
 exact ⟨_, _, rfl, h7.drop.subA, h7.letArr⟩

theorem lay_no2 {S : List Snap} {H : List Chunk} {w : World} (ho : Own S H w) {xs : List Par} {p : Option Addr} {c : Nat} (hX : Arr 4 parR (keys H) w p xs c) (hl : xs.length ≤ 1000) {l : List UInt8} {p1 : Option Addr} {c1 : Nat} (hA : Bytes (keys H) w p1 l c1) {now : Nat} (hnow : now < 4294967296) (h1 : pktW l = 0) (h2 : ¬ servN ((pktR l).getD pkt0).src < 4) : Calls Try.prog 42 #[.slice p xs.length c, .slice p1 l.length c1, .int .u32 (now : Int)] w (Ret fun v w' => ∃ q d, v = .tuple #[.slice q xs.length d, .bool false] ∧ Own S H w' ∧ Arr 4 parR (keys H) w' q xs d) := by
 refine enter (G := Own (⟨w, keys H⟩ :: S) H) ho.keep Try.func42 rfl Try.ntmps42 rfl ?_
 refine VC.sr ?_
 refine VL.assign rfl ?_
 refine VL.assign rfl ?_
 refine VL.nn ?_
 refine VC.sr ?_
 refine VL.move rfl ?_
 refine VL.call Try.func81 rfl (by decide) rfl (fun w' hw => getPkt_w hw (hA.nowA (s := ⟨w, _⟩) Mono.byte hw)) (fun v => ?_)
 refine VL.at (fun w1 h1w => ?_)
 obtain ⟨q3, d4, p6, c7, rfl, hO2, hB5, hA8⟩ := h1w
 refine VL.toOwn hO2 ?_
 refine VL.move rfl ?_
 refine VL.extract rfl rfl ?_
 refine VL.extract rfl rfl ?_
 refine VL.alloc (L := pktL) (ps := (pktV (pkt0) none 0 none 0)) zero118 rfl rfl (fun g9 => ?_)
 refine VL.store (L := pktL) (qs := (pktV (((pktR l).getD pkt0)) q3 d4 p6 c7)) (ps' := (pktV (((pktR l).getD pkt0)) q3 d4 p6 c7)) 0 0 6 rfl rfl rfl (.inl kd118) rfl rfl (pktV_len (pktR_ok l)) (pktV_ok1 (((pktR l).getD pkt0)) q3 d4 p6 c7) rfl rfl ?_
 refine VL.set0 ?_
 refine VL.assign rfl ?_
 refine VL.nn ?_
 refine VC.sr ?_
 refine VL.fieldAddr rfl fo118_0 rfl ?_
 refine VL.load (v := .int .u8 (((pktR l).getD pkt0).src)) 0 0 rfl kd5 (fun _ h => h) rfl rfl rfl ?_
 refine VL.call Try.func112 rfl (by decide) rfl (fun w' hw => spot_no hw (((pktR l).getD pkt0).src) (pktR_ok l).src h2) (fun v => ?_)
 refine VL.fact fun e10 => ?_
 subst e10
 refine VL.move rfl ?_
 refine VL.extract rfl rfl ?_
 refine VL.extract rfl rfl ?_
 refine VL.assign rfl ?_
 refine VL.assign rfl ?_
 refine VL.nn ?_
 refine VC.sr ?_
 refine VL.fieldAddr rfl fo118_1 rfl ?_
 refine VL.load (v := .int .u8 (((pktR l).getD pkt0).dst)) 0 1 rfl kd5 (fun _ h => h) rfl rfl rfl ?_
 refine VL.call Try.func112 rfl (by decide) rfl (fun w' hw => bagspot_w hw (((pktR l).getD pkt0).dst) (pktR_ok l).dst) (fun v => ?_)
 refine VL.fact fun e11 => ?_
 subst e11
 refine VL.move rfl ?_
 refine VL.extract rfl rfl ?_
 refine VL.extract rfl rfl ?_
 refine VL.assign rfl ?_
 refine VL.assign rfl ?_
 refine VL.nn ?_
 refine VC.seq ?_
 refine VC.sr ?_
 refine VL.move rfl ?_
 refine VL.neq rfl rfl ?_
 refine VL.no (by omega) ?_
 refine VL.move rfl ?_
 refine VL.go rfl rfl rfl ?_
 refine VL.move rfl ?_
 refine VL.go rfl rfl rfl ?_
 refine VL.not rfl ?_
 refine VL.pick_f rfl rfl ?_
 refine VL.move rfl ?_
 refine VL.pass rfl rfl rfl rfl rfl ?_
 refine VL.pass rfl rfl rfl rfl rfl ?_
 refine VL.pick_t rfl rfl ?_
 refine VL.move rfl ?_
 refine VL.pass rfl rfl rfl rfl rfl ?_
 refine VL.pass rfl rfl rfl rfl rfl ?_
 refine VL.pass rfl rfl rfl rfl rfl ?_
 refine VL.pick_t rfl rfl ?_
 refine VL.nn ?_
 refine VC.yes rfl ?_
 refine VC.sr ?_
 refine VL.move rfl ?_
 refine VL.call Try.func110 rfl (by decide) rfl (fun w' hw => clone_p hw (hX.nowA (s := ⟨w, _⟩) Mono_par hw) (by omega)) (fun v => ?_)
 refine VL.at (fun w14 h1w => ?_)
 obtain ⟨gv12, cv13, rfl, hO15⟩ := h1w
 refine VL.toOwn hO15 ?_
 refine VL.assign rfl ?_
 refine VL.assign rfl ?_
 refine VL.nn ?_
 refine VC.ret ?_
 refine VX.then_ret ?_
 refine VX.ret2 rfl rfl rfl (fun we hw => ?_)
 have h7 := (ownDropK 1 hw)
 exact ⟨_, _, rfl, h7.drop.subA, h7.letArr⟩

theorem lay_no3 {S : List Snap} {H : List Chunk} {w : World} (ho : Own S H w) {xs : List Par} {p : Option Addr} {c : Nat} (hX : Arr 4 parR (keys H) w p xs c) (hl : xs.length ≤ 1000) {l : List UInt8} {p1 : Option Addr} {c1 : Nat} (hA : Bytes (keys H) w p1 l c1) {now : Nat} (hnow : now < 4294967296) (h1 : pktW l = 0) (h2 : servN ((pktR l).getD pkt0).src < 4) (h3 : ¬ servN ((pktR l).getD pkt0).dst < 4) : Calls Try.prog 42 #[.slice p xs.length c, .slice p1 l.length c1, .int .u32 (now : Int)] w (Ret fun v w' => ∃ q d, v = .tuple #[.slice q xs.length d, .bool false] ∧ Own S H w' ∧ Arr 4 parR (keys H) w' q xs d) := by
 refine enter (G := Own (⟨w, keys H⟩ :: S) H) ho.keep Try.func42 rfl Try.ntmps42 rfl ?_
 refine VC.sr ?_
 refine VL.assign rfl ?_
 refine VL.assign rfl ?_
 refine VL.nn ?_
 refine VC.sr ?_
 refine VL.move rfl ?_
 refine VL.call Try.func81 rfl (by decide) rfl (fun w' hw => getPkt_w hw (hA.nowA (s := ⟨w, _⟩) Mono.byte hw)) (fun v => ?_)
 refine VL.at (fun w1 h1w => ?_)
 obtain ⟨q3, d4, p6, c7, rfl, hO2, hB5, hA8⟩ := h1w
 refine VL.toOwn hO2 ?_
 refine VL.move rfl ?_
 refine VL.extract rfl rfl ?_
 refine VL.extract rfl rfl ?_
 refine VL.alloc (L := pktL) (ps := (pktV (pkt0) none 0 none 0)) zero118 rfl rfl (fun g9 => ?_)
 refine VL.store (L := pktL) (qs := (pktV (((pktR l).getD pkt0)) q3 d4 p6 c7)) (ps' := (pktV (((pktR l).getD pkt0)) q3 d4 p6 c7)) 0 0 6 rfl rfl rfl (.inl kd118) rfl rfl (pktV_len (pktR_ok l)) (pktV_ok1 (((pktR l).getD pkt0)) q3 d4 p6 c7) rfl rfl ?_
 refine VL.set0 ?_
 refine VL.assign rfl ?_
 refine VL.nn ?_
 refine VC.sr ?_
 refine VL.fieldAddr rfl fo118_0 rfl ?_
 refine VL.load (v := .int .u8 (((pktR l).getD pkt0).src)) 0 0 rfl kd5 (fun _ h => h) rfl rfl rfl ?_
 refine VL.call Try.func112 rfl (by decide) rfl (fun w' hw => spot_yes hw (((pktR l).getD pkt0).src) (pktR_ok l).src h2) (fun v => ?_)
 refine VL.fact fun e10 => ?_
 subst e10
 refine VL.move rfl ?_
 refine VL.extract rfl rfl ?_
 refine VL.extract rfl rfl ?_
 refine VL.assign rfl ?_
 refine VL.assign rfl ?_
 refine VL.nn ?_
 refine VC.sr ?_
 refine VL.fieldAddr rfl fo118_1 rfl ?_
 refine VL.load (v := .int .u8 (((pktR l).getD pkt0).dst)) 0 1 rfl kd5 (fun _ h => h) rfl rfl rfl ?_
 refine VL.call Try.func112 rfl (by decide) rfl (fun w' hw => spot_no hw (((pktR l).getD pkt0).dst) (pktR_ok l).dst h3) (fun v => ?_)
 refine VL.fact fun e11 => ?_
 subst e11
 refine VL.move rfl ?_
 refine VL.extract rfl rfl ?_
 refine VL.extract rfl rfl ?_
 refine VL.assign rfl ?_
 refine VL.assign rfl ?_
 refine VL.nn ?_
 refine VC.seq ?_
 refine VC.sr ?_
 refine VL.move rfl ?_
 refine VL.neq rfl rfl ?_
 refine VL.no (by omega) ?_
 refine VL.move rfl ?_
 refine VL.go rfl rfl rfl ?_
 refine VL.move rfl ?_
 refine VL.go rfl rfl rfl ?_
 refine VL.not rfl ?_
 refine VL.pick_f rfl rfl ?_
 refine VL.move rfl ?_
 refine VL.go rfl rfl rfl ?_
 refine VL.move rfl ?_
 refine VL.go rfl rfl rfl ?_
 refine VL.not rfl ?_
 refine VL.pick_f rfl rfl ?_
 refine VL.move rfl ?_
 refine VL.pass rfl rfl rfl rfl rfl ?_
 refine VL.pass rfl rfl rfl rfl rfl ?_
 refine VL.pass rfl rfl rfl rfl rfl ?_
 refine VL.pick_t rfl rfl ?_
 refine VL.nn ?_
 refine VC.yes rfl ?_
 refine VC.sr ?_
 refine VL.move rfl ?_
 refine VL.call Try.func110 rfl (by decide) rfl (fun w' hw => clone_p hw (hX.nowA (s := ⟨w, _⟩) Mono_par hw) (by omega)) (fun v => ?_)
 refine VL.at (fun w14 h1w => ?_)
 obtain ⟨gv12, cv13, rfl, hO15⟩ := h1w
 refine VL.toOwn hO15 ?_
 refine VL.assign rfl ?_
 refine VL.assign rfl ?_
 refine VL.nn ?_
 refine VC.ret ?_
 refine VX.then_ret ?_
 refine VX.ret2 rfl rfl rfl (fun we hw => ?_)
 have h7 := (ownDropK 1 hw)
 exact ⟨_, _, rfl, h7.drop.subA, h7.letArr⟩

theorem lay_no4 {S : List Snap} {H : List Chunk} {w : World} (ho : Own S H w) {xs : List Par} {p : Option Addr} {c : Nat} (hX : Arr 4 parR (keys H) w p xs c) (hl : xs.length ≤ 1000) {l : List UInt8} {p1 : Option Addr} {c1 : Nat} (hA : Bytes (keys H) w p1 l c1) {now : Nat} (hnow : now < 4294967296) (h1 : pktW l = 0) (h2 : servN ((pktR l).getD pkt0).src < 4) (h3 : servN ((pktR l).getD pkt0).dst < 4) (h4 : 64 ≤ xs.length) : Calls Try.prog 42 #[.slice p xs.length c, .slice p1 l.length c1, .int .u32 (now : Int)] w (Ret fun v w' => ∃ q d, v = .tuple #[.slice q xs.length d, .bool false] ∧ Own S H w' ∧ Arr 4 parR (keys H) w' q xs d) := by
 refine enter (G := Own (⟨w, keys H⟩ :: S) H) ho.keep Try.func42 rfl Try.ntmps42 rfl ?_
 refine VC.sr ?_
 refine VL.assign rfl ?_
 refine VL.assign rfl ?_
 refine VL.nn ?_
 refine VC.sr ?_
 refine VL.move rfl ?_
 refine VL.call Try.func81 rfl (by decide) rfl (fun w' hw => getPkt_w hw (hA.nowA (s := ⟨w, _⟩) Mono.byte hw)) (fun v => ?_)
 refine VL.at (fun w1 h1w => ?_)
 obtain ⟨q3, d4, p6, c7, rfl, hO2, hB5, hA8⟩ := h1w
 refine VL.toOwn hO2 ?_
 refine VL.move rfl ?_
 refine VL.extract rfl rfl ?_
 refine VL.extract rfl rfl ?_
 refine VL.alloc (L := pktL) (ps := (pktV (pkt0) none 0 none 0)) zero118 rfl rfl (fun g9 => ?_)
 refine VL.store (L := pktL) (qs := (pktV (((pktR l).getD pkt0)) q3 d4 p6 c7)) (ps' := (pktV (((pktR l).getD pkt0)) q3 d4 p6 c7)) 0 0 6 rfl rfl rfl (.inl kd118) rfl rfl (pktV_len (pktR_ok l)) (pktV_ok1 (((pktR l).getD pkt0)) q3 d4 p6 c7) rfl rfl ?_
 refine VL.set0 ?_
 refine VL.assign rfl ?_
 refine VL.nn ?_
 refine VC.sr ?_
 refine VL.fieldAddr rfl fo118_0 rfl ?_
 refine VL.load (v := .int .u8 (((pktR l).getD pkt0).src)) 0 0 rfl kd5 (fun _ h => h) rfl rfl rfl ?_
 refine VL.call Try.func112 rfl (by decide) rfl (fun w' hw => spot_yes hw (((pktR l).getD pkt0).src) (pktR_ok l).src h2) (fun v => ?_)
 refine VL.fact fun e10 => ?_
 subst e10
 refine VL.move rfl ?_
 refine VL.extract rfl rfl ?_
 refine VL.extract rfl rfl ?_
 refine VL.assign rfl ?_
 refine VL.assign rfl ?_
 refine VL.nn ?_
 refine VC.sr ?_
 refine VL.fieldAddr rfl fo118_1 rfl ?_
 refine VL.load (v := .int .u8 (((pktR l).getD pkt0).dst)) 0 1 rfl kd5 (fun _ h => h) rfl rfl rfl ?_
 refine VL.call Try.func112 rfl (by decide) rfl (fun w' hw => spot_yes hw (((pktR l).getD pkt0).dst) (pktR_ok l).dst h3) (fun v => ?_)
 refine VL.fact fun e11 => ?_
 subst e11
 refine VL.move rfl ?_
 refine VL.extract rfl rfl ?_
 refine VL.extract rfl rfl ?_
 refine VL.assign rfl ?_
 refine VL.assign rfl ?_
 refine VL.nn ?_
 refine VC.seq ?_
 refine VC.sr ?_
 refine VL.move rfl ?_
 refine VL.neq rfl rfl ?_
 refine VL.no (by omega) ?_
 refine VL.move rfl ?_
 refine VL.go rfl rfl rfl ?_
 refine VL.move rfl ?_
 refine VL.go rfl rfl rfl ?_
 refine VL.not rfl ?_
 refine VL.pick_f rfl rfl ?_
 refine VL.move rfl ?_
 refine VL.go rfl rfl rfl ?_
 refine VL.move rfl ?_
 refine VL.go rfl rfl rfl ?_
 refine VL.not rfl ?_
 refine VL.pick_f rfl rfl ?_
 refine VL.move rfl ?_
 refine VL.go rfl rfl rfl ?_
 refine VL.move rfl ?_
 refine VL.go rfl rfl rfl ?_
 refine VL.len Try.underlying47 rfl rfl ?_
 refine VL.go rfl rfl rfl ?_
 refine VL.geq rfl rfl ?_
 refine VL.yes (by omega) ?_
 refine VL.pick_f rfl rfl ?_
 refine VL.nn ?_
 refine VC.yes rfl ?_
 refine VC.sr ?_
 refine VL.move rfl ?_
 refine VL.call Try.func110 rfl (by decide) rfl (fun w' hw => clone_p hw (hX.nowA (s := ⟨w, _⟩) Mono_par hw) (by omega)) (fun v => ?_)
 refine VL.at (fun w14 h1w => ?_)
 obtain ⟨gv12, cv13, rfl, hO15⟩ := h1w
 refine VL.toOwn hO15 ?_
 refine VL.assign rfl ?_
 refine VL.assign rfl ?_
 refine VL.nn ?_
 refine VC.ret ?_
 refine VX.then_ret ?_
 refine VX.ret2 rfl rfl rfl (fun we hw => ?_)
 have h7 := (ownDropK 1 hw)
 exact ⟨_, _, rfl, h7.drop.subA, h7.letArr⟩

theorem lay_yes {S : List Snap} {H : List Chunk} {w : World} (ho : Own S H w) {xs : List Par} {p : Option Addr} {c : Nat} (hX : Arr 4 parR (keys H) w p xs c) (hl : xs.length ≤ 1000) {l : List UInt8} {p1 : Option Addr} {c1 : Nat} (hA : Bytes (keys H) w p1 l c1) {now : Nat} (hnow : now < 4294967296) (h1 : pktW l = 0) (h2 : servN ((pktR l).getD pkt0).src < 4) (h3 : servN ((pktR l).getD pkt0).dst < 4) (h4 : xs.length < 64) (hb : l.length ≤ 140737488351232) : Calls Try.prog 42 #[.slice p xs.length c, .slice p1 l.length c1, .int .u32 (now : Int)] w (Ret fun v w' => ∃ q d, v = .tuple #[.slice q (xs ++ [(layP l now)]).length d, .bool true] ∧ Own S H w' ∧ Arr 4 parR (keys H) w' q (xs ++ [(layP l now)]) d) := by
 have hfn := farN_le (servN ((pktR l).getD pkt0).src) (servN ((pktR l).getD pkt0).dst)
 have hmn : min (now + 1 + farN (servN ((pktR l).getD pkt0).src) (servN ((pktR l).getD pkt0).dst)) 4294967295 < 4294967296 := by omega
 refine enter (G := Own (⟨w, keys H⟩ :: S) H) ho.keep Try.func42 rfl Try.ntmps42 rfl ?_
 refine VC.sr ?_
 refine VL.assign rfl ?_
 refine VL.assign rfl ?_
 refine VL.nn ?_
 refine VC.sr ?_
 refine VL.move rfl ?_
 refine VL.call Try.func81 rfl (by decide) rfl (fun w' hw => getPkt_w hw (hA.nowA (s := ⟨w, _⟩) Mono.byte hw)) (fun v => ?_)
 refine VL.at (fun w1 h1w => ?_)
 obtain ⟨q3, d4, p6, c7, rfl, hO2, hB5, hA8⟩ := h1w
 refine VL.toOwn hO2 ?_
 refine VL.move rfl ?_
 refine VL.extract rfl rfl ?_
 refine VL.extract rfl rfl ?_
 refine VL.alloc (L := pktL) (ps := (pktV (pkt0) none 0 none 0)) zero118 rfl rfl (fun g9 => ?_)
 refine VL.store (L := pktL) (qs := (pktV (((pktR l).getD pkt0)) q3 d4 p6 c7)) (ps' := (pktV (((pktR l).getD pkt0)) q3 d4 p6 c7)) 0 0 6 rfl rfl rfl (.inl kd118) rfl rfl (pktV_len (pktR_ok l)) (pktV_ok1 (((pktR l).getD pkt0)) q3 d4 p6 c7) rfl rfl ?_
 refine VL.set0 ?_
 refine VL.assign rfl ?_
 refine VL.nn ?_
 refine VC.sr ?_
 refine VL.fieldAddr rfl fo118_0 rfl ?_
 refine VL.load (v := .int .u8 (((pktR l).getD pkt0).src)) 0 0 rfl kd5 (fun _ h => h) rfl rfl rfl ?_
 refine VL.call Try.func112 rfl (by decide) rfl (fun w' hw => spot_yes hw (((pktR l).getD pkt0).src) (pktR_ok l).src h2) (fun v => ?_)
 refine VL.fact fun e10 => ?_
 subst e10
 refine VL.move rfl ?_
 refine VL.extract rfl rfl ?_
 refine VL.extract rfl rfl ?_
 refine VL.assign rfl ?_
 refine VL.assign rfl ?_
 refine VL.nn ?_
 refine VC.sr ?_
 refine VL.fieldAddr rfl fo118_1 rfl ?_
 refine VL.load (v := .int .u8 (((pktR l).getD pkt0).dst)) 0 1 rfl kd5 (fun _ h => h) rfl rfl rfl ?_
 refine VL.call Try.func112 rfl (by decide) rfl (fun w' hw => spot_yes hw (((pktR l).getD pkt0).dst) (pktR_ok l).dst h3) (fun v => ?_)
 refine VL.fact fun e11 => ?_
 subst e11
 refine VL.move rfl ?_
 refine VL.extract rfl rfl ?_
 refine VL.extract rfl rfl ?_
 refine VL.assign rfl ?_
 refine VL.assign rfl ?_
 refine VL.nn ?_
 refine VC.seq ?_
 refine VC.sr ?_
 refine VL.move rfl ?_
 refine VL.neq rfl rfl ?_
 refine VL.no (by omega) ?_
 refine VL.move rfl ?_
 refine VL.go rfl rfl rfl ?_
 refine VL.move rfl ?_
 refine VL.go rfl rfl rfl ?_
 refine VL.not rfl ?_
 refine VL.pick_f rfl rfl ?_
 refine VL.move rfl ?_
 refine VL.go rfl rfl rfl ?_
 refine VL.move rfl ?_
 refine VL.go rfl rfl rfl ?_
 refine VL.not rfl ?_
 refine VL.pick_f rfl rfl ?_
 refine VL.move rfl ?_
 refine VL.go rfl rfl rfl ?_
 refine VL.move rfl ?_
 refine VL.go rfl rfl rfl ?_
 refine VL.len Try.underlying47 rfl rfl ?_
 refine VL.go rfl rfl rfl ?_
 refine VL.geq rfl rfl ?_
 refine VL.no (by omega) ?_
 refine VL.pick_f rfl rfl ?_
 refine VL.nn ?_
 refine VC.no rfl ?_
 refine VC.skip ?_
 refine VX.next ?_
 refine VC.sr ?_
 refine VL.move rfl ?_
 refine VL.move rfl ?_
 refine VL.call Try.func113 rfl (by decide) rfl (fun w' hw => far_w hw h2 h3) (fun v => ?_)
 refine VL.fact fun e12 => ?_
 subst e12
 refine VL.move rfl ?_
 refine VL.extract rfl rfl ?_
 refine VL.extract rfl rfl ?_
 refine VL.assign rfl ?_
 refine VL.assign rfl ?_
 refine VL.nn ?_
 refine VC.sr ?_
 refine VL.move rfl ?_
 refine VL.conv (by rw [Try.underlying48]; rfl) Try.underlying22 rfl (inr_u64 (by omega)) ?_
 refine VL.add rfl rfl (inr_u64c (by omega) (by omega)) ?_
 refine VL.newv (v' := .int .u64 ((now + 1 : Nat) : Int)) (congrArg (Value.int .u64) (by omega)) ?_
 refine VL.move rfl ?_
 refine VL.conv (by rw [Try.underlying3]; rfl) Try.underlying22 rfl (inr_u64c (by omega) (by omega)) ?_
 refine VL.add rfl rfl (inr_u64c (by omega) (by omega)) ?_
 refine VL.newv (v' := .int .u64 ((now + 1 + farN (servN ((pktR l).getD pkt0).src) (servN ((pktR l).getD pkt0).dst) : Nat) : Int)) (congrArg (Value.int .u64) (by omega)) ?_
 refine VL.min2 rfl rfl ?_
 refine VL.newv (v' := .int .u64 ((min (now + 1 + farN (servN ((pktR l).getD pkt0).src) (servN ((pktR l).getD pkt0).dst)) 4294967295 : Nat) : Int)) (congrArg (Value.int .u64) (by omega)) ?_
 refine VL.assign rfl ?_
 refine VL.nn ?_
 refine VC.seq ?_
 refine VC.turn (G' := Own (⟨w, keys H⟩ :: S) (blk g9 118 pktL (pktV (((pktR l).getD pkt0)) q3 d4 p6 c7) :: H)) (fun _ h => h.subA) ?_
 refine VC.letCells 0 rfl (fun w13 hO15 hF14 => ?_)
 apply VC.anyT2 10 1 (F := [eqF _, lateF (fun v w' => ∃ g c', v = rowV g xs.length c' ∧ Own (⟨w, keys H⟩ :: S) (arow 50 4 parR Mono_par g c' xs :: (H)) w'), eqF _, eqF _, eqF _, eqF _, eqF _, eqF _, eqF _, bytesTF l]) ?gr8 [⟨[], [0]⟩, ⟨[(64, 0)], []⟩, ⟨[], [8]⟩, ⟨[(66, 2)], []⟩, ⟨[], [8]⟩, ⟨[(68, 4)], []⟩, ⟨[], [16]⟩, ⟨[(70, 6)], []⟩, ⟨[], [1]⟩, ⟨[(72, 8), (65, 1)], []⟩] [(65, 1), (67, 3), (69, 5), (71, 7), (73, 9)] [0, 1, 2, 6, 7, 8, 9, 10, 11, 12, 13, 14, 17, 18, 19, 20, 21, 22, 23, 24, 25, 26, 27, 28, 29, 30, 31, 32, 33, 34, 35, 36, 37, 38, 39, 40, 41, 42, 43, 44, 45, 46, 47, 48, 49, 50, 51, 52, 53, 54, 55, 56, 57, 58, 59, 60, 61, 62, 63, 74, 75, 76] rfl (by kernel_rfl) (by kernel_rfl) rfl rfl (by kernel_rfl) (by kernel_rfl) (by kernel_rfl) rfl ?obs8 ?end8
 case gr8 =>
  intro f hf hl7 v w1 w2 hs h
  simp only [List.mem_cons, List.not_mem_nil, or_false] at hf
  rcases hf with rfl | rfl | rfl | rfl | rfl | rfl | rfl | rfl | rfl | rfl <;> first | (cases hl7; done) | skip
  obtain ⟨g, c', e, h2⟩ := h
  exact ⟨g, c', e, h2.later hs⟩
 case obs8 =>
  refine Obs.cons ?_ ?_
  ·refine obS2 (by kernel_rfl) rfl rfl (fun ph8 w8 hO8 => ?_)
   refine VL.move rfl ?_
   exact VL.finS2 hO8 rfl rfl
  refine Obs.cons ?_ ?_
  ·refine obK2 (by kernel_rfl) rfl (fun w8 hO8 => ?_)
   rintro _ rfl
   refine VL.toOwn hO8 ?_
   refine VL.call Try.func110 rfl (by decide) rfl (fun w' hw => clone_p hw (hX.nowA (s := ⟨w, _⟩) Mono_par hw) hl) (fun v => ?_)
   refine VL.at (fun w9 h1w => ?_)
   obtain ⟨g9, c9, rfl, hO9⟩ := h1w
   refine VL.toOwn hO9 ?_
   exact VL.finK2 rfl (fun _ h => h.subA) (fun _ h => ⟨_, _, rfl, h.subA⟩)
  refine Obs.cons ?_ ?_
  ·refine obS2 (by kernel_rfl) rfl rfl (fun ph8 w8 hO8 => ?_)
   refine VL.fieldAddr rfl fo118_0 rfl ?_
   exact VL.finS2 hO8 rfl rfl
  refine Obs.cons ?_ ?_
  ·refine obS2 (by kernel_rfl) rfl rfl (fun ph8 w8 hO8 => ?_)
   rintro _ rfl
   refine VL.loadF (s := ⟨w13, _⟩) (v := .int .u8 (((pktR l).getD pkt0).src)) 0 rfl kd5 hF14 (fun _ e => e ▸ Still.ok hO8 (by repeat (first | exact List.mem_cons_self .. | apply List.mem_cons_of_mem))) rfl rfl ?_
   exact VL.finS2 hO8 rfl rfl
  refine Obs.cons ?_ ?_
  ·refine obS2 (by kernel_rfl) rfl rfl (fun ph8 w8 hO8 => ?_)
   refine VL.fieldAddr rfl fo118_1 rfl ?_
   exact VL.finS2 hO8 rfl rfl
  refine Obs.cons ?_ ?_
  ·refine obS2 (by kernel_rfl) rfl rfl (fun ph8 w8 hO8 => ?_)
   rintro _ rfl
   refine VL.loadF (s := ⟨w13, _⟩) (v := .int .u8 (((pktR l).getD pkt0).dst)) 1 rfl kd5 hF14 (fun _ e => e ▸ Still.ok hO8 (by repeat (first | exact List.mem_cons_self .. | apply List.mem_cons_of_mem))) rfl rfl ?_
   exact VL.finS2 hO8 rfl rfl
  refine Obs.cons ?_ ?_
  ·refine obS2 (by kernel_rfl) rfl rfl (fun ph8 w8 hO8 => ?_)
   refine VL.move rfl ?_
   exact VL.finS2 hO8 rfl rfl
  refine Obs.cons ?_ ?_
  ·refine obS2 (by kernel_rfl) rfl rfl (fun ph8 w8 hO8 => ?_)
   rintro _ rfl
   refine VL.conv (by rw [Try.underlying22]; rfl) Try.underlying48 rfl (by have hlt := hmn; simp only [InR]; omega) ?_
   exact VL.finS2 hO8 rfl rfl
  refine Obs.cons ?_ ?_
  ·refine obS2 (by kernel_rfl) rfl rfl (fun ph8 w8 hO8 => ?_)
   refine VL.move rfl ?_
   exact VL.finS2 hO8 rfl rfl
  refine Obs.cons ?_ ?_
  ·refine obA2 (by kernel_rfl) rfl (by kernel_rfl) (fun w8 hO8 => ?_)
   rintro _ rfl _ ⟨g8, c8, rfl, hR8⟩
   refine VL.call Try.func109 rfl (by decide) rfl (fun w' e => by subst e; exact cloneA hR8 (hA.nowA (s := ⟨w, _⟩) Mono.byte hR8) hb (fun k hk => by rw [keys_cons]; exact List.mem_append_right _ hk)) (fun v => ?_)
   refine VL.at (fun w9 h1w => ?_)
   obtain ⟨p9, c9, rfl, hg9, hB9⟩ := h1w
   exact VL.finA2 hO8 rfl (fun w e => by subst e; exact hg9) (fun w e => by subst e; exact ⟨_, _, rfl, hB9⟩)
  exact Obs.nil
 case end8 =>
  intro w8 hO8
  rintro _ ⟨g8, c8, rfl, hR8⟩ _ rfl _ rfl _ rfl _ ⟨p8, c9, rfl, hB8⟩
  have hB8' := hB8.apart hR8 (by decide)
  refine VL.toOwn hR8 ?_
  refine VL.build (zs := parZ) (L := parFL) [(0, [.int .u8 (((pktR l).getD pkt0).src)]), (1, [.int .u8 (((pktR l).getD pkt0).dst)]), (2, [.int .u32 ((min (now + 1 + farN (servN ((pktR l).getD pkt0).src) (servN ((pktR l).getD pkt0).dst)) 4294967295 : Nat))]), (3, [.slice p8 (l).length c9])] plan50 rfl ⟨⟨rfl, ⟨_, rfl, rfl⟩, rfl⟩, ⟨⟨rfl, ⟨_, rfl, rfl⟩, rfl⟩, ⟨⟨rfl, ⟨_, rfl, rfl⟩, rfl⟩, ⟨⟨rfl, ⟨_, rfl, rfl⟩, rfl⟩, trivial⟩⟩⟩⟩ rfl ?_
  refine VL.newv (v' := .agg (cat (parV ((layP l now)) p8 c9)).toArray) rfl ?_
  refine VL.lit el47 rfl rfl rfl (by intro v hv; simp only [List.mem_singleton] at hv; subst hv; rfl) (by rw [show [Value.agg (cat (parV (layP l now) p8 c9)).toArray].flatMap (·.cells.toList) = (cat (parV (layP l now) p8 c9)) by simp [Value.cells]]; exact parV_ok1 _ _ _) (fun gl => ?_)
  refine VL.letRow parR [(layP l now)] rfl (fun w' hw => one_par (layP_ok l now) (hB8'.nowA (s := ⟨w8, _⟩) Mono.byte hw)) (fun wl hOl hAl => ?_)
  refine VL.appends (R := parR) (hR := Mono_par) (ys := xs) (zs := [(layP l now)]) 0 el47 rfl rfl rfl (fun _ h => h) rfl (fun _ hw => hAl.nowA (s := ⟨wl, _⟩) Mono_par hw) parR_ok1 (by simp only [List.length_cons, List.length_nil]; omega) (fun gv2 cv2 => ?_) (by simp only [List.length_cons, List.length_nil]; omega)
  refine VL.set0 ?_
  refine VL.assign rfl ?_
  refine VL.assign rfl ?_
  refine VL.nn ?_
  refine VC.ret ?_
  refine VX.ret2 rfl rfl rfl (fun we hw => ?_)
  have h7 := hw
  exact ⟨_, _, rfl, h7.drop.subA, h7.letArr⟩

end Go.Proofs.Ytcfecmoagfgnaaa

/- What the document's answer takes bytes for: pieces, whatever they are. -/
namespace Go.Pl

/-- Bytes copied to an array of k bytes. -/
def padB (k : Nat) (l : List UInt8) : List UInt8 := l.take k ++ zeros (k - l.length)
theorem padB_length (k : Nat) (l : List UInt8) : (padB k l).length = k := by
 unfold padB; rw [List.length_append, List.length_take, zeros_length]; omega
theorem padB_self {l : List UInt8} {k : Nat} (h : l.length = k) : padB k l = l := by
 unfold padB; rw [List.take_of_length_le (by omega), h, Nat.sub_self]; exact List.append_nil l
def refN (p : List UInt8) : Nat := num (p.take 4)
def tkN (k : Nat) (ps : List (List UInt8)) : Nat := refN (nextP ps) % 256 ^ k
def tkB (k : Nat) (ps : List (List UInt8)) : List UInt8 := padB k (nextP ps)
theorem tkN_lt (k : Nat) (ps : List (List UInt8)) : tkN k ps < 256 ^ k := Nat.mod_lt _ (Nat.pow_pos (by decide))
theorem tkB_length (k : Nat) (ps : List (List UInt8)) : (tkB k ps).length = k := padB_length _ _
theorem refN_be {k n : Nat} (hk : k ≤ 4) (h : n < 256 ^ k) : refN (be k n) = n := by
 unfold refN; rw [List.take_of_length_le (by rw [be_length]; exact hk), num_be' h]
theorem tkN_be {k n : Nat} {r : List (List UInt8)} (hk : k ≤ 4) (h : n < 256 ^ k) : tkN k (be k n :: r) = n := by
 show refN (be k n) % 256 ^ k = n
 rw [refN_be hk h, Nat.mod_eq_of_lt h]
theorem tkB_cons {p : List UInt8} {r : List (List UInt8)} {k : Nat} (h : p.length = k) : tkB k (p :: r) = p := padB_self h

/-- What is read is that whose bytes these are. -/
theorem readT {α : Type} {R : List UInt8 → Option α} {O : α → Option (List UInt8)} {okp : α → Prop} (hR : ∀ l x, R l = some x ↔ okp x ∧ O x = some l) {l : List UInt8} {x0 : α} (h0 : okp x0) (h : ∀ y, okp y → O y = some l → y = x0) : R l = if O x0 = some l then some x0 else none := by
 split
 ·rename_i h1
  exact (hR l x0).2 ⟨h0, h1⟩
 ·rename_i h1
  cases hr : R l with
  | none => rfl
  | some y =>
   obtain ⟨h2, h3⟩ := (hR l y).1 hr
   exact absurd (h y h2 h3 ▸ h3) h1

def vouchT' (p : List UInt8) : Vouch := if p = [] then vouch0 else ⟨(p.headD 0).toNat, padB 64 (p.drop 1)⟩
theorem vouchT'_ok (p : List UInt8) : (vouchT' p).ok := by
 unfold vouchT'; split
 ·exact ⟨by decide, rfl⟩
 ·exact ⟨UInt8.toNat_lt _, padB_length _ _⟩
theorem vouchT'_B {v : Vouch} (h : v.ok) : vouchT' (vouchB v) = v := by
 unfold vouchT'
 rw [if_neg (by simp [vouchB])]
 have h1 := h.notary
 obtain ⟨a, b⟩ := v
 simp only at h1
 show Vouch.mk (UInt8.ofNat a).toNat (padB 64 b) = _
 rw [padB_self h.sig, UInt8.toNat_ofNat_of_lt' (by simpa using h1)]
def objectT' (a : List (List UInt8)) (vs : List Vouch) : Object :=
  ⟨tkN 1 a, tkN 1 (a.drop 1), tkB 32 ((a.drop 1).drop 1), tkN 4 (((a.drop 1).drop 1).drop 1), tkN 4 ((((a.drop 1).drop 1).drop 1).drop 1), tkB 64 (((((a.drop 1).drop 1).drop 1).drop 1).drop 1), vs⟩
def objectV' (a : List (List UInt8)) : List Vouch := ((((((((a.drop 1).drop 1).drop 1).drop 1).drop 1).drop 1)).map vouchT')
theorem objectT'_ok (a : List (List UInt8)) {vs : List Vouch} (h : ∀ v ∈ vs, v.ok) : (objectT' a vs).ok := ⟨tkN_lt 1 _, tkN_lt 1 _, tkB_length _ _, tkN_lt 4 _, tkN_lt 4 _, tkB_length _ _, h⟩
theorem objectV'_ok (a : List (List UInt8)) : ∀ v ∈ objectV' a, v.ok := fun v hv => by
 obtain ⟨p, _, rfl⟩ := List.mem_map.1 hv
 exact vouchT'_ok p
theorem vouches_back {vs : List Vouch} (h : ∀ v ∈ vs, v.ok) : (vs.map vouchB).map vouchT' = vs := by
 rw [List.map_map]
 conv => rhs; rw [← List.map_id vs]
 exact List.map_congr_left fun v hv => vouchT'_B (h v hv)
theorem objectO_P {y : Object} (h : y.ok) {l : List UInt8} (e : objectO y = some l) : openP l = objectP y ∧ objectT' (openP l) (objectV' (openP l)) = y := by
 unfold objectO at e
 split at e
 ·rename_i h4
  cases e
  have eo : openP (joinB (objectP y)) = objectP y := open_join (objectP_ok h h4)
  refine ⟨eo, ?_⟩
  rw [eo]
  obtain ⟨a, b, c, d, e, f, g⟩ := y
  have h1 := h.server; have h2 := h.n; have h3 := h.key; have h4 := h.since; have h5 := h.till; have h6 := h.sig
  simp only at h1 h2 h3 h4 h5 h6
  simp only [objectT', objectV', objectP, objectP0, List.cons_append, List.nil_append, List.drop_succ_cons, List.drop_zero]
  rw [tkN_be (by decide) (by omega), tkN_be (by decide) (by omega), tkB_cons h3, tkN_be (by decide) (by omega), tkN_be (by decide) (by omega), tkB_cons h6, vouches_back h.vouches]
 ·cases e
theorem object_rd (l : List UInt8) : objectR l = if objectO (objectT' (openP l) (objectV' (openP l))) = some l then some (objectT' (openP l) (objectV' (openP l))) else none :=
 readT (okp := Object.ok) (fun _ _ => objectR_iff) (objectT'_ok (openP l) (objectV'_ok _)) (fun y hy e => ((objectO_P hy e).2).symm)
theorem object_open {l : List UInt8} {y : Object} (h : objectR l = some y) : openP l ≠ [] := by
 obtain ⟨h1, h2⟩ := objectR_iff.1 h
 rw [(objectO_P h1 h2).1]; simp [objectP, objectP0]

def chainT' (p : List UInt8) : List Object := (openP p).map fun q => (objectR q).getD object0
theorem chainT'_ok (p : List UInt8) : ∀ x ∈ chainT' p, x.ok := fun x hx => by
 obtain ⟨q, _, rfl⟩ := List.mem_map.1 hx
 exact objectR_ok q
def pktT' (a : List (List UInt8)) (xs : List Object) : Pkt := ⟨tkN 1 a, tkN 1 (at1 a), tkN 1 (at2 a), xs, nextP (at4 a), tkB 64 (at5 a)⟩
theorem pktT'_ok (a : List (List UInt8)) {xs : List Object} (h : ∀ x ∈ xs, x.ok) : (pktT' a xs).ok := ⟨tkN_lt 1 _, tkN_lt 1 _, tkN_lt 1 _, h, tkB_length _ _⟩
theorem pktO_P {y : Pkt} (h : y.ok) {l : List UInt8} (e : pktO y = some l) : openP l = pktP y ∧ pktT' (openP l) (chainT' (nextP (at3 (openP l)))) = y := by
 obtain ⟨h1, h2, rfl⟩ := joinO_eq e
 have eo := open_join h1
 refine ⟨eo, ?_⟩
 rw [eo]
 rw [Bool.and_eq_true] at h2
 obtain ⟨t, ht⟩ := Option.isSome_iff_exists.1 h2.1
 obtain ⟨h3, h4, h5⟩ := joinO_eq ht
 have e1 : chainT' t = y.chain := by
  unfold chainT'
  rw [h5, open_join h3]
  exact (objects_back h.chain (chainGood_iff.1 h4).2).2
 obtain ⟨a, b, c, d, m, f⟩ := y
 have h6 := h.src; have h7 := h.dst; have h8 := h.kind; have h9 := h.sig
 simp only at h6 h7 h8 h9 ht e1
 simp only [pktT', pktP, at1, at2, at3, at4, at5, List.drop_succ_cons, List.drop_zero]
 rw [tkN_be (by decide) (by omega), tkN_be (by decide) (by omega), tkN_be (by decide) (by omega), tkB_cons h9, show nextP [(chainO d).getD [], m, f] = t by show (chainO d).getD [] = t; rw [ht]; rfl, e1]
 rfl
theorem pkt_rd (l : List UInt8) : pktR l = if pktO (pktT' (openP l) (chainT' (nextP (at3 (openP l))))) = some l then some (pktT' (openP l) (chainT' (nextP (at3 (openP l))))) else none :=
 readT (okp := Pkt.ok) (fun _ _ => pktR_iff) (pktT'_ok (openP l) (chainT'_ok _)) (fun y hy e => ((pktO_P hy e).2).symm)
theorem pkt_open {l : List UInt8} {y : Pkt} (h : pktR l = some y) : openP l ≠ [] := by
 obtain ⟨h1, h2⟩ := pktR_iff.1 h
 rw [(pktO_P h1 h2).1]; simp [pktP]
end Go.Pl

