/- The statement FedqLoads is proved, for every input: part 18 of 26 of the texts that it needs. -/
import Derived.Test.YtcfecmoagfgnaaaMfloAQ
/- Rows: lists of them, one against another; queues. -/
namespace Go.Proofs.Ytcfecmoagfgnaaa
open Go.Vc Go.Pl

theorem bytes_D {S : List Snap} {H : List Chunk} {w : World} (ho : Own S H w) {p q : Option Addr} {l k : List UInt8} {c d : Nat} (hA : Bytes (keys H) w p l c) (hB : Bytes (keys H) w q k d) : Calls Try.prog 27 #[.slice p l.length c, .slice q k.length d] w (Ret fun v w' => v = .bool (decide (l = k)) ∧ Own S H w') :=
 calls_mono (bytes_any ho hA hB) fun v w' ⟨h1, h2⟩ => ⟨h2, h1⟩
theorem take_next {X : Type} {xs ys : List X} {k : Nat} (h1 : k < xs.length) (h2 : k < ys.length) (h : xs.take k = ys.take k) (e : xs[k]'h1 = ys[k]'h2) : xs.take (k + 1) = ys.take (k + 1) := by
 rw [List.take_succ_eq_append_getElem h1, List.take_succ_eq_append_getElem h2, h, e]
theorem take_all {X : Type} {xs ys : List X} {k : Nat} (hk : k = xs.length) (hl : xs.length = ys.length) (h : xs.take k = ys.take k) : xs = ys := by
 subst hk
 rw [List.take_length, hl, List.take_length] at h
 exact h
theorem at_ne {X : Type} {xs ys : List X} {k : Nat} (h1 : k < xs.length) (h2 : k < ys.length) (e : ¬ xs[k]'h1 = ys[k]'h2) : ¬ xs = ys := fun h => e (by subst h; rfl)

theorem eqRows_w {S : List Snap} {H : List Chunk} {w : World} (ho : Own S H w) {xs ys : List Chg} {p q : Option Addr} {c d : Nat} (hX : Arr 3 chgR (keys H) w p xs c) (hY : Arr 3 chgR (keys H) w q ys d) : Calls Try.prog 154 #[.slice p xs.length c, .slice q ys.length d, (.func (.func 155) #[] #[])] w (Ret fun v w' => ∃ b, v = .bool b ∧ (b = true ↔ xs = ys) ∧ Own S H w') := by
 have hsm := hX.small
 refine enter (G := Own (⟨w, keys H⟩ :: S) H) ho.keep Try.func154 rfl Try.ntmps154 rfl ?_
 refine VC.sr ?_
 refine VL.assign rfl ?_
 refine VL.nn ?_
 refine VC.seq ?_
 refine VC.sr ?_
 refine VL.move rfl ?_
 refine VL.len Try.underlying158 rfl rfl ?_
 refine VL.move rfl ?_
 refine VL.len Try.underlying158 rfl rfl ?_
 refine VL.neq rfl rfl ?_
 refine VL.case (fun h1 => ?_) (fun h1 => ?_)
 ·have h1 : ¬ xs.length = ys.length := by omega
  refine VL.nn ?_
  refine VC.yes rfl ?_
  refine VC.sr ?_
  refine VL.assign rfl ?_
  refine VL.nn ?_
  refine VC.ret ?_
  refine VX.then_ret ?_
  refine VX.ret1 rfl rfl (fun we hw => ?_)
  exact ⟨false, rfl, ⟨fun h => (by cases h), fun h => absurd h (fun h => h1 (by rw [h]))⟩, hw.subA⟩
 ·have h1 : xs.length = ys.length := by omega
  refine VL.nn ?_
  refine VC.no rfl ?_
  refine VC.skip ?_
  refine VX.next ?_
  refine VC.seq ?_
  refine VC.sr ?_
  refine VL.move rfl ?_
  refine VL.len Try.underlying158 rfl rfl ?_
  refine VL.move rfl ?_
  refine VL.nn ?_
  refine VC.block ?_
  refine VC.loop (X := Nat) (fun k => [(1, .slice q ys.length d), (2, (.func (.func 155) #[] #[])), (15, .slice p xs.length c), (16, .int .i64 (xs.length : Int)), (17, .int .i64 (k : Int))]) (fun k w' => (k ≤ xs.length ∧ xs.take k = ys.take k) ∧ Own (⟨w, keys H⟩ :: S) H w') (fun k => xs.length - k) 0 ⟨rfl, rfl, rfl, rfl, rfl, trivial⟩ (fun w' h => ⟨⟨Nat.zero_le _, rfl⟩, h⟩) (fun k => VC.fact fun ⟨hk, htk⟩ => ?_)
  ·skip
   refine VC.sr ?_
   refine VL.lss rfl rfl ?_
   refine VL.case (fun h4 => ?_) (fun h4 => ?_)
   ·have hlt : k < xs.length := by omega
    have hlt2 : k < ys.length := by omega
    refine VL.nn ?_
    refine VC.seq ?_
    refine VC.yes rfl ?_
    refine VC.skip ?_
    refine VX.next ?_
    refine VC.seq ?_
    refine VC.block ?_
    refine VC.sr ?_
    refine VL.move rfl ?_
    refine VL.index (xs := xs) rfl rfl Try.underlying158 sz158 hX (by omega) (by have hi := hlt; omega) ?_
    refine VL.elems (s := ⟨w, _⟩) (m := 3) (k) 0 rfl kd167 (fun _ h => h) (by repeat (first | exact List.mem_cons_self .. | apply List.mem_cons_of_mem)) hX (List.getElem?_eq_getElem hlt) (by simp) (by decide) (fun vs hl hr => ?_)
    obtain ⟨p3, c4, rfl, hA5⟩ := hr
    refine VL.newv (v' := .agg (cat (chgV (xs[k]'hlt) p3 c4)).toArray) (by rw [List.drop_zero, List.take_of_length_le (by rw [hl]; decide)]) ?_
    refine VL.alloc (L := chgL) (ps := (chgV (chg0) none 0)) zero167 rfl rfl (fun g6 => ?_)
    refine VL.assign rfl ?_
    refine VL.store (L := chgL) (qs := (chgV ((xs[k]'hlt)) p3 c4)) (ps' := (chgV ((xs[k]'hlt)) p3 c4)) 0 0 3 rfl rfl rfl (.inl kd167) rfl rfl (chgV_len (chg_ok (xs[k]'hlt))) (chgV_ok1 ((xs[k]'hlt)) p3 c4) rfl rfl ?_
    refine VL.set0 ?_
    refine VL.nn ?_
    refine VC.sr ?_
    refine VL.move rfl ?_
    refine VL.move rfl ?_
    refine VL.index (xs := ys) rfl rfl Try.underlying158 sz158 hY (by omega) (by have hi := hlt2; omega) ?_
    refine VL.elems (s := ⟨w, _⟩) (m := 3) (k) 0 rfl kd167 (fun _ h => h) (by repeat (first | exact List.mem_cons_self .. | apply List.mem_cons_of_mem)) hY (List.getElem?_eq_getElem hlt2) (by simp) (by decide) (fun vs hl hr => ?_)
    obtain ⟨p9, c10, rfl, hA11⟩ := hr
    refine VL.newv (v' := .agg (cat (chgV (ys[k]'hlt2) p9 c10)).toArray) (by rw [List.drop_zero, List.take_of_length_le (by rw [hl]; decide)]) ?_
    refine VL.alloc (L := chgL) (ps := (chgV (chg0) none 0)) zero167 rfl rfl (fun g12 => ?_)
    refine VL.store (L := chgL) (qs := (chgV ((ys[k]'hlt2)) p9 c10)) (ps' := (chgV ((ys[k]'hlt2)) p9 c10)) 0 0 3 rfl rfl rfl (.inl kd167) rfl rfl (chgV_len (chg_ok (ys[k]'hlt2))) (chgV_ok1 ((ys[k]'hlt2)) p9 c10) rfl rfl ?_
    refine VL.set0 ?_
    refine VL.nn ?_
    refine VC.sr ?_
    refine VL.move rfl ?_
    refine VL.loads (cs := cat (chgV ((xs[k]'hlt)) p3 c4)) 1 0 3 rfl kd167 (fun _ h => h) rfl rfl rfl rfl ?_
    refine VL.loads (cs := cat (chgV ((ys[k]'hlt2)) p9 c10)) 0 0 3 rfl kd167 (fun _ h => h) rfl rfl rfl rfl ?_
    refine VL.callv (cs := []) rfl Try.func155 rfl (by decide) rfl (fun w' hw => sameRow_w hw (hA5.nowA (s := ⟨w, _⟩) Mono.byte hw) (hA11.nowA (s := ⟨w, _⟩) Mono.byte hw)) (fun v => ?_)
    refine VL.ex fun b => VL.fact fun e => VL.fact fun h7 => ?_
    subst e
    cases b
    ·have h7 := mt h7.2 (by decide)
     refine VL.not rfl ?_
     refine VL.nn ?_
     refine VC.yes rfl ?_
     refine VC.sr ?_
     refine VL.assign rfl ?_
     refine VL.nn ?_
     refine VC.ret ?_
     refine VX.block_ret ?_
     refine VX.then_ret ?_
     refine VX.then_ret ?_
     refine VX.block_ret ?_
     refine VX.then_ret ?_
     refine VX.ret1 rfl rfl (fun we hw => ?_)
     exact ⟨false, rfl, ⟨fun h => (by cases h), fun h => absurd h (at_ne hlt hlt2 h7)⟩, hw.drop.drop.subA⟩
    ·have h7 := h7.1 rfl
     refine VL.not rfl ?_
     refine VL.nn ?_
     refine VC.no rfl ?_
     refine VC.skip ?_
     refine VX.block_normal ?_
     refine VX.next ?_
     refine VC.region ?_
     refine VL.add rfl rfl (by simp only [InR]; omega) ?_
     refine VL.move rfl ?_
     refine VL.nil ?_
     refine VX.round (k + 1) ⟨rfl, rfl, rfl, rfl, rfl, trivial⟩ (fun w' h => ⟨⟨by omega, take_next hlt hlt2 htk h7⟩, h.drop.drop.subA⟩) (by omega)
   ·have hke : k = xs.length := by omega
    refine VL.nn ?_
    refine VC.seq ?_
    refine VC.no rfl ?_
    refine VC.exit ?_
    refine VX.then_exit ?_
    refine VX.then_exit ?_
    refine VX.block_here ?_
    refine VX.next ?_
    refine VC.sr ?_
    refine VL.assign rfl ?_
    refine VL.nn ?_
    refine VC.ret ?_
    refine VX.ret1 rfl rfl (fun we hw => ?_)
    exact ⟨true, rfl, ⟨fun _ => take_all hke h1 htk, fun _ => rfl⟩, hw.subA⟩

theorem find_w {S : List Snap} {H : List Chunk} {w : World} (ho : Own S H w) {l : List Chg} {p : Option Addr} {c : Nat} (hX : Arr 3 chgR (keys H) w p l c) (nm : ByteArray) : Calls Try.prog 156 #[.slice p l.length c, .string nm] w (Ret fun v w' => ∃ p c, v = .tuple #[.agg (cat (chgV ((fnd l nm).getD chg0) p c)).toArray, .bool (fnd l nm).isSome] ∧ Own S H w' ∧ Bytes (keys H) w' p ((fnd l nm).getD chg0).value c) := by
 have hsm := hX.small
 refine enter (G := Own (⟨w, keys H⟩ :: S) H) ho.keep Try.func156 rfl Try.ntmps156 rfl ?_
 refine VC.sr ?_
 refine VL.alloc (L := chgL) (ps := (chgV (chg0) none 0)) zero167 rfl rfl (fun g1 => ?_)
 refine VL.assign rfl ?_
 refine VL.nn ?_
 refine VC.seq ?_
 refine VC.sr ?_
 refine VL.assign rfl ?_
 refine VL.nn ?_
 refine VC.block ?_
 refine VC.loop (X := Nat) (fun k => [(0, .slice p l.length c), (1, .string nm), (4, .pointer (some ⟨g1, 0, none⟩)), (6, .int .i64 (k : Int))]) (fun k w' => (k ≤ l.length ∧ fnd (l.drop k) nm = fnd l nm) ∧ Own (⟨w, keys H⟩ :: S) (blk g1 167 chgL (chgV (chg0) none 0) :: H) w') (fun k => l.length - k) 0 ⟨rfl, rfl, rfl, rfl, trivial⟩ (fun w' h => ⟨⟨Nat.zero_le _, rfl⟩, h⟩) (fun k => VC.fact fun ⟨hk, hf⟩ => ?_)
 ·skip
  refine VC.seq ?_
  refine VC.sr ?_
  refine VL.move rfl ?_
  refine VL.move rfl ?_
  refine VL.len Try.underlying158 rfl rfl ?_
  refine VL.lss rfl rfl ?_
  refine VL.case (fun h2 => ?_) (fun h2 => ?_)
  ·have hlt : k < l.length := by omega
   refine VL.nn ?_
   refine VC.yes rfl ?_
   refine VC.skip ?_
   refine VX.next ?_
   refine VC.seq ?_
   refine VC.block ?_
   refine VC.sr ?_
   refine VL.move rfl ?_
   refine VL.move rfl ?_
   refine VL.index (xs := l) rfl rfl Try.underlying158 sz158 hX (by omega) (by have hi := hlt; omega) ?_
   refine VL.fieldAt rfl (by obtain ⟨a, ha⟩ := hX.isAt (by have hi := hlt; omega); rw [ha]; rfl) fo167_0 ?_
   refine VL.elem (s := ⟨w, _⟩) (k) 0 rfl kd9 (fun _ h => h) (by repeat (first | exact List.mem_cons_self .. | apply List.mem_cons_of_mem)) Mono_chg hX (List.getElem?_eq_getElem hlt) (by simp) (by decide) (fun vs v hl hr hv => ?_)
   obtain ⟨p3, c4, rfl, hA5⟩ := hr
   have ehy2 : v = .string (l[k]'hlt).name := (Option.some.inj (hv.symm.trans rfl))
   subst ehy2
   refine VL.move rfl ?_
   refine VL.eqls rfl rfl ?_
   refine VL.case (fun h4 => ?_) (fun h4 => ?_)
   ·refine VL.nn ?_
    refine VC.yes rfl ?_
    refine VC.sr ?_
    refine VL.move rfl ?_
    refine VL.move rfl ?_
    refine VL.index (xs := l) rfl rfl Try.underlying158 sz158 hX (by omega) (by have hi := hlt; omega) ?_
    refine VL.elems (s := ⟨w, _⟩) (m := 3) (k) 0 rfl kd167 (fun _ h => h) (by repeat (first | exact List.mem_cons_self .. | apply List.mem_cons_of_mem)) hX (List.getElem?_eq_getElem hlt) (by simp) (by decide) (fun vs hl hr => ?_)
    obtain ⟨p8, c9, rfl, hA10⟩ := hr
    refine VL.newv (v' := .agg (cat (chgV (l[k]'hlt) p8 c9)).toArray) (by rw [List.drop_zero, List.take_of_length_le (by rw [hl]; decide)]) ?_
    refine VL.store (L := chgL) (qs := (chgV ((l[k]'hlt)) p8 c9)) (ps' := (chgV ((l[k]'hlt)) p8 c9)) 0 0 3 rfl rfl rfl (.inl kd167) rfl rfl (chgV_len (chg_ok (l[k]'hlt))) (chgV_ok1 ((l[k]'hlt)) p8 c9) rfl rfl ?_
    refine VL.set0 ?_
    refine VL.assign rfl ?_
    refine VL.nn ?_
    refine VC.ret ?_
    refine VX.block_ret ?_
    refine VX.then_ret ?_
    refine VX.then_ret ?_
    refine VX.block_ret ?_
    refine VX.then_ret ?_
    refine VX.ret_cell (cs := cat (chgV ((l[k]'hlt)) p8 c9)) 0 rfl rfl rfl (by rw [cat_size (chgV_len (chg_ok (l[k]'hlt)))]; exact kd167) (fun _ h => h) rfl rfl (fun we hw => ?_)
    have e1 : fnd l nm = some (l[k]'hlt) := hf.symm.trans (fnd_hit hlt h4)
    rw [e1]
    exact ⟨_, _, rfl, hw.drop.subA, (hA10.nowA (s := ⟨w, _⟩) Mono.byte hw.drop)⟩
   ·refine VL.nn ?_
    refine VC.no rfl ?_
    refine VC.skip ?_
    refine VX.block_normal ?_
    refine VX.next ?_
    refine VC.region ?_
    refine VL.move rfl ?_
    refine VL.add rfl rfl (by simp only [InR]; omega) ?_
    refine VL.assign rfl ?_
    refine VL.nil ?_
    refine VX.round (k + 1) ⟨rfl, rfl, rfl, rfl, trivial⟩ (fun w' h => ⟨⟨by omega, by rw [← hf, fnd_miss hlt h4]⟩, h.subA⟩) (by omega)
  ·have hke : k = l.length := by omega
   refine VL.nn ?_
   refine VC.no rfl ?_
   refine VC.exit ?_
   refine VX.then_exit ?_
   refine VX.then_exit ?_
   refine VX.block_here ?_
   refine VX.next ?_
   refine VC.sr ?_
   refine VL.build0 (cs := cat (chgV (chg0) none 0)) built167 ?_
   refine VL.store (L := chgL) (qs := (chgV (chg0) none 0)) (ps' := (chgV (chg0) none 0)) 0 0 3 rfl rfl rfl (.inl kd167) rfl rfl rfl (chgV_ok1 chg0 none 0) rfl rfl ?_
   refine VL.set0 ?_
   refine VL.assign rfl ?_
   refine VL.nn ?_
   refine VC.ret ?_
   refine VX.ret_cell (cs := cat (chgV (chg0) none 0)) 0 rfl rfl rfl (by rw [cat_size rfl]; exact kd167) (fun _ h => h) rfl rfl (fun we hw => ?_)
   have e1 : fnd l nm = none := hf.symm.trans (fnd_end hke)
   rw [e1]
   exact ⟨_, _, rfl, hw.drop.subA, Arr.none⟩

theorem refSame_w {S : List Snap} {H : List Chunk} {w : World} (ho : Own S H w) {xs ys : List Chg} {p q : Option Addr} {c d : Nat} (hX : Arr 3 chgR (keys H) w p xs c) (hY : Arr 3 chgR (keys H) w q ys d) : Calls Try.prog 104 #[.slice p xs.length c, .slice q ys.length d] w (Ret fun v w' => ∃ b, v = .bool b ∧ (b = true ↔ xs = ys) ∧ Own S H w') := by
 have hsm := hX.small
 refine enter (G := Own (⟨w, keys H⟩ :: S) H) ho.keep Try.func104 rfl Try.ntmps104 rfl ?_
 refine VC.sr ?_
 refine VL.assign rfl ?_
 refine VL.nn ?_
 refine VC.seq ?_
 refine VC.sr ?_
 refine VL.move rfl ?_
 refine VL.len Try.underlying158 rfl rfl ?_
 refine VL.move rfl ?_
 refine VL.len Try.underlying158 rfl rfl ?_
 refine VL.neq rfl rfl ?_
 refine VL.case (fun h1 => ?_) (fun h1 => ?_)
 ·have h1 : ¬ xs.length = ys.length := by omega
  refine VL.nn ?_
  refine VC.yes rfl ?_
  refine VC.sr ?_
  refine VL.assign rfl ?_
  refine VL.nn ?_
  refine VC.ret ?_
  refine VX.then_ret ?_
  refine VX.ret1 rfl rfl (fun we hw => ?_)
  exact ⟨false, rfl, ⟨fun h => (by cases h), fun h => absurd h (fun h => h1 (by rw [h]))⟩, hw.subA⟩
 ·have h1 : xs.length = ys.length := by omega
  refine VL.nn ?_
  refine VC.no rfl ?_
  refine VC.skip ?_
  refine VX.next ?_
  refine VC.seq ?_
  refine VC.sr ?_
  refine VL.assign rfl ?_
  refine VL.nn ?_
  refine VC.block ?_
  refine VC.loop (X := Nat) (fun k => [(0, .slice p xs.length c), (1, .slice q ys.length d), (5, .int .i64 (k : Int))]) (fun k w' => (k ≤ xs.length ∧ xs.take k = ys.take k) ∧ Own (⟨w, keys H⟩ :: S) H w') (fun k => xs.length - k) 0 ⟨rfl, rfl, rfl, trivial⟩ (fun w' h => ⟨⟨Nat.zero_le _, rfl⟩, h⟩) (fun k => VC.fact fun ⟨hk, htk⟩ => ?_)
  ·skip
   refine VC.seq ?_
   refine VC.sr ?_
   refine VL.move rfl ?_
   refine VL.move rfl ?_
   refine VL.len Try.underlying158 rfl rfl ?_
   refine VL.lss rfl rfl ?_
   refine VL.case (fun h4 => ?_) (fun h4 => ?_)
   ·have hlt : k < xs.length := by omega
    have hlt2 : k < ys.length := by omega
    refine VL.nn ?_
    refine VC.yes rfl ?_
    refine VC.skip ?_
    refine VX.next ?_
    refine VC.seq ?_
    refine VC.block ?_
    refine VC.seq ?_
    rcases chg_cases (xs[k]'hlt) (ys[k]'hlt2) with h1c | ⟨h1c, h2c⟩ | ⟨h1c, h2c, h3c⟩ | h1c
    ·apply VC.anyTA 35 1038 (F := [eqF _, eqF _, eqF _, eqF _, eqF _, eqF _, eqF _, eqF _, eqF _, eqF _, eqF _, eqF _, eqF _, eqF _, eqF _, eqF _, eqF _, eqF _, eqF _, eqF _, eqF _, eqF _, eqF _, eqF _, eqF _, eqF _, eqF _, eqF _, eqF _, eqF _, eqF _, eqF _, eqF _, eqF _, eqF _]) [⟨[], [0]⟩, ⟨[], [5]⟩, ⟨[(17, 0), (18, 1)], []⟩, ⟨[(19, 2)], []⟩, ⟨[(20, 3)], []⟩, ⟨[], [1]⟩, ⟨[], [5]⟩, ⟨[(22, 5), (23, 6)], []⟩, ⟨[(24, 7)], []⟩, ⟨[(25, 8)], []⟩, ⟨[(21, 4), (26, 9)], []⟩, ⟨[(27, 10)], []⟩, ⟨[(28, 11)], [0]⟩, ⟨[(28, 11)], [5]⟩, ⟨[(29, 12), (30, 13), (28, 11)], []⟩, ⟨[(31, 14), (28, 11)], []⟩, ⟨[(32, 15), (28, 11)], []⟩, ⟨[(28, 11)], [1]⟩, ⟨[(28, 11)], [5]⟩, ⟨[(34, 17), (35, 18), (28, 11)], []⟩, ⟨[(36, 19), (28, 11)], []⟩, ⟨[(37, 20), (28, 11)], []⟩, ⟨[(33, 16), (38, 21), (28, 11)], []⟩, ⟨[(28, 11), (39, 22)], []⟩, ⟨[(40, 23)], []⟩, ⟨[(41, 24)], [0]⟩, ⟨[(41, 24)], [5]⟩, ⟨[(42, 25), (43, 26), (41, 24)], []⟩, ⟨[(44, 27), (41, 24)], []⟩, ⟨[(45, 28), (41, 24)], []⟩, ⟨[(41, 24)], [1]⟩, ⟨[(41, 24)], [5]⟩, ⟨[(47, 30), (48, 31), (41, 24)], []⟩, ⟨[(49, 32), (41, 24)], []⟩, ⟨[(50, 33), (41, 24)], []⟩] [(41, 24), (46, 29), (51, 34)] [0, 1, 4, 5, 6, 7, 8, 9, 10, 11, 12, 13, 14, 15, 16, 52, 53, 54] rfl (by kernel_rfl) (by kernel_rfl) rfl rfl (by kernel_rfl) (by kernel_rfl) (by kernel_rfl) rfl ?obs6 ?end6
     case obs6 =>
      refine Obs.cons ?_ ?_
      ·refine obS (by kernel_rfl) rfl rfl (fun ph6 w6 hO6 => ?_)
       refine VL.move rfl ?_
       exact VL.finS hO6 rfl rfl
      refine Obs.cons ?_ ?_
      ·refine obS (by kernel_rfl) rfl rfl (fun ph6 w6 hO6 => ?_)
       refine VL.move rfl ?_
       exact VL.finS hO6 rfl rfl
      refine Obs.cons ?_ ?_
      ·refine obS (by kernel_rfl) rfl rfl (fun ph6 w6 hO6 => ?_)
       rintro _ rfl _ rfl
       refine VL.index (xs := xs) rfl rfl Try.underlying158 sz158 hX (by omega) (by have hi := hlt; omega) ?_
       exact VL.finS hO6 rfl rfl
      refine Obs.cons ?_ ?_
      ·refine obS (by kernel_rfl) rfl rfl (fun ph6 w6 hO6 => ?_)
       rintro _ rfl
       refine VL.fieldAt rfl (by obtain ⟨a, ha⟩ := hX.isAt (by have hi := hlt; omega); rw [ha]; rfl) fo167_0 ?_
       exact VL.finS hO6 rfl rfl
      refine Obs.cons ?_ ?_
      ·refine ob (by kernel_rfl) rfl (by kernel_rfl) rfl (fun w6 hO6 => ?_)
       rintro _ rfl
       refine VL.elem (s := ⟨w, _⟩) (k) 0 rfl kd9 (fun _ e => e ▸ hO6) (by repeat (first | exact List.mem_cons_self .. | apply List.mem_cons_of_mem)) Mono_chg hX (List.getElem?_eq_getElem hlt) (by simp) (by decide) (fun vs v hl hr hv => ?_)
       obtain ⟨p2, c3, rfl, hA4⟩ := hr
       have ehy1 : v = .string (xs[k]'hlt).name := (Option.some.inj (hv.symm.trans rfl))
       subst ehy1
       exact VL.finS hO6 rfl rfl
      refine Obs.cons ?_ ?_
      ·refine obS (by kernel_rfl) rfl rfl (fun ph6 w6 hO6 => ?_)
       refine VL.move rfl ?_
       exact VL.finS hO6 rfl rfl
      refine Obs.cons ?_ ?_
      ·refine obS (by kernel_rfl) rfl rfl (fun ph6 w6 hO6 => ?_)
       refine VL.move rfl ?_
       exact VL.finS hO6 rfl rfl
      refine Obs.cons ?_ ?_
      ·refine obS (by kernel_rfl) rfl rfl (fun ph6 w6 hO6 => ?_)
       rintro _ rfl _ rfl
       refine VL.index (xs := ys) rfl rfl Try.underlying158 sz158 hY (by omega) (by have hi := hlt2; omega) ?_
       exact VL.finS hO6 rfl rfl
      refine Obs.cons ?_ ?_
      ·refine obS (by kernel_rfl) rfl rfl (fun ph6 w6 hO6 => ?_)
       rintro _ rfl
       refine VL.fieldAt rfl (by obtain ⟨a, ha⟩ := hY.isAt (by have hi := hlt2; omega); rw [ha]; rfl) fo167_0 ?_
       exact VL.finS hO6 rfl rfl
      refine Obs.cons ?_ ?_
      ·refine ob (by kernel_rfl) rfl (by kernel_rfl) rfl (fun w6 hO6 => ?_)
       rintro _ rfl
       refine VL.elem (s := ⟨w, _⟩) (k) 0 rfl kd9 (fun _ e => e ▸ hO6) (by repeat (first | exact List.mem_cons_self .. | apply List.mem_cons_of_mem)) Mono_chg hY (List.getElem?_eq_getElem hlt2) (by simp) (by decide) (fun vs v hl hr hv => ?_)
       obtain ⟨p6, c7, rfl, hA8⟩ := hr
       have ehy5 : v = .string (ys[k]'hlt2).name := (Option.some.inj (hv.symm.trans rfl))
       subst ehy5
       exact VL.finS hO6 rfl rfl
      refine Obs.cons ?_ ?_
      ·refine obS (by kernel_rfl) rfl rfl (fun ph6 w6 hO6 => ?_)
       rintro _ rfl _ rfl
       refine VL.neqs rfl rfl ?_
       refine VL.yes h1c ?_
       exact VL.finS hO6 rfl rfl
      refine Obs.cons ?_ ?_
      ·refine obS (by kernel_rfl) rfl rfl (fun ph6 w6 hO6 => ?_)
       rintro _ rfl
       refine VL.move rfl ?_
       exact VL.finS hO6 rfl rfl
      refine Obs.cons ?_ ?_
      ·refine obS (by kernel_rfl) rfl rfl (fun ph6 w6 hO6 => ?_)
       rintro _ rfl
       refine VL.pass rfl rfl rfl rfl rfl ?_
       exact VL.finS hO6 rfl rfl
      refine Obs.cons ?_ ?_
      ·refine obS (by kernel_rfl) rfl rfl (fun ph6 w6 hO6 => ?_)
       rintro _ rfl
       refine VL.pass rfl rfl rfl rfl rfl ?_
       exact VL.finS hO6 rfl rfl
      refine Obs.cons ?_ ?_
      ·refine obS (by kernel_rfl) rfl rfl (fun ph6 w6 hO6 => ?_)
       rintro _ rfl _ rfl _ rfl
       refine VL.pass rfl rfl rfl rfl rfl ?_
       exact VL.finS hO6 rfl rfl
      refine Obs.cons ?_ ?_
      ·refine obS (by kernel_rfl) rfl rfl (fun ph6 w6 hO6 => ?_)
       rintro _ rfl _ rfl
       refine VL.pass rfl rfl rfl rfl rfl ?_
       exact VL.finS hO6 rfl rfl
      refine Obs.cons ?_ ?_
      ·refine obS (by kernel_rfl) rfl rfl (fun ph6 w6 hO6 => ?_)
       rintro _ rfl _ rfl
       refine VL.pass rfl rfl rfl rfl rfl ?_
       exact VL.finS hO6 rfl rfl
      refine Obs.cons ?_ ?_
      ·refine obS (by kernel_rfl) rfl rfl (fun ph6 w6 hO6 => ?_)
       rintro _ rfl
       refine VL.pass rfl rfl rfl rfl rfl ?_
       exact VL.finS hO6 rfl rfl
      refine Obs.cons ?_ ?_
      ·refine obS (by kernel_rfl) rfl rfl (fun ph6 w6 hO6 => ?_)
       rintro _ rfl
       refine VL.pass rfl rfl rfl rfl rfl ?_
       exact VL.finS hO6 rfl rfl
      refine Obs.cons ?_ ?_
      ·refine obS (by kernel_rfl) rfl rfl (fun ph6 w6 hO6 => ?_)
       rintro _ rfl _ rfl _ rfl
       refine VL.pass rfl rfl rfl rfl rfl ?_
       exact VL.finS hO6 rfl rfl
      refine Obs.cons ?_ ?_
      ·refine obS (by kernel_rfl) rfl rfl (fun ph6 w6 hO6 => ?_)
       rintro _ rfl _ rfl
       refine VL.pass rfl rfl rfl rfl rfl ?_
       exact VL.finS hO6 rfl rfl
      refine Obs.cons ?_ ?_
      ·refine obS (by kernel_rfl) rfl rfl (fun ph6 w6 hO6 => ?_)
       rintro _ rfl _ rfl
       refine VL.pass rfl rfl rfl rfl rfl ?_
       exact VL.finS hO6 rfl rfl
      refine Obs.cons ?_ ?_
      ·refine obS (by kernel_rfl) rfl rfl (fun ph6 w6 hO6 => ?_)
       rintro _ rfl _ rfl _ rfl
       refine VL.pass rfl rfl rfl rfl rfl ?_
       exact VL.finS hO6 rfl rfl
      refine Obs.cons ?_ ?_
      ·refine obS (by kernel_rfl) rfl rfl (fun ph6 w6 hO6 => ?_)
       rintro _ rfl _ rfl
       refine VL.pick_t rfl rfl ?_
       exact VL.finS hO6 rfl rfl
      refine Obs.cons ?_ ?_
      ·refine obS (by kernel_rfl) rfl rfl (fun ph6 w6 hO6 => ?_)
       rintro _ rfl
       refine VL.move rfl ?_
       exact VL.finS hO6 rfl rfl
      refine Obs.cons ?_ ?_
      ·refine obS (by kernel_rfl) rfl rfl (fun ph6 w6 hO6 => ?_)
       rintro _ rfl
       refine VL.pass rfl rfl rfl rfl rfl ?_
       exact VL.finS hO6 rfl rfl
      refine Obs.cons ?_ ?_
      ·refine obS (by kernel_rfl) rfl rfl (fun ph6 w6 hO6 => ?_)
       rintro _ rfl
       refine VL.pass rfl rfl rfl rfl rfl ?_
       exact VL.finS hO6 rfl rfl
      refine Obs.cons ?_ ?_
      ·refine obS (by kernel_rfl) rfl rfl (fun ph6 w6 hO6 => ?_)
       rintro _ rfl _ rfl _ rfl
       refine VL.pass rfl rfl rfl rfl rfl ?_
       exact VL.finS hO6 rfl rfl
      refine Obs.cons ?_ ?_
      ·refine obS (by kernel_rfl) rfl rfl (fun ph6 w6 hO6 => ?_)
       rintro _ rfl _ rfl
       refine VL.pass rfl rfl rfl rfl rfl ?_
       exact VL.finS hO6 rfl rfl
      refine Obs.cons ?_ ?_
      ·refine obS (by kernel_rfl) rfl rfl (fun ph6 w6 hO6 => ?_)
       rintro _ rfl _ rfl
       refine VL.pass rfl rfl rfl rfl rfl ?_
       exact VL.finS hO6 rfl rfl
      refine Obs.cons ?_ ?_
      ·refine obS (by kernel_rfl) rfl rfl (fun ph6 w6 hO6 => ?_)
       rintro _ rfl
       refine VL.pass rfl rfl rfl rfl rfl ?_
       exact VL.finS hO6 rfl rfl
      refine Obs.cons ?_ ?_
      ·refine obS (by kernel_rfl) rfl rfl (fun ph6 w6 hO6 => ?_)
       rintro _ rfl
       refine VL.pass rfl rfl rfl rfl rfl ?_
       exact VL.finS hO6 rfl rfl
      refine Obs.cons ?_ ?_
      ·refine obS (by kernel_rfl) rfl rfl (fun ph6 w6 hO6 => ?_)
       rintro _ rfl _ rfl _ rfl
       refine VL.pass rfl rfl rfl rfl rfl ?_
       exact VL.finS hO6 rfl rfl
      refine Obs.cons ?_ ?_
      ·refine obS (by kernel_rfl) rfl rfl (fun ph6 w6 hO6 => ?_)
       rintro _ rfl _ rfl
       refine VL.pass rfl rfl rfl rfl rfl ?_
       exact VL.finS hO6 rfl rfl
      refine Obs.cons ?_ ?_
      ·refine obS (by kernel_rfl) rfl rfl (fun ph6 w6 hO6 => ?_)
       rintro _ rfl _ rfl
       refine VL.pass rfl rfl rfl rfl rfl ?_
       exact VL.finS hO6 rfl rfl
      exact Obs.nil
     case end6 =>
      intro w6 hO6
      rintro _ rfl _ rfl _ rfl
      refine VL.toOwn hO6 ?_
      refine VL.pass rfl rfl rfl rfl rfl ?_
      refine VL.pass rfl rfl rfl rfl rfl ?_
      refine VL.pick_t rfl rfl ?_
      refine VL.nn ?_
      refine VC.yes rfl ?_
      refine VC.sr ?_
      refine VL.assign rfl ?_
      refine VL.nn ?_
      refine VC.ret ?_
      refine VX.block_ret ?_
      refine VX.then_ret ?_
      refine VX.then_ret ?_
      refine VX.block_ret ?_
      refine VX.then_ret ?_
      refine VX.ret1 rfl rfl (fun we hw => ?_)
      exact ⟨false, rfl, ⟨fun h => (by cases h), fun h => absurd h (at_ne hlt hlt2 (fun h => h1c (congrArg Chg.name h)))⟩, hw.subA⟩
    ·apply VC.anyTA 35 1038 (F := [eqF _, eqF _, eqF _, eqF _, eqF _, eqF _, eqF _, eqF _, eqF _, eqF _, eqF _, eqF _, eqF _, eqF _, eqF _, eqF _, eqF _, eqF _, eqF _, eqF _, eqF _, eqF _, eqF _, eqF _, eqF _, eqF _, eqF _, eqF _, eqF _, eqF _, eqF _, eqF _, eqF _, eqF _, eqF _]) [⟨[], [0]⟩, ⟨[], [5]⟩, ⟨[(17, 0), (18, 1)], []⟩, ⟨[(19, 2)], []⟩, ⟨[(20, 3)], []⟩, ⟨[], [1]⟩, ⟨[], [5]⟩, ⟨[(22, 5), (23, 6)], []⟩, ⟨[(24, 7)], []⟩, ⟨[(25, 8)], []⟩, ⟨[(21, 4), (26, 9)], []⟩, ⟨[(27, 10)], []⟩, ⟨[(28, 11)], [0]⟩, ⟨[(28, 11)], [5]⟩, ⟨[(29, 12), (30, 13), (28, 11)], []⟩, ⟨[(31, 14), (28, 11)], []⟩, ⟨[(32, 15), (28, 11)], []⟩, ⟨[(28, 11)], [1]⟩, ⟨[(28, 11)], [5]⟩, ⟨[(34, 17), (35, 18), (28, 11)], []⟩, ⟨[(36, 19), (28, 11)], []⟩, ⟨[(37, 20), (28, 11)], []⟩, ⟨[(33, 16), (38, 21), (28, 11)], []⟩, ⟨[(28, 11), (39, 22)], []⟩, ⟨[(40, 23)], []⟩, ⟨[(41, 24)], [0]⟩, ⟨[(41, 24)], [5]⟩, ⟨[(42, 25), (43, 26), (41, 24)], []⟩, ⟨[(44, 27), (41, 24)], []⟩, ⟨[(45, 28), (41, 24)], []⟩, ⟨[(41, 24)], [1]⟩, ⟨[(41, 24)], [5]⟩, ⟨[(47, 30), (48, 31), (41, 24)], []⟩, ⟨[(49, 32), (41, 24)], []⟩, ⟨[(50, 33), (41, 24)], []⟩] [(41, 24), (46, 29), (51, 34)] [0, 1, 4, 5, 6, 7, 8, 9, 10, 11, 12, 13, 14, 15, 16, 52, 53, 54] rfl (by kernel_rfl) (by kernel_rfl) rfl rfl (by kernel_rfl) (by kernel_rfl) (by kernel_rfl) rfl ?obs6 ?end6
     case obs6 =>
      refine Obs.cons ?_ ?_
      ·refine obS (by kernel_rfl) rfl rfl (fun ph6 w6 hO6 => ?_)
       refine VL.move rfl ?_
       exact VL.finS hO6 rfl rfl
      refine Obs.cons ?_ ?_
      ·refine obS (by kernel_rfl) rfl rfl (fun ph6 w6 hO6 => ?_)
       refine VL.move rfl ?_
       exact VL.finS hO6 rfl rfl
      refine Obs.cons ?_ ?_
      ·refine obS (by kernel_rfl) rfl rfl (fun ph6 w6 hO6 => ?_)
       rintro _ rfl _ rfl
       refine VL.index (xs := xs) rfl rfl Try.underlying158 sz158 hX (by omega) (by have hi := hlt; omega) ?_
       exact VL.finS hO6 rfl rfl
      refine Obs.cons ?_ ?_
      ·refine obS (by kernel_rfl) rfl rfl (fun ph6 w6 hO6 => ?_)
       rintro _ rfl
       refine VL.fieldAt rfl (by obtain ⟨a, ha⟩ := hX.isAt (by have hi := hlt; omega); rw [ha]; rfl) fo167_0 ?_
       exact VL.finS hO6 rfl rfl
      refine Obs.cons ?_ ?_
      ·refine ob (by kernel_rfl) rfl (by kernel_rfl) rfl (fun w6 hO6 => ?_)
       rintro _ rfl
       refine VL.elem (s := ⟨w, _⟩) (k) 0 rfl kd9 (fun _ e => e ▸ hO6) (by repeat (first | exact List.mem_cons_self .. | apply List.mem_cons_of_mem)) Mono_chg hX (List.getElem?_eq_getElem hlt) (by simp) (by decide) (fun vs v hl hr hv => ?_)
       obtain ⟨p10, c11, rfl, hA12⟩ := hr
       have ehy9 : v = .string (xs[k]'hlt).name := (Option.some.inj (hv.symm.trans rfl))
       subst ehy9
       exact VL.finS hO6 rfl rfl
      refine Obs.cons ?_ ?_
      ·refine obS (by kernel_rfl) rfl rfl (fun ph6 w6 hO6 => ?_)
       refine VL.move rfl ?_
       exact VL.finS hO6 rfl rfl
      refine Obs.cons ?_ ?_
      ·refine obS (by kernel_rfl) rfl rfl (fun ph6 w6 hO6 => ?_)
       refine VL.move rfl ?_
       exact VL.finS hO6 rfl rfl
      refine Obs.cons ?_ ?_
      ·refine obS (by kernel_rfl) rfl rfl (fun ph6 w6 hO6 => ?_)
       rintro _ rfl _ rfl
       refine VL.index (xs := ys) rfl rfl Try.underlying158 sz158 hY (by omega) (by have hi := hlt2; omega) ?_
       exact VL.finS hO6 rfl rfl
      refine Obs.cons ?_ ?_
      ·refine obS (by kernel_rfl) rfl rfl (fun ph6 w6 hO6 => ?_)
       rintro _ rfl
       refine VL.fieldAt rfl (by obtain ⟨a, ha⟩ := hY.isAt (by have hi := hlt2; omega); rw [ha]; rfl) fo167_0 ?_
       exact VL.finS hO6 rfl rfl
      refine Obs.cons ?_ ?_
      ·refine ob (by kernel_rfl) rfl (by kernel_rfl) rfl (fun w6 hO6 => ?_)
       rintro _ rfl
       refine VL.elem (s := ⟨w, _⟩) (k) 0 rfl kd9 (fun _ e => e ▸ hO6) (by repeat (first | exact List.mem_cons_self .. | apply List.mem_cons_of_mem)) Mono_chg hY (List.getElem?_eq_getElem hlt2) (by simp) (by decide) (fun vs v hl hr hv => ?_)
       obtain ⟨p14, c15, rfl, hA16⟩ := hr
       have ehy13 : v = .string (ys[k]'hlt2).name := (Option.some.inj (hv.symm.trans rfl))
       subst ehy13
       exact VL.finS hO6 rfl rfl
      refine Obs.cons ?_ ?_
      ·refine obS (by kernel_rfl) rfl rfl (fun ph6 w6 hO6 => ?_)
       rintro _ rfl _ rfl
       refine VL.neqs rfl rfl ?_
       refine VL.no (fun h => h h1c) ?_
       exact VL.finS hO6 rfl rfl
      refine Obs.cons ?_ ?_
      ·refine obS (by kernel_rfl) rfl rfl (fun ph6 w6 hO6 => ?_)
       rintro _ rfl
       refine VL.move rfl ?_
       exact VL.finS hO6 rfl rfl
      refine Obs.cons ?_ ?_
      ·refine obS (by kernel_rfl) rfl rfl (fun ph6 w6 hO6 => ?_)
       rintro _ rfl
       refine VL.go rfl rfl rfl ?_
       refine VL.move rfl ?_
       exact VL.finS hO6 rfl rfl
      refine Obs.cons ?_ ?_
      ·refine obS (by kernel_rfl) rfl rfl (fun ph6 w6 hO6 => ?_)
       rintro _ rfl
       refine VL.go rfl rfl rfl ?_
       refine VL.move rfl ?_
       exact VL.finS hO6 rfl rfl
      refine Obs.cons ?_ ?_
      ·refine obS (by kernel_rfl) rfl rfl (fun ph6 w6 hO6 => ?_)
       rintro _ rfl _ rfl _ rfl
       refine VL.go rfl rfl rfl ?_
       refine VL.index (xs := xs) rfl rfl Try.underlying158 sz158 hX (by omega) (by have hi := hlt; omega) ?_
       exact VL.finS hO6 rfl rfl
      refine Obs.cons ?_ ?_
      ·refine obS (by kernel_rfl) rfl rfl (fun ph6 w6 hO6 => ?_)
       rintro _ rfl _ rfl
       refine VL.go rfl rfl rfl ?_
       refine VL.fieldAt rfl (by obtain ⟨a, ha⟩ := hX.isAt (by have hi := hlt; omega); rw [ha]; rfl) fo167_2 ?_
       exact VL.finS hO6 rfl rfl
      refine Obs.cons ?_ ?_
      ·refine ob (by kernel_rfl) rfl (by kernel_rfl) rfl (fun w6 hO6 => ?_)
       rintro _ rfl _ rfl
       refine VL.go rfl rfl rfl ?_
       refine VL.elem (s := ⟨w, _⟩) (k) 2 rfl kd4 (fun _ e => e ▸ hO6) (by repeat (first | exact List.mem_cons_self .. | apply List.mem_cons_of_mem)) Mono_chg hX (List.getElem?_eq_getElem hlt) (by simp) (by decide) (fun vs v hl hr hv => ?_)
       obtain ⟨p18, c19, rfl, hA20⟩ := hr
       have ehy17 : v = .bool (xs[k]'hlt).gone := (Option.some.inj (hv.symm.trans rfl))
       subst ehy17
       exact VL.finS hO6 rfl rfl
      refine Obs.cons ?_ ?_
      ·refine obS (by kernel_rfl) rfl rfl (fun ph6 w6 hO6 => ?_)
       rintro _ rfl
       refine VL.go rfl rfl rfl ?_
       refine VL.move rfl ?_
       exact VL.finS hO6 rfl rfl
      refine Obs.cons ?_ ?_
      ·refine obS (by kernel_rfl) rfl rfl (fun ph6 w6 hO6 => ?_)
       rintro _ rfl
       refine VL.go rfl rfl rfl ?_
       refine VL.move rfl ?_
       exact VL.finS hO6 rfl rfl
      refine Obs.cons ?_ ?_
      ·refine obS (by kernel_rfl) rfl rfl (fun ph6 w6 hO6 => ?_)
       rintro _ rfl _ rfl _ rfl
       refine VL.go rfl rfl rfl ?_
       refine VL.index (xs := ys) rfl rfl Try.underlying158 sz158 hY (by omega) (by have hi := hlt2; omega) ?_
       exact VL.finS hO6 rfl rfl
      refine Obs.cons ?_ ?_
      ·refine obS (by kernel_rfl) rfl rfl (fun ph6 w6 hO6 => ?_)
       rintro _ rfl _ rfl
       refine VL.go rfl rfl rfl ?_
       refine VL.fieldAt rfl (by obtain ⟨a, ha⟩ := hY.isAt (by have hi := hlt2; omega); rw [ha]; rfl) fo167_2 ?_
       exact VL.finS hO6 rfl rfl
      refine Obs.cons ?_ ?_
      ·refine ob (by kernel_rfl) rfl (by kernel_rfl) rfl (fun w6 hO6 => ?_)
       rintro _ rfl _ rfl
       refine VL.go rfl rfl rfl ?_
       refine VL.elem (s := ⟨w, _⟩) (k) 2 rfl kd4 (fun _ e => e ▸ hO6) (by repeat (first | exact List.mem_cons_self .. | apply List.mem_cons_of_mem)) Mono_chg hY (List.getElem?_eq_getElem hlt2) (by simp) (by decide) (fun vs v hl hr hv => ?_)
       obtain ⟨p22, c23, rfl, hA24⟩ := hr
       have ehy21 : v = .bool (ys[k]'hlt2).gone := (Option.some.inj (hv.symm.trans rfl))
       subst ehy21
       exact VL.finS hO6 rfl rfl
      refine Obs.cons ?_ ?_
      ·refine obS (by kernel_rfl) rfl rfl (fun ph6 w6 hO6 => ?_)
       rintro _ rfl _ rfl _ rfl
       refine VL.go rfl rfl rfl ?_
       refine VL.neb Try.underlying4 rfl rfl ?_
       refine VL.sets (show _ = true by simp [h2c]) ?_
       exact VL.finS hO6 rfl rfl
      refine Obs.cons ?_ ?_
      ·refine obS (by kernel_rfl) rfl rfl (fun ph6 w6 hO6 => ?_)
       rintro _ rfl _ rfl
       refine VL.pick_f rfl rfl ?_
       exact VL.finS hO6 rfl rfl
      refine Obs.cons ?_ ?_
      ·refine obS (by kernel_rfl) rfl rfl (fun ph6 w6 hO6 => ?_)
       rintro _ rfl
       refine VL.move rfl ?_
       exact VL.finS hO6 rfl rfl
      refine Obs.cons ?_ ?_
      ·refine obS (by kernel_rfl) rfl rfl (fun ph6 w6 hO6 => ?_)
       rintro _ rfl
       refine VL.pass rfl rfl rfl rfl rfl ?_
       exact VL.finS hO6 rfl rfl
      refine Obs.cons ?_ ?_
      ·refine obS (by kernel_rfl) rfl rfl (fun ph6 w6 hO6 => ?_)
       rintro _ rfl
       refine VL.pass rfl rfl rfl rfl rfl ?_
       exact VL.finS hO6 rfl rfl
      refine Obs.cons ?_ ?_
      ·refine obS (by kernel_rfl) rfl rfl (fun ph6 w6 hO6 => ?_)
       rintro _ rfl _ rfl _ rfl
       refine VL.pass rfl rfl rfl rfl rfl ?_
       exact VL.finS hO6 rfl rfl
      refine Obs.cons ?_ ?_
      ·refine obS (by kernel_rfl) rfl rfl (fun ph6 w6 hO6 => ?_)
       rintro _ rfl _ rfl
       refine VL.pass rfl rfl rfl rfl rfl ?_
       exact VL.finS hO6 rfl rfl
      refine Obs.cons ?_ ?_
      ·refine obS (by kernel_rfl) rfl rfl (fun ph6 w6 hO6 => ?_)
       rintro _ rfl _ rfl
       refine VL.pass rfl rfl rfl rfl rfl ?_
       exact VL.finS hO6 rfl rfl
      refine Obs.cons ?_ ?_
      ·refine obS (by kernel_rfl) rfl rfl (fun ph6 w6 hO6 => ?_)
       rintro _ rfl
       refine VL.pass rfl rfl rfl rfl rfl ?_
       exact VL.finS hO6 rfl rfl
      refine Obs.cons ?_ ?_
      ·refine obS (by kernel_rfl) rfl rfl (fun ph6 w6 hO6 => ?_)
       rintro _ rfl
       refine VL.pass rfl rfl rfl rfl rfl ?_
       exact VL.finS hO6 rfl rfl
      refine Obs.cons ?_ ?_
      ·refine obS (by kernel_rfl) rfl rfl (fun ph6 w6 hO6 => ?_)
       rintro _ rfl _ rfl _ rfl
       refine VL.pass rfl rfl rfl rfl rfl ?_
       exact VL.finS hO6 rfl rfl
      refine Obs.cons ?_ ?_
      ·refine obS (by kernel_rfl) rfl rfl (fun ph6 w6 hO6 => ?_)
       rintro _ rfl _ rfl
       refine VL.pass rfl rfl rfl rfl rfl ?_
       exact VL.finS hO6 rfl rfl
      refine Obs.cons ?_ ?_
      ·refine obS (by kernel_rfl) rfl rfl (fun ph6 w6 hO6 => ?_)
       rintro _ rfl _ rfl
       refine VL.pass rfl rfl rfl rfl rfl ?_
       exact VL.finS hO6 rfl rfl
      exact Obs.nil
     case end6 =>
      intro w6 hO6
      rintro _ rfl _ rfl _ rfl
      refine VL.toOwn hO6 ?_
      refine VL.pass rfl rfl rfl rfl rfl ?_
      refine VL.pass rfl rfl rfl rfl rfl ?_
      refine VL.pick_t rfl rfl ?_
      refine VL.nn ?_
      refine VC.yes rfl ?_
      refine VC.sr ?_
      refine VL.assign rfl ?_
      refine VL.nn ?_
      refine VC.ret ?_
      refine VX.block_ret ?_
      refine VX.then_ret ?_
      refine VX.then_ret ?_
      refine VX.block_ret ?_
      refine VX.then_ret ?_
      refine VX.ret1 rfl rfl (fun we hw => ?_)
      exact ⟨false, rfl, ⟨fun h => (by cases h), fun h => absurd h (at_ne hlt hlt2 (fun h => h2c (congrArg Chg.gone h)))⟩, hw.subA⟩
    ·apply VC.anyTA 35 1038 (F := [eqF _, eqF _, eqF _, eqF _, eqF _, eqF _, eqF _, eqF _, eqF _, eqF _, eqF _, eqF _, eqF _, eqF _, eqF _, eqF _, eqF _, eqF _, eqF _, eqF _, eqF _, eqF _, eqF _, eqF _, eqF _, eqF _, eqF _, eqF _, eqF _, arrS ⟨w, keys H⟩ 1 byteR (xs[k]'hlt).value, eqF _, eqF _, eqF _, eqF _, arrS ⟨w, keys H⟩ 1 byteR (ys[k]'hlt2).value]) [⟨[], [0]⟩, ⟨[], [5]⟩, ⟨[(17, 0), (18, 1)], []⟩, ⟨[(19, 2)], []⟩, ⟨[(20, 3)], []⟩, ⟨[], [1]⟩, ⟨[], [5]⟩, ⟨[(22, 5), (23, 6)], []⟩, ⟨[(24, 7)], []⟩, ⟨[(25, 8)], []⟩, ⟨[(21, 4), (26, 9)], []⟩, ⟨[(27, 10)], []⟩, ⟨[(28, 11)], [0]⟩, ⟨[(28, 11)], [5]⟩, ⟨[(29, 12), (30, 13), (28, 11)], []⟩, ⟨[(31, 14), (28, 11)], []⟩, ⟨[(32, 15), (28, 11)], []⟩, ⟨[(28, 11)], [1]⟩, ⟨[(28, 11)], [5]⟩, ⟨[(34, 17), (35, 18), (28, 11)], []⟩, ⟨[(36, 19), (28, 11)], []⟩, ⟨[(37, 20), (28, 11)], []⟩, ⟨[(33, 16), (38, 21), (28, 11)], []⟩, ⟨[(28, 11), (39, 22)], []⟩, ⟨[(40, 23)], []⟩, ⟨[(41, 24)], [0]⟩, ⟨[(41, 24)], [5]⟩, ⟨[(42, 25), (43, 26), (41, 24)], []⟩, ⟨[(44, 27), (41, 24)], []⟩, ⟨[(45, 28), (41, 24)], []⟩, ⟨[(41, 24)], [1]⟩, ⟨[(41, 24)], [5]⟩, ⟨[(47, 30), (48, 31), (41, 24)], []⟩, ⟨[(49, 32), (41, 24)], []⟩, ⟨[(50, 33), (41, 24)], []⟩] [(41, 24), (46, 29), (51, 34)] [0, 1, 4, 5, 6, 7, 8, 9, 10, 11, 12, 13, 14, 15, 16, 52, 53, 54] rfl (by kernel_rfl) (by kernel_rfl) rfl rfl (by kernel_rfl) (by kernel_rfl) (by kernel_rfl) rfl ?obs6 ?end6
     case obs6 =>
      refine Obs.cons ?_ ?_
      ·refine obS (by kernel_rfl) rfl rfl (fun ph6 w6 hO6 => ?_)
       refine VL.move rfl ?_
       exact VL.finS hO6 rfl rfl
      refine Obs.cons ?_ ?_
      ·refine obS (by kernel_rfl) rfl rfl (fun ph6 w6 hO6 => ?_)
       refine VL.move rfl ?_
       exact VL.finS hO6 rfl rfl
      refine Obs.cons ?_ ?_
      ·refine obS (by kernel_rfl) rfl rfl (fun ph6 w6 hO6 => ?_)
       rintro _ rfl _ rfl
       refine VL.index (xs := xs) rfl rfl Try.underlying158 sz158 hX (by omega) (by have hi := hlt; omega) ?_
       exact VL.finS hO6 rfl rfl
      refine Obs.cons ?_ ?_
      ·refine obS (by kernel_rfl) rfl rfl (fun ph6 w6 hO6 => ?_)
       rintro _ rfl
       refine VL.fieldAt rfl (by obtain ⟨a, ha⟩ := hX.isAt (by have hi := hlt; omega); rw [ha]; rfl) fo167_0 ?_
       exact VL.finS hO6 rfl rfl
      refine Obs.cons ?_ ?_
      ·refine ob (by kernel_rfl) rfl (by kernel_rfl) rfl (fun w6 hO6 => ?_)
       rintro _ rfl
       refine VL.elem (s := ⟨w, _⟩) (k) 0 rfl kd9 (fun _ e => e ▸ hO6) (by repeat (first | exact List.mem_cons_self .. | apply List.mem_cons_of_mem)) Mono_chg hX (List.getElem?_eq_getElem hlt) (by simp) (by decide) (fun vs v hl hr hv => ?_)
       obtain ⟨p26, c27, rfl, hA28⟩ := hr
       have ehy25 : v = .string (xs[k]'hlt).name := (Option.some.inj (hv.symm.trans rfl))
       subst ehy25
       exact VL.finS hO6 rfl rfl
      refine Obs.cons ?_ ?_
      ·refine obS (by kernel_rfl) rfl rfl (fun ph6 w6 hO6 => ?_)
       refine VL.move rfl ?_
       exact VL.finS hO6 rfl rfl
      refine Obs.cons ?_ ?_
      ·refine obS (by kernel_rfl) rfl rfl (fun ph6 w6 hO6 => ?_)
       refine VL.move rfl ?_
       exact VL.finS hO6 rfl rfl
      refine Obs.cons ?_ ?_
      ·refine obS (by kernel_rfl) rfl rfl (fun ph6 w6 hO6 => ?_)
       rintro _ rfl _ rfl
       refine VL.index (xs := ys) rfl rfl Try.underlying158 sz158 hY (by omega) (by have hi := hlt2; omega) ?_
       exact VL.finS hO6 rfl rfl
      refine Obs.cons ?_ ?_
      ·refine obS (by kernel_rfl) rfl rfl (fun ph6 w6 hO6 => ?_)
       rintro _ rfl
       refine VL.fieldAt rfl (by obtain ⟨a, ha⟩ := hY.isAt (by have hi := hlt2; omega); rw [ha]; rfl) fo167_0 ?_
       exact VL.finS hO6 rfl rfl
      refine Obs.cons ?_ ?_
      ·refine ob (by kernel_rfl) rfl (by kernel_rfl) rfl (fun w6 hO6 => ?_)
       rintro _ rfl
       refine VL.elem (s := ⟨w, _⟩) (k) 0 rfl kd9 (fun _ e => e ▸ hO6) (by repeat (first | exact List.mem_cons_self .. | apply List.mem_cons_of_mem)) Mono_chg hY (List.getElem?_eq_getElem hlt2) (by simp) (by decide) (fun vs v hl hr hv => ?_)
       obtain ⟨p30, c31, rfl, hA32⟩ := hr
       have ehy29 : v = .string (ys[k]'hlt2).name := (Option.some.inj (hv.symm.trans rfl))
       subst ehy29
       exact VL.finS hO6 rfl rfl
      refine Obs.cons ?_ ?_
      ·refine obS (by kernel_rfl) rfl rfl (fun ph6 w6 hO6 => ?_)
       rintro _ rfl _ rfl
       refine VL.neqs rfl rfl ?_
       refine VL.no (fun h => h h1c) ?_
       exact VL.finS hO6 rfl rfl
      refine Obs.cons ?_ ?_
      ·refine obS (by kernel_rfl) rfl rfl (fun ph6 w6 hO6 => ?_)
       rintro _ rfl
       refine VL.move rfl ?_
       exact VL.finS hO6 rfl rfl
      refine Obs.cons ?_ ?_
      ·refine obS (by kernel_rfl) rfl rfl (fun ph6 w6 hO6 => ?_)
       rintro _ rfl
       refine VL.go rfl rfl rfl ?_
       refine VL.move rfl ?_
       exact VL.finS hO6 rfl rfl
      refine Obs.cons ?_ ?_
      ·refine obS (by kernel_rfl) rfl rfl (fun ph6 w6 hO6 => ?_)
       rintro _ rfl
       refine VL.go rfl rfl rfl ?_
       refine VL.move rfl ?_
       exact VL.finS hO6 rfl rfl
      refine Obs.cons ?_ ?_
      ·refine obS (by kernel_rfl) rfl rfl (fun ph6 w6 hO6 => ?_)
       rintro _ rfl _ rfl _ rfl
       refine VL.go rfl rfl rfl ?_
       refine VL.index (xs := xs) rfl rfl Try.underlying158 sz158 hX (by omega) (by have hi := hlt; omega) ?_
       exact VL.finS hO6 rfl rfl
      refine Obs.cons ?_ ?_
      ·refine obS (by kernel_rfl) rfl rfl (fun ph6 w6 hO6 => ?_)
       rintro _ rfl _ rfl
       refine VL.go rfl rfl rfl ?_
       refine VL.fieldAt rfl (by obtain ⟨a, ha⟩ := hX.isAt (by have hi := hlt; omega); rw [ha]; rfl) fo167_2 ?_
       exact VL.finS hO6 rfl rfl
      refine Obs.cons ?_ ?_
      ·refine ob (by kernel_rfl) rfl (by kernel_rfl) rfl (fun w6 hO6 => ?_)
       rintro _ rfl _ rfl
       refine VL.go rfl rfl rfl ?_
       refine VL.elem (s := ⟨w, _⟩) (k) 2 rfl kd4 (fun _ e => e ▸ hO6) (by repeat (first | exact List.mem_cons_self .. | apply List.mem_cons_of_mem)) Mono_chg hX (List.getElem?_eq_getElem hlt) (by simp) (by decide) (fun vs v hl hr hv => ?_)
       obtain ⟨p34, c35, rfl, hA36⟩ := hr
       have ehy33 : v = .bool (xs[k]'hlt).gone := (Option.some.inj (hv.symm.trans rfl))
       subst ehy33
       exact VL.finS hO6 rfl rfl
      refine Obs.cons ?_ ?_
      ·refine obS (by kernel_rfl) rfl rfl (fun ph6 w6 hO6 => ?_)
       rintro _ rfl
       refine VL.go rfl rfl rfl ?_
       refine VL.move rfl ?_
       exact VL.finS hO6 rfl rfl
      refine Obs.cons ?_ ?_
      ·refine obS (by kernel_rfl) rfl rfl (fun ph6 w6 hO6 => ?_)
       rintro _ rfl
       refine VL.go rfl rfl rfl ?_
       refine VL.move rfl ?_
       exact VL.finS hO6 rfl rfl
      refine Obs.cons ?_ ?_
      ·refine obS (by kernel_rfl) rfl rfl (fun ph6 w6 hO6 => ?_)
       rintro _ rfl _ rfl _ rfl
       refine VL.go rfl rfl rfl ?_
       refine VL.index (xs := ys) rfl rfl Try.underlying158 sz158 hY (by omega) (by have hi := hlt2; omega) ?_
       exact VL.finS hO6 rfl rfl
      refine Obs.cons ?_ ?_
      ·refine obS (by kernel_rfl) rfl rfl (fun ph6 w6 hO6 => ?_)
       rintro _ rfl _ rfl
       refine VL.go rfl rfl rfl ?_
       refine VL.fieldAt rfl (by obtain ⟨a, ha⟩ := hY.isAt (by have hi := hlt2; omega); rw [ha]; rfl) fo167_2 ?_
       exact VL.finS hO6 rfl rfl
      refine Obs.cons ?_ ?_
      ·refine ob (by kernel_rfl) rfl (by kernel_rfl) rfl (fun w6 hO6 => ?_)
       rintro _ rfl _ rfl
       refine VL.go rfl rfl rfl ?_
       refine VL.elem (s := ⟨w, _⟩) (k) 2 rfl kd4 (fun _ e => e ▸ hO6) (by repeat (first | exact List.mem_cons_self .. | apply List.mem_cons_of_mem)) Mono_chg hY (List.getElem?_eq_getElem hlt2) (by simp) (by decide) (fun vs v hl hr hv => ?_)
       obtain ⟨p38, c39, rfl, hA40⟩ := hr
       have ehy37 : v = .bool (ys[k]'hlt2).gone := (Option.some.inj (hv.symm.trans rfl))
       subst ehy37
       exact VL.finS hO6 rfl rfl
      refine Obs.cons ?_ ?_
      ·refine obS (by kernel_rfl) rfl rfl (fun ph6 w6 hO6 => ?_)
       rintro _ rfl _ rfl _ rfl
       refine VL.go rfl rfl rfl ?_
       refine VL.neb Try.underlying4 rfl rfl ?_
       refine VL.sets (show _ = false by simp [h2c]) ?_
       exact VL.finS hO6 rfl rfl
      refine Obs.cons ?_ ?_
      ·refine obS (by kernel_rfl) rfl rfl (fun ph6 w6 hO6 => ?_)
       rintro _ rfl _ rfl
       refine VL.pick_f rfl rfl ?_
       exact VL.finS hO6 rfl rfl
      refine Obs.cons ?_ ?_
      ·refine obS (by kernel_rfl) rfl rfl (fun ph6 w6 hO6 => ?_)
       rintro _ rfl
       refine VL.move rfl ?_
       exact VL.finS hO6 rfl rfl
      refine Obs.cons ?_ ?_
      ·refine obS (by kernel_rfl) rfl rfl (fun ph6 w6 hO6 => ?_)
       rintro _ rfl
       refine VL.go rfl rfl rfl ?_
       refine VL.move rfl ?_
       exact VL.finS hO6 rfl rfl
      refine Obs.cons ?_ ?_
      ·refine obS (by kernel_rfl) rfl rfl (fun ph6 w6 hO6 => ?_)
       rintro _ rfl
       refine VL.go rfl rfl rfl ?_
       refine VL.move rfl ?_
       exact VL.finS hO6 rfl rfl
      refine Obs.cons ?_ ?_
      ·refine obS (by kernel_rfl) rfl rfl (fun ph6 w6 hO6 => ?_)
       rintro _ rfl _ rfl _ rfl
       refine VL.go rfl rfl rfl ?_
       refine VL.index (xs := xs) rfl rfl Try.underlying158 sz158 hX (by omega) (by have hi := hlt; omega) ?_
       exact VL.finS hO6 rfl rfl
      refine Obs.cons ?_ ?_
      ·refine obS (by kernel_rfl) rfl rfl (fun ph6 w6 hO6 => ?_)
       rintro _ rfl _ rfl
       refine VL.go rfl rfl rfl ?_
       refine VL.fieldAt rfl (by obtain ⟨a, ha⟩ := hX.isAt (by have hi := hlt; omega); rw [ha]; rfl) fo167_1 ?_
       exact VL.finS hO6 rfl rfl
      refine Obs.cons ?_ ?_
      ·refine ob (by kernel_rfl) rfl (by kernel_rfl) rfl (fun w6 hO6 => ?_)
       rintro _ rfl _ rfl
       refine VL.go rfl rfl rfl ?_
       refine VL.elem (s := ⟨w, _⟩) (k) 1 rfl kd24 (fun _ e => e ▸ hO6) (by repeat (first | exact List.mem_cons_self .. | apply List.mem_cons_of_mem)) Mono_chg hX (List.getElem?_eq_getElem hlt) (by simp) (by decide) (fun vs v hl hr hv => ?_)
       obtain ⟨p7, c7, rfl, hA7⟩ := hr
       have e7 : v = .slice p7 (xs[k]'hlt).value.length c7 := (Option.some.inj (hv.symm.trans rfl))
       subst e7
       exact VL.finS hO6 rfl ⟨_, _, rfl, hA7⟩
      refine Obs.cons ?_ ?_
      ·refine obS (by kernel_rfl) rfl rfl (fun ph6 w6 hO6 => ?_)
       rintro _ rfl
       refine VL.go rfl rfl rfl ?_
       refine VL.move rfl ?_
       exact VL.finS hO6 rfl rfl
      refine Obs.cons ?_ ?_
      ·refine obS (by kernel_rfl) rfl rfl (fun ph6 w6 hO6 => ?_)
       rintro _ rfl
       refine VL.go rfl rfl rfl ?_
       refine VL.move rfl ?_
       exact VL.finS hO6 rfl rfl
      refine Obs.cons ?_ ?_
      ·refine obS (by kernel_rfl) rfl rfl (fun ph6 w6 hO6 => ?_)
       rintro _ rfl _ rfl _ rfl
       refine VL.go rfl rfl rfl ?_
       refine VL.index (xs := ys) rfl rfl Try.underlying158 sz158 hY (by omega) (by have hi := hlt2; omega) ?_
       exact VL.finS hO6 rfl rfl
      refine Obs.cons ?_ ?_
      ·refine obS (by kernel_rfl) rfl rfl (fun ph6 w6 hO6 => ?_)
       rintro _ rfl _ rfl
       refine VL.go rfl rfl rfl ?_
       refine VL.fieldAt rfl (by obtain ⟨a, ha⟩ := hY.isAt (by have hi := hlt2; omega); rw [ha]; rfl) fo167_1 ?_
       exact VL.finS hO6 rfl rfl
      refine Obs.cons ?_ ?_
      ·refine ob (by kernel_rfl) rfl (by kernel_rfl) rfl (fun w6 hO6 => ?_)
       rintro _ rfl _ rfl
       refine VL.go rfl rfl rfl ?_
       refine VL.elem (s := ⟨w, _⟩) (k) 1 rfl kd24 (fun _ e => e ▸ hO6) (by repeat (first | exact List.mem_cons_self .. | apply List.mem_cons_of_mem)) Mono_chg hY (List.getElem?_eq_getElem hlt2) (by simp) (by decide) (fun vs v hl hr hv => ?_)
       obtain ⟨p7, c7, rfl, hA7⟩ := hr
       have e7 : v = .slice p7 (ys[k]'hlt2).value.length c7 := (Option.some.inj (hv.symm.trans rfl))
       subst e7
       exact VL.finS hO6 rfl ⟨_, _, rfl, hA7⟩
      exact Obs.nil
     case end6 =>
      intro w6 hO6
      rintro _ rfl _ ⟨pe1, ce1, rfl, hAe1⟩ _ ⟨pe2, ce2, rfl, hAe2⟩
      refine VL.toOwn hO6 ?_
      refine VL.go rfl rfl rfl ?_
      refine VL.call Try.func27 rfl (by decide) rfl (fun w' hw => bytes_D hw (hAe1.nowA (s := ⟨w, _⟩) Mono.byte hw) (hAe2.nowA (s := ⟨w, _⟩) Mono.byte hw)) (fun v => ?_)
      refine VL.fact fun e8 => ?_
      subst e8
      refine VL.no h3c ?_
      refine VL.go rfl rfl rfl ?_
      refine VL.not rfl ?_
      refine VL.pick_f rfl rfl ?_
      refine VL.nn ?_
      refine VC.yes rfl ?_
      refine VC.sr ?_
      refine VL.assign rfl ?_
      refine VL.nn ?_
      refine VC.ret ?_
      refine VX.block_ret ?_
      refine VX.then_ret ?_
      refine VX.then_ret ?_
      refine VX.block_ret ?_
      refine VX.then_ret ?_
      refine VX.ret1 rfl rfl (fun we hw => ?_)
      exact ⟨false, rfl, ⟨fun h => (by cases h), fun h => absurd h (at_ne hlt hlt2 (fun h => h3c (congrArg Chg.value h)))⟩, hw.subA⟩
    ·apply VC.anyTA 35 1038 (F := [eqF _, eqF _, eqF _, eqF _, eqF _, eqF _, eqF _, eqF _, eqF _, eqF _, eqF _, eqF _, eqF _, eqF _, eqF _, eqF _, eqF _, eqF _, eqF _, eqF _, eqF _, eqF _, eqF _, eqF _, eqF _, eqF _, eqF _, eqF _, eqF _, arrS ⟨w, keys H⟩ 1 byteR (xs[k]'hlt).value, eqF _, eqF _, eqF _, eqF _, arrS ⟨w, keys H⟩ 1 byteR (ys[k]'hlt2).value]) [⟨[], [0]⟩, ⟨[], [5]⟩, ⟨[(17, 0), (18, 1)], []⟩, ⟨[(19, 2)], []⟩, ⟨[(20, 3)], []⟩, ⟨[], [1]⟩, ⟨[], [5]⟩, ⟨[(22, 5), (23, 6)], []⟩, ⟨[(24, 7)], []⟩, ⟨[(25, 8)], []⟩, ⟨[(21, 4), (26, 9)], []⟩, ⟨[(27, 10)], []⟩, ⟨[(28, 11)], [0]⟩, ⟨[(28, 11)], [5]⟩, ⟨[(29, 12), (30, 13), (28, 11)], []⟩, ⟨[(31, 14), (28, 11)], []⟩, ⟨[(32, 15), (28, 11)], []⟩, ⟨[(28, 11)], [1]⟩, ⟨[(28, 11)], [5]⟩, ⟨[(34, 17), (35, 18), (28, 11)], []⟩, ⟨[(36, 19), (28, 11)], []⟩, ⟨[(37, 20), (28, 11)], []⟩, ⟨[(33, 16), (38, 21), (28, 11)], []⟩, ⟨[(28, 11), (39, 22)], []⟩, ⟨[(40, 23)], []⟩, ⟨[(41, 24)], [0]⟩, ⟨[(41, 24)], [5]⟩, ⟨[(42, 25), (43, 26), (41, 24)], []⟩, ⟨[(44, 27), (41, 24)], []⟩, ⟨[(45, 28), (41, 24)], []⟩, ⟨[(41, 24)], [1]⟩, ⟨[(41, 24)], [5]⟩, ⟨[(47, 30), (48, 31), (41, 24)], []⟩, ⟨[(49, 32), (41, 24)], []⟩, ⟨[(50, 33), (41, 24)], []⟩] [(41, 24), (46, 29), (51, 34)] [0, 1, 4, 5, 6, 7, 8, 9, 10, 11, 12, 13, 14, 15, 16, 52, 53, 54] rfl (by kernel_rfl) (by kernel_rfl) rfl rfl (by kernel_rfl) (by kernel_rfl) (by kernel_rfl) rfl ?obs6 ?end6
     case obs6 =>
      refine Obs.cons ?_ ?_
      ·refine obS (by kernel_rfl) rfl rfl (fun ph6 w6 hO6 => ?_)
       refine VL.move rfl ?_
       exact VL.finS hO6 rfl rfl
      refine Obs.cons ?_ ?_
      ·refine obS (by kernel_rfl) rfl rfl (fun ph6 w6 hO6 => ?_)
       refine VL.move rfl ?_
       exact VL.finS hO6 rfl rfl
      refine Obs.cons ?_ ?_
      ·refine obS (by kernel_rfl) rfl rfl (fun ph6 w6 hO6 => ?_)
       rintro _ rfl _ rfl
       refine VL.index (xs := xs) rfl rfl Try.underlying158 sz158 hX (by omega) (by have hi := hlt; omega) ?_
       exact VL.finS hO6 rfl rfl
      refine Obs.cons ?_ ?_
      ·refine obS (by kernel_rfl) rfl rfl (fun ph6 w6 hO6 => ?_)
       rintro _ rfl
       refine VL.fieldAt rfl (by obtain ⟨a, ha⟩ := hX.isAt (by have hi := hlt; omega); rw [ha]; rfl) fo167_0 ?_
       exact VL.finS hO6 rfl rfl
      refine Obs.cons ?_ ?_
      ·refine ob (by kernel_rfl) rfl (by kernel_rfl) rfl (fun w6 hO6 => ?_)
       rintro _ rfl
       refine VL.elem (s := ⟨w, _⟩) (k) 0 rfl kd9 (fun _ e => e ▸ hO6) (by repeat (first | exact List.mem_cons_self .. | apply List.mem_cons_of_mem)) Mono_chg hX (List.getElem?_eq_getElem hlt) (by simp) (by decide) (fun vs v hl hr hv => ?_)
       obtain ⟨p42, c43, rfl, hA44⟩ := hr
       have ehy41 : v = .string (xs[k]'hlt).name := (Option.some.inj (hv.symm.trans rfl))
       subst ehy41
       exact VL.finS hO6 rfl rfl
      refine Obs.cons ?_ ?_
      ·refine obS (by kernel_rfl) rfl rfl (fun ph6 w6 hO6 => ?_)
       refine VL.move rfl ?_
       exact VL.finS hO6 rfl rfl
      refine Obs.cons ?_ ?_
      ·refine obS (by kernel_rfl) rfl rfl (fun ph6 w6 hO6 => ?_)
       refine VL.move rfl ?_
       exact VL.finS hO6 rfl rfl
      refine Obs.cons ?_ ?_
      ·refine obS (by kernel_rfl) rfl rfl (fun ph6 w6 hO6 => ?_)
       rintro _ rfl _ rfl
       refine VL.index (xs := ys) rfl rfl Try.underlying158 sz158 hY (by omega) (by have hi := hlt2; omega) ?_
       exact VL.finS hO6 rfl rfl
      refine Obs.cons ?_ ?_
      ·refine obS (by kernel_rfl) rfl rfl (fun ph6 w6 hO6 => ?_)
       rintro _ rfl
       refine VL.fieldAt rfl (by obtain ⟨a, ha⟩ := hY.isAt (by have hi := hlt2; omega); rw [ha]; rfl) fo167_0 ?_
       exact VL.finS hO6 rfl rfl
      refine Obs.cons ?_ ?_
      ·refine ob (by kernel_rfl) rfl (by kernel_rfl) rfl (fun w6 hO6 => ?_)
       rintro _ rfl
       refine VL.elem (s := ⟨w, _⟩) (k) 0 rfl kd9 (fun _ e => e ▸ hO6) (by repeat (first | exact List.mem_cons_self .. | apply List.mem_cons_of_mem)) Mono_chg hY (List.getElem?_eq_getElem hlt2) (by simp) (by decide) (fun vs v hl hr hv => ?_)
       obtain ⟨p46, c47, rfl, hA48⟩ := hr
       have ehy45 : v = .string (ys[k]'hlt2).name := (Option.some.inj (hv.symm.trans rfl))
       subst ehy45
       exact VL.finS hO6 rfl rfl
      refine Obs.cons ?_ ?_
      ·refine obS (by kernel_rfl) rfl rfl (fun ph6 w6 hO6 => ?_)
       rintro _ rfl _ rfl
       refine VL.neqs rfl rfl ?_
       refine VL.no (fun h => h (congrArg Chg.name h1c)) ?_
       exact VL.finS hO6 rfl rfl
      refine Obs.cons ?_ ?_
      ·refine obS (by kernel_rfl) rfl rfl (fun ph6 w6 hO6 => ?_)
       rintro _ rfl
       refine VL.move rfl ?_
       exact VL.finS hO6 rfl rfl
      refine Obs.cons ?_ ?_
      ·refine obS (by kernel_rfl) rfl rfl (fun ph6 w6 hO6 => ?_)
       rintro _ rfl
       refine VL.go rfl rfl rfl ?_
       refine VL.move rfl ?_
       exact VL.finS hO6 rfl rfl
      refine Obs.cons ?_ ?_
      ·refine obS (by kernel_rfl) rfl rfl (fun ph6 w6 hO6 => ?_)
       rintro _ rfl
       refine VL.go rfl rfl rfl ?_
       refine VL.move rfl ?_
       exact VL.finS hO6 rfl rfl
      refine Obs.cons ?_ ?_
      ·refine obS (by kernel_rfl) rfl rfl (fun ph6 w6 hO6 => ?_)
       rintro _ rfl _ rfl _ rfl
       refine VL.go rfl rfl rfl ?_
       refine VL.index (xs := xs) rfl rfl Try.underlying158 sz158 hX (by omega) (by have hi := hlt; omega) ?_
       exact VL.finS hO6 rfl rfl
      refine Obs.cons ?_ ?_
      ·refine obS (by kernel_rfl) rfl rfl (fun ph6 w6 hO6 => ?_)
       rintro _ rfl _ rfl
       refine VL.go rfl rfl rfl ?_
       refine VL.fieldAt rfl (by obtain ⟨a, ha⟩ := hX.isAt (by have hi := hlt; omega); rw [ha]; rfl) fo167_2 ?_
       exact VL.finS hO6 rfl rfl
      refine Obs.cons ?_ ?_
      ·refine ob (by kernel_rfl) rfl (by kernel_rfl) rfl (fun w6 hO6 => ?_)
       rintro _ rfl _ rfl
       refine VL.go rfl rfl rfl ?_
       refine VL.elem (s := ⟨w, _⟩) (k) 2 rfl kd4 (fun _ e => e ▸ hO6) (by repeat (first | exact List.mem_cons_self .. | apply List.mem_cons_of_mem)) Mono_chg hX (List.getElem?_eq_getElem hlt) (by simp) (by decide) (fun vs v hl hr hv => ?_)
       obtain ⟨p50, c51, rfl, hA52⟩ := hr
       have ehy49 : v = .bool (xs[k]'hlt).gone := (Option.some.inj (hv.symm.trans rfl))
       subst ehy49
       exact VL.finS hO6 rfl rfl
      refine Obs.cons ?_ ?_
      ·refine obS (by kernel_rfl) rfl rfl (fun ph6 w6 hO6 => ?_)
       rintro _ rfl
       refine VL.go rfl rfl rfl ?_
       refine VL.move rfl ?_
       exact VL.finS hO6 rfl rfl
      refine Obs.cons ?_ ?_
      ·refine obS (by kernel_rfl) rfl rfl (fun ph6 w6 hO6 => ?_)
       rintro _ rfl
       refine VL.go rfl rfl rfl ?_
       refine VL.move rfl ?_
       exact VL.finS hO6 rfl rfl
      refine Obs.cons ?_ ?_
      ·refine obS (by kernel_rfl) rfl rfl (fun ph6 w6 hO6 => ?_)
       rintro _ rfl _ rfl _ rfl
       refine VL.go rfl rfl rfl ?_
       refine VL.index (xs := ys) rfl rfl Try.underlying158 sz158 hY (by omega) (by have hi := hlt2; omega) ?_
       exact VL.finS hO6 rfl rfl
      refine Obs.cons ?_ ?_
      ·refine obS (by kernel_rfl) rfl rfl (fun ph6 w6 hO6 => ?_)
       rintro _ rfl _ rfl
       refine VL.go rfl rfl rfl ?_
       refine VL.fieldAt rfl (by obtain ⟨a, ha⟩ := hY.isAt (by have hi := hlt2; omega); rw [ha]; rfl) fo167_2 ?_
       exact VL.finS hO6 rfl rfl
      refine Obs.cons ?_ ?_
      ·refine ob (by kernel_rfl) rfl (by kernel_rfl) rfl (fun w6 hO6 => ?_)
       rintro _ rfl _ rfl
       refine VL.go rfl rfl rfl ?_
       refine VL.elem (s := ⟨w, _⟩) (k) 2 rfl kd4 (fun _ e => e ▸ hO6) (by repeat (first | exact List.mem_cons_self .. | apply List.mem_cons_of_mem)) Mono_chg hY (List.getElem?_eq_getElem hlt2) (by simp) (by decide) (fun vs v hl hr hv => ?_)
       obtain ⟨p54, c55, rfl, hA56⟩ := hr
       have ehy53 : v = .bool (ys[k]'hlt2).gone := (Option.some.inj (hv.symm.trans rfl))
       subst ehy53
       exact VL.finS hO6 rfl rfl
      refine Obs.cons ?_ ?_
      ·refine obS (by kernel_rfl) rfl rfl (fun ph6 w6 hO6 => ?_)
       rintro _ rfl _ rfl _ rfl
       refine VL.go rfl rfl rfl ?_
       refine VL.neb Try.underlying4 rfl rfl ?_
       refine VL.sets (show _ = false by simp [h1c]) ?_
       exact VL.finS hO6 rfl rfl
      refine Obs.cons ?_ ?_
      ·refine obS (by kernel_rfl) rfl rfl (fun ph6 w6 hO6 => ?_)
       rintro _ rfl _ rfl
       refine VL.pick_f rfl rfl ?_
       exact VL.finS hO6 rfl rfl
      refine Obs.cons ?_ ?_
      ·refine obS (by kernel_rfl) rfl rfl (fun ph6 w6 hO6 => ?_)
       rintro _ rfl
       refine VL.move rfl ?_
       exact VL.finS hO6 rfl rfl
      refine Obs.cons ?_ ?_
      ·refine obS (by kernel_rfl) rfl rfl (fun ph6 w6 hO6 => ?_)
       rintro _ rfl
       refine VL.go rfl rfl rfl ?_
       refine VL.move rfl ?_
       exact VL.finS hO6 rfl rfl
      refine Obs.cons ?_ ?_
      ·refine obS (by kernel_rfl) rfl rfl (fun ph6 w6 hO6 => ?_)
       rintro _ rfl
       refine VL.go rfl rfl rfl ?_
       refine VL.move rfl ?_
       exact VL.finS hO6 rfl rfl
      refine Obs.cons ?_ ?_
      ·refine obS (by kernel_rfl) rfl rfl (fun ph6 w6 hO6 => ?_)
       rintro _ rfl _ rfl _ rfl
       refine VL.go rfl rfl rfl ?_
       refine VL.index (xs := xs) rfl rfl Try.underlying158 sz158 hX (by omega) (by have hi := hlt; omega) ?_
       exact VL.finS hO6 rfl rfl
      refine Obs.cons ?_ ?_
      ·refine obS (by kernel_rfl) rfl rfl (fun ph6 w6 hO6 => ?_)
       rintro _ rfl _ rfl
       refine VL.go rfl rfl rfl ?_
       refine VL.fieldAt rfl (by obtain ⟨a, ha⟩ := hX.isAt (by have hi := hlt; omega); rw [ha]; rfl) fo167_1 ?_
       exact VL.finS hO6 rfl rfl
      refine Obs.cons ?_ ?_
      ·refine ob (by kernel_rfl) rfl (by kernel_rfl) rfl (fun w6 hO6 => ?_)
       rintro _ rfl _ rfl
       refine VL.go rfl rfl rfl ?_
       refine VL.elem (s := ⟨w, _⟩) (k) 1 rfl kd24 (fun _ e => e ▸ hO6) (by repeat (first | exact List.mem_cons_self .. | apply List.mem_cons_of_mem)) Mono_chg hX (List.getElem?_eq_getElem hlt) (by simp) (by decide) (fun vs v hl hr hv => ?_)
       obtain ⟨p7, c7, rfl, hA7⟩ := hr
       have e7 : v = .slice p7 (xs[k]'hlt).value.length c7 := (Option.some.inj (hv.symm.trans rfl))
       subst e7
       exact VL.finS hO6 rfl ⟨_, _, rfl, hA7⟩
      refine Obs.cons ?_ ?_
      ·refine obS (by kernel_rfl) rfl rfl (fun ph6 w6 hO6 => ?_)
       rintro _ rfl
       refine VL.go rfl rfl rfl ?_
       refine VL.move rfl ?_
       exact VL.finS hO6 rfl rfl
      refine Obs.cons ?_ ?_
      ·refine obS (by kernel_rfl) rfl rfl (fun ph6 w6 hO6 => ?_)
       rintro _ rfl
       refine VL.go rfl rfl rfl ?_
       refine VL.move rfl ?_
       exact VL.finS hO6 rfl rfl
      refine Obs.cons ?_ ?_
      ·refine obS (by kernel_rfl) rfl rfl (fun ph6 w6 hO6 => ?_)
       rintro _ rfl _ rfl _ rfl
       refine VL.go rfl rfl rfl ?_
       refine VL.index (xs := ys) rfl rfl Try.underlying158 sz158 hY (by omega) (by have hi := hlt2; omega) ?_
       exact VL.finS hO6 rfl rfl
      refine Obs.cons ?_ ?_
      ·refine obS (by kernel_rfl) rfl rfl (fun ph6 w6 hO6 => ?_)
       rintro _ rfl _ rfl
       refine VL.go rfl rfl rfl ?_
       refine VL.fieldAt rfl (by obtain ⟨a, ha⟩ := hY.isAt (by have hi := hlt2; omega); rw [ha]; rfl) fo167_1 ?_
       exact VL.finS hO6 rfl rfl
      refine Obs.cons ?_ ?_
      ·refine ob (by kernel_rfl) rfl (by kernel_rfl) rfl (fun w6 hO6 => ?_)
       rintro _ rfl _ rfl
       refine VL.go rfl rfl rfl ?_
       refine VL.elem (s := ⟨w, _⟩) (k) 1 rfl kd24 (fun _ e => e ▸ hO6) (by repeat (first | exact List.mem_cons_self .. | apply List.mem_cons_of_mem)) Mono_chg hY (List.getElem?_eq_getElem hlt2) (by simp) (by decide) (fun vs v hl hr hv => ?_)
       obtain ⟨p7, c7, rfl, hA7⟩ := hr
       have e7 : v = .slice p7 (ys[k]'hlt2).value.length c7 := (Option.some.inj (hv.symm.trans rfl))
       subst e7
       exact VL.finS hO6 rfl ⟨_, _, rfl, hA7⟩
      exact Obs.nil
     case end6 =>
      intro w6 hO6
      rintro _ rfl _ ⟨pe1, ce1, rfl, hAe1⟩ _ ⟨pe2, ce2, rfl, hAe2⟩
      refine VL.toOwn hO6 ?_
      refine VL.go rfl rfl rfl ?_
      refine VL.call Try.func27 rfl (by decide) rfl (fun w' hw => bytes_D hw (hAe1.nowA (s := ⟨w, _⟩) Mono.byte hw) (hAe2.nowA (s := ⟨w, _⟩) Mono.byte hw)) (fun v => ?_)
      refine VL.fact fun e8 => ?_
      subst e8
      refine VL.yes (congrArg Chg.value h1c) ?_
      refine VL.go rfl rfl rfl ?_
      refine VL.not rfl ?_
      refine VL.pick_f rfl rfl ?_
      refine VL.nn ?_
      refine VC.no rfl ?_
      refine VC.skip ?_
      refine VX.block_normal ?_
      refine VX.next ?_
      refine VC.region ?_
      refine VL.move rfl ?_
      refine VL.add rfl rfl (by simp only [InR]; omega) ?_
      refine VL.assign rfl ?_
      refine VL.nil ?_
      refine VX.round (k + 1) ⟨rfl, rfl, rfl, trivial⟩ (fun w' h => ⟨⟨by omega, take_next hlt hlt2 htk h1c⟩, h.subA⟩) (by omega)
   ·have hke : k = xs.length := by omega
    refine VL.nn ?_
    refine VC.no rfl ?_
    refine VC.exit ?_
    refine VX.then_exit ?_
    refine VX.then_exit ?_
    refine VX.block_here ?_
    refine VX.next ?_
    refine VC.sr ?_
    refine VL.assign rfl ?_
    refine VL.nn ?_
    refine VC.ret ?_
    refine VX.ret1 rfl rfl (fun we hw => ?_)
    exact ⟨true, rfl, ⟨fun _ => take_all hke h1 htk, fun _ => rfl⟩, hw.subA⟩

theorem sameQue_w {S : List Snap} {H : List Chunk} {w : World} (ho : Own S H w) {x : Que} (hx : x.ok) {q : Option Addr} {d : Nat} (hV : Arr 433 itemR' (keys H) w q x.items d) {q2 : Option Addr} {d2 : Nat} (hU : Arr 433 itemR' (keys H) w q2 x.items d2) : Calls Try.prog 106 #[.agg (cat (queV x q d)).toArray, .agg (cat (queV x q2 d2)).toArray] w (Ret fun v w' => v = .bool true ∧ Own S H w') := by
 refine enter (G := Own (⟨w, keys H⟩ :: S) H) ho.keep Try.func106 rfl Try.ntmps106 rfl ?_
 refine VC.sr ?_
 refine VL.box (L := queL) (ps := (queV (x) q d)) rfl rfl (queV_len hx) (fun g1 => ?_)
 refine VL.box (L := queL) (ps := (queV (x) q2 d2)) rfl rfl (queV_len hx) (fun g2 => ?_)
 refine VL.assign rfl ?_
 refine VL.nn ?_
 refine VC.sr ?_
 refine VL.fieldAddr rfl fo157_1 rfl ?_
 refine VL.load (v := .int .i64 (x.sent)) 1 1 rfl kd3 (fun _ h => h) rfl rfl rfl ?_
 refine VL.fieldAddr rfl fo157_1 rfl ?_
 refine VL.load (v := .int .i64 (x.sent)) 0 1 rfl kd3 (fun _ h => h) rfl rfl rfl ?_
 refine VL.eql rfl rfl ?_
 refine VL.yes (by omega) ?_
 refine VL.move rfl ?_
 refine VL.go rfl rfl rfl ?_
 refine VL.fieldAddr rfl fo157_2 rfl ?_
 refine VL.go rfl rfl rfl ?_
 refine VL.load (v := .int .u16 (x.id)) 1 2 rfl kd68 (fun _ h => h) rfl rfl rfl ?_
 refine VL.go rfl rfl rfl ?_
 refine VL.fieldAddr rfl fo157_2 rfl ?_
 refine VL.go rfl rfl rfl ?_
 refine VL.load (v := .int .u16 (x.id)) 0 2 rfl kd68 (fun _ h => h) rfl rfl rfl ?_
 refine VL.go rfl rfl rfl ?_
 refine VL.eql rfl rfl ?_
 refine VL.yes (by omega) ?_
 refine VL.pick_t rfl rfl ?_
 refine VL.move rfl ?_
 refine VL.go rfl rfl rfl ?_
 refine VL.fieldAddr rfl fo157_3 rfl ?_
 refine VL.go rfl rfl rfl ?_
 refine VL.load (v := .int .u8 (x.wait)) 1 3 rfl kd5 (fun _ h => h) rfl rfl rfl ?_
 refine VL.go rfl rfl rfl ?_
 refine VL.fieldAddr rfl fo157_3 rfl ?_
 refine VL.go rfl rfl rfl ?_
 refine VL.load (v := .int .u8 (x.wait)) 0 3 rfl kd5 (fun _ h => h) rfl rfl rfl ?_
 refine VL.go rfl rfl rfl ?_
 refine VL.eql rfl rfl ?_
 refine VL.yes (by omega) ?_
 refine VL.pick_t rfl rfl ?_
 refine VL.move rfl ?_
 refine VL.go rfl rfl rfl ?_
 refine VL.fieldAddr rfl fo157_4 rfl ?_
 refine VL.go rfl rfl rfl ?_
 refine VL.load (v := .int .u8 (x.back)) 1 4 rfl kd5 (fun _ h => h) rfl rfl rfl ?_
 refine VL.go rfl rfl rfl ?_
 refine VL.fieldAddr rfl fo157_4 rfl ?_
 refine VL.go rfl rfl rfl ?_
 refine VL.load (v := .int .u8 (x.back)) 0 4 rfl kd5 (fun _ h => h) rfl rfl rfl ?_
 refine VL.go rfl rfl rfl ?_
 refine VL.eql rfl rfl ?_
 refine VL.yes (by omega) ?_
 refine VL.pick_t rfl rfl ?_
 refine VL.move rfl ?_
 refine VL.go rfl rfl rfl ?_
 refine VL.fieldAddr rfl fo157_0 rfl ?_
 refine VL.go rfl rfl rfl ?_
 refine VL.load (v := .slice q (x.items).length d) 1 0 rfl kd126 (fun _ h => h) rfl rfl rfl ?_
 refine VL.go rfl rfl rfl ?_
 refine VL.fieldAddr rfl fo157_0 rfl ?_
 refine VL.go rfl rfl rfl ?_
 refine VL.load (v := .slice q2 (x.items).length d2) 0 0 rfl kd126 (fun _ h => h) rfl rfl rfl ?_
 refine VL.go rfl rfl rfl ?_
 refine VL.call Try.func90 rfl (by decide) rfl (fun w' hw => sameLists_e hw hx.items (hV.nowA (s := ⟨w, _⟩) Mono_item hw) (hU.nowA (s := ⟨w, _⟩) Mono_item hw) rfl) (fun v => ?_)
 refine VL.fact fun e3 => ?_
 subst e3
 refine VL.pick_t rfl rfl ?_
 refine VL.assign rfl ?_
 refine VL.nn ?_
 refine VC.ret ?_
 refine VX.ret1 rfl rfl (fun we hw => ?_)
 exact ⟨rfl, hw.drop.drop.subA⟩

end Go.Proofs.Ytcfecmoagfgnaaa

/- The reference: bytes of packets; one against the other. -/
namespace Go.Proofs.Ytcfecmoagfgnaaa
open Go.Vc Go.Pl

theorem brow0 {S : List Snap} {H : List Chunk} {w : World} (h : Own S H w) : Own S (brow none 0 ([] : List (List UInt8)) :: H) w := Own.arow_nil (Mono.slice Mono.byte) 24 1 h
end Go.Proofs.Ytcfecmoagfgnaaa

/- The rules of the walks, continued: ways that meet again. -/
namespace Go.Vc
section
variable {P : Program} {n : Nat} {Q Q' : Exit → Act → World → Prop} {σ : Sl} {G : World → Prop}
/-- Code behind other code is walked once, however many ways lead to it: x: what the ways differ in. -/
theorem VC.join {X : Type} {c y : Code} (τ : X → Sl) (G' : X → World → Prop) (p : X → Prop) (hx : (∀ x, p x → VC P n Q y (τ x) (G' x)) → VC P n (Exit.then (y.wp P Q) Q) c σ G) (hy : ∀ x, p x → VC P n Q y (τ x) (G' x)) : VC P n Q (.seq c y) σ G := VC.seq (hx hy)
theorem VX.join {X : Type} {y : Code} {τ : X → Sl} {G' : X → World → Prop} {p : X → Prop} (h : ∀ x, p x → VC P n Q y (τ x) (G' x)) (x : X) (hp : p x) (hs : sub (τ x) σ) (hG : ∀ w, G w → G' x w) : VX n (Exit.then (y.wp P Q) Q') .normal σ G :=
 fun a w ha hw => h x hp a w (ha.mono hs) (hG w hw)
end
end Go.Vc

/- wire: what bytes are read as: packets. -/
namespace Go.Proofs.Ytcfecmoagfgnaaa
open Go.Vc Go.Pl

theorem num_one {l : List UInt8} (h : l.length = 1) (h0 : 0 < l.length) : num l = (l[0]'h0).toNat := by
 match l, h with
 | [b], _ => simp [num]
end Go.Proofs.Ytcfecmoagfgnaaa

