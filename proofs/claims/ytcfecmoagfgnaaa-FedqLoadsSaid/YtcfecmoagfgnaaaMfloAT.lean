/- The statement FedqLoads is proved, for every input: part 20 of 26 of the texts that it needs. -/
import Derived.Test.YtcfecmoagfgnaaaMfloAS
/- The reference: what bytes are read as: bundles, letters, objects. -/
namespace Go.Proofs.Ytcfecmoagfgnaaa
open Go.Vc Go.Pl

theorem wrapT_u8 (p : List UInt8) : Value.int .u8 (IntKind.u8.wrap ((refN p : Nat) : Int)) = .int .u8 ((refN p % 256 ^ 1 : Nat) : Int) := by
 congr 1
theorem wrapT_u16 (p : List UInt8) : Value.int .u16 (IntKind.u16.wrap ((refN p : Nat) : Int)) = .int .u16 ((refN p % 256 ^ 2 : Nat) : Int) := by
 congr 1
theorem wrapT_u32 (p : List UInt8) : Value.int .u32 (IntKind.u32.wrap ((refN p : Nat) : Int)) = .int .u32 ((refN p % 256 ^ 4 : Nat) : Int) := by
 congr 1
theorem some_of {α : Type} {o : Option α} {d l : α} (h : o.isSome = true) (e : o.getD d = l) : o = some l := by
 cases o with
 | none => cases h
 | some x => rw [← e]; rfl
theorem not_some {α : Type} {o : Option α} {l : α} (h : o.isSome = false) : ¬ o = some l := by
 intro e; rw [e] at h; cases h
theorem not_getD {α : Type} {o : Option α} {d l : α} (e : ¬ o.getD d = l) : ¬ o = some l := by
 intro h; rw [h] at e; exact e rfl
theorem bundle_no {l : List UInt8} (h : ¬ openP l ≠ [] ∨ ¬ bundleB (bundleT' (openP l)) = l) : bundleR l = none := by
 rcases h with h | h
 ·cases e : bundleR l with
  | none => rfl
  | some y => exact absurd (bundle_open e) h
 ·rw [bundle_rd, if_neg h]
theorem letter_no {l : List UInt8} (h : ¬ openP l ≠ [] ∨ ¬ letterO (letterT' (openP l)) = some l) : letterR l = none := by
 rcases h with h | h
 ·cases e : letterR l with
  | none => rfl
  | some y => exact absurd (letter_open e) h
 ·rw [letter_rd, if_neg h]
theorem object_no {l : List UInt8} {vs : List Vouch} (hv : objectV' (openP l) = vs ++ ([] : List (List UInt8)).map vouchT') (h : ¬ openP l ≠ [] ∨ ¬ objectO (objectT' (openP l) vs) = some l) : objectR l = none := by
 rcases h with h | h
 ·cases e : objectR l with
  | none => rfl
  | some y => exact absurd (object_open e) h
 ·rw [List.map_nil, List.append_nil] at hv
  rw [object_rd, hv, if_neg h]
theorem object_yes {l : List UInt8} {vs : List Vouch} (hv : objectV' (openP l) = vs ++ ([] : List (List UInt8)).map vouchT') (h : objectO (objectT' (openP l) vs) = some l) : objectR l = some (objectT' (openP l) vs) := by
 rw [List.map_nil, List.append_nil] at hv
 rw [object_rd, hv, if_pos h]
theorem openP_len (l : List UInt8) : (openP l).length ≤ 64 := by
 by_cases h : openP l = []
 ·rw [h]; decide
 ·exact (join_open h).1.1
theorem vouch_ne {p : List UInt8} (h : 0 < p.length) : vouchT' p = ⟨(p.headD 0).toNat, padB 64 (p.drop 1)⟩ := if_neg (fun e => by rw [e] at h; exact absurd h (by decide))
theorem vouch_nil {p : List UInt8} (h : ¬ 0 < p.length) : vouchT' p = vouch0 := if_pos (List.eq_nil_of_length_eq_zero (by omega))
theorem objectV_step {l : List UInt8} {vs : List Vouch} {p : List UInt8} {r : List (List UInt8)} (h : objectV' (openP l) = vs ++ (p :: r).map vouchT') : objectV' (openP l) = (vs ++ [vouchT' p]) ++ r.map vouchT' := by
 rw [h, List.map_cons, List.append_assoc]; rfl

theorem readBundle_w {S : List Snap} {H : List Chunk} {w : World} (ho : Own S H w) {p : Option Addr} {l : List UInt8} {c : Nat} (hA : Bytes (keys H) w p l c) : Calls Try.prog 94 #[.slice p l.length c] w (Ret fun v w' => v = .tuple #[.agg (cat (bundleV ((bundleR l).getD bundle0))).toArray, .bool (bundleR l).isSome] ∧ Own S H w') := by
 refine enter (G := Own (⟨w, keys H⟩ :: S) H) ho.keep Try.func94 rfl Try.ntmps94 rfl ?_
 refine VC.sr ?_
 refine VL.alloc (L := bundleL) (ps := (bundleV (bundle0))) zero82 rfl rfl (fun g1 => ?_)
 refine VL.assign rfl ?_
 refine VL.nn ?_
 refine VC.sr ?_
 refine VL.move rfl ?_
 refine VL.call Try.func140 rfl (by decide) rfl (fun w' hw => open_T hw (hA.nowA (s := ⟨w, _⟩) Mono.byte hw)) (fun v => ?_)
 refine VL.ex fun g2 => VL.fact fun e3 => ?_
 subst e3
 refine VL.move rfl ?_
 refine VL.extract rfl rfl ?_
 refine VL.extract rfl rfl ?_
 refine VL.assign rfl ?_
 refine VL.assign rfl ?_
 refine VL.nn ?_
 refine VC.sr ?_
 refine VL.move rfl ?_
 refine VL.call Try.func141 rfl (by decide) rfl (fun w' hw => num_T (i := 0) rfl hw) (fun v => ?_)
 refine VL.fact fun e4 => ?_
 subst e4
 refine VL.set0 ?_
 refine VL.convw (by rw [Try.underlying3]; rfl) Try.underlying5 rfl ?_
 refine VL.newv (v' := .int .u8 (tkN 1 (openP l) : Nat)) (wrapT_u8 _) ?_
 refine VL.move rfl ?_
 refine VL.call Try.func150 rfl (by decide) rfl (fun w' hw => key_T (i := 0) rfl hw) (fun v => ?_)
 refine VL.fact fun e5 => ?_
 subst e5
 refine VL.set0 ?_
 refine VL.move rfl ?_
 refine VL.call Try.func150 rfl (by decide) rfl (fun w' hw => key_T (i := 0) rfl hw) (fun v => ?_)
 refine VL.fact fun e6 => ?_
 subst e6
 refine VL.set0 ?_
 refine VL.move rfl ?_
 refine VL.call Try.func141 rfl (by decide) rfl (fun w' hw => num_T (i := 0) rfl hw) (fun v => ?_)
 refine VL.fact fun e7 => ?_
 subst e7
 refine VL.set0 ?_
 refine VL.convw (by rw [Try.underlying3]; rfl) Try.underlying68 rfl ?_
 refine VL.newv (v' := .int .u16 (tkN 2 ((((openP l).drop 1).drop 1).drop 1) : Nat)) (wrapT_u16 _) ?_
 refine VL.move rfl ?_
 refine VL.call Try.func150 rfl (by decide) rfl (fun w' hw => key_T (i := 0) rfl hw) (fun v => ?_)
 refine VL.fact fun e8 => ?_
 subst e8
 refine VL.set0 ?_
 refine VL.move rfl ?_
 refine VL.call Try.func144 rfl (by decide) rfl (fun w' hw => sig_T (i := 0) rfl hw) (fun v => ?_)
 refine VL.fact fun e9 => ?_
 subst e9
 refine VL.set0 ?_
 refine VL.build (zs := bundleZ) (L := bundleFL) [(0, [.int .u8 (tkN 1 (openP l))]), (1, (tkB 32 ((openP l).drop 1)).map bv), (2, (tkB 32 (((openP l).drop 1).drop 1)).map bv), (3, [.int .u16 (tkN 2 ((((openP l).drop 1).drop 1).drop 1))]), (4, (tkB 32 (((((openP l).drop 1).drop 1).drop 1).drop 1)).map bv), (5, (tkB 64 ((((((openP l).drop 1).drop 1).drop 1).drop 1).drop 1)).map bv)] plan82 rfl ⟨⟨rfl, ⟨_, rfl, rfl⟩, rfl⟩, ⟨⟨rfl, ⟨_, rfl, rfl⟩, (arr_q (tkB_length _ _))⟩, ⟨⟨rfl, ⟨_, rfl, rfl⟩, (arr_q (tkB_length _ _))⟩, ⟨⟨rfl, ⟨_, rfl, rfl⟩, rfl⟩, ⟨⟨rfl, ⟨_, rfl, rfl⟩, (arr_q (tkB_length _ _))⟩, ⟨⟨rfl, ⟨_, rfl, rfl⟩, (arr_q (tkB_length _ _))⟩, trivial⟩⟩⟩⟩⟩⟩ rfl ?_
 refine VL.newv (v' := .agg (cat (bundleV ((bundleT' (openP l))))).toArray) rfl ?_
 refine VL.alloc (L := bundleL) (ps := (bundleV (bundle0))) zero82 rfl rfl (fun g10 => ?_)
 refine VL.store (L := bundleL) (qs := (bundleV ((bundleT' (openP l))))) (ps' := (bundleV ((bundleT' (openP l))))) 0 0 6 rfl rfl rfl (.inl kd82) rfl rfl (bundleV_len (bundleT'_ok (openP l))) (bundleV_ok1 ((bundleT' (openP l)))) rfl rfl ?_
 refine VL.set0 ?_
 refine VL.nn ?_
 refine VC.seq ?_
 refine VC.sr ?_
 refine VL.move rfl ?_
 refine VL.case (fun ho => ?_) (fun ho => ?_)
 ·refine VL.not rfl ?_
  refine VL.move rfl ?_
  refine VL.go rfl rfl rfl ?_
  refine VL.loads (cs := cat (bundleV ((bundleT' (openP l))))) 0 0 6 rfl kd82 (fun _ h => h) rfl rfl rfl rfl ?_
  refine VL.go rfl rfl rfl ?_
  refine VL.call Try.func62 rfl (by decide) rfl (fun w' hw => refBundle_w hw (x := (bundleT' (openP l))) (bundleT'_ok (openP l))) (fun v => ?_)
  refine VL.at (fun w11 h1w => ?_)
  obtain ⟨p12, c13, rfl, hO15, hA14⟩ := h1w
  refine VL.toOwn hO15 ?_
  refine VL.go rfl rfl rfl ?_
  refine VL.move rfl ?_
  refine VL.go rfl rfl rfl ?_
  refine VL.call Try.func27 rfl (by decide) rfl (fun w' hw => bytes_B hw (hA14.nowA (s := ⟨w11, _⟩) Mono.byte hw) (hA.nowA (s := ⟨w, _⟩) Mono.byte hw)) (fun v => ?_)
  refine VL.ex fun b => VL.fact fun e => VL.fact fun h3_6 => ?_
  subst e
  cases b
  ·have h3_6 := mt h3_6.2 (by decide)
   refine VL.go rfl rfl rfl ?_
   refine VL.not rfl ?_
   refine VL.pick_f rfl rfl ?_
   refine VL.nn ?_
   refine VC.yes rfl ?_
   refine VC.sr ?_
   refine VL.build0 (cs := cat (bundleV (bundle0))) built82 ?_
   refine VL.store (L := bundleL) (qs := (bundleV (bundle0))) (ps' := (bundleV (bundle0))) 2 0 6 rfl rfl rfl (.inl kd82) rfl rfl rfl (bundleV_ok1 bundle0) rfl rfl ?_
   refine VL.set2 ?_
   refine VL.assign rfl ?_
   refine VL.nn ?_
   refine VC.ret ?_
   refine VX.then_ret ?_
   refine VX.ret_cell (cs := cat (bundleV (bundle0))) 2 rfl rfl rfl kd82 (fun _ h => h) rfl rfl (fun we hw => ?_)
   have e1 := bundle_no (.inr h3_6)
   exact ⟨by rw [e1]; rfl, hw.drop.drop.drop.subA⟩
  ·have h3_6 := h3_6.1 rfl
   refine VL.go rfl rfl rfl ?_
   refine VL.not rfl ?_
   refine VL.pick_f rfl rfl ?_
   refine VL.nn ?_
   refine VC.no rfl ?_
   refine VC.skip ?_
   refine VX.next ?_
   refine VC.sr ?_
   refine VL.loads (cs := cat (bundleV ((bundleT' (openP l))))) 0 0 6 rfl kd82 (fun _ h => h) rfl rfl rfl rfl ?_
   refine VL.store (L := bundleL) (qs := (bundleV ((bundleT' (openP l))))) (ps' := (bundleV ((bundleT' (openP l))))) 2 0 6 rfl rfl rfl (.inl kd82) rfl rfl (bundleV_len (bundleT'_ok (openP l))) (bundleV_ok1 ((bundleT' (openP l)))) rfl rfl ?_
   refine VL.set2 ?_
   refine VL.assign rfl ?_
   refine VL.nn ?_
   refine VC.ret ?_
   refine VX.ret_cell (cs := cat (bundleV ((bundleT' (openP l))))) 2 rfl rfl rfl (by rw [cat_size (bundleV_len (bundleT'_ok (openP l)))]; exact kd82) (fun _ h => h) rfl rfl (fun we hw => ?_)
   have e1 := bundle_rd l
   rw [if_pos h3_6] at e1
   exact ⟨by rw [e1]; rfl, hw.drop.drop.drop.subA⟩
 ·refine VL.not rfl ?_
  refine VL.move rfl ?_
  refine VL.pass rfl rfl rfl rfl rfl ?_
  refine VL.pass rfl rfl rfl rfl rfl ?_
  refine VL.pass rfl rfl rfl rfl rfl ?_
  refine VL.pass rfl rfl rfl rfl rfl ?_
  refine VL.pass rfl rfl rfl rfl rfl ?_
  refine VL.pick_t rfl rfl ?_
  refine VL.nn ?_
  refine VC.yes rfl ?_
  refine VC.sr ?_
  refine VL.build0 (cs := cat (bundleV (bundle0))) built82 ?_
  refine VL.store (L := bundleL) (qs := (bundleV (bundle0))) (ps' := (bundleV (bundle0))) 2 0 6 rfl rfl rfl (.inl kd82) rfl rfl rfl (bundleV_ok1 bundle0) rfl rfl ?_
  refine VL.set2 ?_
  refine VL.assign rfl ?_
  refine VL.nn ?_
  refine VC.ret ?_
  refine VX.then_ret ?_
  refine VX.ret_cell (cs := cat (bundleV (bundle0))) 2 rfl rfl rfl kd82 (fun _ h => h) rfl rfl (fun we hw => ?_)
  have e1 := bundle_no (.inl ho)
  exact ⟨by rw [e1]; rfl, hw.drop.drop.drop.subA⟩

theorem readLetter_w {S : List Snap} {H : List Chunk} {w : World} (ho : Own S H w) {p : Option Addr} {l : List UInt8} {c : Nat} (hA : Bytes (keys H) w p l c) : Calls Try.prog 95 #[.slice p l.length c] w (Ret fun v w' => ∃ p c, v = .tuple #[.agg (cat (letterV ((letterR l).getD letter0) p c)).toArray, .bool (letterR l).isSome] ∧ Own S H w' ∧ Bytes (keys H) w' p ((letterR l).getD letter0).body c) := by
 refine enter (G := Own (⟨w, keys H⟩ :: S) H) ho.keep Try.func95 rfl Try.ntmps95 rfl ?_
 refine VC.sr ?_
 refine VL.alloc (L := letterL) (ps := (letterV (letter0) none 0)) zero72 rfl rfl (fun g1 => ?_)
 refine VL.assign rfl ?_
 refine VL.nn ?_
 refine VC.sr ?_
 refine VL.move rfl ?_
 refine VL.call Try.func140 rfl (by decide) rfl (fun w' hw => open_T hw (hA.nowA (s := ⟨w, _⟩) Mono.byte hw)) (fun v => ?_)
 refine VL.ex fun g2 => VL.fact fun e3 => ?_
 subst e3
 refine VL.move rfl ?_
 refine VL.extract rfl rfl ?_
 refine VL.extract rfl rfl ?_
 refine VL.assign rfl ?_
 refine VL.assign rfl ?_
 refine VL.nn ?_
 refine VC.sr ?_
 refine VL.move rfl ?_
 refine VL.call Try.func141 rfl (by decide) rfl (fun w' hw => num_T (i := 0) rfl hw) (fun v => ?_)
 refine VL.fact fun e4 => ?_
 subst e4
 refine VL.set0 ?_
 refine VL.convw (by rw [Try.underlying3]; rfl) Try.underlying5 rfl ?_
 refine VL.newv (v' := .int .u8 (tkN 1 (openP l) : Nat)) (wrapT_u8 _) ?_
 refine VL.move rfl ?_
 refine VL.call Try.func141 rfl (by decide) rfl (fun w' hw => num_T (i := 0) rfl hw) (fun v => ?_)
 refine VL.fact fun e5 => ?_
 subst e5
 refine VL.set0 ?_
 refine VL.convw (by rw [Try.underlying3]; rfl) Try.underlying5 rfl ?_
 refine VL.newv (v' := .int .u8 (tkN 1 ((openP l).drop 1) : Nat)) (wrapT_u8 _) ?_
 refine VL.build (zs := letterZ) (L := letterFL) [(0, [.int .u8 (tkN 1 (openP l))]), (1, [.int .u8 (tkN 1 ((openP l).drop 1))])] plan72 rfl ⟨⟨rfl, ⟨_, rfl, rfl⟩, rfl⟩, ⟨⟨rfl, ⟨_, rfl, rfl⟩, rfl⟩, trivial⟩⟩ rfl ?_
 refine VL.newv (v' := .agg (cat (letterV ((Letter.mk (tkN 1 (openP l)) (tkN 1 ((openP l).drop 1)) header0 [])) none 0)).toArray) rfl ?_
 refine VL.alloc (L := letterL) (ps := (letterV (letter0) none 0)) zero72 rfl rfl (fun g6 => ?_)
 refine VL.store (L := letterL) (qs := (letterV ((Letter.mk (tkN 1 (openP l)) (tkN 1 ((openP l).drop 1)) header0 [])) none 0)) (ps' := (letterV ((Letter.mk (tkN 1 (openP l)) (tkN 1 ((openP l).drop 1)) header0 [])) none 0)) 0 0 12 rfl rfl rfl (.inl kd72) rfl rfl (letterV_len (⟨tkN_lt 1 _, tkN_lt 1 _, header0_ok⟩ : Letter.ok (Letter.mk (tkN 1 (openP l)) (tkN 1 ((openP l).drop 1)) header0 []))) (letterV_ok1 ((Letter.mk (tkN 1 (openP l)) (tkN 1 ((openP l).drop 1)) header0 [])) none 0) rfl rfl ?_
 refine VL.set0 ?_
 refine VL.nn ?_
 refine VC.sr ?_
 refine VL.move rfl ?_
 refine VL.call Try.func142 rfl (by decide) rfl (fun w' hw => next_T (i := 1) rfl hw) (fun v => ?_)
 refine VL.at (fun w7 h1w => ?_)
 obtain ⟨p8, c9, rfl, hO11, hA10⟩ := h1w
 replace hO11 := ownSet1 hO11
 replace hA10 := arrSet1 hA10
 refine VL.toOwn hO11 ?_
 refine VL.call Try.func140 rfl (by decide) rfl (fun w' hw => open_T hw (hA10.nowA (s := ⟨w7, _⟩) Mono.byte hw)) (fun v => ?_)
 refine VL.ex fun g12 => VL.fact fun e13 => ?_
 subst e13
 refine VL.move rfl ?_
 refine VL.extract rfl rfl ?_
 refine VL.extract rfl rfl ?_
 refine VL.assign rfl ?_
 refine VL.assign rfl ?_
 refine VL.nn ?_
 refine VC.sr ?_
 refine VL.move rfl ?_
 refine VL.call Try.func150 rfl (by decide) rfl (fun w' hw => key_T (i := 0) rfl hw) (fun v => ?_)
 refine VL.fact fun e14 => ?_
 subst e14
 refine VL.set0 ?_
 refine VL.fieldAddr rfl fo72_2 rfl ?_
 refine VL.fieldAddr rfl fo70_0 rfl ?_
 refine VL.store (L := letterL) (qs := [(tkB 32 (openP (nextP (((openP l).drop 1).drop 1)))).map bv]) 1 2 1 rfl rfl rfl (.inl kd44) rfl rfl (arr_len (tkB_length _ _)) (ok1_bytes _) rfl rfl ?_
 refine VL.set1 ?_
 refine VL.nn ?_
 refine VC.sr ?_
 refine VL.move rfl ?_
 refine VL.call Try.func141 rfl (by decide) rfl (fun w' hw => num_T (i := 0) rfl hw) (fun v => ?_)
 refine VL.fact fun e15 => ?_
 subst e15
 refine VL.set0 ?_
 refine VL.eql rfl rfl ?_
 refine VL.newv (v' := .bool (decide (refN (nextP ((openP (nextP (((openP l).drop 1).drop 1))).drop 1)) = 1))) (congrArg Value.bool (decide_eq_decide.2 (by omega))) ?_
 refine VL.fieldAddr rfl fo72_2 rfl ?_
 refine VL.fieldAddr rfl fo70_1 rfl ?_
 refine VL.store (L := letterL) (qs := [[.bool ((decide (refN (nextP ((openP (nextP (((openP l).drop 1).drop 1))).drop 1)) = 1)))]]) 1 3 1 rfl rfl rfl (.inr ⟨kd4, rfl⟩) rfl rfl rfl (by intro u hu; simp [cat] at hu; subst hu; rfl) rfl rfl ?_
 refine VL.set1 ?_
 refine VL.nn ?_
 refine VC.sr ?_
 refine VL.move rfl ?_
 refine VL.call Try.func150 rfl (by decide) rfl (fun w' hw => key_T (i := 0) rfl hw) (fun v => ?_)
 refine VL.fact fun e16 => ?_
 subst e16
 refine VL.set0 ?_
 refine VL.fieldAddr rfl fo72_2 rfl ?_
 refine VL.fieldAddr rfl fo70_2 rfl ?_
 refine VL.store (L := letterL) (qs := [(tkB 32 (((openP (nextP (((openP l).drop 1).drop 1))).drop 1).drop 1)).map bv]) 1 4 1 rfl rfl rfl (.inl kd44) rfl rfl (arr_len (tkB_length _ _)) (ok1_bytes _) rfl rfl ?_
 refine VL.set1 ?_
 refine VL.nn ?_
 refine VC.sr ?_
 refine VL.move rfl ?_
 refine VL.call Try.func150 rfl (by decide) rfl (fun w' hw => key_T (i := 0) rfl hw) (fun v => ?_)
 refine VL.fact fun e17 => ?_
 subst e17
 refine VL.set0 ?_
 refine VL.fieldAddr rfl fo72_2 rfl ?_
 refine VL.fieldAddr rfl fo70_3 rfl ?_
 refine VL.store (L := letterL) (qs := [(tkB 32 ((((openP (nextP (((openP l).drop 1).drop 1))).drop 1).drop 1).drop 1)).map bv]) 1 5 1 rfl rfl rfl (.inl kd44) rfl rfl (arr_len (tkB_length _ _)) (ok1_bytes _) rfl rfl ?_
 refine VL.set1 ?_
 refine VL.nn ?_
 refine VC.sr ?_
 refine VL.move rfl ?_
 refine VL.call Try.func150 rfl (by decide) rfl (fun w' hw => key_T (i := 0) rfl hw) (fun v => ?_)
 refine VL.fact fun e18 => ?_
 subst e18
 refine VL.set0 ?_
 refine VL.fieldAddr rfl fo72_2 rfl ?_
 refine VL.fieldAddr rfl fo70_4 rfl ?_
 refine VL.store (L := letterL) (qs := [(tkB 32 (((((openP (nextP (((openP l).drop 1).drop 1))).drop 1).drop 1).drop 1).drop 1)).map bv]) 1 6 1 rfl rfl rfl (.inl kd44) rfl rfl (arr_len (tkB_length _ _)) (ok1_bytes _) rfl rfl ?_
 refine VL.set1 ?_
 refine VL.nn ?_
 refine VC.sr ?_
 refine VL.move rfl ?_
 refine VL.call Try.func141 rfl (by decide) rfl (fun w' hw => num_T (i := 0) rfl hw) (fun v => ?_)
 refine VL.fact fun e19 => ?_
 subst e19
 refine VL.set0 ?_
 refine VL.convw (by rw [Try.underlying3]; rfl) Try.underlying68 rfl ?_
 refine VL.newv (v' := .int .u16 (tkN 2 ((((((openP (nextP (((openP l).drop 1).drop 1))).drop 1).drop 1).drop 1).drop 1).drop 1) : Nat)) (wrapT_u16 _) ?_
 refine VL.fieldAddr rfl fo72_2 rfl ?_
 refine VL.fieldAddr rfl fo70_5 rfl ?_
 refine VL.store (L := letterL) (qs := [[.int .u16 (tkN 2 ((((((openP (nextP (((openP l).drop 1).drop 1))).drop 1).drop 1).drop 1).drop 1).drop 1))]]) 1 7 1 rfl rfl rfl (.inr ⟨kd68, rfl⟩) rfl rfl rfl (by intro u hu; simp [cat] at hu; subst hu; rfl) rfl rfl ?_
 refine VL.set1 ?_
 refine VL.nn ?_
 refine VC.sr ?_
 refine VL.move rfl ?_
 refine VL.call Try.func150 rfl (by decide) rfl (fun w' hw => key_T (i := 0) rfl hw) (fun v => ?_)
 refine VL.fact fun e20 => ?_
 subst e20
 refine VL.set0 ?_
 refine VL.fieldAddr rfl fo72_2 rfl ?_
 refine VL.fieldAddr rfl fo70_6 rfl ?_
 refine VL.store (L := letterL) (qs := [(tkB 32 (((((((openP (nextP (((openP l).drop 1).drop 1))).drop 1).drop 1).drop 1).drop 1).drop 1).drop 1)).map bv]) 1 8 1 rfl rfl rfl (.inl kd44) rfl rfl (arr_len (tkB_length _ _)) (ok1_bytes _) rfl rfl ?_
 refine VL.set1 ?_
 refine VL.nn ?_
 refine VC.sr ?_
 refine VL.move rfl ?_
 refine VL.call Try.func141 rfl (by decide) rfl (fun w' hw => num_T (i := 0) rfl hw) (fun v => ?_)
 refine VL.fact fun e21 => ?_
 subst e21
 refine VL.set0 ?_
 refine VL.convw (by rw [Try.underlying3]; rfl) Try.underlying68 rfl ?_
 refine VL.newv (v' := .int .u16 (tkN 2 ((((((((openP (nextP (((openP l).drop 1).drop 1))).drop 1).drop 1).drop 1).drop 1).drop 1).drop 1).drop 1) : Nat)) (wrapT_u16 _) ?_
 refine VL.fieldAddr rfl fo72_2 rfl ?_
 refine VL.fieldAddr rfl fo70_7 rfl ?_
 refine VL.store (L := letterL) (qs := [[.int .u16 (tkN 2 ((((((((openP (nextP (((openP l).drop 1).drop 1))).drop 1).drop 1).drop 1).drop 1).drop 1).drop 1).drop 1))]]) 1 9 1 rfl rfl rfl (.inr ⟨kd68, rfl⟩) rfl rfl rfl (by intro u hu; simp [cat] at hu; subst hu; rfl) rfl rfl ?_
 refine VL.set1 ?_
 refine VL.nn ?_
 refine VC.sr ?_
 refine VL.move rfl ?_
 refine VL.call Try.func141 rfl (by decide) rfl (fun w' hw => num_T (i := 0) rfl hw) (fun v => ?_)
 refine VL.fact fun e22 => ?_
 subst e22
 refine VL.set0 ?_
 refine VL.convw (by rw [Try.underlying3]; rfl) Try.underlying68 rfl ?_
 refine VL.newv (v' := .int .u16 (tkN 2 (((((((((openP (nextP (((openP l).drop 1).drop 1))).drop 1).drop 1).drop 1).drop 1).drop 1).drop 1).drop 1).drop 1) : Nat)) (wrapT_u16 _) ?_
 refine VL.fieldAddr rfl fo72_2 rfl ?_
 refine VL.fieldAddr rfl fo70_8 rfl ?_
 refine VL.store (L := letterL) (qs := [[.int .u16 (tkN 2 (((((((((openP (nextP (((openP l).drop 1).drop 1))).drop 1).drop 1).drop 1).drop 1).drop 1).drop 1).drop 1).drop 1))]]) 1 10 1 rfl rfl rfl (.inr ⟨kd68, rfl⟩) rfl rfl rfl (by intro u hu; simp [cat] at hu; subst hu; rfl) rfl rfl ?_
 refine VL.set1 ?_
 refine VL.nn ?_
 refine VC.sr ?_
 refine VL.move rfl ?_
 refine VL.call Try.func142 rfl (by decide) rfl (fun w' hw => next_T (i := 2) rfl hw) (fun v => ?_)
 refine VL.at (fun w23 h1w => ?_)
 obtain ⟨p24, c25, rfl, hO27, hA26⟩ := h1w
 replace hO27 := ownSet2 hO27
 replace hA26 := arrSet2 hA26
 refine VL.toOwn hO27 ?_
 refine VL.fieldAddr rfl fo72_3 rfl ?_
 refine VL.store (L := letterL) (qs := [[.slice p24 ((nextP ((((openP l).drop 1).drop 1).drop 1))).length c25]]) 1 11 1 rfl rfl rfl (.inr ⟨kd24, rfl⟩) rfl rfl rfl (by intro u hu; simp [cat] at hu; subst hu; rfl) rfl rfl ?_
 refine VL.set1 ?_
 refine VL.nn ?_
 refine VC.sr ?_
 refine VL.loads (cs := cat (letterV ((letterT' (openP l))) p24 c25)) 1 0 12 rfl kd72 (fun _ h => h) rfl rfl rfl rfl ?_
 refine VL.call Try.func51 rfl (by decide) rfl (fun w' hw => refLetter_w hw (x := (letterT' (openP l))) (letterT'_ok (openP l)) (hA26.nowA (s := ⟨w23, _⟩) Mono.byte hw)) (fun v => ?_)
 refine VL.at (fun w28 h1w => ?_)
 obtain ⟨p29, c30, rfl, hO32, hA31⟩ := h1w
 refine VL.toOwn hO32 ?_
 refine VL.move rfl ?_
 refine VL.extract rfl rfl ?_
 refine VL.extract rfl rfl ?_
 refine VL.assign rfl ?_
 refine VL.assign rfl ?_
 refine VL.nn ?_
 refine VC.seq ?_
 refine VC.sr ?_
 refine VL.move rfl ?_
 refine VL.case (fun ho => ?_) (fun ho => ?_)
 ·refine VL.not rfl ?_
  refine VL.move rfl ?_
  refine VL.go rfl rfl rfl ?_
  refine VL.move rfl ?_
  cases hs : (letterO (letterT' (openP l))).isSome
  ·refine VL.go rfl rfl rfl ?_
   refine VL.not rfl ?_
   refine VL.pick_f rfl rfl ?_
   refine VL.move rfl ?_
   refine VL.pass rfl rfl rfl rfl rfl ?_
   refine VL.pass rfl rfl rfl rfl rfl ?_
   refine VL.pass rfl rfl rfl rfl rfl ?_
   refine VL.pass rfl rfl rfl rfl rfl ?_
   refine VL.pick_t rfl rfl ?_
   refine VL.nn ?_
   refine VC.yes rfl ?_
   refine VC.sr ?_
   refine VL.build0 (cs := cat (letterV (letter0) none 0)) built72 ?_
   refine VL.store (L := letterL) (qs := (letterV (letter0) none 0)) (ps' := (letterV (letter0) none 0)) 3 0 12 rfl rfl rfl (.inl kd72) rfl rfl rfl (letterV_ok1 letter0 none 0) rfl rfl ?_
   refine VL.set3 ?_
   refine VL.assign rfl ?_
   refine VL.nn ?_
   refine VC.ret ?_
   refine VX.then_ret ?_
   refine VX.ret_cell (cs := cat (letterV (letter0) none 0)) 3 rfl rfl rfl kd72 (fun _ h => h) rfl rfl (fun we hw => ?_)
   have e1 := letter_no (.inr (not_some hs))
   exact ⟨none, 0, by rw [e1]; rfl, hw.drop.drop.drop.drop.subA, by rw [e1]; exact Arr.none⟩
  ·refine VL.go rfl rfl rfl ?_
   refine VL.not rfl ?_
   refine VL.pick_f rfl rfl ?_
   refine VL.move rfl ?_
   refine VL.go rfl rfl rfl ?_
   refine VL.move rfl ?_
   refine VL.go rfl rfl rfl ?_
   refine VL.move rfl ?_
   refine VL.go rfl rfl rfl ?_
   refine VL.call Try.func27 rfl (by decide) rfl (fun w' hw => bytes_B hw (hA31.nowA (s := ⟨w28, _⟩) Mono.byte hw) (hA.nowA (s := ⟨w, _⟩) Mono.byte hw)) (fun v => ?_)
   refine VL.ex fun b => VL.fact fun e => VL.fact fun h15_9 => ?_
   subst e
   cases b
   ·have h15_9 := mt h15_9.2 (by decide)
    refine VL.go rfl rfl rfl ?_
    refine VL.not rfl ?_
    refine VL.pick_f rfl rfl ?_
    refine VL.nn ?_
    refine VC.yes rfl ?_
    refine VC.sr ?_
    refine VL.build0 (cs := cat (letterV (letter0) none 0)) built72 ?_
    refine VL.store (L := letterL) (qs := (letterV (letter0) none 0)) (ps' := (letterV (letter0) none 0)) 3 0 12 rfl rfl rfl (.inl kd72) rfl rfl rfl (letterV_ok1 letter0 none 0) rfl rfl ?_
    refine VL.set3 ?_
    refine VL.assign rfl ?_
    refine VL.nn ?_
    refine VC.ret ?_
    refine VX.then_ret ?_
    refine VX.ret_cell (cs := cat (letterV (letter0) none 0)) 3 rfl rfl rfl kd72 (fun _ h => h) rfl rfl (fun we hw => ?_)
    have e1 := letter_no (.inr (not_getD h15_9))
    exact ⟨none, 0, by rw [e1]; rfl, hw.drop.drop.drop.drop.subA, by rw [e1]; exact Arr.none⟩
   ·have h15_9 := h15_9.1 rfl
    refine VL.go rfl rfl rfl ?_
    refine VL.not rfl ?_
    refine VL.pick_f rfl rfl ?_
    refine VL.nn ?_
    refine VC.no rfl ?_
    refine VC.skip ?_
    refine VX.next ?_
    refine VC.sr ?_
    refine VL.loads (cs := cat (letterV ((letterT' (openP l))) p24 c25)) 1 0 12 rfl kd72 (fun _ h => h) rfl rfl rfl rfl ?_
    refine VL.store (L := letterL) (qs := (letterV ((letterT' (openP l))) p24 c25)) (ps' := (letterV ((letterT' (openP l))) p24 c25)) 3 0 12 rfl rfl rfl (.inl kd72) rfl rfl (letterV_len (letterT'_ok (openP l))) (letterV_ok1 ((letterT' (openP l))) p24 c25) rfl rfl ?_
    refine VL.set3 ?_
    refine VL.assign rfl ?_
    refine VL.nn ?_
    refine VC.ret ?_
    refine VX.ret_cell (cs := cat (letterV ((letterT' (openP l))) p24 c25)) 3 rfl rfl rfl (by rw [cat_size (letterV_len (letterT'_ok (openP l)))]; exact kd72) (fun _ h => h) rfl rfl (fun we hw => ?_)
    have e1 := letter_rd l
    rw [if_pos (some_of hs h15_9)] at e1
    exact ⟨_, _, by rw [e1]; rfl, hw.drop.drop.drop.drop.subA, by rw [e1]; exact (hA26.nowA (s := ⟨w23, _⟩) Mono.byte hw.drop.drop.drop.drop)⟩
 ·refine VL.not rfl ?_
  refine VL.move rfl ?_
  refine VL.pass rfl rfl rfl rfl rfl ?_
  refine VL.pass rfl rfl rfl rfl rfl ?_
  refine VL.pick_t rfl rfl ?_
  refine VL.move rfl ?_
  refine VL.pass rfl rfl rfl rfl rfl ?_
  refine VL.pass rfl rfl rfl rfl rfl ?_
  refine VL.pass rfl rfl rfl rfl rfl ?_
  refine VL.pass rfl rfl rfl rfl rfl ?_
  refine VL.pick_t rfl rfl ?_
  refine VL.nn ?_
  refine VC.yes rfl ?_
  refine VC.sr ?_
  refine VL.build0 (cs := cat (letterV (letter0) none 0)) built72 ?_
  refine VL.store (L := letterL) (qs := (letterV (letter0) none 0)) (ps' := (letterV (letter0) none 0)) 3 0 12 rfl rfl rfl (.inl kd72) rfl rfl rfl (letterV_ok1 letter0 none 0) rfl rfl ?_
  refine VL.set3 ?_
  refine VL.assign rfl ?_
  refine VL.nn ?_
  refine VC.ret ?_
  refine VX.then_ret ?_
  refine VX.ret_cell (cs := cat (letterV (letter0) none 0)) 3 rfl rfl rfl kd72 (fun _ h => h) rfl rfl (fun we hw => ?_)
  have e1 := letter_no (.inl ho)
  exact ⟨none, 0, by rw [e1]; rfl, hw.drop.drop.drop.drop.subA, by rw [e1]; exact Arr.none⟩

theorem readObject_w {S : List Snap} {H : List Chunk} {w : World} (ho : Own S H w) {p : Option Addr} {l : List UInt8} {c : Nat} (hA : Bytes (keys H) w p l c) : Calls Try.prog 96 #[.slice p l.length c] w (Ret fun v w' => ∃ q d, v = .tuple #[.agg (cat (objectV ((objectR l).getD object0) q d)).toArray, .bool (objectR l).isSome] ∧ Own S H w' ∧ Arr 65 vouchR (keys H) w' q ((objectR l).getD object0).vouches d) := by
 refine enter (G := Own (⟨w, keys H⟩ :: S) H) ho.keep Try.func96 rfl Try.ntmps96 rfl ?_
 refine VC.sr ?_
 refine VL.alloc (L := objectL) (ps := (objectV (object0) none 0)) zero85 rfl rfl (fun g1 => ?_)
 refine VL.assign rfl ?_
 refine VL.nn ?_
 refine VC.sr ?_
 refine VL.move rfl ?_
 refine VL.call Try.func140 rfl (by decide) rfl (fun w' hw => open_T hw (hA.nowA (s := ⟨w, _⟩) Mono.byte hw)) (fun v => ?_)
 refine VL.ex fun g2 => VL.fact fun e3 => ?_
 subst e3
 refine VL.move rfl ?_
 refine VL.extract rfl rfl ?_
 refine VL.extract rfl rfl ?_
 refine VL.assign rfl ?_
 refine VL.assign rfl ?_
 refine VL.nn ?_
 refine VC.sr ?_
 refine VL.move rfl ?_
 refine VL.call Try.func141 rfl (by decide) rfl (fun w' hw => num_T (i := 0) rfl hw) (fun v => ?_)
 refine VL.fact fun e4 => ?_
 subst e4
 refine VL.set0 ?_
 refine VL.convw (by rw [Try.underlying3]; rfl) Try.underlying5 rfl ?_
 refine VL.newv (v' := .int .u8 (tkN 1 (openP l) : Nat)) (wrapT_u8 _) ?_
 refine VL.move rfl ?_
 refine VL.call Try.func141 rfl (by decide) rfl (fun w' hw => num_T (i := 0) rfl hw) (fun v => ?_)
 refine VL.fact fun e5 => ?_
 subst e5
 refine VL.set0 ?_
 refine VL.convw (by rw [Try.underlying3]; rfl) Try.underlying5 rfl ?_
 refine VL.newv (v' := .int .u8 (tkN 1 ((openP l).drop 1) : Nat)) (wrapT_u8 _) ?_
 refine VL.move rfl ?_
 refine VL.call Try.func150 rfl (by decide) rfl (fun w' hw => key_T (i := 0) rfl hw) (fun v => ?_)
 refine VL.fact fun e6 => ?_
 subst e6
 refine VL.set0 ?_
 refine VL.move rfl ?_
 refine VL.call Try.func141 rfl (by decide) rfl (fun w' hw => num_T (i := 0) rfl hw) (fun v => ?_)
 refine VL.fact fun e7 => ?_
 subst e7
 refine VL.set0 ?_
 refine VL.convw (by rw [Try.underlying3]; rfl) Try.underlying48 rfl ?_
 refine VL.newv (v' := .int .u32 (tkN 4 ((((openP l).drop 1).drop 1).drop 1) : Nat)) (wrapT_u32 _) ?_
 refine VL.move rfl ?_
 refine VL.call Try.func141 rfl (by decide) rfl (fun w' hw => num_T (i := 0) rfl hw) (fun v => ?_)
 refine VL.fact fun e8 => ?_
 subst e8
 refine VL.set0 ?_
 refine VL.convw (by rw [Try.underlying3]; rfl) Try.underlying48 rfl ?_
 refine VL.newv (v' := .int .u32 (tkN 4 (((((openP l).drop 1).drop 1).drop 1).drop 1) : Nat)) (wrapT_u32 _) ?_
 refine VL.move rfl ?_
 refine VL.call Try.func144 rfl (by decide) rfl (fun w' hw => sig_T (i := 0) rfl hw) (fun v => ?_)
 refine VL.fact fun e9 => ?_
 subst e9
 refine VL.set0 ?_
 refine VL.build (zs := objectZ) (L := objectFL) [(0, [.int .u8 (tkN 1 (openP l))]), (1, [.int .u8 (tkN 1 ((openP l).drop 1))]), (2, (tkB 32 (((openP l).drop 1).drop 1)).map bv), (3, [.int .u32 (tkN 4 ((((openP l).drop 1).drop 1).drop 1))]), (4, [.int .u32 (tkN 4 (((((openP l).drop 1).drop 1).drop 1).drop 1))]), (5, (tkB 64 ((((((openP l).drop 1).drop 1).drop 1).drop 1).drop 1)).map bv)] plan85 rfl ⟨⟨rfl, ⟨_, rfl, rfl⟩, rfl⟩, ⟨⟨rfl, ⟨_, rfl, rfl⟩, rfl⟩, ⟨⟨rfl, ⟨_, rfl, rfl⟩, (arr_q (tkB_length _ _))⟩, ⟨⟨rfl, ⟨_, rfl, rfl⟩, rfl⟩, ⟨⟨rfl, ⟨_, rfl, rfl⟩, rfl⟩, ⟨⟨rfl, ⟨_, rfl, rfl⟩, (arr_q (tkB_length _ _))⟩, trivial⟩⟩⟩⟩⟩⟩ rfl ?_
 refine VL.newv (v' := .agg (cat (objectV ((objectT' (openP l) [])) none 0)).toArray) rfl ?_
 refine VL.alloc (L := objectL) (ps := (objectV (object0) none 0)) zero85 rfl rfl (fun g10 => ?_)
 refine VL.store (L := objectL) (qs := (objectV ((objectT' (openP l) [])) none 0)) (ps' := (objectV ((objectT' (openP l) [])) none 0)) 0 0 7 rfl rfl rfl (.inl kd85) rfl rfl (objectV_len (objectT'_ok (openP l) (by simp))) (objectV_ok1 ((objectT' (openP l) [])) none 0) rfl rfl ?_
 refine VL.set0 ?_
 refine VL.nn ?_
 refine VC.seq ?_
 refine VC.block ?_
 refine VC.turn (G' := Own _ (arow 202 65 vouchR Mono_vouch none 0 ([] : List Vouch) :: blk g10 85 objectL (objectV ((objectT' (openP l) [])) none 0) :: tch g2 false (((((((openP l).drop 1).drop 1).drop 1).drop 1).drop 1).drop 1) :: blk g1 85 objectL (objectV (object0) none 0) :: H)) (fun w' h => newRow h) ?_
 have hpl := openP_len l
 refine VC.loop (X := List Vouch × List (List UInt8) × Option Nat × Nat) (fun _ => [(2, .pointer (some ⟨g1, 0, none⟩)), (4, .pointer (some ⟨g2, 0, none⟩)), (6, .pointer (some ⟨g10, 0, none⟩)), (0, .slice p l.length c), (5, .bool (decide (openP l ≠ [])))]) (fun (vs, ps, gv, cv) w' => ((∀ v ∈ vs, v.ok) ∧ objectV' (openP l) = vs ++ ps.map vouchT' ∧ vs.length + ps.length ≤ 64) ∧ Own (⟨w, keys H⟩ :: S) (arow 202 65 vouchR Mono_vouch gv cv vs :: blk g10 85 objectL (objectV ((objectT' (openP l) vs)) (gv.map fun g => (⟨g, 0, none⟩ : Addr)) cv) :: tch g2 false ps :: blk g1 85 objectL (objectV (object0) none 0) :: H) w') (fun (_, ps, _) => ps.length) ([], (((((((openP l).drop 1).drop 1).drop 1).drop 1).drop 1).drop 1), none, 0) ⟨rfl, rfl, rfl, rfl, rfl, trivial⟩ (fun w' h => ⟨⟨by simp, rfl, by simp only [List.length_drop, List.length_nil]; omega⟩, h.subA⟩) (fun (vs, ps, gv, cv) => VC.fact fun ⟨hvs, hveq, hvl⟩ => ?_)
 ·skip
  refine VC.seq ?_
  refine VC.sr ?_
  refine VL.move rfl ?_
  refine VL.call Try.func143 rfl (by decide) rfl (fun w' hw => left_T (i := 2) rfl hw) (fun v => ?_)
  refine VL.fact fun e11 => ?_
  subst e11
  refine VL.gtr rfl rfl ?_
  refine VL.case (fun h3 => ?_) (fun h3 => ?_)
  ·obtain ⟨pc, rest, rfl⟩ : ∃ pc rest, ps = pc :: rest := by
    cases ps with
    | nil => exact absurd h3 (by simp)
    | cons a b => exact ⟨a, b, rfl⟩
   refine VL.nn ?_
   refine VC.yes rfl ?_
   refine VC.skip ?_
   refine VX.next ?_
   refine VC.block ?_
   refine VC.sr ?_
   refine VL.move rfl ?_
   refine VL.call Try.func142 rfl (by decide) rfl (fun w' hw => next_T (i := 2) rfl hw) (fun v => ?_)
   refine VL.at (fun w12 h1w => ?_)
   obtain ⟨p13, c14, rfl, hO16, hA15⟩ := h1w
   replace hO16 := ownSet2 hO16
   replace hA15 := arrSet2 hA15
   refine VL.toOwn hO16 ?_
   refine VL.assign rfl ?_
   refine VL.nn ?_
   refine VC.sr ?_
   refine VL.build0 (cs := cat (vouchV (vouch0))) built202 ?_
   refine VL.alloc (L := vouchL) (ps := (vouchV (vouch0))) zero202 rfl rfl (fun g17 => ?_)
   refine VL.store (L := vouchL) (qs := (vouchV (vouch0))) (ps' := (vouchV (vouch0))) 0 0 2 rfl rfl rfl (.inl kd202) rfl rfl rfl (vouchV_ok1 vouch0) rfl rfl ?_
   refine VL.set0 ?_
   refine VL.nn ?_
   refine VC.join (X := Unit) (fun _ => [(2, .pointer (some ⟨g1, 0, none⟩)), (4, .pointer (some ⟨g2, 0, none⟩)), (6, .pointer (some ⟨g10, 0, none⟩)), (8, .pointer (some ⟨g17, 0, none⟩)), (0, .slice p l.length c), (5, .bool (decide (openP l ≠ [])))]) (fun _ => Own (⟨w, keys H⟩ :: S) (blk g17 202 vouchL (vouchV ((vouchT' pc))) :: arow 202 65 vouchR Mono_vouch gv cv vs :: blk g10 85 objectL (objectV ((objectT' (openP l) vs)) (gv.map fun g => (⟨g, 0, none⟩ : Addr)) cv) :: tch g2 false rest :: blk g1 85 objectL (objectV (object0) none 0) :: H)) (fun _ => True) (fun hrest => ?_) (fun _ _ => ?_)
   ·skip
    refine VC.sr ?_
    refine VL.move rfl ?_
    refine VL.len Try.underlying24 rfl rfl ?_
    refine VL.gtr rfl rfl ?_
    refine VL.case (fun h6 => ?_) (fun h6 => ?_)
    ·have hpc : 0 < pc.length := by have h : (0 : Int) < ((pc.length : Nat) : Int) := h6; omega
     refine VL.nn ?_
     refine VC.yes rfl ?_
     refine VC.sr ?_
     refine VL.move rfl ?_
     refine VL.index (xs := pc) rfl rfl Try.underlying24 sz24 hA15 (by omega) (by omega) ?_
     refine VL.byte (s := ⟨w12, _⟩) rfl kd5 (fun _ h => h) (by repeat (first | exact List.mem_cons_self .. | apply List.mem_cons_of_mem)) hA15 (y := pc.headD 0) (by
      show pc[0]? = _
      cases pc with
      | nil => simp at hpc
      | cons a r => rfl) ?_
     refine VL.fieldAddr rfl fo202_0 rfl ?_
     refine VL.store (L := vouchL) (qs := [[.int .u8 ((pc.headD 0).toNat)]]) (ps' := [[.int .u8 ((pc.headD 0).toNat)], (vouch0.sig).map bv]) 0 0 1 rfl rfl rfl (.inr ⟨kd5, rfl⟩) rfl rfl rfl (by intro u hu; simp [cat] at hu; subst hu; rfl) rfl rfl ?_
     refine VL.set0 ?_
     refine VL.nn ?_
     apply VC.anyTA 4 1005 (F := [eqF _, eqF _, eqF _, eqF _]) [⟨[], [8]⟩, ⟨[(46, 0)], []⟩, ⟨[], [7]⟩, ⟨[(48, 2)], []⟩] [(47, 1), (49, 3)] [0, 2, 3, 4, 5, 6, 7, 8, 9, 10, 11, 12, 13, 14, 15, 16, 17, 18, 19, 20, 21, 22, 23, 24, 25, 26, 27, 28, 29, 30, 31, 32, 33, 34, 35, 36, 37, 38, 39, 40, 41, 42, 43, 44, 45, 51, 52, 53, 54, 55, 56, 57, 58, 59, 60, 61, 62, 63, 64, 65, 66, 67, 68, 69, 70, 71, 72, 73, 74, 75] rfl (by kernel_rfl) (by kernel_rfl) rfl rfl (by kernel_rfl) (by kernel_rfl) (by kernel_rfl) rfl ?obs8 ?end8
     case obs8 =>
      refine Obs.cons ?_ ?_
      ·refine obS (by kernel_rfl) rfl rfl (fun ph8 w8 hO8 => ?_)
       refine VL.fieldAddr rfl fo202_1 rfl ?_
       exact VL.finS hO8 rfl rfl
      refine Obs.cons ?_ ?_
      ·refine obS (by kernel_rfl) rfl rfl (fun ph8 w8 hO8 => ?_)
       rintro _ rfl
       refine VL.sliceArrAt Try.underlying80 (by kernel_rfl) rfl ?_
       exact VL.finS hO8 rfl rfl
      refine Obs.cons ?_ ?_
      ·refine obS (by kernel_rfl) rfl rfl (fun ph8 w8 hO8 => ?_)
       refine VL.move rfl ?_
       exact VL.finS hO8 rfl rfl
      refine Obs.cons ?_ ?_
      ·refine obS (by kernel_rfl) rfl rfl (fun ph8 w8 hO8 => ?_)
       rintro _ rfl
       refine VL.dropE (l := pc) 1 rfl rfl Try.underlying24 sz24 (by omega) hA15.le ?_
       exact VL.finS hO8 rfl rfl
      exact Obs.nil
     case end8 =>
      intro w8 hO8
      rintro _ rfl _ rfl
      refine VL.toOwn hO8 ?_
      refine VL.copyZ (l := pc.drop 1) (ps' := vouchV (Vouch.mk (pc.headD 0).toNat (padB 64 (pc.drop 1)))) 0 1 rfl Try.underlying24 (by kernel_rfl) rfl rfl rfl rfl rfl rfl (fun _ hw => ⟨_, Arr.now (s := ⟨w12, _⟩) (hA15.drop 1 (Nat.le_trans (by omega) hA15.le)) Mono.byte hw (by repeat (first | exact List.mem_cons_self .. | apply List.mem_cons_of_mem))⟩) rfl rfl (fun _ => ?_)
      refine VL.set0 ?_
      refine VL.nil ?_
      refine VX.join hrest () trivial ⟨rfl, rfl, rfl, rfl, rfl, rfl, trivial⟩ (fun _ h => ?_)
      rw [vouch_ne hpc]
      exact h.subA
    ·have hpc : ¬ 0 < pc.length := by have h : ¬ (0 : Int) < ((pc.length : Nat) : Int) := h6; omega
     refine VL.nn ?_
     refine VC.no rfl ?_
     refine VC.skip ?_
     refine VX.join hrest () trivial ⟨rfl, rfl, rfl, rfl, rfl, rfl, trivial⟩ (fun _ h => ?_)
     rw [vouch_nil hpc]
     exact h.subA
   skip
   have hvs2 : ∀ v ∈ vs ++ [(vouchT' pc)], v.ok := fun v hv => (List.mem_append.1 hv).elim (hvs v) (fun h => by rw [List.mem_singleton] at h; subst h; exact vouchT'_ok pc)
   refine VC.region ?_
   refine VL.fieldAddr rfl fo85_6 rfl ?_
   refine VL.load (v := .slice (gv.map fun g => (⟨g, 0, none⟩ : Addr)) ((objectT' (openP l) vs).vouches).length cv) 2 6 rfl kd83 (fun _ h => h) rfl rfl rfl ?_
   refine VL.loads (cs := cat (vouchV ((vouchT' pc)))) 0 0 2 rfl kd202 (fun _ h => h) rfl rfl rfl rfl ?_
   refine VL.lit el83 rfl rfl rfl (by intro v hv; simp only [List.mem_singleton] at hv; subst hv; show (cat (vouchV (vouchT' pc))).toArray.size = 65; rw [List.size_toArray, cat_size (vouchV_len (vouchT'_ok pc))]; rfl) (by rw [show [Value.agg (cat (vouchV (vouchT' pc))).toArray].flatMap (·.cells.toList) = cat (vouchV (vouchT' pc)) by simp [Value.cells]]; exact vouchV_ok1 _) (fun gl => ?_)
   refine VL.letRow vouchR [(vouchT' pc)] rfl (fun w' hw => one_vouch (vouchT'_ok pc)) (fun wl hOl hAl => ?_)
   refine VL.appends (R := vouchR) (hR := Mono_vouch) (ys := vs) (zs := [(vouchT' pc)]) 1 el83 rfl rfl rfl (fun _ h => h) rfl (fun _ hw => (hAl.nowA (s := ⟨wl, _⟩) Mono_vouch hw)) (fun _ _ _ _ h => by obtain ⟨_, rfl⟩ := h; exact vouchV_ok1 _) (by simp only [List.length_cons, List.length_nil] at hvl ⊢; omega) (fun gv2 cv2 => ?_) (by simp only [List.length_cons, List.length_nil] at hvl ⊢; omega)
   refine VL.set1 ?_
   refine VL.fieldAddr rfl fo85_6 rfl ?_
   refine VL.store (L := objectL) (qs := [[rowV gv2 (vs ++ [(vouchT' pc)]).length cv2]]) (ps' := (objectV ((objectT' (openP l) (vs ++ [(vouchT' pc)]))) (gv2.map fun g => (⟨g, 0, none⟩ : Addr)) cv2)) 2 6 1 rfl rfl rfl (.inr ⟨kd83, rfl⟩) rfl rfl rfl (by intro u hu; simp [cat] at hu; subst hu; rfl) rfl rfl ?_
   refine VL.set2 ?_
   refine VL.nil ?_
   refine VX.block_normal ?_
   refine VX.round (vs ++ [(vouchT' pc)], rest, gv2, cv2) ⟨rfl, rfl, rfl, rfl, rfl, trivial⟩ (fun w' h => ⟨⟨hvs2, objectV_step hveq, by simp only [List.length_append, List.length_cons, List.length_nil] at hvl ⊢; omega⟩, (h.drop).subA⟩) (by show rest.length < (pc :: rest).length; simp)
  ·obtain rfl : ps = [] := List.eq_nil_of_length_eq_zero (by omega)
   refine VL.nn ?_
   refine VC.no rfl ?_
   refine VC.exit ?_
   refine VX.then_exit ?_
   refine VX.then_exit ?_
   refine VX.block_here ?_
   refine VX.next ?_
   refine VC.seq ?_
   refine VC.letArr (fun wr hOr hAr => ?_)
   refine VC.region ?_
   refine VL.loads (cs := cat (objectV ((objectT' (openP l) vs)) (gv.map fun g => (⟨g, 0, none⟩ : Addr)) cv)) 0 0 7 rfl kd85 (fun _ h => h) rfl rfl rfl rfl ?_
   refine VL.call Try.func66 rfl (by decide) rfl (fun w' hw => refObject_w hw (x := (objectT' (openP l) vs)) (objectT'_ok (openP l) hvs) (hAr.nowA (s := ⟨wr, _⟩) Mono_vouch hw)) (fun v => ?_)
   refine VL.at (fun w18 h1w => ?_)
   obtain ⟨p19, c20, rfl, hO22, hA21⟩ := h1w
   refine VL.toOwn hO22 ?_
   refine VL.move rfl ?_
   refine VL.extract rfl rfl ?_
   refine VL.extract rfl rfl ?_
   refine VL.assign rfl ?_
   refine VL.assign rfl ?_
   refine VL.nn ?_
   refine VC.seq ?_
   refine VC.sr ?_
   refine VL.move rfl ?_
   refine VL.case (fun ho => ?_) (fun ho => ?_)
   ·refine VL.not rfl ?_
    refine VL.move rfl ?_
    refine VL.go rfl rfl rfl ?_
    refine VL.move rfl ?_
    cases hs : (objectO (objectT' (openP l) vs)).isSome
    ·refine VL.go rfl rfl rfl ?_
     refine VL.not rfl ?_
     refine VL.pick_f rfl rfl ?_
     refine VL.move rfl ?_
     refine VL.pass rfl rfl rfl rfl rfl ?_
     refine VL.pass rfl rfl rfl rfl rfl ?_
     refine VL.pass rfl rfl rfl rfl rfl ?_
     refine VL.pass rfl rfl rfl rfl rfl ?_
     refine VL.pick_t rfl rfl ?_
     refine VL.nn ?_
     refine VC.yes rfl ?_
     refine VC.sr ?_
     refine VL.build0 (cs := cat (objectV (object0) none 0)) built85 ?_
     refine VL.store (L := objectL) (qs := (objectV (object0) none 0)) (ps' := (objectV (object0) none 0)) 2 0 7 rfl rfl rfl (.inl kd85) rfl rfl rfl (objectV_ok1 object0 none 0) rfl rfl ?_
     refine VL.set2 ?_
     refine VL.assign rfl ?_
     refine VL.nn ?_
     refine VC.ret ?_
     refine VX.then_ret ?_
     refine VX.ret_cell (cs := cat (objectV (object0) none 0)) 2 rfl rfl rfl kd85 (fun _ h => h) rfl rfl (fun we hw => ?_)
     have e1 := object_no hveq (.inr (not_some hs))
     exact ⟨none, 0, by rw [e1]; rfl, hw.drop.drop.drop.subA, by rw [e1]; exact Arr.none⟩
    ·refine VL.go rfl rfl rfl ?_
     refine VL.not rfl ?_
     refine VL.pick_f rfl rfl ?_
     refine VL.move rfl ?_
     refine VL.go rfl rfl rfl ?_
     refine VL.move rfl ?_
     refine VL.go rfl rfl rfl ?_
     refine VL.move rfl ?_
     refine VL.go rfl rfl rfl ?_
     refine VL.call Try.func27 rfl (by decide) rfl (fun w' hw => bytes_B hw (hA21.nowA (s := ⟨w18, _⟩) Mono.byte hw) (hA.nowA (s := ⟨w, _⟩) Mono.byte hw)) (fun v => ?_)
     refine VL.ex fun b => VL.fact fun e => VL.fact fun h11_9 => ?_
     subst e
     cases b
     ·have h11_9 := mt h11_9.2 (by decide)
      refine VL.go rfl rfl rfl ?_
      refine VL.not rfl ?_
      refine VL.pick_f rfl rfl ?_
      refine VL.nn ?_
      refine VC.yes rfl ?_
      refine VC.sr ?_
      refine VL.build0 (cs := cat (objectV (object0) none 0)) built85 ?_
      refine VL.store (L := objectL) (qs := (objectV (object0) none 0)) (ps' := (objectV (object0) none 0)) 2 0 7 rfl rfl rfl (.inl kd85) rfl rfl rfl (objectV_ok1 object0 none 0) rfl rfl ?_
      refine VL.set2 ?_
      refine VL.assign rfl ?_
      refine VL.nn ?_
      refine VC.ret ?_
      refine VX.then_ret ?_
      refine VX.ret_cell (cs := cat (objectV (object0) none 0)) 2 rfl rfl rfl kd85 (fun _ h => h) rfl rfl (fun we hw => ?_)
      have e1 := object_no hveq (.inr (not_getD h11_9))
      exact ⟨none, 0, by rw [e1]; rfl, hw.drop.drop.drop.subA, by rw [e1]; exact Arr.none⟩
     ·have h11_9 := h11_9.1 rfl
      refine VL.go rfl rfl rfl ?_
      refine VL.not rfl ?_
      refine VL.pick_f rfl rfl ?_
      refine VL.nn ?_
      refine VC.no rfl ?_
      refine VC.skip ?_
      refine VX.next ?_
      refine VC.sr ?_
      refine VL.loads (cs := cat (objectV ((objectT' (openP l) vs)) (gv.map fun g => (⟨g, 0, none⟩ : Addr)) cv)) 0 0 7 rfl kd85 (fun _ h => h) rfl rfl rfl rfl ?_
      refine VL.store (L := objectL) (qs := (objectV ((objectT' (openP l) vs)) (gv.map fun g => (⟨g, 0, none⟩ : Addr)) cv)) (ps' := (objectV ((objectT' (openP l) vs)) (gv.map fun g => (⟨g, 0, none⟩ : Addr)) cv)) 2 0 7 rfl rfl rfl (.inl kd85) rfl rfl (objectV_len (objectT'_ok (openP l) hvs)) (objectV_ok1 ((objectT' (openP l) vs)) (gv.map fun g => (⟨g, 0, none⟩ : Addr)) cv) rfl rfl ?_
      refine VL.set2 ?_
      refine VL.assign rfl ?_
      refine VL.nn ?_
      refine VC.ret ?_
      refine VX.ret_cell (cs := cat (objectV ((objectT' (openP l) vs)) (gv.map fun g => (⟨g, 0, none⟩ : Addr)) cv)) 2 rfl rfl rfl (by rw [cat_size (objectV_len (objectT'_ok (openP l) hvs))]; exact kd85) (fun _ h => h) rfl rfl (fun we hw => ?_)
      have e1 := object_yes hveq (some_of hs h11_9)
      exact ⟨_, _, by rw [e1]; rfl, hw.drop.drop.drop.subA, by rw [e1]; exact hAr.nowA (s := ⟨wr, _⟩) Mono_vouch hw.drop.drop.drop⟩
   ·refine VL.not rfl ?_
    refine VL.move rfl ?_
    refine VL.pass rfl rfl rfl rfl rfl ?_
    refine VL.pass rfl rfl rfl rfl rfl ?_
    refine VL.pick_t rfl rfl ?_
    refine VL.move rfl ?_
    refine VL.pass rfl rfl rfl rfl rfl ?_
    refine VL.pass rfl rfl rfl rfl rfl ?_
    refine VL.pass rfl rfl rfl rfl rfl ?_
    refine VL.pass rfl rfl rfl rfl rfl ?_
    refine VL.pick_t rfl rfl ?_
    refine VL.nn ?_
    refine VC.yes rfl ?_
    refine VC.sr ?_
    refine VL.build0 (cs := cat (objectV (object0) none 0)) built85 ?_
    refine VL.store (L := objectL) (qs := (objectV (object0) none 0)) (ps' := (objectV (object0) none 0)) 2 0 7 rfl rfl rfl (.inl kd85) rfl rfl rfl (objectV_ok1 object0 none 0) rfl rfl ?_
    refine VL.set2 ?_
    refine VL.assign rfl ?_
    refine VL.nn ?_
    refine VC.ret ?_
    refine VX.then_ret ?_
    refine VX.ret_cell (cs := cat (objectV (object0) none 0)) 2 rfl rfl rfl kd85 (fun _ h => h) rfl rfl (fun we hw => ?_)
    have e1 := object_no hveq (.inl ho)
    exact ⟨none, 0, by rw [e1]; rfl, hw.drop.drop.drop.subA, by rw [e1]; exact Arr.none⟩

end Go.Proofs.Ytcfecmoagfgnaaa

/- The reference: what bytes are read as: packets. -/
namespace Go.Proofs.Ytcfecmoagfgnaaa
open Go.Vc Go.Pl

section
variable {n : Nat} {Q : Exit → Act → World → Prop} {σ : Sl} {G : World → Prop} {ops : Array Oper} {rest : List Oper}
variable {d : Nat} {ty : TypeId} {pos : String} {aft : Array Edge} {S : List Snap} {H : List Chunk}
theorem loadL {x : Operand} {g : Nat} {left : List (List UInt8)} (i : Nat) (hx : ev σ x = some (.pointer (some ⟨g, 0, none⟩))) (hi : H[i]? = some (tch g true left))
  (h : ∀ p c w1, Own S H w1 → Arr 1 bytesR (keys H) w1 p left c → VL Try.prog n ops Q rest ((d, .slice p left.length c) :: σ) (Own (⟨w1, keys H⟩ :: S) H)) (hdn : Nat.blt d n = true := by rfl) : VL Try.prog n ops Q (⟨some d, .load 31 x, ty, pos, aft, none⟩ :: rest) σ (Own S H) := by
 refine VL.at fun w hw => ?_
 obtain ⟨ps, h1, h2, ls, p, c, m, rfl, h3, _, h4, hA⟩ := hw.holds _ (List.mem_of_getElem? hi)
 obtain rfl : m = 0 := h4 rfl
 obtain rfl : left = ls := h3
 refine VL.val (v := .slice p left.length c) rfl rfl hdn (fun a w' ha e => ?_) (VL.turn (fun w' e => by subst e; exact hw.keep) (h p c w hw hA))
 subst e
 have hc : w'.cell? ⟨g, 0, none⟩ = some (.slice p left.length c) := by
  rw [cell_of_row w' g 0 _ 216 (0, 0) h1]
  rfl
 simp [execOp, ha.ev hx, run_load_cell kd31 hc]
end
end Go.Proofs.Ytcfecmoagfgnaaa

/- What the document's answer takes bytes for: items, calls, replies. -/
namespace Go.Proofs.Ytcfecmoagfgnaaa
open Go.Vc Go.Pl

def itemT' (a : List (List UInt8)) : Itm :=
  if tkN 1 a = 1 then ⟨tkN 1 a, 0, 0, (letterR (nextP (a.drop 1))).getD letter0, bundle0, object0⟩
  else if tkN 1 a = 2 ∨ tkN 1 a = 4 then ⟨tkN 1 a, tkN 1 (a.drop 1), tkN 1 ((a.drop 1).drop 1), letter0, bundle0, object0⟩
  else if tkN 1 a = 3 then ⟨tkN 1 a, tkN 1 (a.drop 1), 0, letter0, (bundleR (nextP ((a.drop 1).drop 1))).getD bundle0, object0⟩
  else ⟨tkN 1 a, 0, 0, letter0, bundle0, (objectR (nextP (a.drop 1))).getD object0⟩
theorem itemT'_1 {a : List (List UInt8)} (h : tkN 1 a = 1) : itemT' a = ⟨tkN 1 a, 0, 0, (letterR (nextP (a.drop 1))).getD letter0, bundle0, object0⟩ := if_pos h
theorem itemT'_2 {a : List (List UInt8)} (h : tkN 1 a = 2 ∨ tkN 1 a = 4) : itemT' a = ⟨tkN 1 a, tkN 1 (a.drop 1), tkN 1 ((a.drop 1).drop 1), letter0, bundle0, object0⟩ := by
 unfold itemT'; rw [if_neg (by omega), if_pos h]
theorem itemT'_3 {a : List (List UInt8)} (h : tkN 1 a = 3) : itemT' a = ⟨tkN 1 a, tkN 1 (a.drop 1), 0, letter0, (bundleR (nextP ((a.drop 1).drop 1))).getD bundle0, object0⟩ := by
 unfold itemT'; rw [if_neg (by omega), if_neg (by omega), if_pos h]
theorem itemT'_5 {a : List (List UInt8)} (h : tkN 1 a = 5 ∨ tkN 1 a = 6) : itemT' a = ⟨tkN 1 a, 0, 0, letter0, bundle0, (objectR (nextP (a.drop 1))).getD object0⟩ := by
 unfold itemT'; rw [if_neg (by omega), if_neg (by omega), if_neg (by omega)]
theorem itemT'_ok (a : List (List UInt8)) : (itemT' a).ok := by
 have z : (0 : Nat) < 256 := by decide
 have k1 : tkN 1 a < 256 := tkN_lt 1 a
 have k2 : tkN 1 (a.drop 1) < 256 := tkN_lt 1 _
 have k3 : tkN 1 ((a.drop 1).drop 1) < 256 := tkN_lt 1 _
 unfold itemT'
 split
 ·exact ⟨k1, z, z, letterR_ok _, bundle0_ok, object0_ok⟩
 ·split
  ·exact ⟨k1, k2, k3, letter0_ok, bundle0_ok, object0_ok⟩
  ·split
   ·exact ⟨k1, k2, z, letter0_ok, bundleR_ok _, object0_ok⟩
   ·exact ⟨k1, z, z, letter0_ok, bundle0_ok, objectR_ok _⟩
theorem itemO_P {y : Itm} (h : y.ok) {l : List UInt8} (e : itemO y = some l) : openP l ≠ [] ∧ itemT' (openP l) = y := by
 obtain ⟨h1, hg, rfl⟩ := joinO_eq e
 rw [open_join h1]
 obtain ⟨k, a, p, x, b, o⟩ := y
 have hk := h.kind; have ha := h.asker; have hp := h.peer
 simp only at hk ha hp
 unfold itemGood at hg
 simp only at hg
 by_cases c1 : k = 1
 ·subst c1
  rw [if_pos rfl] at hg
  simp only [Bool.and_eq_true, decide_eq_true_eq] at hg
  obtain ⟨hs, rfl, rfl, rfl, rfl⟩ := hg
  obtain ⟨t, ht⟩ := Option.isSome_iff_exists.1 hs
  have e1 : itemP ⟨1, 0, 0, x, bundle0, object0⟩ = [be 1 1, t] := by unfold itemP; rw [if_pos rfl, ht]; rfl
  rw [e1]
  have ek : tkN 1 [be 1 1, t] = 1 := tkN_be (by decide) (by decide)
  refine ⟨by simp, ?_⟩
  rw [itemT'_1 ek, ek, show nextP (List.drop 1 [be 1 1, t]) = t from rfl, letterR_iff.2 ⟨h.letter, ht⟩]; rfl
 ·rw [if_neg c1] at hg
  by_cases c2 : k = 2 ∨ k = 4
  ·rw [if_pos c2] at hg
   simp only [decide_eq_true_eq] at hg
   obtain ⟨rfl, rfl, rfl⟩ := hg
   have e1 : itemP ⟨k, a, p, letter0, bundle0, object0⟩ = [be 1 k, be 1 a, be 1 p] := by unfold itemP; rw [if_neg c1, if_pos c2]
   rw [e1]
   have ek : tkN 1 [be 1 k, be 1 a, be 1 p] = k := tkN_be (by decide) (by omega)
   refine ⟨by simp, ?_⟩
   rw [itemT'_2 (by rw [ek]; exact c2), ek]
   show Itm.mk k (tkN 1 [be 1 a, be 1 p]) (tkN 1 [be 1 p]) _ _ _ = _
   rw [tkN_be (by decide) (by omega), tkN_be (by decide) (by omega)]
  ·rw [if_neg c2] at hg
   by_cases c3 : k = 3
   ·subst c3
    rw [if_pos rfl] at hg
    simp only [decide_eq_true_eq] at hg
    obtain ⟨rfl, rfl, rfl⟩ := hg
    have e1 : itemP ⟨3, a, 0, letter0, b, object0⟩ = [be 1 3, be 1 a, bundleB b] := by unfold itemP; rw [if_neg c1, if_neg c2, if_pos rfl]
    rw [e1]
    have ek : tkN 1 [be 1 3, be 1 a, bundleB b] = 3 := tkN_be (by decide) (by decide)
    refine ⟨by simp, ?_⟩
    rw [itemT'_3 ek, ek, show nextP (List.drop 1 (List.drop 1 [be 1 3, be 1 a, bundleB b])) = bundleB b from rfl, bundleR_iff.2 ⟨h.bundle, rfl⟩]
    show Itm.mk 3 (tkN 1 [be 1 a, bundleB b]) _ _ _ _ = _
    rw [tkN_be (by decide) (by omega)]; rfl
   ·rw [if_neg c3] at hg
    by_cases c5 : k = 5 ∨ k = 6
    ·rw [if_pos c5] at hg
     simp only [Bool.and_eq_true, decide_eq_true_eq] at hg
     obtain ⟨hs, rfl, rfl, rfl, rfl⟩ := hg
     obtain ⟨t, ht⟩ := Option.isSome_iff_exists.1 hs
     have e1 : itemP ⟨k, 0, 0, letter0, bundle0, o⟩ = [be 1 k, t] := by unfold itemP; rw [if_neg c1, if_neg c2, if_neg c3, ht]; rfl
     rw [e1]
     have ek : tkN 1 [be 1 k, t] = k := tkN_be (by decide) (by omega)
     refine ⟨by simp, ?_⟩
     rw [itemT'_5 (by rw [ek]; exact c5), ek, show nextP (List.drop 1 [be 1 k, t]) = t from rfl, objectR_iff.2 ⟨h.object, ht⟩]; rfl
    ·rw [if_neg c5] at hg; cases hg
theorem item_rd (l : List UInt8) : itemR l = if itemO (itemT' (openP l)) = some l then some (itemT' (openP l)) else none :=
 readT (okp := Itm.ok) (fun _ _ => itemR_iff) (itemT'_ok (openP l)) (fun y hy e => ((itemO_P hy e).2).symm)
/-- The first piece is a byte. -/
theorem first_1 {l : List UInt8} (h : (nextP (openP l)).length = 1) : fitsP [some 1] (openP l) ∧ takeN (openP l) 1 = tkN 1 (openP l) := by
 cases hp : openP l with
 | nil => rw [hp] at h; exact absurd h (by decide)
 | cons a r =>
  rw [hp] at h
  have h : a.length = 1 := h
  refine ⟨⟨fun n e => by cases e; exact h, trivial⟩, ?_⟩
  rw [takeN_cons h]
  show num a = num (a.take 4) % 256 ^ 1
  rw [List.take_of_length_le (by omega)]
  have := num_lt a
  rw [h] at this
  rw [Nat.mod_eq_of_lt this]
theorem W1_0 {l : List UInt8} (h : (nextP (openP l)).length = 1) : ¬ ((W1 l : Nat) : Int) ≠ 0 := by
 rcases W1_cases l with ⟨_, _, _, _, e⟩ | ⟨hf, _⟩
 ·rw [e]; decide
 ·exact absurd (first_1 h).1 hf
theorem W1_1 {l : List UInt8} (h : ¬ (nextP (openP l)).length = 1) : ((W1 l : Nat) : Int) ≠ 0 ∧ W1 l = 141 := by
 rcases W1_cases l with ⟨a, r, e, ha, _⟩ | ⟨_, e⟩
 ·rw [e] at h; exact absurd ha h
 ·rw [e]; exact ⟨by decide, rfl⟩
theorem item_141 {l : List UInt8} (h : ¬ (nextP (openP l)).length = 1) : itemR l = none ∧ itemW l = 141 := by
 obtain ⟨h1, h2⟩ := W1_1 h
 obtain ⟨e1, e2⟩ := item_w0 h1
 exact ⟨e1, by rw [e2, h2]⟩
theorem item_140 {l : List UInt8} (h : (nextP (openP l)).length = 1) (h1 : tkN 1 (openP l) ≠ 1) (h2 : tkN 1 (openP l) ≠ 2) (h3 : tkN 1 (openP l) ≠ 3) (h4 : tkN 1 (openP l) ≠ 4) (h5 : tkN 1 (openP l) ≠ 5) (h6 : tkN 1 (openP l) ≠ 6) : itemR l = none ∧ itemW l = 140 := by
 obtain ⟨_, e⟩ := first_1 h
 rw [← e] at h1 h2 h3 h4 h5 h6
 exact item_none (W1_0 h) h1 h2 h3 h4 h5 h6
theorem itemW_T {l : List UInt8} (h : (nextP (openP l)).length = 1) (h1 : 1 ≤ tkN 1 (openP l)) (h2 : tkN 1 (openP l) ≤ 6) : itemW l = if (itemR l).isSome then 0 else 141 := by
 obtain ⟨_, e⟩ := first_1 h
 rw [← e] at h1 h2
 exact itemW_of h1 h2

/-! Calls -/
/-! Replies -/
end Go.Proofs.Ytcfecmoagfgnaaa

/- Replies as cells. -/
namespace Go.Proofs.Ytcfecmoagfgnaaa
open Go.Vc Go.Pl

abbrev trnV (x : Trn) (q : Option Addr) (d : Nat) : List (List Value) := [[.int .u16 x.seq], [.slice q x.items.length d]]
abbrev trnL : List Nat := [1, 1]
theorem zero132 : (Try.prog.info? 132).bind (·.zero) = some (.agg (cat (trnV trn0 none 0)).toArray) := by kernel_rfl
theorem built132 : Try.prog.built 132 [] = some (cat (trnV trn0 none 0)).toArray := by kernel_rfl
abbrev trnZ : List (List Value) := [[.int .u16 0], [.slice none 0 0]]
abbrev trnFL : List Nat := [1, 1]
theorem plan132 : planOf Try.prog 132 = some (placesL 0 trnFL, (cat trnZ).toArray) := by kernel_rfl
theorem trnV_len {x : Trn} (h : x.ok) {q : Option Addr} {d : Nat} : (trnV x q d).map List.length = trnL := by simp []
theorem trnV_ok1 (x : Trn) (q : Option Addr) (d : Nat) : ok1 (cat (trnV x q d)) := by
 intro u hu
 rw [cat_eq] at hu
 simp only [List.mem_flatten, List.mem_cons, List.not_mem_nil, or_false] at hu
 obtain ⟨l, hl, hu⟩ := hu
 rcases hl with rfl | rfl <;> first | (simp only [List.mem_singleton] at hu; subst hu; rfl) | exact ok1_bytes _ u hu
end Go.Proofs.Ytcfecmoagfgnaaa

