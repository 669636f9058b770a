/- The statement FedqRows is proved, for every input: part 21 of 21 of the texts that it needs. -/
import Derived.Test.YtcfecmoagfgnaaaMfrwAT
import Derived.Test.YtcfecmoagfgnaaaRows
/- The law on a queue's rows. -/
namespace Go.Proofs.Ytcfecmoagfgnaaa
open Go.Vc Go.Pl

theorem got_rows (nm : ByteArray) (q : Que) : gotL nm (rowsL nm q) = rowsL nm q := by
 obtain ⟨r1, r2, r3⟩ := fnd_rows nm q
 have h : ∀ a b : ByteArray, ∀ its : List Itm, (part9 a its).head?.toList = part9 a its := fun a b its => by unfold part9; split <;> rfl
 unfold gotL
 rw [r1, r2, r3, h _ nm, h _ nm]; rfl
theorem rows_cases (nm : ByteArray) {x : Que} (hx : x.ok) : ((rowsO nm x).isSome = true ∧ loadO nm ((rowsO nm x).getD []) = some x ∧ nm.size ≤ 31) ∨ ((rowsO nm x).isSome = false ∧ loadO nm ((rowsO nm x).getD []) = none ∧ ((rowsO nm x).getD []).length = 0) := by
 by_cases hg : rowsGood nm x
 ·left
  rw [rowsO_some hg]
  refine ⟨rfl, load_some hx ?_, hg.1⟩
  rw [rowsO_some hg]
  exact congrArg some (got_rows nm x).symm
 ·right
  rw [rowsO_none hg]
  refine ⟨rfl, load_none fun q _ hr => ?_, rfl⟩
  have := (rowsO_good hr).2
  have e : gotL nm [] = [] := rfl
  rw [show (none : Option (List Chg)).getD [] = [] from rfl, e] at this
  cases this
theorem load_yes {S : List Snap} {H : List Chunk} {w : World} (ho : Own S H w) {nm : ByteArray} {x : Que} (h : loadO nm ((rowsO nm x).getD []) = some x) (hs : nm.size ≤ 31) {p : Option Addr} {c : Nat} (hX : Arr 3 chgR (keys H) w p ((rowsO nm x).getD []) c) : Calls Try.prog 105 #[.string nm, .slice p ((rowsO nm x).getD []).length c] w (Ret fun v w' => ∃ q d, v = .tuple #[.agg (cat (queV x q d)).toArray, .bool true] ∧ Own S H w' ∧ Arr 433 itemR' (keys H) w' q x.items d) := by
 have := load_w ho hX (nm := nm) (.inr (by omega))
 rw [h] at this
 exact this
theorem load_no {S : List Snap} {H : List Chunk} {w : World} (ho : Own S H w) {nm : ByteArray} {x : Que} (h : loadO nm ((rowsO nm x).getD []) = none) (hs : ((rowsO nm x).getD []).length = 0) {p : Option Addr} {c : Nat} (hX : Arr 3 chgR (keys H) w p ((rowsO nm x).getD []) c) : Calls Try.prog 105 #[.string nm, .slice p ((rowsO nm x).getD []).length c] w (Ret fun v w' => ∃ q d, v = .tuple #[.agg (cat (queV que0 q d)).toArray, .bool false] ∧ Own S H w' ∧ Arr 433 itemR' (keys H) w' q que0.items d) := by
 have := load_w ho hX (nm := nm) (.inl hs)
 rw [h] at this
 exact this
theorem same_T {S : List Snap} {H : List Chunk} {w : World} (ho : Own S H w) {xs : List Chg} {p q : Option Addr} {c d : Nat} (hX : Arr 3 chgR (keys H) w p xs c) (hY : Arr 3 chgR (keys H) w q xs d) : Calls Try.prog 104 #[.slice p xs.length c, .slice q xs.length d] w (Ret fun v w' => v = .bool true ∧ Own S H w') :=
 calls_mono (refSame_w ho hX hY) fun v w' ⟨b, e, h1, h2⟩ => ⟨by rw [e, h1.2 rfl], h2⟩

theorem fedqRows_w {S : List Snap} {H : List Chunk} {w : World} (ho : Own S H w) {nm : ByteArray} {x : Que} (hx : x.ok) {q : Option Addr} {d : Nat} (hV : Arr 433 itemR' (keys H) w q x.items d) : Calls Try.prog 22 #[.string nm, .agg (cat (queV x q d)).toArray] w (Ret fun v w' => v = .bool true ∧ Own S H w') := by
 have hsm := hV.small
 refine enter (G := Own (⟨w, keys H⟩ :: S) H) ho.keep Try.func22 rfl Try.ntmps22 rfl ?_
 refine VC.sr ?_
 refine VL.box (L := queL) (ps := (queV (x) q d)) rfl rfl (queV_len hx) (fun g1 => ?_)
 refine VL.assign rfl ?_
 refine VL.nn ?_
 refine VC.seq ?_
 refine VC.sr ?_
 refine VL.call Try.func73 rfl (by decide) rfl (fun w' hw => alive21_w hw) (fun v => ?_)
 refine VL.fact fun e2 => ?_
 subst e2
 refine VL.not rfl ?_
 refine VL.nn ?_
 refine VC.no rfl ?_
 refine VC.skip ?_
 refine VX.next ?_
 refine VC.seq ?_
 refine VC.sr ?_
 refine VL.fieldAddr rfl fo157_0 rfl ?_
 refine VL.load (v := .slice q (x.items).length d) 0 0 rfl kd126 (fun _ h => h) rfl rfl rfl ?_
 refine VL.len Try.underlying126 rfl rfl ?_
 refine VL.gtr rfl rfl ?_
 refine VL.case (fun h3 => ?_) (fun h3 => ?_)
 ·refine VL.nn ?_
  refine VC.yes rfl ?_
  refine VC.sr ?_
  refine VL.assign rfl ?_
  refine VL.nn ?_
  refine VC.ret ?_
  refine VX.then_ret ?_
  refine VX.ret1 rfl rfl (fun we hw => ?_)
  exact ⟨rfl, hw.drop.subA⟩
 ·refine VL.nn ?_
  refine VC.no rfl ?_
  refine VC.skip ?_
  refine VX.next ?_
  refine VC.seq ?_
  rcases rows_cases nm hx with ⟨h1, hl, hz⟩ | ⟨h1, hl, hz⟩
  ·refine VC.region ?_
   refine VL.move rfl ?_
   refine VL.loads (cs := cat (queV (x) q d)) 0 0 5 rfl kd157 (fun _ h => h) rfl rfl rfl rfl ?_
   refine VL.call Try.func102 rfl (by decide) rfl (fun w' hw => rows_w hw hx (hV.nowA (s := ⟨w, _⟩) Mono_item hw) nm) (fun v => ?_)
   refine VL.at (fun w3 h1w => ?_)
   obtain ⟨p4, c5, rfl, hO7, hA6⟩ := h1w
   refine VL.toOwn hO7 ?_
   refine VL.move rfl ?_
   refine VL.extract rfl rfl ?_
   refine VL.extract rfl rfl ?_
   refine VL.assign rfl ?_
   refine VL.assign rfl ?_
   refine VL.nn ?_
   refine VC.sr ?_
   refine VL.move rfl ?_
   refine VL.loads (cs := cat (queV (x) q d)) 0 0 5 rfl kd157 (fun _ h => h) rfl rfl rfl rfl ?_
   refine VL.call Try.func103 rfl (by decide) rfl (fun w' hw => refRows_w hw hx (hV.nowA (s := ⟨w, _⟩) Mono_item hw) nm) (fun v => ?_)
   refine VL.at (fun w8 h1w => ?_)
   obtain ⟨p9, c10, rfl, hO12, hA11⟩ := h1w
   refine VL.toOwn hO12 ?_
   refine VL.move rfl ?_
   refine VL.extract rfl rfl ?_
   refine VL.extract rfl rfl ?_
   refine VL.assign rfl ?_
   refine VL.assign rfl ?_
   refine VL.nn ?_
   refine VC.seq ?_
   refine VC.sr ?_
   refine VL.move rfl ?_
   refine VL.move rfl ?_
   refine VL.neb Try.underlying4 rfl rfl ?_
   refine VL.sets (show _ = false by simp) ?_
   refine VL.move rfl ?_
   refine VL.go rfl rfl rfl ?_
   refine VL.move rfl ?_
   refine VL.go rfl rfl rfl ?_
   refine VL.move rfl ?_
   refine VL.go rfl rfl rfl ?_
   refine VL.call Try.func104 rfl (by decide) rfl (fun w' hw => same_T hw (hA6.nowA (s := ⟨w3, _⟩) Mono_chg hw) (hA11.nowA (s := ⟨w8, _⟩) Mono_chg hw)) (fun v => ?_)
   refine VL.fact fun e13 => ?_
   subst e13
   refine VL.go rfl rfl rfl ?_
   refine VL.not rfl ?_
   refine VL.pick_f rfl rfl ?_
   refine VL.nn ?_
   refine VC.no rfl ?_
   refine VC.skip ?_
   refine VX.next ?_
   refine VC.sr ?_
   refine VL.move rfl ?_
   refine VL.move rfl ?_
   refine VL.call Try.func105 rfl (by decide) rfl (fun w' hw => load_yes hw hl hz (hA6.nowA (s := ⟨w3, _⟩) Mono_chg hw)) (fun v => ?_)
   refine VL.at (fun w14 h1w => ?_)
   obtain ⟨p15, c16, rfl, hO18, hA17⟩ := h1w
   refine VL.toOwn hO18 ?_
   refine VL.move rfl ?_
   refine VL.extract rfl rfl ?_
   refine VL.extract rfl rfl ?_
   refine VL.alloc (L := queL) (ps := (queV (que0) none 0)) zero157 rfl rfl (fun g19 => ?_)
   refine VL.store (L := queL) (qs := (queV (x) p15 c16)) (ps' := (queV (x) p15 c16)) 0 0 5 rfl rfl rfl (.inl kd157) rfl rfl (queV_len hx) (queV_ok1 x p15 c16) rfl rfl ?_
   refine VL.set0 ?_
   refine VL.assign rfl ?_
   refine VL.nn ?_
   refine VC.sr ?_
   refine VL.move rfl ?_
   refine VL.move rfl ?_
   refine VL.eqb Try.underlying4 rfl rfl ?_
   refine VL.sets (show _ = true by rw [h1]; rfl) ?_
   refine VL.move rfl ?_
   refine VL.go rfl rfl rfl ?_
   refine VL.move rfl ?_
   refine VL.sets h1 ?_
   refine VL.go rfl rfl rfl ?_
   refine VL.not rfl ?_
   refine VL.go rfl rfl rfl ?_
   refine VL.move rfl ?_
   refine VL.go rfl rfl rfl ?_
   refine VL.loads (cs := cat (queV (x) p15 c16)) 0 0 5 rfl kd157 (fun _ h => h) rfl rfl rfl rfl ?_
   refine VL.go rfl rfl rfl ?_
   refine VL.loads (cs := cat (queV (x) q d)) 1 0 5 rfl kd157 (fun _ h => h) rfl rfl rfl rfl ?_
   refine VL.go rfl rfl rfl ?_
   refine VL.call Try.func106 rfl (by decide) rfl (fun w' hw => sameQue_w hw hx (hA17.nowA (s := ⟨w14, _⟩) Mono_item hw) (hV.nowA (s := ⟨w, _⟩) Mono_item hw)) (fun v => ?_)
   refine VL.fact fun e20 => ?_
   subst e20
   refine VL.go rfl rfl rfl ?_
   refine VL.pick_f rfl rfl ?_
   refine VL.pick_t rfl rfl ?_
   refine VL.assign rfl ?_
   refine VL.nn ?_
   refine VC.ret ?_
   refine VX.ret1 rfl rfl (fun we hw => ?_)
   exact ⟨rfl, hw.drop.drop.subA⟩
  ·refine VC.region ?_
   refine VL.move rfl ?_
   refine VL.loads (cs := cat (queV (x) q d)) 0 0 5 rfl kd157 (fun _ h => h) rfl rfl rfl rfl ?_
   refine VL.call Try.func102 rfl (by decide) rfl (fun w' hw => rows_w hw hx (hV.nowA (s := ⟨w, _⟩) Mono_item hw) nm) (fun v => ?_)
   refine VL.at (fun w21 h1w => ?_)
   obtain ⟨p22, c23, rfl, hO25, hA24⟩ := h1w
   refine VL.toOwn hO25 ?_
   refine VL.move rfl ?_
   refine VL.extract rfl rfl ?_
   refine VL.extract rfl rfl ?_
   refine VL.assign rfl ?_
   refine VL.assign rfl ?_
   refine VL.nn ?_
   refine VC.sr ?_
   refine VL.move rfl ?_
   refine VL.loads (cs := cat (queV (x) q d)) 0 0 5 rfl kd157 (fun _ h => h) rfl rfl rfl rfl ?_
   refine VL.call Try.func103 rfl (by decide) rfl (fun w' hw => refRows_w hw hx (hV.nowA (s := ⟨w, _⟩) Mono_item hw) nm) (fun v => ?_)
   refine VL.at (fun w26 h1w => ?_)
   obtain ⟨p27, c28, rfl, hO30, hA29⟩ := h1w
   refine VL.toOwn hO30 ?_
   refine VL.move rfl ?_
   refine VL.extract rfl rfl ?_
   refine VL.extract rfl rfl ?_
   refine VL.assign rfl ?_
   refine VL.assign rfl ?_
   refine VL.nn ?_
   refine VC.seq ?_
   refine VC.sr ?_
   refine VL.move rfl ?_
   refine VL.move rfl ?_
   refine VL.neb Try.underlying4 rfl rfl ?_
   refine VL.sets (show _ = false by simp) ?_
   refine VL.move rfl ?_
   refine VL.go rfl rfl rfl ?_
   refine VL.move rfl ?_
   refine VL.go rfl rfl rfl ?_
   refine VL.move rfl ?_
   refine VL.go rfl rfl rfl ?_
   refine VL.call Try.func104 rfl (by decide) rfl (fun w' hw => same_T hw (hA24.nowA (s := ⟨w21, _⟩) Mono_chg hw) (hA29.nowA (s := ⟨w26, _⟩) Mono_chg hw)) (fun v => ?_)
   refine VL.fact fun e31 => ?_
   subst e31
   refine VL.go rfl rfl rfl ?_
   refine VL.not rfl ?_
   refine VL.pick_f rfl rfl ?_
   refine VL.nn ?_
   refine VC.no rfl ?_
   refine VC.skip ?_
   refine VX.next ?_
   refine VC.sr ?_
   refine VL.move rfl ?_
   refine VL.move rfl ?_
   refine VL.call Try.func105 rfl (by decide) rfl (fun w' hw => load_no hw hl hz (hA24.nowA (s := ⟨w21, _⟩) Mono_chg hw)) (fun v => ?_)
   refine VL.at (fun w32 h1w => ?_)
   obtain ⟨p33, c34, rfl, hO36, hA35⟩ := h1w
   refine VL.toOwn hO36 ?_
   refine VL.move rfl ?_
   refine VL.extract rfl rfl ?_
   refine VL.extract rfl rfl ?_
   refine VL.alloc (L := queL) (ps := (queV (que0) none 0)) zero157 rfl rfl (fun g37 => ?_)
   refine VL.store (L := queL) (qs := (queV (que0) p33 c34)) (ps' := (queV (que0) p33 c34)) 0 0 5 rfl rfl rfl (.inl kd157) rfl rfl rfl (queV_ok1 que0 p33 c34) rfl rfl ?_
   refine VL.set0 ?_
   refine VL.assign rfl ?_
   refine VL.nn ?_
   refine VC.sr ?_
   refine VL.move rfl ?_
   refine VL.move rfl ?_
   refine VL.eqb Try.underlying4 rfl rfl ?_
   refine VL.sets (show _ = true by rw [h1]; rfl) ?_
   refine VL.move rfl ?_
   refine VL.go rfl rfl rfl ?_
   refine VL.move rfl ?_
   refine VL.sets h1 ?_
   refine VL.go rfl rfl rfl ?_
   refine VL.not rfl ?_
   refine VL.go rfl rfl rfl ?_
   refine VL.move rfl ?_
   refine VL.pass rfl rfl rfl rfl rfl ?_
   refine VL.pass rfl rfl rfl rfl rfl ?_
   refine VL.pass rfl rfl rfl rfl rfl ?_
   refine VL.go rfl rfl rfl ?_
   refine VL.pick_t rfl rfl ?_
   refine VL.pick_t rfl rfl ?_
   refine VL.assign rfl ?_
   refine VL.nn ?_
   refine VC.ret ?_
   refine VX.ret1 rfl rfl (fun we hw => ?_)
   exact ⟨rfl, hw.drop.drop.subA⟩

end Go.Proofs.Ytcfecmoagfgnaaa

/- Rows and queues as arguments, opened. -/
namespace Go.Proofs.Ytcfecmoagfgnaaa
open Go.Vc Go.Pl

open Go.ChangeShapes Go.WideShapes Go.ChangeAt Go.RowKit
section
variable {Hh : Type} {enc : TypeId × Value → Hh} {W : World}
def intV' : Rel Int := fun _ _ vs n => vs = [.int .i64 n]
theorem openInt' {P : Program} {t : TypeId} (ht : P.underlying t = some (.int .i64)) : Opens enc P W t intV' := by
 intro fuel cs x h
 cases fuel with
 | zero => simp [DataW.trod] at h
 | succ n =>
  unfold DataW.trod at h
  rw [ht] at h
  split at h <;> simp_all
  rename_i k0 k n' heq
  subst heq
  obtain ⟨⟨rfl, _⟩, _⟩ := h
  exact ⟨n', rfl⟩
theorem strValue {P : Program} {t : TypeId} {r : Reach} {base : Nat} {v : Value} {d : DataW Hh} {ps : List MemPlace} (ht : P.underlying t = some .string) (hval : Value.okWide P W r base t v) (hd : DataW.Trod enc P W 0 (fun _ => true) true t v d ps) : ∃ s : ByteArray, v = .string s := by
 unfold Value.okWide Cell.okWide Cell.ok at hval
 rw [ht] at hval
 cases v <;> simp at hval ⊢
def queR : Rel Que := fun K w vs x => ∃ q d, x.ok ∧ vs = cat (queV x q d) ∧ Arr 433 itemR' K w q x.items d
theorem open157 : Opens enc Try.prog W 157 queR := by
 intro fuel cs x h
 obtain ⟨hl, m, hz0, hz1, hz2, hz3, hz4, _⟩ := openFields [(126, 0, 1), (3, 1, 1), (68, 2, 1), (5, 3, 1), (5, 4, 1)] Try.underlying157 (by kernel_rfl) h
 rw [show Try.prog.cellsOf 157 = 5 by kernel_rfl] at hl
 obtain ⟨z0, hz0⟩ := hz0
 obtain ⟨y0, p0, c0, hy0, hA0⟩ := (Opens.slice (sz := 433) Try.underlying126 (by kernel_rfl) (by decide) open87) _ _ _ hz0
 obtain ⟨z1, hz1⟩ := hz1
 obtain ⟨y1, hy1⟩ := (openInt' Try.underlying3) _ _ _ hz1
 obtain ⟨z2, hz2⟩ := hz2
 obtain ⟨y2, ho2, hy2⟩ := (openU16 Try.underlying68) _ _ _ hz2
 obtain ⟨z3, hz3⟩ := hz3
 obtain ⟨y3, ho3, hy3⟩ := (openU8 Try.underlying5) _ _ _ hz3
 obtain ⟨z4, hz4⟩ := hz4
 obtain ⟨y4, ho4, hy4⟩ := (openU8 Try.underlying5) _ _ _ hz4
 have hbs : ∀ b ∈ y0, b.ok := fun b hb => by
  obtain ⟨i, hi⟩ := List.mem_iff_getElem?.1 hb
  obtain ⟨vs, a, _, _, h1, _⟩ := hA0.cell hi
  obtain ⟨_, _, _, _, h2, _⟩ := h1
  exact h2
 refine ⟨⟨y0, y1, y2, y3, y4⟩, p0, c0, ⟨hbs, ho2, ho3, ho4⟩, ?_, hA0⟩
 have e0 : cs = cs.drop 0 := rfl
 have f0 := cutCells 0 1 hy0
 have f1 := cutCells 1 1 hy1
 have f2 := cutCells 2 1 hy2
 have f3 := cutCells 3 1 hy3
 have f4 := cutCells 4 1 hy4
 have fe : cs.drop 5 = [] := List.drop_eq_nil_of_le (by omega)
 rw [e0, f0, f1, f2, f3, f4, fe]
 simp only [cat, List.append_assoc, List.append_nil, List.nil_append]
end
end Go.Proofs.Ytcfecmoagfgnaaa

/- The dump's head, taken apart once: its kernel's run is long. -/
set_option maxRecDepth 100000
namespace Go.Proofs.Ytcfecmoagfgnaaa
open Go

def signs : List Char := [104, 97, 114, 110, 101, 115, 115, 32, 102, 100, 52, 102, 57, 98, 57, 102, 49, 55, 56, 57, 57, 51, 101, 97, 57, 99, 99, 102, 101, 98, 51, 98, 102, 53, 98, 50, 100, 102, 54, 99, 50, 101, 100, 98, 49, 51, 57, 102, 51, 101, 52, 102, 100, 56, 51, 97, 49, 50, 97, 97, 48, 99, 53, 98, 50, 54, 97, 51, 52, 53, 48, 48, 32, 99, 117, 116, 32, 97, 116, 32, 109, 105, 115, 115, 105, 118, 101, 47, 109, 105, 115, 115, 105, 118, 101, 108, 97, 119, 48, 50, 46, 79, 99, 116, 101, 116, 78, 117, 109, 98, 101, 114, 115, 32, 109, 105, 115, 115, 105, 118, 101, 47, 109, 105, 115, 115, 105, 118, 101, 108, 97, 119, 48, 50, 46, 79, 99, 116, 101, 116, 74, 111, 105, 110, 115, 32, 109, 105, 115, 115, 105, 118, 101, 47, 109, 105, 115, 115, 105, 118, 101, 108, 97, 119, 48, 50, 46, 79, 99, 116, 101, 116, 83, 112, 108, 105, 116, 115, 32, 109, 105, 115, 115, 105, 118, 101, 47, 109, 105, 115, 115, 105, 118, 101, 108, 97, 119, 48, 50, 46, 79, 99, 116, 101, 116, 67, 117, 116, 32, 109, 105, 115, 115, 105, 118, 101, 47, 109, 105, 115, 115, 105, 118, 101, 108, 97, 119, 48, 50, 46, 79, 99, 116, 101, 116, 79, 119, 110, 32, 109, 105, 115, 115, 105, 118, 101, 47, 109, 105, 115, 115, 105, 118, 101, 108, 97, 119, 48, 50, 46, 79, 99, 116, 101, 116, 66, 121, 116, 101, 115, 32, 109, 105, 115, 115, 105, 118, 101, 47, 109, 105, 115, 115, 105, 118, 101, 108, 97, 119, 50, 52, 46, 66, 97, 103, 82, 105, 112, 101, 32, 109, 105, 115, 115, 105, 118, 101, 47, 109, 105, 115, 115, 105, 118, 101, 108, 97, 119, 50, 52, 46, 66, 97, 103, 80, 108, 97, 121, 115, 32, 109, 105, 115, 115, 105, 118, 101, 47, 109, 105, 115, 115, 105, 118, 101, 108, 97, 119, 50, 52, 46, 66, 97, 103, 79, 119, 110, 32, 109, 105, 115, 115, 105, 118, 101, 47, 109, 105, 115, 115, 105, 118, 101, 108, 97, 119, 49, 52, 46, 87, 105, 114, 101, 76, 101, 116, 116, 101, 114, 115, 32, 109, 105, 115, 115, 105, 118, 101, 47, 109, 105, 115, 115, 105, 118, 101, 108, 97, 119, 49, 52, 46, 87, 105, 114, 101, 73, 116, 101, 109, 115, 32, 109, 105, 115, 115, 105, 118, 101, 47, 109, 105, 115, 115, 105, 118, 101, 108, 97, 119, 49, 52, 46, 87, 105, 114, 101, 66, 117, 110, 100, 108, 101, 115, 32, 109, 105, 115, 115, 105, 118, 101, 47, 109, 105, 115, 115, 105, 118, 101, 108, 97, 119, 49, 52, 46, 87, 105, 114, 101, 79, 98, 106, 101, 99, 116, 115, 32, 109, 105, 115, 115, 105, 118, 101, 47, 109, 105, 115, 115, 105, 118, 101, 108, 97, 119, 50, 49, 46, 70, 101, 100, 113, 84, 97, 107, 101, 115, 32, 109, 105, 115, 115, 105, 118, 101, 47, 109, 105, 115, 115, 105, 118, 101, 108, 97, 119, 49, 52, 46, 87, 105, 114, 101, 67, 97, 108, 108, 115, 32, 109, 105, 115, 115, 105, 118, 101, 47, 109, 105, 115, 115, 105, 118, 101, 108, 97, 119, 49, 52, 46, 87, 105, 114, 101, 84, 117, 114, 110, 101, 100, 32, 109, 105, 115, 115, 105, 118, 101, 47, 109, 105, 115, 115, 105, 118, 101, 108, 97, 119, 49, 52, 46, 87, 105, 114, 101, 82, 101, 112, 108, 105, 101, 115, 32, 109, 105, 115, 115, 105, 118, 101, 47, 109, 105, 115, 115, 105, 118, 101, 108, 97, 119, 49, 52, 46, 87, 105, 114, 101, 80, 97, 99, 107, 101, 116, 115, 32, 109, 105, 115, 115, 105, 118, 101, 47, 109, 105, 115, 115, 105, 118, 101, 108, 97, 119, 49, 52, 46, 87, 105, 114, 101, 82, 101, 97, 100, 115, 32, 109, 105, 115, 115, 105, 118, 101, 47, 109, 105, 115, 115, 105, 118, 101, 108, 97, 119, 50, 49, 46, 70, 101, 100, 113, 82, 111, 119, 115, 32, 109, 105, 115, 115, 105, 118, 101, 47, 109, 105, 115, 115, 105, 118, 101, 108, 97, 119, 50, 49, 46, 70, 101, 100, 113, 76, 111, 97, 100, 115].map Char.ofNat
def words : List (List Char) := [[104, 97, 114, 110, 101, 115, 115], [102, 100, 52, 102, 57, 98, 57, 102, 49, 55, 56, 57, 57, 51, 101, 97, 57, 99, 99, 102, 101, 98, 51, 98, 102, 53, 98, 50, 100, 102, 54, 99, 50, 101, 100, 98, 49, 51, 57, 102, 51, 101, 52, 102, 100, 56, 51, 97, 49, 50, 97, 97, 48, 99, 53, 98, 50, 54, 97, 51, 52, 53, 48, 48], [99, 117, 116], [97, 116], [109, 105, 115, 115, 105, 118, 101, 47, 109, 105, 115, 115, 105, 118, 101, 108, 97, 119, 48, 50, 46, 79, 99, 116, 101, 116, 78, 117, 109, 98, 101, 114, 115], [109, 105, 115, 115, 105, 118, 101, 47, 109, 105, 115, 115, 105, 118, 101, 108, 97, 119, 48, 50, 46, 79, 99, 116, 101, 116, 74, 111, 105, 110, 115], [109, 105, 115, 115, 105, 118, 101, 47, 109, 105, 115, 115, 105, 118, 101, 108, 97, 119, 48, 50, 46, 79, 99, 116, 101, 116, 83, 112, 108, 105, 116, 115], [109, 105, 115, 115, 105, 118, 101, 47, 109, 105, 115, 115, 105, 118, 101, 108, 97, 119, 48, 50, 46, 79, 99, 116, 101, 116, 67, 117, 116], [109, 105, 115, 115, 105, 118, 101, 47, 109, 105, 115, 115, 105, 118, 101, 108, 97, 119, 48, 50, 46, 79, 99, 116, 101, 116, 79, 119, 110], [109, 105, 115, 115, 105, 118, 101, 47, 109, 105, 115, 115, 105, 118, 101, 108, 97, 119, 48, 50, 46, 79, 99, 116, 101, 116, 66, 121, 116, 101, 115], [109, 105, 115, 115, 105, 118, 101, 47, 109, 105, 115, 115, 105, 118, 101, 108, 97, 119, 50, 52, 46, 66, 97, 103, 82, 105, 112, 101], [109, 105, 115, 115, 105, 118, 101, 47, 109, 105, 115, 115, 105, 118, 101, 108, 97, 119, 50, 52, 46, 66, 97, 103, 80, 108, 97, 121, 115], [109, 105, 115, 115, 105, 118, 101, 47, 109, 105, 115, 115, 105, 118, 101, 108, 97, 119, 50, 52, 46, 66, 97, 103, 79, 119, 110], [109, 105, 115, 115, 105, 118, 101, 47, 109, 105, 115, 115, 105, 118, 101, 108, 97, 119, 49, 52, 46, 87, 105, 114, 101, 76, 101, 116, 116, 101, 114, 115], [109, 105, 115, 115, 105, 118, 101, 47, 109, 105, 115, 115, 105, 118, 101, 108, 97, 119, 49, 52, 46, 87, 105, 114, 101, 73, 116, 101, 109, 115], [109, 105, 115, 115, 105, 118, 101, 47, 109, 105, 115, 115, 105, 118, 101, 108, 97, 119, 49, 52, 46, 87, 105, 114, 101, 66, 117, 110, 100, 108, 101, 115], [109, 105, 115, 115, 105, 118, 101, 47, 109, 105, 115, 115, 105, 118, 101, 108, 97, 119, 49, 52, 46, 87, 105, 114, 101, 79, 98, 106, 101, 99, 116, 115], [109, 105, 115, 115, 105, 118, 101, 47, 109, 105, 115, 115, 105, 118, 101, 108, 97, 119, 50, 49, 46, 70, 101, 100, 113, 84, 97, 107, 101, 115], [109, 105, 115, 115, 105, 118, 101, 47, 109, 105, 115, 115, 105, 118, 101, 108, 97, 119, 49, 52, 46, 87, 105, 114, 101, 67, 97, 108, 108, 115], [109, 105, 115, 115, 105, 118, 101, 47, 109, 105, 115, 115, 105, 118, 101, 108, 97, 119, 49, 52, 46, 87, 105, 114, 101, 84, 117, 114, 110, 101, 100], [109, 105, 115, 115, 105, 118, 101, 47, 109, 105, 115, 115, 105, 118, 101, 108, 97, 119, 49, 52, 46, 87, 105, 114, 101, 82, 101, 112, 108, 105, 101, 115], [109, 105, 115, 115, 105, 118, 101, 47, 109, 105, 115, 115, 105, 118, 101, 108, 97, 119, 49, 52, 46, 87, 105, 114, 101, 80, 97, 99, 107, 101, 116, 115], [109, 105, 115, 115, 105, 118, 101, 47, 109, 105, 115, 115, 105, 118, 101, 108, 97, 119, 49, 52, 46, 87, 105, 114, 101, 82, 101, 97, 100, 115], [109, 105, 115, 115, 105, 118, 101, 47, 109, 105, 115, 115, 105, 118, 101, 108, 97, 119, 50, 49, 46, 70, 101, 100, 113, 82, 111, 119, 115], [109, 105, 115, 115, 105, 118, 101, 47, 109, 105, 115, 115, 105, 118, 101, 108, 97, 119, 50, 49, 46, 70, 101, 100, 113, 76, 111, 97, 100, 115]].map (List.map Char.ofNat)
theorem signs_is : Try.prog.initOrder.toList = signs := String.toList_ofList (l := signs)
theorem words_is : wordsSigns Try.prog.initOrder.toList = words := by rw [signs_is]; kernel_rfl
theorem mayEnter_is : Try.prog.mayEnter = true := by unfold Program.mayEnter; rw [words_is]; kernel_rfl
theorem headLifts_is : Try.prog.headLifts = [] := by unfold Program.headLifts; rw [words_is]; kernel_rfl
theorem liftsFinal_is : Try.prog.liftsFinal = Rows.octetJoinsRow.lifted := by unfold Program.liftsFinal; rw [words_is, headLifts_is]; kernel_rfl
theorem make_is : Try.prog.make = some Rows.octetJoinsRow.make := by unfold Program.make; rw [words_is, headLifts_is]; kernel_rfl
end Go.Proofs.Ytcfecmoagfgnaaa

/- The statement FedqRows. -/
set_option maxRecDepth 100000
namespace Go.Proofs.Ytcfecmoagfgnaaa.fedqRows
open Go.ChangeShapes Go.WideShapes Go.ChangeAt Go.RowKit Go.Vc Go.Pl

theorem own : ownKnob Try.prog.godebug = none := by kernel_rfl

theorem lifted (os : Os) (started : os.Started) (H : Type) (enc : TypeId × Value → H) :
  ReturnsInHanded {} Try.checked os 22 .any (Rows.fedqRowsSpec.pre6 enc Try.prog Try.f22 Rows.fedqRowsRow.domain false) (Rows.fedqRowsSpec.post enc Try.prog Try.f22 false true false false) := by
 refine law_of (C := Try.checked) (tb := 4) started own (by kernel_rfl) Try.func22
  (ChangeSpec.witness6 (enc := enc) (C := Try.checked) false ⟨#[], #[.string ByteArray.empty, .agg (cat (queV que0 none 0)).toArray], []⟩ 8 (by kernel_rfl) (by kernel_rfl) (by kernel_rfl) (by kernel_rfl)) rfl (by kernel_rfl) Try.underlying4 (by kernel_rfl) (by kernel_rfl) ?_
 intro W base args ds ps hval0 hAA hsz
 have hval : ∀ (j : Nat) t v, Try.f22.params[j]? = some t → args[j]? = some v → Value.okWide Try.prog W .any base t v := hval0
 have hA : DataW.TrodAll enc Try.prog W 0 (fun _ => true) true Try.f22.params.toList args.toList ds ps := hAA
 rw [Try.params22] at hA hval
 obtain ⟨v0, vs0, d0, ds0, p0, q0, hargs, rfl, rfl, h0, r0⟩ := trodAll_cons hA
 obtain ⟨v1, vs1, d1, ds1, p1, q1, rfl, rfl, rfl, h1, r1⟩ := trodAll_cons r0
 obtain ⟨rfl, rfl, rfl⟩ := trodAll_nil r1
 obtain rfl : args = #[v0, v1] := by cases args; simp_all
 obtain ⟨s0, rfl⟩ := strValue Try.underlying9 (hval 0 9 v0 rfl rfl) h0
 obtain ⟨cs1, x1, rfl, q1, d1, hx1, rfl, hV1⟩ := Opens.struct Try.underlying157 open157 (hval 1 157 v1 rfl rfl) h1
 exact ⟨rfl, fedqRows_w (Own.start W) hx1 hV1⟩

theorem closed : joinedFacts Try.prog 22 Try.f22 Rows.fedqRowsSpec Rows.fedqRowsRow = true := by
 unfold joinedFacts
 rw [mayEnter_is, liftsFinal_is, make_is]
 kernel_rfl

theorem over : Rows.fedqRowsRow.holds Try.pinned (OpenSpec.ofChange Rows.fedqRowsSpec) :=
 OpenClaim.holds_of_wide 22 Try.f22 rfl rfl rfl rfl rfl rfl rfl ⟨rfl, rfl, rfl, rfl, rfl⟩ rfl rfl rfl rfl rfl (by kernel_rfl) Try.func22 closed
  (of_decide_eq_true (by kernel_rfl)) (by unfold Func.isWrapper; first | (rw [if_pos (by decide +kernel)]; kernel_rfl) | (rw [if_neg (by decide +kernel)]; exact ⟨rfl, rfl⟩))
  (fun os started H enc _ => lifted os started H enc)

/-- The statement. -/
theorem proved : Rows.FedqRowsSaid :=
 over
end Go.Proofs.Ytcfecmoagfgnaaa.fedqRows

