/- The statement FedqLoads is proved, for every input: part 17 of 26 of the texts that it needs. -/
import Derived.Test.YtcfecmoagfgnaaaMfloAP
/- Rows: one against another, found by a name. -/
namespace Go.Proofs.Ytcfecmoagfgnaaa
open Go.Vc Go.Pl

theorem chg_cases (x y : Chg) : ¬ x.name = y.name ∨ (x.name = y.name ∧ ¬ x.gone = y.gone) ∨ (x.name = y.name ∧ x.gone = y.gone ∧ ¬ x.value = y.value) ∨ x = y := by
 by_cases h1 : x.name = y.name
 ·by_cases h2 : x.gone = y.gone
  ·by_cases h3 : x.value = y.value
   ·right; right; right
    cases x; cases y; simp_all
   ·exact .inr (.inr (.inl ⟨h1, h2, h3⟩))
  ·exact .inr (.inl ⟨h1, h2⟩)
 ·exact .inl h1
theorem str_inj {a b : List UInt8} (h : (⟨a.toArray⟩ : ByteArray) = ⟨b.toArray⟩) : a = b := by
 have := congrArg (fun z : ByteArray => z.data.toList) h
 simpa using this

theorem sameRow_w {S : List Snap} {H : List Chunk} {w : World} (ho : Own S H w) {x : Chg} {p : Option Addr} {c : Nat} (hA : Bytes (keys H) w p x.value c) {y : Chg} {q : Option Addr} {d : Nat} (hB : Bytes (keys H) w q y.value d) : Calls Try.prog 155 #[.agg (cat (chgV x p c)).toArray, .agg (cat (chgV y q d)).toArray] w (Ret fun v w' => ∃ b, v = .bool b ∧ (b = true ↔ x = y) ∧ Own S H w') := by
 refine enter (G := Own (⟨w, keys H⟩ :: S) H) ho.keep Try.func155 rfl Try.ntmps155 rfl ?_
 refine VC.sr ?_
 refine VL.box (L := chgL) (ps := (chgV (x) p c)) rfl rfl (chgV_len (chg_ok x)) (fun g1 => ?_)
 refine VL.box (L := chgL) (ps := (chgV (y) q d)) rfl rfl (chgV_len (chg_ok y)) (fun g2 => ?_)
 refine VL.assign rfl ?_
 refine VL.nn ?_
 refine VC.sr ?_
 refine VL.fieldAddr rfl fo167_0 rfl ?_
 refine VL.load (v := .string (x.name)) 1 0 rfl kd9 (fun _ h => h) rfl rfl rfl ?_
 refine VL.fieldAddr rfl fo167_0 rfl ?_
 refine VL.load (v := .string (y.name)) 0 0 rfl kd9 (fun _ h => h) rfl rfl rfl ?_
 refine VL.eqls rfl rfl ?_
 refine VL.case (fun h4 => ?_) (fun h4 => ?_)
 ·refine VL.move rfl ?_
  refine VL.go rfl rfl rfl ?_
  refine VL.fieldAddr rfl fo167_2 rfl ?_
  refine VL.go rfl rfl rfl ?_
  refine VL.load (v := .bool x.gone) 1 2 rfl kd4 (fun _ h => h) rfl rfl rfl ?_
  cases h1_7 : x.gone
  ·refine VL.go rfl rfl rfl ?_
   refine VL.fieldAddr rfl fo167_2 rfl ?_
   refine VL.go rfl rfl rfl ?_
   refine VL.load (v := .bool y.gone) 0 2 rfl kd4 (fun _ h => h) rfl rfl rfl ?_
   cases h1_9 : y.gone
   ·refine VL.go rfl rfl rfl ?_
    refine VL.eqb Try.underlying4 rfl rfl ?_
    refine VL.pick_t rfl rfl ?_
    refine VL.move rfl ?_
    refine VL.go rfl rfl rfl ?_
    refine VL.fieldAddr rfl fo167_1 rfl ?_
    refine VL.go rfl rfl rfl ?_
    refine VL.load (v := .slice p (x.value).length c) 1 1 rfl kd24 (fun _ h => h) rfl rfl rfl ?_
    refine VL.go rfl rfl rfl ?_
    refine VL.str (s := ⟨w, _⟩) Try.underlying24 Try.underlying5 Try.underlying9 (l := x.value) rfl (fun _ h => h) (by repeat (first | exact List.mem_cons_self .. | apply List.mem_cons_of_mem)) hA ?_
    refine VL.go rfl rfl rfl ?_
    refine VL.fieldAddr rfl fo167_1 rfl ?_
    refine VL.go rfl rfl rfl ?_
    refine VL.load (v := .slice q (y.value).length d) 0 1 rfl kd24 (fun _ h => h) rfl rfl rfl ?_
    refine VL.go rfl rfl rfl ?_
    refine VL.str (s := ⟨w, _⟩) Try.underlying24 Try.underlying5 Try.underlying9 (l := y.value) rfl (fun _ h => h) (by repeat (first | exact List.mem_cons_self .. | apply List.mem_cons_of_mem)) hB ?_
    refine VL.go rfl rfl rfl ?_
    refine VL.eqls rfl rfl ?_
    refine VL.case (fun h19 => ?_) (fun h19 => ?_)
    ·refine VL.pick_t rfl rfl ?_
     refine VL.assign rfl ?_
     refine VL.nn ?_
     refine VC.ret ?_
     refine VX.ret1 rfl rfl (fun we hw => ?_)
     exact ⟨_, rfl, ⟨fun _ => ((chg_cases x y).resolve_left (fun h => h h4)).elim (fun h => absurd (h1_7.trans h1_9.symm) h.2) (fun h => h.elim (fun h => absurd (str_inj h19) h.2.2) id), fun _ => rfl⟩, hw.drop.drop.subA⟩
    ·refine VL.pick_t rfl rfl ?_
     refine VL.assign rfl ?_
     refine VL.nn ?_
     refine VC.ret ?_
     refine VX.ret1 rfl rfl (fun we hw => ?_)
     exact ⟨_, rfl, ⟨fun h => (by cases h), fun h => absurd (by rw [h]) h19⟩, hw.drop.drop.subA⟩
   ·refine VL.go rfl rfl rfl ?_
    refine VL.eqb Try.underlying4 rfl rfl ?_
    refine VL.pick_t rfl rfl ?_
    refine VL.move rfl ?_
    refine VL.pass rfl rfl rfl rfl rfl ?_
    refine VL.pass rfl rfl rfl rfl rfl ?_
    refine VL.pass rfl rfl rfl rfl rfl ?_
    refine VL.pass rfl rfl rfl rfl rfl ?_
    refine VL.pass rfl rfl rfl rfl rfl ?_
    refine VL.pass rfl rfl rfl rfl rfl ?_
    refine VL.pass rfl rfl rfl rfl rfl ?_
    refine VL.pick_f rfl rfl ?_
    refine VL.assign rfl ?_
    refine VL.nn ?_
    refine VC.ret ?_
    refine VX.ret1 rfl rfl (fun we hw => ?_)
    exact ⟨_, rfl, ⟨fun h => (by cases h), fun h => (by rw [h, h1_9] at h1_7; cases h1_7)⟩, hw.drop.drop.subA⟩
  ·refine VL.go rfl rfl rfl ?_
   refine VL.fieldAddr rfl fo167_2 rfl ?_
   refine VL.go rfl rfl rfl ?_
   refine VL.load (v := .bool y.gone) 0 2 rfl kd4 (fun _ h => h) rfl rfl rfl ?_
   cases h1_9 : y.gone
   ·refine VL.go rfl rfl rfl ?_
    refine VL.eqb Try.underlying4 rfl rfl ?_
    refine VL.pick_t rfl rfl ?_
    refine VL.move rfl ?_
    refine VL.pass rfl rfl rfl rfl rfl ?_
    refine VL.pass rfl rfl rfl rfl rfl ?_
    refine VL.pass rfl rfl rfl rfl rfl ?_
    refine VL.pass rfl rfl rfl rfl rfl ?_
    refine VL.pass rfl rfl rfl rfl rfl ?_
    refine VL.pass rfl rfl rfl rfl rfl ?_
    refine VL.pass rfl rfl rfl rfl rfl ?_
    refine VL.pick_f rfl rfl ?_
    refine VL.assign rfl ?_
    refine VL.nn ?_
    refine VC.ret ?_
    refine VX.ret1 rfl rfl (fun we hw => ?_)
    exact ⟨_, rfl, ⟨fun h => (by cases h), fun h => (by rw [h, h1_9] at h1_7; cases h1_7)⟩, hw.drop.drop.subA⟩
   ·refine VL.go rfl rfl rfl ?_
    refine VL.eqb Try.underlying4 rfl rfl ?_
    refine VL.pick_t rfl rfl ?_
    refine VL.move rfl ?_
    refine VL.go rfl rfl rfl ?_
    refine VL.fieldAddr rfl fo167_1 rfl ?_
    refine VL.go rfl rfl rfl ?_
    refine VL.load (v := .slice p (x.value).length c) 1 1 rfl kd24 (fun _ h => h) rfl rfl rfl ?_
    refine VL.go rfl rfl rfl ?_
    refine VL.str (s := ⟨w, _⟩) Try.underlying24 Try.underlying5 Try.underlying9 (l := x.value) rfl (fun _ h => h) (by repeat (first | exact List.mem_cons_self .. | apply List.mem_cons_of_mem)) hA ?_
    refine VL.go rfl rfl rfl ?_
    refine VL.fieldAddr rfl fo167_1 rfl ?_
    refine VL.go rfl rfl rfl ?_
    refine VL.load (v := .slice q (y.value).length d) 0 1 rfl kd24 (fun _ h => h) rfl rfl rfl ?_
    refine VL.go rfl rfl rfl ?_
    refine VL.str (s := ⟨w, _⟩) Try.underlying24 Try.underlying5 Try.underlying9 (l := y.value) rfl (fun _ h => h) (by repeat (first | exact List.mem_cons_self .. | apply List.mem_cons_of_mem)) hB ?_
    refine VL.go rfl rfl rfl ?_
    refine VL.eqls rfl rfl ?_
    refine VL.case (fun h19 => ?_) (fun h19 => ?_)
    ·refine VL.pick_t rfl rfl ?_
     refine VL.assign rfl ?_
     refine VL.nn ?_
     refine VC.ret ?_
     refine VX.ret1 rfl rfl (fun we hw => ?_)
     exact ⟨_, rfl, ⟨fun _ => ((chg_cases x y).resolve_left (fun h => h h4)).elim (fun h => absurd (h1_7.trans h1_9.symm) h.2) (fun h => h.elim (fun h => absurd (str_inj h19) h.2.2) id), fun _ => rfl⟩, hw.drop.drop.subA⟩
    ·refine VL.pick_t rfl rfl ?_
     refine VL.assign rfl ?_
     refine VL.nn ?_
     refine VC.ret ?_
     refine VX.ret1 rfl rfl (fun we hw => ?_)
     exact ⟨_, rfl, ⟨fun h => (by cases h), fun h => absurd (by rw [h]) h19⟩, hw.drop.drop.subA⟩
 ·refine VL.move rfl ?_
  refine VL.pass rfl rfl rfl rfl rfl ?_
  refine VL.pass rfl rfl rfl rfl rfl ?_
  refine VL.pass rfl rfl rfl rfl rfl ?_
  refine VL.pass rfl rfl rfl rfl rfl ?_
  refine VL.pass rfl rfl rfl rfl rfl ?_
  refine VL.pick_f rfl rfl ?_
  refine VL.move rfl ?_
  refine VL.pass rfl rfl rfl rfl rfl ?_
  refine VL.pass rfl rfl rfl rfl rfl ?_
  refine VL.pass rfl rfl rfl rfl rfl ?_
  refine VL.pass rfl rfl rfl rfl rfl ?_
  refine VL.pass rfl rfl rfl rfl rfl ?_
  refine VL.pass rfl rfl rfl rfl rfl ?_
  refine VL.pass rfl rfl rfl rfl rfl ?_
  refine VL.pick_f rfl rfl ?_
  refine VL.assign rfl ?_
  refine VL.nn ?_
  refine VC.ret ?_
  refine VX.ret1 rfl rfl (fun we hw => ?_)
  exact ⟨_, rfl, ⟨fun h => (by cases h), fun h => absurd (congrArg Chg.name h) h4⟩, hw.drop.drop.subA⟩

theorem named_w {S : List Snap} {H : List Chunk} {w : World} (ho : Own S H w) {x : Chg} {p : Option Addr} {c : Nat} (hA : Bytes (keys H) w p x.value c) {nm e : ByteArray} {g2 g8 : Nat} (hF2 : CellsIn (keys H) w g2 9 [1] [[.string nm]]) (hF8 : CellsIn (keys H) w g8 9 [1] [[.string e]]) (hl : nm.size + e.size ≤ 9223372036854775807) : Calls Try.prog 153 #[.agg (cat (chgV x p c)).toArray, .pointer (some ⟨g2, 0, none⟩), .pointer (some ⟨g8, 0, none⟩)] w (Ret fun v w' => v = .bool (decide (x.name = nm ++ e)) ∧ Own S H w') := by
 refine enter (G := Own (⟨w, keys H⟩ :: S) H) ho.keep Try.func153 rfl Try.ntmps153 rfl ?_
 refine VC.sr ?_
 refine VL.box (L := chgL) (ps := (chgV (x) p c)) rfl rfl (chgV_len (chg_ok x)) (fun g1 => ?_)
 refine VL.assign rfl ?_
 refine VL.nn ?_
 refine VC.sr ?_
 refine VL.fieldAddr rfl fo167_0 rfl ?_
 refine VL.load (v := .string (x.name)) 0 0 rfl kd9 (fun _ h => h) rfl rfl rfl ?_
 refine VL.loadF (s := ⟨w, _⟩) (v := .string nm) 0 rfl kd9 hF2 (fun _ h => (h.after (by repeat (first | exact List.mem_cons_self .. | apply List.mem_cons_of_mem))).1) rfl rfl ?_
 refine VL.loadF (s := ⟨w, _⟩) (v := .string e) 0 rfl kd9 hF8 (fun _ h => (h.after (by repeat (first | exact List.mem_cons_self .. | apply List.mem_cons_of_mem))).1) rfl rfl ?_
 refine VL.cats rfl rfl (by omega) ?_
 refine VL.eqls rfl rfl ?_
 refine VL.assign rfl ?_
 refine VL.nn ?_
 refine VC.ret ?_
 refine VX.ret1 rfl rfl (fun we hw => ?_)
 exact ⟨rfl, hw.drop.subA⟩

/-- An index says what is found. -/
def At (l : List Chg) (nm : ByteArray) (i : Int) : Prop := (∃ k, ∃ h : k < l.length, i = (k : Int) ∧ fnd l nm = some (l[k]'h)) ∨ (i = -1 ∧ fnd l nm = none)

theorem index_w {S : List Snap} {H : List Chunk} {w : World} (ho : Own S H w) {l : List Chg} {p : Option Addr} {c : Nat} (hX : Arr 3 chgR (keys H) w p l c) {nm e : ByteArray} {g2 g8 : Nat} (hF2 : CellsIn (keys H) w g2 9 [1] [[.string nm]]) (hF8 : CellsIn (keys H) w g8 9 [1] [[.string e]]) (hsz : l.length = 0 ∨ nm.size + e.size ≤ 9223372036854775807) : Calls Try.prog 152 #[.slice p l.length c, (.func (.func 153) #[] #[.pointer (some ⟨g2, 0, none⟩), .pointer (some ⟨g8, 0, none⟩)])] w (Ret fun v w' => ∃ i : Int, v = .int .i64 i ∧ At l (nm ++ e) i ∧ Own S H w') := by
 have hsm := hX.small
 refine enter (G := Own (⟨w, keys H⟩ :: S) H) ho.keep Try.func152 rfl Try.ntmps152 rfl ?_
 refine VC.sr ?_
 refine VL.assign rfl ?_
 refine VL.nn ?_
 refine VC.seq ?_
 refine VC.sr ?_
 refine VL.move rfl ?_
 refine VL.len Try.underlying158 rfl rfl ?_
 refine VL.move rfl ?_
 refine VL.nn ?_
 refine VC.block ?_
 refine VC.loop (X := Nat) (fun k => [(0, .slice p l.length c), (1, (.func (.func 153) #[] #[.pointer (some ⟨g2, 0, none⟩), .pointer (some ⟨g8, 0, none⟩)])), (7, .int .i64 (l.length : Int)), (8, .int .i64 (k : Int))]) (fun k w' => (k ≤ l.length ∧ fnd (l.drop k) (nm ++ e) = fnd l (nm ++ e)) ∧ Own (⟨w, keys H⟩ :: S) H w') (fun k => l.length - k) 0 ⟨rfl, rfl, rfl, rfl, trivial⟩ (fun w' h => ⟨⟨Nat.zero_le _, rfl⟩, h⟩) (fun k => VC.fact fun ⟨hk, hf⟩ => ?_)
 ·skip
  refine VC.sr ?_
  refine VL.lss rfl rfl ?_
  refine VL.case (fun h2 => ?_) (fun h2 => ?_)
  ·have hlt : k < l.length := by omega
   refine VL.nn ?_
   refine VC.seq ?_
   refine VC.yes rfl ?_
   refine VC.skip ?_
   refine VX.next ?_
   refine VC.seq ?_
   refine VC.block ?_
   refine VC.sr ?_
   refine VL.move rfl ?_
   refine VL.assign rfl ?_
   refine VL.nn ?_
   refine VC.sr ?_
   refine VL.move rfl ?_
   refine VL.move rfl ?_
   refine VL.move rfl ?_
   refine VL.index (xs := l) rfl rfl Try.underlying158 sz158 hX (by omega) (by have hi := hlt; omega) ?_
   refine VL.elems (s := ⟨w, _⟩) (m := 3) (k) 0 rfl kd167 (fun _ h => h) (by repeat (first | exact List.mem_cons_self .. | apply List.mem_cons_of_mem)) hX (List.getElem?_eq_getElem hlt) (by simp) (by decide) (fun vs hl hr => ?_)
   obtain ⟨p3, c4, rfl, hA5⟩ := hr
   refine VL.newv (v' := .agg (cat (chgV (l[k]'hlt) p3 c4)).toArray) (by rw [List.drop_zero, List.take_of_length_le (by rw [hl]; decide)]) ?_
   refine VL.callv (cs := [.pointer (some ⟨g2, 0, none⟩), .pointer (some ⟨g8, 0, none⟩)]) rfl Try.func153 rfl (by decide) rfl (fun w' hw => named_w hw (hA5.nowA (s := ⟨w, _⟩) Mono.byte hw) (hF2.then (s := ⟨w, _⟩) hw (by repeat (first | exact List.mem_cons_self .. | apply List.mem_cons_of_mem))) (hF8.then (s := ⟨w, _⟩) hw (by repeat (first | exact List.mem_cons_self .. | apply List.mem_cons_of_mem))) (hsz.resolve_left (by omega))) (fun v => ?_)
   refine VL.fact fun e1 => ?_
   subst e1
   refine VL.case (fun h4 => ?_) (fun h4 => ?_)
   ·refine VL.nn ?_
    refine VC.yes rfl ?_
    refine VC.sr ?_
    refine VL.move rfl ?_
    refine VL.assign rfl ?_
    refine VL.nn ?_
    refine VC.ret ?_
    refine VX.block_ret ?_
    refine VX.then_ret ?_
    refine VX.then_ret ?_
    refine VX.block_ret ?_
    refine VX.then_ret ?_
    refine VX.ret1 rfl rfl (fun we hw => ?_)
    exact ⟨_, rfl, .inl ⟨k, hlt, rfl, hf.symm.trans (fnd_hit hlt h4)⟩, hw.subA⟩
   ·refine VL.nn ?_
    refine VC.no rfl ?_
    refine VC.skip ?_
    refine VX.block_normal ?_
    refine VX.next ?_
    refine VC.region ?_
    refine VL.add rfl rfl (by simp only [InR]; omega) ?_
    refine VL.move rfl ?_
    refine VL.nil ?_
    refine VX.round (k + 1) ⟨rfl, rfl, rfl, rfl, trivial⟩ (fun w' h => ⟨⟨by omega, by rw [← hf, fnd_miss hlt h4]⟩, h.subA⟩) (by omega)
  ·have hke : k = l.length := by omega
   refine VL.nn ?_
   refine VC.seq ?_
   refine VC.no rfl ?_
   refine VC.exit ?_
   refine VX.then_exit ?_
   refine VX.then_exit ?_
   refine VX.block_here ?_
   refine VX.next ?_
   refine VC.sr ?_
   refine VL.assign rfl ?_
   refine VL.nn ?_
   refine VC.ret ?_
   refine VX.ret1 rfl rfl (fun we hw => ?_)
   exact ⟨_, rfl, .inr ⟨rfl, hf.symm.trans (fnd_end hke)⟩, hw.subA⟩

end Go.Proofs.Ytcfecmoagfgnaaa

/- Lists of items, one against the other. -/
namespace Go.Proofs.Ytcfecmoagfgnaaa
open Go.Vc Go.Pl

/-- An item's value, with its slices. -/
def itemF {K : List Nat} (y : Itm) : SFact K :=
  ⟨fun v w => ∃ p c q d, v = .agg (cat (itemV y p c q d)).toArray ∧ Bytes K w p y.letter.body c ∧ Arr 65 vouchR K w q y.object.vouches d, false,
   fun _ _ w _ hs ⟨p, c, q, d, e, h1, h2⟩ => ⟨p, c, q, d, e, Arr.after (s := ⟨w, K⟩) h1 Mono.byte ⟨hs, fun _ hk => .inl hk⟩, Arr.after (s := ⟨w, K⟩) h2 Mono_vouch ⟨hs, fun _ hk => .inl hk⟩⟩⟩

theorem sameLists_w {S : List Snap} {H : List Chunk} {w : World} (ho : Own S H w) {xs : List Itm} (hxs : ∀ x ∈ xs, x.ok) {p : Option Addr} {c : Nat} (hX : Arr 433 itemR' (keys H) w p xs c) {p2 : Option Addr} {c2 : Nat} (hY : Arr 433 itemR' (keys H) w p2 xs c2) : Calls Try.prog 90 #[.slice p xs.length c, .slice p2 xs.length c2] w (Ret fun v w' => v = .bool true ∧ Own S H w') := by
 have hsm := hX.small
 refine enter (G := Own (⟨w, keys H⟩ :: S) H) ho.keep Try.func90 rfl Try.ntmps90 rfl ?_
 refine VC.sr ?_
 refine VL.assign rfl ?_
 refine VL.nn ?_
 refine VC.seq ?_
 refine VC.sr ?_
 refine VL.move rfl ?_
 refine VL.len Try.underlying126 rfl rfl ?_
 refine VL.move rfl ?_
 refine VL.len Try.underlying126 rfl rfl ?_
 refine VL.neq rfl rfl ?_
 refine VL.no (by omega) ?_
 refine VL.nn ?_
 refine VC.no rfl ?_
 refine VC.skip ?_
 refine VX.next ?_
 refine VC.seq ?_
 refine VC.sr ?_
 refine VL.assign rfl ?_
 refine VL.nn ?_
 refine VC.block ?_
 refine VC.loop (X := Nat) (fun i => [(0, .slice p xs.length c), (1, .slice p2 xs.length c2), (5, .int .i64 (i : Int))]) (fun i w' => i ≤ xs.length ∧ Own (⟨w, keys H⟩ :: S) H w') (fun i => xs.length - i) 0 ⟨rfl, rfl, rfl, trivial⟩ (fun w' h => ⟨Nat.zero_le _, h.subA⟩) (fun i => VC.fact fun hi => ?_)
 ·skip
  refine VC.seq ?_
  refine VC.sr ?_
  refine VL.move rfl ?_
  refine VL.move rfl ?_
  refine VL.len Try.underlying126 rfl rfl ?_
  refine VL.lss rfl rfl ?_
  refine VL.case (fun h4 => ?_) (fun h4 => ?_)
  ·have hlt : i < xs.length := by omega
   refine VL.nn ?_
   refine VC.yes rfl ?_
   refine VC.skip ?_
   refine VX.next ?_
   refine VC.seq ?_
   refine VC.block ?_
   refine VC.seq ?_
   apply VC.anyTA 8 1010 (F := [eqF _, eqF _, eqF _, itemF (xs[i]'hlt), eqF _, eqF _, eqF _, itemF (xs[i]'hlt)]) [⟨[], [0]⟩, ⟨[], [5]⟩, ⟨[(17, 0), (18, 1)], []⟩, ⟨[(19, 2)], []⟩, ⟨[], [1]⟩, ⟨[], [5]⟩, ⟨[(21, 4), (22, 5)], []⟩, ⟨[(23, 6)], []⟩] [(20, 3), (24, 7)] [0, 1, 4, 5, 6, 7, 8, 9, 10, 11, 12, 13, 14, 15, 16, 25, 26] rfl (by kernel_rfl) (by kernel_rfl) rfl rfl (by kernel_rfl) (by kernel_rfl) (by kernel_rfl) rfl ?obs6 ?end6
   case obs6 =>
    refine Obs.cons ?_ ?_
    ·refine obS (by kernel_rfl) rfl rfl (fun ph6 w6 hO6 => ?_)
     refine VL.move rfl ?_
     exact VL.finS hO6 rfl rfl
    refine Obs.cons ?_ ?_
    ·refine obS (by kernel_rfl) rfl rfl (fun ph6 w6 hO6 => ?_)
     refine VL.move rfl ?_
     exact VL.finS hO6 rfl rfl
    refine Obs.cons ?_ ?_
    ·refine obS (by kernel_rfl) rfl rfl (fun ph6 w6 hO6 => ?_)
     rintro _ rfl _ rfl
     refine VL.index (xs := xs) rfl rfl Try.underlying126 sz126 hX (by omega) (by have hi := hlt; omega) ?_
     exact VL.finS hO6 rfl rfl
    refine Obs.cons ?_ ?_
    ·refine ob (by kernel_rfl) rfl (by kernel_rfl) rfl (fun w6 hO6 => ?_)
     rintro _ rfl
     refine VL.elems (s := ⟨w, _⟩) (m := 433) (i) 0 rfl kd87 (fun _ e => e ▸ hO6) (by repeat (first | exact List.mem_cons_self .. | apply List.mem_cons_of_mem)) hX (List.getElem?_eq_getElem hlt) (by simp) (by decide) (fun vs hl hr => ?_)
     obtain ⟨p9, c9, q9, d9, hy9, rfl, hA9, hV9⟩ := hr
     refine VL.newv (v' := .agg (cat (itemV (xs[i]'hlt) p9 c9 q9 d9)).toArray) (by rw [List.drop_zero, List.take_of_length_le (by rw [hl]; decide)]) ?_
     exact VL.finS hO6 rfl ⟨_, _, _, _, rfl, hA9.nowA (s := ⟨w, _⟩) Mono.byte hO6, hV9.nowA (s := ⟨w, _⟩) Mono_vouch hO6⟩
    refine Obs.cons ?_ ?_
    ·refine obS (by kernel_rfl) rfl rfl (fun ph6 w6 hO6 => ?_)
     refine VL.move rfl ?_
     exact VL.finS hO6 rfl rfl
    refine Obs.cons ?_ ?_
    ·refine obS (by kernel_rfl) rfl rfl (fun ph6 w6 hO6 => ?_)
     refine VL.move rfl ?_
     exact VL.finS hO6 rfl rfl
    refine Obs.cons ?_ ?_
    ·refine obS (by kernel_rfl) rfl rfl (fun ph6 w6 hO6 => ?_)
     rintro _ rfl _ rfl
     refine VL.index (xs := xs) rfl rfl Try.underlying126 sz126 hY (by omega) (by have hi := hlt; omega) ?_
     exact VL.finS hO6 rfl rfl
    refine Obs.cons ?_ ?_
    ·refine ob (by kernel_rfl) rfl (by kernel_rfl) rfl (fun w6 hO6 => ?_)
     rintro _ rfl
     refine VL.elems (s := ⟨w, _⟩) (m := 433) (i) 0 rfl kd87 (fun _ e => e ▸ hO6) (by repeat (first | exact List.mem_cons_self .. | apply List.mem_cons_of_mem)) hY (List.getElem?_eq_getElem hlt) (by simp) (by decide) (fun vs hl hr => ?_)
     obtain ⟨p9, c9, q9, d9, hy9, rfl, hA9, hV9⟩ := hr
     refine VL.newv (v' := .agg (cat (itemV (xs[i]'hlt) p9 c9 q9 d9)).toArray) (by rw [List.drop_zero, List.take_of_length_le (by rw [hl]; decide)]) ?_
     exact VL.finS hO6 rfl ⟨_, _, _, _, rfl, hA9.nowA (s := ⟨w, _⟩) Mono.byte hO6, hV9.nowA (s := ⟨w, _⟩) Mono_vouch hO6⟩
    exact Obs.nil
   case end6 =>
    intro w6 hO6
    rintro _ ⟨pa3, ca3, qa3, da3, rfl, hAa3, hVa3⟩ _ ⟨pa7, ca7, qa7, da7, rfl, hAa7, hVa7⟩
    refine VL.toOwn hO6 ?_
    refine VL.call Try.func59 rfl (by decide) rfl (fun w' hw => sameItems_e hw (hxs _ (List.getElem_mem hlt)) (hAa3.nowA (s := ⟨w6, _⟩) Mono.byte hw) (hVa3.nowA (s := ⟨w6, _⟩) Mono_vouch hw) (hAa7.nowA (s := ⟨w6, _⟩) Mono.byte hw) (hVa7.nowA (s := ⟨w6, _⟩) Mono_vouch hw) rfl) (fun v => ?_)
    refine VL.fact fun e1 => ?_
    subst e1
    refine VL.not rfl ?_
    refine VL.nn ?_
    refine VC.no rfl ?_
    refine VC.skip ?_
    refine VX.block_normal ?_
    refine VX.next ?_
    refine VC.region ?_
    refine VL.move rfl ?_
    refine VL.add rfl rfl (by simp only [InR]; omega) ?_
    refine VL.assign rfl ?_
    refine VL.nil ?_
    refine VX.round (i + 1) ⟨rfl, rfl, rfl, trivial⟩ (fun w' h => ⟨by omega, h.subA⟩) (by show xs.length - (i + 1) < xs.length - i; omega)
  ·have hie : i = xs.length := by omega
   refine VL.nn ?_
   refine VC.no rfl ?_
   refine VC.exit ?_
   refine VX.then_exit ?_
   refine VX.then_exit ?_
   refine VX.block_here ?_
   refine VX.next ?_
   refine VC.sr ?_
   refine VL.assign rfl ?_
   refine VL.nn ?_
   refine VC.ret ?_
   refine VX.ret1 rfl rfl (fun we hw => ?_)
   exact ⟨rfl, hw.subA⟩

theorem sameLists_e {S : List Snap} {H : List Chunk} {w : World} (ho : Own S H w) {xs ys : List Itm} (hxs : ∀ x ∈ xs, x.ok) {p : Option Addr} {c : Nat} (hX : Arr 433 itemR' (keys H) w p xs c) {p2 : Option Addr} {c2 : Nat} (hY : Arr 433 itemR' (keys H) w p2 ys c2) (e : ys = xs) : Calls Try.prog 90 #[.slice p xs.length c, .slice p2 ys.length c2] w (Ret fun v w' => v = .bool true ∧ Own S H w') := by
 subst e; exact sameLists_w ho hxs hX hY

end Go.Proofs.Ytcfecmoagfgnaaa

