/- The statement BagOwn is proved, for every input: part 13 of 14 of the texts that it needs. -/
import Derived.Test.YtcfecmoagfgnaaaMbowAL
/- bag: what the laws lay, owned. -/
namespace Go.Proofs.Ytcfecmoagfgnaaa
open Go.Vc Go.Pl

theorem refPkt_own {S : List Snap} {H : List Chunk} {w : World} (ho : Own S H w) {x : Pkt} (hx : x.ok) {q : Option Addr} {d : Nat} (hV : Arr 101 objectR' (keys H) w q x.chain d) {p : Option Addr} {c : Nat} (hA : Bytes (keys H) w p x.body c) : Calls Try.prog 91 #[.agg (cat (pktV x q d p c)).toArray] w (RowO S H (pktO x)) := by
 have hx1 := hx.src
 have hx2 := hx.dst
 have hx3 := hx.kind
 refine enter (G := Own (⟨w, keys H⟩ :: S) H) ho.keep Try.func91 rfl Try.ntmps91 rfl ?_
 refine VC.sr ?_
 refine VL.box (L := pktL) (ps := (pktV (x) q d p c)) rfl rfl (pktV_len hx) (fun g1 => ?_)
 refine VL.assign rfl ?_
 refine VL.assign rfl ?_
 refine VL.nn ?_
 refine VC.sr ?_
 refine VL.fieldAddr rfl fo118_3 rfl ?_
 refine VL.load (v := .slice q (x.chain).length d) 0 3 rfl kd116 (fun _ h => h) rfl rfl rfl ?_
 refine VL.call Try.func149 rfl (by decide) rfl (fun w' hw => refChain_w hw hx.chain (hV.nowA (s := ⟨w, _⟩) Mono_object hw)) (fun v => ?_)
 refine VL.at (fun w2 h1w => ?_)
 obtain ⟨p3, c4, rfl, hO6, hA5⟩ := h1w
 refine VL.toOwn hO6 ?_
 refine VL.move rfl ?_
 refine VL.extract rfl rfl ?_
 refine VL.extract rfl rfl ?_
 refine VL.assign rfl ?_
 refine VL.assign rfl ?_
 refine VL.nn ?_
 refine VC.seq ?_
 refine VC.sr ?_
 refine VL.move rfl ?_
 cases hs : (chainO x.chain).isSome
 ·refine VL.not rfl ?_
  refine VL.move rfl ?_
  refine VL.pass rfl rfl rfl rfl rfl ?_
  refine VL.pass rfl rfl rfl rfl rfl ?_
  refine VL.pass rfl rfl rfl rfl rfl ?_
  refine VL.pick_t rfl rfl ?_
  refine VL.move rfl ?_
  refine VL.pass rfl rfl rfl rfl rfl ?_
  refine VL.pass rfl rfl rfl rfl rfl ?_
  refine VL.pass rfl rfl rfl rfl rfl ?_
  refine VL.pick_t rfl rfl ?_
  refine VL.nn ?_
  refine VC.yes rfl ?_
  refine VC.sr ?_
  refine VL.assign rfl ?_
  refine VL.assign rfl ?_
  refine VL.nn ?_
  refine VC.ret ?_
  refine VX.then_ret ?_
  refine VX.ret2 rfl rfl rfl (fun we hw => ?_)
  exact rowO_none (hw.drop.subA) (pktO_bad hs)
 ·refine VL.not rfl ?_
  refine VL.move rfl ?_
  refine VL.go rfl rfl rfl ?_
  refine VL.fieldAddr rfl fo118_2 rfl ?_
  refine VL.go rfl rfl rfl ?_
  refine VL.load (v := .int .u8 (x.kind)) 0 2 rfl kd5 (fun _ h => h) rfl rfl rfl ?_
  refine VL.go rfl rfl rfl ?_
  refine VL.lss rfl rfl ?_
  refine VL.case (fun h2_5 => ?_) (fun h2_5 => ?_)
  ·have h2_5 : x.kind < 1 := by have h : ((x.kind : Nat) : Int) < 1 := h2_5; omega
   have hkin : kindIn x.kind = false := by unfold kindIn; simp; omega
   refine VL.pick_f rfl rfl ?_
   refine VL.move rfl ?_
   refine VL.pass rfl rfl rfl rfl rfl ?_
   refine VL.pass rfl rfl rfl rfl rfl ?_
   refine VL.pass rfl rfl rfl rfl rfl ?_
   refine VL.pick_t rfl rfl ?_
   refine VL.nn ?_
   refine VC.yes rfl ?_
   refine VC.sr ?_
   refine VL.assign rfl ?_
   refine VL.assign rfl ?_
   refine VL.nn ?_
   refine VC.ret ?_
   refine VX.then_ret ?_
   refine VX.ret2 rfl rfl rfl (fun we hw => ?_)
   exact rowO_none (hw.drop.subA) (pktO_none hkin)
  ·have h2_5 : 1 ≤ x.kind := by have h : ¬ ((x.kind : Nat) : Int) < 1 := h2_5; omega
   refine VL.pick_f rfl rfl ?_
   refine VL.move rfl ?_
   refine VL.go rfl rfl rfl ?_
   refine VL.fieldAddr rfl fo118_2 rfl ?_
   refine VL.go rfl rfl rfl ?_
   refine VL.load (v := .int .u8 (x.kind)) 0 2 rfl kd5 (fun _ h => h) rfl rfl rfl ?_
   refine VL.go rfl rfl rfl ?_
   refine VL.gtr rfl rfl ?_
   refine VL.case (fun h2_10 => ?_) (fun h2_10 => ?_)
   ·have h2_10 : 4 < x.kind := by have h : (4 : Int) < ((x.kind : Nat) : Int) := h2_10; omega
    have hkin : kindIn x.kind = false := by unfold kindIn; simp; omega
    refine VL.pick_f rfl rfl ?_
    refine VL.nn ?_
    refine VC.yes rfl ?_
    refine VC.sr ?_
    refine VL.assign rfl ?_
    refine VL.assign rfl ?_
    refine VL.nn ?_
    refine VC.ret ?_
    refine VX.then_ret ?_
    refine VX.ret2 rfl rfl rfl (fun we hw => ?_)
    exact rowO_none (hw.drop.subA) (pktO_none hkin)
   ·have h2_10 : x.kind ≤ 4 := by have h : ¬ (4 : Int) < ((x.kind : Nat) : Int) := h2_10; omega
    refine VL.pick_f rfl rfl ?_
    refine VL.nn ?_
    refine VC.no rfl ?_
    refine VC.skip ?_
    refine VX.next ?_
    refine VC.seq ?_
    refine VC.letCells 0 rfl (fun w7 hO9 hF8 => ?_)
    apply VC.anyT3 18 15 (F := [eqF _, eqF _, capF (be 1 (x.src)) 1, eqF _, eqF _, capF (be 1 (x.dst)) 1, eqF _, eqF _, capF (be 1 (x.kind)) 1, eqF _, eqF _, eqF _, eqF _, eqF _, arrF 1 bytesR (Mono.slice Mono.byte) ([be 1 (x.src), be 1 (x.dst), be 1 (x.kind), ((chainO x.chain).getD []), x.body, x.sig]), lateF (fun v w' => ∃ g c', v = .tuple #[rowV g ((joinO [be 1 (x.src), be 1 (x.dst), be 1 (x.kind), ((chainO x.chain).getD []), x.body, x.sig] true).getD []).length c', .bool (joinO [be 1 (x.src), be 1 (x.dst), be 1 (x.kind), ((chainO x.chain).getD []), x.body, x.sig] true).isSome] ∧ Own (⟨w, keys H⟩ :: S) (row 5 1 g ((joinO [be 1 (x.src), be 1 (x.dst), be 1 (x.kind), ((chainO x.chain).getD []), x.body, x.sig] true).getD []).length c' (((joinO [be 1 (x.src), be 1 (x.dst), be 1 (x.kind), ((chainO x.chain).getD []), x.body, x.sig] true).getD []).map bv) :: (H)) w'), lateF (fun v w' => ∃ g c', v = rowV g ((joinO [be 1 (x.src), be 1 (x.dst), be 1 (x.kind), ((chainO x.chain).getD []), x.body, x.sig] true).getD []).length c' ∧ Own (⟨w, keys H⟩ :: S) (row 5 1 g ((joinO [be 1 (x.src), be 1 (x.dst), be 1 (x.kind), ((chainO x.chain).getD []), x.body, x.sig] true).getD []).length c' (((joinO [be 1 (x.src), be 1 (x.dst), be 1 (x.kind), ((chainO x.chain).getD []), x.body, x.sig] true).getD []).map bv) :: (H)) w'), eqF _]) ?gr4 [⟨[], [1]⟩, ⟨[(24, 0)], []⟩, ⟨[(25, 1)], []⟩, ⟨[], [1]⟩, ⟨[(27, 3)], []⟩, ⟨[(28, 4)], []⟩, ⟨[], [1]⟩, ⟨[(30, 6)], []⟩, ⟨[(31, 7)], []⟩, ⟨[], [4]⟩, ⟨[], [1]⟩, ⟨[(34, 10)], []⟩, ⟨[], [1]⟩, ⟨[(36, 12)], []⟩, ⟨[(26, 2), (29, 5), (32, 8), (33, 9), (35, 11), (37, 13)], []⟩, ⟨[(38, 14)], []⟩, ⟨[(39, 15)], []⟩, ⟨[(39, 15)], []⟩] [(40, 16), (41, 17)] [0, 1, 2, 3, 5, 6, 7, 8, 9, 10, 11, 12, 13, 14, 15, 16, 17, 18, 19, 20, 21, 22, 23] rfl (by kernel_rfl) (by kernel_rfl) rfl rfl (by kernel_rfl) (by kernel_rfl) (by kernel_rfl) rfl ?obs4 ?end4
    case gr4 =>
     intro f hf hl7 v w1 w2 hs h
     simp only [List.mem_cons, List.not_mem_nil, or_false] at hf
     rcases hf with rfl | rfl | rfl | rfl | rfl | rfl | rfl | rfl | rfl | rfl | rfl | rfl | rfl | rfl | rfl | rfl | rfl | rfl <;> first | (cases hl7; done) | skip
     ·obtain ⟨g, c', e, h2⟩ := h
      exact ⟨g, c', e, h2.later hs⟩
     ·obtain ⟨g, c', e, h2⟩ := h
      exact ⟨g, c', e, h2.later hs⟩
    case obs4 =>
     refine Obs3.cons ?_ ?_
     ·refine obS3 (by kernel_rfl) rfl rfl (fun ph4 w4 hO4 => ?_)
      refine VL.fieldAddr rfl fo118_0 rfl ?_
      exact VL.finS2 hO4 rfl rfl
     refine Obs3.cons ?_ ?_
     ·refine obS3 (by kernel_rfl) rfl rfl (fun ph4 w4 hO4 => ?_)
      rintro _ rfl
      refine VL.loadF (s := ⟨w7, _⟩) (v := .int .u8 (x.src)) 0 rfl kd5 hF8 (fun _ e => e ▸ Still.ok hO4 (by repeat (first | exact List.mem_cons_self .. | apply List.mem_cons_of_mem))) rfl rfl ?_
      exact VL.finS2 hO4 rfl rfl
     refine Obs3.cons ?_ ?_
     ·refine ob3 (by kernel_rfl) rfl (by kernel_rfl) rfl (fun w4 hO4 => ?_)
      rintro _ rfl
      refine VL.toOwn hO4 ?_
      refine VL.litByte (m := x.src) el24 rfl (by have hm := hx.src; omega) (fun g10 w11 hO12 hA13 => ?_)
      exact VL.finO2 rfl (fun _ h => h.subA) (fun _ h => ⟨_, rfl, (hA13.nowA (s := ⟨w11, _⟩) Mono.byte h)⟩)
     refine Obs3.cons ?_ ?_
     ·refine obS3 (by kernel_rfl) rfl rfl (fun ph4 w4 hO4 => ?_)
      refine VL.fieldAddr rfl fo118_1 rfl ?_
      exact VL.finS2 hO4 rfl rfl
     refine Obs3.cons ?_ ?_
     ·refine obS3 (by kernel_rfl) rfl rfl (fun ph4 w4 hO4 => ?_)
      rintro _ rfl
      refine VL.loadF (s := ⟨w7, _⟩) (v := .int .u8 (x.dst)) 1 rfl kd5 hF8 (fun _ e => e ▸ Still.ok hO4 (by repeat (first | exact List.mem_cons_self .. | apply List.mem_cons_of_mem))) rfl rfl ?_
      exact VL.finS2 hO4 rfl rfl
     refine Obs3.cons ?_ ?_
     ·refine ob3 (by kernel_rfl) rfl (by kernel_rfl) rfl (fun w4 hO4 => ?_)
      rintro _ rfl
      refine VL.toOwn hO4 ?_
      refine VL.litByte (m := x.dst) el24 rfl (by have hm := hx.dst; omega) (fun g14 w15 hO16 hA17 => ?_)
      exact VL.finO2 rfl (fun _ h => h.subA) (fun _ h => ⟨_, rfl, (hA17.nowA (s := ⟨w15, _⟩) Mono.byte h)⟩)
     refine Obs3.cons ?_ ?_
     ·refine obS3 (by kernel_rfl) rfl rfl (fun ph4 w4 hO4 => ?_)
      refine VL.fieldAddr rfl fo118_2 rfl ?_
      exact VL.finS2 hO4 rfl rfl
     refine Obs3.cons ?_ ?_
     ·refine obS3 (by kernel_rfl) rfl rfl (fun ph4 w4 hO4 => ?_)
      rintro _ rfl
      refine VL.loadF (s := ⟨w7, _⟩) (v := .int .u8 (x.kind)) 2 rfl kd5 hF8 (fun _ e => e ▸ Still.ok hO4 (by repeat (first | exact List.mem_cons_self .. | apply List.mem_cons_of_mem))) rfl rfl ?_
      exact VL.finS2 hO4 rfl rfl
     refine Obs3.cons ?_ ?_
     ·refine ob3 (by kernel_rfl) rfl (by kernel_rfl) rfl (fun w4 hO4 => ?_)
      rintro _ rfl
      refine VL.toOwn hO4 ?_
      refine VL.litByte (m := x.kind) el24 rfl (by have hm := hx.kind; omega) (fun g18 w19 hO20 hA21 => ?_)
      exact VL.finO2 rfl (fun _ h => h.subA) (fun _ h => ⟨_, rfl, (hA21.nowA (s := ⟨w19, _⟩) Mono.byte h)⟩)
     refine Obs3.cons ?_ ?_
     ·refine obS3 (by kernel_rfl) rfl rfl (fun ph4 w4 hO4 => ?_)
      refine VL.move rfl ?_
      exact VL.finS2 hO4 rfl rfl
     refine Obs3.cons ?_ ?_
     ·refine obS3 (by kernel_rfl) rfl rfl (fun ph4 w4 hO4 => ?_)
      refine VL.fieldAddr rfl fo118_4 rfl ?_
      exact VL.finS2 hO4 rfl rfl
     refine Obs3.cons ?_ ?_
     ·refine obS3 (by kernel_rfl) rfl rfl (fun ph4 w4 hO4 => ?_)
      rintro _ rfl
      refine VL.loadF (s := ⟨w7, _⟩) (v := .slice p (x.body).length c) 4 rfl kd24 hF8 (fun _ e => e ▸ Still.ok hO4 (by repeat (first | exact List.mem_cons_self .. | apply List.mem_cons_of_mem))) rfl rfl ?_
      exact VL.finS2 hO4 rfl rfl
     refine Obs3.cons ?_ ?_
     ·refine obS3 (by kernel_rfl) rfl rfl (fun ph4 w4 hO4 => ?_)
      refine VL.fieldAddr rfl fo118_5 rfl ?_
      exact VL.finS2 hO4 rfl rfl
     refine Obs3.cons ?_ ?_
     ·refine obS3 (by kernel_rfl) rfl rfl (fun ph4 w4 hO4 => ?_)
      rintro _ rfl
      refine VL.sliceArrAt Try.underlying80 (by kernel_rfl) rfl ?_
      refine VL.newv (v' := .slice (some ⟨g1, 5, none⟩) (x.sig).length 64) (by rw [hx.sig]) ?_
      exact VL.finS2 hO4 rfl rfl
     refine Obs3.cons ?_ ?_
     ·refine ob3 (by kernel_rfl) rfl (by kernel_rfl) rfl (fun w4 hO4 => ?_)
      rintro _ ⟨p4_2, rfl, hA4_2⟩ _ ⟨p4_5, rfl, hA4_5⟩ _ ⟨p4_8, rfl, hA4_8⟩ _ rfl _ rfl _ rfl
      refine VL.toOwn hO4 ?_
      refine VL.lit el31 rfl rfl rfl (by simp [Value.cells]) (by intro u hu; simp [Value.cells] at hu; rcases hu with rfl | rfl | rfl | rfl | rfl | rfl <;> rfl) (fun g22 => ?_)
      refine VL.letRowS [be 1 (x.src), be 1 (x.dst), be 1 (x.kind), ((chainO x.chain).getD []), x.body, x.sig] rfl (fun w' hw => ⟨⟨_, _, rfl, (hA4_2.nowA (s := ⟨w4, _⟩) Mono.byte hw)⟩, ⟨⟨_, _, rfl, (hA4_5.nowA (s := ⟨w4, _⟩) Mono.byte hw)⟩, ⟨⟨_, _, rfl, (hA4_8.nowA (s := ⟨w4, _⟩) Mono.byte hw)⟩, ⟨⟨_, _, rfl, (hA5.nowA (s := ⟨w2, _⟩) Mono.byte hw)⟩, ⟨⟨_, _, rfl, (hA.nowA (s := ⟨w, _⟩) Mono.byte hw)⟩, ⟨⟨_, _, rfl, ((hF8.bytes 5 5 rfl rfl hx.sig rfl).nowA (s := ⟨w7, _⟩) Mono.byte hw)⟩, trivial⟩⟩⟩⟩⟩⟩) (fun w23 hO24 hA25 => ?_)
      exact VL.finO2 rfl (fun _ h => h.subA) (fun _ h => ⟨_, _, rfl, (hA25.nowA (s := ⟨w23, _⟩) (Mono.slice Mono.byte) h)⟩)
     refine Obs3.cons ?_ ?_
     ·refine obK3 (by kernel_rfl) rfl (fun w4 hO4 => ?_)
      rintro _ ⟨p4_14, c4_14, rfl, hA4_14⟩
      refine VL.toOwn hO4 ?_
      refine VL.call Try.func31 rfl (by decide) rfl (fun w' hw => refJoin_O (ls := [be 1 (x.src), be 1 (x.dst), be 1 (x.kind), ((chainO x.chain).getD []), x.body, x.sig]) hw (hA4_14.nowA (s := ⟨w4, _⟩) (Mono.slice Mono.byte) hw)) (fun v => ?_)
      refine VL.at (fun w9 h1w => ?_)
      obtain ⟨g9, c9, rfl, hO9⟩ := h1w
      refine VL.toOwn hO9 ?_
      exact VL.finK2 rfl (fun _ h => h.subA) (fun _ h => ⟨_, _, rfl, h.subA⟩)
     refine Obs3.cons ?_ ?_
     ·refine obA3 (by kernel_rfl) rfl (by kernel_rfl) (fun w4 hO4 => ?_)
      rintro _ ⟨g8, c8, rfl, hR8⟩
      refine VL.extract rfl rfl ?_
      exact VL.finS2 hO4 rfl ⟨_, _, rfl, hR8⟩
     refine Obs3.cons ?_ ?_
     ·refine obA3 (by kernel_rfl) rfl (by kernel_rfl) (fun w4 hO4 => ?_)
      rintro _ ⟨g8, c8, rfl, hR8⟩
      refine VL.extract rfl rfl ?_
      exact VL.finS2 hO4 rfl rfl
     exact Obs3.nil
    case end4 =>
     intro w4 hO4
     rintro _ ⟨g8, c8, rfl, hR8⟩ _ rfl
     refine VL.toOwn hR8 ?_
     refine VL.assign rfl ?_
     refine VL.assign rfl ?_
     refine VL.nn ?_
     refine VC.ret ?_
     refine VX.ret2 rfl rfl rfl (fun we hw => ?_)
     exact postRow (pktO_good hs (kindIn_of.2 ⟨h2_5, h2_10⟩)) ⟨_, _, rfl, hw.subA⟩

end Go.Proofs.Ytcfecmoagfgnaaa

/- The rules of the walks, continued: bytes that are read, owned or not: a view. -/
namespace Go.Vc

/-- Whatever else is owned on top, and whatever worlds are kept beside: there these bytes lie. -/
def Vw (S : List Snap) (H : List Chunk) (p : Option Addr) (l : List UInt8) (c : Nat) : Prop :=
  ∀ S' A w', (∀ s ∈ S, s ∈ S') → Own S' (A ++ H) w' → Bytes [] w' p l c

theorem Arr.bare {X : Type} {sz : Nat} {R : Rel X} {K : List Nat} {w : World} {p : Option Addr} {xs : List X} {c : Nat} (h : Arr sz R K w p xs c) (hR : Mono R) : Arr sz R [] w p xs c :=
 Arr.after (s := ⟨w, K⟩) h hR ⟨⟨rfl, rfl, rfl, Nat.le_refl _, fun _ _ _ => rfl⟩, by simp⟩

theorem Vw.of {S : List Snap} {H : List Chunk} {s : Snap} {p : Option Addr} {l : List UInt8} {c : Nat} (hs : s ∈ S) (h : Bytes s.K s.w p l c) : Vw S H p l c :=
 fun _ _ _ hS ho => (h.now Mono.byte ho (hS s hs)).bare Mono.byte

theorem Vw.up {S S1 : List Snap} {H : List Chunk} {p : Option Addr} {l : List UInt8} {c : Nat} (h : Vw S H p l c) (A : List Chunk) (hS : ∀ s ∈ S, s ∈ S1) : Vw S1 (A ++ H) p l c :=
 fun S' B w' h1 ho => h S' (B ++ A) w' (fun s hs => h1 s (hS s hs)) (by rw [List.append_assoc]; exact ho)

theorem Vw.ofRow {S : List Snap} {H : List Chunk} {e : TypeId} {g : Option Nat} {c m : Nat} {xs : List Value} {l : List UInt8} (i : Nat) (hi : H[i]? = some (row e 1 g m c xs)) (hm : m = l.length) (hx : xs = l.map bv) : Vw S H (g.map fun g => ⟨g, 0, none⟩) l c :=
 fun S' A w' _ ho => by
  have hi2 : (A ++ H)[A.length + i]? = some (row e 1 g m c xs) := by rw [List.getElem?_append_right (by omega), Nat.add_sub_cancel_left]; exact hi
  exact ((ho.perm (perm_at hi2).symm).letBytes hm hx).bare Mono.byte

section
variable {P : Program} {n : Nat} {Q : Exit → Act → World → Prop} {σ : Sl} {G : World → Prop} {ops : Array Oper} {rest : List Oper}
variable {d : Nat} {ty : TypeId} {pos : String} {aft : Array Edge}
variable {S : List Snap} {H H' : List Chunk}

theorem VL.rowByte {t e : TypeId} {x : Operand} {g m c j : Nat} {l : List UInt8} {y : UInt8} (i : Nat) (hx : ev σ x = some (.pointer (some ⟨g, j, none⟩))) (ht : kindOf P t = some none) (hG : ∀ w, G w → Own S H w) (hi : H[i]? = some (row e 1 (some g) m c (l.map bv))) (hy : l[j]? = some y)
  (k : VL P n ops Q rest ((d, bv y) :: σ) G) (hdn : Nat.blt d n = true := by rfl) : VL P n ops Q (⟨some d, .load t x, ty, pos, aft, none⟩ :: rest) σ G :=
 VL.val rfl rfl hdn (fun b w hb hw => by
  obtain ⟨hrow, _⟩ := (hG w hw).holds _ (List.mem_of_getElem? hi)
  have hc := hrow.cells (g := g) rfl j (bv y) (by rw [List.getElem?_map, hy]; rfl)
  rw [add_lit, Nat.zero_add] at hc
  simp [execOp, hb.ev hx, run_load_cell ht hc]) k

end
end Go.Vc

/- bag: what the caller owns, laid. -/
namespace Go.Proofs.Ytcfecmoagfgnaaa
open Go.Vc Go.Pl

theorem lawBytes_own {S : List Snap} {H : List Chunk} {w : World} (ho : Own S H w) {a b : Nat} (ha : a < 256) (hb : b < 256) {p : Option Addr} {l : List UInt8} {c : Nat} (hA : Bytes (keys H) w p l c) : Calls Try.prog 41 #[.int .u8 (a : Int), .int .u8 (b : Int), .slice p l.length c] w (Ret fun v w' => ∃ g c', v = rowV g (lawB a b l).length c' ∧ Own S (row 5 1 g (lawB a b l).length c' ((lawB a b l).map bv) :: H) w') := by
 refine enter (G := Own (⟨w, keys H⟩ :: S) H) ho.keep Try.func41 rfl Try.ntmps41 rfl ?_
 refine VC.sr ?_
 refine VL.assign rfl ?_
 refine VL.nn ?_
 refine VC.sr ?_
 refine VL.move rfl ?_
 refine VL.move rfl ?_
 refine VL.move rfl ?_
 refine VL.build (zs := pktZ) (L := pktFL) [(0, [.int .u8 (a)]), (1, [.int .u8 (b)]), (2, [.int .u8 (1)]), (4, [.slice p (l).length c])] plan118 rfl ⟨⟨rfl, ⟨_, rfl, rfl⟩, rfl⟩, ⟨⟨rfl, ⟨_, rfl, rfl⟩, rfl⟩, ⟨⟨rfl, ⟨_, rfl, rfl⟩, rfl⟩, ⟨⟨rfl, ⟨_, rfl, rfl⟩, rfl⟩, trivial⟩⟩⟩⟩ rfl ?_
 refine VL.newv (v' := .agg (cat (pktV ((lawPkt a b l)) none 0 p c)).toArray) rfl ?_
 refine VL.call Try.func91 rfl (by decide) rfl (fun w' hw => refPkt_own hw (x := (lawPkt a b l)) (lawPkt_ok l ha hb) Arr.none (hA.nowA (s := ⟨w, _⟩) Mono.byte hw)) (fun v => ?_)
 refine VL.at (fun w1 h1w => ?_)
 obtain ⟨g2, c3, rfl, hO4⟩ := h1w
 refine VL.toOwn hO4 ?_
 refine VL.move rfl ?_
 refine VL.extract rfl rfl ?_
 refine VL.extract rfl rfl ?_
 refine VL.assign rfl ?_
 refine VL.assign rfl ?_
 refine VL.nn ?_
 refine VC.sr ?_
 refine VL.move rfl ?_
 refine VL.assign rfl ?_
 refine VL.nn ?_
 refine VC.ret ?_
 refine VX.ret1 rfl rfl (fun we hw => ?_)
 exact ⟨_, _, rfl, hw.subA⟩

theorem Own.memoOf {S : List Snap} {H : List Chunk} {w : World} (ho : Own S H w) {ks : List Nat} (hs : ks.Sublist (keys H)) : Own [⟨w, ks⟩] [memo w ks] w :=
 ⟨by rw [keys_memo]; exact hs.nodup ho.nodup, by rw [keys_memo]; exact fun k hk => ho.lt k (hs.subset hk), fun c hc => by
  rw [List.mem_singleton] at hc
  subst hc
  exact fun _ _ => rfl, fun s hm => by
  rw [List.mem_singleton] at hm
  subst hm
  exact ⟨Snap.ok_refl _ _, fun k hk => .inl (by rw [keys_memo] at hk; exact hk)⟩⟩
theorem Vw.ofMemo {w : World} {ks : List Nat} {p : Option Addr} {l : List UInt8} {c : Nat} (hB : Bytes [] w p l c) : Vw [⟨w, ks⟩] [memo w ks] p l c := fun S' A w' hS ho => by
 obtain ⟨h1, _⟩ := ho.snap ⟨w, ks⟩ (hS _ (by simp))
 have h2 : ∀ k ∈ ks, w'.heap[k]? = w.heap[k]? := ho.holds (memo w ks) (by simp)
 exact Arr.after (s := ⟨w, []⟩) hB Mono.byte ⟨⟨h1.os, h1.tape, h1.output, h1.size, fun k hk _ => by
  by_cases hm : k ∈ ks
  ·exact h2 k hm
  ·exact h1.block k hk hm⟩, by simp⟩
theorem getPkt_v {S : List Snap} {H : List Chunk} {w : World} (ho : Own S H w) {p : Option Addr} {l : List UInt8} {c : Nat} (hB : Bytes [] w p l c) : Calls Try.prog 81 #[.slice p l.length c] w (Ret fun v w' => ∃ q d p c, v = .tuple #[.agg (cat (pktV ((pktR l).getD pkt0) q d p c)).toArray, .int .i64 ((pktW l : Nat) : Int)] ∧ Own S H w') := by
 let ks := (keys H).filter fun k => decide (p.map (·.block) ≠ some k)
 have hs : ks.Sublist (keys H) := List.filter_sublist
 have hA : Bytes (keys [memo w ks]) w p l c := by
  rw [keys_memo]
  obtain ⟨a1, a2, a3, a4⟩ := hB
  refine ⟨a1, a2, a3, fun a ea hc => ?_⟩
  obtain ⟨b1, _, b3, b4⟩ := a4 a ea hc
  refine ⟨b1, fun hm => ?_, b3, b4⟩
  have := (List.mem_filter.1 hm).2
  rw [ea] at this
  simp at this
 exact calls_mono (getPkt_w (Own.memoOf ho hs) hA) fun v w' ⟨q, d, p', c', e, h1, _, _⟩ => ⟨q, d, p', c', e, ho.later (grown h1)⟩

theorem cloneVT_some {S : List Snap} {H : List Chunk} {w : World} (ho : Own S H w) {a : Addr} {l : List UInt8} {c : Nat} (hA : Vw S H (some a) l c) (hl : l.length ≤ 140737488351232) : Calls Try.prog 109 #[.slice (some a) l.length c] w (Ret fun v w' => ∃ p' c', v = .slice p' l.length c' ∧ Own S H w' ∧ BytesT (keys H) w' p' l c') := by
 refine enter (G := Own (⟨w, keys H⟩ :: S) H) ho.keep Try.func109 rfl Try.ntmps109 rfl ?_
 refine VC.sr ?_
 refine VL.assign rfl ?_
 refine VL.nn ?_
 refine VC.seq ?_
 refine VC.sr ?_
 refine VL.move rfl ?_
 refine VL.eqnil Try.underlying24 rfl rfl ?_
 refine VL.nn ?_
 refine VC.no rfl ?_
 refine VC.skip ?_
 refine VX.next ?_
 refine VC.sr ?_
 refine VL.lit el24 rfl rfl rfl (by simp) (by simp [ok1]) (fun g => ?_)
 refine VL.move rfl ?_
 refine VL.append 0 el24 rfl rfl rfl rfl (fun w1 h => (hA _ [_] w1 (fun s hs => List.mem_cons_of_mem _ hs) h).bytes) (by simp) (ok1_bytes l) (by omega) (by omega) (fun g1 c1 => ?_)
 refine VL.assign rfl ?_
 refine VL.nn ?_
 refine VC.ret ?_
 refine VX.ret1 rfl rfl (fun we hw => ?_)
 have hb := hw.letBytes (l := l) (by omega) (by simp)
 refine ⟨_, _, by simp [rowV], hw.drop.lose, hb, fun _ a ea => ?_⟩
 obtain ⟨hrow, _⟩ := hw.holds (row 5 1 g1 (0 + l.length) c1 ([] ++ l.map bv)) (by simp)
 cases g1 with
 | none => cases ea
 | some g1 =>
  cases ea
  rcases hrow.2 with ⟨e1, _⟩ | ⟨g2, cap1, cur, e1, _, e3, _⟩
  ·simp [rowV] at e1
  ·simp [rowV] at e1
   obtain ⟨rfl, rfl⟩ := e1
   exact ⟨_, _, e3⟩

theorem cloneVA {S : List Snap} {H : List Chunk} {w : World} (ho : Own S H w) {p : Option Addr} {l : List UInt8} {c : Nat} (hB : Bytes [] w p l c) (hl : l.length ≤ 140737488351232) {K' : List Nat} (hK : ∀ k ∈ K', k ∈ keys H) : Calls Try.prog 109 #[.slice p l.length c] w (Ret fun v w' => ∃ p' c', v = .slice p' l.length c' ∧ Snap.ok ⟨w, []⟩ w' ∧ BytesT K' w' p' l c') := by
 cases p with
 | none =>
  have h1 := hB.nil rfl
  have h2 := hB.le
  obtain rfl : l = [] := List.eq_nil_of_length_eq_zero (by omega)
  exact calls_mono (cloneT_nil ho.memo (c := c)) fun v w' ⟨e, h3⟩ => ⟨none, 0, e, grown h3, Arr.none, fun h => by omega⟩
 | some a =>
  refine calls_mono (cloneVT_some ho.memo (Vw.ofMemo hB) hl) fun v w' ⟨p', c', e, h3, h4, h5⟩ => ?_
  rw [keys_memo] at h4
  exact ⟨p', c', e, grown h3, h4.keysTo Mono.byte hK, h5⟩

theorem layV_no2 {S : List Snap} {H : List Chunk} {w : World} (ho : Own S H w) {xs : List Par} {p : Option Addr} {c : Nat} (hX : Arr 4 parR (keys H) w p xs c) (hl : xs.length ≤ 1000) {l : List UInt8} {p1 : Option Addr} {c1 : Nat} (hV : Vw S H p1 l c1) {now : Nat} (hnow : now < 4294967296) (h1 : pktW l = 0) (h2 : ¬ servN ((pktR l).getD pkt0).src < 4) : Calls Try.prog 42 #[.slice p xs.length c, .slice p1 l.length c1, .int .u32 (now : Int)] w (Ret fun v w' => ∃ q d, v = .tuple #[.slice q xs.length d, .bool false] ∧ Own S H w' ∧ Arr 4 parR (keys H) w' q xs d) := by
 refine enter (G := Own (⟨w, keys H⟩ :: S) H) ho.keep Try.func42 rfl Try.ntmps42 rfl ?_
 refine VC.sr ?_
 refine VL.assign rfl ?_
 refine VL.assign rfl ?_
 refine VL.nn ?_
 refine VC.sr ?_
 refine VL.move rfl ?_
 refine VL.call Try.func81 rfl (by decide) rfl (fun w' hw => getPkt_v hw (hV _ [] _ (fun s hs => List.mem_cons_of_mem _ hs) hw)) (fun v => ?_)
 refine VL.at (fun w1 h1w => ?_)
 obtain ⟨q3, d4, p5, c6, rfl, hO2⟩ := h1w
 refine VL.toOwn hO2 ?_
 refine VL.move rfl ?_
 refine VL.extract rfl rfl ?_
 refine VL.extract rfl rfl ?_
 refine VL.alloc (L := pktL) (ps := (pktV (pkt0) none 0 none 0)) zero118 rfl rfl (fun g7 => ?_)
 refine VL.store (L := pktL) (qs := (pktV (((pktR l).getD pkt0)) q3 d4 p5 c6)) (ps' := (pktV (((pktR l).getD pkt0)) q3 d4 p5 c6)) 0 0 6 rfl rfl rfl (.inl kd118) rfl rfl (pktV_len (pktR_ok l)) (pktV_ok1 (((pktR l).getD pkt0)) q3 d4 p5 c6) rfl rfl ?_
 refine VL.set0 ?_
 refine VL.assign rfl ?_
 refine VL.nn ?_
 refine VC.sr ?_
 refine VL.fieldAddr rfl fo118_0 rfl ?_
 refine VL.load (v := .int .u8 (((pktR l).getD pkt0).src)) 0 0 rfl kd5 (fun _ h => h) rfl rfl rfl ?_
 refine VL.call Try.func112 rfl (by decide) rfl (fun w' hw => spot_no hw (((pktR l).getD pkt0).src) (pktR_ok l).src h2) (fun v => ?_)
 refine VL.fact fun e8 => ?_
 subst e8
 refine VL.move rfl ?_
 refine VL.extract rfl rfl ?_
 refine VL.extract rfl rfl ?_
 refine VL.assign rfl ?_
 refine VL.assign rfl ?_
 refine VL.nn ?_
 refine VC.sr ?_
 refine VL.fieldAddr rfl fo118_1 rfl ?_
 refine VL.load (v := .int .u8 (((pktR l).getD pkt0).dst)) 0 1 rfl kd5 (fun _ h => h) rfl rfl rfl ?_
 refine VL.call Try.func112 rfl (by decide) rfl (fun w' hw => bagspot_w hw (((pktR l).getD pkt0).dst) (pktR_ok l).dst) (fun v => ?_)
 refine VL.fact fun e9 => ?_
 subst e9
 refine VL.move rfl ?_
 refine VL.extract rfl rfl ?_
 refine VL.extract rfl rfl ?_
 refine VL.assign rfl ?_
 refine VL.assign rfl ?_
 refine VL.nn ?_
 refine VC.seq ?_
 refine VC.sr ?_
 refine VL.move rfl ?_
 refine VL.neq rfl rfl ?_
 refine VL.no (by omega) ?_
 refine VL.move rfl ?_
 refine VL.go rfl rfl rfl ?_
 refine VL.move rfl ?_
 refine VL.go rfl rfl rfl ?_
 refine VL.not rfl ?_
 refine VL.pick_f rfl rfl ?_
 refine VL.move rfl ?_
 refine VL.pass rfl rfl rfl rfl rfl ?_
 refine VL.pass rfl rfl rfl rfl rfl ?_
 refine VL.pick_t rfl rfl ?_
 refine VL.move rfl ?_
 refine VL.pass rfl rfl rfl rfl rfl ?_
 refine VL.pass rfl rfl rfl rfl rfl ?_
 refine VL.pass rfl rfl rfl rfl rfl ?_
 refine VL.pick_t rfl rfl ?_
 refine VL.nn ?_
 refine VC.yes rfl ?_
 refine VC.sr ?_
 refine VL.move rfl ?_
 refine VL.call Try.func110 rfl (by decide) rfl (fun w' hw => clone_p hw (hX.nowA (s := ⟨w, _⟩) Mono_par hw) (by omega)) (fun v => ?_)
 refine VL.at (fun w12 h1w => ?_)
 obtain ⟨gv10, cv11, rfl, hO13⟩ := h1w
 refine VL.toOwn hO13 ?_
 refine VL.assign rfl ?_
 refine VL.assign rfl ?_
 refine VL.nn ?_
 refine VC.ret ?_
 refine VX.then_ret ?_
 refine VX.ret2 rfl rfl rfl (fun we hw => ?_)
 have h7 := (ownDropK 1 hw)
 exact ⟨_, _, rfl, h7.drop.subA, h7.letArr⟩

theorem layV_no3 {S : List Snap} {H : List Chunk} {w : World} (ho : Own S H w) {xs : List Par} {p : Option Addr} {c : Nat} (hX : Arr 4 parR (keys H) w p xs c) (hl : xs.length ≤ 1000) {l : List UInt8} {p1 : Option Addr} {c1 : Nat} (hV : Vw S H p1 l c1) {now : Nat} (hnow : now < 4294967296) (h1 : pktW l = 0) (h2 : servN ((pktR l).getD pkt0).src < 4) (h3 : ¬ servN ((pktR l).getD pkt0).dst < 4) : Calls Try.prog 42 #[.slice p xs.length c, .slice p1 l.length c1, .int .u32 (now : Int)] w (Ret fun v w' => ∃ q d, v = .tuple #[.slice q xs.length d, .bool false] ∧ Own S H w' ∧ Arr 4 parR (keys H) w' q xs d) := by
 refine enter (G := Own (⟨w, keys H⟩ :: S) H) ho.keep Try.func42 rfl Try.ntmps42 rfl ?_
 refine VC.sr ?_
 refine VL.assign rfl ?_
 refine VL.assign rfl ?_
 refine VL.nn ?_
 refine VC.sr ?_
 refine VL.move rfl ?_
 refine VL.call Try.func81 rfl (by decide) rfl (fun w' hw => getPkt_v hw (hV _ [] _ (fun s hs => List.mem_cons_of_mem _ hs) hw)) (fun v => ?_)
 refine VL.at (fun w1 h1w => ?_)
 obtain ⟨q3, d4, p5, c6, rfl, hO2⟩ := h1w
 refine VL.toOwn hO2 ?_
 refine VL.move rfl ?_
 refine VL.extract rfl rfl ?_
 refine VL.extract rfl rfl ?_
 refine VL.alloc (L := pktL) (ps := (pktV (pkt0) none 0 none 0)) zero118 rfl rfl (fun g7 => ?_)
 refine VL.store (L := pktL) (qs := (pktV (((pktR l).getD pkt0)) q3 d4 p5 c6)) (ps' := (pktV (((pktR l).getD pkt0)) q3 d4 p5 c6)) 0 0 6 rfl rfl rfl (.inl kd118) rfl rfl (pktV_len (pktR_ok l)) (pktV_ok1 (((pktR l).getD pkt0)) q3 d4 p5 c6) rfl rfl ?_
 refine VL.set0 ?_
 refine VL.assign rfl ?_
 refine VL.nn ?_
 refine VC.sr ?_
 refine VL.fieldAddr rfl fo118_0 rfl ?_
 refine VL.load (v := .int .u8 (((pktR l).getD pkt0).src)) 0 0 rfl kd5 (fun _ h => h) rfl rfl rfl ?_
 refine VL.call Try.func112 rfl (by decide) rfl (fun w' hw => spot_yes hw (((pktR l).getD pkt0).src) (pktR_ok l).src h2) (fun v => ?_)
 refine VL.fact fun e8 => ?_
 subst e8
 refine VL.move rfl ?_
 refine VL.extract rfl rfl ?_
 refine VL.extract rfl rfl ?_
 refine VL.assign rfl ?_
 refine VL.assign rfl ?_
 refine VL.nn ?_
 refine VC.sr ?_
 refine VL.fieldAddr rfl fo118_1 rfl ?_
 refine VL.load (v := .int .u8 (((pktR l).getD pkt0).dst)) 0 1 rfl kd5 (fun _ h => h) rfl rfl rfl ?_
 refine VL.call Try.func112 rfl (by decide) rfl (fun w' hw => spot_no hw (((pktR l).getD pkt0).dst) (pktR_ok l).dst h3) (fun v => ?_)
 refine VL.fact fun e9 => ?_
 subst e9
 refine VL.move rfl ?_
 refine VL.extract rfl rfl ?_
 refine VL.extract rfl rfl ?_
 refine VL.assign rfl ?_
 refine VL.assign rfl ?_
 refine VL.nn ?_
 refine VC.seq ?_
 refine VC.sr ?_
 refine VL.move rfl ?_
 refine VL.neq rfl rfl ?_
 refine VL.no (by omega) ?_
 refine VL.move rfl ?_
 refine VL.go rfl rfl rfl ?_
 refine VL.move rfl ?_
 refine VL.go rfl rfl rfl ?_
 refine VL.not rfl ?_
 refine VL.pick_f rfl rfl ?_
 refine VL.move rfl ?_
 refine VL.go rfl rfl rfl ?_
 refine VL.move rfl ?_
 refine VL.go rfl rfl rfl ?_
 refine VL.not rfl ?_
 refine VL.pick_f rfl rfl ?_
 refine VL.move rfl ?_
 refine VL.pass rfl rfl rfl rfl rfl ?_
 refine VL.pass rfl rfl rfl rfl rfl ?_
 refine VL.pass rfl rfl rfl rfl rfl ?_
 refine VL.pick_t rfl rfl ?_
 refine VL.nn ?_
 refine VC.yes rfl ?_
 refine VC.sr ?_
 refine VL.move rfl ?_
 refine VL.call Try.func110 rfl (by decide) rfl (fun w' hw => clone_p hw (hX.nowA (s := ⟨w, _⟩) Mono_par hw) (by omega)) (fun v => ?_)
 refine VL.at (fun w12 h1w => ?_)
 obtain ⟨gv10, cv11, rfl, hO13⟩ := h1w
 refine VL.toOwn hO13 ?_
 refine VL.assign rfl ?_
 refine VL.assign rfl ?_
 refine VL.nn ?_
 refine VC.ret ?_
 refine VX.then_ret ?_
 refine VX.ret2 rfl rfl rfl (fun we hw => ?_)
 have h7 := (ownDropK 1 hw)
 exact ⟨_, _, rfl, h7.drop.subA, h7.letArr⟩

theorem layV_yes {S : List Snap} {H : List Chunk} {w : World} (ho : Own S H w) {xs : List Par} {p : Option Addr} {c : Nat} (hX : Arr 4 parR (keys H) w p xs c) (hl : xs.length ≤ 1000) {l : List UInt8} {p1 : Option Addr} {c1 : Nat} (hV : Vw S H p1 l c1) {now : Nat} (hnow : now < 4294967296) (h1 : pktW l = 0) (h2 : servN ((pktR l).getD pkt0).src < 4) (h3 : servN ((pktR l).getD pkt0).dst < 4) (h4 : xs.length < 64) (hb : l.length ≤ 140737488351232) : Calls Try.prog 42 #[.slice p xs.length c, .slice p1 l.length c1, .int .u32 (now : Int)] w (Ret fun v w' => ∃ q d, v = .tuple #[.slice q (xs ++ [(layP l now)]).length d, .bool true] ∧ Own S H w' ∧ Arr 4 parR (keys H) w' q (xs ++ [(layP l now)]) d) := by
 have hfn := farN_le (servN ((pktR l).getD pkt0).src) (servN ((pktR l).getD pkt0).dst)
 have hmn : min (now + 1 + farN (servN ((pktR l).getD pkt0).src) (servN ((pktR l).getD pkt0).dst)) 4294967295 < 4294967296 := by omega
 refine enter (G := Own (⟨w, keys H⟩ :: S) H) ho.keep Try.func42 rfl Try.ntmps42 rfl ?_
 refine VC.sr ?_
 refine VL.assign rfl ?_
 refine VL.assign rfl ?_
 refine VL.nn ?_
 refine VC.sr ?_
 refine VL.move rfl ?_
 refine VL.call Try.func81 rfl (by decide) rfl (fun w' hw => getPkt_v hw (hV _ [] _ (fun s hs => List.mem_cons_of_mem _ hs) hw)) (fun v => ?_)
 refine VL.at (fun w1 h1w => ?_)
 obtain ⟨q3, d4, p5, c6, rfl, hO2⟩ := h1w
 refine VL.toOwn hO2 ?_
 refine VL.move rfl ?_
 refine VL.extract rfl rfl ?_
 refine VL.extract rfl rfl ?_
 refine VL.alloc (L := pktL) (ps := (pktV (pkt0) none 0 none 0)) zero118 rfl rfl (fun g7 => ?_)
 refine VL.store (L := pktL) (qs := (pktV (((pktR l).getD pkt0)) q3 d4 p5 c6)) (ps' := (pktV (((pktR l).getD pkt0)) q3 d4 p5 c6)) 0 0 6 rfl rfl rfl (.inl kd118) rfl rfl (pktV_len (pktR_ok l)) (pktV_ok1 (((pktR l).getD pkt0)) q3 d4 p5 c6) rfl rfl ?_
 refine VL.set0 ?_
 refine VL.assign rfl ?_
 refine VL.nn ?_
 refine VC.sr ?_
 refine VL.fieldAddr rfl fo118_0 rfl ?_
 refine VL.load (v := .int .u8 (((pktR l).getD pkt0).src)) 0 0 rfl kd5 (fun _ h => h) rfl rfl rfl ?_
 refine VL.call Try.func112 rfl (by decide) rfl (fun w' hw => spot_yes hw (((pktR l).getD pkt0).src) (pktR_ok l).src h2) (fun v => ?_)
 refine VL.fact fun e8 => ?_
 subst e8
 refine VL.move rfl ?_
 refine VL.extract rfl rfl ?_
 refine VL.extract rfl rfl ?_
 refine VL.assign rfl ?_
 refine VL.assign rfl ?_
 refine VL.nn ?_
 refine VC.sr ?_
 refine VL.fieldAddr rfl fo118_1 rfl ?_
 refine VL.load (v := .int .u8 (((pktR l).getD pkt0).dst)) 0 1 rfl kd5 (fun _ h => h) rfl rfl rfl ?_
 refine VL.call Try.func112 rfl (by decide) rfl (fun w' hw => spot_yes hw (((pktR l).getD pkt0).dst) (pktR_ok l).dst h3) (fun v => ?_)
 refine VL.fact fun e9 => ?_
 subst e9
 refine VL.move rfl ?_
 refine VL.extract rfl rfl ?_
 refine VL.extract rfl rfl ?_
 refine VL.assign rfl ?_
 refine VL.assign rfl ?_
 refine VL.nn ?_
 refine VC.seq ?_
 refine VC.sr ?_
 refine VL.move rfl ?_
 refine VL.neq rfl rfl ?_
 refine VL.no (by omega) ?_
 refine VL.move rfl ?_
 refine VL.go rfl rfl rfl ?_
 refine VL.move rfl ?_
 refine VL.go rfl rfl rfl ?_
 refine VL.not rfl ?_
 refine VL.pick_f rfl rfl ?_
 refine VL.move rfl ?_
 refine VL.go rfl rfl rfl ?_
 refine VL.move rfl ?_
 refine VL.go rfl rfl rfl ?_
 refine VL.not rfl ?_
 refine VL.pick_f rfl rfl ?_
 refine VL.move rfl ?_
 refine VL.go rfl rfl rfl ?_
 refine VL.move rfl ?_
 refine VL.go rfl rfl rfl ?_
 refine VL.len Try.underlying47 rfl rfl ?_
 refine VL.go rfl rfl rfl ?_
 refine VL.geq rfl rfl ?_
 refine VL.no (by omega) ?_
 refine VL.pick_f rfl rfl ?_
 refine VL.nn ?_
 refine VC.no rfl ?_
 refine VC.skip ?_
 refine VX.next ?_
 refine VC.sr ?_
 refine VL.move rfl ?_
 refine VL.move rfl ?_
 refine VL.call Try.func113 rfl (by decide) rfl (fun w' hw => far_w hw h2 h3) (fun v => ?_)
 refine VL.fact fun e10 => ?_
 subst e10
 refine VL.move rfl ?_
 refine VL.extract rfl rfl ?_
 refine VL.extract rfl rfl ?_
 refine VL.assign rfl ?_
 refine VL.assign rfl ?_
 refine VL.nn ?_
 refine VC.sr ?_
 refine VL.move rfl ?_
 refine VL.conv (by rw [Try.underlying48]; rfl) Try.underlying22 rfl (inr_u64 (by omega)) ?_
 refine VL.add rfl rfl (inr_u64c (by omega) (by omega)) ?_
 refine VL.newv (v' := .int .u64 ((now + 1 : Nat) : Int)) (congrArg (Value.int .u64) (by omega)) ?_
 refine VL.move rfl ?_
 refine VL.conv (by rw [Try.underlying3]; rfl) Try.underlying22 rfl (inr_u64c (by omega) (by omega)) ?_
 refine VL.add rfl rfl (inr_u64c (by omega) (by omega)) ?_
 refine VL.newv (v' := .int .u64 ((now + 1 + farN (servN ((pktR l).getD pkt0).src) (servN ((pktR l).getD pkt0).dst) : Nat) : Int)) (congrArg (Value.int .u64) (by omega)) ?_
 refine VL.min2 rfl rfl ?_
 refine VL.newv (v' := .int .u64 ((min (now + 1 + farN (servN ((pktR l).getD pkt0).src) (servN ((pktR l).getD pkt0).dst)) 4294967295 : Nat) : Int)) (congrArg (Value.int .u64) (by omega)) ?_
 refine VL.assign rfl ?_
 refine VL.nn ?_
 refine VC.seq ?_
 refine VC.turn (G' := Own (⟨w, keys H⟩ :: S) (blk g7 118 pktL (pktV (((pktR l).getD pkt0)) q3 d4 p5 c6) :: H)) (fun _ h => h.subA) ?_
 refine VC.letCells 0 rfl (fun w11 hO13 hF12 => ?_)
 apply VC.anyT2 10 1 (F := [eqF _, lateF (fun v w' => ∃ g c', v = rowV g xs.length c' ∧ Own (⟨w, keys H⟩ :: S) (arow 50 4 parR Mono_par g c' xs :: (H)) w'), eqF _, eqF _, eqF _, eqF _, eqF _, eqF _, eqF _, bytesTF l]) ?gr8 [⟨[], [0]⟩, ⟨[(64, 0)], []⟩, ⟨[], [8]⟩, ⟨[(66, 2)], []⟩, ⟨[], [8]⟩, ⟨[(68, 4)], []⟩, ⟨[], [16]⟩, ⟨[(70, 6)], []⟩, ⟨[], [1]⟩, ⟨[(72, 8), (65, 1)], []⟩] [(65, 1), (67, 3), (69, 5), (71, 7), (73, 9)] [0, 1, 2, 6, 7, 8, 9, 10, 11, 12, 13, 14, 17, 18, 19, 20, 21, 22, 23, 24, 25, 26, 27, 28, 29, 30, 31, 32, 33, 34, 35, 36, 37, 38, 39, 40, 41, 42, 43, 44, 45, 46, 47, 48, 49, 50, 51, 52, 53, 54, 55, 56, 57, 58, 59, 60, 61, 62, 63, 74, 75, 76] rfl (by kernel_rfl) (by kernel_rfl) rfl rfl (by kernel_rfl) (by kernel_rfl) (by kernel_rfl) rfl ?obs8 ?end8
 case gr8 =>
  intro f hf hl7 v w1 w2 hs h
  simp only [List.mem_cons, List.not_mem_nil, or_false] at hf
  rcases hf with rfl | rfl | rfl | rfl | rfl | rfl | rfl | rfl | rfl | rfl <;> first | (cases hl7; done) | skip
  obtain ⟨g, c', e, h2⟩ := h
  exact ⟨g, c', e, h2.later hs⟩
 case obs8 =>
  refine Obs.cons ?_ ?_
  ·refine obS2 (by kernel_rfl) rfl rfl (fun ph8 w8 hO8 => ?_)
   refine VL.move rfl ?_
   exact VL.finS2 hO8 rfl rfl
  refine Obs.cons ?_ ?_
  ·refine obK2 (by kernel_rfl) rfl (fun w8 hO8 => ?_)
   rintro _ rfl
   refine VL.toOwn hO8 ?_
   refine VL.call Try.func110 rfl (by decide) rfl (fun w' hw => clone_p hw (hX.nowA (s := ⟨w, _⟩) Mono_par hw) hl) (fun v => ?_)
   refine VL.at (fun w9 h1w => ?_)
   obtain ⟨g9, c9, rfl, hO9⟩ := h1w
   refine VL.toOwn hO9 ?_
   exact VL.finK2 rfl (fun _ h => h.subA) (fun _ h => ⟨_, _, rfl, h.subA⟩)
  refine Obs.cons ?_ ?_
  ·refine obS2 (by kernel_rfl) rfl rfl (fun ph8 w8 hO8 => ?_)
   refine VL.fieldAddr rfl fo118_0 rfl ?_
   exact VL.finS2 hO8 rfl rfl
  refine Obs.cons ?_ ?_
  ·refine obS2 (by kernel_rfl) rfl rfl (fun ph8 w8 hO8 => ?_)
   rintro _ rfl
   refine VL.loadF (s := ⟨w11, _⟩) (v := .int .u8 (((pktR l).getD pkt0).src)) 0 rfl kd5 hF12 (fun _ e => e ▸ Still.ok hO8 (by repeat (first | exact List.mem_cons_self .. | apply List.mem_cons_of_mem))) rfl rfl ?_
   exact VL.finS2 hO8 rfl rfl
  refine Obs.cons ?_ ?_
  ·refine obS2 (by kernel_rfl) rfl rfl (fun ph8 w8 hO8 => ?_)
   refine VL.fieldAddr rfl fo118_1 rfl ?_
   exact VL.finS2 hO8 rfl rfl
  refine Obs.cons ?_ ?_
  ·refine obS2 (by kernel_rfl) rfl rfl (fun ph8 w8 hO8 => ?_)
   rintro _ rfl
   refine VL.loadF (s := ⟨w11, _⟩) (v := .int .u8 (((pktR l).getD pkt0).dst)) 1 rfl kd5 hF12 (fun _ e => e ▸ Still.ok hO8 (by repeat (first | exact List.mem_cons_self .. | apply List.mem_cons_of_mem))) rfl rfl ?_
   exact VL.finS2 hO8 rfl rfl
  refine Obs.cons ?_ ?_
  ·refine obS2 (by kernel_rfl) rfl rfl (fun ph8 w8 hO8 => ?_)
   refine VL.move rfl ?_
   exact VL.finS2 hO8 rfl rfl
  refine Obs.cons ?_ ?_
  ·refine obS2 (by kernel_rfl) rfl rfl (fun ph8 w8 hO8 => ?_)
   rintro _ rfl
   refine VL.conv (by rw [Try.underlying22]; rfl) Try.underlying48 rfl (by have hlt := hmn; simp only [InR]; omega) ?_
   exact VL.finS2 hO8 rfl rfl
  refine Obs.cons ?_ ?_
  ·refine obS2 (by kernel_rfl) rfl rfl (fun ph8 w8 hO8 => ?_)
   refine VL.move rfl ?_
   exact VL.finS2 hO8 rfl rfl
  refine Obs.cons ?_ ?_
  ·refine obA2 (by kernel_rfl) rfl (by kernel_rfl) (fun w8 hO8 => ?_)
   rintro _ rfl _ ⟨g8, c8, rfl, hR8⟩
   refine VL.call Try.func109 rfl (by decide) rfl (fun w' e => by subst e; exact cloneVA hR8 (hV _ [_] _ (fun s hs => List.mem_cons_of_mem _ hs) hR8) hb (fun k hk => by rw [keys_cons]; exact List.mem_append_right _ hk)) (fun v => ?_)
   refine VL.at (fun w9 h1w => ?_)
   obtain ⟨p9, c9, rfl, hg9, hB9⟩ := h1w
   exact VL.finA2 hO8 rfl (fun w e => by subst e; exact hg9) (fun w e => by subst e; exact ⟨_, _, rfl, hB9⟩)
  exact Obs.nil
 case end8 =>
  intro w8 hO8
  rintro _ ⟨g8, c8, rfl, hR8⟩ _ rfl _ rfl _ rfl _ ⟨p8, c9, rfl, hB8⟩
  have hB8' := hB8.apart hR8 (by decide)
  refine VL.toOwn hR8 ?_
  refine VL.build (zs := parZ) (L := parFL) [(0, [.int .u8 (((pktR l).getD pkt0).src)]), (1, [.int .u8 (((pktR l).getD pkt0).dst)]), (2, [.int .u32 ((min (now + 1 + farN (servN ((pktR l).getD pkt0).src) (servN ((pktR l).getD pkt0).dst)) 4294967295 : Nat))]), (3, [.slice p8 (l).length c9])] plan50 rfl ⟨⟨rfl, ⟨_, rfl, rfl⟩, rfl⟩, ⟨⟨rfl, ⟨_, rfl, rfl⟩, rfl⟩, ⟨⟨rfl, ⟨_, rfl, rfl⟩, rfl⟩, ⟨⟨rfl, ⟨_, rfl, rfl⟩, rfl⟩, trivial⟩⟩⟩⟩ rfl ?_
  refine VL.newv (v' := .agg (cat (parV ((layP l now)) p8 c9)).toArray) rfl ?_
  refine VL.lit el47 rfl rfl rfl (by intro v hv; simp only [List.mem_singleton] at hv; subst hv; rfl) (by rw [show [Value.agg (cat (parV (layP l now) p8 c9)).toArray].flatMap (·.cells.toList) = (cat (parV (layP l now) p8 c9)) by simp [Value.cells]]; exact parV_ok1 _ _ _) (fun gl => ?_)
  refine VL.letRow parR [(layP l now)] rfl (fun w' hw => one_par (layP_ok l now) (hB8'.nowA (s := ⟨w8, _⟩) Mono.byte hw)) (fun wl hOl hAl => ?_)
  refine VL.appends (R := parR) (hR := Mono_par) (ys := xs) (zs := [(layP l now)]) 0 el47 rfl rfl rfl (fun _ h => h) rfl (fun _ hw => hAl.nowA (s := ⟨wl, _⟩) Mono_par hw) parR_ok1 (by simp only [List.length_cons, List.length_nil]; omega) (fun gv2 cv2 => ?_) (by simp only [List.length_cons, List.length_nil]; omega)
  refine VL.set0 ?_
  refine VL.assign rfl ?_
  refine VL.assign rfl ?_
  refine VL.nn ?_
  refine VC.ret ?_
  refine VX.ret2 rfl rfl rfl (fun we hw => ?_)
  have h7 := hw
  exact ⟨_, _, rfl, h7.drop.subA, h7.letArr⟩

end Go.Proofs.Ytcfecmoagfgnaaa

/- bag: what is taken, owned. -/
namespace Go.Proofs.Ytcfecmoagfgnaaa
open Go.Vc Go.Pl

theorem cloneO_some {S : List Snap} {H : List Chunk} {w : World} (ho : Own S H w) {a : Addr} {l : List UInt8} {c : Nat} (hA : Bytes (keys H) w (some a) l c) (hl : l.length ≤ 140737488351232) : Calls Try.prog 109 #[.slice (some a) l.length c] w (Ret fun v w' => ∃ g c', v = rowV g l.length c' ∧ Own S (row 5 1 g l.length c' (l.map bv) :: H) w') := by
 refine enter (G := Own (⟨w, keys H⟩ :: S) H) ho.keep Try.func109 rfl Try.ntmps109 rfl ?_
 refine VC.sr ?_
 refine VL.assign rfl ?_
 refine VL.nn ?_
 refine VC.seq ?_
 refine VC.sr ?_
 refine VL.move rfl ?_
 refine VL.eqnil Try.underlying24 rfl rfl ?_
 refine VL.nn ?_
 refine VC.no rfl ?_
 refine VC.skip ?_
 refine VX.next ?_
 refine VC.sr ?_
 refine VL.lit el24 rfl rfl rfl (by simp) (by simp [ok1]) (fun g => ?_)
 refine VL.move rfl ?_
 refine VL.append 0 el24 rfl rfl rfl rfl (fun _ h => (hA.now (s := ⟨w, keys H⟩) Mono.byte h.drop (by repeat (first | exact List.mem_cons_self .. | apply List.mem_cons_of_mem))).bytes) (by simp) (ok1_bytes l) (by omega) (by omega) (fun g1 c1 => ?_)
 refine VL.assign rfl ?_
 refine VL.nn ?_
 refine VC.ret ?_
 refine VX.ret1 rfl rfl (fun we hw => ?_)
 rw [Nat.zero_add] at hw
 exact ⟨g1, c1, by rw [Nat.zero_add], hw.lose⟩

theorem cloneO {S : List Snap} {H : List Chunk} {w : World} (ho : Own S H w) {p : Option Addr} {l : List UInt8} {c : Nat} (hA : Bytes (keys H) w p l c) (hl : l.length ≤ 140737488351232) : Calls Try.prog 109 #[.slice p l.length c] w (Ret fun v w' => ∃ g c', v = rowV g l.length c' ∧ Own S (row 5 1 g l.length c' (l.map bv) :: H) w') := by
 cases p with
 | none =>
  have h1 := hA.nil rfl
  have h2 := hA.le
  obtain rfl : l = [] := List.eq_nil_of_length_eq_zero (by omega)
  exact calls_mono (cloneT_nil ho (c := c)) fun v w' ⟨e, h⟩ => ⟨none, 0, e, Own.row_nil 5 1 h⟩
 | some a => exact cloneO_some ho hA hl
theorem someRowAt {P : Program} {n : Nat} {Q : Exit → Act → World → Prop} {σ : Sl} {S : List Snap} {H : List Chunk} {e : TypeId} {sz m c : Nat} {g : Option Nat} {xs : List Value} {code : Code} (i : Nat) (hi : H[i]? = some (row e sz g m c xs)) (hm : 0 < m) (h : ∀ g', g = some g' → VC P n Q code σ (Own S H)) : VC P n Q code σ (Own S H) := fun a w ha hw => by
 obtain ⟨hrow, _⟩ := hw.holds _ (List.mem_of_getElem? hi)
 have hs := ownsRow_sizes hrow
 cases g with
 | none => have := hs.2.2.2.1 rfl; omega
 | some g' => exact h g' rfl a w ha hw

theorem takeO {S : List Snap} {H : List Chunk} {w : World} (ho : Own S H w) {xs : List Par} {p : Option Addr} {c : Nat} (hX : Arr 4 parR (keys H) w p xs c) (hl : xs.length ≤ 1000) (i : Nat) (hi : i < xs.length) (hb : (xs[i]'hi).bytes.length ≤ 140737488351232) : Calls Try.prog 40 #[.slice p xs.length c, .int .i64 (i : Int)] w (Ret fun v w' => ∃ q d g c', v = .tuple #[.slice q (xs.take i ++ xs.drop (i + 1)).length d, .agg (cat (parV (xs[i]'hi) (g.map fun g => (⟨g, 0, none⟩ : Addr)) c')).toArray, .bool true] ∧ Own S (row 5 1 g (xs[i]'hi).bytes.length c' ((xs[i]'hi).bytes.map bv) :: H) w' ∧ Arr 4 parR (keys (row 5 1 g (xs[i]'hi).bytes.length c' ((xs[i]'hi).bytes.map bv) :: H)) w' q (xs.take i ++ xs.drop (i + 1)) d) := by
 refine enter (G := Own (⟨w, keys H⟩ :: S) H) ho.keep Try.func40 rfl Try.ntmps40 rfl ?_
 refine VC.sr ?_
 refine VL.assign rfl ?_
 refine VL.alloc (L := parL) (ps := (parV (par0) none 0)) zero50 rfl rfl (fun g1 => ?_)
 refine VL.assign rfl ?_
 refine VL.nn ?_
 refine VC.sr ?_
 refine VL.move rfl ?_
 refine VL.call Try.func110 rfl (by decide) rfl (fun w' hw => clone_p hw (hX.nowA (s := ⟨w, _⟩) Mono_par hw) (by omega)) (fun v => ?_)
 refine VL.at (fun w4 h1w => ?_)
 obtain ⟨gv2, cv3, rfl, hO5⟩ := h1w
 refine VL.toOwn hO5 ?_
 refine VL.assign rfl ?_
 refine VL.nn ?_
 refine VC.seq ?_
 refine VC.sr ?_
 refine VL.move rfl ?_
 refine VL.lss rfl rfl ?_
 refine VL.no (by omega) ?_
 refine VL.move rfl ?_
 refine VL.go rfl rfl rfl ?_
 refine VL.move rfl ?_
 refine VL.go rfl rfl rfl ?_
 refine VL.move rfl ?_
 refine VL.go rfl rfl rfl ?_
 refine VL.len Try.underlying47 rfl rfl ?_
 refine VL.go rfl rfl rfl ?_
 refine VL.geq rfl rfl ?_
 refine VL.no (by omega) ?_
 refine VL.pick_f rfl rfl ?_
 refine VL.nn ?_
 refine VC.no rfl ?_
 refine VC.skip ?_
 refine VX.next ?_
 refine VC.seq ?_
 refine someArow 0 rfl (by omega) (fun g7 e7 => ?_)
 subst e7
 refine VC.region ?_
 refine VL.move rfl ?_
 refine VL.move rfl ?_
 refine VL.indexRow (k := .i64) (j := (i : Int)) (ys := xs) 0 rfl rfl Try.underlying47 sz47 (fun _ h => h) rfl (by omega) (by omega) ?_
 refine VL.elemsRow (j := i) (y := (xs[i]'hi)) 0 rfl kd50 (fun _ h => h) rfl (List.getElem?_eq_getElem hi) (by simp) (fun w5 vs hl5 hr5 => ?_)
 obtain ⟨p5, c5, hy, rfl, hA5⟩ := hr5
 refine VL.alloc (L := parL) (ps := (parV (par0) none 0)) zero50 rfl rfl (fun g6 => ?_)
 refine VL.store (L := parL) (qs := (parV ((xs[i]'hi)) p5 c5)) (ps' := (parV ((xs[i]'hi)) p5 c5)) 0 0 4 rfl rfl rfl (.inl kd50) rfl rfl (parV_len hy) (parV_ok1 ((xs[i]'hi)) p5 c5) rfl rfl ?_
 refine VL.set0 ?_
 refine VL.nn ?_
 refine VC.sr ?_
 refine VL.fieldAddr rfl fo50_3 rfl ?_
 refine VL.load (v := .slice p5 ((xs[i]'hi).bytes).length c5) 0 3 rfl kd24 (fun _ h => h) rfl rfl rfl ?_
 refine VL.call Try.func109 rfl (by decide) rfl (fun w' hw => cloneO hw (hA5.nowA (s := ⟨w5, _⟩) Mono.byte hw) hb) (fun v => ?_)
 refine VL.at (fun w7 h1w => ?_)
 obtain ⟨gB8, cB9, rfl, hO10⟩ := h1w
 refine VL.toOwn hO10 ?_
 refine VL.fieldAddr rfl fo50_3 rfl ?_
 refine VL.store (L := parL) (qs := [[.slice (gB8.map fun g => (⟨g, 0, none⟩ : Addr)) ((xs[i]'hi).bytes).length cB9]]) 1 3 1 rfl rfl rfl (.inr ⟨kd24, rfl⟩) rfl rfl rfl (by intro u hu; simp [cat] at hu; subst hu; rfl) rfl rfl ?_
 refine VL.set1 ?_
 refine VL.nn ?_
 refine VC.seq ?_
 apply VC.anyTL (row 5 1 gB8 ((xs[i]'hi).bytes).length cB9 (((xs[i]'hi).bytes).map bv) :: blk g6 50 parL [[.int .u8 ((xs[i]'hi).src)], [.int .u8 ((xs[i]'hi).dst)], [.int .u32 ((xs[i]'hi).due)], [.slice (gB8.map fun g => (⟨g, 0, none⟩ : Addr)) ((xs[i]'hi).bytes).length cB9]] :: arow 50 4 parR Mono_par (some g7) cv3 (xs.take i ++ xs.drop (i + 1)) :: blk g1 50 parL (parV (par0) none 0) :: H) 7 4 (F := [eqF _, eqF _, eqF _, eqF _, eqF _, eqF _, eqF _]) [⟨[], [0]⟩, ⟨[], [1]⟩, ⟨[], [1]⟩, ⟨[(30, 2)], []⟩, ⟨[(28, 0), (29, 1), (31, 3)], []⟩, ⟨[], [7]⟩, ⟨[(32, 4)], []⟩] [(33, 5), (4, 6)] [0, 1, 5, 6, 7, 8, 9, 10, 11, 12, 13, 14, 15, 16, 17, 18, 19, 20, 21, 22, 23, 24, 25, 26, 27] rfl (by kernel_rfl) (by kernel_rfl) rfl rfl (by kernel_rfl) (by kernel_rfl) (by kernel_rfl) rfl ?obs6 ?end6
 case obs6 =>
  refine Obs.cons ?_ ?_
  ·refine obSL (by kernel_rfl) rfl rfl (fun ph6 w6 hO6 => ?_)
   refine VL.move rfl ?_
   exact VL.finSL hO6 rfl rfl
  refine Obs.cons ?_ ?_
  ·refine obSL (by kernel_rfl) rfl rfl (fun ph6 w6 hO6 => ?_)
   refine VL.move rfl ?_
   exact VL.finSL hO6 rfl rfl
  refine Obs.cons ?_ ?_
  ·refine obSL (by kernel_rfl) rfl rfl (fun ph6 w6 hO6 => ?_)
   refine VL.move rfl ?_
   exact VL.finSL hO6 rfl rfl
  refine Obs.cons ?_ ?_
  ·refine obSL (by kernel_rfl) rfl rfl (fun ph6 w6 hO6 => ?_)
   rintro _ rfl
   refine VL.add rfl rfl (by simp only [InR]; omega) ?_
   exact VL.finSL hO6 rfl rfl
  refine Obs.cons ?_ ?_
  ·refine obKL (by kernel_rfl) rfl (fun w6 hO6 => ?_)
   rintro _ rfl _ rfl _ rfl
   refine VL.toOwn hO6 ?_
   refine VL.call Try.func111 rfl (by decide) rfl (fun w' hw => delete_at (k := 2) rfl hw hi hl) (fun v => ?_)
   refine VL.fact fun e6 => ?_
   subst e6
   exact VL.finKL rfl (fun _ h => h) (fun _ h => rfl)
  refine Obs.cons ?_ ?_
  ·refine obSL (by kernel_rfl) rfl rfl (fun ph6 w6 hO6 => ?_)
   cases ph6
   ·refine VL.loads (cs := cat (parV ((xs[i]'hi)) (gB8.map fun g => (⟨g, 0, none⟩ : Addr)) cB9)) 1 0 4 rfl kd50 (fun _ e => by subst e; exact hO6) rfl rfl rfl rfl ?_
    exact VL.finSL hO6 rfl rfl
   ·refine VL.loads (cs := cat (parV ((xs[i]'hi)) (gB8.map fun g => (⟨g, 0, none⟩ : Addr)) cB9)) 1 0 4 rfl kd50 (fun _ e => by subst e; exact hO6) rfl rfl rfl rfl ?_
    exact VL.finSL hO6 rfl rfl
  refine Obs.cons ?_ ?_
  ·refine obSL (by kernel_rfl) rfl rfl (fun ph6 w6 hO6 => ?_)
   rintro _ rfl
   refine VL.assign rfl ?_
   exact VL.finSL hO6 rfl rfl
  exact Obs.nil
 case end6 =>
  intro w6 hO6
  rintro _ rfl _ rfl
  refine VL.toOwn hO6 ?_
  refine VL.store (L := parL) (qs := (parV ((xs[i]'hi)) (gB8.map fun g => (⟨g, 0, none⟩ : Addr)) cB9)) (ps' := (parV ((xs[i]'hi)) (gB8.map fun g => (⟨g, 0, none⟩ : Addr)) cB9)) 3 0 4 rfl rfl rfl (.inl kd50) rfl rfl (parV_len hy) (parV_ok1 ((xs[i]'hi)) (gB8.map fun g => (⟨g, 0, none⟩ : Addr)) cB9) rfl rfl ?_
  refine VL.set3 ?_
  refine VL.assign rfl ?_
  refine VL.nn ?_
  refine VC.ret ?_
  refine VX.ret_mid (cs := cat (parV ((xs[i]'hi)) (gB8.map fun g => (⟨g, 0, none⟩ : Addr)) cB9)) 3 rfl rfl rfl rfl (by rw [cat_size (parV_len hy)]; exact kd50) (fun _ h => h) rfl rfl (fun we hw => ?_)
  have h7 := (ownDropK 1 (ownDropK 3 hw))
  have h8 := h7.perm (List.Perm.swap _ _ _)
  exact ⟨_, _, _, _, rfl, h8.drop.subA, h8.letArr⟩

theorem server_w {S : List Snap} {H : List Chunk} {w : World} (ho : Own S H w) (a : Nat) (ha : a < 256) : Calls Try.prog 48 #[.int .u8 (a : Int)] w (Ret fun v w' => v = .tuple #[.int .i64 (servN a : Nat), .bool (decide (servN a < 4))] ∧ Own S H w') := by
 by_cases h : servN a < 4
 ·rw [decide_eq_true h]; exact server_y ho a ha h
 ·rw [decide_eq_false h]; exact server_n ho a ha h
theorem double_1 {S : List Snap} {H : List Chunk} {w : World} (ho : Own S H w) {y : Par} {p : Option Addr} {c : Nat} (hX : Arr 4 parR (keys H) w p [y] c) (hb : y.bytes.length ≤ 140737488351232) : Calls Try.prog 46 #[.slice p 1 c, .int .i64 0] w (Ret fun v w' => ∃ q d, v = .tuple #[.slice q 2 d, .bool true] ∧ Own S H w' ∧ Arr 4 parR (keys H) w' q [y, y] d) :=
 double_yes ho (xs := [y]) hX (by show 1 ≤ 1000; omega) 0 (by show 0 < 1; omega) (by show 1 < 64; omega) hb
theorem takeO_0 {S : List Snap} {H : List Chunk} {w : World} (ho : Own S H w) {y : Par} {p : Option Addr} {c : Nat} (hX : Arr 4 parR (keys H) w p [y, y] c) (hb : y.bytes.length ≤ 140737488351232) : Calls Try.prog 40 #[.slice p 2 c, .int .i64 0] w (Ret fun v w' => ∃ q d g c', v = .tuple #[.slice q 1 d, .agg (cat (parV y (g.map fun g => (⟨g, 0, none⟩ : Addr)) c')).toArray, .bool true] ∧ Own S (row 5 1 g y.bytes.length c' (y.bytes.map bv) :: H) w') :=
 calls_mono (takeO ho (xs := [y, y]) hX (by show 2 ≤ 1000; omega) 0 (by show 0 < 2; omega) hb) fun v w' ⟨q, d, g, c', e, h, _⟩ => ⟨q, d, g, c', e, h⟩
theorem take_1 {S : List Snap} {H : List Chunk} {w : World} (ho : Own S H w) {y : Par} {p : Option Addr} {c : Nat} (hX : Arr 4 parR (keys H) w p [y, y] c) (hb : y.bytes.length ≤ 140737488351232) : Calls Try.prog 40 #[.slice p 2 c, .int .i64 1] w (Ret fun v w' => ∃ q d p c, v = .tuple #[.slice q 1 d, .agg (cat (parV y p c)).toArray, .bool true] ∧ Own S H w' ∧ Bytes (keys H) w' p y.bytes c) :=
 calls_mono (take_yes ho (xs := [y, y]) hX (by show 2 ≤ 1000; omega) 1 (by show 1 < 2; omega) hb) fun v w' ⟨q, d, p, c, e, h, _, h2⟩ => ⟨q, d, p, c, e, h, h2⟩
theorem lay_own {S : List Snap} {H : List Chunk} {w : World} (ho : Own S H w) {l : List UInt8} {p1 : Option Addr} {c1 : Nat} (hV : Vw S H p1 l c1) (h1 : pktW l = 0) (h2 : servN ((pktR l).getD pkt0).src < 4) (h3 : servN ((pktR l).getD pkt0).dst < 4) (hb : l.length ≤ 140737488351232) : Calls Try.prog 42 #[.slice none 0 0, .slice p1 l.length c1, .int .u32 0] w (Ret fun v w' => ∃ q d, v = .tuple #[.slice q 1 d, .bool true] ∧ Own S H w' ∧ Arr 4 parR (keys H) w' q [layP l 0] d) :=
 layV_yes ho (xs := []) Arr.none (by show 0 ≤ 1000; omega) hV (now := 0) (by decide) h1 h2 h3 (by show 0 < 64; omega) hb
theorem lay_own_no {S : List Snap} {H : List Chunk} {w : World} (ho : Own S H w) {l : List UInt8} {p1 : Option Addr} {c1 : Nat} (hV : Vw S H p1 l c1) (h1 : pktW l = 0) (h2 : ¬ (servN ((pktR l).getD pkt0).src < 4 ∧ servN ((pktR l).getD pkt0).dst < 4)) : Calls Try.prog 42 #[.slice none 0 0, .slice p1 l.length c1, .int .u32 0] w (Ret fun v w' => ∃ q d, v = .tuple #[.slice q 0 d, .bool false] ∧ Own S H w') := by
 by_cases h3 : servN ((pktR l).getD pkt0).src < 4
 ·exact calls_mono (layV_no3 ho (xs := []) Arr.none (by show 0 ≤ 1000; omega) hV (now := 0) (by decide) h1 h3 (fun h4 => h2 ⟨h3, h4⟩)) fun v w' ⟨q, d, e, h, _⟩ => ⟨q, d, e, h⟩
 ·exact calls_mono (layV_no2 ho (xs := []) Arr.none (by show 0 ≤ 1000; omega) hV (now := 0) (by decide) h1 h3) fun v w' ⟨q, d, e, h, _⟩ => ⟨q, d, e, h⟩

end Go.Proofs.Ytcfecmoagfgnaaa

