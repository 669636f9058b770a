/- The statement Ripe is proved, for every input: part 9 of 12 of the texts that it needs. -/
import Derived.Test.YtcfecmoagfgnaaaMripAH
import Derived.Laws.Cover3
import Derived.Laws.FloatArith
import Derived.Laws.StructEq
/- bag: take, double. -/
namespace Go.Proofs.Ytcfecmoagfgnaaa
open Go.Vc Go.Pl

section
variable {P : Program} {n : Nat} {Q : Exit → Act → World → Prop} {σ : Sl} {ops : Array Oper} {S : List Snap} {H H' : List Chunk}
theorem someArow {X : Type} {R : Rel X} {hR : Mono R} {e : TypeId} {sz c : Nat} {g : Option Nat} {xs : List X} {code : Code} (i : Nat) (hi : H[i]? = some (arow e sz R hR g c xs)) (hm : 0 < xs.length) (h : ∀ g', g = some g' → VC P n Q code σ (Own S H)) : VC P n Q code σ (Own S H) := fun a w ha hw => by
 obtain ⟨_, ⟨hrow, _⟩, _⟩ := hw.holds _ (List.mem_of_getElem? hi)
 have hs := ownsRow_sizes hrow
 cases g with
 | none => have := hs.2.2.2.1 rfl; omega
 | some g' => exact h g' rfl a w ha hw
theorem VL.finKL {f : Fact} {d : Nat} {w0 : World} {v : Value} (hv : Go.Vc.look σ d = some v) {G : World → Prop} (hG : ∀ w, G w → Own (⟨w0, keys H⟩ :: S) H' w) (h : ∀ w, G w → f v w) :
  VL P n ops (Post n Q (JL S H H') (Turn (keys H)) f (some d) false true w0) [] σ G :=
 VL.fin hv fun w hw => ⟨h w hw, ((hG w hw).after (List.mem_cons_self ..)).1, (hG w hw).lose⟩
/-- A result that stands in a variable, between two in slots. -/
theorem VX.ret_mid {G : World → Prop} {fn : Func} {S' : Value → World → Prop} {t u1 u2 g : Nat} {ty T : TypeId} {L : List Nat} {ps : List (List Value)} {x1 x2 : Value} (i : Nat) {cs : List Value} (hr : fn.results = #[.tmp u1, .cell t ty, .tmp u2]) (hu1 : Go.Vc.look σ u1 = some x1) (ht : Go.Vc.look σ t = some (.pointer (some ⟨g, 0, none⟩))) (hu2 : Go.Vc.look σ u2 = some x2)
  (hk : kindOf P ty = some (some cs.length)) (hG : ∀ w, G w → Own S H w) (hi : H[i]? = some (blk g T L ps)) (hc : cat ps = cs) (h : ∀ w, G w → S' (.tuple #[x1, .agg cs.toArray, x2]) w) : VX n (bodyPost P fn (Ret S')) .ret σ G :=
 fun a w ha hw => ⟨ha.dfr, .tuple #[x1, .agg cs.toArray, x2], by
  obtain ⟨hg, _⟩ := (hG w hw).holds _ (List.mem_of_getElem? hi)
  have h1 := ha.at_ u1 _ hu1
  have h2 := ha.at_ t _ ht
  have h3 := ha.at_ u2 _ hu2
  simp only [Array.getD_eq_getD_getElem?] at h1 h2 h3
  have hcell : ∀ j v, cs[j]? = some v → w.cell? ((⟨g, 0, none⟩ : Addr).add j) = some v := by
   intro j v hj
   rw [add_lit, cell_of_row w g _ _ T (0, 0) hg, hc, Nat.zero_add]
   simpa using hj
  have hld : (loadVar ty ⟨g, 0, none⟩).run P w = .ok (.agg cs.toArray) w := by
   simp [loadVar, (kindOf_agg hk w).1, (kindOf_agg hk w).2, run_loadCells_list (P := P) w ⟨g, 0, none⟩ cs hcell]
  simp [results, hr, h1, h2, h3, asAddr, hld], h w hw⟩
end
theorem ownDropK {S : List Snap} {H : List Chunk} {w : World} (i : Nat) (h : Own S H w) : Own S (H.eraseIdx i) w := by
 cases hi : H[i]? with
 | none => rw [List.eraseIdx_of_length_le (by simpa using hi)]; exact h
 | some c => exact (h.front hi).drop
theorem delete_at {S : List Snap} {H : List Chunk} {w : World} {xs : List Par} {g c : Nat} {k : Nat} (hk : H[k]? = some (arow 50 4 parR Mono_par (some g) c xs)) (ho : Own S H w) {i : Nat} (hi : i < xs.length) (hl : xs.length ≤ 1000) : Calls Try.prog 111 #[.slice (some ⟨g, 0, none⟩) xs.length c, .int .i64 (i : Int), .int .i64 ((i + 1 : Nat) : Int)] w (Ret fun v w' => v = rowV (some g) (xs.take i ++ xs.drop (i + 1)).length c ∧ Own S (H.set k (arow 50 4 parR Mono_par (some g) c (xs.take i ++ xs.drop (i + 1)))) w') :=
 calls_mono (delete_p (ho.front hk) hi hl) fun v w' ⟨e, h⟩ => ⟨e, h.back hk⟩

theorem take_yes {S : List Snap} {H : List Chunk} {w : World} (ho : Own S H w) {xs : List Par} {p : Option Addr} {c : Nat} (hX : Arr 4 parR (keys H) w p xs c) (hl : xs.length ≤ 1000) (i : Nat) (hi : i < xs.length) (hb : (xs[i]'hi).bytes.length ≤ 140737488351232) : Calls Try.prog 40 #[.slice p xs.length c, .int .i64 (i : Int)] w (Ret fun v w' => ∃ q d p c, v = .tuple #[.slice q (xs.take i ++ xs.drop (i + 1)).length d, .agg (cat (parV (xs[i]'hi) p c)).toArray, .bool true] ∧ Own S H w' ∧ Arr 4 parR (keys H) w' q (xs.take i ++ xs.drop (i + 1)) d ∧ Bytes (keys H) w' p (xs[i]'hi).bytes c) := by
 refine enter (G := Own (⟨w, keys H⟩ :: S) H) ho.keep Try.func40 rfl Try.ntmps40 rfl ?_
 refine VC.sr ?_
 refine VL.assign rfl ?_
 refine VL.alloc (L := parL) (ps := (parV (par0) none 0)) zero50 rfl rfl (fun g1 => ?_)
 refine VL.assign rfl ?_
 refine VL.nn ?_
 refine VC.sr ?_
 refine VL.move rfl ?_
 refine VL.call Try.func110 rfl (by decide) rfl (fun w' hw => clone_p hw (hX.nowA (s := ⟨w, _⟩) Mono_par hw) (by omega)) (fun v => ?_)
 refine VL.at (fun w4 h1w => ?_)
 obtain ⟨gv2, cv3, rfl, hO5⟩ := h1w
 refine VL.toOwn hO5 ?_
 refine VL.assign rfl ?_
 refine VL.nn ?_
 refine VC.seq ?_
 refine VC.sr ?_
 refine VL.move rfl ?_
 refine VL.lss rfl rfl ?_
 refine VL.no (by omega) ?_
 refine VL.move rfl ?_
 refine VL.go rfl rfl rfl ?_
 refine VL.move rfl ?_
 refine VL.go rfl rfl rfl ?_
 refine VL.move rfl ?_
 refine VL.go rfl rfl rfl ?_
 refine VL.len Try.underlying47 rfl rfl ?_
 refine VL.go rfl rfl rfl ?_
 refine VL.geq rfl rfl ?_
 refine VL.no (by omega) ?_
 refine VL.pick_f rfl rfl ?_
 refine VL.nn ?_
 refine VC.no rfl ?_
 refine VC.skip ?_
 refine VX.next ?_
 refine VC.seq ?_
 refine someArow 0 rfl (by omega) (fun g7 e7 => ?_)
 subst e7
 refine VC.region ?_
 refine VL.move rfl ?_
 refine VL.move rfl ?_
 refine VL.indexRow (k := .i64) (j := (i : Int)) (ys := xs) 0 rfl rfl Try.underlying47 sz47 (fun _ h => h) rfl (by omega) (by omega) ?_
 refine VL.elemsRow (j := i) (y := (xs[i]'hi)) 0 rfl kd50 (fun _ h => h) rfl (List.getElem?_eq_getElem hi) (by simp) (fun w5 vs hl5 hr5 => ?_)
 obtain ⟨p5, c5, hy, rfl, hA5⟩ := hr5
 refine VL.alloc (L := parL) (ps := (parV (par0) none 0)) zero50 rfl rfl (fun g6 => ?_)
 refine VL.store (L := parL) (qs := (parV ((xs[i]'hi)) p5 c5)) (ps' := (parV ((xs[i]'hi)) p5 c5)) 0 0 4 rfl rfl rfl (.inl kd50) rfl rfl (parV_len hy) (parV_ok1 ((xs[i]'hi)) p5 c5) rfl rfl ?_
 refine VL.set0 ?_
 refine VL.nn ?_
 refine VC.sr ?_
 refine VL.fieldAddr rfl fo50_3 rfl ?_
 refine VL.load (v := .slice p5 ((xs[i]'hi).bytes).length c5) 0 3 rfl kd24 (fun _ h => h) rfl rfl rfl ?_
 refine VL.call Try.func109 rfl (by decide) rfl (fun w' hw => cloneB hw (hA5.nowA (s := ⟨w5, _⟩) Mono.byte hw) hb) (fun v => ?_)
 refine VL.at (fun w7 h1w => ?_)
 obtain ⟨p8, c9, rfl, hO11, hA10⟩ := h1w
 refine VL.toOwn hO11 ?_
 refine VL.fieldAddr rfl fo50_3 rfl ?_
 refine VL.store (L := parL) (qs := [[.slice p8 ((xs[i]'hi).bytes).length c9]]) (ps' := [[.int .u8 ((xs[i]'hi).src)], [.int .u8 ((xs[i]'hi).dst)], [.int .u32 ((xs[i]'hi).due)], [.slice p8 ((xs[i]'hi).bytes).length c9]]) 0 3 1 rfl rfl rfl (.inr ⟨kd24, rfl⟩) rfl rfl rfl (by intro u hu; simp [cat] at hu; subst hu; rfl) rfl rfl ?_
 refine VL.set0 ?_
 refine VL.nn ?_
 refine VC.seq ?_
 apply VC.anyTL (blk g6 50 parL [[.int .u8 ((xs[i]'hi).src)], [.int .u8 ((xs[i]'hi).dst)], [.int .u32 ((xs[i]'hi).due)], [.slice p8 ((xs[i]'hi).bytes).length c9]] :: arow 50 4 parR Mono_par (some g7) cv3 (xs.take i ++ xs.drop (i + 1)) :: blk g1 50 parL (parV (par0) none 0) :: H) 7 4 (F := [eqF _, eqF _, eqF _, eqF _, eqF _, eqF _, eqF _]) [⟨[], [0]⟩, ⟨[], [1]⟩, ⟨[], [1]⟩, ⟨[(30, 2)], []⟩, ⟨[(28, 0), (29, 1), (31, 3)], []⟩, ⟨[], [7]⟩, ⟨[(32, 4)], []⟩] [(33, 5), (4, 6)] [0, 1, 5, 6, 7, 8, 9, 10, 11, 12, 13, 14, 15, 16, 17, 18, 19, 20, 21, 22, 23, 24, 25, 26, 27] rfl (by kernel_rfl) (by kernel_rfl) rfl rfl (by kernel_rfl) (by kernel_rfl) (by kernel_rfl) rfl ?obs6 ?end6
 case obs6 =>
  refine Obs.cons ?_ ?_
  ·refine obSL (by kernel_rfl) rfl rfl (fun ph6 w6 hO6 => ?_)
   refine VL.move rfl ?_
   exact VL.finSL hO6 rfl rfl
  refine Obs.cons ?_ ?_
  ·refine obSL (by kernel_rfl) rfl rfl (fun ph6 w6 hO6 => ?_)
   refine VL.move rfl ?_
   exact VL.finSL hO6 rfl rfl
  refine Obs.cons ?_ ?_
  ·refine obSL (by kernel_rfl) rfl rfl (fun ph6 w6 hO6 => ?_)
   refine VL.move rfl ?_
   exact VL.finSL hO6 rfl rfl
  refine Obs.cons ?_ ?_
  ·refine obSL (by kernel_rfl) rfl rfl (fun ph6 w6 hO6 => ?_)
   rintro _ rfl
   refine VL.add rfl rfl (by simp only [InR]; omega) ?_
   exact VL.finSL hO6 rfl rfl
  refine Obs.cons ?_ ?_
  ·refine obKL (by kernel_rfl) rfl (fun w6 hO6 => ?_)
   rintro _ rfl _ rfl _ rfl
   refine VL.toOwn hO6 ?_
   refine VL.call Try.func111 rfl (by decide) rfl (fun w' hw => delete_at (k := 1) rfl hw hi hl) (fun v => ?_)
   refine VL.fact fun e6 => ?_
   subst e6
   exact VL.finKL rfl (fun _ h => h) (fun _ h => rfl)
  refine Obs.cons ?_ ?_
  ·refine obSL (by kernel_rfl) rfl rfl (fun ph6 w6 hO6 => ?_)
   cases ph6
   ·refine VL.loads (cs := cat (parV ((xs[i]'hi)) p8 c9)) 0 0 4 rfl kd50 (fun _ e => by subst e; exact hO6) rfl rfl rfl rfl ?_
    exact VL.finSL hO6 rfl rfl
   ·refine VL.loads (cs := cat (parV ((xs[i]'hi)) p8 c9)) 0 0 4 rfl kd50 (fun _ e => by subst e; exact hO6) rfl rfl rfl rfl ?_
    exact VL.finSL hO6 rfl rfl
  refine Obs.cons ?_ ?_
  ·refine obSL (by kernel_rfl) rfl rfl (fun ph6 w6 hO6 => ?_)
   rintro _ rfl
   refine VL.assign rfl ?_
   exact VL.finSL hO6 rfl rfl
  exact Obs.nil
 case end6 =>
  intro w6 hO6
  rintro _ rfl _ rfl
  refine VL.toOwn hO6 ?_
  refine VL.store (L := parL) (qs := (parV ((xs[i]'hi)) p8 c9)) (ps' := (parV ((xs[i]'hi)) p8 c9)) 2 0 4 rfl rfl rfl (.inl kd50) rfl rfl (parV_len hy) (parV_ok1 ((xs[i]'hi)) p8 c9) rfl rfl ?_
  refine VL.set2 ?_
  refine VL.assign rfl ?_
  refine VL.nn ?_
  refine VC.ret ?_
  refine VX.ret_mid (cs := cat (parV ((xs[i]'hi)) p8 c9)) 2 rfl rfl rfl rfl (by rw [cat_size (parV_len hy)]; exact kd50) (fun _ h => h) rfl rfl (fun we hw => ?_)
  have h7 := (ownDropK 0 (ownDropK 2 hw))
  exact ⟨_, _, _, _, rfl, h7.drop.subA, h7.letArr, (hA10.nowA (s := ⟨w7, _⟩) Mono.byte h7.drop)⟩

end Go.Proofs.Ytcfecmoagfgnaaa

/- The rules of the walks, continued: ways that meet again. -/
namespace Go.Vc
section
variable {P : Program} {n : Nat} {Q Q' : Exit → Act → World → Prop} {σ : Sl} {G : World → Prop}
/-- Code behind other code is walked once, however many ways lead to it: x: what the ways differ in. -/
theorem VC.join {X : Type} {c y : Code} (τ : X → Sl) (G' : X → World → Prop) (p : X → Prop) (hx : (∀ x, p x → VC P n Q y (τ x) (G' x)) → VC P n (Exit.then (y.wp P Q) Q) c σ G) (hy : ∀ x, p x → VC P n Q y (τ x) (G' x)) : VC P n Q (.seq c y) σ G := VC.seq (hx hy)
theorem VX.join {X : Type} {y : Code} {τ : X → Sl} {G' : X → World → Prop} {p : X → Prop} (h : ∀ x, p x → VC P n Q y (τ x) (G' x)) (x : X) (hp : p x) (hs : sub (τ x) σ) (hG : ∀ w, G w → G' x w) : VX n (Exit.then (y.wp P Q) Q') .normal σ G :=
 fun a w ha hw => h x hp a w (ha.mono hs) (hG w hw)
end
end Go.Vc

/- wire: what bytes are read as: packets. -/
namespace Go.Proofs.Ytcfecmoagfgnaaa
open Go.Vc Go.Pl

theorem Own.drop2 {S : List Snap} {a b : Chunk} {H : List Chunk} {w : World} (h : Own S (a :: b :: H) w) : Own S (a :: H) w := Own.drop (c := b) (h.perm (List.Perm.swap a b H))
theorem third_is {ps : List (List UInt8)} (h : 2 < ps.length) : nextP (at2 ps) = ps[2]'h := by
 match ps, h with
 | a :: b :: c :: r, _ => rfl
theorem num_one {l : List UInt8} (h : l.length = 1) (h0 : 0 < l.length) : num l = (l[0]'h0).toNat := by
 match l, h with
 | [b], _ => simp [num]
theorem kb_why {l : List UInt8} (h : openW l ≠ 0) : ¬ kindBad (openP l) := by
 rcases openW_cases l with ⟨h1, _⟩ | ⟨_, h1⟩
 ·rw [h1]; intro h; exact absurd h.1 (by decide)
 ·exact absurd h1 h
theorem kb_short {ps : List (List UInt8)} (h : ¬ 2 < ps.length) : ¬ kindBad ps := fun hb => h hb.1
theorem kb_len {ps : List (List UInt8)} (h : 2 < ps.length) (h1 : (ps[2]'h).length ≠ 1) : ¬ kindBad ps := fun hb => h1 (by rw [← third_is h]; exact hb.2.1)
theorem kb_iff {ps : List (List UInt8)} (h : 2 < ps.length) (h1 : (ps[2]'h).length = 1) (h0 : 0 < (ps[2]'h).length) : kindBad ps ↔ kindIn (((ps[2]'h)[0]'h0).toNat) = false := by
 unfold kindBad
 rw [third_is h, num_one h1 h0]
 exact ⟨fun hb => hb.2.2, fun hb => ⟨h, h1, hb⟩⟩
theorem kindIn_no {k : Nat} (h : k < 1 ∨ 4 < k) : kindIn k = false := by unfold kindIn; rw [Bool.and_eq_false_iff]; rcases h with h | h <;> simp <;> omega
theorem zero_at {l : List UInt8} (hz : l = [0]) (h : 0 < l.length) : ¬ (((l[0]'h).toNat : Nat) : Int) ≠ 0 := by subst hz; simp
theorem nz_at {l : List UInt8} (hz : l ≠ [0]) (hl : l.length = 1) (h : 0 < l.length) : (((l[0]'h).toNat : Nat) : Int) ≠ 0 := by
 match l, hl with
 | [b], _ =>
  intro e
  refine hz ?_
  have e : b.toNat = 0 := by have e : ((b.toNat : Nat) : Int) = 0 := e; omega
  rw [show b = 0 from UInt8.toNat.inj e]

theorem getPkt_w {S : List Snap} {H : List Chunk} {w : World} (ho : Own S H w) {p : Option Addr} {l : List UInt8} {c : Nat} (hA : Bytes (keys H) w p l c) : Calls Try.prog 81 #[.slice p l.length c] w (Ret fun v w' => ∃ q d p c, v = .tuple #[.agg (cat (pktV ((pktR l).getD pkt0) q d p c)).toArray, .int .i64 ((pktW l : Nat) : Int)] ∧ Own S H w' ∧ Arr 101 objectR' (keys H) w' q ((pktR l).getD pkt0).chain d ∧ Bytes (keys H) w' p ((pktR l).getD pkt0).body c) := by
 refine enter (G := Own (⟨w, keys H⟩ :: S) H) ho.keep Try.func81 rfl Try.ntmps81 rfl ?_
 refine VC.sr ?_
 refine VL.alloc (L := pktL) (ps := (pktV (pkt0) none 0 none 0)) zero118 rfl rfl (fun g1 => ?_)
 refine VL.assign rfl ?_
 refine VL.nn ?_
 refine VC.sr ?_
 refine VL.move rfl ?_
 refine VL.call Try.func121 rfl (by decide) rfl (fun w' hw => open_R hw (hA.nowA (s := ⟨w, _⟩) Mono.byte hw)) (fun v => ?_)
 refine VL.ex fun g2 => VL.fact fun e3 => ?_
 subst e3
 refine VL.assign rfl ?_
 refine VL.nn ?_
 refine VC.seq ?_
 refine VC.join (X := Bool) (fun b => [(2, .pointer (some ⟨g1, 0, none⟩)), (4, .pointer (some ⟨g2, 0, none⟩)), (57, .bool b)]) (fun _ => Own (⟨w, keys H⟩ :: S) (rch g2 (openP (l)) (openW (l)) :: blk g1 118 pktL (pktV (pkt0) none 0 none 0) :: H)) (fun b => (b = true ↔ kindBad (openP l))) (fun hrest => ?_) (fun b hbk => ?_)
 ·skip
  refine VC.region ?_
  refine VL.move rfl ?_
  refine VL.nilCheck rfl ?_
  refine VL.fieldAddr rfl fo196_1 rfl ?_
  refine loadWhy 0 rfl (fun _ h => h) rfl ?_
  refine VL.eql rfl rfl ?_
  refine VL.case (fun h2_4 => ?_) (fun h2_4 => ?_)
  ·skip
   refine VL.move rfl ?_
   refine VL.go rfl rfl rfl ?_
   refine VL.move rfl ?_
   refine VL.go rfl rfl rfl ?_
   refine VL.nilCheck rfl ?_
   refine VL.go rfl rfl rfl ?_
   refine VL.fieldAddr rfl fo196_0 rfl ?_
   refine VL.go rfl rfl rfl ?_
   refine loadParts 0 rfl rfl (fun p4 c5 w6 hO7 hA8 => ?_)
   refine VL.go rfl rfl rfl ?_
   refine VL.len Try.underlying31 rfl rfl ?_
   refine VL.go rfl rfl rfl ?_
   refine VL.gtr rfl rfl ?_
   refine VL.case (fun h2_11 => ?_) (fun h2_11 => ?_)
   ·have hlen : 2 < (openP (l)).length := by omega
    refine VL.pick_t rfl rfl ?_
    refine VL.move rfl ?_
    refine VL.go rfl rfl rfl ?_
    refine VL.move rfl ?_
    refine VL.go rfl rfl rfl ?_
    refine VL.nilCheck rfl ?_
    refine VL.go rfl rfl rfl ?_
    refine VL.fieldAddr rfl fo196_0 rfl ?_
    refine VL.go rfl rfl rfl ?_
    refine loadParts 0 rfl rfl (fun p9 c10 w11 hO12 hA13 => ?_)
    refine VL.go rfl rfl rfl ?_
    refine VL.index (xs := (openP (l))) rfl rfl Try.underlying31 sz31 hA13 (by omega) (by have hi := hlen; omega) ?_
    refine VL.go rfl rfl rfl ?_
    refine VL.elem (s := ⟨w11, _⟩) (2) 0 rfl kd24 (fun _ h => h) (by repeat (first | exact List.mem_cons_self .. | apply List.mem_cons_of_mem)) (Mono.slice Mono.byte) hA13 (List.getElem?_eq_getElem hlen) (by simp) (by decide) (fun vs v hl hr hv => ?_)
    obtain ⟨p16, c17, rfl, hA18⟩ := hr
    have ehy15 : v = .slice p16 ((openP (l))[2]'hlen).length c17 := Option.some.inj (hv.symm.trans rfl)
    subst ehy15
    refine VL.go rfl rfl rfl ?_
    refine VL.len Try.underlying24 rfl rfl ?_
    refine VL.go rfl rfl rfl ?_
    refine VL.eql rfl rfl ?_
    refine VL.case (fun h2_21 => ?_) (fun h2_21 => ?_)
    ·have h1l : ((openP (l))[2]'hlen).length = 1 := by omega
     have h1p : 0 < ((openP (l))[2]'hlen).length := by omega
     refine VL.pick_t rfl rfl ?_
     refine VL.move rfl ?_
     refine VL.go rfl rfl rfl ?_
     refine VL.move rfl ?_
     refine VL.go rfl rfl rfl ?_
     refine VL.nilCheck rfl ?_
     refine VL.go rfl rfl rfl ?_
     refine VL.fieldAddr rfl fo196_0 rfl ?_
     refine VL.go rfl rfl rfl ?_
     refine loadParts 0 rfl rfl (fun p19 c20 w21 hO22 hA23 => ?_)
     refine VL.go rfl rfl rfl ?_
     refine VL.index (xs := (openP (l))) rfl rfl Try.underlying31 sz31 hA23 (by omega) (by have hi := hlen; omega) ?_
     refine VL.go rfl rfl rfl ?_
     refine VL.elem (s := ⟨w21, _⟩) (2) 0 rfl kd24 (fun _ h => h) (by repeat (first | exact List.mem_cons_self .. | apply List.mem_cons_of_mem)) (Mono.slice Mono.byte) hA23 (List.getElem?_eq_getElem hlen) (by simp) (by decide) (fun vs v hl hr hv => ?_)
     obtain ⟨p26, c27, rfl, hA28⟩ := hr
     have ehy25 : v = .slice p26 ((openP (l))[2]'hlen).length c27 := Option.some.inj (hv.symm.trans rfl)
     subst ehy25
     refine VL.go rfl rfl rfl ?_
     refine VL.index (xs := ((openP (l))[2]'hlen)) rfl rfl Try.underlying24 sz24 hA28 (by omega) (by have hi := h1p; omega) ?_
     refine VL.go rfl rfl rfl ?_
     refine VL.byte (s := ⟨w21, _⟩) (y := ((openP (l))[2]'hlen)[0]'h1p) rfl kd5 (fun _ h => h) (by repeat (first | exact List.mem_cons_self .. | apply List.mem_cons_of_mem)) hA28 (List.getElem?_eq_getElem h1p) ?_
     refine VL.go rfl rfl rfl ?_
     refine VL.lss rfl rfl ?_
     refine VL.case (fun h2_32 => ?_) (fun h2_32 => ?_)
     ·have hb : kindBad (openP l) := (kb_iff hlen h1l h1p).2 (kindIn_no (.inl (by have h : ((((((openP (l))[2]'hlen)[0]'h1p).toNat : Nat)) : Int) < 1 := h2_32; omega)))
      refine VL.go rfl rfl rfl ?_
      refine VL.move rfl ?_
      refine VL.pass rfl rfl rfl rfl rfl ?_
      refine VL.pass rfl rfl rfl rfl rfl ?_
      refine VL.pass rfl rfl rfl rfl rfl ?_
      refine VL.pass rfl rfl rfl rfl rfl ?_
      refine VL.pass rfl rfl rfl rfl rfl ?_
      refine VL.pass rfl rfl rfl rfl rfl ?_
      refine VL.pass rfl rfl rfl rfl rfl ?_
      refine VL.pass rfl rfl rfl rfl rfl ?_
      refine VL.pass rfl rfl rfl rfl rfl ?_
      refine VL.go rfl rfl rfl ?_
      refine VL.pick_t rfl rfl ?_
      refine VL.pick_t rfl rfl ?_
      refine VL.nil ?_
      exact VX.join hrest true ⟨fun _ => hb, fun _ => rfl⟩ ⟨rfl, rfl, rfl, trivial⟩ (fun _ h => h.subA)
     ·skip
      refine VL.go rfl rfl rfl ?_
      refine VL.move rfl ?_
      refine VL.go rfl rfl rfl ?_
      refine VL.move rfl ?_
      refine VL.go rfl rfl rfl ?_
      refine VL.nilCheck rfl ?_
      refine VL.go rfl rfl rfl ?_
      refine VL.fieldAddr rfl fo196_0 rfl ?_
      refine VL.go rfl rfl rfl ?_
      refine loadParts 0 rfl rfl (fun p31 c32 w33 hO34 hA35 => ?_)
      refine VL.go rfl rfl rfl ?_
      refine VL.index (xs := (openP (l))) rfl rfl Try.underlying31 sz31 hA35 (by omega) (by have hi := hlen; omega) ?_
      refine VL.go rfl rfl rfl ?_
      refine VL.elem (s := ⟨w33, _⟩) (2) 0 rfl kd24 (fun _ h => h) (by repeat (first | exact List.mem_cons_self .. | apply List.mem_cons_of_mem)) (Mono.slice Mono.byte) hA35 (List.getElem?_eq_getElem hlen) (by simp) (by decide) (fun vs v hl hr hv => ?_)
      obtain ⟨p38, c39, rfl, hA40⟩ := hr
      have ehy37 : v = .slice p38 ((openP (l))[2]'hlen).length c39 := Option.some.inj (hv.symm.trans rfl)
      subst ehy37
      refine VL.go rfl rfl rfl ?_
      refine VL.index (xs := ((openP (l))[2]'hlen)) rfl rfl Try.underlying24 sz24 hA40 (by omega) (by have hi := h1p; omega) ?_
      refine VL.go rfl rfl rfl ?_
      refine VL.byte (s := ⟨w33, _⟩) (y := ((openP (l))[2]'hlen)[0]'h1p) rfl kd5 (fun _ h => h) (by repeat (first | exact List.mem_cons_self .. | apply List.mem_cons_of_mem)) hA40 (List.getElem?_eq_getElem h1p) ?_
      refine VL.go rfl rfl rfl ?_
      refine VL.gtr rfl rfl ?_
      refine VL.case (fun h2_42 => ?_) (fun h2_42 => ?_)
      ·have hb : kindBad (openP l) := (kb_iff hlen h1l h1p).2 (kindIn_no (.inr (by have h : (4 : Int) < ((((((openP (l))[2]'hlen)[0]'h1p).toNat : Nat)) : Int) := h2_42; omega)))
       refine VL.go rfl rfl rfl ?_
       refine VL.pick_f rfl rfl ?_
       refine VL.pick_t rfl rfl ?_
       refine VL.nil ?_
       exact VX.join hrest true ⟨fun _ => hb, fun _ => rfl⟩ ⟨rfl, rfl, rfl, trivial⟩ (fun _ h => h.subA)
      ·have hnb : ¬ kindBad (openP l) := fun hb => by
        have h1 := (kb_iff hlen h1l h1p).1 hb
        rw [kindIn_of.2 ⟨by have h : ¬ ((((((openP (l))[2]'hlen)[0]'h1p).toNat : Nat)) : Int) < 1 := h2_32; omega, by have h : ¬ (4 : Int) < ((((((openP (l))[2]'hlen)[0]'h1p).toNat : Nat)) : Int) := h2_42; omega⟩] at h1
        cases h1
       refine VL.go rfl rfl rfl ?_
       refine VL.pick_f rfl rfl ?_
       refine VL.pick_t rfl rfl ?_
       refine VL.nil ?_
       exact VX.join hrest false ⟨fun h => absurd h (by decide), fun h => absurd h hnb⟩ ⟨rfl, rfl, rfl, trivial⟩ (fun _ h => h.subA)
    ·have hnb : ¬ kindBad (openP l) := kb_len hlen (by omega)
     refine VL.pick_t rfl rfl ?_
     refine VL.move rfl ?_
     refine VL.pass rfl rfl rfl rfl rfl ?_
     refine VL.pass rfl rfl rfl rfl rfl ?_
     refine VL.pass rfl rfl rfl rfl rfl ?_
     refine VL.pass rfl rfl rfl rfl rfl ?_
     refine VL.pass rfl rfl rfl rfl rfl ?_
     refine VL.pass rfl rfl rfl rfl rfl ?_
     refine VL.pass rfl rfl rfl rfl rfl ?_
     refine VL.pass rfl rfl rfl rfl rfl ?_
     refine VL.pass rfl rfl rfl rfl rfl ?_
     refine VL.pass rfl rfl rfl rfl rfl ?_
     refine VL.passu rfl rfl rfl rfl ?_
     refine VL.passu rfl rfl rfl rfl ?_
     refine VL.passu rfl rfl rfl rfl ?_
     refine VL.passu rfl rfl rfl rfl ?_
     refine VL.passu rfl rfl rfl rfl ?_
     refine VL.passu rfl rfl rfl rfl ?_
     refine VL.passu rfl rfl rfl rfl ?_
     refine VL.passu rfl rfl rfl rfl ?_
     refine VL.passu rfl rfl rfl rfl ?_
     refine VL.pass rfl rfl rfl rfl rfl ?_
     refine VL.pick_f rfl rfl ?_
     refine VL.nil ?_
     exact VX.join hrest false ⟨fun h => absurd h (by decide), fun h => absurd h hnb⟩ ⟨rfl, rfl, rfl, trivial⟩ (fun _ h => h.subA)
   ·have hnb : ¬ kindBad (openP l) := kb_short (by omega)
    refine VL.pick_t rfl rfl ?_
    refine VL.move rfl ?_
    refine VL.pass rfl rfl rfl rfl rfl ?_
    refine VL.pass rfl rfl rfl rfl rfl ?_
    refine VL.pass rfl rfl rfl rfl rfl ?_
    refine VL.pass rfl rfl rfl rfl rfl ?_
    refine VL.pass rfl rfl rfl rfl rfl ?_
    refine VL.pass rfl rfl rfl rfl rfl ?_
    refine VL.pass rfl rfl rfl rfl rfl ?_
    refine VL.pass rfl rfl rfl rfl rfl ?_
    refine VL.pick_f rfl rfl ?_
    refine VL.move rfl ?_
    refine VL.pass rfl rfl rfl rfl rfl ?_
    refine VL.pass rfl rfl rfl rfl rfl ?_
    refine VL.pass rfl rfl rfl rfl rfl ?_
    refine VL.pass rfl rfl rfl rfl rfl ?_
    refine VL.pass rfl rfl rfl rfl rfl ?_
    refine VL.pass rfl rfl rfl rfl rfl ?_
    refine VL.pass rfl rfl rfl rfl rfl ?_
    refine VL.pass rfl rfl rfl rfl rfl ?_
    refine VL.pass rfl rfl rfl rfl rfl ?_
    refine VL.pass rfl rfl rfl rfl rfl ?_
    refine VL.passu rfl rfl rfl rfl ?_
    refine VL.passu rfl rfl rfl rfl ?_
    refine VL.passu rfl rfl rfl rfl ?_
    refine VL.passu rfl rfl rfl rfl ?_
    refine VL.passu rfl rfl rfl rfl ?_
    refine VL.passu rfl rfl rfl rfl ?_
    refine VL.passu rfl rfl rfl rfl ?_
    refine VL.passu rfl rfl rfl rfl ?_
    refine VL.passu rfl rfl rfl rfl ?_
    refine VL.pass rfl rfl rfl rfl rfl ?_
    refine VL.pick_f rfl rfl ?_
    refine VL.nil ?_
    exact VX.join hrest false ⟨fun h => absurd h (by decide), fun h => absurd h hnb⟩ ⟨rfl, rfl, rfl, trivial⟩ (fun _ h => h.subA)
  ·have hnb : ¬ kindBad (openP l) := kb_why (by omega)
   refine VL.move rfl ?_
   refine VL.pass rfl rfl rfl rfl rfl ?_
   refine VL.pass rfl rfl rfl rfl rfl ?_
   refine VL.pass rfl rfl rfl rfl rfl ?_
   refine VL.pass rfl rfl rfl rfl rfl ?_
   refine VL.pass rfl rfl rfl rfl rfl ?_
   refine VL.pass rfl rfl rfl rfl rfl ?_
   refine VL.pick_f rfl rfl ?_
   refine VL.move rfl ?_
   refine VL.pass rfl rfl rfl rfl rfl ?_
   refine VL.pass rfl rfl rfl rfl rfl ?_
   refine VL.pass rfl rfl rfl rfl rfl ?_
   refine VL.pass rfl rfl rfl rfl rfl ?_
   refine VL.pass rfl rfl rfl rfl rfl ?_
   refine VL.pass rfl rfl rfl rfl rfl ?_
   refine VL.pass rfl rfl rfl rfl rfl ?_
   refine VL.pass rfl rfl rfl rfl rfl ?_
   refine VL.pick_f rfl rfl ?_
   refine VL.move rfl ?_
   refine VL.pass rfl rfl rfl rfl rfl ?_
   refine VL.pass rfl rfl rfl rfl rfl ?_
   refine VL.pass rfl rfl rfl rfl rfl ?_
   refine VL.pass rfl rfl rfl rfl rfl ?_
   refine VL.pass rfl rfl rfl rfl rfl ?_
   refine VL.pass rfl rfl rfl rfl rfl ?_
   refine VL.pass rfl rfl rfl rfl rfl ?_
   refine VL.pass rfl rfl rfl rfl rfl ?_
   refine VL.pass rfl rfl rfl rfl rfl ?_
   refine VL.pass rfl rfl rfl rfl rfl ?_
   refine VL.passu rfl rfl rfl rfl ?_
   refine VL.passu rfl rfl rfl rfl ?_
   refine VL.passu rfl rfl rfl rfl ?_
   refine VL.passu rfl rfl rfl rfl ?_
   refine VL.passu rfl rfl rfl rfl ?_
   refine VL.passu rfl rfl rfl rfl ?_
   refine VL.passu rfl rfl rfl rfl ?_
   refine VL.passu rfl rfl rfl rfl ?_
   refine VL.passu rfl rfl rfl rfl ?_
   refine VL.pass rfl rfl rfl rfl rfl ?_
   refine VL.pick_f rfl rfl ?_
   refine VL.nil ?_
   exact VX.join hrest false ⟨fun h => absurd h (by decide), fun h => absurd h hnb⟩ ⟨rfl, rfl, rfl, trivial⟩ (fun _ h => h.subA)
 skip
 refine VC.split rfl (fun hc57 => ?_) (fun hc57 => ?_)
 ·refine VC.seq ?_
  refine VC.region ?_
  refine VL.build0 (cs := cat (pktV (pkt0) none 0 none 0)) built118 ?_
  refine VL.store (L := pktL) (qs := (pktV (pkt0) none 0 none 0)) (ps' := (pktV (pkt0) none 0 none 0)) 1 0 6 rfl rfl rfl (.inl kd118) rfl rfl rfl (pktV_ok1 pkt0 none 0 none 0) rfl rfl ?_
  refine VL.set1 ?_
  refine VL.assign rfl ?_
  refine VL.nn ?_
  refine VC.ret ?_
  refine VX.then_ret ?_
  refine VX.ret_cell (cs := cat (pktV (pkt0) none 0 none 0)) 1 rfl rfl rfl kd118 (fun _ h => h) rfl rfl (fun we hw => ?_)
  obtain ⟨e1, e2⟩ := pktW_bad (hbk.1 hc57)
  exact ⟨none, 0, none, 0, by rw [e1]; exact congrArg (fun n : Nat => Value.tuple #[_, .int .i64 (n : Int)]) (e2).symm, hw.drop.drop.subA, by rw [e1]; exact Arr.none, by rw [e1]; exact Arr.none⟩
 ·refine VC.skip ?_
  refine VX.next ?_
  refine VC.seq ?_
  have hnb : ¬ kindBad (openP l) := mt hbk.2 (by rw [hc57]; decide)
  refine VC.region ?_
  refine VL.move rfl ?_
  refine VL.call Try.func122 rfl (by decide) rfl (fun w' hw => byte_R (i := 0) rfl hw) (fun v => ?_)
  refine VL.fact fun e43 => ?_
  subst e43
  refine VL.set0 ?_
  refine VL.move rfl ?_
  refine VL.call Try.func122 rfl (by decide) rfl (fun w' hw => byte_R (i := 0) rfl hw) (fun v => ?_)
  refine VL.fact fun e44 => ?_
  subst e44
  refine VL.set0 ?_
  refine VL.move rfl ?_
  refine VL.call Try.func122 rfl (by decide) rfl (fun w' hw => byte_R (i := 0) rfl hw) (fun v => ?_)
  refine VL.fact fun e45 => ?_
  subst e45
  refine VL.set0 ?_
  refine VL.build (zs := pktZ) (L := pktFL) [(0, [.int .u8 (takeN (openP (l)) 1)]), (1, [.int .u8 (takeN ((openP (l)).drop 1) 1)]), (2, [.int .u8 (takeN (((openP (l)).drop 1).drop 1) 1)])] plan118 rfl ⟨⟨rfl, ⟨_, rfl, rfl⟩, rfl⟩, ⟨⟨rfl, ⟨_, rfl, rfl⟩, rfl⟩, ⟨⟨rfl, ⟨_, rfl, rfl⟩, rfl⟩, trivial⟩⟩⟩ rfl ?_
  refine VL.newv (v' := .agg (cat (pktV ((Pkt.mk (takeN (openP l) 1) (takeN ((openP l).drop 1) 1) (takeN (((openP l).drop 1).drop 1) 1) [] [] (zeros 64))) none 0 none 0)).toArray) rfl ?_
  refine VL.alloc (L := pktL) (ps := (pktV (pkt0) none 0 none 0)) zero118 rfl rfl (fun g46 => ?_)
  refine VL.store (L := pktL) (qs := (pktV ((Pkt.mk (takeN (openP l) 1) (takeN ((openP l).drop 1) 1) (takeN (((openP l).drop 1).drop 1) 1) [] [] (zeros 64))) none 0 none 0)) (ps' := (pktV ((Pkt.mk (takeN (openP l) 1) (takeN ((openP l).drop 1) 1) (takeN (((openP l).drop 1).drop 1) 1) [] [] (zeros 64))) none 0 none 0)) 0 0 6 rfl rfl rfl (.inl kd118) rfl rfl (pktV_len ((⟨takeN_lt _ 1, takeN_lt _ 1, takeN_lt _ 1, (by simp), rfl⟩ : Pkt.ok (Pkt.mk (takeN (openP l) 1) (takeN ((openP l).drop 1) 1) (takeN (((openP l).drop 1).drop 1) 1) [] [] (zeros 64))))) (pktV_ok1 ((Pkt.mk (takeN (openP l) 1) (takeN ((openP l).drop 1) 1) (takeN (((openP l).drop 1).drop 1) 1) [] [] (zeros 64))) none 0 none 0) rfl rfl ?_
  refine VL.set0 ?_
  refine VL.nn ?_
  refine VC.sr ?_
  refine VL.build (zs := [[.slice none 0 0], [.int .i64 0]]) [] plan196 rfl trivial rfl ?_
  refine VL.box (L := [1, 1]) (ps := [[.slice none 0 0], [.int .i64 0]]) rfl rfl rfl (fun g0 => ?_)
  refine VL.turn (fun w' hw => shutR (parts := []) (why := 0) (p := none) (c := 0) hw Arr.none) ?_
  refine VL.assign rfl ?_
  refine VL.nn ?_
  refine VC.join (X := Nat × List (List UInt8) × Nat) (fun (gl, _, _) => [(2, .pointer (some ⟨g1, 0, none⟩)), (4, .pointer (some ⟨g2, 0, none⟩)), (5, .pointer (some ⟨g46, 0, none⟩)), (6, .pointer (some ⟨gl, 0, none⟩))]) (fun (gl, c0, y0) => Own (⟨w, keys H⟩ :: S) (rch gl c0 y0 :: blk g46 118 pktL (pktV ((Pkt.mk (takeN (openP l) 1) (takeN ((openP l).drop 1) 1) (takeN (((openP l).drop 1).drop 1) 1) [] [] (zeros 64))) none 0 none 0) :: rch g2 (((((openP (l)).drop 1).drop 1).drop 1).drop 1) (nextW ((((openP (l)).drop 1).drop 1).drop 1) (lenW (((openP (l)).drop 1).drop 1) (lenW ((openP (l)).drop 1) (lenW (openP (l)) (openW (l)) 1) 1) 1)) :: blk g1 118 pktL (pktV (pkt0) none 0 none 0) :: H)) (fun (_, c0, y0) => ((nextP ((((openP l).drop 1).drop 1).drop 1)) = [0] ∧ c0 = [] ∧ y0 = 0) ∨ ((nextP ((((openP l).drop 1).drop 1).drop 1)) ≠ [0] ∧ c0 = openP (nextP ((((openP l).drop 1).drop 1).drop 1)) ∧ y0 = openW (nextP ((((openP l).drop 1).drop 1).drop 1)))) (fun hrest => ?_) (fun (gl, c0, y0) hcz => ?_)
  ·skip
   refine VC.sr ?_
   refine VL.move rfl ?_
   refine VL.call Try.func124 rfl (by decide) rfl (fun w' hw => piece_R (i := 2) rfl hw) (fun v => ?_)
   refine VL.at (fun w47 h1w => ?_)
   obtain ⟨p48, c49, rfl, hO51, hA50⟩ := h1w
   replace hO51 := ownSet2 hO51
   replace hA50 := arrSet2 hA50
   refine VL.toOwn hO51 ?_
   refine VL.assign rfl ?_
   refine VL.nn ?_
   refine VC.join (X := Bool) (fun b => [(2, .pointer (some ⟨g1, 0, none⟩)), (4, .pointer (some ⟨g2, 0, none⟩)), (5, .pointer (some ⟨g46, 0, none⟩)), (6, .pointer (some ⟨g0, 0, none⟩)), (7, .slice p48 (nextP ((((openP l).drop 1).drop 1).drop 1)).length c49), (78, .bool b)]) (fun _ => Own (⟨w47, keys (rch g0 [] 0 :: blk g46 118 pktL (pktV ((Pkt.mk (takeN (openP l) 1) (takeN ((openP l).drop 1) 1) (takeN (((openP l).drop 1).drop 1) 1) [] [] (zeros 64))) none 0 none 0) :: rch g2 (((((openP (l)).drop 1).drop 1).drop 1).drop 1) (nextW ((((openP (l)).drop 1).drop 1).drop 1) (lenW (((openP (l)).drop 1).drop 1) (lenW ((openP (l)).drop 1) (lenW (openP (l)) (openW (l)) 1) 1) 1)) :: blk g1 118 pktL (pktV (pkt0) none 0 none 0) :: H)⟩ :: ⟨w, keys H⟩ :: S) (rch g0 [] 0 :: blk g46 118 pktL (pktV ((Pkt.mk (takeN (openP l) 1) (takeN ((openP l).drop 1) 1) (takeN (((openP l).drop 1).drop 1) 1) [] [] (zeros 64))) none 0 none 0) :: rch g2 (((((openP (l)).drop 1).drop 1).drop 1).drop 1) (nextW ((((openP (l)).drop 1).drop 1).drop 1) (lenW (((openP (l)).drop 1).drop 1) (lenW ((openP (l)).drop 1) (lenW (openP (l)) (openW (l)) 1) 1) 1)) :: blk g1 118 pktL (pktV (pkt0) none 0 none 0) :: H)) (fun b => (b = true ↔ ¬ (nextP ((((openP l).drop 1).drop 1).drop 1)) = [0])) (fun hrest => ?_) (fun b2 hbz => ?_)
   ·skip
    by_cases hz : (nextP ((((openP l).drop 1).drop 1).drop 1)) = [0]
    ·have h1p2 : 0 < (nextP ((((openP l).drop 1).drop 1).drop 1)).length := by rw [hz]; decide
     refine VC.region ?_
     refine VL.move rfl ?_
     refine VL.len Try.underlying24 rfl rfl ?_
     refine VL.neq rfl rfl ?_
     refine VL.no (by rw [hz]; decide) ?_
     refine VL.move rfl ?_
     refine VL.go rfl rfl rfl ?_
     refine VL.move rfl ?_
     refine VL.go rfl rfl rfl ?_
     refine VL.index (xs := nextP ((((openP (l)).drop 1).drop 1).drop 1)) rfl rfl Try.underlying24 sz24 hA50 (by omega) (by have hi := h1p2; omega) ?_
     refine VL.go rfl rfl rfl ?_
     refine VL.byte (s := ⟨w47, _⟩) (y := (nextP ((((openP (l)).drop 1).drop 1).drop 1))[0]'h1p2) rfl kd5 (fun _ h => h) (by repeat (first | exact List.mem_cons_self .. | apply List.mem_cons_of_mem)) hA50 (List.getElem?_eq_getElem h1p2) ?_
     refine VL.go rfl rfl rfl ?_
     refine VL.neq rfl rfl ?_
     refine VL.no (zero_at hz h1p2) ?_
     refine VL.pick_f rfl rfl ?_
     refine VL.nil ?_
     exact VX.join hrest false ⟨fun h => absurd h (by decide), fun h => absurd hz h⟩ ⟨rfl, rfl, rfl, rfl, rfl, rfl, trivial⟩ (fun _ h => h.subA)
    ·refine VC.region ?_
     refine VL.move rfl ?_
     refine VL.len Try.underlying24 rfl rfl ?_
     refine VL.neq rfl rfl ?_
     refine VL.case (fun h7_2 => ?_) (fun h7_2 => ?_)
     ·skip
      refine VL.move rfl ?_
      refine VL.pass rfl rfl rfl rfl rfl ?_
      refine VL.pass rfl rfl rfl rfl rfl ?_
      refine VL.pass rfl rfl rfl rfl rfl ?_
      refine VL.pass rfl rfl rfl rfl rfl ?_
      refine VL.pick_t rfl rfl ?_
      refine VL.nil ?_
      exact VX.join hrest true ⟨fun _ => hz, fun _ => rfl⟩ ⟨rfl, rfl, rfl, rfl, rfl, rfl, trivial⟩ (fun _ h => h.subA)
     ·have h1l2 : (nextP ((((openP l).drop 1).drop 1).drop 1)).length = 1 := by omega
      have h1p2 : 0 < (nextP ((((openP l).drop 1).drop 1).drop 1)).length := by omega
      refine VL.move rfl ?_
      refine VL.go rfl rfl rfl ?_
      refine VL.move rfl ?_
      refine VL.go rfl rfl rfl ?_
      refine VL.index (xs := nextP ((((openP (l)).drop 1).drop 1).drop 1)) rfl rfl Try.underlying24 sz24 hA50 (by omega) (by have hi := h1p2; omega) ?_
      refine VL.go rfl rfl rfl ?_
      refine VL.byte (s := ⟨w47, _⟩) (y := (nextP ((((openP (l)).drop 1).drop 1).drop 1))[0]'h1p2) rfl kd5 (fun _ h => h) (by repeat (first | exact List.mem_cons_self .. | apply List.mem_cons_of_mem)) hA50 (List.getElem?_eq_getElem h1p2) ?_
      refine VL.go rfl rfl rfl ?_
      refine VL.neq rfl rfl ?_
      refine VL.yes (nz_at hz h1l2 h1p2) ?_
      refine VL.pick_f rfl rfl ?_
      refine VL.nil ?_
      exact VX.join hrest true ⟨fun _ => hz, fun _ => rfl⟩ ⟨rfl, rfl, rfl, rfl, rfl, rfl, trivial⟩ (fun _ h => h.subA)
   skip
   refine VC.split rfl (fun hc78 => ?_) (fun hc78 => ?_)
   ·refine VC.region ?_
    refine VL.move rfl ?_
    refine VL.call Try.func121 rfl (by decide) rfl (fun w' hw => open_R hw (hA50.nowA (s := ⟨w47, _⟩) Mono.byte hw)) (fun v => ?_)
    refine VL.ex fun g56 => VL.fact fun e57 => ?_
    subst e57
    refine VL.assign rfl ?_
    refine VL.nil ?_
    exact VX.join hrest (g56, openP (nextP ((((openP l).drop 1).drop 1).drop 1)), openW (nextP ((((openP l).drop 1).drop 1).drop 1))) (.inr ⟨hbz.1 hc78, rfl, rfl⟩) ⟨rfl, rfl, rfl, rfl, trivial⟩ (fun _ h => (Own.drop2 h).subA)
   ·refine VC.skip ?_
    exact VX.join hrest (g0, [], 0) (.inl ⟨Classical.not_not.1 (mt hbz.2 (by rw [hc78]; decide)), rfl, rfl⟩) ⟨rfl, rfl, rfl, rfl, trivial⟩ (fun _ h => h.subA)
  refine VC.turn (G' := Own (⟨w, keys H⟩ :: S) (rch gl c0 y0 :: blk g46 118 pktL (pktV ((Pkt.mk (takeN (openP l) 1) (takeN ((openP l).drop 1) 1) (takeN (((openP l).drop 1).drop 1) 1) [] [] (zeros 64))) none 0 none 0) :: rch g2 (((((openP (l)).drop 1).drop 1).drop 1).drop 1) (nextW ((((openP (l)).drop 1).drop 1).drop 1) (lenW (((openP (l)).drop 1).drop 1) (lenW ((openP (l)).drop 1) (lenW (openP (l)) (openW (l)) 1) 1) 1)) :: blk g1 118 pktL (pktV (pkt0) none 0 none 0) :: H)) (fun _ h => h) ?_
  refine VC.join (X := List Object × List (List UInt8) × Nat × Option Nat × Nat) (fun _ => [(2, .pointer (some ⟨g1, 0, none⟩)), (4, .pointer (some ⟨g2, 0, none⟩)), (5, .pointer (some ⟨g46, 0, none⟩)), (6, .pointer (some ⟨gl, 0, none⟩))]) (fun (xs, ps, er, gv, cv) => Own (⟨w, keys H⟩ :: S) (arow 85 101 objectR' Mono_object gv cv xs :: rch gl ps er :: blk g46 118 pktL (pktV ((Pkt.mk (takeN (openP l) 1) (takeN ((openP l).drop 1) 1) (takeN (((openP l).drop 1).drop 1) 1) xs [] (zeros 64))) (gv.map fun g => (⟨g, 0, none⟩ : Addr)) cv none 0) :: rch g2 (((((openP (l)).drop 1).drop 1).drop 1).drop 1) (nextW ((((openP (l)).drop 1).drop 1).drop 1) (lenW (((openP (l)).drop 1).drop 1) (lenW ((openP (l)).drop 1) (lenW (openP (l)) (openW (l)) 1) 1) 1)) :: blk g1 118 pktL (pktV (pkt0) none 0 none 0) :: H)) (fun (xs, ps, er, _, _) => OInv c0 y0 xs ps er ∧ (ps = [] ∨ 4 ≤ xs.length ∨ er ≠ 0)) (fun hrest => ?_) (fun (xs, ps, er, gv, cv) ⟨hinv, hx⟩ => ?_)
  ·skip
   refine VC.block ?_
   refine VC.turn (G' := Own _ (arow 85 101 objectR' Mono_object none 0 ([] : List Object) :: rch gl c0 y0 :: blk g46 118 pktL (pktV ((Pkt.mk (takeN (openP l) 1) (takeN ((openP l).drop 1) 1) (takeN (((openP l).drop 1).drop 1) 1) [] [] (zeros 64))) none 0 none 0) :: rch g2 (((((openP (l)).drop 1).drop 1).drop 1).drop 1) (nextW ((((openP (l)).drop 1).drop 1).drop 1) (lenW (((openP (l)).drop 1).drop 1) (lenW ((openP (l)).drop 1) (lenW (openP (l)) (openW (l)) 1) 1) 1)) :: blk g1 118 pktL (pktV (pkt0) none 0 none 0) :: H)) (fun w' h => newRowO h) ?_
   refine VC.loop (X := List Object × List (List UInt8) × Nat × Option Nat × Nat) (fun _ => [(2, .pointer (some ⟨g1, 0, none⟩)), (4, .pointer (some ⟨g2, 0, none⟩)), (5, .pointer (some ⟨g46, 0, none⟩)), (6, .pointer (some ⟨gl, 0, none⟩))]) (fun (xs, ps, er, gv, cv) w' => OInv c0 y0 xs ps er ∧ Own (⟨w, keys H⟩ :: S) (arow 85 101 objectR' Mono_object gv cv xs :: rch gl ps er :: blk g46 118 pktL (pktV ((Pkt.mk (takeN (openP l) 1) (takeN ((openP l).drop 1) 1) (takeN (((openP l).drop 1).drop 1) 1) xs [] (zeros 64))) (gv.map fun g => (⟨g, 0, none⟩ : Addr)) cv none 0) :: rch g2 (((((openP (l)).drop 1).drop 1).drop 1).drop 1) (nextW ((((openP (l)).drop 1).drop 1).drop 1) (lenW (((openP (l)).drop 1).drop 1) (lenW ((openP (l)).drop 1) (lenW (openP (l)) (openW (l)) 1) 1) 1)) :: blk g1 118 pktL (pktV (pkt0) none 0 none 0) :: H) w') (fun (_, ps, _) => ps.length) ([], c0, y0, none, 0) ⟨rfl, rfl, rfl, rfl, trivial⟩ (fun w' h => ⟨OInv.start _ _, h.subA⟩) (fun (xs, ps, er, gv, cv) => VC.fact fun hinv => ?_)
   ·have hxs := hinv.1
    refine VC.seq ?_
    refine VC.sr ?_
    refine VL.move rfl ?_
    refine VL.nilCheck rfl ?_
    refine VL.fieldAddr rfl fo196_0 rfl ?_
    refine loadParts 1 rfl rfl (fun p58 c59 w60 hO61 hA62 => ?_)
    refine VL.len Try.underlying31 rfl rfl ?_
    refine VL.gtr rfl rfl ?_
    refine VL.case (fun h9_5 => ?_) (fun h9_5 => ?_)
    ·obtain ⟨pc, rest, rfl⟩ : ∃ pc rest, ps = pc :: rest := by
      cases ps with
      | nil => exact absurd h9_5 (by simp)
      | cons a b => exact ⟨a, b, rfl⟩
     refine VL.move rfl ?_
     refine VL.go rfl rfl rfl ?_
     refine VL.fieldAddr rfl fo118_3 rfl ?_
     refine VL.go rfl rfl rfl ?_
     refine VL.load (v := .slice (gv.map fun g => (⟨g, 0, none⟩ : Addr)) (xs).length cv) 2 3 rfl kd116 (fun _ h => h) rfl rfl rfl ?_
     refine VL.go rfl rfl rfl ?_
     refine VL.len Try.underlying116 rfl rfl ?_
     refine VL.go rfl rfl rfl ?_
     refine VL.lss rfl rfl ?_
     refine VL.case (fun h9_10 => ?_) (fun h9_10 => ?_)
     ·have h9_10 : xs.length < 4 := by have h : ((xs.length : Nat) : Int) < 4 := h9_10; omega
      refine VL.pick_t rfl rfl ?_
      refine VL.move rfl ?_
      refine VL.go rfl rfl rfl ?_
      refine VL.move rfl ?_
      refine VL.go rfl rfl rfl ?_
      refine VL.nilCheck rfl ?_
      refine VL.go rfl rfl rfl ?_
      refine VL.fieldAddr rfl fo196_1 rfl ?_
      refine VL.go rfl rfl rfl ?_
      refine loadWhy 1 rfl (fun _ h => h) rfl ?_
      refine VL.go rfl rfl rfl ?_
      refine VL.eql rfl rfl ?_
      refine VL.case (fun h9_17 => ?_) (fun h9_17 => ?_)
      ·have her : er = 0 := by omega
       refine VL.pick_t rfl rfl ?_
       refine VL.nn ?_
       refine VC.yes rfl ?_
       refine VC.skip ?_
       refine VX.next ?_
       refine VC.block ?_
       refine VC.sr ?_
       refine VL.move rfl ?_
       refine VL.call Try.func124 rfl (by decide) rfl (fun w' hw => piece_R (i := 1) rfl hw) (fun v => ?_)
       refine VL.at (fun w63 h1w => ?_)
       obtain ⟨p64, c65, rfl, hO67, hA66⟩ := h1w
       replace hO67 := ownSet1 hO67
       replace hA66 := arrSet1 hA66
       refine VL.toOwn hO67 ?_
       refine VL.call Try.func71 rfl (by decide) rfl (fun w' hw => getObject_w hw (hA66.nowA (s := ⟨w63, _⟩) Mono.byte hw)) (fun v => ?_)
       refine VL.at (fun w68 h1w => ?_)
       obtain ⟨p70, c71, rfl, hO69, hA72⟩ := h1w
       refine VL.toOwn hO69 ?_
       refine VL.move rfl ?_
       refine VL.extract rfl rfl ?_
       refine VL.extract rfl rfl ?_
       refine VL.alloc (L := objectL) (ps := (objectV (object0) none 0)) zero85 rfl rfl (fun g73 => ?_)
       refine VL.store (L := objectL) (qs := (objectV (((objectR pc).getD object0)) p70 c71)) (ps' := (objectV (((objectR pc).getD object0)) p70 c71)) 0 0 7 rfl rfl rfl (.inl kd85) rfl rfl (objectV_len (objectR_ok pc)) (objectV_ok1 (((objectR pc).getD object0)) p70 c71) rfl rfl ?_
       refine VL.set0 ?_
       refine VL.assign rfl ?_
       refine VL.nn ?_
       refine VC.sr ?_
       refine VL.move rfl ?_
       refine VL.move rfl ?_
       refine VL.call Try.func125 rfl (by decide) rfl (fun w' hw => fail_R (i := 2) rfl hw (if (objectR pc).isSome then 0 else 141)) (fun v => ?_)
       refine VL.fact fun e74 => ?_
       subst e74
       refine VL.set2 ?_
       refine VL.nn ?_
       have hxs2 : ∀ x ∈ xs ++ [((objectR pc).getD object0)], x.ok := fun x hx => (List.mem_append.1 hx).elim (hxs x) (fun h => by rw [List.mem_singleton] at h; subst h; exact objectR_ok pc)
       refine VC.region ?_
       refine VL.fieldAddr rfl fo118_3 rfl ?_
       refine VL.load (v := .slice (gv.map fun g => (⟨g, 0, none⟩ : Addr)) (xs).length cv) 3 3 rfl kd116 (fun _ h => h) rfl rfl rfl ?_
       refine VL.loads (cs := cat (objectV (((objectR pc).getD object0)) p70 c71)) 0 0 7 rfl kd85 (fun _ h => h) rfl rfl rfl rfl ?_
       refine VL.lit el116 rfl rfl rfl (by intro v hv; simp only [List.mem_singleton] at hv; subst hv; show (cat (objectV ((objectR pc).getD object0) p70 c71)).toArray.size = 101; rw [List.size_toArray, cat_size (objectV_len (objectR_ok pc))]; rfl) (by rw [show [Value.agg (cat (objectV ((objectR pc).getD object0) p70 c71)).toArray].flatMap (·.cells.toList) = (cat (objectV ((objectR pc).getD object0) p70 c71)) by simp [Value.cells]]; exact objectV_ok1 _ _ _) (fun gz => ?_)
       refine VL.letRow objectR' [((objectR pc).getD object0)] rfl (fun w' hw => one_object (objectR_ok pc) (hA72.nowA (s := ⟨w68, _⟩) Mono_vouch hw)) (fun wl hOl hAl => ?_)
       refine VL.appends (R := objectR') (hR := Mono_object) (ys := xs) (zs := [((objectR pc).getD object0)]) 1 el116 rfl rfl rfl (fun _ h => h) rfl (fun _ hw => (hAl.nowA (s := ⟨wl, _⟩) Mono_object hw)) objectR'_ok1 (by simp only [List.length_cons, List.length_nil]; omega) (fun gv2 cv2 => ?_) (by simp only [List.length_cons, List.length_nil]; omega)
       refine VL.set1 ?_
       refine VL.fieldAddr rfl fo118_3 rfl ?_
       refine VL.store (L := pktL) (qs := [[rowV gv2 (xs ++ [((objectR pc).getD object0)]).length cv2]]) (ps' := (pktV ((Pkt.mk (takeN (openP l) 1) (takeN ((openP l).drop 1) 1) (takeN (((openP l).drop 1).drop 1) 1) (xs ++ [((objectR pc).getD object0)]) [] (zeros 64))) (gv2.map fun g => (⟨g, 0, none⟩ : Addr)) cv2 none 0)) 3 3 1 rfl rfl rfl (.inr ⟨kd116, rfl⟩) rfl rfl rfl (by intro u hu; simp [cat] at hu; subst hu; rfl) rfl rfl ?_
       refine VL.set3 ?_
       refine VL.nil ?_
       refine VX.block_normal ?_
       subst her
       obtain rfl : y0 = 0 := by
        rcases hinv.2.2 with ⟨e, _⟩ | ⟨e, _⟩
        ·exact e.symm
        ·cases e
       refine VX.round (xs ++ [((objectR pc).getD object0)], rest, (if (objectR pc).isSome then 0 else 141), gv2, cv2) ⟨rfl, rfl, rfl, rfl, trivial⟩ (fun w' h => ⟨hinv.step h9_10, (h.drop).subA⟩) (by show rest.length < (pc :: rest).length; simp)
      ·have h9_17 : er ≠ 0 := by omega
       refine VL.pick_t rfl rfl ?_
       refine VL.nn ?_
       refine VC.no rfl ?_
       refine VC.exit ?_
       refine VX.then_exit ?_
       refine VX.then_exit ?_
       refine VX.block_here ?_
       exact VX.join hrest (xs, (pc :: rest), er, gv, cv) ⟨hinv, .inr (.inr h9_17)⟩ ⟨rfl, rfl, rfl, rfl, trivial⟩ (fun _ h => h.subA)
     ·have h9_10 : 4 ≤ xs.length := by have h : ¬ ((xs.length : Nat) : Int) < 4 := h9_10; omega
      refine VL.pick_t rfl rfl ?_
      refine VL.move rfl ?_
      refine VL.pass rfl rfl rfl rfl rfl ?_
      refine VL.pass rfl rfl rfl rfl rfl ?_
      refine VL.pass rfl rfl rfl rfl rfl ?_
      refine VL.pass rfl rfl rfl rfl rfl ?_
      refine VL.pass rfl rfl rfl rfl rfl ?_
      refine VL.pick_f rfl rfl ?_
      refine VL.nn ?_
      refine VC.no rfl ?_
      refine VC.exit ?_
      refine VX.then_exit ?_
      refine VX.then_exit ?_
      refine VX.block_here ?_
      exact VX.join hrest (xs, (pc :: rest), er, gv, cv) ⟨hinv, .inr (.inl h9_10)⟩ ⟨rfl, rfl, rfl, rfl, trivial⟩ (fun _ h => h.subA)
    ·obtain rfl : ps = [] := List.eq_nil_of_length_eq_zero (by omega)
     refine VL.move rfl ?_
     refine VL.pass rfl rfl rfl rfl rfl ?_
     refine VL.pass rfl rfl rfl rfl rfl ?_
     refine VL.pass rfl rfl rfl rfl rfl ?_
     refine VL.pass rfl rfl rfl rfl rfl ?_
     refine VL.pick_f rfl rfl ?_
     refine VL.move rfl ?_
     refine VL.pass rfl rfl rfl rfl rfl ?_
     refine VL.pass rfl rfl rfl rfl rfl ?_
     refine VL.pass rfl rfl rfl rfl rfl ?_
     refine VL.pass rfl rfl rfl rfl rfl ?_
     refine VL.pass rfl rfl rfl rfl rfl ?_
     refine VL.pick_f rfl rfl ?_
     refine VL.nn ?_
     refine VC.no rfl ?_
     refine VC.exit ?_
     refine VX.then_exit ?_
     refine VX.then_exit ?_
     refine VX.block_here ?_
     exact VX.join hrest (xs, [], er, gv, cv) ⟨hinv, .inl rfl⟩ ⟨rfl, rfl, rfl, rfl, trivial⟩ (fun _ h => h.subA)
  refine VC.turn (G' := Own (⟨w, keys H⟩ :: S) (arow 85 101 objectR' Mono_object gv cv xs :: rch gl ps er :: blk g46 118 pktL (pktV ((Pkt.mk (takeN (openP l) 1) (takeN ((openP l).drop 1) 1) (takeN (((openP l).drop 1).drop 1) 1) xs [] (zeros 64))) (gv.map fun g => (⟨g, 0, none⟩ : Addr)) cv none 0) :: rch g2 (((((openP (l)).drop 1).drop 1).drop 1).drop 1) (nextW ((((openP (l)).drop 1).drop 1).drop 1) (lenW (((openP (l)).drop 1).drop 1) (lenW ((openP (l)).drop 1) (lenW (openP (l)) (openW (l)) 1) 1) 1)) :: blk g1 118 pktL (pktV (pkt0) none 0 none 0) :: H)) (fun _ h => h) ?_
  have hxs := hinv.1
  refine VC.seq ?_
  refine VC.letArr (fun wr hOr hAr => ?_)
  refine VC.region ?_
  refine VL.move rfl ?_
  refine VL.move rfl ?_
  refine VL.call Try.func126 rfl (by decide) rfl (fun w' hw => end_R (i := 0) rfl hw) (fun v => ?_)
  refine VL.fact fun e75 => ?_
  subst e75
  refine VL.set0 ?_
  refine VL.call Try.func125 rfl (by decide) rfl (fun w' hw => fail_R (i := 2) rfl hw (endW ps er)) (fun v => ?_)
  refine VL.fact fun e76 => ?_
  subst e76
  refine VL.set2 ?_
  refine VL.nn ?_
  refine VC.sr ?_
  refine VL.move rfl ?_
  refine VL.call Try.func124 rfl (by decide) rfl (fun w' hw => piece_R (i := 2) rfl hw) (fun v => ?_)
  refine VL.at (fun w77 h1w => ?_)
  obtain ⟨p78, c79, rfl, hO81, hA80⟩ := h1w
  replace hO81 := ownSet2 hO81
  replace hA80 := arrSet2 hA80
  refine VL.toOwn hO81 ?_
  refine VL.move rfl ?_
  refine VL.call Try.func131 rfl (by decide) rfl (fun w' hw => sig_R (i := 2) rfl hw) (fun v => ?_)
  refine VL.fact fun e82 => ?_
  subst e82
  refine VL.set2 ?_
  refine VL.fieldAddr rfl fo118_4 rfl ?_
  refine VL.store (L := pktL) (qs := [[.slice p78 (nextP (((((openP (l)).drop 1).drop 1).drop 1).drop 1)).length c79]]) 1 4 1 rfl rfl rfl (.inr ⟨kd24, rfl⟩) rfl rfl rfl (by intro u hu; simp [cat] at hu; subst hu; rfl) rfl rfl ?_
  refine VL.set1 ?_
  refine VL.fieldAddr rfl fo118_5 rfl ?_
  refine VL.store (L := pktL) (qs := [(takeB 64 ((((((openP (l)).drop 1).drop 1).drop 1).drop 1).drop 1)).map bv]) 1 5 1 rfl rfl rfl (.inl kd80) rfl rfl (arr_len (takeB_length ((((((openP (l)).drop 1).drop 1).drop 1).drop 1).drop 1) 64)) (ok1_bytes _) rfl rfl ?_
  refine VL.set1 ?_
  refine VL.nn ?_
  refine VC.seq ?_
  refine VC.sr ?_
  refine VL.move rfl ?_
  refine VL.call Try.func126 rfl (by decide) rfl (fun w' hw => end_R (i := 2) rfl hw) (fun v => ?_)
  refine VL.fact fun e83 => ?_
  subst e83
  refine VL.set2 ?_
  refine VL.assign rfl ?_
  refine VL.nn ?_
  refine VC.sr ?_
  refine VL.move rfl ?_
  refine VL.neq rfl rfl ?_
  refine VL.case (fun h16_1 => ?_) (fun h16_1 => ?_)
  ·skip
   refine VL.nn ?_
   refine VC.yes rfl ?_
   refine VC.sr ?_
   refine VL.build0 (cs := cat (pktV (pkt0) none 0 none 0)) built118 ?_
   refine VL.store (L := pktL) (qs := (pktV (pkt0) none 0 none 0)) (ps' := (pktV (pkt0) none 0 none 0)) 3 0 6 rfl rfl rfl (.inl kd118) rfl rfl rfl (pktV_ok1 pkt0 none 0 none 0) rfl rfl ?_
   refine VL.set3 ?_
   refine VL.assign rfl ?_
   refine VL.nn ?_
   refine VC.ret ?_
   refine VX.then_ret ?_
   refine VX.ret_cell (cs := cat (pktV (pkt0) none 0 none 0)) 3 rfl rfl rfl kd118 (fun _ h => h) rfl rfl (fun we hw => ?_)
   obtain ⟨hce, hci⟩ := chain_end hcz hinv hx
   have hpw := pkt_why l hnb
   rw [← hce] at hpw
   obtain ⟨e1, _⟩ := why_none h16_1 hpw
   have e2 : pktW l = 141 := by rw [pktW_good hnb, e1]; rfl
   exact ⟨none, 0, none, 0, by rw [e1]; exact congrArg (fun n : Nat => Value.tuple #[_, .int .i64 (n : Int)]) (e2).symm, hw.drop.drop.drop.drop.subA, by rw [e1]; exact Arr.none, by rw [e1]; exact Arr.none⟩
  ·skip
   refine VL.nn ?_
   refine VC.no rfl ?_
   refine VC.skip ?_
   refine VX.next ?_
   refine VC.sr ?_
   refine VL.loads (cs := cat (pktV ((pktOf (openP l) xs)) (gv.map fun g => (⟨g, 0, none⟩ : Addr)) cv p78 c79)) 1 0 6 rfl kd118 (fun _ h => h) rfl rfl rfl rfl ?_
   refine VL.store (L := pktL) (qs := (pktV ((pktOf (openP l) xs)) (gv.map fun g => (⟨g, 0, none⟩ : Addr)) cv p78 c79)) (ps' := (pktV ((pktOf (openP l) xs)) (gv.map fun g => (⟨g, 0, none⟩ : Addr)) cv p78 c79)) 3 0 6 rfl rfl rfl (.inl kd118) rfl rfl (pktV_len ((⟨takeN_lt _ 1, takeN_lt _ 1, takeN_lt _ 1, hxs, takeB_length _ _⟩ : Pkt.ok (pktOf (openP l) xs)))) (pktV_ok1 ((pktOf (openP l) xs)) (gv.map fun g => (⟨g, 0, none⟩ : Addr)) cv p78 c79) rfl rfl ?_
   refine VL.set3 ?_
   refine VL.assign rfl ?_
   refine VL.nn ?_
   refine VC.ret ?_
   refine VX.ret_cell (cs := cat (pktV ((pktOf (openP l) xs)) (gv.map fun g => (⟨g, 0, none⟩ : Addr)) cv p78 c79)) 3 rfl rfl rfl (by rw [cat_size (pktV_len ((⟨takeN_lt _ 1, takeN_lt _ 1, takeN_lt _ 1, hxs, takeB_length _ _⟩ : Pkt.ok (pktOf (openP l) xs))))]; exact kd118) (fun _ h => h) rfl rfl (fun we hw => ?_)
   obtain ⟨hce, hci⟩ := chain_end hcz hinv hx
   have hpw := pkt_why l hnb
   rw [← hce] at hpw
   obtain ⟨y, e1⟩ := why_some h16_1 hpw
   have e2 : pktW l = 0 := by rw [pktW_good hnb, e1]; rfl
   have e3 := pkt_is e1 hci
   rw [e1, e2, e3]
   exact ⟨_, _, _, _, rfl, hw.drop.drop.drop.drop.subA, (hAr.nowA (s := ⟨wr, _⟩) Mono_object hw.drop.drop.drop.drop), (hA80.nowA (s := ⟨w77, _⟩) Mono.byte hw.drop.drop.drop.drop)⟩

end Go.Proofs.Ytcfecmoagfgnaaa

/- The rules of the walks, continued: floats, complex numbers, a bool against a bool, the opposite, the greatest of four. -/
namespace Go.Vc

abbrev fadd (a b : Nat) : Option Nat := FloatKind.f64.format.add a b
abbrev fsub (a b : Nat) : Option Nat := FloatKind.f64.format.sub a b
abbrev fmul (a b : Nat) : Option Nat := FloatKind.f64.format.mul a b
abbrev ford (a b : Nat) : Option Ordering := FloatKind.f64.format.order a b
/-- A complex number's value. -/
abbrev cx (z : Nat × Nat) : Value := .complex .f64 z.1 z.2
def cadd (a b : Nat × Nat) : Option (Nat × Nat) := (fadd a.1 b.1).bind fun x => (fadd a.2 b.2).map fun y => (x, y)
def csub (a b : Nat × Nat) : Option (Nat × Nat) := (fsub a.1 b.1).bind fun x => (fsub a.2 b.2).map fun y => (x, y)
def cmul (a b : Nat × Nat) : Option (Nat × Nat) :=
  (fmul a.1 b.1).bind fun p => (fmul a.2 b.2).bind fun q => (fsub p q).bind fun x =>
  (fmul a.1 b.2).bind fun r => (fmul a.2 b.1).bind fun s => (fadd r s).map fun y => (x, y)
section
variable {P : Program} {n : Nat} {Q : Exit → Act → World → Prop} {σ : Sl} {G : World → Prop} {ops : Array Oper} {rest : List Oper}
variable {d : Nat} {ty : TypeId} {pos : String} {aft : Array Edge}

theorem VL.farith {op : BinOp} {x y : Operand} {t ty' : TypeId} {a b r : Nat} (hop : op = .add ∨ op = .sub ∨ op = .mul ∨ op = .quo) (hx : ev σ x = some (.float .f64 a)) (hy : ev σ y = some (.float .f64 b)) (hr : floatBits op .f64 a b = some r)
  (h : VL P n ops Q rest ((d, .float .f64 r) :: σ) G) (hdn : Nat.blt d n = true := by rfl) : VL P n ops Q (⟨some d, .binOp op t x y ty', ty, pos, aft, none⟩ :: rest) σ G :=
 VL.val rfl rfl hdn (fun c w ha _ => by
  have e : eqGuard op t x y (.float .f64 a) (.float .f64 b) = pure () := by cases op <;> rfl
  have := run_float_arith (P := P) w op t .f64 a b r hr
  simp [execOp, ha.ev hx, ha.ev hy, e, this]) h

def fcmp (op : BinOp) (a b : Nat) : Bool :=
  match op with
  | .eql => ford a b == some .eq
  | .neq => ford a b != some .eq
  | .lss => ford a b == some .lt
  | .leq => ford a b == some .lt || ford a b == some .eq
  | .gtr => ford a b == some .gt
  | .geq => ford a b == some .gt || ford a b == some .eq
  | _ => false

theorem VL.fcmp {op : BinOp} {x y : Operand} {t ty' : TypeId} {a b : Nat} {r : Bool} (hop : op = .eql ∨ op = .neq ∨ op = .lss ∨ op = .leq ∨ op = .gtr ∨ op = .geq) (hx : ev σ x = some (.float .f64 a)) (hy : ev σ y = some (.float .f64 b)) (hr : Vc.fcmp op a b = r)
  (h : VL P n ops Q rest ((d, .bool r) :: σ) G) (hdn : Nat.blt d n = true := by rfl) : VL P n ops Q (⟨some d, .binOp op t x y ty', ty, pos, aft, none⟩ :: rest) σ G :=
 VL.val rfl rfl hdn (fun c w ha _ => by
  subst hr
  have e : eqGuard op t x y (.float .f64 a) (.float .f64 b) = pure () := by cases op <;> rfl
  rcases hop with rfl | rfl | rfl | rfl | rfl | rfl <;> simp [execOp, ha.ev hx, ha.ev hy, e, binOp, Op.floatCmp, Vc.fcmp]) h

theorem run_arith {op : BinOp} {a b r : Nat} {w : World} (h : floatBits op .f64 a b = some r) : (Op.Complex.arith op .f64 a b).run P w = .ok r w := by
 unfold floatBits at h
 unfold Op.Complex.arith
 cases op <;> simp only at h <;> first | (cases h; done) | skip
 all_goals simp [Op.floatArith, h]

theorem VL.cadd {x y : Operand} {t ty' : TypeId} {a b r : Nat × Nat} (hx : ev σ x = some (cx a)) (hy : ev σ y = some (cx b)) (hr : Vc.cadd a b = some r)
  (h : VL P n ops Q rest ((d, cx r) :: σ) G) (hdn : Nat.blt d n = true := by rfl) : VL P n ops Q (⟨some d, .binOp .add t x y ty', ty, pos, aft, none⟩ :: rest) σ G :=
 VL.val rfl rfl hdn (fun c w ha _ => by
  have e : eqGuard .add t x y (cx a) (cx b) = pure () := rfl
  unfold Vc.cadd at hr
  simp only [Option.bind_eq_some_iff, Option.map_eq_some_iff] at hr
  obtain ⟨u, h1, v, h2, rfl⟩ := hr
  have r1 := run_arith (P := P) (op := .add) (w := w) h1
  have r2 := run_arith (P := P) (op := .add) (w := w) h2
  simp [execOp, ha.ev hx, ha.ev hy, e, binOp, Op.complexOp, r1, r2]) h

theorem VL.csub {x y : Operand} {t ty' : TypeId} {a b r : Nat × Nat} (hx : ev σ x = some (cx a)) (hy : ev σ y = some (cx b)) (hr : Vc.csub a b = some r)
  (h : VL P n ops Q rest ((d, cx r) :: σ) G) (hdn : Nat.blt d n = true := by rfl) : VL P n ops Q (⟨some d, .binOp .sub t x y ty', ty, pos, aft, none⟩ :: rest) σ G :=
 VL.val rfl rfl hdn (fun c w ha _ => by
  have e : eqGuard .sub t x y (cx a) (cx b) = pure () := rfl
  unfold Vc.csub at hr
  simp only [Option.bind_eq_some_iff, Option.map_eq_some_iff] at hr
  obtain ⟨u, h1, v, h2, rfl⟩ := hr
  have r1 := run_arith (P := P) (op := .sub) (w := w) h1
  have r2 := run_arith (P := P) (op := .sub) (w := w) h2
  simp [execOp, ha.ev hx, ha.ev hy, e, binOp, Op.complexOp, r1, r2]) h

theorem VL.cmul {x y : Operand} {t ty' : TypeId} {a b r : Nat × Nat} (hx : ev σ x = some (cx a)) (hy : ev σ y = some (cx b)) (hr : Vc.cmul a b = some r)
  (h : VL P n ops Q rest ((d, cx r) :: σ) G) (hdn : Nat.blt d n = true := by rfl) : VL P n ops Q (⟨some d, .binOp .mul t x y ty', ty, pos, aft, none⟩ :: rest) σ G :=
 VL.val rfl rfl hdn (fun c w ha _ => by
  have e : eqGuard .mul t x y (cx a) (cx b) = pure () := rfl
  unfold Vc.cmul at hr
  simp only [Option.bind_eq_some_iff, Option.map_eq_some_iff] at hr
  obtain ⟨p, h1, q, h2, u, h3, r', h4, s, h5, v, h6, rfl⟩ := hr
  have r1 := run_arith (P := P) (op := .mul) (w := w) h1
  have r2 := run_arith (P := P) (op := .mul) (w := w) h2
  have r3 := run_arith (P := P) (op := .sub) (w := w) h3
  have r4 := run_arith (P := P) (op := .mul) (w := w) h4
  have r5 := run_arith (P := P) (op := .mul) (w := w) h5
  have r6 := run_arith (P := P) (op := .add) (w := w) h6
  simp [execOp, ha.ev hx, ha.ev hy, e, binOp, Op.complexOp, Op.Complex.conv, Op.Complex.product, Op.Complex.mul, Op.Complex.sub, Op.Complex.add, r1, r2, r3, r4, r5, r6]) h

theorem VL.real {x : Operand} {tys : Array TypeId} {a : Nat × Nat} (hx : ev σ x = some (cx a))
  (h : VL P n ops Q rest ((d, .float .f64 a.1) :: σ) G) (hdn : Nat.blt d n = true := by rfl) : VL P n ops Q (⟨some d, .call ⟨.builtin .real, #[x], tys⟩, ty, pos, aft, none⟩ :: rest) σ G :=
 VL.val rfl rfl hdn (fun c w ha _ => by
  simp [execOp, resolve, invoke, builtin, ha.ev hx, run_real]) h
theorem VL.imag {x : Operand} {tys : Array TypeId} {a : Nat × Nat} (hx : ev σ x = some (cx a))
  (h : VL P n ops Q rest ((d, .float .f64 a.2) :: σ) G) (hdn : Nat.blt d n = true := by rfl) : VL P n ops Q (⟨some d, .call ⟨.builtin .imag, #[x], tys⟩, ty, pos, aft, none⟩ :: rest) σ G :=
 VL.val rfl rfl hdn (fun c w ha _ => by
  simp [execOp, resolve, invoke, builtin, ha.ev hx, run_imag]) h
theorem VL.complex {x y : Operand} {tys : Array TypeId} {a b : Nat} (hx : ev σ x = some (.float .f64 a)) (hy : ev σ y = some (.float .f64 b))
  (h : VL P n ops Q rest ((d, cx (a, b)) :: σ) G) (hdn : Nat.blt d n = true := by rfl) : VL P n ops Q (⟨some d, .call ⟨.builtin .complex, #[x, y], tys⟩, ty, pos, aft, none⟩ :: rest) σ G :=
 VL.val rfl rfl hdn (fun c w ha _ => by
  simp [execOp, resolve, invoke, builtin, ha.ev hx, ha.ev hy, run_complex]) h

theorem VL.itof {x : Operand} {src dst : TypeId} {k : IntKind} {a : Int} (hs : (P.underlying src).isSome = true) (hd : P.underlying dst = some (.float .f64)) (hx : ev σ x = some (.int k a))
  (h : VL P n ops Q rest ((d, .float .f64 (FloatKind.f64.nearest a)) :: σ) G) (hdn : Nat.blt d n = true := by rfl) : VL P n ops Q (⟨some d, .convert src dst x, ty, pos, aft, none⟩ :: rest) σ G :=
 VL.val rfl rfl hdn (fun c w ha _ => by
  cases e : P.underlying src with
  | none => simp [e] at hs
  | some u => simp [execOp, ha.ev hx, convert, run_underlying e, run_underlying hd, Conv.intToFloat]) h
theorem VL.ftoi {x : Operand} {src dst : TypeId} {k : IntKind} {a : Nat} {i : Int} (hs : (P.underlying src).isSome = true) (hd : P.underlying dst = some (.int k)) (hx : ev σ x = some (.float .f64 a)) (hi : floatToIntVal .f64 a k = some i)
  (h : VL P n ops Q rest ((d, .int k i) :: σ) G) (hdn : Nat.blt d n = true := by rfl) : VL P n ops Q (⟨some d, .convert src dst x, ty, pos, aft, none⟩ :: rest) σ G :=
 VL.val rfl rfl hdn (fun c w ha _ => by
  have := run_convert_float_int (P := P) w src dst .f64 k a i hs hd hi
  simp [execOp, ha.ev hx, this]) h

theorem VL.neg {x : Operand} {t : TypeId} {k : IntKind} {a : Int} (hx : ev σ x = some (.int k a)) (hi : InR k (0 - a))
  (h : VL P n ops Q rest ((d, .int k (0 - a)) :: σ) G) (hdn : Nat.blt d n = true := by rfl) : VL P n ops Q (⟨some d, .unOp .neg t x, ty, pos, aft, none⟩ :: rest) σ G :=
 VL.val rfl rfl hdn (fun c w ha _ => by
  simp [execOp, ha.ev hx, Op.unary, Op.intArith]
  have := wrap_in hi
  simpa using this) h

theorem VL.bneq {x y : Operand} {t ty' : TypeId} {a b : Bool} (ht : P.underlying t = some .bool) (hx : ev σ x = some (.bool a)) (hy : ev σ y = some (.bool b))
  (h : VL P n ops Q rest ((d, .bool (a != b)) :: σ) G) (hdn : Nat.blt d n = true := by rfl) : VL P n ops Q (⟨some d, .binOp .neq t x y ty', ty, pos, aft, none⟩ :: rest) σ G :=
 VL.val rfl rfl hdn (fun c w ha _ => by
  have e : eqGuard .neq t x y (.bool a) (.bool b) = pure () := rfl
  have e2 : (binOp .neq t (.bool a) (.bool b)).run P w = .ok (.bool (a != b)) w := by
   have := run_equalIn_bool (P := P) w 9999 t a b ht
   simp only [binOp]
   simp [Op.equal, Op.maxDepth, this, bne]
  simp [execOp, ha.ev hx, ha.ev hy, e, e2]) h

theorem VL.max4 {x y u v : Operand} {k : IntKind} {a b c e : Int} {tys : Array TypeId} (hx : ev σ x = some (.int k a)) (hy : ev σ y = some (.int k b)) (hu : ev σ u = some (.int k c)) (hv : ev σ v = some (.int k e))
  (h : VL P n ops Q rest ((d, .int k (max (max (max a b) c) e)) :: σ) G) (hdn : Nat.blt d n = true := by rfl) : VL P n ops Q (⟨some d, .call ⟨.builtin .max, #[x, y, u, v], tys⟩, ty, pos, aft, none⟩ :: rest) σ G :=
 VL.val rfl rfl hdn (fun s w ha _ => by
  have m : ∀ p q : Int, (if p < q then q else p) = max p q := fun p q => by rw [Int.max_def]; split <;> split <;> omega
  simp [execOp, resolve, invoke, builtin, Builtin.max_, Builtin.max2, ha.ev hx, ha.ev hy, ha.ev hu, ha.ev hv, m]) h
end
end Go.Vc

/- Plain facts on the spiral: where the numbers stand; closed checks on small whole floats. -/
namespace Go.Pl
open Go.Vc

/-- The float of a whole number. -/
abbrev fi (x : Int) : Nat := FloatKind.f64.nearest x

/-- Where leg k begins, which way it goes, how long it is, which number stands there. -/
def cX (k : Nat) : Int := if k % 4 = 0 then -(k / 4 : Nat) else if k % 4 = 3 then -(k / 4 : Nat) - 1 else (k / 4 : Nat) + 1
def cY (k : Nat) : Int := if k % 4 = 0 ∨ k % 4 = 1 then -(k / 4 : Nat) else (k / 4 : Nat) + 1
def dX (k : Nat) : Int := if k % 4 = 0 then 1 else if k % 4 = 2 then -1 else 0
def dY (k : Nat) : Int := if k % 4 = 1 then 1 else if k % 4 = 3 then -1 else 0
def long (k : Nat) : Nat := k / 2 + 1
def base (k : Nat) : Nat := ((k + 1) / 2) * ((k + 2) / 2)
def pX (k r : Nat) : Int := cX k + dX k * r
def pY (k r : Nat) : Int := cY k + dY k * r

/-- Which way the float goes. -/
def wF : Nat → Nat × Nat
  | 0 => (fi 1, 0)
  | k + 1 => if (k + 1) % 4 = 1 then (0, fi 1) else if (k + 1) % 4 = 2 then (fi (-1), 0) else if (k + 1) % 4 = 3 then (9223372036854775808, fi (-1)) else (fi 1, 9223372036854775808)
/-- Row and column, all of them. -/
def allB (n : Nat) (f : Nat → Bool) : Bool := Nat.rec true (fun k ih => f k && ih) n
theorem allB_spec {f : Nat → Bool} : ∀ {n : Nat}, allB n f = true → ∀ i, i < n → f i = true
 | 0, _, i, hi => by omega
 | n + 1, h, i, hi => by
  have h' : (f n && allB n f) = true := h
  rw [Bool.and_eq_true] at h'
  by_cases e : i = n
  ·subst e; exact h'.1
  ·exact allB_spec h'.2 i (by omega)

def turnOk (r : Nat) : Bool :=
  decide (cmul (wF 0) (fi (r + 1 : Nat), 0) = some (fi (r + 1 : Nat), 0)) && decide (cmul (wF 4) (fi (r + 1 : Nat), 0) = some (fi (r + 1 : Nat), 0)) && decide (cmul (wF 1) (fi (r + 1 : Nat), 0) = some (0, fi (r + 1 : Nat))) &&
  decide (cmul (wF 2) (fi (r + 1 : Nat), 0) = some (fi (-(r + 1 : Nat)), 0)) && decide (cmul (wF 3) (fi (r + 1 : Nat), 0) = some (0, fi (-(r + 1 : Nat))))
theorem turns : allB 66 turnOk = true := by decide +kernel
def sumOk (q r : Nat) : Bool := decide (fadd (fi (-(q : Int))) (fi r) = some (fi (-(q : Int) + r))) && decide (fadd (fi ((q : Int) + 1)) (fi (-(r : Int))) = some (fi ((q : Int) + 1 + -(r : Int))))
theorem sums : allB 32 (fun q => allB (2 * q + 3) (sumOk q)) = true := by decide +kernel

/-- A small whole float. -/
def smallOk (i : Nat) : Bool :=
  let x : Int := (i : Int) - 65
  decide (fadd (fi x) 0 = some (fi x)) && decide (floatToIntVal .f64 (fi x) .i64 = some x) && fcmp .geq (fi x) 13920626448202203136 && fcmp .leq (fi x) 4697254411347427328 && fcmp .eql (fi x) (fi x) &&
  (decide (x = 0) || fcmp .neq (fi x) 0) && decide (fsub (fi x) (fi x) = some (fi 0)) && decide (fsub (fi x) (fi (x + 1)) = some (fi (-1))) && decide (fsub (fi x) (fi (x - 1)) = some (fi 1))
theorem smalls : allB 131 smallOk = true := by decide +kernel
/-- The number on the ring. -/
def ring (x y : Int) : Int := max (max (max x (0 - x)) y) (0 - y)
def placeI (x y : Int) : Int :=
  (2 * ring x y + 1) * (2 * ring x y + 1) -
  if y = 0 - ring x y then 1 + ring x y - x else if x = 0 - ring x y then 1 + 2 * ring x y + y + ring x y else if y = ring x y then 1 + 4 * ring x y + x + ring x y else 1 + 6 * ring x y + ring x y - y
def placeOk (k r : Nat) : Bool := decide (placeI (pX k r) (pY k r) = base k + r)
theorem places : allB 128 (fun k => allB (k / 2 + 1) (placeOk k)) = true := by decide +kernel
end Go.Pl

