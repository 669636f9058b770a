/- octet.Clone and octet.Split over bytes that the caller may own; the law on what they own. -/
import Derived.Test.YtcfecmoagfgnaaaOct7
import Derived.Test.YtcfecmoagfgnaaaVcView
namespace Go.Proofs.Ytcfecmoagfgnaaa
open Go.Vc Go.Pl

def SpJ.inv2 (l : List UInt8) (S : List Snap) (H : List Chunk) (w : World) : SpJ → World → Prop
  | .wrong e, w' => splitB l = (e, []) ∧ Own (⟨w, keys H⟩ :: S) H w'
  | .fin r p c acc g c', w' => (splitB l = cutB 0 r acc ∧ Vw S H p r c) ∧ Own (⟨w, keys H⟩ :: S) (brow g c' acc :: H) w'
  | .next k r p c acc g c', w' => (splitB l = cutB k r acc ∧ Vw S H p r c ∧ acc.length + k ≤ 64) ∧ Own (⟨w, keys H⟩ :: S) (brow g c' acc :: H) w'

theorem clone_vs {S : List Snap} {H : List Chunk} {w : World} (ho : Own S H w) {a : Addr} {l : List UInt8} {c : Nat} (hA : Vw S H (some a) l c) (hl : l.length ≤ 1099511627776) : Calls Try.prog 109 #[.slice (some a) l.length c] w (Ret fun v w' => ∃ p' c', v = .slice p' l.length c' ∧ Own S H w' ∧ Bytes (keys H) w' p' l c') := by
  refine enter (G := Own (⟨w, keys H⟩ :: S) H) ho.keep Try.func109 rfl Try.ntmps109 rfl ?_
  refine VC.seq ?_
  refine VC.region ?_
  refine VL.assign rfl ?_
  refine VL.nil ?_
  refine VX.next ?_
  refine VC.seq ?_
  refine VC.seq ?_
  refine VC.region ?_
  refine VL.move rfl ?_
  refine VL.eqnil Try.underlying24 rfl rfl ?_
  refine VL.nil ?_
  refine VX.next ?_
  refine VC.no rfl ?_
  refine VC.skip ?_
  refine VX.next ?_
  refine VC.seq ?_
  refine VC.region ?_
  refine VL.lit el24 rfl rfl rfl (by simp) (by simp [ok1]) (fun g => ?_)
  refine VL.move rfl ?_
  refine VL.append 0 el24 rfl rfl rfl rfl (fun _ h => (hA _ [_] _ (fun s hs => by simp [hs]) h).bytes) (by simp) (ok1_bytes l) (by omega) (by omega) (fun g1 c1 => ?_)
  refine VL.assign rfl ?_
  refine VL.nil ?_
  refine VX.next ?_
  refine VC.ret ?_
  refine VX.ret1 rfl rfl (fun w hw => ?_)
  have hb := hw.letBytes (l := l) (by omega) (by simp)
  exact ⟨_, _, by simp [rowV], hw.drop.lose, hb⟩

theorem clone_v {S : List Snap} {H : List Chunk} {w : World} (ho : Own S H w) {p : Option Addr} {l : List UInt8} {c : Nat} (hA : Vw S H p l c) (hl : l.length ≤ 1099511627776) : Calls Try.prog 109 #[.slice p l.length c] w (Ret fun v w' => ∃ p' c', v = .slice p' l.length c' ∧ Own S H w' ∧ Bytes (keys H) w' p' l c') := by
  cases p with
  | none =>
    have h0 := hA S [] w (fun _ h => h) ho
    have h1 := h0.nil rfl
    have h2 := h0.le
    obtain rfl : l = [] := List.eq_nil_of_length_eq_zero (by omega)
    exact clone_nil ho
  | some a => exact clone_vs ho hA hl

theorem split_v {S : List Snap} {H : List Chunk} {w : World} (ho : Own S H w) {p : Option Addr} {l : List UInt8} {c : Nat} (hA : Vw S H p l c) : Calls Try.prog 32 #[.slice p l.length c] w (Ret fun v w' => Own S H w' ∧ ∃ p' c', v = .tuple #[.slice p' (splitB l).2.length c', .int .i64 (splitB l).1] ∧ Arr 1 bytesR (keys H) w' p' (splitB l).2 c') := by
  refine enter (G := Own (⟨w, keys H⟩ :: S) H) ho.keep Try.func32 rfl Try.ntmps32 rfl ?_
  refine VC.seq ?_
  refine VC.region ?_
  refine VL.assign rfl ?_
  refine VL.assign rfl ?_
  refine VL.nil ?_
  refine VX.next ?_
  refine VC.labels SpJ.lab SpJ.st (SpJ.inv2 l S H w) SpJ.μ ?_ ?_
  · show VC _ _ _ _ _ _
    refine VC.seq ?_
    refine VC.region ?_
    refine VL.assign rfl ?_
    refine VL.nil ?_
    refine VX.next ?_
    refine VC.seq ?_
    refine VC.region ?_
    refine VL.assign rfl ?_
    refine VL.assign rfl ?_
    refine VL.nil ?_
    refine VX.next ?_
    refine VC.seq ?_
    refine VC.region ?_
    refine VL.assign rfl ?_
    refine VL.nil ?_
    refine VX.next ?_
    refine VC.seq ?_
    refine VC.seq ?_
    refine VC.region ?_
    refine VL.move rfl ?_
    refine VL.len Try.underlying24 rfl rfl ?_
    refine VL.eql rfl rfl ?_
    refine VL.case (fun h4_2 => ?_) (fun h4_2 => ?_)
    · refine VL.nil ?_
      refine VX.next ?_
      refine VC.yes rfl ?_
      refine VC.goto ?_
      refine VX.then_goto ?_
      refine VX.jump (SpJ.wrong 20) rfl ⟨rfl, trivial⟩ (fun w' h => ⟨by rw [List.eq_nil_of_length_eq_zero (show l.length = 0 by omega)]; rfl, h⟩) (by first | trivial | (show 0 < _; simp [SpJ.μ]))
    · refine VL.nil ?_
      refine VX.next ?_
      refine VC.no rfl ?_
      refine VC.skip ?_
      refine VX.next ?_
      refine VC.seq ?_
      obtain ⟨b0, r0, hl⟩ : ∃ b0 r0, l = b0 :: r0 := by
        cases l with
        | nil => exact absurd rfl h4_2
        | cons b r => exact ⟨b, r, rfl⟩
      have hb0 : l[0]? = some b0 := by rw [hl]; rfl
      have hd1 : l.drop 1 = r0 := by rw [hl]; rfl
      have hll : 0 < l.length := by omega
      have hlt := b0.toNat_lt
      apply VC.anyA 1008 (F := [eqF _, eqF _, eqF _, eqF _, eqF _, vwF S H (l.drop 1), eqF _, vwF S H (l.drop 1)]) [⟨[], [0]⟩, ⟨[(11, 0)], []⟩, ⟨[(12, 1)], []⟩, ⟨[(13, 2)], []⟩, ⟨[], [0]⟩, ⟨[(15, 4)], []⟩, ⟨[(14, 3)], []⟩, ⟨[(16, 5)], []⟩] [(5, 6), (0, 7)] [2, 3, 4, 6, 7, 8, 9, 10, 17, 18, 19, 20, 21, 22, 23, 24, 25, 26, 27, 28, 29, 30, 31, 32, 33, 34, 35, 36, 37, 38, 39, 40, 41, 42, 43, 44, 45, 46, 47, 48, 49, 50, 51, 52, 53, 54, 55, 56, 57, 58] rfl (by kernel_rfl) (by kernel_rfl) (by kernel_rfl) (by kernel_rfl) rfl ?obs5 ?end5
      case obs5 =>
        refine Obs.cons ?_ ?_
        · refine obS (by kernel_rfl) rfl rfl (fun ph5 w5 hO5 => ?_)
          refine VL.move rfl ?_
          exact VL.finS hO5 rfl rfl
        refine Obs.cons ?_ ?_
        · refine obS (by kernel_rfl) rfl rfl (fun ph5 w5 hO5 => ?_)
          rintro _ rfl
          refine VL.index rfl rfl Try.underlying24 sz24 (hA S [] w (fun _ h => h) ho) (by omega) (by omega) ?_
          exact VL.finS hO5 rfl rfl
        refine Obs.cons ?_ ?_
        · refine ob (by kernel_rfl) rfl (by kernel_rfl) rfl (fun w5 hO5 => ?_)
          rintro _ rfl
          refine VL.byteV rfl kd5 (fun _ e => e ▸ hA _ [] _ (fun s hs => by simp [hs]) hO5) (y := b0) hb0 ?_
          exact VL.finS hO5 rfl rfl
        refine Obs.cons ?_ ?_
        · refine obS (by kernel_rfl) rfl rfl (fun ph5 w5 hO5 => ?_)
          rintro _ rfl
          refine VL.conv (by rw [Try.underlying5]; rfl) Try.underlying3 rfl (by simp only [InR]; omega) ?_
          exact VL.finS hO5 rfl rfl
        refine Obs.cons ?_ ?_
        · refine obS (by kernel_rfl) rfl rfl (fun ph5 w5 hO5 => ?_)
          refine VL.move rfl ?_
          exact VL.finS hO5 rfl rfl
        refine Obs.cons ?_ ?_
        · refine obS (by kernel_rfl) rfl rfl (fun ph5 w5 hO5 => ?_)
          rintro _ rfl
          refine VL.dropV 1 rfl rfl Try.underlying24 sz24 ho hA (by omega) (fun p1 hA1 => ?_)
          exact VL.finS hO5 rfl ⟨_, _, rfl, hA1⟩
        refine Obs.cons ?_ ?_
        · refine obS (by kernel_rfl) rfl rfl (fun ph5 w5 hO5 => ?_)
          rintro _ rfl
          refine VL.assign rfl ?_
          exact VL.finS hO5 rfl rfl
        refine Obs.cons ?_ ?_
        · refine obS (by kernel_rfl) rfl rfl (fun ph5 w5 hO5 => ?_)
          rintro _ ⟨p1, c1, rfl, hA1⟩
          refine VL.assign rfl ?_
          exact VL.finS hO5 rfl ⟨_, _, rfl, hA1⟩
        exact Obs.nil
      case end5 =>
        intro w5 hO5
        rintro _ rfl _ ⟨p1, c1, rfl, hA1⟩
        refine VX.backOwn hO5 ?_
        refine VX.next ?_
        refine VC.seq ?_
        refine VC.seq ?_
        refine VC.region ?_
        refine VL.move rfl ?_
        refine VL.gtr rfl rfl ?_
        refine VL.case (fun h6_1 => ?_) (fun h6_1 => ?_)
        · refine VL.nil ?_
          refine VX.next ?_
          refine VC.yes rfl ?_
          refine VC.seq ?_
          refine VC.region ?_
          refine VL.assign rfl ?_
          refine VL.nil ?_
          refine VX.next ?_
          refine VC.goto ?_
          refine VX.then_goto ?_
          refine VX.jump (SpJ.wrong 4) rfl ⟨rfl, trivial⟩ (fun w' h => ⟨by rw [hl, splitB_cons, if_pos (by omega)], h⟩) (by first | trivial | (show 0 < _; simp [SpJ.μ]))
        · refine VL.nil ?_
          refine VX.next ?_
          refine VC.no rfl ?_
          refine VC.skip ?_
          refine VX.next ?_
          refine VC.seq ?_
          suffices hx : ∀ (k : Nat) (r : List UInt8) (p : Option Addr) (c : Nat) (acc : List (List UInt8)) (g : Option Nat) (c' : Nat), VC _ _ _ _ (SpJ.st (.next k r p c acc g c')) (SpJ.inv2 l S H w (.next k r p c acc g c')) from VC.turn (fun w' h => show SpJ.inv2 l S H w (.next b0.toNat (l.drop 1) p1 c1 [] none 0) w' from ⟨⟨by rw [hd1, hl, splitB_cons, if_neg (by omega)], hA1, by simp; omega⟩, h.arow_nil (Mono.slice Mono.byte) 24 1⟩) (VC.weaken (SpJ.st (.next b0.toNat (l.drop 1) p1 c1 [] none 0)) ⟨rfl, rfl, rfl, rfl, trivial⟩ (hx _ _ _ _ _ _ _))
          intro k r p c acc g c'
          refine VC.fact fun ⟨hcut, hB, hk⟩ => ?_
          refine VC.label ?_
          refine VX.next ?_
          refine VC.seq ?_
          refine VC.seq ?_
          refine VC.region ?_
          refine VL.move rfl ?_
          refine VL.eql rfl rfl ?_
          refine VL.case (fun h8_1 => ?_) (fun h8_1 => ?_)
          · refine VL.nil ?_
            refine VX.next ?_
            refine VC.yes rfl ?_
            refine VC.goto ?_
            refine VX.then_goto ?_
            refine VX.jump (SpJ.fin r p c acc g c') rfl ⟨rfl, rfl, trivial⟩ (fun w' h => ⟨⟨by rw [hcut]; congr 1; omega, hB⟩, h⟩) (by first | trivial | (show 1 < _; simp [SpJ.μ]))
          · refine VL.nil ?_
            refine VX.next ?_
            refine VC.no rfl ?_
            refine VC.skip ?_
            refine VX.next ?_
            refine VC.seq ?_
            refine VC.seq ?_
            obtain ⟨k, rfl⟩ : ∃ k2, k = k2 + 1 := ⟨k - 1, by omega⟩
            refine VC.region ?_
            refine VL.move rfl ?_
            refine VL.len Try.underlying24 rfl rfl ?_
            refine VL.lss rfl rfl ?_
            refine VL.case (fun h9_2 => ?_) (fun h9_2 => ?_)
            · refine VL.nil ?_
              refine VX.next ?_
              refine VC.yes rfl ?_
              refine VC.goto ?_
              refine VX.then_goto ?_
              refine VX.jump (SpJ.wrong 20) rfl ⟨rfl, trivial⟩ (fun w' h => ⟨by rw [hcut, cutB_short (by omega)], h.drop⟩) (by first | trivial | (show 0 < _; simp [SpJ.μ]))
            · refine VL.nil ?_
              refine VX.next ?_
              refine VC.no rfl ?_
              refine VC.skip ?_
              refine VX.next ?_
              refine VC.seq ?_
              have hr2 : 2 ≤ r.length := by omega
              have hr0 : r[0]? = some (r.getD 0 0) := by simp [List.getD, List.getElem?_eq_getElem (show 0 < r.length by omega)]
              have hr1 : r[1]? = some (r.getD 1 0) := by simp [List.getD, List.getElem?_eq_getElem (show 1 < r.length by omega)]
              have hv0 := (r.getD 0 0).toNat_lt
              have hv1 := (r.getD 1 0).toNat_lt
              rw [cutB_next hr2] at hcut
              apply VC.anyA 1014 (F := [eqF _, eqF _, eqF _, eqF _, eqF _, eqF _, eqF _, eqF _, eqF _, eqF (.int .i64 ((pre2 r : Nat) : Int)), eqF _, vwF S H (r.drop 2), eqF _, vwF S H (r.drop 2)]) [⟨[], [0]⟩, ⟨[(24, 0)], []⟩, ⟨[(25, 1)], []⟩, ⟨[(26, 2)], []⟩, ⟨[(27, 3)], []⟩, ⟨[], [0]⟩, ⟨[(29, 5)], []⟩, ⟨[(30, 6)], []⟩, ⟨[(31, 7)], []⟩, ⟨[(28, 4), (32, 8)], []⟩, ⟨[], [0]⟩, ⟨[(34, 10)], []⟩, ⟨[(33, 9)], []⟩, ⟨[(35, 11)], []⟩] [(6, 12), (0, 13)] [2, 3, 4, 5, 7, 8, 9, 10, 11, 12, 13, 14, 15, 16, 17, 18, 19, 20, 21, 22, 23, 36, 37, 38, 39, 40, 41, 42, 43, 44, 45, 46, 47, 48, 49, 50, 51, 52, 53, 54, 55, 56, 57, 58] rfl (by kernel_rfl) (by kernel_rfl) (by kernel_rfl) (by kernel_rfl) rfl ?obs10 ?end10
              case obs10 =>
                refine Obs.cons ?_ ?_
                · refine obS (by kernel_rfl) rfl rfl (fun ph10 w10 hO10 => ?_)
                  refine VL.move rfl ?_
                  exact VL.finS hO10 rfl rfl
                refine Obs.cons ?_ ?_
                · refine obS (by kernel_rfl) rfl rfl (fun ph10 w10 hO10 => ?_)
                  rintro _ rfl
                  refine VL.index rfl rfl Try.underlying24 sz24 (hB S [] w (fun _ h => h) ho) (by omega) (by omega) ?_
                  exact VL.finS hO10 rfl rfl
                refine Obs.cons ?_ ?_
                · refine ob (by kernel_rfl) rfl (by kernel_rfl) rfl (fun w10 hO10 => ?_)
                  rintro _ rfl
                  refine VL.byteV rfl kd5 (fun _ e => e ▸ hB _ [_] _ (fun s hs => by simp [hs]) hO10) (y := r.getD 0 0) hr0 ?_
                  exact VL.finS hO10 rfl rfl
                refine Obs.cons ?_ ?_
                · refine obS (by kernel_rfl) rfl rfl (fun ph10 w10 hO10 => ?_)
                  rintro _ rfl
                  refine VL.conv (by rw [Try.underlying5]; rfl) Try.underlying3 rfl (by simp only [InR]; omega) ?_
                  exact VL.finS hO10 rfl rfl
                refine Obs.cons ?_ ?_
                · refine obS (by kernel_rfl) rfl rfl (fun ph10 w10 hO10 => ?_)
                  rintro _ rfl
                  refine VL.shl rfl rfl (by omega) (by simp only [IntKind.bits]; omega) ?_
                  rw [i64_shl8 _ (by omega)]
                  exact VL.finS hO10 rfl rfl
                refine Obs.cons ?_ ?_
                · refine obS (by kernel_rfl) rfl rfl (fun ph10 w10 hO10 => ?_)
                  refine VL.move rfl ?_
                  exact VL.finS hO10 rfl rfl
                refine Obs.cons ?_ ?_
                · refine obS (by kernel_rfl) rfl rfl (fun ph10 w10 hO10 => ?_)
                  rintro _ rfl
                  refine VL.index rfl rfl Try.underlying24 sz24 (hB S [] w (fun _ h => h) ho) (by omega) (by omega) ?_
                  exact VL.finS hO10 rfl rfl
                refine Obs.cons ?_ ?_
                · refine ob (by kernel_rfl) rfl (by kernel_rfl) rfl (fun w10 hO10 => ?_)
                  rintro _ rfl
                  refine VL.byteV rfl kd5 (fun _ e => e ▸ hB _ [_] _ (fun s hs => by simp [hs]) hO10) (y := r.getD 1 0) hr1 ?_
                  exact VL.finS hO10 rfl rfl
                refine Obs.cons ?_ ?_
                · refine obS (by kernel_rfl) rfl rfl (fun ph10 w10 hO10 => ?_)
                  rintro _ rfl
                  refine VL.conv (by rw [Try.underlying5]; rfl) Try.underlying3 rfl (by simp only [InR]; omega) ?_
                  exact VL.finS hO10 rfl rfl
                refine Obs.cons ?_ ?_
                · refine obS (by kernel_rfl) rfl rfl (fun ph10 w10 hO10 => ?_)
                  rintro _ rfl _ rfl
                  refine VL.bits (.inr (.inl rfl)) rfl rfl ?_
                  rw [i64_or_byte _ _ (by omega) (by omega)]
                  exact VL.finS hO10 rfl rfl
                refine Obs.cons ?_ ?_
                · refine obS (by kernel_rfl) rfl rfl (fun ph10 w10 hO10 => ?_)
                  refine VL.move rfl ?_
                  exact VL.finS hO10 rfl rfl
                refine Obs.cons ?_ ?_
                · refine obS (by kernel_rfl) rfl rfl (fun ph10 w10 hO10 => ?_)
                  rintro _ rfl
                  refine VL.dropV 2 rfl rfl Try.underlying24 sz24 ho hB (by omega) (fun p2 hB2 => ?_)
                  exact VL.finS hO10 rfl ⟨_, _, rfl, hB2⟩
                refine Obs.cons ?_ ?_
                · refine obS (by kernel_rfl) rfl rfl (fun ph10 w10 hO10 => ?_)
                  rintro _ rfl
                  refine VL.assign rfl ?_
                  exact VL.finS hO10 rfl rfl
                refine Obs.cons ?_ ?_
                · refine obS (by kernel_rfl) rfl rfl (fun ph10 w10 hO10 => ?_)
                  rintro _ ⟨p2, c2, rfl, hB2⟩
                  refine VL.assign rfl ?_
                  exact VL.finS hO10 rfl ⟨_, _, rfl, hB2⟩
                exact Obs.nil
              case end10 =>
                intro w10 hO10
                rintro _ rfl _ ⟨p2, c2, rfl, hB2⟩
                refine VX.backOwn hO10 ?_
                refine VX.next ?_
                refine VC.seq ?_
                refine VC.seq ?_
                refine VC.region ?_
                refine VL.move rfl ?_
                refine VL.gtr rfl rfl ?_
                refine VL.case (fun h11_1 => ?_) (fun h11_1 => ?_)
                · refine VL.nil ?_
                  refine VX.next ?_
                  refine VC.yes rfl ?_
                  refine VC.seq ?_
                  refine VC.region ?_
                  refine VL.assign rfl ?_
                  refine VL.nil ?_
                  refine VX.next ?_
                  refine VC.goto ?_
                  refine VX.then_goto ?_
                  refine VX.jump (SpJ.wrong 5) rfl ⟨rfl, trivial⟩ (fun w' h => ⟨by rw [hcut, if_pos (by omega)], h.drop⟩) (by first | trivial | (show 0 < _; simp [SpJ.μ]))
                · refine VL.nil ?_
                  refine VX.next ?_
                  refine VC.no rfl ?_
                  refine VC.skip ?_
                  refine VX.next ?_
                  refine VC.seq ?_
                  refine VC.seq ?_
                  refine VC.region ?_
                  refine VL.move rfl ?_
                  refine VL.move rfl ?_
                  refine VL.len Try.underlying24 rfl rfl ?_
                  refine VL.gtr rfl rfl ?_
                  refine VL.case (fun h13_3 => ?_) (fun h13_3 => ?_)
                  · refine VL.nil ?_
                    refine VX.next ?_
                    refine VC.yes rfl ?_
                    refine VC.goto ?_
                    refine VX.then_goto ?_
                    refine VX.jump (SpJ.wrong 20) rfl ⟨rfl, trivial⟩ (fun w' h => ⟨by rw [hcut, if_neg (by omega), if_pos (by omega)], h.drop⟩) (by first | trivial | (show 0 < _; simp [SpJ.μ]))
                  · refine VL.nil ?_
                    refine VX.next ?_
                    refine VC.no rfl ?_
                    refine VC.skip ?_
                    refine VX.next ?_
                    refine VC.seq ?_
                    have hle : pre2 r ≤ (r.drop 2).length := by omega
                    rw [if_neg (by omega), if_neg (by omega)] at hcut
                    have hpl : ((r.drop 2).take (pre2 r)).length ≤ 4096 := by rw [List.length_take]; omega
                    apply VC.anyA 6 (F := [eqF _, eqF _, eqF _, vwF S H ((r.drop 2).take (pre2 r)), bytesF ((r.drop 2).take (pre2 r)), arrF 1 bytesR (Mono.slice Mono.byte) [((r.drop 2).take (pre2 r))], lateF (fun v w' => ∃ g6 c6, v = rowV g6 (acc ++ [((r.drop 2).take (pre2 r))]).length c6 ∧ Own (⟨w, keys H⟩ :: S) (brow g6 c6 (acc ++ [((r.drop 2).take (pre2 r))]) :: H) w'), eqF _, eqF _, vwF S H ((r.drop 2).drop (pre2 r)), lateF (fun v w' => ∃ g6 c6, v = rowV g6 (acc ++ [((r.drop 2).take (pre2 r))]).length c6 ∧ Own (⟨w, keys H⟩ :: S) (brow g6 c6 (acc ++ [((r.drop 2).take (pre2 r))]) :: H) w'), vwF S H ((r.drop 2).drop (pre2 r))]) [⟨[], [4]⟩, ⟨[], [0]⟩, ⟨[], [6]⟩, ⟨[(43, 1), (44, 2)], []⟩, ⟨[(45, 3)], []⟩, ⟨[(46, 4)], []⟩, ⟨[(42, 0), (47, 5)], []⟩, ⟨[], [0]⟩, ⟨[], [6]⟩, ⟨[(49, 7), (50, 8)], []⟩, ⟨[(48, 6)], []⟩, ⟨[(51, 9)], []⟩] [(4, 10), (0, 11)] [2, 3, 5, 6, 7, 8, 9, 10, 11, 12, 13, 14, 15, 16, 17, 18, 19, 20, 21, 22, 23, 24, 25, 26, 27, 28, 29, 30, 31, 32, 33, 34, 35, 36, 37, 38, 39, 40, 41, 52, 53, 54, 55, 56, 57, 58] rfl (by kernel_rfl) (by kernel_rfl) (by kernel_rfl) (by kernel_rfl) rfl ?obs14 ?end14
                    case obs14 =>
                      refine Obs.cons ?_ ?_
                      · refine obS (by kernel_rfl) rfl rfl (fun ph14 w14 hO14 => ?_)
                        refine VL.move rfl ?_
                        exact VL.finS hO14 rfl rfl
                      refine Obs.cons ?_ ?_
                      · refine obS (by kernel_rfl) rfl rfl (fun ph14 w14 hO14 => ?_)
                        refine VL.move rfl ?_
                        exact VL.finS hO14 rfl rfl
                      refine Obs.cons ?_ ?_
                      · refine obS (by kernel_rfl) rfl rfl (fun ph14 w14 hO14 => ?_)
                        refine VL.move rfl ?_
                        exact VL.finS hO14 rfl rfl
                      refine Obs.cons ?_ ?_
                      · refine obS (by kernel_rfl) rfl rfl (fun ph14 w14 hO14 => ?_)
                        rintro _ rfl _ rfl
                        refine VL.takeV (pre2 r) rfl rfl Try.underlying24 sz24 ho hB2 hle (fun p3 hA3 => ?_)
                        exact VL.finS hO14 rfl ⟨_, _, rfl, hA3⟩
                      refine Obs.cons ?_ ?_
                      · refine ob (by kernel_rfl) rfl (by kernel_rfl) rfl (fun w14 hO14 => ?_)
                        rintro _ ⟨p3, c3, rfl, hA3⟩
                        refine VL.toOwn hO14 ?_
                        refine VL.call Try.func109 rfl (by decide) rfl (fun w1 hw => clone_v hw (hA3.up [_] (fun s hs => by simp [hs])) (by omega)) (fun v => ?_)
                        exact VL.finO rfl (fun _ ⟨_, _, _, h, _⟩ => h) (fun _ ⟨p4, c4, e, _, h⟩ => ⟨p4, c4, e, h⟩)
                      refine Obs.cons ?_ ?_
                      · refine ob (by kernel_rfl) rfl (by kernel_rfl) rfl (fun w14 hO14 => ?_)
                        rintro _ ⟨p4, c4, rfl, hA4⟩
                        refine VL.toOwn hO14 ?_
                        refine VL.lit el31 rfl rfl rfl (by simp [Value.cells]) (by intro u hu; simp [Value.cells] at hu; subst hu; rfl) (fun g5 => ?_)
                        exact VL.finO rfl (fun _ h => h.drop) (fun _ h => ⟨_, _, rfl, Own.letOne (v := .slice p4 ((r.drop 2).take (pre2 r)).length c4) h ⟨p4, c4, rfl, hA4.now (s := ⟨w14, _⟩) Mono.byte h.drop (List.mem_cons_self ..)⟩⟩)
                      refine Obs.cons ?_ ?_
                      · refine obK (by kernel_rfl) rfl (fun w14 hO14 => ?_)
                        rintro _ rfl _ ⟨p5, c5, rfl, hA5⟩
                        refine VL.toOwn hO14 ?_
                        refine VL.appends 0 el31 rfl rfl rfl (fun _ h => h) rfl (fun _ h => hA5.now (s := ⟨w14, _⟩) (Mono.slice Mono.byte) h (List.mem_cons_self ..)) (fun _ _ _ _ h => ok1_slices h) (by simp only [List.length_cons, List.length_nil]; omega) (fun g6 c6 => ?_) (by simp only [List.length_cons, List.length_nil]; omega)
                        exact VL.finK rfl (fun _ h => h) (fun _ h => ⟨g6, c6, rfl, h.lose⟩)
                      refine Obs.cons ?_ ?_
                      · refine obS (by kernel_rfl) rfl rfl (fun ph14 w14 hO14 => ?_)
                        refine VL.move rfl ?_
                        exact VL.finS hO14 rfl rfl
                      refine Obs.cons ?_ ?_
                      · refine obS (by kernel_rfl) rfl rfl (fun ph14 w14 hO14 => ?_)
                        refine VL.move rfl ?_
                        exact VL.finS hO14 rfl rfl
                      refine Obs.cons ?_ ?_
                      · refine obS (by kernel_rfl) rfl rfl (fun ph14 w14 hO14 => ?_)
                        rintro _ rfl _ rfl
                        refine VL.dropV (pre2 r) rfl rfl Try.underlying24 sz24 ho hB2 hle (fun p9 hB9 => ?_)
                        exact VL.finS hO14 rfl ⟨_, _, rfl, hB9⟩
                      refine Obs.cons ?_ ?_
                      · refine obS (by kernel_rfl) rfl rfl (fun ph14 w14 hO14 => ?_)
                        rintro _ ⟨g6, c6, rfl, h6⟩
                        refine VL.assign rfl ?_
                        exact VL.finS hO14 rfl ⟨g6, c6, rfl, h6⟩
                      refine Obs.cons ?_ ?_
                      · refine obS (by kernel_rfl) rfl rfl (fun ph14 w14 hO14 => ?_)
                        rintro _ ⟨p9, c9, rfl, hB9⟩
                        refine VL.assign rfl ?_
                        exact VL.finS hO14 rfl ⟨_, _, rfl, hB9⟩
                      exact Obs.nil
                    case end14 =>
                      intro w14 hO14
                      rintro _ ⟨g6, c6, rfl, h6⟩ _ ⟨p9, c9, rfl, hB9⟩
                      refine VX.turn (G' := Own (⟨w, keys H⟩ :: S) (brow g6 c6 (acc ++ [((r.drop 2).take (pre2 r))]) :: H)) (fun w' e => e ▸ h6) ?_
                      refine VX.next ?_
                      refine VC.seq ?_
                      refine VC.region ?_
                      refine VL.move rfl ?_
                      refine VL.sub rfl rfl (by simp only [InR]; omega) ?_
                      refine VL.assign rfl ?_
                      refine VL.nil ?_
                      refine VX.next ?_
                      refine VC.seq ?_
                      refine VC.goto ?_
                      refine VX.then_goto ?_
                      refine VX.jump (SpJ.next k ((r.drop 2).drop (pre2 r)) p9 c9 (acc ++ [((r.drop 2).take (pre2 r))]) g6 c6) rfl ⟨rfl, rfl, ?_, rfl, trivial⟩ (fun w' h => ⟨⟨hcut, hB9, by simp; omega⟩, h⟩) (by first | trivial | (show k + 2 < k + 1 + 2; omega))
                      show some (Value.int .i64 _) = some (Value.int .i64 _)
                      congr 2
                      omega
  · intro x
    cases x with
    | wrong e =>
      refine ⟨_, rfl, ?_⟩
      refine VC.fact fun hs => ?_
      refine VC.seq ?_
      refine VC.skip ?_
      refine VX.next ?_
      refine VC.seq ?_
      refine VC.region ?_
      refine VL.move rfl ?_
      refine VL.assign rfl ?_
      refine VL.assign rfl ?_
      refine VL.nil ?_
      refine VX.next ?_
      refine VC.ret ?_
      refine VX.jumps_ret ?_
      refine VX.ret2 rfl rfl rfl (fun w hw => ?_)
      exact ⟨hw.lose, none, 0, by rw [hs]; rfl, by rw [hs]; exact Arr.none⟩
    | fin r p c acc g c' =>
      refine ⟨_, rfl, ?_⟩
      refine VC.fact fun ⟨hcut, hB⟩ => ?_
      refine VC.seq ?_
      refine VC.skip ?_
      refine VX.next ?_
      refine VC.seq ?_
      refine VC.seq ?_
      refine VC.region ?_
      refine VL.move rfl ?_
      refine VL.len Try.underlying24 rfl rfl ?_
      refine VL.eql rfl rfl ?_
      refine VL.case (fun h16_2 => ?_) (fun h16_2 => ?_)
      · refine VL.nil ?_
        refine VX.next ?_
        refine VC.yes rfl ?_
        refine VC.seq ?_
        refine VC.region ?_
        refine VL.move rfl ?_
        refine VL.assign rfl ?_
        refine VL.assign rfl ?_
        refine VL.nil ?_
        refine VX.next ?_
        refine VC.ret ?_
        refine VX.then_ret ?_
        refine VX.jumps_ret ?_
        refine VX.ret2 rfl rfl rfl (fun w hw => ?_)
        have hs : splitB l = (0, acc) := by rw [hcut, cutB_done, if_pos (List.eq_nil_of_length_eq_zero (by omega))]
        have ha := hw.letArr
        exact ⟨hw.drop.lose, g.map fun g => ⟨g, 0, none⟩, c', by rw [hs]; rfl, by rw [hs]; exact ha⟩
      · refine VL.nil ?_
        refine VX.next ?_
        refine VC.no rfl ?_
        refine VC.skip ?_
        refine VX.next ?_
        refine VC.seq ?_
        have hs : splitB l = (21, []) := by rw [hcut, cutB_done, if_neg (fun e => h16_2 (by rw [e]; rfl))]
        refine VC.turn (fun _ h => h.drop) ?_
        refine VC.region ?_
        refine VL.assign rfl ?_
        refine VL.nil ?_
        refine VX.next ?_
        refine VC.seq ?_
        refine VC.label ?_
        refine VX.next ?_
        refine VC.seq ?_
        refine VC.region ?_
        refine VL.move rfl ?_
        refine VL.assign rfl ?_
        refine VL.assign rfl ?_
        refine VL.nil ?_
        refine VX.next ?_
        refine VC.ret ?_
        refine VX.jumps_ret ?_
        refine VX.ret2 rfl rfl rfl (fun w hw => ?_)
        exact ⟨hw.lose, none, 0, by rw [hs]; rfl, by rw [hs]; exact Arr.none⟩
    | next k r p c acc g c' =>
      refine ⟨_, rfl, ?_⟩
      refine VC.fact fun ⟨hcut, hB, hk⟩ => ?_
      refine VC.seq ?_
      refine VC.skip ?_
      refine VX.next ?_
      refine VC.seq ?_
      refine VC.seq ?_
      refine VC.region ?_
      refine VL.move rfl ?_
      refine VL.eql rfl rfl ?_
      refine VL.case (fun h8_1 => ?_) (fun h8_1 => ?_)
      · refine VL.nil ?_
        refine VX.next ?_
        refine VC.yes rfl ?_
        refine VC.goto ?_
        refine VX.then_goto ?_
        refine VX.jump (SpJ.fin r p c acc g c') rfl ⟨rfl, rfl, trivial⟩ (fun w' h => ⟨⟨by rw [hcut]; congr 1; omega, hB⟩, h⟩) (by first | trivial | (show 1 < _; simp [SpJ.μ]))
      · refine VL.nil ?_
        refine VX.next ?_
        refine VC.no rfl ?_
        refine VC.skip ?_
        refine VX.next ?_
        refine VC.seq ?_
        refine VC.seq ?_
        obtain ⟨k, rfl⟩ : ∃ k2, k = k2 + 1 := ⟨k - 1, by omega⟩
        refine VC.region ?_
        refine VL.move rfl ?_
        refine VL.len Try.underlying24 rfl rfl ?_
        refine VL.lss rfl rfl ?_
        refine VL.case (fun h9_2 => ?_) (fun h9_2 => ?_)
        · refine VL.nil ?_
          refine VX.next ?_
          refine VC.yes rfl ?_
          refine VC.goto ?_
          refine VX.then_goto ?_
          refine VX.jump (SpJ.wrong 20) rfl ⟨rfl, trivial⟩ (fun w' h => ⟨by rw [hcut, cutB_short (by omega)], h.drop⟩) (by first | trivial | (show 0 < _; simp [SpJ.μ]))
        · refine VL.nil ?_
          refine VX.next ?_
          refine VC.no rfl ?_
          refine VC.skip ?_
          refine VX.next ?_
          refine VC.seq ?_
          have hr2 : 2 ≤ r.length := by omega
          have hr0 : r[0]? = some (r.getD 0 0) := by simp [List.getD, List.getElem?_eq_getElem (show 0 < r.length by omega)]
          have hr1 : r[1]? = some (r.getD 1 0) := by simp [List.getD, List.getElem?_eq_getElem (show 1 < r.length by omega)]
          have hv0 := (r.getD 0 0).toNat_lt
          have hv1 := (r.getD 1 0).toNat_lt
          rw [cutB_next hr2] at hcut
          apply VC.anyA 1014 (F := [eqF _, eqF _, eqF _, eqF _, eqF _, eqF _, eqF _, eqF _, eqF _, eqF (.int .i64 ((pre2 r : Nat) : Int)), eqF _, vwF S H (r.drop 2), eqF _, vwF S H (r.drop 2)]) [⟨[], [0]⟩, ⟨[(24, 0)], []⟩, ⟨[(25, 1)], []⟩, ⟨[(26, 2)], []⟩, ⟨[(27, 3)], []⟩, ⟨[], [0]⟩, ⟨[(29, 5)], []⟩, ⟨[(30, 6)], []⟩, ⟨[(31, 7)], []⟩, ⟨[(28, 4), (32, 8)], []⟩, ⟨[], [0]⟩, ⟨[(34, 10)], []⟩, ⟨[(33, 9)], []⟩, ⟨[(35, 11)], []⟩] [(6, 12), (0, 13)] [2, 3, 4, 5, 7, 8, 9, 10, 11, 12, 13, 14, 15, 16, 17, 18, 19, 20, 21, 22, 23, 36, 37, 38, 39, 40, 41, 42, 43, 44, 45, 46, 47, 48, 49, 50, 51, 52, 53, 54, 55, 56, 57, 58] rfl (by kernel_rfl) (by kernel_rfl) (by kernel_rfl) (by kernel_rfl) rfl ?obs10 ?end10
          case obs10 =>
            refine Obs.cons ?_ ?_
            · refine obS (by kernel_rfl) rfl rfl (fun ph10 w10 hO10 => ?_)
              refine VL.move rfl ?_
              exact VL.finS hO10 rfl rfl
            refine Obs.cons ?_ ?_
            · refine obS (by kernel_rfl) rfl rfl (fun ph10 w10 hO10 => ?_)
              rintro _ rfl
              refine VL.index rfl rfl Try.underlying24 sz24 (hB S [] w (fun _ h => h) ho) (by omega) (by omega) ?_
              exact VL.finS hO10 rfl rfl
            refine Obs.cons ?_ ?_
            · refine ob (by kernel_rfl) rfl (by kernel_rfl) rfl (fun w10 hO10 => ?_)
              rintro _ rfl
              refine VL.byteV rfl kd5 (fun _ e => e ▸ hB _ [_] _ (fun s hs => by simp [hs]) hO10) (y := r.getD 0 0) hr0 ?_
              exact VL.finS hO10 rfl rfl
            refine Obs.cons ?_ ?_
            · refine obS (by kernel_rfl) rfl rfl (fun ph10 w10 hO10 => ?_)
              rintro _ rfl
              refine VL.conv (by rw [Try.underlying5]; rfl) Try.underlying3 rfl (by simp only [InR]; omega) ?_
              exact VL.finS hO10 rfl rfl
            refine Obs.cons ?_ ?_
            · refine obS (by kernel_rfl) rfl rfl (fun ph10 w10 hO10 => ?_)
              rintro _ rfl
              refine VL.shl rfl rfl (by omega) (by simp only [IntKind.bits]; omega) ?_
              rw [i64_shl8 _ (by omega)]
              exact VL.finS hO10 rfl rfl
            refine Obs.cons ?_ ?_
            · refine obS (by kernel_rfl) rfl rfl (fun ph10 w10 hO10 => ?_)
              refine VL.move rfl ?_
              exact VL.finS hO10 rfl rfl
            refine Obs.cons ?_ ?_
            · refine obS (by kernel_rfl) rfl rfl (fun ph10 w10 hO10 => ?_)
              rintro _ rfl
              refine VL.index rfl rfl Try.underlying24 sz24 (hB S [] w (fun _ h => h) ho) (by omega) (by omega) ?_
              exact VL.finS hO10 rfl rfl
            refine Obs.cons ?_ ?_
            · refine ob (by kernel_rfl) rfl (by kernel_rfl) rfl (fun w10 hO10 => ?_)
              rintro _ rfl
              refine VL.byteV rfl kd5 (fun _ e => e ▸ hB _ [_] _ (fun s hs => by simp [hs]) hO10) (y := r.getD 1 0) hr1 ?_
              exact VL.finS hO10 rfl rfl
            refine Obs.cons ?_ ?_
            · refine obS (by kernel_rfl) rfl rfl (fun ph10 w10 hO10 => ?_)
              rintro _ rfl
              refine VL.conv (by rw [Try.underlying5]; rfl) Try.underlying3 rfl (by simp only [InR]; omega) ?_
              exact VL.finS hO10 rfl rfl
            refine Obs.cons ?_ ?_
            · refine obS (by kernel_rfl) rfl rfl (fun ph10 w10 hO10 => ?_)
              rintro _ rfl _ rfl
              refine VL.bits (.inr (.inl rfl)) rfl rfl ?_
              rw [i64_or_byte _ _ (by omega) (by omega)]
              exact VL.finS hO10 rfl rfl
            refine Obs.cons ?_ ?_
            · refine obS (by kernel_rfl) rfl rfl (fun ph10 w10 hO10 => ?_)
              refine VL.move rfl ?_
              exact VL.finS hO10 rfl rfl
            refine Obs.cons ?_ ?_
            · refine obS (by kernel_rfl) rfl rfl (fun ph10 w10 hO10 => ?_)
              rintro _ rfl
              refine VL.dropV 2 rfl rfl Try.underlying24 sz24 ho hB (by omega) (fun p2 hB2 => ?_)
              exact VL.finS hO10 rfl ⟨_, _, rfl, hB2⟩
            refine Obs.cons ?_ ?_
            · refine obS (by kernel_rfl) rfl rfl (fun ph10 w10 hO10 => ?_)
              rintro _ rfl
              refine VL.assign rfl ?_
              exact VL.finS hO10 rfl rfl
            refine Obs.cons ?_ ?_
            · refine obS (by kernel_rfl) rfl rfl (fun ph10 w10 hO10 => ?_)
              rintro _ ⟨p2, c2, rfl, hB2⟩
              refine VL.assign rfl ?_
              exact VL.finS hO10 rfl ⟨_, _, rfl, hB2⟩
            exact Obs.nil
          case end10 =>
            intro w10 hO10
            rintro _ rfl _ ⟨p2, c2, rfl, hB2⟩
            refine VX.backOwn hO10 ?_
            refine VX.next ?_
            refine VC.seq ?_
            refine VC.seq ?_
            refine VC.region ?_
            refine VL.move rfl ?_
            refine VL.gtr rfl rfl ?_
            refine VL.case (fun h11_1 => ?_) (fun h11_1 => ?_)
            · refine VL.nil ?_
              refine VX.next ?_
              refine VC.yes rfl ?_
              refine VC.seq ?_
              refine VC.region ?_
              refine VL.assign rfl ?_
              refine VL.nil ?_
              refine VX.next ?_
              refine VC.goto ?_
              refine VX.then_goto ?_
              refine VX.jump (SpJ.wrong 5) rfl ⟨rfl, trivial⟩ (fun w' h => ⟨by rw [hcut, if_pos (by omega)], h.drop⟩) (by first | trivial | (show 0 < _; simp [SpJ.μ]))
            · refine VL.nil ?_
              refine VX.next ?_
              refine VC.no rfl ?_
              refine VC.skip ?_
              refine VX.next ?_
              refine VC.seq ?_
              refine VC.seq ?_
              refine VC.region ?_
              refine VL.move rfl ?_
              refine VL.move rfl ?_
              refine VL.len Try.underlying24 rfl rfl ?_
              refine VL.gtr rfl rfl ?_
              refine VL.case (fun h13_3 => ?_) (fun h13_3 => ?_)
              · refine VL.nil ?_
                refine VX.next ?_
                refine VC.yes rfl ?_
                refine VC.goto ?_
                refine VX.then_goto ?_
                refine VX.jump (SpJ.wrong 20) rfl ⟨rfl, trivial⟩ (fun w' h => ⟨by rw [hcut, if_neg (by omega), if_pos (by omega)], h.drop⟩) (by first | trivial | (show 0 < _; simp [SpJ.μ]))
              · refine VL.nil ?_
                refine VX.next ?_
                refine VC.no rfl ?_
                refine VC.skip ?_
                refine VX.next ?_
                refine VC.seq ?_
                have hle : pre2 r ≤ (r.drop 2).length := by omega
                rw [if_neg (by omega), if_neg (by omega)] at hcut
                have hpl : ((r.drop 2).take (pre2 r)).length ≤ 4096 := by rw [List.length_take]; omega
                apply VC.anyA 6 (F := [eqF _, eqF _, eqF _, vwF S H ((r.drop 2).take (pre2 r)), bytesF ((r.drop 2).take (pre2 r)), arrF 1 bytesR (Mono.slice Mono.byte) [((r.drop 2).take (pre2 r))], lateF (fun v w' => ∃ g6 c6, v = rowV g6 (acc ++ [((r.drop 2).take (pre2 r))]).length c6 ∧ Own (⟨w, keys H⟩ :: S) (brow g6 c6 (acc ++ [((r.drop 2).take (pre2 r))]) :: H) w'), eqF _, eqF _, vwF S H ((r.drop 2).drop (pre2 r)), lateF (fun v w' => ∃ g6 c6, v = rowV g6 (acc ++ [((r.drop 2).take (pre2 r))]).length c6 ∧ Own (⟨w, keys H⟩ :: S) (brow g6 c6 (acc ++ [((r.drop 2).take (pre2 r))]) :: H) w'), vwF S H ((r.drop 2).drop (pre2 r))]) [⟨[], [4]⟩, ⟨[], [0]⟩, ⟨[], [6]⟩, ⟨[(43, 1), (44, 2)], []⟩, ⟨[(45, 3)], []⟩, ⟨[(46, 4)], []⟩, ⟨[(42, 0), (47, 5)], []⟩, ⟨[], [0]⟩, ⟨[], [6]⟩, ⟨[(49, 7), (50, 8)], []⟩, ⟨[(48, 6)], []⟩, ⟨[(51, 9)], []⟩] [(4, 10), (0, 11)] [2, 3, 5, 6, 7, 8, 9, 10, 11, 12, 13, 14, 15, 16, 17, 18, 19, 20, 21, 22, 23, 24, 25, 26, 27, 28, 29, 30, 31, 32, 33, 34, 35, 36, 37, 38, 39, 40, 41, 52, 53, 54, 55, 56, 57, 58] rfl (by kernel_rfl) (by kernel_rfl) (by kernel_rfl) (by kernel_rfl) rfl ?obs14 ?end14
                case obs14 =>
                  refine Obs.cons ?_ ?_
                  · refine obS (by kernel_rfl) rfl rfl (fun ph14 w14 hO14 => ?_)
                    refine VL.move rfl ?_
                    exact VL.finS hO14 rfl rfl
                  refine Obs.cons ?_ ?_
                  · refine obS (by kernel_rfl) rfl rfl (fun ph14 w14 hO14 => ?_)
                    refine VL.move rfl ?_
                    exact VL.finS hO14 rfl rfl
                  refine Obs.cons ?_ ?_
                  · refine obS (by kernel_rfl) rfl rfl (fun ph14 w14 hO14 => ?_)
                    refine VL.move rfl ?_
                    exact VL.finS hO14 rfl rfl
                  refine Obs.cons ?_ ?_
                  · refine obS (by kernel_rfl) rfl rfl (fun ph14 w14 hO14 => ?_)
                    rintro _ rfl _ rfl
                    refine VL.takeV (pre2 r) rfl rfl Try.underlying24 sz24 ho hB2 hle (fun p3 hA3 => ?_)
                    exact VL.finS hO14 rfl ⟨_, _, rfl, hA3⟩
                  refine Obs.cons ?_ ?_
                  · refine ob (by kernel_rfl) rfl (by kernel_rfl) rfl (fun w14 hO14 => ?_)
                    rintro _ ⟨p3, c3, rfl, hA3⟩
                    refine VL.toOwn hO14 ?_
                    refine VL.call Try.func109 rfl (by decide) rfl (fun w1 hw => clone_v hw (hA3.up [_] (fun s hs => by simp [hs])) (by omega)) (fun v => ?_)
                    exact VL.finO rfl (fun _ ⟨_, _, _, h, _⟩ => h) (fun _ ⟨p4, c4, e, _, h⟩ => ⟨p4, c4, e, h⟩)
                  refine Obs.cons ?_ ?_
                  · refine ob (by kernel_rfl) rfl (by kernel_rfl) rfl (fun w14 hO14 => ?_)
                    rintro _ ⟨p4, c4, rfl, hA4⟩
                    refine VL.toOwn hO14 ?_
                    refine VL.lit el31 rfl rfl rfl (by simp [Value.cells]) (by intro u hu; simp [Value.cells] at hu; subst hu; rfl) (fun g5 => ?_)
                    exact VL.finO rfl (fun _ h => h.drop) (fun _ h => ⟨_, _, rfl, Own.letOne (v := .slice p4 ((r.drop 2).take (pre2 r)).length c4) h ⟨p4, c4, rfl, hA4.now (s := ⟨w14, _⟩) Mono.byte h.drop (List.mem_cons_self ..)⟩⟩)
                  refine Obs.cons ?_ ?_
                  · refine obK (by kernel_rfl) rfl (fun w14 hO14 => ?_)
                    rintro _ rfl _ ⟨p5, c5, rfl, hA5⟩
                    refine VL.toOwn hO14 ?_
                    refine VL.appends 0 el31 rfl rfl rfl (fun _ h => h) rfl (fun _ h => hA5.now (s := ⟨w14, _⟩) (Mono.slice Mono.byte) h (List.mem_cons_self ..)) (fun _ _ _ _ h => ok1_slices h) (by simp only [List.length_cons, List.length_nil]; omega) (fun g6 c6 => ?_) (by simp only [List.length_cons, List.length_nil]; omega)
                    exact VL.finK rfl (fun _ h => h) (fun _ h => ⟨g6, c6, rfl, h.lose⟩)
                  refine Obs.cons ?_ ?_
                  · refine obS (by kernel_rfl) rfl rfl (fun ph14 w14 hO14 => ?_)
                    refine VL.move rfl ?_
                    exact VL.finS hO14 rfl rfl
                  refine Obs.cons ?_ ?_
                  · refine obS (by kernel_rfl) rfl rfl (fun ph14 w14 hO14 => ?_)
                    refine VL.move rfl ?_
                    exact VL.finS hO14 rfl rfl
                  refine Obs.cons ?_ ?_
                  · refine obS (by kernel_rfl) rfl rfl (fun ph14 w14 hO14 => ?_)
                    rintro _ rfl _ rfl
                    refine VL.dropV (pre2 r) rfl rfl Try.underlying24 sz24 ho hB2 hle (fun p9 hB9 => ?_)
                    exact VL.finS hO14 rfl ⟨_, _, rfl, hB9⟩
                  refine Obs.cons ?_ ?_
                  · refine obS (by kernel_rfl) rfl rfl (fun ph14 w14 hO14 => ?_)
                    rintro _ ⟨g6, c6, rfl, h6⟩
                    refine VL.assign rfl ?_
                    exact VL.finS hO14 rfl ⟨g6, c6, rfl, h6⟩
                  refine Obs.cons ?_ ?_
                  · refine obS (by kernel_rfl) rfl rfl (fun ph14 w14 hO14 => ?_)
                    rintro _ ⟨p9, c9, rfl, hB9⟩
                    refine VL.assign rfl ?_
                    exact VL.finS hO14 rfl ⟨_, _, rfl, hB9⟩
                  exact Obs.nil
                case end14 =>
                  intro w14 hO14
                  rintro _ ⟨g6, c6, rfl, h6⟩ _ ⟨p9, c9, rfl, hB9⟩
                  refine VX.turn (G' := Own (⟨w, keys H⟩ :: S) (brow g6 c6 (acc ++ [((r.drop 2).take (pre2 r))]) :: H)) (fun w' e => e ▸ h6) ?_
                  refine VX.next ?_
                  refine VC.seq ?_
                  refine VC.region ?_
                  refine VL.move rfl ?_
                  refine VL.sub rfl rfl (by simp only [InR]; omega) ?_
                  refine VL.assign rfl ?_
                  refine VL.nil ?_
                  refine VX.next ?_
                  refine VC.seq ?_
                  refine VC.goto ?_
                  refine VX.then_goto ?_
                  refine VX.jump (SpJ.next k ((r.drop 2).drop (pre2 r)) p9 c9 (acc ++ [((r.drop 2).take (pre2 r))]) g6 c6) rfl ⟨rfl, rfl, ?_, rfl, trivial⟩ (fun w' h => ⟨⟨hcut, hB9, by simp; omega⟩, h⟩) (by first | trivial | (show k + 2 < k + 1 + 2; omega))
                  show some (Value.int .i64 _) = some (Value.int .i64 _)
                  congr 2
                  omega

theorem own_any {S : List Snap} {H : List Chunk} {w : World} (ho : Own S H w) {p : Option Addr} {ls : List (List UInt8)} {c : Nat} (hA : Arr 1 bytesR (keys H) w p ls c) : Calls Try.prog 7 #[.slice p ls.length c] w (Ret fun v w' => v = .bool true ∧ Own S H w') := by
  refine enter (G := Own (⟨w, keys H⟩ :: S) H) ho.keep Try.func7 rfl Try.ntmps7 rfl ?_
  refine VC.seq ?_
  refine VC.region ?_
  refine VL.assign rfl ?_
  refine VL.nil ?_
  refine VX.next ?_
  refine VC.seq ?_
  refine VC.seq ?_
  refine VC.region ?_
  refine VL.call Try.func24 rfl (by decide) rfl (fun w' hw => alive_any hw) (fun v => ?_)
  refine VL.fact fun e => ?_
  subst e
  refine VL.not rfl ?_
  refine VL.nil ?_
  refine VX.next ?_
  refine VC.no rfl ?_
  refine VC.skip ?_
  refine VX.next ?_
  refine VC.seq ?_
  refine VC.seq ?_
  refine VC.region ?_
  refine VL.move rfl ?_
  refine VL.call Try.func29 rfl (by decide) rfl (fun w' hw => great_any hw (hA.now (s := ⟨w, keys H⟩) (Mono.slice Mono.byte) hw (List.mem_cons_self ..))) (fun v => ?_)
  refine VL.at (fun w0 h1w => ?_)
  obtain ⟨hO, b, rfl, _⟩ := h1w
  refine VL.toOwn hO ?_
  refine VL.nil ?_
  refine VX.next ?_
  refine VC.split rfl (fun hc12 => ?_) (fun hc12 => ?_)
  · refine VC.seq ?_
    refine VC.region ?_
    refine VL.assign rfl ?_
    refine VL.nil ?_
    refine VX.next ?_
    refine VC.ret ?_
    refine VX.then_ret ?_
    refine VX.ret1 rfl rfl (fun w hw => ?_)
    exact ⟨rfl, hw.lose.lose⟩
  · refine VC.skip ?_
    refine VX.next ?_
    refine VC.seq ?_
    by_cases hok : joinOk ls
    · have hjl := joinB_le hok
      obtain ⟨jl, hj⟩ : ∃ jl, jl = joinB ls := ⟨_, rfl⟩
      refine VC.region ?_
      refine VL.move rfl ?_
      refine VL.call Try.func30 rfl (by decide) rfl (fun w' hw => join_any hw (hA.now (s := ⟨w, keys H⟩) (Mono.slice Mono.byte) hw (by simp))) (fun v => ?_)
      refine VL.at (fun w1 h1w => ?_)
      obtain ⟨hO, ⟨_, p1, c1, rfl, hA1⟩ | ⟨hno, _⟩⟩ := h1w
      rotate_left
      · exact absurd hok hno
      rw [← hj] at hA1 hjl
      rw [← hj]
      refine VL.toOwn hO ?_
      refine VL.move rfl ?_
      refine VL.extract rfl rfl ?_
      refine VL.extract rfl rfl ?_
      refine VL.assign rfl ?_
      refine VL.assign rfl ?_
      refine VL.nil ?_
      refine VX.next ?_
      refine VC.seq ?_
      refine VC.region ?_
      refine VL.lit el24 rfl rfl rfl (by simp) (by simp [ok1]) (fun g5 => ?_)
      refine VL.move rfl ?_
      refine VL.append 0 el24 rfl rfl rfl rfl (fun _ h => (hA1.now (s := ⟨w1, keys H⟩) Mono.byte h.drop (by simp)).bytes) (by simp) (ok1_bytes _) (by omega) (by omega) (fun g6 c6 => ?_)
      refine VL.weaken [(0, .slice p ls.length c), (4, .bool true), (20, rowV g6 jl.length c6)] ⟨rfl, rfl, by rw [Nat.zero_add]; rfl, trivial⟩ ?_
      refine VL.turn (G' := Own (⟨w1, keys H⟩ :: ⟨w0, keys H⟩ :: ⟨w, keys H⟩ :: S) (row 5 1 g6 jl.length c6 (jl.map bv) :: H)) (fun w' h => by simpa [hj] using h) ?_
      refine VL.assign rfl ?_
      refine VL.nil ?_
      refine VX.next ?_
      refine VC.seq ?_
      refine VC.region ?_
      refine VL.move rfl ?_
      refine VL.call Try.func32 rfl (by decide) rfl (fun w' hw => split_v (l := jl) hw (Vw.ofRow 0 rfl rfl rfl)) (fun v => ?_)
      refine VL.at (fun w4 h1w => ?_)
      obtain ⟨hO, p4, c4, rfl, hA4⟩ := h1w
      refine VL.toOwn hO ?_
      refine VL.move rfl ?_
      refine VL.extract rfl rfl ?_
      refine VL.extract rfl rfl ?_
      refine VL.assign rfl ?_
      refine VL.assign rfl ?_
      refine VL.nil ?_
      refine VX.next ?_
      refine VC.seq ?_
      refine VC.seq ?_
      refine VC.region ?_
      refine VL.assign rfl ?_
      refine VL.nil ?_
      refine VX.next ?_
      refine VC.block ?_
      refine VC.loop (X := Nat × List UInt8) (fun (k, l') => [(0, .slice p ls.length c), (4, .bool true), (5, rowV g6 jl.length c6), (6, .slice p4 (splitB jl).2.length c4), (7, .int .i64 (splitB jl).1), (8, .int .i64 k)]) (fun (k, l') w' => (k ≤ jl.length ∧ l'.length = jl.length) ∧ Own (⟨w4, keys (row 5 1 g6 jl.length c6 (jl.map bv) :: H)⟩ :: ⟨w1, keys H⟩ :: ⟨w0, keys H⟩ :: ⟨w, keys H⟩ :: S) (row 5 1 g6 jl.length c6 (l'.map bv) :: H) w') (fun (k, _) => jl.length - k) (0, jl) ⟨rfl, rfl, rfl, rfl, rfl, rfl, trivial⟩ (fun w' h => ⟨⟨Nat.zero_le _, rfl⟩, h⟩) (fun (k, l') => VC.fact fun ⟨hk, hkl⟩ => ?_)
      · have hk0 := hk
        refine VC.seq ?_
        refine VC.seq ?_
        refine VC.region ?_
        refine VL.move rfl ?_
        refine VL.move rfl ?_
        refine VL.len Try.underlying24 rfl rfl ?_
        refine VL.lss rfl rfl ?_
        refine VL.case (fun h9_3 => ?_) (fun h9_3 => ?_)
        · refine VL.nil ?_
          refine VX.next ?_
          refine VC.yes rfl ?_
          refine VC.skip ?_
          refine VX.next ?_
          refine VC.seq ?_
          refine VC.block ?_
          have hkl2 : k < l'.length := by omega
          refine VC.someRow (by omega) (fun g7 e7 => ?_)
          subst e7
          refine VC.region ?_
          refine VL.move rfl ?_
          refine VL.move rfl ?_
          refine VL.move rfl ?_
          refine VL.move rfl ?_
          refine VL.rowIndex el24 rfl rfl (by omega) (by omega) ?_
          refine VL.rowByte (l := l') (y := l'[k]) 0 rfl kd5 (fun _ h => h) rfl (by simp [hkl2]) ?_
          refine VL.addw rfl rfl ?_
          rw [show ((l'[k]).toNat : Int) + 1 = ((l'[k].toNat + 1 : Nat) : Int) from rfl, byte_wrap]
          refine VL.rowIndex el24 rfl rfl (by omega) (by omega) ?_
          refine VL.rowStore (v := bv (UInt8.ofNat (l'[k].toNat + 1))) 0 rfl rfl rfl kd5 rfl (by omega) ?_
          refine VL.turn (G' := Own (⟨w4, keys (row 5 1 (some g7) jl.length c6 (jl.map bv) :: H)⟩ :: ⟨w1, keys H⟩ :: ⟨w0, keys H⟩ :: ⟨w, keys H⟩ :: S) (row 5 1 (some g7) jl.length c6 ((l'.set k (UInt8.ofNat (l'[k].toNat + 1))).map bv) :: H)) (fun w' h => by rw [List.map_set]; simpa using h) ?_
          refine VL.nil ?_
          refine VX.block_normal ?_
          refine VX.next ?_
          refine VC.region ?_
          refine VL.move rfl ?_
          refine VL.add rfl rfl (by simp only [InR]; omega) ?_
          refine VL.assign rfl ?_
          refine VL.nil ?_
          refine VX.round (k + 1, l'.set k (UInt8.ofNat (l'[k].toNat + 1))) ⟨rfl, rfl, rfl, rfl, rfl, rfl, trivial⟩ (fun w' h => ⟨⟨by omega, by simp [hkl]⟩, h⟩) (by show jl.length - (k + 1) < jl.length - k; omega)
        · refine VL.nil ?_
          refine VX.next ?_
          refine VC.no rfl ?_
          refine VC.exit ?_
          refine VX.then_exit ?_
          refine VX.then_exit ?_
          refine VX.block_here ?_
          refine VX.next ?_
          refine VC.seq ?_
          refine VC.region ?_
          refine VL.move rfl ?_
          refine VL.not rfl ?_
          refine VL.move rfl ?_
          refine VL.go rfl rfl rfl ?_
          refine VL.move rfl ?_
          refine VL.go rfl rfl rfl ?_
          refine VL.eql rfl rfl ?_
          refine VL.yes (by rw [hj, split_join hok]; rfl) ?_
          refine VL.go rfl rfl rfl ?_
          refine VL.move rfl ?_
          refine VL.go rfl rfl rfl ?_
          refine VL.move rfl ?_
          refine VL.go rfl rfl rfl ?_
          refine VL.move rfl ?_
          refine VL.go rfl rfl rfl ?_
          refine VL.call Try.func33 rfl (by decide) rfl (fun w' hw => lists_any (l := ls) (k := (splitB jl).2) hw (hA.now (s := ⟨w, keys H⟩) (Mono.slice Mono.byte) hw (by simp)) (hA4.now (s := ⟨w4, _⟩) (Mono.slice Mono.byte) hw (List.mem_cons_self ..))) (fun v => ?_)
          refine VL.at (fun w5 h1w => ?_)
          obtain ⟨hO, e⟩ := h1w
          have e : v = .bool true := by rw [hj, split_join hok] at e; simpa using e
          subst e
          refine VL.toOwn hO ?_
          refine VL.go rfl rfl rfl ?_
          refine VL.pick_t rfl rfl ?_
          refine VL.pick_f rfl rfl ?_
          refine VL.assign rfl ?_
          refine VL.nil ?_
          refine VX.next ?_
          refine VC.ret ?_
          refine VX.ret1 rfl rfl (fun w hw => ?_)
          exact ⟨rfl, by have hw := hw.drop; repeat (first | exact hw | replace hw := hw.lose)⟩
    · obtain ⟨jl, hj⟩ : ∃ jl : List UInt8, jl = [] := ⟨_, rfl⟩
      refine VC.region ?_
      refine VL.move rfl ?_
      refine VL.call Try.func30 rfl (by decide) rfl (fun w' hw => join_any hw (hA.now (s := ⟨w, keys H⟩) (Mono.slice Mono.byte) hw (by simp))) (fun v => ?_)
      refine VL.at (fun w1 h1w => ?_)
      obtain ⟨hO, ⟨hyes, _⟩ | ⟨_, rfl⟩⟩ := h1w
      · exact absurd hyes hok
      have hjl : jl.length ≤ 263000 := by rw [hj]; simp
      refine VL.toOwn hO ?_
      refine VL.move rfl ?_
      refine VL.extract rfl rfl ?_
      refine VL.extract rfl rfl ?_
      refine VL.assign rfl ?_
      refine VL.assign rfl ?_
      refine VL.nil ?_
      refine VX.next ?_
      refine VC.seq ?_
      refine VC.region ?_
      refine VL.lit el24 rfl rfl rfl (by simp) (by simp [ok1]) (fun g5 => ?_)
      refine VL.move rfl ?_
      refine VL.append (news := jl.map bv) 0 el24 rfl rfl rfl rfl (fun _ _ => .inl ⟨rfl, by rw [hj]; rfl⟩) (by rw [hj]; rfl) (ok1_bytes _) (by omega) (by omega) (fun g6 c6 => ?_)
      refine VL.weaken [(0, .slice p ls.length c), (4, .bool false), (20, rowV g6 jl.length c6)] ⟨rfl, rfl, by rw [hj]; rfl, trivial⟩ ?_
      refine VL.turn (G' := Own (⟨w1, keys H⟩ :: ⟨w0, keys H⟩ :: ⟨w, keys H⟩ :: S) (row 5 1 g6 jl.length c6 (jl.map bv) :: H)) (fun w' h => by simpa [hj] using h) ?_
      refine VL.assign rfl ?_
      refine VL.nil ?_
      refine VX.next ?_
      refine VC.seq ?_
      refine VC.region ?_
      refine VL.move rfl ?_
      refine VL.call Try.func32 rfl (by decide) rfl (fun w' hw => split_v (l := jl) hw (Vw.ofRow 0 rfl rfl rfl)) (fun v => ?_)
      refine VL.at (fun w4 h1w => ?_)
      obtain ⟨hO, p4, c4, rfl, hA4⟩ := h1w
      refine VL.toOwn hO ?_
      refine VL.move rfl ?_
      refine VL.extract rfl rfl ?_
      refine VL.extract rfl rfl ?_
      refine VL.assign rfl ?_
      refine VL.assign rfl ?_
      refine VL.nil ?_
      refine VX.next ?_
      refine VC.seq ?_
      refine VC.seq ?_
      refine VC.region ?_
      refine VL.assign rfl ?_
      refine VL.nil ?_
      refine VX.next ?_
      refine VC.block ?_
      refine VC.loop (X := Nat × List UInt8) (fun (k, l') => [(0, .slice p ls.length c), (4, .bool false), (5, rowV g6 jl.length c6), (6, .slice p4 (splitB jl).2.length c4), (7, .int .i64 (splitB jl).1), (8, .int .i64 k)]) (fun (k, l') w' => (k ≤ jl.length ∧ l'.length = jl.length) ∧ Own (⟨w4, keys (row 5 1 g6 jl.length c6 (jl.map bv) :: H)⟩ :: ⟨w1, keys H⟩ :: ⟨w0, keys H⟩ :: ⟨w, keys H⟩ :: S) (row 5 1 g6 jl.length c6 (l'.map bv) :: H) w') (fun (k, _) => jl.length - k) (0, jl) ⟨rfl, rfl, rfl, rfl, rfl, rfl, trivial⟩ (fun w' h => ⟨⟨Nat.zero_le _, rfl⟩, h⟩) (fun (k, l') => VC.fact fun ⟨hk, hkl⟩ => ?_)
      · have hk0 := hk
        refine VC.seq ?_
        refine VC.seq ?_
        refine VC.region ?_
        refine VL.move rfl ?_
        refine VL.move rfl ?_
        refine VL.len Try.underlying24 rfl rfl ?_
        refine VL.lss rfl rfl ?_
        refine VL.case (fun h9_3 => ?_) (fun h9_3 => ?_)
        · refine VL.nil ?_
          refine VX.next ?_
          refine VC.yes rfl ?_
          refine VC.skip ?_
          refine VX.next ?_
          refine VC.seq ?_
          refine VC.block ?_
          have hkl2 : k < l'.length := by omega
          refine VC.someRow (by omega) (fun g7 e7 => ?_)
          subst e7
          refine VC.region ?_
          refine VL.move rfl ?_
          refine VL.move rfl ?_
          refine VL.move rfl ?_
          refine VL.move rfl ?_
          refine VL.rowIndex el24 rfl rfl (by omega) (by omega) ?_
          refine VL.rowByte (l := l') (y := l'[k]) 0 rfl kd5 (fun _ h => h) rfl (by simp [hkl2]) ?_
          refine VL.addw rfl rfl ?_
          rw [show ((l'[k]).toNat : Int) + 1 = ((l'[k].toNat + 1 : Nat) : Int) from rfl, byte_wrap]
          refine VL.rowIndex el24 rfl rfl (by omega) (by omega) ?_
          refine VL.rowStore (v := bv (UInt8.ofNat (l'[k].toNat + 1))) 0 rfl rfl rfl kd5 rfl (by omega) ?_
          refine VL.turn (G' := Own (⟨w4, keys (row 5 1 (some g7) jl.length c6 (jl.map bv) :: H)⟩ :: ⟨w1, keys H⟩ :: ⟨w0, keys H⟩ :: ⟨w, keys H⟩ :: S) (row 5 1 (some g7) jl.length c6 ((l'.set k (UInt8.ofNat (l'[k].toNat + 1))).map bv) :: H)) (fun w' h => by rw [List.map_set]; simpa using h) ?_
          refine VL.nil ?_
          refine VX.block_normal ?_
          refine VX.next ?_
          refine VC.region ?_
          refine VL.move rfl ?_
          refine VL.add rfl rfl (by simp only [InR]; omega) ?_
          refine VL.assign rfl ?_
          refine VL.nil ?_
          refine VX.round (k + 1, l'.set k (UInt8.ofNat (l'[k].toNat + 1))) ⟨rfl, rfl, rfl, rfl, rfl, rfl, trivial⟩ (fun w' h => ⟨⟨by omega, by simp [hkl]⟩, h⟩) (by show jl.length - (k + 1) < jl.length - k; omega)
        · refine VL.nil ?_
          refine VX.next ?_
          refine VC.no rfl ?_
          refine VC.exit ?_
          refine VX.then_exit ?_
          refine VX.then_exit ?_
          refine VX.block_here ?_
          refine VX.next ?_
          refine VC.seq ?_
          refine VC.region ?_
          refine VL.move rfl ?_
          refine VL.not rfl ?_
          refine VL.move rfl ?_
          refine VL.pass rfl rfl rfl rfl rfl ?_
          refine VL.pass rfl rfl rfl rfl rfl ?_
          refine VL.pass rfl rfl rfl rfl rfl ?_
          refine VL.passu rfl rfl rfl rfl ?_
          refine VL.passu rfl rfl rfl rfl ?_
          refine VL.passu rfl rfl rfl rfl ?_
          refine VL.pass rfl rfl rfl rfl rfl ?_
          refine VL.pick_t rfl rfl ?_
          refine VL.assign rfl ?_
          refine VL.nil ?_
          refine VX.next ?_
          refine VC.ret ?_
          refine VX.ret1 rfl rfl (fun w hw => ?_)
          exact ⟨rfl, by have hw := hw.drop; repeat (first | exact hw | replace hw := hw.lose)⟩

end Go.Proofs.Ytcfecmoagfgnaaa
