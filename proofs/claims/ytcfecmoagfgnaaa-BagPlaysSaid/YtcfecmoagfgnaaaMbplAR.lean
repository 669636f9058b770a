/- The statement BagPlays is proved, for every input: part 18 of 19 of the texts that it needs. -/
import Derived.Test.YtcfecmoagfgnaaaMbplAQ
/- bag: both sides of each play. -/
namespace Go.Proofs.Ytcfecmoagfgnaaa
open Go.Vc Go.Pl

def layB (xs : List Par) (l : List UInt8) : Bool := decide (pktW l = 0 ∧ servN ((pktR l).getD pkt0).src < 4 ∧ servN ((pktR l).getD pkt0).dst < 4 ∧ xs.length < 64)
def layL (xs : List Par) (l : List UInt8) (now : Nat) : List Par := if layB xs l then xs ++ [layP l now] else xs
theorem layL_yes {xs : List Par} {l : List UInt8} {now : Nat} (h : pktW l = 0 ∧ servN ((pktR l).getD pkt0).src < 4 ∧ servN ((pktR l).getD pkt0).dst < 4 ∧ xs.length < 64) : layB xs l = true ∧ layL xs l now = xs ++ [layP l now] := by
 have e : layB xs l = true := decide_eq_true h
 exact ⟨e, by unfold layL; rw [e]; rfl⟩
theorem layL_no {xs : List Par} {l : List UInt8} {now : Nat} (h : ¬ (pktW l = 0 ∧ servN ((pktR l).getD pkt0).src < 4 ∧ servN ((pktR l).getD pkt0).dst < 4 ∧ xs.length < 64)) : layB xs l = false ∧ layL xs l now = xs := by
 have e : layB xs l = false := decide_eq_false h
 exact ⟨e, by unfold layL; rw [e]; rfl⟩
theorem lay_cases (xs : List Par) (l : List UInt8) : (pktW l = 0 ∧ servN ((pktR l).getD pkt0).src < 4 ∧ servN ((pktR l).getD pkt0).dst < 4 ∧ xs.length < 64) ∨ ¬ pktW l = 0 ∨ (pktW l = 0 ∧ ¬ servN ((pktR l).getD pkt0).src < 4) ∨ (pktW l = 0 ∧ servN ((pktR l).getD pkt0).src < 4 ∧ ¬ servN ((pktR l).getD pkt0).dst < 4) ∨ (pktW l = 0 ∧ servN ((pktR l).getD pkt0).src < 4 ∧ servN ((pktR l).getD pkt0).dst < 4 ∧ 64 ≤ xs.length) := by omega

theorem lay_w {S : List Snap} {H : List Chunk} {w : World} (ho : Own S H w) {xs : List Par} {p : Option Addr} {c : Nat} (hX : Arr 4 parR (keys H) w p xs c) (hl : xs.length ≤ 1000) {l : List UInt8} {p1 : Option Addr} {c1 : Nat} (hA : Bytes (keys H) w p1 l c1) {now : Nat} (hnow : now < 4294967296) (hb : l.length ≤ 140737488351232) : Calls Try.prog 42 #[.slice p xs.length c, .slice p1 l.length c1, .int .u32 (now : Int)] w (Ret fun v w' => ∃ q d, v = .tuple #[.slice q (layL xs l now).length d, .bool (layB xs l)] ∧ Own S H w' ∧ Arr 4 parR (keys H) w' q (layL xs l now) d) := by
 rcases lay_cases xs l with h | h | ⟨h1, h2⟩ | ⟨h1, h2, h3⟩ | ⟨h1, h2, h3, h4⟩
 ·obtain ⟨e1, e2⟩ := layL_yes (now := now) h
  rw [e1, e2]; exact lay_yes ho hX hl hA hnow h.1 h.2.1 h.2.2.1 h.2.2.2 hb
 ·obtain ⟨e1, e2⟩ := layL_no (now := now) (xs := xs) (fun h2 => h h2.1)
  rw [e1, e2]; exact lay_no1 ho hX hl hA hnow h
 ·obtain ⟨e1, e2⟩ := layL_no (now := now) (xs := xs) (fun h3 => h2 h3.2.1)
  rw [e1, e2]; exact lay_no2 ho hX hl hA hnow h1 h2
 ·obtain ⟨e1, e2⟩ := layL_no (now := now) (xs := xs) (fun h4 => h3 h4.2.2.1)
  rw [e1, e2]; exact lay_no3 ho hX hl hA hnow h1 h2 h3
 ·obtain ⟨e1, e2⟩ := layL_no (now := now) (xs := xs) (fun h5 => absurd h5.2.2.2 (by omega))
  rw [e1, e2]; exact lay_no4 ho hX hl hA hnow h1 h2 h3 h4

theorem refLay_w {S : List Snap} {H : List Chunk} {w : World} (ho : Own S H w) {xs : List Par} {p : Option Addr} {c : Nat} (hX : Arr 4 parR (keys H) w p xs c) (hl : xs.length ≤ 1000) {l : List UInt8} {p1 : Option Addr} {c1 : Nat} (hA : Bytes (keys H) w p1 l c1) {now : Nat} (hnow : now < 4294967296) (hb : l.length ≤ 140737488351232) : Calls Try.prog 43 #[.slice p xs.length c, .slice p1 l.length c1, .int .u32 (now : Int)] w (Ret fun v w' => ∃ q d, v = .tuple #[.slice q (layL xs l now).length d, .bool (layB xs l)] ∧ Own S H w' ∧ Arr 4 parR (keys H) w' q (layL xs l now) d) := by
 rcases lay_cases xs l with h | h | ⟨h1, h2⟩ | ⟨h1, h2, h3⟩ | ⟨h1, h2, h3, h4⟩
 ·obtain ⟨e1, e2⟩ := layL_yes (now := now) h
  rw [e1, e2]; exact refLay_yes ho hX hl hA hnow h.1 h.2.1 h.2.2.1 h.2.2.2
 ·obtain ⟨e1, e2⟩ := layL_no (now := now) (xs := xs) (fun h2 => h h2.1)
  rw [e1, e2]; exact refLay_no1 ho hX hl hA hnow h
 ·obtain ⟨e1, e2⟩ := layL_no (now := now) (xs := xs) (fun h3 => h2 h3.2.1)
  rw [e1, e2]; exact refLay_no2 ho hX hl hA hnow h1 h2
 ·obtain ⟨e1, e2⟩ := layL_no (now := now) (xs := xs) (fun h4 => h3 h4.2.2.1)
  rw [e1, e2]; exact refLay_no3 ho hX hl hA hnow h1 h2 h3
 ·obtain ⟨e1, e2⟩ := layL_no (now := now) (xs := xs) (fun h5 => absurd h5.2.2.2 (by omega))
  rw [e1, e2]; exact refLay_no4 ho hX hl hA hnow h1 h2 h3 h4

theorem layL_bytes {xs : List Par} {l : List UInt8} {now : Nat} (h : ∀ y ∈ xs, y.bytes.length ≤ 2000) (hl : l.length ≤ 2000) : ∀ y ∈ layL xs l now, y.bytes.length ≤ 2000 := by
 intro y hy
 unfold layL at hy
 split at hy
 ·rcases List.mem_append.1 hy with hy | hy
  ·exact h y hy
  ·rw [List.mem_singleton] at hy; subst hy; exact hl
 ·exact h y hy
theorem layL_len {xs : List Par} {l : List UInt8} {now : Nat} (h : xs.length ≤ 64) : (layL xs l now).length ≤ 64 := by
 unfold layL
 split
 ·rename_i hb
  have := of_decide_eq_true hb
  rw [List.length_append]; simp; omega
 ·exact h
/-- Which one an index means. -/
def nI (xs : List Par) (i : Int) : Nat := if 0 ≤ i ∧ i < xs.length then i.toNat else xs.length
def takB (xs : List Par) (i : Int) : Bool := decide (0 ≤ i ∧ i < xs.length)
abbrev takL (xs : List Par) (i : Int) : List Par := outL xs (nI xs i) xs.length
abbrev takP (xs : List Par) (i : Int) : Par := pickP xs (nI xs i) xs.length
theorem nI_yes {xs : List Par} {n : Nat} (h : n < xs.length) : nI xs (n : Int) = n := by unfold nI; rw [if_pos (by omega)]; rfl
theorem nI_no {xs : List Par} {i : Int} (h : ¬ (0 ≤ i ∧ i < xs.length)) : nI xs i = xs.length := by unfold nI; rw [if_neg h]
theorem pick_all {xs : List Par} {n : Nat} (h : n < xs.length) : pickP xs n xs.length = xs[n]'h := by
 unfold pickP
 rw [if_pos h, List.getElem?_eq_getElem h]; rfl
theorem pick_none (xs : List Par) : pickP xs xs.length xs.length = par0 := if_neg (Nat.lt_irrefl _)
theorem take_w {S : List Snap} {H : List Chunk} {w : World} (ho : Own S H w) {xs : List Par} {p : Option Addr} {c : Nat} (hX : Arr 4 parR (keys H) w p xs c) (hl : xs.length ≤ 1000) (hbs : ∀ y ∈ xs, y.bytes.length ≤ 2000) (i : Int) : Calls Try.prog 40 #[.slice p xs.length c, .int .i64 i] w (Ret fun v w' => ∃ q d p c, v = .tuple #[.slice q (takL xs i).length d, .agg (cat (parV (takP xs i) p c)).toArray, .bool (takB xs i)] ∧ Own S H w' ∧ Arr 4 parR (keys H) w' q (takL xs i) d ∧ (takP xs i).ok ∧ Bytes (keys H) w' p (takP xs i).bytes c) := by
 by_cases h : 0 ≤ i ∧ i < xs.length
 ·obtain ⟨n, rfl⟩ := Int.eq_ofNat_of_zero_le h.1
  have hn : n < xs.length := by omega
  have e : takB xs (n : Int) = true := decide_eq_true h
  have hok : (xs[n]'hn).ok := by
   obtain ⟨vs, a, _, _, h1, _⟩ := hX.cell (List.getElem?_eq_getElem hn)
   obtain ⟨_, _, h2, _⟩ := h1
   exact h2
  have eL : takL xs (n : Int) = xs.take n ++ xs.drop (n + 1) := by
   show outL xs (nI xs (n : Int)) xs.length = _
   rw [nI_yes hn, out_yes]
  have eP : takP xs (n : Int) = xs[n]'hn := by
   show pickP xs (nI xs (n : Int)) xs.length = _
   rw [nI_yes hn, pick_all hn]
  rw [e, eL, eP]
  exact calls_mono (take_yes ho hX hl n hn (by have := hbs _ (List.getElem_mem hn); omega)) fun v w' ⟨q, d, p, c, e, h1, h2, h3⟩ => ⟨q, d, p, c, e, h1, h2, hok, h3⟩
 ·have e : takB xs i = false := decide_eq_false h
  have eL : takL xs i = xs := by
   show outL xs (nI xs i) xs.length = _
   rw [nI_no h, out_no]
  have eP : takP xs i = par0 := by
   show pickP xs (nI xs i) xs.length = _
   rw [nI_no h, pick_none]
  rw [e, eL, eP]
  clear e eL eP
  by_cases h0 : i < 0
  ·exact calls_mono (take_neg ho hX hl i h0) fun v w' ⟨q, d, e, h1, h2⟩ => ⟨q, d, none, 0, e, h1, h2, par0_ok, Arr.none⟩
  ·obtain ⟨n, rfl⟩ := Int.eq_ofNat_of_zero_le (show 0 ≤ i by omega)
   exact calls_mono (take_big ho hX hl n (by omega)) fun v w' ⟨q, d, e, h1, h2⟩ => ⟨q, d, none, 0, e, h1, h2, par0_ok, Arr.none⟩
theorem refTake_w {S : List Snap} {H : List Chunk} {w : World} (ho : Own S H w) {xs : List Par} {p : Option Addr} {c : Nat} (hX : Arr 4 parR (keys H) w p xs c) (hl : xs.length ≤ 1000) (i : Int) : Calls Try.prog 44 #[.slice p xs.length c, .int .i64 i] w (Ret fun v w' => ∃ q d p c, v = .tuple #[.slice q (takL xs i).length d, .agg (cat (parV (takP xs i) p c)).toArray, .bool (takB xs i)] ∧ Own S H w' ∧ Arr 4 parR (keys H) w' q (takL xs i) d ∧ (takP xs i).ok ∧ Bytes (keys H) w' p (takP xs i).bytes c) := by
 by_cases h : 0 ≤ i ∧ i < xs.length
 ·obtain ⟨n, rfl⟩ := Int.eq_ofNat_of_zero_le h.1
  have hn : n < xs.length := by omega
  have e : takB xs (n : Int) = true := decide_eq_true h
  rw [e]
  exact refTake_yes ho hX hl (n := nI xs (n : Int)) (by rw [nI_yes hn]; exact hn) (by rw [nI_yes hn])
 ·have e : takB xs i = false := decide_eq_false h
  rw [e]
  exact refTake_no ho hX hl (n := nI xs i) (nI_no h) (fun k hk e => h (by omega))
theorem takL_mem {xs : List Par} {i : Int} {y : Par} (h : y ∈ takL xs i) : y ∈ xs := by
 have h1 : y ∈ xs.eraseIdx (nI xs i) := by rw [← out_all]; exact h
 exact List.mem_of_mem_eraseIdx h1
theorem takL_len (xs : List Par) (i : Int) : (takL xs i).length ≤ xs.length := out_le _ _ _

end Go.Proofs.Ytcfecmoagfgnaaa

/- bag: the packets of the laws; a bag that lives. -/
namespace Go.Proofs.Ytcfecmoagfgnaaa
open Go.Vc Go.Pl

/-- The packet that the laws lay. -/
def lawPkt (a b : Nat) (l : List UInt8) : Pkt := ⟨a, b, 1, [], l, zeros 64⟩
theorem lawPkt_ok {a b : Nat} (l : List UInt8) (ha : a < 256) (hb : b < 256) : (lawPkt a b l).ok := ⟨ha, hb, (show (1 : Nat) < 256 by decide), (fun i hi => by cases hi), rfl⟩
def lawB (a b : Nat) (l : List UInt8) : List UInt8 := (pktO (lawPkt a b l)).getD []
theorem law_O {a b : Nat} {l : List UInt8} (hl : l.length ≤ 1000) : pktO (lawPkt a b l) = some (joinB [be 1 a, be 1 b, be 1 1, joinB [], l, zeros 64]) := by
 have e1 : chainO (lawPkt a b l).chain = some (joinB []) := joinO_some ⟨(show ([] : List (List UInt8)).length ≤ 64 by decide), fun p hp => by cases hp⟩ rfl
 unfold pktO pktP
 rw [e1]
 refine joinO_some ⟨by simp, fun p hp => ?_⟩ rfl
 simp only [List.mem_cons, List.not_mem_nil, or_false] at hp
 rcases hp with rfl | rfl | rfl | rfl | h | h
 ·rw [be_length]; decide
 ·rw [be_length]; decide
 ·show (be 1 1).length ≤ _; rw [be_length]; decide
 ·decide
 ·rw [h]; show l.length ≤ 4096; omega
 ·rw [h]; show (zeros 64).length ≤ 4096; decide
theorem law_back {a b : Nat} {l : List UInt8} (ha : a < 256) (hb : b < 256) (hl : l.length ≤ 1000) : pktR (lawB a b l) = some (lawPkt a b l) := by
 unfold lawB
 rw [law_O hl]
 exact pktR_iff.2 ⟨lawPkt_ok l ha hb, law_O hl⟩
theorem law_len {a b : Nat} {l : List UInt8} (hl : l.length ≤ 1000) : (lawB a b l).length ≤ 2000 := by
 unfold lawB
 rw [law_O hl]
 have e : (joinB []).length ≤ 10 := by decide
 show (joinB [be 1 a, be 1 b, be 1 1, joinB [], l, zeros 64]).length ≤ 2000
 generalize joinB [] = z at *
 simp [joinB, body, be_length, zeros]
 omega
theorem law_zero {a b : Nat} {l : List UInt8} (ha : a < 256) (hb : b < 256) (hl : l.length ≤ 1000) : pktW (lawB a b l) = 0 := pktW_zero.2 (by rw [law_back ha hb hl]; rfl)
theorem law_src {a b : Nat} {l : List UInt8} (ha : a < 256) (hb : b < 256) (hl : l.length ≤ 1000) : ((pktR (lawB a b l)).getD pkt0).src = a := by rw [law_back ha hb hl]; rfl
theorem law_dst {a b : Nat} {l : List UInt8} (ha : a < 256) (hb : b < 256) (hl : l.length ≤ 1000) : ((pktR (lawB a b l)).getD pkt0).dst = b := by rw [law_back ha hb hl]; rfl
theorem law_lay {a b : Nat} {l : List UInt8} (ha : a < 256) (hb : b < 256) (hl : l.length ≤ 1000) (now : Nat) : layP (lawB a b l) now = ⟨a, b, min (now + 1 + farN (servN a) (servN b)) 4294967295, lawB a b l⟩ := by
 unfold layP
 rw [law_back ha hb hl]
 rfl

theorem lawBytes_w {S : List Snap} {H : List Chunk} {w : World} (ho : Own S H w) {a b : Nat} (ha : a < 256) (hb : b < 256) {p : Option Addr} {l : List UInt8} {c : Nat} (hA : Bytes (keys H) w p l c) : Calls Try.prog 41 #[.int .u8 (a : Int), .int .u8 (b : Int), .slice p l.length c] w (Ret fun v w' => ∃ p' c', v = .slice p' (lawB a b l).length c' ∧ Own S H w' ∧ Bytes (keys H) w' p' (lawB a b l) c') := by
 refine enter (G := Own (⟨w, keys H⟩ :: S) H) ho.keep Try.func41 rfl Try.ntmps41 rfl ?_
 refine VC.sr ?_
 refine VL.assign rfl ?_
 refine VL.nn ?_
 refine VC.sr ?_
 refine VL.move rfl ?_
 refine VL.move rfl ?_
 refine VL.move rfl ?_
 refine VL.build (zs := pktZ) (L := pktFL) [(0, [.int .u8 (a)]), (1, [.int .u8 (b)]), (2, [.int .u8 (1)]), (4, [.slice p (l).length c])] plan118 rfl ⟨⟨rfl, ⟨_, rfl, rfl⟩, rfl⟩, ⟨⟨rfl, ⟨_, rfl, rfl⟩, rfl⟩, ⟨⟨rfl, ⟨_, rfl, rfl⟩, rfl⟩, ⟨⟨rfl, ⟨_, rfl, rfl⟩, rfl⟩, trivial⟩⟩⟩⟩ rfl ?_
 refine VL.newv (v' := .agg (cat (pktV ((lawPkt a b l)) none 0 p c)).toArray) rfl ?_
 refine VL.call Try.func91 rfl (by decide) rfl (fun w' hw => refPkt_w hw (x := (lawPkt a b l)) (lawPkt_ok l ha hb) Arr.none (hA.nowA (s := ⟨w, _⟩) Mono.byte hw)) (fun v => ?_)
 refine VL.at (fun w1 h1w => ?_)
 obtain ⟨p2, c3, rfl, hO5, hA4⟩ := h1w
 refine VL.toOwn hO5 ?_
 refine VL.move rfl ?_
 refine VL.extract rfl rfl ?_
 refine VL.extract rfl rfl ?_
 refine VL.assign rfl ?_
 refine VL.assign rfl ?_
 refine VL.nn ?_
 refine VC.sr ?_
 refine VL.move rfl ?_
 refine VL.assign rfl ?_
 refine VL.nn ?_
 refine VC.ret ?_
 refine VX.ret1 rfl rfl (fun we hw => ?_)
 exact ⟨_, _, rfl, hw.subA, (hA4.nowA (s := ⟨w1, _⟩) Mono.byte hw)⟩

def P1 : List Par := [layP (lawB 0 2 []) 5]
def P2 : List Par := [layP (lawB 0 2 []) 5, layP (lawB 16 0 []) 5]
theorem due_0 : dueAt P2 0 = 7 := by
 show (layP (lawB 0 2 []) 5).due = 7
 rw [law_lay (by decide) (by decide) (by decide)]; decide
theorem due_1 : dueAt P2 1 = 6 := by
 show (layP (lawB 16 0 []) 5).due = 6
 rw [law_lay (by decide) (by decide) (by decide)]; decide
theorem best_2 : bestZ P2 7 2 = 1 := by
 have h1 : bestI P2 7 1 = some 0 := best_first (i := 0) (by rw [due_0]; decide) rfl
 exact bestZ_some (best_less (i := 1) (by rw [due_1]; decide) h1 (by rw [due_0, due_1]; decide))
theorem lay_1 {S : List Snap} {H : List Chunk} {w : World} (ho : Own S H w) {p1 : Option Addr} {c1 : Nat} (hA : Bytes (keys H) w p1 (lawB 0 2 []) c1) : Calls Try.prog 42 #[.slice none 0 0, .slice p1 (lawB 0 2 []).length c1, .int .u32 5] w (Ret fun v w' => ∃ q d, v = .tuple #[.slice q P1.length d, .bool true] ∧ Own S H w' ∧ Arr 4 parR (keys H) w' q P1 d) :=
 lay_yes ho (xs := []) Arr.none (by decide) hA (now := 5) (by decide) (law_zero (by decide) (by decide) (by decide)) (by rw [law_src (by decide) (by decide) (by decide)]; decide) (by rw [law_dst (by decide) (by decide) (by decide)]; decide) (by decide) (by have := law_len (a := 0) (b := 2) (l := []) (by decide); omega)
theorem lay_2 {S : List Snap} {H : List Chunk} {w : World} (ho : Own S H w) {p : Option Addr} {c : Nat} (hX : Arr 4 parR (keys H) w p P1 c) {p1 : Option Addr} {c1 : Nat} (hA : Bytes (keys H) w p1 (lawB 16 0 []) c1) : Calls Try.prog 42 #[.slice p P1.length c, .slice p1 (lawB 16 0 []).length c1, .int .u32 5] w (Ret fun v w' => ∃ q d, v = .tuple #[.slice q P2.length d, .bool true] ∧ Own S H w' ∧ Arr 4 parR (keys H) w' q P2 d) :=
 lay_yes ho (xs := P1) hX (by decide) hA (now := 5) (by decide) (law_zero (by decide) (by decide) (by decide)) (by rw [law_src (by decide) (by decide) (by decide)]; decide) (by rw [law_dst (by decide) (by decide) (by decide)]; decide) (by decide) (by have := law_len (a := 16) (b := 0) (l := []) (by decide); omega)

theorem alive24_w {S : List Snap} {H : List Chunk} {w : World} (ho : Own S H w) : Calls Try.prog 37 #[] w (Ret fun v w' => v = .bool true ∧ Own S H w') := by
 refine enter (G := Own (⟨w, keys H⟩ :: S) H) ho.keep Try.func37 rfl Try.ntmps37 rfl ?_
 refine VC.sr ?_
 refine VL.assign rfl ?_
 refine VL.nn ?_
 refine VC.sr ?_
 refine VL.call Try.func41 rfl (by decide) rfl (fun w' hw => lawBytes_w hw (a := 0) (b := 2) (by decide) (by decide) (l := []) Arr.none) (fun v => ?_)
 refine VL.at (fun w1 h1w => ?_)
 obtain ⟨p2, c3, rfl, hO5, hA4⟩ := h1w
 refine VL.toOwn hO5 ?_
 refine VL.call Try.func42 rfl (by decide) rfl (fun w' hw => lay_1 hw (hA4.nowA (s := ⟨w1, _⟩) Mono.byte hw)) (fun v => ?_)
 refine VL.at (fun w6 h1w => ?_)
 obtain ⟨p7, c8, rfl, hO10, hA9⟩ := h1w
 refine VL.toOwn hO10 ?_
 refine VL.move rfl ?_
 refine VL.extract rfl rfl ?_
 refine VL.extract rfl rfl ?_
 refine VL.assign rfl ?_
 refine VL.assign rfl ?_
 refine VL.nn ?_
 refine VC.sr ?_
 refine VL.move rfl ?_
 refine VL.call Try.func41 rfl (by decide) rfl (fun w' hw => lawBytes_w hw (a := 16) (b := 0) (by decide) (by decide) (l := []) Arr.none) (fun v => ?_)
 refine VL.at (fun w11 h1w => ?_)
 obtain ⟨p12, c13, rfl, hO15, hA14⟩ := h1w
 refine VL.toOwn hO15 ?_
 refine VL.call Try.func42 rfl (by decide) rfl (fun w' hw => lay_2 hw (hA9.nowA (s := ⟨w6, _⟩) Mono_par hw) (hA14.nowA (s := ⟨w11, _⟩) Mono.byte hw)) (fun v => ?_)
 refine VL.at (fun w16 h1w => ?_)
 obtain ⟨p17, c18, rfl, hO20, hA19⟩ := h1w
 refine VL.toOwn hO20 ?_
 refine VL.move rfl ?_
 refine VL.extract rfl rfl ?_
 refine VL.extract rfl rfl ?_
 refine VL.assign rfl ?_
 refine VL.assign rfl ?_
 refine VL.nn ?_
 refine VC.sr ?_
 refine VL.move rfl ?_
 refine VL.move rfl ?_
 refine VL.go rfl rfl rfl ?_
 refine VL.move rfl ?_
 refine VL.pick_t rfl rfl ?_
 refine VL.move rfl ?_
 refine VL.go rfl rfl rfl ?_
 refine VL.move rfl ?_
 refine VL.go rfl rfl rfl ?_
 refine VL.len Try.underlying47 rfl rfl ?_
 refine VL.go rfl rfl rfl ?_
 refine VL.eql rfl rfl ?_
 refine VL.yes (rfl) ?_
 refine VL.pick_t rfl rfl ?_
 refine VL.move rfl ?_
 refine VL.go rfl rfl rfl ?_
 refine VL.move rfl ?_
 refine VL.go rfl rfl rfl ?_
 refine VL.index (xs := P2) rfl rfl Try.underlying47 sz47 hA19 (by omega) (by have hi := (show 0 < P2.length by decide); omega) ?_
 refine VL.go rfl rfl rfl ?_
 refine VL.fieldAt rfl (by obtain ⟨a, ha⟩ := hA19.isAt (by have hi := (show 0 < P2.length by decide); omega); rw [ha]; rfl) fo50_2 ?_
 refine VL.go rfl rfl rfl ?_
 refine VL.elem (s := ⟨w16, _⟩) (0) 2 rfl kd48 (fun _ h => h) (by repeat (first | exact List.mem_cons_self .. | apply List.mem_cons_of_mem)) Mono_par hA19 (List.getElem?_eq_getElem (show 0 < P2.length by decide)) (by simp) (by decide) (fun vs v hl hr hv => ?_)
 obtain ⟨p22, c23, hy21, rfl, hA24⟩ := hr
 have ehy21 : v = .int .u32 ((P2[0]'(show 0 < P2.length by decide)).due : Nat) := (Option.some.inj (hv.symm.trans rfl))
 subst ehy21
 refine VL.go rfl rfl rfl ?_
 refine VL.eql rfl rfl ?_
 refine VL.yes (by have := due_0; have e := dueAt_eq (xs := P2) (j := 0) (by decide); omega) ?_
 refine VL.pick_t rfl rfl ?_
 refine VL.move rfl ?_
 refine VL.go rfl rfl rfl ?_
 refine VL.move rfl ?_
 refine VL.go rfl rfl rfl ?_
 refine VL.index (xs := P2) rfl rfl Try.underlying47 sz47 hA19 (by omega) (by have hi := (show 1 < P2.length by decide); omega) ?_
 refine VL.go rfl rfl rfl ?_
 refine VL.fieldAt rfl (by obtain ⟨a, ha⟩ := hA19.isAt (by have hi := (show 1 < P2.length by decide); omega); rw [ha]; rfl) fo50_2 ?_
 refine VL.go rfl rfl rfl ?_
 refine VL.elem (s := ⟨w16, _⟩) (1) 2 rfl kd48 (fun _ h => h) (by repeat (first | exact List.mem_cons_self .. | apply List.mem_cons_of_mem)) Mono_par hA19 (List.getElem?_eq_getElem (show 1 < P2.length by decide)) (by simp) (by decide) (fun vs v hl hr hv => ?_)
 obtain ⟨p26, c27, hy25, rfl, hA28⟩ := hr
 have ehy25 : v = .int .u32 ((P2[1]'(show 1 < P2.length by decide)).due : Nat) := (Option.some.inj (hv.symm.trans rfl))
 subst ehy25
 refine VL.go rfl rfl rfl ?_
 refine VL.eql rfl rfl ?_
 refine VL.yes (by have := due_1; have e := dueAt_eq (xs := P2) (j := 1) (by decide); omega) ?_
 refine VL.pick_t rfl rfl ?_
 refine VL.move rfl ?_
 refine VL.go rfl rfl rfl ?_
 refine VL.move rfl ?_
 refine VL.go rfl rfl rfl ?_
 refine VL.call Try.func38 rfl (by decide) rfl (fun w' hw => ripe_w hw (hA19.nowA (s := ⟨w16, _⟩) Mono_par hw) (by decide) (now := 7) (by decide)) (fun v => ?_)
 refine VL.fact fun e29 => ?_
 subst e29
 refine VL.go rfl rfl rfl ?_
 refine VL.eql rfl rfl ?_
 refine VL.yes (best_2) ?_
 refine VL.pick_t rfl rfl ?_
 refine VL.assign rfl ?_
 refine VL.nn ?_
 refine VC.ret ?_
 refine VX.ret1 rfl rfl (fun we hw => ?_)
 exact ⟨rfl, hw.subA⟩

end Go.Proofs.Ytcfecmoagfgnaaa

/- Parcels as arguments, opened. -/
namespace Go.Proofs.Ytcfecmoagfgnaaa
open Go.Vc Go.Pl

open Go.ChangeShapes Go.WideShapes Go.ChangeAt Go.RowKit
section
variable {Hh : Type} {enc : TypeId × Value → Hh} {P : Program} {W : World} {t : TypeId}
/-- Opened, where the data's weights are what can be reached. -/
def OpensB (enc : TypeId × Value → Hh) (P : Program) (W : World) (t : TypeId) {X : Type} (R : Rel X) : Prop :=
  ∀ fuel cs x, DataW.trod enc P W 0 (fun _ => true) true fuel t cs = some x → (∀ n ∈ x.1.weights P t, n ≤ reachBytes) → ∃ y, R [] W cs y
theorem weightsAll_in {e : TypeId} : ∀ {l : List (DataW Hh)} {d : DataW Hh}, d ∈ l → ∀ n ∈ d.weights P e, n ∈ DataW.weightsAll P e l
 | d' :: r, d, hd, n, hn => by
  simp only [DataW.weightsAll, List.mem_append]
  rcases List.mem_cons.1 hd with rfl | h
  ·exact Or.inl hn
  ·exact Or.inr (weightsAll_in h n hn)

theorem OpensB.slice {t e : TypeId} {X : Type} {R : Rel X} {sz : Nat} (ht : P.underlying t = some (.slice e)) (hsz : P.cellsOf e = sz) (hpos : 0 < sz) (he : OpensB enc P W e R) : OpensB enc P W t (RV sz R) := by
 intro fuel cs x h hwt
 subst hsz
 rcases DataW.trod_slice ht h with ⟨rfl, _⟩ | ⟨a, len, cap, elems, rest, n, _, rfl, ex, hb, hl, hm, hlen, hel, hsp, _⟩
 ·exact ⟨[], none, 0, rfl, Arr.none⟩
 ·obtain ⟨hrl, hre⟩ := hsp rfl
  have each : ∀ i, i < len → ∃ y, ∃ vs : List Value, vs.length = P.cellsOf e ∧ R [] W vs y ∧ ∀ j v, vs[j]? = some v → W.cell? ((a.add (i * P.cellsOf e)).add j) = some v := by
   intro i hi
   have h1 := hel i hi
   rw [List.getElem?_eq_getElem (by omega)] at h1
   cases hc : W.cells? 0 (a.add (i * P.cellsOf e)) (P.cellsOf e) with
   | none => simp [hc] at h1
   | some vs =>
    simp [hc] at h1
    obtain ⟨y, hy⟩ := he _ _ _ h1 (fun n hn => hwt n (by
     rw [ex]
     simp only [DataW.weights, ht, List.mem_cons, List.mem_append]
     exact .inr (.inl (weightsAll_in (List.mem_map.2 ⟨_, List.getElem_mem (by omega), rfl⟩) n hn))))
    obtain ⟨h2, h3, h4⟩ := World.cells?_some hc
    refine ⟨y, vs, h3, hy, fun j v hj => ?_⟩
    have hjl := (List.getElem?_eq_some_iff.1 hj).1
    rw [h4 j (by omega)]; exact hj
  obtain ⟨ys, hys, hyp⟩ := pick_list len each
  subst hys
  refine ⟨ys, some a, cap, rfl, hl, hm, fun e => (by cases e), fun a' ea hc0 => ?_⟩
  simp at ea; subst ea
  -- the first cell is there
  have hfirst : ∃ v, W.cell? a = some v := by
   have key : ∀ z, (W.cells? 0 (a.add 0) (P.cellsOf e)).bind (DataW.trod enc P W 0 (fun _ => true) true n e) = some z → ∃ v, W.cell? a = some v := by
    intro z hz
    cases hc : W.cells? 0 (a.add 0) (P.cellsOf e) with
    | none => simp [hc] at hz
    | some vs =>
     obtain ⟨h2, h3, h4⟩ := World.cells?_some hc
     have := h4 0 hpos
     rw [List.getElem?_eq_getElem (by omega)] at this
     exact ⟨_, by simpa [Addr.add] using this⟩
   by_cases h0 : 0 < ys.length
   ·have h1 := hel 0 h0
    rw [List.getElem?_eq_getElem (by omega), Nat.zero_mul] at h1
    exact key _ h1
   ·have h1 := hre 0 (by omega)
    rw [List.getElem?_eq_getElem (by omega)] at h1
    have e0 : (ys.length + 0) * P.cellsOf e = 0 := by rw [show ys.length + 0 = 0 by omega, Nat.zero_mul]
    rw [e0] at h1
    exact key _ h1
  obtain ⟨v0, hv0⟩ := hfirst
  unfold World.cell? at hv0
  cases hh : W.heap[a.block]? with
  | none => simp [hh] at hv0
  | some o =>
   cases o with
   | cells c el fr =>
    simp only [hh] at hv0
    have hspot : a.spot = none := by
     cases hs : a.spot with
     | none => rfl
     | some _ => simp [hs] at hv0
    refine ⟨hspot, by simp, (Array.getElem?_eq_some_iff.1 hh).1, c, el, fr, rfl, fun j y hj => ?_⟩
    obtain ⟨vs, f1, f2, f3⟩ := hyp j y hj
    refine ⟨vs, f1, f2, fun i v hv => ?_⟩
    have := f3 i v hv
    have ea : (a.add (j * P.cellsOf e)).add i = ⟨a.block, a.off + (j * P.cellsOf e + i), none⟩ := by
     obtain ⟨ab, ao, asp⟩ := a
     simp at hspot; subst hspot
     rw [add_lit, add_lit, Nat.add_assoc]
    rw [ea] at this
    simpa [World.cell?, hh] using this
   | _ => simp [hh] at hv0


end
section
variable {Hh : Type} {enc : TypeId × Value → Hh} {W : World}
end
end Go.Proofs.Ytcfecmoagfgnaaa

/- Plays as cells. -/
namespace Go.Proofs.Ytcfecmoagfgnaaa
open Go.Vc Go.Pl

structure Ply where
  kind : Nat
  a : Nat
  b : Nat
  idx : Int
  at_ : Nat
  bytes : List UInt8
structure Ply.ok (x : Ply) : Prop where
  kind : x.kind < 256
  a : x.a < 256
  b : x.b < 256
  at_ : x.at_ < 4294967296
def ply0 : Ply := ⟨0, 0, 0, 0, 0, []⟩
abbrev plyV (x : Ply) (p : Option Addr) (c : Nat) : List (List Value) := [[.int .u8 x.kind], [.int .u8 x.a], [.int .u8 x.b], [.int .i64 x.idx], [.int .u32 x.at_], [.slice p x.bytes.length c]]
abbrev plyL : List Nat := [1, 1, 1, 1, 1, 1]
theorem zero57 : (Try.prog.info? 57).bind (·.zero) = some (.agg (cat (plyV ply0 none 0)).toArray) := by kernel_rfl
theorem plyV_len {x : Ply} (h : x.ok) {p : Option Addr} {c : Nat} : (plyV x p c).map List.length = plyL := by simp []
theorem plyV_ok1 (x : Ply) (p : Option Addr) (c : Nat) : ok1 (cat (plyV x p c)) := by
 intro u hu
 rw [cat_eq] at hu
 simp only [List.mem_flatten, List.mem_cons, List.not_mem_nil, or_false] at hu
 obtain ⟨l, hl, hu⟩ := hu
 rcases hl with rfl | rfl | rfl | rfl | rfl | rfl <;> first | (simp only [List.mem_singleton] at hu; subst hu; rfl) | exact ok1_bytes _ u hu
/-- A play's cells. -/
def plyR : Rel Ply := fun K w vs y => ∃ p c, y.ok ∧ vs = cat (plyV y p c) ∧ Bytes K w p y.bytes c
open Go.ChangeShapes Go.WideShapes Go.ChangeAt Go.RowKit
section
variable {Hh : Type} {enc : TypeId × Value → Hh} {W : World}
def intV : Rel Int := fun _ _ vs n => vs = [.int .i64 n]
theorem openInt {P : Program} {t : TypeId} (ht : P.underlying t = some (.int .i64)) : Opens enc P W t intV := by
 intro fuel cs x h
 cases fuel with
 | zero => simp [DataW.trod] at h
 | succ n =>
  unfold DataW.trod at h
  rw [ht] at h
  split at h <;> simp_all
  rename_i k0 k n' heq
  subst heq
  obtain ⟨⟨rfl, _⟩, _⟩ := h
  exact ⟨n', rfl⟩

theorem open57 : Opens enc Try.prog W 57 plyR := by
 intro fuel cs x h
 obtain ⟨hl, m, hz0, hz1, hz2, hz3, hz4, hz5, _⟩ := openFields [(5, 0, 1), (5, 1, 1), (5, 2, 1), (3, 3, 1), (48, 4, 1), (24, 5, 1)] Try.underlying57 (by kernel_rfl) h
 rw [show Try.prog.cellsOf 57 = 6 by kernel_rfl] at hl
 obtain ⟨z0, hz0⟩ := hz0
 obtain ⟨y0, ho0, hy0⟩ := (openU8 Try.underlying5) _ _ _ hz0
 obtain ⟨z1, hz1⟩ := hz1
 obtain ⟨y1, ho1, hy1⟩ := (openU8 Try.underlying5) _ _ _ hz1
 obtain ⟨z2, hz2⟩ := hz2
 obtain ⟨y2, ho2, hy2⟩ := (openU8 Try.underlying5) _ _ _ hz2
 obtain ⟨z3, hz3⟩ := hz3
 obtain ⟨y3, hy3⟩ := (openInt Try.underlying3) _ _ _ hz3
 obtain ⟨z4, hz4⟩ := hz4
 obtain ⟨y4, ho4, hy4⟩ := (openU32 Try.underlying48) _ _ _ hz4
 obtain ⟨z5, hz5⟩ := hz5
 obtain ⟨y5, p5, c5, hy5, hA5⟩ := (Opens.slice (sz := 1) Try.underlying24 (by kernel_rfl) (by decide) (Opens.u8 Try.underlying5)) _ _ _ hz5
 refine ⟨⟨y0, y1, y2, y3, y4, y5⟩, p5, c5, ⟨ho0, ho1, ho2, ho4⟩, ?_, hA5⟩
 have e0 : cs = cs.drop 0 := rfl
 have f0 := cutCells 0 1 hy0
 have f1 := cutCells 1 1 hy1
 have f2 := cutCells 2 1 hy2
 have f3 := cutCells 3 1 hy3
 have f4 := cutCells 4 1 hy4
 have f5 := cutCells 5 1 hy5
 have fe : cs.drop 6 = [] := List.drop_eq_nil_of_le (by omega)
 rw [e0, f0, f1, f2, f3, f4, f5, fe]
 simp only [cat, List.append_assoc, List.append_nil, List.nil_append]
end
end Go.Proofs.Ytcfecmoagfgnaaa

/- The rules of the walks, continued: regions whose order is open, where 'ahead of' and 'behind' are asked by way of other operations too. -/
namespace Go.Vc
section
variable {P : Program} {n : Nat} {Q : Exit → Act → World → Prop} {ops : Array Oper}

def Ob3 (P : Program) (n : Nat) (ops : Array Oper) (Q : Exit → Act → World → Prop) (J : Bool → World → Prop) (Stp : Bool → World → World → Prop) (kk : Nat) (F : List Fact) (σ : Sl) (i : Nat) (I : Ins) (o : Oper) : Prop :=
  insOk ops i I = true ∧ ∀ (ph : Bool) (w0 : World) (vals : Nat → Value), J ph w0 → (i = kk → ph = false) → (below ops ops.size kk i = true → ph = false) → (ops[kk]? = none → ph = false) → (below ops ops.size i kk = true → ph = true) → (∀ p ∈ I.pre, factOf F p.2 (vals p.2) w0) →
    VL P n ops (Post n Q J Stp (factOf F i) o.dst ph (ph || Nat.beq i kk) w0) [o] (preSlots I.pre vals ++ only σ I.bas) (fun w => w = w0)


def Obs3 (P : Program) (n : Nat) (ops : Array Oper) (Q : Exit → Act → World → Prop) (J : Bool → World → Prop) (Stp : Bool → World → World → Prop) (kk : Nat) (F : List Fact) (σ : Sl) : Nat → List Ins → List Oper → Prop
  | i, I :: Is, o :: os => Ob3 P n ops Q J Stp kk F σ i I o ∧ Obs3 P n ops Q J Stp kk F σ (i + 1) Is os
  | _, [], [] => True
  | _, _, _ => False

theorem Obs3.cons {J : Bool → World → Prop} {Stp : Bool → World → World → Prop} {kk : Nat} {F : List Fact} {σ : Sl} {i : Nat} {I : Ins} {Is : List Ins} {o : Oper} {os : List Oper} (h : Ob3 P n ops Q J Stp kk F σ i I o) (k : Obs3 P n ops Q J Stp kk F σ (i + 1) Is os) : Obs3 P n ops Q J Stp kk F σ i (I :: Is) (o :: os) := ⟨h, k⟩
theorem Obs3.nil {J : Bool → World → Prop} {Stp : Bool → World → World → Prop} {kk : Nat} {F : List Fact} {σ : Sl} {i : Nat} : Obs3 P n ops Q J Stp kk F σ i [] [] := trivial


theorem Obs3.get {J : Bool → World → Prop} {Stp : Bool → World → World → Prop} {kk : Nat} {F : List Fact} {σ : Sl} : ∀ (Is : List Ins) (os : List Oper) (k : Nat), Obs3 P n ops Q J Stp kk F σ k Is os → ∀ i o, os[i]? = some o → ∃ I, Ob3 P n ops Q J Stp kk F σ (k + i) I o
 | [], [], _, _, i, o, h => by simp at h
 | [], _ :: _, _, h, _, _, _ => h.elim
 | _ :: _, [], _, h, _, _, _ => h.elim
 | I :: Is, o :: os, k, h, i, p, hi => by
  cases i with
  | zero => simp at hi; subst hi; exact ⟨I, h.1⟩
  | succ i =>
   obtain ⟨I', h'⟩ := Obs3.get Is os (k + 1) h.2 i p (by simpa using hi)
   exact ⟨I', by rw [show k + (i + 1) = k + 1 + i by omega]; exact h'⟩

variable {S : List Snap} {H H' : List Chunk}
end
end Go.Vc

/- The rules of the walks, continued: a region whose order is open, whose state is said by what has been done and what each gave. -/
namespace Go.Vc
section
variable {P : Program} {n : Nat} {Q : Exit → Act → World → Prop} {ops : Array Oper}
/-- What operation j left in its slot. -/
def valAt (ops : Array Oper) (a : Act) (j : Nat) : Value := match ops[j]? with
  | some p => match p.dst with
    | some d => a.tmps.getD d undef
    | none => undef
  | none => undef
def rhoOf (ops : Array Oper) (listed : Array Bool) (a : Act) : Nat → Option Value := fun j => if listed.getD j false = true then some (valAt ops a j) else none
def upd (ρ : Nat → Option Value) (i : Nat) (v : Value) : Nat → Option Value := fun j => if j = i then some v else ρ j
structure InvJ (n : Nat) (ops : Array Oper) (J : (Nat → Option Value) → World → Prop) (σ : Sl) (listed : Array Bool) (a : Act) (w : World) : Prop where
  size : listed.size = ops.size
  closed : ∀ j o, ops[j]? = some o → listed.getD j false = true → ∀ e ∈ o.after, Region.binds .any e = true → listed.getD e.on false = true
  base : ∀ t v, look σ t = some v → (∀ j o, ops[j]? = some o → listed.getD j false = true → o.dst ≠ some t) → a.tmps.getD t undef = v
  dfr : a.defers = []
  tsz : a.tmps.size = n
  inv : J (rhoOf ops listed a) w
def PostJ (_n : Nat) (Q : Exit → Act → World → Prop) (J : (Nat → Option Value) → World → Prop) (ρ : Nat → Option Value) (i : Nat) (d : Option Nat) : Exit → Act → World → Prop
  | .normal, a, w => a.defers = [] ∧ ∃ v, (∀ t, d = some t → a.tmps.getD t undef = v) ∧ (d = none → v = undef) ∧ J (upd ρ i v) w
  | e, a, w => Q e a w
def ObJ (P : Program) (n : Nat) (ops : Array Oper) (Q : Exit → Act → World → Prop) (J : (Nat → Option Value) → World → Prop) (σ : Sl) (i : Nat) (I : Ins) (o : Oper) : Prop :=
  insOk ops i I = true ∧ ∀ (ρ : Nat → Option Value) (w0 : World) (vals : Nat → Value), J ρ w0 → ρ i = none → (∀ j, waits o j = true → (ρ j).isSome = true) → (∀ j p, ops[j]? = some p → waits p i = true → ρ j = none) → (∀ p ∈ I.pre, ρ p.2 = some (vals p.2)) →
    VL P n ops (PostJ n Q J ρ i o.dst) [o] (preSlots I.pre vals ++ only σ I.bas) (fun w => w = w0)
theorem step_J {J : (Nat → Option Value) → World → Prop} {σ : Sl} (hp : plainRegion ops = true)
  {i : Nat} {I : Ins} {o : Oper} (hi : ops[i]? = some o) (hob : ObJ P n ops Q J σ i I o) {listed : Array Bool} {a : Act} {w : World} (hI : InvJ n ops J σ listed a w) (hr : i ∈ Region.ready .any ops listed) :
  wpOp P ops Q i (fun a' w' => InvJ n ops J σ (listed.setIfInBounds i true) a' w') a w := by
 obtain ⟨hun, o', ho', hall⟩ := mem_ready.1 hr
 obtain rfl : o' = o := Option.some.inj (ho'.symm.trans hi)
 obtain ⟨hok, hvl⟩ := hob
 unfold insOk at hok
 rw [hi] at hok
 simp only [Bool.and_eq_true] at hok
 have hilt : i < ops.size := (Array.getElem?_eq_some_iff.1 hi).1
 have hunf : listed.getD i false = false := by
  have : i < listed.size := by rw [hI.size]; exact hilt
  simp [this] at hun ⊢
  exact hun
 let vals : Nat → Value := valAt ops a
 have hpre : ∀ d j, (d, j) ∈ I.pre → listed.getD j false = true ∧ ∃ p, ops[j]? = some p ∧ p.dst = some d := by
  intro d j hm
  have h1 := List.all_eq_true.1 hok.1 (d, j) hm
  simp only [Bool.and_eq_true] at h1
  obtain ⟨e, he, hb, hon⟩ := waits_spec h1.1
  have h2 := h1.2
  cases hpj : ops[j]? with
  | none => simp [hpj] at h2
  | some p =>
   cases hpd : p.dst with
   | none => simp [hpj, hpd] at h2
   | some d' =>
    simp [hpj, hpd] at h2
    subst h2
    exact ⟨hon ▸ hall e he hb, p, rfl, hpd⟩
 have hval : ∀ d j, (d, j) ∈ I.pre → vals j = a.tmps.getD d undef := by
  intro d j hm
  obtain ⟨_, p, h1, h2⟩ := hpre d j hm
  simp only [vals, valAt, h1, h2]
 have hagr : Agr n (preSlots I.pre vals ++ only σ I.bas) a := by
  refine ⟨hI.dfr, hI.tsz, fun t v ht => ?_⟩
  rw [look_append] at ht
  cases hl : look (preSlots I.pre vals) t with
  | some u =>
   simp [hl] at ht
   subst ht
   obtain ⟨j, hm, rfl⟩ := look_pre hl
   rw [hval t j hm]
  | none =>
   simp [hl] at ht
   obtain ⟨hts, hlσ⟩ := look_only ht
   refine hI.base t v hlσ fun j p hj hlj hd => ?_
   have h1 := List.all_eq_true.1 hok.2 t hts
   have h2 := List.all_eq_true.1 h1 (p, j) (by rw [List.mem_zipIdx_iff_getElem?]; simpa using hj)
   simp [hd] at h2
   rcases h2 with h2 | h2
   ·subst h2; rw [hunf] at hlj; cases hlj
   ·obtain ⟨e, he, hb, hon⟩ := waits_spec h2
    have := hI.closed j p hj hlj e he hb
    rw [hon, hunf] at this
    cases this
 have hw := hvl (rhoOf ops listed a) w vals hI.inv (by unfold rhoOf; rw [hunf]; rfl) (fun j hwt => by
  obtain ⟨e, he, hb, hon⟩ := waits_spec hwt
  unfold rhoOf
  rw [if_pos (hon ▸ hall e he hb)]; rfl) (fun j p hpj hwt => by
  unfold rhoOf
  cases hl : listed.getD j false with
  | false => rfl
  | true =>
   obtain ⟨e, he, hb, hon⟩ := waits_spec hwt
   have := hI.closed j p hpj hl e he hb
   rw [hon, hunf] at this
   cases this) (fun p hm => by
  obtain ⟨h0, _⟩ := hpre p.1 p.2 hm
  unfold rhoOf
  rw [if_pos h0]) a w hagr rfl
 have keep : ∀ a' w', (∃ v, a' = a.put o'.dst v) → PostJ n Q J (rhoOf ops listed a) i o'.dst .normal a' w' → InvJ n ops J σ (listed.setIfInBounds i true) a' w' := by
  rintro a' w' ⟨u, rfl⟩ ⟨hd, v, hv1, hv0, hJ⟩
  have hset : ∀ j, (listed.setIfInBounds i true).getD j false = true → j = i ∨ listed.getD j false = true := by
   intro j hj
   by_cases e : i = j
   ·exact .inl e.symm
   ·right; rw [getD_set_ne false e] at hj; exact hj
  refine ⟨by simp [hI.size], fun j p hj hlj e he hb => ?_, fun t x ht hno => ?_, hd, (by cases o'.dst <;> simp [Act.put, hI.tsz]), ?_⟩
  ·rcases hset j hlj with rfl | hlj
   ·obtain rfl : o' = p := Option.some.inj (hi.symm.trans hj)
    exact getD_set_true (hall e he hb)
   ·exact getD_set_true (hI.closed j p hj hlj e he hb)
  ·have h1 := hI.base t x ht (fun j p hj hlj => hno j p hj (getD_set_true hlj))
   have hne : o'.dst ≠ some t := by
    refine hno i o' hi ?_
    have : i < listed.size := by rw [hI.size]; exact hilt
    simp [this]
   rw [← h1]
   cases h : o'.dst with
   | none => rfl
   | some d' =>
    have hdn : d' ≠ t := fun hh => hne (by rw [h, hh])
    simp [Act.put, Array.getElem?_setIfInBounds_ne hdn]
  ·have hrho : rhoOf ops (listed.setIfInBounds i true) (a.put o'.dst u) = upd (rhoOf ops listed a) i v := by
    funext j
    unfold rhoOf upd
    by_cases e : j = i
    ·subst e
     have hl : (listed.setIfInBounds j true).getD j false = true := by
      have : j < listed.size := by rw [hI.size]; exact hilt
      simp [this]
     rw [if_pos hl, if_pos rfl]
     unfold valAt
     rw [hi]
     cases h : o'.dst with
     | none => simp only [h]; rw [hv0 h]
     | some d =>
      have h1 := hv1 d h
      rw [h] at h1
      simp only [h]
      rw [h1]
    ·rw [if_neg e, getD_set_ne false (fun h => e h.symm)]
     show _ = (if listed.getD j false = true then some (valAt ops a j) else none)
     by_cases hl : listed.getD j false = true
     ·rw [if_pos hl, if_pos hl]
      congr 1
      unfold valAt
      cases hj : ops[j]? with
      | none => rfl
      | some p =>
       cases hpd : p.dst with
       | none => simp only [hpd]
       | some d =>
        simp only [hpd]
        have hne : o'.dst ≠ some d := fun h => e (plain_dst hp hj hi hpd h)
        cases h : o'.dst with
        | none => rfl
        | some d' =>
         have hdn : d' ≠ d := fun hh => hne (by rw [h, hh])
         simp [Act.put, Array.getElem?_setIfInBounds_ne hdn]
     ·rw [if_neg hl, if_neg hl]
   rw [hrho]; exact hJ
 have hQ : ∀ e a1 w1, e ≠ .normal → PostJ n Q J (rhoOf ops listed a) i o'.dst e a1 w1 → Q e a1 w1 := by
  intro e a1 w1 hne h
  cases e <;> first | exact absurd rfl hne | exact h
 unfold wpList at hw
 unfold wpOp
 rw [hi]
 simp only
 split
 ·rename_i hwt
  rw [if_pos hwt] at hw
  rcases hw with hw | ⟨h1, a1, w1, h2⟩
  ·left
   refine Oper.wp_mono (fun a' w' h => keep a' w' h.1 h.2) (wp_shape (fun a' w' h => ?_) hQ hw)
   exact h.1
  ·exact .inr ⟨h1, a1, w1, hQ _ _ _ (by simp) h2⟩
 ·rename_i hwt
  rw [if_neg hwt] at hw
  exact keep _ _ ⟨undef, rfl⟩ hw
/-- The region: open up to operation m, in order behind. -/
theorem VC.anyJ {id : Nat} {l : List Oper} {σ : Sl} {G : World → Prop} (J : (Nat → Option Value) → World → Prop) (m : Nat) (outs : List (Nat × Nat)) (bas : List Nat)
  (hmix : P.follows .mixedOrders = true) (hp : plainRegion l.toArray = true) (htl : tailed l.toArray m = true) (hml : m ≤ l.length) (hG : ∀ w, G w → J (fun _ => none) w.drew)
  (houts : outs.all (fun (d, j) => Nat.blt j m && match l[j]? with | some p => (match p.dst with | some d' => Nat.beq d d' | none => false) | none => false) = true)
  (hbas : bas.all (fun t => (l.take m).all fun p => match p.dst with | some d => !Nat.beq d t | none => true) = true)
  (hobs : ∀ i o, (l.take m)[i]? = some o → ∃ I, ObJ P n l.toArray Q J σ i I o)
  (hend : ∀ (ρ : Nat → Option Value) (vals : Nat → Value) (w0 : World), J ρ w0 → (∀ j, j < m → (ρ j).isSome = true) → (∀ j, m ≤ j → ρ j = none) → (∀ p ∈ outs, ρ p.2 = some (vals p.2)) → VL P n l.toArray Q (l.drop m) (preSlots outs vals ++ only σ bas) (fun w => w = w0)) :
  VC P n Q (.region id l.toArray true) σ G := by
 intro a w ha hw
 refine wp_region_any hmix ?_
 have h0 : ∀ j, (Array.replicate l.toArray.size false).getD j false = false := by
  intro j
  rcases Nat.lt_or_ge j l.length with h | h
  ·simp [h]
  ·simp [h]
 -- all ahead of the tail are done: the tail
 have start : ∀ (listed : Array Bool) (a : Act) (w : World), InvJ n l.toArray J σ listed a w → (∀ i, listed.getD i false = true ↔ i < m) → wpList P l.toArray Q (l.drop m) a w := by
  intro listed a w hI hall
  let vals : Nat → Value := valAt l.toArray a
  have hout : ∀ d j, (d, j) ∈ outs → j < m ∧ ∃ p, l[j]? = some p ∧ p.dst = some d := by
   intro d j hm
   have h1 := List.all_eq_true.1 houts (d, j) hm
   simp only [Bool.and_eq_true] at h1
   refine ⟨by have := h1.1; simp [Nat.blt, Nat.ble_eq] at this; omega, ?_⟩
   have h1 := h1.2
   cases hpj : l[j]? with
   | none => simp [hpj] at h1
   | some p =>
    cases hpd : p.dst with
    | none => simp [hpj, hpd] at h1
    | some d' => simp [hpj, hpd] at h1; subst h1; exact ⟨p, rfl, hpd⟩
  have hval : ∀ d j, (d, j) ∈ outs → vals j = a.tmps.getD d undef := by
   intro d j hm
   obtain ⟨_, p, h1, h2⟩ := hout d j hm
   simp only [vals, valAt, List.getElem?_toArray, h1, h2]
  refine hend (rhoOf l.toArray listed a) vals w hI.inv (fun j hj => ?_) (fun j hj => ?_) (fun p hm => ?_) a w ⟨hI.dfr, hI.tsz, fun t v ht => ?_⟩ rfl
  ·unfold rhoOf
   rw [if_pos ((hall j).2 hj)]; rfl
  ·unfold rhoOf
   rw [if_neg (fun h => absurd ((hall j).1 h) (by omega))]
  ·obtain ⟨h0, _⟩ := hout p.1 p.2 hm
   unfold rhoOf
   rw [if_pos ((hall p.2).2 h0)]
  ·rw [look_append] at ht
   cases hl : look (preSlots outs vals) t with
   | some u =>
    simp [hl] at ht
    subst ht
    obtain ⟨j, hm, rfl⟩ := look_pre hl
    rw [hval t j hm]
   | none =>
    simp [hl] at ht
    obtain ⟨hts, hlσ⟩ := look_only ht
    refine hI.base t v hlσ fun j p hj hlj hd => ?_
    have h1 := List.all_eq_true.1 hbas t hts
    have hjm := (hall j).1 hlj
    have hjt : (l.take m)[j]? = some p := by rw [List.getElem?_take, if_pos hjm]; simpa using hj
    have h2 := List.all_eq_true.1 h1 p (List.mem_of_getElem? hjt)
    simp [hd] at h2
 let K : Array Bool → Act → World → Prop := fun listed a w =>
  (InvJ n l.toArray J σ listed a w ∧ ∀ i, m ≤ i → listed.getD i false = false) ∨
  (∃ k, m < k ∧ listed.size = l.toArray.size ∧ (∀ i, listed.getD i false = true ↔ i < k ∧ i < l.length) ∧ wpList P l.toArray Q (l.drop k) a w)
 have tstep : ∀ (k : Nat) (listed : Array Bool) (a : Act) (w : World), k < l.length → m ≤ k → listed.size = l.toArray.size → (∀ i, listed.getD i false = true ↔ i < k ∧ i < l.length) → wpList P l.toArray Q (l.drop k) a w →
   wpOp P l.toArray Q k (fun a' w' => K (listed.setIfInBounds k true) a' w') a w := by
  intro k listed a w hk hmk hsz hl hwp
  have hd : l.drop k = l[k] :: l.drop (k + 1) := List.drop_eq_getElem_cons hk
  have hnext : ∀ a' w', wpList P l.toArray Q (l.drop (k + 1)) a' w' → K (listed.setIfInBounds k true) a' w' := by
   intro a' w' h
   refine .inr ⟨k + 1, by omega, by simp [hsz], fun i => ?_, h⟩
   rw [listed_set (by rw [hsz]; simpa using hk), Bool.or_eq_true, hl i]
   constructor
   ·rintro (h | h)
    ·have := Nat.eq_of_beq_eq_true h; omega
    ·omega
   ·intro h
    by_cases e : i = k
    ·left; subst e; simp
    ·right; omega
  rw [hd] at hwp
  unfold wpList at hwp
  unfold wpOp
  have hk' : l.toArray[k]? = some l[k] := by simp [hk]
  rw [hk']
  simp only
  split
  ·rename_i hwt
   rw [if_pos hwt] at hwp
   rcases hwp with hwp | hwp
   ·exact .inl (Oper.wp_mono (fun a' w' h => hnext a' w' h) hwp)
   ·exact .inr hwp
  ·rename_i hwt
   rw [if_neg hwt] at hwp
   exact hnext _ _ hwp
 refine any_gen (K := K) (fun i listed a w hI hr => ?_) (fun listed a w hI hr => ?_) _ _ a _ ?_ ?_
 ·obtain ⟨hun, o, ho, hall⟩ := mem_ready.1 hr
  have hil : i < l.length := by simpa using (Array.getElem?_eq_some_iff.1 ho).1
  rcases hI with ⟨hI, hnt⟩ | ⟨k, hmk, hsz, hl, hwp⟩
  ·by_cases him : i < m
   ·have hot : (l.take m)[i]? = some o := by rw [List.getElem?_take, if_pos him]; simpa using ho
    obtain ⟨I, hob⟩ := hobs i o hot
    refine wpOp_mono (fun a' w' h => .inl ⟨h, fun j hj => ?_⟩) (step_J hp ho hob hI hr)
    rw [getD_set_ne false (by omega)]; exact hnt j hj
   · -- the tail's first
    have hb : ∀ j, j < i → listed.getD j false = true := fun j hj =>
     below_listed hI.closed _ i j (tailed_spec htl (by simpa using hil) (by omega) hj) (fun o' ho' e he hbd => by
      obtain rfl : o' = o := Option.some.inj (ho'.symm.trans ho)
      exact hall e he hbd)
    have hie : i = m := by
     rcases Nat.lt_or_ge m i with h | h
     ·have h1 := hb m h
      rw [hnt m (Nat.le_refl _)] at h1; cases h1
     ·omega
    subst hie
    have hiff : ∀ j, listed.getD j false = true ↔ j < i := fun j => ⟨fun h => by
     rcases Nat.lt_or_ge j i with h' | h'
     ·exact h'
     ·rw [hnt j h'] at h; exact absurd h (by simp), hb j⟩
    exact tstep i listed a w hil (Nat.le_refl _) hI.size (fun j => by rw [hiff]; constructor <;> intro h <;> omega) (start listed a w hI hiff)
  ·have hki : i = k := by
    have h1 : listed.getD i false = false := by
     have : i < listed.size := by rw [hsz]; simpa using hil
     simp [this] at hun ⊢
     exact hun
    have hge : k ≤ i := by
     rcases Nat.lt_or_ge i k with h | h
     ·have := (hl i).2 ⟨h, hil⟩
      rw [h1] at this; cases this
     ·exact h
    rcases Nat.lt_or_ge k i with h | h
    · -- k must be done ahead of i
     have hcl : ∀ j o', l.toArray[j]? = some o' → listed.getD j false = true → ∀ e ∈ o'.after, Region.binds .any e = true → listed.getD e.on false = true := by
      intro j o' hj hlj e he hbd
      have hb := plain_back hp hj he hbd
      have := (hl j).1 hlj
      exact (hl e.on).2 ⟨by omega, by omega⟩
     have := below_listed hcl _ i k (tailed_spec htl (by simpa using hil) (by omega) h) (fun o' ho' e he hbd => by
      obtain rfl : o' = o := Option.some.inj (ho'.symm.trans ho)
      exact hall e he hbd)
     have := (hl k).1 this
     omega
    ·omega
   subst hki
   exact tstep i listed a w hil (by omega) hsz hl hwp
 ·rcases hI with ⟨hI, hnt⟩ | ⟨k, hmk, hsz, hl, hwp⟩
  ·have hall := all_listed hp hI.size hr
   have hme : m = l.length := by
    rcases Nat.lt_or_ge m l.length with h | h
    ·have := hall m (by simpa using h)
     rw [hnt m (Nat.le_refl _)] at this; cases this
    ·omega
   have := start listed a w hI (fun j => ⟨fun h => by
    rcases Nat.lt_or_ge j m with h' | h'
    ·exact h'
    ·rw [hnt j h'] at h; exact absurd h (by simp), fun h => hall j (by simp; omega)⟩)
   rw [hme, List.drop_length] at this
   exact this
  ·have hall := all_listed hp hsz hr
   have hk : l.length ≤ k := by
    rcases Nat.lt_or_ge k l.length with h | h
    ·have := (hl k).1 (hall k (by simpa using h)); omega
    ·exact h
   rw [List.drop_eq_nil_of_le hk] at hwp
   exact hwp
 ·simp
 ·exact .inl ⟨⟨by simp, fun j o _ hl => (by rw [h0 j] at hl; cases hl), fun t v ht _ => ha.at_ t v ht, ha.dfr, ha.size, (by
   have e : rhoOf l.toArray (Array.replicate l.toArray.size false) a = fun _ => none := by
    funext j
    unfold rhoOf
    rw [if_neg (by rw [h0 j]; decide)]
   rw [e]; exact hG w hw)⟩, fun i _ => h0 i⟩
end
end Go.Vc

/- The rules of the walks, continued: such a region, where what is owned is said by three operations, and each value by a fact of its own. -/
namespace Go.Vc
section
variable {P : Program} {n : Nat} {Q : Exit → Act → World → Prop} {ops : Array Oper} {σ : Sl}
/-- Each value's fact; what is owned. -/
def JE (E : Nat → Value → Prop) (O : (Nat → Option Value) → World → Prop) (ρ : Nat → Option Value) (w : World) : Prop := (∀ j v, ρ j = some v → E j v) ∧ O ρ w
/-- One value after the other, each with its fact. -/
def EachE (E : Nat → Value → Prop) (ρ : Nat → Option Value) : List (Nat × Nat) → Sl → (Sl → Prop) → Prop
  | [], acc, C => C acc
  | (d, j) :: r, acc, C => ∀ v, ρ j = some v → E j v → EachE E ρ r ((d, v) :: acc) C
theorem EachE.spec {E : Nat → Value → Prop} {ρ : Nat → Option Value} {vals : Nat → Value} (hE : ∀ j v, ρ j = some v → E j v) : ∀ (pre : List (Nat × Nat)) (acc : Sl) (C : Sl → Prop), EachE E ρ pre acc C → (∀ p ∈ pre, ρ p.2 = some (vals p.2)) → C ((preSlots pre vals).reverse ++ acc)
 | [], acc, C, h, _ => h
 | (d, j) :: r, acc, C, h, hf => by
  have h1 := hf (d, j) (by simp)
  have h2 := h (vals j) h1 (hE j _ h1)
  have := EachE.spec hE r _ C h2 (fun p hp => hf p (by simp [hp]))
  simpa [preSlots] using this
theorem obJ {E : Nat → Value → Prop} {O : (Nat → Option Value) → World → Prop} {i : Nat} {I : Ins} {o : Oper} (hok : insOk ops i I = true) (hn : decide ((I.pre.map (·.1)).Nodup) = true)
  (h : ∀ ρ w0, (∀ j v, ρ j = some v → E j v) → O ρ w0 → ρ i = none → (∀ j, waits o j = true → (ρ j).isSome = true) → (∀ j p, ops[j]? = some p → waits p i = true → ρ j = none) → EachE E ρ I.pre [] (fun τ => VL P n ops (PostJ n Q (JE E O) ρ i o.dst) [o] (τ ++ only σ I.bas) (fun w => w = w0))) :
  ObJ P n ops Q (JE E O) σ i I o :=
 ⟨hok, fun ρ w0 vals hJ h1 h2 h3 hF => by
  have h4 := EachE.spec hJ.1 I.pre [] _ (h ρ w0 hJ.1 hJ.2 h1 h2 h3) hF
  intro a w ha hw
  exact h4 a w (ha.back (of_decide_eq_true hn)) hw⟩
/-- Its value and what is owned then. -/
theorem VL.finE {E : Nat → Value → Prop} {O : (Nat → Option Value) → World → Prop} {ρ : Nat → Option Value} {i d : Nat} {G : World → Prop} {σ' : Sl} {v : Value} (hE0 : ∀ j v, ρ j = some v → E j v) (hv : look σ' d = some v) (hE : E i v) (hO : ∀ w, G w → O (upd ρ i v) w) :
  VL P n ops (PostJ n Q (JE E O) ρ i (some d)) [] σ' G := fun a w ha hw =>
 ⟨ha.dfr, v, fun t ht => by cases ht; exact ha.at_ d v hv, fun h => (by cases h), fun j u hu => by
  unfold upd at hu
  by_cases e : j = i
  ·subst e; rw [if_pos rfl] at hu; cases hu; exact hE
  ·rw [if_neg e] at hu; exact hE0 j u hu, hO w hw⟩
end
end Go.Vc

/- The rules of the walks, continued: one operation after the other; a row is let go. -/
namespace Go.Vc
section
variable {P : Program} {n : Nat} {Q : Exit → Act → World → Prop} {ops : Array Oper} {σ : Sl}
/-- A law of each element, with its place. -/
def AllAt (Pr : Nat → Oper → Prop) : Nat → List Oper → Prop
  | _, [] => True
  | k, o :: r => Pr k o ∧ AllAt Pr (k + 1) r
theorem AllAt.cons {Pr : Nat → Oper → Prop} {k : Nat} {o : Oper} {r : List Oper} (h : Pr k o) (hr : AllAt Pr (k + 1) r) : AllAt Pr k (o :: r) := ⟨h, hr⟩
theorem AllAt.nil {Pr : Nat → Oper → Prop} {k : Nat} : AllAt Pr k [] := trivial
theorem AllAt.spec {Pr : Nat → Oper → Prop} : ∀ {l : List Oper} {k : Nat}, AllAt Pr k l → ∀ i o, l[i]? = some o → Pr (k + i) o
 | [], _, _, i, o, h => by cases i <;> cases h
 | x :: r, k, ⟨h1, h2⟩, i, o, h => by
  cases i with
  | zero => cases h; exact h1
  | succ i =>
   have := AllAt.spec h2 i o (by simpa using h)
   rw [show k + 1 + i = k + (i + 1) by omega] at this
   exact this
theorem VL.letArr0 {rest : List Oper} {S : List Snap} {H : List Chunk} {X : Type} {R : Rel X} {hR : Mono R} {e : TypeId} {sz : Nat} {g : Option Nat} {c : Nat} {ys : List X} (h : ∀ w1, Own S H w1 → Arr sz R (keys H) w1 (g.map fun g => ⟨g, 0, none⟩) ys c → VL P n ops Q rest σ (Own (⟨w1, keys H⟩ :: S) H)) : VL P n ops Q rest σ (Own S (arow e sz R hR g c ys :: H)) :=
 fun a w ha hw => h w hw.drop hw.letArr a w ha hw.drop.keep
/-- The region: each value with a fact, what is owned as O says. -/
theorem VC.anyE {id : Nat} {l : List Oper} {σ : Sl} {G : World → Prop} (E : Nat → Value → Prop) (O : (Nat → Option Value) → World → Prop) (m : Nat) (outs : List (Nat × Nat)) (bas : List Nat)
  (hmix : P.follows .mixedOrders = true) (hp : plainRegion l.toArray = true) (htl : tailed l.toArray m = true) (hml : Nat.ble m l.length = true) (hG : ∀ w, G w → O (fun _ => none) w.drew)
  (houts : outs.all (fun (d, j) => Nat.blt j m && match l[j]? with | some p => (match p.dst with | some d' => Nat.beq d d' | none => false) | none => false) = true)
  (hbas : bas.all (fun t => (l.take m).all fun p => match p.dst with | some d => !Nat.beq d t | none => true) = true)
  (hobs : AllAt (fun i o => ∃ I, ObJ P n l.toArray Q (JE E O) σ i I o) 0 (l.take m))
  (hend : ∀ (ρ : Nat → Option Value) (vals : Nat → Value) (w0 : World), (∀ j v, ρ j = some v → E j v) → O ρ w0 → (∀ j, j < m → (ρ j).isSome = true) → (∀ j, m ≤ j → ρ j = none) → (∀ p ∈ outs, ρ p.2 = some (vals p.2)) → VL P n l.toArray Q (l.drop m) (preSlots outs vals ++ only σ bas) (fun w => w = w0)) :
  VC P n Q (.region id l.toArray true) σ G :=
 VC.anyJ (JE E O) m outs bas hmix hp htl (by simpa [Nat.ble_eq] using hml) (fun w hw => ⟨fun j v h => (by cases h), hG w hw⟩) houts hbas (fun i o hi => by have := hobs.spec i o hi; rw [Nat.zero_add] at this; exact this) (fun ρ vals w0 hJ h1 h2 h3 => hend ρ vals w0 hJ.1 hJ.2 h1 h2 h3)
end
end Go.Vc

/- What is owned in the region that doubles in the reference. -/
namespace Go.Proofs.Ytcfecmoagfgnaaa
open Go.Vc Go.Pl
abbrev r50 (g : Option Nat) (c : Nat) (zs : List Par) : Chunk := arow 50 4 parR Mono_par g c zs
def O34 (S : List Snap) (H : List Chunk) (xs : List Par) (z : Par) (ρ : Nat → Option Value) (w : World) : Prop :=
  match ρ 2, ρ 0, ρ 8 with
  | none, none, none => Own S H w
  | none, none, some v8 => ∃ h e, v8 = rowV h 1 e ∧ Own S (r50 h e [z] :: H) w
  | none, some v0, none => ∃ g c, v0 = rowV g 0 c ∧ Own S (r50 g c [] :: H) w
  | none, some v0, some v8 => ∃ g c h e, v0 = rowV g 0 c ∧ v8 = rowV h 1 e ∧ Own S (r50 h e [z] :: r50 g c [] :: H) w
  | some v2, _, none => ∃ g c, v2 = rowV g xs.length c ∧ Own S (r50 g c xs :: H) w
  | some v2, _, some v8 => ∃ g c h e, v2 = rowV g xs.length c ∧ v8 = rowV h 1 e ∧ Own S (r50 h e [z] :: r50 g c xs :: H) w
theorem O34_pure {S : List Snap} {H : List Chunk} {xs : List Par} {z : Par} {ρ : Nat → Option Value} {w : World} {i : Nat} {v : Value} (h : O34 S H xs z ρ w) (h0 : i ≠ 0) (h2 : i ≠ 2) (h8 : i ≠ 8) : O34 S H xs z (upd ρ i v) w := by
 unfold O34 upd
 rw [if_neg (fun e => h2 e.symm), if_neg (fun e => h0 e.symm), if_neg (fun e => h8 e.symm)]
 exact h
theorem O34_ok {S : List Snap} {H : List Chunk} {xs : List Par} {z : Par} {ρ : Nat → Option Value} {w : World} (h : O34 S H xs z ρ w) : ∀ s ∈ S, s.ok w := by
 intro s hs
 unfold O34 at h
 split at h
 ·exact (h.snap s hs).1
 ·obtain ⟨_, _, _, h⟩ := h; exact (h.snap s hs).1
 ·obtain ⟨_, _, _, h⟩ := h; exact (h.snap s hs).1
 ·obtain ⟨_, _, _, _, _, _, h⟩ := h; exact (h.snap s hs).1
 ·obtain ⟨_, _, _, h⟩ := h; exact (h.snap s hs).1
 ·obtain ⟨_, _, _, _, _, _, h⟩ := h; exact (h.snap s hs).1
theorem O34_own {S : List Snap} {H : List Chunk} {xs : List Par} {z : Par} {ρ : Nat → Option Value} {w : World} (h : O34 S H xs z ρ w) : ∃ H', Own S H' w := by
 unfold O34 at h
 split at h
 ·exact ⟨_, h⟩
 ·obtain ⟨_, _, _, h⟩ := h; exact ⟨_, h⟩
 ·obtain ⟨_, _, _, h⟩ := h; exact ⟨_, h⟩
 ·obtain ⟨_, _, _, _, _, _, h⟩ := h; exact ⟨_, h⟩
 ·obtain ⟨_, _, _, h⟩ := h; exact ⟨_, h⟩
 ·obtain ⟨_, _, _, _, _, _, h⟩ := h; exact ⟨_, h⟩
/-- Each value of the region. -/
def E34 (p : Option Addr) (c : Nat) (xs : List Par) (g : Nat) (i : Int) (z : Par) (K : List Nat) (ws : World) : Nat → Value → Prop
  | 1, v => v = .slice p xs.length c
  | 3, v => v = .slice p xs.length c
  | 4, v => v = .pointer (some ⟨g, 3, none⟩)
  | 5, v => v = .int .i64 i
  | 6, v => v = pAt p (i.toNat * 4)
  | 7, v => ∃ q d, v = .agg (cat (parV z q d)).toArray ∧ z.ok ∧ Bytes K ws q z.bytes d
  | _, _ => True
theorem O34_00 {S : List Snap} {H : List Chunk} {xs : List Par} {z : Par} {ρ : Nat → Option Value} {w : World} (h2 : ρ 2 = none) (h0 : ρ 0 = none) : O34 S H xs z ρ w ↔ (ρ 8 = none ∧ Own S H w) ∨ ∃ h e, ρ 8 = some (rowV h 1 e) ∧ Own S (r50 h e [z] :: H) w := by
 unfold O34
 rw [h2, h0]
 cases h8 : ρ 8 with
 | none => simp
 | some v8 => simp
theorem O34_01 {S : List Snap} {H : List Chunk} {xs : List Par} {z : Par} {ρ : Nat → Option Value} {w : World} {v0 : Value} (h2 : ρ 2 = none) (h0 : ρ 0 = some v0) : O34 S H xs z ρ w ↔ ∃ g c, v0 = rowV g 0 c ∧ ((ρ 8 = none ∧ Own S (r50 g c [] :: H) w) ∨ ∃ h e, ρ 8 = some (rowV h 1 e) ∧ Own S (r50 h e [z] :: r50 g c [] :: H) w) := by
 unfold O34
 rw [h2, h0]
 cases h8 : ρ 8 with
 | none => simp
 | some v8 => simp
theorem O34_2 {S : List Snap} {H : List Chunk} {xs : List Par} {z : Par} {ρ : Nat → Option Value} {w : World} {v2 : Value} (h2 : ρ 2 = some v2) : O34 S H xs z ρ w ↔ ∃ g c, v2 = rowV g xs.length c ∧ ((ρ 8 = none ∧ Own S (r50 g c xs :: H) w) ∨ ∃ h e, ρ 8 = some (rowV h 1 e) ∧ Own S (r50 h e [z] :: r50 g c xs :: H) w) := by
 unfold O34
 rw [h2]
 cases h8 : ρ 8 with
 | none => cases ρ 0 <;> simp
 | some v8 =>
  cases ρ 0 <;> simp <;> exact ⟨fun ⟨g, c, h, e, a, b, d⟩ => ⟨g, c, a, h, e, b, d⟩, fun ⟨g, c, a, h, e, b, d⟩ => ⟨g, c, h, e, a, b, d⟩⟩
end Go.Proofs.Ytcfecmoagfgnaaa

