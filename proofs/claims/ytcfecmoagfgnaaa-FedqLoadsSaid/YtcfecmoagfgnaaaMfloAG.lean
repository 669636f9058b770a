/- The statement FedqLoads is proved, for every input: part 7 of 26 of the texts that it needs. -/
import Derived.Test.YtcfecmoagfgnaaaMfloAF
import Derived.Carry
import Derived.OpenShut
import Derived.ProofKit
import Derived.WalkKit
/- The frame of every law: arguments that read as data are opened; behind the call they read as before. -/
namespace Go.Vc
open Go.ChangeShapes Go.WideShapes Go.ChangeAt Go.RowKit

section
variable {Hh : Type} {enc : TypeId × Value → Hh} {P : Program} {W W' : World}

theorem trodAll_below (hl : laidOutB P = true) (hb : Below W.heap.size W W') : ∀ {ts : List TypeId} {vs : List Value} {ds : List (DataW Hh)} {ps : List MemPlace}, ts.all (fun t => P.readableRec t && decide (t < P.types.size)) = true →
  DataW.TrodAll enc P W 0 (fun _ => true) true ts vs ds ps → DataW.TrodAll enc P W' 0 (fun b => decide (b < W.heap.size)) true ts vs ds ps
 | [], _, _, _, _, h => by
  obtain ⟨rfl, rfl, rfl⟩ := trodAll_nil h
  exact trodAll_mk0
 | t :: ts, _, _, _, ht, h => by
  have hlt := DataW.TrodAll.lt h
  obtain ⟨v, vs, d, ds, p, q, rfl, rfl, rfl, h1, h2⟩ := trodAll_cons h
  rw [List.all_cons, Bool.and_eq_true, Bool.and_eq_true, decide_eq_true_eq] at ht
  exact ⟨p, q, Below.trod hl ht.1.1 ht.1.2 h1 hb (fun x hx => hlt x (by simp [hx])), trodAll_below hl hb ht.2 h2, rfl⟩

theorem post_of_below {fn : Func} {s : ChangeSpec} {apart fresh handsOn : Bool} {args : Array Value} {ds gs : List (DataW Hh)} {before : List MemPlace} {tb : TypeId} (hs : s.vars = []) (hrt : fn.resultTypes = #[tb]) (htb : P.underlying tb = some .bool) (hl : laidOutB P = true)
  (hts : fn.params.toList.all (fun t => P.readableRec t && decide (t < P.types.size)) = true) (hW : DataW.Whole enc P fn.params.toList s.vars apart W args.toList ds gs before) (hfn : s.fn Hh ds = { results := [.lit (.bool true)], args := ds }) (hb : Below W.heap.size W W') :
  s.post enc P fn apart fresh handsOn false W args (.bool true) W' := by
 have hW' := hW
 obtain ⟨p, q, hA, hV, hp, _, _⟩ := hW
 rw [hs] at hV
 obtain ⟨rfl, rfl⟩ := trodVars_none hV
 rw [List.append_nil] at hp
 subst hp
 refine ⟨ds, [], before, [], before, [], hW', ?_, ?_, ?_, hb.frame _, fun h => by cases h⟩
 ·rw [List.append_nil, hfn, hrt]
  exact trodAll_cons_mk (p := []) (p' := []) (shut_bool htb _) trodAll_mk0
 ·rw [List.append_nil, hfn]
  exact trodAll_below hl hb hts hA
 ·rw [hs, List.append_nil, hfn]; rfl

/-- A law's row, from a contract of its walk. -/
theorem law_of {C : Checked} {os : Os} (started : os.Started) {f : FuncId} {fn : Func} {s : ChangeSpec} {conds : List PathCond} {enc : TypeId × Value → Hh} {tb : TypeId} (own : ownKnob C.prog.godebug = none) (noInit : C.prog.inits.idxOf? f = none) (hfn : C.prog.funcs[f]? = some fn)
  (witness : ∃ (w : World) (tape : Tape) (i : Input), w.os = os ∧ (w.forCall tape i).Shaped C.prog ∧ i.vars = [] ∧ Input.okWide C.prog (w.forCall tape i) .any w.heap.size f i ∧
   s.pre6 enc C.prog fn conds false (w.forCall tape i).memory i.args ∧ (({} : Assume).holds C.prog (lone (Frame.enter C.prog f i.args .normal) [] (w.forCall tape i))))
  (hs : s.vars = []) (hrt : fn.resultTypes = #[tb]) (htb : C.prog.underlying tb = some .bool) (hl : laidOutB C.prog = true) (hts : fn.params.toList.all (fun t => C.prog.readableRec t && decide (t < C.prog.types.size)) = true)
  (h : ∀ (W : World) (base : Nat) (args : Array Value) (ds : List (DataW Hh)) (ps : List MemPlace), (∀ (j : Nat) t v, fn.params[j]? = some t → args[j]? = some v → Value.okWide C.prog W .any base t v) →
   DataW.TrodAll enc C.prog W 0 (fun _ => true) true fn.params.toList args.toList ds ps → (DataW.weightsEach C.prog fn.params.toList ds).all (· ≤ reachBytes) = true →
   s.fn Hh ds = { results := [.lit (.bool true)], args := ds } ∧ Calls C.prog f args W (Ret fun v w' => v = .bool true ∧ Own [⟨W, []⟩] [] w')) :
  ReturnsInHanded {} C os f .any (s.pre6 enc C.prog fn conds false) (s.post enc C.prog fn false true false false) := by
 refine returnsInHanded_of_change_sized own started noInit hfn witness ?_
 intro W base args ds gs before hval hW _ hsz _
 have hW' := hW
 obtain ⟨p, q, hA, hV, hp, _, _⟩ := hW
 rw [hs] at hV
 obtain ⟨rfl, rfl⟩ := trodVars_none hV
 have hsz' : (DataW.weightsEach C.prog fn.params.toList ds).all (· ≤ reachBytes) = true := by
  have e : s.plain.varTypes C.prog = [] := by
   unfold ChangeSpec.plain DataSpec.varTypes
   simp [hs]
  rw [e, List.append_nil, List.append_nil] at hsz
  exact hsz
 obtain ⟨h1, h2⟩ := h W base args ds p hval hA hsz'
 refine h2.mono fun e W' he => ?_
 cases e with
 | returned v =>
  obtain ⟨rfl, ho⟩ := he
  exact ⟨_, rfl, post_of_below hs hrt htb hl hts hW' h1 (ho.below (by simp))⟩
 | panicked _ => exact he.elim
 | outgrown => exact he.elim

/-! ### Arguments, opened -/
/-- What a reading's cells say. -/
def Opens (enc : TypeId × Value → Hh) (P : Program) (W : World) (t : TypeId) {X : Type} (R : Rel X) : Prop :=
  ∀ fuel cs x, DataW.trod enc P W 0 (fun _ => true) true fuel t cs = some x → ∃ y, R [] W cs y

theorem pick_list {X : Type} {p : Nat → X → Prop} : ∀ n, (∀ i, i < n → ∃ y, p i y) → ∃ ys : List X, ys.length = n ∧ ∀ i y, ys[i]? = some y → p i y
 | 0, _ => ⟨[], rfl, by simp⟩
 | n + 1, h => by
  obtain ⟨ys, h1, h2⟩ := pick_list n (fun i hi => h i (by omega))
  obtain ⟨y, hy⟩ := h n (by omega)
  refine ⟨ys ++ [y], by simp [h1], fun i z hz => ?_⟩
  rw [List.getElem?_append] at hz
  split at hz
  ·exact h2 i z hz
  ·rename_i hi
   have : i = n := by
    have := (List.getElem?_eq_some_iff.1 hz).1
    simp at this; omega
   subst this
   simp [h1] at hz
   subst hz; exact hy

theorem Opens.u8 {t : TypeId} (ht : P.underlying t = some (.int .u8)) : Opens enc P W t byteR := by
 intro fuel cs x h
 cases fuel with
 | zero => simp [DataW.trod] at h
 | succ n =>
  unfold DataW.trod at h
  rw [ht] at h
  split at h <;> simp_all
  rename_i k0 k n' heq
  subst heq
  obtain ⟨⟨_, hw⟩, _⟩ := h
  have hb := bounds_u8 hw
  refine ⟨UInt8.ofNat n'.toNat, ?_⟩
  show _ = [bv _]
  have : (UInt8.ofNat n'.toNat).toNat = n'.toNat := by simp; omega
  unfold bv
  rw [this]
  simp
  omega

theorem Opens.slice {t e : TypeId} {X : Type} {R : Rel X} {sz : Nat} (ht : P.underlying t = some (.slice e)) (hsz : P.cellsOf e = sz) (hpos : 0 < sz) (he : Opens enc P W e R) : Opens enc P W t (RV sz R) := by
 intro fuel cs x h
 subst hsz
 rcases DataW.trod_slice ht h with ⟨rfl, _⟩ | ⟨a, len, cap, elems, rest, n, _, rfl, _, hb, hl, hm, hlen, hel, hsp, _⟩
 ·exact ⟨[], none, 0, rfl, Arr.none⟩
 ·obtain ⟨hrl, hre⟩ := hsp rfl
  have each : ∀ i, i < len → ∃ y, ∃ vs : List Value, vs.length = P.cellsOf e ∧ R [] W vs y ∧ ∀ j v, vs[j]? = some v → W.cell? ((a.add (i * P.cellsOf e)).add j) = some v := by
   intro i hi
   have h1 := hel i hi
   rw [List.getElem?_eq_getElem (by omega)] at h1
   cases hc : W.cells? 0 (a.add (i * P.cellsOf e)) (P.cellsOf e) with
   | none => simp [hc] at h1
   | some vs =>
    simp [hc] at h1
    obtain ⟨y, hy⟩ := he _ _ _ h1
    obtain ⟨h2, h3, h4⟩ := World.cells?_some hc
    refine ⟨y, vs, h3, hy, fun j v hj => ?_⟩
    have hjl := (List.getElem?_eq_some_iff.1 hj).1
    rw [h4 j (by omega)]; exact hj
  obtain ⟨ys, hys, hyp⟩ := pick_list len each
  subst hys
  refine ⟨ys, some a, cap, rfl, hl, hm, fun e => (by cases e), fun a' ea hc0 => ?_⟩
  simp at ea; subst ea
  -- the first cell is there
  have hfirst : ∃ v, W.cell? a = some v := by
   have key : ∀ z, (W.cells? 0 (a.add 0) (P.cellsOf e)).bind (DataW.trod enc P W 0 (fun _ => true) true n e) = some z → ∃ v, W.cell? a = some v := by
    intro z hz
    cases hc : W.cells? 0 (a.add 0) (P.cellsOf e) with
    | none => simp [hc] at hz
    | some vs =>
     obtain ⟨h2, h3, h4⟩ := World.cells?_some hc
     have := h4 0 hpos
     rw [List.getElem?_eq_getElem (by omega)] at this
     exact ⟨_, by simpa [Addr.add] using this⟩
   by_cases h0 : 0 < ys.length
   ·have h1 := hel 0 h0
    rw [List.getElem?_eq_getElem (by omega), Nat.zero_mul] at h1
    exact key _ h1
   ·have h1 := hre 0 (by omega)
    rw [List.getElem?_eq_getElem (by omega)] at h1
    have e0 : (ys.length + 0) * P.cellsOf e = 0 := by rw [show ys.length + 0 = 0 by omega, Nat.zero_mul]
    rw [e0] at h1
    exact key _ h1
  obtain ⟨v0, hv0⟩ := hfirst
  unfold World.cell? at hv0
  cases hh : W.heap[a.block]? with
  | none => simp [hh] at hv0
  | some o =>
   cases o with
   | cells c el fr =>
    simp only [hh] at hv0
    have hspot : a.spot = none := by
     cases hs : a.spot with
     | none => rfl
     | some _ => simp [hs] at hv0
    refine ⟨hspot, by simp, (Array.getElem?_eq_some_iff.1 hh).1, c, el, fr, rfl, fun j y hj => ?_⟩
    obtain ⟨vs, f1, f2, f3⟩ := hyp j y hj
    refine ⟨vs, f1, f2, fun i v hv => ?_⟩
    have := f3 i v hv
    have ea : (a.add (j * P.cellsOf e)).add i = ⟨a.block, a.off + (j * P.cellsOf e + i), none⟩ := by
     obtain ⟨ab, ao, asp⟩ := a
     simp at hspot; subst hspot
     rw [add_lit, add_lit, Nat.add_assoc]
    rw [ea] at this
    simpa [World.cell?, hh] using this
   | _ => simp [hh] at hv0

theorem Opens.value {t e : TypeId} {X : Type} {R : Rel X} {sz : Nat} {r : Reach} {base : Nat} {v : Value} {d : DataW Hh} {ps : List MemPlace} (ht : P.underlying t = some (.slice e)) (h : Opens enc P W t (RV sz R)) (hval : Value.okWide P W r base t v) (hd : DataW.Trod enc P W 0 (fun _ => true) true t v d ps) :
  ∃ p xs c, v = .slice p xs.length c ∧ Arr sz R [] W p xs c := by
 obtain ⟨fuel, hf⟩ := hd
 obtain ⟨xs, p, c, hv, hA⟩ := h _ _ _ hf
 refine ⟨p, xs, c, ?_, hA⟩
 have hsl : ∃ p n c, v = .slice p n c := by
  unfold Value.okWide Cell.okWide Cell.ok at hval
  rw [ht] at hval
  cases v <;> simp at hval ⊢
 obtain ⟨p', n', c', rfl⟩ := hsl
 simpa [Value.cells] using hv
end
end Go.Vc

/- octet.Key, and the law on bytes. -/
namespace Go.Proofs.Ytcfecmoagfgnaaa
open Go.Vc Go.Pl

def key0 : List UInt8 := List.replicate 32 0
def keyOf (l : List UInt8) : List UInt8 := if l.length = 32 then l else key0
theorem keyOf_length (l : List UInt8) : (keyOf l).length = 32 := by
 unfold keyOf
 split
 ·assumption
 ·decide
theorem zero44 : (Try.prog.info? 44).bind (·.zero) = some (.agg (key0.map bv).toArray) := by kernel_rfl
theorem guard44 : Try.prog.eqGuardType Try.prog.depth 44 = false := by kernel_rfl

theorem key_any {S : List Snap} {H : List Chunk} {w : World} (ho : Own S H w) {p : Option Addr} {l : List UInt8} {c : Nat} (hA : Bytes (keys H) w p l c) : Calls Try.prog 36 #[.slice p l.length c] w (Ret fun v w' => Own S H w' ∧ v = .tuple #[.agg ((keyOf l).map bv).toArray, .bool (decide (l.length = 32))]) := by
 refine enter (G := Own (⟨w, keys H⟩ :: S) H) ho.keep Try.func36 rfl Try.ntmps36 rfl ?_
 refine VC.sr ?_
 refine VL.alloc (L := [32]) (ps := [key0.map bv]) zero44 rfl rfl (fun g2 => ?_)
 refine VL.assign rfl ?_
 refine VL.nn ?_
 refine VC.sr ?_
 refine VL.alloc (L := [32]) (ps := [key0.map bv]) zero44 rfl rfl (fun g4 => ?_)
 refine VL.nn ?_
 refine VC.seq ?_
 refine VC.sr ?_
 refine VL.move rfl ?_
 refine VL.len Try.underlying24 rfl rfl ?_
 refine VL.neq rfl rfl ?_
 refine VL.case (fun h2_2 => ?_) (fun h2_2 => ?_)
 ·refine VL.nn ?_
  refine VC.yes rfl ?_
  refine VC.sr ?_
  refine VL.loads (cs := (key0).map bv) 0 0 1 rfl kd44 (fun _ h => h) rfl rfl rfl rfl ?_
  refine VL.store (L := [32]) (qs := [(key0).map bv]) 1 0 1 rfl rfl rfl (.inl kd44) rfl rfl rfl (ok1_bytes _) rfl rfl ?_
  refine VL.assign rfl ?_
  refine VL.nn ?_
  refine VC.ret ?_
  refine VX.then_ret ?_
  refine VX.ret_cell (cs := key0.map bv) 1 rfl rfl rfl kd44 (fun _ h => h) rfl rfl (fun w hw => ?_)
  have e : keyOf l = key0 := if_neg (by omega)
  exact ⟨hw.drop.drop.lose, by rw [e, decide_eq_false (by omega)]⟩
 ·refine VL.nn ?_
  refine VC.no rfl ?_
  refine VC.skip ?_
  refine VX.next ?_
  refine VC.seq ?_
  have hl : l.length = 32 := by omega
  refine VC.region ?_
  refine VL.sliceArr Try.underlying44 (by kernel_rfl) rfl ?_
  refine VL.move rfl ?_
  refine VL.copyAll (cur := key0.map bv) (l := l) 0 rfl Try.underlying24 (by kernel_rfl) rfl rfl rfl hl (by omega) (fun _ h => (hA.now (s := ⟨w, keys H⟩) Mono.byte h.drop.drop (List.mem_cons_self ..)).bytes) rfl (fun _ => ?_)
  refine VL.nn ?_
  refine VC.sr ?_
  refine VL.loads (cs := (l).map bv) 0 0 1 rfl kd44 (fun _ h => h) rfl rfl rfl rfl ?_
  refine VL.store (L := [32]) (qs := [(l).map bv]) 1 0 1 rfl rfl rfl (.inl kd44) rfl rfl (by simp [hl]) (ok1_bytes _) rfl rfl ?_
  refine VL.assign rfl ?_
  refine VL.nn ?_
  refine VC.ret ?_
  refine VX.ret_cell (cs := l.map bv) 1 rfl rfl rfl (by rw [List.length_map, hl]; exact kd44) (fun _ h => h) rfl rfl (fun w hw => ?_)
  have e : keyOf l = l := if_pos hl
  exact ⟨hw.drop.drop.lose, by rw [e, decide_eq_true hl]⟩

end Go.Proofs.Ytcfecmoagfgnaaa

/- wire: what gathers pieces. -/
namespace Go.Proofs.Ytcfecmoagfgnaaa
open Go.Vc Go.Pl

/-- The variable of what gathers pieces; the row of its pieces stands behind it. -/
abbrev wblk (g : Nat) (gp : Option Nat) (c m : Nat) (bad : Bool) : Chunk := blk g 181 [1, 1] [[rowV gp m c], [.bool bad]]

theorem num_w {S : List Snap} {H : List Chunk} {w : World} {g : Nat} {gp : Option Nat} {c : Nat} {parts : List (List UInt8)} {bad : Bool} (ho : Own S (wblk g gp c parts.length bad :: brow gp c parts :: H) w) (hp : parts.length ≤ 100000) (m : Nat) (hm : Fits 8 m) (k : Nat) (h1 : 1 ≤ k) (h8 : k ≤ 8) (hf : Fits k m) : Calls Try.prog 116 #[.pointer (some ⟨g, 0, none⟩), .int .u64 m, .int .i64 k] w (Ret fun v w' => v = .tuple #[] ∧ ∃ gp' c', Own S (wblk g gp' c' (parts ++ [be k m]).length bad :: brow gp' c' (parts ++ [be k m]) :: H) w') := by
 refine enter (G := Own (⟨w, keys (wblk g gp c parts.length bad :: brow gp c parts :: H)⟩ :: S) (wblk g gp c parts.length bad :: brow gp c parts :: H)) ho.keep Try.func116 rfl Try.ntmps116 rfl ?_
 refine VC.sr ?_
 refine VL.move rfl ?_
 refine VL.move rfl ?_
 refine VL.call Try.func25 rfl (by decide) rfl (fun w' hw => put_any hw m hm k) (fun v => ?_)
 refine VL.at (fun w1 h1w => ?_)
 obtain ⟨hO, ⟨_, _, _, p1, c1, rfl, hA1⟩ | ⟨hno, _⟩⟩ := h1w
 rotate_left
 ·exact absurd ⟨by omega, by omega, by rw [Int.toNat_natCast]; exact hf⟩ hno
 rw [Int.toNat_natCast] at hA1
 rw [Int.toNat_natCast]
 refine VL.toOwn hO ?_
 refine VL.move rfl ?_
 refine VL.extract rfl rfl ?_
 refine VL.extract rfl rfl ?_
 refine VL.assign rfl ?_
 refine VL.assign rfl ?_
 refine VL.nn ?_
 refine VC.region ?_
 refine VL.move rfl ?_
 refine VL.move rfl ?_
 refine VL.nilCheck rfl ?_
 refine VL.fieldAddr rfl fo181_0 rfl ?_
 refine VL.load 0 0 rfl kd31 (fun _ h => h) rfl rfl rfl ?_
 refine VL.move rfl ?_
 refine VL.lit el31 rfl rfl rfl (by simp [Value.cells]) (by intro u hu; simp [Value.cells] at hu; subst hu; rfl) (fun g9 => ?_)
 refine VL.letOne (X := List UInt8) (R := bytesR) (y := be k m) (.slice p1 k c1) (fun w9 hO9 => ⟨p1, c1, by rw [be_length], hA1.now (s := ⟨w1, _⟩) Mono.byte hO9 (List.mem_cons_self ..)⟩) (fun w9 hO9 hA9 => ?_)
 refine VL.appends 1 el31 rfl rfl rfl (fun _ h => h) rfl (fun _ h => hA9.now (s := ⟨w9, _⟩) (Mono.slice Mono.byte) h (List.mem_cons_self ..)) (fun _ _ _ _ h => ok1_slices h) (by simp only [List.length_cons, List.length_nil]; omega) (fun g2 c2 => ?_) (by simp only [List.length_cons, List.length_nil]; omega)
 refine VL.nilCheck rfl ?_
 refine VL.fieldAddr rfl fo181_0 rfl ?_
 refine VL.store (L := [1, 1]) (qs := [[rowV g2 (parts ++ [be k m]).length c2]]) 0 0 1 rfl rfl rfl (.inr ⟨kd31, rfl⟩) rfl rfl rfl (by intro u hu; simp [cat] at hu; subst hu; rfl) rfl rfl ?_
 refine VL.nil ?_
 refine VX.end0 rfl (fun we hw => ?_)
 exact ⟨rfl, g2, c2, hw.lose.lose.lose⟩

theorem piece_w {S : List Snap} {H : List Chunk} {w : World} {g : Nat} {gp : Option Nat} {c : Nat} {parts : List (List UInt8)} {bad : Bool} (ho : Own S (wblk g gp c parts.length bad :: brow gp c parts :: H) w) (hp : parts.length ≤ 100000) {p : Option Addr} {l : List UInt8} {c1 : Nat} (hA : Bytes (keys (wblk g gp c parts.length bad :: brow gp c parts :: H)) w p l c1) (ok : Bool) : Calls Try.prog 117 #[.pointer (some ⟨g, 0, none⟩), .slice p l.length c1, .bool ok] w (Ret fun v w' => v = .tuple #[] ∧ ∃ gp' c', Own S (wblk g gp' c' (parts ++ [l]).length (bad || !ok) :: brow gp' c' (parts ++ [l]) :: H) w') := by
 refine enter (G := Own (⟨w, keys (wblk g gp c parts.length bad :: brow gp c parts :: H)⟩ :: S) (wblk g gp c parts.length bad :: brow gp c parts :: H)) ho.keep Try.func117 rfl Try.ntmps117 rfl ?_
 refine VC.sr ?_
 refine VL.move rfl ?_
 refine VL.move rfl ?_
 refine VL.nilCheck rfl ?_
 refine VL.fieldAddr rfl fo181_0 rfl ?_
 refine VL.load 0 0 rfl kd31 (fun _ h => h) rfl rfl rfl ?_
 refine VL.move rfl ?_
 refine VL.lit el31 rfl rfl rfl (by simp [Value.cells]) (by intro u hu; simp [Value.cells] at hu; subst hu; rfl) (fun g9 => ?_)
 refine VL.letOne (X := List UInt8) (R := bytesR) (y := l) (.slice p l.length c1) (fun w9 hO9 => ⟨p, c1, rfl, hA.now (s := ⟨w, _⟩) Mono.byte hO9 (List.mem_cons_self ..)⟩) (fun w9 hO9 hA9 => ?_)
 refine VL.appends 1 el31 rfl rfl rfl (fun _ h => h) rfl (fun _ h => hA9.now (s := ⟨w9, _⟩) (Mono.slice Mono.byte) h (List.mem_cons_self ..)) (fun _ _ _ _ h => ok1_slices h) (by simp only [List.length_cons, List.length_nil]; omega) (fun g2 c2 => ?_) (by simp only [List.length_cons, List.length_nil]; omega)
 refine VL.nilCheck rfl ?_
 refine VL.fieldAddr rfl fo181_0 rfl ?_
 refine VL.store (L := [1, 1]) (qs := [[rowV g2 (parts ++ [l]).length c2]]) 0 0 1 rfl rfl rfl (.inr ⟨kd31, rfl⟩) rfl rfl rfl (by intro u hu; simp [cat] at hu; subst hu; rfl) rfl rfl ?_
 refine VL.nn ?_
 refine VC.region ?_
 refine VL.move rfl ?_
 refine VL.move rfl ?_
 refine VL.nilCheck rfl ?_
 refine VL.fieldAddr rfl fo181_1 rfl ?_
 refine VL.load (v := .bool bad) 0 1 rfl kd4 (fun _ h => h) rfl rfl rfl ?_
 cases bad
 ·refine VL.move rfl ?_
  refine VL.go rfl rfl rfl ?_
  refine VL.move rfl ?_
  cases ok
  ·refine VL.go rfl rfl rfl ?_
   refine VL.not rfl ?_
   refine VL.pick_f rfl rfl ?_
   refine VL.nilCheck rfl ?_
   refine VL.fieldAddr rfl fo181_1 rfl ?_
   refine VL.store (L := [1, 1]) (qs := [[.bool _]]) 0 1 1 rfl rfl rfl (.inr ⟨kd4, rfl⟩) rfl rfl rfl (by intro u hu; simp [cat] at hu; subst hu; rfl) rfl rfl ?_
   refine VL.nil ?_
   refine VX.end0 rfl (fun we hw => ?_)
   exact ⟨rfl, g2, c2, hw.lose.lose⟩
  ·refine VL.go rfl rfl rfl ?_
   refine VL.not rfl ?_
   refine VL.pick_f rfl rfl ?_
   refine VL.nilCheck rfl ?_
   refine VL.fieldAddr rfl fo181_1 rfl ?_
   refine VL.store (L := [1, 1]) (qs := [[.bool _]]) 0 1 1 rfl rfl rfl (.inr ⟨kd4, rfl⟩) rfl rfl rfl (by intro u hu; simp [cat] at hu; subst hu; rfl) rfl rfl ?_
   refine VL.nil ?_
   refine VX.end0 rfl (fun we hw => ?_)
   exact ⟨rfl, g2, c2, hw.lose.lose⟩
 ·refine VL.move rfl ?_
  refine VL.pass rfl rfl rfl rfl rfl ?_
  refine VL.pass rfl rfl rfl rfl rfl ?_
  refine VL.pick_t rfl rfl ?_
  refine VL.nilCheck rfl ?_
  refine VL.fieldAddr rfl fo181_1 rfl ?_
  refine VL.store (L := [1, 1]) (qs := [[.bool _]]) 0 1 1 rfl rfl rfl (.inr ⟨kd4, rfl⟩) rfl rfl rfl (by intro u hu; simp [cat] at hu; subst hu; rfl) rfl rfl ?_
  refine VL.nil ?_
  refine VX.end0 rfl (fun we hw => ?_)
  exact ⟨rfl, g2, c2, hw.lose.lose⟩

theorem done_w {S : List Snap} {H : List Chunk} {w : World} {g : Nat} {gp : Option Nat} {c : Nat} {parts : List (List UInt8)} {bad : Bool} (ho : Own S (wblk g gp c parts.length bad :: brow gp c parts :: H) w) : Calls Try.prog 118 #[.pointer (some ⟨g, 0, none⟩)] w (Ret fun v w' => Own S H w' ∧ ((joinOk parts ∧ bad = false ∧ ∃ p c, v = .tuple #[.slice p (joinB parts).length c, .bool true] ∧ Bytes (keys H) w' p (joinB parts) c) ∨ (¬ (joinOk parts ∧ bad = false) ∧ v = .tuple #[.slice none 0 0, .bool false]))) := by
 refine enter (G := Own (⟨w, keys (wblk g gp c parts.length bad :: brow gp c parts :: H)⟩ :: S) (wblk g gp c parts.length bad :: brow gp c parts :: H)) ho.keep Try.func118 rfl Try.ntmps118 rfl ?_
 refine VC.sr ?_
 refine VL.assign rfl ?_
 refine VL.assign rfl ?_
 refine VL.nn ?_
 refine VC.sr ?_
 refine VL.move rfl ?_
 refine VL.nilCheck rfl ?_
 refine VL.fieldAddr rfl fo181_0 rfl ?_
 refine VL.load 0 0 rfl kd31 (fun _ h => h) rfl rfl rfl ?_
 refine VL.letArr2 (fun w9 hO9 hA9 => ?_)
 by_cases hok : joinOk parts
 ·refine VL.call Try.func30 rfl (by decide) rfl (fun w' hw => join_any (ls := parts) (p := gp.map fun g => ⟨g, 0, none⟩) (c := c) hw (hA9.now (s := ⟨w9, _⟩) (Mono.slice Mono.byte) hw (List.mem_cons_self ..))) (fun v => ?_)
  refine VL.at (fun w1 h1w => ?_)
  obtain ⟨hO, ⟨_, p1, c1, rfl, hA1⟩ | ⟨hno, _⟩⟩ := h1w
  rotate_left
  ·exact absurd hok hno
  refine VL.toOwn hO ?_
  refine VL.move rfl ?_
  refine VL.extract rfl rfl ?_
  refine VL.extract rfl rfl ?_
  refine VL.assign rfl ?_
  refine VL.assign rfl ?_
  refine VL.nn ?_
  refine VC.seq ?_
  refine VC.sr ?_
  refine VL.move rfl ?_
  refine VL.not rfl ?_
  refine VL.move rfl ?_
  refine VL.go rfl rfl rfl ?_
  refine VL.move rfl ?_
  refine VL.go rfl rfl rfl ?_
  refine VL.nilCheck rfl ?_
  refine VL.go rfl rfl rfl ?_
  refine VL.fieldAddr rfl fo181_1 rfl ?_
  refine VL.go rfl rfl rfl ?_
  refine VL.load (v := .bool bad) 0 1 rfl kd4 (fun _ h => h) rfl rfl rfl ?_
  cases bad
  ·refine VL.pick_f rfl rfl ?_
   refine VL.nn ?_
   refine VC.no rfl ?_
   refine VC.skip ?_
   refine VX.next ?_
   refine VC.sr ?_
   refine VL.move rfl ?_
   refine VL.assign rfl ?_
   refine VL.assign rfl ?_
   refine VL.nn ?_
   refine VC.ret ?_
   refine VX.ret2 rfl rfl rfl (fun we hw => ?_)
   exact ⟨hw.drop.lose.lose.lose, .inl ⟨hok, rfl, p1, c1, rfl, hA1.nowA (s := ⟨w1, _⟩) Mono.byte hw.drop⟩⟩
  ·refine VL.pick_f rfl rfl ?_
   refine VL.nn ?_
   refine VC.yes rfl ?_
   refine VC.sr ?_
   refine VL.assign rfl ?_
   refine VL.assign rfl ?_
   refine VL.nn ?_
   refine VC.ret ?_
   refine VX.then_ret ?_
   refine VX.ret2 rfl rfl rfl (fun we hw => ?_)
   exact ⟨hw.drop.lose.lose.lose, .inr ⟨fun h => by simp at h, rfl⟩⟩
 ·refine VL.call Try.func30 rfl (by decide) rfl (fun w' hw => join_any (ls := parts) (p := gp.map fun g => ⟨g, 0, none⟩) (c := c) hw (hA9.now (s := ⟨w9, _⟩) (Mono.slice Mono.byte) hw (List.mem_cons_self ..))) (fun v => ?_)
  refine VL.at (fun w1 h1w => ?_)
  obtain ⟨hO, ⟨hyes, _⟩ | ⟨_, rfl⟩⟩ := h1w
  ·exact absurd hyes hok
  refine VL.toOwn hO ?_
  refine VL.move rfl ?_
  refine VL.extract rfl rfl ?_
  refine VL.extract rfl rfl ?_
  refine VL.assign rfl ?_
  refine VL.assign rfl ?_
  refine VL.nn ?_
  refine VC.seq ?_
  refine VC.sr ?_
  refine VL.move rfl ?_
  refine VL.not rfl ?_
  refine VL.move rfl ?_
  refine VL.pass rfl rfl rfl rfl rfl ?_
  refine VL.pass rfl rfl rfl rfl rfl ?_
  refine VL.pass rfl rfl rfl rfl rfl ?_
  refine VL.pass rfl rfl rfl rfl rfl ?_
  refine VL.pick_t rfl rfl ?_
  refine VL.nn ?_
  refine VC.yes rfl ?_
  refine VC.sr ?_
  refine VL.assign rfl ?_
  refine VL.assign rfl ?_
  refine VL.nn ?_
  refine VC.ret ?_
  refine VX.then_ret ?_
  refine VX.ret2 rfl rfl rfl (fun we hw => ?_)
  exact ⟨hw.drop.lose.lose.lose, .inr ⟨fun h => hok h.1, rfl⟩⟩

theorem key_w {S : List Snap} {H : List Chunk} {w : World} {g : Nat} {gp : Option Nat} {c : Nat} {parts : List (List UInt8)} {bad : Bool} (ho : Own S (wblk g gp c parts.length bad :: brow gp c parts :: H) w) (hp : parts.length ≤ 100000) {l : List UInt8} (hl : l.length = 32) : Calls Try.prog 119 #[.pointer (some ⟨g, 0, none⟩), .agg (l.map bv).toArray] w (Ret fun v w' => v = .tuple #[] ∧ ∃ gp' c', Own S (wblk g gp' c' (parts ++ [l]).length bad :: brow gp' c' (parts ++ [l]) :: H) w') := by
 refine enter (G := Own (⟨w, keys (wblk g gp c parts.length bad :: brow gp c parts :: H)⟩ :: S) (wblk g gp c parts.length bad :: brow gp c parts :: H)) ho.keep Try.func119 rfl Try.ntmps119 rfl ?_
 refine VC.sr ?_
 refine VL.box (L := [32]) (ps := [l.map bv]) rfl rfl (by simp [hl]) (fun gk => ?_)
 refine VL.nn ?_
 refine VC.letBlk (by decide) (fun w8 hO8 hA8 => ?_)
 apply VC.anyTA 8 7 (F := [eqF _, eqF _, eqF _, eqF _, eqF _, eqF _, arrF 1 bytesR (Mono.slice Mono.byte) [l], lateF (fun v w' => ∃ g2 c2, v = rowV g2 (parts ++ [l]).length c2 ∧ Own (⟨w8, keys (wblk g gp c parts.length bad :: brow gp c parts :: H)⟩ :: ⟨w, keys (wblk g gp c parts.length bad :: brow gp c parts :: H)⟩ :: S) (wblk g gp c parts.length bad :: brow g2 c2 (parts ++ [l]) :: H) w')]) [⟨[], [0]⟩, ⟨[], [0]⟩, ⟨[(5, 1)], []⟩, ⟨[(6, 2)], []⟩, ⟨[(7, 3)], []⟩, ⟨[], [3]⟩, ⟨[(9, 5)], []⟩, ⟨[(8, 4), (10, 6)], []⟩] [(4, 0), (11, 7)] [1, 12, 13] rfl (by kernel_rfl) (by kernel_rfl) rfl rfl (by kernel_rfl) (by kernel_rfl) (by kernel_rfl) rfl ?obs1 ?end1
 case obs1 =>
  refine Obs.cons ?_ ?_
  ·refine obS (by kernel_rfl) rfl rfl (fun ph1 w1 hO1 => ?_)
   refine VL.move rfl ?_
   exact VL.finS hO1 rfl rfl
  refine Obs.cons ?_ ?_
  ·refine obS (by kernel_rfl) rfl rfl (fun ph1 w1 hO1 => ?_)
   refine VL.move rfl ?_
   exact VL.finS hO1 rfl rfl
  refine Obs.cons ?_ ?_
  ·refine obS (by kernel_rfl) rfl rfl (fun ph1 w1 hO1 => ?_)
   rintro _ rfl
   refine VL.nilCheck rfl ?_
   exact VL.finS hO1 rfl rfl
  refine Obs.cons ?_ ?_
  ·refine obS (by kernel_rfl) rfl rfl (fun ph1 w1 hO1 => ?_)
   rintro _ rfl
   refine VL.fieldAddr rfl fo181_0 rfl ?_
   exact VL.finS hO1 rfl rfl
  refine Obs.cons ?_ ?_
  ·refine ob (by kernel_rfl) rfl (by kernel_rfl) rfl (fun w1 hO1 => ?_)
   rintro _ rfl
   refine VL.load 0 0 rfl kd31 (fun _ e => e ▸ hO1) rfl rfl rfl ?_
   exact VL.finS hO1 rfl rfl
  refine Obs.cons ?_ ?_
  ·refine obS (by kernel_rfl) rfl rfl (fun ph1 w1 hO1 => ?_)
   refine VL.sliceArr Try.underlying44 (by kernel_rfl) rfl ?_
   exact VL.finS hO1 rfl rfl
  refine Obs.cons ?_ ?_
  ·refine ob (by kernel_rfl) rfl (by kernel_rfl) rfl (fun w1 hO1 => ?_)
   rintro _ rfl
   refine VL.toOwn hO1 ?_
   refine VL.lit el31 rfl rfl rfl (by simp [Value.cells]) (by intro u hu; simp [Value.cells] at hu; subst hu; rfl) (fun g5 => ?_)
   exact VL.finO rfl (fun _ h => h.drop) (fun _ h => ⟨_, _, rfl, Own.letOne (v := .slice (some ⟨gk, 0, none⟩) 32 32) h ⟨_, _, by rw [hl], hA8.nowA (s := ⟨w8, _⟩) Mono.byte h.drop⟩⟩)
  refine Obs.cons ?_ ?_
  ·refine obK (by kernel_rfl) rfl (fun w1 hO1 => ?_)
   rintro _ rfl _ ⟨p6, c6, rfl, hA6⟩
   refine VL.toOwn hO1 ?_
   refine VL.appends 1 el31 rfl rfl rfl (fun _ h => h) rfl (fun _ h => hA6.nowA (s := ⟨w1, _⟩) (Mono.slice Mono.byte) h) (fun _ _ _ _ h => ok1_slices h) (by simp only [List.length_cons, List.length_nil]; omega) (fun g2 c2 => ?_) (by simp only [List.length_cons, List.length_nil]; omega)
   exact VL.finK rfl (fun _ h => h) (fun _ h => ⟨g2, c2, rfl, h.lose⟩)
  exact Obs.nil
 case end1 =>
  intro w1 hO1
  rintro _ rfl _ ⟨g2, c2, rfl, h7⟩
  refine VL.turn (G' := Own (⟨w8, keys (wblk g gp c parts.length bad :: brow gp c parts :: H)⟩ :: ⟨w, keys (wblk g gp c parts.length bad :: brow gp c parts :: H)⟩ :: S) (wblk g gp c parts.length bad :: brow g2 c2 (parts ++ [l]) :: H)) (fun w' e => e ▸ h7) ?_
  refine VL.nilCheck rfl ?_
  refine VL.fieldAddr rfl fo181_0 rfl ?_
  refine VL.store (L := [1, 1]) (qs := [[rowV g2 (parts ++ [l]).length c2]]) 0 0 1 rfl rfl rfl (.inr ⟨kd31, rfl⟩) rfl rfl rfl (by intro u hu; simp [cat] at hu; subst hu; rfl) rfl rfl ?_
  refine VL.nil ?_
  refine VX.end0 rfl (fun we hw => ?_)
  exact ⟨rfl, g2, c2, hw.lose.lose⟩

theorem sig_w {S : List Snap} {H : List Chunk} {w : World} {g : Nat} {gp : Option Nat} {c : Nat} {parts : List (List UInt8)} {bad : Bool} (ho : Own S (wblk g gp c parts.length bad :: brow gp c parts :: H) w) (hp : parts.length ≤ 100000) {l : List UInt8} (hl : l.length = 64) : Calls Try.prog 128 #[.pointer (some ⟨g, 0, none⟩), .agg (l.map bv).toArray] w (Ret fun v w' => v = .tuple #[] ∧ ∃ gp' c', Own S (wblk g gp' c' (parts ++ [l]).length bad :: brow gp' c' (parts ++ [l]) :: H) w') := by
 refine enter (G := Own (⟨w, keys (wblk g gp c parts.length bad :: brow gp c parts :: H)⟩ :: S) (wblk g gp c parts.length bad :: brow gp c parts :: H)) ho.keep Try.func128 rfl Try.ntmps128 rfl ?_
 refine VC.sr ?_
 refine VL.box (L := [64]) (ps := [l.map bv]) rfl rfl (by simp [hl]) (fun gk => ?_)
 refine VL.nn ?_
 refine VC.letBlk (by decide) (fun w8 hO8 hA8 => ?_)
 apply VC.anyTA 8 7 (F := [eqF _, eqF _, eqF _, eqF _, eqF _, eqF _, arrF 1 bytesR (Mono.slice Mono.byte) [l], lateF (fun v w' => ∃ g2 c2, v = rowV g2 (parts ++ [l]).length c2 ∧ Own (⟨w8, keys (wblk g gp c parts.length bad :: brow gp c parts :: H)⟩ :: ⟨w, keys (wblk g gp c parts.length bad :: brow gp c parts :: H)⟩ :: S) (wblk g gp c parts.length bad :: brow g2 c2 (parts ++ [l]) :: H) w')]) [⟨[], [0]⟩, ⟨[], [0]⟩, ⟨[(5, 1)], []⟩, ⟨[(6, 2)], []⟩, ⟨[(7, 3)], []⟩, ⟨[], [3]⟩, ⟨[(9, 5)], []⟩, ⟨[(8, 4), (10, 6)], []⟩] [(4, 0), (11, 7)] [1, 12, 13] rfl (by kernel_rfl) (by kernel_rfl) rfl rfl (by kernel_rfl) (by kernel_rfl) (by kernel_rfl) rfl ?obs1 ?end1
 case obs1 =>
  refine Obs.cons ?_ ?_
  ·refine obS (by kernel_rfl) rfl rfl (fun ph1 w1 hO1 => ?_)
   refine VL.move rfl ?_
   exact VL.finS hO1 rfl rfl
  refine Obs.cons ?_ ?_
  ·refine obS (by kernel_rfl) rfl rfl (fun ph1 w1 hO1 => ?_)
   refine VL.move rfl ?_
   exact VL.finS hO1 rfl rfl
  refine Obs.cons ?_ ?_
  ·refine obS (by kernel_rfl) rfl rfl (fun ph1 w1 hO1 => ?_)
   rintro _ rfl
   refine VL.nilCheck rfl ?_
   exact VL.finS hO1 rfl rfl
  refine Obs.cons ?_ ?_
  ·refine obS (by kernel_rfl) rfl rfl (fun ph1 w1 hO1 => ?_)
   rintro _ rfl
   refine VL.fieldAddr rfl fo181_0 rfl ?_
   exact VL.finS hO1 rfl rfl
  refine Obs.cons ?_ ?_
  ·refine ob (by kernel_rfl) rfl (by kernel_rfl) rfl (fun w1 hO1 => ?_)
   rintro _ rfl
   refine VL.load 0 0 rfl kd31 (fun _ e => e ▸ hO1) rfl rfl rfl ?_
   exact VL.finS hO1 rfl rfl
  refine Obs.cons ?_ ?_
  ·refine obS (by kernel_rfl) rfl rfl (fun ph1 w1 hO1 => ?_)
   refine VL.sliceArr Try.underlying80 (by kernel_rfl) rfl ?_
   exact VL.finS hO1 rfl rfl
  refine Obs.cons ?_ ?_
  ·refine ob (by kernel_rfl) rfl (by kernel_rfl) rfl (fun w1 hO1 => ?_)
   rintro _ rfl
   refine VL.toOwn hO1 ?_
   refine VL.lit el31 rfl rfl rfl (by simp [Value.cells]) (by intro u hu; simp [Value.cells] at hu; subst hu; rfl) (fun g5 => ?_)
   exact VL.finO rfl (fun _ h => h.drop) (fun _ h => ⟨_, _, rfl, Own.letOne (v := .slice (some ⟨gk, 0, none⟩) 64 64) h ⟨_, _, by rw [hl], hA8.nowA (s := ⟨w8, _⟩) Mono.byte h.drop⟩⟩)
  refine Obs.cons ?_ ?_
  ·refine obK (by kernel_rfl) rfl (fun w1 hO1 => ?_)
   rintro _ rfl _ ⟨p6, c6, rfl, hA6⟩
   refine VL.toOwn hO1 ?_
   refine VL.appends 1 el31 rfl rfl rfl (fun _ h => h) rfl (fun _ h => hA6.nowA (s := ⟨w1, _⟩) (Mono.slice Mono.byte) h) (fun _ _ _ _ h => ok1_slices h) (by simp only [List.length_cons, List.length_nil]; omega) (fun g2 c2 => ?_) (by simp only [List.length_cons, List.length_nil]; omega)
   exact VL.finK rfl (fun _ h => h) (fun _ h => ⟨g2, c2, rfl, h.lose⟩)
  exact Obs.nil
 case end1 =>
  intro w1 hO1
  rintro _ rfl _ ⟨g2, c2, rfl, h7⟩
  refine VL.turn (G' := Own (⟨w8, keys (wblk g gp c parts.length bad :: brow gp c parts :: H)⟩ :: ⟨w, keys (wblk g gp c parts.length bad :: brow gp c parts :: H)⟩ :: S) (wblk g gp c parts.length bad :: brow g2 c2 (parts ++ [l]) :: H)) (fun w' e => e ▸ h7) ?_
  refine VL.nilCheck rfl ?_
  refine VL.fieldAddr rfl fo181_0 rfl ?_
  refine VL.store (L := [1, 1]) (qs := [[rowV g2 (parts ++ [l]).length c2]]) 0 0 1 rfl rfl rfl (.inr ⟨kd31, rfl⟩) rfl rfl rfl (by intro u hu; simp [cat] at hu; subst hu; rfl) rfl rfl ?_
  refine VL.nil ?_
  refine VX.end0 rfl (fun we hw => ?_)
  exact ⟨rfl, g2, c2, hw.lose.lose⟩

end Go.Proofs.Ytcfecmoagfgnaaa

/- wire: what takes pieces. -/
namespace Go.Proofs.Ytcfecmoagfgnaaa
open Go.Vc Go.Pl

/-- The variable of what takes pieces. -/
abbrev rblk (g : Nat) (p : Option Addr) (m c : Nat) (why : Nat) : Chunk := blk g 196 [1, 1] [[.slice p m c], [.int .i64 why]]

theorem fail_r {m : Nat} {S : List Snap} {H : List Chunk} {w : World} {g : Nat} {p : Option Addr} {c : Nat} {why : Nat} (ho : Own S (rblk g p m c why :: H) w) (e : Nat) : Calls Try.prog 125 #[.pointer (some ⟨g, 0, none⟩), .int .i64 e] w (Ret fun v w' => v = .tuple #[] ∧ Own S (rblk g p m c (failW why e) :: H) w') := by
 refine enter (G := Own (⟨w, keys (rblk g p m c why :: H)⟩ :: S) (rblk g p m c why :: H)) ho.keep Try.func125 rfl Try.ntmps125 rfl ?_
 refine VC.sr ?_
 refine VL.move rfl ?_
 refine VL.nilCheck rfl ?_
 refine VL.fieldAddr rfl fo196_1 rfl ?_
 refine VL.load (v := .int .i64 why) 0 1 rfl kd35 (fun _ h => h) rfl rfl rfl ?_
 refine VL.eql rfl rfl ?_
 refine VL.case (fun h0_4 => ?_) (fun h0_4 => ?_)
 ·refine VL.nn ?_
  refine VC.yes rfl ?_
  refine VC.region ?_
  refine VL.move rfl ?_
  refine VL.move rfl ?_
  refine VL.nilCheck rfl ?_
  refine VL.fieldAddr rfl fo196_1 rfl ?_
  refine VL.store (L := [1, 1]) (qs := [[.int .i64 e]]) 0 1 1 rfl rfl rfl (.inr ⟨kd35, rfl⟩) rfl rfl rfl (by intro u hu; simp [cat] at hu; subst hu; rfl) rfl rfl ?_
  refine VL.nil ?_
  refine VX.end0 rfl (fun we hw => ?_)
  exact ⟨rfl, by rw [show failW why e = e from if_pos (by omega)]; exact hw.lose⟩
 ·refine VL.nn ?_
  refine VC.no rfl ?_
  refine VC.skip ?_
  refine VX.end0 rfl (fun we hw => ?_)
  exact ⟨rfl, by rw [show failW why e = why from if_neg (by omega)]; exact hw.lose⟩

theorem piece_r {S : List Snap} {H : List Chunk} {w : World} {g : Nat} {p : Option Addr} {c : Nat} {parts : List (List UInt8)} {why : Nat} (ho : Own S (rblk g p parts.length c why :: H) w) (hA : Arr 1 bytesR (g :: keys H) w p parts c) : Calls Try.prog 124 #[.pointer (some ⟨g, 0, none⟩)] w (Ret fun v w' => ∃ p' c' pb cb, v = .slice pb (nextP parts).length cb ∧ Own S (rblk g p' (parts.drop 1).length c' (nextW parts why) :: H) w' ∧ Arr 1 bytesR (g :: keys H) w' p' (parts.drop 1) c' ∧ Bytes (g :: keys H) w' pb (nextP parts) cb) := by
 refine enter (G := Own (⟨w, keys (rblk g p parts.length c why :: H)⟩ :: S) (rblk g p parts.length c why :: H)) ho.keep Try.func124 rfl Try.ntmps124 rfl ?_
 refine VC.sr ?_
 refine VL.assign rfl ?_
 refine VL.nn ?_
 refine VC.seq ?_
 refine VC.sr ?_
 refine VL.move rfl ?_
 refine VL.nilCheck rfl ?_
 refine VL.fieldAddr rfl fo196_0 rfl ?_
 refine VL.load (v := .slice p parts.length c) 0 0 rfl kd31 (fun _ h => h) rfl rfl rfl ?_
 refine VL.len Try.underlying31 rfl rfl ?_
 refine VL.eql rfl rfl ?_
 refine VL.case (fun h1_5 => ?_) (fun h1_5 => ?_)
 ·refine VL.nn ?_
  refine VC.yes rfl ?_
  refine VC.sr ?_
  refine VL.move rfl ?_
  refine VL.call Try.func125 rfl (by decide) rfl (fun w' hw => fail_r hw 141) (fun v => ?_)
  refine VL.fact fun e => ?_
  subst e
  refine VL.nn ?_
  refine VC.sr ?_
  refine VL.assign rfl ?_
  refine VL.nn ?_
  refine VC.ret ?_
  refine VX.then_ret ?_
  refine VX.ret1 rfl rfl (fun we hw => ?_)
  obtain rfl : parts = [] := List.eq_nil_of_length_eq_zero (by omega)
  exact ⟨p, c, none, 0, rfl, hw.lose, hA.nowK (s := ⟨w, _⟩) (Mono.slice Mono.byte) hw (List.mem_cons_self ..) rfl, Arr.none⟩
 ·refine VL.nn ?_
  refine VC.no rfl ?_
  refine VC.skip ?_
  refine VX.next ?_
  refine VC.seq ?_
  obtain ⟨b, r, rfl⟩ : ∃ b r, parts = b :: r := by
   cases parts with
   | nil => exact absurd rfl h1_5
   | cons b r => exact ⟨b, r, rfl⟩
  refine VC.region ?_
  refine VL.move rfl ?_
  refine VL.nilCheck rfl ?_
  refine VL.fieldAddr rfl fo196_0 rfl ?_
  refine VL.load (v := .slice p (b :: r).length c) 0 0 rfl kd31 (fun _ h => h) rfl rfl rfl ?_
  refine VL.index rfl rfl Try.underlying31 sz31 hA (by omega) (by simp only [List.length_cons]; omega) ?_
  refine VL.elem (s := ⟨w, _⟩) 0 0 rfl kd24 (fun _ h => h) (List.mem_cons_self ..) (Mono.slice Mono.byte) hA (y := b) rfl (by omega) (by omega) (fun vs v hl hr hv => ?_)
  obtain ⟨p3, c3, rfl, hA3⟩ := hr
  simp at hv
  subst hv
  refine VL.assign rfl ?_
  refine VL.nn ?_
  refine VC.sr ?_
  refine VL.move rfl ?_
  refine VL.move rfl ?_
  refine VL.nilCheck rfl ?_
  refine VL.fieldAddr rfl fo196_0 rfl ?_
  refine VL.load (v := .slice p (b :: r).length c) 0 0 rfl kd31 (fun _ h => h) rfl rfl rfl ?_
  refine VL.dropS 1 rfl rfl Try.underlying31 sz31 hA (by simp) (fun p5 hA5 => ?_)
  refine VL.nilCheck rfl ?_
  refine VL.fieldAddr rfl fo196_0 rfl ?_
  refine VL.store (L := [1, 1]) (qs := [[.slice p5 ((b :: r).drop 1).length (c - 1)]]) 0 0 1 rfl rfl rfl (.inr ⟨kd31, rfl⟩) rfl rfl rfl (by intro u hu; simp [cat] at hu; subst hu; rfl) rfl rfl ?_
  refine VL.nn ?_
  refine VC.sr ?_
  refine VL.move rfl ?_
  refine VL.assign rfl ?_
  refine VL.nn ?_
  refine VC.ret ?_
  refine VX.ret1 rfl rfl (fun we hw => ?_)
  refine ⟨p5, c - 1, p3, c3, rfl, hw.lose, ?_, ?_⟩
  ·exact hA5.nowK (s := ⟨w, _⟩) (Mono.slice Mono.byte) hw (List.mem_cons_self ..) rfl
  ·exact hA3.nowK (s := ⟨w, _⟩) Mono.byte hw (List.mem_cons_self ..) rfl

theorem end_r {S : List Snap} {H : List Chunk} {w : World} {g : Nat} {p : Option Addr} {c : Nat} {parts : List (List UInt8)} {why : Nat} (ho : Own S (rblk g p parts.length c why :: H) w) : Calls Try.prog 126 #[.pointer (some ⟨g, 0, none⟩)] w (Ret fun v w' => v = .int .i64 (endW parts why) ∧ Own S (rblk g p parts.length c (endW parts why) :: H) w') := by
 refine enter (G := Own (⟨w, keys (rblk g p parts.length c why :: H)⟩ :: S) (rblk g p parts.length c why :: H)) ho.keep Try.func126 rfl Try.ntmps126 rfl ?_
 refine VC.sr ?_
 refine VL.assign rfl ?_
 refine VL.nn ?_
 refine VC.seq ?_
 refine VC.sr ?_
 refine VL.move rfl ?_
 refine VL.nilCheck rfl ?_
 refine VL.fieldAddr rfl fo196_0 rfl ?_
 refine VL.load (v := .slice p parts.length c) 0 0 rfl kd31 (fun _ h => h) rfl rfl rfl ?_
 refine VL.len Try.underlying31 rfl rfl ?_
 refine VL.gtr rfl rfl ?_
 refine VL.case (fun h1_5 => ?_) (fun h1_5 => ?_)
 ·refine VL.nn ?_
  refine VC.yes rfl ?_
  refine VC.region ?_
  refine VL.move rfl ?_
  refine VL.call Try.func125 rfl (by decide) rfl (fun w' hw => fail_r hw 141) (fun v => ?_)
  refine VL.fact fun e => ?_
  subst e
  refine VL.nn ?_
  refine VC.sr ?_
  refine VL.move rfl ?_
  refine VL.nilCheck rfl ?_
  refine VL.fieldAddr rfl fo196_1 rfl ?_
  refine VL.load (v := .int .i64 (failW why 141)) 0 1 rfl kd35 (fun _ h => h) rfl rfl rfl ?_
  refine VL.assign rfl ?_
  refine VL.nn ?_
  refine VC.ret ?_
  refine VX.ret1 rfl rfl (fun we hw => ?_)
  have e : endW parts why = failW why 141 := if_neg (fun e => by rw [e] at h1_5; exact absurd h1_5 (by simp))
  rw [e]
  exact ⟨rfl, hw.lose⟩
 ·refine VL.nn ?_
  refine VC.no rfl ?_
  refine VC.skip ?_
  refine VX.next ?_
  refine VC.sr ?_
  refine VL.move rfl ?_
  refine VL.nilCheck rfl ?_
  refine VL.fieldAddr rfl fo196_1 rfl ?_
  refine VL.load (v := .int .i64 (why)) 0 1 rfl kd35 (fun _ h => h) rfl rfl rfl ?_
  refine VL.assign rfl ?_
  refine VL.nn ?_
  refine VC.ret ?_
  refine VX.ret1 rfl rfl (fun we hw => ?_)
  have e : endW parts why = why := if_pos (List.eq_nil_of_length_eq_zero (by omega))
  rw [e]
  exact ⟨rfl, hw.lose⟩

theorem num_r {S : List Snap} {H : List Chunk} {w : World} {g : Nat} {p : Option Addr} {c : Nat} {parts : List (List UInt8)} {why : Nat} (ho : Own S (rblk g p parts.length c why :: H) w) (hA : Arr 1 bytesR (g :: keys H) w p parts c) (k : Nat) (h1 : 1 ≤ k) (h8 : k ≤ 8) : Calls Try.prog 132 #[.pointer (some ⟨g, 0, none⟩), .int .i64 k] w (Ret fun v w' => ∃ p' c', v = .int .u64 (takeN parts k) ∧ Own S (rblk g p' (parts.drop 1).length c' (lenW parts why k) :: H) w' ∧ Arr 1 bytesR (g :: keys H) w' p' (parts.drop 1) c') := by
 refine enter (G := Own (⟨w, keys (rblk g p parts.length c why :: H)⟩ :: S) (rblk g p parts.length c why :: H)) ho.keep Try.func132 rfl Try.ntmps132 rfl ?_
 refine VC.sr ?_
 refine VL.assign rfl ?_
 refine VL.nn ?_
 refine VC.sr ?_
 refine VL.move rfl ?_
 refine VL.call Try.func124 rfl (by decide) rfl (fun w' hw => piece_r hw (hA.nowK (s := ⟨w, _⟩) (Mono.slice Mono.byte) hw (List.mem_cons_self ..) rfl)) (fun v => ?_)
 refine VL.at (fun w1 h1w => ?_)
 obtain ⟨p1, c1, pb, cb, rfl, hO, hA1, hB1⟩ := h1w
 refine VL.toOwn hO ?_
 refine VL.assign rfl ?_
 refine VL.nn ?_
 refine VC.seq ?_
 refine VC.sr ?_
 refine VL.move rfl ?_
 refine VL.len Try.underlying24 rfl rfl ?_
 refine VL.move rfl ?_
 refine VL.neq rfl rfl ?_
 refine VL.case (fun h2_3 => ?_) (fun h2_3 => ?_)
 ·refine VL.nn ?_
  refine VC.yes rfl ?_
  refine VC.sr ?_
  refine VL.move rfl ?_
  refine VL.call Try.func125 rfl (by decide) rfl (fun w' hw => fail_r hw 141) (fun v => ?_)
  refine VL.fact fun e => ?_
  subst e
  refine VL.nn ?_
  refine VC.sr ?_
  refine VL.assign rfl ?_
  refine VL.nn ?_
  refine VC.ret ?_
  refine VX.then_ret ?_
  refine VX.ret1 rfl rfl (fun we hw => ?_)
  have hne : (nextP parts).length ≠ k := by omega
  exact ⟨p1, c1, by rw [show takeN parts k = 0 from if_neg hne]; rfl, by rw [show lenW parts why k = failW (nextW parts why) 141 from if_neg hne]; exact hw.lose.lose, hA1.nowK (s := ⟨w1, _⟩) (Mono.slice Mono.byte) hw (List.mem_cons_self ..) rfl⟩
 ·refine VL.nn ?_
  refine VC.no rfl ?_
  refine VC.skip ?_
  refine VX.next ?_
  refine VC.sr ?_
  refine VL.move rfl ?_
  refine VL.call Try.func28 rfl (by decide) rfl (fun w' hw => get_any hw (hB1.now (s := ⟨w1, _⟩) Mono.byte hw (List.mem_cons_self ..))) (fun v => ?_)
  refine VL.at (fun w2 h1w => ?_)
  obtain ⟨hO2, ⟨_, _, rfl⟩ | ⟨hno, _⟩⟩ := h1w
  rotate_left
  ·omega
  refine VL.toOwn hO2 ?_
  refine VL.move rfl ?_
  refine VL.extract rfl rfl ?_
  refine VL.extract rfl rfl ?_
  refine VL.assign rfl ?_
  refine VL.assign rfl ?_
  refine VL.nn ?_
  refine VC.sr ?_
  refine VL.move rfl ?_
  refine VL.assign rfl ?_
  refine VL.nn ?_
  refine VC.ret ?_
  refine VX.ret1 rfl rfl (fun we hw => ?_)
  have he : (nextP parts).length = k := by omega
  exact ⟨p1, c1, by rw [show takeN parts k = num (nextP parts) from if_pos he]; rfl, by rw [show lenW parts why k = nextW parts why from if_pos he]; exact hw.lose.lose.lose, hA1.nowK (s := ⟨w1, _⟩) (Mono.slice Mono.byte) hw (by repeat (first | exact List.mem_cons_self .. | apply List.mem_cons_of_mem)) rfl⟩

theorem byte_r {S : List Snap} {H : List Chunk} {w : World} {g : Nat} {p : Option Addr} {c : Nat} {parts : List (List UInt8)} {why : Nat} (ho : Own S (rblk g p parts.length c why :: H) w) (hA : Arr 1 bytesR (g :: keys H) w p parts c) : Calls Try.prog 122 #[.pointer (some ⟨g, 0, none⟩)] w (Ret fun v w' => ∃ p' c', v = .int .u8 (takeN parts 1) ∧ Own S (rblk g p' (parts.drop 1).length c' (lenW parts why 1) :: H) w' ∧ Arr 1 bytesR (g :: keys H) w' p' (parts.drop 1) c') := by
 refine enter (G := Own (⟨w, keys (rblk g p parts.length c why :: H)⟩ :: S) (rblk g p parts.length c why :: H)) ho.keep Try.func122 rfl Try.ntmps122 rfl ?_
 refine VC.sr ?_
 refine VL.assign rfl ?_
 refine VL.nn ?_
 refine VC.sr ?_
 refine VL.move rfl ?_
 refine VL.call Try.func132 rfl (by decide) rfl (fun w' hw => num_r hw (hA.nowK (s := ⟨w, _⟩) (Mono.slice Mono.byte) hw (List.mem_cons_self ..) rfl) 1 (by decide) (by decide)) (fun v => ?_)
 refine VL.at (fun w1 h1w => ?_)
 obtain ⟨p1, c1, rfl, hO, hA1⟩ := h1w
 refine VL.toOwn hO ?_
 refine VL.conv (by rw [Try.underlying22]; rfl) Try.underlying5 rfl (by have := takeN_lt parts 1; simp only [InR]; omega) ?_
 refine VL.assign rfl ?_
 refine VL.nn ?_
 refine VC.ret ?_
 refine VX.ret1 rfl rfl (fun we hw => ?_)
 exact ⟨p1, c1, rfl, hw.lose.lose, hA1.nowK (s := ⟨w1, _⟩) (Mono.slice Mono.byte) hw (List.mem_cons_self ..) rfl⟩

theorem short_r {S : List Snap} {H : List Chunk} {w : World} {g : Nat} {p : Option Addr} {c : Nat} {parts : List (List UInt8)} {why : Nat} (ho : Own S (rblk g p parts.length c why :: H) w) (hA : Arr 1 bytesR (g :: keys H) w p parts c) : Calls Try.prog 130 #[.pointer (some ⟨g, 0, none⟩)] w (Ret fun v w' => ∃ p' c', v = .int .u16 (takeN parts 2) ∧ Own S (rblk g p' (parts.drop 1).length c' (lenW parts why 2) :: H) w' ∧ Arr 1 bytesR (g :: keys H) w' p' (parts.drop 1) c') := by
 refine enter (G := Own (⟨w, keys (rblk g p parts.length c why :: H)⟩ :: S) (rblk g p parts.length c why :: H)) ho.keep Try.func130 rfl Try.ntmps130 rfl ?_
 refine VC.sr ?_
 refine VL.assign rfl ?_
 refine VL.nn ?_
 refine VC.sr ?_
 refine VL.move rfl ?_
 refine VL.call Try.func132 rfl (by decide) rfl (fun w' hw => num_r hw (hA.nowK (s := ⟨w, _⟩) (Mono.slice Mono.byte) hw (List.mem_cons_self ..) rfl) 2 (by decide) (by decide)) (fun v => ?_)
 refine VL.at (fun w1 h1w => ?_)
 obtain ⟨p1, c1, rfl, hO, hA1⟩ := h1w
 refine VL.toOwn hO ?_
 refine VL.conv (by rw [Try.underlying22]; rfl) Try.underlying68 rfl (by have := takeN_lt parts 2; simp only [InR]; omega) ?_
 refine VL.assign rfl ?_
 refine VL.nn ?_
 refine VC.ret ?_
 refine VX.ret1 rfl rfl (fun we hw => ?_)
 exact ⟨p1, c1, rfl, hw.lose.lose, hA1.nowK (s := ⟨w1, _⟩) (Mono.slice Mono.byte) hw (List.mem_cons_self ..) rfl⟩

theorem plan196 : planOf Try.prog 196 = some (placesL 0 [1, 1], (cat [[.slice none 0 0], [.int .i64 0]]).toArray) := by kernel_rfl

theorem open_r {S : List Snap} {H : List Chunk} {w : World} (ho : Own S H w) {p : Option Addr} {l : List UInt8} {c : Nat} (hA : Bytes (keys H) w p l c) : Calls Try.prog 121 #[.slice p l.length c] w (Ret fun v w' => ∃ g p' c', v = .pointer (some ⟨g, 0, none⟩) ∧ Own S (rblk g p' (openP l).length c' (openW l) :: H) w' ∧ Arr 1 bytesR (g :: keys H) w' p' (openP l) c') := by
 refine enter (G := Own (⟨w, keys H⟩ :: S) H) ho.keep Try.func121 rfl Try.ntmps121 rfl ?_
 refine VC.sr ?_
 refine VL.assign rfl ?_
 refine VL.nn ?_
 refine VC.sr ?_
 refine VL.move rfl ?_
 refine VL.call Try.func32 rfl (by decide) rfl (fun w' hw => split_any hw (hA.now (s := ⟨w, keys H⟩) Mono.byte hw (by repeat (first | exact List.mem_cons_self .. | apply List.mem_cons_of_mem)))) (fun v => ?_)
 refine VL.at (fun w1 h1w => ?_)
 obtain ⟨hO, p1, c1, rfl, hA1⟩ := h1w
 refine VL.toOwn hO ?_
 refine VL.move rfl ?_
 refine VL.extract rfl rfl ?_
 refine VL.extract rfl rfl ?_
 refine VL.assign rfl ?_
 refine VL.assign rfl ?_
 refine VL.nn ?_
 refine VC.seq ?_
 refine VC.sr ?_
 refine VL.move rfl ?_
 refine VL.neq rfl rfl ?_
 refine VL.case (fun h2_1 => ?_) (fun h2_1 => ?_)
 ·have hs : (splitB l).2 = [] := split_err l (by omega)
  refine VL.move rfl ?_
  refine VL.pass rfl rfl rfl rfl rfl ?_
  refine VL.pass rfl rfl rfl rfl rfl ?_
  refine VL.pass rfl rfl rfl rfl rfl ?_
  refine VL.pick_t rfl rfl ?_
  refine VL.nn ?_
  refine VC.yes rfl ?_
  refine VC.sr ?_
  refine VL.build (zs := [[.slice none 0 0], [.int .i64 0]]) [(1, [.int .i64 141])] plan196 rfl ⟨⟨rfl, ⟨_, rfl, rfl⟩, rfl⟩, trivial⟩ rfl ?_
  refine VL.box (L := [1, 1]) (ps := [[.slice none 0 0], [.int .i64 141]]) rfl rfl rfl (fun gr => ?_)
  refine VL.assign rfl ?_
  refine VL.nn ?_
  refine VC.ret ?_
  refine VX.then_ret ?_
  refine VX.ret1 rfl rfl (fun we hw => ?_)
  refine ⟨gr, none, 0, rfl, ?_, ?_⟩
  ·have e1 : openP l = [] := hs
   have e2 : openW l = 141 := if_pos hs
   rw [e1, e2]; exact hw.lose.lose
  ·rw [show openP l = [] from hs]; exact Arr.none
 ·refine VL.move rfl ?_
  refine VL.go rfl rfl rfl ?_
  refine VL.move rfl ?_
  refine VL.go rfl rfl rfl ?_
  refine VL.len Try.underlying31 rfl rfl ?_
  refine VL.go rfl rfl rfl ?_
  refine VL.eql rfl rfl ?_
  refine VL.case (fun h2_5 => ?_) (fun h2_5 => ?_)
  ·have hs : (splitB l).2 = [] := List.eq_nil_of_length_eq_zero (by omega)
   refine VL.pick_f rfl rfl ?_
   refine VL.nn ?_
   refine VC.yes rfl ?_
   refine VC.sr ?_
   refine VL.build (zs := [[.slice none 0 0], [.int .i64 0]]) [(1, [.int .i64 141])] plan196 rfl ⟨⟨rfl, ⟨_, rfl, rfl⟩, rfl⟩, trivial⟩ rfl ?_
   refine VL.box (L := [1, 1]) (ps := [[.slice none 0 0], [.int .i64 141]]) rfl rfl rfl (fun gr => ?_)
   refine VL.assign rfl ?_
   refine VL.nn ?_
   refine VC.ret ?_
   refine VX.then_ret ?_
   refine VX.ret1 rfl rfl (fun we hw => ?_)
   refine ⟨gr, none, 0, rfl, ?_, ?_⟩
   ·have e1 : openP l = [] := hs
    have e2 : openW l = 141 := if_pos hs
    rw [e1, e2]; exact hw.lose.lose
   ·rw [show openP l = [] from hs]; exact Arr.none
  ·have hs : (splitB l).2 ≠ [] := fun e => h2_5 (by rw [e]; rfl)
   refine VL.pick_f rfl rfl ?_
   refine VL.nn ?_
   refine VC.no rfl ?_
   refine VC.skip ?_
   refine VX.next ?_
   refine VC.sr ?_
   refine VL.move rfl ?_
   refine VL.build (zs := [[.slice none 0 0], [.int .i64 0]]) [(0, [.slice p1 (splitB l).2.length c1])] plan196 rfl ⟨⟨rfl, ⟨_, rfl, rfl⟩, rfl⟩, trivial⟩ rfl ?_
   refine VL.box (L := [1, 1]) (ps := [[.slice p1 (splitB l).2.length c1], [.int .i64 0]]) rfl rfl rfl (fun gr => ?_)
   refine VL.assign rfl ?_
   refine VL.nn ?_
   refine VC.ret ?_
   refine VX.ret1 rfl rfl (fun we hw => ?_)
   refine ⟨gr, p1, c1, rfl, ?_, ?_⟩
   ·rw [show openW l = 0 from if_neg hs]; exact hw.lose.lose
   ·exact hA1.nowK (s := ⟨w1, _⟩) (Mono.slice Mono.byte) hw (List.mem_cons_self ..) rfl

end Go.Proofs.Ytcfecmoagfgnaaa

/- wire: what takes pieces, wherever it lies. -/
namespace Go.Proofs.Ytcfecmoagfgnaaa
open Go.Vc Go.Pl

/-- The reading of the variable of what takes pieces. -/
def rdR (parts : List (List UInt8)) (why : Nat) : Rel (List (List Value)) := fun K w _ ps => ∃ p c, ps = [[.slice p parts.length c], [.int .i64 why]] ∧ Arr 1 bytesR K w p parts c
theorem Mono_rd (parts : List (List UInt8)) (why : Nat) : Mono (rdR parts why) := fun _ _ _ _ _ ha ⟨p, c, e, h⟩ => ⟨p, c, e, h.after (Mono.slice Mono.byte) ha⟩
/-- What takes pieces: those that are left; the error. -/
def rch (g : Nat) (parts : List (List UInt8)) (why : Nat) : Chunk := xblk g 196 [1, 1] (rdR parts why) (Mono_rd parts why)
theorem openR {S : List Snap} {H : List Chunk} {w : World} {g : Nat} {parts : List (List UInt8)} {why : Nat} (h : Own S (rch g parts why :: H) w) : ∃ p c, Own S (rblk g p parts.length c why :: H) w ∧ Arr 1 bytesR (g :: keys H) w p parts c := by
 obtain ⟨ps, h1, p, c, rfl, h2⟩ := h.openX
 exact ⟨p, c, h1, h2⟩
theorem shutR {S : List Snap} {H : List Chunk} {w : World} {g : Nat} {parts : List (List UInt8)} {why : Nat} {p : Option Addr} {c : Nat} (h : Own S (rblk g p parts.length c why :: H) w) (hA : Arr 1 bytesR (g :: keys H) w p parts c) : Own S (rch g parts why :: H) w :=
 h.shutX (Mono_rd parts why) ⟨p, c, rfl, hA⟩
theorem set_at {H : List Chunk} {i : Nat} {c : Chunk} (hi : H[i]? = some c) (c' : Chunk) : (H.set i c')[i]? = some c' := by
 have := (List.getElem?_eq_some_iff.1 hi).1
 rw [List.getElem?_set_self (by simpa using this)]
theorem open_R {S : List Snap} {H : List Chunk} {w : World} (ho : Own S H w) {p : Option Addr} {l : List UInt8} {c : Nat} (hA : Bytes (keys H) w p l c) : Calls Try.prog 121 #[.slice p l.length c] w (Ret fun v w' => ∃ g, v = .pointer (some ⟨g, 0, none⟩) ∧ Own S (rch g (openP l) (openW l) :: H) w') :=
 calls_mono (open_r ho hA) fun v w' ⟨g, p', c', e, h1, h2⟩ => ⟨g, e, shutR h1 h2⟩
theorem fail_R {S : List Snap} {H : List Chunk} {w : World} {g : Nat} {parts : List (List UInt8)} {why : Nat} {i : Nat} (hi : H[i]? = some (rch g parts why)) (ho : Own S H w) (e : Nat) : Calls Try.prog 125 #[.pointer (some ⟨g, 0, none⟩), .int .i64 e] w (Ret fun v w' => v = .tuple #[] ∧ Own S (H.set i (rch g parts (failW why e))) w') := by
 have h0 := (ho.front hi).keep
 obtain ⟨p, c, h1, h2⟩ := openR h0
 refine calls_mono (fail_r h1 e) fun v w' ⟨e1, h3⟩ => ⟨e1, ?_⟩
 have := shutR h3 (h2.nowK (s := ⟨w, _⟩) (K := g :: keys (H.eraseIdx i)) (Mono.slice Mono.byte) h3 (by repeat (first | exact List.mem_cons_self .. | apply List.mem_cons_of_mem)) rfl)
 exact (this.lose).back hi
theorem end_R {S : List Snap} {H : List Chunk} {w : World} {g : Nat} {parts : List (List UInt8)} {why : Nat} {i : Nat} (hi : H[i]? = some (rch g parts why)) (ho : Own S H w) : Calls Try.prog 126 #[.pointer (some ⟨g, 0, none⟩)] w (Ret fun v w' => v = .int .i64 (endW parts why) ∧ Own S (H.set i (rch g parts (endW parts why))) w') := by
 have h0 := (ho.front hi).keep
 obtain ⟨p, c, h1, h2⟩ := openR h0
 refine calls_mono (end_r h1) fun v w' ⟨e1, h3⟩ => ⟨e1, ?_⟩
 have := shutR h3 (h2.nowK (s := ⟨w, _⟩) (K := g :: keys (H.eraseIdx i)) (Mono.slice Mono.byte) h3 (by repeat (first | exact List.mem_cons_self .. | apply List.mem_cons_of_mem)) rfl)
 exact (this.lose).back hi
theorem piece_R {S : List Snap} {H : List Chunk} {w : World} {g : Nat} {parts : List (List UInt8)} {why : Nat} {i : Nat} (hi : H[i]? = some (rch g parts why)) (ho : Own S H w) : Calls Try.prog 124 #[.pointer (some ⟨g, 0, none⟩)] w (Ret fun v w' => ∃ pb cb, v = .slice pb (nextP parts).length cb ∧ Own S (H.set i (rch g (parts.drop 1) (nextW parts why))) w' ∧ Bytes (keys (H.set i (rch g (parts.drop 1) (nextW parts why)))) w' pb (nextP parts) cb) := by
 have h0 := ho.front hi
 obtain ⟨p, c, h1, h2⟩ := openR h0
 refine calls_mono (piece_r h1 h2) fun v w' ⟨p', c', pb, cb, e1, h3, h4, h5⟩ => ⟨pb, cb, e1, (shutR h3 h4).back hi, h5.keysTo Mono.byte fun k hk => ?_⟩
 exact (keys_set hi k).1 hk
theorem num_R {S : List Snap} {H : List Chunk} {w : World} {g : Nat} {parts : List (List UInt8)} {why : Nat} {i : Nat} (hi : H[i]? = some (rch g parts why)) (ho : Own S H w) (k : Nat) (h1 : 1 ≤ k) (h8 : k ≤ 8) : Calls Try.prog 132 #[.pointer (some ⟨g, 0, none⟩), .int .i64 k] w (Ret fun v w' => v = .int .u64 (takeN parts k) ∧ Own S (H.set i (rch g (parts.drop 1) (lenW parts why k))) w') := by
 have h0 := ho.front hi
 obtain ⟨p, c, h1', h2⟩ := openR h0
 exact calls_mono (num_r h1' h2 k h1 h8) fun v w' ⟨p', c', e1, h3, h4⟩ => ⟨e1, (shutR h3 h4).back hi⟩
theorem byte_R {S : List Snap} {H : List Chunk} {w : World} {g : Nat} {parts : List (List UInt8)} {why : Nat} {i : Nat} (hi : H[i]? = some (rch g parts why)) (ho : Own S H w) : Calls Try.prog 122 #[.pointer (some ⟨g, 0, none⟩)] w (Ret fun v w' => v = .int .u8 (takeN parts 1) ∧ Own S (H.set i (rch g (parts.drop 1) (lenW parts why 1))) w') := by
 have h0 := ho.front hi
 obtain ⟨p, c, h1', h2⟩ := openR h0
 exact calls_mono (byte_r h1' h2) fun v w' ⟨p', c', e1, h3, h4⟩ => ⟨e1, (shutR h3 h4).back hi⟩
theorem short_R {S : List Snap} {H : List Chunk} {w : World} {g : Nat} {parts : List (List UInt8)} {why : Nat} {i : Nat} (hi : H[i]? = some (rch g parts why)) (ho : Own S H w) : Calls Try.prog 130 #[.pointer (some ⟨g, 0, none⟩)] w (Ret fun v w' => v = .int .u16 (takeN parts 2) ∧ Own S (H.set i (rch g (parts.drop 1) (lenW parts why 2))) w') := by
 have h0 := ho.front hi
 obtain ⟨p, c, h1', h2⟩ := openR h0
 exact calls_mono (short_r h1' h2) fun v w' ⟨p', c', e1, h3, h4⟩ => ⟨e1, (shutR h3 h4).back hi⟩
theorem zero80 : (Try.prog.info? 80).bind (·.zero) = some (.agg ((zeros 64).map bv).toArray) := by kernel_rfl
theorem keyOf_takeB (parts : List (List UInt8)) : keyOf (nextP parts) = takeB 32 parts := rfl

theorem key_R {S : List Snap} {H : List Chunk} {w : World} {g : Nat} {parts : List (List UInt8)} {why : Nat} {i : Nat} (hi : H[i]? = some (rch g parts why)) (ho : Own S H w) : Calls Try.prog 129 #[.pointer (some ⟨g, 0, none⟩)] w (Ret fun v w' => v = .agg ((takeB 32 parts).map bv).toArray ∧ Own S (H.set i (rch g (parts.drop 1) (lenW parts why 32))) w') := by
 refine enter (G := Own S H) ho Try.func129 rfl Try.ntmps129 rfl ?_
 refine VC.sr ?_
 refine VL.alloc (L := [32]) (ps := [key0.map bv]) zero44 rfl rfl (fun g2 => ?_)
 refine VL.nn ?_
 refine VC.sr ?_
 refine VL.move rfl ?_
 refine VL.call Try.func124 rfl (by decide) rfl (fun w' hw => piece_R (i := i + 1) hi hw) (fun v => ?_)
 refine VL.at (fun w1 h1w => ?_)
 obtain ⟨pb, cb, rfl, hO, hB1⟩ := h1w
 have hi2 := set_at hi (rch g (parts.drop 1) (nextW parts why))
 refine VL.toOwn hO ?_
 refine VL.call Try.func36 rfl (by decide) rfl (fun w' hw => key_any hw (hB1.nowA (s := ⟨w1, _⟩) Mono.byte hw)) (fun v => ?_)
 refine VL.at (fun w2 h1w => ?_)
 obtain ⟨hO2, rfl⟩ := h1w
 refine VL.toOwn hO2 ?_
 refine VL.move rfl ?_
 refine VL.extract rfl rfl ?_
 refine VL.extract rfl rfl ?_
 refine VL.alloc (L := [32]) (ps := [key0.map bv]) zero44 rfl rfl (fun g3 => ?_)
 refine VL.store (L := [32]) (qs := [(keyOf (nextP parts)).map bv]) 0 0 1 rfl rfl rfl (.inl kd44) rfl rfl (by simp [keyOf_length]) (ok1_bytes _) rfl rfl ?_
 refine VL.assign rfl ?_
 refine VL.nn ?_
 refine VC.seq ?_
 refine VC.sr ?_
 refine VL.move rfl ?_
 refine VL.not rfl ?_
 refine VL.nn ?_
 refine VC.split rfl (fun hc12 => ?_) (fun hc12 => ?_)
 ·refine VC.region ?_
  refine VL.move rfl ?_
  refine VL.call Try.func125 rfl (by decide) rfl (fun w' hw => fail_R (i := i + 2) hi2 hw 141) (fun v => ?_)
  refine VL.fact fun e => ?_
  subst e
  refine VL.nn ?_
  refine VC.sr ?_
  refine VL.loads (cs := (keyOf (nextP parts)).map bv) 0 0 1 rfl kd44 (fun _ h => h) rfl rfl rfl rfl ?_
  refine VL.store (L := [32]) (qs := [(keyOf (nextP parts)).map bv]) 1 0 1 rfl rfl rfl (.inl kd44) rfl rfl (by simp [keyOf_length]) (ok1_bytes _) rfl rfl ?_
  refine VL.nn ?_
  refine VC.ret ?_
  refine VX.ret_cell1 (cs := (keyOf (nextP parts)).map bv) 1 rfl rfl (by rw [List.length_map, keyOf_length]; exact kd44) (fun _ h => h) rfl rfl (fun we hw => ?_)
  refine ⟨by rw [keyOf_takeB], ?_⟩
  rw [show lenW parts why 32 = failW (nextW parts why) 141 from if_neg (by simpa using hc12)]
  rw [← List.set_set (a := rch g (parts.drop 1) (nextW parts why))]
  exact hw.drop.drop.lose.lose
 ·refine VC.skip ?_
  refine VX.next ?_
  refine VC.sr ?_
  refine VL.loads (cs := (keyOf (nextP parts)).map bv) 0 0 1 rfl kd44 (fun _ h => h) rfl rfl rfl rfl ?_
  refine VL.store (L := [32]) (qs := [(keyOf (nextP parts)).map bv]) 1 0 1 rfl rfl rfl (.inl kd44) rfl rfl (by simp [keyOf_length]) (ok1_bytes _) rfl rfl ?_
  refine VL.nn ?_
  refine VC.ret ?_
  refine VX.ret_cell1 (cs := (keyOf (nextP parts)).map bv) 1 rfl rfl (by rw [List.length_map, keyOf_length]; exact kd44) (fun _ h => h) rfl rfl (fun we hw => ?_)
  refine ⟨by rw [keyOf_takeB], ?_⟩
  rw [show lenW parts why 32 = nextW parts why from if_pos (by simpa using hc12)]
  exact hw.drop.drop.lose.lose

theorem sig_R {S : List Snap} {H : List Chunk} {w : World} {g : Nat} {parts : List (List UInt8)} {why : Nat} {i : Nat} (hi : H[i]? = some (rch g parts why)) (ho : Own S H w) : Calls Try.prog 131 #[.pointer (some ⟨g, 0, none⟩)] w (Ret fun v w' => v = .agg ((takeB 64 parts).map bv).toArray ∧ Own S (H.set i (rch g (parts.drop 1) (lenW parts why 64))) w') := by
 refine enter (G := Own S H) ho Try.func131 rfl Try.ntmps131 rfl ?_
 refine VC.sr ?_
 refine VL.alloc (L := [64]) (ps := [(zeros 64).map bv]) zero80 rfl rfl (fun g2 => ?_)
 refine VL.nn ?_
 refine VC.sr ?_
 refine VL.alloc (L := [64]) (ps := [(zeros 64).map bv]) zero80 rfl rfl (fun g3 => ?_)
 refine VL.nn ?_
 refine VC.sr ?_
 refine VL.move rfl ?_
 refine VL.call Try.func124 rfl (by decide) rfl (fun w' hw => piece_R (i := i + 2) hi hw) (fun v => ?_)
 refine VL.at (fun w1 h1w => ?_)
 obtain ⟨pb, cb, rfl, hO, hB1⟩ := h1w
 have hi2 := set_at hi (rch g (parts.drop 1) (nextW parts why))
 refine VL.toOwn hO ?_
 refine VL.assign rfl ?_
 refine VL.nn ?_
 refine VC.seq ?_
 refine VC.sr ?_
 refine VL.move rfl ?_
 refine VL.len Try.underlying24 rfl rfl ?_
 refine VL.neq rfl rfl ?_
 refine VL.case (fun h3_2 => ?_) (fun h3_2 => ?_)
 ·refine VL.nn ?_
  refine VC.yes rfl ?_
  refine VC.sr ?_
  refine VL.move rfl ?_
  refine VL.call Try.func125 rfl (by decide) rfl (fun w' hw => fail_R (i := i + 2) hi2 hw 141) (fun v => ?_)
  refine VL.fact fun e => ?_
  subst e
  refine VL.nn ?_
  refine VC.sr ?_
  refine VL.loads (cs := (zeros 64).map bv) 0 0 1 rfl kd80 (fun _ h => h) rfl rfl rfl rfl ?_
  refine VL.store (L := [64]) (qs := [(zeros 64).map bv]) 1 0 1 rfl rfl rfl (.inl kd80) rfl rfl rfl (ok1_bytes _) rfl rfl ?_
  refine VL.nn ?_
  refine VC.ret ?_
  refine VX.then_ret ?_
  refine VX.ret_cell1 (cs := (zeros 64).map bv) 1 rfl rfl kd80 (fun _ h => h) rfl rfl (fun we hw => ?_)
  refine ⟨by rw [show takeB 64 parts = zeros 64 from if_neg (by omega)], ?_⟩
  rw [show lenW parts why 64 = failW (nextW parts why) 141 from if_neg (by omega)]
  rw [← List.set_set (a := rch g (parts.drop 1) (nextW parts why))]
  exact hw.drop.drop.lose
 ·refine VL.nn ?_
  refine VC.no rfl ?_
  refine VC.skip ?_
  refine VX.next ?_
  refine VC.seq ?_
  have hl : (nextP parts).length = 64 := by omega
  refine VC.region ?_
  refine VL.sliceArr Try.underlying80 (by kernel_rfl) rfl ?_
  refine VL.move rfl ?_
  refine VL.copyAll (cur := (zeros 64).map bv) (l := nextP parts) 0 rfl Try.underlying24 (by kernel_rfl) rfl rfl rfl hl (by omega) (fun _ h => (hB1.nowA (s := ⟨w1, _⟩) Mono.byte h).bytes) rfl (fun _ => ?_)
  refine VL.nn ?_
  refine VC.sr ?_
  refine VL.loads (cs := (nextP parts).map bv) 0 0 1 rfl kd80 (fun _ h => h) rfl rfl rfl rfl ?_
  refine VL.store (L := [64]) (qs := [(nextP parts).map bv]) 1 0 1 rfl rfl rfl (.inl kd80) rfl rfl (by simp [hl]) (ok1_bytes _) rfl rfl ?_
  refine VL.nn ?_
  refine VC.ret ?_
  refine VX.ret_cell1 (cs := (nextP parts).map bv) 1 rfl rfl (by rw [List.length_map, hl]; exact kd80) (fun _ h => h) rfl rfl (fun we hw => ?_)
  refine ⟨by rw [show takeB 64 parts = nextP parts from if_pos hl], ?_⟩
  rw [show lenW parts why 64 = nextW parts why from if_pos hl]
  exact hw.drop.drop.lose

end Go.Proofs.Ytcfecmoagfgnaaa

