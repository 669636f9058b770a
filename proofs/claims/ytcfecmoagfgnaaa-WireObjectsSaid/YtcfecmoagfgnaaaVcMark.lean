/- A region whose order is open, in which a text's bytes are marked. -/
import Derived.Test.YtcfecmoagfgnaaaRef5
namespace Go.Vc
open Go.Proofs.Ytcfecmoagfgnaaa
section
variable {P : Program} {n : Nat} {Q : Exit → Act → World → Prop} {ops : Array Oper} {S : List Snap} {H : List Chunk}

/-- Memory that nobody owns stays, but for what is marked behind a row. -/
def Marked (K : List Nat) (w w' : World) : Prop :=
  w'.os = w.os ∧ w'.tape = w.tape ∧ w'.output = w.output ∧ w.heap.size ≤ w'.heap.size ∧ ∀ k, k < w.heap.size → k ∉ K → w'.heap[k]? = w.heap[k]? ∨ ∃ cs e fr fr', w.heap[k]? = some (.cells cs e fr) ∧ w'.heap[k]? = some (.cells cs e fr')
theorem Marked.of {K : List Nat} {w w' : World} (h : Snap.ok ⟨w, K⟩ w') : Marked K w w' := ⟨h.os, h.tape, h.output, h.size, fun k a b => .inl (h.block k a b)⟩
theorem Arr.marked {X : Type} {R : Rel X} {sz : Nat} {K : List Nat} {w w' : World} {p : Option Addr} {xs : List X} {c : Nat} (h : Arr sz R K w p xs c) (hm : Marked K w w') (hR : ∀ vs x, R K w vs x → R K w' vs x) : Arr sz R K w' p xs c :=
  ⟨h.le, h.cap, h.nil, fun a ea hc => by
    obtain ⟨h1, h2, h3, cs, el, fr, hg, hx⟩ := h.at_ a ea hc
    obtain ⟨_, _, _, hsz, hb⟩ := hm
    rcases hb a.block h3 h2 with e | ⟨cs', e', fr', fr'', e1, e2⟩
    · exact ⟨h1, h2, by omega, cs, el, fr, by rw [e]; exact hg, fun j x hj => (hx j x hj).elim fun vs ⟨a1, a2, a3⟩ => ⟨vs, a1, hR vs x a2, a3⟩⟩
    · rw [hg] at e1
      cases e1
      exact ⟨h1, h2, by omega, cs, el, fr'', e2, fun j x hj => (hx j x hj).elim fun vs ⟨a1, a2, a3⟩ => ⟨vs, a1, hR vs x a2, a3⟩⟩⟩
theorem Arr.markedB {K : List Nat} {w w' : World} {p : Option Addr} {l : List UInt8} {c : Nat} (h : Bytes K w p l c) (hm : Marked K w w') : Bytes K w' p l c := h.marked hm fun _ _ h => h
def Lasts {K : List Nat} (f : SFact K) : Prop := ∀ v w w', Marked K w w' → f.f v w → f.f v w'
theorem eqF_lasts {K : List Nat} (x : Value) : Lasts (eqF (K := K) x) := fun _ _ _ _ h => h
theorem bytesF_lasts {K : List Nat} (l : List UInt8) : Lasts (bytesF (K := K) l) := fun _ _ _ hm ⟨p, c, e, h⟩ => ⟨p, c, e, h.markedB hm⟩
theorem capF_lasts {K : List Nat} (l : List UInt8) (c : Nat) : Lasts (capF (K := K) l c) := fun _ _ _ hm ⟨p, e, h⟩ => ⟨p, e, h.markedB hm⟩
theorem arrF_lasts {K : List Nat} (ls : List (List UInt8)) : Lasts (arrF (K := K) 1 bytesR (Mono.slice Mono.byte) ls) := fun _ _ _ hm ⟨p, c, e, h⟩ => ⟨p, c, e, h.marked hm fun _ _ ⟨p, c, e, h⟩ => ⟨p, c, e, h.markedB hm⟩⟩
/-- Bytes in a row that is younger than what is remembered. -/
def freshF {K : List Nat} (S : List Snap) (l : List UInt8) : SFact K :=
  ⟨fun v w => ∃ g c, v = .slice (some ⟨g, 0, none⟩) l.length c ∧ Bytes K w (some ⟨g, 0, none⟩) l c ∧ ∀ s ∈ S, g ∈ s.K ∨ s.w.heap.size ≤ g, false,
   fun _ _ w _ hs ⟨g, c, e, h, hn⟩ => ⟨g, c, e, Arr.after (s := ⟨w, K⟩) h Mono.byte ⟨hs, fun _ hk => .inl hk⟩, hn⟩⟩
theorem freshF_lasts {K : List Nat} (S : List Snap) (l : List UInt8) : Lasts (freshF (K := K) S l) := fun _ _ _ hm ⟨g, c, e, h, hn⟩ => ⟨g, c, e, h.markedB hm, hn⟩
def AllLast {K : List Nat} : List (SFact K) → Prop
  | [] => True
  | f :: r => Lasts f ∧ AllLast r
theorem AllLast.get {K : List Nat} : ∀ {F : List (SFact K)}, AllLast F → ∀ (i : Nat) (f : SFact K), F[i]? = some f → Lasts f
  | [], _, i, f, h => by simp at h
  | g :: r, ⟨h1, h2⟩, i, f, h => by
    cases i with
    | zero => simp at h; subst h; exact h1
    | succ i => exact AllLast.get h2 i f (by simpa using h)

/-- A chunk that says nothing of other memory. -/
def Solid (c : Chunk) : Prop := ∀ K w w', (∀ k ∈ c.ks, w'.heap[k]? = w.heap[k]?) → c.φ K w → c.φ K w'
theorem blk_solid (g : Nat) (T : TypeId) (L : List Nat) (ps : List (List Value)) : Solid (blk g T L ps) := fun _ _ _ h hw => ⟨by rw [h g (by simp [blk])]; exact hw.1, hw.2⟩

abbrev JM (S : List Snap) (H : List Chunk) : Bool → World → Prop := fun _ w => Own S H w
abbrev TM (K : List Nat) : Bool → World → World → Prop := fun _ w w' => Marked K w w'

theorem obSM {kk : Nat} {F : List (SFact (keys H))} {σ : Sl} {i : Nat} {I : Ins} {o : Oper} (hok : insOk ops i I = true) (hn : decide ((I.pre.map (·.1)).Nodup) = true) (_hk : Nat.beq i kk = false)
    (h : ∀ (_ : Bool) w0, Still S H false w0 → EachV F w0 I.pre [] (fun τ => VL P n ops (Post n Q (JM S H) (TM (keys H)) (factOf (F.map (·.f)) i) o.dst false false w0) [o] (τ ++ only σ I.bas) (fun w => w = w0))) :
    Ob P n ops Q (JM S H) (TM (keys H)) kk (F.map (·.f)) σ i I o :=
  ⟨hok, fun ph w0 vals hJ _ _ _ _ hF => by
    have h1 := EachV.spec I.pre [] _ (h false w0 hJ) hF
    intro a w ha hw
    exact h1 a w (ha.back (of_decide_eq_true hn)) hw⟩
theorem obM {kk : Nat} {F : List (SFact (keys H))} {σ : Sl} {i : Nat} {I : Ins} {o : Oper} (hok : insOk ops i I = true) (hn : decide ((I.pre.map (·.1)).Nodup) = true)
    (_hk : (match ops[kk]? with | none => false | some p => !waits p i) = false) (_hki : Nat.beq i kk = false)
    (h : ∀ w0, Own S H w0 → EachV F w0 I.pre [] (fun τ => VL P n ops (Post n Q (JM S H) (TM (keys H)) (factOf (F.map (·.f)) i) o.dst false false w0) [o] (τ ++ only σ I.bas) (fun w => w = w0))) :
    Ob P n ops Q (JM S H) (TM (keys H)) kk (F.map (·.f)) σ i I o :=
  ⟨hok, fun ph w0 vals hJ _ _ _ _ hF => by
    have h1 := EachV.spec I.pre [] _ (h w0 hJ) hF
    intro a w ha hw
    exact h1 a w (ha.back (of_decide_eq_true hn)) hw⟩
theorem VL.finSM {f : Fact} {d : Nat} {w0 : World} {σ : Sl} {v : Value} (hO : Still S H false w0) (hv : look σ d = some v) (h : f v w0) :
    VL P n ops (Post n Q (JM S H) (TM (keys H)) f (some d) false false w0) [] σ (fun w => w = w0) :=
  VL.fin hv fun w e => by subst e; exact ⟨h, Marked.of (Snap.ok_refl _ _), hO⟩
theorem VL.finOM {f : Fact} {d : Nat} {w0 : World} {σ : Sl} {v : Value} (hv : look σ d = some v) {G : World → Prop} (hG : ∀ w, G w → Own (⟨w0, keys H⟩ :: S) H w) (h : ∀ w, G w → f v w) :
    VL P n ops (Post n Q (JM S H) (TM (keys H)) f (some d) false false w0) [] σ G :=
  VL.fin hv fun w hw => ⟨h w hw, Marked.of ((hG w hw).after (List.mem_cons_self ..)).1, (hG w hw).lose⟩
/-- The row is let go, and is young. -/
theorem VL.letFresh {σ : Sl} {d0 : List Oper} {e : TypeId} {g m c : Nat} {xs : List Value} (l : List UInt8) (hm : m = l.length) (hx : xs = l.map bv) (h : ∀ w1, Own S H w1 → Bytes (keys H) w1 (some ⟨g, 0, none⟩) l c → (∀ s ∈ S, g ∈ s.K ∨ s.w.heap.size ≤ g) → VL P n ops Q d0 σ (Own (⟨w1, keys H⟩ :: S) H)) : VL P n ops Q d0 σ (Own S (row e 1 (some g) m c xs :: H)) :=
  fun a w ha hw => h w hw.drop (hw.letBytes hm hx) (fun s hs => (hw.snap s hs).2 g (by rw [keys_cons]; simp [row])) a w ha hw.drop.keep

theorem mark_heap {w : World} {g : Nat} {cur : Array Value} {e : TypeId} {fr : Nat × Nat} (hg : w.heap[g]? = some (.cells cur e fr)) : ∃ fr', ∀ k : Nat, (w.freeze ⟨g, cur.size, none⟩ 1).heap[k]? = if k = g then some (.cells cur e fr') else w.heap[k]? := by
  refine ⟨if fr.1 = fr.2 then (cur.size, cur.size + 1) else (min fr.1 cur.size, max fr.2 (cur.size + 1)), fun k => ?_⟩
  unfold World.freeze
  rw [if_neg (by decide)]
  simp only [Array.getElem?_modify]
  by_cases hk : g = k
  · subst hk
    simp [hg]
  · rw [if_neg hk, if_neg (fun e => hk e.symm)]
theorem Own.mark {w w' : World} {g : Nat} (h : Own S H w) (hs : ∀ c ∈ H, Solid c) (hgk : g ∉ keys H) (hn : ∀ s ∈ S, g ∈ s.K ∨ s.w.heap.size ≤ g) (h1 : w'.os = w.os) (h2 : w'.tape = w.tape) (h3 : w'.output = w.output) (h4 : w'.heap.size = w.heap.size) (h5 : ∀ k, k ≠ g → w'.heap[k]? = w.heap[k]?) : Own S H w' := by
  refine ⟨h.nodup, fun k hk => by rw [h4]; exact h.lt k hk, fun c hc => hs c hc _ w w' (fun k hk => h5 k fun e => hgk (by subst e; exact List.mem_flatMap.2 ⟨c, hc, hk⟩)) (h.holds c hc), fun s hsm => ?_⟩
  obtain ⟨a, b⟩ := h.snap s hsm
  refine ⟨⟨h1.trans a.os, h2.trans a.tape, h3.trans a.output, by rw [h4]; exact a.size, fun k hk hk2 => ?_⟩, b⟩
  rw [h5 k ?_]
  · exact a.block k hk hk2
  · rintro rfl
    rcases hn s hsm with e | e
    · exact hk2 e
    · omega
/-- The text's bytes are marked. -/
theorem obMark {kk : Nat} {F : List (SFact (keys H))} {σ : Sl} {i j d0 d : Nat} {l : List UInt8} {t e ty : TypeId} {pos : String} {aft : Array Edge} (hok : insOk ops i ⟨[(d0, j)], []⟩ = true) (hj : F[j]? = some (freshF S l)) (hi : F[i]? = some (bytesF l)) (hl : 0 < l.length) (hs : ∀ c ∈ H, Solid c) (ht : P.underlying t = some (.slice e)) (he : P.underlying e = some (.int .u8)) (hdn : Nat.blt d n = true) :
    Ob P n ops Q (JM S H) (TM (keys H)) kk (F.map (·.f)) σ i ⟨[(d0, j)], []⟩ ⟨some d, .convert t t (.tmp d0), ty, pos, aft, none⟩ :=
  ⟨hok, fun ph w0 vals hJ _ _ _ _ hF => by
    have h1 := hF (d0, j) (by simp)
    have h1 : (freshF (K := keys H) S l).f (vals j) w0 := by
      unfold factOf at h1
      rw [List.getElem?_map, hj] at h1
      exact h1
    obtain ⟨g, c, ev, hB, hN⟩ := h1
    have hc : 0 < c := by have := hB.le; omega
    obtain ⟨_, hgk, hgl, cur, el, fr, hg, hx⟩ := hB.at_ _ rfl hc
    have hg : w0.heap[g]? = some (.cells cur el fr) := hg
    have hfi : factOf (F.map (·.f)) i = (bytesF (K := keys H) l).f := by unfold factOf; rw [List.getElem?_map, hi]; rfl
    obtain ⟨fr', hheap⟩ := mark_heap hg
    have hsize : (w0.freeze ⟨g, cur.size, none⟩ 1).heap.size = w0.heap.size := by
      unfold World.freeze
      rw [if_neg (by decide)]; simp
    rw [hfi]
    refine VL.act (K := fun v w' => v = .slice (some ⟨g, 0, none⟩) l.length c ∧ w' = w0.freeze ⟨g, cur.size, none⟩ 1) rfl rfl hdn (fun a w ha hw => ?_) (fun v => VL.fact fun e => ?_)
    · subst hw
      refine ⟨_, _, ?_, rfl, rfl⟩
      have hsh : w.shape? g = some (el, cur.size) := by unfold World.shape?; rw [hg]
      have hx' := ha.ev (x := .tmp d0) (v := .slice (some ⟨g, 0, none⟩) l.length c) (by rw [← ev]; simp [Vc.ev, preSlots, look])
      simp [execOp, hx', convert, run_underlying ht, run_underlying he, markStringish, hsh]
    · subst e
      refine VL.fin (v := .slice (some ⟨g, 0, none⟩) l.length c) (by rw [look_cons, if_pos rfl]) fun w hw => ?_
      subst hw
      have hM : Marked (keys H) w0 (w0.freeze ⟨g, cur.size, none⟩ 1) := by
        refine ⟨by unfold World.freeze; rw [if_neg (by decide)], by unfold World.freeze; rw [if_neg (by decide)], by unfold World.freeze; rw [if_neg (by decide)], by omega, fun k _ _ => ?_⟩
        rw [hheap k]
        by_cases hk : k = g
        · subst hk
          exact .inr ⟨cur, el, fr, _, hg, by rw [if_pos rfl]⟩
        · exact .inl (if_neg hk)
      exact ⟨⟨_, c, rfl, hB.markedB hM⟩, hM, hJ.mark hs hgk hN hM.1 hM.2.1 hM.2.2.1 hsize fun k hk => by rw [hheap k, if_neg hk]⟩⟩
theorem VC.anyTM {id : Nat} {l : List Oper} {σ : Sl} (m kk : Nat) (F : List (SFact (keys H))) (Is : List Ins) (outs : List (Nat × Nat)) (bas : List Nat)
    (hmix : P.follows .mixedOrders = true) (hp : plainRegion l.toArray = true) (htl : tailed l.toArray m = true) (hkm : Nat.ble l.length kk = true) (hml : Nat.ble m l.length = true)
    (houts : outs.all (fun (d, j) => Nat.blt j m && match l[j]? with | some p => (match p.dst with | some d' => Nat.beq d d' | none => false) | none => false) = true)
    (hbas : bas.all (fun t => (l.take m).all fun p => match p.dst with | some d => !Nat.beq d t | none => true) = true) (hn : decide ((outs.map (·.1)).Nodup) = true)
    (hobs : Obs P n l.toArray Q (JM S H) (TM (keys H)) kk (F.map (·.f)) σ 0 Is (l.take m)) (hlast : AllLast F)
    (hend : ∀ w0, Own S H w0 → EachV F w0 outs [] (fun τ => VL P n l.toArray Q (l.drop m) (τ ++ only σ bas) (fun w => w = w0))) :
    VC P n Q (.region id l.toArray true) σ (Own S H) :=
  VC.anyT (JM S H) (TM (keys H)) m kk (F.map (·.f)) Is outs bas hmix hp htl (.inr (by simpa [Nat.ble_eq] using hkm)) (by simpa [Nat.ble_eq] using hml) (fun _ h => h.drew) (fun _ => false) (fun _ _ _ h => (by cases h))
    (fun ph i v w w' hs _ h => by
      unfold factOf at h ⊢
      rw [List.getElem?_map] at h ⊢
      cases hf : F[i]? with
      | none => trivial
      | some f =>
        simp [hf] at h ⊢
        exact hlast.get i f hf v w w' hs h) houts hbas hobs (fun vals a w ha ⟨h1, h2⟩ => (hend w h2).spec outs [] _ h1 a w (ha.back (of_decide_eq_true hn)) rfl)
end
end Go.Vc
