import Derived.RangeFuncNested
import Derived.RangeFuncBound
import Derived.RangeFuncCalls
import Derived.RangeFuncLeaves
import Derived.Shelf.Abstract
import Derived.WalkKit
import Derived.OwnWalkIn
import Derived.TacticsInMore
import Derived.LoopNIn
import Derived.LoopIn
/- An iterator that ranges over an iterator: the contract says of a round that goes on that ALL blocks from the iterator's own on lie as they lay (loops' records too), not only what is told by 'Kp'; so a round of an inner loop may hand its elements to the outer loop. The law for the caller. No program in sight. -/
set_option linter.unusedVariables false
namespace Go.Proofs.Ytbhljokhcmfgjaa.P
open Go.RowKit

/-- Whatever block lies from B on lies as it lay. -/
structure Keep (B : Nat) (W W' : World) : Prop where
  size : W.heap.size ≤ W'.heap.size
  same : ∀ k, B ≤ k → k < W.heap.size → W'.heap[k]? = W.heap[k]?
theorem Keep.refl (B : Nat) (W : World) : Keep B W W := ⟨Nat.le_refl _, fun _ _ _ => rfl⟩
theorem Keep.trans {B : Nat} {X Y Z : World} (h : Keep B X Y) (k : Keep B Y Z) : Keep B X Z := ⟨Nat.le_trans h.size k.size, fun i hB hi => (k.same i hB (Nat.lt_of_lt_of_le hi h.size)).trans (h.same i hB hi)⟩
theorem Keep.mono {B B' : Nat} {W W' : World} (h : Keep B W W') (hB : B ≤ B') : Keep B' W W' := ⟨h.size, fun k hk hl => h.same k (Nat.le_trans hB hk) hl⟩
theorem Keep.alloc (B : Nat) (W : World) (o : Obj) : Keep B W (W.alloc o) := ⟨by simp, fun k _ hk => Below.heap_alloc W o k hk⟩
theorem Keep.get {B : Nat} {W W' : World} (h : Keep B W W') {k : Nat} {o : Obj} (hk : B ≤ k) (ho : W.heap[k]? = some o) : W'.heap[k]? = some o := (h.same k hk (Array.getElem?_eq_some_iff.1 ho).1).trans ho
theorem OwnFrom.up {β : Type} {B B' : Nat} {I : β → World → Prop} (h : OwnFrom B I) (hB : B ≤ B') : OwnFrom B' I := fun s W W' row hs hg hr => h s W W' row hs hg (fun r e => ⟨Nat.le_trans hB (hr r e).1, (hr r e).2⟩)
/-- 'Since W all from B on lies as it lay' abides what is done to blocks that came later. -/
theorem ownFrom_keep {β : Type} {B B' : Nat} {w₀ : World} (hB : w₀.heap.size ≤ B') : OwnFrom B' (fun (_ : β) W => Keep B w₀ W) := fun _ X Y row hs hg hr =>
  ⟨Nat.le_trans hs.size hg.size, fun k hk hl => (hg.block k (Nat.lt_of_lt_of_le hl hs.size) (fun e => by have := (hr k e.symm).1; omega)).trans (hs.same k hk hl)⟩

variable {α : Type} {F : Fence} {n : Nat} {P : Program}
/-- The iterator (function g, what it has captured lb; B: the first of its own blocks; n₀: what lies below is never touched) hands over just L, for whatever loop. -/
def IterOK (F : Fence) (n : Nat) (P : Program) (g : Nat) (lb : Array Value) (encs : α → Array Value) (n₀ B : Nat) (L : List α) (w₁ : World) : Prop :=
  ∀ (l : Nat) (J Jx : List α → World → Prop) (W : World), Keep B w₁ W → Below n₀ w₁ W → OwnFrom W.heap.size J → OwnFrom W.heap.size Jx →
    (∀ pre x W1, J pre W1 → pre.length < L.length → YieldAt F (n - 1) P l (encs x) W1 fun e W' =>
      (e = .returned (.bool true) ∧ J (pre ++ [x]) W' ∧ Below n₀ W1 W' ∧ Keep B W1 W') ∨ (e = .returned (.bool false) ∧ Jx (pre ++ [x]) W' ∧ Keep W.heap.size W1 W')) →
    J [] W →
    CallsIn F n P g (#[.func (.yield l) #[] #[]] ++ lb) W fun e W' => (∃ v, e = .returned v) ∧ (J L W' ∨ ∃ pre, pre <+: L ∧ Jx pre W')

/-- What a round's body comes to: it goes on, or it leaves by a return. -/
def RoundPost (B B₁ n₀ : Nat) (I Ix : List α → World → Prop) (xs : List α) (W : World) : Exit → Act → World → Prop
  | .normal, _, W' => Keep B W W' ∧ Below n₀ W W' ∧ I xs W'
  | .ret, _, W' => Keep B₁ W W' ∧ Ix xs W'
  | _, _, _ => False

theorem range_iter {g : Operand} {ps : Array Tmp} {assign body : Code} {Q : Exit → Act → World → Prop} {a : Act} {w : World}
    (hro : F.round = none) (h1 : F.depth.isSome = true → 1 ≤ n) {gf : Nat} {lb : Array Value} (hg : a.eval g = .func (.func gf) #[] lb) (hFg : F.fn gf) (eg : ∀ args w, (callFunc gf args).run P w = .ok (.enter gf args) w)
    {encs : α → Array Value} {n₀ B : Nat} {L : List α} (hn₀ : n₀ ≤ w.heap.size) (hB : B ≤ w.heap.size) (hit : IterOK F (n - 1) P gf lb encs n₀ B L w) (hps : ∀ x, (encs x).size = ps.size)
    (I Ix : List α → World → Prop) (hI : OwnFrom w.heap.size I) (hIx : OwnFrom w.heap.size Ix) (h0 : I [] w) (Ax : α → Act → World → Prop) (hAx : ∀ x a', OwnFrom w.heap.size (fun (_ : Unit) W => Ax x a' W))
    (hassign : ∀ (l : Nat) (pre : List α) (x : α) (W : World) (K : Act → World → Prop), I pre W → (∀ a' W', Keep B W W' → Below n₀ W W' → I pre W' → Ax x a' W' → K a' W') →
      assign.wpIn (F.inRound l) (n - 1 - 1) P (Exit.then K (fun _ _ _ => False)) { tmps := (ps.zip (encs x)).foldl (fun t (p, v) => t.setIfInBounds p v) a.tmps, defers := [] } W)
    (hbody : ∀ (l : Nat) (pre : List α) (x : α) (a' : Act) (W : World), I pre W → Ax x a' W → pre.length < L.length → body.wpIn (F.inRound l) (n - 1 - 1) P (RoundPost B w.heap.size n₀ I Ix (pre ++ [x]) W) a' W)
    (hdone : ∀ (D : Nat) (W : World), w.heap.size ≤ D → I L W → W.heap[D]? = some (.deferred (some [])) → Q .normal { a with defers := { target := .collected D, args := #[] } :: a.defers } W)
    (hstop : ∀ (D : Nat) (pre : List α) (W : World), w.heap.size ≤ D → pre <+: L → Ix pre W → W.heap[D]? = some (.deferred (some [])) → Code.ret.wpIn F n P Q { a with defers := { target := .collected D, args := #[] } :: a.defers } W) :
    (Code.rangeFunc g ps assign body).wpIn F n P Q a w := by
  refine wpIn_rangeFunc fun fn hfn => ?_
  rw [hro]
  obtain ⟨rec, hrec⟩ : ∃ rec : LoopState → Option Code → Loop, rec = fun st pe => { state := st, pending := pe, fn, tmps := a.tmps, params := ps, assign, body, defers := w.heap.size } := ⟨_, rfl⟩
  obtain ⟨W1, hW1⟩ : ∃ W1, (w.alloc (.deferred (some []))).alloc (.loop (rec .ready none)) = W1 := ⟨_, rfl⟩
  have hs1 : W1.heap.size = w.heap.size + 2 := by rw [← hW1]; simp
  have hr1 : W1.heap[w.heap.size + 1]? = some (.loop (rec .ready none)) := by
    rw [← hW1]
    have h := World.alloc_heap_new (w.alloc (.deferred (some []))) (.loop (rec .ready none))
    rwa [World.size_alloc] at h
  have hd1 : W1.heap[w.heap.size]? = some (.deferred (some [])) := by
    rw [← hW1]
    exact (Below.heap_alloc _ _ _ (by simp)).trans (World.alloc_heap_new w _)
  have hk1 : Keep B w W1 := by rw [← hW1]; exact (Keep.alloc B w _).trans (Keep.alloc B _ _)
  have hb1 : Below n₀ w W1 := by rw [← hW1]; exact ((Below.refl _ w).alloc hn₀ _).alloc (by simp; omega) _
  refine ⟨w.heap.size + 1, [{ target := .collected w.heap.size, args := #[] }], W1, { target := .fn (.func gf) lb, args := #[.func (.yield (w.heap.size + 1)) #[] #[]] }, W1, gf,
    #[.func (.yield (w.heap.size + 1)) #[] #[]] ++ lb, W1, ?_, ?_, ?_, ?_, h1, ?_⟩
  · rw [← hW1, hrec]; exact run_enterLoop_outer _ _ _ _ _
  · simp only [resolve, hg]
    simp [go_sem]
  · intro f' hf'
    simp [Target.leads] at hf'
    subst hf'
    exact hFg
  · simp [invoke, go_sem, eg]
  -- the two blocks of the loop: the record, ready; nothing deferred
  refine (hit (w.heap.size + 1)
    (fun pre W => I pre W ∧ W.heap[w.heap.size + 1]? = some (.loop (rec .ready none)) ∧ W.heap[w.heap.size]? = some (.deferred (some [])))
    (fun pre W => Ix pre W ∧ W.heap[w.heap.size + 1]? = some (.loop (rec .done (some .ret))) ∧ W.heap[w.heap.size]? = some (.deferred (some [])))
    W1 hk1 hb1 ?_ ?_ ?_ ⟨by rw [← hW1]; exact hI.alloc _ (hI.alloc _ h0), hr1, hd1⟩).mono ?_
  · intro s X Y row hs hgr hrow
    have far : ∀ k, k < w.heap.size + 2 → some k ≠ row := fun k hk e => by have := (hrow k e.symm).1; omega
    have lt2 := (Array.getElem?_eq_some_iff.1 hs.2.1).1
    exact ⟨hI s X Y row hs.1 hgr (fun r e => ⟨by have := (hrow r e).1; omega, (hrow r e).2⟩), (hgr.block (w.heap.size + 1) lt2 (far (w.heap.size + 1) (by omega))).trans hs.2.1, (hgr.block w.heap.size (by omega) (far w.heap.size (by omega))).trans hs.2.2⟩
  · intro s X Y row hs hgr hrow
    have far : ∀ k, k < w.heap.size + 2 → some k ≠ row := fun k hk e => by have := (hrow k e.symm).1; omega
    have lt2 := (Array.getElem?_eq_some_iff.1 hs.2.1).1
    exact ⟨hIx s X Y row hs.1 hgr (fun r e => ⟨by have := (hrow r e).1; omega, (hrow r e).2⟩), (hgr.block (w.heap.size + 1) lt2 (far (w.heap.size + 1) (by omega))).trans hs.2.1, (hgr.block w.heap.size (by omega) (far w.heap.size (by omega))).trans hs.2.2⟩
  · -- a round
    rintro pre x W ⟨hi, hl, hd⟩ hlen
    have hy := run_yield (P := P) (args := encs x) hl (by rw [hrec]; exact hps x)
    rw [hrec] at hy
    refine ⟨fn, _, assign, body, hy, roundIn_of_wpIn hfn (hassign _ pre x W _ hi fun a' Wa hka hba hia hax => ?_)⟩
    have hla := hka.get (by omega) hl
    have hda := hka.get (by omega) hd
    have lta := (Array.getElem?_eq_some_iff.1 hla).1
    obtain ⟨Wb, hWb⟩ : ∃ Wb, Wb = Wa.putObj (w.heap.size + 1) (.loop { rec .ready none with state := .busy }) := ⟨_, rfl⟩
    have sb : Wb.heap.size = Wa.heap.size := by rw [hWb]; simp
    have hlb : Wb.heap[w.heap.size + 1]? = some (.loop { rec .ready none with state := .busy }) := by rw [hWb]; exact World.putObj_heap_same lta
    have hob : ∀ k, k ≠ w.heap.size + 1 → Wb.heap[k]? = Wa.heap[k]? := fun k hk => by rw [hWb]; exact World.putObj_heap_other hk
    have hbb : Below n₀ Wa Wb := by rw [hWb]; exact belowK_b hn₀ Wa _ _ _ (by omega) hla rfl rfl
    refine ⟨Wb, by rw [hWb]; exact run_beginRound hla (by rw [hrec]), ?_⟩
    refine wpIn_mono (hbody _ pre x a' Wb (by rw [hWb]; exact hI.putObj _ hia (by omega) hla rfl) (by rw [hWb]; exact (hAx x a').putObj (s := ()) _ hax (by omega) hla rfl) hlen) ?_
    have fin : ∀ (jump : Option Code) (W3 : World), W3.heap[w.heap.size + 1]? = some (.loop { rec .ready none with state := .busy }) →
        (Instr.endRound (w.heap.size + 1) jump).run P W3 = .ok (.bool jump.isNone) (W3.putObj (w.heap.size + 1) (.loop (rec (if jump.isNone then .ready else .done) jump))) := fun jump W3 h3 => by
      have h := run_endRound (P := P) jump h3
      rw [hrec] at h ⊢
      exact h
    rintro e a3 W3 hp
    cases e with
    | normal =>
      obtain ⟨hk3, hb3, hi3⟩ := hp
      have hl3 := hk3.get (by omega) hlb
      have lt3 := (Array.getElem?_eq_some_iff.1 hl3).1
      obtain ⟨W4, hW4⟩ : ∃ W4, W4 = W3.putObj (w.heap.size + 1) (.loop (rec .ready none)) := ⟨_, rfl⟩
      have hl4 : W4.heap[w.heap.size + 1]? = some (.loop (rec .ready none)) := by rw [hW4]; exact World.putObj_heap_same lt3
      have ho4 : ∀ k, k ≠ w.heap.size + 1 → W4.heap[k]? = W3.heap[k]? := fun k hk => by rw [hW4]; exact World.putObj_heap_other hk
      have s4 : W4.heap.size = W3.heap.size := by rw [hW4]; simp
      have hd4 : W4.heap[w.heap.size]? = some (.deferred (some [])) := by
        rw [ho4 _ (by omega)]
        exact hk3.get (by omega) ((hob _ (by omega)).trans hda)
      refine ⟨_, W4, by rw [hW4]; exact fin none W3 hl3, .inl ⟨rfl, ⟨by rw [hW4]; exact hI.putObj _ hi3 (by omega) hl3 rfl, hl4, hd4⟩, ?_, ?_⟩⟩
      · exact (hba.trans (hbb.trans hb3)).trans (by rw [hW4]; exact belowK_b hn₀ W3 _ _ _ (by omega) hl3 rfl rfl)
      · refine ⟨by have := hka.size; have := hk3.size; omega, fun k hBk hkl => ?_⟩
        by_cases hk : k = w.heap.size + 1
        · subst hk
          rw [hl4, hl]
        · rw [ho4 k hk, hk3.same k hBk (by have := hka.size; omega), hob k hk, hka.same k hBk hkl]
    | ret =>
      obtain ⟨hk3, hi3⟩ := hp
      have hl3 := hk3.get (by omega) hlb
      have lt3 := (Array.getElem?_eq_some_iff.1 hl3).1
      have hd3 := hk3.get (Nat.le_refl _) ((hob _ (by omega)).trans hda)
      refine ⟨_, _, fin (some .ret) W3 hl3, .inr ⟨rfl, ⟨hIx.putObj _ hi3 (by omega) hl3 rfl, World.putObj_heap_same lt3, (World.putObj_heap_other (by omega)).trans hd3⟩, ?_⟩⟩
      refine ⟨by have := hka.size; have := hk3.size; simp; omega, fun k hk hkl => ?_⟩
      rw [World.putObj_heap_other (by omega), hk3.same k (by omega) (by have := hka.size; omega), hob k (by omega), hka.same k (by omega) hkl]
    | exit id => exact hp.elim
    | goto t => exact hp.elim
    | panic ch => exact hp.elim
    | outgrown => exact hp.elim
  · rintro e W2 ⟨⟨v, rfl⟩, (⟨hi, hl, hd⟩ | ⟨pre, hpre, hi, hl, hd⟩)⟩
    · have h := run_endLoop (P := P) hl (by rw [hrec]; simp)
      rw [hrec] at h
      exact ⟨none, _, h, hdone _ _ (Nat.le_refl _) (hI.putObj _ hi (by omega) hl rfl) ((World.putObj_heap_other (by omega)).trans hd)⟩
    · have h := run_endLoop (P := P) hl (by rw [hrec]; simp)
      rw [hrec] at h
      exact ⟨some .ret, _, h, hstop _ pre _ (Nat.le_refl _) hpre (hIx.putObj _ hi (by omega) hl rfl) ((World.putObj_heap_other (by omega)).trans hd)⟩
end Go.Proofs.Ytbhljokhcmfgjaa.P
