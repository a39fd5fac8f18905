import Derived.Deep.RegionHeld3
import Derived.StillTail
/- A region that draws its order and stores, at its end, into cells that it loads: what holds till the store with number st has come up (C), and what holds throughout (A). No program in sight. -/
set_option linter.unusedVariables false
set_option linter.unusedSimpArgs false
namespace Go.Proofs.YtbhljokhcmfgjaaGreat.P
open Go

section
variable {P : Program} {ops : Array Oper} {Q : Exit → Act → World → Prop} {md : Region.Mode} {A C : World → Prop} {st : Nat}
def Till (A C : World → Prop) (st : Nat) (listed : Array Bool) (w : World) : Prop := A w ∧ (listed.getD st false = false → C w)
def wpU (P : Program) (md : Region.Mode) (ops : Array Oper) (Q : Exit → Act → World → Prop) (A C : World → Prop) (st : Nat) : Nat → Array Bool → Act → World → Prop
  | 0, listed, a, w => Region.ready md ops listed = [] ∧ Q .normal a w
  | n + 1, listed, a, w => (Region.ready md ops listed = [] → Q .normal a w) ∧
    ∀ i ∈ Region.ready md ops listed, wpOp P ops Q i (fun a' w' => Till A C st (listed.setIfInBounds i true) w' ∧ wpU P md ops Q A C st n (listed.setIfInBounds i true) a' w') a w
theorem wpAny_of_wpU : ∀ (n : Nat) (listed : Array Bool) (a : Act) (w : World), wpU P md ops Q A C st n listed a w → wpAny P md ops Q n listed a w
  | 0, _, _, _, h => h
  | n + 1, _, _, _, h => ⟨h.1, fun i hi => wpOp_mono (fun a' w' h' => wpAny_of_wpU n _ a' w' h'.2) (h.2 i hi)⟩
theorem set_other {listed : Array Bool} {i k : Nat} (h : i ≠ k) (d : Bool) : (listed.setIfInBounds i true).getD k d = listed.getD k d := by
  simp [Array.getD_eq_getD_getElem?, Array.getElem?_setIfInBounds, h]
/-- A load that the store waits for, or what yields by A alone. -/
def Early (P : Program) (md : Region.Mode) (ops : Array Oper) (A C : World → Prop) (st i : Nat) (oi : Oper) (v : Value) (a : Act) : Prop :=
  (Region.waitsFor md ops st i = true ∧ YieldsIf P ops (fun w => A w ∧ C w) oi v a) ∨ YieldsIf P ops A oi v a
theorem Early.of_same {i : Nat} {oi : Oper} {v : Value} {a a' : Act} (h : Early P md ops A C st i oi v a) (h1 : ∀ S, YieldsIf P ops S oi v a → YieldsIf P ops S oi v a') : Early P md ops A C st i oi v a' :=
  h.imp (fun h => ⟨h.1, h1 _ h.2⟩) (h1 _)
theorem wpU_first {i : Nat} {oi : Oper} {v : Value} (hi : ops[i]? = some oi) (hsel : ∀ (j : Nat) (o : Oper) cs b, ops[j]? = some o → o.op ≠ .select cs b) (hst : i ≠ st)
    (hQ : ∀ c a w, Q (.panic c) (a.put oi.dst v) w → Q (.panic c) a w) :
    ∀ (n : Nat) (listed : Array Bool) (a : Act) (w : World),
      (∀ j oj, ops[j]? = some oj → j ≠ i → listed.getD j true = false → (∀ e ∈ oj.after, Region.binds md e = true → e.on ≠ i) → oi.apart ops oj = true) →
      i ∈ Region.ready md ops listed → ((Region.waitsFor md ops st i = true ∧ YieldsIf P ops (fun w => A w ∧ C w) oi v a ∧ listed.getD st false = false) ∨ YieldsIf P ops A oi v a) → Till A C st listed w →
      wpU P md ops Q A C st n (listed.setIfInBounds i true) (a.put oi.dst v) w → wpU P md ops Q A C st (n + 1) listed a w := by
  intro n
  induction n with
  | zero =>
    intro listed a w _ hr hy hS H
    refine ⟨fun h => (by rw [h] at hr; cases hr), fun j hj => ?_⟩
    by_cases hji : j = i
    · subst hji
      have hT : Till A C st (listed.setIfInBounds j true) w := ⟨hS.1, fun h => hS.2 (by rwa [set_other hst] at h)⟩
      rcases hy with ⟨_, hy, hl⟩ | hy
      · exact hy.wpOp hi ⟨hS.1, hS.2 hl⟩ ⟨hT, H⟩
      · exact hy.wpOp hi hS.1 ⟨hT, H⟩
    · have := ready_mono hj hji
      rw [H.1] at this
      cases this
  | succ n ih =>
    intro listed a w hfree hr hy hS H
    refine ⟨fun h => (by rw [h] at hr; cases hr), fun j hj => ?_⟩
    by_cases hji : j = i
    · subst hji
      have hT : Till A C st (listed.setIfInBounds j true) w := ⟨hS.1, fun h => hS.2 (by rwa [set_other hst] at h)⟩
      rcases hy with ⟨_, hy, hl⟩ | hy
      · exact hy.wpOp hi ⟨hS.1, hS.2 hl⟩ ⟨hT, H⟩
      · exact hy.wpOp hi hS.1 ⟨hT, H⟩
    · have h1 := H.2 j (ready_mono hj hji)
      obtain ⟨hjun, oj, hoj, hall⟩ := mem_ready.1 hj
      have h0 := (mem_ready.1 hr).1
      have hnot : ∀ e ∈ oj.after, Region.binds md e = true → e.on ≠ i := fun e he hb heq => by
        have h1 := hall e he hb
        rw [heq, getD_both h0] at h1
        cases h1
      have hfree' : ∀ k ok, ops[k]? = some ok → k ≠ i → (listed.setIfInBounds j true).getD k true = false →
          (∀ e ∈ ok.after, Region.binds md e = true → e.on ≠ i) → oi.apart ops ok = true := fun k ok hk hki hun hno => by
        refine hfree k ok hk hki ?_ hno
        by_cases hjk : j = k
        · subst hjk; exact hjun
        · rw [set_other hjk] at hun; exact hun
      have hback : ∀ w', Till A C st ((listed.setIfInBounds i true).setIfInBounds j true) w' → Till A C st (listed.setIfInBounds j true) w' := fun w' h => ⟨h.1, fun h2 => h.2 (by
        rw [Array.setIfInBounds_comm _ _ (Ne.symm hji), set_other hst]
        exact h2)⟩
      rcases hy with ⟨hwt, hy, hl⟩ | hy
      · have hjst : j ≠ st := fun h => by
          subst h
          obtain ⟨o', ho', e, he, hb, hon⟩ := Region.waitsFor_spec hwt
          have : o' = oj := Option.some.inj (ho'.symm.trans hoj)
          subst this
          exact hnot e he hb hon
        have h2 := wpOp_putIf hoj (hfree j oj hoj hji hjun hnot) (fun cs b => hsel i oi cs b hi) (fun cs b => hsel j oj cs b hoj) hQ hy h1
        refine wpOp_mono (fun a' w' h3 => ⟨hback w' h3.2.1, ih (listed.setIfInBounds j true) a' w' hfree' (ready_mono hr (Ne.symm hji)) (.inl ⟨hwt, h3.1, by rw [set_other hjst]; exact hl⟩) (hback w' h3.2.1) ?_⟩) h2
        rw [Array.setIfInBounds_comm _ _ hji]
        exact h3.2.2
      · have h2 := wpOp_putIf hoj (hfree j oj hoj hji hjun hnot) (fun cs b => hsel i oi cs b hi) (fun cs b => hsel j oj cs b hoj) hQ hy h1
        refine wpOp_mono (fun a' w' h3 => ⟨hback w' h3.2.1, ih (listed.setIfInBounds j true) a' w' hfree' (ready_mono hr (Ne.symm hji)) (.inr h3.1) (hback w' h3.2.1) ?_⟩) h2
        rw [Array.setIfInBounds_comm _ _ hji]
        exact h3.2.2
/-- Number i first: a load of a cell that the store turns. -/
theorem wpU_load {i : Nat} {oi : Oper} {v : Value} {n : Nat} {listed : Array Bool} {a : Act} {w : World} (hi : ops[i]? = some oi)
    (hs : (Region.noSelect ops && Region.free md ops listed i && (Region.ready md ops listed).contains i && Region.waitsFor md ops st i && !listed.getD st false && decide (i ≠ st)) = true)
    (hQ : ∀ c a w, Q (.panic c) (a.put oi.dst v) w → Q (.panic c) a w) (hw : Region.wanted oi (yielded ops a.tmps) = true) (hT : Till A C st listed w) (hy : ∀ w, A w ∧ C w → (execOp a.eval oi).run P w = .ok (.value v) w)
    (h : Till A C st (listed.setIfInBounds i true) w → wpU P md ops Q A C st n (listed.setIfInBounds i true) (a.put oi.dst v) w) : wpU P md ops Q A C st (n + 1) listed a w := by
  simp only [Bool.and_eq_true, decide_eq_true_eq, Bool.not_eq_true'] at hs
  obtain ⟨⟨⟨⟨⟨h1, h2⟩, h3⟩, h4⟩, h5⟩, h6⟩ := hs
  exact wpU_first hi (Region.noSelect_spec h1) h6 hQ n listed a w (Region.free_spec hi h2) (by simpa using h3) (.inl ⟨h4, .inl ⟨hw, hy⟩, h5⟩) hT (h ⟨hT.1, fun h => hT.2 (by rwa [set_other h6] at h)⟩)
/-- Number i first: what yields by A. -/
theorem wpU_take {i : Nat} {oi : Oper} {v : Value} {n : Nat} {listed : Array Bool} {a : Act} {w : World} (hi : ops[i]? = some oi)
    (hs : (Region.noSelect ops && Region.free md ops listed i && (Region.ready md ops listed).contains i && decide (i ≠ st)) = true)
    (hQ : ∀ c a w, Q (.panic c) (a.put oi.dst v) w → Q (.panic c) a w) (hw : Region.wanted oi (yielded ops a.tmps) = true) (hT : Till A C st listed w) (hy : ∀ w, A w → (execOp a.eval oi).run P w = .ok (.value v) w)
    (h : Till A C st (listed.setIfInBounds i true) w → wpU P md ops Q A C st n (listed.setIfInBounds i true) (a.put oi.dst v) w) : wpU P md ops Q A C st (n + 1) listed a w := by
  simp only [Bool.and_eq_true, decide_eq_true_eq] at hs
  obtain ⟨⟨⟨h1, h2⟩, h3⟩, h4⟩ := hs
  exact wpU_first hi (Region.noSelect_spec h1) h4 hQ n listed a w (Region.free_spec hi h2) (by simpa using h3) (.inr (.inl ⟨hw, hy⟩)) hT (h ⟨hT.1, fun h => hT.2 (by rwa [set_other h4] at h)⟩)
theorem till_set {i : Nat} {listed : Array Bool} {w : World} (hT : Till A C st listed w) (hst : i ≠ st) : Till A C st (listed.setIfInBounds i true) w := ⟨hT.1, fun h => hT.2 (by rwa [set_other hst] at h)⟩
/-- There is but one that may come up. -/
theorem wpU_one {i : Nat} {oi : Oper} {n : Nat} {listed : Array Bool} {a : Act} {w : World} (hi : ops[i]? = some oi) (hr : Region.ready md ops listed = [i]) (hg : oi.guard = none)
    (h : ∀ K : Act → World → Prop, (∀ a' w', Till A C st (listed.setIfInBounds i true) w' → (Till A C st (listed.setIfInBounds i true) w' → wpU P md ops Q A C st n (listed.setIfInBounds i true) a' w') → K a' w') → Oper.wp P oi a w K Q) : wpU P md ops Q A C st (n + 1) listed a w := by
  refine ⟨fun h0 => (by rw [hr] at h0; cases h0), fun j hj => ?_⟩
  rw [hr] at hj
  obtain rfl : j = i := by simpa using hj
  refine wpOp_step hi fun K hK => ?_
  rw [if_pos (by simp [Region.wanted, hg])]
  exact h K (fun a' w' h1 h2 => hK a' w' ⟨h1, h2 h1⟩)
theorem wpU_done {listed : Array Bool} {a : Act} {w : World} (hr : Region.ready md ops listed = []) (h : Q .normal a w) : ∀ n, wpU P md ops Q A C st n listed a w
  | 0 => ⟨hr, h⟩
  | _ + 1 => ⟨fun _ => h, by rw [hr]; simp⟩
theorem wp_region_till {id : Nat} {a : Act} {w : World} (hm : P.follows .mixedOrders = true) (hS : Till A C st (Array.replicate ops.size false) w.drew)
    (h : Till A C st (Array.replicate ops.size false) w.drew → wpU P .any ops Q A C st ops.size (Array.replicate ops.size false) a w.drew) : (Code.region id ops true).wp P Q a w :=
  wp_region_any hm (wpAny_of_wpU _ _ _ _ (h hS))
end
end Go.Proofs.YtbhljokhcmfgjaaGreat.P
