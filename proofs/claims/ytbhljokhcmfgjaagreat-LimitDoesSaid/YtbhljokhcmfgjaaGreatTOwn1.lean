import Derived.Test.YtbhljokhcmfgjaaGreatTPB
import Derived.Deep.RegionLawGrows
/- A slice of the call's own beside the caller's blocks: nil at first, or a row in a block of its own; what it holds, and append. -/
set_option linter.unusedVariables false
set_option linter.unusedSimpArgs false
namespace Go.Proofs.YtbhljokhcmfgjaaGreat.P
open Go.RowKit Go.Proofs.YtbhljokhcmfgjaaGreatW.PrintWords Go.Proofs.YtbhljokhcmfgjaaGreatW.PrintLast Go.Proofs.YtbhljokhcmfgjaaGreatW.PrintMore

section
variable {w W W1 : World} {L : List (Nat × Obj)}
theorem Pd.swp {a b : Nat × Obj} (h : Pd w W (a :: b :: L)) : Pd w W (b :: a :: L) :=
  ⟨⟨h.bel, fun p hp => h.loc p (by rcases List.mem_cons.1 hp with rfl | hp
                                   · exact List.mem_cons_of_mem _ List.mem_cons_self
                                   · rcases List.mem_cons.1 hp with rfl | hp
                                     · exact List.mem_cons_self
                                     · exact List.mem_cons_of_mem _ (List.mem_cons_of_mem _ hp))⟩,
   List.Pairwise.cons (fun p hp => by
      rcases List.mem_cons.1 hp with rfl | hp
      · exact fun he => (List.pairwise_cons.1 h.dis).1 b List.mem_cons_self he.symm
      · exact (List.pairwise_cons.1 (List.pairwise_cons.1 h.dis).2).1 p hp)
    (List.Pairwise.cons (fun p hp => (List.pairwise_cons.1 h.dis).1 p (List.mem_cons_of_mem _ hp)) (List.pairwise_cons.1 (List.pairwise_cons.1 h.dis).2).2)⟩
theorem Pd.drewM (h : Pd w W L) (n : Nat) : Pd w (W.drewN n) L := h.below (pw_below_drewN (Below.refl _ _) n)
theorem Pd.alc (h : Pd w W L) (o : Obj) : Pd w (W.alloc o) L := h.below ((Below.refl _ _).alloc (Nat.le_refl _) o)
end
/-- Each element's cells, one more. -/
theorem Each.snoc {α : Type} {R : α → List Value → Prop} : ∀ {xs : List α} {css : List (List Value)} {x : α} {c : List Value}, Each R xs css → R x c → Each R (xs ++ [x]) (css ++ [c])
  | [], [], _, _, _, h => ⟨h, trivial⟩
  | _ :: _, _ :: _, _, _, h, h2 => ⟨h.1, Each.snoc h.2 h2⟩
theorem Each.flat {α : Type} {R : α → List Value → Prop} {n : Nat} (hR : ∀ x c, R x c → c.length = n) : ∀ {xs : List α} {css : List (List Value)}, Each R xs css → css.flatten.length = xs.length * n
  | [], [], _ => by simp
  | _ :: xs, _ :: _, h => by
    rw [List.flatten_cons, List.length_append, hR _ _ h.1, Each.flat hR h.2, List.length_cons, Nat.succ_mul]
    omega
theorem cells_Cr {α : Type} {d : Kd α} {w : World} {b : Nat} {xs : List α} {css : List (List Value)} (hK : Each (d.K w) xs css) (hb : ∀ j u, css.flatten[j]? = some u → w.cell? ⟨b, j, none⟩ = some u) (hl : xs.length ≤ 9223372036854775807) : d.C w (some ⟨b, 0, none⟩) xs.length xs := by
  refine ⟨rfl, hl, fun _ => ⟨_, rfl, fun j p hp => ?_⟩⟩
  obtain ⟨c, hc, hk⟩ := hK.get j p hp
  refine ⟨c, d.K_len hk, hk, fun i u hu => ?_⟩
  have h := flat_get d.sz css hK.lens j i c u hc hu
  have ha : (⟨b, 0, none⟩ : Addr).add (j * d.sz + i) = ⟨b, j * d.sz + i, none⟩ := by
    unfold Addr.add
    split
    · next h => rw [h]
    · simp
  rw [ha]
  exact hb _ _ h
/-- The slice v of the call's own holds xs; besides there are the blocks L. -/
def Row {α : Type} (d : Kd α) (e : TypeId) (w W : World) (L : List (Nat × Obj)) (v : Value) (xs : List α) : Prop :=
  (v = .slice none 0 0 ∧ xs = [] ∧ Pd w W L) ∨
  (∃ q cap cur css, v = .slice (some ⟨q, 0, none⟩) xs.length cap ∧ Each (d.K w) xs css ∧ Pd w W ((q, .cells cur e (0, 0)) :: L) ∧ xs.length ≤ cap ∧ cap ≤ maxLen ∧ cur.size = cap * d.sz ∧ cur.toList.take (xs.length * d.sz) = css.flatten)
section
variable {α : Type} {d : Kd α} {e : TypeId} {w W W1 : World} {L : List (Nat × Obj)} {v : Value} {xs : List α}
theorem Row.nil (h : Pd w W L) : Row d e w W L (.slice none 0 0) [] := .inl ⟨rfl, rfl, h⟩
theorem Row.pd (h : Row d e w W L v xs) : Pd w W L := by
  rcases h with ⟨_, _, h⟩ | ⟨_, _, _, _, _, _, h, _⟩
  · exact h
  · exact h.tl
theorem Row.map {L1 : List (Nat × Obj)} (h : Row d e w W L v xs) (h0 : Pd w W L → Pd w W1 L1) (h1 : ∀ p, Pd w W (p :: L) → Pd w W1 (p :: L1)) : Row d e w W1 L1 v xs := by
  rcases h with ⟨h2, h3, h⟩ | ⟨q, cap, cur, css, h2, h3, h, h4⟩
  · exact .inl ⟨h2, h3, h0 h⟩
  · exact .inr ⟨q, cap, cur, css, h2, h3, h1 _ h, h4⟩
theorem Row.below (h : Row d e w W L v xs) (hB : Below W.heap.size W W1) : Row d e w W1 L v xs := h.map (fun h => h.below hB) (fun _ h => h.below hB)
theorem Row.drew (h : Row d e w W L v xs) : Row d e w W.drew L v xs := h.below (Below.refl _ _).drew
theorem Row.drewM (h : Row d e w W L v xs) (n : Nat) : Row d e w (W.drewN n) L v xs := h.below (pw_below_drewN (Below.refl _ _) n)
theorem Row.alc (h : Row d e w W L v xs) (o : Obj) : Row d e w (W.alloc o) L v xs := h.below ((Below.refl _ _).alloc (Nat.le_refl _) o)
theorem Row.box (h : Row d e w W L v xs) {b : Nat} {o : Obj} (hg : b = W.heap.size) (hb : W1.heap[b]? = some o) (hB : Below W.heap.size W W1) : Row d e w W1 ((b, o) :: L) v xs := h.map (fun h => h.box hg hb hB) (fun _ h => (h.box hg hb hB).swp)
theorem Row.tl {p : Nat × Obj} (h : Row d e w W (p :: L) v xs) : Row d e w W L v xs := h.map (fun h => h.tl) (fun _ h => h.swp.tl)
theorem Row.put {g : Nat} {o o1 : Obj} (h : Row d e w W ((g, o) :: L) v xs) (hq : W1.heap[g]? = some o1) (hh : ∀ k, k ≠ g → W1.heap[k]? = W.heap[k]?) (hB : Below w.heap.size w W1) : Row d e w W1 ((g, o1) :: L) v xs :=
  h.map (fun h => h.put hq hh hB) (fun _ h => (h.swp.put hq hh hB).swp)
theorem Row.swp {a b : Nat × Obj} (h : Row d e w W (a :: b :: L) v xs) : Row d e w W (b :: a :: L) v xs :=
  h.map (fun h => h.swp) (fun p h => (Pd.swp (Pd.swp h).tl |> fun h2 => ⟨⟨h.bel, fun q hq => h.loc q (by
      rcases List.mem_cons.1 hq with rfl | hq
      · exact List.mem_cons_self
      · rcases List.mem_cons.1 hq with rfl | hq
        · exact List.mem_cons_of_mem _ (List.mem_cons_of_mem _ List.mem_cons_self)
        · rcases List.mem_cons.1 hq with rfl | hq
          · exact List.mem_cons_of_mem _ List.mem_cons_self
          · exact List.mem_cons_of_mem _ (List.mem_cons_of_mem _ (List.mem_cons_of_mem _ hq)))⟩,
    List.Pairwise.cons (fun q hq => (List.pairwise_cons.1 h.dis).1 q (by
      rcases List.mem_cons.1 hq with rfl | hq
      · exact List.mem_cons_of_mem _ List.mem_cons_self
      · rcases List.mem_cons.1 hq with rfl | hq
        · exact List.mem_cons_self
        · exact List.mem_cons_of_mem _ (List.mem_cons_of_mem _ hq))) (Pd.swp h.tl).dis⟩))
/-- The address and the capacity; what is read there. -/
theorem Row.reads (h : Row d e w W L v xs) (hd : Kd.Heap d) (hx : xs.length ≤ 9223372036854775807) : ∃ A n, v = .slice A xs.length n ∧ xs.length ≤ n ∧ Kd.F d W (fun k => ∀ p ∈ L, k ≠ p.1) A xs.length xs := by
  rcases h with ⟨rfl, rfl, h⟩ | ⟨q, cap, cur, css, rfl, hK, h, hc, hm, hs, ht⟩
  · exact ⟨none, 0, rfl, Nat.le_refl _, fun W' _ => ⟨rfl, by simp, fun h => absurd h (Nat.lt_irrefl 0)⟩⟩
  · refine ⟨some ⟨q, 0, none⟩, cap, rfl, hc, fun W' hW => ?_⟩
    have hq : W'.heap[q]? = some (.cells cur e (0, 0)) := by
      rw [hW q (fun p hp => (fun he => (List.pairwise_cons.1 h.dis).1 p hp he.symm)) (blk_lt h.hd)]
      exact h.hd
    have hsame : ∀ k, k < w.heap.size → W'.heap[k]? = w.heap[k]? := fun k hk => by
      rw [hW k (fun p hp he => by have := (h.tl.loc p hp).2; omega) (by have := h.bel.size; omega)]
      exact h.bel.block k hk
    have hK' := hK.imp fun x cs hx => hd.K (fun k hlt => hsame k hlt) hx
    refine cells_Cr hK' (fun j u hu => ?_) hx
    have hl := hK'.flat (fun x c h => d.K_len h)
    have hj : j < xs.length * d.sz := by
      have := (List.getElem?_eq_some_iff.1 hu).1
      omega
    rw [blk_cell hq, ← Array.getElem?_toList, ← hu, ← ht, List.getElem?_take, if_pos hj]
variable {ops : Array Oper} {o : Oper} {a : Act} {K : Act → World → Prop} {Q : Exit → Act → World → Prop} {E : Prop}
/-- append of one element that lies in a block: behind it the row holds it too. -/
theorem Row.append {ts : TypeId} {i : TypeInfo} {z : Value} {by1 : Nat} (ht : Tryz.prog.underlying ts = some (.slice e)) (hi : Tryz.prog.info? e = some i) (hz : i.zero = some z) (hsize : i.size = d.sz) (hby : i.bytes = by1) (hzs : z.cells.size = d.sz) (hsz : 0 < d.sz)
    (h : Row d e w W L v xs) (hgd : o.guard = none) (s x : Operand) (ho : o.op = .call { callee := .builtin .append, args := #[s, x], argTypes := #[ts, ts] }) (hs : a.eval s = v) {b : Nat} {t1 : TypeId} {y : α} {c : List Value} (hx : a.eval x = .slice (some ⟨b, 0, none⟩) 1 1)
    (hB : W.heap[b]? = some (.cells c.toArray t1 (0, 0))) (hK : d.K w y c) (h1 : ∀ u ∈ c, u.oneCell' = true) (hm : xs.length + 1 ≤ maxLen) (hb : (xs.length + 1) * by1 ≤ 140737488355328)
    (k : ∀ q cap w', Row d e w w' L (.slice (some ⟨q, 0, none⟩) (xs.length + 1) cap) (xs ++ [y]) → K (a.put o.dst (.slice (some ⟨q, 0, none⟩) (xs.length + 1) cap)) w') :
    if Region.wanted o (yielded ops a.tmps) = true then Oper.wp Tryz.prog o a W K Q else E := by
  have hl1 : c.length = 1 * d.sz := by rw [Nat.one_mul]; exact d.K_len hK
  have hnews : ∀ j u, c[j]? = some u → W.cell? ((⟨b, 0, none⟩ : Addr).add j) = some u := by
    intro j u hu
    have ha : (⟨b, 0, none⟩ : Addr).add j = ⟨b, j, none⟩ := by
      unfold Addr.add
      split
      · next h => rw [h]
      · simp
    rw [ha, blk_cell hB]
    simpa using hu
  have hlen : (xs ++ [y]).length = xs.length + 1 := by simp
  rcases h with ⟨rfl, rfl, h⟩ | ⟨q, cap, cur, css, rfl, hE, h, hc, hmx, hcs, htk⟩
  · refine step_append_lies W hgd s x ts ho w.heap.size e i z d.sz by1 ht hi hz hsize hby hzs hsz _ 0 [] hs (World.ownsRow_nil _ _ _ _) ⟨b, 0, none⟩ 1 1 c hx hl1 hnews h1 (by decide) hm hb h.bel.size W.heap.size rfl ?_
    intro g cap w' hown hgrow hat hlt
    obtain ⟨hlf, h2⟩ := hown
    rcases h2 with ⟨h3, _⟩ | ⟨g', cap', cur, h3, hge, hcur, h4, hmx, hcs, htk⟩
    · cases h3
    · injection h3 with h5 h6 h7
      injection h5 with h5
      injection h5 with h5
      subst h5 h7
      have hg : g = W.heap.size := by
        rcases hat with hat | hat
        · cases hat
        · exact hat
      have hB2 : Below W.heap.size W w' := (Below.refl _ _).grown hgrow (Nat.le_refl _) (fun k hk => by cases hk)
      refine k g cap w' (.inr ⟨g, cap, cur, [c], rfl, ⟨hK, trivial⟩, h.box hg hcur hB2, ?_, hmx, hcs, ?_⟩)
      · simpa using h4
      · simpa using htk
  · have hown0 : W.ownsRow w.heap.size e d.sz (.slice (some ⟨q, 0, none⟩) xs.length cap) xs.length css.flatten :=
      ⟨hE.flat (fun x c h => d.K_len h), .inr ⟨q, cap, cur, rfl, (h.loc _ List.mem_cons_self).2, h.hd, hc, hmx, hcs, htk⟩⟩
    refine step_append_lies W hgd s x ts ho w.heap.size e i z d.sz by1 ht hi hz hsize hby hzs hsz _ xs.length css.flatten hs hown0 ⟨b, 0, none⟩ 1 1 c hx hl1 hnews h1 (by decide) hm hb h.bel.size W.heap.size rfl ?_
    intro g cap1 w' hown hgrow hat hlt
    obtain ⟨hlf, h2⟩ := hown
    rcases h2 with ⟨h3, _⟩ | ⟨g', cap', cur1, h3, hge, hcur, h4, hmx1, hcs1, htk1⟩
    · cases h3
    · injection h3 with h5 h6 h7
      injection h5 with h5
      injection h5 with h5
      subst h5 h7
      have hq0 : w.heap.size ≤ q := (h.loc _ List.mem_cons_self).2
      have hbel : Below w.heap.size w w' := h.bel.grown hgrow h.bel.size (fun k hk => by cases hk; exact hq0)
      have hP : Pd w w' ((g, .cells cur1 e (0, 0)) :: L) :=
        ⟨⟨hbel, fun p hp => by
            rcases List.mem_cons.1 hp with rfl | hp
            · exact ⟨hcur, hge⟩
            · have hpl := h.tl.loc p hp
              have hne : p.1 ≠ q := (List.pairwise_cons.1 h.dis).1 p hp
              exact ⟨(hgrow.block p.1 (blk_lt hpl.1) (fun he => hne (by cases he; rfl))).trans hpl.1, hpl.2⟩⟩,
          List.Pairwise.cons (fun p hp => by
            have hpl := h.tl.loc p hp
            have hne : p.1 ≠ q := (List.pairwise_cons.1 h.dis).1 p hp
            have hlt2 := blk_lt hpl.1
            show p.1 ≠ g
            rcases hat with hat | hat
            · have : q = g := by cases hat; rfl
              rw [← this]
              exact hne
            · omega) h.tl.dis⟩
      have hv : (Value.slice (some ⟨g, 0, none⟩) (xs.length + 1) cap1) = .slice (some ⟨g, 0, none⟩) (xs ++ [y]).length cap1 := by rw [hlen]
      exact k g cap1 w' (.inr ⟨g, cap1, cur1, css ++ [c], hv, hE.snoc hK, hP, by rw [hlen]; exact h4, hmx1, hcs1, by rw [hlen, htk1]; simp⟩)
theorem Row.appendL {rest : List Oper} {ts : TypeId} {i : TypeInfo} {z : Value} {by1 : Nat} (ht : Tryz.prog.underlying ts = some (.slice e)) (hi : Tryz.prog.info? e = some i) (hz : i.zero = some z) (hsize : i.size = d.sz) (hby : i.bytes = by1) (hzs : z.cells.size = d.sz) (hsz : 0 < d.sz)
    (h : Row d e w W L v xs) (hgd : o.guard = none) (s x : Operand) (ho : o.op = .call { callee := .builtin .append, args := #[s, x], argTypes := #[ts, ts] }) (hs : a.eval s = v) {b : Nat} {t1 : TypeId} {y : α} {c : List Value} (hx : a.eval x = .slice (some ⟨b, 0, none⟩) 1 1)
    (hB : W.heap[b]? = some (.cells c.toArray t1 (0, 0))) (hK : d.K w y c) (h1 : ∀ u ∈ c, u.oneCell' = true) (hm : xs.length + 1 ≤ maxLen) (hb : (xs.length + 1) * by1 ≤ 140737488355328)
    (k : ∀ q cap w', Row d e w w' L (.slice (some ⟨q, 0, none⟩) (xs.length + 1) cap) (xs ++ [y]) → wpList Tryz.prog ops Q rest (a.put o.dst (.slice (some ⟨q, 0, none⟩) (xs.length + 1) cap)) w') : wpList Tryz.prog ops Q (o :: rest) a W :=
  wpList_plain hgd fun K hGo => by
    have h2 := Row.append (ops := ops) (Q := Q) (E := False) ht hi hz hsize hby hzs hsz h hgd s x ho hs hx hB hK h1 hm hb (fun q cap w' h => hGo _ _ (k q cap w' h))
    rwa [if_pos (by simp [Region.wanted, hgd])] at h2
end
end Go.Proofs.YtbhljokhcmfgjaaGreat.P
