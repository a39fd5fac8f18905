import Derived.Test.YtbhljokhcmfgjaaTBar4
import Derived.Deep.AppendLies
/- What bar.Radical needs besides: need without boxes, an append to nothing, as steps over Pd. -/
set_option linter.unusedVariables false
set_option linter.unusedSimpArgs false
namespace Go.Proofs.Ytbhljokhcmfgjaa.P
open Go.RowKit Go.Proofs.YtbhljokhcmfgjaaW.PrintWords Go.Proofs.YtbhljokhcmfgjaaW.PrintLast Go.Proofs.YtbhljokhcmfgjaaW.PrintMore

theorem Pd.getb {w W : World} {L : List (Nat × Obj)} {b : Nat} {o : Obj} (h : Pd w W L) (hm : (b, o) ∈ L) : W.heap[b]? = some o := (h.loc _ hm).1
/-- A call whose last argument is a row of so many: to tell arms apart. -/
theorem len_gate {P : Program} {f : FuncId} {a : Value} {A : Option Addr} {W : World} {R : Ending → World → Prop} (n : Nat) (h : Calls P f #[a, .slice A n n] W R) : Calls P f #[a, .slice A n n] W R := h
theorem box_c1 {W : World} {b : Nat} {v0 v1 v2 v3 v4 v5 v6 : Value} {t : TypeId} (h : W.heap[b]? = some (.cells #[v0, v1, v2, v3, v4, v5, v6] t (0, 0))) : W.cell? ⟨b, 1, none⟩ = some v1 := blk_cell h 1
theorem box_c2 {W : World} {b : Nat} {v0 v1 v2 v3 v4 v5 v6 : Value} {t : TypeId} (h : W.heap[b]? = some (.cells #[v0, v1, v2, v3, v4, v5, v6] t (0, 0))) : W.cell? ⟨b, 2, none⟩ = some v2 := blk_cell h 2
theorem bs_c4 {W : World} {b q : Nat} {v0 v1 v2 v3 v4 v5 v6 u0 u1 u2 u3 u4 u5 u6 : Value} {t t1 : TypeId} (h : W.heap[b]? = some (.cells #[v0, v1, v2, v3, v4, v5, v6] t (0, 0))) (h1 : W.heap[q]? = some (.cells #[u0, u1, u2, u3, u4, u5, u6] t1 (0, 0))) : W.cell? ⟨b, 2, none⟩ = some v2 ∧ W.cell? ⟨b, 3, none⟩ = some v3 ∧ W.cell? ⟨q, 2, none⟩ = some u2 ∧ W.cell? ⟨q, 3, none⟩ = some u3 := ⟨blk_cell h 2, blk_cell h 3, blk_cell h1 2, blk_cell h1 3⟩
/-- A row of kids in a block of the call's own. -/
def RowAt (w : World) (q : Nat) (o : Obj) (xs : List S41) : Prop := ∃ css, Each (k41.K w) xs css ∧ ∀ W_ : World, W_.heap[q]? = some o → ∀ j u, css.flatten[j]? = some u → W_.cell? ((⟨q, 0, none⟩ : Addr).add j) = some u
theorem RowAt.src {w : World} {q : Nat} {o : Obj} {xs : List S41} (h : RowAt w q o xs) (M : List (Nat × Obj)) : ∃ css, Src w ((q, o) :: M) (some ⟨q, 0, none⟩) xs css := by
  obtain ⟨css, h1, h2⟩ := h
  exact ⟨css, h1, fun _ => ⟨_, rfl, fun W' hP j u hu => h2 W' hP.hd j u hu⟩⟩
theorem cells_C {α : Type} {d : Kd α} {w : World} {b : Nat} {xs : List α} {css : List (List Value)} (hK : Each (d.K w) xs css) (hb : ∀ j u, css.flatten[j]? = some u → w.cell? ⟨b, j, none⟩ = some u) (hl : xs.length ≤ 9223372036854775807) : d.C w (some ⟨b, 0, none⟩) xs.length xs := by
  refine ⟨rfl, hl, fun _ => ⟨_, rfl, fun j p hp => ?_⟩⟩
  obtain ⟨c, hc, hk⟩ := hK.get j p hp
  refine ⟨c, d.K_len hk, hk, fun i u hu => ?_⟩
  have h := flat_get d.sz css hK.lens j i c u hc hu
  have ha : (⟨b, 0, none⟩ : Addr).add (j * d.sz + i) = ⟨b, j * d.sz + i, none⟩ := by
    unfold Addr.add
    split
    · next h => rw [h]
    · simp
  rw [ha]
  exact hb _ _ h
theorem each_len {α : Type} {R : α → List Value → Prop} : ∀ {xs : List α} {css : List (List Value)}, Each R xs css → xs.length = css.length
  | [], [], _ => rfl
  | _ :: _, _ :: _, h => by simp [each_len h.2]
theorem flat_len {n : Nat} : ∀ {css : List (List Value)}, (∀ c ∈ css, c.length = n) → css.flatten.length = css.length * n
  | [], _ => by simp
  | c :: css, h => by
    rw [List.flatten_cons, List.length_append, h c List.mem_cons_self, flat_len (fun c hc => h c (List.mem_cons_of_mem _ hc)), List.length_cons, Nat.add_mul, Nat.one_mul, Nat.add_comm]
section
variable {ops : Array Oper} {o : Oper} {a : Act} {K : Act → World → Prop} {Q : Exit → Act → World → Prop} {E : Prop}
/-- The goal is an append: a look at its text. Ahead of every arm that lays an operation open: arms are tried at EVERY step of a region. -/
theorem gate_app {P : Program} {d : Option Tmp} {x : Array Operand} {tx : Array TypeId} {t1 : TypeId} {ps : String} {af : Array Edge} {gd : Option (Nat × Bool)} {W : World} (h : if Region.wanted ⟨d, .call { callee := .builtin .append, args := x, argTypes := tx }, t1, ps, af, gd⟩ (yielded ops a.tmps) = true then Oper.wp P ⟨d, .call { callee := .builtin .append, args := x, argTypes := tx }, t1, ps, af, gd⟩ a W K Q else E) : if Region.wanted ⟨d, .call { callee := .builtin .append, args := x, argTypes := tx }, t1, ps, af, gd⟩ (yielded ops a.tmps) = true then Oper.wp P ⟨d, .call { callee := .builtin .append, args := x, argTypes := tx }, t1, ps, af, gd⟩ a W K Q else E := h
set_option maxRecDepth 100000 in
theorem append_pd {w W : World} {L : List (Nat × Obj)} {b n : Nat} {t1 : TypeId} (hgd : o.guard = none) (s x : Operand) (ho : o.op = .call { callee := .builtin .append, args := #[s, x], argTypes := #[23, 23] }) (hs : a.eval s = .slice none 0 0) (hx : a.eval x = .slice (some ⟨b, 0, none⟩) n n)
    (xs : List S41) (css : List (List Value)) (hlen : n = xs.length) (h0 : 0 < n) (hn : n ≤ 1000) (hB : W.heap[b]? = some (.cells css.flatten.toArray t1 (0, 0))) (h : Pd w W L) (hK : Each (k41.K w) xs css) (h1 : ∀ u ∈ css.flatten, u.oneCell' = true)
    (k : ∀ q cap o1 w', Pd w w' ((q, o1) :: L) → xs.length ≤ cap → RowAt w q o1 xs → K (a.put o.dst (.slice (some ⟨q, 0, none⟩) xs.length cap)) w') :
    if Region.wanted o (yielded ops a.tmps) = true then Oper.wp Try.prog o a W K Q else E := by
  subst hlen
  obtain ⟨i, hi, hz, hs9, hby⟩ := info_parts info41
  have hl9 : css.flatten.length = xs.length * 9 := by rw [flat_len (n := 9) hK.lens, each_len hK]
  refine step_append_lies W hgd s x 23 ho W.heap.size 41 i _ 9 88 Try.underlying23 hi hz hs9 hby rfl (by omega) (.slice none 0 0) 0 [] hs (World.ownsRow_nil _ _ _ _) ⟨b, 0, none⟩ xs.length xs.length css.flatten hx hl9 ?_ h1 h0 (by simp only [maxLen]; omega) (by omega) (Nat.le_refl _) W.heap.size rfl ?_
  · intro j u hu
    have ha : (⟨b, 0, none⟩ : Addr).add j = ⟨b, j, none⟩ := by
      unfold Addr.add
      split
      · next h => rw [h]
      · simp
    rw [ha, blk_cell hB]
    simpa using hu
  · intro q cap w' hown hgrow hat hlt
    simp only [Nat.zero_add, List.nil_append] at hown ⊢
    obtain ⟨_, h2⟩ := hown
    rcases h2 with ⟨h3, _⟩ | ⟨g, c, cur, h3, hge, hcur, h4, _, hsz, htk⟩
    · cases h3
    · injection h3 with h5 h6 h7
      injection h5 with h5
      injection h5 with h5
      subst h5 h7
      have hB2 : Below W.heap.size W w' := (Below.refl _ _).grown hgrow (Nat.le_refl _) (fun k hk => by cases hk)
      have hP : Pd w w' ((q, .cells cur 41 (0, 0)) :: L) :=
        ⟨⟨below_step h.bel hB2, fun p hp => by
            rcases List.mem_cons.1 hp with rfl | hp
            · exact ⟨hcur, Nat.le_trans h.bel.size hge⟩
            · exact ((h.below hB2).loc p hp)⟩,
          List.Pairwise.cons (fun p hp => by have := blk_lt (h.loc p hp).1; show p.1 ≠ q; omega) h.dis⟩
      refine k q cap _ w' hP h4 ⟨css, hK, fun W_ hq j u hu => ?_⟩
      have hj : j < xs.length * 9 := by
        have := (List.getElem?_eq_some_iff.1 hu).1
        omega
      have ha : (⟨q, 0, none⟩ : Addr).add j = ⟨q, j, none⟩ := by
        unfold Addr.add
        split
        · next h => rw [h]
        · simp
      rw [ha, blk_cell hq, ← Array.getElem?_toList, ← hu, ← htk, List.getElem?_take, if_pos hj]
end
section
variable {w W W1 : World} {L : List (Nat × Obj)} {g : Nat} {e : Int} {rest : List Value} {t : TypeId}
set_option maxRecDepth 100000 in
set_option maxHeartbeats 1000000 in
theorem need_nil_pd (h : Pd w W ((g, .cells (Value.int .i64 e :: rest).toArray t (0, 0)) :: L)) : Calls Try.prog 68 #[.pointer (some ⟨g, 0, none⟩), .slice none 0 0] W fun r w' => r = .returned (.tuple #[]) ∧ Pd w w' ((g, .cells (Value.int .i64 e :: rest).toArray t (0, 0)) :: L) := by
  have HP := Aside0.mk h
  clear h
  go_enter Try.func68, Try.ntmps68
  go_wp2
  go_loopw [8] (fun i wr => i = .int .i64 0 ∧ Aside0 (Pd w wr ((g, .cells (Value.int .i64 e :: rest).toArray t (0, 0)) :: L))) (fun i _ => 0)
  case atStart => exact ⟨rfl, HP⟩
  case round =>
    obtain ⟨rfl, HP⟩ := hrel
    go_wp2
    go_end0
    exact ⟨rfl, HP.out⟩
theorem Pd.perm {L1 L2 : List (Nat × Obj)} (h : Pd w W L1) (hp : L1.Perm L2) : Pd w W L2 :=
  ⟨⟨h.bel, fun p hp2 => h.loc p (hp.mem_iff.2 hp2)⟩, (hp.pairwise_iff (fun {a b} hab => hab.symm)).1 h.dis⟩
theorem sum2_nx {b : Nat} {t1 : TypeId} {x0 x1 : Int} (h : Pd w W ((g, .cells (Value.int .i64 e :: rest).toArray t (0, 0)) :: (b, .cells #[.int .i64 x0, .int .i64 x1] t1 (0, 0)) :: L)) : Calls Try.prog 69 #[.pointer (some ⟨g, 0, none⟩), .slice (some ⟨b, 0, none⟩) 2 2] W fun r w' => r = .returned (.int .i64 (keepV e (toldOf (sumR [x0, x1]))).1) ∧ Pd w w' ((g, .cells (Value.int .i64 (keepV e (toldOf (sumR [x0, x1]))).2 :: rest).toArray t (0, 0)) :: L) :=
  (sum_pd h [x0, x1] h.tl.hd (by simp)).mono fun r w' ⟨h1, h2⟩ => ⟨h1, h2.swap.tl⟩
theorem sum2_two {b : Nat} {t1 : TypeId} {o : Obj} {x0 x1 : Int} (hB : Lit (W.alloc (.cells #[.int .i64 x0, .int .i64 x1] t1)) o W1) (h : Pd w W ((g, .cells (Value.int .i64 e :: rest).toArray t (0, 0)) :: L)) (hb : b = W.heap.size) : Calls Try.prog 69 #[.pointer (some ⟨g, 0, none⟩), .slice (some ⟨b, 0, none⟩) 2 2] W1 fun r w' => r = .returned (.int .i64 (keepV e (toldOf (sumR [x0, x1]))).1) ∧ Pd w w' ((g, .cells (Value.int .i64 (keepV e (toldOf (sumR [x0, x1]))).2 :: rest).toArray t (0, 0)) :: (W.heap.size + 1, o) :: L) := by
  subst hb
  have h1 := (h.row (.cells #[.int .i64 x0, .int .i64 x1] t1)).lit hB
  rw [alloc_size] at h1
  exact sum2_nx (h1.perm ((List.Perm.swap _ _ _).trans ((List.Perm.cons _ (List.Perm.swap _ _ _)).trans ((List.Perm.swap _ _ _)))))
theorem sum2_two' {b : Nat} {t1 : TypeId} {o : Obj} {x0 x1 : Int} (hB : Lit (W.alloc o) (.cells #[.int .i64 x0, .int .i64 x1] t1) W1) (h : Pd w W ((g, .cells (Value.int .i64 e :: rest).toArray t (0, 0)) :: L)) (hb : b = W.heap.size + 1) : Calls Try.prog 69 #[.pointer (some ⟨g, 0, none⟩), .slice (some ⟨b, 0, none⟩) 2 2] W1 fun r w' => r = .returned (.int .i64 (keepV e (toldOf (sumR [x0, x1]))).1) ∧ Pd w w' ((g, .cells (Value.int .i64 (keepV e (toldOf (sumR [x0, x1]))).2 :: rest).toArray t (0, 0)) :: (W.heap.size, o) :: L) := by
  subst hb
  have h1 := (h.row o).lit hB
  rw [alloc_size] at h1
  exact sum2_nx (h1.perm ((List.Perm.cons _ (List.Perm.swap _ _ _)).trans (List.Perm.swap _ _ _)))
theorem sum3_nx {b : Nat} {t1 : TypeId} {x0 x1 x2 : Int} (h : Pd w W ((g, .cells (Value.int .i64 e :: rest).toArray t (0, 0)) :: (b, .cells #[.int .i64 x0, .int .i64 x1, .int .i64 x2] t1 (0, 0)) :: L)) : Calls Try.prog 69 #[.pointer (some ⟨g, 0, none⟩), .slice (some ⟨b, 0, none⟩) 3 3] W fun r w' => r = .returned (.int .i64 (keepV e (toldOf (sumR [x0, x1, x2]))).1) ∧ Pd w w' ((g, .cells (Value.int .i64 (keepV e (toldOf (sumR [x0, x1, x2]))).2 :: rest).toArray t (0, 0)) :: L) :=
  (sum_pd h [x0, x1, x2] h.tl.hd (by simp)).mono fun r w' ⟨h1, h2⟩ => ⟨h1, h2.swap.tl⟩
theorem sum3_two {b : Nat} {t1 : TypeId} {o : Obj} {x0 x1 x2 : Int} (hB : Lit (W.alloc (.cells #[.int .i64 x0, .int .i64 x1, .int .i64 x2] t1)) o W1) (h : Pd w W ((g, .cells (Value.int .i64 e :: rest).toArray t (0, 0)) :: L)) (hb : b = W.heap.size) : Calls Try.prog 69 #[.pointer (some ⟨g, 0, none⟩), .slice (some ⟨b, 0, none⟩) 3 3] W1 fun r w' => r = .returned (.int .i64 (keepV e (toldOf (sumR [x0, x1, x2]))).1) ∧ Pd w w' ((g, .cells (Value.int .i64 (keepV e (toldOf (sumR [x0, x1, x2]))).2 :: rest).toArray t (0, 0)) :: (W.heap.size + 1, o) :: L) := by
  subst hb
  have h1 := (h.row (.cells #[.int .i64 x0, .int .i64 x1, .int .i64 x2] t1)).lit hB
  rw [alloc_size] at h1
  exact sum3_nx (h1.perm ((List.Perm.swap _ _ _).trans ((List.Perm.cons _ (List.Perm.swap _ _ _)).trans ((List.Perm.swap _ _ _)))))
theorem sum3_two' {b : Nat} {t1 : TypeId} {o : Obj} {x0 x1 x2 : Int} (hB : Lit (W.alloc o) (.cells #[.int .i64 x0, .int .i64 x1, .int .i64 x2] t1) W1) (h : Pd w W ((g, .cells (Value.int .i64 e :: rest).toArray t (0, 0)) :: L)) (hb : b = W.heap.size + 1) : Calls Try.prog 69 #[.pointer (some ⟨g, 0, none⟩), .slice (some ⟨b, 0, none⟩) 3 3] W1 fun r w' => r = .returned (.int .i64 (keepV e (toldOf (sumR [x0, x1, x2]))).1) ∧ Pd w w' ((g, .cells (Value.int .i64 (keepV e (toldOf (sumR [x0, x1, x2]))).2 :: rest).toArray t (0, 0)) :: (W.heap.size, o) :: L) := by
  subst hb
  have h1 := (h.row o).lit hB
  rw [alloc_size] at h1
  exact sum3_nx (h1.perm ((List.Perm.cons _ (List.Perm.swap _ _ _)).trans (List.Perm.swap _ _ _)))
theorem sum4_nx {b : Nat} {t1 : TypeId} {x0 x1 x2 x3 : Int} (h : Pd w W ((g, .cells (Value.int .i64 e :: rest).toArray t (0, 0)) :: (b, .cells #[.int .i64 x0, .int .i64 x1, .int .i64 x2, .int .i64 x3] t1 (0, 0)) :: L)) : Calls Try.prog 69 #[.pointer (some ⟨g, 0, none⟩), .slice (some ⟨b, 0, none⟩) 4 4] W fun r w' => r = .returned (.int .i64 (keepV e (toldOf (sumR [x0, x1, x2, x3]))).1) ∧ Pd w w' ((g, .cells (Value.int .i64 (keepV e (toldOf (sumR [x0, x1, x2, x3]))).2 :: rest).toArray t (0, 0)) :: L) :=
  (sum_pd h [x0, x1, x2, x3] h.tl.hd (by simp)).mono fun r w' ⟨h1, h2⟩ => ⟨h1, h2.swap.tl⟩
theorem sum4_two {b : Nat} {t1 : TypeId} {o : Obj} {x0 x1 x2 x3 : Int} (hB : Lit (W.alloc (.cells #[.int .i64 x0, .int .i64 x1, .int .i64 x2, .int .i64 x3] t1)) o W1) (h : Pd w W ((g, .cells (Value.int .i64 e :: rest).toArray t (0, 0)) :: L)) (hb : b = W.heap.size) : Calls Try.prog 69 #[.pointer (some ⟨g, 0, none⟩), .slice (some ⟨b, 0, none⟩) 4 4] W1 fun r w' => r = .returned (.int .i64 (keepV e (toldOf (sumR [x0, x1, x2, x3]))).1) ∧ Pd w w' ((g, .cells (Value.int .i64 (keepV e (toldOf (sumR [x0, x1, x2, x3]))).2 :: rest).toArray t (0, 0)) :: (W.heap.size + 1, o) :: L) := by
  subst hb
  have h1 := (h.row (.cells #[.int .i64 x0, .int .i64 x1, .int .i64 x2, .int .i64 x3] t1)).lit hB
  rw [alloc_size] at h1
  exact sum4_nx (h1.perm ((List.Perm.swap _ _ _).trans ((List.Perm.cons _ (List.Perm.swap _ _ _)).trans ((List.Perm.swap _ _ _)))))
theorem sum4_two' {b : Nat} {t1 : TypeId} {o : Obj} {x0 x1 x2 x3 : Int} (hB : Lit (W.alloc o) (.cells #[.int .i64 x0, .int .i64 x1, .int .i64 x2, .int .i64 x3] t1) W1) (h : Pd w W ((g, .cells (Value.int .i64 e :: rest).toArray t (0, 0)) :: L)) (hb : b = W.heap.size + 1) : Calls Try.prog 69 #[.pointer (some ⟨g, 0, none⟩), .slice (some ⟨b, 0, none⟩) 4 4] W1 fun r w' => r = .returned (.int .i64 (keepV e (toldOf (sumR [x0, x1, x2, x3]))).1) ∧ Pd w w' ((g, .cells (Value.int .i64 (keepV e (toldOf (sumR [x0, x1, x2, x3]))).2 :: rest).toArray t (0, 0)) :: (W.heap.size, o) :: L) := by
  subst hb
  have h1 := (h.row o).lit hB
  rw [alloc_size] at h1
  exact sum4_nx (h1.perm ((List.Perm.cons _ (List.Perm.swap _ _ _)).trans (List.Perm.swap _ _ _)))
theorem half_pd (h : Pd w W L) (a : Int) : Calls Try.prog 98 #[.int .i64 a] W fun r w' => r = .returned (.tuple #[.int .i64 (toldOf (halfR a)).1, .int .i64 (toldOf (halfR a)).2]) ∧ Pd w w' L := by
  obtain ⟨p, hp⟩ : ∃ p, p = toldOf (halfR a) := ⟨_, rfl⟩
  rw [← hp]
  exact (fixed_Half.calls a p.1 p.2 W (by rw [fixed_Half.f, ← hp])).mono fun r w' ⟨h1, h2⟩ => ⟨h1, h.below h2⟩
theorem sum2_q {q b : Nat} {o : Obj} {t1 : TypeId} {x0 x1 : Int} (hB : Lit W (.cells #[.int .i64 x0, .int .i64 x1] t1) W1) (h : Pd w W ((q, o) :: (g, .cells (Value.int .i64 e :: rest).toArray t (0, 0)) :: L)) (hb : b = W.heap.size) : Calls Try.prog 69 #[.pointer (some ⟨g, 0, none⟩), .slice (some ⟨b, 0, none⟩) 2 2] W1 fun r w' => r = .returned (.int .i64 (keepV e (toldOf (sumR [x0, x1]))).1) ∧ Pd w w' ((q, o) :: (g, .cells (Value.int .i64 (keepV e (toldOf (sumR [x0, x1]))).2 :: rest).toArray t (0, 0)) :: L) :=
  (sum2_pd hB h.swap hb).mono fun r w' ⟨h1, h2⟩ => ⟨h1, h2.swap⟩
theorem set_own {q cap : Nat} {o : Obj} (wd : Int) (xs : List S41) (hx : xs.length < 1599289640401) (hl : xs.length ≤ cap) (h : Pd w W ((q, o) :: (g, .cells (Value.int .i64 e :: rest).toArray t (0, 0)) :: L)) (hq : RowAt w q o xs) : Calls Try.prog 70 #[.pointer (some ⟨g, 0, none⟩), .int .i64 wd, .slice (some ⟨q, 0, none⟩) xs.length cap] W fun r w' => ∃ A1 n1, r = .returned (.tuple #[.agg #[.int .i64 (setV e wd xs).1, .int .i64 (setV e wd xs).2.1, .int .i64 (setV e wd xs).2.2.1, .int .i64 (setV e wd xs).2.2.2.1, .int .i64 (setV e wd xs).2.2.2.2.1, .int .i64 (setV e wd xs).2.2.2.2.2.1, .slice A1 (setV e wd xs).2.2.2.2.2.2.1.length n1], .int .i64 (setV e wd xs).2.2.2.2.2.2.2]) ∧ (setV e wd xs).2.2.2.2.2.2.1.length ≤ n1 ∧ Kd.F k41 w' (fun k => ∀ p ∈ (g, Obj.cells (Value.int .i64 e :: rest).toArray t (0, 0)) :: L, k ≠ p.1) A1 (setV e wd xs).2.2.2.2.2.2.1.length (setV e wd xs).2.2.2.2.2.2.1 ∧ Pd w w' ((g, .cells (Value.int .i64 e :: rest).toArray t (0, 0)) :: L) := by
  obtain ⟨css, hS⟩ := hq.src ((g, .cells (Value.int .i64 e :: rest).toArray t (0, 0)) :: L)
  refine (set_pd wd xs hx h.swap (hS.mono fun _ h => h.swap)).mono ?_
  rintro r w' ⟨A1, n1, h2, h3, h4, h5⟩
  exact ⟨A1, n1, h2, h3, Kd.F_mono h4 (fun k hk p hp => hk p (by
    rcases List.mem_cons.1 hp with rfl | hp
    · exact List.mem_cons_self
    · exact List.mem_cons_of_mem _ (List.mem_cons_of_mem _ hp))), h5.skip⟩
end
end Go.Proofs.Ytbhljokhcmfgjaa.P
