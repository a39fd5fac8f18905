import Derived.Test.YtjkbblnebpgpfaaRefBar
import Derived.Deep.RegionHeld3
import Derived.Deep.Cut
/- The document's stacks (layer 26): short walks. Printed by a program of this work (mkref26.py). -/
set_option linter.unusedVariables false
set_option linter.unusedSimpArgs false
namespace Go.Proofs.Ytjkbblnebpgpfaa.P
open Go.RowKit Go.Proofs.YtjkbblnebpgpfaaW.PrintWords Go.Proofs.YtjkbblnebpgpfaaW.PrintLast Go.Proofs.YtjkbblnebpgpfaaW.PrintMore

theorem Pd.foldC {P : Program} {C : Code} {a : Act} {Q : Exit → Act → World → Prop} {w W : World} {L : List (Nat × Obj)} (h : Pd w W L) (k : ∀ W', Pd w W' L → C.wp P Q a W') : C.wp P Q a W := k W h
theorem and_assoc7 {a b c d e f g h : Prop} (x : a ∧ b ∧ c ∧ d ∧ e ∧ f ∧ g) (y : h) : a ∧ b ∧ c ∧ d ∧ e ∧ f ∧ g ∧ h := ⟨x.1, x.2.1, x.2.2.1, x.2.2.2.1, x.2.2.2.2.1, x.2.2.2.2.2.1, x.2.2.2.2.2.2, y⟩
theorem bx_c3 {W : World} {b : Nat} {x : S39} {v : Value} {t : TypeId} (h : W.heap[b]? = some (.cells #[.int .i64 x.f0, .int .i64 x.f1, .int .i64 x.f2, .int .i64 x.f3, .int .i64 x.f4, .int .i64 x.f5, v] t (0, 0))) : W.cell? ⟨b, 3, none⟩ = some (.int .i64 x.f3) := blk_cell h 3
theorem perm3 {w W : World} {a b c : Nat × Obj} {L : List (Nat × Obj)} (h : Pd w W (a :: b :: c :: L)) : Pd w W (c :: b :: a :: L) :=
  ⟨⟨h.bel, fun p hp => h.loc p (by simp only [List.mem_cons] at hp ⊢; rcases hp with h | h | h | h <;> simp [h])⟩, by
    have h1 := h.dis
    simp only [List.pairwise_cons, List.mem_cons, forall_eq_or_imp] at h1 ⊢
    obtain ⟨⟨h2, h3, h4⟩, ⟨h5, h6⟩, h7, h8⟩ := h1
    exact ⟨⟨Ne.symm h5, Ne.symm h3, h7⟩, ⟨Ne.symm h2, h6⟩, h4, h8⟩⟩
theorem g2s {P : Program} {f : FuncId} {a b : Value} {n : Nat} {W : World} {o o1 : Obj} {R : Ending → World → Prop} (h : Calls P f #[a, b, .slice (some ⟨W.heap.size, 0, none⟩) n n] ((W.alloc o1).alloc o) R) : Calls P f #[a, b, .slice (some ⟨W.heap.size, 0, none⟩) n n] ((W.alloc o1).alloc o) R := h
section
variable {w W W1 : World} {L : List (Nat × Obj)} {g : Nat} {e : Int} {rest : List Value} {t : TypeId}
theorem setlit2_cd {b : Nat} {t1 : TypeId} {o2 : Obj} (wd : Int) (xs : List S49) (css : List (List Value)) (hx : xs.length < 1599289640401) (h : Pd w W ((g, .cells (Value.int .i64 e :: rest).toArray t (0, 0)) :: L)) (hb : b = W.heap.size) (hK : Each (k49.K w) xs css) : Calls Try.prog 51 #[.pointer (some ⟨g, 0, none⟩), .int .i64 wd, .slice (some ⟨b, 0, none⟩) xs.length xs.length] ((W.alloc (.cells css.flatten.toArray t1)).alloc o2) fun r w' => ∃ A1 n1, r = .returned (.tuple #[.agg #[.int .i64 (setV e wd xs).1, .int .i64 (setV e wd xs).2.1, .int .i64 (setV e wd xs).2.2.1, .int .i64 (setV e wd xs).2.2.2.1, .int .i64 (setV e wd xs).2.2.2.2.1, .int .i64 (setV e wd xs).2.2.2.2.2.1, .slice A1 (setV e wd xs).2.2.2.2.2.2.1.length n1], .int .i64 (setV e wd xs).2.2.2.2.2.2.2]) ∧ (setV e wd xs).2.2.2.2.2.2.1.length ≤ n1 ∧ Kd.F k49 w' (fun k => ∀ p ∈ (g, Obj.cells (Value.int .i64 e :: rest).toArray t (0, 0)) :: (W.heap.size + 1, o2) :: L, k ≠ p.1) A1 (setV e wd xs).2.2.2.2.2.2.1.length (setV e wd xs).2.2.2.2.2.2.1 ∧ Pd w w' ((g, .cells (Value.int .i64 e :: rest).toArray t (0, 0)) :: (W.heap.size + 1, o2) :: L) := by
  subst hb
  have h0 := (h.row (.cells css.flatten.toArray t1)).row o2
  have hs : (W.alloc (.cells css.flatten.toArray t1)).heap.size = W.heap.size + 1 := by simp
  rw [hs] at h0
  have h1 := (Pd.tl h0).swp
  have h2 : Pd w ((W.alloc (.cells css.flatten.toArray t1)).alloc o2) ((g, .cells (Value.int .i64 e :: rest).toArray t (0, 0)) :: (W.heap.size, .cells css.flatten.toArray t1 (0, 0)) :: (W.heap.size + 1, o2) :: L) := perm3 h0
  refine (set_cd wd xs hx h2 ((Src.block hK).mono fun _ h => h.swp)).mono ?_
  rintro r w' ⟨A1, n1, h2, h3, h4, h5⟩
  exact ⟨A1, n1, h2, h3, Kd.F_mono h4 (fun k hk p hp => hk p (by
    rcases List.mem_cons.1 hp with rfl | hp
    · exact List.mem_cons_self
    · exact List.mem_cons_of_mem _ (List.mem_cons_of_mem _ hp))), h5.skip⟩
end
theorem tmp_at2 {a : Act} {n i : Nat} {v : Value} (hs : a.tmps.size = n) (hi : i < n) (h : a.tmps[i]?.getD undef = v) : a.tmps[i]'(by omega) = v := by
  have hi2 : i < a.tmps.size := by omega
  rw [Array.getElem?_eq_getElem hi2] at h
  exact h
theorem cut_mn {P : Program} {C : Code} {Q : Exit → Act → World → Prop} {a : Act} {w : World} (R : Act → World → Prop) (h1 : ∀ a0 : Act, a0.tmps.size = a.tmps.size → (∀ i : Nat, a0.tmps[i]?.getD undef = a.tmps[i]?.getD undef) → a0.defers = a.defers → C.wp P (fun e a' w' => e = .normal ∧ R a' w') a0 w) (h2 : ∀ a' w', R a' w' → Q .normal a' w') : C.wp P Q a w :=
  Code.wp_mono (fun e a w h => by obtain ⟨rfl, h⟩ := h; exact h2 a w h) (h1 a rfl (fun _ => rfl) rfl)
theorem Pd.get {w W : World} {L : List (Nat × Obj)} {b : Nat} {o : Obj} (h : Pd w W L) (hm : (b, o) ∈ L) : W.heap[b]? = some o := (h.loc _ hm).1
theorem and_assoc14 {a b c d e f g h i j k l m n o : Prop} (x : a ∧ b ∧ c ∧ d ∧ e ∧ f ∧ g) (y : h ∧ i ∧ j ∧ k ∧ l ∧ m ∧ n) (z : o) : a ∧ b ∧ c ∧ d ∧ e ∧ f ∧ g ∧ h ∧ i ∧ j ∧ k ∧ l ∧ m ∧ n ∧ o := and_assoc7 x (and_assoc7 y z)
def rCenterV (F : S36) (c z : Int) (b : S39) : BoxV :=
  let a := keepV 0 (konstV F 5 c z)
  let s := keepV (needE [b] a.2) (toldOf (sumR [b.f2, wrap64 (-b.f3)]))
  let h := keepV s.2 (toldOf (halfR s.1))
  let y := keepV h.2 (toldOf (sumR [a.1, wrap64 (-h.1)]))
  setV y.2 b.f1 [⟨0, y.1, b⟩]
def rEitherV (F : S36) (k c z : Int) : Int × Int := konstV F (if c < 2 then k + 1 else k) c z
def rAtopEnd (num den : S39) (up dn : Int) (e : Int) : BoxV :=
  let m := midV e (max num.f1 den.f1) num.f1
  let n := midV m.2 (max num.f1 den.f1) den.f1
  setV n.2 (max num.f1 den.f1) [⟨m.1, up, num⟩, ⟨n.1, wrap64 (-dn), den⟩]
def rAtopV (F : S36) (c z : Int) (num den : S39) : BoxV :=
  let up := keepV 0 (rEitherV F 22 c z)
  let dn := keepV up.2 (rEitherV F 24 c z)
  let gp := keepV dn.2 (rEitherV F 26 c z)
  let p := keepV (needE [den] (needE [num] gp.2)) (toldOf (sumR [up.1, wrap64 (-num.f3)]))
  let q := keepV p.2 (toldOf (sumR [den.f2, wrap64 (-dn.1)]))
  let th := keepV q.2 (toldOf (sumR [p.1, wrap64 (-q.1)]))
  let ms := keepV th.2 (toldOf (sumR [gp.1, wrap64 (-th.1)]))
  if 0 < ms.1 then
    let hf := keepV ms.2 (toldOf (halfR ms.1))
    let u2 := keepV hf.2 (toldOf (sumR [up.1, hf.1]))
    let d2 := keepV u2.2 (toldOf (sumR [dn.1, wrap64 (ms.1 - hf.1)]))
    rAtopEnd num den u2.1 d2.1 d2.2
  else rAtopEnd num den up.1 dn.1 ms.2
def rFracV (F : S36) (c z : Int) (num den : S39) : BoxV :=
  let ax := keepV 0 (konstV F 5 c z)
  let th := keepV ax.2 (konstV F 38 c z)
  let up := keepV th.2 (rEitherV F 32 c z)
  let dn := keepV up.2 (rEitherV F 34 c z)
  let ab := keepV dn.2 (rEitherV F 36 c z)
  let be := keepV ab.2 (rEitherV F 39 c z)
  let hf := keepV (needE [den] (needE [num] be.2)) (toldOf (halfR th.1))
  let bo := keepV hf.2 (toldOf (sumR [ax.1, wrap64 (-hf.1)]))
  let tp := keepV bo.2 (toldOf (sumR [bo.1, th.1]))
  let u1 := keepV tp.2 (toldOf (sumR [tp.1, ab.1]))
  let u2 := keepV u1.2 (toldOf (sumR [u1.1, num.f3]))
  let d1 := keepV u2.2 (toldOf (sumR [den.f2, be.1]))
  let d2 := keepV d1.2 (toldOf (sumR [d1.1, wrap64 (-bo.1)]))
  let m := midV d2.2 (max num.f1 den.f1) num.f1
  let n := midV m.2 (max num.f1 den.f1) den.f1
  setV n.2 (max num.f1 den.f1) [⟨m.1, max up.1 u2.1, num⟩, ⟨0, 0, ⟨2, max num.f1 den.f1, tp.1, wrap64 (-bo.1), 0, 0, []⟩⟩, ⟨n.1, wrap64 (-(max dn.1 d2.1)), den⟩]

set_option maxRecDepth 100000 in
set_option maxHeartbeats 4000000 in
theorem rcenter_calls (F : S36) (c z : Int) (b : S39) (Ab : Option Addr) (nb : Nat) (cs : List Value) (w : World) (hF : FontIn w F cs) (lb : b.f6.length ≤ nb) (hb : Kd.C k49 w Ab b.f6.length b.f6) : Calls Try.prog 19 #[.agg cs.toArray, .int .i64 c, .int .i64 z, .agg #[.int .i64 b.f0, .int .i64 b.f1, .int .i64 b.f2, .int .i64 b.f3, .int .i64 b.f4, .int .i64 b.f5, .slice Ab b.f6.length nb]] w fun r w' => ∃ A1 n1, r = .returned (.tuple #[.agg #[.int .i64 (rCenterV F c z b).1, .int .i64 (rCenterV F c z b).2.1, .int .i64 (rCenterV F c z b).2.2.1, .int .i64 (rCenterV F c z b).2.2.2.1, .int .i64 (rCenterV F c z b).2.2.2.2.1, .int .i64 (rCenterV F c z b).2.2.2.2.2.1, .slice A1 (rCenterV F c z b).2.2.2.2.2.2.1.length n1], .int .i64 (rCenterV F c z b).2.2.2.2.2.2.2]) ∧ (rCenterV F c z b).2.2.2.2.2.2.1.length ≤ n1 ∧ Kd.C k49 w' A1 (rCenterV F c z b).2.2.2.2.2.2.1.length (rCenterV F c z b).2.2.2.2.2.2.1 ∧ Below w.heap.size w w' := by
  have hu39 := Try.underlying39
  have hu36 := Try.underlying36
  have hu49 := Try.underlying49
  have hu74 := Try.underlying74
  obtain ⟨A6, c6, A7, c7, A8, c8, A9, c9, A10, c10, A11, c11, A12, c12, A13, c13, A15, c15, A16, c16, hcs, hcr⟩ := id hF
  subst hcs
  clear hcr
  have HF := Aside0.mk hF
  have HLb := Aside0.mk lb
  have HCb := Aside0.mk hb
  clear hF lb hb
  go_enter Try.func19, Try.ntmps19
  have HP := Aside0.mk (Pd.start w)
  go_wp2_with (first | ((with_reducible refine gate_dst (N := 4) rfl ?_); refine box_event ?hg (N := 4) ?hd (cs := #[.int .i64 F.f0.f0, .int .i64 F.f0.f1, .int .i64 F.f0.f2, .int .i64 F.f0.f3, .int .i64 F.f0.f4, .bool F.f0.f5, .slice A6 F.f1.length c6, .slice A7 F.f2.length c7, .slice A8 F.f3.length c8, .slice A9 F.f4.f0.length c9, .slice A10 F.f4.f1.length c10, .slice A11 F.f4.f2.length c11, .slice A12 F.f4.f3.length c12, .slice A13 F.f4.f4.length c13, .int .i64 F.f4.f5.f0, .slice A15 F.f4.f5.f1.length c15, .slice A16 F.f4.f5.f2.length c16]) (t := 36) ?hr ?_; (case hd => rfl); (case hg => rfl); (case hr => first | (go_simp; done) | (go_simp; rfl)); intro gf hg wk hbox hb; replace HP := Aside0.mk (Pd.box (by with_reducible repeat (first | exact HP.out | apply Pd.drew)) hg hbox hb); clear hg hbox hb) | ((with_reducible refine gate_dst (N := 7) rfl ?_); refine box_event ?hg (N := 7) ?hd (cs := #[.int .i64 b.f0, .int .i64 b.f1, .int .i64 b.f2, .int .i64 b.f3, .int .i64 b.f4, .int .i64 b.f5, .slice Ab b.f6.length nb]) (t := 39) ?hr ?_; (case hd => rfl); (case hg => rfl); (case hr => first | (go_simp; done) | (go_simp; rfl)); intro gb hg wk hbox hb; replace HP := Aside0.mk (Pd.box (by with_reducible repeat (first | exact HP.out | apply Pd.drew)) hg hbox hb); clear hg hbox hb) | ((with_reducible refine gate_dst (N := 8) rfl ?_); refine box_event ?hg (N := 8) ?hd (cs := #[.int .i64 0, .int .i64 0, .int .i64 0, .int .i64 0, .int .i64 0, .int .i64 0, .slice none 0 0]) (t := 39) ?hr ?_; (case hd => rfl); (case hg => rfl); (case hr => first | (go_simp; done) | (go_simp; rfl)); intro gr hg wk hbox hb; replace HP := Aside0.mk (Pd.box (by with_reducible repeat (first | exact HP.out | apply Pd.drew)) hg hbox hb); clear hg hbox hb) | ((with_reducible refine gate_dst (N := 16) rfl ?_); refine box_event ?hg (N := 16) ?hd (cs := #[.int .i64 0]) (t := 74) ?hr ?_; (case hd => rfl); (case hg => rfl); (case hr => first | (go_simp; done) | (go_simp; rfl)); intro gk hg wk hbox hb; replace HP := Aside0.mk (Pd.box (by with_reducible repeat (first | exact HP.out | apply Pd.drew)) hg hbox hb); clear hg hbox hb) | ((with_reducible refine gate_dst (N := 18) rfl ?_); refine wpList_load_row rfl 36 (.tmp 4) rfl gf (by rfl) 36 #[.int .i64 F.f0.f0, .int .i64 F.f0.f1, .int .i64 F.f0.f2, .int .i64 F.f0.f3, .int .i64 F.f0.f4, .bool F.f0.f5, .slice A6 F.f1.length c6, .slice A7 F.f2.length c7, .slice A8 F.f3.length c8, .slice A9 F.f4.f0.length c9, .slice A10 F.f4.f1.length c10, .slice A11 F.f4.f2.length c11, .slice A12 F.f4.f3.length c12, .slice A13 F.f4.f4.length c13, .int .i64 F.f4.f5.f0, .slice A15 F.f4.f5.f1.length c15, .slice A16 F.f4.f5.f2.length c16] (0, 0) _ (Pd.hd (Pd.tl (Pd.tl (Pd.tl (by with_reducible repeat (first | exact HP.out | apply Pd.drew)))))) hu36 rfl info_font ?_))
  refine (konst_cd HP.out HF.out (by rfl) 5 c z).mono ?_
  rintro _ w1 ⟨rfl, hp⟩
  replace HP := Aside0.mk hp
  clear hp
  obtain ⟨ax, h_ax⟩ : ∃ ax, ax = keepV 0 (konstV F 5 c z) := ⟨_, rfl⟩
  rw [← h_ax] at HP ⊢
  have H_ax := Aside0.mk h_ax
  clear h_ax
  have hc_b := box_cells (Pd.hd (Pd.tl (Pd.tl HP.out)))
  go_wp2_with fail
  clear hc_b
  refine (need_cd HP.out b Ab nb).mono ?_
  rintro _ w1 ⟨rfl, hp⟩
  replace HP := Aside0.mk hp
  clear hp
  obtain ⟨e_b, h_e_b⟩ : ∃ e_b, e_b = needE [b] ax.2 := ⟨_, rfl⟩
  rw [← h_e_b] at HP
  have H_e_b := Aside0.mk h_e_b
  clear h_e_b
  have hc_b := box_cells (Pd.hd (Pd.tl (Pd.tl HP.out)))
  go_wp2_with fail
  clear hc_b
  (try simp only [i64_w])
  refine (sub_cd HP.out b.f2 b.f3).mono ?_
  rintro _ w1 ⟨rfl, hp⟩
  replace HP := Aside0.mk hp
  clear hp
  obtain ⟨s, h_s⟩ : ∃ s, s = keepV e_b (toldOf (sumR [b.f2, wrap64 (-b.f3)])) := ⟨_, rfl⟩
  rw [← h_s] at HP ⊢
  have H_s := Aside0.mk h_s
  clear h_s
  go_wp2_with fail
  refine (half_cd HP.out s.1).mono ?_
  rintro _ w1 ⟨rfl, hp⟩
  replace HP := Aside0.mk hp
  clear hp
  obtain ⟨hh, h_hh⟩ : ∃ hh, hh = keepV s.2 (toldOf (halfR s.1)) := ⟨_, rfl⟩
  rw [← h_hh] at HP ⊢
  have H_hh := Aside0.mk h_hh
  clear h_hh
  go_wp2_with fail
  (try simp only [i64_w])
  refine (sub_cd HP.out ax.1 hh.1).mono ?_
  rintro _ w1 ⟨rfl, hp⟩
  replace HP := Aside0.mk hp
  clear hp
  obtain ⟨y, h_y⟩ : ∃ y, y = keepV hh.2 (toldOf (sumR [ax.1, wrap64 (-hh.1)])) := ⟨_, rfl⟩
  rw [← h_y] at HP ⊢
  have H_y := Aside0.mk h_y
  clear h_y
  have hc_b := box_cells (Pd.hd (Pd.tl (Pd.tl HP.out)))
  go_wp2_with fail
  clear hc_b
  refine (setlit_cd b.f1 [⟨0, y.1, b⟩] [[.int .i64 0, .int .i64 y.1, .int .i64 b.f0, .int .i64 b.f1, .int .i64 b.f2, .int .i64 b.f3, .int .i64 b.f4, .int .i64 b.f5, .slice Ab b.f6.length nb]] (by simp) HP.out ?hb ⟨k49_mk w ⟨0, y.1, b⟩ HLb.out HCb.out, trivial⟩).mono ?_
  case hb => rfl
  rintro _ w1 ⟨A1, n1, rfl, hl, hf, hp⟩
  replace HP := Aside0.mk hp
  have HLL := Aside0.mk hl
  have HFF := Aside0.mk hf
  clear hp hl hf
  obtain ⟨V, h_V⟩ : ∃ V, V = setV y.2 b.f1 [⟨0, y.1, b⟩] := ⟨_, rfl⟩
  rw [← h_V] at HLL HFF ⊢
  have H_V := Aside0.mk h_V
  clear h_V
  have hcz := fun ob : Obj => cells7 (Pd.hd (Pd.tl (Pd.alc HP.out ob)))
  have hfz := fun ob : Obj => froz7 (Pd.hd (Pd.tl (Pd.alc HP.out ob)))
  go_wp2
  refine bodyPost_ret (results_ct rfl _ _ gr 39 #[.int .i64 V.1, .int .i64 V.2.1, .int .i64 V.2.2.1, .int .i64 V.2.2.2.1, .int .i64 V.2.2.2.2.1, .int .i64 V.2.2.2.2.2.1, .slice A1 V.2.2.2.2.2.2.1.length n1] (0, 0) _ rfl (put7 (Pd.hd (Pd.tl (Pd.alc HP.out _)))) hu39 rfl (by kernel_rfl)) rfl ?_
  have hVR : V = rCenterV F c z b := by (have h_ax := H_ax.out; have h_e_b := H_e_b.out; have h_s := H_s.out; have h_hh := H_hh.out; have h_y := H_y.out; have h_V := H_V.out; subst h_ax h_e_b h_s h_hh h_y h_V; rfl)
  rw [← hVR]
  exact ⟨A1, n1, rfl, HLL.out, HFF.out _ (fun k hk hlt => (far7 _ (hk (gr, _) (List.mem_cons_of_mem _ List.mem_cons_self))).trans (alloc_heap_lt hlt)), Pre.bel (Pd.toPre (Pd.st7 (Pd.tl (Pd.alc HP.out _))))⟩
set_option maxRecDepth 100000 in
set_option maxHeartbeats 4000000 in
theorem ratop_calls (F : S36) (c z : Int) (num : S39) (Anum : Option Addr) (nnum : Nat) (den : S39) (Aden : Option Addr) (nden : Nat) (cs : List Value) (w : World) (hF : FontIn w F cs) (lnum : num.f6.length ≤ nnum) (hnum : Kd.C k49 w Anum num.f6.length num.f6) (lden : den.f6.length ≤ nden) (hden : Kd.C k49 w Aden den.f6.length den.f6) : Calls Try.prog 17 #[.agg cs.toArray, .int .i64 c, .int .i64 z, .agg #[.int .i64 num.f0, .int .i64 num.f1, .int .i64 num.f2, .int .i64 num.f3, .int .i64 num.f4, .int .i64 num.f5, .slice Anum num.f6.length nnum], .agg #[.int .i64 den.f0, .int .i64 den.f1, .int .i64 den.f2, .int .i64 den.f3, .int .i64 den.f4, .int .i64 den.f5, .slice Aden den.f6.length nden]] w fun r w' => ∃ A1 n1, r = .returned (.tuple #[.agg #[.int .i64 (rAtopV F c z num den).1, .int .i64 (rAtopV F c z num den).2.1, .int .i64 (rAtopV F c z num den).2.2.1, .int .i64 (rAtopV F c z num den).2.2.2.1, .int .i64 (rAtopV F c z num den).2.2.2.2.1, .int .i64 (rAtopV F c z num den).2.2.2.2.2.1, .slice A1 (rAtopV F c z num den).2.2.2.2.2.2.1.length n1], .int .i64 (rAtopV F c z num den).2.2.2.2.2.2.2]) ∧ (rAtopV F c z num den).2.2.2.2.2.2.1.length ≤ n1 ∧ Kd.C k49 w' A1 (rAtopV F c z num den).2.2.2.2.2.2.1.length (rAtopV F c z num den).2.2.2.2.2.2.1 ∧ Below w.heap.size w w' := by
  have hu39 := Try.underlying39
  have hu36 := Try.underlying36
  have hu49 := Try.underlying49
  have hu74 := Try.underlying74
  obtain ⟨A6, c6, A7, c7, A8, c8, A9, c9, A10, c10, A11, c11, A12, c12, A13, c13, A15, c15, A16, c16, hcs, hcr⟩ := id hF
  subst hcs
  clear hcr
  have HF := Aside0.mk hF
  have HLnum := Aside0.mk lnum
  have HCnum := Aside0.mk hnum
  have HLden := Aside0.mk lden
  have HCden := Aside0.mk hden
  clear hF lnum hnum lden hden
  go_enter Try.func17, Try.ntmps17
  have HP := Aside0.mk (Pd.start w)
  go_wp2_with (first | ((with_reducible refine gate_dst (N := 5) rfl ?_); refine box_event ?hg (N := 5) ?hd (cs := #[.int .i64 F.f0.f0, .int .i64 F.f0.f1, .int .i64 F.f0.f2, .int .i64 F.f0.f3, .int .i64 F.f0.f4, .bool F.f0.f5, .slice A6 F.f1.length c6, .slice A7 F.f2.length c7, .slice A8 F.f3.length c8, .slice A9 F.f4.f0.length c9, .slice A10 F.f4.f1.length c10, .slice A11 F.f4.f2.length c11, .slice A12 F.f4.f3.length c12, .slice A13 F.f4.f4.length c13, .int .i64 F.f4.f5.f0, .slice A15 F.f4.f5.f1.length c15, .slice A16 F.f4.f5.f2.length c16]) (t := 36) ?hr ?_; (case hd => rfl); (case hg => rfl); (case hr => first | (go_simp; done) | (go_simp; rfl)); intro gf hg wk hbox hb; replace HP := Aside0.mk (Pd.box (by with_reducible repeat (first | exact HP.out | apply Pd.drew)) hg hbox hb); clear hg hbox hb) | ((with_reducible refine gate_dst (N := 8) rfl ?_); refine box_event ?hg (N := 8) ?hd (cs := #[.int .i64 num.f0, .int .i64 num.f1, .int .i64 num.f2, .int .i64 num.f3, .int .i64 num.f4, .int .i64 num.f5, .slice Anum num.f6.length nnum]) (t := 39) ?hr ?_; (case hd => rfl); (case hg => rfl); (case hr => first | (go_simp; done) | (go_simp; rfl)); intro gnum hg wk hbox hb; replace HP := Aside0.mk (Pd.box (by with_reducible repeat (first | exact HP.out | apply Pd.drew)) hg hbox hb); clear hg hbox hb) | ((with_reducible refine gate_dst (N := 9) rfl ?_); refine box_event ?hg (N := 9) ?hd (cs := #[.int .i64 den.f0, .int .i64 den.f1, .int .i64 den.f2, .int .i64 den.f3, .int .i64 den.f4, .int .i64 den.f5, .slice Aden den.f6.length nden]) (t := 39) ?hr ?_; (case hd => rfl); (case hg => rfl); (case hr => first | (go_simp; done) | (go_simp; rfl)); intro gden hg wk hbox hb; replace HP := Aside0.mk (Pd.box (by with_reducible repeat (first | exact HP.out | apply Pd.drew)) hg hbox hb); clear hg hbox hb) | ((with_reducible refine gate_dst (N := 10) rfl ?_); refine box_event ?hg (N := 10) ?hd (cs := #[.int .i64 0, .int .i64 0, .int .i64 0, .int .i64 0, .int .i64 0, .int .i64 0, .slice none 0 0]) (t := 39) ?hr ?_; (case hd => rfl); (case hg => rfl); (case hr => first | (go_simp; done) | (go_simp; rfl)); intro gr hg wk hbox hb; replace HP := Aside0.mk (Pd.box (by with_reducible repeat (first | exact HP.out | apply Pd.drew)) hg hbox hb); clear hg hbox hb) | ((with_reducible refine gate_dst (N := 24) rfl ?_); refine box_event ?hg (N := 24) ?hd (cs := #[.int .i64 0]) (t := 74) ?hr ?_; (case hd => rfl); (case hg => rfl); (case hr => first | (go_simp; done) | (go_simp; rfl)); intro gk hg wk hbox hb; replace HP := Aside0.mk (Pd.box (by with_reducible repeat (first | exact HP.out | apply Pd.drew)) hg hbox hb); clear hg hbox hb) | ((with_reducible refine gate_dst (N := 26) rfl ?_); refine wpList_load_row rfl 36 (.tmp 5) rfl gf (by rfl) 36 #[.int .i64 F.f0.f0, .int .i64 F.f0.f1, .int .i64 F.f0.f2, .int .i64 F.f0.f3, .int .i64 F.f0.f4, .bool F.f0.f5, .slice A6 F.f1.length c6, .slice A7 F.f2.length c7, .slice A8 F.f3.length c8, .slice A9 F.f4.f0.length c9, .slice A10 F.f4.f1.length c10, .slice A11 F.f4.f2.length c11, .slice A12 F.f4.f3.length c12, .slice A13 F.f4.f4.length c13, .int .i64 F.f4.f5.f0, .slice A15 F.f4.f5.f1.length c15, .slice A16 F.f4.f5.f2.length c16] (0, 0) _ (Pd.hd (Pd.tl (Pd.tl (Pd.tl (Pd.tl (by with_reducible repeat (first | exact HP.out | apply Pd.drew))))))) hu36 rfl info_font ?_))
  refine (either_cd HP.out HF.out (by rfl) 22 23 c z).mono ?_
  rintro _ w1 ⟨rfl, hp⟩
  replace HP := Aside0.mk hp
  clear hp
  obtain ⟨up, h_up⟩ : ∃ up, up = keepV 0 (konstV F (if c < 2 then 23 else 22) c z) := ⟨_, rfl⟩
  rw [← h_up] at HP ⊢
  have H_up := Aside0.mk h_up
  clear h_up
  go_wp2_with (first | ((with_reducible refine gate_dst (N := 31) rfl ?_); refine wpList_load_row rfl 36 (.tmp 5) rfl gf (by rfl) 36 #[.int .i64 F.f0.f0, .int .i64 F.f0.f1, .int .i64 F.f0.f2, .int .i64 F.f0.f3, .int .i64 F.f0.f4, .bool F.f0.f5, .slice A6 F.f1.length c6, .slice A7 F.f2.length c7, .slice A8 F.f3.length c8, .slice A9 F.f4.f0.length c9, .slice A10 F.f4.f1.length c10, .slice A11 F.f4.f2.length c11, .slice A12 F.f4.f3.length c12, .slice A13 F.f4.f4.length c13, .int .i64 F.f4.f5.f0, .slice A15 F.f4.f5.f1.length c15, .slice A16 F.f4.f5.f2.length c16] (0, 0) _ (Pd.hd (Pd.tl (Pd.tl (Pd.tl (Pd.tl (by with_reducible repeat (first | exact HP.out | apply Pd.drew))))))) hu36 rfl info_font ?_))
  refine (either_cd HP.out HF.out (by rfl) 24 25 c z).mono ?_
  rintro _ w1 ⟨rfl, hp⟩
  replace HP := Aside0.mk hp
  clear hp
  obtain ⟨dn, h_dn⟩ : ∃ dn, dn = keepV up.2 (konstV F (if c < 2 then 25 else 24) c z) := ⟨_, rfl⟩
  rw [← h_dn] at HP ⊢
  have H_dn := Aside0.mk h_dn
  clear h_dn
  go_wp2_with (first | ((with_reducible refine gate_dst (N := 36) rfl ?_); refine wpList_load_row rfl 36 (.tmp 5) rfl gf (by rfl) 36 #[.int .i64 F.f0.f0, .int .i64 F.f0.f1, .int .i64 F.f0.f2, .int .i64 F.f0.f3, .int .i64 F.f0.f4, .bool F.f0.f5, .slice A6 F.f1.length c6, .slice A7 F.f2.length c7, .slice A8 F.f3.length c8, .slice A9 F.f4.f0.length c9, .slice A10 F.f4.f1.length c10, .slice A11 F.f4.f2.length c11, .slice A12 F.f4.f3.length c12, .slice A13 F.f4.f4.length c13, .int .i64 F.f4.f5.f0, .slice A15 F.f4.f5.f1.length c15, .slice A16 F.f4.f5.f2.length c16] (0, 0) _ (Pd.hd (Pd.tl (Pd.tl (Pd.tl (Pd.tl (by with_reducible repeat (first | exact HP.out | apply Pd.drew))))))) hu36 rfl info_font ?_))
  refine (either_cd HP.out HF.out (by rfl) 26 27 c z).mono ?_
  rintro _ w1 ⟨rfl, hp⟩
  replace HP := Aside0.mk hp
  clear hp
  obtain ⟨gp, h_gp⟩ : ∃ gp, gp = keepV dn.2 (konstV F (if c < 2 then 27 else 26) c z) := ⟨_, rfl⟩
  rw [← h_gp] at HP ⊢
  have H_gp := Aside0.mk h_gp
  clear h_gp
  have hc_num := box_cells (Pd.hd (Pd.tl (Pd.tl (Pd.tl HP.out))))
  go_wp2_with fail
  clear hc_num
  refine (need_cd HP.out num Anum nnum).mono ?_
  rintro _ w1 ⟨rfl, hp⟩
  replace HP := Aside0.mk hp
  clear hp
  obtain ⟨e_num, h_e_num⟩ : ∃ e_num, e_num = needE [num] gp.2 := ⟨_, rfl⟩
  rw [← h_e_num] at HP
  have H_e_num := Aside0.mk h_e_num
  clear h_e_num
  have hc_den := box_cells (Pd.hd (Pd.tl (Pd.tl HP.out)))
  go_wp2_with fail
  clear hc_den
  refine (need_cd HP.out den Aden nden).mono ?_
  rintro _ w1 ⟨rfl, hp⟩
  replace HP := Aside0.mk hp
  clear hp
  obtain ⟨e_den, h_e_den⟩ : ∃ e_den, e_den = needE [den] e_num := ⟨_, rfl⟩
  rw [← h_e_den] at HP
  have H_e_den := Aside0.mk h_e_den
  clear h_e_den
  go_wp2_with fail
  go_region_held3 (fun w' => w'.cell? ⟨gnum, 3, none⟩ = some (.int .i64 num.f3) ∧ w'.cell? ⟨gden, 2, none⟩ = some (.int .i64 den.f2)) (first | with_reducible exact ⟨blk_cell (Pd.hd (Pd.tl (Pd.tl (Pd.tl (by with_reducible repeat (first | exact HP.out | apply Pd.alc | apply Pd.drew)))))) 3, blk_cell (Pd.hd (Pd.tl (Pd.tl (by with_reducible repeat (first | exact HP.out | apply Pd.alc | apply Pd.drew))))) 2⟩) (first | (go_at_call 48; (try simp only [i64_w]); refine (sub_cd (by with_reducible repeat (first | exact HP.out | apply Pd.alc | apply Pd.drew)) _ _).mono ?_; rintro _ w1 ⟨rfl, hp⟩; replace HP := Aside0.mk hp; clear hp))
  obtain ⟨p1, h_p1⟩ : ∃ p1, p1 = keepV e_den (toldOf (sumR [up.1, wrap64 (-num.f3)])) := ⟨_, rfl⟩
  rw [← h_p1] at HP ⊢
  have H_p1 := Aside0.mk h_p1
  clear h_p1
  obtain ⟨q1, h_q1⟩ : ∃ q1, q1 = keepV p1.2 (toldOf (sumR [den.f2, wrap64 (-dn.1)])) := ⟨_, rfl⟩
  rw [← h_q1] at HP ⊢
  have H_q1 := Aside0.mk h_q1
  clear h_q1
  obtain ⟨th, h_th⟩ : ∃ th, th = keepV q1.2 (toldOf (sumR [p1.1, wrap64 (-q1.1)])) := ⟨_, rfl⟩
  rw [← h_th] at HP ⊢
  have H_th := Aside0.mk h_th
  clear h_th
  go_wp2_with fail
  (try simp only [i64_w])
  refine (sub_cd HP.out gp.1 th.1).mono ?_
  rintro _ w1 ⟨rfl, hp⟩
  replace HP := Aside0.mk hp
  clear hp
  obtain ⟨ms, h_ms⟩ : ∃ ms, ms = keepV th.2 (toldOf (sumR [gp.1, wrap64 (-th.1)])) := ⟨_, rfl⟩
  rw [← h_ms] at HP ⊢
  have H_ms := Aside0.mk h_ms
  clear h_ms
  by_cases hm : 0 < ms.1
  · have hd1 : decide (0 < ms.1) = true := by simp; exact hm
    have HM := Aside0.mk hm
    clear hm
    go_wp2_with fail
    refine (half_cd HP.out ms.1).mono ?_
    rintro _ w1 ⟨rfl, hp⟩
    replace HP := Aside0.mk hp
    clear hp
    obtain ⟨hf, h_hf⟩ : ∃ hf, hf = keepV ms.2 (toldOf (halfR ms.1)) := ⟨_, rfl⟩
    rw [← h_hf] at HP ⊢
    have H_hf := Aside0.mk h_hf
    clear h_hf
    clear hd1
    go_wp2_with fail
    (try simp only [i64_w])
    refine (add_cd HP.out up.1 hf.1).mono ?_
    rintro _ w1 ⟨rfl, hp⟩
    replace HP := Aside0.mk hp
    clear hp
    obtain ⟨u2, h_u2⟩ : ∃ u2, u2 = keepV hf.2 (toldOf (sumR [up.1, hf.1])) := ⟨_, rfl⟩
    rw [← h_u2] at HP ⊢
    have H_u2 := Aside0.mk h_u2
    clear h_u2
    go_wp2_with fail
    (try simp only [i64_w])
    refine (add_cd HP.out dn.1 (wrap64 (ms.1 - hf.1))).mono ?_
    rintro _ w1 ⟨rfl, hp⟩
    replace HP := Aside0.mk hp
    clear hp
    obtain ⟨d2, h_d2⟩ : ∃ d2, d2 = keepV u2.2 (toldOf (sumR [dn.1, wrap64 (ms.1 - hf.1)])) := ⟨_, rfl⟩
    rw [← h_d2] at HP ⊢
    have H_d2 := Aside0.mk h_d2
    clear h_d2
    have hc_num := box_cells (Pd.hd (Pd.tl (Pd.tl (Pd.tl HP.out))))
    have hc_den := box_cells (Pd.hd (Pd.tl (Pd.tl HP.out)))
    go_wp2_with fail
    clear hc_num hc_den
    go_region_held3 (fun w' => w'.cell? ⟨gnum, 0, none⟩ = some (.int .i64 num.f0) ∧ w'.cell? ⟨gnum, 1, none⟩ = some (.int .i64 num.f1) ∧ w'.cell? ⟨gnum, 2, none⟩ = some (.int .i64 num.f2) ∧ w'.cell? ⟨gnum, 3, none⟩ = some (.int .i64 num.f3) ∧ w'.cell? ⟨gnum, 4, none⟩ = some (.int .i64 num.f4) ∧ w'.cell? ⟨gnum, 5, none⟩ = some (.int .i64 num.f5) ∧ w'.cell? ⟨gnum, 6, none⟩ = some (.slice Anum num.f6.length nnum) ∧ w'.cell? ⟨gden, 0, none⟩ = some (.int .i64 den.f0) ∧ w'.cell? ⟨gden, 1, none⟩ = some (.int .i64 den.f1) ∧ w'.cell? ⟨gden, 2, none⟩ = some (.int .i64 den.f2) ∧ w'.cell? ⟨gden, 3, none⟩ = some (.int .i64 den.f3) ∧ w'.cell? ⟨gden, 4, none⟩ = some (.int .i64 den.f4) ∧ w'.cell? ⟨gden, 5, none⟩ = some (.int .i64 den.f5) ∧ w'.cell? ⟨gden, 6, none⟩ = some (.slice Aden den.f6.length nden)) (first | with_reducible exact (and_assoc7 (box_cells (Pd.hd (Pd.tl (Pd.tl (Pd.tl (by with_reducible repeat (first | exact HP.out | apply Pd.alc | apply Pd.drew))))))) (box_cells (Pd.hd (Pd.tl (Pd.tl (by with_reducible repeat (first | exact HP.out | apply Pd.alc | apply Pd.drew)))))))) (first | (go_at_call 52; refine (mid_cd (by with_reducible repeat (first | exact HP.out | apply Pd.alc | apply Pd.drew)) _ _).mono ?_; rintro _ w1 ⟨rfl, hp⟩; replace HP := Aside0.mk hp; clear hp))
    obtain ⟨m1, h_m1⟩ : ∃ m1, m1 = midV d2.2 (max num.f1 den.f1) num.f1 := ⟨_, rfl⟩
    rw [← h_m1] at HP ⊢
    have H_m1 := Aside0.mk h_m1
    clear h_m1
    obtain ⟨m2, h_m2⟩ : ∃ m2, m2 = midV m1.2 (max num.f1 den.f1) den.f1 := ⟨_, rfl⟩
    rw [← h_m2] at HP ⊢
    have H_m2 := Aside0.mk h_m2
    clear h_m2
    go_wp2_with fail
    refine (setlit_cd (max num.f1 den.f1) [⟨m1.1, u2.1, num⟩, ⟨m2.1, wrap64 (-d2.1), den⟩] [[.int .i64 m1.1, .int .i64 u2.1, .int .i64 num.f0, .int .i64 num.f1, .int .i64 num.f2, .int .i64 num.f3, .int .i64 num.f4, .int .i64 num.f5, .slice Anum num.f6.length nnum], [.int .i64 m2.1, .int .i64 (wrap64 (-d2.1)), .int .i64 den.f0, .int .i64 den.f1, .int .i64 den.f2, .int .i64 den.f3, .int .i64 den.f4, .int .i64 den.f5, .slice Aden den.f6.length nden]] (by simp) HP.out ?hb ⟨k49_mk w ⟨m1.1, u2.1, num⟩ HLnum.out HCnum.out, k49_mk w ⟨m2.1, wrap64 (-d2.1), den⟩ HLden.out HCden.out, trivial⟩).mono ?_
    case hb => simp
    rintro _ w1 ⟨A1, n1, rfl, hl, hf, hp⟩
    replace HP := Aside0.mk hp
    have HLL := Aside0.mk hl
    have HFF := Aside0.mk hf
    clear hp hl hf
    obtain ⟨V, h_V⟩ : ∃ V, V = setV m2.2 (max num.f1 den.f1) [⟨m1.1, u2.1, num⟩, ⟨m2.1, wrap64 (-d2.1), den⟩] := ⟨_, rfl⟩
    rw [← h_V] at HLL HFF ⊢
    have H_V := Aside0.mk h_V
    clear h_V
    have hcz := fun ob : Obj => cells7 (Pd.hd (Pd.tl (Pd.alc HP.out ob)))
    have hfz := fun ob : Obj => froz7 (Pd.hd (Pd.tl (Pd.alc HP.out ob)))
    go_wp2
    refine bodyPost_ret (results_ct rfl _ _ gr 39 #[.int .i64 V.1, .int .i64 V.2.1, .int .i64 V.2.2.1, .int .i64 V.2.2.2.1, .int .i64 V.2.2.2.2.1, .int .i64 V.2.2.2.2.2.1, .slice A1 V.2.2.2.2.2.2.1.length n1] (0, 0) _ rfl (put7 (Pd.hd (Pd.tl (Pd.alc HP.out _)))) hu39 rfl (by kernel_rfl)) rfl ?_
    have hVR : V = rAtopV F c z num den := by (have h_up := H_up.out; have h_dn := H_dn.out; have h_gp := H_gp.out; have h_e_num := H_e_num.out; have h_e_den := H_e_den.out; have h_p1 := H_p1.out; have h_q1 := H_q1.out; have h_th := H_th.out; have h_ms := H_ms.out; have h_hf := H_hf.out; have h_u2 := H_u2.out; have h_d2 := H_d2.out; have h_m1 := H_m1.out; have h_m2 := H_m2.out; have h_V := H_V.out; subst h_up h_dn h_gp h_e_num h_e_den h_p1 h_q1 h_th h_ms h_hf h_u2 h_d2 h_m1 h_m2 h_V; unfold rAtopV; exact (if_pos HM.out).symm)
    rw [← hVR]
    exact ⟨A1, n1, rfl, HLL.out, HFF.out _ (fun k hk hlt => (far7 _ (hk (gr, _) (List.mem_cons_of_mem _ List.mem_cons_self))).trans (alloc_heap_lt hlt)), Pre.bel (Pd.toPre (Pd.st7 (Pd.tl (Pd.alc HP.out _))))⟩
  · have hd1 : decide (0 < ms.1) = false := by simp; omega
    have HM := Aside0.mk (show ms.1 ≤ 0 by omega)
    clear hm
    have hc_num := box_cells (Pd.hd (Pd.tl (Pd.tl (Pd.tl HP.out))))
    have hc_den := box_cells (Pd.hd (Pd.tl (Pd.tl HP.out)))
    go_wp2_with fail
    clear hc_num hc_den
    go_region_held3 (fun w' => w'.cell? ⟨gnum, 0, none⟩ = some (.int .i64 num.f0) ∧ w'.cell? ⟨gnum, 1, none⟩ = some (.int .i64 num.f1) ∧ w'.cell? ⟨gnum, 2, none⟩ = some (.int .i64 num.f2) ∧ w'.cell? ⟨gnum, 3, none⟩ = some (.int .i64 num.f3) ∧ w'.cell? ⟨gnum, 4, none⟩ = some (.int .i64 num.f4) ∧ w'.cell? ⟨gnum, 5, none⟩ = some (.int .i64 num.f5) ∧ w'.cell? ⟨gnum, 6, none⟩ = some (.slice Anum num.f6.length nnum) ∧ w'.cell? ⟨gden, 0, none⟩ = some (.int .i64 den.f0) ∧ w'.cell? ⟨gden, 1, none⟩ = some (.int .i64 den.f1) ∧ w'.cell? ⟨gden, 2, none⟩ = some (.int .i64 den.f2) ∧ w'.cell? ⟨gden, 3, none⟩ = some (.int .i64 den.f3) ∧ w'.cell? ⟨gden, 4, none⟩ = some (.int .i64 den.f4) ∧ w'.cell? ⟨gden, 5, none⟩ = some (.int .i64 den.f5) ∧ w'.cell? ⟨gden, 6, none⟩ = some (.slice Aden den.f6.length nden)) (first | with_reducible exact (and_assoc7 (box_cells (Pd.hd (Pd.tl (Pd.tl (Pd.tl (by with_reducible repeat (first | exact HP.out | apply Pd.alc | apply Pd.drew))))))) (box_cells (Pd.hd (Pd.tl (Pd.tl (by with_reducible repeat (first | exact HP.out | apply Pd.alc | apply Pd.drew)))))))) (first | (go_at_call 52; refine (mid_cd (by with_reducible repeat (first | exact HP.out | apply Pd.alc | apply Pd.drew)) _ _).mono ?_; rintro _ w1 ⟨rfl, hp⟩; replace HP := Aside0.mk hp; clear hp))
    obtain ⟨m1, h_m1⟩ : ∃ m1, m1 = midV ms.2 (max num.f1 den.f1) num.f1 := ⟨_, rfl⟩
    rw [← h_m1] at HP ⊢
    have H_m1 := Aside0.mk h_m1
    clear h_m1
    obtain ⟨m2, h_m2⟩ : ∃ m2, m2 = midV m1.2 (max num.f1 den.f1) den.f1 := ⟨_, rfl⟩
    rw [← h_m2] at HP ⊢
    have H_m2 := Aside0.mk h_m2
    clear h_m2
    go_wp2_with fail
    refine (setlit_cd (max num.f1 den.f1) [⟨m1.1, up.1, num⟩, ⟨m2.1, wrap64 (-dn.1), den⟩] [[.int .i64 m1.1, .int .i64 up.1, .int .i64 num.f0, .int .i64 num.f1, .int .i64 num.f2, .int .i64 num.f3, .int .i64 num.f4, .int .i64 num.f5, .slice Anum num.f6.length nnum], [.int .i64 m2.1, .int .i64 (wrap64 (-dn.1)), .int .i64 den.f0, .int .i64 den.f1, .int .i64 den.f2, .int .i64 den.f3, .int .i64 den.f4, .int .i64 den.f5, .slice Aden den.f6.length nden]] (by simp) HP.out ?hb ⟨k49_mk w ⟨m1.1, up.1, num⟩ HLnum.out HCnum.out, k49_mk w ⟨m2.1, wrap64 (-dn.1), den⟩ HLden.out HCden.out, trivial⟩).mono ?_
    case hb => simp
    rintro _ w1 ⟨A1, n1, rfl, hl, hf, hp⟩
    replace HP := Aside0.mk hp
    have HLL := Aside0.mk hl
    have HFF := Aside0.mk hf
    clear hp hl hf
    obtain ⟨V, h_V⟩ : ∃ V, V = setV m2.2 (max num.f1 den.f1) [⟨m1.1, up.1, num⟩, ⟨m2.1, wrap64 (-dn.1), den⟩] := ⟨_, rfl⟩
    rw [← h_V] at HLL HFF ⊢
    have H_V := Aside0.mk h_V
    clear h_V
    have hcz := fun ob : Obj => cells7 (Pd.hd (Pd.tl (Pd.alc HP.out ob)))
    have hfz := fun ob : Obj => froz7 (Pd.hd (Pd.tl (Pd.alc HP.out ob)))
    go_wp2
    refine bodyPost_ret (results_ct rfl _ _ gr 39 #[.int .i64 V.1, .int .i64 V.2.1, .int .i64 V.2.2.1, .int .i64 V.2.2.2.1, .int .i64 V.2.2.2.2.1, .int .i64 V.2.2.2.2.2.1, .slice A1 V.2.2.2.2.2.2.1.length n1] (0, 0) _ rfl (put7 (Pd.hd (Pd.tl (Pd.alc HP.out _)))) hu39 rfl (by kernel_rfl)) rfl ?_
    have hVR : V = rAtopV F c z num den := by (have h_up := H_up.out; have h_dn := H_dn.out; have h_gp := H_gp.out; have h_e_num := H_e_num.out; have h_e_den := H_e_den.out; have h_p1 := H_p1.out; have h_q1 := H_q1.out; have h_th := H_th.out; have h_ms := H_ms.out; have h_m1 := H_m1.out; have h_m2 := H_m2.out; have h_V := H_V.out; subst h_up h_dn h_gp h_e_num h_e_den h_p1 h_q1 h_th h_ms h_m1 h_m2 h_V; unfold rAtopV; exact (if_neg (Int.not_lt.mpr HM.out)).symm)
    rw [← hVR]
    exact ⟨A1, n1, rfl, HLL.out, HFF.out _ (fun k hk hlt => (far7 _ (hk (gr, _) (List.mem_cons_of_mem _ List.mem_cons_self))).trans (alloc_heap_lt hlt)), Pre.bel (Pd.toPre (Pd.st7 (Pd.tl (Pd.alc HP.out _))))⟩
end Go.Proofs.Ytjkbblnebpgpfaa.P
