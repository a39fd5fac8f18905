import Derived.Test.YtbhljokhcmfgjaaBar13
import Derived.Test.YtbhljokhcmfgjaaBar14
import Derived.Deep.Cut
/- bar.Radical with a degree: a short walk. Printed by a program of this work (mkrad1.py). -/
set_option linter.unusedVariables false
set_option linter.unusedSimpArgs false
namespace Go.Proofs.Ytbhljokhcmfgjaa.P
open Go.RowKit Go.Proofs.YtbhljokhcmfgjaaW.PrintWords Go.Proofs.YtbhljokhcmfgjaaW.PrintLast Go.Proofs.YtbhljokhcmfgjaaW.PrintMore

theorem Pd.foldD {P : Program} {C : Code} {a : Act} {Q : Exit → Act → World → Prop} {w W : World} {L : List (Nat × Obj)} (h : Pd w W L) (k : ∀ W', Pd w W' L → C.wp P Q a W') : C.wp P Q a W := k W h
theorem Pd.oldc {w W : World} {L : List (Nat × Obj)} (h : Pd w W L) {p : Addr} {v : Value} (hv : w.cell? p = some v) : W.cell? p = some v := by
  rw [h.bel.cell (World.block_lt_of_cell? w _ hv)]
  exact hv
theorem Pd.drop3 {w W : World} {L : List (Nat × Obj)} {a b c : Nat × Obj} (h : Pd w W (a :: b :: c :: L)) : Pd w W (b :: a :: L) :=
  ⟨⟨h.bel, fun p hp => h.loc p (by simp only [List.mem_cons] at hp ⊢; rcases hp with h | h | h <;> simp [h])⟩, by
    have h1 := h.dis
    simp only [List.pairwise_cons, List.mem_cons, forall_eq_or_imp] at h1 ⊢
    obtain ⟨⟨h2, h3, h4⟩, ⟨h5, h6⟩, h7, h8⟩ := h1
    exact ⟨⟨Ne.symm h2, h6⟩, h4, h8⟩⟩

theorem box_and3 {W : World} {b q : Nat} {v0 v1 v2 v3 v4 v5 v6 u0 u1 u2 u3 u4 u5 u6 : Value} {t t1 : TypeId} (h : W.heap[b]? = some (.cells #[v0, v1, v2, v3, v4, v5, v6] t (0, 0))) (h1 : W.heap[q]? = some (.cells #[u0, u1, u2, u3, u4, u5, u6] t1 (0, 0))) : W.cell? ⟨b, 0, none⟩ = some v0 ∧ W.cell? ⟨b, 1, none⟩ = some v1 ∧ W.cell? ⟨b, 2, none⟩ = some v2 ∧ W.cell? ⟨b, 3, none⟩ = some v3 ∧ W.cell? ⟨b, 4, none⟩ = some v4 ∧ W.cell? ⟨b, 5, none⟩ = some v5 ∧ W.cell? ⟨b, 6, none⟩ = some v6 ∧ W.cell? ⟨q, 3, none⟩ = some u3 :=
  ⟨blk_cell h 0, blk_cell h 1, blk_cell h 2, blk_cell h 3, blk_cell h 4, blk_cell h 5, blk_cell h 6, blk_cell h1 3⟩
theorem konst_long {F : S63} {k c z : Int} (h : (konstV F k c z).2 = 0) : F.f4.f0.length = 56 := by
  have key : ∃ v e, style_Konst.f 3 F.f0.f0 F.f0.f1 F.f0.f2 F.f0.f3 F.f0.f4 F.f0.f5 F.f1 F.f2 F.f3 F.f4.f0 F.f4.f1 F.f4.f2 F.f4.f3 F.f4.f4 F.f4.f5.f0 F.f4.f5.f1 F.f4.f5.f2 k c z = some (v, e) ∧ (e = 0 → F.f4.f0.length = 56) := by
    have hj : ∀ b : Bool, (b = false → 0 ≤ k ∧ k < 56) → ∃ v e, style_Konst.j0 3 k c z b F.f0.f0 F.f0.f1 F.f0.f2 F.f0.f3 F.f0.f4 F.f0.f5 F.f1 F.f2 F.f3 F.f4.f0 F.f4.f1 F.f4.f2 F.f4.f3 F.f4.f4 F.f4.f5.f0 F.f4.f5.f1 F.f4.f5.f2 = some (v, e) ∧ (e = 0 → F.f4.f0.length = 56) := by
      intro b hb
      simp only [style_Konst.j0]
      cases b with
      | true => exact ⟨0, 1, by simp, fun h => absurd h (by decide)⟩
      | false =>
        obtain ⟨h0, h1⟩ := hb rfl
        obtain ⟨v, e, hv, hi⟩ := size_total F.f4.f0 c z 2 (by omega)
        rw [if_neg (by simp), hv, Option.bind_some]
        by_cases he : e = 0
        · have hl := konstIs_length (hi he)
          simp only [he, if_true]
          rw [if_pos h0, if_pos (by omega)]
          unfold head_Units.f head_Is.f fixed_MulDiv.f
          simp only [Option.bind_some]
          split
          all_goals exact ⟨_, _, rfl, fun _ => hl⟩
        · simp only [he, if_false]
          exact ⟨_, _, rfl, fun h => absurd h he⟩
    unfold style_Konst.f
    split
    · exact hj true (by simp)
    · refine hj (decide (k ≥ 56)) (fun h => ?_)
      simp at h
      omega
  obtain ⟨v, e, h1, h2⟩ := key
  rw [konstV, h1] at h
  exact h2 h

theorem gset_d1 {W : World} {p q : Addr} {v u : Value} (h : (W.setCell p v).cell? q = some u) : (W.setCell p v).cell? q = some u := h
theorem g0_d1 {P : Program} {f : FuncId} {xs : Array Value} {W : World} {o : Obj} {R : Ending → World → Prop} (h : Calls P f xs (W.alloc o) R) : Calls P f xs (W.alloc o) R := h
theorem g0d_d1 {P : Program} {f : FuncId} {xs : Array Value} {W : World} {o : Obj} {R : Ending → World → Prop} (h : Calls P f xs (W.alloc o).drew R) : Calls P f xs (W.alloc o).drew R := h
theorem g1_d1 {P : Program} {f : FuncId} {a : Value} {k : Nat} {W : World} {o : Obj} {R : Ending → World → Prop} (n : Nat) (h : Calls P f #[a, .slice (some ⟨k, 0, none⟩) n n] (W.alloc o) R) : Calls P f #[a, .slice (some ⟨k, 0, none⟩) n n] (W.alloc o) R := h
theorem g2_d1 {P : Program} {f : FuncId} {a : Value} {k : Nat} {W : World} {o o1 : Obj} {R : Ending → World → Prop} (n : Nat) (h : Calls P f #[a, .slice (some ⟨k, 0, none⟩) n n] ((W.alloc o1).alloc o) R) : Calls P f #[a, .slice (some ⟨k, 0, none⟩) n n] ((W.alloc o1).alloc o) R := h
theorem g3_d1 {P : Program} {f : FuncId} {a : Value} {k : Nat} {W : World} {o o1 : Obj} {R : Ending → World → Prop} (n : Nat) (h : Calls P f #[a, .slice (some ⟨k + 1, 0, none⟩) n n] ((W.alloc o1).alloc o) R) : Calls P f #[a, .slice (some ⟨k + 1, 0, none⟩) n n] ((W.alloc o1).alloc o) R := h
theorem g1d_d1 {P : Program} {f : FuncId} {a : Value} {k : Nat} {W : World} {o : Obj} {R : Ending → World → Prop} (n : Nat) (h : Calls P f #[a, .slice (some ⟨k, 0, none⟩) n n] (W.alloc o).drew R) : Calls P f #[a, .slice (some ⟨k, 0, none⟩) n n] (W.alloc o).drew R := h
theorem g2d_d1 {P : Program} {f : FuncId} {a : Value} {k : Nat} {W : World} {o o1 : Obj} {R : Ending → World → Prop} (n : Nat) (h : Calls P f #[a, .slice (some ⟨k, 0, none⟩) n n] ((W.alloc o1).alloc o).drew R) : Calls P f #[a, .slice (some ⟨k, 0, none⟩) n n] ((W.alloc o1).alloc o).drew R := h
theorem g3d_d1 {P : Program} {f : FuncId} {a : Value} {k : Nat} {W : World} {o o1 : Obj} {R : Ending → World → Prop} (n : Nat) (h : Calls P f #[a, .slice (some ⟨k + 1, 0, none⟩) n n] ((W.alloc o1).alloc o).drew R) : Calls P f #[a, .slice (some ⟨k + 1, 0, none⟩) n n] ((W.alloc o1).alloc o).drew R := h

set_option maxRecDepth 100000 in
set_option maxHeartbeats 16000000 in
theorem rad1_calls (F : S63) (c z : Int) (b s d : S25) (Ab As Ad : Option Addr) (nb ns nd : Nat) (cs : List Value) (w : World) (hF : FontIn w F cs) (lb : b.f6.length ≤ nb) (hb : Kd.C k41 w Ab b.f6.length b.f6) (ls : s.f6.length ≤ ns) (hs : Kd.C k41 w As s.f6.length s.f6) (hd : Kd.C k25 w Ad 1 [d]) :
    Calls Try.prog 74 #[.agg cs.toArray, .int .i64 c, .int .i64 z, .agg #[.int .i64 b.f0, .int .i64 b.f1, .int .i64 b.f2, .int .i64 b.f3, .int .i64 b.f4, .int .i64 b.f5, .slice Ab b.f6.length nb], .agg #[.int .i64 s.f0, .int .i64 s.f1, .int .i64 s.f2, .int .i64 s.f3, .int .i64 s.f4, .int .i64 s.f5, .slice As s.f6.length ns], .slice Ad 1 nd] w fun r w' => ∃ A1 n1, r = .returned (.tuple #[.agg #[.int .i64 (radV1 F c z b s d (rd F.f4.f0 55)).1, .int .i64 (radV1 F c z b s d (rd F.f4.f0 55)).2.1, .int .i64 (radV1 F c z b s d (rd F.f4.f0 55)).2.2.1, .int .i64 (radV1 F c z b s d (rd F.f4.f0 55)).2.2.2.1, .int .i64 (radV1 F c z b s d (rd F.f4.f0 55)).2.2.2.2.1, .int .i64 (radV1 F c z b s d (rd F.f4.f0 55)).2.2.2.2.2.1, .slice A1 (radV1 F c z b s d (rd F.f4.f0 55)).2.2.2.2.2.2.1.length n1], .int .i64 (radV1 F c z b s d (rd F.f4.f0 55)).2.2.2.2.2.2.2]) ∧ (radV1 F c z b s d (rd F.f4.f0 55)).2.2.2.2.2.2.1.length ≤ n1 ∧ Kd.C k41 w' A1 (radV1 F c z b s d (rd F.f4.f0 55)).2.2.2.2.2.2.1.length (radV1 F c z b s d (rd F.f4.f0 55)).2.2.2.2.2.2.1 ∧ Below w.heap.size w w' := by
  have hu39 := Try.underlying25
  have hu49 := Try.underlying41
  have hu36 := Try.underlying63
  have hu86 := Try.underlying110
  obtain ⟨R, hR⟩ : ∃ R, R = radV1 F c z b s d (rd F.f4.f0 55) := ⟨_, rfl⟩
  rw [← hR]
  have HR := Aside0.mk hR
  clear hR
  obtain ⟨A6, c6, A7, c7, A8, c8, A9, c9, A10, c10, A11, c11, A12, c12, A13, c13, A15, c15, A16, c16, hcs, hcr⟩ := id hF
  subst hcs
  have HF := Aside0.mk hF
  obtain ⟨l6, g6, l7, g7, l8, g8, l9, g9, l10, g10, l11, g11, l12, g12, l13, g13, l15, g15, l16, g16⟩ := hcr
  have HG9 := Aside0.mk g9
  clear l6 g6 l7 g7 l8 g8 l9 g9 l10 g10 l11 g11 l12 g12 l13 g13 l15 g15 l16 g16
  obtain ⟨ad, A8d, c8d, hAd, h0, h1, h2, h3, h4, h5, h6, hl8, hC8⟩ := at_T25 hd 0 (Int.le_refl _) (by decide)
  subst hAd
  simp only [show (0 : Int).toNat = 0 from rfl, Nat.zero_mul, show ad.add 0 = ad by simp [Addr.add], show rd_T25 [d] 0 = d from rfl] at h0 h1 h2 h3 h4 h5 h6 hl8 hC8
  have HD0 := Aside0.mk h0
  have HD1 := Aside0.mk h1
  have HD2 := Aside0.mk h2
  have HD3 := Aside0.mk h3
  have HD4 := Aside0.mk h4
  have HD5 := Aside0.mk h5
  have HD6 := Aside0.mk h6
  have HLd := Aside0.mk hl8
  have HCd := Aside0.mk hC8
  have HDD := Aside0.mk hd
  clear h0 h1 h2 h3 h4 h5 h6 hl8 hC8 hd
  have HKb := Aside0.mk (k25_mk w b lb hb)
  have HLb := Aside0.mk lb
  have HCb := Aside0.mk hb
  have HKs := Aside0.mk (k25_mk w s ls hs)
  have HLs := Aside0.mk ls
  have HCs := Aside0.mk hs
  clear hF hb lb hs ls
  go_enter Try.func74, Try.ntmps74
  have HP := Aside0.mk (Pd.start w)
  go_wp2_with (first | ((with_reducible refine gate_dst (N := 6) rfl ?_); refine box_event ?hg (N := 6) ?hd (cs := #[.int .i64 F.f0.f0, .int .i64 F.f0.f1, .int .i64 F.f0.f2, .int .i64 F.f0.f3, .int .i64 F.f0.f4, .bool F.f0.f5, .slice A6 F.f1.length c6, .slice A7 F.f2.length c7, .slice A8 F.f3.length c8, .slice A9 F.f4.f0.length c9, .slice A10 F.f4.f1.length c10, .slice A11 F.f4.f2.length c11, .slice A12 F.f4.f3.length c12, .slice A13 F.f4.f4.length c13, .int .i64 F.f4.f5.f0, .slice A15 F.f4.f5.f1.length c15, .slice A16 F.f4.f5.f2.length c16]) (t := 63) ?hr ?_; (case hd => rfl); (case hg => rfl); (case hr => first | (go_simp; done) | (go_simp; rfl)); intro gf hg wk hbox hb; replace HP := Aside0.mk (Pd.box (by with_reducible repeat (first | exact HP.out | apply Pd.drew)) hg hbox hb); clear hg hbox hb) | ((with_reducible refine gate_dst (N := 9) rfl ?_); refine box_event ?hg (N := 9) ?hd (cs := #[.int .i64 b.f0, .int .i64 b.f1, .int .i64 b.f2, .int .i64 b.f3, .int .i64 b.f4, .int .i64 b.f5, .slice Ab b.f6.length nb]) (t := 25) ?hr ?_; (case hd => rfl); (case hg => rfl); (case hr => first | (go_simp; done) | (go_simp; rfl)); intro gb hg wk hbox hb; replace HP := Aside0.mk (Pd.box (by with_reducible repeat (first | exact HP.out | apply Pd.drew)) hg hbox hb); clear hg hbox hb) | ((with_reducible refine gate_dst (N := 10) rfl ?_); refine box_event ?hg (N := 10) ?hd (cs := #[.int .i64 s.f0, .int .i64 s.f1, .int .i64 s.f2, .int .i64 s.f3, .int .i64 s.f4, .int .i64 s.f5, .slice As s.f6.length ns]) (t := 25) ?hr ?_; (case hd => rfl); (case hg => rfl); (case hr => first | (go_simp; done) | (go_simp; rfl)); intro gs hg wk hbox hb; replace HP := Aside0.mk (Pd.box (by with_reducible repeat (first | exact HP.out | apply Pd.drew)) hg hbox hb); clear hg hbox hb) | ((with_reducible refine gate_dst (N := 12) rfl ?_); refine box_event ?hg (N := 12) ?hd (cs := #[.int .i64 0, .int .i64 0, .int .i64 0, .int .i64 0, .int .i64 0, .int .i64 0, .slice none 0 0]) (t := 25) ?hr ?_; (case hd => rfl); (case hg => rfl); (case hr => first | (go_simp; done) | (go_simp; rfl)); intro gr hg wk hbox hb; replace HP := Aside0.mk (Pd.box (by with_reducible repeat (first | exact HP.out | apply Pd.drew)) hg hbox hb); clear hg hbox hb) | ((with_reducible refine gate_dst (N := 34) rfl ?_); refine wpList_load_row rfl 63 (.tmp 6) rfl gf (by rfl) 63 #[.int .i64 F.f0.f0, .int .i64 F.f0.f1, .int .i64 F.f0.f2, .int .i64 F.f0.f3, .int .i64 F.f0.f4, .bool F.f0.f5, .slice A6 F.f1.length c6, .slice A7 F.f2.length c7, .slice A8 F.f3.length c8, .slice A9 F.f4.f0.length c9, .slice A10 F.f4.f1.length c10, .slice A11 F.f4.f2.length c11, .slice A12 F.f4.f3.length c12, .slice A13 F.f4.f4.length c13, .int .i64 F.f4.f5.f0, .slice A15 F.f4.f5.f1.length c15, .slice A16 F.f4.f5.f2.length c16] (0, 0) _ (Pd.hd (Pd.tl (Pd.tl (Pd.tl (by with_reducible repeat (first | exact HP.out | apply Pd.drew)))))) hu36 rfl info_font ?_) | ((with_reducible refine gate_dst (N := 38) rfl ?_); refine box_event ?hg (N := 38) ?hd (cs := #[.int .i64 0, .int .i64 F.f0.f0, .int .i64 F.f0.f1, .int .i64 F.f0.f2, .int .i64 F.f0.f3, .int .i64 F.f0.f4, .bool F.f0.f5, .slice A6 F.f1.length c6, .slice A7 F.f2.length c7, .slice A8 F.f3.length c8, .slice A9 F.f4.f0.length c9, .slice A10 F.f4.f1.length c10, .slice A11 F.f4.f2.length c11, .slice A12 F.f4.f3.length c12, .slice A13 F.f4.f4.length c13, .int .i64 F.f4.f5.f0, .slice A15 F.f4.f5.f1.length c15, .slice A16 F.f4.f5.f2.length c16, .int .i64 c, .int .i64 z]) (t := 110) ?hr ?_; (case hd => rfl); (case hg => rfl); (case hr => first | (go_simp; done) | (go_simp; rfl)); intro g hg wk hbox hb; replace HP := Aside0.mk (Pd.box (by with_reducible repeat (first | exact HP.out | apply Pd.drew)) hg hbox hb); clear hg hbox hb))
  refine (gap_pd (by with_reducible repeat (first | exact HP.out | apply Pd.drew)) HF.out (by rfl)).mono ?_
  rintro _ w1 ⟨rfl, hp⟩
  replace HP := Aside0.mk hp
  clear hp
  obtain ⟨gp, h_gp⟩ : ∃ gp, gp = keepV 0 (gapV F c z) := ⟨_, rfl⟩
  rw [← h_gp] at HP ⊢
  have H_gp := Aside0.mk h_gp
  clear h_gp
  go_wp2_with fail
  refine (konst_pd (by with_reducible repeat (first | exact HP.out | apply Pd.drew)) HF.out (by rfl) 51).mono ?_
  rintro _ w1 ⟨rfl, hp⟩
  replace HP := Aside0.mk hp
  clear hp
  obtain ⟨th, h_th⟩ : ∃ th, th = keepV gp.2 (konstV F 51 c z) := ⟨_, rfl⟩
  rw [← h_th] at HP ⊢
  have H_th := Aside0.mk h_th
  clear h_th
  go_wp2_with fail
  refine (konst_pd (by with_reducible repeat (first | exact HP.out | apply Pd.drew)) HF.out (by rfl) 52).mono ?_
  rintro _ w1 ⟨rfl, hp⟩
  replace HP := Aside0.mk hp
  clear hp
  obtain ⟨fr, h_fr⟩ : ∃ fr, fr = keepV th.2 (konstV F 52 c z) := ⟨_, rfl⟩
  rw [← h_fr] at HP ⊢
  have H_fr := Aside0.mk h_fr
  clear h_fr
  go_wp2_with fail
  obtain ⟨ah, h_ah⟩ : ∃ ah, ah = keepV fr.2 (konstV F 53 c z) := ⟨_, rfl⟩
  have H_ah := Aside0.mk h_ah
  clear h_ah
  obtain ⟨bh, h_bh⟩ : ∃ bh, bh = keepV ah.2 (konstV F 54 c z) := ⟨_, rfl⟩
  have H_bh := Aside0.mk h_bh
  clear h_bh
  go_loopw [47, 18, 19] (fun i x y wr => (i = .int .i64 0 ∧ x = .int .i64 0 ∧ y = .int .i64 0 ∧ Aside0 (Pd w wr [(g, .cells #[.int .i64 fr.2, .int .i64 F.f0.f0, .int .i64 F.f0.f1, .int .i64 F.f0.f2, .int .i64 F.f0.f3, .int .i64 F.f0.f4, .bool F.f0.f5, .slice A6 F.f1.length c6, .slice A7 F.f2.length c7, .slice A8 F.f3.length c8, .slice A9 F.f4.f0.length c9, .slice A10 F.f4.f1.length c10, .slice A11 F.f4.f2.length c11, .slice A12 F.f4.f3.length c12, .slice A13 F.f4.f4.length c13, .int .i64 F.f4.f5.f0, .slice A15 F.f4.f5.f1.length c15, .slice A16 F.f4.f5.f2.length c16, .int .i64 c, .int .i64 z] 110), (gr, .cells #[.int .i64 0, .int .i64 0, .int .i64 0, .int .i64 0, .int .i64 0, .int .i64 0, .slice none 0 0] 25), (gs, .cells #[.int .i64 s.f0, .int .i64 s.f1, .int .i64 s.f2, .int .i64 s.f3, .int .i64 s.f4, .int .i64 s.f5, .slice As s.f6.length ns] 25), (gb, .cells #[.int .i64 b.f0, .int .i64 b.f1, .int .i64 b.f2, .int .i64 b.f3, .int .i64 b.f4, .int .i64 b.f5, .slice Ab b.f6.length nb] 25), (gf, .cells #[.int .i64 F.f0.f0, .int .i64 F.f0.f1, .int .i64 F.f0.f2, .int .i64 F.f0.f3, .int .i64 F.f0.f4, .bool F.f0.f5, .slice A6 F.f1.length c6, .slice A7 F.f2.length c7, .slice A8 F.f3.length c8, .slice A9 F.f4.f0.length c9, .slice A10 F.f4.f1.length c10, .slice A11 F.f4.f2.length c11, .slice A12 F.f4.f3.length c12, .slice A13 F.f4.f4.length c13, .int .i64 F.f4.f5.f0, .slice A15 F.f4.f5.f1.length c15, .slice A16 F.f4.f5.f2.length c16] 63)])) ∨ (i = .int .i64 1 ∧ x = .int .i64 ah.1 ∧ y = .int .i64 bh.1 ∧ Aside0 (Pd w wr [(g, .cells #[.int .i64 bh.2, .int .i64 F.f0.f0, .int .i64 F.f0.f1, .int .i64 F.f0.f2, .int .i64 F.f0.f3, .int .i64 F.f0.f4, .bool F.f0.f5, .slice A6 F.f1.length c6, .slice A7 F.f2.length c7, .slice A8 F.f3.length c8, .slice A9 F.f4.f0.length c9, .slice A10 F.f4.f1.length c10, .slice A11 F.f4.f2.length c11, .slice A12 F.f4.f3.length c12, .slice A13 F.f4.f4.length c13, .int .i64 F.f4.f5.f0, .slice A15 F.f4.f5.f1.length c15, .slice A16 F.f4.f5.f2.length c16, .int .i64 c, .int .i64 z] 110), (gr, .cells #[.int .i64 0, .int .i64 0, .int .i64 0, .int .i64 0, .int .i64 0, .int .i64 0, .slice none 0 0] 25), (gs, .cells #[.int .i64 s.f0, .int .i64 s.f1, .int .i64 s.f2, .int .i64 s.f3, .int .i64 s.f4, .int .i64 s.f5, .slice As s.f6.length ns] 25), (gb, .cells #[.int .i64 b.f0, .int .i64 b.f1, .int .i64 b.f2, .int .i64 b.f3, .int .i64 b.f4, .int .i64 b.f5, .slice Ab b.f6.length nb] 25), (gf, .cells #[.int .i64 F.f0.f0, .int .i64 F.f0.f1, .int .i64 F.f0.f2, .int .i64 F.f0.f3, .int .i64 F.f0.f4, .bool F.f0.f5, .slice A6 F.f1.length c6, .slice A7 F.f2.length c7, .slice A8 F.f3.length c8, .slice A9 F.f4.f0.length c9, .slice A10 F.f4.f1.length c10, .slice A11 F.f4.f2.length c11, .slice A12 F.f4.f3.length c12, .slice A13 F.f4.f4.length c13, .int .i64 F.f4.f5.f0, .slice A15 F.f4.f5.f1.length c15, .slice A16 F.f4.f5.f2.length c16] 63)]))) (fun i _ _ _ => 1 - (intOf i).toNat)
  case atStart => exact .inl ⟨rfl, rfl, rfl, ⟨(by with_reducible repeat (first | exact HP.out | apply Pd.drew))⟩⟩
  case round =>
    rcases hrel with ⟨rfl, rfl, rfl, HP⟩ | ⟨rfl, rfl, rfl, HP⟩
    · go_wp2_with fail
      refine (konst_pd (by with_reducible repeat (first | exact HP.out | apply Pd.drew)) HF.out (by rfl) 53).mono ?_
      rintro _ w1 ⟨rfl, hp⟩
      rw [← H_ah.out] at hp ⊢
      replace HP := Aside0.mk hp
      clear hp
      go_wp2_with fail
      refine (konst_pd (by with_reducible repeat (first | exact HP.out | apply Pd.drew)) HF.out (by rfl) 54).mono ?_
      rintro _ w1 ⟨rfl, hp⟩
      rw [← H_bh.out] at hp ⊢
      replace HP := Aside0.mk hp
      clear hp
      go_wp2
      go_roundw
      case rel => exact .inr ⟨by first | rfl | go_num, rfl, rfl, ⟨(by with_reducible repeat (first | exact HP.out | apply Pd.drew))⟩⟩
      case measure => simp [intOf]
    · obtain ⟨RS, hRS⟩ : ∃ r : List Value, r = [.int .i64 F.f0.f0, .int .i64 F.f0.f1, .int .i64 F.f0.f2, .int .i64 F.f0.f3, .int .i64 F.f0.f4, .bool F.f0.f5, .slice A6 F.f1.length c6, .slice A7 F.f2.length c7, .slice A8 F.f3.length c8, .slice A9 F.f4.f0.length c9, .slice A10 F.f4.f1.length c10, .slice A11 F.f4.f2.length c11, .slice A12 F.f4.f3.length c12, .slice A13 F.f4.f4.length c13, .int .i64 F.f4.f5.f0, .slice A15 F.f4.f5.f1.length c15, .slice A16 F.f4.f5.f2.length c16, .int .i64 c, .int .i64 z] := ⟨_, rfl⟩
      obtain ⟨OF, hOF⟩ : ∃ ob : Obj, ob = .cells #[.int .i64 F.f0.f0, .int .i64 F.f0.f1, .int .i64 F.f0.f2, .int .i64 F.f0.f3, .int .i64 F.f0.f4, .bool F.f0.f5, .slice A6 F.f1.length c6, .slice A7 F.f2.length c7, .slice A8 F.f3.length c8, .slice A9 F.f4.f0.length c9, .slice A10 F.f4.f1.length c10, .slice A11 F.f4.f2.length c11, .slice A12 F.f4.f3.length c12, .slice A13 F.f4.f4.length c13, .int .i64 F.f4.f5.f0, .slice A15 F.f4.f5.f1.length c15, .slice A16 F.f4.f5.f2.length c16] 63 := ⟨_, rfl⟩
      rw [← hRS, ← hOF] at HP
      have HF9 : Aside0 (∀ W : World, W.heap[gf]? = some OF → W.cell? ⟨gf, 9, none⟩ = some (.slice A9 F.f4.f0.length c9)) := ⟨fun W h => by rw [hOF] at h; exact blk_cell h 9⟩
      clear hRS hOF
      generalize (Value.agg #[.int .i64 F.f0.f0, .int .i64 F.f0.f1, .int .i64 F.f0.f2, .int .i64 F.f0.f3, .int .i64 F.f0.f4, .bool F.f0.f5, .slice A6 F.f1.length c6, .slice A7 F.f2.length c7, .slice A8 F.f3.length c8, .slice A9 F.f4.f0.length c9, .slice A10 F.f4.f1.length c10, .slice A11 F.f4.f2.length c11, .slice A12 F.f4.f3.length c12, .slice A13 F.f4.f4.length c13, .int .i64 F.f4.f5.f0, .slice A15 F.f4.f5.f1.length c15, .slice A16 F.f4.f5.f2.length c16]) = vf0
      generalize (Value.agg #[.int .i64 0, .int .i64 F.f0.f0, .int .i64 F.f0.f1, .int .i64 F.f0.f2, .int .i64 F.f0.f3, .int .i64 F.f0.f4, .bool F.f0.f5, .slice A6 F.f1.length c6, .slice A7 F.f2.length c7, .slice A8 F.f3.length c8, .slice A9 F.f4.f0.length c9, .slice A10 F.f4.f1.length c10, .slice A11 F.f4.f2.length c11, .slice A12 F.f4.f3.length c12, .slice A13 F.f4.f4.length c13, .int .i64 F.f4.f5.f0, .slice A15 F.f4.f5.f1.length c15, .slice A16 F.f4.f5.f2.length c16, .int .i64 c, .int .i64 z]) = vf1
      clear HF
      go_wp2_with fail
      go_region_held3 (fun w' => w'.cell? ⟨gb, 0, none⟩ = some (.int .i64 b.f0) ∧ w'.cell? ⟨gb, 1, none⟩ = some (.int .i64 b.f1) ∧ w'.cell? ⟨gb, 2, none⟩ = some (.int .i64 b.f2) ∧ w'.cell? ⟨gb, 3, none⟩ = some (.int .i64 b.f3) ∧ w'.cell? ⟨gb, 4, none⟩ = some (.int .i64 b.f4) ∧ w'.cell? ⟨gb, 5, none⟩ = some (.int .i64 b.f5) ∧ w'.cell? ⟨gb, 6, none⟩ = some (.slice Ab b.f6.length nb) ∧ w'.cell? ⟨gs, 0, none⟩ = some (.int .i64 s.f0) ∧ w'.cell? ⟨gs, 1, none⟩ = some (.int .i64 s.f1) ∧ w'.cell? ⟨gs, 2, none⟩ = some (.int .i64 s.f2) ∧ w'.cell? ⟨gs, 3, none⟩ = some (.int .i64 s.f3) ∧ w'.cell? ⟨gs, 4, none⟩ = some (.int .i64 s.f4) ∧ w'.cell? ⟨gs, 5, none⟩ = some (.int .i64 s.f5) ∧ w'.cell? ⟨gs, 6, none⟩ = some (.slice As s.f6.length ns)) (with_reducible exact both_cells (Pd.getb (by with_reducible repeat (first | exact HP.out | apply Pd.alloc | apply Pd.drew)) (by with_reducible repeat (first | exact List.mem_cons_self | apply List.mem_cons_of_mem))) (Pd.getb (by with_reducible repeat (first | exact HP.out | apply Pd.alloc | apply Pd.drew)) (by with_reducible repeat (first | exact List.mem_cons_self | apply List.mem_cons_of_mem)))) (first | (go_at_call 68; refine (need2_pd (by with_reducible first | exact Lit.refl _ _ | exact Lit.drew _ _) (by with_reducible repeat (first | exact HP.out | apply Pd.alloc | apply Pd.drew)) (by simp) HKb.out HKs.out).mono ?_; rintro _ w1 ⟨rfl, hp⟩; replace HP := Aside0.mk hp; clear hp))
      obtain ⟨e2, h_e2⟩ : ∃ e2, e2 = needE [b, s] bh.2 := ⟨_, rfl⟩
      rw [← h_e2] at HP
      have H_e2 := Aside0.mk h_e2
      clear h_e2
      go_wp2_with fail
      refine (need_arg_pd [d] (by with_reducible repeat (first | exact HP.out | apply Pd.drew)) (by simp) HDD.out).mono ?_
      rintro _ wz ⟨rfl, hp⟩
      replace HP := Aside0.mk hp
      clear hp
      obtain ⟨e3, h_e3⟩ : ∃ e3, e3 = needE [d] e2 := ⟨_, rfl⟩
      rw [← h_e3] at HP
      have H_e3 := Aside0.mk h_e3
      clear h_e3
      have hc0 := head_cell (Pd.hd HP.out)
      by_cases hee : e3 = 0
      rotate_left
      · have hd1 : decide (e3 = 0) = false := by simp; exact hee
        have HE := Aside0.mk hee
        have hgr : gr ≠ g := Pd.ne1 HP.out
        have hgr2 := hgr.symm
        have hcz := cells7 (Pd.hd (Pd.tl HP.out))
        have hfz := froz7 (Pd.hd (Pd.tl HP.out))
        go_wp2_with fail
        go_region
        all_goals go_wp2
        all_goals refine bodyPost_ret (results_ct rfl _ _ gr 25 #[.int .i64 0, .int .i64 0, .int .i64 0, .int .i64 0, .int .i64 0, .int .i64 0, .slice none 0 0] (0, 0) _ rfl (blk_drew (put7 (Pd.hd (Pd.tl HP.out)))) hu39 rfl (by kernel_rfl)) rfl ?_
        have hRR : R = (0, 0, 0, 0, 0, 0, [], e3) := by (rw [HR.out]; have h_gp := H_gp.out; have h_th := H_th.out; have h_fr := H_fr.out; have h_ah := H_ah.out; have h_bh := H_bh.out; have h_e2 := H_e2.out; have h_e3 := H_e3.out; subst h_gp h_th h_fr h_ah h_bh h_e2 h_e3; unfold radV1; exact if_neg HE.out)
        rw [hRR]
        exact ⟨none, 0, rfl, Nat.le_refl _, Kd.C_nil _ _, Pre.bel (Pd.toPre (Pd.drew (Pd.st7 HP.out.tl)))⟩
      · have hlen : F.f4.f0.length = 56 := by
          have k0 := (needE_ok (H_e3.out.symm.trans hee)).1
          have k1 := (needE_ok (H_e2.out.symm.trans k0)).1
          have k2 := keepV_ok (H_bh.out ▸ k1)
          exact konst_long k2.2.1
        obtain ⟨ak, hAk, hk55⟩ := Kd.at_int HG9.out 55 (by omega) (by rw [hlen]; omega)
        subst hAk
        simp only [show (55 : Int).toNat = 55 from rfl] at hk55
        simp only [Addr.add, show ¬ (55 : Nat) = 0 by omega, if_false] at hk55
        have HK55 := Aside0.mk hk55
        clear hk55
        replace HF9 : Aside0 (∀ W : World, W.heap[gf]? = some OF → W.cell? ⟨gf, 9, none⟩ = some (.slice (some ak) 56 c9)) := ⟨fun W h => by have h2 := HF9.out W h; rw [hlen] at h2; exact h2⟩
        clear hlen
        subst hee
        go_wp2_with fail
        clear hc0
        apply with_key
        case k =>
            intro key
            go_region_held3 (fun w' => w'.cell? ⟨gb, 2, none⟩ = some (.int .i64 b.f2) ∧ w'.cell? ⟨gb, 3, none⟩ = some (.int .i64 b.f3) ∧ w'.cell? ⟨gs, 2, none⟩ = some (.int .i64 s.f2) ∧ w'.cell? ⟨gs, 3, none⟩ = some (.int .i64 s.f3)) (with_reducible exact bs_c4 (Pd.getb (by with_reducible repeat (first | exact HP.out | apply Pd.alloc | apply Pd.drew)) (by with_reducible repeat (first | exact List.mem_cons_self | apply List.mem_cons_of_mem))) (Pd.getb (by with_reducible repeat (first | exact HP.out | apply Pd.alloc | apply Pd.drew)) (by with_reducible repeat (first | exact List.mem_cons_self | apply List.mem_cons_of_mem)))) (first | (go_at_call 69; (try simp only [i64_w]); (with_reducible refine len_gate 4 ?_); (first | with_reducible refine g3_d1 4 ?_ | with_reducible refine g3d_d1 4 ?_); refine (sum4_two' (by with_reducible first | exact Lit.refl _ _ | exact Lit.drew _ _) (by with_reducible repeat (first | exact HP.out | apply Pd.alloc | apply Pd.drew)) rfl).mono ?_; rintro _ w4 ⟨rfl, hp⟩; replace HP := Aside0.mk hp; clear hp) | (go_at_call 69; (try simp only [i64_w]); (with_reducible refine len_gate 2 ?_); (first | with_reducible refine g3_d1 2 ?_ | with_reducible refine g3d_d1 2 ?_); refine (sum2_two' (by with_reducible first | exact Lit.refl _ _ | exact Lit.drew _ _) (by with_reducible repeat (first | exact HP.out | apply Pd.alloc | apply Pd.drew)) rfl).mono ?_; rintro _ w1 ⟨rfl, hp⟩; replace HP := Aside0.mk hp; clear hp) | (go_at_call 69; (try simp only [i64_w]); (with_reducible refine len_gate 4 ?_); (first | with_reducible refine g2_d1 4 ?_ | with_reducible refine g2d_d1 4 ?_); refine (sum4_two (by with_reducible first | exact Lit.refl _ _ | exact Lit.drew _ _) (by with_reducible repeat (first | exact HP.out | apply Pd.alloc | apply Pd.drew)) rfl).mono ?_; rintro _ w4 ⟨rfl, hp⟩; replace HP := Aside0.mk hp; clear hp) | (go_at_call 69; (try simp only [i64_w]); (with_reducible refine len_gate 2 ?_); (first | with_reducible refine g2_d1 2 ?_ | with_reducible refine g2d_d1 2 ?_); refine (sum2_two (by with_reducible first | exact Lit.refl _ _ | exact Lit.drew _ _) (by with_reducible repeat (first | exact HP.out | apply Pd.alloc | apply Pd.drew)) rfl).mono ?_; rintro _ w1 ⟨rfl, hp⟩; replace HP := Aside0.mk hp; clear hp) | (go_at_call 69; (try simp only [i64_w]); (with_reducible refine len_gate 4 ?_); (first | with_reducible refine g1_d1 4 ?_ | with_reducible refine g1d_d1 4 ?_); refine (sum4_pd (by with_reducible first | exact Lit.refl _ _ | exact Lit.drew _ _) (by with_reducible repeat (first | exact HP.out | apply Pd.alloc | apply Pd.drew)) rfl).mono ?_; rintro _ w4 ⟨rfl, hp⟩; replace HP := Aside0.mk hp; clear hp) | (go_at_call 69; (try simp only [i64_w]); (with_reducible refine len_gate 2 ?_); (first | with_reducible refine g1_d1 2 ?_ | with_reducible refine g1d_d1 2 ?_); refine (sum2_pd (by with_reducible first | exact Lit.refl _ _ | exact Lit.drew _ _) (by with_reducible repeat (first | exact HP.out | apply Pd.alloc | apply Pd.drew)) rfl).mono ?_; rintro _ w1 ⟨rfl, hp⟩; replace HP := Aside0.mk hp; clear hp) | (go_at_call 69; (try simp only [i64_w]); (with_reducible refine len_gate 4 ?_); refine (sum4_nx (by with_reducible repeat (first | exact HP.out | apply Pd.drew))).mono ?_; rintro _ w4 ⟨rfl, hp⟩; replace HP := Aside0.mk hp; clear hp) | (go_at_call 69; (try simp only [i64_w]); (with_reducible refine len_gate 2 ?_); refine (sum2_nx (by with_reducible repeat (first | exact HP.out | apply Pd.drew))).mono ?_; rintro _ w1 ⟨rfl, hp⟩; replace HP := Aside0.mk hp; clear hp))
            · (generalize w4.heap.size = k2; generalize wz.heap.size = k4; revert k2; revert k4; revert HP; revert w1; exact key)
            · (generalize wz.heap.size + 1 = k2; generalize wz.heap.size = k4; revert k2; revert k4; revert HP; revert w1; exact key)
            · (generalize wz.heap.size + 1 = k4; generalize wz.heap.size = k2; revert k2; revert k4; revert HP; revert w1; exact key)
        case p =>
            intro w1 _ HP k4 k2
            obtain ⟨n, h_n⟩ : ∃ n, n = keepV 0 (toldOf (sumR [gp.1, th.1, b.f2, b.f3])) := ⟨_, rfl⟩
            rw [← h_n] at HP ⊢
            have H_n := Aside0.mk h_n
            clear h_n
            obtain ⟨h, h_h⟩ : ∃ h, h = keepV n.2 (toldOf (sumR [s.f2, s.f3])) := ⟨_, rfl⟩
            rw [← h_h] at HP ⊢
            have H_h := Aside0.mk h_h
            clear h_h
            obtain ⟨q, h_q⟩ : ∃ q, q = radGap gp.1 n.1 h.1 h.2 := ⟨_, rfl⟩
            have H_q := Aside0.mk h_q
            clear h_q
            go_upto_if 100 with fail
            go_cut [15] from 98 (fun s15 w' => s15 = .int .i64 q.1 ∧ Aside0 (Pd w w' [(g, .cells (Value.int .i64 q.2 :: RS).toArray 110 (0, 0)), (gr, .cells #[.int .i64 0, .int .i64 0, .int .i64 0, .int .i64 0, .int .i64 0, .int .i64 0, .slice none 0 0] 25), (gs, .cells #[.int .i64 s.f0, .int .i64 s.f1, .int .i64 s.f2, .int .i64 s.f3, .int .i64 s.f4, .int .i64 s.f5, .slice As s.f6.length ns] 25), (gb, .cells #[.int .i64 b.f0, .int .i64 b.f1, .int .i64 b.f2, .int .i64 b.f3, .int .i64 b.f4, .int .i64 b.f5, .slice Ab b.f6.length nb] 25), (gf, OF)]))
            case first =>
              by_cases hnh : n.1 < h.1
              · have hd2 : decide (n.1 < h.1) = true := decide_eq_true hnh
                go_wp2_with fail
                go_region_held3 (fun w' => True) (exact trivial) (first | (go_at_call 69; (try simp only [i64_w]); (with_reducible refine len_gate 2 ?_); (first | with_reducible refine g1_d1 2 ?_ | with_reducible refine g1d_d1 2 ?_); refine (sum2_pd (by with_reducible first | exact Lit.refl _ _ | exact Lit.drew _ _) (by with_reducible repeat (first | exact HP.out | apply Pd.alloc | apply Pd.drew)) rfl).mono ?_; rintro _ w1 ⟨rfl, hp⟩; replace HP := Aside0.mk hp; clear hp) | (go_at_call 69; (try simp only [i64_w]); (with_reducible refine len_gate 2 ?_); refine (sum2_nx (by with_reducible repeat (first | exact HP.out | apply Pd.drew))).mono ?_; rintro _ w1 ⟨rfl, hp⟩; replace HP := Aside0.mk hp; clear hp) | (go_at_call 98; refine (half_pd (by with_reducible repeat (first | exact HP.out | apply Pd.alloc | apply Pd.drew)) _).mono ?_; rintro _ w1 ⟨rfl, hp⟩; replace HP := Aside0.mk hp; clear hp) | (go_at_call 99; refine (keep_pd (by with_reducible repeat (first | exact HP.out | apply Pd.alloc | apply Pd.drew)) _ _).mono ?_; rintro _ w1 ⟨rfl, hp⟩; replace HP := Aside0.mk hp; clear hp))
                obtain ⟨q1, h_q1⟩ : ∃ q1, q1 = keepV h.2 (toldOf (sumR [h.1, wrap64 (-n.1)])) := ⟨_, rfl⟩
                rw [← h_q1] at HP ⊢
                have H_q1 := Aside0.mk h_q1
                clear h_q1
                obtain ⟨q2, h_q2⟩ : ∃ q2, q2 = keepV q1.2 (toldOf (halfR q1.1)) := ⟨_, rfl⟩
                rw [← h_q2] at HP ⊢
                have H_q2 := Aside0.mk h_q2
                clear h_q2
                obtain ⟨q3, h_q3⟩ : ∃ q3, q3 = keepV q2.2 (toldOf (sumR [gp.1, q2.1])) := ⟨_, rfl⟩
                rw [← h_q3] at HP ⊢
                have H_q3 := Aside0.mk h_q3
                clear h_q3
                have hq : q = q3 := by (rw [H_q.out]; unfold radGap; rw [if_pos hnh]; have h_q1 := H_q1.out; have h_q2 := H_q2.out; have h_q3 := H_q3.out; subst h_q1 h_q2 h_q3; try rfl)
                go_wp2_with fail; go_meet; rw [hq]; exact ⟨rfl, ⟨(by with_reducible repeat (first | exact HP.out | apply Pd.drew))⟩⟩
              · have hd2 : decide (n.1 < h.1) = false := decide_eq_false hnh
                have hq : q = (gp.1, h.2) := by (rw [H_q.out]; unfold radGap; exact if_neg hnh)
                go_wp2_with fail; go_meet; rw [hq]; exact ⟨rfl, ⟨(by with_reducible repeat (first | exact HP.out | apply Pd.drew))⟩⟩
            case rest =>
              obtain ⟨rfl, HP⟩ := hcut
              go_wp2_with fail
              go_region_held3 (fun w' => w'.cell? ⟨gb, 2, none⟩ = some (.int .i64 b.f2)) (with_reducible exact box_c2 (Pd.getb (by with_reducible repeat (first | exact HP.out | apply Pd.alloc | apply Pd.drew)) (by with_reducible repeat (first | exact List.mem_cons_self | apply List.mem_cons_of_mem)))) (first | (go_at_call 69; (try simp only [i64_w]); (with_reducible refine len_gate 3 ?_); (first | with_reducible refine g3_d1 3 ?_ | with_reducible refine g3d_d1 3 ?_); refine (sum3_two' (by with_reducible first | exact Lit.refl _ _ | exact Lit.drew _ _) (by with_reducible repeat (first | exact HP.out | apply Pd.alloc | apply Pd.drew)) rfl).mono ?_; rintro _ w1 ⟨rfl, hp⟩; replace HP := Aside0.mk hp; clear hp) | (go_at_call 69; (try simp only [i64_w]); (with_reducible refine len_gate 3 ?_); (first | with_reducible refine g2_d1 3 ?_ | with_reducible refine g2d_d1 3 ?_); refine (sum3_two (by with_reducible first | exact Lit.refl _ _ | exact Lit.drew _ _) (by with_reducible repeat (first | exact HP.out | apply Pd.alloc | apply Pd.drew)) rfl).mono ?_; rintro _ w1 ⟨rfl, hp⟩; replace HP := Aside0.mk hp; clear hp) | (go_at_call 69; (try simp only [i64_w]); (with_reducible refine len_gate 3 ?_); (first | with_reducible refine g1_d1 3 ?_ | with_reducible refine g1d_d1 3 ?_); refine (sum3_pd (by with_reducible first | exact Lit.refl _ _ | exact Lit.drew _ _) (by with_reducible repeat (first | exact HP.out | apply Pd.alloc | apply Pd.drew)) rfl).mono ?_; rintro _ w1 ⟨rfl, hp⟩; replace HP := Aside0.mk hp; clear hp) | (go_at_call 69; (try simp only [i64_w]); (with_reducible refine len_gate 3 ?_); refine (sum3_nx (by with_reducible repeat (first | exact HP.out | apply Pd.drew))).mono ?_; rintro _ w1 ⟨rfl, hp⟩; replace HP := Aside0.mk hp; clear hp))
              obtain ⟨top, h_top⟩ : ∃ top, top = keepV q.2 (toldOf (sumR [b.f2, q.1, th.1])) := ⟨_, rfl⟩
              rw [← h_top] at HP ⊢
              have H_top := Aside0.mk h_top
              clear h_top
              go_wp2_with fail
              go_region_held3 (fun w' => w'.cell? ⟨gs, 2, none⟩ = some (.int .i64 s.f2)) (with_reducible exact box_c2 (Pd.getb (by with_reducible repeat (first | exact HP.out | apply Pd.alloc | apply Pd.drew)) (by with_reducible repeat (first | exact List.mem_cons_self | apply List.mem_cons_of_mem)))) (first | (go_at_call 69; (try simp only [i64_w]); (with_reducible refine len_gate 2 ?_); (first | with_reducible refine g3_d1 2 ?_ | with_reducible refine g3d_d1 2 ?_); refine (sum2_two' (by with_reducible first | exact Lit.refl _ _ | exact Lit.drew _ _) (by with_reducible repeat (first | exact HP.out | apply Pd.alloc | apply Pd.drew)) rfl).mono ?_; rintro _ w1 ⟨rfl, hp⟩; replace HP := Aside0.mk hp; clear hp) | (go_at_call 69; (try simp only [i64_w]); (with_reducible refine len_gate 2 ?_); (first | with_reducible refine g2_d1 2 ?_ | with_reducible refine g2d_d1 2 ?_); refine (sum2_two (by with_reducible first | exact Lit.refl _ _ | exact Lit.drew _ _) (by with_reducible repeat (first | exact HP.out | apply Pd.alloc | apply Pd.drew)) rfl).mono ?_; rintro _ w1 ⟨rfl, hp⟩; replace HP := Aside0.mk hp; clear hp) | (go_at_call 69; (try simp only [i64_w]); (with_reducible refine len_gate 2 ?_); (first | with_reducible refine g1_d1 2 ?_ | with_reducible refine g1d_d1 2 ?_); refine (sum2_pd (by with_reducible first | exact Lit.refl _ _ | exact Lit.drew _ _) (by with_reducible repeat (first | exact HP.out | apply Pd.alloc | apply Pd.drew)) rfl).mono ?_; rintro _ w1 ⟨rfl, hp⟩; replace HP := Aside0.mk hp; clear hp) | (go_at_call 69; (try simp only [i64_w]); (with_reducible refine len_gate 2 ?_); refine (sum2_nx (by with_reducible repeat (first | exact HP.out | apply Pd.drew))).mono ?_; rintro _ w1 ⟨rfl, hp⟩; replace HP := Aside0.mk hp; clear hp))
              obtain ⟨up, h_up⟩ : ∃ up, up = keepV top.2 (toldOf (sumR [top.1, wrap64 (-s.f2)])) := ⟨_, rfl⟩
              rw [← h_up] at HP ⊢
              have H_up := Aside0.mk h_up
              clear h_up
              obtain ⟨xs, h_xs⟩ : ∃ xs, xs = keepV up.2 (toldOf (sumR [ah.1, d.f1, bh.1])) := ⟨_, rfl⟩
              have H_xs := Aside0.mk h_xs
              clear h_xs
              obtain ⟨ra, h_ra⟩ : ∃ ra, ra = keepV xs.2 (toldOf (mulDivR h.1 (rd F.f4.f0 55) 100)) := ⟨_, rfl⟩
              have H_ra := Aside0.mk h_ra
              clear h_ra
              obtain ⟨u2, h_u2⟩ : ∃ u2, u2 = keepV ra.2 (toldOf (sumR [up.1, wrap64 (-s.f3)])) := ⟨_, rfl⟩
              have H_u2 := Aside0.mk h_u2
              clear h_u2
              obtain ⟨y, h_y⟩ : ∃ y, y = keepV u2.2 (toldOf (sumR [d.f3, u2.1, ra.1])) := ⟨_, rfl⟩
              have H_y := Aside0.mk h_y
              clear h_y
              obtain ⟨xm, h_xm⟩ : ∃ xm, xm = mx 0 xs.1 := ⟨_, rfl⟩
              have H_xm := Aside0.mk h_xm
              clear h_xm
              go_wp2_with fail
              go_loopw [142, 24, 25] (fun i x v wr => (i = .int .i64 0 ∧ x = .int .i64 0 ∧ v = .slice none 0 0 ∧ Aside0 (Pd w wr [(g, .cells (Value.int .i64 up.2 :: RS).toArray 110 (0, 0)), (gr, .cells #[.int .i64 0, .int .i64 0, .int .i64 0, .int .i64 0, .int .i64 0, .int .i64 0, .slice none 0 0] 25), (gs, .cells #[.int .i64 s.f0, .int .i64 s.f1, .int .i64 s.f2, .int .i64 s.f3, .int .i64 s.f4, .int .i64 s.f5, .slice As s.f6.length ns] 25), (gb, .cells #[.int .i64 b.f0, .int .i64 b.f1, .int .i64 b.f2, .int .i64 b.f3, .int .i64 b.f4, .int .i64 b.f5, .slice Ab b.f6.length nb] 25), (gf, OF)])) ∨ (∃ (q0 cap0 : Nat) (o0 : Obj), i = .int .i64 1 ∧ x = .int .i64 xm ∧ v = .slice (some ⟨q0, 0, none⟩) 1 cap0 ∧ Aside0 (OwnAt w q0 cap0 o0 [(⟨ah.1, y.1, d⟩ : S41)]) ∧ Aside0 (Pd w wr [(g, .cells (Value.int .i64 y.2 :: RS).toArray 110 (0, 0)), (q0, o0), (gr, .cells #[.int .i64 0, .int .i64 0, .int .i64 0, .int .i64 0, .int .i64 0, .int .i64 0, .slice none 0 0] 25), (gs, .cells #[.int .i64 s.f0, .int .i64 s.f1, .int .i64 s.f2, .int .i64 s.f3, .int .i64 s.f4, .int .i64 s.f5, .slice As s.f6.length ns] 25), (gb, .cells #[.int .i64 b.f0, .int .i64 b.f1, .int .i64 b.f2, .int .i64 b.f3, .int .i64 b.f4, .int .i64 b.f5, .slice Ab b.f6.length nb] 25), (gf, OF)]))) (fun i _ _ _ => 1 - (intOf i).toNat)
              case atStart => exact .inl ⟨rfl, rfl, rfl, ⟨(by with_reducible repeat (first | exact HP.out | apply Pd.drew))⟩⟩
              case round =>
                rcases hrel with ⟨rfl, rfl, rfl, HP⟩ | ⟨q0, cap0, o0, rfl, rfl, rfl, HOWN, HP⟩
                · have e10 := Pd.oldc HP.out HD0.out; have e11 := Pd.oldc HP.out HD1.out; have e12 := Pd.oldc HP.out HD2.out; have e13 := Pd.oldc HP.out HD3.out; have e14 := Pd.oldc HP.out HD4.out; have e15 := Pd.oldc HP.out HD5.out; have e16 := Pd.oldc HP.out HD6.out
                  go_wp2_with (first | ((with_reducible refine gate_dst (N := 27) rfl ?_); refine box_event ?hg (N := 27) ?hd (cs := #[.int .i64 0, .int .i64 0, .int .i64 0, .int .i64 0, .int .i64 0, .int .i64 0, .slice none 0 0]) (t := 25) ?hr ?_; (case hd => rfl); (case hg => rfl); (case hr => first | (go_simp; done) | (go_simp; rfl)); intro gd hg wk9 hbox hb; replace HP := Aside0.mk (Pd.box HP.out hg hbox hb); clear hg hbox hb; have hcz := cells7 (Pd.hd HP.out); have hfz := froz7 (Pd.hd HP.out)))
                  refine Pd.foldD (Pd.swp (Pd.st7 HP.out)) ?_
                  intro W' hp
                  replace HP := Aside0.mk hp
                  clear hp hcz hfz e10 e11 e12 e13 e14 e15 e16
                  go_region_held3 (fun w' => w'.cell? ⟨gd, 1, none⟩ = some (.int .i64 d.f1)) (with_reducible exact box_c1 (Pd.getb (by with_reducible repeat (first | exact HP.out | apply Pd.alloc | apply Pd.drew)) (by with_reducible repeat (first | exact List.mem_cons_self | apply List.mem_cons_of_mem)))) (first | (go_at_call 69; (try simp only [i64_w]); (with_reducible refine len_gate 3 ?_); (first | with_reducible refine g3_d1 3 ?_ | with_reducible refine g3d_d1 3 ?_); refine (sum3_two' (by with_reducible first | exact Lit.refl _ _ | exact Lit.drew _ _) (by with_reducible repeat (first | exact HP.out | apply Pd.alloc | apply Pd.drew)) rfl).mono ?_; rintro _ w1 ⟨rfl, hp⟩; replace HP := Aside0.mk hp; clear hp) | (go_at_call 69; (try simp only [i64_w]); (with_reducible refine len_gate 3 ?_); (first | with_reducible refine g2_d1 3 ?_ | with_reducible refine g2d_d1 3 ?_); refine (sum3_two (by with_reducible first | exact Lit.refl _ _ | exact Lit.drew _ _) (by with_reducible repeat (first | exact HP.out | apply Pd.alloc | apply Pd.drew)) rfl).mono ?_; rintro _ w1 ⟨rfl, hp⟩; replace HP := Aside0.mk hp; clear hp) | (go_at_call 69; (try simp only [i64_w]); (with_reducible refine len_gate 3 ?_); (first | with_reducible refine g1_d1 3 ?_ | with_reducible refine g1d_d1 3 ?_); refine (sum3_pd (by with_reducible first | exact Lit.refl _ _ | exact Lit.drew _ _) (by with_reducible repeat (first | exact HP.out | apply Pd.alloc | apply Pd.drew)) rfl).mono ?_; rintro _ w1 ⟨rfl, hp⟩; replace HP := Aside0.mk hp; clear hp) | (go_at_call 69; (try simp only [i64_w]); (with_reducible refine len_gate 3 ?_); refine (sum3_nx (by with_reducible repeat (first | exact HP.out | apply Pd.drew))).mono ?_; rintro _ w1 ⟨rfl, hp⟩; replace HP := Aside0.mk hp; clear hp))
                  rw [← H_xs.out] at HP ⊢
                  go_wp2_with fail
                  go_region_held3 (fun w' => w'.cell? ⟨gf, 9, none⟩ = some (.slice (some ak) 56 c9) ∧ w'.cell? ⟨ak.block, ak.off + 55, none⟩ = some (.int .i64 (rd F.f4.f0 55))) (exact ⟨HF9.out _ (Pd.getb (by with_reducible repeat (first | exact HP.out | apply Pd.alloc | apply Pd.drew)) (by with_reducible repeat (first | exact List.mem_cons_self | apply List.mem_cons_of_mem))), Pd.oldc (by with_reducible repeat (first | exact HP.out | apply Pd.alloc | apply Pd.drew)) HK55.out⟩) (first | (go_at_call 85; refine (mulDiv_pd (by with_reducible repeat (first | exact HP.out | apply Pd.alloc | apply Pd.drew)) _ _ _).mono ?_; rintro _ w1 ⟨rfl, hp⟩; replace HP := Aside0.mk hp; clear hp) | (go_at_call 99; refine (keep_pd (by with_reducible repeat (first | exact HP.out | apply Pd.alloc | apply Pd.drew)) _ _).mono ?_; rintro _ w1 ⟨rfl, hp⟩; replace HP := Aside0.mk hp; clear hp))
                  rw [← H_ra.out] at HP ⊢
                  go_wp2_with fail
                  go_region_held3 (fun w' => w'.cell? ⟨gd, 0, none⟩ = some (.int .i64 d.f0) ∧ w'.cell? ⟨gd, 1, none⟩ = some (.int .i64 d.f1) ∧ w'.cell? ⟨gd, 2, none⟩ = some (.int .i64 d.f2) ∧ w'.cell? ⟨gd, 3, none⟩ = some (.int .i64 d.f3) ∧ w'.cell? ⟨gd, 4, none⟩ = some (.int .i64 d.f4) ∧ w'.cell? ⟨gd, 5, none⟩ = some (.int .i64 d.f5) ∧ w'.cell? ⟨gd, 6, none⟩ = some (.slice A8d d.f6.length c8d) ∧ w'.cell? ⟨gs, 3, none⟩ = some (.int .i64 s.f3)) (with_reducible exact box_and3 (Pd.getb (by with_reducible repeat (first | exact HP.out | apply Pd.alloc | apply Pd.drew)) (by with_reducible repeat (first | exact List.mem_cons_self | apply List.mem_cons_of_mem))) (Pd.getb (by with_reducible repeat (first | exact HP.out | apply Pd.alloc | apply Pd.drew)) (by with_reducible repeat (first | exact List.mem_cons_self | apply List.mem_cons_of_mem)))) (first | (go_at_call 69; (try simp only [i64_w]); (with_reducible refine len_gate 2 ?_); (first | with_reducible refine g3_d1 2 ?_ | with_reducible refine g3d_d1 2 ?_); refine (sum2_two' (by with_reducible first | exact Lit.refl _ _ | exact Lit.drew _ _) (by with_reducible repeat (first | exact HP.out | apply Pd.alloc | apply Pd.drew)) rfl).mono ?_; rintro _ w1 ⟨rfl, hp⟩; rw [← H_u2.out] at hp ⊢; replace HP := Aside0.mk hp; clear hp) | (go_at_call 69; (try simp only [i64_w]); (with_reducible refine len_gate 2 ?_); (first | with_reducible refine g2_d1 2 ?_ | with_reducible refine g2d_d1 2 ?_); refine (sum2_two (by with_reducible first | exact Lit.refl _ _ | exact Lit.drew _ _) (by with_reducible repeat (first | exact HP.out | apply Pd.alloc | apply Pd.drew)) rfl).mono ?_; rintro _ w1 ⟨rfl, hp⟩; rw [← H_u2.out] at hp ⊢; replace HP := Aside0.mk hp; clear hp) | (go_at_call 69; (try simp only [i64_w]); (with_reducible refine len_gate 2 ?_); (first | with_reducible refine g1_d1 2 ?_ | with_reducible refine g1d_d1 2 ?_); refine (sum2_pd (by with_reducible first | exact Lit.refl _ _ | exact Lit.drew _ _) (by with_reducible repeat (first | exact HP.out | apply Pd.alloc | apply Pd.drew)) rfl).mono ?_; rintro _ w1 ⟨rfl, hp⟩; rw [← H_u2.out] at hp ⊢; replace HP := Aside0.mk hp; clear hp) | (go_at_call 69; (try simp only [i64_w]); (with_reducible refine len_gate 2 ?_); refine (sum2_nx (by with_reducible repeat (first | exact HP.out | apply Pd.drew))).mono ?_; rintro _ w1 ⟨rfl, hp⟩; rw [← H_u2.out] at hp ⊢; replace HP := Aside0.mk hp; clear hp) | (go_at_call 69; (try simp only [i64_w]); (with_reducible refine len_gate 3 ?_); (first | with_reducible refine g3_d1 3 ?_ | with_reducible refine g3d_d1 3 ?_); refine (sum3_two' (by with_reducible first | exact Lit.refl _ _ | exact Lit.drew _ _) (by with_reducible repeat (first | exact HP.out | apply Pd.alloc | apply Pd.drew)) rfl).mono ?_; rintro _ w1 ⟨rfl, hp⟩; rw [← H_y.out] at hp ⊢; replace HP := Aside0.mk hp; clear hp) | (go_at_call 69; (try simp only [i64_w]); (with_reducible refine len_gate 3 ?_); (first | with_reducible refine g2_d1 3 ?_ | with_reducible refine g2d_d1 3 ?_); refine (sum3_two (by with_reducible first | exact Lit.refl _ _ | exact Lit.drew _ _) (by with_reducible repeat (first | exact HP.out | apply Pd.alloc | apply Pd.drew)) rfl).mono ?_; rintro _ w1 ⟨rfl, hp⟩; rw [← H_y.out] at hp ⊢; replace HP := Aside0.mk hp; clear hp) | (go_at_call 69; (try simp only [i64_w]); (with_reducible refine len_gate 3 ?_); (first | with_reducible refine g1_d1 3 ?_ | with_reducible refine g1d_d1 3 ?_); refine (sum3_pd (by with_reducible first | exact Lit.refl _ _ | exact Lit.drew _ _) (by with_reducible repeat (first | exact HP.out | apply Pd.alloc | apply Pd.drew)) rfl).mono ?_; rintro _ w1 ⟨rfl, hp⟩; rw [← H_y.out] at hp ⊢; replace HP := Aside0.mk hp; clear hp) | (go_at_call 69; (try simp only [i64_w]); (with_reducible refine len_gate 3 ?_); refine (sum3_nx (by with_reducible repeat (first | exact HP.out | apply Pd.drew))).mono ?_; rintro _ w1 ⟨rfl, hp⟩; rw [← H_y.out] at hp ⊢; replace HP := Aside0.mk hp; clear hp) | ((with_reducible refine gate_app ?_); refine append_own (by rfl) _ _ (by rfl) (by rfl) (by rfl) [(⟨ah.1, y.1, d⟩ : S41)] [[.int .i64 ah.1, .int .i64 y.1, .int .i64 d.f0, .int .i64 d.f1, .int .i64 d.f2, .int .i64 d.f3, .int .i64 d.f4, .int .i64 d.f5, .slice A8d d.f6.length c8d]] (by rfl) (by decide) (by decide) (by first | exact alloc_last _ _ | exact blk_drew (alloc_last _ _)) (by with_reducible repeat (first | exact HP.out | apply Pd.alloc | apply Pd.drew)) ⟨k41_mk w ⟨ah.1, y.1, d⟩ HLd.out HCd.out, trivial⟩ (by simp [Value.oneCell']) ?_; intro q0 cap0 o0 w1 hp hcap hown; replace HP := Aside0.mk hp; have HOWN := Aside0.mk hown; clear hp hcap hown))
                  all_goals (go_wp2; go_roundw)
                  all_goals (first | (case rel => exact .inr ⟨q0, cap0, o0, by first | rfl | go_num, by rw [H_xm.out, mx_max], rfl, HOWN, ⟨Pd.drop3 HP.out⟩⟩) | skip)
                  all_goals (first | (case measure => simp [intOf]) | skip)
                · go_wp2_with fail
                  go_region_held3 (fun w' => w'.cell? ⟨gs, 1, none⟩ = some (.int .i64 s.f1)) (with_reducible exact box_c1 (Pd.getb (by with_reducible repeat (first | exact HP.out | apply Pd.alloc | apply Pd.drew)) (by with_reducible repeat (first | exact List.mem_cons_self | apply List.mem_cons_of_mem)))) (first | (go_at_call 69; (try simp only [i64_w]); (with_reducible refine len_gate 2 ?_); (first | with_reducible refine g3_d1 2 ?_ | with_reducible refine g3d_d1 2 ?_); refine (sum2_two' (by with_reducible first | exact Lit.refl _ _ | exact Lit.drew _ _) (by with_reducible repeat (first | exact HP.out | apply Pd.alloc | apply Pd.drew)) rfl).mono ?_; rintro _ w1 ⟨rfl, hp⟩; replace HP := Aside0.mk hp; clear hp) | (go_at_call 69; (try simp only [i64_w]); (with_reducible refine len_gate 2 ?_); (first | with_reducible refine g2_d1 2 ?_ | with_reducible refine g2d_d1 2 ?_); refine (sum2_two (by with_reducible first | exact Lit.refl _ _ | exact Lit.drew _ _) (by with_reducible repeat (first | exact HP.out | apply Pd.alloc | apply Pd.drew)) rfl).mono ?_; rintro _ w1 ⟨rfl, hp⟩; replace HP := Aside0.mk hp; clear hp) | (go_at_call 69; (try simp only [i64_w]); (with_reducible refine len_gate 2 ?_); (first | with_reducible refine g1_d1 2 ?_ | with_reducible refine g1d_d1 2 ?_); refine (sum2_pd (by with_reducible first | exact Lit.refl _ _ | exact Lit.drew _ _) (by with_reducible repeat (first | exact HP.out | apply Pd.alloc | apply Pd.drew)) rfl).mono ?_; rintro _ w1 ⟨rfl, hp⟩; replace HP := Aside0.mk hp; clear hp) | (go_at_call 69; (try simp only [i64_w]); (with_reducible refine len_gate 2 ?_); refine (sum2_nx (by with_reducible repeat (first | exact HP.out | apply Pd.drew))).mono ?_; rintro _ w1 ⟨rfl, hp⟩; replace HP := Aside0.mk hp; clear hp))
                  obtain ⟨at_, h_at_⟩ : ∃ at_, at_ = keepV y.2 (toldOf (sumR [xm, s.f1])) := ⟨_, rfl⟩
                  rw [← h_at_] at HP ⊢
                  have H_at_ := Aside0.mk h_at_
                  clear h_at_
                  go_wp2_with fail
                  go_cut [25] from 201 (fun s25 w' => ∃ (q4 : Nat) (cap : Nat) (o4 : Obj), s25 = .slice (some ⟨q4, 0, none⟩) 5 cap ∧ Aside0 (Pd w w' ((q4, o4) :: [(g, .cells (Value.int .i64 (keepV (keepV at_.2 (toldOf (sumR [top.1, wrap64 (-th.1)]))).2 (toldOf (sumR [top.1, fr.1]))).2 :: RS).toArray 110 (0, 0)), (gr, .cells #[.int .i64 0, .int .i64 0, .int .i64 0, .int .i64 0, .int .i64 0, .int .i64 0, .slice none 0 0] 25), (gs, .cells #[.int .i64 s.f0, .int .i64 s.f1, .int .i64 s.f2, .int .i64 s.f3, .int .i64 s.f4, .int .i64 s.f5, .slice As s.f6.length ns] 25), (gb, .cells #[.int .i64 b.f0, .int .i64 b.f1, .int .i64 b.f2, .int .i64 b.f3, .int .i64 b.f4, .int .i64 b.f5, .slice Ab b.f6.length nb] 25), (gf, OF)])) ∧ Aside0 (5 ≤ cap) ∧ Aside0 (RowAt w q4 o4 ([⟨ah.1, y.1, d⟩, ⟨xm, up.1, s⟩, ⟨at_.1, (keepV at_.2 (toldOf (sumR [top.1, wrap64 (-th.1)]))).1, ⟨2, b.f1, th.1, 0, 0, 0, []⟩⟩, ⟨at_.1, 0, b⟩, ⟨0, 0, ⟨0, 0, (keepV (keepV at_.2 (toldOf (sumR [top.1, wrap64 (-th.1)]))).2 (toldOf (sumR [top.1, fr.1]))).1, 0, 0, 0, []⟩⟩] : List S41)))
                  case first =>
                    go_region_held3 (fun w' => w'.cell? ⟨gb, 0, none⟩ = some (.int .i64 b.f0) ∧ w'.cell? ⟨gb, 1, none⟩ = some (.int .i64 b.f1) ∧ w'.cell? ⟨gb, 2, none⟩ = some (.int .i64 b.f2) ∧ w'.cell? ⟨gb, 3, none⟩ = some (.int .i64 b.f3) ∧ w'.cell? ⟨gb, 4, none⟩ = some (.int .i64 b.f4) ∧ w'.cell? ⟨gb, 5, none⟩ = some (.int .i64 b.f5) ∧ w'.cell? ⟨gb, 6, none⟩ = some (.slice Ab b.f6.length nb) ∧ w'.cell? ⟨gs, 0, none⟩ = some (.int .i64 s.f0) ∧ w'.cell? ⟨gs, 1, none⟩ = some (.int .i64 s.f1) ∧ w'.cell? ⟨gs, 2, none⟩ = some (.int .i64 s.f2) ∧ w'.cell? ⟨gs, 3, none⟩ = some (.int .i64 s.f3) ∧ w'.cell? ⟨gs, 4, none⟩ = some (.int .i64 s.f4) ∧ w'.cell? ⟨gs, 5, none⟩ = some (.int .i64 s.f5) ∧ w'.cell? ⟨gs, 6, none⟩ = some (.slice As s.f6.length ns)) (with_reducible exact both_cells (Pd.getb (by with_reducible repeat (first | exact HP.out | apply Pd.alloc | apply Pd.drew)) (by with_reducible repeat (first | exact List.mem_cons_self | apply List.mem_cons_of_mem))) (Pd.getb (by with_reducible repeat (first | exact HP.out | apply Pd.alloc | apply Pd.drew)) (by with_reducible repeat (first | exact List.mem_cons_self | apply List.mem_cons_of_mem)))) (first | (go_at_call 69; (try simp only [i64_w]); (with_reducible refine len_gate 2 ?_); (first | with_reducible refine g3_d1 2 ?_ | with_reducible refine g3d_d1 2 ?_); refine (sum2_two' (by with_reducible first | exact Lit.refl _ _ | exact Lit.drew _ _) (by with_reducible repeat (first | exact HP.out | apply Pd.alloc | apply Pd.drew)) rfl).mono ?_; rintro _ w1 ⟨rfl, hp⟩; replace HP := Aside0.mk hp; clear hp) | (go_at_call 69; (try simp only [i64_w]); (with_reducible refine len_gate 2 ?_); (first | with_reducible refine g2_d1 2 ?_ | with_reducible refine g2d_d1 2 ?_); refine (sum2_two (by with_reducible first | exact Lit.refl _ _ | exact Lit.drew _ _) (by with_reducible repeat (first | exact HP.out | apply Pd.alloc | apply Pd.drew)) rfl).mono ?_; rintro _ w1 ⟨rfl, hp⟩; replace HP := Aside0.mk hp; clear hp) | (go_at_call 69; (try simp only [i64_w]); (with_reducible refine len_gate 2 ?_); (first | with_reducible refine g1_d1 2 ?_ | with_reducible refine g1d_d1 2 ?_); refine (sum2_pd (by with_reducible first | exact Lit.refl _ _ | exact Lit.drew _ _) (by with_reducible repeat (first | exact HP.out | apply Pd.alloc | apply Pd.drew)) rfl).mono ?_; rintro _ w1 ⟨rfl, hp⟩; replace HP := Aside0.mk hp; clear hp) | (go_at_call 69; (try simp only [i64_w]); (with_reducible refine len_gate 2 ?_); refine (sum2_nx (by with_reducible repeat (first | exact HP.out | apply Pd.drew))).mono ?_; rintro _ w1 ⟨rfl, hp⟩; replace HP := Aside0.mk hp; clear hp) | (go_at_call 71; (first | with_reducible refine g0_d1 ?_ | with_reducible refine g0d_d1 ?_); refine (line_calls _ _ _ _ _).mono ?_; rintro _ w1 ⟨rfl, hb⟩; replace HP := Aside0.mk (Pd.below (by with_reducible repeat (first | apply Pd.drew | exact Pd.swap (Pd.row HP.out _))) hb); clear hb) | (go_at_call 71; refine (line_calls _ _ _ _ _).mono ?_; rintro _ w1 ⟨rfl, hb⟩; replace HP := Aside0.mk (Pd.below (by with_reducible repeat (first | exact HP.out | apply Pd.drew)) hb); clear hb) | (go_at_call 72; refine (strut_calls _ _ _).mono ?_; rintro _ w1 ⟨rfl, hb⟩; replace HP := Aside0.mk (Pd.below (by with_reducible repeat (first | exact HP.out | apply Pd.alloc | apply Pd.drew)) hb); clear hb) | ((with_reducible refine gate_app ?_); refine append_on (by rfl) _ _ (by rfl) [(⟨ah.1, y.1, d⟩ : S41)] (by rfl) HOWN.out (by rfl) [⟨xm, up.1, s⟩, ⟨at_.1, (keepV at_.2 (toldOf (sumR [top.1, wrap64 (-th.1)]))).1, ⟨2, b.f1, th.1, 0, 0, 0, []⟩⟩, ⟨at_.1, 0, b⟩, ⟨0, 0, ⟨0, 0, (keepV (keepV at_.2 (toldOf (sumR [top.1, wrap64 (-th.1)]))).2 (toldOf (sumR [top.1, fr.1]))).1, 0, 0, 0, []⟩⟩] [[.int .i64 xm, .int .i64 up.1, .int .i64 s.f0, .int .i64 s.f1, .int .i64 s.f2, .int .i64 s.f3, .int .i64 s.f4, .int .i64 s.f5, .slice As s.f6.length ns], [.int .i64 at_.1, .int .i64 (keepV at_.2 (toldOf (sumR [top.1, wrap64 (-th.1)]))).1, .int .i64 2, .int .i64 b.f1, .int .i64 th.1, .int .i64 0, .int .i64 0, .int .i64 0, .slice none 0 0], [.int .i64 at_.1, .int .i64 0, .int .i64 b.f0, .int .i64 b.f1, .int .i64 b.f2, .int .i64 b.f3, .int .i64 b.f4, .int .i64 b.f5, .slice Ab b.f6.length nb], [.int .i64 0, .int .i64 0, .int .i64 0, .int .i64 0, .int .i64 (keepV (keepV at_.2 (toldOf (sumR [top.1, wrap64 (-th.1)]))).2 (toldOf (sumR [top.1, fr.1]))).1, .int .i64 0, .int .i64 0, .int .i64 0, .slice none 0 0]] (by rfl) (by decide) (by decide) (Nat.le_of_ble_eq_true rfl) (by first | exact alloc_last _ _ | exact blk_drew (alloc_last _ _)) (by with_reducible repeat (first | apply Pd.alloc | apply Pd.drew | exact Pd.swap HP.out)) ⟨k41_mk w ⟨xm, up.1, s⟩ HLs.out HCs.out, k41_mk w ⟨at_.1, (keepV at_.2 (toldOf (sumR [top.1, wrap64 (-th.1)]))).1, ⟨2, b.f1, th.1, 0, 0, 0, []⟩⟩ (A8 := none) (c8 := 0) (Nat.le_refl _) ⟨rfl, Nat.zero_le _, fun h => absurd h (Nat.lt_irrefl 0)⟩, k41_mk w ⟨at_.1, 0, b⟩ HLb.out HCb.out, k41_mk w ⟨0, 0, ⟨0, 0, (keepV (keepV at_.2 (toldOf (sumR [top.1, wrap64 (-th.1)]))).2 (toldOf (sumR [top.1, fr.1]))).1, 0, 0, 0, []⟩⟩ (A8 := none) (c8 := 0) (Nat.le_refl _) ⟨rfl, Nat.zero_le _, fun h => absurd h (Nat.lt_irrefl 0)⟩, trivial⟩ (by simp [Value.oneCell']) ?_; intro q4 cap o4 w1 hp hcap hrow; replace HP := Aside0.mk hp; have HCAP := Aside0.mk hcap; have HROW := Aside0.mk hrow; clear hp hcap hrow))
                    all_goals (go_wp2_with fail; go_meet; exact ⟨q4, cap, o4, rfl, HP, HCAP, HROW⟩)
                  case rest =>
                    obtain ⟨q4, cap, o4, rfl, HP, HCAP, HROW⟩ := hcut
                    go_wp2_with fail
                    go_region_held3 (fun w' => w'.cell? ⟨gb, 1, none⟩ = some (.int .i64 b.f1)) (first | ((with_reducible refine gset_d1 ?_); with_reducible exact box_c1 (Pd.getb (Pd.tl (Pd.st7 (Pd.tl (by with_reducible repeat (first | exact HP.out | apply Pd.alloc | apply Pd.drew))))) (by with_reducible repeat (first | exact List.mem_cons_self | apply List.mem_cons_of_mem)))) | with_reducible exact box_c1 (Pd.getb (by with_reducible repeat (first | exact HP.out | apply Pd.alloc | apply Pd.drew)) (by with_reducible repeat (first | exact List.mem_cons_self | apply List.mem_cons_of_mem)))) (first | (go_at_call 69; (try simp only [i64_w]); refine (sum2_q (by with_reducible first | exact Lit.refl _ _ | exact Lit.drew _ _) (by with_reducible repeat (first | exact HP.out | apply Pd.alloc | apply Pd.drew)) rfl).mono ?_; rintro _ w1 ⟨rfl, hp⟩; replace HP := Aside0.mk hp; clear hp) | (go_at_call 70; refine (set_own (keepV (keepV (keepV at_.2 (toldOf (sumR [top.1, wrap64 (-th.1)]))).2 (toldOf (sumR [top.1, fr.1]))).2 (toldOf (sumR [at_.1, b.f1]))).1 [⟨ah.1, y.1, d⟩, ⟨xm, up.1, s⟩, ⟨at_.1, (keepV at_.2 (toldOf (sumR [top.1, wrap64 (-th.1)]))).1, ⟨2, b.f1, th.1, 0, 0, 0, []⟩⟩, ⟨at_.1, 0, b⟩, ⟨0, 0, ⟨0, 0, (keepV (keepV at_.2 (toldOf (sumR [top.1, wrap64 (-th.1)]))).2 (toldOf (sumR [top.1, fr.1]))).1, 0, 0, 0, []⟩⟩] (by simp) HCAP.out (by with_reducible repeat (first | exact HP.out | apply Pd.alloc | apply Pd.drew)) HROW.out).mono ?_; rintro _ w1 ⟨A1, n1, rfl, hl, hf, hp⟩; replace HP := Aside0.mk hp; have HLL := Aside0.mk hl; have HFF := Aside0.mk hf; clear hp hl hf; obtain ⟨V, h_V⟩ : ∃ V, V = setV (keepV (keepV (keepV at_.2 (toldOf (sumR [top.1, wrap64 (-th.1)]))).2 (toldOf (sumR [top.1, fr.1]))).2 (toldOf (sumR [at_.1, b.f1]))).2 (keepV (keepV (keepV at_.2 (toldOf (sumR [top.1, wrap64 (-th.1)]))).2 (toldOf (sumR [top.1, fr.1]))).2 (toldOf (sumR [at_.1, b.f1]))).1 [⟨ah.1, y.1, d⟩, ⟨xm, up.1, s⟩, ⟨at_.1, (keepV at_.2 (toldOf (sumR [top.1, wrap64 (-th.1)]))).1, ⟨2, b.f1, th.1, 0, 0, 0, []⟩⟩, ⟨at_.1, 0, b⟩, ⟨0, 0, ⟨0, 0, (keepV (keepV at_.2 (toldOf (sumR [top.1, wrap64 (-th.1)]))).2 (toldOf (sumR [top.1, fr.1]))).1, 0, 0, 0, []⟩⟩] := ⟨_, rfl⟩; rw [← h_V] at HLL HFF ⊢; have H_V := Aside0.mk h_V; clear h_V; have hcz := cells7 (Pd.hd (Pd.tl HP.out)); have hfz := froz7 (Pd.hd (Pd.tl HP.out))))
                    all_goals go_wp2
                    all_goals refine bodyPost_ret (results_ct rfl _ _ gr 25 #[.int .i64 V.1, .int .i64 V.2.1, .int .i64 V.2.2.1, .int .i64 V.2.2.2.1, .int .i64 V.2.2.2.2.1, .int .i64 V.2.2.2.2.2.1, .slice A1 V.2.2.2.2.2.2.1.length n1] (0, 0) _ rfl (put7 (Pd.hd (Pd.tl HP.out))) hu39 rfl (by kernel_rfl)) rfl ?_
                    all_goals (obtain rfl : V = R := by (rw [HR.out]; have hz := H_e3.out.symm; have hz2 := H_e2.out; have h_gp := H_gp.out; have h_th := H_th.out; have h_fr := H_fr.out; have h_ah := H_ah.out; have h_bh := H_bh.out; have h_n := H_n.out; have h_h := H_h.out; have h_q := H_q.out; have h_top := H_top.out; have h_up := H_up.out; have h_xs := H_xs.out; have h_ra := H_ra.out; have h_u2 := H_u2.out; have h_y := H_y.out; have h_xm := H_xm.out; have h_at_ := H_at_.out; subst h_gp h_th h_fr h_ah h_bh h_n h_h h_q h_top h_up h_xs h_ra h_u2 h_y h_xm h_at_; have h_V := H_V.out; subst h_V; unfold radV1; dsimp only; rw [← hz2, hz, if_pos rfl]; try rfl))
                    all_goals exact ⟨A1, n1, rfl, HLL.out, HFF.out _ (fun k hk _ => far7 _ (hk (gr, _) (List.mem_cons_of_mem _ List.mem_cons_self))), Pre.bel (Pd.toPre (Pd.st7 HP.out.tl))⟩
end Go.Proofs.Ytbhljokhcmfgjaa.P
