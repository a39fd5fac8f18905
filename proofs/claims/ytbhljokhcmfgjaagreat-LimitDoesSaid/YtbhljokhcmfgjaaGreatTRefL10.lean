import Derived.Test.YtbhljokhcmfgjaaGreatTRefLV
/- The document's limits with 1 above and 0 below: the walk. Printed by a program of this work (mkref29l.py). -/
set_option linter.unusedVariables false
set_option linter.unusedSimpArgs false
namespace Go.Proofs.YtbhljokhcmfgjaaGreat.P
open Go.RowKit Go.Proofs.YtbhljokhcmfgjaaGreatW.PrintWords Go.Proofs.YtbhljokhcmfgjaaGreatW.PrintLast Go.Proofs.YtbhljokhcmfgjaaGreatW.PrintMore

set_option maxRecDepth 100000 in
set_option maxHeartbeats 8000000 in
theorem rlim10_calls (F : S36) (c z : Int) (x : S39) (gl it : Int) (u : S39) (A : Option Addr) (n : Nat) (Au : Option Addr) (nu : Nat) (Ad : Option Addr) (nd : Nat) (cs : List Value) (w : World) (hF : FontIn w F cs) (hln : x.f6.length ≤ n) (hCn : Kd.C k67 w A x.f6.length x.f6) (hCu : Kd.C k39 w Au 1 [u]) : Calls Tryz.prog 8 #[.agg cs.toArray, .int .i64 c, .int .i64 z, .agg #[.int .i64 x.f0, .int .i64 x.f1, .int .i64 x.f2, .int .i64 x.f3, .int .i64 x.f4, .int .i64 x.f5, .slice A x.f6.length n, .int .i64 gl, .int .i64 it], .slice Au 1 nu, .slice Ad 0 nd] w fun r w' => ∃ A1 n1, r = .returned (.tuple #[.agg #[.int .i64 (rlim10V F c z x it u).1, .int .i64 (rlim10V F c z x it u).2.1, .int .i64 (rlim10V F c z x it u).2.2.1, .int .i64 (rlim10V F c z x it u).2.2.2.1, .int .i64 (rlim10V F c z x it u).2.2.2.2.1, .int .i64 (rlim10V F c z x it u).2.2.2.2.2.1, .slice A1 (rlim10V F c z x it u).2.2.2.2.2.2.1.length n1], .int .i64 (rlim10V F c z x it u).2.2.2.2.2.2.2]) ∧ (rlim10V F c z x it u).2.2.2.2.2.2.1.length ≤ n1 ∧ Kd.C k67 w' A1 (rlim10V F c z x it u).2.2.2.2.2.2.1.length (rlim10V F c z x it u).2.2.2.2.2.2.1 ∧ Below w.heap.size w w' := by
  have hu39 := Tryz.underlying39
  have hu49 := Tryz.underlying67
  have hu36 := Tryz.underlying36
  have hu73 := Tryz.underlying41
  have hu74 := Tryz.underlying71
  obtain ⟨ik, hki, hkz, hks, hkb⟩ := info_parts (show (Tryz.prog.info? 67).map (fun i => (i.zero, i.size, i.bytes)) = some (some (.agg #[.int .i64 0, .int .i64 0, .int .i64 0, .int .i64 0, .int .i64 0, .int .i64 0, .int .i64 0, .int .i64 0, .slice none 0 0]), 9, 88) by kernel_rfl)
  obtain ⟨R, hR⟩ : ∃ R, R = rlim10V F c z x it u := ⟨_, rfl⟩
  rw [← hR]
  have HR := Aside0.mk hR
  clear hR
  have HF := Aside0.mk hF
  have HLN := Aside0.mk hln
  have HCN := Aside0.mk hCn
  clear hln hCn
  obtain ⟨au, A6u, n6u, eu, hKu, hcu, hlu, hku⟩ := one_box hCu
  subst eu
  have hcu0 := hcu 0 _ rfl
  have hcu1 := hcu 1 _ rfl
  have hcu2 := hcu 2 _ rfl
  have hcu3 := hcu 3 _ rfl
  have hcu4 := hcu 4 _ rfl
  have hcu5 := hcu 5 _ rfl
  have hcu6 := hcu 6 _ rfl
  simp [Addr.add] at hcu0 hcu1 hcu2 hcu3 hcu4 hcu5 hcu6
  have HC7u := Aside0.mk (show _ ∧ _ ∧ _ ∧ _ ∧ _ ∧ _ ∧ _ from ⟨hcu0, hcu1, hcu2, hcu3, hcu4, hcu5, hcu6⟩)
  have Hlu := Aside0.mk hlu; have HKCu := Aside0.mk hku; clear hKu hcu hlu hku hcu0 hcu1 hcu2 hcu3 hcu4 hcu5 hcu6
  obtain ⟨A6, c6, A7, c7, A8, c8, A9, c9, A10, c10, A11, c11, A12, c12, A13, c13, A15, c15, A16, c16, hcs, hcr⟩ := id hF
  subst hcs
  clear hcr hF
  go_enter Tryz.func8, Tryz.ntmps8
  have HP := Aside0.mk (Pd.start w)
  go_wp2_with (first | ((with_reducible refine gate_dst (N := 6) rfl ?_); refine box_event ?hg (N := 6) ?hd (cs := #[.int .i64 F.f0.f0, .int .i64 F.f0.f1, .int .i64 F.f0.f2, .int .i64 F.f0.f3, .int .i64 F.f0.f4, .bool F.f0.f5, .slice A6 F.f1.length c6, .slice A7 F.f2.length c7, .slice A8 F.f3.length c8, .slice A9 F.f4.f0.length c9, .slice A10 F.f4.f1.length c10, .slice A11 F.f4.f2.length c11, .slice A12 F.f4.f3.length c12, .slice A13 F.f4.f4.length c13, .int .i64 F.f4.f5.f0, .slice A15 F.f4.f5.f1.length c15, .slice A16 F.f4.f5.f2.length c16]) (t := 36) ?hr ?_; (case hd => rfl); (case hg => rfl); (case hr => first | (go_simp; done) | (go_simp; rfl)); intro gf hg wk hbox hb; replace HP := Aside0.mk (Pd.box (by with_reducible repeat (first | exact HP.out | apply Pd.drew)) hg hbox hb); clear hg hbox hb) | ((with_reducible refine gate_dst (N := 9) rfl ?_); refine box_event ?hg (N := 9) ?hd (cs := #[.int .i64 x.f0, .int .i64 x.f1, .int .i64 x.f2, .int .i64 x.f3, .int .i64 x.f4, .int .i64 x.f5, .slice A x.f6.length n, .int .i64 gl, .int .i64 it]) (t := 41) ?hr ?_; (case hd => rfl); (case hg => rfl); (case hr => first | (go_simp; done) | (go_simp; rfl)); intro gn hg wk hbox hb; replace HP := Aside0.mk (Pd.box (by with_reducible repeat (first | exact HP.out | apply Pd.drew)) hg hbox hb); clear hg hbox hb) | ((with_reducible refine gate_dst (N := 12) rfl ?_); refine box_event ?hg (N := 12) ?hd (cs := #[.int .i64 0, .int .i64 0, .int .i64 0, .int .i64 0, .int .i64 0, .int .i64 0, .slice none 0 0]) (t := 39) ?hr ?_; (case hd => rfl); (case hg => rfl); (case hr => first | (go_simp; done) | (go_simp; rfl)); intro gr hg wk hbox hb; replace HP := Aside0.mk (Pd.box (by with_reducible repeat (first | exact HP.out | apply Pd.drew)) hg hbox hb); clear hg hbox hb) | ((with_reducible refine gate_dst (N := 38) rfl ?_); refine box_event ?hg (N := 38) ?hd (cs := #[.int .i64 0]) (t := 71) ?hr ?_; (case hd => rfl); (case hg => rfl); (case hr => first | (go_simp; done) | (go_simp; rfl)); intro gk hg wk hbox hb; replace HP := Aside0.mk (Pd.box (by with_reducible repeat (first | exact HP.out | apply Pd.drew)) hg hbox hb); clear hg hbox hb) | ((with_reducible refine gate_dst (N := 43) rfl ?_); refine wpList_load_row rfl 36 (.tmp 6) rfl gf (by rfl) 36 #[.int .i64 F.f0.f0, .int .i64 F.f0.f1, .int .i64 F.f0.f2, .int .i64 F.f0.f3, .int .i64 F.f0.f4, .bool F.f0.f5, .slice A6 F.f1.length c6, .slice A7 F.f2.length c7, .slice A8 F.f3.length c8, .slice A9 F.f4.f0.length c9, .slice A10 F.f4.f1.length c10, .slice A11 F.f4.f2.length c11, .slice A12 F.f4.f3.length c12, .slice A13 F.f4.f4.length c13, .int .i64 F.f4.f5.f0, .slice A15 F.f4.f5.f1.length c15, .slice A16 F.f4.f5.f2.length c16] (0, 0) _ (Pd.getb (by with_reducible repeat (first | exact HP.out | apply Pd.drew)) (b := gf) (o := .cells #[.int .i64 F.f0.f0, .int .i64 F.f0.f1, .int .i64 F.f0.f2, .int .i64 F.f0.f3, .int .i64 F.f0.f4, .bool F.f0.f5, .slice A6 F.f1.length c6, .slice A7 F.f2.length c7, .slice A8 F.f3.length c8, .slice A9 F.f4.f0.length c9, .slice A10 F.f4.f1.length c10, .slice A11 F.f4.f2.length c11, .slice A12 F.f4.f3.length c12, .slice A13 F.f4.f4.length c13, .int .i64 F.f4.f5.f0, .slice A15 F.f4.f5.f1.length c15, .slice A16 F.f4.f5.f2.length c16] 36 (0, 0)) (by with_reducible repeat (first | exact List.mem_cons_self | apply List.mem_cons_of_mem))) hu36 rfl info_font ?_))
  refine (konst_cd HP.out HF.out (by rfl) 18 c z).mono ?_
  rintro _ w1 ⟨rfl, hp⟩
  obtain ⟨k1, h_k1⟩ : ∃ k1, k1 = keepV 0 (konstV F 18 c z) := ⟨_, rfl⟩
  rw [← h_k1] at hp ⊢
  have H_k1 := Aside0.mk h_k1
  clear h_k1
  replace HP := Aside0.mk hp
  clear hp
  go_wp2_with (first | ((with_reducible refine gate_dst (N := 48) rfl ?_); refine wpList_load_row rfl 36 (.tmp 6) rfl gf (by rfl) 36 #[.int .i64 F.f0.f0, .int .i64 F.f0.f1, .int .i64 F.f0.f2, .int .i64 F.f0.f3, .int .i64 F.f0.f4, .bool F.f0.f5, .slice A6 F.f1.length c6, .slice A7 F.f2.length c7, .slice A8 F.f3.length c8, .slice A9 F.f4.f0.length c9, .slice A10 F.f4.f1.length c10, .slice A11 F.f4.f2.length c11, .slice A12 F.f4.f3.length c12, .slice A13 F.f4.f4.length c13, .int .i64 F.f4.f5.f0, .slice A15 F.f4.f5.f1.length c15, .slice A16 F.f4.f5.f2.length c16] (0, 0) _ (Pd.getb (by with_reducible repeat (first | exact HP.out | apply Pd.drew)) (b := gf) (o := .cells #[.int .i64 F.f0.f0, .int .i64 F.f0.f1, .int .i64 F.f0.f2, .int .i64 F.f0.f3, .int .i64 F.f0.f4, .bool F.f0.f5, .slice A6 F.f1.length c6, .slice A7 F.f2.length c7, .slice A8 F.f3.length c8, .slice A9 F.f4.f0.length c9, .slice A10 F.f4.f1.length c10, .slice A11 F.f4.f2.length c11, .slice A12 F.f4.f3.length c12, .slice A13 F.f4.f4.length c13, .int .i64 F.f4.f5.f0, .slice A15 F.f4.f5.f1.length c15, .slice A16 F.f4.f5.f2.length c16] 36 (0, 0)) (by with_reducible repeat (first | exact List.mem_cons_self | apply List.mem_cons_of_mem))) hu36 rfl info_font ?_))
  refine (konst_cd HP.out HF.out (by rfl) 19 c z).mono ?_
  rintro _ w1 ⟨rfl, hp⟩
  obtain ⟨k2, h_k2⟩ : ∃ k2, k2 = keepV k1.2 (konstV F 19 c z) := ⟨_, rfl⟩
  rw [← h_k2] at hp ⊢
  have H_k2 := Aside0.mk h_k2
  clear h_k2
  replace HP := Aside0.mk hp
  clear hp
  have hn := nuc_c9 (Pd.getb HP.out (b := gn) (by with_reducible repeat (first | exact List.mem_cons_self | apply List.mem_cons_of_mem)))
  go_wp2_with fail
  clear hn
  refine (nuc29 HP.out x A n gl it).mono ?_
  rintro _ w1 ⟨rfl, hp⟩
  obtain ⟨e0, h_e0⟩ : ∃ e0, e0 = needI [x.f1, x.f2, x.f3, it] k2.2 := ⟨_, rfl⟩
  rw [← h_e0] at hp
  have H_e0 := Aside0.mk h_e0
  clear h_e0
  replace HP := Aside0.mk hp
  clear hp
  obtain ⟨OF, hOF⟩ : ∃ ob : Obj, ob = .cells #[.int .i64 F.f0.f0, .int .i64 F.f0.f1, .int .i64 F.f0.f2, .int .i64 F.f0.f3, .int .i64 F.f0.f4, .bool F.f0.f5, .slice A6 F.f1.length c6, .slice A7 F.f2.length c7, .slice A8 F.f3.length c8, .slice A9 F.f4.f0.length c9, .slice A10 F.f4.f1.length c10, .slice A11 F.f4.f2.length c11, .slice A12 F.f4.f3.length c12, .slice A13 F.f4.f4.length c13, .int .i64 F.f4.f5.f0, .slice A15 F.f4.f5.f1.length c15, .slice A16 F.f4.f5.f2.length c16] 36 (0, 0) := ⟨_, rfl⟩
  rw [← hOF] at HP
  clear hOF
  generalize (Value.agg #[.int .i64 F.f0.f0, .int .i64 F.f0.f1, .int .i64 F.f0.f2, .int .i64 F.f0.f3, .int .i64 F.f0.f4, .bool F.f0.f5, .slice A6 F.f1.length c6, .slice A7 F.f2.length c7, .slice A8 F.f3.length c8, .slice A9 F.f4.f0.length c9, .slice A10 F.f4.f1.length c10, .slice A11 F.f4.f2.length c11, .slice A12 F.f4.f3.length c12, .slice A13 F.f4.f4.length c13, .int .i64 F.f4.f5.f0, .slice A15 F.f4.f5.f1.length c15, .slice A16 F.f4.f5.f2.length c16]) = vf0
  have hn := nuc_c9 (Pd.getb HP.out (b := gn) (by with_reducible repeat (first | exact List.mem_cons_self | apply List.mem_cons_of_mem)))
  go_wp2_with fail
  clear hn
  obtain ⟨eu, h_eu⟩ : ∃ eu, eu = needE [u] e0 := ⟨_, rfl⟩
  have H_eu := Aside0.mk h_eu
  clear h_eu
  obtain ⟨wdu, h_wdu⟩ : ∃ wdu, wdu = max x.f1 u.f1 := ⟨_, rfl⟩
  have H_wdu := Aside0.mk h_wdu
  clear h_wdu
  go_loopw [20, 19] (fun i v wr => (i = .int .i64 0 ∧ v = .int .i64 (x.f1) ∧ Aside0 (Pd w wr [(gk, .cells #[.int .i64 e0] 71 (0, 0)), (gr, .cells #[.int .i64 0, .int .i64 0, .int .i64 0, .int .i64 0, .int .i64 0, .int .i64 0, .slice none 0 0] 39 (0, 0)), (gn, .cells #[.int .i64 x.f0, .int .i64 x.f1, .int .i64 x.f2, .int .i64 x.f3, .int .i64 x.f4, .int .i64 x.f5, .slice A x.f6.length n, .int .i64 gl, .int .i64 it] 41 (0, 0)), (gf, OF)])) ∨ (i = .int .i64 1 ∧ v = .int .i64 (wdu) ∧ Aside0 (Pd w wr [(gk, .cells #[.int .i64 eu] 71 (0, 0)), (gr, .cells #[.int .i64 0, .int .i64 0, .int .i64 0, .int .i64 0, .int .i64 0, .int .i64 0, .slice none 0 0] 39 (0, 0)), (gn, .cells #[.int .i64 x.f0, .int .i64 x.f1, .int .i64 x.f2, .int .i64 x.f3, .int .i64 x.f4, .int .i64 x.f5, .slice A x.f6.length n, .int .i64 gl, .int .i64 it] 41 (0, 0)), (gf, OF)]))) (fun i _ _ => 1 - (intOf i).toNat)
  case atStart => exact .inl ⟨rfl, rfl, HP⟩
  case round =>
    rcases hrel with ⟨rfl, rfl, HP⟩ | ⟨rfl, rfl, HP⟩
    · obtain ⟨r0, r1, r2, r3, r4, r5, r6⟩ := (show _ ∧ _ ∧ _ ∧ _ ∧ _ ∧ _ ∧ _ from ⟨Pd.oldcell HP.out HC7u.out.1, Pd.oldcell HP.out HC7u.out.2.1, Pd.oldcell HP.out HC7u.out.2.2.1, Pd.oldcell HP.out HC7u.out.2.2.2.1, Pd.oldcell HP.out HC7u.out.2.2.2.2.1, Pd.oldcell HP.out HC7u.out.2.2.2.2.2.1, Pd.oldcell HP.out HC7u.out.2.2.2.2.2.2⟩)
      go_wp2_with fail
      clear r0 r1 r2 r3 r4 r5 r6
      refine (need_cd HP.out u A6u n6u).mono ?_
      rintro _ w1 ⟨rfl, hp⟩
      rw [← H_eu.out] at hp
      replace HP := Aside0.mk hp
      clear hp
      have r1 := Pd.oldcell HP.out HC7u.out.2.1
      go_wp2
      go_roundw
      case rel => exact .inr ⟨by first | rfl | go_num, by rw [H_wdu.out], HP⟩
      case measure => simp [intOf]
    · skip
      go_wp2_with fail
      go_loopw [21, 19] (fun i v wr => (i = .int .i64 0 ∧ v = .int .i64 (wdu) ∧ Aside0 (Pd w wr [(gk, .cells #[.int .i64 eu] 71 (0, 0)), (gr, .cells #[.int .i64 0, .int .i64 0, .int .i64 0, .int .i64 0, .int .i64 0, .int .i64 0, .slice none 0 0] 39 (0, 0)), (gn, .cells #[.int .i64 x.f0, .int .i64 x.f1, .int .i64 x.f2, .int .i64 x.f3, .int .i64 x.f4, .int .i64 x.f5, .slice A x.f6.length n, .int .i64 gl, .int .i64 it] 41 (0, 0)), (gf, OF)]))) (fun _ _ _ => 0)
      case atStart => exact ⟨rfl, rfl, HP⟩
      case round =>
        obtain ⟨rfl, rfl, HP⟩ := hrel
        have hk := hd_cell (Pd.hd HP.out)
        by_cases hee : eu = 0
        rotate_left
        · have hd1 : (eu == 0) = false := by simpa using hee
          have HRE : Aside0 (R = (0, 0, 0, 0, 0, 0, [], eu)) := ⟨by (rw [HR.out]; have hq := hee; have h_k1 := H_k1.out; have h_k2 := H_k2.out; have h_e0 := H_e0.out; have h_eu := H_eu.out; have h_wdu := H_wdu.out; subst h_k1 h_k2 h_e0 h_eu h_wdu; unfold rlim10V; exact if_pos hq)⟩
          clear hee
          have HPG := Aside0.mk (Pd.swp HP.out)
          have n1 : gr ≠ gk := Pd.ne_hd HPG.out (b := (gk, .cells #[.int .i64 eu] 71 (0, 0))) (by with_reducible repeat (first | exact List.mem_cons_self | apply List.mem_cons_of_mem))
          have n2 := n1.symm
          have hcz := cells7 (Pd.hd HPG.out)
          have hfz := froz7 (Pd.hd HPG.out)
          go_wp2_with fail
          go_region
          all_goals go_wp2
          all_goals refine bodyPost_ret (results_ct rfl _ _ gr 39 #[.int .i64 0, .int .i64 0, .int .i64 0, .int .i64 0, .int .i64 0, .int .i64 0, .slice none 0 0] (0, 0) _ rfl (blk_drew (put7 (Pd.hd HPG.out))) hu39 rfl (by kernel_rfl)) rfl ?_
          all_goals exact ⟨none, 0, by rw [HRE.out]; rfl, by rw [HRE.out]; exact Nat.le_refl _, by rw [HRE.out]; exact Kd.C_nil _ _, (Pd.drew (Pd.st7 HPG.out)).bel⟩
        · have HEE := Aside0.mk hee
          rw [hee] at HP hk
          clear hee
          have hn := nuc_c9 (Pd.getb HP.out (b := gn) (by with_reducible repeat (first | exact List.mem_cons_self | apply List.mem_cons_of_mem)))
          go_wp2_with fail
          clear hk hn
          refine (half_cd HP.out it).mono ?_
          rintro _ w1 ⟨rfl, hp⟩
          obtain ⟨h, h_h⟩ : ∃ h, h = keepV 0 (toldOf (halfR it)) := ⟨_, rfl⟩
          rw [← h_h] at hp ⊢
          have H_h := Aside0.mk h_h
          clear h_h
          replace HP := Aside0.mk hp
          clear hp
          obtain ⟨m0, h_m0⟩ : ∃ m0, m0 = midV h.2 wdu x.f1 := ⟨_, rfl⟩
          have H_m0 := Aside0.mk h_m0
          clear h_m0
          obtain ⟨ug, h_ug⟩ : ∃ ug, ug = keepV m0.2 (toldOf (sumR [k1.1, u.f3])) := ⟨_, rfl⟩
          have H_ug := Aside0.mk h_ug
          clear h_ug
          obtain ⟨uy, h_uy⟩ : ∃ uy, uy = keepV ug.2 (toldOf (sumR [x.f2, max ug.1 k2.1])) := ⟨_, rfl⟩
          have H_uy := Aside0.mk h_uy
          clear h_uy
          obtain ⟨mu, h_mu⟩ : ∃ mu, mu = midV uy.2 wdu u.f1 := ⟨_, rfl⟩
          have H_mu := Aside0.mk h_mu
          clear h_mu
          obtain ⟨ux, h_ux⟩ : ∃ ux, ux = keepV mu.2 (toldOf (sumR [mu.1, h.1])) := ⟨_, rfl⟩
          have H_ux := Aside0.mk h_ux
          clear h_ux
          have hn := nuc_c9 (Pd.getb HP.out (b := gn) (by with_reducible repeat (first | exact List.mem_cons_self | apply List.mem_cons_of_mem)))
          go_wp2_with fail
          clear hn
          go_cut [23] from 123 (fun s23 w' => ∃ (q4 cap4 : Nat) (o4 : Obj), s23 = .slice (some ⟨q4, 0, none⟩) 1 cap4 ∧ Aside0 (OwnR k67 67 w q4 cap4 o4 ([⟨m0.1, 0, x⟩] : List S67)) ∧ Aside0 (Pd w w' [(gk, .cells #[.int .i64 m0.2] 71 (0, 0)), (q4, o4), (gr, .cells #[.int .i64 0, .int .i64 0, .int .i64 0, .int .i64 0, .int .i64 0, .int .i64 0, .slice none 0 0] 39 (0, 0)), (gn, .cells #[.int .i64 x.f0, .int .i64 x.f1, .int .i64 x.f2, .int .i64 x.f3, .int .i64 x.f4, .int .i64 x.f5, .slice A x.f6.length n, .int .i64 gl, .int .i64 it] 41 (0, 0)), (gf, OF)]))
          case first =>
            go_region_held3 (fun w' => w'.cell? ⟨gn, 0, none⟩ = some (.int .i64 x.f0) ∧ w'.cell? ⟨gn, 1, none⟩ = some (.int .i64 x.f1) ∧ w'.cell? ⟨gn, 2, none⟩ = some (.int .i64 x.f2) ∧ w'.cell? ⟨gn, 3, none⟩ = some (.int .i64 x.f3) ∧ w'.cell? ⟨gn, 4, none⟩ = some (.int .i64 x.f4) ∧ w'.cell? ⟨gn, 5, none⟩ = some (.int .i64 x.f5) ∧ w'.cell? ⟨gn, 6, none⟩ = some (.slice A x.f6.length n)) (with_reducible exact nuc_c7 (Pd.getb (by with_reducible repeat (first | exact HP.out | apply Pd.alc | apply Pd.drew)) (b := gn) (by with_reducible repeat (first | exact List.mem_cons_self | apply List.mem_cons_of_mem)))) (first | (go_at_call 29; (try simp only [i64_w]); refine (mid_cd (by with_reducible repeat (first | exact HP.out | apply Pd.alc | apply Pd.drew)) _ _).mono ?_; rintro _ w1 ⟨rfl, hp⟩; (first | rw [← H_m0.out] at hp ⊢); replace HP := Aside0.mk hp; clear hp))
            all_goals (go_wp2_with fail; go_meet; exact ⟨_, _, _, rfl, ⟨OwnR.lit1 (k67_mk w (⟨m0.1, 0, x⟩ : S67) HLN.out HCN.out)⟩, ⟨Pd.swp (Pd.lit (by with_reducible repeat (first | exact HP.out | apply Pd.drew)) (by with_reducible first | exact Lit.refl _ _ | exact Lit.drew _ _))⟩⟩)
          case rest =>
            obtain ⟨q4, cap4, o4, rfl, HOK, HP⟩ := hcut
            go_wp2_with fail
            go_region_held3 (fun w' => w'.cell? ⟨gn, 2, none⟩ = some (.int .i64 x.f2) ∧ w'.cell? ⟨au.block, au.off + 3, none⟩ = some (.int .i64 u.f3)) (with_reducible exact ⟨blk_cell (Pd.getb (by with_reducible repeat (first | exact HP.out | apply Pd.alc | apply Pd.drew)) (b := gn) (by with_reducible repeat (first | exact List.mem_cons_self | apply List.mem_cons_of_mem))) 2, Pd.oldcell (by with_reducible repeat (first | exact HP.out | apply Pd.alc | apply Pd.drew)) HC7u.out.2.2.2.1⟩) (first | (go_at_call 30; (try simp only [i64_w]); refine (add_cd (by with_reducible repeat (first | exact HP.out | apply Pd.alc | apply Pd.drew)) _ _).mono ?_; rintro _ w1 ⟨rfl, hp⟩; (first | rw [← H_ug.out] at hp ⊢ | rw [← H_uy.out] at hp ⊢); replace HP := Aside0.mk hp; clear hp))
            go_wp2_with fail
            go_region_held3 (fun w' => w'.cell? au = some (.int .i64 u.f0) ∧ w'.cell? ⟨au.block, au.off + 1, none⟩ = some (.int .i64 u.f1) ∧ w'.cell? ⟨au.block, au.off + 2, none⟩ = some (.int .i64 u.f2) ∧ w'.cell? ⟨au.block, au.off + 3, none⟩ = some (.int .i64 u.f3) ∧ w'.cell? ⟨au.block, au.off + 4, none⟩ = some (.int .i64 u.f4) ∧ w'.cell? ⟨au.block, au.off + 5, none⟩ = some (.int .i64 u.f5) ∧ w'.cell? ⟨au.block, au.off + 6, none⟩ = some (.slice A6u u.f6.length n6u)) (with_reducible exact ⟨Pd.oldcell (by with_reducible repeat (first | exact HP.out | apply Pd.alc | apply Pd.drew)) HC7u.out.1, Pd.oldcell (by with_reducible repeat (first | exact HP.out | apply Pd.alc | apply Pd.drew)) HC7u.out.2.1, Pd.oldcell (by with_reducible repeat (first | exact HP.out | apply Pd.alc | apply Pd.drew)) HC7u.out.2.2.1, Pd.oldcell (by with_reducible repeat (first | exact HP.out | apply Pd.alc | apply Pd.drew)) HC7u.out.2.2.2.1, Pd.oldcell (by with_reducible repeat (first | exact HP.out | apply Pd.alc | apply Pd.drew)) HC7u.out.2.2.2.2.1, Pd.oldcell (by with_reducible repeat (first | exact HP.out | apply Pd.alc | apply Pd.drew)) HC7u.out.2.2.2.2.2.1, Pd.oldcell (by with_reducible repeat (first | exact HP.out | apply Pd.alc | apply Pd.drew)) HC7u.out.2.2.2.2.2.2⟩) (first | (go_at_call 29; (try simp only [i64_w]); refine (mid_cd (by with_reducible repeat (first | exact HP.out | apply Pd.alc | apply Pd.drew)) _ _).mono ?_; rintro _ w1 ⟨rfl, hp⟩; (first | rw [← H_mu.out] at hp ⊢); replace HP := Aside0.mk hp; clear hp) | (go_at_call 30; (try simp only [i64_w]); refine (add_cd (by with_reducible repeat (first | exact HP.out | apply Pd.alc | apply Pd.drew)) _ _).mono ?_; rintro _ w1 ⟨rfl, hp⟩; (first | rw [← H_ux.out] at hp ⊢); replace HP := Aside0.mk hp; clear hp) | ((with_reducible refine gate_app ?_); refine Row.append (d := k67) (e := 67) (ts := 37) Tryz.underlying37 hki hkz hks hkb rfl (by decide) (HOK.out.row (Pd.swp (by with_reducible repeat (first | exact HP.out | apply Pd.alc | apply Pd.drew)))) (by rfl) _ _ (by rfl) (by rfl) (y := (⟨ux.1, uy.1, u⟩ : S67)) (c := [.int .i64 (ux.1), .int .i64 (uy.1), .int .i64 u.f0, .int .i64 u.f1, .int .i64 u.f2, .int .i64 u.f3, .int .i64 u.f4, .int .i64 u.f5, .slice A6u u.f6.length n6u]) (by rfl) (by repeat (first | exact alloc_last _ _ | apply blk_drew)) (k67_mk w (⟨ux.1, uy.1, u⟩ : S67) Hlu.out HKCu.out) (by simp [Value.oneCell']) (by unfold maxLen; simp) (by simp) ?_; intro q5 cap5 w5 hR; obtain ⟨o5, hown, hp⟩ := hR.outR; have HOK5 : Aside0 (OwnR k67 67 w q5 cap5 o5 ([⟨m0.1, 0, x⟩, ⟨ux.1, uy.1, u⟩] : List S67)) := ⟨hown⟩; replace HP := Aside0.mk (Pd.swp hp); clear hown hp hR))
            replace HOK := HOK5
            clear HOK5
            go_wp2_with fail
            obtain ⟨css, hS⟩ := RowAt.src HOK.out.at ([(gk, .cells #[.int .i64 ux.2] 71 (0, 0)), (gr, .cells #[.int .i64 0, .int .i64 0, .int .i64 0, .int .i64 0, .int .i64 0, .int .i64 0, .slice none 0 0] 39 (0, 0)), (gn, .cells #[.int .i64 x.f0, .int .i64 x.f1, .int .i64 x.f2, .int .i64 x.f3, .int .i64 x.f4, .int .i64 x.f5, .slice A x.f6.length n, .int .i64 gl, .int .i64 it] 41 (0, 0)), (gf, OF)] : List (Nat × Obj))
            refine (set_cd wdu ([⟨m0.1, 0, x⟩, ⟨ux.1, uy.1, u⟩] : List S67) (by simp) (by with_reducible repeat (first | exact HP.out | apply Pd.drew)) (hS.mono fun _ h => h.swp)).mono ?_
            rintro _ w7 ⟨A1, n1, rfl, hl, hf, hp⟩
            replace HP := Aside0.mk hp
            have HLL := Aside0.mk hl
            have HFF := Aside0.mk hf
            clear hp hl hf hS
            have HRV : Aside0 (R = setV ux.2 wdu ([⟨m0.1, 0, x⟩, ⟨ux.1, uy.1, u⟩] : List S67)) := ⟨by (rw [HR.out]; have hq := HEE.out; have h_k1 := H_k1.out; have h_k2 := H_k2.out; have h_e0 := H_e0.out; have h_eu := H_eu.out; have h_wdu := H_wdu.out; have h_h := H_h.out; have h_m0 := H_m0.out; have h_ug := H_ug.out; have h_uy := H_uy.out; have h_mu := H_mu.out; have h_ux := H_ux.out; subst h_k1 h_k2 h_e0 h_eu h_wdu h_h h_m0 h_ug h_uy h_mu h_ux; unfold rlim10V; dsimp only; rw [if_neg (fun h => h hq)]; try rfl)⟩
            rw [← HRV.out] at HLL HFF ⊢
            have hcz := fun ob : Obj => cells7 (Pd.hd (Pd.tl (Pd.tl (Pd.alc HP.out ob))))
            have hfz := fun ob : Obj => froz7 (Pd.hd (Pd.tl (Pd.tl (Pd.alc HP.out ob))))
            go_wp2
            refine bodyPost_ret (results_ct rfl _ _ gr 39 #[.int .i64 R.1, .int .i64 R.2.1, .int .i64 R.2.2.1, .int .i64 R.2.2.2.1, .int .i64 R.2.2.2.2.1, .int .i64 R.2.2.2.2.2.1, .slice A1 R.2.2.2.2.2.2.1.length n1] (0, 0) _ rfl (put7 (Pd.hd (Pd.tl (Pd.tl (Pd.alc HP.out _))))) hu39 rfl (by kernel_rfl)) rfl ?_
            exact ⟨A1, n1, rfl, HLL.out, HFF.out _ (fun k hk hlt => (far7 _ (hk (gr, _) (List.mem_cons_of_mem _ (List.mem_cons_of_mem _ List.mem_cons_self)))).trans (alloc_heap_lt hlt)), Pre.bel (Pd.toPre (Pd.st7 (Pd.tl (Pd.tl (Pd.alc HP.out _)))))⟩
end Go.Proofs.YtbhljokhcmfgjaaGreat.P
