import Derived.Test.YtbhljokhcmfgjaaGreatTRefLV
/- The document's limits with 0 above and 0 below: the walk. Printed by a program of this work (mkref29l.py). -/
set_option linter.unusedVariables false
set_option linter.unusedSimpArgs false
namespace Go.Proofs.YtbhljokhcmfgjaaGreat.P
open Go.RowKit Go.Proofs.YtbhljokhcmfgjaaGreatW.PrintWords Go.Proofs.YtbhljokhcmfgjaaGreatW.PrintLast Go.Proofs.YtbhljokhcmfgjaaGreatW.PrintMore

set_option maxRecDepth 100000 in
set_option maxHeartbeats 8000000 in
theorem rlim00_calls (F : S36) (c z : Int) (x : S39) (gl it : Int) (A : Option Addr) (n : Nat) (Au : Option Addr) (nu : Nat) (Ad : Option Addr) (nd : Nat) (cs : List Value) (w : World) (hF : FontIn w F cs) (hln : x.f6.length ≤ n) (hCn : Kd.C k67 w A x.f6.length x.f6) : Calls Tryz.prog 8 #[.agg cs.toArray, .int .i64 c, .int .i64 z, .agg #[.int .i64 x.f0, .int .i64 x.f1, .int .i64 x.f2, .int .i64 x.f3, .int .i64 x.f4, .int .i64 x.f5, .slice A x.f6.length n, .int .i64 gl, .int .i64 it], .slice Au 0 nu, .slice Ad 0 nd] w fun r w' => ∃ A1 n1, r = .returned (.tuple #[.agg #[.int .i64 (rlim00V F c z x it).1, .int .i64 (rlim00V F c z x it).2.1, .int .i64 (rlim00V F c z x it).2.2.1, .int .i64 (rlim00V F c z x it).2.2.2.1, .int .i64 (rlim00V F c z x it).2.2.2.2.1, .int .i64 (rlim00V F c z x it).2.2.2.2.2.1, .slice A1 (rlim00V F c z x it).2.2.2.2.2.2.1.length n1], .int .i64 (rlim00V F c z x it).2.2.2.2.2.2.2]) ∧ (rlim00V F c z x it).2.2.2.2.2.2.1.length ≤ n1 ∧ Kd.C k67 w' A1 (rlim00V F c z x it).2.2.2.2.2.2.1.length (rlim00V F c z x it).2.2.2.2.2.2.1 ∧ Below w.heap.size w w' := by
  have hu39 := Tryz.underlying39
  have hu49 := Tryz.underlying67
  have hu36 := Tryz.underlying36
  have hu73 := Tryz.underlying41
  have hu74 := Tryz.underlying71
  obtain ⟨ik, hki, hkz, hks, hkb⟩ := info_parts (show (Tryz.prog.info? 67).map (fun i => (i.zero, i.size, i.bytes)) = some (some (.agg #[.int .i64 0, .int .i64 0, .int .i64 0, .int .i64 0, .int .i64 0, .int .i64 0, .int .i64 0, .int .i64 0, .slice none 0 0]), 9, 88) by kernel_rfl)
  obtain ⟨R, hR⟩ : ∃ R, R = rlim00V F c z x it := ⟨_, rfl⟩
  rw [← hR]
  have HR := Aside0.mk hR
  clear hR
  have HF := Aside0.mk hF
  have HLN := Aside0.mk hln
  have HCN := Aside0.mk hCn
  clear hln hCn
  obtain ⟨A6, c6, A7, c7, A8, c8, A9, c9, A10, c10, A11, c11, A12, c12, A13, c13, A15, c15, A16, c16, hcs, hcr⟩ := id hF
  subst hcs
  clear hcr hF
  go_enter Tryz.func8, Tryz.ntmps8
  have HP := Aside0.mk (Pd.start w)
  go_wp2_with (first | ((with_reducible refine gate_dst (N := 6) rfl ?_); refine box_event ?hg (N := 6) ?hd (cs := #[.int .i64 F.f0.f0, .int .i64 F.f0.f1, .int .i64 F.f0.f2, .int .i64 F.f0.f3, .int .i64 F.f0.f4, .bool F.f0.f5, .slice A6 F.f1.length c6, .slice A7 F.f2.length c7, .slice A8 F.f3.length c8, .slice A9 F.f4.f0.length c9, .slice A10 F.f4.f1.length c10, .slice A11 F.f4.f2.length c11, .slice A12 F.f4.f3.length c12, .slice A13 F.f4.f4.length c13, .int .i64 F.f4.f5.f0, .slice A15 F.f4.f5.f1.length c15, .slice A16 F.f4.f5.f2.length c16]) (t := 36) ?hr ?_; (case hd => rfl); (case hg => rfl); (case hr => first | (go_simp; done) | (go_simp; rfl)); intro gf hg wk hbox hb; replace HP := Aside0.mk (Pd.box (by with_reducible repeat (first | exact HP.out | apply Pd.drew)) hg hbox hb); clear hg hbox hb) | ((with_reducible refine gate_dst (N := 9) rfl ?_); refine box_event ?hg (N := 9) ?hd (cs := #[.int .i64 x.f0, .int .i64 x.f1, .int .i64 x.f2, .int .i64 x.f3, .int .i64 x.f4, .int .i64 x.f5, .slice A x.f6.length n, .int .i64 gl, .int .i64 it]) (t := 41) ?hr ?_; (case hd => rfl); (case hg => rfl); (case hr => first | (go_simp; done) | (go_simp; rfl)); intro gn hg wk hbox hb; replace HP := Aside0.mk (Pd.box (by with_reducible repeat (first | exact HP.out | apply Pd.drew)) hg hbox hb); clear hg hbox hb) | ((with_reducible refine gate_dst (N := 12) rfl ?_); refine box_event ?hg (N := 12) ?hd (cs := #[.int .i64 0, .int .i64 0, .int .i64 0, .int .i64 0, .int .i64 0, .int .i64 0, .slice none 0 0]) (t := 39) ?hr ?_; (case hd => rfl); (case hg => rfl); (case hr => first | (go_simp; done) | (go_simp; rfl)); intro gr hg wk hbox hb; replace HP := Aside0.mk (Pd.box (by with_reducible repeat (first | exact HP.out | apply Pd.drew)) hg hbox hb); clear hg hbox hb) | ((with_reducible refine gate_dst (N := 38) rfl ?_); refine box_event ?hg (N := 38) ?hd (cs := #[.int .i64 0]) (t := 71) ?hr ?_; (case hd => rfl); (case hg => rfl); (case hr => first | (go_simp; done) | (go_simp; rfl)); intro gk hg wk hbox hb; replace HP := Aside0.mk (Pd.box (by with_reducible repeat (first | exact HP.out | apply Pd.drew)) hg hbox hb); clear hg hbox hb; have hn := nuc_c9 (Pd.getb HP.out (b := gn) (by with_reducible repeat (first | exact List.mem_cons_self | apply List.mem_cons_of_mem)))))
  clear hn
  refine (nuc29 HP.out x A n gl it).mono ?_
  rintro _ w1 ⟨rfl, hp⟩
  obtain ⟨e0, h_e0⟩ : ∃ e0, e0 = needI [x.f1, x.f2, x.f3, it] 0 := ⟨_, rfl⟩
  rw [← h_e0] at hp
  have H_e0 := Aside0.mk h_e0
  clear h_e0
  replace HP := Aside0.mk hp
  clear hp
  obtain ⟨OF, hOF⟩ : ∃ ob : Obj, ob = .cells #[.int .i64 F.f0.f0, .int .i64 F.f0.f1, .int .i64 F.f0.f2, .int .i64 F.f0.f3, .int .i64 F.f0.f4, .bool F.f0.f5, .slice A6 F.f1.length c6, .slice A7 F.f2.length c7, .slice A8 F.f3.length c8, .slice A9 F.f4.f0.length c9, .slice A10 F.f4.f1.length c10, .slice A11 F.f4.f2.length c11, .slice A12 F.f4.f3.length c12, .slice A13 F.f4.f4.length c13, .int .i64 F.f4.f5.f0, .slice A15 F.f4.f5.f1.length c15, .slice A16 F.f4.f5.f2.length c16] 36 (0, 0) := ⟨_, rfl⟩
  rw [← hOF] at HP
  clear hOF
  generalize (Value.agg #[.int .i64 F.f0.f0, .int .i64 F.f0.f1, .int .i64 F.f0.f2, .int .i64 F.f0.f3, .int .i64 F.f0.f4, .bool F.f0.f5, .slice A6 F.f1.length c6, .slice A7 F.f2.length c7, .slice A8 F.f3.length c8, .slice A9 F.f4.f0.length c9, .slice A10 F.f4.f1.length c10, .slice A11 F.f4.f2.length c11, .slice A12 F.f4.f3.length c12, .slice A13 F.f4.f4.length c13, .int .i64 F.f4.f5.f0, .slice A15 F.f4.f5.f1.length c15, .slice A16 F.f4.f5.f2.length c16]) = vf0
  have hn := nuc_c9 (Pd.getb HP.out (b := gn) (by with_reducible repeat (first | exact List.mem_cons_self | apply List.mem_cons_of_mem)))
  go_wp2_with fail
  clear hn
  go_loopw [20, 19] (fun i v wr => (i = .int .i64 0 ∧ v = .int .i64 (x.f1) ∧ Aside0 (Pd w wr [(gk, .cells #[.int .i64 e0] 71 (0, 0)), (gr, .cells #[.int .i64 0, .int .i64 0, .int .i64 0, .int .i64 0, .int .i64 0, .int .i64 0, .slice none 0 0] 39 (0, 0)), (gn, .cells #[.int .i64 x.f0, .int .i64 x.f1, .int .i64 x.f2, .int .i64 x.f3, .int .i64 x.f4, .int .i64 x.f5, .slice A x.f6.length n, .int .i64 gl, .int .i64 it] 41 (0, 0)), (gf, OF)]))) (fun _ _ _ => 0)
  case atStart => exact ⟨rfl, rfl, HP⟩
  case round =>
    obtain ⟨rfl, rfl, HP⟩ := hrel
    go_wp2_with fail
    go_loopw [21, 19] (fun i v wr => (i = .int .i64 0 ∧ v = .int .i64 (x.f1) ∧ Aside0 (Pd w wr [(gk, .cells #[.int .i64 e0] 71 (0, 0)), (gr, .cells #[.int .i64 0, .int .i64 0, .int .i64 0, .int .i64 0, .int .i64 0, .int .i64 0, .slice none 0 0] 39 (0, 0)), (gn, .cells #[.int .i64 x.f0, .int .i64 x.f1, .int .i64 x.f2, .int .i64 x.f3, .int .i64 x.f4, .int .i64 x.f5, .slice A x.f6.length n, .int .i64 gl, .int .i64 it] 41 (0, 0)), (gf, OF)]))) (fun _ _ _ => 0)
    case atStart => exact ⟨rfl, rfl, HP⟩
    case round =>
      obtain ⟨rfl, rfl, HP⟩ := hrel
      have hk := hd_cell (Pd.hd HP.out)
      by_cases hee : e0 = 0
      rotate_left
      · have hd1 : (e0 == 0) = false := by simpa using hee
        have HRE : Aside0 (R = (0, 0, 0, 0, 0, 0, [], e0)) := ⟨by (rw [HR.out]; have hq := hee; have h_e0 := H_e0.out; subst h_e0; unfold rlim00V; exact if_pos hq)⟩
        clear hee
        have HPG := Aside0.mk (Pd.swp HP.out)
        have n1 : gr ≠ gk := Pd.ne_hd HPG.out (b := (gk, .cells #[.int .i64 e0] 71 (0, 0))) (by with_reducible repeat (first | exact List.mem_cons_self | apply List.mem_cons_of_mem))
        have n2 := n1.symm
        have hcz := cells7 (Pd.hd HPG.out)
        have hfz := froz7 (Pd.hd HPG.out)
        go_wp2_with fail
        go_region
        all_goals go_wp2
        all_goals refine bodyPost_ret (results_ct rfl _ _ gr 39 #[.int .i64 0, .int .i64 0, .int .i64 0, .int .i64 0, .int .i64 0, .int .i64 0, .slice none 0 0] (0, 0) _ rfl (blk_drew (put7 (Pd.hd HPG.out))) hu39 rfl (by kernel_rfl)) rfl ?_
        all_goals exact ⟨none, 0, by rw [HRE.out]; rfl, by rw [HRE.out]; exact Nat.le_refl _, by rw [HRE.out]; exact Kd.C_nil _ _, (Pd.drew (Pd.st7 HPG.out)).bel⟩
      · have HEE := Aside0.mk hee
        rw [hee] at HP hk
        clear hee
        have hn := nuc_c9 (Pd.getb HP.out (b := gn) (by with_reducible repeat (first | exact List.mem_cons_self | apply List.mem_cons_of_mem)))
        go_wp2_with fail
        clear hk hn
        refine (half_cd HP.out it).mono ?_
        rintro _ w1 ⟨rfl, hp⟩
        obtain ⟨h, h_h⟩ : ∃ h, h = keepV 0 (toldOf (halfR it)) := ⟨_, rfl⟩
        rw [← h_h] at hp ⊢
        have H_h := Aside0.mk h_h
        clear h_h
        replace HP := Aside0.mk hp
        clear hp
        obtain ⟨m0, h_m0⟩ : ∃ m0, m0 = midV h.2 x.f1 x.f1 := ⟨_, rfl⟩
        have H_m0 := Aside0.mk h_m0
        clear h_m0
        have hn := nuc_c9 (Pd.getb HP.out (b := gn) (by with_reducible repeat (first | exact List.mem_cons_self | apply List.mem_cons_of_mem)))
        go_wp2_with fail
        clear hn
        go_cut [23] from 123 (fun s23 w' => ∃ (q4 cap4 : Nat) (o4 : Obj), s23 = .slice (some ⟨q4, 0, none⟩) 1 cap4 ∧ Aside0 (OwnR k67 67 w q4 cap4 o4 ([⟨m0.1, 0, x⟩] : List S67)) ∧ Aside0 (Pd w w' [(gk, .cells #[.int .i64 m0.2] 71 (0, 0)), (q4, o4), (gr, .cells #[.int .i64 0, .int .i64 0, .int .i64 0, .int .i64 0, .int .i64 0, .int .i64 0, .slice none 0 0] 39 (0, 0)), (gn, .cells #[.int .i64 x.f0, .int .i64 x.f1, .int .i64 x.f2, .int .i64 x.f3, .int .i64 x.f4, .int .i64 x.f5, .slice A x.f6.length n, .int .i64 gl, .int .i64 it] 41 (0, 0)), (gf, OF)]))
        case first =>
          go_region_held3 (fun w' => w'.cell? ⟨gn, 0, none⟩ = some (.int .i64 x.f0) ∧ w'.cell? ⟨gn, 1, none⟩ = some (.int .i64 x.f1) ∧ w'.cell? ⟨gn, 2, none⟩ = some (.int .i64 x.f2) ∧ w'.cell? ⟨gn, 3, none⟩ = some (.int .i64 x.f3) ∧ w'.cell? ⟨gn, 4, none⟩ = some (.int .i64 x.f4) ∧ w'.cell? ⟨gn, 5, none⟩ = some (.int .i64 x.f5) ∧ w'.cell? ⟨gn, 6, none⟩ = some (.slice A x.f6.length n)) (with_reducible exact nuc_c7 (Pd.getb (by with_reducible repeat (first | exact HP.out | apply Pd.alc | apply Pd.drew)) (b := gn) (by with_reducible repeat (first | exact List.mem_cons_self | apply List.mem_cons_of_mem)))) (first | (go_at_call 29; (try simp only [i64_w]); refine (mid_cd (by with_reducible repeat (first | exact HP.out | apply Pd.alc | apply Pd.drew)) _ _).mono ?_; rintro _ w1 ⟨rfl, hp⟩; (first | rw [← H_m0.out] at hp ⊢); replace HP := Aside0.mk hp; clear hp))
          all_goals (go_wp2_with fail; go_meet; exact ⟨_, _, _, rfl, ⟨OwnR.lit1 (k67_mk w (⟨m0.1, 0, x⟩ : S67) HLN.out HCN.out)⟩, ⟨Pd.swp (Pd.lit (by with_reducible repeat (first | exact HP.out | apply Pd.drew)) (by with_reducible first | exact Lit.refl _ _ | exact Lit.drew _ _))⟩⟩)
        case rest =>
          obtain ⟨q4, cap4, o4, rfl, HOK, HP⟩ := hcut
          go_wp2_with fail
          obtain ⟨css, hS⟩ := RowAt.src HOK.out.at ([(gk, .cells #[.int .i64 m0.2] 71 (0, 0)), (gr, .cells #[.int .i64 0, .int .i64 0, .int .i64 0, .int .i64 0, .int .i64 0, .int .i64 0, .slice none 0 0] 39 (0, 0)), (gn, .cells #[.int .i64 x.f0, .int .i64 x.f1, .int .i64 x.f2, .int .i64 x.f3, .int .i64 x.f4, .int .i64 x.f5, .slice A x.f6.length n, .int .i64 gl, .int .i64 it] 41 (0, 0)), (gf, OF)] : List (Nat × Obj))
          refine (set_cd x.f1 ([⟨m0.1, 0, x⟩] : List S67) (by simp) (by with_reducible repeat (first | exact HP.out | apply Pd.drew)) (hS.mono fun _ h => h.swp)).mono ?_
          rintro _ w7 ⟨A1, n1, rfl, hl, hf, hp⟩
          replace HP := Aside0.mk hp
          have HLL := Aside0.mk hl
          have HFF := Aside0.mk hf
          clear hp hl hf hS
          have HRV : Aside0 (R = setV m0.2 x.f1 ([⟨m0.1, 0, x⟩] : List S67)) := ⟨by (rw [HR.out]; have hq := HEE.out; have h_e0 := H_e0.out; have h_h := H_h.out; have h_m0 := H_m0.out; subst h_e0 h_h h_m0; unfold rlim00V; dsimp only; rw [if_neg (fun h => h hq)]; try rfl)⟩
          rw [← HRV.out] at HLL HFF ⊢
          have hcz := fun ob : Obj => cells7 (Pd.hd (Pd.tl (Pd.tl (Pd.alc HP.out ob))))
          have hfz := fun ob : Obj => froz7 (Pd.hd (Pd.tl (Pd.tl (Pd.alc HP.out ob))))
          go_wp2
          refine bodyPost_ret (results_ct rfl _ _ gr 39 #[.int .i64 R.1, .int .i64 R.2.1, .int .i64 R.2.2.1, .int .i64 R.2.2.2.1, .int .i64 R.2.2.2.2.1, .int .i64 R.2.2.2.2.2.1, .slice A1 R.2.2.2.2.2.2.1.length n1] (0, 0) _ rfl (put7 (Pd.hd (Pd.tl (Pd.tl (Pd.alc HP.out _))))) hu39 rfl (by kernel_rfl)) rfl ?_
          exact ⟨A1, n1, rfl, HLL.out, HFF.out _ (fun k hk hlt => (far7 _ (hk (gr, _) (List.mem_cons_of_mem _ (List.mem_cons_of_mem _ List.mem_cons_self)))).trans (alloc_heap_lt hlt)), Pre.bel (Pd.toPre (Pd.st7 (Pd.tl (Pd.tl (Pd.alc HP.out _)))))⟩
end Go.Proofs.YtbhljokhcmfgjaaGreat.P
