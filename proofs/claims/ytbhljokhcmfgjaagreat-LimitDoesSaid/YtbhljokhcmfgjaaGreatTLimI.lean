import Derived.Test.YtbhljokhcmfgjaaGreatTLim9
/- limit.Limits with 0 above and 0 below: the walk. Printed by a program of this work (mklim6.py). -/
set_option linter.unusedVariables false
set_option linter.unusedSimpArgs false
namespace Go.Proofs.YtbhljokhcmfgjaaGreat.P
open Go.RowKit Go.Proofs.YtbhljokhcmfgjaaGreatW.PrintWords Go.Proofs.YtbhljokhcmfgjaaGreatW.PrintLast Go.Proofs.YtbhljokhcmfgjaaGreatW.PrintMore

set_option maxRecDepth 100000 in
set_option maxHeartbeats 8000000 in
theorem limz00_calls (F : S36) (c z : Int) (x : S39) (gl it : Int) (A : Option Addr) (n : Nat) (Au : Option Addr) (nu : Nat) (Ad : Option Addr) (nd : Nat) (cs : List Value) (w : World) (hF : FontIn w F cs) (hln : x.f6.length ≤ n) (hCn : Kd.C k67 w A x.f6.length x.f6) : Calls Tryz.prog 7 #[.agg cs.toArray, .int .i64 c, .int .i64 z, .agg #[.int .i64 x.f0, .int .i64 x.f1, .int .i64 x.f2, .int .i64 x.f3, .int .i64 x.f4, .int .i64 x.f5, .slice A x.f6.length n, .int .i64 gl, .int .i64 it], .slice Au 0 nu, .slice Ad 0 nd] w fun r w' => ∃ A1 n1, r = .returned (.tuple #[.agg #[.int .i64 (lim00V F c z x it).1, .int .i64 (lim00V F c z x it).2.1, .int .i64 (lim00V F c z x it).2.2.1, .int .i64 (lim00V F c z x it).2.2.2.1, .int .i64 (lim00V F c z x it).2.2.2.2.1, .int .i64 (lim00V F c z x it).2.2.2.2.2.1, .slice A1 (lim00V F c z x it).2.2.2.2.2.2.1.length n1], .int .i64 (lim00V F c z x it).2.2.2.2.2.2.2]) ∧ (lim00V F c z x it).2.2.2.2.2.2.1.length ≤ n1 ∧ Kd.C k67 w' A1 (lim00V F c z x it).2.2.2.2.2.2.1.length (lim00V F c z x it).2.2.2.2.2.2.1 ∧ Below w.heap.size w w' := by
  have hu39 := Tryz.underlying39
  have hu49 := Tryz.underlying67
  have hu36 := Tryz.underlying36
  have hu73 := Tryz.underlying41
  have hu118 := Tryz.underlying60
  have hmf : ∀ (fn : Fn) (first cap : Array Value) (w : World), (Instr.makeFunc fn first cap).run Tryz.prog w = .ok (.func fn first cap) w := fun _ _ _ _ => rfl
  obtain ⟨ib, hi, hz, hs7, hby⟩ := info_parts (show (Tryz.prog.info? 39).map (fun i => (i.zero, i.size, i.bytes)) = some (some (.agg #[.int .i64 0, .int .i64 0, .int .i64 0, .int .i64 0, .int .i64 0, .int .i64 0, .slice none 0 0]), 7, 72) by kernel_rfl)
  obtain ⟨ik, hki, hkz, hks, hkb⟩ := info_parts (show (Tryz.prog.info? 67).map (fun i => (i.zero, i.size, i.bytes)) = some (some (.agg #[.int .i64 0, .int .i64 0, .int .i64 0, .int .i64 0, .int .i64 0, .int .i64 0, .int .i64 0, .int .i64 0, .slice none 0 0]), 9, 88) by kernel_rfl)
  obtain ⟨R, hR⟩ : ∃ R, R = lim00V F c z x it := ⟨_, rfl⟩
  rw [← hR]
  have HR := Aside0.mk hR
  clear hR
  have HF := Aside0.mk hF
  have HLN := Aside0.mk hln
  have HCN := Aside0.mk hCn
  clear hln hCn
  obtain ⟨A6, c6, A7, c7, A8, c8, A9, c9, A10, c10, A11, c11, A12, c12, A13, c13, A15, c15, A16, c16, hcs, hcr⟩ := id hF
  subst hcs
  clear hcr hF
  obtain ⟨pre, hpre⟩ : ∃ r : List Value, r = [.int .i64 F.f0.f0, .int .i64 F.f0.f1, .int .i64 F.f0.f2, .int .i64 F.f0.f3, .int .i64 F.f0.f4, .bool F.f0.f5, .slice A6 F.f1.length c6, .slice A7 F.f2.length c7, .slice A8 F.f3.length c8, .slice A9 F.f4.f0.length c9, .slice A10 F.f4.f1.length c10, .slice A11 F.f4.f2.length c11, .slice A12 F.f4.f3.length c12, .slice A13 F.f4.f4.length c13, .int .i64 F.f4.f5.f0, .slice A15 F.f4.f5.f1.length c15, .slice A16 F.f4.f5.f2.length c16, .int .i64 c, .int .i64 z] := ⟨_, rfl⟩
  have HPRE := Aside0.mk hpre
  have HL := Aside0.mk (show pre.length = 19 by rw [hpre]; rfl)
  clear hpre
  have HP := Aside0.mk (Pd.start w)
  go_enter Tryz.func7, Tryz.ntmps7
  go_wp2_with (first | ((with_reducible refine gate_dst (N := 6) rfl ?_); refine box_event ?hg (N := 6) ?hd (cs := #[.int .i64 F.f0.f0, .int .i64 F.f0.f1, .int .i64 F.f0.f2, .int .i64 F.f0.f3, .int .i64 F.f0.f4, .bool F.f0.f5, .slice A6 F.f1.length c6, .slice A7 F.f2.length c7, .slice A8 F.f3.length c8, .slice A9 F.f4.f0.length c9, .slice A10 F.f4.f1.length c10, .slice A11 F.f4.f2.length c11, .slice A12 F.f4.f3.length c12, .slice A13 F.f4.f4.length c13, .int .i64 F.f4.f5.f0, .slice A15 F.f4.f5.f1.length c15, .slice A16 F.f4.f5.f2.length c16]) (t := 36) ?hr ?_; (case hd => rfl); (case hg => rfl); (case hr => first | (go_simp; done) | (go_simp; rfl)); intro gf hg wk hbox hb; replace HP := Aside0.mk (Pd.box (by with_reducible repeat (first | exact HP.out | apply Pd.drew)) hg hbox hb); clear hg hbox hb) | ((with_reducible refine gate_dst (N := 9) rfl ?_); refine box_event ?hg (N := 9) ?hd (cs := #[.int .i64 x.f0, .int .i64 x.f1, .int .i64 x.f2, .int .i64 x.f3, .int .i64 x.f4, .int .i64 x.f5, .slice A x.f6.length n, .int .i64 gl, .int .i64 it]) (t := 41) ?hr ?_; (case hd => rfl); (case hg => rfl); (case hr => first | (go_simp; done) | (go_simp; rfl)); intro gn hg wk hbox hb; replace HP := Aside0.mk (Pd.box (by with_reducible repeat (first | exact HP.out | apply Pd.drew)) hg hbox hb); clear hg hbox hb) | ((with_reducible refine gate_dst (N := 12) rfl ?_); refine box_event ?hg (N := 12) ?hd (cs := #[.int .i64 0, .int .i64 0, .int .i64 0, .int .i64 0, .int .i64 0, .int .i64 0, .slice none 0 0]) (t := 39) ?hr ?_; (case hd => rfl); (case hg => rfl); (case hr => first | (go_simp; done) | (go_simp; rfl)); intro gr hg wk hbox hb; replace HP := Aside0.mk (Pd.box (by with_reducible repeat (first | exact HP.out | apply Pd.drew)) hg hbox hb); clear hg hbox hb) | ((with_reducible refine gate_dst (N := 39) rfl ?_); refine wpList_load_row rfl 36 (.tmp 6) rfl gf (by rfl) 36 #[.int .i64 F.f0.f0, .int .i64 F.f0.f1, .int .i64 F.f0.f2, .int .i64 F.f0.f3, .int .i64 F.f0.f4, .bool F.f0.f5, .slice A6 F.f1.length c6, .slice A7 F.f2.length c7, .slice A8 F.f3.length c8, .slice A9 F.f4.f0.length c9, .slice A10 F.f4.f1.length c10, .slice A11 F.f4.f2.length c11, .slice A12 F.f4.f3.length c12, .slice A13 F.f4.f4.length c13, .int .i64 F.f4.f5.f0, .slice A15 F.f4.f5.f1.length c15, .slice A16 F.f4.f5.f2.length c16] (0, 0) _ (Pd.hd (Pd.tl (Pd.tl (by with_reducible repeat (first | exact HP.out | apply Pd.drew))))) hu36 rfl info_font ?_) | ((with_reducible refine gate_dst (N := 43) rfl ?_); refine box_event ?hg (N := 43) ?hd (cs := #[.int .i64 F.f0.f0, .int .i64 F.f0.f1, .int .i64 F.f0.f2, .int .i64 F.f0.f3, .int .i64 F.f0.f4, .bool F.f0.f5, .slice A6 F.f1.length c6, .slice A7 F.f2.length c7, .slice A8 F.f3.length c8, .slice A9 F.f4.f0.length c9, .slice A10 F.f4.f1.length c10, .slice A11 F.f4.f2.length c11, .slice A12 F.f4.f3.length c12, .slice A13 F.f4.f4.length c13, .int .i64 F.f4.f5.f0, .slice A15 F.f4.f5.f1.length c15, .slice A16 F.f4.f5.f2.length c16, .int .i64 c, .int .i64 z, .int .i64 0]) (t := 60) ?hr ?_; (case hd => rfl); (case hg => rfl); (case hr => first | (go_simp; done) | (go_simp; rfl)); intro g hg wkg hbox hb; replace HP : Aside0 (Pd w wkg [(g, .cells (pre ++ [Value.int .i64 0]).toArray 60 (0, 0)), (gr, .cells #[.int .i64 0, .int .i64 0, .int .i64 0, .int .i64 0, .int .i64 0, .int .i64 0, .slice none 0 0] 39 (0, 0)), (gn, .cells #[.int .i64 x.f0, .int .i64 x.f1, .int .i64 x.f2, .int .i64 x.f3, .int .i64 x.f4, .int .i64 x.f5, .slice A x.f6.length n, .int .i64 gl, .int .i64 it] 41 (0, 0)), (gf, .cells #[.int .i64 F.f0.f0, .int .i64 F.f0.f1, .int .i64 F.f0.f2, .int .i64 F.f0.f3, .int .i64 F.f0.f4, .bool F.f0.f5, .slice A6 F.f1.length c6, .slice A7 F.f2.length c7, .slice A8 F.f3.length c8, .slice A9 F.f4.f0.length c9, .slice A10 F.f4.f1.length c10, .slice A11 F.f4.f2.length c11, .slice A12 F.f4.f3.length c12, .slice A13 F.f4.f4.length c13, .int .i64 F.f4.f5.f0, .slice A15 F.f4.f5.f1.length c15, .slice A16 F.f4.f5.f2.length c16] 36 (0, 0))]) := ⟨by rw [HPRE.out]; exact Pd.box HP.out hg hbox hb⟩; clear hg hbox hb) | ((with_reducible refine gate_dst (N := 14) rfl ?_); refine box_event ?hg (N := 14) ?hd (cs := #[.pointer none]) (t := 58) ?hr ?_; (case hd => rfl); (case hg => rfl); (case hr => first | (go_simp; done) | (go_simp; rfl)); intro g14 hg wk14 hbox hb; replace HP := Aside0.mk (Pd.box HP.out hg hbox hb); clear hg hbox hb; have hcz := blk_cell (Pd.hd HP.out) 0; have hfz := blk_frozen (Pd.hd HP.out) 0) | (have hgo := hcz; clear hgo; (with_reducible refine gate_dst (N := 44) rfl ?_); refine Pd.fold (Pd.s1 HP.out) ?_; intro W' h0; replace HP := Aside0.mk h0; clear h0 hcz hfz; replace HP := Aside0.mk (Pd.swp HP.out); have h14 := blk_cell (Pd.hd (Pd.tl HP.out)) 0))
  obtain ⟨OF, hOF⟩ : ∃ ob : Obj, ob = .cells #[.int .i64 F.f0.f0, .int .i64 F.f0.f1, .int .i64 F.f0.f2, .int .i64 F.f0.f3, .int .i64 F.f0.f4, .bool F.f0.f5, .slice A6 F.f1.length c6, .slice A7 F.f2.length c7, .slice A8 F.f3.length c8, .slice A9 F.f4.f0.length c9, .slice A10 F.f4.f1.length c10, .slice A11 F.f4.f2.length c11, .slice A12 F.f4.f3.length c12, .slice A13 F.f4.f4.length c13, .int .i64 F.f4.f5.f0, .slice A15 F.f4.f5.f1.length c15, .slice A16 F.f4.f5.f2.length c16] 36 (0, 0) := ⟨_, rfl⟩
  rw [← hOF] at HP
  clear hOF h14
  generalize (Value.agg #[.int .i64 F.f0.f0, .int .i64 F.f0.f1, .int .i64 F.f0.f2, .int .i64 F.f0.f3, .int .i64 F.f0.f4, .bool F.f0.f5, .slice A6 F.f1.length c6, .slice A7 F.f2.length c7, .slice A8 F.f3.length c8, .slice A9 F.f4.f0.length c9, .slice A10 F.f4.f1.length c10, .slice A11 F.f4.f2.length c11, .slice A12 F.f4.f3.length c12, .slice A13 F.f4.f4.length c13, .int .i64 F.f4.f5.f0, .slice A15 F.f4.f5.f1.length c15, .slice A16 F.f4.f5.f2.length c16]) = vf0
  generalize (Value.agg #[.int .i64 F.f0.f0, .int .i64 F.f0.f1, .int .i64 F.f0.f2, .int .i64 F.f0.f3, .int .i64 F.f0.f4, .bool F.f0.f5, .slice A6 F.f1.length c6, .slice A7 F.f2.length c7, .slice A8 F.f3.length c8, .slice A9 F.f4.f0.length c9, .slice A10 F.f4.f1.length c10, .slice A11 F.f4.f2.length c11, .slice A12 F.f4.f3.length c12, .slice A13 F.f4.f4.length c13, .int .i64 F.f4.f5.f0, .slice A15 F.f4.f5.f1.length c15, .slice A16 F.f4.f5.f2.length c16, .int .i64 c, .int .i64 z, .int .i64 0]) = vf1
  go_loopw [48, 16, 17] (fun i aa bb wr => i = .int .i64 0 ∧ aa = .int .i64 0 ∧ bb = .int .i64 0 ∧ Aside0 (Pd w wr [(g, .cells (pre ++ [Value.int .i64 0]).toArray 60 (0, 0)), (g14, .cells #[.pointer (some ⟨g, 0, none⟩)] 58 (0, 0)), (gr, .cells #[.int .i64 0, .int .i64 0, .int .i64 0, .int .i64 0, .int .i64 0, .int .i64 0, .slice none 0 0] 39 (0, 0)), (gn, .cells #[.int .i64 x.f0, .int .i64 x.f1, .int .i64 x.f2, .int .i64 x.f3, .int .i64 x.f4, .int .i64 x.f5, .slice A x.f6.length n, .int .i64 gl, .int .i64 it] 41 (0, 0)), (gf, OF)])) (fun _ _ _ _ => 0)
  case atStart => exact ⟨rfl, rfl, rfl, HP⟩
  case round =>
    obtain ⟨rfl, rfl, rfl, HP⟩ := hrel
    go_wp2_with fail
    go_loopw [57, 18, 19] (fun i aa bb wr => i = .int .i64 0 ∧ aa = .int .i64 0 ∧ bb = .int .i64 0 ∧ Aside0 (Pd w wr [(g, .cells (pre ++ [Value.int .i64 0]).toArray 60 (0, 0)), (g14, .cells #[.pointer (some ⟨g, 0, none⟩)] 58 (0, 0)), (gr, .cells #[.int .i64 0, .int .i64 0, .int .i64 0, .int .i64 0, .int .i64 0, .int .i64 0, .slice none 0 0] 39 (0, 0)), (gn, .cells #[.int .i64 x.f0, .int .i64 x.f1, .int .i64 x.f2, .int .i64 x.f3, .int .i64 x.f4, .int .i64 x.f5, .slice A x.f6.length n, .int .i64 gl, .int .i64 it] 41 (0, 0)), (gf, OF)])) (fun _ _ _ _ => 0)
    case atStart => exact ⟨rfl, rfl, rfl, HP⟩
    case round =>
      obtain ⟨rfl, rfl, rfl, HP⟩ := hrel
      clear HF HPRE
      have h14 := blk_cell (Pd.hd (Pd.tl HP.out)) 0
      have hn := nuc_c9 (Pd.getb HP.out (by with_reducible repeat (first | exact List.mem_cons_self | apply List.mem_cons_of_mem)))
      go_wp2_with fail
      refine (nuc_ld HL.out (by with_reducible repeat (first | exact HP.out | apply Pd.drew)) x A n gl it).mono ?_
      rintro _ w1 ⟨rfl, hp⟩
      clear h14 hn
      obtain ⟨e0, h_e0⟩ : ∃ e, e = needI [x.f1, x.f2, x.f3, it] 0 := ⟨_, rfl⟩
      rw [← h_e0] at hp
      have H_e0 := Aside0.mk h_e0
      replace HP := Aside0.mk hp
      clear hp h_e0
      have hn := nuc_c9 (Pd.getb HP.out (by with_reducible repeat (first | exact List.mem_cons_self | apply List.mem_cons_of_mem)))
      go_wp2_with (first | ((with_reducible refine gate_dst (N := 20) rfl ?_); refine box_event ?hg (N := 20) ?hd (cs := #[.int .i64 0]) (t := 3) ?hr ?_; (case hd => rfl); (case hg => rfl); (case hr => first | (go_simp; done) | (go_simp; rfl)); intro g20 hg wk20 hbox hb; replace HP := Aside0.mk (Pd.box HP.out hg hbox hb); clear hg hbox hb; have hcz := blk_cell (Pd.hd HP.out) 0; have hfz := blk_frozen (Pd.hd HP.out) 0) | (have hgo := hcz; clear hgo; (with_reducible refine gate_dst (N := 70) rfl ?_); refine Pd.fold (Pd.s1 HP.out) ?_; intro W' h0; replace HP := Aside0.mk h0; clear h0 hcz hfz; replace HP := Aside0.mk (Pd.swp HP.out)) | ((with_reducible refine gate_dst (N := 70) rfl ?_); refine lit_event ?hg (N := 70) ?hd (cs := #[]) (t := 39) (n := 0) ?hr ?_; (case hd => rfl); (case hg => rfl); (case hr => first | (go_simp; done) | (go_simp; rfl)); intro qq hg wq hbox hb; have HRW := Aside0.mk (Row.empty (d := k39) (Pd.box HP.out hg hbox hb)); clear hg hbox hb) | ((with_reducible refine gate_dst (N := 72) rfl ?_); obtain ⟨cn72, hown72⟩ := HRW.out.owns; refine wpList_append_own_zero (by rfl) _ _ _ (by rfl) w.heap.size 39 ib 7 Tryz.underlying42 hi _ _ _ (by rfl) hown72 _ _ (by rfl) ?_; clear hown72) | ((with_reducible refine gate_dst (N := 74) rfl ?_); obtain ⟨cn74, hown74⟩ := HRW.out.owns; refine wpList_append_own_zero (by rfl) _ _ _ (by rfl) w.heap.size 39 ib 7 Tryz.underlying42 hi _ _ _ (by rfl) hown74 _ _ (by rfl) ?_; clear hown74))
      obtain ⟨ob, hown, hp⟩ := HRW.out.outR
      have HOW := Aside0.mk hown
      replace HP := Aside0.mk (Pd.thirdL (Pd.thirdL hp))
      clear hown hp HRW hn
      go_loopw [76] (fun i wr => (i = .int .i64 0 ∧ Aside0 (Pd w wr [(g, .cells (pre ++ [Value.int .i64 e0]).toArray 60 (0, 0)), (g20, .cells #[.int .i64 x.f1] 3 (0, 0)), (qq, ob), (g14, .cells #[.pointer (some ⟨g, 0, none⟩)] 58 (0, 0)), (gr, .cells #[.int .i64 0, .int .i64 0, .int .i64 0, .int .i64 0, .int .i64 0, .int .i64 0, .slice none 0 0] 39 (0, 0)), (gn, .cells #[.int .i64 x.f0, .int .i64 x.f1, .int .i64 x.f2, .int .i64 x.f3, .int .i64 x.f4, .int .i64 x.f5, .slice A x.f6.length n, .int .i64 gl, .int .i64 it] 41 (0, 0)), (gf, OF)]))) (fun i _ => 0 - (intOf i).toNat)
      case atStart => exact ⟨rfl, HP⟩
      case round =>
        rcases hrel with ⟨rfl, HP⟩
        · skip
          have hc0 := last_cell HL.out (Pd.hd HP.out)
          have h14 := blk_cell (Pd.getb HP.out (b := g14) (by with_reducible repeat (first | exact List.mem_cons_self | apply List.mem_cons_of_mem))) 0
          by_cases hee : e0 = 0
          rotate_left
          · have hd1 : (e0 == 0) = false := by simpa using hee
            have HRE : Aside0 (R = (0, 0, 0, 0, 0, 0, [], e0)) := ⟨by (rw [HR.out]; have hq := hee; have h_e0 := H_e0.out; subst h_e0; unfold lim00V; exact if_pos hq)⟩
            have HE := Aside0.mk hee
            have HPG := Aside0.mk (Pd.pmL HP.out (List.perm_middle (a := (gr, Obj.cells #[.int .i64 0, .int .i64 0, .int .i64 0, .int .i64 0, .int .i64 0, .int .i64 0, .slice none 0 0] 39 (0, 0))) (l₁ := [(g, Obj.cells (pre ++ [Value.int .i64 e0]).toArray 60 (0, 0)), (g20, Obj.cells #[.int .i64 x.f1] 3 (0, 0)), (qq, ob), (g14, Obj.cells #[.pointer (some ⟨g, 0, none⟩)] 58 (0, 0))]) (l₂ := [(gn, Obj.cells #[.int .i64 x.f0, .int .i64 x.f1, .int .i64 x.f2, .int .i64 x.f3, .int .i64 x.f4, .int .i64 x.f5, .slice A x.f6.length n, .int .i64 gl, .int .i64 it] 41 (0, 0)), (gf, OF)])))
            simp only [List.cons_append, List.nil_append] at HPG
            have n1 : gr ≠ g := Pd.ne_hd HPG.out (b := (g, .cells (pre ++ [Value.int .i64 e0]).toArray 60 (0, 0))) (by with_reducible repeat (first | exact List.mem_cons_self | apply List.mem_cons_of_mem))
            have n2 := n1.symm
            have n3 : gr ≠ g14 := Pd.ne_hd HPG.out (b := (g14, .cells #[.pointer (some ⟨g, 0, none⟩)] 58 (0, 0))) (by with_reducible repeat (first | exact List.mem_cons_self | apply List.mem_cons_of_mem))
            have n4 := n3.symm
            have hcz := cells7 (Pd.hd HPG.out)
            have hfz := froz7 (Pd.hd HPG.out)
            go_wp2_with fail
            go_region
            all_goals go_wp2
            all_goals refine bodyPost_ret (results_ct rfl _ _ gr 39 #[.int .i64 0, .int .i64 0, .int .i64 0, .int .i64 0, .int .i64 0, .int .i64 0, .slice none 0 0] (0, 0) _ rfl (blk_drew (put7 (Pd.hd HPG.out))) hu39 rfl (by kernel_rfl)) rfl ?_
            all_goals exact ⟨none, 0, by rw [HRE.out]; rfl, by rw [HRE.out]; exact Nat.le_refl _, by rw [HRE.out]; exact Kd.C_nil _ _, (Pd.drew (Pd.st7 HPG.out)).bel⟩
          · have HEE := Aside0.mk hee
            rw [hee] at HP hc0
            clear hee
            have hn := nuc_c9 (Pd.getb HP.out (b := gn) (by with_reducible repeat (first | exact List.mem_cons_self | apply List.mem_cons_of_mem)))
            go_wp2_with fail
            refine (half_ld HL.out HP.out it).mono ?_
            rintro _ w1 ⟨rfl, hp⟩
            clear h14 hn hc0
            obtain ⟨h, h_h⟩ : ∃ h, h = keepV 0 (toldOf (halfR it)) := ⟨_, rfl⟩
            rw [← h_h] at hp ⊢
            have H_h := Aside0.mk h_h
            replace HP := Aside0.mk hp
            clear hp h_h
            obtain ⟨m0, h_m0⟩ : ∃ m0, m0 = midL h.2 x.f1 x.f1 := ⟨_, rfl⟩
            have H_m0 := Aside0.mk h_m0
            clear h_m0
            go_wp2_with fail
            have hn := nuc_c9 (Pd.getb HP.out (b := gn) (by with_reducible repeat (first | exact List.mem_cons_self | apply List.mem_cons_of_mem)))
            go_region_held3 (fun w' => w'.cell? ⟨gn, 0, none⟩ = some (.int .i64 x.f0) ∧ w'.cell? ⟨gn, 1, none⟩ = some (.int .i64 x.f1) ∧ w'.cell? ⟨gn, 2, none⟩ = some (.int .i64 x.f2) ∧ w'.cell? ⟨gn, 3, none⟩ = some (.int .i64 x.f3) ∧ w'.cell? ⟨gn, 4, none⟩ = some (.int .i64 x.f4) ∧ w'.cell? ⟨gn, 5, none⟩ = some (.int .i64 x.f5) ∧ w'.cell? ⟨gn, 6, none⟩ = some (.slice A x.f6.length n)) (with_reducible exact nuc_c7 (Pd.getb (by with_reducible repeat (first | exact HP.out | apply Pd.alc | apply Pd.drew)) (b := gn) (by with_reducible repeat (first | exact List.mem_cons_self | apply List.mem_cons_of_mem)))) (first | (go_at_call 22; refine (mid_ld HL.out (by with_reducible repeat (first | exact HP.out | apply Pd.drew)) (by with_reducible repeat (first | exact List.mem_cons_self | apply List.mem_cons_of_mem)) (by with_reducible repeat (first | exact List.mem_cons_self | apply List.mem_cons_of_mem)) x A n).mono ?_; rintro _ w1 ⟨rfl, hp⟩; rw [← H_m0.out] at hp ⊢; replace HP := Aside0.mk hp; clear hp))
            go_wp2_with fail
            go_loopw [119, 25] (fun i v wr => ∃ (q4 cap4 : Nat) (o4 : Obj), i = .int .i64 0 ∧ v = .slice (some ⟨q4, 0, none⟩) 1 cap4 ∧ Aside0 (OwnR k67 67 w q4 cap4 o4 ([⟨m0.1, 0, x⟩] : List S67)) ∧ Aside0 (Pd w wr [(g, .cells (pre ++ [Value.int .i64 m0.2]).toArray 60 (0, 0)), (q4, o4), (g20, .cells #[.int .i64 x.f1] 3 (0, 0)), (qq, ob), (g14, .cells #[.pointer (some ⟨g, 0, none⟩)] 58 (0, 0)), (gr, .cells #[.int .i64 0, .int .i64 0, .int .i64 0, .int .i64 0, .int .i64 0, .int .i64 0, .slice none 0 0] 39 (0, 0)), (gn, .cells #[.int .i64 x.f0, .int .i64 x.f1, .int .i64 x.f2, .int .i64 x.f3, .int .i64 x.f4, .int .i64 x.f5, .slice A x.f6.length n, .int .i64 gl, .int .i64 it] 41 (0, 0)), (gf, OF)])) (fun i _ _ => 1 - (intOf i).toNat)
            case atStart => exact ⟨_, _, _, rfl, rfl, ⟨OwnR.lit1 (k67_mk w (⟨m0.1, 0, x⟩ : S67) HLN.out HCN.out)⟩, ⟨Pd.swp (Pd.lit (by with_reducible repeat (first | exact HP.out | apply Pd.drew)) (by with_reducible first | exact Lit.refl _ _ | exact Lit.drew _ _))⟩⟩
            case round =>
              obtain ⟨q4, cap4, o4, rfl, rfl, HOK, HP⟩ := hrel
              go_wp2_with fail
              go_loopw [152, 25] (fun i v wr => ∃ (q4 cap4 : Nat) (o4 : Obj), i = .int .i64 0 ∧ v = .slice (some ⟨q4, 0, none⟩) 1 cap4 ∧ Aside0 (OwnR k67 67 w q4 cap4 o4 ([⟨m0.1, 0, x⟩] : List S67)) ∧ Aside0 (Pd w wr [(g, .cells (pre ++ [Value.int .i64 m0.2]).toArray 60 (0, 0)), (q4, o4), (g20, .cells #[.int .i64 x.f1] 3 (0, 0)), (qq, ob), (g14, .cells #[.pointer (some ⟨g, 0, none⟩)] 58 (0, 0)), (gr, .cells #[.int .i64 0, .int .i64 0, .int .i64 0, .int .i64 0, .int .i64 0, .int .i64 0, .slice none 0 0] 39 (0, 0)), (gn, .cells #[.int .i64 x.f0, .int .i64 x.f1, .int .i64 x.f2, .int .i64 x.f3, .int .i64 x.f4, .int .i64 x.f5, .slice A x.f6.length n, .int .i64 gl, .int .i64 it] 41 (0, 0)), (gf, OF)])) (fun i _ _ => 1 - (intOf i).toNat)
              case atStart => exact ⟨_, _, _, rfl, rfl, HOK, HP⟩
              case round =>
                obtain ⟨q4, cap4, o4, rfl, rfl, HOK, HP⟩ := hrel
                have hc0 := last_cell HL.out (Pd.hd HP.out)
                have h14 := blk_cell (Pd.getb HP.out (b := g14) (by with_reducible repeat (first | exact List.mem_cons_self | apply List.mem_cons_of_mem))) 0
                have HRV : Aside0 (R = setV m0.2 x.f1 ([⟨m0.1, 0, x⟩] : List S67)) := ⟨(by (rw [HR.out]; have hq := HEE.out; have h_e0 := H_e0.out; have h_h := H_h.out; have h_m0 := H_m0.out; subst h_e0 h_h h_m0; unfold lim00V; dsimp only; rw [if_neg (fun h => h hq)]; try rfl))⟩
                by_cases hee : m0.2 = 0
                rotate_left
                · have hd1 : (m0.2 == 0) = false := by simpa using hee
                  have HRE : Aside0 (R = (0, 0, 0, 0, 0, 0, [], m0.2)) := ⟨by rw [HRV.out]; unfold setV; exact if_neg hee⟩
                  have HE := Aside0.mk hee
                  have HPG := Aside0.mk (Pd.pmL HP.out (List.perm_middle (a := (gr, Obj.cells #[.int .i64 0, .int .i64 0, .int .i64 0, .int .i64 0, .int .i64 0, .int .i64 0, .slice none 0 0] 39 (0, 0))) (l₁ := [(g, Obj.cells (pre ++ [Value.int .i64 m0.2]).toArray 60 (0, 0)), (q4, o4), (g20, Obj.cells #[.int .i64 x.f1] 3 (0, 0)), (qq, ob), (g14, Obj.cells #[.pointer (some ⟨g, 0, none⟩)] 58 (0, 0))]) (l₂ := [(gn, Obj.cells #[.int .i64 x.f0, .int .i64 x.f1, .int .i64 x.f2, .int .i64 x.f3, .int .i64 x.f4, .int .i64 x.f5, .slice A x.f6.length n, .int .i64 gl, .int .i64 it] 41 (0, 0)), (gf, OF)])))
                  simp only [List.cons_append, List.nil_append] at HPG
                  have n1 : gr ≠ g := Pd.ne_hd HPG.out (b := (g, .cells (pre ++ [Value.int .i64 m0.2]).toArray 60 (0, 0))) (by with_reducible repeat (first | exact List.mem_cons_self | apply List.mem_cons_of_mem))
                  have n2 := n1.symm
                  have n3 : gr ≠ g14 := Pd.ne_hd HPG.out (b := (g14, .cells #[.pointer (some ⟨g, 0, none⟩)] 58 (0, 0))) (by with_reducible repeat (first | exact List.mem_cons_self | apply List.mem_cons_of_mem))
                  have n4 := n3.symm
                  have hcz := cells7 (Pd.hd HPG.out)
                  have hfz := froz7 (Pd.hd HPG.out)
                  go_wp2_with fail
                  go_region
                  all_goals go_wp2
                  all_goals refine bodyPost_ret (results_ct rfl _ _ gr 39 #[.int .i64 0, .int .i64 0, .int .i64 0, .int .i64 0, .int .i64 0, .int .i64 0, .slice none 0 0] (0, 0) _ rfl (blk_drew (put7 (Pd.hd HPG.out))) hu39 rfl (by kernel_rfl)) rfl ?_
                  all_goals exact ⟨none, 0, by rw [HRE.out]; rfl, by rw [HRE.out]; exact Nat.le_refl _, by rw [HRE.out]; exact Kd.C_nil _ _, (Pd.drew (Pd.st7 HPG.out)).bel⟩
                · have HE0 := Aside0.mk hee
                  rw [hee] at HP hc0
                  clear hee
                  have h20 := blk_cell (Pd.getb HP.out (b := g20) (by with_reducible repeat (first | exact List.mem_cons_self | apply List.mem_cons_of_mem))) 0
                  have HRS : Aside0 (R = setR x.f1 ([⟨m0.1, 0, x⟩] : List S67)) := ⟨by rw [HRV.out]; unfold setV; exact if_pos HE0.out⟩
                  obtain ⟨css, hS⟩ := RowAt.src HOK.out.at ([(g, .cells (pre ++ [Value.int .i64 0]).toArray 60 (0, 0)), (g20, .cells #[.int .i64 x.f1] 3 (0, 0)), (qq, ob), (g14, .cells #[.pointer (some ⟨g, 0, none⟩)] 58 (0, 0)), (gr, .cells #[.int .i64 0, .int .i64 0, .int .i64 0, .int .i64 0, .int .i64 0, .int .i64 0, .slice none 0 0] 39 (0, 0)), (gn, .cells #[.int .i64 x.f0, .int .i64 x.f1, .int .i64 x.f2, .int .i64 x.f3, .int .i64 x.f4, .int .i64 x.f5, .slice A x.f6.length n, .int .i64 gl, .int .i64 it] 41 (0, 0)), (gf, OF)] : List (Nat × Obj))
                  have HS := Aside0.mk hS
                  clear hS
                  go_wp2_with fail
                  refine (bset x.f1 ([⟨m0.1, 0, x⟩] : List S67) (by simp) (Pd.swp HP.out) HS.out).mono ?_
                  rintro _ w7 ⟨A1, n1, rfl, hl, hf, hp⟩
                  rw [← HRS.out] at hl hf ⊢
                  replace HP := Aside0.mk hp
                  have HLL := Aside0.mk hl
                  have HFF := Aside0.mk hf
                  clear hp hl hf hc0 h14 h20
                  try dsimp only
                  have HPG := Aside0.mk (Pd.pmL HP.out (List.perm_middle (a := (gr, Obj.cells #[.int .i64 0, .int .i64 0, .int .i64 0, .int .i64 0, .int .i64 0, .int .i64 0, .slice none 0 0] 39 (0, 0))) (l₁ := [(q4, o4), (g, Obj.cells (pre ++ [Value.int .i64 0]).toArray 60 (0, 0)), (g20, Obj.cells #[.int .i64 x.f1] 3 (0, 0)), (qq, ob), (g14, Obj.cells #[.pointer (some ⟨g, 0, none⟩)] 58 (0, 0))]) (l₂ := [(gn, Obj.cells #[.int .i64 x.f0, .int .i64 x.f1, .int .i64 x.f2, .int .i64 x.f3, .int .i64 x.f4, .int .i64 x.f5, .slice A x.f6.length n, .int .i64 gl, .int .i64 it] 41 (0, 0)), (gf, OF)])))
                  simp only [List.cons_append, List.nil_append] at HPG
                  have hcz := cells7 (Pd.hd HPG.out)
                  have hfz := froz7 (Pd.hd HPG.out)
                  go_wp2
                  refine bodyPost_ret (results_ct rfl _ _ gr 39 #[.int .i64 R.1, .int .i64 R.2.1, .int .i64 R.2.2.1, .int .i64 R.2.2.2.1, .int .i64 R.2.2.2.2.1, .int .i64 R.2.2.2.2.2.1, .slice A1 R.2.2.2.2.2.2.1.length n1] (0, 0) _ rfl (put7 (Pd.hd HPG.out)) hu39 rfl (by kernel_rfl)) rfl ?_
                  exact ⟨A1, n1, rfl, HLL.out, HFF.out _ (fun k hk _ => far7 _ (hk (gr, _) (by with_reducible repeat (first | exact List.mem_cons_self | apply List.mem_cons_of_mem)))), (Pd.st7 HPG.out).bel⟩
end Go.Proofs.YtbhljokhcmfgjaaGreat.P
