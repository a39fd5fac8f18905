import Derived.Test.YtbhljokhcmfgjaaGreatTLim9
/- limit.Limits with 0 above and 1 below: the walk. Printed by a program of this work (mklim6.py). -/
set_option linter.unusedVariables false
set_option linter.unusedSimpArgs false
namespace Go.Proofs.YtbhljokhcmfgjaaGreat.P
open Go.RowKit Go.Proofs.YtbhljokhcmfgjaaGreatW.PrintWords Go.Proofs.YtbhljokhcmfgjaaGreatW.PrintLast Go.Proofs.YtbhljokhcmfgjaaGreatW.PrintMore

set_option maxRecDepth 100000 in
set_option maxHeartbeats 8000000 in
theorem limz01_calls (F : S36) (c z : Int) (x : S39) (gl it : Int) (d : S39) (A : Option Addr) (n : Nat) (Au : Option Addr) (nu : Nat) (Ad : Option Addr) (nd : Nat) (cs : List Value) (w : World) (hF : FontIn w F cs) (hln : x.f6.length ≤ n) (hCn : Kd.C k67 w A x.f6.length x.f6) (hCd : Kd.C k39 w Ad 1 [d]) : Calls Tryz.prog 7 #[.agg cs.toArray, .int .i64 c, .int .i64 z, .agg #[.int .i64 x.f0, .int .i64 x.f1, .int .i64 x.f2, .int .i64 x.f3, .int .i64 x.f4, .int .i64 x.f5, .slice A x.f6.length n, .int .i64 gl, .int .i64 it], .slice Au 0 nu, .slice Ad 1 nd] w fun r w' => ∃ A1 n1, r = .returned (.tuple #[.agg #[.int .i64 (lim01V F c z x it d).1, .int .i64 (lim01V F c z x it d).2.1, .int .i64 (lim01V F c z x it d).2.2.1, .int .i64 (lim01V F c z x it d).2.2.2.1, .int .i64 (lim01V F c z x it d).2.2.2.2.1, .int .i64 (lim01V F c z x it d).2.2.2.2.2.1, .slice A1 (lim01V F c z x it d).2.2.2.2.2.2.1.length n1], .int .i64 (lim01V F c z x it d).2.2.2.2.2.2.2]) ∧ (lim01V F c z x it d).2.2.2.2.2.2.1.length ≤ n1 ∧ Kd.C k67 w' A1 (lim01V F c z x it d).2.2.2.2.2.2.1.length (lim01V F c z x it d).2.2.2.2.2.2.1 ∧ Below w.heap.size w w' := by
  have hu39 := Tryz.underlying39
  have hu49 := Tryz.underlying67
  have hu36 := Tryz.underlying36
  have hu73 := Tryz.underlying41
  have hu118 := Tryz.underlying60
  have hmf : ∀ (fn : Fn) (first cap : Array Value) (w : World), (Instr.makeFunc fn first cap).run Tryz.prog w = .ok (.func fn first cap) w := fun _ _ _ _ => rfl
  obtain ⟨ib, hi, hz, hs7, hby⟩ := info_parts (show (Tryz.prog.info? 39).map (fun i => (i.zero, i.size, i.bytes)) = some (some (.agg #[.int .i64 0, .int .i64 0, .int .i64 0, .int .i64 0, .int .i64 0, .int .i64 0, .slice none 0 0]), 7, 72) by kernel_rfl)
  obtain ⟨ik, hki, hkz, hks, hkb⟩ := info_parts (show (Tryz.prog.info? 67).map (fun i => (i.zero, i.size, i.bytes)) = some (some (.agg #[.int .i64 0, .int .i64 0, .int .i64 0, .int .i64 0, .int .i64 0, .int .i64 0, .int .i64 0, .int .i64 0, .slice none 0 0]), 9, 88) by kernel_rfl)
  obtain ⟨R, hR⟩ : ∃ R, R = lim01V F c z x it d := ⟨_, rfl⟩
  rw [← hR]
  have HR := Aside0.mk hR
  clear hR
  have HF := Aside0.mk hF
  have HLN := Aside0.mk hln
  have HCN := Aside0.mk hCn
  clear hln hCn
  obtain ⟨ad, A6d, n6d, ed, hKd, hcd, hld, hkd⟩ := one_box hCd
  subst ed
  have HKd := Aside0.mk hKd; clear hKd
  have Hcd := Aside0.mk hcd; clear hcd
  have Hld := Aside0.mk hld; clear hld
  have HKCd := Aside0.mk hkd; clear hkd
  obtain ⟨A6, c6, A7, c7, A8, c8, A9, c9, A10, c10, A11, c11, A12, c12, A13, c13, A15, c15, A16, c16, hcs, hcr⟩ := id hF
  subst hcs
  clear hcr hF
  obtain ⟨pre, hpre⟩ : ∃ r : List Value, r = [.int .i64 F.f0.f0, .int .i64 F.f0.f1, .int .i64 F.f0.f2, .int .i64 F.f0.f3, .int .i64 F.f0.f4, .bool F.f0.f5, .slice A6 F.f1.length c6, .slice A7 F.f2.length c7, .slice A8 F.f3.length c8, .slice A9 F.f4.f0.length c9, .slice A10 F.f4.f1.length c10, .slice A11 F.f4.f2.length c11, .slice A12 F.f4.f3.length c12, .slice A13 F.f4.f4.length c13, .int .i64 F.f4.f5.f0, .slice A15 F.f4.f5.f1.length c15, .slice A16 F.f4.f5.f2.length c16, .int .i64 c, .int .i64 z] := ⟨_, rfl⟩
  have HPRE := Aside0.mk hpre
  have HL := Aside0.mk (show pre.length = 19 by rw [hpre]; rfl)
  clear hpre
  have HP := Aside0.mk (Pd.start w)
  go_enter Tryz.func7, Tryz.ntmps7
  go_wp2_with (first | ((with_reducible refine gate_dst (N := 6) rfl ?_); refine box_event ?hg (N := 6) ?hd (cs := #[.int .i64 F.f0.f0, .int .i64 F.f0.f1, .int .i64 F.f0.f2, .int .i64 F.f0.f3, .int .i64 F.f0.f4, .bool F.f0.f5, .slice A6 F.f1.length c6, .slice A7 F.f2.length c7, .slice A8 F.f3.length c8, .slice A9 F.f4.f0.length c9, .slice A10 F.f4.f1.length c10, .slice A11 F.f4.f2.length c11, .slice A12 F.f4.f3.length c12, .slice A13 F.f4.f4.length c13, .int .i64 F.f4.f5.f0, .slice A15 F.f4.f5.f1.length c15, .slice A16 F.f4.f5.f2.length c16]) (t := 36) ?hr ?_; (case hd => rfl); (case hg => rfl); (case hr => first | (go_simp; done) | (go_simp; rfl)); intro gf hg wk hbox hb; replace HP := Aside0.mk (Pd.box (by with_reducible repeat (first | exact HP.out | apply Pd.drew)) hg hbox hb); clear hg hbox hb) | ((with_reducible refine gate_dst (N := 9) rfl ?_); refine box_event ?hg (N := 9) ?hd (cs := #[.int .i64 x.f0, .int .i64 x.f1, .int .i64 x.f2, .int .i64 x.f3, .int .i64 x.f4, .int .i64 x.f5, .slice A x.f6.length n, .int .i64 gl, .int .i64 it]) (t := 41) ?hr ?_; (case hd => rfl); (case hg => rfl); (case hr => first | (go_simp; done) | (go_simp; rfl)); intro gn hg wk hbox hb; replace HP := Aside0.mk (Pd.box (by with_reducible repeat (first | exact HP.out | apply Pd.drew)) hg hbox hb); clear hg hbox hb) | ((with_reducible refine gate_dst (N := 12) rfl ?_); refine box_event ?hg (N := 12) ?hd (cs := #[.int .i64 0, .int .i64 0, .int .i64 0, .int .i64 0, .int .i64 0, .int .i64 0, .slice none 0 0]) (t := 39) ?hr ?_; (case hd => rfl); (case hg => rfl); (case hr => first | (go_simp; done) | (go_simp; rfl)); intro gr hg wk hbox hb; replace HP := Aside0.mk (Pd.box (by with_reducible repeat (first | exact HP.out | apply Pd.drew)) hg hbox hb); clear hg hbox hb) | ((with_reducible refine gate_dst (N := 39) rfl ?_); refine wpList_load_row rfl 36 (.tmp 6) rfl gf (by rfl) 36 #[.int .i64 F.f0.f0, .int .i64 F.f0.f1, .int .i64 F.f0.f2, .int .i64 F.f0.f3, .int .i64 F.f0.f4, .bool F.f0.f5, .slice A6 F.f1.length c6, .slice A7 F.f2.length c7, .slice A8 F.f3.length c8, .slice A9 F.f4.f0.length c9, .slice A10 F.f4.f1.length c10, .slice A11 F.f4.f2.length c11, .slice A12 F.f4.f3.length c12, .slice A13 F.f4.f4.length c13, .int .i64 F.f4.f5.f0, .slice A15 F.f4.f5.f1.length c15, .slice A16 F.f4.f5.f2.length c16] (0, 0) _ (Pd.hd (Pd.tl (Pd.tl (by with_reducible repeat (first | exact HP.out | apply Pd.drew))))) hu36 rfl info_font ?_) | ((with_reducible refine gate_dst (N := 43) rfl ?_); refine box_event ?hg (N := 43) ?hd (cs := #[.int .i64 F.f0.f0, .int .i64 F.f0.f1, .int .i64 F.f0.f2, .int .i64 F.f0.f3, .int .i64 F.f0.f4, .bool F.f0.f5, .slice A6 F.f1.length c6, .slice A7 F.f2.length c7, .slice A8 F.f3.length c8, .slice A9 F.f4.f0.length c9, .slice A10 F.f4.f1.length c10, .slice A11 F.f4.f2.length c11, .slice A12 F.f4.f3.length c12, .slice A13 F.f4.f4.length c13, .int .i64 F.f4.f5.f0, .slice A15 F.f4.f5.f1.length c15, .slice A16 F.f4.f5.f2.length c16, .int .i64 c, .int .i64 z, .int .i64 0]) (t := 60) ?hr ?_; (case hd => rfl); (case hg => rfl); (case hr => first | (go_simp; done) | (go_simp; rfl)); intro g hg wkg hbox hb; replace HP : Aside0 (Pd w wkg [(g, .cells (pre ++ [Value.int .i64 0]).toArray 60 (0, 0)), (gr, .cells #[.int .i64 0, .int .i64 0, .int .i64 0, .int .i64 0, .int .i64 0, .int .i64 0, .slice none 0 0] 39 (0, 0)), (gn, .cells #[.int .i64 x.f0, .int .i64 x.f1, .int .i64 x.f2, .int .i64 x.f3, .int .i64 x.f4, .int .i64 x.f5, .slice A x.f6.length n, .int .i64 gl, .int .i64 it] 41 (0, 0)), (gf, .cells #[.int .i64 F.f0.f0, .int .i64 F.f0.f1, .int .i64 F.f0.f2, .int .i64 F.f0.f3, .int .i64 F.f0.f4, .bool F.f0.f5, .slice A6 F.f1.length c6, .slice A7 F.f2.length c7, .slice A8 F.f3.length c8, .slice A9 F.f4.f0.length c9, .slice A10 F.f4.f1.length c10, .slice A11 F.f4.f2.length c11, .slice A12 F.f4.f3.length c12, .slice A13 F.f4.f4.length c13, .int .i64 F.f4.f5.f0, .slice A15 F.f4.f5.f1.length c15, .slice A16 F.f4.f5.f2.length c16] 36 (0, 0))]) := ⟨by rw [HPRE.out]; exact Pd.box HP.out hg hbox hb⟩; clear hg hbox hb) | ((with_reducible refine gate_dst (N := 14) rfl ?_); refine box_event ?hg (N := 14) ?hd (cs := #[.pointer none]) (t := 58) ?hr ?_; (case hd => rfl); (case hg => rfl); (case hr => first | (go_simp; done) | (go_simp; rfl)); intro g14 hg wk14 hbox hb; replace HP := Aside0.mk (Pd.box HP.out hg hbox hb); clear hg hbox hb; have hcz := blk_cell (Pd.hd HP.out) 0; have hfz := blk_frozen (Pd.hd HP.out) 0) | (have hgo := hcz; clear hgo; (with_reducible refine gate_dst (N := 44) rfl ?_); refine Pd.fold (Pd.s1 HP.out) ?_; intro W' h0; replace HP := Aside0.mk h0; clear h0 hcz hfz; replace HP := Aside0.mk (Pd.swp HP.out); have h14 := blk_cell (Pd.hd (Pd.tl HP.out)) 0))
  obtain ⟨k3, h_k3⟩ : ∃ k3, k3 = keepV 0 (konstV F 20 c z) := ⟨_, rfl⟩
  have H_k3 := Aside0.mk h_k3
  clear h_k3
  obtain ⟨k4, h_k4⟩ : ∃ k4, k4 = keepV k3.2 (konstV F 21 c z) := ⟨_, rfl⟩
  have H_k4 := Aside0.mk h_k4
  clear h_k4
  obtain ⟨OF, hOF⟩ : ∃ ob : Obj, ob = .cells #[.int .i64 F.f0.f0, .int .i64 F.f0.f1, .int .i64 F.f0.f2, .int .i64 F.f0.f3, .int .i64 F.f0.f4, .bool F.f0.f5, .slice A6 F.f1.length c6, .slice A7 F.f2.length c7, .slice A8 F.f3.length c8, .slice A9 F.f4.f0.length c9, .slice A10 F.f4.f1.length c10, .slice A11 F.f4.f2.length c11, .slice A12 F.f4.f3.length c12, .slice A13 F.f4.f4.length c13, .int .i64 F.f4.f5.f0, .slice A15 F.f4.f5.f1.length c15, .slice A16 F.f4.f5.f2.length c16] 36 (0, 0) := ⟨_, rfl⟩
  rw [← hOF] at HP
  clear hOF h14
  generalize (Value.agg #[.int .i64 F.f0.f0, .int .i64 F.f0.f1, .int .i64 F.f0.f2, .int .i64 F.f0.f3, .int .i64 F.f0.f4, .bool F.f0.f5, .slice A6 F.f1.length c6, .slice A7 F.f2.length c7, .slice A8 F.f3.length c8, .slice A9 F.f4.f0.length c9, .slice A10 F.f4.f1.length c10, .slice A11 F.f4.f2.length c11, .slice A12 F.f4.f3.length c12, .slice A13 F.f4.f4.length c13, .int .i64 F.f4.f5.f0, .slice A15 F.f4.f5.f1.length c15, .slice A16 F.f4.f5.f2.length c16]) = vf0
  generalize (Value.agg #[.int .i64 F.f0.f0, .int .i64 F.f0.f1, .int .i64 F.f0.f2, .int .i64 F.f0.f3, .int .i64 F.f0.f4, .bool F.f0.f5, .slice A6 F.f1.length c6, .slice A7 F.f2.length c7, .slice A8 F.f3.length c8, .slice A9 F.f4.f0.length c9, .slice A10 F.f4.f1.length c10, .slice A11 F.f4.f2.length c11, .slice A12 F.f4.f3.length c12, .slice A13 F.f4.f4.length c13, .int .i64 F.f4.f5.f0, .slice A15 F.f4.f5.f1.length c15, .slice A16 F.f4.f5.f2.length c16, .int .i64 c, .int .i64 z, .int .i64 0]) = vf1
  go_loopw [48, 16, 17] (fun i aa bb wr => i = .int .i64 0 ∧ aa = .int .i64 0 ∧ bb = .int .i64 0 ∧ Aside0 (Pd w wr [(g, .cells (pre ++ [Value.int .i64 0]).toArray 60 (0, 0)), (g14, .cells #[.pointer (some ⟨g, 0, none⟩)] 58 (0, 0)), (gr, .cells #[.int .i64 0, .int .i64 0, .int .i64 0, .int .i64 0, .int .i64 0, .int .i64 0, .slice none 0 0] 39 (0, 0)), (gn, .cells #[.int .i64 x.f0, .int .i64 x.f1, .int .i64 x.f2, .int .i64 x.f3, .int .i64 x.f4, .int .i64 x.f5, .slice A x.f6.length n, .int .i64 gl, .int .i64 it] 41 (0, 0)), (gf, OF)])) (fun _ _ _ _ => 0)
  case atStart => exact ⟨rfl, rfl, rfl, HP⟩
  case round =>
    obtain ⟨rfl, rfl, rfl, HP⟩ := hrel
    go_wp2_with fail
    go_loopw [57, 18, 19] (fun i aa bb wr => (i = .int .i64 0 ∧ aa = .int .i64 0 ∧ bb = .int .i64 0 ∧ Aside0 (Pd w wr [(g, .cells (pre ++ [Value.int .i64 0]).toArray 60 (0, 0)), (g14, .cells #[.pointer (some ⟨g, 0, none⟩)] 58 (0, 0)), (gr, .cells #[.int .i64 0, .int .i64 0, .int .i64 0, .int .i64 0, .int .i64 0, .int .i64 0, .slice none 0 0] 39 (0, 0)), (gn, .cells #[.int .i64 x.f0, .int .i64 x.f1, .int .i64 x.f2, .int .i64 x.f3, .int .i64 x.f4, .int .i64 x.f5, .slice A x.f6.length n, .int .i64 gl, .int .i64 it] 41 (0, 0)), (gf, OF)])) ∨ (i = .int .i64 1 ∧ aa = .int .i64 k3.1 ∧ bb = .int .i64 k4.1 ∧ Aside0 (Pd w wr [(g, .cells (pre ++ [Value.int .i64 k4.2]).toArray 60 (0, 0)), (g14, .cells #[.pointer (some ⟨g, 0, none⟩)] 58 (0, 0)), (gr, .cells #[.int .i64 0, .int .i64 0, .int .i64 0, .int .i64 0, .int .i64 0, .int .i64 0, .slice none 0 0] 39 (0, 0)), (gn, .cells #[.int .i64 x.f0, .int .i64 x.f1, .int .i64 x.f2, .int .i64 x.f3, .int .i64 x.f4, .int .i64 x.f5, .slice A x.f6.length n, .int .i64 gl, .int .i64 it] 41 (0, 0)), (gf, OF)]))) (fun i _ _ _ => 1 - (intOf i).toNat)
    case atStart => exact .inl ⟨rfl, rfl, rfl, HP⟩
    case round =>
      rcases hrel with ⟨rfl, rfl, rfl, HP⟩ | ⟨rfl, rfl, rfl, HP⟩
      · go_wp2_with fail
        refine (konst_ld (by with_reducible repeat (first | exact HP.out | apply Pd.drew)) HF.out (HPRE.out.trans (by rfl)) 20).mono ?_
        rintro _ w1 ⟨rfl, hp⟩
        rw [← H_k3.out] at hp ⊢
        replace HP := Aside0.mk hp
        clear hp
        go_wp2_with fail
        refine (konst_ld (by with_reducible repeat (first | exact HP.out | apply Pd.drew)) HF.out (HPRE.out.trans (by rfl)) 21).mono ?_
        rintro _ w1 ⟨rfl, hp⟩
        rw [← H_k4.out] at hp ⊢
        replace HP := Aside0.mk hp
        clear hp
        go_wp2
        go_roundw
        case rel => exact .inr ⟨by first | rfl | go_num, rfl, rfl, ⟨(by with_reducible repeat (first | exact HP.out | apply Pd.drew))⟩⟩
        case measure => simp [intOf]
      · skip
        clear HF HPRE
        have h14 := blk_cell (Pd.hd (Pd.tl HP.out)) 0
        have hn := nuc_c9 (Pd.getb HP.out (by with_reducible repeat (first | exact List.mem_cons_self | apply List.mem_cons_of_mem)))
        go_wp2_with fail
        refine (nuc_ld HL.out (by with_reducible repeat (first | exact HP.out | apply Pd.drew)) x A n gl it).mono ?_
        rintro _ w1 ⟨rfl, hp⟩
        clear h14 hn
        obtain ⟨e0, h_e0⟩ : ∃ e, e = needI [x.f1, x.f2, x.f3, it] k4.2 := ⟨_, rfl⟩
        rw [← h_e0] at hp
        have H_e0 := Aside0.mk h_e0
        replace HP := Aside0.mk hp
        clear hp h_e0
        have hn := nuc_c9 (Pd.getb HP.out (by with_reducible repeat (first | exact List.mem_cons_self | apply List.mem_cons_of_mem)))
        go_wp2_with (first | ((with_reducible refine gate_dst (N := 20) rfl ?_); refine box_event ?hg (N := 20) ?hd (cs := #[.int .i64 0]) (t := 3) ?hr ?_; (case hd => rfl); (case hg => rfl); (case hr => first | (go_simp; done) | (go_simp; rfl)); intro g20 hg wk20 hbox hb; replace HP := Aside0.mk (Pd.box HP.out hg hbox hb); clear hg hbox hb; have hcz := blk_cell (Pd.hd HP.out) 0; have hfz := blk_frozen (Pd.hd HP.out) 0) | (have hgo := hcz; clear hgo; (with_reducible refine gate_dst (N := 70) rfl ?_); refine Pd.fold (Pd.s1 HP.out) ?_; intro W' h0; replace HP := Aside0.mk h0; clear h0 hcz hfz; replace HP := Aside0.mk (Pd.swp HP.out)) | ((with_reducible refine gate_dst (N := 70) rfl ?_); refine lit_event ?hg (N := 70) ?hd (cs := #[]) (t := 39) (n := 0) ?hr ?_; (case hd => rfl); (case hg => rfl); (case hr => first | (go_simp; done) | (go_simp; rfl)); intro gq hg wq hbox hb; have HRW := Aside0.mk (Row.empty (d := k39) (Pd.box HP.out hg hbox hb)); clear hg hbox hb) | ((with_reducible refine gate_dst (N := 72) rfl ?_); obtain ⟨cn72, hown72⟩ := HRW.out.owns; refine wpList_append_own_zero (by rfl) _ _ _ (by rfl) w.heap.size 39 ib 7 Tryz.underlying42 hi _ _ _ (by rfl) hown72 _ _ (by rfl) ?_; clear hown72) | ((with_reducible refine gate_dst (N := 74) rfl ?_); refine Row.appendAL (d := k39) (e := 39) (ts := 42) Tryz.underlying42 hi hz hs7 hby rfl (by decide) HRW.out (by rfl) _ _ (by rfl) (by rfl) (y := d) (c := [.int .i64 d.f0, .int .i64 d.f1, .int .i64 d.f2, .int .i64 d.f3, .int .i64 d.f4, .int .i64 d.f5, .slice A6d d.f6.length n6d]) (by rfl) (fun j v hj => Pd.oldcell HRW.out.pd (Hcd.out j v hj)) HKd.out (by simp [Value.oneCell']) (by unfold maxLen; simp) (by simp) ?_; intro qd capd w2d hR; replace HRW : Aside0 (Row k39 39 w w2d _ (.slice (some ⟨qd, 0, none⟩) 1 capd) [d]) := ⟨hR⟩; clear hR))
        obtain ⟨ob, hown, hp⟩ := HRW.out.outR
        have HOW := Aside0.mk hown
        replace HP := Aside0.mk (Pd.thirdL (Pd.thirdL hp))
        clear hown hp HRW hn
        obtain ⟨e1, h_e1⟩ : ∃ e1, e1 = needI [d.f1, d.f2, d.f3] e0 := ⟨_, rfl⟩
        have H_e1 := Aside0.mk h_e1
        clear h_e1
        obtain ⟨wd1, h_wd1⟩ : ∃ wd1, wd1 = max x.f1 d.f1 := ⟨_, rfl⟩
        have H_wd1 := Aside0.mk h_wd1
        clear h_wd1
        go_loopw [76] (fun i wr => (i = .int .i64 0 ∧ Aside0 (Pd w wr [(g, .cells (pre ++ [Value.int .i64 e0]).toArray 60 (0, 0)), (g20, .cells #[.int .i64 x.f1] 3 (0, 0)), (qd, ob), (g14, .cells #[.pointer (some ⟨g, 0, none⟩)] 58 (0, 0)), (gr, .cells #[.int .i64 0, .int .i64 0, .int .i64 0, .int .i64 0, .int .i64 0, .int .i64 0, .slice none 0 0] 39 (0, 0)), (gn, .cells #[.int .i64 x.f0, .int .i64 x.f1, .int .i64 x.f2, .int .i64 x.f3, .int .i64 x.f4, .int .i64 x.f5, .slice A x.f6.length n, .int .i64 gl, .int .i64 it] 41 (0, 0)), (gf, OF)])) ∨ (i = .int .i64 1 ∧ Aside0 (Pd w wr [(g, .cells (pre ++ [Value.int .i64 e1]).toArray 60 (0, 0)), (g20, .cells #[.int .i64 wd1] 3 (0, 0)), (qd, ob), (g14, .cells #[.pointer (some ⟨g, 0, none⟩)] 58 (0, 0)), (gr, .cells #[.int .i64 0, .int .i64 0, .int .i64 0, .int .i64 0, .int .i64 0, .int .i64 0, .slice none 0 0] 39 (0, 0)), (gn, .cells #[.int .i64 x.f0, .int .i64 x.f1, .int .i64 x.f2, .int .i64 x.f3, .int .i64 x.f4, .int .i64 x.f5, .slice A x.f6.length n, .int .i64 gl, .int .i64 it] 41 (0, 0)), (gf, OF)]))) (fun i _ => 1 - (intOf i).toNat)
        case atStart => exact .inl ⟨rfl, HP⟩
        case round =>
          rcases hrel with ⟨rfl, HP⟩ | ⟨rfl, HP⟩
          · have hCr := HOW.out.C k39_heap (Pd.swp (Pd.tl HP.out)) (by simp)
            obtain ⟨aq, A6r, c6r, hAq, r0, r1, r2, r3, r4, r5, r6, -, -⟩ := at_T39 hCr 0 (by decide) (by simp)
            cases hAq
            clear hCr
            change wr.cell? ((⟨qd, 0, none⟩ : Addr).add (0 * 7)) = some (.int .i64 d.f0) at r0
            change wr.cell? ⟨((⟨qd, 0, none⟩ : Addr).add (0 * 7)).block, ((⟨qd, 0, none⟩ : Addr).add (0 * 7)).off + 1, none⟩ = some (.int .i64 d.f1) at r1
            change wr.cell? ⟨((⟨qd, 0, none⟩ : Addr).add (0 * 7)).block, ((⟨qd, 0, none⟩ : Addr).add (0 * 7)).off + 2, none⟩ = some (.int .i64 d.f2) at r2
            change wr.cell? ⟨((⟨qd, 0, none⟩ : Addr).add (0 * 7)).block, ((⟨qd, 0, none⟩ : Addr).add (0 * 7)).off + 3, none⟩ = some (.int .i64 d.f3) at r3
            change wr.cell? ⟨((⟨qd, 0, none⟩ : Addr).add (0 * 7)).block, ((⟨qd, 0, none⟩ : Addr).add (0 * 7)).off + 4, none⟩ = some (.int .i64 d.f4) at r4
            change wr.cell? ⟨((⟨qd, 0, none⟩ : Addr).add (0 * 7)).block, ((⟨qd, 0, none⟩ : Addr).add (0 * 7)).off + 5, none⟩ = some (.int .i64 d.f5) at r5
            change wr.cell? ⟨((⟨qd, 0, none⟩ : Addr).add (0 * 7)).block, ((⟨qd, 0, none⟩ : Addr).add (0 * 7)).off + 6, none⟩ = some (.slice A6r d.f6.length c6r) at r6
            simp [Addr.add] at r0 r1 r2 r3 r4 r5 r6
            have h14 := blk_cell (Pd.getb HP.out (b := g14) (by with_reducible repeat (first | exact List.mem_cons_self | apply List.mem_cons_of_mem))) 0
            go_wp2_with (first | ((with_reducible refine gate_dst (N := 22) rfl ?_); refine box_event ?hg (N := 22) ?hd (cs := #[.int .i64 0, .int .i64 0, .int .i64 0, .int .i64 0, .int .i64 0, .int .i64 0, .slice none 0 0]) (t := 39) ?hr ?_; (case hd => rfl); (case hg => rfl); (case hr => first | (go_simp; done) | (go_simp; rfl)); intro g22 hg wk22 hbox hb; replace HP := Aside0.mk (Pd.box HP.out hg hbox hb); clear hg hbox hb h14; have hcz := cells7 (Pd.hd HP.out); have hfz := froz7 (Pd.hd HP.out)) | (have hgo := hcz; clear hgo; (with_reducible refine gate_dst (N := 80) rfl ?_); refine Pd.fold (Pd.st7 HP.out) ?_; intro W' h0; replace HP := Aside0.mk h0; clear h0 hcz hfz; have h14 := blk_cell (Pd.getb HP.out (b := g14) (by with_reducible repeat (first | exact List.mem_cons_self | apply List.mem_cons_of_mem))) 0; have h22 := cells7 (Pd.hd HP.out)))
            refine (need3_ld HL.out (Pd.swp (Pd.alc HP.out _)) (by exact alloc_last _ _)).mono ?_
            rintro _ w1 ⟨rfl, hp⟩
            rw [← H_e1.out] at hp
            replace HP := Aside0.mk hp
            clear hp h14 h22 r0 r1 r2 r3 r4 r5 r6
            have h22 := cells7 (Pd.hd (Pd.tl HP.out))
            have h20 := blk_cell (Pd.getb HP.out (b := g20) (by with_reducible repeat (first | exact List.mem_cons_self | apply List.mem_cons_of_mem))) 0
            have f20 := blk_frozen (Pd.getb HP.out (b := g20) (by with_reducible repeat (first | exact List.mem_cons_self | apply List.mem_cons_of_mem))) 0
            go_wp2
            go_roundw
            case rel => exact .inr (⟨by first | rfl | go_num, ⟨by rw [H_wd1.out]; exact Pd.stMid HP.out⟩⟩)
            case measure => simp [intOf]
          · skip
            have hc0 := last_cell HL.out (Pd.hd HP.out)
            have h14 := blk_cell (Pd.getb HP.out (b := g14) (by with_reducible repeat (first | exact List.mem_cons_self | apply List.mem_cons_of_mem))) 0
            by_cases hee : e1 = 0
            rotate_left
            · have hd1 : (e1 == 0) = false := by simpa using hee
              have HRE : Aside0 (R = (0, 0, 0, 0, 0, 0, [], e1)) := ⟨by (rw [HR.out]; have hq := hee; have h_k3 := H_k3.out; have h_k4 := H_k4.out; have h_e0 := H_e0.out; have h_e1 := H_e1.out; have h_wd1 := H_wd1.out; subst h_k3 h_k4 h_e0 h_e1 h_wd1; unfold lim01V; exact if_pos hq)⟩
              have HE := Aside0.mk hee
              have HPG := Aside0.mk (Pd.pmL HP.out (List.perm_middle (a := (gr, Obj.cells #[.int .i64 0, .int .i64 0, .int .i64 0, .int .i64 0, .int .i64 0, .int .i64 0, .slice none 0 0] 39 (0, 0))) (l₁ := [(g, Obj.cells (pre ++ [Value.int .i64 e1]).toArray 60 (0, 0)), (g20, Obj.cells #[.int .i64 wd1] 3 (0, 0)), (qd, ob), (g14, Obj.cells #[.pointer (some ⟨g, 0, none⟩)] 58 (0, 0))]) (l₂ := [(gn, Obj.cells #[.int .i64 x.f0, .int .i64 x.f1, .int .i64 x.f2, .int .i64 x.f3, .int .i64 x.f4, .int .i64 x.f5, .slice A x.f6.length n, .int .i64 gl, .int .i64 it] 41 (0, 0)), (gf, OF)])))
              simp only [List.cons_append, List.nil_append] at HPG
              have n1 : gr ≠ g := Pd.ne_hd HPG.out (b := (g, .cells (pre ++ [Value.int .i64 e1]).toArray 60 (0, 0))) (by with_reducible repeat (first | exact List.mem_cons_self | apply List.mem_cons_of_mem))
              have n2 := n1.symm
              have n3 : gr ≠ g14 := Pd.ne_hd HPG.out (b := (g14, .cells #[.pointer (some ⟨g, 0, none⟩)] 58 (0, 0))) (by with_reducible repeat (first | exact List.mem_cons_self | apply List.mem_cons_of_mem))
              have n4 := n3.symm
              have hcz := cells7 (Pd.hd HPG.out)
              have hfz := froz7 (Pd.hd HPG.out)
              go_wp2_with fail
              go_region
              all_goals go_wp2
              all_goals refine bodyPost_ret (results_ct rfl _ _ gr 39 #[.int .i64 0, .int .i64 0, .int .i64 0, .int .i64 0, .int .i64 0, .int .i64 0, .slice none 0 0] (0, 0) _ rfl (blk_drew (put7 (Pd.hd HPG.out))) hu39 rfl (by kernel_rfl)) rfl ?_
              all_goals exact ⟨none, 0, by rw [HRE.out]; rfl, by rw [HRE.out]; exact Nat.le_refl _, by rw [HRE.out]; exact Kd.C_nil _ _, (Pd.drew (Pd.st7 HPG.out)).bel⟩
            · have HEE := Aside0.mk hee
              rw [hee] at HP hc0
              clear hee
              have hn := nuc_c9 (Pd.getb HP.out (b := gn) (by with_reducible repeat (first | exact List.mem_cons_self | apply List.mem_cons_of_mem)))
              go_wp2_with fail
              refine (half_ld HL.out HP.out it).mono ?_
              rintro _ w1 ⟨rfl, hp⟩
              clear h14 hn hc0
              obtain ⟨h, h_h⟩ : ∃ h, h = keepV 0 (toldOf (halfR it)) := ⟨_, rfl⟩
              rw [← h_h] at hp ⊢
              have H_h := Aside0.mk h_h
              replace HP := Aside0.mk hp
              clear hp h_h
              obtain ⟨m0, h_m0⟩ : ∃ m0, m0 = midL h.2 wd1 x.f1 := ⟨_, rfl⟩
              have H_m0 := Aside0.mk h_m0
              clear h_m0
              obtain ⟨md, h_md⟩ : ∃ md, md = midL m0.2 wd1 d.f1 := ⟨_, rfl⟩
              have H_md := Aside0.mk h_md
              clear h_md
              obtain ⟨dx, h_dx⟩ : ∃ dx, dx = keepV md.2 (toldOf (sumR [md.1, wrap64 (-h.1)])) := ⟨_, rfl⟩
              have H_dx := Aside0.mk h_dx
              clear h_dx
              obtain ⟨dg, h_dg⟩ : ∃ dg, dg = keepV dx.2 (toldOf (sumR [k3.1, d.f2])) := ⟨_, rfl⟩
              have H_dg := Aside0.mk h_dg
              clear h_dg
              obtain ⟨dy, h_dy⟩ : ∃ dy, dy = keepV dg.2 (toldOf (sumR [x.f3, max dg.1 k4.1])) := ⟨_, rfl⟩
              have H_dy := Aside0.mk h_dy
              clear h_dy
              go_wp2_with fail
              have hn := nuc_c9 (Pd.getb HP.out (b := gn) (by with_reducible repeat (first | exact List.mem_cons_self | apply List.mem_cons_of_mem)))
              go_region_held3 (fun w' => w'.cell? ⟨gn, 0, none⟩ = some (.int .i64 x.f0) ∧ w'.cell? ⟨gn, 1, none⟩ = some (.int .i64 x.f1) ∧ w'.cell? ⟨gn, 2, none⟩ = some (.int .i64 x.f2) ∧ w'.cell? ⟨gn, 3, none⟩ = some (.int .i64 x.f3) ∧ w'.cell? ⟨gn, 4, none⟩ = some (.int .i64 x.f4) ∧ w'.cell? ⟨gn, 5, none⟩ = some (.int .i64 x.f5) ∧ w'.cell? ⟨gn, 6, none⟩ = some (.slice A x.f6.length n)) (with_reducible exact nuc_c7 (Pd.getb (by with_reducible repeat (first | exact HP.out | apply Pd.alc | apply Pd.drew)) (b := gn) (by with_reducible repeat (first | exact List.mem_cons_self | apply List.mem_cons_of_mem)))) (first | (go_at_call 22; refine (mid_ld HL.out (by with_reducible repeat (first | exact HP.out | apply Pd.drew)) (by with_reducible repeat (first | exact List.mem_cons_self | apply List.mem_cons_of_mem)) (by with_reducible repeat (first | exact List.mem_cons_self | apply List.mem_cons_of_mem)) x A n).mono ?_; rintro _ w1 ⟨rfl, hp⟩; rw [← H_m0.out] at hp ⊢; replace HP := Aside0.mk hp; clear hp))
              go_wp2_with fail
              go_loopw [119, 25] (fun i v wr => ∃ (q4 cap4 : Nat) (o4 : Obj), i = .int .i64 0 ∧ v = .slice (some ⟨q4, 0, none⟩) 1 cap4 ∧ Aside0 (OwnR k67 67 w q4 cap4 o4 ([⟨m0.1, 0, x⟩] : List S67)) ∧ Aside0 (Pd w wr [(g, .cells (pre ++ [Value.int .i64 m0.2]).toArray 60 (0, 0)), (q4, o4), (g20, .cells #[.int .i64 wd1] 3 (0, 0)), (qd, ob), (g14, .cells #[.pointer (some ⟨g, 0, none⟩)] 58 (0, 0)), (gr, .cells #[.int .i64 0, .int .i64 0, .int .i64 0, .int .i64 0, .int .i64 0, .int .i64 0, .slice none 0 0] 39 (0, 0)), (gn, .cells #[.int .i64 x.f0, .int .i64 x.f1, .int .i64 x.f2, .int .i64 x.f3, .int .i64 x.f4, .int .i64 x.f5, .slice A x.f6.length n, .int .i64 gl, .int .i64 it] 41 (0, 0)), (gf, OF)])) (fun i _ _ => 1 - (intOf i).toNat)
              case atStart => exact ⟨_, _, _, rfl, rfl, ⟨OwnR.lit1 (k67_mk w (⟨m0.1, 0, x⟩ : S67) HLN.out HCN.out)⟩, ⟨Pd.swp (Pd.lit (by with_reducible repeat (first | exact HP.out | apply Pd.drew)) (by with_reducible first | exact Lit.refl _ _ | exact Lit.drew _ _))⟩⟩
              case round =>
                obtain ⟨q4, cap4, o4, rfl, rfl, HOK, HP⟩ := hrel
                go_wp2_with fail
                go_loopw [152, 25] (fun i v wr => (∃ (q4 cap4 : Nat) (o4 : Obj), i = .int .i64 0 ∧ v = .slice (some ⟨q4, 0, none⟩) 1 cap4 ∧ Aside0 (OwnR k67 67 w q4 cap4 o4 ([⟨m0.1, 0, x⟩] : List S67)) ∧ Aside0 (Pd w wr [(g, .cells (pre ++ [Value.int .i64 m0.2]).toArray 60 (0, 0)), (q4, o4), (g20, .cells #[.int .i64 wd1] 3 (0, 0)), (qd, ob), (g14, .cells #[.pointer (some ⟨g, 0, none⟩)] 58 (0, 0)), (gr, .cells #[.int .i64 0, .int .i64 0, .int .i64 0, .int .i64 0, .int .i64 0, .int .i64 0, .slice none 0 0] 39 (0, 0)), (gn, .cells #[.int .i64 x.f0, .int .i64 x.f1, .int .i64 x.f2, .int .i64 x.f3, .int .i64 x.f4, .int .i64 x.f5, .slice A x.f6.length n, .int .i64 gl, .int .i64 it] 41 (0, 0)), (gf, OF)])) ∨ (∃ (q4 cap4 : Nat) (o4 : Obj), i = .int .i64 1 ∧ v = .slice (some ⟨q4, 0, none⟩) 2 cap4 ∧ Aside0 (OwnR k67 67 w q4 cap4 o4 ([⟨m0.1, 0, x⟩, ⟨dx.1, wrap64 (-dy.1), d⟩] : List S67)) ∧ Aside0 (Pd w wr [(g, .cells (pre ++ [Value.int .i64 dy.2]).toArray 60 (0, 0)), (q4, o4), (g20, .cells #[.int .i64 wd1] 3 (0, 0)), (qd, ob), (g14, .cells #[.pointer (some ⟨g, 0, none⟩)] 58 (0, 0)), (gr, .cells #[.int .i64 0, .int .i64 0, .int .i64 0, .int .i64 0, .int .i64 0, .int .i64 0, .slice none 0 0] 39 (0, 0)), (gn, .cells #[.int .i64 x.f0, .int .i64 x.f1, .int .i64 x.f2, .int .i64 x.f3, .int .i64 x.f4, .int .i64 x.f5, .slice A x.f6.length n, .int .i64 gl, .int .i64 it] 41 (0, 0)), (gf, OF)]))) (fun i _ _ => 1 - (intOf i).toNat)
                case atStart => exact .inl ⟨_, _, _, rfl, rfl, HOK, HP⟩
                case round =>
                  rcases hrel with ⟨q4, cap4, o4, rfl, rfl, HOK, HP⟩ | ⟨q4, cap4, o4, rfl, rfl, HOK, HP⟩
                  · have r0 := Pd.oldcell HP.out (Hcd.out 0 _ rfl)
                    have r1 := Pd.oldcell HP.out (Hcd.out 1 _ rfl)
                    have r2 := Pd.oldcell HP.out (Hcd.out 2 _ rfl)
                    have r3 := Pd.oldcell HP.out (Hcd.out 3 _ rfl)
                    have r4 := Pd.oldcell HP.out (Hcd.out 4 _ rfl)
                    have r5 := Pd.oldcell HP.out (Hcd.out 5 _ rfl)
                    have r6 := Pd.oldcell HP.out (Hcd.out 6 _ rfl)
                    simp [Addr.add] at r0 r1 r2 r3 r4 r5 r6
                    go_wp2_with (first | ((with_reducible refine gate_dst (N := 29) rfl ?_); refine box_event ?hg (N := 29) ?hd (cs := #[.int .i64 0, .int .i64 0, .int .i64 0, .int .i64 0, .int .i64 0, .int .i64 0, .slice none 0 0]) (t := 39) ?hr ?_; (case hd => rfl); (case hg => rfl); (case hr => first | (go_simp; done) | (go_simp; rfl)); intro gY hg wkY hbox hb; replace HP := Aside0.mk (Pd.box HP.out hg hbox hb); clear hg hbox hb; have hcz := cells7 (Pd.hd HP.out); have hfz := froz7 (Pd.hd HP.out)))
                    refine Pd.foldDl (Pd.st7 HP.out) ?_
                    intro W' h0
                    replace HP := Aside0.mk (Pd.swp h0)
                    clear h0 hcz hfz r0 r1 r2 r3 r4 r5 r6
                    go_region_held3 (fun w' => w'.cell? ⟨g14, 0, none⟩ = some (.pointer (some ⟨g, 0, none⟩)) ∧ w'.cell? ⟨gY, 0, none⟩ = some (.int .i64 d.f0) ∧ w'.cell? ⟨gY, 1, none⟩ = some (.int .i64 d.f1) ∧ w'.cell? ⟨gY, 2, none⟩ = some (.int .i64 d.f2) ∧ w'.cell? ⟨gY, 3, none⟩ = some (.int .i64 d.f3) ∧ w'.cell? ⟨gY, 4, none⟩ = some (.int .i64 d.f4) ∧ w'.cell? ⟨gY, 5, none⟩ = some (.int .i64 d.f5) ∧ w'.cell? ⟨gY, 6, none⟩ = some (.slice A6d d.f6.length n6d) ∧ w'.cell? ⟨gn, 2, none⟩ = some (.int .i64 x.f2) ∧ w'.cell? ⟨gn, 3, none⟩ = some (.int .i64 x.f3)) (with_reducible exact lim_cells (Pd.getb (by with_reducible repeat (first | exact HP.out | apply Pd.alc | apply Pd.drew)) (b := g14) (by with_reducible repeat (first | exact List.mem_cons_self | apply List.mem_cons_of_mem))) (Pd.getb (by with_reducible repeat (first | exact HP.out | apply Pd.alc | apply Pd.drew)) (b := gY) (by with_reducible repeat (first | exact List.mem_cons_self | apply List.mem_cons_of_mem))) (Pd.getb (by with_reducible repeat (first | exact HP.out | apply Pd.alc | apply Pd.drew)) (b := gn) (by with_reducible repeat (first | exact List.mem_cons_self | apply List.mem_cons_of_mem)))) (first | (go_at_call 22; (first | with_reducible refine g0_l ?_ | with_reducible refine g0d_l ?_); refine (mid_ld HL.out (Pd.swp (Pd.lit (by with_reducible repeat (first | exact HP.out | apply Pd.drew)) (by with_reducible first | exact Lit.refl _ _ | exact Lit.drew _ _))) (by with_reducible repeat (first | exact List.mem_cons_self | apply List.mem_cons_of_mem)) (by with_reducible repeat (first | exact List.mem_cons_self | apply List.mem_cons_of_mem)) d A6d n6d).mono ?_; rintro _ w1 ⟨rfl, hp⟩; rw [← H_md.out] at hp ⊢; replace HP := Aside0.mk hp; clear hp) | (go_at_call 22; refine (mid_ld HL.out (by with_reducible repeat (first | exact HP.out | apply Pd.drew)) (by with_reducible repeat (first | exact List.mem_cons_self | apply List.mem_cons_of_mem)) (by with_reducible repeat (first | exact List.mem_cons_self | apply List.mem_cons_of_mem)) d A6d n6d).mono ?_; rintro _ w1 ⟨rfl, hp⟩; rw [← H_md.out] at hp ⊢; replace HP := Aside0.mk hp; clear hp) | (go_at_call 23; (try simp only [i64_w]); (first | with_reducible refine g3_l 2 ?_ | with_reducible refine g3d_l 2 ?_); refine (sum2_twol' HL.out (by with_reducible first | exact Lit.refl _ _ | exact Lit.drew _ _) (by with_reducible repeat (first | exact HP.out | apply Pd.alc | apply Pd.drew)) rfl).mono ?_; rintro _ w1 ⟨rfl, hp⟩; (first | rw [← H_dx.out] at hp ⊢ | rw [← H_dg.out] at hp ⊢ | rw [← H_dy.out] at hp ⊢); replace HP := Aside0.mk hp; clear hp) | (go_at_call 23; (try simp only [i64_w]); (first | with_reducible refine g2_l 2 ?_ | with_reducible refine g2d_l 2 ?_); refine (sum2_twol HL.out (by with_reducible first | exact Lit.refl _ _ | exact Lit.drew _ _) (by with_reducible repeat (first | exact HP.out | apply Pd.alc | apply Pd.drew)) rfl).mono ?_; rintro _ w1 ⟨rfl, hp⟩; (first | rw [← H_dx.out] at hp ⊢ | rw [← H_dg.out] at hp ⊢ | rw [← H_dy.out] at hp ⊢); replace HP := Aside0.mk hp; clear hp) | (go_at_call 23; (try simp only [i64_w]); (first | with_reducible refine g1_l 2 ?_ | with_reducible refine g1d_l 2 ?_); refine (sum2_onel HL.out (by with_reducible first | exact Lit.refl _ _ | exact Lit.drew _ _) (by with_reducible repeat (first | exact HP.out | apply Pd.alc | apply Pd.drew)) rfl).mono ?_; rintro _ w1 ⟨rfl, hp⟩; (first | rw [← H_dx.out] at hp ⊢ | rw [← H_dg.out] at hp ⊢ | rw [← H_dy.out] at hp ⊢); replace HP := Aside0.mk hp; clear hp) | (go_at_call 23; (try simp only [i64_w]); refine (sum2_ld HL.out (by with_reducible repeat (first | exact HP.out | apply Pd.drew)) (Pd.getb (by with_reducible repeat (first | exact HP.out | apply Pd.drew)) (by with_reducible repeat (first | exact List.mem_cons_self | apply List.mem_cons_of_mem)))).mono ?_; rintro _ w1 ⟨rfl, hp⟩; (first | rw [← H_dx.out] at hp ⊢ | rw [← H_dg.out] at hp ⊢ | rw [← H_dy.out] at hp ⊢); replace HP := Aside0.mk hp; clear hp) | ((with_reducible refine gate_app ?_); refine Row.append (d := k67) (e := 67) (ts := 37) Tryz.underlying37 hki hkz hks hkb rfl (by decide) (HOK.out.row (Pd.thirdL (Pd.subL (by with_reducible repeat (first | exact HP.out | apply Pd.alc | apply Pd.drew)) (by refine List.Sublist.cons_cons _ ?_; with_reducible repeat (first | exact List.Sublist.refl _ | apply List.Sublist.cons))))) (by rfl) _ _ (by rfl) (by rfl) (y := (⟨dx.1, wrap64 (-dy.1), d⟩ : S67)) (c := [.int .i64 (dx.1), .int .i64 (wrap64 (-dy.1)), .int .i64 d.f0, .int .i64 d.f1, .int .i64 d.f2, .int .i64 d.f3, .int .i64 d.f4, .int .i64 d.f5, .slice A6d d.f6.length n6d]) (by rfl) (by rw [← i64_w]; repeat (first | exact alloc_last _ _ | apply blk_drew)) (k67_mk w (⟨dx.1, wrap64 (-dy.1), d⟩ : S67) Hld.out HKCd.out) (by simp [Value.oneCell']) (by unfold maxLen; simp) (by simp) ?_; intro q5 cap5 w5 hR; obtain ⟨o5, hown, hp⟩ := hR.outR; have HOK5 : Aside0 (OwnR k67 67 w q5 cap5 o5 ([⟨m0.1, 0, x⟩, ⟨dx.1, wrap64 (-dy.1), d⟩] : List S67)) := ⟨hown⟩; replace HP := Aside0.mk (Pd.swp hp); clear hown hp hR))
                    all_goals (go_wp2; go_roundw; (case rel => exact .inr ⟨q5, cap5, o5, by first | rfl | go_num, rfl, HOK5, ⟨Pd.subL (by with_reducible repeat (first | exact HP.out | apply Pd.drew)) (List.Sublist.cons_cons _ (List.Sublist.cons_cons _ (List.Sublist.cons _ (List.Sublist.refl _))))⟩⟩); (case measure => simp [intOf]))
                  · skip
                    have hc0 := last_cell HL.out (Pd.hd HP.out)
                    have h14 := blk_cell (Pd.getb HP.out (b := g14) (by with_reducible repeat (first | exact List.mem_cons_self | apply List.mem_cons_of_mem))) 0
                    have HRV : Aside0 (R = setV dy.2 wd1 ([⟨m0.1, 0, x⟩, ⟨dx.1, wrap64 (-dy.1), d⟩] : List S67)) := ⟨(by (rw [HR.out]; have hq := HEE.out; have h_k3 := H_k3.out; have h_k4 := H_k4.out; have h_e0 := H_e0.out; have h_e1 := H_e1.out; have h_wd1 := H_wd1.out; have h_h := H_h.out; have h_m0 := H_m0.out; have h_md := H_md.out; have h_dx := H_dx.out; have h_dg := H_dg.out; have h_dy := H_dy.out; subst h_k3 h_k4 h_e0 h_e1 h_wd1 h_h h_m0 h_md h_dx h_dg h_dy; unfold lim01V; dsimp only; rw [if_neg (fun h => h hq)]; try rfl))⟩
                    by_cases hee : dy.2 = 0
                    rotate_left
                    · have hd1 : (dy.2 == 0) = false := by simpa using hee
                      have HRE : Aside0 (R = (0, 0, 0, 0, 0, 0, [], dy.2)) := ⟨by rw [HRV.out]; unfold setV; exact if_neg hee⟩
                      have HE := Aside0.mk hee
                      have HPG := Aside0.mk (Pd.pmL HP.out (List.perm_middle (a := (gr, Obj.cells #[.int .i64 0, .int .i64 0, .int .i64 0, .int .i64 0, .int .i64 0, .int .i64 0, .slice none 0 0] 39 (0, 0))) (l₁ := [(g, Obj.cells (pre ++ [Value.int .i64 dy.2]).toArray 60 (0, 0)), (q4, o4), (g20, Obj.cells #[.int .i64 wd1] 3 (0, 0)), (qd, ob), (g14, Obj.cells #[.pointer (some ⟨g, 0, none⟩)] 58 (0, 0))]) (l₂ := [(gn, Obj.cells #[.int .i64 x.f0, .int .i64 x.f1, .int .i64 x.f2, .int .i64 x.f3, .int .i64 x.f4, .int .i64 x.f5, .slice A x.f6.length n, .int .i64 gl, .int .i64 it] 41 (0, 0)), (gf, OF)])))
                      simp only [List.cons_append, List.nil_append] at HPG
                      have n1 : gr ≠ g := Pd.ne_hd HPG.out (b := (g, .cells (pre ++ [Value.int .i64 dy.2]).toArray 60 (0, 0))) (by with_reducible repeat (first | exact List.mem_cons_self | apply List.mem_cons_of_mem))
                      have n2 := n1.symm
                      have n3 : gr ≠ g14 := Pd.ne_hd HPG.out (b := (g14, .cells #[.pointer (some ⟨g, 0, none⟩)] 58 (0, 0))) (by with_reducible repeat (first | exact List.mem_cons_self | apply List.mem_cons_of_mem))
                      have n4 := n3.symm
                      have hcz := cells7 (Pd.hd HPG.out)
                      have hfz := froz7 (Pd.hd HPG.out)
                      go_wp2_with fail
                      go_region
                      all_goals go_wp2
                      all_goals refine bodyPost_ret (results_ct rfl _ _ gr 39 #[.int .i64 0, .int .i64 0, .int .i64 0, .int .i64 0, .int .i64 0, .int .i64 0, .slice none 0 0] (0, 0) _ rfl (blk_drew (put7 (Pd.hd HPG.out))) hu39 rfl (by kernel_rfl)) rfl ?_
                      all_goals exact ⟨none, 0, by rw [HRE.out]; rfl, by rw [HRE.out]; exact Nat.le_refl _, by rw [HRE.out]; exact Kd.C_nil _ _, (Pd.drew (Pd.st7 HPG.out)).bel⟩
                    · have HE0 := Aside0.mk hee
                      rw [hee] at HP hc0
                      clear hee
                      have h20 := blk_cell (Pd.getb HP.out (b := g20) (by with_reducible repeat (first | exact List.mem_cons_self | apply List.mem_cons_of_mem))) 0
                      have HRS : Aside0 (R = setR wd1 ([⟨m0.1, 0, x⟩, ⟨dx.1, wrap64 (-dy.1), d⟩] : List S67)) := ⟨by rw [HRV.out]; unfold setV; exact if_pos HE0.out⟩
                      obtain ⟨css, hS⟩ := RowAt.src HOK.out.at ([(g, .cells (pre ++ [Value.int .i64 0]).toArray 60 (0, 0)), (g20, .cells #[.int .i64 wd1] 3 (0, 0)), (qd, ob), (g14, .cells #[.pointer (some ⟨g, 0, none⟩)] 58 (0, 0)), (gr, .cells #[.int .i64 0, .int .i64 0, .int .i64 0, .int .i64 0, .int .i64 0, .int .i64 0, .slice none 0 0] 39 (0, 0)), (gn, .cells #[.int .i64 x.f0, .int .i64 x.f1, .int .i64 x.f2, .int .i64 x.f3, .int .i64 x.f4, .int .i64 x.f5, .slice A x.f6.length n, .int .i64 gl, .int .i64 it] 41 (0, 0)), (gf, OF)] : List (Nat × Obj))
                      have HS := Aside0.mk hS
                      clear hS
                      go_wp2_with fail
                      refine (bset wd1 ([⟨m0.1, 0, x⟩, ⟨dx.1, wrap64 (-dy.1), d⟩] : List S67) (by simp) (Pd.swp HP.out) HS.out).mono ?_
                      rintro _ w7 ⟨A1, n1, rfl, hl, hf, hp⟩
                      rw [← HRS.out] at hl hf ⊢
                      replace HP := Aside0.mk hp
                      have HLL := Aside0.mk hl
                      have HFF := Aside0.mk hf
                      clear hp hl hf hc0 h14 h20
                      try dsimp only
                      have HPG := Aside0.mk (Pd.pmL HP.out (List.perm_middle (a := (gr, Obj.cells #[.int .i64 0, .int .i64 0, .int .i64 0, .int .i64 0, .int .i64 0, .int .i64 0, .slice none 0 0] 39 (0, 0))) (l₁ := [(q4, o4), (g, Obj.cells (pre ++ [Value.int .i64 0]).toArray 60 (0, 0)), (g20, Obj.cells #[.int .i64 wd1] 3 (0, 0)), (qd, ob), (g14, Obj.cells #[.pointer (some ⟨g, 0, none⟩)] 58 (0, 0))]) (l₂ := [(gn, Obj.cells #[.int .i64 x.f0, .int .i64 x.f1, .int .i64 x.f2, .int .i64 x.f3, .int .i64 x.f4, .int .i64 x.f5, .slice A x.f6.length n, .int .i64 gl, .int .i64 it] 41 (0, 0)), (gf, OF)])))
                      simp only [List.cons_append, List.nil_append] at HPG
                      have hcz := cells7 (Pd.hd HPG.out)
                      have hfz := froz7 (Pd.hd HPG.out)
                      go_wp2
                      refine bodyPost_ret (results_ct rfl _ _ gr 39 #[.int .i64 R.1, .int .i64 R.2.1, .int .i64 R.2.2.1, .int .i64 R.2.2.2.1, .int .i64 R.2.2.2.2.1, .int .i64 R.2.2.2.2.2.1, .slice A1 R.2.2.2.2.2.2.1.length n1] (0, 0) _ rfl (put7 (Pd.hd HPG.out)) hu39 rfl (by kernel_rfl)) rfl ?_
                      exact ⟨A1, n1, rfl, HLL.out, HFF.out _ (fun k hk _ => far7 _ (hk (gr, _) (by with_reducible repeat (first | exact List.mem_cons_self | apply List.mem_cons_of_mem)))), (Pd.st7 HPG.out).bel⟩
end Go.Proofs.YtbhljokhcmfgjaaGreat.P
