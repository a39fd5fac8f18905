import Derived.Test.YtbhljokhcmfgjaaTBar1
import Derived.Test.YtbhljokhcmfgjaaTSet2
import Derived.BigRegion
/- bar's maker: konst, gap, set; line and strut: over whatever blocks the caller has (Pd). Printed by a program of this work (mkbar.py). -/
set_option linter.unusedVariables false
set_option linter.unusedSimpArgs false
namespace Go.Proofs.Ytbhljokhcmfgjaa.P
open Go.RowKit Go.Proofs.YtbhljokhcmfgjaaW.PrintWords Go.Proofs.YtbhljokhcmfgjaaW.PrintLast Go.Proofs.YtbhljokhcmfgjaaW.PrintMore

theorem mk_cells {W : World} {g : Nat} {u v1 v2 v3 v4 v5 v6 v7 v8 v9 v10 v11 v12 v13 v14 v15 v16 v17 v18 v19 : Value} {t : TypeId} (h : W.heap[g]? = some (.cells (u :: [v1, v2, v3, v4, v5, v6, v7, v8, v9, v10, v11, v12, v13, v14, v15, v16, v17, v18, v19]).toArray t (0, 0))) :
    W.cell? ⟨g, 1, none⟩ = some v1 ∧ W.cell? ⟨g, 2, none⟩ = some v2 ∧ W.cell? ⟨g, 3, none⟩ = some v3 ∧ W.cell? ⟨g, 4, none⟩ = some v4 ∧ W.cell? ⟨g, 5, none⟩ = some v5 ∧ W.cell? ⟨g, 6, none⟩ = some v6 ∧ W.cell? ⟨g, 7, none⟩ = some v7 ∧ W.cell? ⟨g, 8, none⟩ = some v8 ∧ W.cell? ⟨g, 9, none⟩ = some v9 ∧ W.cell? ⟨g, 10, none⟩ = some v10 ∧ W.cell? ⟨g, 11, none⟩ = some v11 ∧ W.cell? ⟨g, 12, none⟩ = some v12 ∧ W.cell? ⟨g, 13, none⟩ = some v13 ∧ W.cell? ⟨g, 14, none⟩ = some v14 ∧ W.cell? ⟨g, 15, none⟩ = some v15 ∧ W.cell? ⟨g, 16, none⟩ = some v16 ∧ W.cell? ⟨g, 17, none⟩ = some v17 ∧ W.cell? ⟨g, 18, none⟩ = some v18 ∧ W.cell? ⟨g, 19, none⟩ = some v19 :=
  ⟨blk_cell h 1, blk_cell h 2, blk_cell h 3, blk_cell h 4, blk_cell h 5, blk_cell h 6, blk_cell h 7, blk_cell h 8, blk_cell h 9, blk_cell h 10, blk_cell h 11, blk_cell h 12, blk_cell h 13, blk_cell h 14, blk_cell h 15, blk_cell h 16, blk_cell h 17, blk_cell h 18, blk_cell h 19⟩
section
variable {w W W1 : World} {L : List (Nat × Obj)} {g : Nat} {e : Int} {rest : List Value} {F : S63} {c z : Int} {cs : List Value}
set_option maxRecDepth 100000 in
set_option maxHeartbeats 2000000 in
theorem konst_pd (h : Pd w W ((g, .cells (Value.int .i64 e :: rest).toArray 110 (0, 0)) :: L)) (hF : FontIn w F cs) (hr : rest = cs ++ [.int .i64 c, .int .i64 z]) (k : Int) : Calls Try.prog 67 #[.pointer (some ⟨g, 0, none⟩), .int .i64 k] W fun r w' => r = .returned (.int .i64 (keepV e (konstV F k c z)).1) ∧ Pd w w' ((g, .cells (Value.int .i64 (keepV e (konstV F k c z)).2 :: rest).toArray 110 (0, 0)) :: L) := by
  have hu36 := Try.underlying63
  have HF := Aside0.mk hF
  obtain ⟨A6, c6, A7, c7, A8, c8, A9, c9, A10, c10, A11, c11, A12, c12, A13, c13, A15, c15, A16, c16, hcs, hcr⟩ := id hF
  subst hcs
  replace hr : rest = [.int .i64 F.f0.f0, .int .i64 F.f0.f1, .int .i64 F.f0.f2, .int .i64 F.f0.f3, .int .i64 F.f0.f4, .bool F.f0.f5, .slice A6 F.f1.length c6, .slice A7 F.f2.length c7, .slice A8 F.f3.length c8, .slice A9 F.f4.f0.length c9, .slice A10 F.f4.f1.length c10, .slice A11 F.f4.f2.length c11, .slice A12 F.f4.f3.length c12, .slice A13 F.f4.f4.length c13, .int .i64 F.f4.f5.f0, .slice A15 F.f4.f5.f1.length c15, .slice A16 F.f4.f5.f2.length c16, .int .i64 c, .int .i64 z] := hr
  subst hr
  clear hcr hF
  obtain ⟨p, hp⟩ : ∃ p, p = konstV F k c z := ⟨_, rfl⟩
  rw [← hp]
  have HK := Aside0.mk hp
  clear hp
  have HP := Aside0.mk h
  have hS := mk_cells h.hd
  clear h
  go_enter Try.func67, Try.ntmps67
  go_wp2_with fail
  go_region_held3 (fun w' => w'.cell? ⟨g, 1, none⟩ = some (.int .i64 F.f0.f0) ∧ w'.cell? ⟨g, 2, none⟩ = some (.int .i64 F.f0.f1) ∧ w'.cell? ⟨g, 3, none⟩ = some (.int .i64 F.f0.f2) ∧ w'.cell? ⟨g, 4, none⟩ = some (.int .i64 F.f0.f3) ∧ w'.cell? ⟨g, 5, none⟩ = some (.int .i64 F.f0.f4) ∧ w'.cell? ⟨g, 6, none⟩ = some (.bool F.f0.f5) ∧ w'.cell? ⟨g, 7, none⟩ = some (.slice A6 F.f1.length c6) ∧ w'.cell? ⟨g, 8, none⟩ = some (.slice A7 F.f2.length c7) ∧ w'.cell? ⟨g, 9, none⟩ = some (.slice A8 F.f3.length c8) ∧ w'.cell? ⟨g, 10, none⟩ = some (.slice A9 F.f4.f0.length c9) ∧ w'.cell? ⟨g, 11, none⟩ = some (.slice A10 F.f4.f1.length c10) ∧ w'.cell? ⟨g, 12, none⟩ = some (.slice A11 F.f4.f2.length c11) ∧ w'.cell? ⟨g, 13, none⟩ = some (.slice A12 F.f4.f3.length c12) ∧ w'.cell? ⟨g, 14, none⟩ = some (.slice A13 F.f4.f4.length c13) ∧ w'.cell? ⟨g, 15, none⟩ = some (.int .i64 F.f4.f5.f0) ∧ w'.cell? ⟨g, 16, none⟩ = some (.slice A15 F.f4.f5.f1.length c15) ∧ w'.cell? ⟨g, 17, none⟩ = some (.slice A16 F.f4.f5.f2.length c16) ∧ w'.cell? ⟨g, 18, none⟩ = some (.int .i64 c) ∧ w'.cell? ⟨g, 19, none⟩ = some (.int .i64 z)) (first | with_reducible exact mk_cells (Pd.hd (by with_reducible repeat (first | exact HP.out | apply Pd.drew)))) (first | (go_at_call 31; refine (konst_calls _ F _ k c z (HF.out.heap (Pre.bel (Pd.toPre (by with_reducible repeat (first | exact HP.out | apply Pd.drew)))))).mono ?_; rintro _ w1 ⟨rfl, hb⟩; rw [← HK.out]; replace HP := Aside0.mk (Pd.below (by with_reducible repeat (first | exact HP.out | apply Pd.drew)) hb); clear hb) | (go_at_call 99; refine (keep_pd (by with_reducible repeat (first | exact HP.out | apply Pd.drew)) p.1 p.2).mono ?_; rintro _ w1 ⟨rfl, hp⟩; replace HP := Aside0.mk hp; clear hp))
  all_goals go_wp2
  all_goals go_ret
  all_goals exact ⟨rfl, HP.out⟩
def gapV (F : S63) (c z : Int) : Int × Int := konstV F (if c < 2 then 50 else 49) c z
set_option maxRecDepth 100000 in
set_option maxHeartbeats 1000000 in
theorem gap_pd (h : Pd w W ((g, .cells (Value.int .i64 e :: rest).toArray 110 (0, 0)) :: L)) (hF : FontIn w F cs) (hr : rest = cs ++ [.int .i64 c, .int .i64 z]) : Calls Try.prog 100 #[.pointer (some ⟨g, 0, none⟩)] W fun r w' => r = .returned (.int .i64 (keepV e (gapV F c z)).1) ∧ Pd w w' ((g, .cells (Value.int .i64 (keepV e (gapV F c z)).2 :: rest).toArray 110 (0, 0)) :: L) := by
  have HF := Aside0.mk hF
  have HR := Aside0.mk hr
  have HP := Aside0.mk h
  have hc18 : W.cell? ⟨g, 18, none⟩ = some (.int .i64 c) := by
    obtain ⟨A6, c6, A7, c7, A8, c8, A9, c9, A10, c10, A11, c11, A12, c12, A13, c13, A15, c15, A16, c16, hcs, hcr⟩ := hF
    subst hcs
    replace hr : rest = [.int .i64 F.f0.f0, .int .i64 F.f0.f1, .int .i64 F.f0.f2, .int .i64 F.f0.f3, .int .i64 F.f0.f4, .bool F.f0.f5, .slice A6 F.f1.length c6, .slice A7 F.f2.length c7, .slice A8 F.f3.length c8, .slice A9 F.f4.f0.length c9, .slice A10 F.f4.f1.length c10, .slice A11 F.f4.f2.length c11, .slice A12 F.f4.f3.length c12, .slice A13 F.f4.f4.length c13, .int .i64 F.f4.f5.f0, .slice A15 F.f4.f5.f1.length c15, .slice A16 F.f4.f5.f2.length c16, .int .i64 c, .int .i64 z] := hr
    subst hr
    rw [blk_cell h.hd 18]
    rfl
  clear h hF hr
  unfold gapV
  go_enter Try.func100, Try.ntmps100
  by_cases hc : c < 2
  · rw [if_pos hc]
    go_wp2_with fail
    refine (konst_pd HP.out HF.out HR.out 50).mono ?_
    rintro _ w1 ⟨rfl, hp⟩
    replace HP := Aside0.mk hp
    clear hp
    go_wp2
    go_ret
    exact ⟨rfl, HP.out⟩
  · rw [if_neg hc]
    go_wp2_with fail
    refine (konst_pd HP.out HF.out HR.out 49).mono ?_
    rintro _ w1 ⟨rfl, hp⟩
    replace HP := Aside0.mk hp
    clear hp
    go_wp2
    go_ret
    exact ⟨rfl, HP.out⟩
set_option maxRecDepth 100000 in
set_option maxHeartbeats 4000000 in
theorem set_pd {t : TypeId} {A : Option Addr} {n : Nat} (wd : Int) (xs : List S41) {css : List (List Value)} (hx : xs.length < 1599289640401) (h : Pd w W ((g, .cells (Value.int .i64 e :: rest).toArray t (0, 0)) :: L)) (hS : Src w ((g, .cells (Value.int .i64 e :: rest).toArray t (0, 0)) :: L) A xs css) : Calls Try.prog 70 #[.pointer (some ⟨g, 0, none⟩), .int .i64 wd, .slice A xs.length n] W fun r w' => ∃ A1 n1, r = .returned (.tuple #[.agg #[.int .i64 (setV e wd xs).1, .int .i64 (setV e wd xs).2.1, .int .i64 (setV e wd xs).2.2.1, .int .i64 (setV e wd xs).2.2.2.1, .int .i64 (setV e wd xs).2.2.2.2.1, .int .i64 (setV e wd xs).2.2.2.2.2.1, .slice A1 (setV e wd xs).2.2.2.2.2.2.1.length n1], .int .i64 (setV e wd xs).2.2.2.2.2.2.2]) ∧ (setV e wd xs).2.2.2.2.2.2.1.length ≤ n1 ∧ Kd.F k41 w' (fun k => ∀ p ∈ ((g, Obj.cells (Value.int .i64 e :: rest).toArray t (0, 0)) :: L), k ≠ p.1) A1 (setV e wd xs).2.2.2.2.2.2.1.length (setV e wd xs).2.2.2.2.2.2.1 ∧ Pd w w' ((g, .cells (Value.int .i64 e :: rest).toArray t (0, 0)) :: L) := by
  have hu39 := Try.underlying25
  have HS := Aside0.mk hS
  have HX := Aside0.mk hx
  have HP := Aside0.mk h
  clear h hS hx
  by_cases he : e = 0
  · obtain ⟨V, hV⟩ : ∃ V, V = setR wd xs := ⟨_, rfl⟩
    have hSV : setV e wd xs = V := by rw [hV]; exact if_pos he
    have HQ := Aside0.mk (fun (W : World) (L : List (Nat × Obj)) (h : Pd w W L) (hS : Src w L A xs css) => bset (n := n) wd xs HX.out h hS)
    rw [← hV] at HQ
    rw [hSV]
    clear hSV hV
    have hd1 : (e != 0) = false := by simp; exact he
    have hd2 : decide (e = 0) = true := by simp; exact he
    have hc0 := head_cell HP.out.hd
    go_enter Try.func70, Try.ntmps70
    go_wp2_with (first | ((with_reducible refine gate_dst (N := 6) rfl ?_); refine box_event ?hg (N := 6) ?hd (cs := #[.int .i64 0, .int .i64 0, .int .i64 0, .int .i64 0, .int .i64 0, .int .i64 0, .slice none 0 0]) (t := 25) ?hr ?_; (case hd => rfl); (case hg => rfl); (case hr => first | (go_simp; done) | (go_simp; rfl)); intro gr hg wk hbox hb; replace HP := Aside0.mk (Pd.box (by with_reducible repeat (first | exact HP.out | apply Pd.drew)) hg hbox hb); clear hg hbox hb; have hcz := cells7 (Pd.hd HP.out); have hfz := froz7 (Pd.hd HP.out); have hc0 := head_cell (Pd.hd (Pd.tl HP.out))))
    clear hcz hfz hc0
    refine (HQ.out _ _ HP.out (HS.out.mono fun _ h => h.tl)).mono ?_
    rintro _ w1 ⟨A1, n1, rfl, hl, hF, hp⟩
    replace HP := Aside0.mk hp
    have HF := Aside0.mk hF
    have HL := Aside0.mk hl
    clear hp hF hl HQ
    have hcz := cells7 (Pd.hd HP.out)
    have hfz := froz7 (Pd.hd HP.out)
    go_wp2
    refine bodyPost_ret (results_ct rfl _ _ gr 25 #[.int .i64 V.1, .int .i64 V.2.1, .int .i64 V.2.2.1, .int .i64 V.2.2.2.1, .int .i64 V.2.2.2.2.1, .int .i64 V.2.2.2.2.2.1, .slice A1 V.2.2.2.2.2.2.1.length n1] (0, 0) _ rfl (put7 (Pd.hd HP.out)) hu39 rfl (by kernel_rfl)) rfl ?_
    exact ⟨A1, n1, rfl, HL.out, Kd.F_mono (Kd.F_step HF.out (fun k hk hlt => far7 _ (hk _ List.mem_cons_self))) (fun k hk p hp => hk p (List.mem_cons_of_mem _ hp)), (Pd.st7 HP.out).tl⟩
  · have hV : setV e wd xs = (0, 0, 0, 0, 0, 0, [], e) := if_neg he
    rw [hV]
    have hd1 : (e != 0) = true := by simp; exact he
    have hd2 : decide (e = 0) = false := by simp; exact he
    have hc0 := head_cell HP.out.hd
    go_enter Try.func70, Try.ntmps70
    go_wp2_with (first | ((with_reducible refine gate_dst (N := 6) rfl ?_); refine box_event ?hg (N := 6) ?hd (cs := #[.int .i64 0, .int .i64 0, .int .i64 0, .int .i64 0, .int .i64 0, .int .i64 0, .slice none 0 0]) (t := 25) ?hr ?_; (case hd => rfl); (case hg => rfl); (case hr => first | (go_simp; done) | (go_simp; rfl)); intro gr hg wk hbox hb; replace HP := Aside0.mk (Pd.box (by with_reducible repeat (first | exact HP.out | apply Pd.drew)) hg hbox hb); clear hg hbox hb; have hcz := cells7 (Pd.hd HP.out); have hfz := froz7 (Pd.hd HP.out); have hc0 := head_cell (Pd.hd (Pd.tl HP.out))))
    clear hc0
    have hgr : g ≠ gr := Pd.ne1 HP.out
    have hc0 := head_cell (Pd.hd (Pd.tl HP.out))
    have hgr2 := hgr.symm
    go_region
    all_goals go_wp2
    refine bodyPost_ret (results_ct rfl _ _ gr 25 #[.int .i64 0, .int .i64 0, .int .i64 0, .int .i64 0, .int .i64 0, .int .i64 0, .slice none 0 0] (0, 0) _ rfl (blk_drew (put7 (Pd.hd HP.out))) hu39 rfl (by kernel_rfl)) rfl ?_
    exact ⟨none, 0, rfl, Nat.le_refl _, Kd.F_nil _ _ _, (Pd.st7 HP.out).tl.drew⟩
end
end Go.Proofs.Ytbhljokhcmfgjaa.P
