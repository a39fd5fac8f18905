import Derived.Test.YtbhljokhcmfgjaaBarA
import Derived.Test.YtbhljokhcmfgjaaBar9
import Derived.Test.YtbhljokhcmfgjaaBar10
import Derived.Test.YtbhljokhcmfgjaaBarH
/- The example of the laws of layer 27 holds. Printed by a program of this work (mkbarred.py). -/
set_option linter.unusedVariables false
set_option linter.unusedSimpArgs false
namespace Go.Proofs.Ytbhljokhcmfgjaa.P
open Go.RowKit Go.Proofs.YtbhljokhcmfgjaaW.PrintWords Go.Proofs.YtbhljokhcmfgjaaW.PrintLast Go.Proofs.YtbhljokhcmfgjaaW.PrintMore

set_option maxRecDepth 100000 in
set_option maxHeartbeats 4000000 in
theorem barred_calls (hrad : RadCalls) (w : World) : Calls Try.prog 35 #[] w fun r w' => r = .returned (.bool true) ∧ Below w.heap.size w w' := by
  have hu39 := Try.underlying25
  have hu49 := Try.underlying41
  have hu36 := Try.underlying63
  have HW := Aside0.mk (Below.refl w.heap.size w)
  go_enter Try.func35, Try.ntmps35
  go_wp2_with (first | ((with_reducible refine gate_dst (N := 14) rfl ?_); refine Kd.R_make (Kd.int .i64) _ 3 rfl (N := 14) rfl 54 _ _ rfl 56 rfl rfl Try.underlying54 (.int .i64 0) 8 info3 rfl (by decide) (by omega) 0 (ok := fun _ => True) (okp := fun _ => True) rfl (fun _ hk => hk) trivial (by omega) (by omega) (Below.refl _ _) (Nat.le_refl _) ?_; intro v wm ho hb hg_ hnew_; clear hg_ hnew_; obtain ⟨go, co, hv, gb, _, _⟩ := Kd.R_form ho (by decide); subst hv; have ho2 : Kd.R (Kd.int .i64) 3 wm w.heap.size (fun _ => True) (.slice (some ⟨go, 0, none⟩) 56 co) (List.replicate 56 0) := ho; have HO := Aside0.mk ho2; have HBM := Aside0.mk hb; have HGB := Aside0.mk gb; have hx43 : wm.cell? ⟨go, 43, none⟩ = some (.int .i64 0) := (Kd.R_celln 0 ho2 43 (by omega) (by omega)).1; have hf43 : wm.frozen? ⟨go, 43, none⟩ = false := (Kd.R_celln 0 ho2 43 (by omega) (by omega)).2; have hx44 : wm.cell? ⟨go, 44, none⟩ = some (.int .i64 0) := (Kd.R_celln 0 ho2 44 (by omega) (by omega)).1; have hf44 : wm.frozen? ⟨go, 44, none⟩ = false := (Kd.R_celln 0 ho2 44 (by omega) (by omega)).2; have hx45 : wm.cell? ⟨go, 45, none⟩ = some (.int .i64 0) := (Kd.R_celln 0 ho2 45 (by omega) (by omega)).1; have hf45 : wm.frozen? ⟨go, 45, none⟩ = false := (Kd.R_celln 0 ho2 45 (by omega) (by omega)).2; have hx49 : wm.cell? ⟨go, 49, none⟩ = some (.int .i64 0) := (Kd.R_celln 0 ho2 49 (by omega) (by omega)).1; have hf49 : wm.frozen? ⟨go, 49, none⟩ = false := (Kd.R_celln 0 ho2 49 (by omega) (by omega)).2; have hx51 : wm.cell? ⟨go, 51, none⟩ = some (.int .i64 0) := (Kd.R_celln 0 ho2 51 (by omega) (by omega)).1; have hf51 : wm.frozen? ⟨go, 51, none⟩ = false := (Kd.R_celln 0 ho2 51 (by omega) (by omega)).2; clear ho ho2 hb gb HW; simp only [List.length_replicate, Int.reduceToNat]) | ((with_reducible refine gate_dst (N := 2) rfl ?_); refine box_event ?hg (N := 2) ?hd (cs := #[.int .i64 0, .int .i64 0, .int .i64 0, .int .i64 0, .int .i64 0, .bool false, .slice none 0 0, .slice none 0 0, .slice none 0 0, .slice none 0 0, .slice none 0 0, .slice none 0 0, .slice none 0 0, .slice none 0 0, .int .i64 0, .slice none 0 0, .slice none 0 0]) (t := 63) ?hr ?_; (case hd => rfl); (case hg => rfl); (case hr => first | (go_simp; done) | (go_simp; rfl)); intro gf hg wf hbox hb; obtain ⟨o5, hP5, hco, hrow⟩ := bar_row HO.out HBM.out HGB.out; have HCO := Aside0.mk hco; have HROW := Aside0.mk hrow; have HP := Aside0.mk (Pd.box hP5 hg hbox hb); clear hP5 hco hrow hg hbox hb HO HBM HGB hx43 hf43 hx44 hf44 hx45 hf45 hx49 hf49 hx51 hf51; have hcz := cells17 (Pd.hd HP.out); have hfz := froz17 (Pd.hd HP.out)) | ((with_reducible refine gate_dst (N := 3) rfl ?_); refine box_event ?hg (N := 3) ?hd (cs := #[.int .i64 0, .int .i64 0, .int .i64 0, .int .i64 0, .int .i64 0, .int .i64 0, .slice none 0 0]) (t := 25) ?hr ?_; (case hd => rfl); (case hg => rfl); (case hr => first | (go_simp; done) | (go_simp; rfl)); intro g3 hg wk3 hbox hb; clear hcz hfz; replace HP := Aside0.mk (Pd.box (Pd.st17 HP.out) hg hbox hb); clear hg hbox hb; have hcz := cells7 (Pd.hd HP.out); have hfz := froz7 (Pd.hd HP.out)) | (have hgo := hcz; clear hgo; (with_reducible refine gate_dst (N := 31) rfl ?_); refine Pd.fold (Pd.st7 HP.out) ?_; intro W1 h0; replace HP := Aside0.mk h0; clear h0 hcz hfz; have hs3 := cells7 (Pd.hd HP.out); refine wpList_load_row rfl 63 (.tmp 2) rfl gf (by rfl) 63 #[.int .i64 1000, .int .i64 1, .int .i64 1, .int .i64 0, .int .i64 0, .bool false, .slice none 0 0, .slice none 0 0, .slice none 0 0, .slice (some ⟨go, 0, none⟩) 56 co, .slice none 0 0, .slice none 0 0, .slice none 0 0, .slice none 0 0, .int .i64 0, .slice none 0 0, .slice none 0 0] (0, 0) _ (Pd.hd (Pd.tl HP.out)) hu36 rfl info_font ?_))
  clear hs3
  refine (over_calls barF 2 1000 barR none 0 [.int .i64 1000, .int .i64 1, .int .i64 1, .int .i64 0, .int .i64 0, .bool false, .slice none 0 0, .slice none 0 0, .slice none 0 0, .slice (some ⟨go, 0, none⟩) 56 co, .slice none 0 0, .slice none 0 0, .slice none 0 0, .slice none 0 0, .int .i64 0, .slice none 0 0, .slice none 0 0] _ (bar_font HCO.out (HROW.out _ (Pd.hd (Pd.tl (Pd.tl HP.out))))) (Nat.le_refl _) ⟨rfl, Nat.zero_le _, fun h => absurd h (Nat.lt_irrefl 0)⟩).mono ?_
  rintro _ w5 ⟨A5, n5, rfl, hl, hC, hb⟩
  rw [bar_over] at hl hC ⊢
  dsimp only at hl hC ⊢
  have HL5 := Aside0.mk hl
  have HC5 := Aside0.mk hC
  clear hl hC
  replace HP := Aside0.mk (Pd.below HP.out hb)
  clear hb
  have HQ5 := Aside0.mk (Pd.start w5)
  go_wp2_with (first | ((with_reducible refine gate_dst (N := 4) rfl ?_); refine box_event ?hg (N := 4) ?hd (cs := #[.int .i64 0, .int .i64 0, .int .i64 0, .int .i64 0, .int .i64 0, .int .i64 0, .slice none 0 0]) (t := 25) ?hr ?_; (case hd => rfl); (case hg => rfl); (case hr => first | (go_simp; done) | (go_simp; rfl)); intro g4 hg wk hbox hb; replace HP := Aside0.mk (Pd.box (HP.out) hg hbox hb); replace HQ5 := Aside0.mk (Pd.box (HQ5.out) hg hbox hb); clear hg hbox hb; have hcz := cells7 (Pd.hd HP.out); have hfz := froz7 (Pd.hd HP.out)) | (have hgo := hcz; clear hgo; (with_reducible refine gate_dst (N := 36) rfl ?_); refine Pd.fold2 (Pd.st7 HP.out) (Pd.st7 HQ5.out) ?_; intro wr h0 h1; replace HP := Aside0.mk h0; replace HQ5 := Aside0.mk h1; clear h0 h1 hcz hfz; have hs3 := cells7 (Pd.hd (Pd.tl HP.out))) | ((with_reducible refine gate_dst (N := 6) rfl ?_); refine box_event ?hg (N := 6) ?hd (cs := #[.int .i64 0, .int .i64 0, .int .i64 0, .int .i64 0, .int .i64 0, .int .i64 0, .slice none 0 0]) (t := 25) ?hr ?_; (case hd => rfl); (case hg => rfl); (case hr => first | (go_simp; done) | (go_simp; rfl)); intro g6 hg wk hbox hb; replace HP := Aside0.mk (Pd.box (Pd.row HP.out _) hg hbox hb); replace HQ5 := Aside0.mk (Pd.box (Pd.row HQ5.out _) hg hbox hb); clear hg hbox hb; clear hs3; have hcz := cells7 (Pd.hd HP.out); have hfz := froz7 (Pd.hd HP.out)) | (have hgo := hcz; clear hgo; (with_reducible refine gate_dst (N := 45) rfl ?_); refine Pd.fold2 (Pd.st7 HP.out) (Pd.st7 HQ5.out) ?_; intro W3 h0 h1; replace HP := Aside0.mk h0; replace HQ5 := Aside0.mk h1; clear h0 h1 hcz hfz; have hs3 := cells7 (Pd.hd (Pd.tl (Pd.tl (Pd.tl HP.out)))); refine wpList_load_row rfl 63 (.tmp 2) rfl gf (by rfl) 63 #[.int .i64 1000, .int .i64 1, .int .i64 1, .int .i64 0, .int .i64 0, .bool false, .slice none 0 0, .slice none 0 0, .slice none 0 0, .slice (some ⟨go, 0, none⟩) 56 co, .slice none 0 0, .slice none 0 0, .slice none 0 0, .slice none 0 0, .int .i64 0, .slice none 0 0, .slice none 0 0] (0, 0) _ (Pd.hd (Pd.tl (Pd.tl (Pd.tl (Pd.tl HP.out))))) hu36 rfl info_font ?_))
  clear hs3
  refine (barNeed_calls barF 2 1000 barR none 0 [.int .i64 1000, .int .i64 1, .int .i64 1, .int .i64 0, .int .i64 0, .bool false, .slice none 0 0, .slice none 0 0, .slice none 0 0, .slice (some ⟨go, 0, none⟩) 56 co, .slice none 0 0, .slice none 0 0, .slice none 0 0, .slice none 0 0, .int .i64 0, .slice none 0 0, .slice none 0 0] _ (bar_font HCO.out (HROW.out _ (Pd.hd (Pd.tl (Pd.tl (Pd.tl (Pd.tl (Pd.tl HP.out)))))))) (Nat.le_refl _) ⟨rfl, Nat.zero_le _, fun h => absurd h (Nat.lt_irrefl 0)⟩).mono ?_
  rintro _ w6 ⟨rfl, hb⟩
  rw [bar_need]
  dsimp only
  replace HP := Aside0.mk (Pd.below HP.out hb)
  replace HQ5 := Aside0.mk (Pd.below HQ5.out hb)
  clear hb
  go_wp2_with (first | ((with_reducible refine gate_dst (N := 9) rfl ?_); refine box_event ?hg (N := 9) ?hd (cs := #[.int .i64 0, .int .i64 0, .int .i64 0, .int .i64 0, .int .i64 0, .int .i64 0, .slice none 0 0]) (t := 25) ?hr ?_; (case hd => rfl); (case hg => rfl); (case hr => first | (go_simp; done) | (go_simp; rfl)); intro g9 hg wk hbox hb; replace HP := Aside0.mk (Pd.box (HP.out) hg hbox hb); replace HQ5 := Aside0.mk (Pd.box (HQ5.out) hg hbox hb); clear hg hbox hb; have hcz := cells7 (Pd.hd HP.out); have hfz := froz7 (Pd.hd HP.out)) | (have hgo := hcz; clear hgo; (with_reducible refine gate_dst (N := 52) rfl ?_); refine Pd.fold2 (Pd.st7 HP.out) (Pd.st7 HQ5.out) ?_; intro W4 h0 h1; replace HP := Aside0.mk h0; replace HQ5 := Aside0.mk h1; clear h0 h1 hcz hfz; have hs9 := cells7 (Pd.hd HP.out); have hs3 := cells7 (Pd.hd (Pd.tl (Pd.tl (Pd.tl (Pd.tl HP.out))))); refine wpList_load_row rfl 63 (.tmp 2) rfl gf (by rfl) 63 #[.int .i64 1000, .int .i64 1, .int .i64 1, .int .i64 0, .int .i64 0, .bool false, .slice none 0 0, .slice none 0 0, .slice none 0 0, .slice (some ⟨go, 0, none⟩) 56 co, .slice none 0 0, .slice none 0 0, .slice none 0 0, .slice none 0 0, .int .i64 0, .slice none 0 0, .slice none 0 0] (0, 0) _ (Pd.hd (Pd.tl (Pd.tl (Pd.tl (Pd.tl (Pd.tl HP.out)))))) hu36 rfl info_font ?_))
  clear hs3 hs9
  refine (hrad barF 2 1000 barR barS none none 0 0 [.int .i64 1000, .int .i64 1, .int .i64 1, .int .i64 0, .int .i64 0, .bool false, .slice none 0 0, .slice none 0 0, .slice none 0 0, .slice (some ⟨go, 0, none⟩) 56 co, .slice none 0 0, .slice none 0 0, .slice none 0 0, .slice none 0 0, .int .i64 0, .slice none 0 0, .slice none 0 0] _ (bar_font HCO.out (HROW.out _ (Pd.hd (Pd.tl (Pd.tl (Pd.tl (Pd.tl (Pd.tl (Pd.tl HP.out))))))))) (Nat.le_refl _) ⟨rfl, Nat.zero_le _, fun h => absurd h (Nat.lt_irrefl 0)⟩ (Nat.le_refl _) ⟨rfl, Nat.zero_le _, fun h => absurd h (Nat.lt_irrefl 0)⟩).mono ?_
  rintro _ w8 ⟨A8, n8, rfl, hl, hC, hb⟩
  rw [bar_rad] at hl hC ⊢
  dsimp only at hl hC ⊢
  have HC8 := Aside0.mk hC
  clear hl hC
  replace HP := Aside0.mk (Pd.below HP.out hb)
  replace HQ5 := Aside0.mk (Pd.below HQ5.out hb)
  clear hb
  have HQ8 := Aside0.mk (Pd.start w8)
  obtain ⟨ad, hA⟩ := kid_ad HC8.out (by simp)
  subst hA
  go_wp2_with (first | ((with_reducible refine gate_dst (N := 10) rfl ?_); refine box_event ?hg (N := 10) ?hd (cs := #[.int .i64 0, .int .i64 0, .int .i64 0, .int .i64 0, .int .i64 0, .int .i64 0, .slice none 0 0]) (t := 25) ?hr ?_; (case hd => rfl); (case hg => rfl); (case hr => first | (go_simp; done) | (go_simp; rfl)); intro g10 hg wk hbox hb; replace HP := Aside0.mk (Pd.box (HP.out) hg hbox hb); replace HQ5 := Aside0.mk (Pd.box (HQ5.out) hg hbox hb); replace HQ8 := Aside0.mk (Pd.box (HQ8.out) hg hbox hb); clear hg hbox hb; have hcz := cells7 (Pd.hd HP.out); have hfz := froz7 (Pd.hd HP.out)) | (have hgo := hcz; clear hgo; (with_reducible refine gate_dst (N := 59) rfl ?_); refine Pd.fold3 (Pd.st7 HP.out) (Pd.st7 HQ5.out) (Pd.st7 HQ8.out) ?_; intro W5 h0 h1 h2; replace HP := Aside0.mk h0; replace HQ5 := Aside0.mk h1; replace HQ8 := Aside0.mk h2; clear h0 h1 h2 hcz hfz; have hs9 := cells7 (Pd.hd (Pd.tl HP.out)); have hs3 := cells7 (Pd.hd (Pd.tl (Pd.tl (Pd.tl (Pd.tl (Pd.tl HP.out)))))); refine wpList_load_row rfl 63 (.tmp 2) rfl gf (by rfl) 63 #[.int .i64 1000, .int .i64 1, .int .i64 1, .int .i64 0, .int .i64 0, .bool false, .slice none 0 0, .slice none 0 0, .slice none 0 0, .slice (some ⟨go, 0, none⟩) 56 co, .slice none 0 0, .slice none 0 0, .slice none 0 0, .slice none 0 0, .int .i64 0, .slice none 0 0, .slice none 0 0] (0, 0) _ (Pd.hd (Pd.tl (Pd.tl (Pd.tl (Pd.tl (Pd.tl (Pd.tl HP.out))))))) hu36 rfl info_font ?_))
  clear hs3 hs9
  refine (rad_many _ barF 2 1000 barR barS none none 0 0 _ 2 2 [.int .i64 1000, .int .i64 1, .int .i64 1, .int .i64 0, .int .i64 0, .bool false, .slice none 0 0, .slice none 0 0, .slice none 0 0, .slice (some ⟨go, 0, none⟩) 56 co, .slice none 0 0, .slice none 0 0, .slice none 0 0, .slice none 0 0, .int .i64 0, .slice none 0 0, .slice none 0 0] (bar_font HCO.out (HROW.out _ (Pd.hd (Pd.tl (Pd.tl (Pd.tl (Pd.tl (Pd.tl (Pd.tl (Pd.tl (Pd.alloc HP.out _))))))))))) (by omega) (by omega)).mono ?_
  rintro _ w9 ⟨rfl, hb⟩
  replace HP := Aside0.mk (Pd.below (Pd.alloc HP.out _) hb)
  replace HQ5 := Aside0.mk (Pd.below (Pd.alloc HQ5.out _) hb)
  replace HQ8 := Aside0.mk (Pd.below (Pd.alloc HQ8.out _) hb)
  clear hb
  go_wp2_with (first | ((with_reducible refine gate_dst (N := 12) rfl ?_); refine box_event ?hg (N := 12) ?hd (cs := #[.int .i64 0, .int .i64 0, .int .i64 0, .int .i64 0, .int .i64 0, .int .i64 0, .slice none 0 0]) (t := 25) ?hr ?_; (case hd => rfl); (case hg => rfl); (case hr => first | (go_simp; done) | (go_simp; rfl)); intro g12 hg wk hbox hb; replace HP := Aside0.mk (Pd.box (HP.out) hg hbox hb); replace HQ5 := Aside0.mk (Pd.box (HQ5.out) hg hbox hb); replace HQ8 := Aside0.mk (Pd.box (HQ8.out) hg hbox hb); clear hg hbox hb; have hcz := cells7 (Pd.hd HP.out); have hfz := froz7 (Pd.hd HP.out)) | (have hgo := hcz; clear hgo; (with_reducible refine gate_dst (N := 71) rfl ?_); refine Pd.fold3 (Pd.st7 HP.out) (Pd.st7 HQ5.out) (Pd.st7 HQ8.out) ?_; intro W6 h0 h1 h2; replace HP := Aside0.mk h0; replace HQ5 := Aside0.mk h1; replace HQ8 := Aside0.mk h2; clear h0 h1 h2 hcz hfz; have hs4 := cells7 (Pd.hd (Pd.tl (Pd.tl (Pd.tl (Pd.tl (Pd.tl HP.out)))))); have hs6 := cells7 (Pd.hd (Pd.tl (Pd.tl (Pd.tl HP.out))))))
  clear hs4 hs6
  refine (same_calls _ ⟨3, 300, 670, 10, 0, 0, barK⟩ (Nat.lt_succ_self _) _ A5 n5 (some ⟨wr.heap.size, 0, none⟩) 3 HL5.out (Kd.C_below HC5.out HQ5.out.bel) (Nat.le_refl _) ?hR).mono ?_
  case hR => exact row_C (xs := barK) (css := [[.int .i64 0, .int .i64 0, .int .i64 2, .int .i64 300, .int .i64 500, .int .i64 10, .int .i64 0, .int .i64 0, .slice none 0 0], [.int .i64 0, .int .i64 600, .int .i64 2, .int .i64 300, .int .i64 40, .int .i64 0, .int .i64 0, .int .i64 0, .slice none 0 0], [.int .i64 0, .int .i64 0, .int .i64 0, .int .i64 0, .int .i64 670, .int .i64 0, .int .i64 0, .int .i64 0, .slice none 0 0]]) ⟨k41_mk _ ⟨0, 0, barR⟩ (A8 := none) (c8 := 0) (Nat.le_refl _) ⟨rfl, Nat.zero_le _, fun h => absurd h (Nat.lt_irrefl 0)⟩, k41_mk _ ⟨0, 600, ⟨2, 300, 40, 0, 0, 0, []⟩⟩ (A8 := none) (c8 := 0) (Nat.le_refl _) ⟨rfl, Nat.zero_le _, fun h => absurd h (Nat.lt_irrefl 0)⟩, k41_mk _ ⟨0, 0, ⟨0, 0, 670, 0, 0, 0, []⟩⟩ (A8 := none) (c8 := 0) (Nat.le_refl _) ⟨rfl, Nat.zero_le _, fun h => absurd h (Nat.lt_irrefl 0)⟩, trivial⟩ (Pd.hd (Pd.tl (Pd.tl (Pd.tl (Pd.tl HP.out))))) (by decide)
  rintro _ w11 ⟨rfl, hb⟩
  replace HP := Aside0.mk (Pd.below HP.out hb)
  replace HQ5 := Aside0.mk (Pd.below HQ5.out hb)
  replace HQ8 := Aside0.mk (Pd.below HQ8.out hb)
  clear hb
  have hs10 := cells7 (Pd.hd (Pd.tl HP.out))
  obtain ⟨hx0, hy0⟩ := kid_xy HC8.out HQ8.out.bel 0 (by simp)
  obtain ⟨hx1, hy1⟩ := kid_xy HC8.out HQ8.out.bel 1 (by simp)
  obtain ⟨hx2, hy2⟩ := kid_xy HC8.out HQ8.out.bel 2 (by simp)
  simp [Addr.add] at hy0 hy1 hx2
  clear hx0 hx1 hy2
  go_wp2
  go_ret
  exact ⟨rfl, HP.out.bel⟩
end Go.Proofs.Ytbhljokhcmfgjaa.P
