import Derived.Test.YtjkbblnebpgpfaaE7
import Derived.Test.YtjkbblnebpgpfaaE12
import Derived.Test.YtjkbblnebpgpfaaE13
import Derived.Test.YtjkbblnebpgpfaaE15
import Derived.Test.YtjkbblnebpgpfaaE16
import Derived.Test.YtjkbblnebpgpfaaE17
import Derived.Test.YtjkbblnebpgpfaaRows
import Derived.WalkKit
import Derived.ProofKit
import Derived.OpenShut
import Derived.ShutString
import Derived.ChangeOld
import Derived.Below
import Derived.SizedLaws
import Derived.Carry
/- Part 18 of the proof of stackCenter_holds: what it needs of this work's texts, joined. -/
set_option linter.unusedVariables false
set_option linter.unusedSimpArgs false
namespace Go.Proofs.Ytjkbblnebpgpfaa.P
open Go.RowKit Go.Proofs.YtjkbblnebpgpfaaW.PrintWords Go.Proofs.YtjkbblnebpgpfaaW.PrintLast Go.Proofs.YtjkbblnebpgpfaaW.PrintMore
set_option linter.unusedVariables false
set_option linter.unusedSimpArgs false
set_option maxRecDepth 100000 in
set_option maxHeartbeats 4000000 in
theorem piled_calls (w : World) : Calls Try.prog 20 #[] w fun r w' => r = .returned (.bool true) ∧ Below w.heap.size w w' := by
  have hu39 := Try.underlying39
  have hu49 := Try.underlying49
  have hu36 := Try.underlying36
  have HW := Aside0.mk (Below.refl w.heap.size w)
  go_enter Try.func20, Try.ntmps20
  go_wp2_with (first | ((with_reducible refine gate_dst (N := 12) rfl ?_); refine Kd.R_make (Kd.int .i64) _ 3 rfl (N := 12) rfl 27 _ _ rfl 56 rfl rfl Try.underlying27 (.int .i64 0) 8 info3 rfl (by decide) (by omega) 0 (ok := fun _ => True) (okp := fun _ => True) rfl (fun _ hk => hk) trivial (by omega) (by omega) (Below.refl _ _) (Nat.le_refl _) ?_; intro v wm ho hb hg_ hnew_; clear hg_ hnew_; obtain ⟨go, co, hv, gb, _, _⟩ := Kd.R_form ho (by decide); subst hv; have ho2 : Kd.R (Kd.int .i64) 3 wm w.heap.size (fun _ => True) (.slice (some ⟨go, 0, none⟩) 56 co) (List.replicate 56 0) := ho; have HO := Aside0.mk ho2; have HBM := Aside0.mk hb; have HGB := Aside0.mk gb; have hx5 : wm.cell? ⟨go, 5, none⟩ = some (.int .i64 0) := (Kd.R_celln 0 ho2 5 (by omega) (by omega)).1; have hf5 : wm.frozen? ⟨go, 5, none⟩ = false := (Kd.R_celln 0 ho2 5 (by omega) (by omega)).2; have hx38 : wm.cell? ⟨go, 38, none⟩ = some (.int .i64 0) := (Kd.R_celln 0 ho2 38 (by omega) (by omega)).1; have hf38 : wm.frozen? ⟨go, 38, none⟩ = false := (Kd.R_celln 0 ho2 38 (by omega) (by omega)).2; have hx33 : wm.cell? ⟨go, 33, none⟩ = some (.int .i64 0) := (Kd.R_celln 0 ho2 33 (by omega) (by omega)).1; have hf33 : wm.frozen? ⟨go, 33, none⟩ = false := (Kd.R_celln 0 ho2 33 (by omega) (by omega)).2; have hx37 : wm.cell? ⟨go, 37, none⟩ = some (.int .i64 0) := (Kd.R_celln 0 ho2 37 (by omega) (by omega)).1; have hf37 : wm.frozen? ⟨go, 37, none⟩ = false := (Kd.R_celln 0 ho2 37 (by omega) (by omega)).2; have hx40 : wm.cell? ⟨go, 40, none⟩ = some (.int .i64 0) := (Kd.R_celln 0 ho2 40 (by omega) (by omega)).1; have hf40 : wm.frozen? ⟨go, 40, none⟩ = false := (Kd.R_celln 0 ho2 40 (by omega) (by omega)).2; clear ho ho2 hb gb HW; simp only [List.length_replicate, Int.reduceToNat]) | ((with_reducible refine gate_dst (N := 2) rfl ?_); refine box_event ?hg (N := 2) ?hd (cs := #[.int .i64 0, .int .i64 0, .int .i64 0, .int .i64 0, .int .i64 0, .bool false, .slice none 0 0, .slice none 0 0, .slice none 0 0, .slice none 0 0, .slice none 0 0, .slice none 0 0, .slice none 0 0, .slice none 0 0, .int .i64 0, .slice none 0 0, .slice none 0 0]) (t := 36) ?hr ?_; (case hd => rfl); (case hg => rfl); (case hr => first | (go_simp; done) | (go_simp; rfl)); intro gf hg wf hbox hb; obtain ⟨o5, hP5, hco, hrow⟩ := pile_row HO.out HBM.out HGB.out; have HCO := Aside0.mk hco; have HROW := Aside0.mk hrow; have HP := Aside0.mk (Pd.box hP5 hg hbox hb); clear hP5 hco hrow hg hbox hb HO HBM HGB hx5 hf5 hx38 hf38 hx33 hf33 hx37 hf37 hx40 hf40; have hcz := cells17 (Pd.hd HP.out); have hfz := froz17 (Pd.hd HP.out)) | ((with_reducible refine gate_dst (N := 3) rfl ?_); refine box_event ?hg (N := 3) ?hd (cs := #[.int .i64 0, .int .i64 0, .int .i64 0, .int .i64 0, .int .i64 0, .int .i64 0, .slice none 0 0]) (t := 39) ?hr ?_; (case hd => rfl); (case hg => rfl); (case hr => first | (go_simp; done) | (go_simp; rfl)); intro g3 hg wk3 hbox hb; clear hcz hfz; replace HP := Aside0.mk (Pd.box (Pd.st17 HP.out) hg hbox hb); clear hg hbox hb; have hcz := cells7 (Pd.hd HP.out); have hfz := froz7 (Pd.hd HP.out)) | ((with_reducible refine gate_dst (N := 4) rfl ?_); refine box_event ?hg (N := 4) ?hd (cs := #[.int .i64 0, .int .i64 0, .int .i64 0, .int .i64 0, .int .i64 0, .int .i64 0, .slice none 0 0]) (t := 39) ?hr ?_; (case hd => rfl); (case hg => rfl); (case hr => first | (go_simp; done) | (go_simp; rfl)); intro g4 hg wk4 hbox hb; clear hcz hfz; replace HP := Aside0.mk (Pd.box (Pd.st7 HP.out) hg hbox hb); clear hg hbox hb; have hcz := cells7 (Pd.hd HP.out); have hfz := froz7 (Pd.hd HP.out); have hn3 := Pd.ne1 HP.out; have hs3 := cells7 (Pd.hd (Pd.tl HP.out))) | ((with_reducible refine gate_dst (N := 30) rfl ?_); refine wpList_load_row rfl 36 (.tmp 2) rfl gf (by rfl) 36 #[.int .i64 1000, .int .i64 1, .int .i64 1, .int .i64 0, .int .i64 0, .bool false, .slice none 0 0, .slice none 0 0, .slice none 0 0, .slice (some ⟨go, 0, none⟩) 56 co, .slice none 0 0, .slice none 0 0, .slice none 0 0, .slice none 0 0, .int .i64 0, .slice none 0 0, .slice none 0 0] (0, 0) _ (Pd.hd (Pd.tl (Pd.tl (Pd.st7 HP.out)))) hu36 rfl info_font ?_))
  refine (frac_calls pileF 0 1000 pileN none 0 pileD none 0 [.int .i64 1000, .int .i64 1, .int .i64 1, .int .i64 0, .int .i64 0, .bool false, .slice none 0 0, .slice none 0 0, .slice none 0 0, .slice (some ⟨go, 0, none⟩) 56 co, .slice none 0 0, .slice none 0 0, .slice none 0 0, .slice none 0 0, .int .i64 0, .slice none 0 0, .slice none 0 0] _ ?hF (Nat.le_refl _) ⟨rfl, Nat.zero_le _, fun h => absurd h (Nat.lt_irrefl 0)⟩ (Nat.le_refl _) ⟨rfl, Nat.zero_le _, fun h => absurd h (Nat.lt_irrefl 0)⟩).mono ?_
  case hF => exact pile_font HCO.out (HROW.out _ (Pd.hd (Pd.tl (Pd.tl (Pd.tl (Pd.st7 HP.out))))))
  rintro _ w5 ⟨A5, n5, rfl, hl, hC, hb⟩
  rw [pile_frac] at hl hC ⊢
  dsimp only at hl hC ⊢
  have HL5 := Aside0.mk hl
  have HC5 := Aside0.mk hC
  replace HP := Aside0.mk (Pd.below (Pd.st7 HP.out) hb)
  clear hl hb hC
  have HQ5 := Aside0.mk (Pd.start w5)
  clear hcz hfz hs3 hn3
  go_wp2_with (first | ((with_reducible refine gate_dst (N := 5) rfl ?_); refine box_event ?hg (N := 5) ?hd (cs := #[.int .i64 0, .int .i64 0, .int .i64 0, .int .i64 0, .int .i64 0, .int .i64 0, .slice none 0 0]) (t := 39) ?hr ?_; (case hd => rfl); (case hg => rfl); (case hr => first | (go_simp; done) | (go_simp; rfl)); intro g5 hg wk5 hbox hb; replace HP := Aside0.mk (Pd.box (HP.out) hg hbox hb); replace HQ5 := Aside0.mk (Pd.box (HQ5.out) hg hbox hb); clear hg hbox hb; have hcz := cells7 (Pd.hd HP.out); have hfz := froz7 (Pd.hd HP.out); have hn4 := Pd.ne1 HP.out; have hn3 := Pd.ne1 (Pd.skip HP.out); have hs4 := cells7 (Pd.hd (Pd.tl HP.out)); have hs3 := cells7 (Pd.hd (Pd.tl (Pd.tl HP.out)))) | ((with_reducible refine gate_dst (N := 7) rfl ?_); refine box_event ?hg (N := 7) ?hd (cs := #[.int .i64 0, .int .i64 0, .int .i64 0, .int .i64 0, .int .i64 0, .int .i64 0, .slice none 0 0]) (t := 39) ?hr ?_; (case hd => rfl); (case hg => rfl); (case hr => first | (go_simp; done) | (go_simp; rfl)); intro g7 hg wk7 hbox hb; replace HP := Aside0.mk (Pd.box (Pd.rowAt (Pd.st7 HP.out) (.cells #[.int .i64 100, .int .i64 390, .int .i64 2, .int .i64 100, .int .i64 50, .int .i64 20, .int .i64 0, .int .i64 0, .slice none 0 0, .int .i64 0, .int .i64 0, .int .i64 2, .int .i64 301, .int .i64 270, .int .i64 (-230), .int .i64 0, .int .i64 0, .slice none 0 0, .int .i64 0, .int .i64 0, .int .i64 2, .int .i64 301, .int .i64 60, .int .i64 0, .int .i64 0, .int .i64 0, .slice none 0 0] 49) (b := wk5.heap.size) (by simp [World.setCell])) hg hbox hb); replace HQ5 := Aside0.mk (Pd.box (Pd.rowAt (Pd.st7 HQ5.out) (.cells #[.int .i64 100, .int .i64 390, .int .i64 2, .int .i64 100, .int .i64 50, .int .i64 20, .int .i64 0, .int .i64 0, .slice none 0 0, .int .i64 0, .int .i64 0, .int .i64 2, .int .i64 301, .int .i64 270, .int .i64 (-230), .int .i64 0, .int .i64 0, .slice none 0 0, .int .i64 0, .int .i64 0, .int .i64 2, .int .i64 301, .int .i64 60, .int .i64 0, .int .i64 0, .int .i64 0, .slice none 0 0] 49) (b := wk5.heap.size) (by simp [World.setCell])) hg hbox hb); clear hg hbox hb; clear hcz hfz hn4 hn3 hs4 hs3; have hcz := cells7 (Pd.hd HP.out); have hfz := froz7 (Pd.hd HP.out); have hn3 := Pd.ne1 (Pd.skip (Pd.skip (Pd.skip HP.out))); have hs3 := cells7 (Pd.hd (Pd.tl (Pd.tl (Pd.tl (Pd.tl HP.out)))))) | ((with_reducible refine gate_dst (N := 45) rfl ?_); refine wpList_load_row rfl 36 (.tmp 2) rfl gf (by rfl) 36 #[.int .i64 1000, .int .i64 1, .int .i64 1, .int .i64 0, .int .i64 0, .bool false, .slice none 0 0, .slice none 0 0, .slice none 0 0, .slice (some ⟨go, 0, none⟩) 56 co, .slice none 0 0, .slice none 0 0, .slice none 0 0, .slice none 0 0, .int .i64 0, .slice none 0 0, .slice none 0 0] (0, 0) _ (Pd.hd (Pd.tl (Pd.tl (Pd.tl (Pd.tl (Pd.tl (Pd.st7 HP.out))))))) hu36 rfl info_font ?_))
  refine (center_calls pileF 2 1000 pileN none 0 [.int .i64 1000, .int .i64 1, .int .i64 1, .int .i64 0, .int .i64 0, .bool false, .slice none 0 0, .slice none 0 0, .slice none 0 0, .slice (some ⟨go, 0, none⟩) 56 co, .slice none 0 0, .slice none 0 0, .slice none 0 0, .slice none 0 0, .int .i64 0, .slice none 0 0, .slice none 0 0] _ ?hF (Nat.le_refl _) ⟨rfl, Nat.zero_le _, fun h => absurd h (Nat.lt_irrefl 0)⟩).mono ?_
  case hF => exact pile_font HCO.out (HROW.out _ (Pd.hd (Pd.tl (Pd.tl (Pd.tl (Pd.tl (Pd.tl (Pd.tl (Pd.st7 HP.out)))))))))
  rintro _ w8 ⟨A8, n8, rfl, hl, hC, hb⟩
  rw [pile_center] at hl hC ⊢
  dsimp only at hl hC ⊢
  have HL8 := Aside0.mk hl
  have HC8 := Aside0.mk hC
  replace HP := Aside0.mk (Pd.below (Pd.st7 HP.out) hb)
  replace HQ5 := Aside0.mk (Pd.below (Pd.st7 HQ5.out) hb)
  clear hl hb hC
  have HQ8 := Aside0.mk (Pd.start w8)
  clear hcz hfz hs3 hn3
  go_wp2_with (first | ((with_reducible refine gate_dst (N := 8) rfl ?_); refine box_event ?hg (N := 8) ?hd (cs := #[.int .i64 0, .int .i64 0, .int .i64 0, .int .i64 0, .int .i64 0, .int .i64 0, .slice none 0 0]) (t := 39) ?hr ?_; (case hd => rfl); (case hg => rfl); (case hr => first | (go_simp; done) | (go_simp; rfl)); intro g8 hg wk8 hbox hb; replace HP := Aside0.mk (Pd.box (HP.out) hg hbox hb); replace HQ5 := Aside0.mk (Pd.box (HQ5.out) hg hbox hb); replace HQ8 := Aside0.mk (Pd.box (HQ8.out) hg hbox hb); clear hg hbox hb; have hcz := cells7 (Pd.hd HP.out); have hfz := froz7 (Pd.hd HP.out); have hn4 := Pd.ne1 (Pd.skip (Pd.skip (Pd.skip HP.out))); have hn3 := Pd.ne1 (Pd.skip (Pd.skip (Pd.skip (Pd.skip HP.out)))); have hs4 := cells7 (Pd.hd (Pd.tl (Pd.tl (Pd.tl (Pd.tl HP.out))))); have hs3 := cells7 (Pd.hd (Pd.tl (Pd.tl (Pd.tl (Pd.tl (Pd.tl HP.out))))))) | ((with_reducible refine gate_dst (N := 51) rfl ?_); refine wpList_load_row rfl 36 (.tmp 2) rfl gf (by rfl) 36 #[.int .i64 1000, .int .i64 1, .int .i64 1, .int .i64 0, .int .i64 0, .bool false, .slice none 0 0, .slice none 0 0, .slice none 0 0, .slice (some ⟨go, 0, none⟩) 56 co, .slice none 0 0, .slice none 0 0, .slice none 0 0, .slice none 0 0, .int .i64 0, .slice none 0 0, .slice none 0 0] (0, 0) _ (Pd.hd (Pd.tl (Pd.tl (Pd.tl (Pd.tl (Pd.tl (Pd.tl (Pd.st7 HP.out)))))))) hu36 rfl info_font ?_))
  refine (atop_calls pileF 8 1000 pileN none 0 pileD none 0 [.int .i64 1000, .int .i64 1, .int .i64 1, .int .i64 0, .int .i64 0, .bool false, .slice none 0 0, .slice none 0 0, .slice none 0 0, .slice (some ⟨go, 0, none⟩) 56 co, .slice none 0 0, .slice none 0 0, .slice none 0 0, .slice none 0 0, .int .i64 0, .slice none 0 0, .slice none 0 0] _ ?hF (Nat.le_refl _) ⟨rfl, Nat.zero_le _, fun h => absurd h (Nat.lt_irrefl 0)⟩ (Nat.le_refl _) ⟨rfl, Nat.zero_le _, fun h => absurd h (Nat.lt_irrefl 0)⟩).mono ?_
  case hF => exact pile_font HCO.out (HROW.out _ (Pd.hd (Pd.tl (Pd.tl (Pd.tl (Pd.tl (Pd.tl (Pd.tl (Pd.tl (Pd.st7 HP.out))))))))))
  rintro _ w10 ⟨A10, n10, rfl, hl, hC, hb⟩
  obtain ⟨V, hV⟩ : ∃ V, V = atopV pileF 8 1000 pileN pileD := ⟨_, rfl⟩
  have hE := pile_atop
  rw [← hV] at hE hl ⊢
  rw [hE]
  clear hV hE hC
  replace HP := Aside0.mk (Pd.below (Pd.st7 HP.out) hb)
  replace HQ5 := Aside0.mk (Pd.below (Pd.st7 HQ5.out) hb)
  replace HQ8 := Aside0.mk (Pd.below (Pd.st7 HQ8.out) hb)
  clear hl hb
  clear hcz hfz hs3 hs4 hn3 hn4
  go_wp2_with (first | ((with_reducible refine gate_dst (N := 10) rfl ?_); refine box_event ?hg (N := 10) ?hd (cs := #[.int .i64 0, .int .i64 0, .int .i64 0, .int .i64 0, .int .i64 0, .int .i64 0, .slice none 0 0]) (t := 39) ?hr ?_; (case hd => rfl); (case hg => rfl); (case hr => first | (go_simp; done) | (go_simp; rfl)); intro g10 hg wk10 hbox hb; replace HP := Aside0.mk (Pd.box (HP.out) hg hbox hb); replace HQ5 := Aside0.mk (Pd.box (HQ5.out) hg hbox hb); replace HQ8 := Aside0.mk (Pd.box (HQ8.out) hg hbox hb); clear hg hbox hb; have hcz := cells7 (Pd.hd HP.out); have hfz := froz7 (Pd.hd HP.out); have hn7 := Pd.ne1 (Pd.skip HP.out); have hn5 := Pd.ne1 (Pd.skip (Pd.skip (Pd.skip HP.out))); have hs7 := cells7 (Pd.hd (Pd.tl (Pd.tl HP.out))); have hs5 := cells7 (Pd.hd (Pd.tl (Pd.tl (Pd.tl (Pd.tl HP.out)))))))
  clear hcz hfz hs5 hs7 hn5 hn7
  refine (same_calls _ ⟨3, 301, 440, 0, 0, 0, pileK⟩ (Nat.lt_succ_self _) _ A5 n5 (some ⟨wk5.heap.size, 0, none⟩) 3 HL5.out (Kd.C_below HC5.out (Pd.st7 HQ5.out).bel) (Nat.le_refl _) ?hR).mono ?_
  case hR => exact row_C (xs := pileK) (css := [[.int .i64 100, .int .i64 390, .int .i64 2, .int .i64 100, .int .i64 50, .int .i64 20, .int .i64 0, .int .i64 0, .slice none 0 0], [.int .i64 0, .int .i64 0, .int .i64 2, .int .i64 301, .int .i64 270, .int .i64 (-230), .int .i64 0, .int .i64 0, .slice none 0 0], [.int .i64 0, .int .i64 0, .int .i64 2, .int .i64 301, .int .i64 60, .int .i64 0, .int .i64 0, .int .i64 0, .slice none 0 0]]) ⟨k49_mk _ ⟨100, 390, pileN⟩ (A8 := none) (c8 := 0) (Nat.le_refl _) ⟨rfl, Nat.zero_le _, fun h => absurd h (Nat.lt_irrefl 0)⟩, k49_mk _ ⟨0, 0, ⟨2, 301, 270, -230, 0, 0, []⟩⟩ (A8 := none) (c8 := 0) (Nat.le_refl _) ⟨rfl, Nat.zero_le _, fun h => absurd h (Nat.lt_irrefl 0)⟩, k49_mk _ ⟨0, 0, pileD⟩ (A8 := none) (c8 := 0) (Nat.le_refl _) ⟨rfl, Nat.zero_le _, fun h => absurd h (Nat.lt_irrefl 0)⟩, trivial⟩ (Pd.hd (Pd.tl (Pd.tl (Pd.tl (Pd.st7 HP.out))))) (by decide)
  rintro _ w11 ⟨rfl, hb⟩
  replace HP := Aside0.mk (Pd.below (Pd.st7 HP.out) hb)
  replace HQ8 := Aside0.mk (Pd.below (Pd.st7 HQ8.out) hb)
  clear hb HQ5 HC5 HL5
  have hs8 := cells7 (Pd.hd (Pd.tl HP.out))
  obtain ⟨ad, Ax, cx, hA, h0, h1, _, _, _, _, _, _, _, _⟩ := at_T49 (Kd.C_below HC8.out HQ8.out.bel) 0 (Int.le_refl 0) (by simp)
  subst hA
  have ea : ad.add ((0 : Int).toNat * 9) = ad := by simp [Addr.add]
  rw [ea] at h0 h1
  have hx : w11.cell? ad = some (.int .i64 0) := h0
  have hy : w11.cell? ⟨ad.block, ad.off + 1, none⟩ = some (.int .i64 235) := h1
  clear h0 h1 ea
  go_wp2
  go_ret
  exact ⟨rfl, HP.out.bel⟩
end Go.Proofs.Ytjkbblnebpgpfaa.P

