import Derived.Test.YtjkbblnebpgpfaaTRoots1
import Derived.Test.YtjkbblnebpgpfaaTBar10
import Derived.Test.YtjkbblnebpgpfaaTBarH
/- The law BarRoots: whatever degrees; the walk. Printed by a program of this work (mkroots.py). -/
set_option linter.unusedVariables false
set_option linter.unusedSimpArgs false
namespace Go.Proofs.Ytjkbblnebpgpfaa.P
open Go.RowKit Go.Proofs.YtjkbblnebpgpfaaW.PrintWords Go.Proofs.YtjkbblnebpgpfaaW.PrintLast Go.Proofs.YtjkbblnebpgpfaaW.PrintMore

theorem Pd.base {w W : World} {L : List (Nat × Obj)} (h : Pd w W L) : ∀ p ∈ L, W.heap[p.1]? = some p.2 := fun p hp => (h.loc p hp).1
theorem Pd.olds {w W : World} {L M : List (Nat × Obj)} (h : Pd w W L) (hM : ∀ p ∈ M, w.heap[p.1]? = some p.2) {b : Nat} {o : Obj} (hm : (b, o) ∈ M) : W.heap[b]? = some o := by
  have h1 := hM _ hm
  rw [h.bel.block b (blk_lt h1)]
  exact h1
theorem Pd.rebase {w W : World} {L M : List (Nat × Obj)} (h : Pd w W L) (hM : ∀ p ∈ M, w.heap[p.1]? = some p.2) : ∀ p ∈ L ++ M, W.heap[p.1]? = some p.2 := by
  intro p hp
  rcases List.mem_append.1 hp with hp | hp
  · exact (h.loc p hp).1
  · exact h.olds hM hp

set_option maxRecDepth 100000 in
set_option maxHeartbeats 3000000 in
theorem rrad_many (w : World) (F : S36) (c z : Int) (b s : S39) (Ab As : Option Addr) (nb ns : Nat) (A : Option Addr) (n m : Nat) (cs : List Value) (hF : FontIn w F cs) (hn : 1 < n) (hn2 : n ≤ 9223372036854775807) : Calls Try.prog 27 #[.agg cs.toArray, .int .i64 c, .int .i64 z, .agg #[.int .i64 b.f0, .int .i64 b.f1, .int .i64 b.f2, .int .i64 b.f3, .int .i64 b.f4, .int .i64 b.f5, .slice Ab b.f6.length nb], .agg #[.int .i64 s.f0, .int .i64 s.f1, .int .i64 s.f2, .int .i64 s.f3, .int .i64 s.f4, .int .i64 s.f5, .slice As s.f6.length ns], .slice A n m] w fun r w' => r = .returned (.tuple #[.agg #[.int .i64 0, .int .i64 0, .int .i64 0, .int .i64 0, .int .i64 0, .int .i64 0, .slice none 0 0], .int .i64 1]) ∧ Below w.heap.size w w' := by
  have hu39 := Try.underlying39
  have hu36 := Try.underlying36
  obtain ⟨A6, c6, A7, c7, A8, c8, A9, c9, A10, c10, A11, c11, A12, c12, A13, c13, A15, c15, A16, c16, hcs, hcr⟩ := id hF
  subst hcs
  clear hcr hF
  have hd1 : decide ((1 : Int) < (n : Int)) = true := by simp; omega
  have HP := Aside0.mk (Pd.start w)
  go_enter Try.func27, Try.ntmps27
  go_wp2_with (first | ((with_reducible refine gate_dst (N := 6) rfl ?_); refine box_event ?hg (N := 6) ?hd (cs := #[.int .i64 F.f0.f0, .int .i64 F.f0.f1, .int .i64 F.f0.f2, .int .i64 F.f0.f3, .int .i64 F.f0.f4, .bool F.f0.f5, .slice A6 F.f1.length c6, .slice A7 F.f2.length c7, .slice A8 F.f3.length c8, .slice A9 F.f4.f0.length c9, .slice A10 F.f4.f1.length c10, .slice A11 F.f4.f2.length c11, .slice A12 F.f4.f3.length c12, .slice A13 F.f4.f4.length c13, .int .i64 F.f4.f5.f0, .slice A15 F.f4.f5.f1.length c15, .slice A16 F.f4.f5.f2.length c16]) (t := 36) ?hr ?_; (case hd => rfl); (case hg => rfl); (case hr => first | (go_simp; done) | (go_simp; rfl)); intro gf hg wk hbox hb; replace HP := Aside0.mk (Pd.box (by with_reducible repeat (first | exact HP.out | apply Pd.drew)) hg hbox hb); clear hg hbox hb) | ((with_reducible refine gate_dst (N := 9) rfl ?_); refine box_event ?hg (N := 9) ?hd (cs := #[.int .i64 b.f0, .int .i64 b.f1, .int .i64 b.f2, .int .i64 b.f3, .int .i64 b.f4, .int .i64 b.f5, .slice Ab b.f6.length nb]) (t := 39) ?hr ?_; (case hd => rfl); (case hg => rfl); (case hr => first | (go_simp; done) | (go_simp; rfl)); intro gb hg wk hbox hb; replace HP := Aside0.mk (Pd.box (by with_reducible repeat (first | exact HP.out | apply Pd.drew)) hg hbox hb); clear hg hbox hb) | ((with_reducible refine gate_dst (N := 10) rfl ?_); refine box_event ?hg (N := 10) ?hd (cs := #[.int .i64 s.f0, .int .i64 s.f1, .int .i64 s.f2, .int .i64 s.f3, .int .i64 s.f4, .int .i64 s.f5, .slice As s.f6.length ns]) (t := 39) ?hr ?_; (case hd => rfl); (case hg => rfl); (case hr => first | (go_simp; done) | (go_simp; rfl)); intro gs hg wk hbox hb; replace HP := Aside0.mk (Pd.box (by with_reducible repeat (first | exact HP.out | apply Pd.drew)) hg hbox hb); clear hg hbox hb) | ((with_reducible refine gate_dst (N := 12) rfl ?_); refine box_event ?hg (N := 12) ?hd (cs := #[.int .i64 0, .int .i64 0, .int .i64 0, .int .i64 0, .int .i64 0, .int .i64 0, .slice none 0 0]) (t := 39) ?hr ?_; (case hd => rfl); (case hg => rfl); (case hr => first | (go_simp; done) | (go_simp; rfl)); intro gr hg wk hbox hb; replace HP := Aside0.mk (Pd.box (by with_reducible repeat (first | exact HP.out | apply Pd.drew)) hg hbox hb); clear hg hbox hb; have hcz := cells7 (Pd.hd HP.out); have hfz := froz7 (Pd.hd HP.out)))
  refine bodyPost_ret (results_ct rfl _ _ gr 39 #[.int .i64 0, .int .i64 0, .int .i64 0, .int .i64 0, .int .i64 0, .int .i64 0, .slice none 0 0] (0, 0) _ rfl (put7 (Pd.hd HP.out)) hu39 rfl (by kernel_rfl)) rfl ?_
  exact ⟨rfl, Pre.bel (Pd.toPre (Pd.st7 HP.out))⟩

theorem rd_mem39 (xs : List S39) (k : Nat) (h : k < xs.length) : rd_T39 xs (k : Int) ∈ xs := by
  have h1 : rd_T39 xs (k : Int) = xs[k] := by simp [rd_T39, List.getD_eq_getElem?_getD, h]
  rw [h1]
  exact List.getElem_mem h
set_option maxRecDepth 100000 in
set_option maxHeartbeats 2000000 in
theorem all_calls (xs : List S39) (hO : ∀ y ∈ xs, Ok39 y) (A : Option Addr) (n : Nat) (w : World) (hC : Kd.C k39 w A xs.length xs) : Calls Try.prog 25 #[.slice A xs.length n] w fun r w' => ∃ b, r = .returned (.bool b) ∧ Below w.heap.size w w' := by
  have hu39 := Try.underlying39
  have hmax := Kd.C_max hC
  have HC := Aside0.mk hC
  have HO := Aside0.mk hO
  have HP := Aside0.mk (Pd.start w)
  clear hC hO
  go_enter Try.func25, Try.ntmps25
  go_wp2
  go_loopw [3] (fun i wr => ∃ kk : Nat, kk ≤ xs.length ∧ i = .int .i64 kk ∧ Aside0 (Pd w wr [])) (fun i _ => xs.length - (intOf i).toNat)
  case atStart => exact ⟨0, Nat.zero_le _, rfl, HP⟩
  case round =>
    obtain ⟨kk, hk, rfl, HP⟩ := hrel
    by_cases h40 : xs.length ≤ 40
    · have hd40 : decide ((xs.length : Int) ≤ 40) = true := by simp; omega
      by_cases hlt : kk < xs.length
      · have hd1 : decide ((kk : Int) < (xs.length : Int)) = true := by simp; omega
        have hi0 : (0 : Int) ≤ (kk : Int) := Int.natCast_nonneg _
        have hi1 : (kk : Int) < (xs.length : Int) := by omega
        have hCr : Kd.C k39 wr A xs.length xs := Kd.C_below HC.out HP.out.bel
        obtain ⟨ad, A6, c6, hAd, h0, h1, h2, h3, h4, h5, h6, hl6, hr6⟩ := at_T39 hCr (kk : Int) hi0 hi1
        subst hAd
        have hmem : rd_T39 xs kk ∈ xs := rd_mem39 xs kk hlt
        have hOx := HO.out _ hmem
        obtain ⟨x, hx⟩ : ∃ x, x = rd_T39 xs kk := ⟨_, rfl⟩
        rw [← hx] at h0 h1 h2 h3 h4 h5 h6 hl6 hr6 hOx
        have HQ := Aside0.mk (few23_calls wr x hOx A6 c6 hl6 hr6)
        clear hl6 hr6 hx hCr hmem hOx
        simp only [Int.toNat_natCast] at h0 h1 h2 h3 h4 h5 h6
        go_wp2_with fail
        refine HQ.out.mono ?_
        rintro _ w1 ⟨b, rfl, hb⟩
        replace HP := Aside0.mk (Pd.below HP.out hb)
        clear hb HQ h0 h1 h2 h3 h4 h5 h6
        cases b with
        | false =>
          go_wp2
          go_ret
          exact ⟨_, rfl, HP.out.bel⟩
        | true =>
          go_wp2
          go_roundw
          case rel => exact ⟨kk + 1, by omega, by go_num, HP⟩
          case measure => simp [intOf] <;> omega
      · obtain rfl : kk = xs.length := by omega
        have hd1 : decide ((xs.length : Int) < (xs.length : Int)) = false := by simp
        go_wp2
        go_ret
        exact ⟨_, rfl, HP.out.bel⟩
    · have hd40 : decide ((xs.length : Int) ≤ 40) = false := by simp; omega
      by_cases hlt : kk < xs.length
      · have hd1 : decide ((kk : Int) < (xs.length : Int)) = true := by simp; omega
        go_wp2
        go_ret
        exact ⟨_, rfl, HP.out.bel⟩
      · have hd1 : decide ((kk : Int) < (xs.length : Int)) = false := by simp; omega
        go_wp2
        go_ret
        exact ⟨_, rfl, HP.out.bel⟩
/-- What a root comes to, whatever the degrees. -/
def RadPost (w : World) (V : BoxV) (r : Ending) (w' : World) : Prop := ∃ A1 n1, r = .returned (.tuple #[.agg #[.int .i64 V.1, .int .i64 V.2.1, .int .i64 V.2.2.1, .int .i64 V.2.2.2.1, .int .i64 V.2.2.2.2.1, .int .i64 V.2.2.2.2.2.1, .slice A1 V.2.2.2.2.2.2.1.length n1], .int .i64 V.2.2.2.2.2.2.2]) ∧ V.2.2.2.2.2.2.1.length ≤ n1 ∧ Kd.C k49 w' A1 V.2.2.2.2.2.2.1.length V.2.2.2.2.2.2.1 ∧ Below w.heap.size w w'
theorem rad_any (F : S36) (c z : Int) (b s : S39) (xs : List S39) : ∃ V : BoxV, (∀ (Ab As A : Option Addr) (nb ns n : Nat) (cs : List Value) (w : World), FontIn w F cs → b.f6.length ≤ nb → Kd.C k49 w Ab b.f6.length b.f6 → s.f6.length ≤ ns → Kd.C k49 w As s.f6.length s.f6 → Kd.C k39 w A xs.length xs → Calls Try.prog 26 #[.agg cs.toArray, .int .i64 c, .int .i64 z, .agg #[.int .i64 b.f0, .int .i64 b.f1, .int .i64 b.f2, .int .i64 b.f3, .int .i64 b.f4, .int .i64 b.f5, .slice Ab b.f6.length nb], .agg #[.int .i64 s.f0, .int .i64 s.f1, .int .i64 s.f2, .int .i64 s.f3, .int .i64 s.f4, .int .i64 s.f5, .slice As s.f6.length ns], .slice A xs.length n] w (RadPost w V)) ∧
    (∀ (Ab As A : Option Addr) (nb ns n : Nat) (cs : List Value) (w : World), FontIn w F cs → b.f6.length ≤ nb → Kd.C k49 w Ab b.f6.length b.f6 → s.f6.length ≤ ns → Kd.C k49 w As s.f6.length s.f6 → Kd.C k39 w A xs.length xs → Calls Try.prog 27 #[.agg cs.toArray, .int .i64 c, .int .i64 z, .agg #[.int .i64 b.f0, .int .i64 b.f1, .int .i64 b.f2, .int .i64 b.f3, .int .i64 b.f4, .int .i64 b.f5, .slice Ab b.f6.length nb], .agg #[.int .i64 s.f0, .int .i64 s.f1, .int .i64 s.f2, .int .i64 s.f3, .int .i64 s.f4, .int .i64 s.f5, .slice As s.f6.length ns], .slice A xs.length n] w (RadPost w V)) := by
  rcases xs with _ | ⟨d, _ | ⟨d2, rest⟩⟩
  · refine ⟨radV F c z b s, fun Ab As A nb ns n cs w hF lb hb ls hs hd => radA_calls F c z b s Ab As A nb ns n cs w hF lb hb ls hs, fun Ab As A nb ns n cs w hF lb hb ls hs hd => ?_⟩
    rw [rad_same0]
    exact rrad0_calls F c z b s Ab As A nb ns n cs w hF lb hb ls hs
  · refine ⟨radV1 F c z b s d (rd F.f4.f0 55), fun Ab As A nb ns n cs w hF lb hb ls hs hd => rad1_calls F c z b s d Ab As A nb ns n cs w hF lb hb ls hs hd, fun Ab As A nb ns n cs w hF lb hb ls hs hd => ?_⟩
    rw [rad_same1]
    exact rrad1_calls F c z b s d Ab As A nb ns n cs w hF lb hb ls hs hd
  · refine ⟨(0, 0, 0, 0, 0, 0, [], 1), fun Ab As A nb ns n cs w hF lb hb ls hs hd => ?_, fun Ab As A nb ns n cs w hF lb hb ls hs hd => ?_⟩
    · exact (rad_many w F c z b s Ab As nb ns A _ n cs hF (by simp only [List.length_cons]; omega) (Kd.C_max hd)).mono fun r w' ⟨h1, h2⟩ => ⟨none, 0, h1, Nat.le_refl _, Kd.C_nil _ _, h2⟩
    · exact (rrad_many w F c z b s Ab As nb ns A _ n cs hF (by simp only [List.length_cons]; omega) (Kd.C_max hd)).mono fun r w' ⟨h1, h2⟩ => ⟨none, 0, h1, Nat.le_refl _, Kd.C_nil _ _, h2⟩
theorem radA_rad : RadCalls := fun F c z b s Ab As nb ns cs w hF lb hb ls hs => radA_calls F c z b s Ab As none nb ns 0 cs w hF lb hb ls hs

set_option maxRecDepth 100000 in
set_option maxHeartbeats 3000000 in
theorem law_roots (w : World) (F : S36) (c z : Int) (b s : S39) (xs : List S39) (hOb : Ok39 b) (hOs : Ok39 s) (hOx : ∀ y ∈ xs, Ok39 y) (cs : List Value) (Ab : Option Addr) (nb : Nat) (As : Option Addr) (ns : Nat) (A : Option Addr) (n : Nat) (hF : FontIn w F cs) (hlb : b.f6.length ≤ nb) (hCb : Kd.C k49 w Ab b.f6.length b.f6) (hls : s.f6.length ≤ ns) (hCs : Kd.C k49 w As s.f6.length s.f6) (hCx : Kd.C k39 w A xs.length xs)
    (hbar : ∀ w : World, Calls Try.prog 28 #[] w fun r w' => r = .returned (.bool true) ∧ Below w.heap.size w w') :
    Calls Try.prog 7 #[.agg cs.toArray, .int .i64 c, .int .i64 z, .agg #[.int .i64 b.f0, .int .i64 b.f1, .int .i64 b.f2, .int .i64 b.f3, .int .i64 b.f4, .int .i64 b.f5, .slice Ab b.f6.length nb], .agg #[.int .i64 s.f0, .int .i64 s.f1, .int .i64 s.f2, .int .i64 s.f3, .int .i64 s.f4, .int .i64 s.f5, .slice As s.f6.length ns], .slice A xs.length n] w fun r w' => r = .returned (.bool true) ∧ Below w.heap.size w w' := by
  have hu39 := Try.underlying39
  have hu36 := Try.underlying36
  have hu49 := Try.underlying49
  have HF := Aside0.mk hF
  have HOb := Aside0.mk hOb
  have HLb := Aside0.mk hlb
  have HCb := Aside0.mk hCb
  have HOs := Aside0.mk hOs
  have HLs := Aside0.mk hls
  have HCs := Aside0.mk hCs
  have HOx := Aside0.mk hOx
  have HCx := Aside0.mk hCx
  obtain ⟨A6, c6, A7, c7, A8, c8, A9, c9, A10, c10, A11, c11, A12, c12, A13, c13, A15, c15, A16, c16, hcs, hcr⟩ := id hF
  subst hcs
  clear hcr hF hOb hlb hCb hOs hls hCs hOx hCx
  have HP := Aside0.mk (Pd.start w)
  go_enter Try.func7, Try.ntmps7
  go_wp2_with (first | ((with_reducible refine gate_dst (N := 6) rfl ?_); refine box_event ?hg (N := 6) ?hd (cs := #[.int .i64 F.f0.f0, .int .i64 F.f0.f1, .int .i64 F.f0.f2, .int .i64 F.f0.f3, .int .i64 F.f0.f4, .bool F.f0.f5, .slice A6 F.f1.length c6, .slice A7 F.f2.length c7, .slice A8 F.f3.length c8, .slice A9 F.f4.f0.length c9, .slice A10 F.f4.f1.length c10, .slice A11 F.f4.f2.length c11, .slice A12 F.f4.f3.length c12, .slice A13 F.f4.f4.length c13, .int .i64 F.f4.f5.f0, .slice A15 F.f4.f5.f1.length c15, .slice A16 F.f4.f5.f2.length c16]) (t := 36) ?hr ?_; (case hd => rfl); (case hg => rfl); (case hr => first | (go_simp; done) | (go_simp; rfl)); intro gf hg wk hbox hb; replace HP := Aside0.mk (Pd.box (by with_reducible repeat (first | exact HP.out | apply Pd.drew)) hg hbox hb); clear hg hbox hb) | ((with_reducible refine gate_dst (N := 9) rfl ?_); refine box_event ?hg (N := 9) ?hd (cs := #[.int .i64 b.f0, .int .i64 b.f1, .int .i64 b.f2, .int .i64 b.f3, .int .i64 b.f4, .int .i64 b.f5, .slice Ab b.f6.length nb]) (t := 39) ?hr ?_; (case hd => rfl); (case hg => rfl); (case hr => first | (go_simp; done) | (go_simp; rfl)); intro gb hg wk hbox hb; replace HP := Aside0.mk (Pd.box (by with_reducible repeat (first | exact HP.out | apply Pd.drew)) hg hbox hb); clear hg hbox hb) | ((with_reducible refine gate_dst (N := 10) rfl ?_); refine box_event ?hg (N := 10) ?hd (cs := #[.int .i64 s.f0, .int .i64 s.f1, .int .i64 s.f2, .int .i64 s.f3, .int .i64 s.f4, .int .i64 s.f5, .slice As s.f6.length ns]) (t := 39) ?hr ?_; (case hd => rfl); (case hg => rfl); (case hr => first | (go_simp; done) | (go_simp; rfl)); intro gs hg wk hbox hb; replace HP := Aside0.mk (Pd.box (by with_reducible repeat (first | exact HP.out | apply Pd.drew)) hg hbox hb); clear hg hbox hb; have hs_b := cells7 (Pd.hd (Pd.tl HP.out)); have hs_s := cells7 (Pd.hd HP.out)) | ((with_reducible refine gate_dst (N := 17) rfl ?_); refine wpList_load_row rfl 36 (.tmp 6) rfl gf (by rfl) 36 #[.int .i64 F.f0.f0, .int .i64 F.f0.f1, .int .i64 F.f0.f2, .int .i64 F.f0.f3, .int .i64 F.f0.f4, .bool F.f0.f5, .slice A6 F.f1.length c6, .slice A7 F.f2.length c7, .slice A8 F.f3.length c8, .slice A9 F.f4.f0.length c9, .slice A10 F.f4.f1.length c10, .slice A11 F.f4.f2.length c11, .slice A12 F.f4.f3.length c12, .slice A13 F.f4.f4.length c13, .int .i64 F.f4.f5.f0, .slice A15 F.f4.f5.f1.length c15, .slice A16 F.f4.f5.f2.length c16] (0, 0) _ (Pd.hd (Pd.tl (Pd.tl (by with_reducible repeat (first | exact HP.out | apply Pd.drew))))) hu36 rfl info_font ?_))
  clear hs_b hs_s
  refine (few27_calls _ F b s s Ab As As nb ns ns _ (HF.out.heap HP.out.bel) HOb.out HLb.out (Kd.C_below HCb.out HP.out.bel) HOs.out HLs.out (Kd.C_below HCs.out HP.out.bel) HOs.out HLs.out (Kd.C_below HCs.out HP.out.bel)).mono ?_
  rintro _ w1 ⟨q, rfl, hb⟩
  replace HP := Aside0.mk (Pd.below HP.out hb)
  clear hb
  cases q with
  | false =>
    go_wp2
    go_ret
    exact ⟨rfl, HP.out.bel⟩
  | true =>
    go_wp2_with fail
    refine (all_calls xs HOx.out A n _ (Kd.C_below HCx.out HP.out.bel)).mono ?_
    rintro _ w1 ⟨q, rfl, hb⟩
    replace HP := Aside0.mk (Pd.below HP.out hb)
    clear hb
    cases q with
    | false =>
      go_wp2
      go_ret
      exact ⟨rfl, HP.out.bel⟩
    | true =>
      obtain ⟨R, hR1, hR2⟩ := rad_any F c z b s xs
      have HR1 := Aside0.mk hR1
      have HR2 := Aside0.mk hR2
      clear hR1 hR2
      have HW := Aside0.mk HP.out.bel
      have HB := Aside0.mk (Pd.base HP.out)
      replace HF := Aside0.mk (HF.out.heap HP.out.bel)
      replace HCb := Aside0.mk (Kd.C_below HCb.out HP.out.bel)
      replace HCs := Aside0.mk (Kd.C_below HCs.out HP.out.bel)
      replace HCx := Aside0.mk (Kd.C_below HCx.out HP.out.bel)
      replace HP := Aside0.mk (Pd.start w1)
      have hs_b := cells7 (Pd.olds HP.out HB.out (b := gb) (o := .cells #[.int .i64 b.f0, .int .i64 b.f1, .int .i64 b.f2, .int .i64 b.f3, .int .i64 b.f4, .int .i64 b.f5, .slice Ab b.f6.length nb] 39 (0, 0)) (by with_reducible repeat (first | exact List.mem_cons_self | apply List.mem_cons_of_mem))); have hs_s := cells7 (Pd.olds HP.out HB.out (b := gs) (o := .cells #[.int .i64 s.f0, .int .i64 s.f1, .int .i64 s.f2, .int .i64 s.f3, .int .i64 s.f4, .int .i64 s.f5, .slice As s.f6.length ns] 39 (0, 0)) (by with_reducible repeat (first | exact List.mem_cons_self | apply List.mem_cons_of_mem)))
      go_wp2_with (first | ((with_reducible refine gate_dst (N := 29) rfl ?_); refine wpList_load_row rfl 36 (.tmp 6) rfl gf (by rfl) 36 #[.int .i64 F.f0.f0, .int .i64 F.f0.f1, .int .i64 F.f0.f2, .int .i64 F.f0.f3, .int .i64 F.f0.f4, .bool F.f0.f5, .slice A6 F.f1.length c6, .slice A7 F.f2.length c7, .slice A8 F.f3.length c8, .slice A9 F.f4.f0.length c9, .slice A10 F.f4.f1.length c10, .slice A11 F.f4.f2.length c11, .slice A12 F.f4.f3.length c12, .slice A13 F.f4.f4.length c13, .int .i64 F.f4.f5.f0, .slice A15 F.f4.f5.f1.length c15, .slice A16 F.f4.f5.f2.length c16] (0, 0) _ (Pd.olds HP.out HB.out (b := gf) (o := .cells #[.int .i64 F.f0.f0, .int .i64 F.f0.f1, .int .i64 F.f0.f2, .int .i64 F.f0.f3, .int .i64 F.f0.f4, .bool F.f0.f5, .slice A6 F.f1.length c6, .slice A7 F.f2.length c7, .slice A8 F.f3.length c8, .slice A9 F.f4.f0.length c9, .slice A10 F.f4.f1.length c10, .slice A11 F.f4.f2.length c11, .slice A12 F.f4.f3.length c12, .slice A13 F.f4.f4.length c13, .int .i64 F.f4.f5.f0, .slice A15 F.f4.f5.f1.length c15, .slice A16 F.f4.f5.f2.length c16] 36 (0, 0)) (by with_reducible repeat (first | exact List.mem_cons_self | apply List.mem_cons_of_mem))) hu36 rfl info_font ?_))
      clear hs_b hs_s
      refine (HR1.out _ _ _ _ _ _ _ _ (HF.out.heap HP.out.bel) HLb.out (Kd.C_below HCb.out HP.out.bel) HLs.out (Kd.C_below HCs.out HP.out.bel) (Kd.C_below HCx.out HP.out.bel)).mono ?_
      rintro _ w20 ⟨A20, n20, rfl, hl, hC, hb⟩
      replace HP := Aside0.mk (Pd.below HP.out hb)
      clear hb
      replace HW := Aside0.mk (below_step HW.out HP.out.bel)
      replace HB := Aside0.mk (Pd.rebase HP.out HB.out)
      replace HF := Aside0.mk (HF.out.heap HP.out.bel)
      replace HCb := Aside0.mk (Kd.C_below HCb.out HP.out.bel)
      replace HCs := Aside0.mk (Kd.C_below HCs.out HP.out.bel)
      replace HCx := Aside0.mk (Kd.C_below HCx.out HP.out.bel)
      have HL20 := Aside0.mk hl
      have HC20 := Aside0.mk hC
      clear hl hC
      replace HP := Aside0.mk (Pd.start w20)
      simp only [List.cons_append, List.nil_append] at HB
      go_wp2_with (first | ((with_reducible refine gate_dst (N := 13) rfl ?_); refine box_event ?hg (N := 13) ?hd (cs := #[.int .i64 0, .int .i64 0, .int .i64 0, .int .i64 0, .int .i64 0, .int .i64 0, .slice none 0 0]) (t := 39) ?hr ?_; (case hd => rfl); (case hg => rfl); (case hr => first | (go_simp; done) | (go_simp; rfl)); intro g13 hg wk9 hbox hb; replace HP := Aside0.mk (Pd.box HP.out hg hbox hb); clear hg hbox hb; have hcz := cells7 (Pd.hd HP.out); have hfz := froz7 (Pd.hd HP.out)) | (have hgo := hcz; clear hgo; (with_reducible refine gate_dst (N := 39) rfl ?_); refine Pd.fold (Pd.st7 HP.out) ?_; intro W' h0; replace HP := Aside0.mk h0; clear h0 hcz hfz; have hs_b := cells7 (Pd.olds HP.out HB.out (b := gb) (o := .cells #[.int .i64 b.f0, .int .i64 b.f1, .int .i64 b.f2, .int .i64 b.f3, .int .i64 b.f4, .int .i64 b.f5, .slice Ab b.f6.length nb] 39 (0, 0)) (by with_reducible repeat (first | exact List.mem_cons_self | apply List.mem_cons_of_mem))); have hs_s := cells7 (Pd.olds HP.out HB.out (b := gs) (o := .cells #[.int .i64 s.f0, .int .i64 s.f1, .int .i64 s.f2, .int .i64 s.f3, .int .i64 s.f4, .int .i64 s.f5, .slice As s.f6.length ns] 39 (0, 0)) (by with_reducible repeat (first | exact List.mem_cons_self | apply List.mem_cons_of_mem))); refine wpList_load_row rfl 36 (.tmp 6) rfl gf (by rfl) 36 #[.int .i64 F.f0.f0, .int .i64 F.f0.f1, .int .i64 F.f0.f2, .int .i64 F.f0.f3, .int .i64 F.f0.f4, .bool F.f0.f5, .slice A6 F.f1.length c6, .slice A7 F.f2.length c7, .slice A8 F.f3.length c8, .slice A9 F.f4.f0.length c9, .slice A10 F.f4.f1.length c10, .slice A11 F.f4.f2.length c11, .slice A12 F.f4.f3.length c12, .slice A13 F.f4.f4.length c13, .int .i64 F.f4.f5.f0, .slice A15 F.f4.f5.f1.length c15, .slice A16 F.f4.f5.f2.length c16] (0, 0) _ (Pd.olds HP.out HB.out (b := gf) (o := .cells #[.int .i64 F.f0.f0, .int .i64 F.f0.f1, .int .i64 F.f0.f2, .int .i64 F.f0.f3, .int .i64 F.f0.f4, .bool F.f0.f5, .slice A6 F.f1.length c6, .slice A7 F.f2.length c7, .slice A8 F.f3.length c8, .slice A9 F.f4.f0.length c9, .slice A10 F.f4.f1.length c10, .slice A11 F.f4.f2.length c11, .slice A12 F.f4.f3.length c12, .slice A13 F.f4.f4.length c13, .int .i64 F.f4.f5.f0, .slice A15 F.f4.f5.f1.length c15, .slice A16 F.f4.f5.f2.length c16] 36 (0, 0)) (by with_reducible repeat (first | exact List.mem_cons_self | apply List.mem_cons_of_mem))) hu36 rfl info_font ?_))
      clear hs_b hs_s
      refine (HR2.out _ _ _ _ _ _ _ _ (HF.out.heap HP.out.bel) HLb.out (Kd.C_below HCb.out HP.out.bel) HLs.out (Kd.C_below HCs.out HP.out.bel) (Kd.C_below HCx.out HP.out.bel)).mono ?_
      rintro _ w21 ⟨A21, n21, rfl, hl, hC, hb⟩
      replace HP := Aside0.mk (Pd.below HP.out hb)
      clear hb
      replace HW := Aside0.mk (below_step HW.out HP.out.bel)
      replace HB := Aside0.mk (Pd.rebase HP.out HB.out)
      replace HF := Aside0.mk (HF.out.heap HP.out.bel)
      replace HCb := Aside0.mk (Kd.C_below HCb.out HP.out.bel)
      replace HCs := Aside0.mk (Kd.C_below HCs.out HP.out.bel)
      replace HCx := Aside0.mk (Kd.C_below HCx.out HP.out.bel)
      replace HC20 := Aside0.mk (Kd.C_below HC20.out HP.out.bel)
      have HL21 := Aside0.mk hl
      have HC21 := Aside0.mk hC
      clear hl hC
      replace HP := Aside0.mk (Pd.start w21)
      simp only [List.cons_append, List.nil_append] at HB
      go_wp2_with (first | ((with_reducible refine gate_dst (N := 15) rfl ?_); refine box_event ?hg (N := 15) ?hd (cs := #[.int .i64 0, .int .i64 0, .int .i64 0, .int .i64 0, .int .i64 0, .int .i64 0, .slice none 0 0]) (t := 39) ?hr ?_; (case hd => rfl); (case hg => rfl); (case hr => first | (go_simp; done) | (go_simp; rfl)); intro g15 hg wk9 hbox hb; replace HP := Aside0.mk (Pd.box HP.out hg hbox hb); clear hg hbox hb; have hcz := cells7 (Pd.hd HP.out); have hfz := froz7 (Pd.hd HP.out)))
      refine (hbar _).mono ?_
      rintro _ w7 ⟨rfl, hb⟩
      replace HP := Aside0.mk (Pd.below (Pd.st7 HP.out) hb)
      clear hb hcz hfz
      have hs15 := cells7 (Pd.hd HP.out)
      have hs13 := cells7 (Pd.olds HP.out HB.out (b := g13) (o := .cells #[.int .i64 R.1, .int .i64 R.2.1, .int .i64 R.2.2.1, .int .i64 R.2.2.2.1, .int .i64 R.2.2.2.2.1, .int .i64 R.2.2.2.2.2.1, .slice A20 R.2.2.2.2.2.2.1.length n20] 39 (0, 0)) (by with_reducible repeat (first | exact List.mem_cons_self | apply List.mem_cons_of_mem)))
      go_wp2_with fail
      clear hs13 hs15
      refine (same_calls _ (⟨R.1, R.2.1, R.2.2.1, R.2.2.2.1, R.2.2.2.2.1, R.2.2.2.2.2.1, R.2.2.2.2.2.2.1⟩ : S39) (Nat.lt_succ_self _) _ A20 n20 A21 n21 HL20.out (Kd.C_below HC20.out HP.out.bel) HL21.out (Kd.C_below HC21.out HP.out.bel)).mono ?_
      rintro _ w7 ⟨rfl, hb⟩
      replace HP := Aside0.mk (Pd.below HP.out hb)
      clear hb
      go_wp2
      go_ret
      exact ⟨by simp, below_step HW.out HP.out.bel⟩
end Go.Proofs.Ytjkbblnebpgpfaa.P
