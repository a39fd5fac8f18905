import Derived.Test.YtbhljokhcmfgjaaGreatTPB
/- What the texts behind need of this work's joined texts. -/
set_option linter.unusedVariables false
set_option linter.unusedSimpArgs false
set_option linter.unusedVariables false
set_option linter.unusedSimpArgs false
namespace Go.Proofs.YtbhljokhcmfgjaaGreat.P
open Go.RowKit Go.Proofs.YtbhljokhcmfgjaaGreatW.PrintWords Go.Proofs.YtbhljokhcmfgjaaGreatW.PrintLast Go.Proofs.YtbhljokhcmfgjaaGreatW.PrintMore
set_option linter.unusedVariables false
set_option linter.unusedSimpArgs false
theorem FontIn.of {w : World} {F : S36} {cs : List Value} (h : k36.K w F cs) : FontIn w F cs := by
  obtain ⟨_, _, rfl, ⟨_, _, rfl, rfl, ⟨_, _, rfl, rfl, ⟨_, _, rfl, rfl, ⟨_, _, rfl, rfl, ⟨_, _, rfl, rfl, rfl⟩⟩⟩⟩⟩, ⟨_, _, rfl, ⟨A6, c6, rfl, l6, g6⟩, ⟨_, _, rfl, ⟨A7, c7, rfl, l7, g7⟩, ⟨_, _, rfl, ⟨A8, c8, rfl, l8, g8⟩, ⟨_, _, rfl, ⟨A9, c9, rfl, l9, g9⟩, ⟨_, _, rfl, ⟨A10, c10, rfl, l10, g10⟩, ⟨_, _, rfl, ⟨A11, c11, rfl, l11, g11⟩, ⟨_, _, rfl, ⟨A12, c12, rfl, l12, g12⟩, ⟨_, _, rfl, ⟨A13, c13, rfl, l13, g13⟩, ⟨_, _, rfl, rfl, ⟨_, _, rfl, ⟨A15, c15, rfl, l15, g15⟩, ⟨A16, c16, rfl, l16, g16⟩⟩⟩⟩⟩⟩⟩⟩⟩⟩⟩⟩ := h
  exact ⟨A6, c6, A7, c7, A8, c8, A9, c9, A10, c10, A11, c11, A12, c12, A13, c13, A15, c15, A16, c16, rfl, l6, g6, l7, g7, l8, g8, l9, g9, l10, g10, l11, g11, l12, g12, l13, g13, l15, g15, l16, g16⟩
end Go.Proofs.YtbhljokhcmfgjaaGreat.P
set_option linter.unusedVariables false
set_option linter.unusedSimpArgs false
set_option linter.unusedVariables false
set_option linter.unusedSimpArgs false
namespace Go.Proofs.YtbhljokhcmfgjaaGreat.P
open Go.RowKit Go.Proofs.YtbhljokhcmfgjaaGreatW.PrintWords Go.Proofs.YtbhljokhcmfgjaaGreatW.PrintLast Go.Proofs.YtbhljokhcmfgjaaGreatW.PrintMore
set_option linter.unusedVariables false
set_option linter.unusedSimpArgs false
theorem size_kid (x : S39) (kk : Nat) (hk : kk < x.f6.length) : SizeOf.sizeOf x.f6[kk].f2 < SizeOf.sizeOf x := by
  have h1 := List.sizeOf_lt_of_mem (List.getElem_mem hk)
  have h2 : SizeOf.sizeOf x.f6[kk].f2 < SizeOf.sizeOf x.f6[kk] := by
    generalize x.f6[kk] = y
    obtain ⟨a, b, c⟩ := y
    simp only [S67.mk.sizeOf_spec]
    omega
  have h3 : SizeOf.sizeOf x.f6 < SizeOf.sizeOf x := by
    obtain ⟨a, b, c, d, e, f, g⟩ := x
    simp only [S39P.mk.sizeOf_spec]
    omega
  omega
set_option maxRecDepth 100000 in
set_option maxHeartbeats 3000000 in
theorem same_calls : ∀ (m : Nat) (x : S39), SizeOf.sizeOf x < m → ∀ (w : World) (A : Option Addr) (n : Nat) (B : Option Addr) (m1 : Nat), x.f6.length ≤ n → Kd.C k67 w A x.f6.length x.f6 → x.f6.length ≤ m1 → Kd.C k67 w B x.f6.length x.f6 →
    Calls Tryz.prog 10 #[.agg #[.int .i64 x.f0, .int .i64 x.f1, .int .i64 x.f2, .int .i64 x.f3, .int .i64 x.f4, .int .i64 x.f5, .slice A x.f6.length n], .agg #[.int .i64 x.f0, .int .i64 x.f1, .int .i64 x.f2, .int .i64 x.f3, .int .i64 x.f4, .int .i64 x.f5, .slice B x.f6.length m1]] w fun r w' => r = .returned (.bool true) ∧ Below w.heap.size w w' := by
  intro m
  induction m with
  | zero => intro x hx; exact absurd hx (Nat.not_lt_zero _)
  | succ m ih =>
    intro x hx w A n B m1 hl hC hm hD
    have hu39 := Tryz.underlying39
    have hu49 := Tryz.underlying67
    have HX := Aside0.mk hx
    have HC := Aside0.mk hC
    have HE := Aside0.mk hD
    have hmax := Kd.C_max hC
    clear hx hC hD hl hm
    have HP := Aside0.mk (Pd.start w)
    go_enter Tryz.func10, Tryz.ntmps10
    go_wp2_with (first | ((with_reducible refine gate_dst (N := 2) rfl ?_); refine box_event ?hg (N := 2) ?hd (cs := #[.int .i64 x.f0, .int .i64 x.f1, .int .i64 x.f2, .int .i64 x.f3, .int .i64 x.f4, .int .i64 x.f5, .slice A x.f6.length n]) (t := 39) ?hr ?_; (case hd => rfl); (case hg => rfl); (case hr => first | (go_simp; done) | (go_simp; rfl)); intro g2 hg wk hbox hb; replace HP := Aside0.mk (Pd.box (by with_reducible repeat (first | exact HP.out | apply Pd.drew)) hg hbox hb); clear hg hbox hb) | ((with_reducible refine gate_dst (N := 3) rfl ?_); refine box_event ?hg (N := 3) ?hd (cs := #[.int .i64 x.f0, .int .i64 x.f1, .int .i64 x.f2, .int .i64 x.f3, .int .i64 x.f4, .int .i64 x.f5, .slice B x.f6.length m1]) (t := 39) ?hr ?_; (case hd => rfl); (case hg => rfl); (case hr => first | (go_simp; done) | (go_simp; rfl)); intro g3 hg wk hbox hb; replace HP := Aside0.mk (Pd.box (by with_reducible repeat (first | exact HP.out | apply Pd.drew)) hg hbox hb); clear hg hbox hb; have hS2 := box_cells (Pd.hd (Pd.tl HP.out)); have hS3 := box_cells (Pd.hd HP.out)))
    clear hS2 hS3
    go_loopw [5] (fun i wr => ∃ kk : Nat, kk ≤ x.f6.length ∧ i = .int .i64 kk ∧ Aside0 (Pd w wr [(g3, .cells #[.int .i64 x.f0, .int .i64 x.f1, .int .i64 x.f2, .int .i64 x.f3, .int .i64 x.f4, .int .i64 x.f5, .slice B x.f6.length m1] 39), (g2, .cells #[.int .i64 x.f0, .int .i64 x.f1, .int .i64 x.f2, .int .i64 x.f3, .int .i64 x.f4, .int .i64 x.f5, .slice A x.f6.length n] 39)])) (fun i _ => x.f6.length - (intOf i).toNat)
    case atStart => exact ⟨0, Nat.zero_le _, rfl, HP⟩
    case round =>
      obtain ⟨kk, hk, rfl, HP⟩ := hrel
      have hS2 := box_cells (Pd.hd (Pd.tl HP.out))
      have hS3 := box_cells (Pd.hd HP.out)
      by_cases hlt : kk < x.f6.length
      · have hd1 : decide ((kk : Int) < (x.f6.length : Int)) = true := by simp; omega
        have hi0 : (0 : Int) ≤ (kk : Int) := Int.natCast_nonneg _
        have hi1 : (kk : Int) < (x.f6.length : Int) := by omega
        have hsz := size_kid x kk hlt
        obtain ⟨ad, A8, c8, hA, la, ca, fa⟩ := kid_keep HC.out kk hlt
        obtain ⟨be, B8, d8, hB, lb, cb, fb⟩ := kid_keep HE.out kk hlt
        subst hA
        subst hB
        obtain ⟨y, hy⟩ : ∃ y, y = x.f6[kk] := ⟨_, rfl⟩
        rw [← hy] at hsz la ca fa lb cb fb
        have HS := Aside0.mk (show SizeOf.sizeOf y.f2 < m by have := HX.out; omega)
        have HLA := Aside0.mk la
        have HCA := Aside0.mk ca
        have HLB := Aside0.mk lb
        have HCB := Aside0.mk cb
        have HA := Aside0.mk fa
        have HD := Aside0.mk fb
        clear hsz la ca fa lb cb fb hy
        go_wp2_with fail
        replace HP := Aside0.mk (Pd.drew HP.out)
        go_region_held3 (fun w' => (w'.cell? ⟨g2, 0, none⟩ = some (.int .i64 x.f0) ∧ w'.cell? ⟨g2, 1, none⟩ = some (.int .i64 x.f1) ∧ w'.cell? ⟨g2, 2, none⟩ = some (.int .i64 x.f2) ∧ w'.cell? ⟨g2, 3, none⟩ = some (.int .i64 x.f3) ∧ w'.cell? ⟨g2, 4, none⟩ = some (.int .i64 x.f4) ∧ w'.cell? ⟨g2, 5, none⟩ = some (.int .i64 x.f5) ∧ w'.cell? ⟨g2, 6, none⟩ = some (.slice (some ad) x.f6.length n)) ∧ (w'.cell? ⟨g3, 0, none⟩ = some (.int .i64 x.f0) ∧ w'.cell? ⟨g3, 1, none⟩ = some (.int .i64 x.f1) ∧ w'.cell? ⟨g3, 2, none⟩ = some (.int .i64 x.f2) ∧ w'.cell? ⟨g3, 3, none⟩ = some (.int .i64 x.f3) ∧ w'.cell? ⟨g3, 4, none⟩ = some (.int .i64 x.f4) ∧ w'.cell? ⟨g3, 5, none⟩ = some (.int .i64 x.f5) ∧ w'.cell? ⟨g3, 6, none⟩ = some (.slice (some be) x.f6.length m1)) ∧ (w'.cell? (ad.add (kk * 9)) = some (.int .i64 y.f0) ∧ w'.cell? ⟨(ad.add (kk * 9)).block, (ad.add (kk * 9)).off + 1, none⟩ = some (.int .i64 y.f1) ∧ w'.cell? ⟨(ad.add (kk * 9)).block, (ad.add (kk * 9)).off + 2, none⟩ = some (.int .i64 y.f2.f0) ∧ w'.cell? ⟨(ad.add (kk * 9)).block, (ad.add (kk * 9)).off + 3, none⟩ = some (.int .i64 y.f2.f1) ∧ w'.cell? ⟨(ad.add (kk * 9)).block, (ad.add (kk * 9)).off + 4, none⟩ = some (.int .i64 y.f2.f2) ∧ w'.cell? ⟨(ad.add (kk * 9)).block, (ad.add (kk * 9)).off + 5, none⟩ = some (.int .i64 y.f2.f3) ∧ w'.cell? ⟨(ad.add (kk * 9)).block, (ad.add (kk * 9)).off + 6, none⟩ = some (.int .i64 y.f2.f4) ∧ w'.cell? ⟨(ad.add (kk * 9)).block, (ad.add (kk * 9)).off + 7, none⟩ = some (.int .i64 y.f2.f5) ∧ w'.cell? ⟨(ad.add (kk * 9)).block, (ad.add (kk * 9)).off + 8, none⟩ = some (.slice A8 y.f2.f6.length c8)) ∧ (w'.cell? (be.add (kk * 9)) = some (.int .i64 y.f0) ∧ w'.cell? ⟨(be.add (kk * 9)).block, (be.add (kk * 9)).off + 1, none⟩ = some (.int .i64 y.f1) ∧ w'.cell? ⟨(be.add (kk * 9)).block, (be.add (kk * 9)).off + 2, none⟩ = some (.int .i64 y.f2.f0) ∧ w'.cell? ⟨(be.add (kk * 9)).block, (be.add (kk * 9)).off + 3, none⟩ = some (.int .i64 y.f2.f1) ∧ w'.cell? ⟨(be.add (kk * 9)).block, (be.add (kk * 9)).off + 4, none⟩ = some (.int .i64 y.f2.f2) ∧ w'.cell? ⟨(be.add (kk * 9)).block, (be.add (kk * 9)).off + 5, none⟩ = some (.int .i64 y.f2.f3) ∧ w'.cell? ⟨(be.add (kk * 9)).block, (be.add (kk * 9)).off + 6, none⟩ = some (.int .i64 y.f2.f4) ∧ w'.cell? ⟨(be.add (kk * 9)).block, (be.add (kk * 9)).off + 7, none⟩ = some (.int .i64 y.f2.f5) ∧ w'.cell? ⟨(be.add (kk * 9)).block, (be.add (kk * 9)).off + 8, none⟩ = some (.slice B8 y.f2.f6.length d8))) (first | exact ⟨box_cells (Pd.hd (Pd.tl HP.out)), box_cells (Pd.hd HP.out), HA.out _ HP.out.bel, HD.out _ HP.out.bel⟩ | exact ⟨box_cells (Pd.hd (Pd.tl HP.out.drew)), box_cells (Pd.hd HP.out.drew), HA.out _ HP.out.drew.bel, HD.out _ HP.out.drew.bel⟩) (first | (go_at_call 10; refine (ih y.f2 HS.out _ A8 c8 B8 d8 HLA.out (Kd.C_below HCA.out HP.out.bel) HLB.out (Kd.C_below HCB.out HP.out.bel)).mono ?_; rintro _ w1 ⟨rfl, hb⟩; replace HP := Aside0.mk (Pd.below HP.out hb); clear hb))
        go_wp2
        go_roundw
        case rel => exact ⟨kk + 1, by omega, by go_num, HP⟩
        case measure => simp [intOf] <;> omega
      · obtain rfl : kk = x.f6.length := by omega
        have hd1 : decide ((x.f6.length : Int) < (x.f6.length : Int)) = false := by simp
        go_wp2
        go_ret
        exact ⟨rfl, HP.out.bel⟩
end Go.Proofs.YtbhljokhcmfgjaaGreat.P
set_option linter.unusedVariables false
set_option linter.unusedSimpArgs false
