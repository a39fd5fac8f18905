import Derived.Test.YtbhljokhcmfgjaaGreatTPE
import Derived.Test.YtbhljokhcmfgjaaGreatTLimG
import Derived.Test.YtbhljokhcmfgjaaGreatTLimH
import Derived.Test.YtbhljokhcmfgjaaGreatTLimI
import Derived.Test.YtbhljokhcmfgjaaGreatTLimA
import Derived.Test.YtbhljokhcmfgjaaGreatTLimE
import Derived.Test.YtbhljokhcmfgjaaGreatTRefL11
import Derived.Test.YtbhljokhcmfgjaaGreatTRefL10
import Derived.Test.YtbhljokhcmfgjaaGreatTRefL01
import Derived.Test.YtbhljokhcmfgjaaGreatTRefL00
import Derived.Test.YtbhljokhcmfgjaaGreatTLimEq
/- Limits over rows of any length, the program's and the document's; few boxes in all. Printed by a program of this work (mkdoes29.py). -/
set_option linter.unusedVariables false
set_option linter.unusedSimpArgs false
namespace Go.Proofs.YtbhljokhcmfgjaaGreat.P
open Go.RowKit Go.Proofs.YtbhljokhcmfgjaaGreatW.PrintWords Go.Proofs.YtbhljokhcmfgjaaGreatW.PrintLast Go.Proofs.YtbhljokhcmfgjaaGreatW.PrintMore

theorem rd_mem39 (xs : List S39) (k : Nat) (h : k < xs.length) : rd_T39 xs (k : Int) ∈ xs := by
  have h1 : rd_T39 xs (k : Int) = xs[k] := by simp [rd_T39, List.getD_eq_getElem?_getD, h]
  rw [h1]
  exact List.getElem_mem h
set_option maxRecDepth 100000 in
set_option maxHeartbeats 2000000 in
theorem all_calls (xs : List S39) (hO : ∀ y ∈ xs, Ok39 y) (A : Option Addr) (n : Nat) (w : World) (hC : Kd.C k39 w A xs.length xs) : Calls Tryz.prog 6 #[.slice A xs.length n] w fun r w' => ∃ b, r = .returned (.bool b) ∧ Below w.heap.size w w' := by
  have hu39 := Tryz.underlying39
  have hmax := Kd.C_max hC
  have HC := Aside0.mk hC
  have HO := Aside0.mk hO
  have HP := Aside0.mk (Pd.start w)
  clear hC hO
  go_enter Tryz.func6, Tryz.ntmps6
  go_wp2
  go_loopw [3] (fun i wr => ∃ kk : Nat, kk ≤ xs.length ∧ i = .int .i64 kk ∧ Aside0 (Pd w wr [])) (fun i _ => xs.length - (intOf i).toNat)
  case atStart => exact ⟨0, Nat.zero_le _, rfl, HP⟩
  case round =>
    obtain ⟨kk, hk, rfl, HP⟩ := hrel
    by_cases h40 : xs.length ≤ 40
    · have hd40 : decide ((xs.length : Int) ≤ 40) = true := by simp; omega
      by_cases hlt : kk < xs.length
      · have hd1 : decide ((kk : Int) < (xs.length : Int)) = true := by simp; omega
        have hi0 : (0 : Int) ≤ (kk : Int) := Int.natCast_nonneg _
        have hi1 : (kk : Int) < (xs.length : Int) := by omega
        have hCr : Kd.C k39 wr A xs.length xs := Kd.C_below HC.out HP.out.bel
        obtain ⟨ad, A6, c6, hAd, h0, h1, h2, h3, h4, h5, h6, hl6, hr6⟩ := at_T39 hCr (kk : Int) hi0 hi1
        subst hAd
        have hmem : rd_T39 xs kk ∈ xs := rd_mem39 xs kk hlt
        have hOx := HO.out _ hmem
        obtain ⟨x, hx⟩ : ∃ x, x = rd_T39 xs kk := ⟨_, rfl⟩
        rw [← hx] at h0 h1 h2 h3 h4 h5 h6 hl6 hr6 hOx
        have HQ := Aside0.mk (few23_calls wr x hOx A6 c6 hl6 hr6)
        clear hl6 hr6 hx hCr hmem hOx
        simp only [Int.toNat_natCast] at h0 h1 h2 h3 h4 h5 h6
        go_wp2_with fail
        refine HQ.out.mono ?_
        rintro _ w1 ⟨b, rfl, hb⟩
        replace HP := Aside0.mk (Pd.below HP.out hb)
        clear hb HQ h0 h1 h2 h3 h4 h5 h6
        cases b with
        | false =>
          go_wp2
          go_ret
          exact ⟨_, rfl, HP.out.bel⟩
        | true =>
          go_wp2
          go_roundw
          case rel => exact ⟨kk + 1, by omega, by go_num, HP⟩
          case measure => simp [intOf] <;> omega
      · obtain rfl : kk = xs.length := by omega
        have hd1 : decide ((xs.length : Int) < (xs.length : Int)) = false := by simp
        go_wp2
        go_ret
        exact ⟨_, rfl, HP.out.bel⟩
    · have hd40 : decide ((xs.length : Int) ≤ 40) = false := by simp; omega
      by_cases hlt : kk < xs.length
      · have hd1 : decide ((kk : Int) < (xs.length : Int)) = true := by simp; omega
        go_wp2
        go_ret
        exact ⟨_, rfl, HP.out.bel⟩
      · have hd1 : decide ((kk : Int) < (xs.length : Int)) = false := by simp; omega
        go_wp2
        go_ret
        exact ⟨_, rfl, HP.out.bel⟩
set_option maxRecDepth 100000 in
set_option maxHeartbeats 2000000 in
theorem lim_many2 (F : S36) (c z : Int) (x : S39) (gl it : Int) (A : Option Addr) (n : Nat) (Au Ad : Option Addr) (m nu m2 nd : Nat) (cs : List Value) (w : World) (hF : FontIn w F cs) (h1 : ¬ 1 < m) (hn : 1 < m2) : Calls Tryz.prog 7 #[.agg cs.toArray, .int .i64 c, .int .i64 z, .agg #[.int .i64 x.f0, .int .i64 x.f1, .int .i64 x.f2, .int .i64 x.f3, .int .i64 x.f4, .int .i64 x.f5, .slice A x.f6.length n, .int .i64 gl, .int .i64 it], .slice Au m nu, .slice Ad m2 nd] w fun r w' => r = .returned (.tuple #[.agg #[.int .i64 0, .int .i64 0, .int .i64 0, .int .i64 0, .int .i64 0, .int .i64 0, .slice none 0 0], .int .i64 1]) ∧ Below w.heap.size w w' := by
  have hu39 := Tryz.underlying39
  obtain ⟨A6, c6, A7, c7, A8, c8, A9, c9, A10, c10, A11, c11, A12, c12, A13, c13, A15, c15, A16, c16, hcs, hcr⟩ := id hF
  subst hcs
  clear hcr hF
  have hd0 : decide ((m : Int) > 1) = false := decide_eq_false (by omega)
  have hd1 : decide ((m2 : Int) > 1) = true := decide_eq_true (by omega)
  have HP := Aside0.mk (Pd.start w)
  go_enter Tryz.func7, Tryz.ntmps7
  go_wp2_with (first | ((with_reducible refine gate_dst (N := 6) rfl ?_); refine box_event ?hg (N := 6) ?hd (cs := #[.int .i64 F.f0.f0, .int .i64 F.f0.f1, .int .i64 F.f0.f2, .int .i64 F.f0.f3, .int .i64 F.f0.f4, .bool F.f0.f5, .slice A6 F.f1.length c6, .slice A7 F.f2.length c7, .slice A8 F.f3.length c8, .slice A9 F.f4.f0.length c9, .slice A10 F.f4.f1.length c10, .slice A11 F.f4.f2.length c11, .slice A12 F.f4.f3.length c12, .slice A13 F.f4.f4.length c13, .int .i64 F.f4.f5.f0, .slice A15 F.f4.f5.f1.length c15, .slice A16 F.f4.f5.f2.length c16]) (t := 36) ?hr ?_; (case hd => rfl); (case hg => rfl); (case hr => first | (go_simp; done) | (go_simp; rfl)); intro gf hg wk hbox hb; replace HP := Aside0.mk (Pd.box (by with_reducible repeat (first | exact HP.out | apply Pd.drew)) hg hbox hb); clear hg hbox hb) | ((with_reducible refine gate_dst (N := 9) rfl ?_); refine box_event ?hg (N := 9) ?hd (cs := #[.int .i64 x.f0, .int .i64 x.f1, .int .i64 x.f2, .int .i64 x.f3, .int .i64 x.f4, .int .i64 x.f5, .slice A x.f6.length n, .int .i64 gl, .int .i64 it]) (t := 41) ?hr ?_; (case hd => rfl); (case hg => rfl); (case hr => first | (go_simp; done) | (go_simp; rfl)); intro gn hg wk hbox hb; replace HP := Aside0.mk (Pd.box (by with_reducible repeat (first | exact HP.out | apply Pd.drew)) hg hbox hb); clear hg hbox hb) | ((with_reducible refine gate_dst (N := 12) rfl ?_); refine box_event ?hg (N := 12) ?hd (cs := #[.int .i64 0, .int .i64 0, .int .i64 0, .int .i64 0, .int .i64 0, .int .i64 0, .slice none 0 0]) (t := 39) ?hr ?_; (case hd => rfl); (case hg => rfl); (case hr => first | (go_simp; done) | (go_simp; rfl)); intro gr hg wk hbox hb; replace HP := Aside0.mk (Pd.box (by with_reducible repeat (first | exact HP.out | apply Pd.drew)) hg hbox hb); clear hg hbox hb; have hcz := cells7 (Pd.hd HP.out); have hfz := froz7 (Pd.hd HP.out)))
  refine bodyPost_ret (results_ct rfl _ _ gr 39 #[.int .i64 0, .int .i64 0, .int .i64 0, .int .i64 0, .int .i64 0, .int .i64 0, .slice none 0 0] (0, 0) _ rfl (put7 (Pd.hd HP.out)) hu39 rfl (by kernel_rfl)) rfl ?_
  exact ⟨rfl, (Pd.st7 HP.out).bel⟩
set_option maxRecDepth 100000 in
set_option maxHeartbeats 2000000 in
theorem rlim_many (F : S36) (c z : Int) (x : S39) (gl it : Int) (A : Option Addr) (n : Nat) (Au Ad : Option Addr) (m nu m2 nd : Nat) (cs : List Value) (w : World) (hF : FontIn w F cs) (hn : 1 < m) : Calls Tryz.prog 8 #[.agg cs.toArray, .int .i64 c, .int .i64 z, .agg #[.int .i64 x.f0, .int .i64 x.f1, .int .i64 x.f2, .int .i64 x.f3, .int .i64 x.f4, .int .i64 x.f5, .slice A x.f6.length n, .int .i64 gl, .int .i64 it], .slice Au m nu, .slice Ad m2 nd] w fun r w' => r = .returned (.tuple #[.agg #[.int .i64 0, .int .i64 0, .int .i64 0, .int .i64 0, .int .i64 0, .int .i64 0, .slice none 0 0], .int .i64 1]) ∧ Below w.heap.size w w' := by
  have hu39 := Tryz.underlying39
  obtain ⟨A6, c6, A7, c7, A8, c8, A9, c9, A10, c10, A11, c11, A12, c12, A13, c13, A15, c15, A16, c16, hcs, hcr⟩ := id hF
  subst hcs
  clear hcr hF
  have hd1 : decide ((m : Int) > 1) = true := decide_eq_true (by omega)
  have HP := Aside0.mk (Pd.start w)
  go_enter Tryz.func8, Tryz.ntmps8
  go_wp2_with (first | ((with_reducible refine gate_dst (N := 6) rfl ?_); refine box_event ?hg (N := 6) ?hd (cs := #[.int .i64 F.f0.f0, .int .i64 F.f0.f1, .int .i64 F.f0.f2, .int .i64 F.f0.f3, .int .i64 F.f0.f4, .bool F.f0.f5, .slice A6 F.f1.length c6, .slice A7 F.f2.length c7, .slice A8 F.f3.length c8, .slice A9 F.f4.f0.length c9, .slice A10 F.f4.f1.length c10, .slice A11 F.f4.f2.length c11, .slice A12 F.f4.f3.length c12, .slice A13 F.f4.f4.length c13, .int .i64 F.f4.f5.f0, .slice A15 F.f4.f5.f1.length c15, .slice A16 F.f4.f5.f2.length c16]) (t := 36) ?hr ?_; (case hd => rfl); (case hg => rfl); (case hr => first | (go_simp; done) | (go_simp; rfl)); intro gf hg wk hbox hb; replace HP := Aside0.mk (Pd.box (by with_reducible repeat (first | exact HP.out | apply Pd.drew)) hg hbox hb); clear hg hbox hb) | ((with_reducible refine gate_dst (N := 9) rfl ?_); refine box_event ?hg (N := 9) ?hd (cs := #[.int .i64 x.f0, .int .i64 x.f1, .int .i64 x.f2, .int .i64 x.f3, .int .i64 x.f4, .int .i64 x.f5, .slice A x.f6.length n, .int .i64 gl, .int .i64 it]) (t := 41) ?hr ?_; (case hd => rfl); (case hg => rfl); (case hr => first | (go_simp; done) | (go_simp; rfl)); intro gn hg wk hbox hb; replace HP := Aside0.mk (Pd.box (by with_reducible repeat (first | exact HP.out | apply Pd.drew)) hg hbox hb); clear hg hbox hb) | ((with_reducible refine gate_dst (N := 12) rfl ?_); refine box_event ?hg (N := 12) ?hd (cs := #[.int .i64 0, .int .i64 0, .int .i64 0, .int .i64 0, .int .i64 0, .int .i64 0, .slice none 0 0]) (t := 39) ?hr ?_; (case hd => rfl); (case hg => rfl); (case hr => first | (go_simp; done) | (go_simp; rfl)); intro gr hg wk hbox hb; replace HP := Aside0.mk (Pd.box (by with_reducible repeat (first | exact HP.out | apply Pd.drew)) hg hbox hb); clear hg hbox hb; have hcz := cells7 (Pd.hd HP.out); have hfz := froz7 (Pd.hd HP.out)))
  refine bodyPost_ret (results_ct rfl _ _ gr 39 #[.int .i64 0, .int .i64 0, .int .i64 0, .int .i64 0, .int .i64 0, .int .i64 0, .slice none 0 0] (0, 0) _ rfl (put7 (Pd.hd HP.out)) hu39 rfl (by kernel_rfl)) rfl ?_
  exact ⟨rfl, (Pd.st7 HP.out).bel⟩
set_option maxRecDepth 100000 in
set_option maxHeartbeats 2000000 in
theorem rlim_many2 (F : S36) (c z : Int) (x : S39) (gl it : Int) (A : Option Addr) (n : Nat) (Au Ad : Option Addr) (m nu m2 nd : Nat) (cs : List Value) (w : World) (hF : FontIn w F cs) (h1 : ¬ 1 < m) (hn : 1 < m2) : Calls Tryz.prog 8 #[.agg cs.toArray, .int .i64 c, .int .i64 z, .agg #[.int .i64 x.f0, .int .i64 x.f1, .int .i64 x.f2, .int .i64 x.f3, .int .i64 x.f4, .int .i64 x.f5, .slice A x.f6.length n, .int .i64 gl, .int .i64 it], .slice Au m nu, .slice Ad m2 nd] w fun r w' => r = .returned (.tuple #[.agg #[.int .i64 0, .int .i64 0, .int .i64 0, .int .i64 0, .int .i64 0, .int .i64 0, .slice none 0 0], .int .i64 1]) ∧ Below w.heap.size w w' := by
  have hu39 := Tryz.underlying39
  obtain ⟨A6, c6, A7, c7, A8, c8, A9, c9, A10, c10, A11, c11, A12, c12, A13, c13, A15, c15, A16, c16, hcs, hcr⟩ := id hF
  subst hcs
  clear hcr hF
  have hd0 : decide ((m : Int) > 1) = false := decide_eq_false (by omega)
  have hd1 : decide ((m2 : Int) > 1) = true := decide_eq_true (by omega)
  have HP := Aside0.mk (Pd.start w)
  go_enter Tryz.func8, Tryz.ntmps8
  go_wp2_with (first | ((with_reducible refine gate_dst (N := 6) rfl ?_); refine box_event ?hg (N := 6) ?hd (cs := #[.int .i64 F.f0.f0, .int .i64 F.f0.f1, .int .i64 F.f0.f2, .int .i64 F.f0.f3, .int .i64 F.f0.f4, .bool F.f0.f5, .slice A6 F.f1.length c6, .slice A7 F.f2.length c7, .slice A8 F.f3.length c8, .slice A9 F.f4.f0.length c9, .slice A10 F.f4.f1.length c10, .slice A11 F.f4.f2.length c11, .slice A12 F.f4.f3.length c12, .slice A13 F.f4.f4.length c13, .int .i64 F.f4.f5.f0, .slice A15 F.f4.f5.f1.length c15, .slice A16 F.f4.f5.f2.length c16]) (t := 36) ?hr ?_; (case hd => rfl); (case hg => rfl); (case hr => first | (go_simp; done) | (go_simp; rfl)); intro gf hg wk hbox hb; replace HP := Aside0.mk (Pd.box (by with_reducible repeat (first | exact HP.out | apply Pd.drew)) hg hbox hb); clear hg hbox hb) | ((with_reducible refine gate_dst (N := 9) rfl ?_); refine box_event ?hg (N := 9) ?hd (cs := #[.int .i64 x.f0, .int .i64 x.f1, .int .i64 x.f2, .int .i64 x.f3, .int .i64 x.f4, .int .i64 x.f5, .slice A x.f6.length n, .int .i64 gl, .int .i64 it]) (t := 41) ?hr ?_; (case hd => rfl); (case hg => rfl); (case hr => first | (go_simp; done) | (go_simp; rfl)); intro gn hg wk hbox hb; replace HP := Aside0.mk (Pd.box (by with_reducible repeat (first | exact HP.out | apply Pd.drew)) hg hbox hb); clear hg hbox hb) | ((with_reducible refine gate_dst (N := 12) rfl ?_); refine box_event ?hg (N := 12) ?hd (cs := #[.int .i64 0, .int .i64 0, .int .i64 0, .int .i64 0, .int .i64 0, .int .i64 0, .slice none 0 0]) (t := 39) ?hr ?_; (case hd => rfl); (case hg => rfl); (case hr => first | (go_simp; done) | (go_simp; rfl)); intro gr hg wk hbox hb; replace HP := Aside0.mk (Pd.box (by with_reducible repeat (first | exact HP.out | apply Pd.drew)) hg hbox hb); clear hg hbox hb; have hcz := cells7 (Pd.hd HP.out); have hfz := froz7 (Pd.hd HP.out)))
  refine bodyPost_ret (results_ct rfl _ _ gr 39 #[.int .i64 0, .int .i64 0, .int .i64 0, .int .i64 0, .int .i64 0, .int .i64 0, .slice none 0 0] (0, 0) _ rfl (put7 (Pd.hd HP.out)) hu39 rfl (by kernel_rfl)) rfl ?_
  exact ⟨rfl, (Pd.st7 HP.out).bel⟩
/-- What limits are, whatever stands above and below. -/
def limsV (F : S36) (c z : Int) (x : S39) (it : Int) : List S39 → List S39 → BoxV
  | [], [] => lim00V F c z x it
  | [u], [] => lim10V F c z x it u
  | [], [d] => lim01V F c z x it d
  | [u], [d] => lim11V F c z x it u d
  | _, _ => (0, 0, 0, 0, 0, 0, [], 1)
theorem limsV_up {F : S36} {c z : Int} {x : S39} {it : Int} {u v : S39} {l down : List S39} : limsV F c z x it (u :: v :: l) down = (0, 0, 0, 0, 0, 0, [], 1) := by
  cases down with
  | nil => rfl
  | cons d l2 => cases l2 <;> rfl
theorem lims_any (F : S36) (c z : Int) (x : S39) (gl it : Int) (A : Option Addr) (n : Nat) (Au : Option Addr) (nu : Nat) (Ad : Option Addr) (nd : Nat) (cs : List Value) (w : World) (hF : FontIn w F cs) (hln : x.f6.length ≤ n) (hCn : Kd.C k67 w A x.f6.length x.f6) : ∀ (up down : List S39) (hCu : Kd.C k39 w Au up.length up) (hCd : Kd.C k39 w Ad down.length down), Calls Tryz.prog 7 #[.agg cs.toArray, .int .i64 c, .int .i64 z, .agg #[.int .i64 x.f0, .int .i64 x.f1, .int .i64 x.f2, .int .i64 x.f3, .int .i64 x.f4, .int .i64 x.f5, .slice A x.f6.length n, .int .i64 gl, .int .i64 it], .slice Au up.length nu, .slice Ad down.length nd] w fun r w' => ∃ A1 n1, r = .returned (.tuple #[.agg #[.int .i64 (limsV F c z x it up down).1, .int .i64 (limsV F c z x it up down).2.1, .int .i64 (limsV F c z x it up down).2.2.1, .int .i64 (limsV F c z x it up down).2.2.2.1, .int .i64 (limsV F c z x it up down).2.2.2.2.1, .int .i64 (limsV F c z x it up down).2.2.2.2.2.1, .slice A1 (limsV F c z x it up down).2.2.2.2.2.2.1.length n1], .int .i64 (limsV F c z x it up down).2.2.2.2.2.2.2]) ∧ (limsV F c z x it up down).2.2.2.2.2.2.1.length ≤ n1 ∧ Kd.C k67 w' A1 (limsV F c z x it up down).2.2.2.2.2.2.1.length (limsV F c z x it up down).2.2.2.2.2.2.1 ∧ Below w.heap.size w w'
  | [], [], _, _ => limz00_calls F c z x gl it A n Au nu Ad nd cs w hF hln hCn
  | [u], [], hCu, _ => limz10_calls F c z x gl it u A n Au nu Ad nd cs w hF hln hCn hCu
  | [], [d], _, hCd => limz01_calls F c z x gl it d A n Au nu Ad nd cs w hF hln hCn hCd
  | [u], [d], hCu, hCd => lim11_calls F c z x gl it u d A n Au nu Ad nd cs w hF hln hCn hCu hCd
  | u :: v :: l, down, _, _ => (lim_many F c z x gl it A n Au Ad (u :: v :: l).length nu down.length nd cs w hF (by simp)).mono (fun r w' h => ⟨none, 0, h.1.trans (by rw [limsV_up]; rfl), by rw [limsV_up]; exact Nat.le_refl _, by rw [limsV_up]; exact Kd.C_nil _ _, h.2⟩)
  | [], d :: e :: l, _, _ => (lim_many2 F c z x gl it A n Au Ad 0 nu (d :: e :: l).length nd cs w hF (by omega) (by simp)).mono (fun r w' h => ⟨none, 0, h.1.trans (by rw [show limsV _ _ _ _ _ _ _ = (0, 0, 0, 0, 0, 0, [], 1) from rfl]; rfl), by rw [show limsV _ _ _ _ _ _ _ = (0, 0, 0, 0, 0, 0, [], 1) from rfl]; exact Nat.le_refl _, by rw [show limsV _ _ _ _ _ _ _ = (0, 0, 0, 0, 0, 0, [], 1) from rfl]; exact Kd.C_nil _ _, h.2⟩)
  | [u], d :: e :: l, _, _ => (lim_many2 F c z x gl it A n Au Ad 1 nu (d :: e :: l).length nd cs w hF (by omega) (by simp)).mono (fun r w' h => ⟨none, 0, h.1.trans (by rw [show limsV _ _ _ _ _ _ _ = (0, 0, 0, 0, 0, 0, [], 1) from rfl]; rfl), by rw [show limsV _ _ _ _ _ _ _ = (0, 0, 0, 0, 0, 0, [], 1) from rfl]; exact Nat.le_refl _, by rw [show limsV _ _ _ _ _ _ _ = (0, 0, 0, 0, 0, 0, [], 1) from rfl]; exact Kd.C_nil _ _, h.2⟩)
theorem rlims_any (F : S36) (c z : Int) (x : S39) (gl it : Int) (A : Option Addr) (n : Nat) (Au : Option Addr) (nu : Nat) (Ad : Option Addr) (nd : Nat) (cs : List Value) (w : World) (hF : FontIn w F cs) (hln : x.f6.length ≤ n) (hCn : Kd.C k67 w A x.f6.length x.f6) : ∀ (up down : List S39) (hCu : Kd.C k39 w Au up.length up) (hCd : Kd.C k39 w Ad down.length down), Calls Tryz.prog 8 #[.agg cs.toArray, .int .i64 c, .int .i64 z, .agg #[.int .i64 x.f0, .int .i64 x.f1, .int .i64 x.f2, .int .i64 x.f3, .int .i64 x.f4, .int .i64 x.f5, .slice A x.f6.length n, .int .i64 gl, .int .i64 it], .slice Au up.length nu, .slice Ad down.length nd] w fun r w' => ∃ A1 n1, r = .returned (.tuple #[.agg #[.int .i64 (limsV F c z x it up down).1, .int .i64 (limsV F c z x it up down).2.1, .int .i64 (limsV F c z x it up down).2.2.1, .int .i64 (limsV F c z x it up down).2.2.2.1, .int .i64 (limsV F c z x it up down).2.2.2.2.1, .int .i64 (limsV F c z x it up down).2.2.2.2.2.1, .slice A1 (limsV F c z x it up down).2.2.2.2.2.2.1.length n1], .int .i64 (limsV F c z x it up down).2.2.2.2.2.2.2]) ∧ (limsV F c z x it up down).2.2.2.2.2.2.1.length ≤ n1 ∧ Kd.C k67 w' A1 (limsV F c z x it up down).2.2.2.2.2.2.1.length (limsV F c z x it up down).2.2.2.2.2.2.1 ∧ Below w.heap.size w w'
  | [], [], _, _ => by have h := rlim00_calls F c z x gl it A n Au nu Ad nd cs w hF hln hCn; rw [rlim00_eq] at h; exact h
  | [u], [], hCu, _ => by have h := rlim10_calls F c z x gl it u A n Au nu Ad nd cs w hF hln hCn hCu; rw [rlim10_eq] at h; exact h
  | [], [d], _, hCd => by have h := rlim01_calls F c z x gl it d A n Au nu Ad nd cs w hF hln hCn hCd; rw [rlim01_eq] at h; exact h
  | [u], [d], hCu, hCd => by have h := rlim11_calls F c z x gl it u d A n Au nu Ad nd cs w hF hln hCn hCu hCd; rw [rlim11_eq] at h; exact h
  | u :: v :: l, down, _, _ => (rlim_many F c z x gl it A n Au Ad (u :: v :: l).length nu down.length nd cs w hF (by simp)).mono (fun r w' h => ⟨none, 0, h.1.trans (by rw [limsV_up]; rfl), by rw [limsV_up]; exact Nat.le_refl _, by rw [limsV_up]; exact Kd.C_nil _ _, h.2⟩)
  | [], d :: e :: l, _, _ => (rlim_many2 F c z x gl it A n Au Ad 0 nu (d :: e :: l).length nd cs w hF (by omega) (by simp)).mono (fun r w' h => ⟨none, 0, h.1.trans (by rw [show limsV _ _ _ _ _ _ _ = (0, 0, 0, 0, 0, 0, [], 1) from rfl]; rfl), by rw [show limsV _ _ _ _ _ _ _ = (0, 0, 0, 0, 0, 0, [], 1) from rfl]; exact Nat.le_refl _, by rw [show limsV _ _ _ _ _ _ _ = (0, 0, 0, 0, 0, 0, [], 1) from rfl]; exact Kd.C_nil _ _, h.2⟩)
  | [u], d :: e :: l, _, _ => (rlim_many2 F c z x gl it A n Au Ad 1 nu (d :: e :: l).length nd cs w hF (by omega) (by simp)).mono (fun r w' h => ⟨none, 0, h.1.trans (by rw [show limsV _ _ _ _ _ _ _ = (0, 0, 0, 0, 0, 0, [], 1) from rfl]; rfl), by rw [show limsV _ _ _ _ _ _ _ = (0, 0, 0, 0, 0, 0, [], 1) from rfl]; exact Nat.le_refl _, by rw [show limsV _ _ _ _ _ _ _ = (0, 0, 0, 0, 0, 0, [], 1) from rfl]; exact Kd.C_nil _ _, h.2⟩)
end Go.Proofs.YtbhljokhcmfgjaaGreat.P
