import Derived.Test.YtbhljokhcmfgjaaGreatK2
import Derived.Test.YtbhljokhcmfgjaaGreatE10
/- Part 11 of the proof of stackCenter_holds: what it needs of this work's texts, joined. -/
set_option linter.unusedVariables false
set_option linter.unusedSimpArgs false
namespace Go.Proofs.YtbhljokhcmfgjaaGreat.P
open Go.RowKit Go.Proofs.YtbhljokhcmfgjaaGreatW.PrintWords Go.Proofs.YtbhljokhcmfgjaaGreatW.PrintLast Go.Proofs.YtbhljokhcmfgjaaGreatW.PrintMore
attribute [local go_sem] max2_int min2_int max_two min_two max_three min_three max_four min_four   -- for this text's walks alone
set_option linter.unusedVariables false
set_option linter.unusedSimpArgs false
mutual
def vinculumref16_few.l0 : Nat → List (S133) → Int → Option (Bool)
  | 0, _, _ => none
  | k + 1, x0, x3 => if x3 < (x0.length : Int) then (vinculumref16_few.j1 k x0 x3 (decide ((x0.length : Int) ≤ 40))) else (vinculumref16_few.j1 k x0 x3 false)
def vinculumref16_few.j1 : Nat → List (S133) → Int → Bool → Option (Bool)
  | 0, _, _, _ => none
  | k + 1, x0, x3, x12 => if x12 = true then (if 0 ≤ x3 then (if x3 < (x0.length : Int) then (if (((rd_T133 x0 x3).f1).length : Int) > 80 then (some false) else (if (((rd_T133 x0 x3).f3).length : Int) > 50 then (some false) else (vinculumref16_few.l0 k x0 (wrap64 (x3 + 1))))) else (none)) else (none)) else (some (decide ((x0.length : Int) ≤ 40)))
end
def vinculumref16_few.f (k : Nat) (l0 : List (S133)) : Option (Bool) := vinculumref16_few.l0 k l0 0
theorem vinculumref16_few.mono_l : ∀ k, (∀ y0 y1, LeO (vinculumref16_few.l0 k y0 y1) (vinculumref16_few.l0 (k + 1) y0 y1)) ∧ (∀ y0 y1 y2, LeO (vinculumref16_few.j1 k y0 y1 y2) (vinculumref16_few.j1 (k + 1) y0 y1 y2))
  | 0 => ⟨fun _ _ r h => by simp [vinculumref16_few.l0] at h, fun _ _ _ r h => by simp [vinculumref16_few.j1] at h⟩
  | k + 1 => by
    obtain ⟨ih0, ih1⟩ := vinculumref16_few.mono_l k
    refine ⟨?_, ?_⟩
    · intro y0 y1
      unfold vinculumref16_few.l0
      repeat' first
      | (with_reducible exact ih0 _ _)
      | (with_reducible exact ih1 _ _ _)
      | (with_reducible exact LeO.refl _)
      | (with_reducible exact LeO.none _)
      | (with_reducible refine LeO.ite ?_ ?_)
      | (with_reducible refine LeO.bind ?_ (fun _ => ?_))
      | exact ih0 _ _
      | exact ih1 _ _ _
      | exact LeO.none _
      | refine LeO.ite ?_ ?_
      | refine LeO.bind ?_ (fun _ => ?_)
    · intro y0 y1 y2
      unfold vinculumref16_few.j1
      repeat' first
      | (with_reducible exact ih0 _ _)
      | (with_reducible exact ih1 _ _ _)
      | (with_reducible exact LeO.refl _)
      | (with_reducible exact LeO.none _)
      | (with_reducible refine LeO.ite ?_ ?_)
      | (with_reducible refine LeO.bind ?_ (fun _ => ?_))
      | exact ih0 _ _
      | exact ih1 _ _ _
      | exact LeO.none _
      | refine LeO.ite ?_ ?_
      | refine LeO.bind ?_ (fun _ => ?_)
theorem vinculumref16_few.mono : ∀ a0 k, LeO (vinculumref16_few.f k a0) (vinculumref16_few.f (k + 1) a0) := by
  intro a0 k
  obtain ⟨ih0, ih1⟩ := vinculumref16_few.mono_l k
  unfold vinculumref16_few.f
  repeat' first
      | (with_reducible exact ih0 _ _)
      | (with_reducible exact ih1 _ _ _)
      | (with_reducible exact LeO.refl _)
      | (with_reducible exact LeO.none _)
      | (with_reducible refine LeO.ite ?_ ?_)
      | (with_reducible refine LeO.bind ?_ (fun _ => ?_))
      | exact ih0 _ _
      | exact ih1 _ _ _
      | exact LeO.none _
      | refine LeO.ite ?_ ?_
      | refine LeO.bind ?_ (fun _ => ?_)
set_option maxHeartbeats 8000000 in
set_option maxRecDepth 100000 in
theorem vinculumref16_few.calls (k : Nat) (A0 : Option Addr) (c0 : Nat) (l0 : List (S133)) (r : Bool) (w : World) (hr0 : Kd.C k133 w A0 l0.length l0) (hc0 : l0.length ≤ c0) (h : vinculumref16_few.f k l0 = some r) :
    Calls Tryz.prog 96 #[.slice A0 l0.length c0] w fun e w' => e = .returned (.bool r) ∧ Drawn0 w w' := by
  have HR0 := Aside0.mk hr0
  have HC0 := Aside0.mk hc0
  clear hr0 hc0
  have H : (vinculumref16_few.l0 k l0 0) = some r := h
  clear h
  have H' := Aside0.mk H
  clear H
  go_enter Tryz.func96, Tryz.ntmps96
  go_wp2
  go_loopg [3] k (fun kq v3 w' => ∃ (x3_1 : Int), v3 = .int .i64 x3_1 ∧ Aside0 (vinculumref16_few.l0 kq l0 x3_1 = some r) ∧ Aside0 (kq ≤ k) ∧ Drawn0 w w')
  case atStart => exact ⟨(0), (by first | rfl | (simp; done) | (simp [*]; done)), H', ⟨Nat.le_refl _⟩, by repeat (first | exact Drawn0.refl _ | apply Drawn0.step)⟩
  case round =>
    clear H'
    try clear c1
    obtain ⟨x3_1, rfl, HA, HK1, ⟨m1, rfl⟩⟩ := hrel
    cases gk with
    | zero => exact absurd HA.out (by simp [vinculumref16_few.l0])
    | succ k1 =>
      have H := HA.out
      clear HA
      simp only [vinculumref16_few.l0] at H
      have HC2 := Aside0.mk H
      clear H
      go_upto_region 2 with (fail)
      go_cut [12] (fun v12 wc => ∃ (kq : Nat) (x12_1 : Bool), v12 = .bool x12_1 ∧ Aside0 (vinculumref16_few.j1 kq l0 x3_1 x12_1 = some r) ∧ Aside0 (kq ≤ k1) ∧ Drawn0 w wc)
      case first =>
        have H := HC2.out
        clear HC2
        by_cases c3 : x3_1 < (l0.length : Int)
        · rw [if_pos c3] at H
          have c3b0 : decide (x3_1 < (l0.length : Int)) = true := decide_eq_true c3
          clear c3
          (first | rw [c3b0] | (simp only [i64_w, i32_w]; rw [c3b0]) | skip)
          have H' := Aside0.mk H
          clear H
          go_wp2
          go_meet
          case rel => exact ⟨_, (decide ((l0.length : Int) ≤ 40)), (by first | rfl | (simp; done) | (simp [*]; done)), H', ⟨by have := HK1.out; first | omega | exact Nat.le_refl _⟩, by repeat (first | exact Drawn0.refl _ | apply Drawn0.step)⟩
        · rw [if_neg c3] at H
          have c3b0 : decide (x3_1 < (l0.length : Int)) = false := decide_eq_false c3
          clear c3
          (first | rw [c3b0] | (simp only [i64_w, i32_w]; rw [c3b0]) | skip)
          have H' := Aside0.mk H
          clear H
          go_wp2
          go_meet
          case rel => exact ⟨_, (false), (by first | rfl | (simp; done) | (simp [*]; done)), H', ⟨by have := HK1.out; first | omega | exact Nat.le_refl _⟩, by repeat (first | exact Drawn0.refl _ | apply Drawn0.step)⟩
      case rest =>
        clear HC2
        try clear c1
        try clear p2
        try clear c3
        try clear c3b0
        obtain ⟨kq, x12_1, rfl, HA, HJ1, ⟨mc1, rfl⟩⟩ := hcut
        cases kq with
        | zero => exact absurd HA.out (by simp [vinculumref16_few.j1])
        | succ kj1 =>
          have H := HA.out
          clear HA
          simp only [vinculumref16_few.j1] at H
          by_cases c4 : x12_1 = true
          · subst c4
            have H1 : (if 0 ≤ x3_1 then (if x3_1 < (l0.length : Int) then (if (((rd_T133 l0 x3_1).f1).length : Int) > 80 then (some false) else (if (((rd_T133 l0 x3_1).f3).length : Int) > 50 then (some false) else (vinculumref16_few.l0 kj1 l0 (wrap64 (x3_1 + 1))))) else (none)) else (none)) = some r := by rw [if_pos rfl] at H; exact H
            clear H
            have H := H1
            clear H1
            by_cases c5 : 0 ≤ x3_1
            · rw [if_pos c5] at H
              have c5b0 : decide (0 ≤ x3_1) = true := decide_eq_true c5
              clear c5
              by_cases c6 : x3_1 < (l0.length : Int)
              · rw [if_pos c6] at H
                have c6b0 : decide (x3_1 < (l0.length : Int)) = true := decide_eq_true c6
                clear c6
                by_cases c7 : (((rd_T133 l0 x3_1).f1).length : Int) > 80
                · rw [if_pos c7] at H
                  have c7b0 : decide (80 < (((rd_T133 l0 x3_1).f1).length : Int)) = true := decide_eq_true c7
                  have c7b1 : decide (80 < ((rd_T133 l0 x3_1).f1).length) = true := decide_eq_true (by omega)
                  clear c7
                  obtain rfl := Option.some.inj H
                  have p133 : 0 ≤ (x3_1 : Int) := of_decide_eq_true (by first | (with_reducible assumption) | assumption)
                  have q133 : x3_1 < (l0.length : Int) := of_decide_eq_true (by first | (with_reducible assumption) | assumption)
                  obtain ⟨ad133, A133_1, c133_1, A133_3, c133_3, e133, hx133_0, hx133_1, hx133_2, hx133_3, hl133_1, hi133_1, hl133_3, hi133_3⟩ := at_T133 HR0.out x3_1 p133 q133
                  cases e133
                  have HR133_1 := Aside0.mk hi133_1
                  have HC133_1 := Aside0.mk hl133_1
                  clear hi133_1 hl133_1
                  have HR133_3 := Aside0.mk hi133_3
                  have HC133_3 := Aside0.mk hl133_3
                  clear hi133_3 hl133_3
                  replace p133 := eq_true p133
                  replace q133 := eq_true q133
                  go_wp2
                  go_ret
                  exact ⟨by first | rfl | (simp; done) | (simp [*]; done), by repeat (first | exact Drawn0.refl _ | apply Drawn0.step)⟩
                · rw [if_neg c7] at H
                  have c7b0 : decide (80 < (((rd_T133 l0 x3_1).f1).length : Int)) = false := decide_eq_false c7
                  have c7b1 : decide (80 < ((rd_T133 l0 x3_1).f1).length) = false := decide_eq_false (by omega)
                  clear c7
                  by_cases c8 : (((rd_T133 l0 x3_1).f3).length : Int) > 50
                  · rw [if_pos c8] at H
                    have c8b0 : decide (50 < (((rd_T133 l0 x3_1).f3).length : Int)) = true := decide_eq_true c8
                    have c8b1 : decide (50 < ((rd_T133 l0 x3_1).f3).length) = true := decide_eq_true (by omega)
                    clear c8
                    obtain rfl := Option.some.inj H
                    have p133 : 0 ≤ (x3_1 : Int) := of_decide_eq_true (by first | (with_reducible assumption) | assumption)
                    have q133 : x3_1 < (l0.length : Int) := of_decide_eq_true (by first | (with_reducible assumption) | assumption)
                    obtain ⟨ad133, A133_1, c133_1, A133_3, c133_3, e133, hx133_0, hx133_1, hx133_2, hx133_3, hl133_1, hi133_1, hl133_3, hi133_3⟩ := at_T133 HR0.out x3_1 p133 q133
                    cases e133
                    have HR133_1 := Aside0.mk hi133_1
                    have HC133_1 := Aside0.mk hl133_1
                    clear hi133_1 hl133_1
                    have HR133_3 := Aside0.mk hi133_3
                    have HC133_3 := Aside0.mk hl133_3
                    clear hi133_3 hl133_3
                    replace p133 := eq_true p133
                    replace q133 := eq_true q133
                    have p134 : 0 ≤ (x3_1 : Int) := of_decide_eq_true (by first | (with_reducible assumption) | assumption)
                    have q134 : x3_1 < (l0.length : Int) := of_decide_eq_true (by first | (with_reducible assumption) | assumption)
                    obtain ⟨ad134, A134_1, c134_1, A134_3, c134_3, e134, hx134_0, hx134_1, hx134_2, hx134_3, hl134_1, hi134_1, hl134_3, hi134_3⟩ := at_T133 HR0.out x3_1 p134 q134
                    obtain rfl : ad133 = ad134 := (by injection e134)
                    have HR134_1 := Aside0.mk hi134_1
                    have HC134_1 := Aside0.mk hl134_1
                    clear hi134_1 hl134_1
                    have HR134_3 := Aside0.mk hi134_3
                    have HC134_3 := Aside0.mk hl134_3
                    clear hi134_3 hl134_3
                    replace p134 := eq_true p134
                    replace q134 := eq_true q134
                    have ea_ := Option.some.inj (hx133_1.symm.trans hx134_1)
                    injection ea_ with ea_ en_ ec_
                    subst ea_
                    subst ec_
                    clear en_
                    have ea_ := Option.some.inj (hx133_3.symm.trans hx134_3)
                    injection ea_ with ea_ en_ ec_
                    subst ea_
                    subst ec_
                    clear en_
                    go_wp2
                    go_ret
                    exact ⟨by first | rfl | (simp; done) | (simp [*]; done), by repeat (first | exact Drawn0.refl _ | apply Drawn0.step)⟩
                  · rw [if_neg c8] at H
                    have c8b0 : decide (50 < (((rd_T133 l0 x3_1).f3).length : Int)) = false := decide_eq_false c8
                    have c8b1 : decide (50 < ((rd_T133 l0 x3_1).f3).length) = false := decide_eq_false (by omega)
                    clear c8
                    have H' := Aside0.mk H
                    clear H
                    have p133 : 0 ≤ (x3_1 : Int) := of_decide_eq_true (by first | (with_reducible assumption) | assumption)
                    have q133 : x3_1 < (l0.length : Int) := of_decide_eq_true (by first | (with_reducible assumption) | assumption)
                    obtain ⟨ad133, A133_1, c133_1, A133_3, c133_3, e133, hx133_0, hx133_1, hx133_2, hx133_3, hl133_1, hi133_1, hl133_3, hi133_3⟩ := at_T133 HR0.out x3_1 p133 q133
                    cases e133
                    have HR133_1 := Aside0.mk hi133_1
                    have HC133_1 := Aside0.mk hl133_1
                    clear hi133_1 hl133_1
                    have HR133_3 := Aside0.mk hi133_3
                    have HC133_3 := Aside0.mk hl133_3
                    clear hi133_3 hl133_3
                    replace p133 := eq_true p133
                    replace q133 := eq_true q133
                    have p134 : 0 ≤ (x3_1 : Int) := of_decide_eq_true (by first | (with_reducible assumption) | assumption)
                    have q134 : x3_1 < (l0.length : Int) := of_decide_eq_true (by first | (with_reducible assumption) | assumption)
                    obtain ⟨ad134, A134_1, c134_1, A134_3, c134_3, e134, hx134_0, hx134_1, hx134_2, hx134_3, hl134_1, hi134_1, hl134_3, hi134_3⟩ := at_T133 HR0.out x3_1 p134 q134
                    obtain rfl : ad133 = ad134 := (by injection e134)
                    have HR134_1 := Aside0.mk hi134_1
                    have HC134_1 := Aside0.mk hl134_1
                    clear hi134_1 hl134_1
                    have HR134_3 := Aside0.mk hi134_3
                    have HC134_3 := Aside0.mk hl134_3
                    clear hi134_3 hl134_3
                    replace p134 := eq_true p134
                    replace q134 := eq_true q134
                    have ea_ := Option.some.inj (hx133_1.symm.trans hx134_1)
                    injection ea_ with ea_ en_ ec_
                    subst ea_
                    subst ec_
                    clear en_
                    have ea_ := Option.some.inj (hx133_3.symm.trans hx134_3)
                    injection ea_ with ea_ en_ ec_
                    subst ea_
                    subst ec_
                    clear en_
                    go_wp2
                    go_roundg kj1
                    case measure => have := HK1.out; have := HJ1.out; omega
                    case rel => exact ⟨(wrap64 (x3_1 + 1)), (by first | rfl | (simp; done) | (simp [*]; done)), H', ⟨by have := HK1.out; have := HJ1.out; omega⟩, by repeat (first | exact Drawn0.refl _ | apply Drawn0.step)⟩
              · rw [if_neg c6] at H
                exact absurd H (by simp)
            · rw [if_neg c5] at H
              exact absurd H (by simp)
          · replace c4 := Bool.eq_false_iff.mpr c4
            subst c4
            have H1 : (some (decide ((l0.length : Int) ≤ 40))) = some r := by rw [if_neg (show ¬ (false = true) by decide)] at H; exact H
            clear H
            have H := H1
            clear H1
            obtain rfl := Option.some.inj H
            go_wp2
            go_ret
            exact ⟨by first | rfl | (simp; done) | (simp [*]; done), by repeat (first | exact Drawn0.refl _ | apply Drawn0.step)⟩
end Go.Proofs.YtbhljokhcmfgjaaGreat.P

namespace Go.Proofs.YtbhljokhcmfgjaaGreat.P
open Go.RowKit Go.Proofs.YtbhljokhcmfgjaaGreatW.PrintWords Go.Proofs.YtbhljokhcmfgjaaGreatW.PrintLast Go.Proofs.YtbhljokhcmfgjaaGreatW.PrintMore
attribute [local go_sem] max2_int min2_int max_two min_two max_three min_three max_four min_four   -- for this text's walks alone
set_option linter.unusedVariables false
set_option linter.unusedSimpArgs false
def vinculumref16_Few.f (k : Nat) (a0_0 : Int) (l0_1 : List (S133)) (l0_2 : List (S133)) : Option (Bool) := (vinculumref16_few.f k l0_1).bind fun t136 => (if t136 = true then ((vinculumref16_few.f k l0_2).bind fun t137 => (some t137)) else (some false))
theorem vinculumref16_Few.mono : ∀ a0 a1 a2 k, LeO (vinculumref16_Few.f k a0 a1 a2) (vinculumref16_Few.f (k + 1) a0 a1 a2) := by
  intro a0 a1 a2 k
  unfold vinculumref16_Few.f
  repeat' first
      | (with_reducible exact vinculumref16_few.mono _ _)
      | (with_reducible exact LeO.refl _)
      | (with_reducible exact LeO.none _)
      | (with_reducible refine LeO.ite ?_ ?_)
      | (with_reducible refine LeO.bind ?_ (fun _ => ?_))
      | exact vinculumref16_few.mono _ _
      | exact LeO.none _
      | refine LeO.ite ?_ ?_
      | refine LeO.bind ?_ (fun _ => ?_)
set_option maxHeartbeats 8000000 in
set_option maxRecDepth 100000 in
theorem vinculumref16_Few.calls (k : Nat) (a0_0 : Int) (A0_1 : Option Addr) (c0_1 : Nat) (l0_1 : List (S133)) (A0_2 : Option Addr) (c0_2 : Nat) (l0_2 : List (S133)) (r : Bool) (w : World) (hr0_1 : Kd.C k133 w A0_1 l0_1.length l0_1) (hc0_1 : l0_1.length ≤ c0_1) (hr0_2 : Kd.C k133 w A0_2 l0_2.length l0_2) (hc0_2 : l0_2.length ≤ c0_2) (h : vinculumref16_Few.f k a0_0 l0_1 l0_2 = some r) :
    Calls Tryz.prog 70 #[.agg #[.int .i64 a0_0, .slice A0_1 l0_1.length c0_1, .slice A0_2 l0_2.length c0_2]] w fun e w' => e = .returned (.bool r) ∧ Below w.heap.size w w' := by
  have hu32 := Tryz.underlying32
  have HR0_1 := Aside0.mk hr0_1
  have HC0_1 := Aside0.mk hc0_1
  clear hr0_1 hc0_1
  have HR0_2 := Aside0.mk hr0_2
  have HC0_2 := Aside0.mk hc0_2
  clear hr0_2 hc0_2
  have HB := Aside0.mk (Below.refl w.heap.size w)
  have H : ((vinculumref16_few.f k l0_1).bind fun t136 => (if t136 = true then ((vinculumref16_few.f k l0_2).bind fun t137 => (some t137)) else (some false))) = some r := h
  clear h
  replace H := Option.bind_eq_some_iff.mp H
  obtain ⟨t136, A20, H⟩ := H
  replace H : (if t136 = true then ((vinculumref16_few.f k l0_2).bind fun t137 => (some t137)) else (some false)) = some r := H
  have A2 := Aside0.mk A20
  clear A20
  by_cases c3 : t136 = true
  · subst c3
    have H1 : ((vinculumref16_few.f k l0_2).bind fun t137 => (some t137)) = some r := by rw [if_pos rfl] at H; exact H
    clear H
    have H := H1
    clear H1
    replace H := Option.bind_eq_some_iff.mp H
    obtain ⟨t137, A40, H⟩ := H
    replace H : (some t137) = some r := H
    have A4 := Aside0.mk A40
    clear A40
    obtain rfl := Option.some.inj H
    go_enter Tryz.func70, Tryz.ntmps70
    go_wp2_with (first | ((with_reducible refine gate_dst (N := 1) rfl ?_); refine box_event ?hg (N := 1) ?hd (cs := #[.int .i64 a0_0, .slice A0_1 l0_1.length c0_1, .slice A0_2 l0_2.length c0_2]) (t := 32) ?hr ?_; (case hd => rfl); (case hg => rfl); (case hr => first | (go_simp; done) | (go_simp; rfl)); intro gb135 hg w5 hbox hb; have n0_ := Aside0.mk (below_step (by repeat (first | (with_reducible first | exact HB.out | apply below_alloc | apply pw_below_drewN | apply below_drew1) | exact HB.out)) hb); have n1_ := Aside0.mk (hbox); have n2_ := Aside0.mk ((by rw [hg]; exact (below_size (by repeat (first | (with_reducible first | exact HB.out | apply below_alloc | apply pw_below_drewN | apply below_drew1) | exact HB.out))) : w.heap.size ≤ gb135)); have n3_ := Aside0.mk ((by rw [hg]; exact (below_size (by repeat (first | (with_reducible first | exact HB.out | apply below_alloc | apply pw_below_drewN | apply below_drew1) | exact HB.out))) : w.heap.size ≤ gb135)); clear HB; have HB := n0_; have BK135 := n1_; have GW135 := n2_; have GE135 := n3_; clear n0_ n1_ n2_ n3_; clear hb hbox hg; have hcz6_0 : w5.cell? ⟨gb135, 0, none⟩ = some (.int .i64 a0_0) := (blk_cell BK135.out 0).trans rfl; have hcz6_1 : w5.cell? ⟨gb135, 1, none⟩ = some (.slice A0_1 l0_1.length c0_1) := (blk_cell BK135.out 1).trans rfl; have hcz6_2 : w5.cell? ⟨gb135, 2, none⟩ = some (.slice A0_2 l0_2.length c0_2) := (blk_cell BK135.out 2).trans rfl; have hfz6_0 := blk_frozen BK135.out 0; have hfz6_1 := blk_frozen BK135.out 1; have hfz6_2 := blk_frozen BK135.out 2) | ((with_reducible refine gate_callee (f := 96) rfl ?_); refine goesL_ (some 5) rfl rfl Tryz.func96 (by kernel_rfl) rfl #[.slice A0_1 l0_1.length c0_1] rfl (by (try simp only [List.map_toArray, List.map_cons, List.map_nil]); first | done | rfl | (simp only [List.length_drop, List.length_take]; rfl)) ?_; (with_reducible refine (vinculumref16_few.calls k _ _ l0_1 true _ ?side1 ?side2 A2.out).mono ?_); (case side1 => repeat (first | exact (Kd.C_below HR0_1.out HB.out) | (with_reducible refine Kd.C_alloc ?_ _) | (with_reducible refine Kd.C_drewN ?_ _) | (with_reducible refine Kd.C_drew ?_))); (case side2 => exact HC0_1.out); rintro e w' ⟨rfl, ⟨nd, rfl⟩⟩; refine ⟨_, rfl, ?_⟩) | (go_at_call 96; (with_reducible refine (vinculumref16_few.calls k _ _ l0_2 t137 _ ?side1 ?side2 A4.out).mono ?_); (case side1 => repeat (first | exact (Kd.C_below HR0_2.out (by repeat (first | (with_reducible first | exact HB.out | apply below_alloc | apply pw_below_drewN | apply below_drew1 | refine below_set ?_ GE135.out) | exact HB.out))) | (with_reducible refine Kd.C_alloc ?_ _) | (with_reducible refine Kd.C_drewN ?_ _) | (with_reducible refine Kd.C_drew ?_))); (case side2 => exact HC0_2.out); rintro e w' ⟨rfl, ⟨nd, rfl⟩⟩))
    go_ret
    exact ⟨by first | rfl | (simp [errW_none, errW_some] <;> rfl) | (simp [*, errW_none, errW_some] <;> rfl), by repeat (first | (with_reducible first | exact HB.out | apply below_alloc | apply pw_below_drewN | apply below_drew1 | refine below_set ?_ GE135.out) | exact HB.out)⟩
  · replace c3 := Bool.eq_false_iff.mpr c3
    subst c3
    have H1 : (some false) = some r := by rw [if_neg (show ¬ (false = true) by decide)] at H; exact H
    clear H
    have H := H1
    clear H1
    obtain rfl := Option.some.inj H
    go_enter Tryz.func70, Tryz.ntmps70
    go_wp2_with (first | ((with_reducible refine gate_dst (N := 1) rfl ?_); refine box_event ?hg (N := 1) ?hd (cs := #[.int .i64 a0_0, .slice A0_1 l0_1.length c0_1, .slice A0_2 l0_2.length c0_2]) (t := 32) ?hr ?_; (case hd => rfl); (case hg => rfl); (case hr => first | (go_simp; done) | (go_simp; rfl)); intro gb135 hg w7 hbox hb; have n0_ := Aside0.mk (below_step (by repeat (first | (with_reducible first | exact HB.out | apply below_alloc | apply pw_below_drewN | apply below_drew1) | exact HB.out)) hb); have n1_ := Aside0.mk (hbox); have n2_ := Aside0.mk ((by rw [hg]; exact (below_size (by repeat (first | (with_reducible first | exact HB.out | apply below_alloc | apply pw_below_drewN | apply below_drew1) | exact HB.out))) : w.heap.size ≤ gb135)); have n3_ := Aside0.mk ((by rw [hg]; exact (below_size (by repeat (first | (with_reducible first | exact HB.out | apply below_alloc | apply pw_below_drewN | apply below_drew1) | exact HB.out))) : w.heap.size ≤ gb135)); clear HB; have HB := n0_; have BK135 := n1_; have GW135 := n2_; have GE135 := n3_; clear n0_ n1_ n2_ n3_; clear hb hbox hg; have hcz8_0 : w7.cell? ⟨gb135, 0, none⟩ = some (.int .i64 a0_0) := (blk_cell BK135.out 0).trans rfl; have hcz8_1 : w7.cell? ⟨gb135, 1, none⟩ = some (.slice A0_1 l0_1.length c0_1) := (blk_cell BK135.out 1).trans rfl; have hcz8_2 : w7.cell? ⟨gb135, 2, none⟩ = some (.slice A0_2 l0_2.length c0_2) := (blk_cell BK135.out 2).trans rfl; have hfz8_0 := blk_frozen BK135.out 0; have hfz8_1 := blk_frozen BK135.out 1; have hfz8_2 := blk_frozen BK135.out 2) | ((with_reducible refine gate_callee (f := 96) rfl ?_); refine goesL_ (some 5) rfl rfl Tryz.func96 (by kernel_rfl) rfl #[.slice A0_1 l0_1.length c0_1] rfl (by (try simp only [List.map_toArray, List.map_cons, List.map_nil]); first | done | rfl | (simp only [List.length_drop, List.length_take]; rfl)) ?_; (with_reducible refine (vinculumref16_few.calls k _ _ l0_1 false _ ?side1 ?side2 A2.out).mono ?_); (case side1 => repeat (first | exact (Kd.C_below HR0_1.out HB.out) | (with_reducible refine Kd.C_alloc ?_ _) | (with_reducible refine Kd.C_drewN ?_ _) | (with_reducible refine Kd.C_drew ?_))); (case side2 => exact HC0_1.out); rintro e w' ⟨rfl, ⟨nd, rfl⟩⟩; refine ⟨_, rfl, ?_⟩))
    go_ret
    exact ⟨by first | rfl | (simp [errW_none, errW_some] <;> rfl) | (simp [*, errW_none, errW_some] <;> rfl), by repeat (first | (with_reducible first | exact HB.out | apply below_alloc | apply pw_below_drewN | apply below_drew1 | refine below_set ?_ GE135.out) | exact HB.out)⟩
end Go.Proofs.YtbhljokhcmfgjaaGreat.P

namespace Go.Proofs.YtbhljokhcmfgjaaGreat.P
open Go.RowKit Go.Proofs.YtbhljokhcmfgjaaGreatW.PrintWords Go.Proofs.YtbhljokhcmfgjaaGreatW.PrintLast Go.Proofs.YtbhljokhcmfgjaaGreatW.PrintMore
attribute [local go_sem] max2_int min2_int max_two min_two max_three min_three max_four min_four   -- for this text's walks alone
set_option linter.unusedVariables false
set_option linter.unusedSimpArgs false
def vinculumref17_Few.f (k : Nat) (l0_0 : List Int) (l0_1 : List (S77)) (l0_2 : List (S77)) (l0_3 : List Int) (l0_4 : List (S121)) (a0_5 : Int) (l0_6 : List (S133)) (l0_7 : List (S133)) : Option (Bool) := if (l0_0.length : Int) ≤ 100 then (if (l0_1.length : Int) ≤ 100 then (if (l0_2.length : Int) ≤ 100 then (if (l0_3.length : Int) ≤ 100 then ((vinculumref15_Few.f k l0_4).bind fun t139 => (if t139 = true then ((vinculumref16_Few.f k a0_5 l0_6 l0_7).bind fun t140 => (some t140)) else (some false))) else (some false)) else (some false)) else (some false)) else (some false)
theorem vinculumref17_Few.mono : ∀ a0 a1 a2 a3 a4 a5 a6 a7 k, LeO (vinculumref17_Few.f k a0 a1 a2 a3 a4 a5 a6 a7) (vinculumref17_Few.f (k + 1) a0 a1 a2 a3 a4 a5 a6 a7) := by
  intro a0 a1 a2 a3 a4 a5 a6 a7 k
  unfold vinculumref17_Few.f
  repeat' first
      | (with_reducible exact vinculumref15_Few.mono _ _)
      | (with_reducible exact vinculumref16_Few.mono _ _ _ _)
      | (with_reducible exact LeO.refl _)
      | (with_reducible exact LeO.none _)
      | (with_reducible refine LeO.ite ?_ ?_)
      | (with_reducible refine LeO.bind ?_ (fun _ => ?_))
      | exact vinculumref15_Few.mono _ _
      | exact vinculumref16_Few.mono _ _ _ _
      | exact LeO.none _
      | refine LeO.ite ?_ ?_
      | refine LeO.bind ?_ (fun _ => ?_)
set_option maxHeartbeats 8000000 in
set_option maxRecDepth 100000 in
theorem vinculumref17_Few.calls (k : Nat) (A0_0 : Option Addr) (c0_0 : Nat) (l0_0 : List Int) (A0_1 : Option Addr) (c0_1 : Nat) (l0_1 : List (S77)) (A0_2 : Option Addr) (c0_2 : Nat) (l0_2 : List (S77)) (A0_3 : Option Addr) (c0_3 : Nat) (l0_3 : List Int) (A0_4 : Option Addr) (c0_4 : Nat) (l0_4 : List (S121)) (a0_5 : Int) (A0_6 : Option Addr) (c0_6 : Nat) (l0_6 : List (S133)) (A0_7 : Option Addr) (c0_7 : Nat) (l0_7 : List (S133)) (r : Bool) (w : World) (hr0_0 : Kd.C (Kd.int .i64) w A0_0 l0_0.length l0_0) (hc0_0 : l0_0.length ≤ c0_0) (hr0_1 : Kd.C k77 w A0_1 l0_1.length l0_1) (hc0_1 : l0_1.length ≤ c0_1) (hr0_2 : Kd.C k77 w A0_2 l0_2.length l0_2) (hc0_2 : l0_2.length ≤ c0_2) (hr0_3 : Kd.C (Kd.int .i64) w A0_3 l0_3.length l0_3) (hc0_3 : l0_3.length ≤ c0_3) (hr0_4 : Kd.C k121 w A0_4 l0_4.length l0_4) (hc0_4 : l0_4.length ≤ c0_4) (hr0_6 : Kd.C k133 w A0_6 l0_6.length l0_6) (hc0_6 : l0_6.length ≤ c0_6) (hr0_7 : Kd.C k133 w A0_7 l0_7.length l0_7) (hc0_7 : l0_7.length ≤ c0_7) (h : vinculumref17_Few.f k l0_0 l0_1 l0_2 l0_3 l0_4 a0_5 l0_6 l0_7 = some r) :
    Calls Tryz.prog 42 #[.agg #[.slice A0_0 l0_0.length c0_0, .slice A0_1 l0_1.length c0_1, .slice A0_2 l0_2.length c0_2, .slice A0_3 l0_3.length c0_3, .slice A0_4 l0_4.length c0_4, .int .i64 a0_5, .slice A0_6 l0_6.length c0_6, .slice A0_7 l0_7.length c0_7]] w fun e w' => e = .returned (.bool r) ∧ Below w.heap.size w w' := by
  have hu34 := Tryz.underlying34
  have hu32 := Tryz.underlying32
  have HR0_0 := Aside0.mk hr0_0
  have HC0_0 := Aside0.mk hc0_0
  clear hr0_0 hc0_0
  have HR0_1 := Aside0.mk hr0_1
  have HC0_1 := Aside0.mk hc0_1
  clear hr0_1 hc0_1
  have HR0_2 := Aside0.mk hr0_2
  have HC0_2 := Aside0.mk hc0_2
  clear hr0_2 hc0_2
  have HR0_3 := Aside0.mk hr0_3
  have HC0_3 := Aside0.mk hc0_3
  clear hr0_3 hc0_3
  have HR0_4 := Aside0.mk hr0_4
  have HC0_4 := Aside0.mk hc0_4
  clear hr0_4 hc0_4
  have HR0_6 := Aside0.mk hr0_6
  have HC0_6 := Aside0.mk hc0_6
  clear hr0_6 hc0_6
  have HR0_7 := Aside0.mk hr0_7
  have HC0_7 := Aside0.mk hc0_7
  clear hr0_7 hc0_7
  have HB := Aside0.mk (Below.refl w.heap.size w)
  have H : (if (l0_0.length : Int) ≤ 100 then (if (l0_1.length : Int) ≤ 100 then (if (l0_2.length : Int) ≤ 100 then (if (l0_3.length : Int) ≤ 100 then ((vinculumref15_Few.f k l0_4).bind fun t139 => (if t139 = true then ((vinculumref16_Few.f k a0_5 l0_6 l0_7).bind fun t140 => (some t140)) else (some false))) else (some false)) else (some false)) else (some false)) else (some false)) = some r := h
  clear h
  by_cases c2 : (l0_0.length : Int) ≤ 100
  · rw [if_pos c2] at H
    have c2b0 : decide ((l0_0.length : Int) ≤ 100) = true := decide_eq_true c2
    have c2b1 : decide (l0_0.length ≤ 100) = true := decide_eq_true (by omega)
    clear c2
    by_cases c3 : (l0_1.length : Int) ≤ 100
    · rw [if_pos c3] at H
      have c3b0 : decide ((l0_1.length : Int) ≤ 100) = true := decide_eq_true c3
      have c3b1 : decide (l0_1.length ≤ 100) = true := decide_eq_true (by omega)
      clear c3
      by_cases c4 : (l0_2.length : Int) ≤ 100
      · rw [if_pos c4] at H
        have c4b0 : decide ((l0_2.length : Int) ≤ 100) = true := decide_eq_true c4
        have c4b1 : decide (l0_2.length ≤ 100) = true := decide_eq_true (by omega)
        clear c4
        by_cases c5 : (l0_3.length : Int) ≤ 100
        · rw [if_pos c5] at H
          have c5b0 : decide ((l0_3.length : Int) ≤ 100) = true := decide_eq_true c5
          have c5b1 : decide (l0_3.length ≤ 100) = true := decide_eq_true (by omega)
          clear c5
          replace H := Option.bind_eq_some_iff.mp H
          obtain ⟨t139, A60, H⟩ := H
          replace H : (if t139 = true then ((vinculumref16_Few.f k a0_5 l0_6 l0_7).bind fun t140 => (some t140)) else (some false)) = some r := H
          have A6 := Aside0.mk A60
          clear A60
          by_cases c7 : t139 = true
          · subst c7
            have H1 : ((vinculumref16_Few.f k a0_5 l0_6 l0_7).bind fun t140 => (some t140)) = some r := by rw [if_pos rfl] at H; exact H
            clear H
            have H := H1
            clear H1
            replace H := Option.bind_eq_some_iff.mp H
            obtain ⟨t140, A80, H⟩ := H
            replace H : (some t140) = some r := H
            have A8 := Aside0.mk A80
            clear A80
            obtain rfl := Option.some.inj H
            go_enter Tryz.func42, Tryz.ntmps42
            go_wp2_with (first | ((with_reducible refine gate_dst (N := 1) rfl ?_); (try (refine gate_guard (by rfl) ?_; dsimp only)); refine box_event ?hg (N := 1) ?hd (cs := #[.slice A0_0 l0_0.length c0_0, .slice A0_1 l0_1.length c0_1, .slice A0_2 l0_2.length c0_2, .slice A0_3 l0_3.length c0_3, .slice A0_4 l0_4.length c0_4, .int .i64 a0_5, .slice A0_6 l0_6.length c0_6, .slice A0_7 l0_7.length c0_7]) (t := 34) ?hr ?_; (case hd => rfl); (case hg => rfl); (case hr => first | (go_simp; done) | (go_simp; rfl)); intro gb138 hg w9 hbox hb; have n0_ := Aside0.mk (below_step (by repeat (first | (with_reducible first | exact HB.out | apply below_alloc | apply pw_below_drewN | apply below_drew1) | exact HB.out)) hb); have n1_ := Aside0.mk (hbox); have n2_ := Aside0.mk ((by rw [hg]; exact (below_size (by repeat (first | (with_reducible first | exact HB.out | apply below_alloc | apply pw_below_drewN | apply below_drew1) | exact HB.out))) : w.heap.size ≤ gb138)); have n3_ := Aside0.mk ((by rw [hg]; exact (below_size (by repeat (first | (with_reducible first | exact HB.out | apply below_alloc | apply pw_below_drewN | apply below_drew1) | exact HB.out))) : w.heap.size ≤ gb138)); clear HB; have HB := n0_; have BK138 := n1_; have GW138 := n2_; have GE138 := n3_; clear n0_ n1_ n2_ n3_; clear hb hbox hg; have hcz10_0 : w9.cell? ⟨gb138, 0, none⟩ = some (.slice A0_0 l0_0.length c0_0) := (blk_cell BK138.out 0).trans rfl; have hcz10_1 : w9.cell? ⟨gb138, 1, none⟩ = some (.slice A0_1 l0_1.length c0_1) := (blk_cell BK138.out 1).trans rfl; have hcz10_2 : w9.cell? ⟨gb138, 2, none⟩ = some (.slice A0_2 l0_2.length c0_2) := (blk_cell BK138.out 2).trans rfl; have hcz10_3 : w9.cell? ⟨gb138, 3, none⟩ = some (.slice A0_3 l0_3.length c0_3) := (blk_cell BK138.out 3).trans rfl; have hcz10_4 : w9.cell? ⟨gb138, 4, none⟩ = some (.slice A0_4 l0_4.length c0_4) := (blk_cell BK138.out 4).trans rfl; have hcz10_5 : w9.cell? ⟨gb138, 5, none⟩ = some (.int .i64 a0_5) := (blk_cell BK138.out 5).trans rfl; have hcz10_6 : w9.cell? ⟨gb138, 6, none⟩ = some (.slice A0_6 l0_6.length c0_6) := (blk_cell BK138.out 6).trans rfl; have hcz10_7 : w9.cell? ⟨gb138, 7, none⟩ = some (.slice A0_7 l0_7.length c0_7) := (blk_cell BK138.out 7).trans rfl; have hfz10_0 := blk_frozen BK138.out 0; have hfz10_1 := blk_frozen BK138.out 1; have hfz10_2 := blk_frozen BK138.out 2; have hfz10_3 := blk_frozen BK138.out 3; have hfz10_4 := blk_frozen BK138.out 4; have hfz10_5 := blk_frozen BK138.out 5; have hfz10_6 := blk_frozen BK138.out 6; have hfz10_7 := blk_frozen BK138.out 7) | (go_at_call 69; (with_reducible refine (vinculumref15_Few.calls k _ _ l0_4 true _ ?side1 ?side2 A6.out).mono ?_); (case side1 => repeat (first | exact (Kd.C_below HR0_4.out HB.out) | (with_reducible refine Kd.C_alloc ?_ _) | (with_reducible refine Kd.C_drewN ?_ _) | (with_reducible refine Kd.C_drew ?_))); (case side2 => exact HC0_4.out); rintro e w' ⟨rfl, ⟨nd, rfl⟩⟩) | (go_at_call 70; (with_reducible refine (vinculumref16_Few.calls k a0_5 _ _ l0_6 _ _ l0_7 t140 _ ?side1 ?side2 ?side3 ?side4 A8.out).mono ?_); (case side1 => repeat (first | exact (Kd.C_below HR0_6.out (by repeat (first | (with_reducible first | exact HB.out | apply below_alloc | apply pw_below_drewN | apply below_drew1 | refine below_set ?_ GE138.out) | exact HB.out))) | (with_reducible refine Kd.C_alloc ?_ _) | (with_reducible refine Kd.C_drewN ?_ _) | (with_reducible refine Kd.C_drew ?_))); (case side2 => exact HC0_6.out); (case side3 => repeat (first | exact (Kd.C_below HR0_7.out (by repeat (first | (with_reducible first | exact HB.out | apply below_alloc | apply pw_below_drewN | apply below_drew1 | refine below_set ?_ GE138.out) | exact HB.out))) | (with_reducible refine Kd.C_alloc ?_ _) | (with_reducible refine Kd.C_drewN ?_ _) | (with_reducible refine Kd.C_drew ?_))); (case side4 => exact HC0_7.out); rintro e w11 ⟨rfl, hb⟩; have n0_ := Aside0.mk (blk_below (g := gb138) (o := .cells #[.slice A0_0 l0_0.length c0_0, .slice A0_1 l0_1.length c0_1, .slice A0_2 l0_2.length c0_2, .slice A0_3 l0_3.length c0_3, .slice A0_4 l0_4.length c0_4, .int .i64 a0_5, .slice A0_6 l0_6.length c0_6, .slice A0_7 l0_7.length c0_7] 34 (0, 0)) (by (with_reducible repeat (first | refine blk_drewN ?_ _ | refine blk_drew ?_ | refine blk_alloc ?_ _)); exact BK138.out) hb); have n1_ := Aside0.mk (below_step (by repeat (first | (with_reducible first | exact HB.out | apply below_alloc | apply pw_below_drewN | apply below_drew1 | refine below_set ?_ GE138.out) | exact HB.out)) hb); clear BK138; clear HB; have BK138 := n0_; have HB := n1_; clear n0_ n1_; (try clear hb); (try clear hb2); (try clear hk); (try clear hi)))
            go_ret
            exact ⟨by first | rfl | (simp [errW_none, errW_some] <;> rfl) | (simp [*, errW_none, errW_some] <;> rfl), by repeat (first | (with_reducible first | exact HB.out | apply below_alloc | apply pw_below_drewN | apply below_drew1 | refine below_set ?_ GE138.out) | exact HB.out)⟩
          · replace c7 := Bool.eq_false_iff.mpr c7
            subst c7
            have H1 : (some false) = some r := by rw [if_neg (show ¬ (false = true) by decide)] at H; exact H
            clear H
            have H := H1
            clear H1
            obtain rfl := Option.some.inj H
            go_enter Tryz.func42, Tryz.ntmps42
            go_wp2_with (first | ((with_reducible refine gate_dst (N := 1) rfl ?_); (try (refine gate_guard (by rfl) ?_; dsimp only)); refine box_event ?hg (N := 1) ?hd (cs := #[.slice A0_0 l0_0.length c0_0, .slice A0_1 l0_1.length c0_1, .slice A0_2 l0_2.length c0_2, .slice A0_3 l0_3.length c0_3, .slice A0_4 l0_4.length c0_4, .int .i64 a0_5, .slice A0_6 l0_6.length c0_6, .slice A0_7 l0_7.length c0_7]) (t := 34) ?hr ?_; (case hd => rfl); (case hg => rfl); (case hr => first | (go_simp; done) | (go_simp; rfl)); intro gb138 hg w12 hbox hb; have n0_ := Aside0.mk (below_step (by repeat (first | (with_reducible first | exact HB.out | apply below_alloc | apply pw_below_drewN | apply below_drew1) | exact HB.out)) hb); have n1_ := Aside0.mk (hbox); have n2_ := Aside0.mk ((by rw [hg]; exact (below_size (by repeat (first | (with_reducible first | exact HB.out | apply below_alloc | apply pw_below_drewN | apply below_drew1) | exact HB.out))) : w.heap.size ≤ gb138)); have n3_ := Aside0.mk ((by rw [hg]; exact (below_size (by repeat (first | (with_reducible first | exact HB.out | apply below_alloc | apply pw_below_drewN | apply below_drew1) | exact HB.out))) : w.heap.size ≤ gb138)); clear HB; have HB := n0_; have BK138 := n1_; have GW138 := n2_; have GE138 := n3_; clear n0_ n1_ n2_ n3_; clear hb hbox hg; have hcz13_0 : w12.cell? ⟨gb138, 0, none⟩ = some (.slice A0_0 l0_0.length c0_0) := (blk_cell BK138.out 0).trans rfl; have hcz13_1 : w12.cell? ⟨gb138, 1, none⟩ = some (.slice A0_1 l0_1.length c0_1) := (blk_cell BK138.out 1).trans rfl; have hcz13_2 : w12.cell? ⟨gb138, 2, none⟩ = some (.slice A0_2 l0_2.length c0_2) := (blk_cell BK138.out 2).trans rfl; have hcz13_3 : w12.cell? ⟨gb138, 3, none⟩ = some (.slice A0_3 l0_3.length c0_3) := (blk_cell BK138.out 3).trans rfl; have hcz13_4 : w12.cell? ⟨gb138, 4, none⟩ = some (.slice A0_4 l0_4.length c0_4) := (blk_cell BK138.out 4).trans rfl; have hcz13_5 : w12.cell? ⟨gb138, 5, none⟩ = some (.int .i64 a0_5) := (blk_cell BK138.out 5).trans rfl; have hcz13_6 : w12.cell? ⟨gb138, 6, none⟩ = some (.slice A0_6 l0_6.length c0_6) := (blk_cell BK138.out 6).trans rfl; have hcz13_7 : w12.cell? ⟨gb138, 7, none⟩ = some (.slice A0_7 l0_7.length c0_7) := (blk_cell BK138.out 7).trans rfl; have hfz13_0 := blk_frozen BK138.out 0; have hfz13_1 := blk_frozen BK138.out 1; have hfz13_2 := blk_frozen BK138.out 2; have hfz13_3 := blk_frozen BK138.out 3; have hfz13_4 := blk_frozen BK138.out 4; have hfz13_5 := blk_frozen BK138.out 5; have hfz13_6 := blk_frozen BK138.out 6; have hfz13_7 := blk_frozen BK138.out 7) | (go_at_call 69; (with_reducible refine (vinculumref15_Few.calls k _ _ l0_4 false _ ?side1 ?side2 A6.out).mono ?_); (case side1 => repeat (first | exact (Kd.C_below HR0_4.out HB.out) | (with_reducible refine Kd.C_alloc ?_ _) | (with_reducible refine Kd.C_drewN ?_ _) | (with_reducible refine Kd.C_drew ?_))); (case side2 => exact HC0_4.out); rintro e w' ⟨rfl, ⟨nd, rfl⟩⟩))
            go_ret
            exact ⟨by first | rfl | (simp [errW_none, errW_some] <;> rfl) | (simp [*, errW_none, errW_some] <;> rfl), by repeat (first | (with_reducible first | exact HB.out | apply below_alloc | apply pw_below_drewN | apply below_drew1 | refine below_set ?_ GE138.out) | exact HB.out)⟩
        · rw [if_neg c5] at H
          have c5b0 : decide ((l0_3.length : Int) ≤ 100) = false := decide_eq_false c5
          have c5b1 : decide (l0_3.length ≤ 100) = false := decide_eq_false (by omega)
          clear c5
          obtain rfl := Option.some.inj H
          go_enter Tryz.func42, Tryz.ntmps42
          go_wp2_with (first | ((with_reducible refine gate_dst (N := 1) rfl ?_); (try (refine gate_guard (by rfl) ?_; dsimp only)); refine box_event ?hg (N := 1) ?hd (cs := #[.slice A0_0 l0_0.length c0_0, .slice A0_1 l0_1.length c0_1, .slice A0_2 l0_2.length c0_2, .slice A0_3 l0_3.length c0_3, .slice A0_4 l0_4.length c0_4, .int .i64 a0_5, .slice A0_6 l0_6.length c0_6, .slice A0_7 l0_7.length c0_7]) (t := 34) ?hr ?_; (case hd => rfl); (case hg => rfl); (case hr => first | (go_simp; done) | (go_simp; rfl)); intro gb138 hg w14 hbox hb; have n0_ := Aside0.mk (below_step (by repeat (first | (with_reducible first | exact HB.out | apply below_alloc | apply pw_below_drewN | apply below_drew1) | exact HB.out)) hb); have n1_ := Aside0.mk (hbox); have n2_ := Aside0.mk ((by rw [hg]; exact (below_size (by repeat (first | (with_reducible first | exact HB.out | apply below_alloc | apply pw_below_drewN | apply below_drew1) | exact HB.out))) : w.heap.size ≤ gb138)); have n3_ := Aside0.mk ((by rw [hg]; exact (below_size (by repeat (first | (with_reducible first | exact HB.out | apply below_alloc | apply pw_below_drewN | apply below_drew1) | exact HB.out))) : w.heap.size ≤ gb138)); clear HB; have HB := n0_; have BK138 := n1_; have GW138 := n2_; have GE138 := n3_; clear n0_ n1_ n2_ n3_; clear hb hbox hg; have hcz15_0 : w14.cell? ⟨gb138, 0, none⟩ = some (.slice A0_0 l0_0.length c0_0) := (blk_cell BK138.out 0).trans rfl; have hcz15_1 : w14.cell? ⟨gb138, 1, none⟩ = some (.slice A0_1 l0_1.length c0_1) := (blk_cell BK138.out 1).trans rfl; have hcz15_2 : w14.cell? ⟨gb138, 2, none⟩ = some (.slice A0_2 l0_2.length c0_2) := (blk_cell BK138.out 2).trans rfl; have hcz15_3 : w14.cell? ⟨gb138, 3, none⟩ = some (.slice A0_3 l0_3.length c0_3) := (blk_cell BK138.out 3).trans rfl; have hcz15_4 : w14.cell? ⟨gb138, 4, none⟩ = some (.slice A0_4 l0_4.length c0_4) := (blk_cell BK138.out 4).trans rfl; have hcz15_5 : w14.cell? ⟨gb138, 5, none⟩ = some (.int .i64 a0_5) := (blk_cell BK138.out 5).trans rfl; have hcz15_6 : w14.cell? ⟨gb138, 6, none⟩ = some (.slice A0_6 l0_6.length c0_6) := (blk_cell BK138.out 6).trans rfl; have hcz15_7 : w14.cell? ⟨gb138, 7, none⟩ = some (.slice A0_7 l0_7.length c0_7) := (blk_cell BK138.out 7).trans rfl; have hfz15_0 := blk_frozen BK138.out 0; have hfz15_1 := blk_frozen BK138.out 1; have hfz15_2 := blk_frozen BK138.out 2; have hfz15_3 := blk_frozen BK138.out 3; have hfz15_4 := blk_frozen BK138.out 4; have hfz15_5 := blk_frozen BK138.out 5; have hfz15_6 := blk_frozen BK138.out 6; have hfz15_7 := blk_frozen BK138.out 7))
          go_ret
          exact ⟨by first | rfl | (simp [errW_none, errW_some] <;> rfl) | (simp [*, errW_none, errW_some] <;> rfl), by repeat (first | (with_reducible first | exact HB.out | apply below_alloc | apply pw_below_drewN | apply below_drew1 | refine below_set ?_ GE138.out) | exact HB.out)⟩
      · rw [if_neg c4] at H
        have c4b0 : decide ((l0_2.length : Int) ≤ 100) = false := decide_eq_false c4
        have c4b1 : decide (l0_2.length ≤ 100) = false := decide_eq_false (by omega)
        clear c4
        obtain rfl := Option.some.inj H
        go_enter Tryz.func42, Tryz.ntmps42
        go_wp2_with (first | ((with_reducible refine gate_dst (N := 1) rfl ?_); (try (refine gate_guard (by rfl) ?_; dsimp only)); refine box_event ?hg (N := 1) ?hd (cs := #[.slice A0_0 l0_0.length c0_0, .slice A0_1 l0_1.length c0_1, .slice A0_2 l0_2.length c0_2, .slice A0_3 l0_3.length c0_3, .slice A0_4 l0_4.length c0_4, .int .i64 a0_5, .slice A0_6 l0_6.length c0_6, .slice A0_7 l0_7.length c0_7]) (t := 34) ?hr ?_; (case hd => rfl); (case hg => rfl); (case hr => first | (go_simp; done) | (go_simp; rfl)); intro gb138 hg w16 hbox hb; have n0_ := Aside0.mk (below_step (by repeat (first | (with_reducible first | exact HB.out | apply below_alloc | apply pw_below_drewN | apply below_drew1) | exact HB.out)) hb); have n1_ := Aside0.mk (hbox); have n2_ := Aside0.mk ((by rw [hg]; exact (below_size (by repeat (first | (with_reducible first | exact HB.out | apply below_alloc | apply pw_below_drewN | apply below_drew1) | exact HB.out))) : w.heap.size ≤ gb138)); have n3_ := Aside0.mk ((by rw [hg]; exact (below_size (by repeat (first | (with_reducible first | exact HB.out | apply below_alloc | apply pw_below_drewN | apply below_drew1) | exact HB.out))) : w.heap.size ≤ gb138)); clear HB; have HB := n0_; have BK138 := n1_; have GW138 := n2_; have GE138 := n3_; clear n0_ n1_ n2_ n3_; clear hb hbox hg; have hcz17_0 : w16.cell? ⟨gb138, 0, none⟩ = some (.slice A0_0 l0_0.length c0_0) := (blk_cell BK138.out 0).trans rfl; have hcz17_1 : w16.cell? ⟨gb138, 1, none⟩ = some (.slice A0_1 l0_1.length c0_1) := (blk_cell BK138.out 1).trans rfl; have hcz17_2 : w16.cell? ⟨gb138, 2, none⟩ = some (.slice A0_2 l0_2.length c0_2) := (blk_cell BK138.out 2).trans rfl; have hcz17_3 : w16.cell? ⟨gb138, 3, none⟩ = some (.slice A0_3 l0_3.length c0_3) := (blk_cell BK138.out 3).trans rfl; have hcz17_4 : w16.cell? ⟨gb138, 4, none⟩ = some (.slice A0_4 l0_4.length c0_4) := (blk_cell BK138.out 4).trans rfl; have hcz17_5 : w16.cell? ⟨gb138, 5, none⟩ = some (.int .i64 a0_5) := (blk_cell BK138.out 5).trans rfl; have hcz17_6 : w16.cell? ⟨gb138, 6, none⟩ = some (.slice A0_6 l0_6.length c0_6) := (blk_cell BK138.out 6).trans rfl; have hcz17_7 : w16.cell? ⟨gb138, 7, none⟩ = some (.slice A0_7 l0_7.length c0_7) := (blk_cell BK138.out 7).trans rfl; have hfz17_0 := blk_frozen BK138.out 0; have hfz17_1 := blk_frozen BK138.out 1; have hfz17_2 := blk_frozen BK138.out 2; have hfz17_3 := blk_frozen BK138.out 3; have hfz17_4 := blk_frozen BK138.out 4; have hfz17_5 := blk_frozen BK138.out 5; have hfz17_6 := blk_frozen BK138.out 6; have hfz17_7 := blk_frozen BK138.out 7))
        go_ret
        exact ⟨by first | rfl | (simp [errW_none, errW_some] <;> rfl) | (simp [*, errW_none, errW_some] <;> rfl), by repeat (first | (with_reducible first | exact HB.out | apply below_alloc | apply pw_below_drewN | apply below_drew1 | refine below_set ?_ GE138.out) | exact HB.out)⟩
    · rw [if_neg c3] at H
      have c3b0 : decide ((l0_1.length : Int) ≤ 100) = false := decide_eq_false c3
      have c3b1 : decide (l0_1.length ≤ 100) = false := decide_eq_false (by omega)
      clear c3
      obtain rfl := Option.some.inj H
      go_enter Tryz.func42, Tryz.ntmps42
      go_wp2_with (first | ((with_reducible refine gate_dst (N := 1) rfl ?_); (try (refine gate_guard (by rfl) ?_; dsimp only)); refine box_event ?hg (N := 1) ?hd (cs := #[.slice A0_0 l0_0.length c0_0, .slice A0_1 l0_1.length c0_1, .slice A0_2 l0_2.length c0_2, .slice A0_3 l0_3.length c0_3, .slice A0_4 l0_4.length c0_4, .int .i64 a0_5, .slice A0_6 l0_6.length c0_6, .slice A0_7 l0_7.length c0_7]) (t := 34) ?hr ?_; (case hd => rfl); (case hg => rfl); (case hr => first | (go_simp; done) | (go_simp; rfl)); intro gb138 hg w18 hbox hb; have n0_ := Aside0.mk (below_step (by repeat (first | (with_reducible first | exact HB.out | apply below_alloc | apply pw_below_drewN | apply below_drew1) | exact HB.out)) hb); have n1_ := Aside0.mk (hbox); have n2_ := Aside0.mk ((by rw [hg]; exact (below_size (by repeat (first | (with_reducible first | exact HB.out | apply below_alloc | apply pw_below_drewN | apply below_drew1) | exact HB.out))) : w.heap.size ≤ gb138)); have n3_ := Aside0.mk ((by rw [hg]; exact (below_size (by repeat (first | (with_reducible first | exact HB.out | apply below_alloc | apply pw_below_drewN | apply below_drew1) | exact HB.out))) : w.heap.size ≤ gb138)); clear HB; have HB := n0_; have BK138 := n1_; have GW138 := n2_; have GE138 := n3_; clear n0_ n1_ n2_ n3_; clear hb hbox hg; have hcz19_0 : w18.cell? ⟨gb138, 0, none⟩ = some (.slice A0_0 l0_0.length c0_0) := (blk_cell BK138.out 0).trans rfl; have hcz19_1 : w18.cell? ⟨gb138, 1, none⟩ = some (.slice A0_1 l0_1.length c0_1) := (blk_cell BK138.out 1).trans rfl; have hcz19_2 : w18.cell? ⟨gb138, 2, none⟩ = some (.slice A0_2 l0_2.length c0_2) := (blk_cell BK138.out 2).trans rfl; have hcz19_3 : w18.cell? ⟨gb138, 3, none⟩ = some (.slice A0_3 l0_3.length c0_3) := (blk_cell BK138.out 3).trans rfl; have hcz19_4 : w18.cell? ⟨gb138, 4, none⟩ = some (.slice A0_4 l0_4.length c0_4) := (blk_cell BK138.out 4).trans rfl; have hcz19_5 : w18.cell? ⟨gb138, 5, none⟩ = some (.int .i64 a0_5) := (blk_cell BK138.out 5).trans rfl; have hcz19_6 : w18.cell? ⟨gb138, 6, none⟩ = some (.slice A0_6 l0_6.length c0_6) := (blk_cell BK138.out 6).trans rfl; have hcz19_7 : w18.cell? ⟨gb138, 7, none⟩ = some (.slice A0_7 l0_7.length c0_7) := (blk_cell BK138.out 7).trans rfl; have hfz19_0 := blk_frozen BK138.out 0; have hfz19_1 := blk_frozen BK138.out 1; have hfz19_2 := blk_frozen BK138.out 2; have hfz19_3 := blk_frozen BK138.out 3; have hfz19_4 := blk_frozen BK138.out 4; have hfz19_5 := blk_frozen BK138.out 5; have hfz19_6 := blk_frozen BK138.out 6; have hfz19_7 := blk_frozen BK138.out 7))
      go_ret
      exact ⟨by first | rfl | (simp [errW_none, errW_some] <;> rfl) | (simp [*, errW_none, errW_some] <;> rfl), by repeat (first | (with_reducible first | exact HB.out | apply below_alloc | apply pw_below_drewN | apply below_drew1 | refine below_set ?_ GE138.out) | exact HB.out)⟩
  · rw [if_neg c2] at H
    have c2b0 : decide ((l0_0.length : Int) ≤ 100) = false := decide_eq_false c2
    have c2b1 : decide (l0_0.length ≤ 100) = false := decide_eq_false (by omega)
    clear c2
    obtain rfl := Option.some.inj H
    go_enter Tryz.func42, Tryz.ntmps42
    go_wp2_with (first | ((with_reducible refine gate_dst (N := 1) rfl ?_); (try (refine gate_guard (by rfl) ?_; dsimp only)); refine box_event ?hg (N := 1) ?hd (cs := #[.slice A0_0 l0_0.length c0_0, .slice A0_1 l0_1.length c0_1, .slice A0_2 l0_2.length c0_2, .slice A0_3 l0_3.length c0_3, .slice A0_4 l0_4.length c0_4, .int .i64 a0_5, .slice A0_6 l0_6.length c0_6, .slice A0_7 l0_7.length c0_7]) (t := 34) ?hr ?_; (case hd => rfl); (case hg => rfl); (case hr => first | (go_simp; done) | (go_simp; rfl)); intro gb138 hg w20 hbox hb; have n0_ := Aside0.mk (below_step (by repeat (first | (with_reducible first | exact HB.out | apply below_alloc | apply pw_below_drewN | apply below_drew1) | exact HB.out)) hb); have n1_ := Aside0.mk (hbox); have n2_ := Aside0.mk ((by rw [hg]; exact (below_size (by repeat (first | (with_reducible first | exact HB.out | apply below_alloc | apply pw_below_drewN | apply below_drew1) | exact HB.out))) : w.heap.size ≤ gb138)); have n3_ := Aside0.mk ((by rw [hg]; exact (below_size (by repeat (first | (with_reducible first | exact HB.out | apply below_alloc | apply pw_below_drewN | apply below_drew1) | exact HB.out))) : w.heap.size ≤ gb138)); clear HB; have HB := n0_; have BK138 := n1_; have GW138 := n2_; have GE138 := n3_; clear n0_ n1_ n2_ n3_; clear hb hbox hg; have hcz21_0 : w20.cell? ⟨gb138, 0, none⟩ = some (.slice A0_0 l0_0.length c0_0) := (blk_cell BK138.out 0).trans rfl; have hcz21_1 : w20.cell? ⟨gb138, 1, none⟩ = some (.slice A0_1 l0_1.length c0_1) := (blk_cell BK138.out 1).trans rfl; have hcz21_2 : w20.cell? ⟨gb138, 2, none⟩ = some (.slice A0_2 l0_2.length c0_2) := (blk_cell BK138.out 2).trans rfl; have hcz21_3 : w20.cell? ⟨gb138, 3, none⟩ = some (.slice A0_3 l0_3.length c0_3) := (blk_cell BK138.out 3).trans rfl; have hcz21_4 : w20.cell? ⟨gb138, 4, none⟩ = some (.slice A0_4 l0_4.length c0_4) := (blk_cell BK138.out 4).trans rfl; have hcz21_5 : w20.cell? ⟨gb138, 5, none⟩ = some (.int .i64 a0_5) := (blk_cell BK138.out 5).trans rfl; have hcz21_6 : w20.cell? ⟨gb138, 6, none⟩ = some (.slice A0_6 l0_6.length c0_6) := (blk_cell BK138.out 6).trans rfl; have hcz21_7 : w20.cell? ⟨gb138, 7, none⟩ = some (.slice A0_7 l0_7.length c0_7) := (blk_cell BK138.out 7).trans rfl; have hfz21_0 := blk_frozen BK138.out 0; have hfz21_1 := blk_frozen BK138.out 1; have hfz21_2 := blk_frozen BK138.out 2; have hfz21_3 := blk_frozen BK138.out 3; have hfz21_4 := blk_frozen BK138.out 4; have hfz21_5 := blk_frozen BK138.out 5; have hfz21_6 := blk_frozen BK138.out 6; have hfz21_7 := blk_frozen BK138.out 7))
    go_ret
    exact ⟨by first | rfl | (simp [errW_none, errW_some] <;> rfl) | (simp [*, errW_none, errW_some] <;> rfl), by repeat (first | (with_reducible first | exact HB.out | apply below_alloc | apply pw_below_drewN | apply below_drew1 | refine below_set ?_ GE138.out) | exact HB.out)⟩
end Go.Proofs.YtbhljokhcmfgjaaGreat.P

namespace Go.Proofs.YtbhljokhcmfgjaaGreat.P
open Go.RowKit Go.Proofs.YtbhljokhcmfgjaaGreatW.PrintWords Go.Proofs.YtbhljokhcmfgjaaGreatW.PrintLast Go.Proofs.YtbhljokhcmfgjaaGreatW.PrintMore
attribute [local go_sem] max2_int min2_int max_two min_two max_three min_three max_four min_four   -- for this text's walks alone
set_option linter.unusedVariables false
set_option linter.unusedSimpArgs false
def vinculumref18_Few.f (k : Nat) (a0_0 : Int) (a0_1 : Int) (a0_2 : Int) (a0_3 : Int) (a0_4 : Int) (a0_5 : Bool) (l0_6 : List (S159)) (l0_7 : List (S161)) (l0_8 : List (S118)) (l0_9 : List Int) (l0_10 : List (S77)) (l0_11 : List (S77)) (l0_12 : List Int) (l0_13 : List (S121)) (a0_14 : Int) (l0_15 : List (S133)) (l0_16 : List (S133)) : Option (Bool) := if (l0_6.length : Int) ≤ 300 then (if (l0_7.length : Int) ≤ 300 then ((vinculumref11_Short.f k l0_8).bind fun t142 => (if t142 = true then ((vinculumref17_Few.f k l0_9 l0_10 l0_11 l0_12 l0_13 a0_14 l0_15 l0_16).bind fun t143 => (some t143)) else (some false))) else (some false)) else (some false)
theorem vinculumref18_Few.mono : ∀ a0 a1 a2 a3 a4 a5 a6 a7 a8 a9 a10 a11 a12 a13 a14 a15 a16 k, LeO (vinculumref18_Few.f k a0 a1 a2 a3 a4 a5 a6 a7 a8 a9 a10 a11 a12 a13 a14 a15 a16) (vinculumref18_Few.f (k + 1) a0 a1 a2 a3 a4 a5 a6 a7 a8 a9 a10 a11 a12 a13 a14 a15 a16) := by
  intro a0 a1 a2 a3 a4 a5 a6 a7 a8 a9 a10 a11 a12 a13 a14 a15 a16 k
  unfold vinculumref18_Few.f
  repeat' first
      | (with_reducible exact vinculumref11_Short.mono _ _)
      | (with_reducible exact vinculumref17_Few.mono _ _ _ _ _ _ _ _ _)
      | (with_reducible exact LeO.refl _)
      | (with_reducible exact LeO.none _)
      | (with_reducible refine LeO.ite ?_ ?_)
      | (with_reducible refine LeO.bind ?_ (fun _ => ?_))
      | exact vinculumref11_Short.mono _ _
      | exact vinculumref17_Few.mono _ _ _ _ _ _ _ _ _
      | exact LeO.none _
      | refine LeO.ite ?_ ?_
      | refine LeO.bind ?_ (fun _ => ?_)
set_option maxHeartbeats 8000000 in
set_option maxRecDepth 100000 in
theorem vinculumref18_Few.calls (k : Nat) (a0_0 : Int) (a0_1 : Int) (a0_2 : Int) (a0_3 : Int) (a0_4 : Int) (a0_5 : Bool) (A0_6 : Option Addr) (c0_6 : Nat) (l0_6 : List (S159)) (A0_7 : Option Addr) (c0_7 : Nat) (l0_7 : List (S161)) (A0_8 : Option Addr) (c0_8 : Nat) (l0_8 : List (S118)) (A0_9 : Option Addr) (c0_9 : Nat) (l0_9 : List Int) (A0_10 : Option Addr) (c0_10 : Nat) (l0_10 : List (S77)) (A0_11 : Option Addr) (c0_11 : Nat) (l0_11 : List (S77)) (A0_12 : Option Addr) (c0_12 : Nat) (l0_12 : List Int) (A0_13 : Option Addr) (c0_13 : Nat) (l0_13 : List (S121)) (a0_14 : Int) (A0_15 : Option Addr) (c0_15 : Nat) (l0_15 : List (S133)) (A0_16 : Option Addr) (c0_16 : Nat) (l0_16 : List (S133)) (r : Bool) (w : World) (hr0_6 : Kd.C k159 w A0_6 l0_6.length l0_6) (hc0_6 : l0_6.length ≤ c0_6) (hr0_7 : Kd.C k161 w A0_7 l0_7.length l0_7) (hc0_7 : l0_7.length ≤ c0_7) (hr0_8 : Kd.C k118 w A0_8 l0_8.length l0_8) (hc0_8 : l0_8.length ≤ c0_8) (hr0_9 : Kd.C (Kd.int .i64) w A0_9 l0_9.length l0_9) (hc0_9 : l0_9.length ≤ c0_9) (hr0_10 : Kd.C k77 w A0_10 l0_10.length l0_10) (hc0_10 : l0_10.length ≤ c0_10) (hr0_11 : Kd.C k77 w A0_11 l0_11.length l0_11) (hc0_11 : l0_11.length ≤ c0_11) (hr0_12 : Kd.C (Kd.int .i64) w A0_12 l0_12.length l0_12) (hc0_12 : l0_12.length ≤ c0_12) (hr0_13 : Kd.C k121 w A0_13 l0_13.length l0_13) (hc0_13 : l0_13.length ≤ c0_13) (hr0_15 : Kd.C k133 w A0_15 l0_15.length l0_15) (hc0_15 : l0_15.length ≤ c0_15) (hr0_16 : Kd.C k133 w A0_16 l0_16.length l0_16) (hc0_16 : l0_16.length ≤ c0_16) (h : vinculumref18_Few.f k a0_0 a0_1 a0_2 a0_3 a0_4 a0_5 l0_6 l0_7 l0_8 l0_9 l0_10 l0_11 l0_12 l0_13 a0_14 l0_15 l0_16 = some r) :
    Calls Tryz.prog 15 #[.agg #[.int .i64 a0_0, .int .i64 a0_1, .int .i64 a0_2, .int .i64 a0_3, .int .i64 a0_4, .bool a0_5, .slice A0_6 l0_6.length c0_6, .slice A0_7 l0_7.length c0_7, .slice A0_8 l0_8.length c0_8, .slice A0_9 l0_9.length c0_9, .slice A0_10 l0_10.length c0_10, .slice A0_11 l0_11.length c0_11, .slice A0_12 l0_12.length c0_12, .slice A0_13 l0_13.length c0_13, .int .i64 a0_14, .slice A0_15 l0_15.length c0_15, .slice A0_16 l0_16.length c0_16]] w fun e w' => e = .returned (.bool r) ∧ Below w.heap.size w w' := by
  have hu36 := Tryz.underlying36
  have hu34 := Tryz.underlying34
  have HR0_6 := Aside0.mk hr0_6
  have HC0_6 := Aside0.mk hc0_6
  clear hr0_6 hc0_6
  have HR0_7 := Aside0.mk hr0_7
  have HC0_7 := Aside0.mk hc0_7
  clear hr0_7 hc0_7
  have HR0_8 := Aside0.mk hr0_8
  have HC0_8 := Aside0.mk hc0_8
  clear hr0_8 hc0_8
  have HR0_9 := Aside0.mk hr0_9
  have HC0_9 := Aside0.mk hc0_9
  clear hr0_9 hc0_9
  have HR0_10 := Aside0.mk hr0_10
  have HC0_10 := Aside0.mk hc0_10
  clear hr0_10 hc0_10
  have HR0_11 := Aside0.mk hr0_11
  have HC0_11 := Aside0.mk hc0_11
  clear hr0_11 hc0_11
  have HR0_12 := Aside0.mk hr0_12
  have HC0_12 := Aside0.mk hc0_12
  clear hr0_12 hc0_12
  have HR0_13 := Aside0.mk hr0_13
  have HC0_13 := Aside0.mk hc0_13
  clear hr0_13 hc0_13
  have HR0_15 := Aside0.mk hr0_15
  have HC0_15 := Aside0.mk hc0_15
  clear hr0_15 hc0_15
  have HR0_16 := Aside0.mk hr0_16
  have HC0_16 := Aside0.mk hc0_16
  clear hr0_16 hc0_16
  have HB := Aside0.mk (Below.refl w.heap.size w)
  have H : (if (l0_6.length : Int) ≤ 300 then (if (l0_7.length : Int) ≤ 300 then ((vinculumref11_Short.f k l0_8).bind fun t142 => (if t142 = true then ((vinculumref17_Few.f k l0_9 l0_10 l0_11 l0_12 l0_13 a0_14 l0_15 l0_16).bind fun t143 => (some t143)) else (some false))) else (some false)) else (some false)) = some r := h
  clear h
  by_cases c2 : (l0_6.length : Int) ≤ 300
  · rw [if_pos c2] at H
    have c2b0 : decide ((l0_6.length : Int) ≤ 300) = true := decide_eq_true c2
    have c2b1 : decide (l0_6.length ≤ 300) = true := decide_eq_true (by omega)
    clear c2
    by_cases c3 : (l0_7.length : Int) ≤ 300
    · rw [if_pos c3] at H
      have c3b0 : decide ((l0_7.length : Int) ≤ 300) = true := decide_eq_true c3
      have c3b1 : decide (l0_7.length ≤ 300) = true := decide_eq_true (by omega)
      clear c3
      replace H := Option.bind_eq_some_iff.mp H
      obtain ⟨t142, A40, H⟩ := H
      replace H : (if t142 = true then ((vinculumref17_Few.f k l0_9 l0_10 l0_11 l0_12 l0_13 a0_14 l0_15 l0_16).bind fun t143 => (some t143)) else (some false)) = some r := H
      have A4 := Aside0.mk A40
      clear A40
      by_cases c5 : t142 = true
      · subst c5
        have H1 : ((vinculumref17_Few.f k l0_9 l0_10 l0_11 l0_12 l0_13 a0_14 l0_15 l0_16).bind fun t143 => (some t143)) = some r := by rw [if_pos rfl] at H; exact H
        clear H
        have H := H1
        clear H1
        replace H := Option.bind_eq_some_iff.mp H
        obtain ⟨t143, A60, H⟩ := H
        replace H : (some t143) = some r := H
        have A6 := Aside0.mk A60
        clear A60
        obtain rfl := Option.some.inj H
        go_enter Tryz.func15, Tryz.ntmps15
        go_wp2_with (first | ((with_reducible refine gate_dst (N := 1) rfl ?_); (try (refine gate_guard (by rfl) ?_; dsimp only)); refine box_event ?hg (N := 1) ?hd (cs := #[.int .i64 a0_0, .int .i64 a0_1, .int .i64 a0_2, .int .i64 a0_3, .int .i64 a0_4, .bool a0_5, .slice A0_6 l0_6.length c0_6, .slice A0_7 l0_7.length c0_7, .slice A0_8 l0_8.length c0_8, .slice A0_9 l0_9.length c0_9, .slice A0_10 l0_10.length c0_10, .slice A0_11 l0_11.length c0_11, .slice A0_12 l0_12.length c0_12, .slice A0_13 l0_13.length c0_13, .int .i64 a0_14, .slice A0_15 l0_15.length c0_15, .slice A0_16 l0_16.length c0_16]) (t := 36) ?hr ?_; (case hd => rfl); (case hg => rfl); (case hr => first | (go_simp; done) | (go_simp; rfl)); intro gb141 hg w7 hbox hb; have n0_ := Aside0.mk (below_step (by repeat (first | (with_reducible first | exact HB.out | apply below_alloc | apply pw_below_drewN | apply below_drew1) | exact HB.out)) hb); have n1_ := Aside0.mk (hbox); have n2_ := Aside0.mk ((by rw [hg]; exact (below_size (by repeat (first | (with_reducible first | exact HB.out | apply below_alloc | apply pw_below_drewN | apply below_drew1) | exact HB.out))) : w.heap.size ≤ gb141)); have n3_ := Aside0.mk ((by rw [hg]; exact (below_size (by repeat (first | (with_reducible first | exact HB.out | apply below_alloc | apply pw_below_drewN | apply below_drew1) | exact HB.out))) : w.heap.size ≤ gb141)); clear HB; have HB := n0_; have BK141 := n1_; have GW141 := n2_; have GE141 := n3_; clear n0_ n1_ n2_ n3_; clear hb hbox hg; have hcz8_0 : w7.cell? ⟨gb141, 0, none⟩ = some (.int .i64 a0_0) := (blk_cell BK141.out 0).trans rfl; have hcz8_1 : w7.cell? ⟨gb141, 1, none⟩ = some (.int .i64 a0_1) := (blk_cell BK141.out 1).trans rfl; have hcz8_2 : w7.cell? ⟨gb141, 2, none⟩ = some (.int .i64 a0_2) := (blk_cell BK141.out 2).trans rfl; have hcz8_3 : w7.cell? ⟨gb141, 3, none⟩ = some (.int .i64 a0_3) := (blk_cell BK141.out 3).trans rfl; have hcz8_4 : w7.cell? ⟨gb141, 4, none⟩ = some (.int .i64 a0_4) := (blk_cell BK141.out 4).trans rfl; have hcz8_5 : w7.cell? ⟨gb141, 5, none⟩ = some (.bool a0_5) := (blk_cell BK141.out 5).trans rfl; have hcz8_6 : w7.cell? ⟨gb141, 6, none⟩ = some (.slice A0_6 l0_6.length c0_6) := (blk_cell BK141.out 6).trans rfl; have hcz8_7 : w7.cell? ⟨gb141, 7, none⟩ = some (.slice A0_7 l0_7.length c0_7) := (blk_cell BK141.out 7).trans rfl; have hcz8_8 : w7.cell? ⟨gb141, 8, none⟩ = some (.slice A0_8 l0_8.length c0_8) := (blk_cell BK141.out 8).trans rfl; have hcz8_9 : w7.cell? ⟨gb141, 9, none⟩ = some (.slice A0_9 l0_9.length c0_9) := (blk_cell BK141.out 9).trans rfl; have hcz8_10 : w7.cell? ⟨gb141, 10, none⟩ = some (.slice A0_10 l0_10.length c0_10) := (blk_cell BK141.out 10).trans rfl; have hcz8_11 : w7.cell? ⟨gb141, 11, none⟩ = some (.slice A0_11 l0_11.length c0_11) := (blk_cell BK141.out 11).trans rfl; have hcz8_12 : w7.cell? ⟨gb141, 12, none⟩ = some (.slice A0_12 l0_12.length c0_12) := (blk_cell BK141.out 12).trans rfl; have hcz8_13 : w7.cell? ⟨gb141, 13, none⟩ = some (.slice A0_13 l0_13.length c0_13) := (blk_cell BK141.out 13).trans rfl; have hcz8_14 : w7.cell? ⟨gb141, 14, none⟩ = some (.int .i64 a0_14) := (blk_cell BK141.out 14).trans rfl; have hcz8_15 : w7.cell? ⟨gb141, 15, none⟩ = some (.slice A0_15 l0_15.length c0_15) := (blk_cell BK141.out 15).trans rfl; have hcz8_16 : w7.cell? ⟨gb141, 16, none⟩ = some (.slice A0_16 l0_16.length c0_16) := (blk_cell BK141.out 16).trans rfl; have hfz8_0 := blk_frozen BK141.out 0; have hfz8_1 := blk_frozen BK141.out 1; have hfz8_2 := blk_frozen BK141.out 2; have hfz8_3 := blk_frozen BK141.out 3; have hfz8_4 := blk_frozen BK141.out 4; have hfz8_5 := blk_frozen BK141.out 5; have hfz8_6 := blk_frozen BK141.out 6; have hfz8_7 := blk_frozen BK141.out 7; have hfz8_8 := blk_frozen BK141.out 8; have hfz8_9 := blk_frozen BK141.out 9; have hfz8_10 := blk_frozen BK141.out 10; have hfz8_11 := blk_frozen BK141.out 11; have hfz8_12 := blk_frozen BK141.out 12; have hfz8_13 := blk_frozen BK141.out 13; have hfz8_14 := blk_frozen BK141.out 14; have hfz8_15 := blk_frozen BK141.out 15; have hfz8_16 := blk_frozen BK141.out 16) | (go_at_call 41; (with_reducible refine (vinculumref11_Short.calls k _ _ l0_8 true _ ?side1 ?side2 A4.out).mono ?_); (case side1 => repeat (first | exact (Kd.C_below HR0_8.out HB.out) | (with_reducible refine Kd.C_alloc ?_ _) | (with_reducible refine Kd.C_drewN ?_ _) | (with_reducible refine Kd.C_drew ?_))); (case side2 => exact HC0_8.out); rintro e w9 ⟨rfl, hb⟩; have n0_ := Aside0.mk (blk_below (g := gb141) (o := .cells #[.int .i64 a0_0, .int .i64 a0_1, .int .i64 a0_2, .int .i64 a0_3, .int .i64 a0_4, .bool a0_5, .slice A0_6 l0_6.length c0_6, .slice A0_7 l0_7.length c0_7, .slice A0_8 l0_8.length c0_8, .slice A0_9 l0_9.length c0_9, .slice A0_10 l0_10.length c0_10, .slice A0_11 l0_11.length c0_11, .slice A0_12 l0_12.length c0_12, .slice A0_13 l0_13.length c0_13, .int .i64 a0_14, .slice A0_15 l0_15.length c0_15, .slice A0_16 l0_16.length c0_16] 36 (0, 0)) (by (with_reducible repeat (first | refine blk_drewN ?_ _ | refine blk_drew ?_ | refine blk_alloc ?_ _)); exact BK141.out) hb); have n1_ := Aside0.mk (below_step (by repeat (first | (with_reducible first | exact HB.out | apply below_alloc | apply pw_below_drewN | apply below_drew1 | refine below_set ?_ GE141.out) | exact HB.out)) hb); clear BK141; clear HB; have BK141 := n0_; have HB := n1_; clear n0_ n1_; (try clear hb); (try clear hb2); (try clear hk); (try clear hi); have hcz10_0 : w9.cell? ⟨gb141, 0, none⟩ = some (.int .i64 a0_0) := (blk_cell BK141.out 0).trans rfl; have hcz10_1 : w9.cell? ⟨gb141, 1, none⟩ = some (.int .i64 a0_1) := (blk_cell BK141.out 1).trans rfl; have hcz10_2 : w9.cell? ⟨gb141, 2, none⟩ = some (.int .i64 a0_2) := (blk_cell BK141.out 2).trans rfl; have hcz10_3 : w9.cell? ⟨gb141, 3, none⟩ = some (.int .i64 a0_3) := (blk_cell BK141.out 3).trans rfl; have hcz10_4 : w9.cell? ⟨gb141, 4, none⟩ = some (.int .i64 a0_4) := (blk_cell BK141.out 4).trans rfl; have hcz10_5 : w9.cell? ⟨gb141, 5, none⟩ = some (.bool a0_5) := (blk_cell BK141.out 5).trans rfl; have hcz10_6 : w9.cell? ⟨gb141, 6, none⟩ = some (.slice A0_6 l0_6.length c0_6) := (blk_cell BK141.out 6).trans rfl; have hcz10_7 : w9.cell? ⟨gb141, 7, none⟩ = some (.slice A0_7 l0_7.length c0_7) := (blk_cell BK141.out 7).trans rfl; have hcz10_8 : w9.cell? ⟨gb141, 8, none⟩ = some (.slice A0_8 l0_8.length c0_8) := (blk_cell BK141.out 8).trans rfl; have hcz10_9 : w9.cell? ⟨gb141, 9, none⟩ = some (.slice A0_9 l0_9.length c0_9) := (blk_cell BK141.out 9).trans rfl; have hcz10_10 : w9.cell? ⟨gb141, 10, none⟩ = some (.slice A0_10 l0_10.length c0_10) := (blk_cell BK141.out 10).trans rfl; have hcz10_11 : w9.cell? ⟨gb141, 11, none⟩ = some (.slice A0_11 l0_11.length c0_11) := (blk_cell BK141.out 11).trans rfl; have hcz10_12 : w9.cell? ⟨gb141, 12, none⟩ = some (.slice A0_12 l0_12.length c0_12) := (blk_cell BK141.out 12).trans rfl; have hcz10_13 : w9.cell? ⟨gb141, 13, none⟩ = some (.slice A0_13 l0_13.length c0_13) := (blk_cell BK141.out 13).trans rfl; have hcz10_14 : w9.cell? ⟨gb141, 14, none⟩ = some (.int .i64 a0_14) := (blk_cell BK141.out 14).trans rfl; have hcz10_15 : w9.cell? ⟨gb141, 15, none⟩ = some (.slice A0_15 l0_15.length c0_15) := (blk_cell BK141.out 15).trans rfl; have hcz10_16 : w9.cell? ⟨gb141, 16, none⟩ = some (.slice A0_16 l0_16.length c0_16) := (blk_cell BK141.out 16).trans rfl; have hfz10_0 := blk_frozen BK141.out 0; have hfz10_1 := blk_frozen BK141.out 1; have hfz10_2 := blk_frozen BK141.out 2; have hfz10_3 := blk_frozen BK141.out 3; have hfz10_4 := blk_frozen BK141.out 4; have hfz10_5 := blk_frozen BK141.out 5; have hfz10_6 := blk_frozen BK141.out 6; have hfz10_7 := blk_frozen BK141.out 7; have hfz10_8 := blk_frozen BK141.out 8; have hfz10_9 := blk_frozen BK141.out 9; have hfz10_10 := blk_frozen BK141.out 10; have hfz10_11 := blk_frozen BK141.out 11; have hfz10_12 := blk_frozen BK141.out 12; have hfz10_13 := blk_frozen BK141.out 13; have hfz10_14 := blk_frozen BK141.out 14; have hfz10_15 := blk_frozen BK141.out 15; have hfz10_16 := blk_frozen BK141.out 16) | (go_at_call 42; (with_reducible refine (vinculumref17_Few.calls k _ _ l0_9 _ _ l0_10 _ _ l0_11 _ _ l0_12 _ _ l0_13 a0_14 _ _ l0_15 _ _ l0_16 t143 _ ?side1 ?side2 ?side3 ?side4 ?side5 ?side6 ?side7 ?side8 ?side9 ?side10 ?side11 ?side12 ?side13 ?side14 A6.out).mono ?_); (case side1 => repeat (first | exact (Kd.C_below HR0_9.out HB.out) | (with_reducible refine Kd.C_alloc ?_ _) | (with_reducible refine Kd.C_drewN ?_ _) | (with_reducible refine Kd.C_drew ?_))); (case side2 => exact HC0_9.out); (case side3 => repeat (first | exact (Kd.C_below HR0_10.out HB.out) | (with_reducible refine Kd.C_alloc ?_ _) | (with_reducible refine Kd.C_drewN ?_ _) | (with_reducible refine Kd.C_drew ?_))); (case side4 => exact HC0_10.out); (case side5 => repeat (first | exact (Kd.C_below HR0_11.out HB.out) | (with_reducible refine Kd.C_alloc ?_ _) | (with_reducible refine Kd.C_drewN ?_ _) | (with_reducible refine Kd.C_drew ?_))); (case side6 => exact HC0_11.out); (case side7 => repeat (first | exact (Kd.C_below HR0_12.out HB.out) | (with_reducible refine Kd.C_alloc ?_ _) | (with_reducible refine Kd.C_drewN ?_ _) | (with_reducible refine Kd.C_drew ?_))); (case side8 => exact HC0_12.out); (case side9 => repeat (first | exact (Kd.C_below HR0_13.out HB.out) | (with_reducible refine Kd.C_alloc ?_ _) | (with_reducible refine Kd.C_drewN ?_ _) | (with_reducible refine Kd.C_drew ?_))); (case side10 => exact HC0_13.out); (case side11 => repeat (first | exact (Kd.C_below HR0_15.out HB.out) | (with_reducible refine Kd.C_alloc ?_ _) | (with_reducible refine Kd.C_drewN ?_ _) | (with_reducible refine Kd.C_drew ?_))); (case side12 => exact HC0_15.out); (case side13 => repeat (first | exact (Kd.C_below HR0_16.out HB.out) | (with_reducible refine Kd.C_alloc ?_ _) | (with_reducible refine Kd.C_drewN ?_ _) | (with_reducible refine Kd.C_drew ?_))); (case side14 => exact HC0_16.out); rintro e w11 ⟨rfl, hb⟩; have n0_ := Aside0.mk (blk_below (g := gb141) (o := .cells #[.int .i64 a0_0, .int .i64 a0_1, .int .i64 a0_2, .int .i64 a0_3, .int .i64 a0_4, .bool a0_5, .slice A0_6 l0_6.length c0_6, .slice A0_7 l0_7.length c0_7, .slice A0_8 l0_8.length c0_8, .slice A0_9 l0_9.length c0_9, .slice A0_10 l0_10.length c0_10, .slice A0_11 l0_11.length c0_11, .slice A0_12 l0_12.length c0_12, .slice A0_13 l0_13.length c0_13, .int .i64 a0_14, .slice A0_15 l0_15.length c0_15, .slice A0_16 l0_16.length c0_16] 36 (0, 0)) (by (with_reducible repeat (first | refine blk_drewN ?_ _ | refine blk_drew ?_ | refine blk_alloc ?_ _)); exact BK141.out) hb); have n1_ := Aside0.mk (below_step (by repeat (first | (with_reducible first | exact HB.out | apply below_alloc | apply pw_below_drewN | apply below_drew1 | refine below_set ?_ GE141.out) | exact HB.out)) hb); clear BK141; clear HB; have BK141 := n0_; have HB := n1_; clear n0_ n1_; (try clear hb); (try clear hb2); (try clear hk); (try clear hi)))
        go_ret
        exact ⟨by first | rfl | (simp [errW_none, errW_some] <;> rfl) | (simp [*, errW_none, errW_some] <;> rfl), by repeat (first | (with_reducible first | exact HB.out | apply below_alloc | apply pw_below_drewN | apply below_drew1 | refine below_set ?_ GE141.out) | exact HB.out)⟩
      · replace c5 := Bool.eq_false_iff.mpr c5
        subst c5
        have H1 : (some false) = some r := by rw [if_neg (show ¬ (false = true) by decide)] at H; exact H
        clear H
        have H := H1
        clear H1
        obtain rfl := Option.some.inj H
        go_enter Tryz.func15, Tryz.ntmps15
        go_wp2_with (first | ((with_reducible refine gate_dst (N := 1) rfl ?_); (try (refine gate_guard (by rfl) ?_; dsimp only)); refine box_event ?hg (N := 1) ?hd (cs := #[.int .i64 a0_0, .int .i64 a0_1, .int .i64 a0_2, .int .i64 a0_3, .int .i64 a0_4, .bool a0_5, .slice A0_6 l0_6.length c0_6, .slice A0_7 l0_7.length c0_7, .slice A0_8 l0_8.length c0_8, .slice A0_9 l0_9.length c0_9, .slice A0_10 l0_10.length c0_10, .slice A0_11 l0_11.length c0_11, .slice A0_12 l0_12.length c0_12, .slice A0_13 l0_13.length c0_13, .int .i64 a0_14, .slice A0_15 l0_15.length c0_15, .slice A0_16 l0_16.length c0_16]) (t := 36) ?hr ?_; (case hd => rfl); (case hg => rfl); (case hr => first | (go_simp; done) | (go_simp; rfl)); intro gb141 hg w12 hbox hb; have n0_ := Aside0.mk (below_step (by repeat (first | (with_reducible first | exact HB.out | apply below_alloc | apply pw_below_drewN | apply below_drew1) | exact HB.out)) hb); have n1_ := Aside0.mk (hbox); have n2_ := Aside0.mk ((by rw [hg]; exact (below_size (by repeat (first | (with_reducible first | exact HB.out | apply below_alloc | apply pw_below_drewN | apply below_drew1) | exact HB.out))) : w.heap.size ≤ gb141)); have n3_ := Aside0.mk ((by rw [hg]; exact (below_size (by repeat (first | (with_reducible first | exact HB.out | apply below_alloc | apply pw_below_drewN | apply below_drew1) | exact HB.out))) : w.heap.size ≤ gb141)); clear HB; have HB := n0_; have BK141 := n1_; have GW141 := n2_; have GE141 := n3_; clear n0_ n1_ n2_ n3_; clear hb hbox hg; have hcz13_0 : w12.cell? ⟨gb141, 0, none⟩ = some (.int .i64 a0_0) := (blk_cell BK141.out 0).trans rfl; have hcz13_1 : w12.cell? ⟨gb141, 1, none⟩ = some (.int .i64 a0_1) := (blk_cell BK141.out 1).trans rfl; have hcz13_2 : w12.cell? ⟨gb141, 2, none⟩ = some (.int .i64 a0_2) := (blk_cell BK141.out 2).trans rfl; have hcz13_3 : w12.cell? ⟨gb141, 3, none⟩ = some (.int .i64 a0_3) := (blk_cell BK141.out 3).trans rfl; have hcz13_4 : w12.cell? ⟨gb141, 4, none⟩ = some (.int .i64 a0_4) := (blk_cell BK141.out 4).trans rfl; have hcz13_5 : w12.cell? ⟨gb141, 5, none⟩ = some (.bool a0_5) := (blk_cell BK141.out 5).trans rfl; have hcz13_6 : w12.cell? ⟨gb141, 6, none⟩ = some (.slice A0_6 l0_6.length c0_6) := (blk_cell BK141.out 6).trans rfl; have hcz13_7 : w12.cell? ⟨gb141, 7, none⟩ = some (.slice A0_7 l0_7.length c0_7) := (blk_cell BK141.out 7).trans rfl; have hcz13_8 : w12.cell? ⟨gb141, 8, none⟩ = some (.slice A0_8 l0_8.length c0_8) := (blk_cell BK141.out 8).trans rfl; have hcz13_9 : w12.cell? ⟨gb141, 9, none⟩ = some (.slice A0_9 l0_9.length c0_9) := (blk_cell BK141.out 9).trans rfl; have hcz13_10 : w12.cell? ⟨gb141, 10, none⟩ = some (.slice A0_10 l0_10.length c0_10) := (blk_cell BK141.out 10).trans rfl; have hcz13_11 : w12.cell? ⟨gb141, 11, none⟩ = some (.slice A0_11 l0_11.length c0_11) := (blk_cell BK141.out 11).trans rfl; have hcz13_12 : w12.cell? ⟨gb141, 12, none⟩ = some (.slice A0_12 l0_12.length c0_12) := (blk_cell BK141.out 12).trans rfl; have hcz13_13 : w12.cell? ⟨gb141, 13, none⟩ = some (.slice A0_13 l0_13.length c0_13) := (blk_cell BK141.out 13).trans rfl; have hcz13_14 : w12.cell? ⟨gb141, 14, none⟩ = some (.int .i64 a0_14) := (blk_cell BK141.out 14).trans rfl; have hcz13_15 : w12.cell? ⟨gb141, 15, none⟩ = some (.slice A0_15 l0_15.length c0_15) := (blk_cell BK141.out 15).trans rfl; have hcz13_16 : w12.cell? ⟨gb141, 16, none⟩ = some (.slice A0_16 l0_16.length c0_16) := (blk_cell BK141.out 16).trans rfl; have hfz13_0 := blk_frozen BK141.out 0; have hfz13_1 := blk_frozen BK141.out 1; have hfz13_2 := blk_frozen BK141.out 2; have hfz13_3 := blk_frozen BK141.out 3; have hfz13_4 := blk_frozen BK141.out 4; have hfz13_5 := blk_frozen BK141.out 5; have hfz13_6 := blk_frozen BK141.out 6; have hfz13_7 := blk_frozen BK141.out 7; have hfz13_8 := blk_frozen BK141.out 8; have hfz13_9 := blk_frozen BK141.out 9; have hfz13_10 := blk_frozen BK141.out 10; have hfz13_11 := blk_frozen BK141.out 11; have hfz13_12 := blk_frozen BK141.out 12; have hfz13_13 := blk_frozen BK141.out 13; have hfz13_14 := blk_frozen BK141.out 14; have hfz13_15 := blk_frozen BK141.out 15; have hfz13_16 := blk_frozen BK141.out 16) | (go_at_call 41; (with_reducible refine (vinculumref11_Short.calls k _ _ l0_8 false _ ?side1 ?side2 A4.out).mono ?_); (case side1 => repeat (first | exact (Kd.C_below HR0_8.out HB.out) | (with_reducible refine Kd.C_alloc ?_ _) | (with_reducible refine Kd.C_drewN ?_ _) | (with_reducible refine Kd.C_drew ?_))); (case side2 => exact HC0_8.out); rintro e w14 ⟨rfl, hb⟩; have n0_ := Aside0.mk (blk_below (g := gb141) (o := .cells #[.int .i64 a0_0, .int .i64 a0_1, .int .i64 a0_2, .int .i64 a0_3, .int .i64 a0_4, .bool a0_5, .slice A0_6 l0_6.length c0_6, .slice A0_7 l0_7.length c0_7, .slice A0_8 l0_8.length c0_8, .slice A0_9 l0_9.length c0_9, .slice A0_10 l0_10.length c0_10, .slice A0_11 l0_11.length c0_11, .slice A0_12 l0_12.length c0_12, .slice A0_13 l0_13.length c0_13, .int .i64 a0_14, .slice A0_15 l0_15.length c0_15, .slice A0_16 l0_16.length c0_16] 36 (0, 0)) (by (with_reducible repeat (first | refine blk_drewN ?_ _ | refine blk_drew ?_ | refine blk_alloc ?_ _)); exact BK141.out) hb); have n1_ := Aside0.mk (below_step (by repeat (first | (with_reducible first | exact HB.out | apply below_alloc | apply pw_below_drewN | apply below_drew1 | refine below_set ?_ GE141.out) | exact HB.out)) hb); clear BK141; clear HB; have BK141 := n0_; have HB := n1_; clear n0_ n1_; (try clear hb); (try clear hb2); (try clear hk); (try clear hi)))
        go_ret
        exact ⟨by first | rfl | (simp [errW_none, errW_some] <;> rfl) | (simp [*, errW_none, errW_some] <;> rfl), by repeat (first | (with_reducible first | exact HB.out | apply below_alloc | apply pw_below_drewN | apply below_drew1 | refine below_set ?_ GE141.out) | exact HB.out)⟩
    · rw [if_neg c3] at H
      have c3b0 : decide ((l0_7.length : Int) ≤ 300) = false := decide_eq_false c3
      have c3b1 : decide (l0_7.length ≤ 300) = false := decide_eq_false (by omega)
      clear c3
      obtain rfl := Option.some.inj H
      go_enter Tryz.func15, Tryz.ntmps15
      go_wp2_with (first | ((with_reducible refine gate_dst (N := 1) rfl ?_); (try (refine gate_guard (by rfl) ?_; dsimp only)); refine box_event ?hg (N := 1) ?hd (cs := #[.int .i64 a0_0, .int .i64 a0_1, .int .i64 a0_2, .int .i64 a0_3, .int .i64 a0_4, .bool a0_5, .slice A0_6 l0_6.length c0_6, .slice A0_7 l0_7.length c0_7, .slice A0_8 l0_8.length c0_8, .slice A0_9 l0_9.length c0_9, .slice A0_10 l0_10.length c0_10, .slice A0_11 l0_11.length c0_11, .slice A0_12 l0_12.length c0_12, .slice A0_13 l0_13.length c0_13, .int .i64 a0_14, .slice A0_15 l0_15.length c0_15, .slice A0_16 l0_16.length c0_16]) (t := 36) ?hr ?_; (case hd => rfl); (case hg => rfl); (case hr => first | (go_simp; done) | (go_simp; rfl)); intro gb141 hg w15 hbox hb; have n0_ := Aside0.mk (below_step (by repeat (first | (with_reducible first | exact HB.out | apply below_alloc | apply pw_below_drewN | apply below_drew1) | exact HB.out)) hb); have n1_ := Aside0.mk (hbox); have n2_ := Aside0.mk ((by rw [hg]; exact (below_size (by repeat (first | (with_reducible first | exact HB.out | apply below_alloc | apply pw_below_drewN | apply below_drew1) | exact HB.out))) : w.heap.size ≤ gb141)); have n3_ := Aside0.mk ((by rw [hg]; exact (below_size (by repeat (first | (with_reducible first | exact HB.out | apply below_alloc | apply pw_below_drewN | apply below_drew1) | exact HB.out))) : w.heap.size ≤ gb141)); clear HB; have HB := n0_; have BK141 := n1_; have GW141 := n2_; have GE141 := n3_; clear n0_ n1_ n2_ n3_; clear hb hbox hg; have hcz16_0 : w15.cell? ⟨gb141, 0, none⟩ = some (.int .i64 a0_0) := (blk_cell BK141.out 0).trans rfl; have hcz16_1 : w15.cell? ⟨gb141, 1, none⟩ = some (.int .i64 a0_1) := (blk_cell BK141.out 1).trans rfl; have hcz16_2 : w15.cell? ⟨gb141, 2, none⟩ = some (.int .i64 a0_2) := (blk_cell BK141.out 2).trans rfl; have hcz16_3 : w15.cell? ⟨gb141, 3, none⟩ = some (.int .i64 a0_3) := (blk_cell BK141.out 3).trans rfl; have hcz16_4 : w15.cell? ⟨gb141, 4, none⟩ = some (.int .i64 a0_4) := (blk_cell BK141.out 4).trans rfl; have hcz16_5 : w15.cell? ⟨gb141, 5, none⟩ = some (.bool a0_5) := (blk_cell BK141.out 5).trans rfl; have hcz16_6 : w15.cell? ⟨gb141, 6, none⟩ = some (.slice A0_6 l0_6.length c0_6) := (blk_cell BK141.out 6).trans rfl; have hcz16_7 : w15.cell? ⟨gb141, 7, none⟩ = some (.slice A0_7 l0_7.length c0_7) := (blk_cell BK141.out 7).trans rfl; have hcz16_8 : w15.cell? ⟨gb141, 8, none⟩ = some (.slice A0_8 l0_8.length c0_8) := (blk_cell BK141.out 8).trans rfl; have hcz16_9 : w15.cell? ⟨gb141, 9, none⟩ = some (.slice A0_9 l0_9.length c0_9) := (blk_cell BK141.out 9).trans rfl; have hcz16_10 : w15.cell? ⟨gb141, 10, none⟩ = some (.slice A0_10 l0_10.length c0_10) := (blk_cell BK141.out 10).trans rfl; have hcz16_11 : w15.cell? ⟨gb141, 11, none⟩ = some (.slice A0_11 l0_11.length c0_11) := (blk_cell BK141.out 11).trans rfl; have hcz16_12 : w15.cell? ⟨gb141, 12, none⟩ = some (.slice A0_12 l0_12.length c0_12) := (blk_cell BK141.out 12).trans rfl; have hcz16_13 : w15.cell? ⟨gb141, 13, none⟩ = some (.slice A0_13 l0_13.length c0_13) := (blk_cell BK141.out 13).trans rfl; have hcz16_14 : w15.cell? ⟨gb141, 14, none⟩ = some (.int .i64 a0_14) := (blk_cell BK141.out 14).trans rfl; have hcz16_15 : w15.cell? ⟨gb141, 15, none⟩ = some (.slice A0_15 l0_15.length c0_15) := (blk_cell BK141.out 15).trans rfl; have hcz16_16 : w15.cell? ⟨gb141, 16, none⟩ = some (.slice A0_16 l0_16.length c0_16) := (blk_cell BK141.out 16).trans rfl; have hfz16_0 := blk_frozen BK141.out 0; have hfz16_1 := blk_frozen BK141.out 1; have hfz16_2 := blk_frozen BK141.out 2; have hfz16_3 := blk_frozen BK141.out 3; have hfz16_4 := blk_frozen BK141.out 4; have hfz16_5 := blk_frozen BK141.out 5; have hfz16_6 := blk_frozen BK141.out 6; have hfz16_7 := blk_frozen BK141.out 7; have hfz16_8 := blk_frozen BK141.out 8; have hfz16_9 := blk_frozen BK141.out 9; have hfz16_10 := blk_frozen BK141.out 10; have hfz16_11 := blk_frozen BK141.out 11; have hfz16_12 := blk_frozen BK141.out 12; have hfz16_13 := blk_frozen BK141.out 13; have hfz16_14 := blk_frozen BK141.out 14; have hfz16_15 := blk_frozen BK141.out 15; have hfz16_16 := blk_frozen BK141.out 16))
      go_ret
      exact ⟨by first | rfl | (simp [errW_none, errW_some] <;> rfl) | (simp [*, errW_none, errW_some] <;> rfl), by repeat (first | (with_reducible first | exact HB.out | apply below_alloc | apply pw_below_drewN | apply below_drew1 | refine below_set ?_ GE141.out) | exact HB.out)⟩
  · rw [if_neg c2] at H
    have c2b0 : decide ((l0_6.length : Int) ≤ 300) = false := decide_eq_false c2
    have c2b1 : decide (l0_6.length ≤ 300) = false := decide_eq_false (by omega)
    clear c2
    obtain rfl := Option.some.inj H
    go_enter Tryz.func15, Tryz.ntmps15
    go_wp2_with (first | ((with_reducible refine gate_dst (N := 1) rfl ?_); (try (refine gate_guard (by rfl) ?_; dsimp only)); refine box_event ?hg (N := 1) ?hd (cs := #[.int .i64 a0_0, .int .i64 a0_1, .int .i64 a0_2, .int .i64 a0_3, .int .i64 a0_4, .bool a0_5, .slice A0_6 l0_6.length c0_6, .slice A0_7 l0_7.length c0_7, .slice A0_8 l0_8.length c0_8, .slice A0_9 l0_9.length c0_9, .slice A0_10 l0_10.length c0_10, .slice A0_11 l0_11.length c0_11, .slice A0_12 l0_12.length c0_12, .slice A0_13 l0_13.length c0_13, .int .i64 a0_14, .slice A0_15 l0_15.length c0_15, .slice A0_16 l0_16.length c0_16]) (t := 36) ?hr ?_; (case hd => rfl); (case hg => rfl); (case hr => first | (go_simp; done) | (go_simp; rfl)); intro gb141 hg w17 hbox hb; have n0_ := Aside0.mk (below_step (by repeat (first | (with_reducible first | exact HB.out | apply below_alloc | apply pw_below_drewN | apply below_drew1) | exact HB.out)) hb); have n1_ := Aside0.mk (hbox); have n2_ := Aside0.mk ((by rw [hg]; exact (below_size (by repeat (first | (with_reducible first | exact HB.out | apply below_alloc | apply pw_below_drewN | apply below_drew1) | exact HB.out))) : w.heap.size ≤ gb141)); have n3_ := Aside0.mk ((by rw [hg]; exact (below_size (by repeat (first | (with_reducible first | exact HB.out | apply below_alloc | apply pw_below_drewN | apply below_drew1) | exact HB.out))) : w.heap.size ≤ gb141)); clear HB; have HB := n0_; have BK141 := n1_; have GW141 := n2_; have GE141 := n3_; clear n0_ n1_ n2_ n3_; clear hb hbox hg; have hcz18_0 : w17.cell? ⟨gb141, 0, none⟩ = some (.int .i64 a0_0) := (blk_cell BK141.out 0).trans rfl; have hcz18_1 : w17.cell? ⟨gb141, 1, none⟩ = some (.int .i64 a0_1) := (blk_cell BK141.out 1).trans rfl; have hcz18_2 : w17.cell? ⟨gb141, 2, none⟩ = some (.int .i64 a0_2) := (blk_cell BK141.out 2).trans rfl; have hcz18_3 : w17.cell? ⟨gb141, 3, none⟩ = some (.int .i64 a0_3) := (blk_cell BK141.out 3).trans rfl; have hcz18_4 : w17.cell? ⟨gb141, 4, none⟩ = some (.int .i64 a0_4) := (blk_cell BK141.out 4).trans rfl; have hcz18_5 : w17.cell? ⟨gb141, 5, none⟩ = some (.bool a0_5) := (blk_cell BK141.out 5).trans rfl; have hcz18_6 : w17.cell? ⟨gb141, 6, none⟩ = some (.slice A0_6 l0_6.length c0_6) := (blk_cell BK141.out 6).trans rfl; have hcz18_7 : w17.cell? ⟨gb141, 7, none⟩ = some (.slice A0_7 l0_7.length c0_7) := (blk_cell BK141.out 7).trans rfl; have hcz18_8 : w17.cell? ⟨gb141, 8, none⟩ = some (.slice A0_8 l0_8.length c0_8) := (blk_cell BK141.out 8).trans rfl; have hcz18_9 : w17.cell? ⟨gb141, 9, none⟩ = some (.slice A0_9 l0_9.length c0_9) := (blk_cell BK141.out 9).trans rfl; have hcz18_10 : w17.cell? ⟨gb141, 10, none⟩ = some (.slice A0_10 l0_10.length c0_10) := (blk_cell BK141.out 10).trans rfl; have hcz18_11 : w17.cell? ⟨gb141, 11, none⟩ = some (.slice A0_11 l0_11.length c0_11) := (blk_cell BK141.out 11).trans rfl; have hcz18_12 : w17.cell? ⟨gb141, 12, none⟩ = some (.slice A0_12 l0_12.length c0_12) := (blk_cell BK141.out 12).trans rfl; have hcz18_13 : w17.cell? ⟨gb141, 13, none⟩ = some (.slice A0_13 l0_13.length c0_13) := (blk_cell BK141.out 13).trans rfl; have hcz18_14 : w17.cell? ⟨gb141, 14, none⟩ = some (.int .i64 a0_14) := (blk_cell BK141.out 14).trans rfl; have hcz18_15 : w17.cell? ⟨gb141, 15, none⟩ = some (.slice A0_15 l0_15.length c0_15) := (blk_cell BK141.out 15).trans rfl; have hcz18_16 : w17.cell? ⟨gb141, 16, none⟩ = some (.slice A0_16 l0_16.length c0_16) := (blk_cell BK141.out 16).trans rfl; have hfz18_0 := blk_frozen BK141.out 0; have hfz18_1 := blk_frozen BK141.out 1; have hfz18_2 := blk_frozen BK141.out 2; have hfz18_3 := blk_frozen BK141.out 3; have hfz18_4 := blk_frozen BK141.out 4; have hfz18_5 := blk_frozen BK141.out 5; have hfz18_6 := blk_frozen BK141.out 6; have hfz18_7 := blk_frozen BK141.out 7; have hfz18_8 := blk_frozen BK141.out 8; have hfz18_9 := blk_frozen BK141.out 9; have hfz18_10 := blk_frozen BK141.out 10; have hfz18_11 := blk_frozen BK141.out 11; have hfz18_12 := blk_frozen BK141.out 12; have hfz18_13 := blk_frozen BK141.out 13; have hfz18_14 := blk_frozen BK141.out 14; have hfz18_15 := blk_frozen BK141.out 15; have hfz18_16 := blk_frozen BK141.out 16))
    go_ret
    exact ⟨by first | rfl | (simp [errW_none, errW_some] <;> rfl) | (simp [*, errW_none, errW_some] <;> rfl), by repeat (first | (with_reducible first | exact HB.out | apply below_alloc | apply pw_below_drewN | apply below_drew1 | refine below_set ?_ GE141.out) | exact HB.out)⟩
end Go.Proofs.YtbhljokhcmfgjaaGreat.P

namespace Go.Proofs.YtbhljokhcmfgjaaGreat.P
open Go.RowKit Go.Proofs.YtbhljokhcmfgjaaGreatW.PrintWords
theorem few16_l0 (l : List S133) (hl : l.length ≤ 40) : ∀ (n i : Nat), l.length - i = n → i ≤ l.length → ∃ r, vinculumref16_few.l0 (2 * n + 2) l (i : Int) = some r := by
  intro n
  have c60 : decide ((l.length : Int) ≤ 40) = true := by simp; omega
  induction n with
  | zero =>
    intro i hn hi
    have c1 : ¬ (i : Int) < (l.length : Int) := by omega
    rw [vinculumref16_few.l0, if_neg c1, vinculumref16_few.j1, if_neg (by decide)]
    exact ⟨_, rfl⟩
  | succ n ih =>
    intro i hn hi
    have c1 : (i : Int) < (l.length : Int) := by omega
    have c2 : (0 : Int) ≤ (i : Int) := by omega
    rw [show 2 * (n + 1) + 2 = (2 * n + 2 + 1) + 1 from rfl, vinculumref16_few.l0, if_pos c1, c60, vinculumref16_few.j1, if_pos rfl, if_pos c2, if_pos c1, wrap_next i (by omega)]
    repeat' split
    · exact ⟨_, rfl⟩
    · exact ⟨_, rfl⟩
    · exact ih (i + 1) (by omega) (by omega)
theorem few16_total (l : List S133) : ∃ k r, vinculumref16_few.f k l = some r := by
  by_cases hl : l.length ≤ 40
  · obtain ⟨r, hr⟩ := few16_l0 l hl l.length 0 (by omega) (by omega)
    exact ⟨_, r, hr⟩
  · refine ⟨2, false, ?_⟩
    have c1 : (0 : Int) < (l.length : Int) := by omega
    have c60 : decide ((l.length : Int) ≤ 40) = false := by simp; omega
    rw [vinculumref16_few.f, vinculumref16_few.l0, if_pos c1, c60, vinculumref16_few.j1, if_neg (by decide), c60]
end Go.Proofs.YtbhljokhcmfgjaaGreat.P

namespace Go.Proofs.YtbhljokhcmfgjaaGreat.P
open Go.RowKit Go.Proofs.YtbhljokhcmfgjaaGreatW.PrintWords
/-- The inner loop, of at most eight corners: it ends, or the outer one goes on. -/
theorem few15_l1 (l : List S121) (i K : Nat) (hi : i < l.length) (h8 : ((rd_T121 l i).f1).length ≤ 8) (hl : l.length ≤ 40) (hgo : ∃ r, vinculumref15_Few.l0 K l ((i + 1 : Nat) : Int) = some r) : ∀ (n j : Nat), ((rd_T121 l i).f1).length - j = n → j ≤ ((rd_T121 l i).f1).length → ∃ r, vinculumref15_Few.l1 (K + n + 1) l (i : Int) (j : Int) = some r := by
  have a1 : (0 : Int) ≤ (i : Int) := by omega
  have a2 : (i : Int) < (l.length : Int) := by omega
  intro n
  induction n with
  | zero =>
    intro j hn hj
    have c1 : ¬ (j : Int) < (((rd_T121 l i).f1).length : Int) := by omega
    rw [vinculumref15_Few.l1, if_pos a1, if_pos a2, if_neg c1, wrap_next i (by omega)]
    exact hgo
  | succ n ih =>
    intro j hn hj
    have c1 : (j : Int) < (((rd_T121 l i).f1).length : Int) := by omega
    have c2 : (0 : Int) ≤ (j : Int) := by omega
    rw [show K + (n + 1) + 1 = (K + n + 1) + 1 from rfl, vinculumref15_Few.l1, if_pos a1, if_pos a2, if_pos c1, if_pos c2, wrap_next j (by omega)]
    repeat' split
    · exact ⟨_, rfl⟩
    · exact ⟨_, rfl⟩
    · exact ih (j + 1) (by omega) (by omega)
theorem few15_l0 (l : List S121) (hl : l.length ≤ 40) : ∀ (n i : Nat), l.length - i = n → i ≤ l.length → ∃ k r, vinculumref15_Few.l0 k l (i : Int) = some r := by
  intro n
  have c60 : decide ((l.length : Int) ≤ 40) = true := by simp; omega
  induction n with
  | zero =>
    intro i hn hi
    have c1 : ¬ (i : Int) < (l.length : Int) := by omega
    refine ⟨2, ?_⟩
    rw [vinculumref15_Few.l0, if_neg c1, vinculumref15_Few.j1, if_neg (by decide)]
    exact ⟨_, rfl⟩
  | succ n ih =>
    intro i hn hi
    have c1 : (i : Int) < (l.length : Int) := by omega
    have c2 : (0 : Int) ≤ (i : Int) := by omega
    obtain ⟨K, hgo⟩ := ih (i + 1) (by omega) (by omega)
    by_cases h8 : (((rd_T121 l i).f1).length : Int) > 8
    · refine ⟨2, false, ?_⟩
      rw [vinculumref15_Few.l0, if_pos c1, c60, vinculumref15_Few.j1, if_pos rfl, if_pos c2, if_pos c1, if_pos h8]
    · obtain ⟨r, hr⟩ := few15_l1 l i K (by omega) (by omega) hl hgo _ 0 rfl (by omega)
      refine ⟨K + (((rd_T121 l i).f1).length - 0) + 1 + 1 + 1, r, ?_⟩
      rw [vinculumref15_Few.l0, if_pos c1, c60, vinculumref15_Few.j1, if_pos rfl, if_pos c2, if_pos c1, if_neg h8]
      exact hr
theorem few15_total (l : List S121) : ∃ k r, vinculumref15_Few.f k l = some r := by
  by_cases hl : l.length ≤ 40
  · exact few15_l0 l hl l.length 0 (by omega) (by omega)
  · refine ⟨2, false, ?_⟩
    have c1 : (0 : Int) < (l.length : Int) := by omega
    have c60 : decide ((l.length : Int) ≤ 40) = false := by simp; omega
    rw [vinculumref15_Few.f, vinculumref15_Few.l0, if_pos c1, c60, vinculumref15_Few.j1, if_neg (by decide), c60]
end Go.Proofs.YtbhljokhcmfgjaaGreat.P

namespace Go.Proofs.YtbhljokhcmfgjaaGreat.P
open Go.RowKit Go.Proofs.YtbhljokhcmfgjaaGreatW.PrintWords
theorem few16b_total (a : Int) (l m : List S133) : ∃ k r, vinculumref16_Few.f k a l m = some r := by
  obtain ⟨k1, b1, h1⟩ := few16_total l
  obtain ⟨k2, b2, h2⟩ := few16_total m
  have u1 := up (f := fun k => vinculumref16_few.f k l) (fun k => vinculumref16_few.mono l k) h1 (k1 + k2) (by omega)
  have u2 := up (f := fun k => vinculumref16_few.f k m) (fun k => vinculumref16_few.mono m k) h2 (k1 + k2) (by omega)
  refine ⟨k1 + k2, ?_⟩
  rw [vinculumref16_Few.f, u1, Option.bind_some, u2, Option.bind_some]
  repeat' split
  all_goals exact ⟨_, rfl⟩
theorem few17_total (l0 : List Int) (l1 l2 : List S77) (l3 : List Int) (l4 : List S121) (a5 : Int) (l6 l7 : List S133) : ∃ k r, vinculumref17_Few.f k l0 l1 l2 l3 l4 a5 l6 l7 = some r := by
  obtain ⟨k1, b1, h1⟩ := few15_total l4
  obtain ⟨k2, b2, h2⟩ := few16b_total a5 l6 l7
  have u1 := up (f := fun k => vinculumref15_Few.f k l4) (fun k => vinculumref15_Few.mono l4 k) h1 (k1 + k2) (by omega)
  have u2 := up (f := fun k => vinculumref16_Few.f k a5 l6 l7) (fun k => vinculumref16_Few.mono a5 l6 l7 k) h2 (k1 + k2) (by omega)
  refine ⟨k1 + k2, ?_⟩
  rw [vinculumref17_Few.f, u1, Option.bind_some, u2, Option.bind_some]
  repeat' split
  all_goals exact ⟨_, rfl⟩
theorem few18_total (a0 a1 a2 a3 a4 : Int) (a5 : Bool) (l6 : List S159) (l7 : List S161) (l8 : List S118) (l9 : List Int) (l10 l11 : List S77) (l12 : List Int) (l13 : List S121) (a14 : Int) (l15 l16 : List S133) :
    ∃ k r, vinculumref18_Few.f k a0 a1 a2 a3 a4 a5 l6 l7 l8 l9 l10 l11 l12 l13 a14 l15 l16 = some r := by
  obtain ⟨k1, b1, h1⟩ := short11_total l8
  obtain ⟨k2, b2, h2⟩ := few17_total l9 l10 l11 l12 l13 a14 l15 l16
  have u1 := up (f := fun k => vinculumref11_Short.f k l8) (fun k => vinculumref11_Short.mono l8 k) h1 (k1 + k2) (by omega)
  have u2 := up (f := fun k => vinculumref17_Few.f k l9 l10 l11 l12 l13 a14 l15 l16) (fun k => vinculumref17_Few.mono l9 l10 l11 l12 l13 a14 l15 l16 k) h2 (k1 + k2) (by omega)
  refine ⟨k1 + k2, ?_⟩
  rw [vinculumref18_Few.f, u1, Option.bind_some, u2, Option.bind_some]
  repeat' split
  all_goals exact ⟨_, rfl⟩
end Go.Proofs.YtbhljokhcmfgjaaGreat.P
