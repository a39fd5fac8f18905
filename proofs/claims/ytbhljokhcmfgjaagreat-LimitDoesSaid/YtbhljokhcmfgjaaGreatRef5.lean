import Derived.Test.YtbhljokhcmfgjaaGreatRef4
/- The document's head (layer 5) and styles (layer 22): short walks, over what the program computes. -/
set_option linter.unusedVariables false
set_option linter.unusedSimpArgs false
namespace Go.Proofs.YtbhljokhcmfgjaaGreat.P
open Go.RowKit Go.Proofs.YtbhljokhcmfgjaaGreatW.PrintWords Go.Proofs.YtbhljokhcmfgjaaGreatW.PrintLast Go.Proofs.YtbhljokhcmfgjaaGreatW.PrintMore

theorem short05 (n : Int) (w : World) : Calls Tryz.prog 93 #[.int .i64 n] w fun e w' => e = .returned (.bool (decide (-32768 ≤ n) && decide (n < 32768))) ∧ w = w' := by
  by_cases h1 : -32768 ≤ n
  · have e2 : decide (-32768 ≤ n) = true := by simpa using h1
    go_enter Tryz.func93, Tryz.ntmps93
    go_wp2
    go_ret
    exact ⟨tmb (by rw [e2, Bool.true_and]; congr 1; exact propext ⟨fun _ => by omega, fun _ => by omega⟩), rfl⟩
  · have e2 : decide (-32768 ≤ n) = false := by simpa using h1
    go_enter Tryz.func93, Tryz.ntmps93
    go_wp2
    go_ret
    exact ⟨tmb (by simp [e2]), rfl⟩
theorem short05_t {n : Int} (h : (decide (-32768 ≤ n) && decide (n < 32768)) = true) (w : World) : Calls Tryz.prog 93 #[.int .i64 n] w fun e w' => e = .returned (.bool true) ∧ w = w' := by
  have := short05 n w
  rwa [h] at this
theorem short05_f {n : Int} (h : (decide (-32768 ≤ n) && decide (n < 32768)) = false) (w : World) : Calls Tryz.prog 93 #[.int .i64 n] w fun e w' => e = .returned (.bool false) ∧ w = w' := by
  have := short05 n w
  rwa [h] at this
set_option maxHeartbeats 2000000 in
theorem is05 (u g m a d : Int) (l : Bool) (w : World) : Calls Tryz.prog 65 #[.agg #[.int .i64 u, .int .i64 g, .int .i64 m, .int .i64 a, .int .i64 d, .bool l]] w fun e w' => e = .returned (.bool (headIs u g m a d)) ∧ Below w.heap.size w w' := by
  have hu := Tryz.underlying23
  have HB : ∀ o, Aside0 (Below w.heap.size w (w.alloc o)) := fun o => ⟨(Below.refl _ _).alloc (Nat.le_refl _) _⟩
  by_cases h1 : 16 ≤ u
  case neg =>
    have e1 : decide (16 ≤ u) = false := by simpa using h1
    have HV := Aside0.mk (show headIs u g m a d = false by simp [headIs, e1])
    go_enter Tryz.func65, Tryz.ntmps65
    go_wp2
    go_ret
    exact ⟨tmb (by rw [HV.out]), (HB _).out⟩
  by_cases h2 : u ≤ 16384
  case neg =>
    have e1 : decide (16 ≤ u) = true := by simpa using h1
    have e2 : decide (u ≤ 16384) = false := by simpa using h2
    have HV := Aside0.mk (show headIs u g m a d = false by simp [headIs, e2])
    go_enter Tryz.func65, Tryz.ntmps65
    go_wp2
    go_ret
    exact ⟨tmb (by rw [HV.out]), (HB _).out⟩
  by_cases h3 : 1 ≤ g
  case neg =>
    have e1 : decide (16 ≤ u) = true := by simpa using h1
    have e2 : decide (u ≤ 16384) = true := by simpa using h2
    have e3 : decide (1 ≤ g) = false := by simpa using h3
    have HV := Aside0.mk (show headIs u g m a d = false by simp [headIs, e3])
    go_enter Tryz.func65, Tryz.ntmps65
    go_wp2
    go_ret
    exact ⟨tmb (by rw [HV.out]), (HB _).out⟩
  by_cases h4 : g ≤ 65535
  case neg =>
    have e1 : decide (16 ≤ u) = true := by simpa using h1
    have e2 : decide (u ≤ 16384) = true := by simpa using h2
    have e3 : decide (1 ≤ g) = true := by simpa using h3
    have e4 : decide (g ≤ 65535) = false := by simpa using h4
    have HV := Aside0.mk (show headIs u g m a d = false by simp [headIs, e4])
    go_enter Tryz.func65, Tryz.ntmps65
    go_wp2
    go_ret
    exact ⟨tmb (by rw [HV.out]), (HB _).out⟩
  have e1 : decide (16 ≤ u) = true := by simpa using h1
  have e2 : decide (u ≤ 16384) = true := by simpa using h2
  have e3 : decide (1 ≤ g) = true := by simpa using h3
  have e4 : decide (g ≤ 65535) = true := by simpa using h4
  by_cases h5 : 1 ≤ m
  case neg =>
    have e5 : decide (1 ≤ m) = false := by simpa using h5
    have HV := Aside0.mk (show headIs u g m a d = false by simp [headIs, e5])
    go_enter Tryz.func65, Tryz.ntmps65
    go_wp2
    go_ret
    exact ⟨tmb (by rw [HV.out]), (HB _).out⟩
  have e5 : decide (1 ≤ m) = true := by simpa using h5
  by_cases h6 : m ≤ g
  case neg =>
    have e6 : decide (m ≤ g) = false := by simpa using h6
    have HV := Aside0.mk (show headIs u g m a d = false by simp [headIs, e6])
    go_enter Tryz.func65, Tryz.ntmps65
    go_wp2
    go_ret
    exact ⟨tmb (by rw [HV.out]), (HB _).out⟩
  have e6 : decide (m ≤ g) = true := by simpa using h6
  by_cases h7 : (decide (-32768 ≤ a) && decide (a < 32768)) = true
  case neg =>
    have HV := Aside0.mk (show headIs u g m a d = false by simp only [headIs, show (decide (-32768 ≤ a) && decide (a < 32768)) = false by simpa using h7]; simp)
    have HL := Aside0.mk (show (decide (-32768 ≤ a) && decide (a < 32768)) = false by simpa using h7)
    clear h7
    go_enter Tryz.func65, Tryz.ntmps65
    go_wp2_with fail
    refine (short05_f HL.out _).mono ?_
    rintro _ w1 ⟨rfl, rfl⟩
    go_wp2
    go_ret
    exact ⟨tmb (by rw [HV.out]), (HB _).out⟩
  have HL := Aside0.mk h7
  have HV : Aside0 (headIs u g m a d = (decide (-32768 ≤ d) && decide (d < 32768))) := ⟨by simp only [headIs, e1, e2, e3, e4, e5, e6, h7, Bool.true_and]⟩
  clear h7
  by_cases h8 : (decide (-32768 ≤ d) && decide (d < 32768)) = true
  case neg =>
    have HL2 := Aside0.mk (show (decide (-32768 ≤ d) && decide (d < 32768)) = false by simpa using h8)
    clear h8
    go_enter Tryz.func65, Tryz.ntmps65
    go_wp2_with fail
    refine (short05_t HL.out _).mono ?_
    rintro _ w1 ⟨rfl, rfl⟩
    go_wp2_with fail
    refine (short05_f HL2.out _).mono ?_
    rintro _ w1 ⟨rfl, rfl⟩
    go_wp2
    go_ret
    exact ⟨tmb (by rw [HV.out, HL2.out]), (HB _).out⟩
  have HL2 := Aside0.mk h8
  clear h8
  go_enter Tryz.func65, Tryz.ntmps65
  go_wp2_with fail
  refine (short05_t HL.out _).mono ?_
  rintro _ w1 ⟨rfl, rfl⟩
  go_wp2_with fail
  refine (short05_t HL2.out _).mono ?_
  rintro _ w1 ⟨rfl, rfl⟩
  go_wp2
  go_ret
  exact ⟨tmb (by rw [HV.out, HL2.out]), (HB _).out⟩
def unitsC (h : S23) (n z : Int) : Int × Int := if headIs h.f0 h.f1 h.f2 h.f3 h.f4 = true then toldOf (mulDivR n z h.f0) else (0, 1)
set_option maxHeartbeats 1000000 in
theorem units05 (h : S23) (n z : Int) (w : World) : Calls Tryz.prog 40 #[.agg #[.int .i64 h.f0, .int .i64 h.f1, .int .i64 h.f2, .int .i64 h.f3, .int .i64 h.f4, .bool h.f5], .int .i64 n, .int .i64 z] w fun e w' => e = .returned (.tuple #[.int .i64 (unitsC h n z).1, .int .i64 (unitsC h n z).2]) ∧ Below w.heap.size w w' := by
  have hu := Tryz.underlying23
  by_cases hi : headIs h.f0 h.f1 h.f2 h.f3 h.f4 = true
  · have HI := Aside0.mk (fun w => is05 h.f0 h.f1 h.f2 h.f3 h.f4 h.f5 w)
    rw [hi] at HI
    have HV := Aside0.mk (show unitsC h n z = toldOf (mulDivR n z h.f0) from if_pos hi)
    clear hi
    go_enter Tryz.func40, Tryz.ntmps40
    go_wp2_with fail
    refine (HI.out _).mono ?_
    rintro _ w1 ⟨rfl, hb⟩
    have hc : w1.cell? ⟨w.heap.size, 0, none⟩ = some (.int .i64 h.f0) := by
      rw [hb.cell (p := ⟨w.heap.size, 0, none⟩) (by simp)]
      go_simp
    have HB := Aside0.mk (((Below.refl w.heap.size w).alloc (Nat.le_refl _) (.cells #[.int .i64 h.f0, .int .i64 h.f1, .int .i64 h.f2, .int .i64 h.f3, .int .i64 h.f4, .bool h.f5] 23)).trans (hb.mono (by simp)))
    clear hb
    go_wp2_with fail
    refine (mulDiv01 n z h.f0 _).mono ?_
    rintro _ w2 ⟨rfl, rfl⟩
    go_wp2
    go_ret2
    exact ⟨tm2 (by rw [HV.out]) (by rw [HV.out]), HB.out⟩
  · replace hi : headIs h.f0 h.f1 h.f2 h.f3 h.f4 = false := by simpa using hi
    have HI := Aside0.mk (fun w => is05 h.f0 h.f1 h.f2 h.f3 h.f4 h.f5 w)
    rw [hi] at HI
    have HV := Aside0.mk (show unitsC h n z = (0, 1) from if_neg (by rw [hi]; decide))
    clear hi
    go_enter Tryz.func40, Tryz.ntmps40
    go_wp2_with fail
    refine (HI.out _).mono ?_
    rintro _ w1 ⟨rfl, hb⟩
    have HB := Aside0.mk (((Below.refl w.heap.size w).alloc (Nat.le_refl _) (.cells #[.int .i64 h.f0, .int .i64 h.f1, .int .i64 h.f2, .int .i64 h.f3, .int .i64 h.f4, .bool h.f5] 23)).trans (hb.mono (by simp)))
    clear hb
    go_wp2
    go_ret2
    exact ⟨tm2 (by rw [HV.out]) (by rw [HV.out]), HB.out⟩
end Go.Proofs.YtbhljokhcmfgjaaGreat.P
