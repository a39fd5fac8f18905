import Derived.Test.YtbhljokhcmfgjaaGreatK2
import Derived.Test.YtbhljokhcmfgjaaGreatK4
import Derived.Laws.EntriesVeiled
/- Part 5 of the proof of stackCenter_holds: what it needs of this work's texts, joined. -/
set_option linter.unusedVariables false
set_option linter.unusedSimpArgs false
namespace Go.Proofs.YtbhljokhcmfgjaaGreat.P
open Go.RowKit Go.Proofs.YtbhljokhcmfgjaaGreatW.PrintWords Go.Proofs.YtbhljokhcmfgjaaGreatW.PrintLast Go.Proofs.YtbhljokhcmfgjaaGreatW.PrintMore
set_option linter.unusedSimpArgs false
def headIs (u g m a d : Int) : Bool := (decide (16 ≤ u) && decide (u ≤ 16384)) && ((decide (1 ≤ g) && decide (g ≤ 65535)) && ((decide (1 ≤ m) && decide (m ≤ g)) && ((decide (-32768 ≤ a) && decide (a < 32768)) && (decide (-32768 ≤ d) && decide (d < 32768)))))
def head_Is.f (u g m a d : Int) (_ : Bool) : Option Bool := some (headIs u g m a d)
set_option maxHeartbeats 400000 in
theorem head_Is1 (n : Int) (w : World) : Calls Tryz.prog 86 #[.int .i64 n] w fun e w' => e = .returned (.bool (decide (-32768 ≤ n) && decide (n < 32768))) ∧ w = w' := by
  by_cases h1 : -32768 ≤ n
  · by_cases h2 : n < 32768
    · have e2 : decide (-32768 ≤ n) = true := by simpa using h1
      have e3 : decide (n < 32768) = true := by simpa using h2
      go_enter Tryz.func86, Tryz.ntmps86
      go_wp2
      go_ret
      exact ⟨by simp [e2, e3], rfl⟩
    · have e2 : decide (-32768 ≤ n) = true := by simpa using h1
      have e3 : decide (n < 32768) = false := by simpa using h2
      go_enter Tryz.func86, Tryz.ntmps86
      go_wp2
      go_ret
      exact ⟨by simp [e2, e3], rfl⟩
  · have e2 : decide (-32768 ≤ n) = false := by simpa using h1
    go_enter Tryz.func86, Tryz.ntmps86
    go_wp2
    go_ret
    exact ⟨by simp [e2], rfl⟩
set_option maxHeartbeats 400000 in
theorem head_Is2 (u g m a d : Int) (l : Bool) (w : World) : Calls Tryz.prog 87 #[.agg #[.int .i64 u, .int .i64 g, .int .i64 m, .int .i64 a, .int .i64 d, .bool l]] w fun e w' => e = .returned (.bool (decide (16 ≤ u) && decide (u ≤ 16384))) ∧ Below w.heap.size w w' := by
  have hu := Tryz.underlying23
  by_cases h1 : 16 ≤ u
  · have e2 : decide (16 ≤ u) = true := by simpa using h1
    go_enter Tryz.func87, Tryz.ntmps87
    go_wp2
    go_ret
    exact ⟨by simp [e2], (Below.refl _ _).alloc (Nat.le_refl _) _⟩
  · have e2 : decide (16 ≤ u) = false := by simpa using h1
    go_enter Tryz.func87, Tryz.ntmps87
    go_wp2
    go_ret
    exact ⟨by simp [e2], (Below.refl _ _).alloc (Nat.le_refl _) _⟩
set_option maxHeartbeats 400000 in
theorem head_Is3 (u g m a d : Int) (l : Bool) (w : World) : Calls Tryz.prog 88 #[.agg #[.int .i64 u, .int .i64 g, .int .i64 m, .int .i64 a, .int .i64 d, .bool l]] w fun e w' => e = .returned (.bool (decide (1 ≤ g) && decide (g ≤ 65535))) ∧ Below w.heap.size w w' := by
  have hu := Tryz.underlying23
  by_cases h1 : 1 ≤ g
  · have e2 : decide (1 ≤ g) = true := by simpa using h1
    go_enter Tryz.func88, Tryz.ntmps88
    go_wp2
    go_ret
    exact ⟨by simp [e2], (Below.refl _ _).alloc (Nat.le_refl _) _⟩
  · have e2 : decide (1 ≤ g) = false := by simpa using h1
    go_enter Tryz.func88, Tryz.ntmps88
    go_wp2
    go_ret
    exact ⟨by simp [e2], (Below.refl _ _).alloc (Nat.le_refl _) _⟩
set_option maxHeartbeats 400000 in
theorem head_Is4 (u g m a d : Int) (l : Bool) (w : World) : Calls Tryz.prog 89 #[.agg #[.int .i64 u, .int .i64 g, .int .i64 m, .int .i64 a, .int .i64 d, .bool l]] w fun e w' => e = .returned (.bool (decide (1 ≤ m) && decide (m ≤ g))) ∧ Below w.heap.size w w' := by
  have hu := Tryz.underlying23
  by_cases h1 : 1 ≤ m
  · have e2 : decide (1 ≤ m) = true := by simpa using h1
    go_enter Tryz.func89, Tryz.ntmps89
    go_wp2
    go_ret
    exact ⟨by simp [e2], (Below.refl _ _).alloc (Nat.le_refl _) _⟩
  · have e2 : decide (1 ≤ m) = false := by simpa using h1
    go_enter Tryz.func89, Tryz.ntmps89
    go_wp2
    go_ret
    exact ⟨by simp [e2], (Below.refl _ _).alloc (Nat.le_refl _) _⟩
set_option maxHeartbeats 400000 in
theorem head_Is5 (B : Nat) (u g m a d : Int) (l : Bool) (w : World) (hB : w.heap[B]? = some (.cells #[.func (.func 86) #[] #[]] 90 (0, 0))) :
    Calls Tryz.prog 90 #[.agg #[.int .i64 u, .int .i64 g, .int .i64 m, .int .i64 a, .int .i64 d, .bool l], .pointer (some ⟨B, 0, none⟩)] w fun e w' =>
      e = .returned (.bool ((decide (-32768 ≤ a) && decide (a < 32768)) && (decide (-32768 ≤ d) && decide (d < 32768)))) ∧ Below w.heap.size w w' := by
  have hu := Tryz.underlying23
  have hcell := cell_of_one (blk_alloc hB (.cells #[.int .i64 u, .int .i64 g, .int .i64 m, .int .i64 a, .int .i64 d, .bool l] 23))
  by_cases h1 : (decide (-32768 ≤ a) && decide (a < 32768)) = true
  · have H1 := head_Is1 a (w.alloc (.cells #[.int .i64 u, .int .i64 g, .int .i64 m, .int .i64 a, .int .i64 d, .bool l] 23))
    have H2 := head_Is1 d (w.alloc (.cells #[.int .i64 u, .int .i64 g, .int .i64 m, .int .i64 a, .int .i64 d, .bool l] 23))
    rw [h1] at H1
    have H1 := Aside0.mk H1
    have H2 := Aside0.mk H2
    have h1 := Aside0.mk h1
    go_enter Tryz.func90, Tryz.ntmps90
    go_wp2_with fail
    refine H1.out.mono ?_
    rintro e w1 ⟨rfl, rfl⟩
    go_wp2_with fail
    refine H2.out.mono ?_
    rintro e w1 ⟨rfl, rfl⟩
    go_wp2
    go_ret
    exact ⟨by rw [h1.out, Bool.true_and]; rfl, (Below.refl _ _).alloc (Nat.le_refl _) _⟩
  · replace h1 : (decide (-32768 ≤ a) && decide (a < 32768)) = false := by simpa only [Bool.not_eq_true] using h1
    have H1 := head_Is1 a (w.alloc (.cells #[.int .i64 u, .int .i64 g, .int .i64 m, .int .i64 a, .int .i64 d, .bool l] 23))
    rw [h1] at H1
    have H1 := Aside0.mk H1
    have h1 := Aside0.mk h1
    go_enter Tryz.func90, Tryz.ntmps90
    go_wp2_with fail
    refine H1.out.mono ?_
    rintro e w1 ⟨rfl, rfl⟩
    go_wp2
    go_ret
    exact ⟨by rw [h1.out, Bool.false_and]; rfl, (Below.refl _ _).alloc (Nat.le_refl _) _⟩
def headFrom (u g m a d : Int) : Nat → Bool
  | 0 => (decide (16 ≤ u) && decide (u ≤ 16384)) && ((decide (1 ≤ g) && decide (g ≤ 65535)) && ((decide (1 ≤ m) && decide (m ≤ g)) && (((decide (-32768 ≤ a) && decide (a < 32768)) && (decide (-32768 ≤ d) && decide (d < 32768))))))
  | 1 => (decide (1 ≤ g) && decide (g ≤ 65535)) && ((decide (1 ≤ m) && decide (m ≤ g)) && (((decide (-32768 ≤ a) && decide (a < 32768)) && (decide (-32768 ≤ d) && decide (d < 32768)))))
  | 2 => (decide (1 ≤ m) && decide (m ≤ g)) && (((decide (-32768 ≤ a) && decide (a < 32768)) && (decide (-32768 ≤ d) && decide (d < 32768))))
  | 3 => ((decide (-32768 ≤ a) && decide (a < 32768)) && (decide (-32768 ≤ d) && decide (d < 32768)))
  | _ => true
set_option maxRecDepth 100000 in
set_option maxHeartbeats 4000000 in
theorem head_Is_calls (u g m a d : Int) (l : Bool) (w : World) :
    Calls Tryz.prog 63 #[.agg #[.int .i64 u, .int .i64 g, .int .i64 m, .int .i64 a, .int .i64 d, .bool l]] w fun e w' => e = .returned (.bool (headIs u g m a d)) ∧ Below w.heap.size w w' := by
  have hmf : ∀ (fn : Fn) (first cap : Array Value) (w : World), (Instr.makeFunc fn first cap).run Tryz.prog w = .ok (.func fn first cap) w := fun _ _ _ _ => rfl
  have hu := Tryz.underlying23
  have hu2 := Tryz.underlying112
  have i0 : ∀ W, (Instr.index 113 (.agg #[.func (.func 87) #[] #[], .func (.func 88) #[] #[], .func (.func 89) #[] #[], .func (.func 90) #[] #[.pointer (some ⟨w.heap.size + 1, 0, none⟩)]]) (.int .i64 0)).run Tryz.prog W = .ok (.agg #[.func (.func 87) #[] #[]]) W := fun _ => by kernel_rfl
  have i1 : ∀ W, (Instr.index 113 (.agg #[.func (.func 87) #[] #[], .func (.func 88) #[] #[], .func (.func 89) #[] #[], .func (.func 90) #[] #[.pointer (some ⟨w.heap.size + 1, 0, none⟩)]]) (.int .i64 1)).run Tryz.prog W = .ok (.agg #[.func (.func 88) #[] #[]]) W := fun _ => by kernel_rfl
  have i2 : ∀ W, (Instr.index 113 (.agg #[.func (.func 87) #[] #[], .func (.func 88) #[] #[], .func (.func 89) #[] #[], .func (.func 90) #[] #[.pointer (some ⟨w.heap.size + 1, 0, none⟩)]]) (.int .i64 2)).run Tryz.prog W = .ok (.agg #[.func (.func 89) #[] #[]]) W := fun _ => by kernel_rfl
  have i3 : ∀ W, (Instr.index 113 (.agg #[.func (.func 87) #[] #[], .func (.func 88) #[] #[], .func (.func 89) #[] #[], .func (.func 90) #[] #[.pointer (some ⟨w.heap.size + 1, 0, none⟩)]]) (.int .i64 3)).run Tryz.prog W = .ok (.agg #[.func (.func 90) #[] #[.pointer (some ⟨w.heap.size + 1, 0, none⟩)]]) W := fun _ => by kernel_rfl
  go_enter Tryz.func63, Tryz.ntmps63
  go_wp2
  obtain ⟨w0, hw0⟩ : ∃ w0, w0 = (w.alloc (.cells #[.int .i64 u, .int .i64 g, .int .i64 m, .int .i64 a, .int .i64 d, .bool l] 23)).alloc (.cells #[.func (.func 86) #[] #[]] 90) := ⟨_, rfl⟩
  rw [← hw0]
  have HX0 : Aside0 (w0.heap[w.heap.size]? = some (.cells #[.int .i64 u, .int .i64 g, .int .i64 m, .int .i64 a, .int .i64 d, .bool l] 23 (0, 0))) := ⟨by rw [hw0]; exact blk_alloc (blk_new w _) _⟩
  have HY0 : Aside0 (w0.heap[w.heap.size + 1]? = some (.cells #[.func (.func 86) #[] #[]] 90 (0, 0))) := ⟨by rw [hw0]; have := blk_new (w.alloc (.cells #[.int .i64 u, .int .i64 g, .int .i64 m, .int .i64 a, .int .i64 d, .bool l] 23)) (.cells #[.func (.func 86) #[] #[]] 90); simpa using this⟩
  have HB0 : Aside0 (Below w.heap.size w w0) := ⟨by rw [hw0]; exact ((Below.refl _ _).alloc (Nat.le_refl _) _).alloc (by simp) _⟩
  clear hw0
  go_loopw [12] (fun i wr => ∃ k : Nat, k ≤ 4 ∧ i = .int .i64 k ∧ Aside0 (headFrom u g m a d k = headIs u g m a d) ∧ Aside0 (wr.heap[w.heap.size]? = some (.cells #[.int .i64 u, .int .i64 g, .int .i64 m, .int .i64 a, .int .i64 d, .bool l] 23 (0, 0))) ∧ Aside0 (wr.heap[w.heap.size + 1]? = some (.cells #[.func (.func 86) #[] #[]] 90 (0, 0))) ∧ Aside0 (Below w.heap.size w wr)) (fun i _ => 4 - (intOf i).toNat)
  case atStart => exact ⟨0, by omega, rfl, ⟨rfl⟩, HX0, HY0, HB0⟩
  case round =>
    obtain ⟨k, hk, rfl, HF, HX, HY, HB⟩ := hrel
    have hcase : k = 0 ∨ k = 1 ∨ k = 2 ∨ k = 3 ∨ k = 4 := by omega
    rcases hcase with rfl | rfl | rfl | rfl | rfl
    · have HC := blk_alloc HX.out (.cells #[.func (.func 87) #[] #[]] 112)
      have hx0 := blk_cell HC 0
      have hx1 := blk_cell HC 1
      have hx2 := blk_cell HC 2
      have hx3 := blk_cell HC 3
      have hx4 := blk_cell HC 4
      have hx5 := blk_cell HC 5
      simp only [List.getElem?_toArray, List.getElem?_cons_zero, List.getElem?_cons_succ] at hx0 hx1 hx2 hx3 hx4 hx5
      have HC := Aside0.mk HC
      have HCY := Aside0.mk (blk_alloc HY.out (.cells #[.func (.func 87) #[] #[]] 112))
      have HP := Aside0.mk (head_Is2 u g m a d l (wr.alloc (.cells #[.func (.func 87) #[] #[]] 112)))
      rcases hb : (decide (16 ≤ u) && decide (u ≤ 16384)) with _ | _
      · rw [hb] at HP
        have hb := Aside0.mk hb
        go_wp2_with fail
        refine HP.out.mono ?_
        rintro e w1 ⟨rfl, hd⟩
        have HD := Aside0.mk hd
        clear hd
        go_wp2
        go_ret
        exact ⟨by rw [← HF.out, headFrom, hb.out]; rfl, (HB.out.alloc HB.out.size _).trans (HD.out.mono (by have := HB.out.size; simp; omega))⟩
      · rw [hb] at HP
        have hb := Aside0.mk hb
        go_wp2_with fail
        refine HP.out.mono ?_
        rintro e w1 ⟨rfl, hd⟩
        have HD := Aside0.mk hd
        clear hd
        go_wp2
        go_roundw
        case rel => exact ⟨1, by omega, rfl, ⟨by rw [← HF.out, headFrom, hb.out]; rfl⟩, ⟨blk_below HC.out HD.out⟩, ⟨blk_below HCY.out HD.out⟩, ⟨(HB.out.alloc HB.out.size _).trans (HD.out.mono (by have := HB.out.size; simp; omega))⟩⟩
        case measure => simp [intOf]
    · have HC := blk_alloc HX.out (.cells #[.func (.func 88) #[] #[]] 112)
      have hx0 := blk_cell HC 0
      have hx1 := blk_cell HC 1
      have hx2 := blk_cell HC 2
      have hx3 := blk_cell HC 3
      have hx4 := blk_cell HC 4
      have hx5 := blk_cell HC 5
      simp only [List.getElem?_toArray, List.getElem?_cons_zero, List.getElem?_cons_succ] at hx0 hx1 hx2 hx3 hx4 hx5
      have HC := Aside0.mk HC
      have HCY := Aside0.mk (blk_alloc HY.out (.cells #[.func (.func 88) #[] #[]] 112))
      have HP := Aside0.mk (head_Is3 u g m a d l (wr.alloc (.cells #[.func (.func 88) #[] #[]] 112)))
      rcases hb : (decide (1 ≤ g) && decide (g ≤ 65535)) with _ | _
      · rw [hb] at HP
        have hb := Aside0.mk hb
        go_wp2_with fail
        refine HP.out.mono ?_
        rintro e w1 ⟨rfl, hd⟩
        have HD := Aside0.mk hd
        clear hd
        go_wp2
        go_ret
        exact ⟨by rw [← HF.out, headFrom, hb.out]; rfl, (HB.out.alloc HB.out.size _).trans (HD.out.mono (by have := HB.out.size; simp; omega))⟩
      · rw [hb] at HP
        have hb := Aside0.mk hb
        go_wp2_with fail
        refine HP.out.mono ?_
        rintro e w1 ⟨rfl, hd⟩
        have HD := Aside0.mk hd
        clear hd
        go_wp2
        go_roundw
        case rel => exact ⟨2, by omega, rfl, ⟨by rw [← HF.out, headFrom, hb.out]; rfl⟩, ⟨blk_below HC.out HD.out⟩, ⟨blk_below HCY.out HD.out⟩, ⟨(HB.out.alloc HB.out.size _).trans (HD.out.mono (by have := HB.out.size; simp; omega))⟩⟩
        case measure => simp [intOf]
    · have HC := blk_alloc HX.out (.cells #[.func (.func 89) #[] #[]] 112)
      have hx0 := blk_cell HC 0
      have hx1 := blk_cell HC 1
      have hx2 := blk_cell HC 2
      have hx3 := blk_cell HC 3
      have hx4 := blk_cell HC 4
      have hx5 := blk_cell HC 5
      simp only [List.getElem?_toArray, List.getElem?_cons_zero, List.getElem?_cons_succ] at hx0 hx1 hx2 hx3 hx4 hx5
      have HC := Aside0.mk HC
      have HCY := Aside0.mk (blk_alloc HY.out (.cells #[.func (.func 89) #[] #[]] 112))
      have HP := Aside0.mk (head_Is4 u g m a d l (wr.alloc (.cells #[.func (.func 89) #[] #[]] 112)))
      rcases hb : (decide (1 ≤ m) && decide (m ≤ g)) with _ | _
      · rw [hb] at HP
        have hb := Aside0.mk hb
        go_wp2_with fail
        refine HP.out.mono ?_
        rintro e w1 ⟨rfl, hd⟩
        have HD := Aside0.mk hd
        clear hd
        go_wp2
        go_ret
        exact ⟨by rw [← HF.out, headFrom, hb.out]; rfl, (HB.out.alloc HB.out.size _).trans (HD.out.mono (by have := HB.out.size; simp; omega))⟩
      · rw [hb] at HP
        have hb := Aside0.mk hb
        go_wp2_with fail
        refine HP.out.mono ?_
        rintro e w1 ⟨rfl, hd⟩
        have HD := Aside0.mk hd
        clear hd
        go_wp2
        go_roundw
        case rel => exact ⟨3, by omega, rfl, ⟨by rw [← HF.out, headFrom, hb.out]; rfl⟩, ⟨blk_below HC.out HD.out⟩, ⟨blk_below HCY.out HD.out⟩, ⟨(HB.out.alloc HB.out.size _).trans (HD.out.mono (by have := HB.out.size; simp; omega))⟩⟩
        case measure => simp [intOf]
    · have HC := blk_alloc HX.out (.cells #[.func (.func 90) #[] #[.pointer (some ⟨w.heap.size + 1, 0, none⟩)]] 112)
      have hx0 := blk_cell HC 0
      have hx1 := blk_cell HC 1
      have hx2 := blk_cell HC 2
      have hx3 := blk_cell HC 3
      have hx4 := blk_cell HC 4
      have hx5 := blk_cell HC 5
      simp only [List.getElem?_toArray, List.getElem?_cons_zero, List.getElem?_cons_succ] at hx0 hx1 hx2 hx3 hx4 hx5
      have HC := Aside0.mk HC
      have HCY := Aside0.mk (blk_alloc HY.out (.cells #[.func (.func 90) #[] #[.pointer (some ⟨w.heap.size + 1, 0, none⟩)]] 112))
      have HP := Aside0.mk (head_Is5 (w.heap.size + 1) u g m a d l (wr.alloc (.cells #[.func (.func 90) #[] #[.pointer (some ⟨w.heap.size + 1, 0, none⟩)]] 112)) HCY.out)
      rcases hb : ((decide (-32768 ≤ a) && decide (a < 32768)) && (decide (-32768 ≤ d) && decide (d < 32768))) with _ | _
      · rw [hb] at HP
        have hb := Aside0.mk hb
        go_wp2_with fail
        refine HP.out.mono ?_
        rintro e w1 ⟨rfl, hd⟩
        have HD := Aside0.mk hd
        clear hd
        go_wp2
        go_ret
        exact ⟨by rw [← HF.out, headFrom, hb.out]; rfl, (HB.out.alloc HB.out.size _).trans (HD.out.mono (by have := HB.out.size; simp; omega))⟩
      · rw [hb] at HP
        have hb := Aside0.mk hb
        go_wp2_with fail
        refine HP.out.mono ?_
        rintro e w1 ⟨rfl, hd⟩
        have HD := Aside0.mk hd
        clear hd
        go_wp2
        go_roundw
        case rel => exact ⟨4, by omega, rfl, ⟨by rw [← HF.out, headFrom, hb.out]; rfl⟩, ⟨blk_below HC.out HD.out⟩, ⟨blk_below HCY.out HD.out⟩, ⟨(HB.out.alloc HB.out.size _).trans (HD.out.mono (by have := HB.out.size; simp; omega))⟩⟩
        case measure => simp [intOf]
    · go_wp2
      go_ret
      exact ⟨by rw [← HF.out]; rfl, HB.out⟩
theorem head_Is.calls (u g m a d : Int) (l : Bool) (r : Bool) (w : World) (h : head_Is.f u g m a d l = some r) :
    Calls Tryz.prog 63 #[.agg #[.int .i64 u, .int .i64 g, .int .i64 m, .int .i64 a, .int .i64 d, .bool l]] w fun e w' => e = .returned (.bool r) ∧ Below w.heap.size w w' := by
  obtain rfl : headIs u g m a d = r := Option.some.inj h
  exact head_Is_calls u g m a d l w
end Go.Proofs.YtbhljokhcmfgjaaGreat.P

namespace Go.Proofs.YtbhljokhcmfgjaaGreat.P
open Go.RowKit Go.Proofs.YtbhljokhcmfgjaaGreatW.PrintWords Go.Proofs.YtbhljokhcmfgjaaGreatW.PrintLast Go.Proofs.YtbhljokhcmfgjaaGreatW.PrintMore
attribute [local go_sem] max2_int min2_int max_two min_two max_three min_three max_four min_four   -- for this text's walks alone
set_option linter.unusedVariables false
set_option linter.unusedSimpArgs false
def head_Units.f (a0_0 : Int) (a0_1 : Int) (a0_2 : Int) (a0_3 : Int) (a0_4 : Int) (a0_5 : Bool) (a1 : Int) (a2 : Int) : Option (Int × Int) := (head_Is.f a0_0 a0_1 a0_2 a0_3 a0_4 a0_5).bind fun t172 => (if t172 = true then ((fixed_MulDiv.f a1 a2 a0_0).bind fun bt173 => (some (bt173.1, bt173.2))) else (some (0, 1)))
set_option maxHeartbeats 8000000 in
set_option maxRecDepth 100000 in
theorem head_Units.calls (a0_0 : Int) (a0_1 : Int) (a0_2 : Int) (a0_3 : Int) (a0_4 : Int) (a0_5 : Bool) (a1 : Int) (a2 : Int) (r1 : Int) (r2 : Int) (w : World) (h : head_Units.f a0_0 a0_1 a0_2 a0_3 a0_4 a0_5 a1 a2 = some (r1, r2)) :
    Calls Tryz.prog 38 #[.agg #[.int .i64 a0_0, .int .i64 a0_1, .int .i64 a0_2, .int .i64 a0_3, .int .i64 a0_4, .bool a0_5], .int .i64 a1, .int .i64 a2] w fun e w' => e = .returned (.tuple #[.int .i64 r1, .int .i64 r2]) ∧ Below w.heap.size w w' := by
  have hu23 := Tryz.underlying23
  have HB := Aside0.mk (Below.refl w.heap.size w)
  have H : ((head_Is.f a0_0 a0_1 a0_2 a0_3 a0_4 a0_5).bind fun t172 => (if t172 = true then ((fixed_MulDiv.f a1 a2 a0_0).bind fun bt173 => (some (bt173.1, bt173.2))) else (some (0, 1)))) = some (r1, r2) := h
  clear h
  replace H := Option.bind_eq_some_iff.mp H
  obtain ⟨t172, A40, H⟩ := H
  replace H : (if t172 = true then ((fixed_MulDiv.f a1 a2 a0_0).bind fun bt173 => (some (bt173.1, bt173.2))) else (some (0, 1))) = some (r1, r2) := H
  have A4 := Aside0.mk A40
  clear A40
  by_cases c5 : t172 = true
  · subst c5
    have H1 : ((fixed_MulDiv.f a1 a2 a0_0).bind fun bt173 => (some (bt173.1, bt173.2))) = some (r1, r2) := by rw [if_pos rfl] at H; exact H
    clear H
    have H := H1
    clear H1
    replace H := Option.bind_eq_some_iff.mp H
    obtain ⟨⟨t173, t174⟩, A60, H⟩ := H
    replace H : (some (t173, t174)) = some (r1, r2) := H
    have A6 := Aside0.mk A60
    clear A60
    simp only [Option.some.injEq, Prod.mk.injEq] at H
    obtain ⟨rfl, rfl⟩ := H
    go_enter Tryz.func38, Tryz.ntmps38
    go_wp2_with (first | ((with_reducible refine gate_dst (N := 3) rfl ?_); refine box_event ?hg (N := 3) ?hd (cs := #[.int .i64 a0_0, .int .i64 a0_1, .int .i64 a0_2, .int .i64 a0_3, .int .i64 a0_4, .bool a0_5]) (t := 23) ?hr ?_; (case hd => rfl); (case hg => rfl); (case hr => first | (go_simp; done) | (go_simp; rfl)); intro gb171 hg w7 hbox hb; have n0_ := Aside0.mk (below_step (by repeat (first | (with_reducible first | exact HB.out | apply below_alloc | apply pw_below_drewN | apply below_drew1) | exact HB.out)) hb); have n1_ := Aside0.mk (hbox); have n2_ := Aside0.mk ((by rw [hg]; exact (below_size (by repeat (first | (with_reducible first | exact HB.out | apply below_alloc | apply pw_below_drewN | apply below_drew1) | exact HB.out))) : w.heap.size ≤ gb171)); have n3_ := Aside0.mk ((by rw [hg]; exact (below_size (by repeat (first | (with_reducible first | exact HB.out | apply below_alloc | apply pw_below_drewN | apply below_drew1) | exact HB.out))) : w.heap.size ≤ gb171)); clear HB; have HB := n0_; have BK171 := n1_; have GW171 := n2_; have GE171 := n3_; clear n0_ n1_ n2_ n3_; clear hb hbox hg; have hcz8_0 : w7.cell? ⟨gb171, 0, none⟩ = some (.int .i64 a0_0) := (blk_cell BK171.out 0).trans rfl; have hcz8_1 : w7.cell? ⟨gb171, 1, none⟩ = some (.int .i64 a0_1) := (blk_cell BK171.out 1).trans rfl; have hcz8_2 : w7.cell? ⟨gb171, 2, none⟩ = some (.int .i64 a0_2) := (blk_cell BK171.out 2).trans rfl; have hcz8_3 : w7.cell? ⟨gb171, 3, none⟩ = some (.int .i64 a0_3) := (blk_cell BK171.out 3).trans rfl; have hcz8_4 : w7.cell? ⟨gb171, 4, none⟩ = some (.int .i64 a0_4) := (blk_cell BK171.out 4).trans rfl; have hcz8_5 : w7.cell? ⟨gb171, 5, none⟩ = some (.bool a0_5) := (blk_cell BK171.out 5).trans rfl; have hfz8_0 := blk_frozen BK171.out 0; have hfz8_1 := blk_frozen BK171.out 1; have hfz8_2 := blk_frozen BK171.out 2; have hfz8_3 := blk_frozen BK171.out 3; have hfz8_4 := blk_frozen BK171.out 4; have hfz8_5 := blk_frozen BK171.out 5) | ((with_reducible refine gate_callee (f := 63) rfl ?_); refine goesL_ (some 9) rfl rfl Tryz.func63 (by kernel_rfl) rfl #[.agg #[.int .i64 a0_0, .int .i64 a0_1, .int .i64 a0_2, .int .i64 a0_3, .int .i64 a0_4, .bool a0_5]] rfl (by (try simp only [List.map_toArray, List.map_cons, List.map_nil]); first | done | rfl | (simp only [List.length_drop, List.length_take]; rfl)) ?_; (with_reducible refine (head_Is.calls a0_0 a0_1 a0_2 a0_3 a0_4 a0_5 true _ A4.out).mono ?_); rintro e w9 ⟨rfl, hb⟩; refine ⟨_, rfl, ?_⟩; have n0_ := Aside0.mk (blk_below (g := gb171) (o := .cells #[.int .i64 a0_0, .int .i64 a0_1, .int .i64 a0_2, .int .i64 a0_3, .int .i64 a0_4, .bool a0_5] 23 (0, 0)) (by (with_reducible repeat (first | refine blk_drewN ?_ _ | refine blk_drew ?_ | refine blk_alloc ?_ _)); exact BK171.out) hb); have n1_ := Aside0.mk (below_step (by repeat (first | (with_reducible first | exact HB.out | apply below_alloc | apply pw_below_drewN | apply below_drew1 | refine below_set ?_ GE171.out) | exact HB.out)) hb); clear BK171; clear HB; have BK171 := n0_; have HB := n1_; clear n0_ n1_; (try clear hb); (try clear hb2); (try clear hk); (try clear hi); have hcz10_0 : w9.cell? ⟨gb171, 0, none⟩ = some (.int .i64 a0_0) := (blk_cell BK171.out 0).trans rfl; have hcz10_1 : w9.cell? ⟨gb171, 1, none⟩ = some (.int .i64 a0_1) := (blk_cell BK171.out 1).trans rfl; have hcz10_2 : w9.cell? ⟨gb171, 2, none⟩ = some (.int .i64 a0_2) := (blk_cell BK171.out 2).trans rfl; have hcz10_3 : w9.cell? ⟨gb171, 3, none⟩ = some (.int .i64 a0_3) := (blk_cell BK171.out 3).trans rfl; have hcz10_4 : w9.cell? ⟨gb171, 4, none⟩ = some (.int .i64 a0_4) := (blk_cell BK171.out 4).trans rfl; have hcz10_5 : w9.cell? ⟨gb171, 5, none⟩ = some (.bool a0_5) := (blk_cell BK171.out 5).trans rfl; have hfz10_0 := blk_frozen BK171.out 0; have hfz10_1 := blk_frozen BK171.out 1; have hfz10_2 := blk_frozen BK171.out 2; have hfz10_3 := blk_frozen BK171.out 3; have hfz10_4 := blk_frozen BK171.out 4; have hfz10_5 := blk_frozen BK171.out 5) | ((with_reducible refine gate_callee (f := 56) rfl ?_); refine goesL_ (some 15) rfl rfl Tryz.func56 (by kernel_rfl) rfl #[.int .i64 a1, .int .i64 a2, .int .i64 a0_0] rfl (by (try simp only [List.map_toArray, List.map_cons, List.map_nil]); first | done | rfl | (simp only [List.length_drop, List.length_take]; rfl)) ?_; (with_reducible refine (fixed_MulDiv.calls a1 a2 a0_0 t173 t174 _ A6.out).mono ?_); rintro e w11 ⟨rfl, hb⟩; refine ⟨_, rfl, ?_⟩; have n0_ := Aside0.mk (blk_below (g := gb171) (o := .cells #[.int .i64 a0_0, .int .i64 a0_1, .int .i64 a0_2, .int .i64 a0_3, .int .i64 a0_4, .bool a0_5] 23 (0, 0)) (by (with_reducible repeat (first | refine blk_drewN ?_ _ | refine blk_drew ?_ | refine blk_alloc ?_ _)); exact BK171.out) hb); have n1_ := Aside0.mk (below_step (by repeat (first | (with_reducible first | exact HB.out | apply below_alloc | apply pw_below_drewN | apply below_drew1 | refine below_set ?_ GE171.out) | exact HB.out)) hb); clear BK171; clear HB; have BK171 := n0_; have HB := n1_; clear n0_ n1_; (try clear hb); (try clear hb2); (try clear hk); (try clear hi)))
    go_ret2
    exact ⟨by first | rfl | (simp [errW_none, errW_some] <;> rfl) | (simp [*, errW_none, errW_some] <;> rfl), by repeat (first | (with_reducible first | exact HB.out | apply below_alloc | apply pw_below_drewN | apply below_drew1 | refine below_set ?_ GE171.out) | exact HB.out)⟩
  · replace c5 := Bool.eq_false_iff.mpr c5
    subst c5
    have H1 : (some (0, 1)) = some (r1, r2) := by rw [if_neg (show ¬ (false = true) by decide)] at H; exact H
    clear H
    have H := H1
    clear H1
    simp only [Option.some.injEq, Prod.mk.injEq] at H
    obtain ⟨rfl, rfl⟩ := H
    go_enter Tryz.func38, Tryz.ntmps38
    go_wp2_with (first | ((with_reducible refine gate_dst (N := 3) rfl ?_); refine box_event ?hg (N := 3) ?hd (cs := #[.int .i64 a0_0, .int .i64 a0_1, .int .i64 a0_2, .int .i64 a0_3, .int .i64 a0_4, .bool a0_5]) (t := 23) ?hr ?_; (case hd => rfl); (case hg => rfl); (case hr => first | (go_simp; done) | (go_simp; rfl)); intro gb171 hg w12 hbox hb; have n0_ := Aside0.mk (below_step (by repeat (first | (with_reducible first | exact HB.out | apply below_alloc | apply pw_below_drewN | apply below_drew1) | exact HB.out)) hb); have n1_ := Aside0.mk (hbox); have n2_ := Aside0.mk ((by rw [hg]; exact (below_size (by repeat (first | (with_reducible first | exact HB.out | apply below_alloc | apply pw_below_drewN | apply below_drew1) | exact HB.out))) : w.heap.size ≤ gb171)); have n3_ := Aside0.mk ((by rw [hg]; exact (below_size (by repeat (first | (with_reducible first | exact HB.out | apply below_alloc | apply pw_below_drewN | apply below_drew1) | exact HB.out))) : w.heap.size ≤ gb171)); clear HB; have HB := n0_; have BK171 := n1_; have GW171 := n2_; have GE171 := n3_; clear n0_ n1_ n2_ n3_; clear hb hbox hg; have hcz13_0 : w12.cell? ⟨gb171, 0, none⟩ = some (.int .i64 a0_0) := (blk_cell BK171.out 0).trans rfl; have hcz13_1 : w12.cell? ⟨gb171, 1, none⟩ = some (.int .i64 a0_1) := (blk_cell BK171.out 1).trans rfl; have hcz13_2 : w12.cell? ⟨gb171, 2, none⟩ = some (.int .i64 a0_2) := (blk_cell BK171.out 2).trans rfl; have hcz13_3 : w12.cell? ⟨gb171, 3, none⟩ = some (.int .i64 a0_3) := (blk_cell BK171.out 3).trans rfl; have hcz13_4 : w12.cell? ⟨gb171, 4, none⟩ = some (.int .i64 a0_4) := (blk_cell BK171.out 4).trans rfl; have hcz13_5 : w12.cell? ⟨gb171, 5, none⟩ = some (.bool a0_5) := (blk_cell BK171.out 5).trans rfl; have hfz13_0 := blk_frozen BK171.out 0; have hfz13_1 := blk_frozen BK171.out 1; have hfz13_2 := blk_frozen BK171.out 2; have hfz13_3 := blk_frozen BK171.out 3; have hfz13_4 := blk_frozen BK171.out 4; have hfz13_5 := blk_frozen BK171.out 5) | ((with_reducible refine gate_callee (f := 63) rfl ?_); refine goesL_ (some 9) rfl rfl Tryz.func63 (by kernel_rfl) rfl #[.agg #[.int .i64 a0_0, .int .i64 a0_1, .int .i64 a0_2, .int .i64 a0_3, .int .i64 a0_4, .bool a0_5]] rfl (by (try simp only [List.map_toArray, List.map_cons, List.map_nil]); first | done | rfl | (simp only [List.length_drop, List.length_take]; rfl)) ?_; (with_reducible refine (head_Is.calls a0_0 a0_1 a0_2 a0_3 a0_4 a0_5 false _ A4.out).mono ?_); rintro e w14 ⟨rfl, hb⟩; refine ⟨_, rfl, ?_⟩; have n0_ := Aside0.mk (blk_below (g := gb171) (o := .cells #[.int .i64 a0_0, .int .i64 a0_1, .int .i64 a0_2, .int .i64 a0_3, .int .i64 a0_4, .bool a0_5] 23 (0, 0)) (by (with_reducible repeat (first | refine blk_drewN ?_ _ | refine blk_drew ?_ | refine blk_alloc ?_ _)); exact BK171.out) hb); have n1_ := Aside0.mk (below_step (by repeat (first | (with_reducible first | exact HB.out | apply below_alloc | apply pw_below_drewN | apply below_drew1 | refine below_set ?_ GE171.out) | exact HB.out)) hb); clear BK171; clear HB; have BK171 := n0_; have HB := n1_; clear n0_ n1_; (try clear hb); (try clear hb2); (try clear hk); (try clear hi)))
    go_ret2
    exact ⟨by first | rfl | (simp [errW_none, errW_some] <;> rfl) | (simp [*, errW_none, errW_some] <;> rfl), by repeat (first | (with_reducible first | exact HB.out | apply below_alloc | apply pw_below_drewN | apply below_drew1 | refine below_set ?_ GE171.out) | exact HB.out)⟩
end Go.Proofs.YtbhljokhcmfgjaaGreat.P

namespace Go.Proofs.YtbhljokhcmfgjaaGreat.P
open Go.RowKit Go.Proofs.YtbhljokhcmfgjaaGreatW.PrintWords Go.Proofs.YtbhljokhcmfgjaaGreatW.PrintLast Go.Proofs.YtbhljokhcmfgjaaGreatW.PrintMore
attribute [local go_sem] max2_int min2_int max_two min_two max_three min_three max_four min_four   -- for this text's walks alone
set_option linter.unusedVariables false
set_option linter.unusedSimpArgs false
def style_Konst.j0 : Nat → Int → Int → Int → Bool → Int → Int → Int → Int → Int → Bool → List (S159) → List (S161) → List (S118) → List Int → List (S77) → List (S77) → List Int → List (S121) → Int → List (S133) → List (S133) → Option (Int × Int)
  | 0, _, _, _, _, _, _, _, _, _, _, _, _, _, _, _, _, _, _, _, _, _ => none
  | k + 1, x1, x2, x3, x17, x176000, x176001, x176002, x176003, x176004, x176005, x176006, x176007, x176008, x176009, x176010, x176011, x176012, x176013, x176014, x176015, x176016 => if x17 = true then (some (0, 1)) else ((style_Size.f k x176009 x2 x3).bind fun bt176 => (if bt176.2 = 0 then (if 0 ≤ x1 then (if x1 < (x176009.length : Int) then ((head_Units.f x176000 x176001 x176002 x176003 x176004 x176005 (rd x176009 x1) bt176.1).bind fun bt179 => (some (bt179.1, bt179.2))) else (none)) else (none)) else (some (0, bt176.2))))
def style_Konst.f (k : Nat) (a0_0 : Int) (a0_1 : Int) (a0_2 : Int) (a0_3 : Int) (a0_4 : Int) (a0_5 : Bool) (l0_6 : List (S159)) (l0_7 : List (S161)) (l0_8 : List (S118)) (l0_9 : List Int) (l0_10 : List (S77)) (l0_11 : List (S77)) (l0_12 : List Int) (l0_13 : List (S121)) (a0_14 : Int) (l0_15 : List (S133)) (l0_16 : List (S133)) (a1 : Int) (a2 : Int) (a3 : Int) : Option (Int × Int) := if a1 < 0 then (style_Konst.j0 k a1 a2 a3 true a0_0 a0_1 a0_2 a0_3 a0_4 a0_5 l0_6 l0_7 l0_8 l0_9 l0_10 l0_11 l0_12 l0_13 a0_14 l0_15 l0_16) else (style_Konst.j0 k a1 a2 a3 (decide (a1 ≥ 56)) a0_0 a0_1 a0_2 a0_3 a0_4 a0_5 l0_6 l0_7 l0_8 l0_9 l0_10 l0_11 l0_12 l0_13 a0_14 l0_15 l0_16)
theorem style_Konst.mono_l : ∀ k, (∀ y0 y1 y2 y3 y4 y5 y6 y7 y8 y9 y10 y11 y12 y13 y14 y15 y16 y17 y18 y19 y20, LeO (style_Konst.j0 k y0 y1 y2 y3 y4 y5 y6 y7 y8 y9 y10 y11 y12 y13 y14 y15 y16 y17 y18 y19 y20) (style_Konst.j0 (k + 1) y0 y1 y2 y3 y4 y5 y6 y7 y8 y9 y10 y11 y12 y13 y14 y15 y16 y17 y18 y19 y20))
  | 0 => fun _ _ _ _ _ _ _ _ _ _ _ _ _ _ _ _ _ _ _ _ _ r h => by simp [style_Konst.j0] at h
  | k + 1 => by
    have ih0 := style_Konst.mono_l k
    · intro y0 y1 y2 y3 y4 y5 y6 y7 y8 y9 y10 y11 y12 y13 y14 y15 y16 y17 y18 y19 y20
      unfold style_Konst.j0
      repeat' first
      | (with_reducible exact ih0 _ _ _ _ _ _ _ _ _ _ _ _ _ _ _ _ _ _ _ _ _)
      | (with_reducible exact style_Size.mono _ _ _ _)
      | (with_reducible exact LeO.refl _)
      | (with_reducible exact LeO.none _)
      | (with_reducible refine LeO.ite ?_ ?_)
      | (with_reducible refine LeO.bind ?_ (fun _ => ?_))
      | exact ih0 _ _ _ _ _ _ _ _ _ _ _ _ _ _ _ _ _ _ _ _ _
      | exact style_Size.mono _ _ _ _
      | exact LeO.none _
      | refine LeO.ite ?_ ?_
      | refine LeO.bind ?_ (fun _ => ?_)
theorem style_Konst.mono : ∀ a0 a1 a2 a3 a4 a5 a6 a7 a8 a9 a10 a11 a12 a13 a14 a15 a16 a17 a18 a19 k, LeO (style_Konst.f k a0 a1 a2 a3 a4 a5 a6 a7 a8 a9 a10 a11 a12 a13 a14 a15 a16 a17 a18 a19) (style_Konst.f (k + 1) a0 a1 a2 a3 a4 a5 a6 a7 a8 a9 a10 a11 a12 a13 a14 a15 a16 a17 a18 a19) := by
  intro a0 a1 a2 a3 a4 a5 a6 a7 a8 a9 a10 a11 a12 a13 a14 a15 a16 a17 a18 a19 k
  have ih0 := style_Konst.mono_l k
  unfold style_Konst.f
  repeat' first
      | (with_reducible exact ih0 _ _ _ _ _ _ _ _ _ _ _ _ _ _ _ _ _ _ _ _ _)
      | (with_reducible exact style_Size.mono _ _ _ _)
      | (with_reducible exact LeO.refl _)
      | (with_reducible exact LeO.none _)
      | (with_reducible refine LeO.ite ?_ ?_)
      | (with_reducible refine LeO.bind ?_ (fun _ => ?_))
      | exact ih0 _ _ _ _ _ _ _ _ _ _ _ _ _ _ _ _ _ _ _ _ _
      | exact style_Size.mono _ _ _ _
      | exact LeO.none _
      | refine LeO.ite ?_ ?_
      | refine LeO.bind ?_ (fun _ => ?_)
def style_Konst.T6 : Bool × List (List Nat × List Nat) := (true, [([], []), ([0], [0]), ([], []), ([2], [2]), ([3], [3]), ([], []), ([4, 5], [4, 5]), ([6], [6]), ([], []), ([1, 7, 8], [1, 7, 8]), ([9], [9]), ([9], [9]), ([10, 9, 0, 1, 2, 3, 4, 5, 6, 7, 8, 9, 10, 11], [10]), ([11, 12, 0, 1, 2, 3, 4, 5, 6, 7, 8, 9, 10, 11, 12], [11])])
def style_Konst.B6 : List Nat := [0, 1, 0, 4, 12, 0, 60, 124, 0, 511, 1023, 1023, 4095, 8191]
theorem style_Konst.tab6 : rtab .any (opsOf Tryz.f44 6) = style_Konst.T6 := by kernel_rfl
theorem style_Konst.bits6 : waitsOk style_Konst.T6.2 style_Konst.B6 = true := by kernel_rfl
end Go.Proofs.YtbhljokhcmfgjaaGreat.P

namespace Go.Proofs.YtbhljokhcmfgjaaGreat.P
open Go.RowKit Go.Proofs.YtbhljokhcmfgjaaGreatW.PrintWords
theorem up {α : Type} {f : Nat → Option α} (h : ∀ k, LeO (f k) (f (k + 1))) {k0 : Nat} {r : α} (e : f k0 = some r) : ∀ k, k0 ≤ k → f k = some r := by
  intro k hk
  induction k with
  | zero =>
    obtain rfl : k0 = 0 := Nat.le_zero.1 hk
    exact e
  | succ k ih =>
    rcases Nat.lt_or_ge k k0 with h1 | h1
    · obtain rfl : k0 = k + 1 := by omega
      exact e
    · exact h k r (ih h1)
theorem fixedIs_ge (l : List Int) (k : Nat) (hk : l.length + 1 ≤ k) (hm : l.length ≤ 9223372036854775807) : fixed_Is.f k l = some (l.all isLen) :=
  up (fun k => fixed_Is.mono l k) (fixed_Is_f l hm) k hk
theorem konstIs_length {l : List Int} (h : konstIs l = true) : l.length = 56 := by
  unfold konstIs konstPut at h
  by_cases hl : l.length = 56
  · exact hl
  · rw [if_neg hl] at h
    simp at h
theorem size_j0 (l : List Int) (c z : Int) (b : Bool) (k : Nat) (hk : 1 ≤ k) (hb : b = false → konstIs l = true) : ∃ v e, style_Size.j0 k l c z b = some (v, e) ∧ (e = 0 → konstIs l = true) := by
  obtain ⟨k, rfl⟩ : ∃ q, k = q + 1 := ⟨k - 1, by omega⟩
  simp only [style_Size.j0]
  cases b with
  | true => exact ⟨0, 1, by simp, by simp⟩
  | false =>
    have hi := hb rfl
    have hl := konstIs_length hi
    rw [if_neg (by simp), if_pos (by omega)]
    by_cases h4 : c < 4
    · rw [if_pos h4]
      exact ⟨z, 0, rfl, fun _ => hi⟩
    · rw [if_neg h4]
      by_cases h6 : c ≥ 6
      · rw [if_pos h6, if_pos (by omega)]
        simp only [fixed_MulDiv.f, Option.bind_some]
        split
        · exact ⟨0, 1, rfl, by simp⟩
        · exact ⟨_, _, rfl, fun _ => hi⟩
      · rw [if_neg h6]
        simp only [fixed_MulDiv.f, Option.bind_some]
        split
        · exact ⟨0, 1, rfl, by simp⟩
        · exact ⟨_, _, rfl, fun _ => hi⟩
theorem size_total (l : List Int) (c z : Int) (k : Nat) (hk : 2 ≤ k) : ∃ v e, style_Size.f k l c z = some (v, e) ∧ (e = 0 → konstIs l = true) := by
  unfold style_Size.f
  have hs : ∃ b, style_Is.f c = some b := by unfold style_Is.f; split <;> exact ⟨_, rfl⟩
  obtain ⟨b, hb⟩ := hs
  rw [hb, Option.bind_some, fixedIs_ge [z] k (by simpa using hk) (by simp)]
  cases b with
  | false => exact size_j0 l c z true k (by omega) (by simp)
  | true =>
    rw [if_pos rfl, Option.bind_some]
    split
    · split
      · exact size_j0 l c z true k (by omega) (by simp)
      · simp only [konst_Is.f, Option.bind_some]
        exact size_j0 l c z (!konstIs l) k (by omega) (by simp)
    · exact size_j0 l c z true k (by omega) (by simp)
theorem konst_total (a0_0 a0_1 a0_2 a0_3 a0_4 : Int) (a0_5 : Bool) (l0_6 : List (S159)) (l0_7 : List (S161)) (l0_8 : List (S118)) (l0_9 : List Int) (l0_10 l0_11 : List (S77)) (l0_12 : List Int) (l0_13 : List (S121)) (a0_14 : Int) (l0_15 l0_16 : List (S133)) (a1 a2 a3 : Int) (k : Nat) (hk : 3 ≤ k) :
    ∃ v e, style_Konst.f k a0_0 a0_1 a0_2 a0_3 a0_4 a0_5 l0_6 l0_7 l0_8 l0_9 l0_10 l0_11 l0_12 l0_13 a0_14 l0_15 l0_16 a1 a2 a3 = some (v, e) := by
  have hj : ∀ b : Bool, (b = false → 0 ≤ a1 ∧ a1 < 56) → ∃ v e, style_Konst.j0 k a1 a2 a3 b a0_0 a0_1 a0_2 a0_3 a0_4 a0_5 l0_6 l0_7 l0_8 l0_9 l0_10 l0_11 l0_12 l0_13 a0_14 l0_15 l0_16 = some (v, e) := by
    intro b hb
    obtain ⟨k, rfl⟩ : ∃ q, k = q + 1 := ⟨k - 1, by omega⟩
    simp only [style_Konst.j0]
    cases b with
    | true => exact ⟨0, 1, by simp⟩
    | false =>
      obtain ⟨h0, h1⟩ := hb rfl
      obtain ⟨v, e, hv, hi⟩ := size_total l0_9 a2 a3 k (by omega)
      rw [if_neg (by simp), hv, Option.bind_some]
      by_cases he : e = 0
      · have hl := konstIs_length (hi he)
        simp only [he, if_true]
        rw [if_pos h0, if_pos (by omega)]
        unfold head_Units.f head_Is.f fixed_MulDiv.f
        simp only [Option.bind_some]
        split <;> exact ⟨_, _, rfl⟩
      · simp only [he, if_false]
        exact ⟨_, _, rfl⟩
  unfold style_Konst.f
  split
  · exact hj true (by simp)
  · refine hj (decide (a1 ≥ 56)) (fun h => ?_)
    simp at h
    omega
end Go.Proofs.YtbhljokhcmfgjaaGreat.P
