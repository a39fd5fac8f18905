import Derived.Test.YtbhljokhcmfgjaaGreatK2
import Derived.Laws.EntriesVeiled
import Derived.Deep.RegionHeld3
import Derived.Deep.RegionLaw
import Derived.Deep.AppendLies
/- Part 3 of the proof of stackCenter_holds: what it needs of this work's texts, joined. -/
set_option linter.unusedVariables false
set_option linter.unusedSimpArgs false
namespace Go.Proofs.YtbhljokhcmfgjaaGreat.P
open Go.RowKit Go.Proofs.YtbhljokhcmfgjaaGreatW.PrintWords Go.Proofs.YtbhljokhcmfgjaaGreatW.PrintLast Go.Proofs.YtbhljokhcmfgjaaGreatW.PrintMore
set_option linter.unusedSimpArgs false
def kSize (k : Nat) : Int := if k = 2 ∨ k = 3 then 2 else -2
def kMore (k : Nat) : Bool := decide (4 ≤ k) && decide (k < 55)
set_option maxRecDepth 100000 in
set_option maxHeartbeats 4000000 in
theorem konst_row_calls (f : FuncId) (caps : Array Value) (hent : ∀ args, Enters f args) (I : Nat → World → Prop) (w : World) (h0 : I 0 w)
    (hstep : ∀ k W, k < 56 → I k W → Calls Tryz.prog f (#[.int .i64 k, .int .i64 (kSize k), .bool (kMore k)] ++ caps) W fun e w' => e = .returned (.tuple #[]) ∧ I (k + 1) w') :
    Calls Tryz.prog 98 #[.func (.func f) #[] caps] w fun e w' => e = .returned (.tuple #[]) ∧ I 56 w' := by
  have H := Aside0.mk hstep
  have H0 := Aside0.mk h0
  unfold Enters at hent
  clear hstep h0
  go_enter Tryz.func98, Tryz.ntmps98
  go_wp2
  go_loopw [4] (fun i wr => ∃ k : Nat, k ≤ 56 ∧ i = .int .i64 k ∧ Aside0 (I k wr)) (fun i _ => 56 - (intOf i).toNat)
  case atStart => exact ⟨0, Nat.zero_le _, rfl, H0⟩
  case round =>
    obtain ⟨k, hk, rfl, HI⟩ := hrel
    by_cases hlt : k < 56
    · have hd1 : decide ((k : Int) < 56) = true := by simp; omega
      have HC := H.out k wr hlt HI.out
      have hcase : k = 2 ∨ k = 3 ∨ k < 2 ∨ (4 ≤ k ∧ k < 55) ∨ k = 55 := by omega
      rcases hcase with h | h | h | h | h
      · have e1 : kSize k = 2 := by unfold kSize; rw [if_pos (by omega)]
        have e2 : kMore k = false := by unfold kMore; simp; omega
        rw [e1, e2] at HC
        have HC := Aside0.mk HC
        have d1 : ((k : Int) == 2) = true := by simp; omega
        have d3 : decide (4 ≤ (k : Int)) = false := by simp; omega
        clear h
        go_wp2_with fail
        refine HC.out.mono ?_
        rintro e w1 ⟨rfl, hi⟩
        have HI2 := Aside0.mk hi
        clear hi
        go_wp2
        go_roundw
        case rel => exact ⟨k + 1, by omega, by go_num, HI2⟩
        case measure => simp [intOf]; omega
      · have e1 : kSize k = 2 := by unfold kSize; rw [if_pos (by omega)]
        have e2 : kMore k = false := by unfold kMore; simp; omega
        rw [e1, e2] at HC
        have HC := Aside0.mk HC
        have d1 : ((k : Int) == 2) = false := by simp; omega
        have d2 : ((k : Int) == 3) = true := by simp; omega
        have d3 : decide (4 ≤ (k : Int)) = false := by simp; omega
        clear h
        go_wp2_with fail
        refine HC.out.mono ?_
        rintro e w1 ⟨rfl, hi⟩
        have HI2 := Aside0.mk hi
        clear hi
        go_wp2
        go_roundw
        case rel => exact ⟨k + 1, by omega, by go_num, HI2⟩
        case measure => simp [intOf]; omega
      · have e1 : kSize k = -2 := by unfold kSize; rw [if_neg (by omega)]
        have e2 : kMore k = false := by unfold kMore; simp; omega
        rw [e1, e2] at HC
        have HC := Aside0.mk HC
        have d1 : ((k : Int) == 2) = false := by simp; omega
        have d2 : ((k : Int) == 3) = false := by simp; omega
        have d3 : decide (4 ≤ (k : Int)) = false := by simp; omega
        clear h
        go_wp2_with fail
        refine HC.out.mono ?_
        rintro e w1 ⟨rfl, hi⟩
        have HI2 := Aside0.mk hi
        clear hi
        go_wp2
        go_roundw
        case rel => exact ⟨k + 1, by omega, by go_num, HI2⟩
        case measure => simp [intOf]; omega
      · have e1 : kSize k = -2 := by unfold kSize; rw [if_neg (by omega)]
        have e2 : kMore k = true := by unfold kMore; simp; omega
        rw [e1, e2] at HC
        have HC := Aside0.mk HC
        have d1 : ((k : Int) == 2) = false := by simp; omega
        have d2 : ((k : Int) == 3) = false := by simp; omega
        have d3 : decide (4 ≤ (k : Int)) = true := by simp; omega
        have d4 : decide ((k : Int) < 55) = true := by simp; omega
        clear h
        go_wp2_with fail
        refine HC.out.mono ?_
        rintro e w1 ⟨rfl, hi⟩
        have HI2 := Aside0.mk hi
        clear hi
        go_wp2
        go_roundw
        case rel => exact ⟨k + 1, by omega, by go_num, HI2⟩
        case measure => simp [intOf]; omega
      · have e1 : kSize k = -2 := by unfold kSize; rw [if_neg (by omega)]
        have e2 : kMore k = false := by unfold kMore; simp; omega
        rw [e1, e2] at HC
        have HC := Aside0.mk HC
        have d1 : ((k : Int) == 2) = false := by simp; omega
        have d2 : ((k : Int) == 3) = false := by simp; omega
        have d3 : decide (4 ≤ (k : Int)) = true := by simp; omega
        have d4 : decide ((k : Int) < 55) = false := by simp; omega
        clear h
        go_wp2_with fail
        refine HC.out.mono ?_
        rintro e w1 ⟨rfl, hi⟩
        have HI2 := Aside0.mk hi
        clear hi
        go_wp2
        go_roundw
        case rel => exact ⟨k + 1, by omega, by go_num, HI2⟩
        case measure => simp [intOf]; omega
    · obtain rfl : k = 56 := by omega
      go_wp2
      go_end0
      exact ⟨rfl, HI.out⟩
/-- A variable that holds a row of its own: the numbers xs. -/
def SlotOwn (B b : Nat) (xs : List Int) (w : World) : Prop := B ≤ b ∧ ∃ v, w.heap[b]? = some (.cells #[v] 27 (0, 0)) ∧ w.ownsRow B 3 1 v xs.length (encs (Value.int .i64) xs) ∧ v.ownBlock ≠ some b
theorem SlotOwn.put {B b : Nat} {v v' : Value} {xs : List Int} {w : World} (hB : B ≤ b) (hb : w.heap[b]? = some (.cells #[v] 27 (0, 0))) (hown : w.ownsRow B 3 1 v' xs.length (encs (Value.int .i64) xs)) : SlotOwn B b xs (w.setCell ⟨b, 0, none⟩ v') := by
  have hne := Lib.ownBlock_ne hown hb (by decide)
  refine ⟨hB, v', ?_, ?_, hne⟩
  · simp [World.setCell, Array.getElem?_modify, hb]
  · exact hown.kept (row := some b) ⟨rfl, rfl, rfl, by simp [World.setCell], fun k _ hk => Below.heap_setCell _ _ _ _ (fun e => hk (by simp [e]))⟩ (Or.inr hne)
theorem SlotOwn.fresh (w : World) : SlotOwn w.heap.size w.heap.size [] (w.alloc (.cells #[.slice none 0 0] 27)) :=
  ⟨Nat.le_refl _, .slice none 0 0, heap_alloc_new w _, World.ownsRow_nil _ _ _ _, by simp [Value.ownBlock]⟩
set_option maxRecDepth 100000 in
set_option maxHeartbeats 1000000 in
theorem sizes1_one (B b : Nat) (xs : List Int) (k n : Int) (w : World) (h : SlotOwn B b xs w) (hB : B ≤ w.heap.size) (hlen : xs.length ≤ 1000) :
    Calls Tryz.prog 110 #[.int .i64 k, .int .i64 n, .bool false, .pointer (some ⟨b, 0, none⟩)] w fun e w' => e = .returned (.tuple #[]) ∧ SlotOwn B b (xs ++ [n]) w' ∧ Below B w w' := by
  obtain ⟨i0, hi, hz0, hz1, hz2⟩ := info_parts (show (Tryz.prog.info? 3).map (fun i => (i.zero, i.size, i.bytes)) = some (some (.int .i64 0), 1, 8) by kernel_rfl)
  obtain ⟨hBb, v, hb, hown, hne⟩ := h
  have hc := cell_of_one hb
  have hlt := lt_of_block hb
  go_enter Tryz.func110, Tryz.ntmps110
  go_wp2_with (at_builtin; refine wpList_append_own _ rfl _ _ 27 rfl B 3 i0 (.int .i64 0) 1 8 Tryz.underlying27 hi hz0 hz1 hz2 rfl (by decide) _ _ _ rfl (hown.alloc _) ⟨w.heap.size, 0, none⟩ 1 1 [.int .i64 n] rfl rfl ?c1 ?c2 ?c3 ?c4 ?c5 ?_)
  case c1 =>
    intro j u hj
    match j, hj with
    | 0, hj => simp at hj; subst hj; simp [Addr.add]
  case c2 => intro u hu; simp at hu; subst hu; rfl
  case c3 => unfold maxLen; omega
  case c4 => omega
  case c5 => simp; omega
  intro v' w2 hown' hgrow _
  have hb2 : w2.heap[b]? = some (.cells #[v] 27 (0, 0)) := by
    rw [hgrow.block b (by simp; omega) (fun e => hne e.symm), Lib.alloc_old w _ b hlt]
    exact hb
  have d0 := cell_of_one hb2
  have f0 := free_of_one hb2
  obtain ⟨g, cap, rfl⟩ : ∃ g cap, v' = .slice (some ⟨g, 0, none⟩) (xs.length + 1) cap := by
    rcases hown'.2 with ⟨_, h0⟩ | ⟨g, cap, cur, hv, _⟩
    · omega
    · exact ⟨g, cap, hv⟩
  go_wp2
  go_end0
  refine ⟨rfl, ?_, ?_⟩
  · exact SlotOwn.put hBb hb2 (xs := xs ++ [n]) (by simpa [encs] using hown')
  · exact (((Below.refl B w).alloc hB _).grown hgrow (by simp; omega) (fun k hk => (hown.lt k hk).1)).setCell (p := ⟨b, 0, none⟩) hBb _
end Go.Proofs.YtbhljokhcmfgjaaGreat.P

namespace Go.Proofs.YtbhljokhcmfgjaaGreat.P
open Go.RowKit Go.Proofs.YtbhljokhcmfgjaaGreatW.PrintWords Go.Proofs.YtbhljokhcmfgjaaGreatW.PrintLast Go.Proofs.YtbhljokhcmfgjaaGreatW.PrintMore
set_option linter.unusedSimpArgs false
set_option maxRecDepth 100000 in
set_option maxHeartbeats 1000000 in
theorem sizes1_two (B b : Nat) (xs : List Int) (k n : Int) (w : World) (h : SlotOwn B b xs w) (hB : B ≤ w.heap.size) (hlen : xs.length ≤ 1000) :
    Calls Tryz.prog 110 #[.int .i64 k, .int .i64 n, .bool true, .pointer (some ⟨b, 0, none⟩)] w fun e w' => e = .returned (.tuple #[]) ∧ SlotOwn B b (xs ++ [n] ++ [2]) w' ∧ Below B w w' := by
  obtain ⟨i0, hi, hz0, hz1, hz2⟩ := info_parts (show (Tryz.prog.info? 3).map (fun i => (i.zero, i.size, i.bytes)) = some (some (.int .i64 0), 1, 8) by kernel_rfl)
  obtain ⟨hBb, v, hb, hown, hne⟩ := h
  have hc := cell_of_one hb
  have hlt := lt_of_block hb
  go_enter Tryz.func110, Tryz.ntmps110
  go_wp2_with (at_builtin; refine wpList_append_own _ rfl _ _ 27 rfl B 3 i0 (.int .i64 0) 1 8 Tryz.underlying27 hi hz0 hz1 hz2 rfl (by decide) _ _ _ rfl (hown.alloc _) ⟨w.heap.size, 0, none⟩ 1 1 [.int .i64 n] rfl rfl ?c1 ?c2 ?c3 ?c4 ?c5 ?_)
  case c1 =>
    intro j u hj
    match j, hj with
    | 0, hj => simp at hj; subst hj; simp [Addr.add]
  case c2 => intro u hu; simp at hu; subst hu; rfl
  case c3 => unfold maxLen; omega
  case c4 => omega
  case c5 => simp; omega
  intro v' w2 hown' hgrow _
  have hb2 : w2.heap[b]? = some (.cells #[v] 27 (0, 0)) := by
    rw [hgrow.block b (by simp; omega) (fun e => hne e.symm), Lib.alloc_old w _ b hlt]
    exact hb
  have d0 := cell_of_one hb2
  have f0 := free_of_one hb2
  obtain ⟨g, cap, rfl⟩ : ∃ g cap, v' = .slice (some ⟨g, 0, none⟩) (xs.length + 1) cap := by
    rcases hown'.2 with ⟨_, h0⟩ | ⟨g, cap, cur, hv, _⟩
    · omega
    · exact ⟨g, cap, hv⟩
  have HS : SlotOwn B b (xs ++ [n]) (w2.setCell ⟨b, 0, none⟩ (.slice (some ⟨g, 0, none⟩) (xs.length + 1) cap)) := SlotOwn.put hBb hb2 (xs := xs ++ [n]) (by simpa [encs] using hown')
  have HB : Below B w (w2.setCell ⟨b, 0, none⟩ (.slice (some ⟨g, 0, none⟩) (xs.length + 1) cap)) := (((Below.refl B w).alloc hB _).grown hgrow (by simp; omega) (fun k hk => (hown.lt k hk).1)).setCell (p := ⟨b, 0, none⟩) hBb _
  have hb3 : (w2.setCell ⟨b, 0, none⟩ (.slice (some ⟨g, 0, none⟩) (xs.length + 1) cap)).heap[b]? = some (.cells #[.slice (some ⟨g, 0, none⟩) (xs.length + 1) cap] 27 (0, 0)) := by
    simp [World.setCell, Array.getElem?_modify, hb2]
  obtain ⟨_, v3, hv3, hown3, hne3⟩ := HS
  obtain rfl : Value.slice (some ⟨g, 0, none⟩) (xs.length + 1) cap = v3 := by
    have := hb3.symm.trans hv3
    simpa using this
  have hB3 := HB.size
  have hlt3 := lt_of_block hb3
  have hsz : (w2.setCell ⟨b, 0, none⟩ (.slice (some ⟨g, 0, none⟩) (xs.length + 1) cap)).heap.size = w2.heap.size := by simp [World.setCell]
  have hown3' : (w2.setCell ⟨b, 0, none⟩ (.slice (some ⟨g, 0, none⟩) (xs.length + 1) cap)).ownsRow B 3 1 (.slice (some ⟨g, 0, none⟩) (xs.length + 1) cap) (xs.length + 1) (encs (Value.int .i64) (xs ++ [n])) := by simpa using hown3
  have hB4 : w.heap.size ≤ w2.heap.size := by rw [hsz] at hB3; exact hB3
  have hlt4 : b < w2.heap.size := by rw [hsz] at hlt3; exact hlt3
  clear hown hown' hgrow hne hown3
  have HB := Aside0.mk HB
  have HB3 := Aside0.mk hb3
  have HV3 := Aside0.mk hv3
  have HO3 := Aside0.mk hown3'
  have HSZ := Aside0.mk hsz
  have HNE := Aside0.mk hne3
  clear hb3 hv3 hown3' hsz hne3
  go_wp2_with (at_builtin; refine wpList_append_own _ rfl _ _ 27 rfl B 3 i0 (.int .i64 0) 1 8 Tryz.underlying27 hi hz0 hz1 hz2 rfl (by decide) _ _ _ rfl (HO3.out.alloc _) ⟨w2.heap.size, 0, none⟩ 1 1 [.int .i64 2] rfl rfl ?e1 ?e2 ?e3 ?e4 ?e5 ?_)
  case e1 =>
    intro j u hj
    match j, hj with
    | 0, hj => simp at hj; subst hj; rw [← HSZ.out]; exact cell_of_one (heap_alloc_new _ _)
  case e2 => intro u hu; simp at hu; subst hu; rfl
  case e3 => unfold maxLen; omega
  case e4 => omega
  case e5 => simp; omega
  intro v4 w4 hown4 hgrow4 _
  have hb4 : w4.heap[b]? = some (.cells #[.slice (some ⟨g, 0, none⟩) (xs.length + 1) cap] 27 (0, 0)) := by
    rw [hgrow4.block b (by simp; omega) (fun e => HNE.out e.symm), Lib.alloc_old _ _ b hlt3]
    exact HB3.out
  have d4 := cell_of_one hb4
  have f4 := free_of_one hb4
  obtain ⟨g4, cap4, rfl⟩ : ∃ g cap, v4 = .slice (some ⟨g, 0, none⟩) (xs.length + 1 + 1) cap := by
    rcases hown4.2 with ⟨_, h0⟩ | ⟨g, cap, cur, hv, _⟩
    · omega
    · exact ⟨g, cap, hv⟩
  go_wp2
  go_end0
  refine ⟨rfl, ?_, ?_⟩
  · exact SlotOwn.put hBb hb4 (xs := xs ++ [n] ++ [2]) (by simpa [encs] using hown4)
  · exact (((HB.out.alloc (by rw [HSZ.out] at hB3 ⊢; omega) _).grown hgrow4 (by simp; omega) (fun k hk => (HO3.out.lt k hk).1))).setCell (p := ⟨b, 0, none⟩) hBb _
end Go.Proofs.YtbhljokhcmfgjaaGreat.P

namespace Go.Proofs.YtbhljokhcmfgjaaGreat.P
open Go.RowKit Go.Proofs.YtbhljokhcmfgjaaGreatW.PrintWords Go.Proofs.YtbhljokhcmfgjaaGreatW.PrintLast Go.Proofs.YtbhljokhcmfgjaaGreatW.PrintMore
set_option linter.unusedSimpArgs false
def sizesTo : Nat → List Int
  | 0 => []
  | k + 1 => sizesTo k ++ (if kMore k = true then [kSize k, 2] else [kSize k])
def allTo (l : List Int) : Nat → List Int
  | 0 => []
  | k + 1 => allTo l k ++ (if kMore k = true then [rd l k, 0] else [rd l k])
theorem sizesTo_length (k : Nat) : (sizesTo k).length ≤ 2 * k := by
  induction k with
  | zero => simp [sizesTo]
  | succ k ih => simp only [sizesTo, List.length_append]; split <;> simp <;> omega
theorem allTo_length (l : List Int) (k : Nat) : (allTo l k).length = (sizesTo k).length := by
  induction k with
  | zero => rfl
  | succ k ih => simp only [allTo, sizesTo, List.length_append, ih]; split <;> simp
set_option maxRecDepth 100000 in
set_option maxHeartbeats 1000000 in
theorem konst_sizes_calls (w : World) :
    Calls Tryz.prog 101 #[] w fun e w' => ∃ A c, e = .returned (.slice A (sizesTo 56).length c) ∧ Kd.C (Kd.int .i64) w' A (sizesTo 56).length (sizesTo 56) ∧ (sizesTo 56).length ≤ c ∧ Below w.heap.size w w' := by
  have hmf : ∀ (fn : Fn) (first cap : Array Value) (w : World), (Instr.makeFunc fn first cap).run Tryz.prog w = .ok (.func fn first cap) w := fun _ _ _ _ => rfl
  have hrow := konst_row_calls 110 #[.pointer (some ⟨w.heap.size, 0, none⟩)] (fun args w => by go_simp) (fun k W => SlotOwn w.heap.size w.heap.size (sizesTo k) W ∧ Below w.heap.size w W) (w.alloc (.cells #[.slice none 0 0] 27)) ⟨SlotOwn.fresh w, (Below.refl _ _).alloc (Nat.le_refl _) _⟩
    (by
      rintro k W hk ⟨hs, hb⟩
      have hlen := sizesTo_length k
      by_cases hm : kMore k = true
      · rw [hm]
        refine (sizes1_two w.heap.size w.heap.size (sizesTo k) k (kSize k) W hs hb.size (by omega)).mono ?_
        rintro e w' ⟨rfl, h1, h2⟩
        refine ⟨rfl, ?_, hb.trans h2⟩
        simp only [sizesTo, if_pos hm]
        simpa using h1
      · have hm' : kMore k = false := by simpa using hm
        rw [hm']
        refine (sizes1_one w.heap.size w.heap.size (sizesTo k) k (kSize k) W hs hb.size (by omega)).mono ?_
        rintro e w' ⟨rfl, h1, h2⟩
        refine ⟨rfl, ?_, hb.trans h2⟩
        simp only [sizesTo, if_neg hm]
        exact h1)
  have HROW := Aside0.mk hrow
  clear hrow
  go_enter Tryz.func101, Tryz.ntmps101
  go_wp2_with fail
  refine HROW.out.mono ?_
  rintro e w1 ⟨rfl, hs, hd⟩
  obtain ⟨_, v, hb, hown, _⟩ := hs
  have hc := cell_of_one hb
  obtain ⟨A, c, rfl, hle, hreads⟩ := own_reads_of_le (d := (0 : Int)) hown
  have HD := Aside0.mk hd
  clear hb hown hd
  go_wp2
  go_ret
  exact ⟨A, c, rfl, Kd.C_of_reads hreads, hle, HD.out⟩
set_option maxRecDepth 100000 in
set_option maxHeartbeats 3200000 in
theorem put1_one (B b bl : Nat) (A : Option Addr) (c : Nat) (l xs : List Int) (k : Nat) (n : Int) (w : World) (h : SlotOwn B b xs w) (hB : B ≤ w.heap.size) (hlen : xs.length ≤ 1000)
    (hbl : w.heap[bl]? = some (.cells #[.slice A l.length c] 27 (0, 0))) (hblB : bl < B) (hr : Kd.C (Kd.int .i64) w A l.length l) (hA : ∀ ad, A = some ad → ad.block < B) (hk : k < l.length) :
    Calls Tryz.prog 99 #[.int .i64 k, .int .i64 n, .bool false, .pointer (some ⟨b, 0, none⟩), .pointer (some ⟨bl, 0, none⟩)] w fun e w' => e = .returned (.tuple #[]) ∧ SlotOwn B b (xs ++ [rd l k]) w' ∧ Below B w w' := by
  obtain ⟨i0, hi, hz0, hz1, hz2⟩ := info_parts (show (Tryz.prog.info? 3).map (fun i => (i.zero, i.size, i.bytes)) = some (some (.int .i64 0), 1, 8) by kernel_rfl)
  obtain ⟨ad, rfl, hcl⟩ := Kd.at_int hr (k : Int) (by omega) (by omega)
  have hadB := hA ad rfl
  simp only [Int.toNat_natCast] at hcl
  obtain ⟨hBb, v, hb, hown, hne⟩ := h
  have hc := cell_of_one hb
  have hcl2 := cell_of_one hbl
  have hlt := lt_of_block hb
  have hi0' : (0 : Int) ≤ (k : Int) := Int.natCast_nonneg _
  have hi1 : (k : Int) < (l.length : Int) := by omega
  have hnl : v.ownBlock ≠ some bl := fun e => absurd (hown.lt _ e).1 (by omega)
  have hadk : (ad.add k).block = ad.block := by unfold Addr.add; split <;> rfl
  have hna : v.ownBlock ≠ some ad.block := fun e => absurd (hown.lt _ e).1 (by omega)
  have hf := free_of_one hb
  have hf2 : ∀ o, (w.alloc o).drew.frozen? ⟨b, 0, none⟩ = false := fun o => free_of_one (blk_drew (blk_alloc hb o))
  have hadlt : ad.block < w.heap.size := by omega
  have hllt : bl < w.heap.size := by omega
  go_enter Tryz.func99, Tryz.ntmps99
  go_wp2_with fail
  go_region_law
    ((refine step_append_lies _ (by rfl) _ _ _ (by rfl) B 3 i0 _ 1 8 Tryz.underlying27 hi hz0 hz1 hz2 rfl (by omega) v xs.length (encs (Value.int .i64) xs) (by rfl) ((hown.alloc _).drew)
        ⟨w.heap.size, 0, none⟩ 1 1 [.int .i64 (rd l k)] (by rfl) (by rfl) (World.news_of_block (cs := #[.int .i64 (rd l k)]) (t := 3) (fr := (0, 0)) (heap_alloc_new w _)) (by simp [Value.oneCell'])
        (by omega) (by unfold maxLen; omega) (by omega) (by simp; omega) (w.heap.size + 1) (by simp) ?_; intro gg cap w1 hown1 hgrow hat hltg; have hb2 : w1.heap[b]? = some (.cells #[v] 27 (0, 0)) := (hgrow.block b (by simp; omega) (fun e => hne e.symm)).trans ((Lib.alloc_old w _ b hlt).trans hb); have hf1 := free_of_one hb2; have hd1 := cell_of_one hb2))
  all_goals go_wp2
  all_goals go_end0
  all_goals refine ⟨rfl, SlotOwn.put hBb hb2 (xs := xs ++ [rd l k]) (by simpa [encs] using hown1), ?_⟩
  all_goals exact (((((Below.refl B w).alloc hB _).drew).grown hgrow (by simp; omega) (fun k hk => (hown.lt k hk).1))).setCell (p := ⟨b, 0, none⟩) hBb _
set_option maxRecDepth 100000 in
set_option maxHeartbeats 3200000 in
theorem put1_two (B b bl : Nat) (A : Option Addr) (c : Nat) (l xs : List Int) (k : Nat) (n : Int) (w : World) (h : SlotOwn B b xs w) (hB : B ≤ w.heap.size) (hlen : xs.length ≤ 1000)
    (hbl : w.heap[bl]? = some (.cells #[.slice A l.length c] 27 (0, 0))) (hblB : bl < B) (hr : Kd.C (Kd.int .i64) w A l.length l) (hA : ∀ ad, A = some ad → ad.block < B) (hk : k < l.length) :
    Calls Tryz.prog 99 #[.int .i64 k, .int .i64 n, .bool true, .pointer (some ⟨b, 0, none⟩), .pointer (some ⟨bl, 0, none⟩)] w fun e w' => e = .returned (.tuple #[]) ∧ SlotOwn B b (xs ++ [rd l k] ++ [0]) w' ∧ Below B w w' := by
  obtain ⟨i0, hi, hz0, hz1, hz2⟩ := info_parts (show (Tryz.prog.info? 3).map (fun i => (i.zero, i.size, i.bytes)) = some (some (.int .i64 0), 1, 8) by kernel_rfl)
  obtain ⟨ad, rfl, hcl⟩ := Kd.at_int hr (k : Int) (by omega) (by omega)
  have hadB := hA ad rfl
  simp only [Int.toNat_natCast] at hcl
  obtain ⟨hBb, v, hb, hown, hne⟩ := h
  have hc := cell_of_one hb
  have hcl2 := cell_of_one hbl
  have hlt := lt_of_block hb
  have hi0' : (0 : Int) ≤ (k : Int) := Int.natCast_nonneg _
  have hi1 : (k : Int) < (l.length : Int) := by omega
  have hnl : v.ownBlock ≠ some bl := fun e => absurd (hown.lt _ e).1 (by omega)
  have hadk : (ad.add k).block = ad.block := by unfold Addr.add; split <;> rfl
  have hna : v.ownBlock ≠ some ad.block := fun e => absurd (hown.lt _ e).1 (by omega)
  have hf := free_of_one hb
  have hf2 : ∀ o, (w.alloc o).drew.frozen? ⟨b, 0, none⟩ = false := fun o => free_of_one (blk_drew (blk_alloc hb o))
  have hadlt : ad.block < w.heap.size := by omega
  have hllt : bl < w.heap.size := by omega
  go_enter Tryz.func99, Tryz.ntmps99
  go_wp2_with fail
  go_region_law
    ((refine step_append_lies _ (by rfl) _ _ _ (by rfl) B 3 i0 _ 1 8 Tryz.underlying27 hi hz0 hz1 hz2 rfl (by omega) v xs.length (encs (Value.int .i64) xs) (by rfl) ((hown.alloc _).drew)
        ⟨w.heap.size, 0, none⟩ 1 1 [.int .i64 (rd l k)] (by rfl) (by rfl) (World.news_of_block (cs := #[.int .i64 (rd l k)]) (t := 3) (fr := (0, 0)) (heap_alloc_new w _)) (by simp [Value.oneCell'])
        (by omega) (by unfold maxLen; omega) (by omega) (by simp; omega) (w.heap.size + 1) (by simp) ?_; intro gg cap w1 hown1 hgrow hat hltg; have hb2 : w1.heap[b]? = some (.cells #[v] 27 (0, 0)) := (hgrow.block b (by simp; omega) (fun e => hne e.symm)).trans ((Lib.alloc_old w _ b hlt).trans hb); have hf1 := free_of_one hb2; have hd1 := cell_of_one hb2))
  all_goals
    have HS : SlotOwn B b (xs ++ [rd l k]) (w1.setCell ⟨b, 0, none⟩ (.slice (some ⟨gg, 0, none⟩) (xs.length + 1) cap)) := SlotOwn.put hBb hb2 (xs := xs ++ [rd l k]) (by simpa [encs] using hown1)
    have HB : Below B w (w1.setCell ⟨b, 0, none⟩ (.slice (some ⟨gg, 0, none⟩) (xs.length + 1) cap)) := ((((Below.refl B w).alloc hB _).drew).grown hgrow (by simp; omega) (fun k hk => (hown.lt k hk).1)).setCell (p := ⟨b, 0, none⟩) hBb _
    have hb3 : (w1.setCell ⟨b, 0, none⟩ (.slice (some ⟨gg, 0, none⟩) (xs.length + 1) cap)).heap[b]? = some (.cells #[.slice (some ⟨gg, 0, none⟩) (xs.length + 1) cap] 27 (0, 0)) := by
      simp [World.setCell, Array.getElem?_modify, hb2]
    obtain ⟨_, v3, hv3, hown3, hne3⟩ := HS
    obtain rfl : Value.slice (some ⟨gg, 0, none⟩) (xs.length + 1) cap = v3 := by
      have := hb3.symm.trans hv3
      simpa using this
    have hB3 := HB.size
    have hlt3 := lt_of_block hb3
    have hsz : (w1.setCell ⟨b, 0, none⟩ (.slice (some ⟨gg, 0, none⟩) (xs.length + 1) cap)).heap.size = w1.heap.size := by simp [World.setCell]
    have hown3' : (w1.setCell ⟨b, 0, none⟩ (.slice (some ⟨gg, 0, none⟩) (xs.length + 1) cap)).ownsRow B 3 1 (.slice (some ⟨gg, 0, none⟩) (xs.length + 1) cap) (xs.length + 1) (encs (Value.int .i64) (xs ++ [rd l k])) := by simpa using hown3
    have hB4 : w.heap.size ≤ w1.heap.size := by rw [hsz] at hB3; exact hB3
    have hlt4 : b < w1.heap.size := by rw [hsz] at hlt3; exact hlt3
    clear hown hown1 hgrow hne hown3 hf hf2 hc hcl hcl2 hb
    have HB := Aside0.mk HB
    have HB3 := Aside0.mk hb3
    have HV3 := Aside0.mk hv3
    have HO3 := Aside0.mk hown3'
    have HSZ := Aside0.mk hsz
    have HNE := Aside0.mk hne3
    clear hb3 hv3 hown3' hsz hne3
    go_wp2_with (at_builtin; refine wpList_append_own _ rfl _ _ 27 rfl B 3 i0 (.int .i64 0) 1 8 Tryz.underlying27 hi hz0 hz1 hz2 rfl (by decide) _ _ _ rfl (HO3.out.alloc _) ⟨w1.heap.size, 0, none⟩ 1 1 [.int .i64 0] rfl rfl ?e1 ?e2 ?e3 ?e4 ?e5 ?_)
    case e1 =>
      intro j u hj
      match j, hj with
      | 0, hj => simp at hj; subst hj; rw [← HSZ.out]; exact cell_of_one (heap_alloc_new _ _)
    case e2 => intro u hu; simp at hu; subst hu; rfl
    case e3 => unfold maxLen; omega
    case e4 => omega
    case e5 => simp; omega
    intro v4 w4 hown4 hgrow4 _
    have hb4 : w4.heap[b]? = some (.cells #[.slice (some ⟨gg, 0, none⟩) (xs.length + 1) cap] 27 (0, 0)) := by
      rw [hgrow4.block b (by simp; omega) (fun e => HNE.out e.symm), Lib.alloc_old _ _ b hlt3]
      exact HB3.out
    have d4 := cell_of_one hb4
    have f4 := free_of_one hb4
    obtain ⟨g4, cap4, rfl⟩ : ∃ g cap, v4 = .slice (some ⟨g, 0, none⟩) (xs.length + 1 + 1) cap := by
      rcases hown4.2 with ⟨_, h0⟩ | ⟨g, cap, cur, hv, _⟩
      · omega
      · exact ⟨g, cap, hv⟩
    go_wp2
    go_end0
    refine ⟨rfl, ?_, ?_⟩
    · exact SlotOwn.put hBb hb4 (xs := xs ++ [rd l k] ++ [0]) (by simpa [encs] using hown4)
    · exact (((HB.out.alloc (by rw [HSZ.out] at hB3 ⊢; omega) _).grown hgrow4 (by simp; omega) (fun k hk => (HO3.out.lt k hk).1))).setCell (p := ⟨b, 0, none⟩) hBb _
end Go.Proofs.YtbhljokhcmfgjaaGreat.P

namespace Go.Proofs.YtbhljokhcmfgjaaGreat.P
open Go.RowKit Go.Proofs.YtbhljokhcmfgjaaGreatW.PrintWords Go.Proofs.YtbhljokhcmfgjaaGreatW.PrintLast Go.Proofs.YtbhljokhcmfgjaaGreatW.PrintMore
set_option linter.unusedSimpArgs false
def konstPut (l : List Int) : List UInt8 × Int := if l.length = 56 then (if (putR (sizesTo 56) (allTo l 56)).2 = 0 then putR (sizesTo 56) (allTo l 56) else ([], 1)) else ([], 1)
def konstIs (l : List Int) : Bool := decide ((konstPut l).2 = 0)
def konst_Is.f (l : List Int) : Option Bool := some (konstIs l)
set_option maxRecDepth 100000 in
set_option maxHeartbeats 2000000 in
theorem konst_Put_calls (A0 : Option Addr) (c0 : Nat) (l0 : List Int) (w : World) (hr0 : Kd.C (Kd.int .i64) w A0 l0.length l0) :
    Calls Tryz.prog 77 #[.slice A0 l0.length c0] w fun e w' => e = .returned (.tuple #[.string ⟨(konstPut l0).1.toArray⟩, .int .i64 (konstPut l0).2]) ∧ Below w.heap.size w w' := by
  have hmf : ∀ (fn : Fn) (first cap : Array Value) (w : World), (Instr.makeFunc fn first cap).run Tryz.prog w = .ok (.func fn first cap) w := fun _ _ _ _ => rfl
  by_cases hlen : l0.length = 56
  · obtain ⟨ad, rfl, hcl⟩ := Kd.at_int hr0 0 (by omega) (by omega)
    have hadlt := World.block_lt_of_cell? w _ hcl
    have hadk : (ad.add (0 : Int).toNat).block = ad.block := by unfold Addr.add; split <;> rfl
    rw [hadk] at hadlt
    have hbox := blk_new w (.cells #[.slice (some ad) l0.length c0] 27)
    have hrow := konst_row_calls 99 #[.pointer (some ⟨w.heap.size + 1, 0, none⟩), .pointer (some ⟨w.heap.size, 0, none⟩)] (fun args w => by go_simp) (fun k W => SlotOwn (w.heap.size + 1) (w.heap.size + 1) (allTo l0 k) W ∧ Below (w.heap.size + 1) (w.alloc (.cells #[.slice (some ad) l0.length c0] 27)) W) ((w.alloc (.cells #[.slice (some ad) l0.length c0] 27)).alloc (.cells #[.slice none 0 0] 27))
      ⟨by simpa [allTo] using SlotOwn.fresh (w.alloc (.cells #[.slice (some ad) l0.length c0] 27)), by simpa using (Below.refl (w.alloc (.cells #[.slice (some ad) l0.length c0] 27)).heap.size _).alloc (Nat.le_refl _) _⟩
      (by
        rintro k W hk ⟨hs, hb⟩
        have h1 := allTo_length l0 k
        have h2 := sizesTo_length k
        have hW := hb.size
        simp only [World.size_alloc] at hW
        have hbl := blk_below hbox (hb.mono (by simp))
        have hr := Kd.C_below (Kd.C_alloc hr0 (.cells #[.slice (some ad) l0.length c0] 27)) (hb.mono (by simp))
        have hA : ∀ ad', some ad = some ad' → ad'.block < w.heap.size + 1 := by
          intro ad' h
          cases h
          omega
        by_cases hm : kMore k = true
        · rw [hm]
          refine (put1_two (w.heap.size + 1) (w.heap.size + 1) w.heap.size (some ad) c0 l0 (allTo l0 k) k (kSize k) W hs hW (by omega) hbl (by omega) hr hA (by omega)).mono ?_
          rintro e w' ⟨rfl, h1, h2⟩
          refine ⟨rfl, ?_, hb.trans h2⟩
          simp only [allTo, if_pos hm]
          simpa using h1
        · have hm' : kMore k = false := by simpa using hm
          rw [hm']
          refine (put1_one (w.heap.size + 1) (w.heap.size + 1) w.heap.size (some ad) c0 l0 (allTo l0 k) k (kSize k) W hs hW (by omega) hbl (by omega) hr hA (by omega)).mono ?_
          rintro e w' ⟨rfl, h1, h2⟩
          refine ⟨rfl, ?_, hb.trans h2⟩
          simp only [allTo, if_neg hm]
          exact h1)
    have HROW := Aside0.mk hrow
    have HL := Aside0.mk hlen
    have hd0 : ((l0.length : Int) != 56) = false := by simp [hlen]
    clear hrow hlen hcl hr0
    go_enter Tryz.func77, Tryz.ntmps77
    go_wp2_with fail
    refine HROW.out.mono ?_
    rintro e w1 ⟨rfl, hs, hd⟩
    obtain ⟨_, v, hb, hown, _⟩ := hs
    have hc := cell_of_one hb
    obtain ⟨A, c, rfl, hle, hreads⟩ := own_reads_of_le (d := (0 : Int)) hown
    have HC := Aside0.mk (show Kd.C (Kd.int .i64) w1 A (allTo l0 56).length (allTo l0 56) from Kd.C_of_reads hreads)
    have HB := Aside0.mk hb
    have HD := Aside0.mk hd
    clear hb hown hd hreads
    go_wp2_with fail
    have hlt1 := lt_of_block HB.out
    have hsz56 : (sizesTo 56).length ≤ 1099511627776 := by have := sizesTo_length 56; omega
    go_region_held3 (fun w' => w'.cell? ⟨w.heap.size + 1, 0, none⟩ = some (.slice A (allTo l0 56).length c))
      (first
        | go_keep
        | (exact cell_of_one (blk_below (blk_drew HB.out) hd2))
        | (exact cell_of_one (blk_below (blk_below (blk_drew HB.out) hd2) hd3)))
      (first
        | (go_at_call 101; refine (konst_sizes_calls _).mono ?_; rintro e w2 ⟨A2, c2, rfl, hr2, hc2, hd2⟩)
        | (go_at_call 100; refine (bin_Put_calls A2 c2 (sizesTo 56) A c (allTo l0 56) _ hr2 hc2 (Kd.C_below (Kd.C_drew HC.out) hd2) hle hsz56).mono ?_; rintro e w3 ⟨rfl, hd3⟩))
    have HW : Aside0 (Below w.heap.size w w3) := by
      have h1 := HD.out.size
      simp only [World.size_alloc] at h1
      have h2 := hd2.size
      simp only [World.size_drew] at h2
      exact ⟨(((((Below.refl _ _).alloc (Nat.le_refl _) _).trans (HD.out.mono (by omega))).drew).trans (hd2.mono (by simp; omega))).trans (hd3.mono (by omega))⟩
    by_cases hput : (putR (sizesTo 56) (allTo l0 56)).2 = 0
    · have HQ : Aside0 (konstPut l0 = putR (sizesTo 56) (allTo l0 56)) := ⟨by simp [konstPut, HL.out, hput]⟩
      have hq := Aside0.mk hput
      rw [hput]
      clear hput
      go_wp2
      go_ret2
      exact ⟨by rw [HQ.out, hq.out]; rfl, HW.out⟩
    · have HQ : Aside0 (konstPut l0 = ([], 1)) := ⟨by simp [konstPut, HL.out, hput]⟩
      have hd4 : ((putR (sizesTo 56) (allTo l0 56)).2 != 0) = true := by simpa using hput
      clear hput
      go_wp2
      go_ret2
      exact ⟨by rw [HQ.out]; rfl, HW.out⟩
  · have HQ : Aside0 (konstPut l0 = ([], 1)) := ⟨by simp [konstPut, hlen]⟩
    have hd0 : ((l0.length : Int) != 56) = true := by simp; omega
    have hcell := cell_of_one (blk_new w (.cells #[.slice A0 l0.length c0] 27))
    go_enter Tryz.func77, Tryz.ntmps77
    go_wp2
    go_ret2
    exact ⟨by rw [HQ.out]; rfl, (Below.refl _ _).alloc (Nat.le_refl _) _⟩
set_option maxHeartbeats 1000000 in
theorem konst_Is.callsU (A0 : Option Addr) (c0 : Nat) (l0 : List Int) (r : Bool) (w : World) (hr0 : Kd.C (Kd.int .i64) w A0 l0.length l0) (h : konst_Is.f l0 = some r) :
    Calls Tryz.prog 55 #[.slice A0 l0.length c0] w fun e w' => e = .returned (.bool r) ∧ Below w.heap.size w w' := by
  obtain rfl : konstIs l0 = r := Option.some.inj h
  have HP := Aside0.mk (konst_Put_calls A0 c0 l0 w hr0)
  by_cases hp : (konstPut l0).2 = 0
  · have HQ : Aside0 (konstIs l0 = true) := ⟨by simp [konstIs, hp]⟩
    rw [hp] at HP
    go_enter Tryz.func55, Tryz.ntmps55
    go_wp2_with fail
    refine HP.out.mono ?_
    rintro e w1 ⟨rfl, hd⟩
    go_wp2
    go_ret
    exact ⟨by rw [HQ.out]; rfl, hd⟩
  · have HQ : Aside0 (konstIs l0 = false) := ⟨by simp [konstIs, hp]⟩
    have hd4 : ((konstPut l0).2 == 0) = false := by simpa using hp
    go_enter Tryz.func55, Tryz.ntmps55
    go_wp2_with fail
    refine HP.out.mono ?_
    rintro e w1 ⟨rfl, hd⟩
    go_wp2
    go_ret
    exact ⟨by rw [HQ.out]; rfl, hd⟩
end Go.Proofs.YtbhljokhcmfgjaaGreat.P
