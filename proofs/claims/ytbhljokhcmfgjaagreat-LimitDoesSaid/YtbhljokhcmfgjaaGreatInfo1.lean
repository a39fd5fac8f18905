import Derived.Test.YtbhljokhcmfgjaaGreatK3
import Derived.ScopeJumps
import Derived.WalkMore
/- Packages info and cover as far as info.Find reaches: wrong, IndexFunc, ContainsFunc, glyphs, cover.Is. -/
set_option linter.unusedVariables false
set_option linter.unusedSimpArgs false
namespace Go.Proofs.YtbhljokhcmfgjaaGreat.P
open Go.RowKit Go.Proofs.YtbhljokhcmfgjaaGreatW.PrintWords Go.Proofs.YtbhljokhcmfgjaaGreatW.PrintLast Go.Proofs.YtbhljokhcmfgjaaGreatW.PrintMore

/-- Does a value fit? -/
def pairOk (x : S77) : Bool := fitsR x.f1 (-2)
theorem pairOk_iff (x : S77) : pairOk x = true ↔ -32768 ≤ x.f1 ∧ x.f1 ≤ 32767 := by
  unfold pairOk fitsR
  simp only [show ((-2 : Int) < 0) = True by simp, if_true, Bool.and_eq_true, decide_eq_true_eq, show (2 : Int) ^ (-8 * (-2 : Int) - 1).toNat = 32768 by decide]
  omega
theorem put_one (v : Int) : ((putR [-2] [v]).2 != 0) = !fitsR v (-2) := by
  unfold putR
  cases h : fitsR v (-2) <;> simp [putGo, h, sizeOk]
def zPair : S77 := ⟨0, 0⟩
def rdP (xs : List S77) (i : Nat) : S77 := xs.getD i zPair
theorem pair_open {w : World} {x : S77} {cs : List Value} (h : k77.K w x cs) : cs = [.int .i64 x.f0, .int .i64 x.f1] := by
  obtain ⟨_, _, rfl, rfl, rfl⟩ := h
  rfl
theorem at_pair {w : World} {A : Option Addr} {n : Nat} {xs : List S77} (h : Kd.C k77 w A n xs) (i : Nat) (h1 : i < n) : ∃ ad, A = some ad ∧ w.cell? (ad.add (i * 2)) = some (.int .i64 (rdP xs i).f0) ∧ w.cell? ⟨(ad.add (i * 2)).block, (ad.add (i * 2)).off + 1, none⟩ = some (.int .i64 (rdP xs i).f1) := by
  obtain ⟨ad, c, e, _, hK, hc0⟩ := Kd.C_get h zPair (i : Int) (Int.natCast_nonneg _) (by omega)
  have hc : ∀ j u, c[j]? = some u → w.cell? (ad.add (i * 2 + j)) = some u := hc0
  obtain rfl := pair_open hK
  exact ⟨ad, e, hc 0 _ rfl, by rw [← add_field _ _ 1 (by omega)]; exact hc 1 _ rfl⟩
theorem rdP_eq {xs : List S77} {i : Nat} (h : i < xs.length) : rdP xs i = xs[i] := by simp [rdP, List.getD_eq_getElem?_getD, h]
set_option maxRecDepth 100000 in
set_option maxHeartbeats 1000000 in
theorem wrong_calls (x : S77) (v0 : Value) (w : World) : Calls Tryz.prog 85 #[v0, .agg #[.int .i64 x.f0, .int .i64 x.f1]] w fun r w' => r = .returned (.bool (!pairOk x)) ∧ Below w.heap.size w w' := by
  have hu82 := Tryz.underlying77
  have HB := Aside0.mk (Below.refl w.heap.size w)
  obtain ⟨q, hq⟩ : ∃ q, q = putR [-2] [x.f1] := ⟨_, rfl⟩
  have HQ := Aside0.mk hq
  have HW := Aside0.mk (show (!pairOk x) = (q.2 != 0) by rw [hq, put_one]; rfl)
  rw [HW.out]
  clear hq
  go_enter Tryz.func85, Tryz.ntmps85
  go_wp2_with fail
  refine (bin_Put_calls _ _ [-2] _ _ [x.f1] _ (Kd.C_below (lit1_C _ _ _ _ (by simp)) ((Below.refl _ _).alloc (Nat.le_refl _) _)) (Nat.le_refl _) (lit1_C _ _ _ _ (by simp)) (Nat.le_refl _) (by decide)).mono ?_
  rw [← HQ.out]
  rintro _ w1 ⟨rfl, hb⟩
  replace HB := Aside0.mk (below_step (((HB.out.alloc (Nat.le_refl _) _).alloc (by simp) _).alloc (by simp; omega) _) hb)
  clear hb
  go_wp2
  go_ret
  exact ⟨rfl, HB.out⟩
/-- A function that only looks tells of every element what q tells. -/
def Tells (f : FuncId) (fst caps : Array Value) (q : S77 → Bool) : Prop := ∀ (x : S77) (w : World), Calls Tryz.prog f (fst ++ #[.agg #[.int .i64 x.f0, .int .i64 x.f1]] ++ caps) w fun r w' => r = .returned (.bool (q x)) ∧ Below w.heap.size w w'
set_option maxRecDepth 100000 in
set_option maxHeartbeats 1000000 in
theorem indexFunc_calls (A : Option Addr) (c : Nat) (l : List S77) (f : FuncId) (fst caps : Array Value) (hent : ∀ args, Enters f args) (q : S77 → Bool) (hf : Tells f fst caps q) (w : World) (hC : Kd.C k77 w A l.length l) :
    Calls Tryz.prog 104 #[.slice A l.length c, .func (.func f) fst caps] w fun r w' => (∃ i : Int, r = .returned (.int .i64 i) ∧ decide (i ≥ 0) = l.any q) ∧ Below w.heap.size w w' := by
  have hmax := Kd.C_max hC
  have HC := Aside0.mk hC
  have HF := Aside0.mk hf
  unfold Enters at hent
  clear hC hf
  go_enter Tryz.func104, Tryz.ntmps104
  go_wp2
  go_loopw [8] (fun i wr => ∃ k : Nat, k ≤ l.length ∧ i = .int .i64 k ∧ Aside0 ((l.drop k).any q = l.any q) ∧ Aside0 (Below w.heap.size w wr)) (fun i _ => l.length - (intOf i).toNat)
  case atStart => exact ⟨0, Nat.zero_le _, rfl, ⟨rfl⟩, ⟨Below.refl _ _⟩⟩
  case round =>
    obtain ⟨k, hk, rfl, HG, HB⟩ := hrel
    by_cases hlt : k < l.length
    · have hd1 : decide ((k : Int) < (l.length : Int)) = true := by simp; omega
      have hi0 : (0 : Int) ≤ (k : Int) := Int.natCast_nonneg _
      have hi1 : (k : Int) < (l.length : Int) := by omega
      obtain ⟨ad, hA, h0, h1⟩ := at_pair (Kd.C_below HC.out HB.out) k hlt
      subst hA
      obtain ⟨x, hx⟩ : ∃ x, x = rdP l k := ⟨_, rfl⟩
      rw [← hx] at h0 h1
      have HX := Aside0.mk (show (l.drop k).any q = (q x || (l.drop (k + 1)).any q) by rw [hx, rdP_eq hlt, List.drop_eq_getElem_cons hlt]; rfl)
      clear hx
      have HCC := HF.out x wr
      have HCC := Aside0.mk HCC
      go_wp2_with fail
      refine HCC.out.mono ?_
      rintro _ w1 ⟨rfl, hb⟩
      replace HB := Aside0.mk (below_step HB.out hb)
      clear hb
      cases hq : q x with
      | true =>
        have HQ := Aside0.mk hq
        clear hq
        go_wp2
        go_ret
        exact ⟨⟨_, rfl, by rw [← HG.out, HX.out, HQ.out]; simp⟩, HB.out⟩
      | false =>
        have HQ := Aside0.mk hq
        clear hq
        go_wp2
        go_roundw
        case rel => exact ⟨k + 1, by omega, by go_num, ⟨by rw [← HG.out, HX.out, HQ.out]; rfl⟩, HB⟩
        case measure => simp [intOf]; omega
    · obtain rfl : k = l.length := by omega
      have hd1 : decide ((l.length : Int) < (l.length : Int)) = false := by simp
      go_wp2
      go_ret
      exact ⟨⟨_, rfl, by rw [← HG.out]; simp⟩, HB.out⟩
set_option maxRecDepth 100000 in
set_option maxHeartbeats 1000000 in
theorem containsFunc_calls (A : Option Addr) (c : Nat) (l : List S77) (f : FuncId) (fst caps : Array Value) (hent : ∀ args, Enters f args) (q : S77 → Bool) (hf : Tells f fst caps q) (w : World) (hC : Kd.C k77 w A l.length l) :
    Calls Tryz.prog 84 #[.slice A l.length c, .func (.func f) fst caps] w fun r w' => r = .returned (.bool (l.any q)) ∧ Below w.heap.size w w' := by
  obtain ⟨z, hz⟩ : ∃ z, z = l.any q := ⟨_, rfl⟩
  have HI := indexFunc_calls A c l f fst caps hent q hf w hC
  rw [← hz] at HI ⊢
  have HI := Aside0.mk HI
  clear hz
  go_enter Tryz.func84, Tryz.ntmps84
  go_wp2_with fail
  refine HI.out.mono ?_
  rintro _ w1 ⟨⟨i, rfl, hi⟩, hb⟩
  subst hi
  have HB := Aside0.mk hb
  clear hb
  go_wp2
  go_ret
  exact ⟨rfl, HB.out⟩
/-- Are glyphs right? p: the one ahead. -/
def covGo : Option Int → List Int → Bool
  | _, [] => true
  | p, g :: l => decide (0 ≤ g) && decide (g ≤ 65534) && (match p with | none => true | some q => decide (q < g)) && covGo (some g) l
abbrev covIs (l : List Int) : Bool := covGo none l
set_option maxRecDepth 100000 in
set_option maxHeartbeats 2000000 in
theorem coverIs_calls (A : Option Addr) (c : Nat) (l : List Int) (w : World) (hC : Kd.C (Kd.int .i64) w A l.length l) :
    Calls Tryz.prog 83 #[.slice A l.length c] w fun r w' => r = .returned (.bool (covIs l)) ∧ w = w' := by
  have hmax := Kd.C_max hC
  have HR := Aside0.mk hC
  clear hC
  go_enter Tryz.func83, Tryz.ntmps83
  go_wp2
  go_loopw [7] (fun i wr => ∃ (k : Nat), k ≤ l.length ∧ i = .int .i64 k ∧ wr = w ∧ Aside0 (covGo (if k = 0 then none else some (rd l ((k : Int) - 1))) (l.drop k) = covIs l)) (fun i _ => l.length - (intOf i).toNat)
  case atStart => exact ⟨0, Nat.zero_le _, rfl, rfl, ⟨rfl⟩⟩
  case round =>
    obtain ⟨k, hk, rfl, rfl, HG⟩ := hrel
    by_cases hlt : k < l.length
    · obtain ⟨ad, e, hcl⟩ := Kd.at_int HR.out (k : Int) (by omega) (by omega)
      cases e
      obtain ⟨a, ha⟩ : ∃ a, a = rd l k := ⟨_, rfl⟩
      have hl : l[k] = a := by rw [ha]; simp [rd, List.getD_eq_getElem?_getD, hlt]
      have HS := Aside0.mk (show ∀ p, covGo p (l.drop k) = (decide (0 ≤ a) && decide (a ≤ 65534) && (match p with | none => true | some q => decide (q < a)) && covGo (some a) (l.drop (k + 1))) by intro p; rw [List.drop_eq_getElem_cons hlt, hl]; rfl)
      have HA := Aside0.mk ha
      rw [← ha] at hcl
      simp only [Int.toNat_natCast] at hcl
      have hd1 : decide ((k : Int) < (l.length : Int)) = true := by simp; omega
      have HN := Aside0.mk (show (if k + 1 = 0 then none else some (rd l (((k + 1 : Nat) : Int) - 1))) = some a by rw [if_neg (by omega), ha]; congr 2; omega)
      clear ha hl
      by_cases h0 : a < 0
      · have h0d : decide (a < 0) = true := decide_eq_true h0
        have HF := Aside0.mk (show decide (0 ≤ a) = false from decide_eq_false (by omega))
        clear h0
        go_wp2
        go_ret
        exact ⟨by rw [← HG.out, HS.out, HF.out]; rfl, rfl⟩
      · have h0d : decide (a < 0) = false := decide_eq_false h0
        by_cases h1 : a > 65534
        · have h1d : decide (a > 65534) = true := decide_eq_true h1
          have HF := Aside0.mk (show decide (a ≤ 65534) = false from decide_eq_false (by omega))
          clear h0 h1
          go_wp2
          go_ret
          exact ⟨by rw [← HG.out, HS.out, HF.out]; simp, rfl⟩
        · have h1d : decide (a > 65534) = false := decide_eq_false h1
          have HF0 := Aside0.mk (show decide (0 ≤ a) = true from decide_eq_true (by omega))
          have HF1 := Aside0.mk (show decide (a ≤ 65534) = true from decide_eq_true (by omega))
          clear h0 h1
          by_cases hk0 : k = 0
          · subst hk0
            rw [show ad.add 0 = ad by simp [Addr.add]] at hcl
            go_wp2
            go_roundw
            case rel => exact ⟨1, by omega, by go_num, trivial, ⟨by rw [← HG.out, HS.out, HF0.out, HF1.out, HN.out]; rfl⟩⟩
            case measure => simp [intOf]; omega
          · have hd2 : decide ((k : Int) > 0) = true := decide_eq_true (by omega)
            have hwk : wrap64 ((k : Int) - 1) = (k : Int) - 1 := by unfold wrap64; omega
            obtain ⟨ad2, e2, hcl2⟩ := Kd.at_int HR.out ((k : Int) - 1) (by omega) (by omega)
            cases e2
            have hi0 : (0 : Int) ≤ (k : Int) - 1 := by omega
            have hi1 : (k : Int) - 1 < (l.length : Int) := by omega
            obtain ⟨b, hb⟩ : ∃ b, b = rd l ((k : Int) - 1) := ⟨_, rfl⟩
            rw [← hb, show ((k : Int) - 1).toNat = k - 1 by omega] at hcl2
            have HB := Aside0.mk (show (if k = 0 then none else some (rd l ((k : Int) - 1))) = some b by rw [if_neg hk0, hb])
            clear hb
            by_cases h2 : a ≤ b
            · have h2d : decide (a ≤ b) = true := decide_eq_true h2
              have HF := Aside0.mk (show decide (b < a) = false from decide_eq_false (by omega))
              clear h2
              go_wp2
              go_ret
              exact ⟨by rw [← HG.out, HB.out, HS.out]; simp [HF.out], rfl⟩
            · have h2d : decide (a ≤ b) = false := decide_eq_false h2
              have HF := Aside0.mk (show decide (b < a) = true from decide_eq_true (by omega))
              clear h2
              go_wp2
              go_roundw
              case rel => exact ⟨k + 1, by omega, by go_num, trivial, ⟨by rw [← HG.out, HB.out, HS.out, HF0.out, HF1.out, HN.out]; simp [HF.out]⟩⟩
              case measure => simp [intOf]; omega
    · obtain rfl : k = l.length := by omega
      have hd1 : decide ((l.length : Int) < (l.length : Int)) = false := by simp
      go_wp2
      go_ret
      exact ⟨by rw [← HG.out]; simp [covGo], rfl⟩
end Go.Proofs.YtbhljokhcmfgjaaGreat.P
