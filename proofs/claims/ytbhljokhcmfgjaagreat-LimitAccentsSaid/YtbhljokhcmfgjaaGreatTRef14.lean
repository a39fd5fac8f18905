import Derived.Test.YtbhljokhcmfgjaaGreatTInfo3
import Derived.Test.YtbhljokhcmfgjaaGreatRef3
import Derived.Test.YtbhljokhcmfgjaaGreatWide
/- The document's pairs (layer 14), as far as a value is found. Printed by a program of this work (mkref14.py). -/
set_option linter.unusedVariables false
set_option linter.unusedSimpArgs false
namespace Go.Proofs.YtbhljokhcmfgjaaGreat.P
open Go.RowKit Go.Proofs.YtbhljokhcmfgjaaGreatW.PrintWords Go.Proofs.YtbhljokhcmfgjaaGreatW.PrintLast Go.Proofs.YtbhljokhcmfgjaaGreatW.PrintMore

set_option maxRecDepth 100000 in
set_option maxHeartbeats 2000000 in
theorem is12 (A : Option Addr) (c : Nat) (l : List Int) (w : World) (hC : Kd.C (Kd.int .i64) w A l.length l) :
    Calls Tryz.prog 91 #[.slice A l.length c] w fun r w' => r = .returned (.bool (covIs l)) ∧ Below w.heap.size w w' := by
  have hmax := Kd.C_max hC
  have HR := Aside0.mk hC
  clear hC
  go_enter Tryz.func91, Tryz.ntmps91
  go_wp2
  go_loopw [3] (fun i wr => ∃ (k : Nat), k ≤ l.length ∧ i = .int .i64 k ∧ Aside0 (Below w.heap.size w wr) ∧ Aside0 (covGo (if k = 0 then none else some (rd l ((k : Int) - 1))) (l.drop k) = covIs l)) (fun i _ => l.length - (intOf i).toNat)
  case atStart => exact ⟨0, Nat.zero_le _, rfl, ⟨Below.refl _ _⟩, ⟨rfl⟩⟩
  case round =>
    obtain ⟨k, hk, rfl, HB, HG⟩ := hrel
    by_cases hlt : k < l.length
    · obtain ⟨ad, e, hcl⟩ := Kd.at_int HR.out (k : Int) (by omega) (by omega)
      cases e
      obtain ⟨a, ha⟩ : ∃ a, a = rd l k := ⟨_, rfl⟩
      have hl : l[k] = a := by rw [ha]; simp [rd, List.getD_eq_getElem?_getD, hlt]
      have HS := Aside0.mk (show ∀ p, covGo p (l.drop k) = (decide (0 ≤ a) && decide (a ≤ 65534) && (match p with | none => true | some q => decide (q < a)) && covGo (some a) (l.drop (k + 1))) by intro p; rw [List.drop_eq_getElem_cons hlt, hl]; rfl)
      rw [← ha] at hcl
      simp only [Int.toNat_natCast] at hcl
      have c0 : ∀ n : On w, n.W.cell? (ad.add k) = some (.int .i64 a) := fun n => On.cell hcl n
      have hd1 : decide ((k : Int) < (l.length : Int)) = true := by simp; omega
      have HN := Aside0.mk (show (if k + 1 = 0 then none else some (rd l (((k + 1 : Nat) : Int) - 1))) = some a by rw [if_neg (by omega), ha]; congr 2; omega)
      clear ha hl hcl
      have hi0 : (0 : Int) ≤ (k : Int) := Int.natCast_nonneg _
      have hi1 : (k : Int) < (l.length : Int) := by omega
      by_cases h0 : a < 0
      · have h0d : decide (a < 0) = true := decide_eq_true h0
        have HF := Aside0.mk (show decide (0 ≤ a) = false from decide_eq_false (by omega))
        clear h0
        go_wp2_with fail
        refine wp_region_on w HB.out (by kernel_rfl) (by kernel_rfl) ?_
        repeat (go_big_quiet_step (fail))
        refine wpQuiet_nil ?_
        intro _ hw'
        obtain ⟨nq, hw''⟩ := hw'
        subst hw''
        go_wp2
        go_ret
        exact ⟨by rw [← HG.out, HS.out, HF.out]; rfl, nq.bel⟩
      · have h0d : decide (a < 0) = false := decide_eq_false h0
        by_cases h1 : a > 65534
        · have h1d : decide (a > 65534) = true := decide_eq_true h1
          have HF := Aside0.mk (show decide (a ≤ 65534) = false from decide_eq_false (by omega))
          clear h0 h1
          go_wp2_with fail
          refine wp_region_on w HB.out (by kernel_rfl) (by kernel_rfl) ?_
          repeat (go_big_quiet_step (fail))
          refine wpQuiet_nil ?_
          intro _ hw'
          obtain ⟨nq, hw''⟩ := hw'
          subst hw''
          go_wp2
          go_ret
          exact ⟨by rw [← HG.out, HS.out, HF.out]; simp, nq.bel⟩
        · have h1d : decide (a > 65534) = false := decide_eq_false h1
          have HF0 := Aside0.mk (show decide (0 ≤ a) = true from decide_eq_true (by omega))
          have HF1 := Aside0.mk (show decide (a ≤ 65534) = true from decide_eq_true (by omega))
          clear h0 h1
          by_cases hk0 : k = 0
          · subst hk0
            rw [show ad.add 0 = ad by simp [Addr.add]] at c0
            go_wp2_with fail
            refine wp_region_on w HB.out (by kernel_rfl) (by kernel_rfl) ?_
            repeat (go_big_quiet_step (fail))
            refine wpQuiet_nil ?_
            intro _ hw'
            obtain ⟨nq, hw''⟩ := hw'
            subst hw''
            go_wp2
            go_roundw
            case rel => exact ⟨1, by omega, by go_num, ⟨nq.bel⟩, ⟨by rw [← HG.out, HS.out, HF0.out, HF1.out, HN.out]; rfl⟩⟩
            case measure => simp [intOf]; omega
          · have hd2 : decide (0 < k) = true := decide_eq_true (by omega)
            have hwk : wrap64 ((k : Int) - 1) = (k : Int) - 1 := by unfold wrap64; omega
            obtain ⟨ad2, e2, hcl2⟩ := Kd.at_int HR.out ((k : Int) - 1) (by omega) (by omega)
            cases e2
            have hi2 : (0 : Int) ≤ (k : Int) - 1 := by omega
            have hi3 : (k : Int) - 1 < (l.length : Int) := by omega
            obtain ⟨b, hb⟩ : ∃ b, b = rd l ((k : Int) - 1) := ⟨_, rfl⟩
            rw [← hb, show ((k : Int) - 1).toNat = k - 1 by omega] at hcl2
            have c1 : ∀ n : On w, n.W.cell? (ad.add (k - 1)) = some (.int .i64 b) := fun n => On.cell hcl2 n
            have HX := Aside0.mk (show (if k = 0 then none else some (rd l ((k : Int) - 1))) = some b by rw [if_neg hk0, hb])
            clear hb hcl2
            by_cases h2 : a ≤ b
            · have h2d : decide (a ≤ b) = true := decide_eq_true h2
              have HF := Aside0.mk (show decide (b < a) = false from decide_eq_false (by omega))
              clear h2
              go_wp2_with fail
              refine wp_region_on w HB.out (by kernel_rfl) (by kernel_rfl) ?_
              repeat (go_big_quiet_step (fail))
              refine wpQuiet_nil ?_
              intro _ hw'
              obtain ⟨nq, hw''⟩ := hw'
              subst hw''
              go_wp2
              go_ret
              exact ⟨by rw [← HG.out, HX.out, HS.out]; simp [HF.out], nq.bel⟩
            · have h2d : decide (a ≤ b) = false := decide_eq_false h2
              have HF := Aside0.mk (show decide (b < a) = true from decide_eq_true (by omega))
              clear h2
              go_wp2_with fail
              refine wp_region_on w HB.out (by kernel_rfl) (by kernel_rfl) ?_
              repeat (go_big_quiet_step (fail))
              refine wpQuiet_nil ?_
              intro _ hw'
              obtain ⟨nq, hw''⟩ := hw'
              subst hw''
              go_wp2
              go_roundw
              case rel => exact ⟨k + 1, by omega, by go_num, ⟨nq.bel⟩, ⟨by rw [← HG.out, HX.out, HS.out, HF0.out, HF1.out, HN.out]; simp [HF.out]⟩⟩
              case measure => simp [intOf]; omega
    · obtain rfl : k = l.length := by omega
      have hd1 : decide ((l.length : Int) < (l.length : Int)) = false := by simp
      go_wp2
      go_ret
      exact ⟨by rw [← HG.out]; simp [covGo], HB.out⟩
set_option maxRecDepth 100000 in
set_option maxHeartbeats 2000000 in
theorem glyphs14 (A : Option Addr) (c : Nat) (l : List S77) (w : World) (hC : Kd.C k77 w A l.length l) (hlen : l.length ≤ 1000000) :
    Calls Tryz.prog 92 #[.slice A l.length c] w fun r w' => ∃ A1 n1, r = .returned (.slice A1 (l.map (·.f0)).length n1) ∧ Kd.C (Kd.int .i64) w' A1 (l.map (·.f0)).length (l.map (·.f0)) ∧ Below w.heap.size w w' := by
  obtain ⟨i0, hi, hz0, hz1, hz2⟩ := info_parts (show (Tryz.prog.info? 3).map (fun i => (i.zero, i.size, i.bytes)) = some (some (.int .i64 0), 1, 8) by kernel_rfl)
  have hu82 := Tryz.underlying77
  have hmax := Kd.C_max hC
  have HC := Aside0.mk hC
  have HLEN := Aside0.mk hlen
  have HR := Aside0.mk (Row.nil (d := Kd.int .i64) (e := 3) (Pd.start w))
  clear hC
  go_enter Tryz.func92, Tryz.ntmps92
  go_wp2
  go_loopw [3, 4] (fun v i wr => ∃ k : Nat, k ≤ l.length ∧ i = .int .i64 k ∧ Aside0 (Row (Kd.int .i64) 3 w wr [] v ((l.take k).map (·.f0)))) (fun v i _ => l.length - (intOf i).toNat)
  case atStart => exact ⟨0, Nat.zero_le _, rfl, HR⟩
  case round =>
    obtain ⟨k, hk, rfl, HR⟩ := hrel
    by_cases hlt : k < l.length
    · have hd1 : decide ((k : Int) < (l.length : Int)) = true := by simp; omega
      have hi0 : (0 : Int) ≤ (k : Int) := Int.natCast_nonneg _
      have hi1 : (k : Int) < (l.length : Int) := by omega
      obtain ⟨ad, hA, h0, h1⟩ := at_pair (Kd.C_below HC.out HR.out.pd.bel) k hlt
      subst hA
      obtain ⟨x, hx⟩ : ∃ x, x = rdP l k := ⟨_, rfl⟩
      rw [← hx] at h0 h1
      have HX := Aside0.mk (show (l.take k).map (·.f0) ++ [x.f0] = (l.take (k + 1)).map (·.f0) by rw [hx, rdP_eq hlt, List.take_succ_eq_append_getElem hlt, List.map_append]; rfl)
      have HK := Aside0.mk (show ((l.take k).map (·.f0)).length = k by simp; omega)
      have HM := Aside0.mk (show ((l.take k).map (·.f0)).length + 1 ≤ maxLen ∧ (((l.take k).map (·.f0)).length + 1) * 8 ≤ 140737488355328 by rw [HK.out]; unfold maxLen; omega)
      clear hx
      go_wp2_with (first | ((with_reducible refine gate_dst (N := 18) rfl ?_); refine Row.appendL (d := Kd.int .i64) (e := 3) (ts := 27) Tryz.underlying27 hi hz0 hz1 hz2 rfl Nat.one_pos (HR.out.alc _) (by rfl) _ _ (by rfl) (by rfl) (y := x.f0) (c := [.int .i64 x.f0]) (by rfl) (by exact alloc_last _ _) rfl (by intro u hu; rw [List.mem_singleton] at hu; subst hu; rfl) HM.out.1 HM.out.2 ?_; intro q cap w2 hR; rw [HX.out, HK.out] at hR; have HR2 := Aside0.mk hR; clear hR HR))
      go_roundw
      case rel => exact ⟨k + 1, by omega, by go_num, HR2⟩
      case measure => simp [intOf]; omega
    · obtain rfl : k = l.length := by omega
      have hd1 : decide ((l.length : Int) < (l.length : Int)) = false := by simp
      rw [List.take_length] at HR
      obtain ⟨A1, n1, rfl, hle, hF⟩ := HR.out.reads (Kd.heap_int .i64) (by simpa using hmax)
      have HF := Aside0.mk (hF wr (fun _ _ _ => rfl))
      go_wp2
      go_ret
      exact ⟨A1, ⟨n1, by simp⟩, by have h := HF.out; rw [List.length_map] at h; exact h, HR.out.pd.bel⟩
set_option maxRecDepth 100000 in
set_option maxHeartbeats 2000000 in
theorem is14 (A : Option Addr) (c : Nat) (l : List S77) (w : World) (hC : Kd.C k77 w A l.length l) (hlen : l.length ≤ 1000000) :
    Calls Tryz.prog 64 #[.slice A l.length c] w fun r w' => r = .returned (.bool (infoIs l)) ∧ Below w.heap.size w w' := by
  have hu82 := Tryz.underlying77
  have hmax := Kd.C_max hC
  have HC := Aside0.mk hC
  have HG := Aside0.mk (glyphs14 A c l w hC hlen)
  obtain ⟨z, hz⟩ : ∃ z, z = infoIs l := ⟨_, rfl⟩
  have HZ := Aside0.mk hz
  rw [← hz]
  clear hC hz hlen
  go_enter Tryz.func64, Tryz.ntmps64
  go_wp2
  go_loopw [3] (fun i wr => ∃ k : Nat, k ≤ l.length ∧ i = .int .i64 k ∧ wr = w ∧ Aside0 (∀ x ∈ l.take k, pairOk x = true)) (fun i _ => l.length - (intOf i).toNat)
  case atStart => exact ⟨0, Nat.zero_le _, rfl, rfl, ⟨by simp⟩⟩
  case round =>
    obtain ⟨k, hk, rfl, rfl, HA⟩ := hrel
    by_cases hlt : k < l.length
    · have hd1 : decide ((k : Int) < (l.length : Int)) = true := by simp; omega
      have hi0 : (0 : Int) ≤ (k : Int) := Int.natCast_nonneg _
      have hi1 : (k : Int) < (l.length : Int) := by omega
      obtain ⟨ad, hA, h0, h1⟩ := at_pair HC.out k hlt
      subst hA
      obtain ⟨x, hx⟩ : ∃ x, x = rdP l k := ⟨_, rfl⟩
      rw [← hx] at h0 h1
      have HX := Aside0.mk (show x = l[k] by rw [hx, rdP_eq hlt])
      clear hx
      go_wp2_with fail
      refine (fits2 x.f1 (Or.inr rfl) _).mono ?_
      rintro _ w1 ⟨rfl, rfl⟩
      cases hq : fitsR x.f1 (-2) with
      | false =>
        have HQ := Aside0.mk hq
        clear hq
        have hz : z = false := by
          rw [HZ.out, infoIs, Bool.and_eq_false_iff]
          right
          rw [List.all_eq_false]
          exact ⟨x, by rw [HX.out]; exact List.getElem_mem hlt, by unfold pairOk; rw [HQ.out]; decide⟩
        subst hz
        go_wp2
        go_ret
        exact ⟨rfl, Below.refl _ _⟩
      | true =>
        have HQ := Aside0.mk hq
        clear hq
        go_wp2
        go_roundw
        case rel => exact ⟨k + 1, by omega, by go_num, trivial, ⟨fun y hy => by
          rw [List.take_succ_eq_append_getElem hlt, List.mem_append, List.mem_singleton] at hy
          rcases hy with hy | rfl
          · exact HA.out y hy
          · rw [← HX.out]; exact HQ.out⟩⟩
        case measure => simp [intOf]; omega
    · obtain rfl : k = l.length := by omega
      have hd1 : decide ((l.length : Int) < (l.length : Int)) = false := by simp
      rw [List.take_length] at HA
      have hz : z = covIs (l.map (·.f0)) := by rw [HZ.out, infoIs, show l.all pairOk = true from List.all_eq_true.2 HA.out, Bool.and_true]
      obtain ⟨gl, hgl⟩ : ∃ gl, gl = l.map (·.f0) := ⟨_, rfl⟩
      have HG1 := HG.out
      rw [← hgl] at HG1 hz
      have HG2 := Aside0.mk HG1
      clear hgl HG1 HG
      go_wp2_with fail
      refine HG2.out.mono ?_
      rintro _ w1 ⟨A1, n1, rfl, hC1, hb⟩
      have HB := Aside0.mk hb
      have HI := Aside0.mk (is12 A1 n1 _ w1 hC1)
      clear hb hC1
      go_wp2_with fail
      refine HI.out.mono ?_
      rintro _ w2 ⟨rfl, hb⟩
      replace HB := Aside0.mk (below_step HB.out hb)
      subst hz
      clear hb
      go_wp2
      go_ret
      exact ⟨rfl, HB.out⟩
set_option maxRecDepth 100000 in
set_option maxHeartbeats 2000000 in
theorem find14 (A : Option Addr) (c : Nat) (l : List S77) (g : Int) (w : World) (hC : Kd.C k77 w A l.length l) (hlen : l.length ≤ 1000000) :
    Calls Tryz.prog 39 #[.slice A l.length c, .int .i64 g] w fun r w' => r = .returned (.tuple #[.int .i64 (findV l g).1, .bool (findV l g).2]) ∧ Below w.heap.size w w' := by
  have hmax := Kd.C_max hC
  have hu82 := Tryz.underlying77
  have HC := Aside0.mk hC
  have HI := Aside0.mk (is14 A c l w hC hlen)
  obtain ⟨z, hz⟩ : ∃ z, z = findV l g := ⟨_, rfl⟩
  have HZ := Aside0.mk hz
  rw [← hz]
  clear hC hz hlen
  go_enter Tryz.func39, Tryz.ntmps39
  go_wp2_with fail
  refine HI.out.mono ?_
  rintro _ w1 ⟨rfl, hb⟩
  have HB := Aside0.mk hb
  clear hb
  cases hq : infoIs l with
  | false =>
    have hz : z = (0, false) := HZ.out.trans (find_no (fun h => by rw [hq] at h; cases h))
    clear hq
    subst hz
    go_wp2
    go_ret2
    exact ⟨rfl, HB.out⟩
  | true =>
    have HQ := Aside0.mk hq
    clear hq
    go_wp2
    go_loopw [6] (fun i wr => ∃ k : Nat, k ≤ l.length ∧ i = .int .i64 k ∧ wr = w1 ∧ Aside0 (∀ x ∈ l.take k, x.f0 ≠ g)) (fun i _ => l.length - (intOf i).toNat)
    case atStart => exact ⟨0, Nat.zero_le _, rfl, rfl, ⟨by simp⟩⟩
    case round =>
      obtain ⟨k, hk, rfl, rfl, HA⟩ := hrel
      by_cases hlt : k < l.length
      · have hd1 : decide ((k : Int) < (l.length : Int)) = true := by simp; omega
        have hi0 : (0 : Int) ≤ (k : Int) := Int.natCast_nonneg _
        have hi1 : (k : Int) < (l.length : Int) := by omega
        obtain ⟨ad, hA, h0, h1⟩ := at_pair (Kd.C_below HC.out HB.out) k hlt
        subst hA
        obtain ⟨x, hx⟩ : ∃ x, x = rdP l k := ⟨_, rfl⟩
        rw [← hx] at h0 h1
        have HX := Aside0.mk hx
        clear hx
        by_cases hg : x.f0 = g
        · have hz := HZ.out.trans (find_at HQ.out hlt (by rw [← HX.out]; exact hg))
          rw [← HX.out] at hz
          have hd2 : (x.f0 == g) = true := by simp [hg]
          clear hg
          subst hz
          go_wp2
          go_ret2
          exact ⟨rfl, HB.out⟩
        · have hd2 : (x.f0 == g) = false := by simp [hg]
          have HN := Aside0.mk hg
          clear hg
          go_wp2
          go_roundw
          case rel => exact ⟨k + 1, by omega, by go_num, trivial, ⟨fun y hy => by
            rw [List.take_succ_eq_append_getElem hlt, List.mem_append, List.mem_singleton] at hy
            rcases hy with hy | rfl
            · exact HA.out y hy
            · rw [← rdP_eq hlt, ← HX.out]; exact HN.out⟩⟩
          case measure => simp [intOf]; omega
      · obtain rfl : k = l.length := by omega
        have hd1 : decide ((l.length : Int) < (l.length : Int)) = false := by simp
        rw [List.take_length] at HA
        have hz : z = (0, false) := HZ.out.trans (find_no (fun _ x hx => by obtain ⟨y, hy, rfl⟩ := List.mem_map.1 hx; exact HA.out y hy))
        subst hz
        go_wp2
        go_ret2
        exact ⟨rfl, HB.out⟩
end Go.Proofs.YtbhljokhcmfgjaaGreat.P
