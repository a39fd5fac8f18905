import Derived.Test.YtbhljokhcmfgjaaGreatTPD
import Derived.Test.YtbhljokhcmfgjaaGreatRows
import Derived.Test.YtbhljokhcmfgjaaGreatTLaw29Acc
import Derived.Test.YtbhljokhcmfgjaaGreatNuc
import Derived.WalkKit
import Derived.ProofKit
import Derived.OpenShut
import Derived.ShutString
import Derived.ChangeOld
import Derived.Below
import Derived.SizedLaws
import Derived.Carry
/- The law LimitAccents holds for every input. The row, out of the walk; for whatever arguments can be read. Printed by a program of this work (mkrow2.py). -/
namespace Go.Proofs.YtbhljokhcmfgjaaGreat.limitAccents
open Go.ChangeShapes Go.WideShapes Go.ChangeAt Go.RowKit Go.Proofs.YtbhljokhcmfgjaaGreat.P Go.Proofs.YtbhljokhcmfgjaaGreat.Opens Go.Proofs.YtbhljokhcmfgjaaGreatW.PrintWords
open Go.ChangeMaps (open_string shut_string)
set_option linter.unusedVariables false
theorem own : ownKnob Tryz.prog.godebug = none := by kernel_rfl
theorem laidOut : laidOutB Tryz.prog = true := by kernel_rfl
set_option maxRecDepth 100000 in
set_option maxHeartbeats 2000000 in
theorem lifted (os : Os) (started : os.Started) (H : Type) (enc : TypeId × Value → H) :
    ReturnsInHanded {} Tryz.checked os 4 .any (Rows.limitAccentsSpec.pre6 enc Tryz.prog Tryz.f4 Rows.limitAccentsRow.domain false) (Rows.limitAccentsSpec.post enc Tryz.prog Tryz.f4 false true false false) := by
  refine returnsInHanded_of_change_sized (C := Tryz.checked) own started (by kernel_rfl) Tryz.func4
    (ChangeSpec.witness6 (enc := enc) (C := Tryz.checked) false ⟨#[], #[.agg #[.int .i64 0, .int .i64 0, .int .i64 0, .int .i64 0, .int .i64 0, .bool false, .slice none 0 0, .slice none 0 0, .slice none 0 0, .slice none 0 0, .slice none 0 0, .slice none 0 0, .slice none 0 0, .slice none 0 0, .int .i64 0, .slice none 0 0, .slice none 0 0], .int .i64 0, .int .i64 0, .agg #[.int .i64 0, .int .i64 0, .int .i64 0, .int .i64 0, .int .i64 0, .int .i64 0, .slice none 0 0, .int .i64 0, .int .i64 0], .agg #[.int .i64 0, .int .i64 0, .int .i64 0, .int .i64 0, .int .i64 0, .int .i64 0, .slice none 0 0, .int .i64 0, .int .i64 0]], []⟩ 8 (by kernel_rfl) (by kernel_rfl) (by kernel_rfl) (by kernel_rfl)) ?_
  intro W base args ds gs before hval0 hW hcnd hsz0 _
  have hsz : (DataW.weightsEach Tryz.prog (Tryz.f4.params.toList ++ Rows.limitAccentsSpec.plain.varTypes Tryz.prog) (ds ++ gs)).all (· ≤ reachBytes) = true := hsz0
  have hval : ∀ (j : Nat) t v, Tryz.f4.params[j]? = some t → args[j]? = some v → Value.okWide Tryz.prog W .any base t v := hval0
  have hW' := hW
  obtain ⟨p, q, hA0, hV, rfl, hfz, hnd⟩ := hW
  have hA : DataW.TrodAll enc Tryz.prog W 0 (fun _ => true) true Tryz.f4.params.toList args.toList ds p := hA0
  rw [Tryz.params4] at hA hval hsz
  obtain ⟨v0, vs0, d0, ds0, p0, q0, hargs, rfl, rfl, h0, r0⟩ := trodAll_cons hA
  obtain ⟨v1, vs1, d1, ds1, p1, q1, rfl, rfl, rfl, h1, r1⟩ := trodAll_cons r0
  obtain ⟨v2, vs2, d2, ds2, p2, q2, rfl, rfl, rfl, h2, r2⟩ := trodAll_cons r1
  obtain ⟨v3, vs3, d3, ds3, p3, q3, rfl, rfl, rfl, h3, r3⟩ := trodAll_cons r2
  obtain ⟨v4, vs4, d4, ds4, p4, q4, rfl, rfl, rfl, h4, r4⟩ := trodAll_cons r3
  obtain ⟨rfl, rfl, rfl⟩ := trodAll_nil r4
  obtain rfl : args = #[v0, v1, v2, v3, v4] := by cases args; simp_all
  obtain ⟨rfl, rfl⟩ := trodVars_none hV
  obtain ⟨cs0, rfl, _⟩ := okWide_struct Tryz.underlying36 (hval 0 36 v0 rfl rfl)
  have k0_ := h0
  have lt0 : ∀ x ∈ p0, x.block < W.heap.size := by obtain ⟨m, hm⟩ := k0_; exact DataW.trod_lt m _ _ _ hm
  obtain ⟨fuel0, hf0⟩ := h0
  obtain ⟨x0, hK0, hG0⟩ := (o36 fuel0).go (Nat.le_refl _) hf0
  obtain ⟨x1, rfl, rfl, rfl, w1⟩ := open_int Tryz.underlying3 (hval 1 3 v1 rfl rfl) h1
  obtain ⟨x2, rfl, rfl, rfl, w2⟩ := open_int Tryz.underlying3 (hval 2 3 v2 rfl rfl) h2
  obtain ⟨cs3, rfl, _⟩ := okWide_struct Tryz.underlying41 (hval 3 41 v3 rfl rfl)
  have k3_ := h3
  have lt3 : ∀ x ∈ p3, x.block < W.heap.size := by obtain ⟨m, hm⟩ := k3_; exact DataW.trod_lt m _ _ _ hm
  obtain ⟨fuel3, hf3⟩ := h3
  obtain ⟨⟨x3, gl3, it3⟩, hK3, hG3⟩ := (oNuc fuel3).go (Nat.le_refl _) hf3
  obtain ⟨A3_6, c3_6, hcs3, hl3_6, hC3_6⟩ := nuc_open hK3
  obtain rfl : cs3 = #[.int .i64 x3.f0, .int .i64 x3.f1, .int .i64 x3.f2, .int .i64 x3.f3, .int .i64 x3.f4, .int .i64 x3.f5, .slice A3_6 x3.f6.length c3_6, .int .i64 gl3, .int .i64 it3] := Array.toList_inj.1 hcs3
  obtain ⟨cs4, rfl, _⟩ := okWide_struct Tryz.underlying41 (hval 4 41 v4 rfl rfl)
  have k4_ := h4
  have lt4 : ∀ x ∈ p4, x.block < W.heap.size := by obtain ⟨m, hm⟩ := k4_; exact DataW.trod_lt m _ _ _ hm
  obtain ⟨fuel4, hf4⟩ := h4
  obtain ⟨⟨x4, gl4, it4⟩, hK4, hG4⟩ := (oNuc fuel4).go (Nat.le_refl _) hf4
  obtain ⟨A4_6, c4_6, hcs4, hl4_6, hC4_6⟩ := nuc_open hK4
  obtain rfl : cs4 = #[.int .i64 x4.f0, .int .i64 x4.f1, .int .i64 x4.f2, .int .i64 x4.f3, .int .i64 x4.f4, .int .i64 x4.f5, .slice A4_6 x4.f6.length c4_6, .int .i64 gl4, .int .i64 it4] := Array.toList_inj.1 hcs4
  clear hA0 hval0 hsz0 hsz
  refine (law_accents W x0 x1 x2 x3 gl3 it3 x4 gl4 it4 _ _ _ _ cs0.toList (FontIn.of hK0) hG3.1 hl3_6 hC3_6 hG4.1 hl4_6 hC4_6).mono fun e W' hpost => ?_
  obtain ⟨he, bel⟩ := hpost
  subst he
  exact ⟨_, rfl, _, _, _, [], _, [], hW', trodAll_mk1 (shut_bool Tryz.underlying4 _), (trodAll_cons_mk (Below.trod laidOut (by kernel_rfl) (of_decide_eq_true (by kernel_rfl)) k0_ bel lt0) (trodAll_cons_mk (shut_int Tryz.underlying3 w1) (trodAll_cons_mk (shut_int Tryz.underlying3 w2) (trodAll_cons_mk (Below.trod laidOut (by kernel_rfl) (of_decide_eq_true (by kernel_rfl)) k3_ bel lt3) (trodAll_cons_mk (Below.trod laidOut (by kernel_rfl) (of_decide_eq_true (by kernel_rfl)) k4_ bel lt4) trodAll_mk0))))), rfl, bel.frame _, fun h => by cases h⟩
theorem over : Rows.limitAccentsRow.holds Tryz.pinned (OpenSpec.ofChange Rows.limitAccentsSpec) :=
  OpenClaim.holds_of_wide 4 Tryz.f4 rfl rfl rfl rfl rfl rfl rfl ⟨rfl, rfl, rfl, rfl, rfl⟩ rfl rfl rfl rfl rfl (by kernel_rfl) Tryz.func4 (by kernel_rfl)
    (of_decide_eq_true (by kernel_rfl)) (by unfold Func.isWrapper; first | (rw [if_pos (by decide +kernel)]; kernel_rfl) | (rw [if_neg (by decide +kernel)]; exact ⟨rfl, rfl⟩))
    (fun os started H enc _ => lifted os started H enc)
theorem proved : Rows.LimitAccentsSaid := over
end Go.Proofs.YtbhljokhcmfgjaaGreat.limitAccents
namespace Go.Proofs.YtbhljokhcmfgjaaGreat
/-- The law's statement, as it is given. -/
theorem limitAccents_holds : Rows.LimitAccentsSaid := limitAccents.proved
end Go.Proofs.YtbhljokhcmfgjaaGreat
