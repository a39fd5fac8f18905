import Derived.Test.YtbhljokhcmfgjaaGreatTPD
import Derived.Test.YtbhljokhcmfgjaaGreatRows
import Derived.Test.YtbhljokhcmfgjaaGreatTLaw29Does
import Derived.Test.YtbhljokhcmfgjaaGreatNuc
import Derived.WalkKit
import Derived.ProofKit
import Derived.OpenShut
import Derived.ShutString
import Derived.ChangeOld
import Derived.Below
import Derived.SizedLaws
import Derived.Carry
/- The law LimitDoes holds for every input. The row, out of the walk; for whatever arguments can be read. Printed by a program of this work (mkrow2.py). -/
namespace Go.Proofs.YtbhljokhcmfgjaaGreat.limitDoes
open Go.ChangeShapes Go.WideShapes Go.ChangeAt Go.RowKit Go.Proofs.YtbhljokhcmfgjaaGreat.P Go.Proofs.YtbhljokhcmfgjaaGreat.Opens Go.Proofs.YtbhljokhcmfgjaaGreatW.PrintWords
open Go.ChangeMaps (open_string shut_string)
set_option linter.unusedVariables false
theorem own : ownKnob Tryz.prog.godebug = none := by kernel_rfl
theorem laidOut : laidOutB Tryz.prog = true := by kernel_rfl
theorem oL : ∀ N, Opn Tryz.prog N 42 (Kd.slice 39 k39) (fun x => ∀ y ∈ x, Ok39 y) := fun N => (opn_slice Tryz.underlying42 (by kernel_rfl) (o39 N)).mono (Nat.le_succ N)
set_option maxRecDepth 100000 in
set_option maxHeartbeats 2000000 in
theorem lifted (os : Os) (started : os.Started) (H : Type) (enc : TypeId × Value → H) :
    ReturnsInHanded {} Tryz.checked os 3 .any (Rows.limitDoesSpec.pre6 enc Tryz.prog Tryz.f3 Rows.limitDoesRow.domain false) (Rows.limitDoesSpec.post enc Tryz.prog Tryz.f3 false true false false) := by
  refine returnsInHanded_of_change_sized (C := Tryz.checked) own started (by kernel_rfl) Tryz.func3
    (ChangeSpec.witness6 (enc := enc) (C := Tryz.checked) false ⟨#[], #[.agg #[.int .i64 0, .int .i64 0, .int .i64 0, .int .i64 0, .int .i64 0, .bool false, .slice none 0 0, .slice none 0 0, .slice none 0 0, .slice none 0 0, .slice none 0 0, .slice none 0 0, .slice none 0 0, .slice none 0 0, .int .i64 0, .slice none 0 0, .slice none 0 0], .int .i64 0, .int .i64 0, .agg #[.int .i64 0, .int .i64 0, .int .i64 0, .int .i64 0, .int .i64 0, .int .i64 0, .slice none 0 0, .int .i64 0, .int .i64 0], .slice none 0 0, .slice none 0 0], []⟩ 8 (by kernel_rfl) (by kernel_rfl) (by kernel_rfl) (by kernel_rfl)) ?_
  intro W base args ds gs before hval0 hW hcnd hsz0 _
  have hsz : (DataW.weightsEach Tryz.prog (Tryz.f3.params.toList ++ Rows.limitDoesSpec.plain.varTypes Tryz.prog) (ds ++ gs)).all (· ≤ reachBytes) = true := hsz0
  have hval : ∀ (j : Nat) t v, Tryz.f3.params[j]? = some t → args[j]? = some v → Value.okWide Tryz.prog W .any base t v := hval0
  have hW' := hW
  obtain ⟨p, q, hA0, hV, rfl, hfz, hnd⟩ := hW
  have hA : DataW.TrodAll enc Tryz.prog W 0 (fun _ => true) true Tryz.f3.params.toList args.toList ds p := hA0
  rw [Tryz.params3] at hA hval hsz
  obtain ⟨v0, vs0, d0, ds0, p0, q0, hargs, rfl, rfl, h0, r0⟩ := trodAll_cons hA
  obtain ⟨v1, vs1, d1, ds1, p1, q1, rfl, rfl, rfl, h1, r1⟩ := trodAll_cons r0
  obtain ⟨v2, vs2, d2, ds2, p2, q2, rfl, rfl, rfl, h2, r2⟩ := trodAll_cons r1
  obtain ⟨v3, vs3, d3, ds3, p3, q3, rfl, rfl, rfl, h3, r3⟩ := trodAll_cons r2
  obtain ⟨v4, vs4, d4, ds4, p4, q4, rfl, rfl, rfl, h4, r4⟩ := trodAll_cons r3
  obtain ⟨v5, vs5, d5, ds5, p5, q5, rfl, rfl, rfl, h5, r5⟩ := trodAll_cons r4
  obtain ⟨rfl, rfl, rfl⟩ := trodAll_nil r5
  obtain rfl : args = #[v0, v1, v2, v3, v4, v5] := by cases args; simp_all
  obtain ⟨rfl, rfl⟩ := trodVars_none hV
  obtain ⟨cs0, rfl, _⟩ := okWide_struct Tryz.underlying36 (hval 0 36 v0 rfl rfl)
  have k0_ := h0
  have lt0 : ∀ x ∈ p0, x.block < W.heap.size := by obtain ⟨m, hm⟩ := k0_; exact DataW.trod_lt m _ _ _ hm
  obtain ⟨fuel0, hf0⟩ := h0
  obtain ⟨x0, hK0, hG0⟩ := (o36 fuel0).go (Nat.le_refl _) hf0
  obtain ⟨x1, rfl, rfl, rfl, w1⟩ := open_int Tryz.underlying3 (hval 1 3 v1 rfl rfl) h1
  obtain ⟨x2, rfl, rfl, rfl, w2⟩ := open_int Tryz.underlying3 (hval 2 3 v2 rfl rfl) h2
  obtain ⟨cs3, rfl, _⟩ := okWide_struct Tryz.underlying41 (hval 3 41 v3 rfl rfl)
  have k3_ := h3
  have lt3 : ∀ x ∈ p3, x.block < W.heap.size := by obtain ⟨m, hm⟩ := k3_; exact DataW.trod_lt m _ _ _ hm
  obtain ⟨fuel3, hf3⟩ := h3
  obtain ⟨⟨x3, gl3, it3⟩, hK3, hG3⟩ := (oNuc fuel3).go (Nat.le_refl _) hf3
  obtain ⟨A3_6, c3_6, hcs3, hl3_6, hC3_6⟩ := nuc_open hK3
  obtain rfl : cs3 = #[.int .i64 x3.f0, .int .i64 x3.f1, .int .i64 x3.f2, .int .i64 x3.f3, .int .i64 x3.f4, .int .i64 x3.f5, .slice A3_6 x3.f6.length c3_6, .int .i64 gl3, .int .i64 it3] := Array.toList_inj.1 hcs3
  obtain ⟨A4, len4, c4, rfl⟩ := okWide_slice Tryz.underlying42 (hval 4 42 v4 rfl rfl)
  have k4_ := h4
  have lt4 : ∀ x ∈ p4, x.block < W.heap.size := by obtain ⟨m, hm⟩ := k4_; exact DataW.trod_lt m _ _ _ hm
  obtain ⟨fuel4, hf4⟩ := h4
  obtain ⟨x4, ⟨A4', c4', hcs4, hl4, hC4⟩, hG4⟩ := (oL fuel4).go (Nat.le_refl _) hf4
  simp [Value.cells] at hcs4
  obtain ⟨rfl, rfl, rfl⟩ := hcs4
  obtain ⟨A5, len5, c5, rfl⟩ := okWide_slice Tryz.underlying42 (hval 5 42 v5 rfl rfl)
  have k5_ := h5
  have lt5 : ∀ x ∈ p5, x.block < W.heap.size := by obtain ⟨m, hm⟩ := k5_; exact DataW.trod_lt m _ _ _ hm
  obtain ⟨fuel5, hf5⟩ := h5
  obtain ⟨x5, ⟨A5', c5', hcs5, hl5, hC5⟩, hG5⟩ := (oL fuel5).go (Nat.le_refl _) hf5
  simp [Value.cells] at hcs5
  obtain ⟨rfl, rfl, rfl⟩ := hcs5
  clear hA0 hval0 hsz0 hsz
  refine (law_limits W x0 x1 x2 x3 gl3 it3 x4 x5 _ _ _ _ _ _ cs0.toList (FontIn.of hK0) hG3.1 hl3_6 hC3_6 hG4 hC4 hG5 hC5).mono fun e W' hpost => ?_
  obtain ⟨he, bel⟩ := hpost
  subst he
  exact ⟨_, rfl, _, _, _, [], _, [], hW', trodAll_mk1 (shut_bool Tryz.underlying4 _), (trodAll_cons_mk (Below.trod laidOut (by kernel_rfl) (of_decide_eq_true (by kernel_rfl)) k0_ bel lt0) (trodAll_cons_mk (shut_int Tryz.underlying3 w1) (trodAll_cons_mk (shut_int Tryz.underlying3 w2) (trodAll_cons_mk (Below.trod laidOut (by kernel_rfl) (of_decide_eq_true (by kernel_rfl)) k3_ bel lt3) (trodAll_cons_mk (Below.trod laidOut (by kernel_rfl) (of_decide_eq_true (by kernel_rfl)) k4_ bel lt4) (trodAll_cons_mk (Below.trod laidOut (by kernel_rfl) (of_decide_eq_true (by kernel_rfl)) k5_ bel lt5) trodAll_mk0)))))), rfl, bel.frame _, fun h => by cases h⟩
theorem over : Rows.limitDoesRow.holds Tryz.pinned (OpenSpec.ofChange Rows.limitDoesSpec) :=
  OpenClaim.holds_of_wide 3 Tryz.f3 rfl rfl rfl rfl rfl rfl rfl ⟨rfl, rfl, rfl, rfl, rfl⟩ rfl rfl rfl rfl rfl (by kernel_rfl) Tryz.func3 (by kernel_rfl)
    (of_decide_eq_true (by kernel_rfl)) (by unfold Func.isWrapper; first | (rw [if_pos (by decide +kernel)]; kernel_rfl) | (rw [if_neg (by decide +kernel)]; exact ⟨rfl, rfl⟩))
    (fun os started H enc _ => lifted os started H enc)
theorem proved : Rows.LimitDoesSaid := over
end Go.Proofs.YtbhljokhcmfgjaaGreat.limitDoes
namespace Go.Proofs.YtbhljokhcmfgjaaGreat
/-- The law's statement, as it is given. -/
theorem limitDoes_holds : Rows.LimitDoesSaid := limitDoes.proved
end Go.Proofs.YtbhljokhcmfgjaaGreat
