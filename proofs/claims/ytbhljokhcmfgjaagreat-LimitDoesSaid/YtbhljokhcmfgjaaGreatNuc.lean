import Derived.Test.YtbhljokhcmfgjaaGreatE7
/- A nucleus as what can be read: a box, a glyph, a correction. -/
set_option linter.unusedVariables false
namespace Go.Proofs.YtbhljokhcmfgjaaGreat.P
open Go.RowKit Go.Proofs.YtbhljokhcmfgjaaGreat.Opens Go.Proofs.YtbhljokhcmfgjaaGreatW.PrintWords Go.Proofs.YtbhljokhcmfgjaaGreatW.PrintLast Go.Proofs.YtbhljokhcmfgjaaGreatW.PrintMore
def kNuc : Kd (S39 × Int × Int) := Kd.iso (Kd.pair k39 (Kd.pair (Kd.int .i64) (Kd.int .i64))) (fun x => x)
theorem oNuc : ∀ N, Opn Tryz.prog N 41 kNuc (fun x => Ok39 x.1 ∧ i64In x.2.1 ∧ i64In x.2.2) := fun N => ((opn_struct (d := (Kd.pair k39 (Kd.pair (Kd.int .i64) (Kd.int .i64)))) Tryz.underlying41 (by kernel_rfl) (opnF_cons rfl (o39 N) (opnF_cons rfl (o3 N) (opnF_one rfl (o3 N)))) (fun x : S39 × Int × Int => x) (fun a => a) (fun _ => rfl)).imp (fun _ h => h)).mono (Nat.le_succ N)
theorem nuc_open {w : World} {x : S39} {gl it : Int} {cs : List Value} (h : kNuc.K w (x, gl, it) cs) : ∃ A6 c6, cs = [.int .i64 x.f0, .int .i64 x.f1, .int .i64 x.f2, .int .i64 x.f3, .int .i64 x.f4, .int .i64 x.f5, .slice A6 x.f6.length c6, .int .i64 gl, .int .i64 it] ∧ x.f6.length ≤ c6 ∧ Kd.C k67 w A6 x.f6.length x.f6 := by
  obtain ⟨_, _, rfl, hb, ⟨_, _, rfl, rfl, rfl⟩⟩ := h
  obtain ⟨A6, c6, rfl, hl, hC⟩ := k39_open hb
  exact ⟨A6, c6, rfl, hl, hC⟩
end Go.Proofs.YtbhljokhcmfgjaaGreat.P
