import Derived.Test.YtbhljokhcmfgjaaE7
/- A nucleus as what can be read: a box, a glyph, a correction. -/
set_option linter.unusedVariables false
namespace Go.Proofs.Ytbhljokhcmfgjaa.P
open Go.RowKit Go.Proofs.Ytbhljokhcmfgjaa.Opens Go.Proofs.YtbhljokhcmfgjaaW.PrintWords Go.Proofs.YtbhljokhcmfgjaaW.PrintLast Go.Proofs.YtbhljokhcmfgjaaW.PrintMore
def kNuc : Kd (S25 × Int × Int) := Kd.iso (Kd.pair k25 (Kd.pair (Kd.int .i64) (Kd.int .i64))) (fun x => x)
theorem oNuc : ∀ N, Opn Try.prog N 73 kNuc (fun x => Ok25 x.1 ∧ i64In x.2.1 ∧ i64In x.2.2) := fun N => ((opn_struct (d := (Kd.pair k25 (Kd.pair (Kd.int .i64) (Kd.int .i64)))) Try.underlying73 (by kernel_rfl) (opnF_cons rfl (o25 N) (opnF_cons rfl (o3 N) (opnF_one rfl (o3 N)))) (fun x : S25 × Int × Int => x) (fun a => a) (fun _ => rfl)).imp (fun _ h => h)).mono (Nat.le_succ N)
theorem nuc_open {w : World} {x : S25} {gl it : Int} {cs : List Value} (h : kNuc.K w (x, gl, it) cs) : ∃ A6 c6, cs = [.int .i64 x.f0, .int .i64 x.f1, .int .i64 x.f2, .int .i64 x.f3, .int .i64 x.f4, .int .i64 x.f5, .slice A6 x.f6.length c6, .int .i64 gl, .int .i64 it] ∧ x.f6.length ≤ c6 ∧ Kd.C k41 w A6 x.f6.length x.f6 := by
  obtain ⟨_, _, rfl, hb, ⟨_, _, rfl, rfl, rfl⟩⟩ := h
  obtain ⟨A6, c6, rfl, hl, hC⟩ := k25_open hb
  exact ⟨A6, c6, rfl, hl, hC⟩
end Go.Proofs.Ytbhljokhcmfgjaa.P
