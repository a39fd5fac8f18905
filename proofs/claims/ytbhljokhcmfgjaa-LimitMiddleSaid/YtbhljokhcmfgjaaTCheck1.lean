import Derived.Test.YtbhljokhcmfgjaaTPB
import Derived.Test.YtbhljokhcmfgjaaTSet2
/- box.depth. -/
set_option linter.unusedVariables false
set_option linter.unusedSimpArgs false
namespace Go.Proofs.Ytbhljokhcmfgjaa.P
open Go.RowKit Go.Shelf Go.Proofs.YtbhljokhcmfgjaaW.PrintWords Go.Proofs.YtbhljokhcmfgjaaW.PrintLast Go.Proofs.YtbhljokhcmfgjaaW.PrintMore
attribute [local go_sem] Oper.semAt_some

/-- How deep a box is; m: more than its size. -/
def depthF : Nat → S25 → Int
  | 0, _ => 0
  | m + 1, b => wrap64 (b.f6.foldl (fun n k => max n (depthF m k.f2)) 0 + 1)
set_option maxRecDepth 100000 in
set_option maxHeartbeats 1000000 in
theorem depth_calls : ∀ (m : Nat) (x : S25), SizeOf.sizeOf x < m → ∀ (w : World) (A : Option Addr) (n : Nat), x.f6.length ≤ n → Kd.C k41 w A x.f6.length x.f6 →
    Calls Try.prog 53 #[.agg #[.int .i64 x.f0, .int .i64 x.f1, .int .i64 x.f2, .int .i64 x.f3, .int .i64 x.f4, .int .i64 x.f5, .slice A x.f6.length n]] w fun r w' => r = .returned (.int .i64 (depthF m x)) ∧ Below w.heap.size w w' := by
  intro m
  induction m with
  | zero => intro x hx; exact absurd hx (Nat.not_lt_zero _)
  | succ m ih =>
    intro x hx w A n hl hC
    have hu39 := Try.underlying25
    have hu49 := Try.underlying41
    have HX := Aside0.mk hx
    have HC := Aside0.mk hC
    have HIH := Aside0.mk ih
    have hmax := Kd.C_max hC
    clear hx hC hl ih
    go_enter Try.func53, Try.ntmps53
    go_wp2
    go_loopw [3, 9] (fun d i wr => ∃ kk : Nat, kk ≤ x.f6.length ∧ i = .int .i64 kk ∧ d = .int .i64 ((x.f6.take kk).foldl (fun n k => max n (depthF m k.f2)) 0) ∧ Aside0 (Below w.heap.size w wr)) (fun _ i _ => x.f6.length - (intOf i).toNat)
    case atStart => exact ⟨0, Nat.zero_le _, rfl, rfl, ⟨(Below.refl _ w).alloc (Nat.le_refl _) _⟩⟩
    case round =>
      obtain ⟨kk, hk, rfl, rfl, HP⟩ := hrel
      by_cases hlt : kk < x.f6.length
      · have hd1 : decide ((kk : Int) < (x.f6.length : Int)) = true := by simp; omega
        have hi0 : (0 : Int) ≤ (kk : Int) := Int.natCast_nonneg _
        have hi1 : (kk : Int) < (x.f6.length : Int) := by omega
        have hsz : SizeOf.sizeOf x.f6[kk].f2 < m := by have := size_kid x kk hlt; have := HX.out; omega
        obtain ⟨ad, A8, c8, hA, la, ca, fa⟩ := kid_keep HC.out kk hlt
        subst hA
        obtain ⟨k0, k1, k2, k3, k4, k5, k6, k7, k8⟩ := fa wr HP.out
        obtain ⟨y, hy⟩ : ∃ y, y = x.f6[kk] := ⟨_, rfl⟩
        have HTK : (x.f6.take (kk + 1)).foldl (fun n k => max n (depthF m k.f2)) 0 = max ((x.f6.take kk).foldl (fun n k => max n (depthF m k.f2)) 0) (depthF m y.f2) := by rw [List.take_succ_eq_append_getElem hlt, List.foldl_append, hy]; rfl
        obtain ⟨d0, hd0⟩ : ∃ d, d = (x.f6.take kk).foldl (fun n k => max n (depthF m k.f2)) 0 := ⟨_, rfl⟩
        rw [← hd0] at HTK ⊢
        rw [← hy] at hsz la ca k0 k1 k2 k3 k4 k5 k6 k7 k8
        have HTK2 := Aside0.mk HTK
        have HCA := Aside0.mk ca
        clear HTK ca fa hy hd0
        go_wp2_with fail
        refine (HIH.out y.f2 hsz _ A8 c8 la (Kd.C_below HCA.out (HP.out.alloc HP.out.size _))).mono ?_
        rintro _ w1 ⟨rfl, hb⟩
        replace HP := Aside0.mk ((HP.out.alloc HP.out.size _).trans (hb.mono (by have := HP.out.size; simp; omega)))
        clear hb k0 k1 k2 k3 k4 k5 k6 k7 k8
        go_wp2
        go_roundw
        case rel => exact ⟨kk + 1, by omega, by go_num, by rw [HTK2.out], HP⟩
        case measure => simp [intOf] <;> omega
      · obtain rfl : kk = x.f6.length := by omega
        have hd1 : decide ((x.f6.length : Int) < (x.f6.length : Int)) = false := by simp
        rw [List.take_length]
        go_wp2
        go_ret
        exact ⟨rfl, HP.out⟩
end Go.Proofs.Ytbhljokhcmfgjaa.P
