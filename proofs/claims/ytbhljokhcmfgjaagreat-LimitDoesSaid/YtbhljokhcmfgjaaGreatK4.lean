import Derived.Test.YtbhljokhcmfgjaaGreatK2
import Derived.Test.YtbhljokhcmfgjaaGreatK3
/- Part 4 of the proof of stackCenter_holds: what it needs of this work's texts, joined. -/
set_option linter.unusedVariables false
set_option linter.unusedSimpArgs false
namespace Go.Proofs.YtbhljokhcmfgjaaGreat.P
open Go.RowKit Go.Proofs.YtbhljokhcmfgjaaGreatW.PrintWords Go.Proofs.YtbhljokhcmfgjaaGreatW.PrintLast Go.Proofs.YtbhljokhcmfgjaaGreatW.PrintMore
attribute [local go_sem] max2_int min2_int max_two min_two max_three min_three max_four min_four   -- for this text's walks alone
set_option linter.unusedVariables false
set_option linter.unusedSimpArgs false
def style_Size.j0 : Nat → List Int → Int → Int → Bool → Option (Int × Int)
  | 0, _, _, _, _ => none
  | k + 1, x0, x1, x2, x28 => if x28 = true then (some (0, 1)) else (if 0 < (x0.length : Int) then (if x1 < 4 then (some (x2, 0)) else (if x1 ≥ 6 then (if 1 < (x0.length : Int) then ((fixed_MulDiv.f x2 (rd x0 1) 100).bind fun bt167 => (if bt167.1 < 0 then (some (0, 1)) else (some (bt167.1, bt167.2)))) else (none)) else ((fixed_MulDiv.f x2 (rd x0 0) 100).bind fun bt169 => (if bt169.1 < 0 then (some (0, 1)) else (some (bt169.1, bt169.2)))))) else (none))
def style_Size.f (k : Nat) (l0 : List Int) (a1 : Int) (a2 : Int) : Option (Int × Int) := (style_Is.f a1).bind fun t159 => (if t159 = true then ((fixed_Is.f k (([a2] : List Int))).bind fun t163 => (if t163 = true then (if a2 < 0 then (style_Size.j0 k l0 a1 a2 true) else ((konst_Is.f l0).bind fun t164 => (style_Size.j0 k l0 a1 a2 (!t164)))) else (style_Size.j0 k l0 a1 a2 true))) else (style_Size.j0 k l0 a1 a2 true))
theorem style_Size.mono_l : ∀ k, (∀ y0 y1 y2 y3, LeO (style_Size.j0 k y0 y1 y2 y3) (style_Size.j0 (k + 1) y0 y1 y2 y3))
  | 0 => fun _ _ _ _ r h => by simp [style_Size.j0] at h
  | k + 1 => by
    have ih0 := style_Size.mono_l k
    · intro y0 y1 y2 y3
      unfold style_Size.j0
      repeat' first
      | (with_reducible exact ih0 _ _ _ _)
      | (with_reducible exact fixed_Is.mono _ _)
      | (with_reducible exact LeO.refl _)
      | (with_reducible exact LeO.none _)
      | (with_reducible refine LeO.ite ?_ ?_)
      | (with_reducible refine LeO.bind ?_ (fun _ => ?_))
      | exact ih0 _ _ _ _
      | exact fixed_Is.mono _ _
      | exact LeO.none _
      | refine LeO.ite ?_ ?_
      | refine LeO.bind ?_ (fun _ => ?_)
theorem style_Size.mono : ∀ a0 a1 a2 k, LeO (style_Size.f k a0 a1 a2) (style_Size.f (k + 1) a0 a1 a2) := by
  intro a0 a1 a2 k
  have ih0 := style_Size.mono_l k
  unfold style_Size.f
  repeat' first
      | (with_reducible exact ih0 _ _ _ _)
      | (with_reducible exact fixed_Is.mono _ _)
      | (with_reducible exact LeO.refl _)
      | (with_reducible exact LeO.none _)
      | (with_reducible refine LeO.ite ?_ ?_)
      | (with_reducible refine LeO.bind ?_ (fun _ => ?_))
      | exact ih0 _ _ _ _
      | exact fixed_Is.mono _ _
      | exact LeO.none _
      | refine LeO.ite ?_ ?_
      | refine LeO.bind ?_ (fun _ => ?_)
end Go.Proofs.YtbhljokhcmfgjaaGreat.P
