import Derived.Test.YtbhljokhcmfgjaaBar4
import Derived.Test.YtbhljokhcmfgjaaBar6
/- The example of layer 27's laws: its numbers; its row of constants. Printed by a program of this work (mkbarred.py). -/
set_option linter.unusedVariables false
set_option linter.unusedSimpArgs false
namespace Go.Proofs.Ytbhljokhcmfgjaa.P
open Go.RowKit Go.Proofs.YtbhljokhcmfgjaaW.PrintWords Go.Proofs.YtbhljokhcmfgjaaW.PrintLast Go.Proofs.YtbhljokhcmfgjaaW.PrintMore

def barL : List Int := [0, 0, 0, 0, 0, 0, 0, 0, 0, 0, 0, 0, 0, 0, 0, 0, 0, 0, 0, 0, 0, 0, 0, 0, 0, 0, 0, 0, 0, 0, 0, 0, 0, 0, 0, 0, 0, 0, 0, 0, 0, 0, 0, 100, 40, 30, 0, 0, 0, 50, 0, 40, 0, 0, 0, 0]
def barF : S63 := ⟨⟨1000, 1, 1, 0, 0, false⟩, [], [], [], ⟨barL, [], [], [], [], ⟨0, [], []⟩⟩⟩
def barR : S25 := ⟨2, 300, 500, 10, 0, 0, []⟩
def barS : S25 := ⟨2, 200, 700, 0, 0, 0, []⟩
def barK : List S41 := [⟨0, 0, barR⟩, ⟨0, 600, ⟨2, 300, 40, 0, 0, 0, []⟩⟩, ⟨0, 0, ⟨0, 0, 670, 0, 0, 0, []⟩⟩]
set_option maxRecDepth 100000 in
theorem bar_over : overV barF 2 1000 barR = (3, 300, 670, 10, 0, 0, barK, 0) := by kernel_rfl
set_option maxRecDepth 100000 in
theorem bar_need : needV barF 2 1000 barR = (600, 0) := by kernel_rfl
set_option maxRecDepth 100000 in
theorem bar_rad : radV barF 2 1000 barR barS = (3, 500, 640, 60, 0, 0, [⟨0, -60, barS⟩, ⟨200, 600, ⟨2, 300, 40, 0, 0, 0, []⟩⟩, ⟨200, 0, barR⟩, ⟨0, 0, ⟨0, 0, 640, 0, 0, 0, []⟩⟩], 0) := by kernel_rfl
theorem bar_row {w wm : World} {go co : Nat} (ho : Kd.R (Kd.int .i64) 3 wm w.heap.size (fun _ => True) (.slice (some ⟨go, 0, none⟩) 56 co) (List.replicate 56 0)) (hb : Below w.heap.size w wm) (gb : w.heap.size ≤ go) :
    ∃ o, Pd w (((((wm.setCell ⟨go, 43, none⟩ (.int .i64 100)).setCell ⟨go, 44, none⟩ (.int .i64 40)).setCell ⟨go, 45, none⟩ (.int .i64 30)).setCell ⟨go, 49, none⟩ (.int .i64 50)).setCell ⟨go, 51, none⟩ (.int .i64 40)) [(go, o)] ∧ 56 ≤ co ∧ ∀ W' : World, W'.heap[go]? = some o → Kd.C (Kd.int .i64) W' (some ⟨go, 0, none⟩) 56 barL := by
  have q1 := (Kd.R_putg ho 43 100).1
  have q2 := (Kd.R_putg q1 44 40).1
  have q3 := (Kd.R_putg q2 45 30).1
  have q4 := (Kd.R_putg q3 49 50).1
  have q5 : Kd.R (Kd.int .i64) 3 (((((wm.setCell ⟨go, 43, none⟩ (.int .i64 100)).setCell ⟨go, 44, none⟩ (.int .i64 40)).setCell ⟨go, 45, none⟩ (.int .i64 30)).setCell ⟨go, 49, none⟩ (.int .i64 50)).setCell ⟨go, 51, none⟩ (.int .i64 40)) w.heap.size (fun _ => True) (.slice (some ⟨go, 0, none⟩) 56 co) barL := (Kd.R_putg q4 51 40).1
  obtain ⟨g1, c1, he, _, _, cells, hc⟩ := Kd.R_form q5 (by decide)
  injection he with h1 h2 h3
  injection h1 with h1
  injection h1 with h1
  subst h1
  have hB : Below w.heap.size w (((((wm.setCell ⟨go, 43, none⟩ (.int .i64 100)).setCell ⟨go, 44, none⟩ (.int .i64 40)).setCell ⟨go, 45, none⟩ (.int .i64 30)).setCell ⟨go, 49, none⟩ (.int .i64 50)).setCell ⟨go, 51, none⟩ (.int .i64 40)) := (((((hb.setCell (p := ⟨go, 43, none⟩) gb _).setCell (p := ⟨go, 44, none⟩) gb _).setCell (p := ⟨go, 45, none⟩) gb _).setCell (p := ⟨go, 49, none⟩) gb _).setCell (p := ⟨go, 51, none⟩) gb _)
  refine ⟨.cells cells 3 (0, 0), ⟨⟨hB, ?_⟩, List.pairwise_singleton _ _⟩, (Kd.R_reads' q5).2.1, ?_⟩
  · intro p hp
    rcases List.mem_cons.1 hp with rfl | hp
    · exact ⟨hc, gb⟩
    · simp at hp
  · intro W' hW
    exact Kd.R_F (Kd.R_tight rfl q5) W' (fun k hk _ => by
      have : k = go := by simpa [Value.ownBlock] using hk
      subst this
      exact hW.trans hc.symm)
theorem bar_font {W : World} {go co : Nat} (hco : 56 ≤ co) (h : Kd.C (Kd.int .i64) W (some ⟨go, 0, none⟩) 56 barL) : FontIn W barF [.int .i64 1000, .int .i64 1, .int .i64 1, .int .i64 0, .int .i64 0, .bool false, .slice none 0 0, .slice none 0 0, .slice none 0 0, .slice (some ⟨go, 0, none⟩) 56 co, .slice none 0 0, .slice none 0 0, .slice none 0 0, .slice none 0 0, .int .i64 0, .slice none 0 0, .slice none 0 0] :=
  ⟨none, 0, none, 0, none, 0, some ⟨go, 0, none⟩, co, none, 0, none, 0, none, 0, none, 0, none, 0, none, 0, rfl, Nat.le_refl _, ⟨rfl, Nat.zero_le _, fun h => absurd h (Nat.lt_irrefl 0)⟩, Nat.le_refl _, ⟨rfl, Nat.zero_le _, fun h => absurd h (Nat.lt_irrefl 0)⟩, Nat.le_refl _, ⟨rfl, Nat.zero_le _, fun h => absurd h (Nat.lt_irrefl 0)⟩, hco, h, Nat.le_refl _, ⟨rfl, Nat.zero_le _, fun h => absurd h (Nat.lt_irrefl 0)⟩, Nat.le_refl _, ⟨rfl, Nat.zero_le _, fun h => absurd h (Nat.lt_irrefl 0)⟩, Nat.le_refl _, ⟨rfl, Nat.zero_le _, fun h => absurd h (Nat.lt_irrefl 0)⟩, Nat.le_refl _, ⟨rfl, Nat.zero_le _, fun h => absurd h (Nat.lt_irrefl 0)⟩, Nat.le_refl _, ⟨rfl, Nat.zero_le _, fun h => absurd h (Nat.lt_irrefl 0)⟩, Nat.le_refl _, ⟨rfl, Nat.zero_le _, fun h => absurd h (Nat.lt_irrefl 0)⟩⟩
end Go.Proofs.Ytbhljokhcmfgjaa.P
