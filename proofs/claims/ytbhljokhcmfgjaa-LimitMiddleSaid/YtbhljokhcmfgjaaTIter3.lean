import Derived.Test.YtbhljokhcmfgjaaTIter2
/- box.all's iterator: what it hands over, all of it, by the size of the box. -/
set_option linter.unusedVariables false
set_option linter.unusedSimpArgs false
namespace Go.Proofs.Ytbhljokhcmfgjaa.P
open Go.RowKit Go.Shelf Go.Proofs.YtbhljokhcmfgjaaW.PrintWords Go.Proofs.YtbhljokhcmfgjaaW.PrintLast Go.Proofs.YtbhljokhcmfgjaaW.PrintMore

/-- A box and all in it, in order, each at its place and depth; m: more than the box's size. -/
def flatF : Nat → Int → Int → Int → S25 → List (Int × Int × Int × S25)
  | 0, _, _, _, _ => []
  | m + 1, x, y, d, b => (x, y, d, b) :: (b.f6.map fun k => flatF m (wrap64 (x + k.f0)) (wrap64 (y + k.f1)) (wrap64 (d + 1)) k.f2).flatten
def Fnd.item {w0 : World} (f : Fnd w0) : Int × Int × Int × S25 := (f.x, f.y, f.d, f.b)
theorem kid_lt (b : S25) (k : S41) (hk : k ∈ b.f6) : SizeOf.sizeOf k.f2 < SizeOf.sizeOf b := by
  obtain ⟨i, hi, rfl⟩ := List.getElem_of_mem hk
  exact size_kid b i hi
theorem flatF_all (Q : S25 → Prop) : ∀ (m : Nat) (x y d : Int) (b : S25), SizeOf.sizeOf b < m → ((∀ it ∈ flatF m x y d b, Q it.2.2.2) ↔ AllP Q b)
  | 0, _, _, _, _, h => absurd h (Nat.not_lt_zero _)
  | m + 1, x, y, d, b, h => by
    constructor
    · intro hq
      refine .mk b (hq (x, y, d, b) (by simp [flatF])) fun k hk => (flatF_all Q m (wrap64 (x + k.f0)) (wrap64 (y + k.f1)) (wrap64 (d + 1)) k.f2 (by have := kid_lt b k hk; omega)).1 fun it hit => hq it ?_
      exact List.mem_cons_of_mem _ (List.mem_flatten.2 ⟨_, List.mem_map.2 ⟨k, hk, rfl⟩, hit⟩)
    · intro ha it hit
      rcases List.mem_cons.1 hit with rfl | hit
      · exact ha.own
      · obtain ⟨l, hl, hil⟩ := List.mem_flatten.1 hit
        obtain ⟨k, hk, rfl⟩ := List.mem_map.1 hl
        exact (flatF_all Q m _ _ _ k.f2 (by have := kid_lt b k hk; omega)).2 (ha.kids k hk) it hil

/-- What is told of an iterator of f. -/
def IterOf (w0 : World) (f : Fnd w0) (L : List (Fnd w0)) : Prop := ∀ (gb : Nat) (w₁ : World) (n : Nat), Below w0.heap.size w0 w₁ → w0.heap.size ≤ gb → w₁.heap[gb]? = some (.cells f.cells 94 (0, 0)) → IterOK Fence.wide n Try.prog 93 #[.pointer (some ⟨gb, 0, none⟩)] (fun x : Fnd w0 => #[.agg x.cells]) w0.heap.size gb L w₁

theorem all1_iter (w0 : World) : ∀ (m : Nat) (f : Fnd w0), SizeOf.sizeOf f.b < m → ∃ L : List (Fnd w0), L.map Fnd.item = flatF m f.x f.y f.d f.b ∧ IterOf w0 f L
  | 0, _, h => absurd h (Nat.not_lt_zero _)
  | m + 1, f, h => by
    have one : ∀ i : Nat, ∃ p : Fnd w0 × List (Fnd w0), ∀ hi : i < f.b.f6.length, (p.1.x = wrap64 (f.x + f.b.f6[i].f0) ∧ p.1.y = wrap64 (f.y + f.b.f6[i].f1) ∧ p.1.d = wrap64 (f.d + 1) ∧ p.1.b = f.b.f6[i].f2 ∧ ∃ ad, f.A = some ad ∧ ∀ W : World, Below w0.heap.size w0 W → W.cell? (ad.add (i * 9)) = some (.int .i64 f.b.f6[i].f0) ∧ W.cell? ⟨(ad.add (i * 9)).block, (ad.add (i * 9)).off + 1, none⟩ = some (.int .i64 f.b.f6[i].f1) ∧ W.cell? ⟨(ad.add (i * 9)).block, (ad.add (i * 9)).off + 2, none⟩ = some (.int .i64 f.b.f6[i].f2.f0) ∧ W.cell? ⟨(ad.add (i * 9)).block, (ad.add (i * 9)).off + 3, none⟩ = some (.int .i64 f.b.f6[i].f2.f1) ∧ W.cell? ⟨(ad.add (i * 9)).block, (ad.add (i * 9)).off + 4, none⟩ = some (.int .i64 f.b.f6[i].f2.f2) ∧ W.cell? ⟨(ad.add (i * 9)).block, (ad.add (i * 9)).off + 5, none⟩ = some (.int .i64 f.b.f6[i].f2.f3) ∧ W.cell? ⟨(ad.add (i * 9)).block, (ad.add (i * 9)).off + 6, none⟩ = some (.int .i64 f.b.f6[i].f2.f4) ∧ W.cell? ⟨(ad.add (i * 9)).block, (ad.add (i * 9)).off + 7, none⟩ = some (.int .i64 f.b.f6[i].f2.f5) ∧ W.cell? ⟨(ad.add (i * 9)).block, (ad.add (i * 9)).off + 8, none⟩ = some (.slice p.1.A f.b.f6[i].f2.f6.length p.1.n)) ∧ p.2.map Fnd.item = flatF m (wrap64 (f.x + f.b.f6[i].f0)) (wrap64 (f.y + f.b.f6[i].f1)) (wrap64 (f.d + 1)) f.b.f6[i].f2 ∧ IterOf w0 p.1 p.2 := by
      intro i
      by_cases hi : i < f.b.f6.length
      · obtain ⟨ad, A8, c8, hA, hl, hc, hW⟩ := kid_keep f.hC i hi
        obtain ⟨L, hL, hit⟩ := all1_iter w0 m ⟨wrap64 (f.x + f.b.f6[i].f0), wrap64 (f.y + f.b.f6[i].f1), wrap64 (f.d + 1), f.b.f6[i].f2, A8, c8, hl, hc⟩ (by have := size_kid f.b i hi; show SizeOf.sizeOf f.b.f6[i].f2 < m; omega)
        exact ⟨(_, L), fun _ => ⟨⟨rfl, rfl, rfl, rfl, ad, hA, hW⟩, hL, hit⟩⟩
      · exact ⟨(f, []), fun h => absurd h hi⟩
    obtain ⟨fs, hfs⟩ := Classical.axiomOfChoice one
    refine ⟨f :: ((List.range f.b.f6.length).map fun i => (fs i).2).flatten, ?_, fun gb w₁ n hb hgb hg => ?_⟩
    · show f.item :: _ = _
      unfold flatF Fnd.item
      congr 1
      rw [List.map_flatten]
      congr 1
      refine List.ext_getElem (by simp) fun i h1 h2 => ?_
      have hi : i < f.b.f6.length := by simpa using h1
      have h3 := (hfs i hi).2.1
      simp only [List.getElem_map, List.getElem_range]
      exact h3
    · refine all1_step w0 f _ (fun i => (fs i).1) (by simp) (fun i hi => (hfs i hi).1) (fun i hi gb2 w2 n2 h1 h2 h3 => ?_) gb w₁ n hb hgb hg
      have hi' : i < f.b.f6.length := by simpa using hi
      have h4 := (hfs i hi').2.2 gb2 w2 n2 h1 h2 h3
      simpa [List.getElem_map, List.getElem_range] using h4
end Go.Proofs.Ytbhljokhcmfgjaa.P
