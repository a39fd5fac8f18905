import Derived.Test.YtbhljokhcmfgjaaGreatK2
import Derived.Test.YtbhljokhcmfgjaaGreatE7
import Derived.Deep.RegionHeld3
import Derived.Test.YtbhljokhcmfgjaaGreatE9
import Derived.Test.YtbhljokhcmfgjaaGreatE11
import Derived.KernelRfl
/- What the texts behind need of this work's joined texts. -/
set_option linter.unusedVariables false
set_option linter.unusedSimpArgs false
set_option linter.unusedVariables false
set_option linter.unusedSimpArgs false
namespace Go.Proofs.YtbhljokhcmfgjaaGreat.P
open Go.RowKit Go.Proofs.YtbhljokhcmfgjaaGreatW.PrintWords Go.Proofs.YtbhljokhcmfgjaaGreatW.PrintLast Go.Proofs.YtbhljokhcmfgjaaGreatW.PrintMore
set_option linter.unusedVariables false
set_option linter.unusedSimpArgs false
def lens (x : S39) : Bool := [x.f1, x.f2, x.f3].all isLen
def needE : List S39 → Int → Int
  | [], e => e
  | x :: l, e => needE l (if lens x = true then e else if e = 0 then 1 else e)
end Go.Proofs.YtbhljokhcmfgjaaGreat.P
namespace Go.Proofs.YtbhljokhcmfgjaaGreat.P
open Go.RowKit Go.Proofs.YtbhljokhcmfgjaaGreatW.PrintWords
set_option linter.unusedVariables false
def konstV (F : S36) (k c z : Int) : Int × Int := (style_Konst.f 3 F.f0.f0 F.f0.f1 F.f0.f2 F.f0.f3 F.f0.f4 F.f0.f5 F.f1 F.f2 F.f3 F.f4.f0 F.f4.f1 F.f4.f2 F.f4.f3 F.f4.f4 F.f4.f5.f0 F.f4.f5.f1 F.f4.f5.f2 k c z).getD (0, 0)
theorem konstV_eq (F : S36) (k c z : Int) : style_Konst.f 3 F.f0.f0 F.f0.f1 F.f0.f2 F.f0.f3 F.f0.f4 F.f0.f5 F.f1 F.f2 F.f3 F.f4.f0 F.f4.f1 F.f4.f2 F.f4.f3 F.f4.f4 F.f4.f5.f0 F.f4.f5.f1 F.f4.f5.f2 k c z = some (konstV F k c z) := by
  obtain ⟨v, e, h⟩ := konst_total F.f0.f0 F.f0.f1 F.f0.f2 F.f0.f3 F.f0.f4 F.f0.f5 F.f1 F.f2 F.f3 F.f4.f0 F.f4.f1 F.f4.f2 F.f4.f3 F.f4.f4 F.f4.f5.f0 F.f4.f5.f1 F.f4.f5.f2 k c z 3 (Nat.le_refl _)
  rw [konstV, h]
  rfl
/-- What is kept: the number, and the first error. -/
def keepV (e : Int) (r : Int × Int) : Int × Int := (if e = 0 ∧ r.2 = 0 then r.1 else 0, if e = 0 then r.2 else e)
/-- A box of others, or the error that was kept. -/
def setV (e wd : Int) (l : List S67) : Int × Int × Int × Int × Int × Int × List S67 × Int := if e = 0 then setR wd l else (0, 0, 0, 0, 0, 0, [], e)
end Go.Proofs.YtbhljokhcmfgjaaGreat.P
namespace Go.Proofs.YtbhljokhcmfgjaaGreat.P
open Go.RowKit Go.Proofs.YtbhljokhcmfgjaaGreatW.PrintWords Go.Proofs.YtbhljokhcmfgjaaGreatW.PrintMore
abbrev BoxV := Int × Int × Int × Int × Int × Int × List S67 × Int
end Go.Proofs.YtbhljokhcmfgjaaGreat.P
namespace Go.Proofs.YtbhljokhcmfgjaaGreat.P
open Go.RowKit Go.Proofs.YtbhljokhcmfgjaaGreatW.PrintWords Go.Proofs.YtbhljokhcmfgjaaGreatW.PrintLast Go.Proofs.YtbhljokhcmfgjaaGreatW.PrintMore
set_option linter.unusedVariables false
set_option linter.unusedSimpArgs false
theorem flat_get (sz : Nat) : ∀ (css : List (List Value)), (∀ c ∈ css, c.length = sz) → ∀ (j i : Nat) (c : List Value) (u : Value), css[j]? = some c → c[i]? = some u → css.flatten[j * sz + i]? = some u
  | [], _, j, i, c, u, h, _ => by simp at h
  | d :: css, hl, 0, i, c, u, h, hu => by
    simp only [List.getElem?_cons_zero, Option.some.injEq] at h
    subst h
    have hi : i < d.length := (List.getElem?_eq_some_iff.1 hu).1
    rw [Nat.zero_mul, Nat.zero_add, List.flatten_cons, List.getElem?_append_left hi]
    exact hu
  | d :: css, hl, j + 1, i, c, u, h, hu => by
    have hd : d.length = sz := hl d (by simp)
    rw [List.getElem?_cons_succ] at h
    have hge : d.length ≤ (j + 1) * sz + i := by rw [Nat.succ_mul]; omega
    rw [List.flatten_cons, List.getElem?_append_right hge, show (j + 1) * sz + i - d.length = j * sz + i by rw [Nat.succ_mul]; omega]
    exact flat_get sz css (fun c hc => hl c (by simp [hc])) j i c u h hu
/-- Each element's cells. -/
def Each {α : Type} (R : α → List Value → Prop) : List α → List (List Value) → Prop
  | [], [] => True
  | x :: xs, c :: css => R x c ∧ Each R xs css
  | _, _ => False
theorem Each.imp {α : Type} {R R' : α → List Value → Prop} (hR : ∀ x c, R x c → R' x c) : ∀ {xs : List α} {css : List (List Value)}, Each R xs css → Each R' xs css
  | [], [], _ => trivial
  | _ :: _, _ :: _, h => ⟨hR _ _ h.1, Each.imp hR h.2⟩
theorem Each.get {α : Type} {R : α → List Value → Prop} : ∀ {xs : List α} {css : List (List Value)}, Each R xs css → ∀ (j : Nat) (p : α), xs[j]? = some p → ∃ c, css[j]? = some c ∧ R p c
  | [], [], _, j, p, h => by simp at h
  | x :: xs, c :: css, h, 0, p, hp => by
    simp only [List.getElem?_cons_zero, Option.some.injEq] at hp
    subst hp
    exact ⟨c, rfl, h.1⟩
  | x :: xs, c :: css, h, j + 1, p, hp => by
    rw [List.getElem?_cons_succ] at hp ⊢
    exact Each.get h.2 j p hp
theorem Each.lens {α : Type} {d : Kd α} {w : World} : ∀ {xs : List α} {css : List (List Value)}, Each (d.K w) xs css → ∀ c ∈ css, c.length = d.sz
  | [], [], _, c, hc => by simp at hc
  | x :: xs, e :: css, h, c, hc => by
    rcases List.mem_cons.1 hc with rfl | hc
    · exact d.K_len h.1
    · exact Each.lens h.2 c hc
theorem row_C {α : Type} {d : Kd α} {w : World} {b : Nat} {e : TypeId} {xs : List α} {css : List (List Value)} (hK : Each (d.K w) xs css) (hb : w.heap[b]? = some (.cells css.flatten.toArray e (0, 0))) (hl : xs.length ≤ 9223372036854775807) : d.C w (some ⟨b, 0, none⟩) xs.length xs := by
  refine ⟨rfl, hl, fun _ => ⟨_, rfl, fun j p hp => ?_⟩⟩
  obtain ⟨c, hc, hk⟩ := hK.get j p hp
  refine ⟨c, d.K_len hk, hk, fun i u hu => ?_⟩
  have h := flat_get d.sz css hK.lens j i c u hc hu
  have ha : (⟨b, 0, none⟩ : Addr).add (j * d.sz + i) = ⟨b, j * d.sz + i, none⟩ := by
    unfold Addr.add
    split
    · next h => rw [h]
    · simp
  rw [ha, blk_cell hb]
  simpa using h
theorem alloc_last (w : World) (o : Obj) : (w.alloc o).heap[w.heap.size]? = some o := by
  show (w.heap.push o)[w.heap.size]? = _
  simp
theorem alloc_size (w : World) (o : Obj) : (w.alloc o).heap.size = w.heap.size + 1 := by
  show (w.heap.push o).size = _
  simp
def FontIn (w : World) (F : S36) (cs : List Value) : Prop := ∃ A6 c6, ∃ A7 c7, ∃ A8 c8, ∃ A9 c9, ∃ A10 c10, ∃ A11 c11, ∃ A12 c12, ∃ A13 c13, ∃ A15 c15, ∃ A16 c16, cs = [.int .i64 F.f0.f0, .int .i64 F.f0.f1, .int .i64 F.f0.f2, .int .i64 F.f0.f3, .int .i64 F.f0.f4, .bool F.f0.f5, .slice A6 F.f1.length c6, .slice A7 F.f2.length c7, .slice A8 F.f3.length c8, .slice A9 F.f4.f0.length c9, .slice A10 F.f4.f1.length c10, .slice A11 F.f4.f2.length c11, .slice A12 F.f4.f3.length c12, .slice A13 F.f4.f4.length c13, .int .i64 F.f4.f5.f0, .slice A15 F.f4.f5.f1.length c15, .slice A16 F.f4.f5.f2.length c16] ∧ F.f1.length ≤ c6 ∧ Kd.C k159 w A6 F.f1.length F.f1 ∧ F.f2.length ≤ c7 ∧ Kd.C k161 w A7 F.f2.length F.f2 ∧ F.f3.length ≤ c8 ∧ Kd.C k118 w A8 F.f3.length F.f3 ∧ F.f4.f0.length ≤ c9 ∧ Kd.C (Kd.int .i64) w A9 F.f4.f0.length F.f4.f0 ∧ F.f4.f1.length ≤ c10 ∧ Kd.C k77 w A10 F.f4.f1.length F.f4.f1 ∧ F.f4.f2.length ≤ c11 ∧ Kd.C k77 w A11 F.f4.f2.length F.f4.f2 ∧ F.f4.f3.length ≤ c12 ∧ Kd.C (Kd.int .i64) w A12 F.f4.f3.length F.f4.f3 ∧ F.f4.f4.length ≤ c13 ∧ Kd.C k121 w A13 F.f4.f4.length F.f4.f4 ∧ F.f4.f5.f1.length ≤ c15 ∧ Kd.C k133 w A15 F.f4.f5.f1.length F.f4.f5.f1 ∧ F.f4.f5.f2.length ≤ c16 ∧ Kd.C k133 w A16 F.f4.f5.f2.length F.f4.f5.f2
theorem FontIn.heap {w W : World} {F : S36} {cs : List Value} (h : FontIn w F cs) (hb : Below w.heap.size w W) : FontIn W F cs := by
  obtain ⟨A6, c6, A7, c7, A8, c8, A9, c9, A10, c10, A11, c11, A12, c12, A13, c13, A15, c15, A16, c16, hc, l6, g6, l7, g7, l8, g8, l9, g9, l10, g10, l11, g11, l12, g12, l13, g13, l15, g15, l16, g16⟩ := h
  exact ⟨A6, c6, A7, c7, A8, c8, A9, c9, A10, c10, A11, c11, A12, c12, A13, c13, A15, c15, A16, c16, hc, l6, Kd.C_below g6 hb, l7, Kd.C_below g7 hb, l8, Kd.C_below g8 hb, l9, Kd.C_below g9 hb, l10, Kd.C_below g10 hb, l11, Kd.C_below g11 hb, l12, Kd.C_below g12 hb, l13, Kd.C_below g13 hb, l15, Kd.C_below g15 hb, l16, Kd.C_below g16 hb⟩
theorem box_cells {W : World} {b : Nat} {x : S39} {v : Value} {t : TypeId} (h : W.heap[b]? = some (.cells #[.int .i64 x.f0, .int .i64 x.f1, .int .i64 x.f2, .int .i64 x.f3, .int .i64 x.f4, .int .i64 x.f5, v] t (0, 0))) :
    W.cell? ⟨b, 0, none⟩ = some (.int .i64 x.f0) ∧ W.cell? ⟨b, 1, none⟩ = some (.int .i64 x.f1) ∧ W.cell? ⟨b, 2, none⟩ = some (.int .i64 x.f2) ∧ W.cell? ⟨b, 3, none⟩ = some (.int .i64 x.f3) ∧ W.cell? ⟨b, 4, none⟩ = some (.int .i64 x.f4) ∧ W.cell? ⟨b, 5, none⟩ = some (.int .i64 x.f5) ∧ W.cell? ⟨b, 6, none⟩ = some v :=
  ⟨blk_cell h 0, blk_cell h 1, blk_cell h 2, blk_cell h 3, blk_cell h 4, blk_cell h 5, blk_cell h 6⟩
theorem cells7 {W : World} {b : Nat} {v0 v1 v2 v3 v4 v5 v6 : Value} {t : TypeId} (h : W.heap[b]? = some (.cells #[v0, v1, v2, v3, v4, v5, v6] t (0, 0))) :
    W.cell? ⟨b, 0, none⟩ = some v0 ∧ W.cell? ⟨b, 1, none⟩ = some v1 ∧ W.cell? ⟨b, 2, none⟩ = some v2 ∧ W.cell? ⟨b, 3, none⟩ = some v3 ∧ W.cell? ⟨b, 4, none⟩ = some v4 ∧ W.cell? ⟨b, 5, none⟩ = some v5 ∧ W.cell? ⟨b, 6, none⟩ = some v6 :=
  ⟨blk_cell h 0, blk_cell h 1, blk_cell h 2, blk_cell h 3, blk_cell h 4, blk_cell h 5, blk_cell h 6⟩
theorem cells17 {W : World} {b : Nat} {v0 v1 v2 v3 v4 v5 v6 v7 v8 v9 v10 v11 v12 v13 v14 v15 v16 : Value} {t : TypeId} (h : W.heap[b]? = some (.cells #[v0, v1, v2, v3, v4, v5, v6, v7, v8, v9, v10, v11, v12, v13, v14, v15, v16] t (0, 0))) :
    W.cell? ⟨b, 0, none⟩ = some v0 ∧ W.cell? ⟨b, 1, none⟩ = some v1 ∧ W.cell? ⟨b, 2, none⟩ = some v2 ∧ W.cell? ⟨b, 3, none⟩ = some v3 ∧ W.cell? ⟨b, 4, none⟩ = some v4 ∧ W.cell? ⟨b, 5, none⟩ = some v5 ∧ W.cell? ⟨b, 6, none⟩ = some v6 ∧ W.cell? ⟨b, 7, none⟩ = some v7 ∧ W.cell? ⟨b, 8, none⟩ = some v8 ∧ W.cell? ⟨b, 9, none⟩ = some v9 ∧ W.cell? ⟨b, 10, none⟩ = some v10 ∧ W.cell? ⟨b, 11, none⟩ = some v11 ∧ W.cell? ⟨b, 12, none⟩ = some v12 ∧ W.cell? ⟨b, 13, none⟩ = some v13 ∧ W.cell? ⟨b, 14, none⟩ = some v14 ∧ W.cell? ⟨b, 15, none⟩ = some v15 ∧ W.cell? ⟨b, 16, none⟩ = some v16 :=
  ⟨blk_cell h 0, blk_cell h 1, blk_cell h 2, blk_cell h 3, blk_cell h 4, blk_cell h 5, blk_cell h 6, blk_cell h 7, blk_cell h 8, blk_cell h 9, blk_cell h 10, blk_cell h 11, blk_cell h 12, blk_cell h 13, blk_cell h 14, blk_cell h 15, blk_cell h 16⟩
theorem froz7 {W : World} {b : Nat} {v0 v1 v2 v3 v4 v5 v6 : Value} {t : TypeId} (h : W.heap[b]? = some (.cells #[v0, v1, v2, v3, v4, v5, v6] t (0, 0))) :
    W.frozen? ⟨b, 0, none⟩ = false ∧ W.frozen? ⟨b, 1, none⟩ = false ∧ W.frozen? ⟨b, 2, none⟩ = false ∧ W.frozen? ⟨b, 3, none⟩ = false ∧ W.frozen? ⟨b, 4, none⟩ = false ∧ W.frozen? ⟨b, 5, none⟩ = false ∧ W.frozen? ⟨b, 6, none⟩ = false :=
  ⟨blk_frozen h 0, blk_frozen h 1, blk_frozen h 2, blk_frozen h 3, blk_frozen h 4, blk_frozen h 5, blk_frozen h 6⟩
theorem far7 (w : World) {b q : Nat} (hne : b ≠ q) {v0 v1 v2 v3 v4 v5 v6 : Value} : (((((((w.setCell ⟨q, 0, none⟩ v0).setCell ⟨q, 1, none⟩ v1).setCell ⟨q, 2, none⟩ v2).setCell ⟨q, 3, none⟩ v3).setCell ⟨q, 4, none⟩ v4).setCell ⟨q, 5, none⟩ v5).setCell ⟨q, 6, none⟩ v6).heap[b]? = w.heap[b]? :=
  (Below.heap_setCell _ ⟨q, 6, none⟩ v6 b hne).trans ((Below.heap_setCell _ ⟨q, 5, none⟩ v5 b hne).trans ((Below.heap_setCell _ ⟨q, 4, none⟩ v4 b hne).trans ((Below.heap_setCell _ ⟨q, 3, none⟩ v3 b hne).trans ((Below.heap_setCell _ ⟨q, 2, none⟩ v2 b hne).trans ((Below.heap_setCell _ ⟨q, 1, none⟩ v1 b hne).trans (Below.heap_setCell _ ⟨q, 0, none⟩ v0 b hne))))))
theorem put7 {w : World} {q : Nat} {t : TypeId} {u0 u1 u2 u3 u4 u5 u6 : Value} (h : w.heap[q]? = some (.cells #[u0, u1, u2, u3, u4, u5, u6] t (0, 0))) {v0 v1 v2 v3 v4 v5 v6 : Value} : (((((((w.setCell ⟨q, 0, none⟩ v0).setCell ⟨q, 1, none⟩ v1).setCell ⟨q, 2, none⟩ v2).setCell ⟨q, 3, none⟩ v3).setCell ⟨q, 4, none⟩ v4).setCell ⟨q, 5, none⟩ v5).setCell ⟨q, 6, none⟩ v6).heap[q]? = some (.cells #[v0, v1, v2, v3, v4, v5, v6] t (0, 0)) :=
  blk_put (cs := #[v0, v1, v2, v3, v4, v5, u6]) (blk_put (cs := #[v0, v1, v2, v3, v4, u5, u6]) (blk_put (cs := #[v0, v1, v2, v3, u4, u5, u6]) (blk_put (cs := #[v0, v1, v2, u3, u4, u5, u6]) (blk_put (cs := #[v0, v1, u2, u3, u4, u5, u6]) (blk_put (cs := #[v0, u1, u2, u3, u4, u5, u6]) (blk_put (cs := #[u0, u1, u2, u3, u4, u5, u6]) (h) 0 v0 rfl) 1 v1 rfl) 2 v2 rfl) 3 v3 rfl) 4 v4 rfl) 5 v5 rfl) 6 v6 rfl
theorem bel7 {a w : World} {B q : Nat} (h : Below B a w) (hq : B ≤ q) {v0 v1 v2 v3 v4 v5 v6 : Value} : Below B a (((((((w.setCell ⟨q, 0, none⟩ v0).setCell ⟨q, 1, none⟩ v1).setCell ⟨q, 2, none⟩ v2).setCell ⟨q, 3, none⟩ v3).setCell ⟨q, 4, none⟩ v4).setCell ⟨q, 5, none⟩ v5).setCell ⟨q, 6, none⟩ v6) :=
  Below.setCell (Below.setCell (Below.setCell (Below.setCell (Below.setCell (Below.setCell (Below.setCell (h) (p := ⟨q, 0, none⟩) hq v0) (p := ⟨q, 1, none⟩) hq v1) (p := ⟨q, 2, none⟩) hq v2) (p := ⟨q, 3, none⟩) hq v3) (p := ⟨q, 4, none⟩) hq v4) (p := ⟨q, 5, none⟩) hq v5) (p := ⟨q, 6, none⟩) hq v6
theorem far9 (w : World) {b q : Nat} (hne : b ≠ q) {v0 v1 v2 v3 v4 v5 v6 v7 v8 : Value} : (((((((((w.setCell ⟨q, 0, none⟩ v0).setCell ⟨q, 1, none⟩ v1).setCell ⟨q, 2, none⟩ v2).setCell ⟨q, 3, none⟩ v3).setCell ⟨q, 4, none⟩ v4).setCell ⟨q, 5, none⟩ v5).setCell ⟨q, 6, none⟩ v6).setCell ⟨q, 7, none⟩ v7).setCell ⟨q, 8, none⟩ v8).heap[b]? = w.heap[b]? :=
  (Below.heap_setCell _ ⟨q, 8, none⟩ v8 b hne).trans ((Below.heap_setCell _ ⟨q, 7, none⟩ v7 b hne).trans ((Below.heap_setCell _ ⟨q, 6, none⟩ v6 b hne).trans ((Below.heap_setCell _ ⟨q, 5, none⟩ v5 b hne).trans ((Below.heap_setCell _ ⟨q, 4, none⟩ v4 b hne).trans ((Below.heap_setCell _ ⟨q, 3, none⟩ v3 b hne).trans ((Below.heap_setCell _ ⟨q, 2, none⟩ v2 b hne).trans ((Below.heap_setCell _ ⟨q, 1, none⟩ v1 b hne).trans (Below.heap_setCell _ ⟨q, 0, none⟩ v0 b hne))))))))
theorem put9 {w : World} {q : Nat} {t : TypeId} {u0 u1 u2 u3 u4 u5 u6 u7 u8 : Value} (h : w.heap[q]? = some (.cells #[u0, u1, u2, u3, u4, u5, u6, u7, u8] t (0, 0))) {v0 v1 v2 v3 v4 v5 v6 v7 v8 : Value} : (((((((((w.setCell ⟨q, 0, none⟩ v0).setCell ⟨q, 1, none⟩ v1).setCell ⟨q, 2, none⟩ v2).setCell ⟨q, 3, none⟩ v3).setCell ⟨q, 4, none⟩ v4).setCell ⟨q, 5, none⟩ v5).setCell ⟨q, 6, none⟩ v6).setCell ⟨q, 7, none⟩ v7).setCell ⟨q, 8, none⟩ v8).heap[q]? = some (.cells #[v0, v1, v2, v3, v4, v5, v6, v7, v8] t (0, 0)) :=
  blk_put (cs := #[v0, v1, v2, v3, v4, v5, v6, v7, u8]) (blk_put (cs := #[v0, v1, v2, v3, v4, v5, v6, u7, u8]) (blk_put (cs := #[v0, v1, v2, v3, v4, v5, u6, u7, u8]) (blk_put (cs := #[v0, v1, v2, v3, v4, u5, u6, u7, u8]) (blk_put (cs := #[v0, v1, v2, v3, u4, u5, u6, u7, u8]) (blk_put (cs := #[v0, v1, v2, u3, u4, u5, u6, u7, u8]) (blk_put (cs := #[v0, v1, u2, u3, u4, u5, u6, u7, u8]) (blk_put (cs := #[v0, u1, u2, u3, u4, u5, u6, u7, u8]) (blk_put (cs := #[u0, u1, u2, u3, u4, u5, u6, u7, u8]) (h) 0 v0 rfl) 1 v1 rfl) 2 v2 rfl) 3 v3 rfl) 4 v4 rfl) 5 v5 rfl) 6 v6 rfl) 7 v7 rfl) 8 v8 rfl
theorem bel9 {a w : World} {B q : Nat} (h : Below B a w) (hq : B ≤ q) {v0 v1 v2 v3 v4 v5 v6 v7 v8 : Value} : Below B a (((((((((w.setCell ⟨q, 0, none⟩ v0).setCell ⟨q, 1, none⟩ v1).setCell ⟨q, 2, none⟩ v2).setCell ⟨q, 3, none⟩ v3).setCell ⟨q, 4, none⟩ v4).setCell ⟨q, 5, none⟩ v5).setCell ⟨q, 6, none⟩ v6).setCell ⟨q, 7, none⟩ v7).setCell ⟨q, 8, none⟩ v8) :=
  Below.setCell (Below.setCell (Below.setCell (Below.setCell (Below.setCell (Below.setCell (Below.setCell (Below.setCell (Below.setCell (h) (p := ⟨q, 0, none⟩) hq v0) (p := ⟨q, 1, none⟩) hq v1) (p := ⟨q, 2, none⟩) hq v2) (p := ⟨q, 3, none⟩) hq v3) (p := ⟨q, 4, none⟩) hq v4) (p := ⟨q, 5, none⟩) hq v5) (p := ⟨q, 6, none⟩) hq v6) (p := ⟨q, 7, none⟩) hq v7) (p := ⟨q, 8, none⟩) hq v8
section
variable {w W W1 : World} {g : Nat} {F : S36} {c z e e1 : Int} {L : List (Nat × Obj)}
/-- Before the builder: what is below, the blocks so far. -/
structure Pre (w W : World) (L : List (Nat × Obj)) : Prop where
  bel : Below w.heap.size w W
  loc : ∀ p ∈ L, W.heap[p.1]? = some p.2 ∧ w.heap.size ≤ p.1
theorem Pre.start (w : World) : Pre w w [] := ⟨Below.refl _ _, by simp⟩
theorem Pre.drew (h : Pre w W L) : Pre w W.drew L := ⟨h.bel.drew, h.loc⟩
theorem Pre.box (h : Pre w W L) {b : Nat} {o : Obj} (hg : b = W.heap.size) (hb : W1.heap[b]? = some o) (hB : Below W.heap.size W W1) : Pre w W1 ((b, o) :: L) :=
  ⟨below_step h.bel hB, fun p hp => by
    rcases List.mem_cons.1 hp with rfl | hp
    · exact ⟨hb, by have := h.bel.size; omega⟩
    · exact ⟨blk_below (h.loc p hp).1 hB, (h.loc p hp).2⟩⟩
theorem Pre.hd {b : Nat} {o : Obj} (h : Pre w W ((b, o) :: L)) : W.heap[b]? = some o := (h.loc (b, o) List.mem_cons_self).1
theorem Pre.tl {p : Nat × Obj} (h : Pre w W (p :: L)) : Pre w W L := ⟨h.bel, fun q hq => h.loc q (List.mem_cons_of_mem _ hq)⟩
/-- W1 is W with one block more (and draws). -/
def Lit (W : World) (o : Obj) (W1 : World) : Prop := Below (W.alloc o).heap.size (W.alloc o) W1
theorem Lit.refl (W : World) (o : Obj) : Lit W o (W.alloc o) := Below.refl _ _
theorem Lit.drew (W : World) (o : Obj) : Lit W o (W.alloc o).drew := (Below.refl _ _).drew
theorem Lit.size {o : Obj} (hB : Lit W o W1) : W.heap.size < W1.heap.size := by
  have h1 := Below.size hB
  rw [alloc_size] at h1
  omega
end
end Go.Proofs.YtbhljokhcmfgjaaGreat.P
namespace Go.Proofs.YtbhljokhcmfgjaaGreat.P
open Go.RowKit Go.Proofs.YtbhljokhcmfgjaaGreatW.PrintWords Go.Proofs.YtbhljokhcmfgjaaGreatW.PrintLast Go.Proofs.YtbhljokhcmfgjaaGreatW.PrintMore
set_option linter.unusedVariables false
set_option linter.unusedSimpArgs false
theorem info_font : (Tryz.prog.info? 36).map (·.size) = some 17 := by kernel_rfl
end Go.Proofs.YtbhljokhcmfgjaaGreat.P
set_option linter.unusedVariables false
set_option linter.unusedSimpArgs false
namespace Go.Proofs.YtbhljokhcmfgjaaGreat.P
open Go.RowKit Go.Proofs.YtbhljokhcmfgjaaGreatW.PrintWords Go.Proofs.YtbhljokhcmfgjaaGreatW.PrintLast Go.Proofs.YtbhljokhcmfgjaaGreatW.PrintMore
set_option linter.unusedVariables false
set_option linter.unusedSimpArgs false
theorem Pre.below {w W W1 : World} {L : List (Nat × Obj)} (h : Pre w W L) (hB : Below W.heap.size W W1) : Pre w W1 L := ⟨below_step h.bel hB, fun p hp => ⟨blk_below (h.loc p hp).1 hB, (h.loc p hp).2⟩⟩
theorem konst_calls (w : World) (F : S36) (cs : List Value) (k c z : Int) (hF : FontIn w F cs) : Calls Tryz.prog 44 #[.agg cs.toArray, .int .i64 k, .int .i64 c, .int .i64 z] w fun r w' => r = .returned (.tuple #[.int .i64 (konstV F k c z).1, .int .i64 (konstV F k c z).2]) ∧ Below w.heap.size w w' := by
  obtain ⟨A6, c6, A7, c7, A8, c8, A9, c9, A10, c10, A11, c11, A12, c12, A13, c13, A15, c15, A16, c16, rfl, l6, g6, l7, g7, l8, g8, l9, g9, l10, g10, l11, g11, l12, g12, l13, g13, l15, g15, l16, g16⟩ := hF
  exact style_Konst.callsU 3 F.f0.f0 F.f0.f1 F.f0.f2 F.f0.f3 F.f0.f4 F.f0.f5 A6 c6 F.f1 A7 c7 F.f2 A8 c8 F.f3 A9 c9 F.f4.f0 A10 c10 F.f4.f1 A11 c11 F.f4.f2 A12 c12 F.f4.f3 A13 c13 F.f4.f4 F.f4.f5.f0 A15 c15 F.f4.f5.f1 A16 c16 F.f4.f5.f2 k c z _ _ w g6 g7 g8 g9 g10 g11 g12 g13 g15 g16 (konstV_eq F k c z)
theorem few23_calls (w : World) (x : S39) (hx : Ok39 x) (A : Option Addr) (n : Nat) (hl : x.f6.length ≤ n) (hC : Kd.C k67 w A x.f6.length x.f6) : Calls Tryz.prog 17 #[.agg #[.int .i64 x.f0, .int .i64 x.f1, .int .i64 x.f2, .int .i64 x.f3, .int .i64 x.f4, .int .i64 x.f5, .slice A x.f6.length n]] w fun r w' => ∃ b, r = .returned (.bool b) ∧ Below w.heap.size w w' := by
  obtain ⟨k, r, h⟩ := few23_total x hx
  exact (vinculumref23_Few.calls k x.f0 x.f1 x.f2 x.f3 x.f4 x.f5 A n x.f6 r w hC hl h).mono fun e w' hh => ⟨r, hh.1, hh.2⟩
end Go.Proofs.YtbhljokhcmfgjaaGreat.P
namespace Go.Proofs.YtbhljokhcmfgjaaGreat.P
open Go.RowKit Go.Proofs.YtbhljokhcmfgjaaGreatW.PrintWords Go.Proofs.YtbhljokhcmfgjaaGreatW.PrintLast Go.Proofs.YtbhljokhcmfgjaaGreatW.PrintMore
set_option linter.unusedVariables false
set_option linter.unusedSimpArgs false
theorem far17 (w : World) {b q : Nat} (hne : b ≠ q) {v0 v1 v2 v3 v4 v5 v6 v7 v8 v9 v10 v11 v12 v13 v14 v15 v16 : Value} : (((((((((((((((((w.setCell ⟨q, 0, none⟩ v0).setCell ⟨q, 1, none⟩ v1).setCell ⟨q, 2, none⟩ v2).setCell ⟨q, 3, none⟩ v3).setCell ⟨q, 4, none⟩ v4).setCell ⟨q, 5, none⟩ v5).setCell ⟨q, 6, none⟩ v6).setCell ⟨q, 7, none⟩ v7).setCell ⟨q, 8, none⟩ v8).setCell ⟨q, 9, none⟩ v9).setCell ⟨q, 10, none⟩ v10).setCell ⟨q, 11, none⟩ v11).setCell ⟨q, 12, none⟩ v12).setCell ⟨q, 13, none⟩ v13).setCell ⟨q, 14, none⟩ v14).setCell ⟨q, 15, none⟩ v15).setCell ⟨q, 16, none⟩ v16).heap[b]? = w.heap[b]? :=
  (Below.heap_setCell _ ⟨q, 16, none⟩ v16 b hne).trans ((Below.heap_setCell _ ⟨q, 15, none⟩ v15 b hne).trans ((Below.heap_setCell _ ⟨q, 14, none⟩ v14 b hne).trans ((Below.heap_setCell _ ⟨q, 13, none⟩ v13 b hne).trans ((Below.heap_setCell _ ⟨q, 12, none⟩ v12 b hne).trans ((Below.heap_setCell _ ⟨q, 11, none⟩ v11 b hne).trans ((Below.heap_setCell _ ⟨q, 10, none⟩ v10 b hne).trans ((Below.heap_setCell _ ⟨q, 9, none⟩ v9 b hne).trans ((Below.heap_setCell _ ⟨q, 8, none⟩ v8 b hne).trans ((Below.heap_setCell _ ⟨q, 7, none⟩ v7 b hne).trans ((Below.heap_setCell _ ⟨q, 6, none⟩ v6 b hne).trans ((Below.heap_setCell _ ⟨q, 5, none⟩ v5 b hne).trans ((Below.heap_setCell _ ⟨q, 4, none⟩ v4 b hne).trans ((Below.heap_setCell _ ⟨q, 3, none⟩ v3 b hne).trans ((Below.heap_setCell _ ⟨q, 2, none⟩ v2 b hne).trans ((Below.heap_setCell _ ⟨q, 1, none⟩ v1 b hne).trans (Below.heap_setCell _ ⟨q, 0, none⟩ v0 b hne))))))))))))))))
theorem put17 {w : World} {q : Nat} {t : TypeId} {u0 u1 u2 u3 u4 u5 u6 u7 u8 u9 u10 u11 u12 u13 u14 u15 u16 : Value} (h : w.heap[q]? = some (.cells #[u0, u1, u2, u3, u4, u5, u6, u7, u8, u9, u10, u11, u12, u13, u14, u15, u16] t (0, 0))) {v0 v1 v2 v3 v4 v5 v6 v7 v8 v9 v10 v11 v12 v13 v14 v15 v16 : Value} : (((((((((((((((((w.setCell ⟨q, 0, none⟩ v0).setCell ⟨q, 1, none⟩ v1).setCell ⟨q, 2, none⟩ v2).setCell ⟨q, 3, none⟩ v3).setCell ⟨q, 4, none⟩ v4).setCell ⟨q, 5, none⟩ v5).setCell ⟨q, 6, none⟩ v6).setCell ⟨q, 7, none⟩ v7).setCell ⟨q, 8, none⟩ v8).setCell ⟨q, 9, none⟩ v9).setCell ⟨q, 10, none⟩ v10).setCell ⟨q, 11, none⟩ v11).setCell ⟨q, 12, none⟩ v12).setCell ⟨q, 13, none⟩ v13).setCell ⟨q, 14, none⟩ v14).setCell ⟨q, 15, none⟩ v15).setCell ⟨q, 16, none⟩ v16).heap[q]? = some (.cells #[v0, v1, v2, v3, v4, v5, v6, v7, v8, v9, v10, v11, v12, v13, v14, v15, v16] t (0, 0)) :=
  blk_put (cs := #[v0, v1, v2, v3, v4, v5, v6, v7, v8, v9, v10, v11, v12, v13, v14, v15, u16]) (blk_put (cs := #[v0, v1, v2, v3, v4, v5, v6, v7, v8, v9, v10, v11, v12, v13, v14, u15, u16]) (blk_put (cs := #[v0, v1, v2, v3, v4, v5, v6, v7, v8, v9, v10, v11, v12, v13, u14, u15, u16]) (blk_put (cs := #[v0, v1, v2, v3, v4, v5, v6, v7, v8, v9, v10, v11, v12, u13, u14, u15, u16]) (blk_put (cs := #[v0, v1, v2, v3, v4, v5, v6, v7, v8, v9, v10, v11, u12, u13, u14, u15, u16]) (blk_put (cs := #[v0, v1, v2, v3, v4, v5, v6, v7, v8, v9, v10, u11, u12, u13, u14, u15, u16]) (blk_put (cs := #[v0, v1, v2, v3, v4, v5, v6, v7, v8, v9, u10, u11, u12, u13, u14, u15, u16]) (blk_put (cs := #[v0, v1, v2, v3, v4, v5, v6, v7, v8, u9, u10, u11, u12, u13, u14, u15, u16]) (blk_put (cs := #[v0, v1, v2, v3, v4, v5, v6, v7, u8, u9, u10, u11, u12, u13, u14, u15, u16]) (blk_put (cs := #[v0, v1, v2, v3, v4, v5, v6, u7, u8, u9, u10, u11, u12, u13, u14, u15, u16]) (blk_put (cs := #[v0, v1, v2, v3, v4, v5, u6, u7, u8, u9, u10, u11, u12, u13, u14, u15, u16]) (blk_put (cs := #[v0, v1, v2, v3, v4, u5, u6, u7, u8, u9, u10, u11, u12, u13, u14, u15, u16]) (blk_put (cs := #[v0, v1, v2, v3, u4, u5, u6, u7, u8, u9, u10, u11, u12, u13, u14, u15, u16]) (blk_put (cs := #[v0, v1, v2, u3, u4, u5, u6, u7, u8, u9, u10, u11, u12, u13, u14, u15, u16]) (blk_put (cs := #[v0, v1, u2, u3, u4, u5, u6, u7, u8, u9, u10, u11, u12, u13, u14, u15, u16]) (blk_put (cs := #[v0, u1, u2, u3, u4, u5, u6, u7, u8, u9, u10, u11, u12, u13, u14, u15, u16]) (blk_put (cs := #[u0, u1, u2, u3, u4, u5, u6, u7, u8, u9, u10, u11, u12, u13, u14, u15, u16]) (h) 0 v0 rfl) 1 v1 rfl) 2 v2 rfl) 3 v3 rfl) 4 v4 rfl) 5 v5 rfl) 6 v6 rfl) 7 v7 rfl) 8 v8 rfl) 9 v9 rfl) 10 v10 rfl) 11 v11 rfl) 12 v12 rfl) 13 v13 rfl) 14 v14 rfl) 15 v15 rfl) 16 v16 rfl
theorem bel17 {a w : World} {B q : Nat} (h : Below B a w) (hq : B ≤ q) {v0 v1 v2 v3 v4 v5 v6 v7 v8 v9 v10 v11 v12 v13 v14 v15 v16 : Value} : Below B a (((((((((((((((((w.setCell ⟨q, 0, none⟩ v0).setCell ⟨q, 1, none⟩ v1).setCell ⟨q, 2, none⟩ v2).setCell ⟨q, 3, none⟩ v3).setCell ⟨q, 4, none⟩ v4).setCell ⟨q, 5, none⟩ v5).setCell ⟨q, 6, none⟩ v6).setCell ⟨q, 7, none⟩ v7).setCell ⟨q, 8, none⟩ v8).setCell ⟨q, 9, none⟩ v9).setCell ⟨q, 10, none⟩ v10).setCell ⟨q, 11, none⟩ v11).setCell ⟨q, 12, none⟩ v12).setCell ⟨q, 13, none⟩ v13).setCell ⟨q, 14, none⟩ v14).setCell ⟨q, 15, none⟩ v15).setCell ⟨q, 16, none⟩ v16) :=
  Below.setCell (Below.setCell (Below.setCell (Below.setCell (Below.setCell (Below.setCell (Below.setCell (Below.setCell (Below.setCell (Below.setCell (Below.setCell (Below.setCell (Below.setCell (Below.setCell (Below.setCell (Below.setCell (Below.setCell (h) (p := ⟨q, 0, none⟩) hq v0) (p := ⟨q, 1, none⟩) hq v1) (p := ⟨q, 2, none⟩) hq v2) (p := ⟨q, 3, none⟩) hq v3) (p := ⟨q, 4, none⟩) hq v4) (p := ⟨q, 5, none⟩) hq v5) (p := ⟨q, 6, none⟩) hq v6) (p := ⟨q, 7, none⟩) hq v7) (p := ⟨q, 8, none⟩) hq v8) (p := ⟨q, 9, none⟩) hq v9) (p := ⟨q, 10, none⟩) hq v10) (p := ⟨q, 11, none⟩) hq v11) (p := ⟨q, 12, none⟩) hq v12) (p := ⟨q, 13, none⟩) hq v13) (p := ⟨q, 14, none⟩) hq v14) (p := ⟨q, 15, none⟩) hq v15) (p := ⟨q, 16, none⟩) hq v16
theorem froz17 {W : World} {b : Nat} {v0 v1 v2 v3 v4 v5 v6 v7 v8 v9 v10 v11 v12 v13 v14 v15 v16 : Value} {t : TypeId} (h : W.heap[b]? = some (.cells #[v0, v1, v2, v3, v4, v5, v6, v7, v8, v9, v10, v11, v12, v13, v14, v15, v16] t (0, 0))) :
    W.frozen? ⟨b, 0, none⟩ = false ∧ W.frozen? ⟨b, 1, none⟩ = false ∧ W.frozen? ⟨b, 2, none⟩ = false ∧ W.frozen? ⟨b, 3, none⟩ = false ∧ W.frozen? ⟨b, 4, none⟩ = false ∧ W.frozen? ⟨b, 5, none⟩ = false ∧ W.frozen? ⟨b, 6, none⟩ = false ∧ W.frozen? ⟨b, 7, none⟩ = false ∧ W.frozen? ⟨b, 8, none⟩ = false ∧ W.frozen? ⟨b, 9, none⟩ = false ∧ W.frozen? ⟨b, 10, none⟩ = false ∧ W.frozen? ⟨b, 11, none⟩ = false ∧ W.frozen? ⟨b, 12, none⟩ = false ∧ W.frozen? ⟨b, 13, none⟩ = false ∧ W.frozen? ⟨b, 14, none⟩ = false ∧ W.frozen? ⟨b, 15, none⟩ = false ∧ W.frozen? ⟨b, 16, none⟩ = false :=
  ⟨blk_frozen h 0, blk_frozen h 1, blk_frozen h 2, blk_frozen h 3, blk_frozen h 4, blk_frozen h 5, blk_frozen h 6, blk_frozen h 7, blk_frozen h 8, blk_frozen h 9, blk_frozen h 10, blk_frozen h 11, blk_frozen h 12, blk_frozen h 13, blk_frozen h 14, blk_frozen h 15, blk_frozen h 16⟩
structure Pd (w W : World) (L : List (Nat × Obj)) : Prop extends Pre w W L where
  dis : L.Pairwise (fun a b => b.1 ≠ a.1)
section
variable {w W W1 : World} {L : List (Nat × Obj)}
theorem Pd.start (w : World) : Pd w w [] := ⟨Pre.start w, List.Pairwise.nil⟩
theorem Pd.drew (h : Pd w W L) : Pd w W.drew L := ⟨h.toPre.drew, h.dis⟩
theorem Pd.below (h : Pd w W L) (hB : Below W.heap.size W W1) : Pd w W1 L := ⟨h.toPre.below hB, h.dis⟩
theorem Pd.box (h : Pd w W L) {b : Nat} {o : Obj} (hg : b = W.heap.size) (hb : W1.heap[b]? = some o) (hB : Below W.heap.size W W1) : Pd w W1 ((b, o) :: L) :=
  ⟨h.toPre.box hg hb hB, List.Pairwise.cons (fun p hp => by have := blk_lt (h.loc p hp).1; show p.1 ≠ b; omega) h.dis⟩
theorem Pd.row (h : Pd w W L) (o : Obj) : Pd w (W.alloc o) ((W.heap.size, o) :: L) := h.box rfl (alloc_last W o) ((Below.refl _ _).alloc (Nat.le_refl _) o)
theorem Pd.hd {b : Nat} {o : Obj} (h : Pd w W ((b, o) :: L)) : W.heap[b]? = some o := h.toPre.hd
theorem Pd.tl {p : Nat × Obj} (h : Pd w W (p :: L)) : Pd w W L := ⟨h.toPre.tl, (List.pairwise_cons.1 h.dis).2⟩
theorem Pd.put {q : Nat} {o o1 : Obj} (h : Pd w W ((q, o) :: L)) (hq : W1.heap[q]? = some o1) (hh : ∀ k, k ≠ q → W1.heap[k]? = W.heap[k]?) (hB : Below w.heap.size w W1) : Pd w W1 ((q, o1) :: L) :=
  ⟨⟨hB, fun p hp => by
    rcases List.mem_cons.1 hp with rfl | hp
    · exact ⟨hq, (h.loc (q, o) List.mem_cons_self).2⟩
    · exact ⟨(hh p.1 ((List.pairwise_cons.1 h.dis).1 p hp)).trans (h.loc p (List.mem_cons_of_mem _ hp)).1, (h.loc p (List.mem_cons_of_mem _ hp)).2⟩⟩,
    List.Pairwise.cons (fun p hp => (List.pairwise_cons.1 h.dis).1 p hp) (List.pairwise_cons.1 h.dis).2⟩
theorem Pd.ne1 {b0 b1 : Nat} {o0 o1 : Obj} (h : Pd w W ((b0, o0) :: (b1, o1) :: L)) : b1 ≠ b0 := (List.pairwise_cons.1 h.dis).1 (b1, o1) List.mem_cons_self
theorem Pd.skip {p q : Nat × Obj} (h : Pd w W (p :: q :: L)) : Pd w W (p :: L) :=
  ⟨⟨h.bel, fun r hr => h.loc r (by rcases List.mem_cons.1 hr with rfl | hr; exact List.mem_cons_self; exact List.mem_cons_of_mem _ (List.mem_cons_of_mem _ hr))⟩, List.Pairwise.cons (fun r hr => (List.pairwise_cons.1 h.dis).1 r (List.mem_cons_of_mem _ hr)) (List.pairwise_cons.1 (List.pairwise_cons.1 h.dis).2).2⟩
theorem Pd.st7 {q : Nat} {t : TypeId} {u0 u1 u2 u3 u4 u5 u6 v0 v1 v2 v3 v4 v5 v6 : Value} (h : Pd w W ((q, .cells #[u0, u1, u2, u3, u4, u5, u6] t (0, 0)) :: L)) : Pd w (((((((W.setCell ⟨q, 0, none⟩ v0).setCell ⟨q, 1, none⟩ v1).setCell ⟨q, 2, none⟩ v2).setCell ⟨q, 3, none⟩ v3).setCell ⟨q, 4, none⟩ v4).setCell ⟨q, 5, none⟩ v5).setCell ⟨q, 6, none⟩ v6) ((q, .cells #[v0, v1, v2, v3, v4, v5, v6] t (0, 0)) :: L) :=
  h.put (put7 h.hd) (fun k hk => far7 _ hk) (bel7 h.bel (h.loc _ List.mem_cons_self).2)
theorem Pd.st17 {q : Nat} {t : TypeId} {u0 u1 u2 u3 u4 u5 u6 u7 u8 u9 u10 u11 u12 u13 u14 u15 u16 v0 v1 v2 v3 v4 v5 v6 v7 v8 v9 v10 v11 v12 v13 v14 v15 v16 : Value} (h : Pd w W ((q, .cells #[u0, u1, u2, u3, u4, u5, u6, u7, u8, u9, u10, u11, u12, u13, u14, u15, u16] t (0, 0)) :: L)) : Pd w (((((((((((((((((W.setCell ⟨q, 0, none⟩ v0).setCell ⟨q, 1, none⟩ v1).setCell ⟨q, 2, none⟩ v2).setCell ⟨q, 3, none⟩ v3).setCell ⟨q, 4, none⟩ v4).setCell ⟨q, 5, none⟩ v5).setCell ⟨q, 6, none⟩ v6).setCell ⟨q, 7, none⟩ v7).setCell ⟨q, 8, none⟩ v8).setCell ⟨q, 9, none⟩ v9).setCell ⟨q, 10, none⟩ v10).setCell ⟨q, 11, none⟩ v11).setCell ⟨q, 12, none⟩ v12).setCell ⟨q, 13, none⟩ v13).setCell ⟨q, 14, none⟩ v14).setCell ⟨q, 15, none⟩ v15).setCell ⟨q, 16, none⟩ v16) ((q, .cells #[v0, v1, v2, v3, v4, v5, v6, v7, v8, v9, v10, v11, v12, v13, v14, v15, v16] t (0, 0)) :: L) :=
  h.put (put17 h.hd) (fun k hk => far17 _ hk) (bel17 h.bel (h.loc _ List.mem_cons_self).2)
end
end Go.Proofs.YtbhljokhcmfgjaaGreat.P
set_option linter.unusedVariables false
set_option linter.unusedSimpArgs false
namespace Go.Proofs.YtbhljokhcmfgjaaGreat.P
open Go.RowKit Go.Proofs.YtbhljokhcmfgjaaGreatW.PrintWords Go.Proofs.YtbhljokhcmfgjaaGreatW.PrintLast Go.Proofs.YtbhljokhcmfgjaaGreatW.PrintMore
set_option linter.unusedVariables false
set_option linter.unusedSimpArgs false
theorem cell_lt {w : World} {p : Addr} {v : Value} (h : w.cell? p = some v) : p.block < w.heap.size := by
  by_cases hb : p.block < w.heap.size
  · exact hb
  · exfalso
    have : w.heap[p.block]? = none := Array.getElem?_eq_none (by omega)
    simp [World.cell?, this] at h
theorem kid_keep {w : World} {A : Option Addr} {xs : List S67} (h : Kd.C k67 w A xs.length xs) (kk : Nat) (hk : kk < xs.length) :
    ∃ ad A8 c8, A = some ad ∧ xs[kk].f2.f6.length ≤ c8 ∧ Kd.C k67 w A8 xs[kk].f2.f6.length xs[kk].f2.f6 ∧ ∀ W : World, Below w.heap.size w W → W.cell? (ad.add (kk * 9)) = some (.int .i64 xs[kk].f0) ∧ W.cell? ⟨(ad.add (kk * 9)).block, (ad.add (kk * 9)).off + 1, none⟩ = some (.int .i64 xs[kk].f1) ∧ W.cell? ⟨(ad.add (kk * 9)).block, (ad.add (kk * 9)).off + 2, none⟩ = some (.int .i64 xs[kk].f2.f0) ∧ W.cell? ⟨(ad.add (kk * 9)).block, (ad.add (kk * 9)).off + 3, none⟩ = some (.int .i64 xs[kk].f2.f1) ∧ W.cell? ⟨(ad.add (kk * 9)).block, (ad.add (kk * 9)).off + 4, none⟩ = some (.int .i64 xs[kk].f2.f2) ∧ W.cell? ⟨(ad.add (kk * 9)).block, (ad.add (kk * 9)).off + 5, none⟩ = some (.int .i64 xs[kk].f2.f3) ∧ W.cell? ⟨(ad.add (kk * 9)).block, (ad.add (kk * 9)).off + 6, none⟩ = some (.int .i64 xs[kk].f2.f4) ∧ W.cell? ⟨(ad.add (kk * 9)).block, (ad.add (kk * 9)).off + 7, none⟩ = some (.int .i64 xs[kk].f2.f5) ∧ W.cell? ⟨(ad.add (kk * 9)).block, (ad.add (kk * 9)).off + 8, none⟩ = some (.slice A8 xs[kk].f2.f6.length c8) := by
  obtain ⟨ad, A8, c8, hA, h0, h1, h2, h3, h4, h5, h6, h7, h8, hl, hc⟩ := at_T67 h (kk : Int) (Int.natCast_nonneg _) (by omega)
  rw [rd_kid xs kk hk] at h0 h1 h2 h3 h4 h5 h6 h7 h8 hl hc
  simp only [Int.toNat_natCast] at h0 h1 h2 h3 h4 h5 h6 h7 h8
  exact ⟨ad, A8, c8, hA, hl, hc, fun W hb => ⟨(hb.cell (cell_lt h0)).trans h0, (hb.cell (cell_lt h1)).trans h1, (hb.cell (cell_lt h2)).trans h2, (hb.cell (cell_lt h3)).trans h3, (hb.cell (cell_lt h4)).trans h4, (hb.cell (cell_lt h5)).trans h5, (hb.cell (cell_lt h6)).trans h6, (hb.cell (cell_lt h7)).trans h7, (hb.cell (cell_lt h8)).trans h8⟩⟩
end Go.Proofs.YtbhljokhcmfgjaaGreat.P
set_option linter.unusedVariables false
set_option linter.unusedSimpArgs false
namespace Go.Proofs.YtbhljokhcmfgjaaGreat.P
open Go.RowKit Go.Proofs.YtbhljokhcmfgjaaGreatW.PrintWords Go.Proofs.YtbhljokhcmfgjaaGreatW.PrintLast Go.Proofs.YtbhljokhcmfgjaaGreatW.PrintMore
/-- A world whose blocks are known is as good as any other one whose blocks are the same. -/
theorem Pd.fold {P : Program} {ops : Array Oper} {rest : List Oper} {o : Oper} {a : Act} {Q : Exit → Act → World → Prop} {w W : World} {L : List (Nat × Obj)} (h : Pd w W L) (k : ∀ W', Pd w W' L → wpList P ops Q (o :: rest) a W') : wpList P ops Q (o :: rest) a W := k W h
theorem Pd.fold2 {P : Program} {ops : Array Oper} {rest : List Oper} {o : Oper} {a : Act} {Q : Exit → Act → World → Prop} {w v W : World} {L M : List (Nat × Obj)} (h : Pd w W L) (h2 : Pd v W M) (k : ∀ W', Pd w W' L → Pd v W' M → wpList P ops Q (o :: rest) a W') : wpList P ops Q (o :: rest) a W := k W h h2
theorem Pd.fold3 {P : Program} {ops : Array Oper} {rest : List Oper} {o : Oper} {a : Act} {Q : Exit → Act → World → Prop} {w v u W : World} {L M N : List (Nat × Obj)} (h : Pd w W L) (h2 : Pd v W M) (h3 : Pd u W N) (k : ∀ W', Pd w W' L → Pd v W' M → Pd u W' N → wpList P ops Q (o :: rest) a W') : wpList P ops Q (o :: rest) a W := k W h h2 h3
/-- Where a kid stands: its place, from there on. -/
theorem kid_ad {w : World} {A : Option Addr} {xs : List S67} (h : Kd.C k67 w A xs.length xs) (h0 : 0 < xs.length) : ∃ ad, A = some ad := by
  obtain ⟨ad, _, _, hA, _⟩ := kid_keep h 0 h0
  exact ⟨ad, hA⟩
theorem kid_xy {w W : World} {ad : Addr} {xs : List S67} (h : Kd.C k67 w (some ad) xs.length xs) (hb : Below w.heap.size w W) (kk : Nat) (hk : kk < xs.length) :
    W.cell? (ad.add (kk * 9)) = some (.int .i64 xs[kk].f0) ∧ W.cell? ⟨(ad.add (kk * 9)).block, (ad.add (kk * 9)).off + 1, none⟩ = some (.int .i64 xs[kk].f1) := by
  obtain ⟨ad', _, _, hA, _, _, hW⟩ := kid_keep h kk hk
  cases hA
  exact ⟨(hW W hb).1, (hW W hb).2.1⟩
end Go.Proofs.YtbhljokhcmfgjaaGreat.P
