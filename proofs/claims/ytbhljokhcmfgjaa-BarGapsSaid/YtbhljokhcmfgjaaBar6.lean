import Derived.Test.YtbhljokhcmfgjaaBar5
import Derived.Deep.Cut
/- bar.Radical without a degree: a short walk. Printed by a program of this work (mkbar6.py). -/
set_option linter.unusedVariables false
set_option linter.unusedSimpArgs false
namespace Go.Proofs.Ytbhljokhcmfgjaa.P
open Go.RowKit Go.Proofs.YtbhljokhcmfgjaaW.PrintWords Go.Proofs.YtbhljokhcmfgjaaW.PrintLast Go.Proofs.YtbhljokhcmfgjaaW.PrintMore

theorem with_key {G P : Prop} (k : P → G) (p : P) : G := k p
theorem tmp_at {a : Act} {n i : Nat} {v : Value} (hs : a.tmps.size = n) (hi : i < n) (h : a.tmps[i]?.getD undef = v) : a.tmps[i]'(by omega) = v := by
  have hi2 : i < a.tmps.size := by omega
  rw [Array.getElem?_eq_getElem hi2] at h
  exact h
theorem cut_mono {P : Program} {C : Code} {Q : Exit → Act → World → Prop} {a : Act} {w : World} (R : Act → World → Prop) (h1 : ∀ a0 : Act, a0.tmps.size = a.tmps.size → (∀ i : Nat, a0.tmps[i]?.getD undef = a.tmps[i]?.getD undef) → a0.defers = a.defers → C.wp P (fun e a' w' => e = .normal ∧ R a' w') a0 w) (h2 : ∀ a' w', R a' w' → Q .normal a' w') : C.wp P Q a w :=
  Code.wp_mono (fun e a w h => by obtain ⟨rfl, h⟩ := h; exact h2 a w h) (h1 a rfl (fun _ => rfl) rfl)
theorem both_cells {W : World} {b q : Nat} {x y : S25} {v u : Value} {t t1 : TypeId} (h : W.heap[b]? = some (.cells #[.int .i64 x.f0, .int .i64 x.f1, .int .i64 x.f2, .int .i64 x.f3, .int .i64 x.f4, .int .i64 x.f5, v] t (0, 0))) (h1 : W.heap[q]? = some (.cells #[.int .i64 y.f0, .int .i64 y.f1, .int .i64 y.f2, .int .i64 y.f3, .int .i64 y.f4, .int .i64 y.f5, u] t1 (0, 0))) :
    W.cell? ⟨b, 0, none⟩ = some (.int .i64 x.f0) ∧ W.cell? ⟨b, 1, none⟩ = some (.int .i64 x.f1) ∧ W.cell? ⟨b, 2, none⟩ = some (.int .i64 x.f2) ∧ W.cell? ⟨b, 3, none⟩ = some (.int .i64 x.f3) ∧ W.cell? ⟨b, 4, none⟩ = some (.int .i64 x.f4) ∧ W.cell? ⟨b, 5, none⟩ = some (.int .i64 x.f5) ∧ W.cell? ⟨b, 6, none⟩ = some v ∧
    W.cell? ⟨q, 0, none⟩ = some (.int .i64 y.f0) ∧ W.cell? ⟨q, 1, none⟩ = some (.int .i64 y.f1) ∧ W.cell? ⟨q, 2, none⟩ = some (.int .i64 y.f2) ∧ W.cell? ⟨q, 3, none⟩ = some (.int .i64 y.f3) ∧ W.cell? ⟨q, 4, none⟩ = some (.int .i64 y.f4) ∧ W.cell? ⟨q, 5, none⟩ = some (.int .i64 y.f5) ∧ W.cell? ⟨q, 6, none⟩ = some u :=
  ⟨blk_cell h 0, blk_cell h 1, blk_cell h 2, blk_cell h 3, blk_cell h 4, blk_cell h 5, blk_cell h 6, blk_cell h1 0, blk_cell h1 1, blk_cell h1 2, blk_cell h1 3, blk_cell h1 4, blk_cell h1 5, blk_cell h1 6⟩
def radPre (F : S63) (c z : Int) (b s : S25) : ((Int × Int) × (Int × Int)) × Int :=
  let g := keepV 0 (gapV F c z)
  let t := keepV g.2 (konstV F 51 c z)
  let f := keepV t.2 (konstV F 52 c z)
  let e := needE [b, s] f.2
  let n := keepV e (toldOf (sumR [g.1, t.1, b.f2, b.f3]))
  ((n, keepV n.2 (toldOf (sumR [s.f2, s.f3]))), e)
def radGap (g n h e : Int) : Int × Int :=
  if n < h then
    let d := keepV e (toldOf (sumR [h, wrap64 (-n)]))
    let f := keepV d.2 (toldOf (halfR d.1))
    keepV f.2 (toldOf (sumR [g, f.1]))
  else (g, e)
def radEnd (e wd at_ up th ln hi : Int) (b s : S25) : BoxV :=
  setV e wd [⟨0, up, s⟩, ⟨at_, ln, ⟨2, b.f1, th, 0, 0, 0, []⟩⟩, ⟨at_, 0, b⟩, ⟨0, 0, ⟨0, 0, hi, 0, 0, 0, []⟩⟩]
def radV (F : S63) (c z : Int) (b s : S25) : BoxV :=
  let g := keepV 0 (gapV F c z)
  let t := keepV g.2 (konstV F 51 c z)
  let f := keepV t.2 (konstV F 52 c z)
  let e := needE [b, s] f.2
  if e = 0 then
    let n := keepV e (toldOf (sumR [g.1, t.1, b.f2, b.f3]))
    let h := keepV n.2 (toldOf (sumR [s.f2, s.f3]))
    let q := radGap g.1 n.1 h.1 h.2
    let top := keepV q.2 (toldOf (sumR [b.f2, q.1, t.1]))
    let up := keepV top.2 (toldOf (sumR [top.1, wrap64 (-s.f2)]))
    let a := keepV up.2 (toldOf (sumR [0, s.f1]))
    let ln := keepV a.2 (toldOf (sumR [top.1, wrap64 (-t.1)]))
    let hi := keepV ln.2 (toldOf (sumR [top.1, f.1]))
    let wd := keepV hi.2 (toldOf (sumR [a.1, b.f1]))
    radEnd wd.2 wd.1 a.1 up.1 t.1 ln.1 hi.1 b s
  else (0, 0, 0, 0, 0, 0, [], e)

set_option maxRecDepth 100000 in
set_option maxHeartbeats 16000000 in
theorem rad_err (F : S63) (c z : Int) (b s : S25) (he : ¬ (radPre F c z b s).2 = 0) (Ab As : Option Addr) (nb ns : Nat) (cs : List Value) (w : World) (hF : FontIn w F cs) (lb : b.f6.length ≤ nb) (hb : Kd.C k41 w Ab b.f6.length b.f6) (ls : s.f6.length ≤ ns) (hs : Kd.C k41 w As s.f6.length s.f6) :
    Calls Try.prog 74 #[.agg cs.toArray, .int .i64 c, .int .i64 z, .agg #[.int .i64 b.f0, .int .i64 b.f1, .int .i64 b.f2, .int .i64 b.f3, .int .i64 b.f4, .int .i64 b.f5, .slice Ab b.f6.length nb], .agg #[.int .i64 s.f0, .int .i64 s.f1, .int .i64 s.f2, .int .i64 s.f3, .int .i64 s.f4, .int .i64 s.f5, .slice As s.f6.length ns], .slice none 0 0] w fun r w' => ∃ A1 n1, r = .returned (.tuple #[.agg #[.int .i64 (radV F c z b s).1, .int .i64 (radV F c z b s).2.1, .int .i64 (radV F c z b s).2.2.1, .int .i64 (radV F c z b s).2.2.2.1, .int .i64 (radV F c z b s).2.2.2.2.1, .int .i64 (radV F c z b s).2.2.2.2.2.1, .slice A1 (radV F c z b s).2.2.2.2.2.2.1.length n1], .int .i64 (radV F c z b s).2.2.2.2.2.2.2]) ∧ (radV F c z b s).2.2.2.2.2.2.1.length ≤ n1 ∧ Kd.C k41 w' A1 (radV F c z b s).2.2.2.2.2.2.1.length (radV F c z b s).2.2.2.2.2.2.1 ∧ Below w.heap.size w w' := by
  have hu39 := Try.underlying25
  have hu49 := Try.underlying41
  have hu36 := Try.underlying63
  have hu86 := Try.underlying110
  obtain ⟨R, hR⟩ : ∃ R, R = radV F c z b s := ⟨_, rfl⟩
  rw [← hR]
  have HR := Aside0.mk hR
  clear hR
  have HE := Aside0.mk he
  clear he
  obtain ⟨A6, c6, A7, c7, A8, c8, A9, c9, A10, c10, A11, c11, A12, c12, A13, c13, A15, c15, A16, c16, hcs, hcr⟩ := id hF
  subst hcs
  clear hcr
  have HF := Aside0.mk hF
  have HKb := Aside0.mk (k25_mk w b lb hb)
  have HLb := Aside0.mk lb
  have HCb := Aside0.mk hb
  have HKs := Aside0.mk (k25_mk w s ls hs)
  have HLs := Aside0.mk ls
  have HCs := Aside0.mk hs
  clear hF hb lb hs ls
  go_enter Try.func74, Try.ntmps74
  have HP := Aside0.mk (Pd.start w)
  go_wp2_with (first | ((with_reducible refine gate_dst (N := 6) rfl ?_); refine box_event ?hg (N := 6) ?hd (cs := #[.int .i64 F.f0.f0, .int .i64 F.f0.f1, .int .i64 F.f0.f2, .int .i64 F.f0.f3, .int .i64 F.f0.f4, .bool F.f0.f5, .slice A6 F.f1.length c6, .slice A7 F.f2.length c7, .slice A8 F.f3.length c8, .slice A9 F.f4.f0.length c9, .slice A10 F.f4.f1.length c10, .slice A11 F.f4.f2.length c11, .slice A12 F.f4.f3.length c12, .slice A13 F.f4.f4.length c13, .int .i64 F.f4.f5.f0, .slice A15 F.f4.f5.f1.length c15, .slice A16 F.f4.f5.f2.length c16]) (t := 63) ?hr ?_; (case hd => rfl); (case hg => rfl); (case hr => first | (go_simp; done) | (go_simp; rfl)); intro gf hg wk hbox hb; replace HP := Aside0.mk (Pd.box (by with_reducible repeat (first | exact HP.out | apply Pd.drew)) hg hbox hb); clear hg hbox hb) | ((with_reducible refine gate_dst (N := 9) rfl ?_); refine box_event ?hg (N := 9) ?hd (cs := #[.int .i64 b.f0, .int .i64 b.f1, .int .i64 b.f2, .int .i64 b.f3, .int .i64 b.f4, .int .i64 b.f5, .slice Ab b.f6.length nb]) (t := 25) ?hr ?_; (case hd => rfl); (case hg => rfl); (case hr => first | (go_simp; done) | (go_simp; rfl)); intro gb hg wk hbox hb; replace HP := Aside0.mk (Pd.box (by with_reducible repeat (first | exact HP.out | apply Pd.drew)) hg hbox hb); clear hg hbox hb) | ((with_reducible refine gate_dst (N := 10) rfl ?_); refine box_event ?hg (N := 10) ?hd (cs := #[.int .i64 s.f0, .int .i64 s.f1, .int .i64 s.f2, .int .i64 s.f3, .int .i64 s.f4, .int .i64 s.f5, .slice As s.f6.length ns]) (t := 25) ?hr ?_; (case hd => rfl); (case hg => rfl); (case hr => first | (go_simp; done) | (go_simp; rfl)); intro gs hg wk hbox hb; replace HP := Aside0.mk (Pd.box (by with_reducible repeat (first | exact HP.out | apply Pd.drew)) hg hbox hb); clear hg hbox hb) | ((with_reducible refine gate_dst (N := 12) rfl ?_); refine box_event ?hg (N := 12) ?hd (cs := #[.int .i64 0, .int .i64 0, .int .i64 0, .int .i64 0, .int .i64 0, .int .i64 0, .slice none 0 0]) (t := 25) ?hr ?_; (case hd => rfl); (case hg => rfl); (case hr => first | (go_simp; done) | (go_simp; rfl)); intro gr hg wk hbox hb; replace HP := Aside0.mk (Pd.box (by with_reducible repeat (first | exact HP.out | apply Pd.drew)) hg hbox hb); clear hg hbox hb) | ((with_reducible refine gate_dst (N := 34) rfl ?_); refine wpList_load_row rfl 63 (.tmp 6) rfl gf (by rfl) 63 #[.int .i64 F.f0.f0, .int .i64 F.f0.f1, .int .i64 F.f0.f2, .int .i64 F.f0.f3, .int .i64 F.f0.f4, .bool F.f0.f5, .slice A6 F.f1.length c6, .slice A7 F.f2.length c7, .slice A8 F.f3.length c8, .slice A9 F.f4.f0.length c9, .slice A10 F.f4.f1.length c10, .slice A11 F.f4.f2.length c11, .slice A12 F.f4.f3.length c12, .slice A13 F.f4.f4.length c13, .int .i64 F.f4.f5.f0, .slice A15 F.f4.f5.f1.length c15, .slice A16 F.f4.f5.f2.length c16] (0, 0) _ (Pd.hd (Pd.tl (Pd.tl (Pd.tl HP.out)))) hu36 rfl info_font ?_) | ((with_reducible refine gate_dst (N := 38) rfl ?_); refine box_event ?hg (N := 38) ?hd (cs := #[.int .i64 0, .int .i64 F.f0.f0, .int .i64 F.f0.f1, .int .i64 F.f0.f2, .int .i64 F.f0.f3, .int .i64 F.f0.f4, .bool F.f0.f5, .slice A6 F.f1.length c6, .slice A7 F.f2.length c7, .slice A8 F.f3.length c8, .slice A9 F.f4.f0.length c9, .slice A10 F.f4.f1.length c10, .slice A11 F.f4.f2.length c11, .slice A12 F.f4.f3.length c12, .slice A13 F.f4.f4.length c13, .int .i64 F.f4.f5.f0, .slice A15 F.f4.f5.f1.length c15, .slice A16 F.f4.f5.f2.length c16, .int .i64 c, .int .i64 z]) (t := 110) ?hr ?_; (case hd => rfl); (case hg => rfl); (case hr => first | (go_simp; done) | (go_simp; rfl)); intro g hg wk hbox hb; replace HP := Aside0.mk (Pd.box (by with_reducible repeat (first | exact HP.out | apply Pd.drew)) hg hbox hb); clear hg hbox hb))
  refine (gap_pd (by with_reducible repeat (first | exact HP.out | apply Pd.drew)) HF.out (by rfl)).mono ?_
  rintro _ w1 ⟨rfl, hp⟩
  replace HP := Aside0.mk hp
  clear hp
  obtain ⟨gp, h_gp⟩ : ∃ gp, gp = keepV 0 (gapV F c z) := ⟨_, rfl⟩
  rw [← h_gp] at HP ⊢
  have H_gp := Aside0.mk h_gp
  clear h_gp
  go_wp2_with fail
  refine (konst_pd (by with_reducible repeat (first | exact HP.out | apply Pd.drew)) HF.out (by rfl) 51).mono ?_
  rintro _ w1 ⟨rfl, hp⟩
  replace HP := Aside0.mk hp
  clear hp
  obtain ⟨th, h_th⟩ : ∃ th, th = keepV gp.2 (konstV F 51 c z) := ⟨_, rfl⟩
  rw [← h_th] at HP ⊢
  have H_th := Aside0.mk h_th
  clear h_th
  go_wp2_with fail
  refine (konst_pd (by with_reducible repeat (first | exact HP.out | apply Pd.drew)) HF.out (by rfl) 52).mono ?_
  rintro _ w1 ⟨rfl, hp⟩
  replace HP := Aside0.mk hp
  clear hp
  obtain ⟨fr, h_fr⟩ : ∃ fr, fr = keepV th.2 (konstV F 52 c z) := ⟨_, rfl⟩
  rw [← h_fr] at HP ⊢
  have H_fr := Aside0.mk h_fr
  clear h_fr
  go_wp2_with fail
  go_loopw [47, 18, 19] (fun i x y wr => i = .int .i64 0 ∧ x = .int .i64 0 ∧ y = .int .i64 0 ∧ Aside0 (Pd w wr [(g, .cells #[.int .i64 fr.2, .int .i64 F.f0.f0, .int .i64 F.f0.f1, .int .i64 F.f0.f2, .int .i64 F.f0.f3, .int .i64 F.f0.f4, .bool F.f0.f5, .slice A6 F.f1.length c6, .slice A7 F.f2.length c7, .slice A8 F.f3.length c8, .slice A9 F.f4.f0.length c9, .slice A10 F.f4.f1.length c10, .slice A11 F.f4.f2.length c11, .slice A12 F.f4.f3.length c12, .slice A13 F.f4.f4.length c13, .int .i64 F.f4.f5.f0, .slice A15 F.f4.f5.f1.length c15, .slice A16 F.f4.f5.f2.length c16, .int .i64 c, .int .i64 z] 110), (gr, .cells #[.int .i64 0, .int .i64 0, .int .i64 0, .int .i64 0, .int .i64 0, .int .i64 0, .slice none 0 0] 25), (gs, .cells #[.int .i64 s.f0, .int .i64 s.f1, .int .i64 s.f2, .int .i64 s.f3, .int .i64 s.f4, .int .i64 s.f5, .slice As s.f6.length ns] 25), (gb, .cells #[.int .i64 b.f0, .int .i64 b.f1, .int .i64 b.f2, .int .i64 b.f3, .int .i64 b.f4, .int .i64 b.f5, .slice Ab b.f6.length nb] 25), (gf, .cells #[.int .i64 F.f0.f0, .int .i64 F.f0.f1, .int .i64 F.f0.f2, .int .i64 F.f0.f3, .int .i64 F.f0.f4, .bool F.f0.f5, .slice A6 F.f1.length c6, .slice A7 F.f2.length c7, .slice A8 F.f3.length c8, .slice A9 F.f4.f0.length c9, .slice A10 F.f4.f1.length c10, .slice A11 F.f4.f2.length c11, .slice A12 F.f4.f3.length c12, .slice A13 F.f4.f4.length c13, .int .i64 F.f4.f5.f0, .slice A15 F.f4.f5.f1.length c15, .slice A16 F.f4.f5.f2.length c16] 63)])) (fun _ _ _ _ => 0)
  case atStart => exact ⟨rfl, rfl, rfl, ⟨(by with_reducible repeat (first | exact HP.out | apply Pd.drew))⟩⟩
  case round =>
    obtain ⟨rfl, rfl, rfl, HP⟩ := hrel
    obtain ⟨RS, hRS⟩ : ∃ r : List Value, r = [.int .i64 F.f0.f0, .int .i64 F.f0.f1, .int .i64 F.f0.f2, .int .i64 F.f0.f3, .int .i64 F.f0.f4, .bool F.f0.f5, .slice A6 F.f1.length c6, .slice A7 F.f2.length c7, .slice A8 F.f3.length c8, .slice A9 F.f4.f0.length c9, .slice A10 F.f4.f1.length c10, .slice A11 F.f4.f2.length c11, .slice A12 F.f4.f3.length c12, .slice A13 F.f4.f4.length c13, .int .i64 F.f4.f5.f0, .slice A15 F.f4.f5.f1.length c15, .slice A16 F.f4.f5.f2.length c16, .int .i64 c, .int .i64 z] := ⟨_, rfl⟩
    obtain ⟨OF, hOF⟩ : ∃ o : Obj, o = .cells #[.int .i64 F.f0.f0, .int .i64 F.f0.f1, .int .i64 F.f0.f2, .int .i64 F.f0.f3, .int .i64 F.f0.f4, .bool F.f0.f5, .slice A6 F.f1.length c6, .slice A7 F.f2.length c7, .slice A8 F.f3.length c8, .slice A9 F.f4.f0.length c9, .slice A10 F.f4.f1.length c10, .slice A11 F.f4.f2.length c11, .slice A12 F.f4.f3.length c12, .slice A13 F.f4.f4.length c13, .int .i64 F.f4.f5.f0, .slice A15 F.f4.f5.f1.length c15, .slice A16 F.f4.f5.f2.length c16] 63 := ⟨_, rfl⟩
    rw [← hRS, ← hOF] at HP
    clear hRS hOF
    generalize (Value.agg #[.int .i64 F.f0.f0, .int .i64 F.f0.f1, .int .i64 F.f0.f2, .int .i64 F.f0.f3, .int .i64 F.f0.f4, .bool F.f0.f5, .slice A6 F.f1.length c6, .slice A7 F.f2.length c7, .slice A8 F.f3.length c8, .slice A9 F.f4.f0.length c9, .slice A10 F.f4.f1.length c10, .slice A11 F.f4.f2.length c11, .slice A12 F.f4.f3.length c12, .slice A13 F.f4.f4.length c13, .int .i64 F.f4.f5.f0, .slice A15 F.f4.f5.f1.length c15, .slice A16 F.f4.f5.f2.length c16]) = vf0
    generalize (Value.agg #[.int .i64 0, .int .i64 F.f0.f0, .int .i64 F.f0.f1, .int .i64 F.f0.f2, .int .i64 F.f0.f3, .int .i64 F.f0.f4, .bool F.f0.f5, .slice A6 F.f1.length c6, .slice A7 F.f2.length c7, .slice A8 F.f3.length c8, .slice A9 F.f4.f0.length c9, .slice A10 F.f4.f1.length c10, .slice A11 F.f4.f2.length c11, .slice A12 F.f4.f3.length c12, .slice A13 F.f4.f4.length c13, .int .i64 F.f4.f5.f0, .slice A15 F.f4.f5.f1.length c15, .slice A16 F.f4.f5.f2.length c16, .int .i64 c, .int .i64 z]) = vf1
    clear HF
    go_wp2_with fail
    go_region_held3 (fun w' => w'.cell? ⟨gb, 0, none⟩ = some (.int .i64 b.f0) ∧ w'.cell? ⟨gb, 1, none⟩ = some (.int .i64 b.f1) ∧ w'.cell? ⟨gb, 2, none⟩ = some (.int .i64 b.f2) ∧ w'.cell? ⟨gb, 3, none⟩ = some (.int .i64 b.f3) ∧ w'.cell? ⟨gb, 4, none⟩ = some (.int .i64 b.f4) ∧ w'.cell? ⟨gb, 5, none⟩ = some (.int .i64 b.f5) ∧ w'.cell? ⟨gb, 6, none⟩ = some (.slice Ab b.f6.length nb) ∧ w'.cell? ⟨gs, 0, none⟩ = some (.int .i64 s.f0) ∧ w'.cell? ⟨gs, 1, none⟩ = some (.int .i64 s.f1) ∧ w'.cell? ⟨gs, 2, none⟩ = some (.int .i64 s.f2) ∧ w'.cell? ⟨gs, 3, none⟩ = some (.int .i64 s.f3) ∧ w'.cell? ⟨gs, 4, none⟩ = some (.int .i64 s.f4) ∧ w'.cell? ⟨gs, 5, none⟩ = some (.int .i64 s.f5) ∧ w'.cell? ⟨gs, 6, none⟩ = some (.slice As s.f6.length ns)) (with_reducible exact both_cells (Pd.getb (by with_reducible repeat (first | exact HP.out | apply Pd.alloc | apply Pd.drew)) (by with_reducible repeat (first | exact List.mem_cons_self | apply List.mem_cons_of_mem))) (Pd.getb (by with_reducible repeat (first | exact HP.out | apply Pd.alloc | apply Pd.drew)) (by with_reducible repeat (first | exact List.mem_cons_self | apply List.mem_cons_of_mem)))) (first | (go_at_call 68; refine (need2_pd (by with_reducible first | exact Lit.refl _ _ | exact Lit.drew _ _) (by with_reducible repeat (first | exact HP.out | apply Pd.alloc | apply Pd.drew)) (by simp) HKb.out HKs.out).mono ?_; rintro _ w1 ⟨rfl, hp⟩; replace HP := Aside0.mk hp; clear hp))
    obtain ⟨e2, h_e2⟩ : ∃ e2, e2 = needE [b, s] fr.2 := ⟨_, rfl⟩
    rw [← h_e2] at HP
    have H_e2 := Aside0.mk h_e2
    clear h_e2
    go_wp2_with fail
    refine (need_nil_pd (by with_reducible repeat (first | exact HP.out | apply Pd.drew))).mono ?_
    rintro _ wz ⟨rfl, hp⟩
    replace HP := Aside0.mk hp
    clear hp
    have hc0 := head_cell (Pd.hd HP.out)
    have hee : ¬ e2 = 0 := by (have h0 := HE.out; have h_gp := H_gp.out; have h_th := H_th.out; have h_fr := H_fr.out; have h_e2 := H_e2.out; subst h_gp h_th h_fr h_e2; exact h0)
    have hd1 : decide (e2 = 0) = false := by simp; exact hee
    have hgr : gr ≠ g := Pd.ne1 HP.out
    have hgr2 := hgr.symm
    have hcz := cells7 (Pd.hd (Pd.tl HP.out))
    have hfz := froz7 (Pd.hd (Pd.tl HP.out))
    go_wp2_with fail
    go_region
    all_goals go_wp2
    all_goals refine bodyPost_ret (results_ct rfl _ _ gr 25 #[.int .i64 0, .int .i64 0, .int .i64 0, .int .i64 0, .int .i64 0, .int .i64 0, .slice none 0 0] (0, 0) _ rfl (blk_drew (put7 (Pd.hd (Pd.tl HP.out)))) hu39 rfl (by kernel_rfl)) rfl ?_
    have hRR : R = (0, 0, 0, 0, 0, 0, [], e2) := by (rw [HR.out]; have h_gp := H_gp.out; have h_th := H_th.out; have h_fr := H_fr.out; have h_e2 := H_e2.out; subst h_gp h_th h_fr h_e2; unfold radV; exact if_neg HE.out)
    rw [hRR]
    exact ⟨none, 0, rfl, Nat.le_refl _, Kd.C_nil _ _, Pre.bel (Pd.toPre (Pd.drew (Pd.st7 HP.out.tl)))⟩
end Go.Proofs.Ytbhljokhcmfgjaa.P
