import Derived.Test.YtjkbblnebpgpfaaTRefBar
import Derived.Test.YtjkbblnebpgpfaaTBar15
import Derived.Deep.RegionHeld3
/- The document's root (layer 27) with a degree: a short walk. Printed by a program of this work (mkrrad.py). -/
set_option linter.unusedVariables false
set_option linter.unusedSimpArgs false
namespace Go.Proofs.Ytjkbblnebpgpfaa.P
open Go.RowKit Go.Proofs.YtjkbblnebpgpfaaW.PrintWords Go.Proofs.YtjkbblnebpgpfaaW.PrintLast Go.Proofs.YtjkbblnebpgpfaaW.PrintMore

section
variable {w W W1 : World} {L : List (Nat × Obj)} {g : Nat} {e : Int} {rest : List Value} {t : TypeId}
theorem rset_own {q cap : Nat} {o : Obj} (wd : Int) (xs : List S49) (hx : xs.length < 1599289640401) (h : Pd w W ((q, o) :: (g, .cells (Value.int .i64 e :: rest).toArray t (0, 0)) :: L)) (hq : RowAt w q o xs) : Calls Try.prog 51 #[.pointer (some ⟨g, 0, none⟩), .int .i64 wd, .slice (some ⟨q, 0, none⟩) xs.length cap] W fun r w' => ∃ A1 n1, r = .returned (.tuple #[.agg #[.int .i64 (setV e wd xs).1, .int .i64 (setV e wd xs).2.1, .int .i64 (setV e wd xs).2.2.1, .int .i64 (setV e wd xs).2.2.2.1, .int .i64 (setV e wd xs).2.2.2.2.1, .int .i64 (setV e wd xs).2.2.2.2.2.1, .slice A1 (setV e wd xs).2.2.2.2.2.2.1.length n1], .int .i64 (setV e wd xs).2.2.2.2.2.2.2]) ∧ (setV e wd xs).2.2.2.2.2.2.1.length ≤ n1 ∧ Kd.F k49 w' (fun k => ∀ p ∈ (g, Obj.cells (Value.int .i64 e :: rest).toArray t (0, 0)) :: L, k ≠ p.1) A1 (setV e wd xs).2.2.2.2.2.2.1.length (setV e wd xs).2.2.2.2.2.2.1 ∧ Pd w w' ((g, .cells (Value.int .i64 e :: rest).toArray t (0, 0)) :: L) := by
  obtain ⟨css, hS⟩ := hq.src ((g, .cells (Value.int .i64 e :: rest).toArray t (0, 0)) :: L)
  refine (set_cd wd xs hx h.swap (hS.mono fun _ h => h.swap)).mono ?_
  rintro r w' ⟨A1, n1, h2, h3, h4, h5⟩
  exact ⟨A1, n1, h2, h3, Kd.F_mono h4 (fun k hk p hp => hk p (by
    rcases List.mem_cons.1 hp with rfl | hp
    · exact List.mem_cons_self
    · exact List.mem_cons_of_mem _ (List.mem_cons_of_mem _ hp))), h5.skip⟩
theorem Row.own1 {q cap n : Nat} {xs : List S49} (h : Row k49 49 w W L (.slice (some ⟨q, 0, none⟩) n cap) xs) : ∃ o, OwnAt w q cap o xs ∧ Pd w W ((q, o) :: L) := by
  rcases h with ⟨h, _⟩ | ⟨q1, cap1, cur, css, h1, hE, hP, hc, hm, hs, ht⟩
  · cases h
  · injection h1 with h2 h3 h4
    injection h2 with h2
    injection h2 with h2
    subst h2 h4
    exact ⟨_, ⟨css, hE, fun W_ hq => ⟨hE.flat (fun x c h => Kd.K_len _ h), .inr ⟨q, cap, cur, rfl, (hP.loc _ List.mem_cons_self).2, hq, hc, hm, hs, ht⟩⟩⟩, hP⟩
end
theorem Pd.foldT {P : Program} {ops : Array Oper} {rest : List Oper} {o : Oper} {a : Act} {Q : Exit → Act → World → Prop} {w W : World} {L : List (Nat × Obj)} {T : World → Prop} (h : Pd w W L) (hT : T W) (k : ∀ W', Pd w W' L → T W' → wpList P ops Q (o :: rest) a W') : wpList P ops Q (o :: rest) a W := k W h hT
theorem Pd.third {w W : World} {L : List (Nat × Obj)} {a b c : Nat × Obj} (h : Pd w W (a :: b :: c :: L)) : Pd w W (c :: a :: b :: L) :=
  h.perm ((List.Perm.cons _ (List.Perm.swap _ _ _)).trans (List.Perm.swap _ _ _))
theorem cells33 {W : World} {b q : Nat} {v0 v1 v2 v3 v4 v5 v6 u0 u1 u2 u3 u4 u5 u6 : Value} {t t1 : TypeId} (h : W.heap[b]? = some (.cells #[v0, v1, v2, v3, v4, v5, v6] t (0, 0))) (h1 : W.heap[q]? = some (.cells #[u0, u1, u2, u3, u4, u5, u6] t1 (0, 0))) : W.cell? ⟨b, 3, none⟩ = some v3 ∧ W.cell? ⟨q, 3, none⟩ = some u3 := ⟨blk_cell h 3, blk_cell h1 3⟩
theorem three_cells {W : World} {b q r : Nat} {v0 v1 v2 v3 v4 v5 v6 u0 u1 u2 u3 u4 u5 u6 x0 x1 x2 x3 x4 x5 x6 : Value} {t t1 t2 : TypeId} (h : W.heap[b]? = some (.cells #[v0, v1, v2, v3, v4, v5, v6] t (0, 0))) (h1 : W.heap[q]? = some (.cells #[u0, u1, u2, u3, u4, u5, u6] t1 (0, 0))) (h2 : W.heap[r]? = some (.cells #[x0, x1, x2, x3, x4, x5, x6] t2 (0, 0))) : W.cell? ⟨b, 0, none⟩ = some v0 ∧ W.cell? ⟨b, 1, none⟩ = some v1 ∧ W.cell? ⟨b, 2, none⟩ = some v2 ∧ W.cell? ⟨b, 3, none⟩ = some v3 ∧ W.cell? ⟨b, 4, none⟩ = some v4 ∧ W.cell? ⟨b, 5, none⟩ = some v5 ∧ W.cell? ⟨b, 6, none⟩ = some v6 ∧ W.cell? ⟨q, 0, none⟩ = some u0 ∧ W.cell? ⟨q, 1, none⟩ = some u1 ∧ W.cell? ⟨q, 2, none⟩ = some u2 ∧ W.cell? ⟨q, 3, none⟩ = some u3 ∧ W.cell? ⟨q, 4, none⟩ = some u4 ∧ W.cell? ⟨q, 5, none⟩ = some u5 ∧ W.cell? ⟨q, 6, none⟩ = some u6 ∧ W.cell? ⟨r, 0, none⟩ = some x0 ∧ W.cell? ⟨r, 1, none⟩ = some x1 ∧ W.cell? ⟨r, 2, none⟩ = some x2 ∧ W.cell? ⟨r, 3, none⟩ = some x3 ∧ W.cell? ⟨r, 4, none⟩ = some x4 ∧ W.cell? ⟨r, 5, none⟩ = some x5 ∧ W.cell? ⟨r, 6, none⟩ = some x6 :=
  ⟨blk_cell h 0, blk_cell h 1, blk_cell h 2, blk_cell h 3, blk_cell h 4, blk_cell h 5, blk_cell h 6, blk_cell h1 0, blk_cell h1 1, blk_cell h1 2, blk_cell h1 3, blk_cell h1 4, blk_cell h1 5, blk_cell h1 6, blk_cell h2 0, blk_cell h2 1, blk_cell h2 2, blk_cell h2 3, blk_cell h2 4, blk_cell h2 5, blk_cell h2 6⟩
def rRadV1 (F : S36) (c z : Int) (b s d : S39) (r : Int) : BoxV :=
  let gp := keepV 0 (konstV F (if c < 2 then 50 else 49) c z)
  let th := keepV gp.2 (konstV F 51 c z)
  let fr := keepV th.2 (konstV F 52 c z)
  let ah := keepV fr.2 (konstV F 53 c z)
  let bh := keepV ah.2 (konstV F 54 c z)
  let e := needE [d] (needE [s] (needE [b] bh.2))
  if e = 0 then
    let n1 := keepV e (toldOf (sumR [gp.1, th.1]))
    let n2 := keepV n1.2 (toldOf (sumR [n1.1, b.f2]))
    let n := keepV n2.2 (toldOf (sumR [n2.1, b.f3]))
    let h := keepV n.2 (toldOf (sumR [s.f2, s.f3]))
    let q := radGap gp.1 n.1 h.1 h.2
    let t1 := keepV q.2 (toldOf (sumR [b.f2, q.1]))
    let top := keepV t1.2 (toldOf (sumR [t1.1, th.1]))
    let up := keepV top.2 (toldOf (sumR [top.1, wrap64 (-s.f2)]))
    let x1 := keepV up.2 (toldOf (sumR [ah.1, d.f1]))
    let xs := keepV x1.2 (toldOf (sumR [x1.1, bh.1]))
    let u2 := keepV xs.2 (toldOf (sumR [up.1, wrap64 (-s.f3)]))
    let y1 := keepV u2.2 (toldOf (sumR [d.f3, u2.1]))
    let ra := keepV y1.2 (toldOf (mulDivR h.1 r 100))
    let y := keepV ra.2 (toldOf (sumR [y1.1, ra.1]))
    let a := keepV y.2 (toldOf (sumR [max 0 xs.1, s.f1]))
    let ln := keepV a.2 (toldOf (sumR [top.1, wrap64 (-th.1)]))
    let hi := keepV ln.2 (toldOf (sumR [top.1, fr.1]))
    let wd := keepV hi.2 (toldOf (sumR [a.1, b.f1]))
    setV wd.2 wd.1 [⟨ah.1, y.1, d⟩, ⟨max 0 xs.1, up.1, s⟩, ⟨a.1, ln.1, ⟨2, b.f1, th.1, 0, 0, 0, []⟩⟩, ⟨a.1, 0, b⟩, ⟨0, 0, ⟨0, 0, hi.1, 0, 0, 0, []⟩⟩]
  else (0, 0, 0, 0, 0, 0, [], e)
def rRadV0 (F : S36) (c z : Int) (b s : S39) : BoxV :=
  let gp := keepV 0 (konstV F (if c < 2 then 50 else 49) c z)
  let th := keepV gp.2 (konstV F 51 c z)
  let fr := keepV th.2 (konstV F 52 c z)
  let e := needE [⟨0, 0, 0, 0, 0, 0, []⟩] (needE [s] (needE [b] fr.2))
  if e = 0 then
    let n1 := keepV e (toldOf (sumR [gp.1, th.1]))
    let n2 := keepV n1.2 (toldOf (sumR [n1.1, b.f2]))
    let n := keepV n2.2 (toldOf (sumR [n2.1, b.f3]))
    let h := keepV n.2 (toldOf (sumR [s.f2, s.f3]))
    let q := radGap gp.1 n.1 h.1 h.2
    let t1 := keepV q.2 (toldOf (sumR [b.f2, q.1]))
    let top := keepV t1.2 (toldOf (sumR [t1.1, th.1]))
    let up := keepV top.2 (toldOf (sumR [top.1, wrap64 (-s.f2)]))
    let a := keepV up.2 (toldOf (sumR [0, s.f1]))
    let ln := keepV a.2 (toldOf (sumR [top.1, wrap64 (-th.1)]))
    let hi := keepV ln.2 (toldOf (sumR [top.1, fr.1]))
    let wd := keepV hi.2 (toldOf (sumR [a.1, b.f1]))
    setV wd.2 wd.1 [⟨0, up.1, s⟩, ⟨a.1, ln.1, ⟨2, b.f1, th.1, 0, 0, 0, []⟩⟩, ⟨a.1, 0, b⟩, ⟨0, 0, ⟨0, 0, hi.1, 0, 0, 0, []⟩⟩]
  else (0, 0, 0, 0, 0, 0, [], e)

set_option maxRecDepth 100000 in
set_option maxHeartbeats 16000000 in
theorem rrad1_calls (F : S36) (c z : Int) (b s d : S39) (Ab As Ad : Option Addr) (nb ns nd : Nat) (cs : List Value) (w : World) (hF : FontIn w F cs) (lb : b.f6.length ≤ nb) (hb : Kd.C k49 w Ab b.f6.length b.f6) (ls : s.f6.length ≤ ns) (hs : Kd.C k49 w As s.f6.length s.f6) (hd : Kd.C k39 w Ad 1 [d]) :
    Calls Try.prog 27 #[.agg cs.toArray, .int .i64 c, .int .i64 z, .agg #[.int .i64 b.f0, .int .i64 b.f1, .int .i64 b.f2, .int .i64 b.f3, .int .i64 b.f4, .int .i64 b.f5, .slice Ab b.f6.length nb], .agg #[.int .i64 s.f0, .int .i64 s.f1, .int .i64 s.f2, .int .i64 s.f3, .int .i64 s.f4, .int .i64 s.f5, .slice As s.f6.length ns], .slice Ad 1 nd] w fun r w' => ∃ A1 n1, r = .returned (.tuple #[.agg #[.int .i64 (rRadV1 F c z b s d (rd F.f4.f0 55)).1, .int .i64 (rRadV1 F c z b s d (rd F.f4.f0 55)).2.1, .int .i64 (rRadV1 F c z b s d (rd F.f4.f0 55)).2.2.1, .int .i64 (rRadV1 F c z b s d (rd F.f4.f0 55)).2.2.2.1, .int .i64 (rRadV1 F c z b s d (rd F.f4.f0 55)).2.2.2.2.1, .int .i64 (rRadV1 F c z b s d (rd F.f4.f0 55)).2.2.2.2.2.1, .slice A1 (rRadV1 F c z b s d (rd F.f4.f0 55)).2.2.2.2.2.2.1.length n1], .int .i64 (rRadV1 F c z b s d (rd F.f4.f0 55)).2.2.2.2.2.2.2]) ∧ (rRadV1 F c z b s d (rd F.f4.f0 55)).2.2.2.2.2.2.1.length ≤ n1 ∧ Kd.C k49 w' A1 (rRadV1 F c z b s d (rd F.f4.f0 55)).2.2.2.2.2.2.1.length (rRadV1 F c z b s d (rd F.f4.f0 55)).2.2.2.2.2.2.1 ∧ Below w.heap.size w w' := by
  have hu39 := Try.underlying39
  have hu36 := Try.underlying36
  have hu49 := Try.underlying49
  have hu74 := Try.underlying74
  have hu34 := Try.underlying34
  obtain ⟨R, hR⟩ : ∃ R, R = rRadV1 F c z b s d (rd F.f4.f0 55) := ⟨_, rfl⟩
  rw [← hR]
  have HR := Aside0.mk hR
  clear hR
  obtain ⟨A6, c6, A7, c7, A8, c8, A9, c9, A10, c10, A11, c11, A12, c12, A13, c13, A15, c15, A16, c16, hcs, hcr⟩ := id hF
  subst hcs
  have HF := Aside0.mk hF
  have HLb := Aside0.mk lb
  have HCb := Aside0.mk hb
  have HLs := Aside0.mk ls
  have HCs := Aside0.mk hs
  obtain ⟨l6, g6, l7, g7, l8, g8, l9, g9, l10, g10, l11, g11, l12, g12, l13, g13, l15, g15, l16, g16⟩ := hcr
  have HG9 := Aside0.mk g9
  clear l6 g6 l7 g7 l8 g8 l9 g9 l10 g10 l11 g11 l12 g12 l13 g13 l15 g15 l16 g16
  obtain ⟨ad, A8d, c8d, hAd, h0, h1, h2, h3, h4, h5, h6, hl8, hC8⟩ := at_T39 hd 0 (Int.le_refl _) (by decide)
  subst hAd
  simp only [show (0 : Int).toNat = 0 from rfl, Nat.zero_mul, show ad.add 0 = ad by simp [Addr.add], show rd_T39 [d] 0 = d from rfl] at h0 h1 h2 h3 h4 h5 h6 hl8 hC8
  have HD0 := Aside0.mk h0
  have HD1 := Aside0.mk h1
  have HD2 := Aside0.mk h2
  have HD3 := Aside0.mk h3
  have HD4 := Aside0.mk h4
  have HD5 := Aside0.mk h5
  have HD6 := Aside0.mk h6
  have HLd := Aside0.mk hl8
  have HCd := Aside0.mk hC8
  clear h0 h1 h2 h3 h4 h5 h6 hl8 hC8 hd
  clear hF lb hb ls hs
  go_enter Try.func27, Try.ntmps27
  have HP := Aside0.mk (Pd.start w)
  go_wp2_with (first | ((with_reducible refine gate_dst (N := 6) rfl ?_); refine box_event ?hg (N := 6) ?hd (cs := #[.int .i64 F.f0.f0, .int .i64 F.f0.f1, .int .i64 F.f0.f2, .int .i64 F.f0.f3, .int .i64 F.f0.f4, .bool F.f0.f5, .slice A6 F.f1.length c6, .slice A7 F.f2.length c7, .slice A8 F.f3.length c8, .slice A9 F.f4.f0.length c9, .slice A10 F.f4.f1.length c10, .slice A11 F.f4.f2.length c11, .slice A12 F.f4.f3.length c12, .slice A13 F.f4.f4.length c13, .int .i64 F.f4.f5.f0, .slice A15 F.f4.f5.f1.length c15, .slice A16 F.f4.f5.f2.length c16]) (t := 36) ?hr ?_; (case hd => rfl); (case hg => rfl); (case hr => first | (go_simp; done) | (go_simp; rfl)); intro gf hg wk hbox hb; replace HP := Aside0.mk (Pd.box (by with_reducible repeat (first | exact HP.out | apply Pd.drew)) hg hbox hb); clear hg hbox hb) | ((with_reducible refine gate_dst (N := 9) rfl ?_); refine box_event ?hg (N := 9) ?hd (cs := #[.int .i64 b.f0, .int .i64 b.f1, .int .i64 b.f2, .int .i64 b.f3, .int .i64 b.f4, .int .i64 b.f5, .slice Ab b.f6.length nb]) (t := 39) ?hr ?_; (case hd => rfl); (case hg => rfl); (case hr => first | (go_simp; done) | (go_simp; rfl)); intro gb hg wk hbox hb; replace HP := Aside0.mk (Pd.box (by with_reducible repeat (first | exact HP.out | apply Pd.drew)) hg hbox hb); clear hg hbox hb) | ((with_reducible refine gate_dst (N := 10) rfl ?_); refine box_event ?hg (N := 10) ?hd (cs := #[.int .i64 s.f0, .int .i64 s.f1, .int .i64 s.f2, .int .i64 s.f3, .int .i64 s.f4, .int .i64 s.f5, .slice As s.f6.length ns]) (t := 39) ?hr ?_; (case hd => rfl); (case hg => rfl); (case hr => first | (go_simp; done) | (go_simp; rfl)); intro gs hg wk hbox hb; replace HP := Aside0.mk (Pd.box (by with_reducible repeat (first | exact HP.out | apply Pd.drew)) hg hbox hb); clear hg hbox hb) | ((with_reducible refine gate_dst (N := 12) rfl ?_); refine box_event ?hg (N := 12) ?hd (cs := #[.int .i64 0, .int .i64 0, .int .i64 0, .int .i64 0, .int .i64 0, .int .i64 0, .slice none 0 0]) (t := 39) ?hr ?_; (case hd => rfl); (case hg => rfl); (case hr => first | (go_simp; done) | (go_simp; rfl)); intro gr hg wk hbox hb; replace HP := Aside0.mk (Pd.box (by with_reducible repeat (first | exact HP.out | apply Pd.drew)) hg hbox hb); clear hg hbox hb) | ((with_reducible refine gate_dst (N := 40) rfl ?_); refine box_event ?hg (N := 40) ?hd (cs := #[.int .i64 0]) (t := 74) ?hr ?_; (case hd => rfl); (case hg => rfl); (case hr => first | (go_simp; done) | (go_simp; rfl)); intro gk hg wk hbox hb; replace HP := Aside0.mk (Pd.box (by with_reducible repeat (first | exact HP.out | apply Pd.drew)) hg hbox hb); clear hg hbox hb) | ((with_reducible refine gate_dst (N := 42) rfl ?_); refine wpList_load_row rfl 36 (.tmp 6) rfl gf (by rfl) 36 #[.int .i64 F.f0.f0, .int .i64 F.f0.f1, .int .i64 F.f0.f2, .int .i64 F.f0.f3, .int .i64 F.f0.f4, .bool F.f0.f5, .slice A6 F.f1.length c6, .slice A7 F.f2.length c7, .slice A8 F.f3.length c8, .slice A9 F.f4.f0.length c9, .slice A10 F.f4.f1.length c10, .slice A11 F.f4.f2.length c11, .slice A12 F.f4.f3.length c12, .slice A13 F.f4.f4.length c13, .int .i64 F.f4.f5.f0, .slice A15 F.f4.f5.f1.length c15, .slice A16 F.f4.f5.f2.length c16] (0, 0) _ (Pd.hd (Pd.tl (Pd.tl (Pd.tl (Pd.tl (by with_reducible repeat (first | exact HP.out | apply Pd.drew))))))) hu36 rfl info_font ?_))
  refine (either_cd HP.out HF.out (by rfl) 49 50 c z).mono ?_
  rintro _ w1 ⟨rfl, hp⟩
  replace HP := Aside0.mk hp
  clear hp
  obtain ⟨gp, h_gp⟩ : ∃ gp, gp = keepV 0 (konstV F (if c < 2 then 50 else 49) c z) := ⟨_, rfl⟩
  rw [← h_gp] at HP ⊢
  have H_gp := Aside0.mk h_gp
  clear h_gp
  go_wp2_with (first | ((with_reducible refine gate_dst (N := 47) rfl ?_); refine wpList_load_row rfl 36 (.tmp 6) rfl gf (by rfl) 36 #[.int .i64 F.f0.f0, .int .i64 F.f0.f1, .int .i64 F.f0.f2, .int .i64 F.f0.f3, .int .i64 F.f0.f4, .bool F.f0.f5, .slice A6 F.f1.length c6, .slice A7 F.f2.length c7, .slice A8 F.f3.length c8, .slice A9 F.f4.f0.length c9, .slice A10 F.f4.f1.length c10, .slice A11 F.f4.f2.length c11, .slice A12 F.f4.f3.length c12, .slice A13 F.f4.f4.length c13, .int .i64 F.f4.f5.f0, .slice A15 F.f4.f5.f1.length c15, .slice A16 F.f4.f5.f2.length c16] (0, 0) _ (Pd.hd (Pd.tl (Pd.tl (Pd.tl (Pd.tl (by with_reducible repeat (first | exact HP.out | apply Pd.drew))))))) hu36 rfl info_font ?_))
  refine (konst_cd HP.out HF.out (by rfl) 51 c z).mono ?_
  rintro _ w1 ⟨rfl, hp⟩
  replace HP := Aside0.mk hp
  clear hp
  obtain ⟨th, h_th⟩ : ∃ th, th = keepV gp.2 (konstV F 51 c z) := ⟨_, rfl⟩
  rw [← h_th] at HP ⊢
  have H_th := Aside0.mk h_th
  clear h_th
  go_wp2_with (first | ((with_reducible refine gate_dst (N := 52) rfl ?_); refine wpList_load_row rfl 36 (.tmp 6) rfl gf (by rfl) 36 #[.int .i64 F.f0.f0, .int .i64 F.f0.f1, .int .i64 F.f0.f2, .int .i64 F.f0.f3, .int .i64 F.f0.f4, .bool F.f0.f5, .slice A6 F.f1.length c6, .slice A7 F.f2.length c7, .slice A8 F.f3.length c8, .slice A9 F.f4.f0.length c9, .slice A10 F.f4.f1.length c10, .slice A11 F.f4.f2.length c11, .slice A12 F.f4.f3.length c12, .slice A13 F.f4.f4.length c13, .int .i64 F.f4.f5.f0, .slice A15 F.f4.f5.f1.length c15, .slice A16 F.f4.f5.f2.length c16] (0, 0) _ (Pd.hd (Pd.tl (Pd.tl (Pd.tl (Pd.tl (by with_reducible repeat (first | exact HP.out | apply Pd.drew))))))) hu36 rfl info_font ?_))
  refine (konst_cd HP.out HF.out (by rfl) 52 c z).mono ?_
  rintro _ w1 ⟨rfl, hp⟩
  replace HP := Aside0.mk hp
  clear hp
  obtain ⟨fr, h_fr⟩ : ∃ fr, fr = keepV th.2 (konstV F 52 c z) := ⟨_, rfl⟩
  rw [← h_fr] at HP ⊢
  have H_fr := Aside0.mk h_fr
  clear h_fr
  have e10 := Pd.oldc HP.out HD0.out; have e11 := Pd.oldc HP.out HD1.out; have e12 := Pd.oldc HP.out HD2.out; have e13 := Pd.oldc HP.out HD3.out; have e14 := Pd.oldc HP.out HD4.out; have e15 := Pd.oldc HP.out HD5.out; have e16 := Pd.oldc HP.out HD6.out
  go_wp2_with (first | ((with_reducible refine gate_dst (N := 20) rfl ?_); refine box_event ?hg (N := 20) ?hd (cs := #[.int .i64 0, .int .i64 0, .int .i64 0, .int .i64 0, .int .i64 0, .int .i64 0, .slice none 0 0]) (t := 39) ?hr ?_; (case hd => rfl); (case hg => rfl); (case hr => first | (go_simp; done) | (go_simp; rfl)); intro gd hg wk9 hbox hb; replace HP := Aside0.mk (Pd.swp (Pd.box (by with_reducible repeat (first | exact HP.out | apply Pd.drew)) hg hbox hb)); clear hg hbox hb; have hcz := cells7 (Pd.hd (Pd.tl HP.out)); have hfz := froz7 (Pd.hd (Pd.tl HP.out)); clear e10 e11 e12 e13 e14 e15 e16; have e10 := Pd.oldc HP.out HD0.out; have e11 := Pd.oldc HP.out HD1.out; have e12 := Pd.oldc HP.out HD2.out; have e13 := Pd.oldc HP.out HD3.out; have e14 := Pd.oldc HP.out HD4.out; have e15 := Pd.oldc HP.out HD5.out; have e16 := Pd.oldc HP.out HD6.out) | (have hgo := hcz; clear hgo; (with_reducible refine gate_dst (N := 63) rfl ?_); refine Pd.fold (Pd.swp (Pd.st7 (Pd.swp HP.out))) ?_; intro W' h0; replace HP := Aside0.mk h0; clear h0 hcz hfz e10 e11 e12 e13 e14 e15 e16; refine wpList_load_row rfl 36 (.tmp 6) rfl gf (by rfl) 36 #[.int .i64 F.f0.f0, .int .i64 F.f0.f1, .int .i64 F.f0.f2, .int .i64 F.f0.f3, .int .i64 F.f0.f4, .bool F.f0.f5, .slice A6 F.f1.length c6, .slice A7 F.f2.length c7, .slice A8 F.f3.length c8, .slice A9 F.f4.f0.length c9, .slice A10 F.f4.f1.length c10, .slice A11 F.f4.f2.length c11, .slice A12 F.f4.f3.length c12, .slice A13 F.f4.f4.length c13, .int .i64 F.f4.f5.f0, .slice A15 F.f4.f5.f1.length c15, .slice A16 F.f4.f5.f2.length c16] (0, 0) _ (Pd.hd (Pd.tl (Pd.tl (Pd.tl (Pd.tl (Pd.tl (by with_reducible repeat (first | exact HP.out | apply Pd.drew)))))))) hu36 rfl info_font ?_))
  refine (konst_cd HP.out HF.out (by rfl) 53 c z).mono ?_
  rintro _ w1 ⟨rfl, hp⟩
  replace HP := Aside0.mk hp
  clear hp
  obtain ⟨ah, h_ah⟩ : ∃ ah, ah = keepV fr.2 (konstV F 53 c z) := ⟨_, rfl⟩
  rw [← h_ah] at HP ⊢
  have H_ah := Aside0.mk h_ah
  clear h_ah
  go_wp2_with (first | ((with_reducible refine gate_dst (N := 68) rfl ?_); refine wpList_load_row rfl 36 (.tmp 6) rfl gf (by rfl) 36 #[.int .i64 F.f0.f0, .int .i64 F.f0.f1, .int .i64 F.f0.f2, .int .i64 F.f0.f3, .int .i64 F.f0.f4, .bool F.f0.f5, .slice A6 F.f1.length c6, .slice A7 F.f2.length c7, .slice A8 F.f3.length c8, .slice A9 F.f4.f0.length c9, .slice A10 F.f4.f1.length c10, .slice A11 F.f4.f2.length c11, .slice A12 F.f4.f3.length c12, .slice A13 F.f4.f4.length c13, .int .i64 F.f4.f5.f0, .slice A15 F.f4.f5.f1.length c15, .slice A16 F.f4.f5.f2.length c16] (0, 0) _ (Pd.hd (Pd.tl (Pd.tl (Pd.tl (Pd.tl (Pd.tl (by with_reducible repeat (first | exact HP.out | apply Pd.drew)))))))) hu36 rfl info_font ?_))
  refine (konst_cd HP.out HF.out (by rfl) 54 c z).mono ?_
  rintro _ w1 ⟨rfl, hp⟩
  replace HP := Aside0.mk hp
  clear hp
  obtain ⟨bh, h_bh⟩ : ∃ bh, bh = keepV ah.2 (konstV F 54 c z) := ⟨_, rfl⟩
  rw [← h_bh] at HP ⊢
  have H_bh := Aside0.mk h_bh
  clear h_bh
  have hc_b := box_cells (Pd.hd (Pd.tl (Pd.tl (Pd.tl (Pd.tl HP.out)))))
  go_wp2_with fail
  clear hc_b
  refine (need_cd HP.out b Ab nb).mono ?_
  rintro _ w1 ⟨rfl, hp⟩
  replace HP := Aside0.mk hp
  clear hp
  obtain ⟨e_b, h_e_b⟩ : ∃ e_b, e_b = needE [b] bh.2 := ⟨_, rfl⟩
  rw [← h_e_b] at HP
  have H_e_b := Aside0.mk h_e_b
  clear h_e_b
  have hc_s := box_cells (Pd.hd (Pd.tl (Pd.tl (Pd.tl HP.out))))
  go_wp2_with fail
  clear hc_s
  refine (need_cd HP.out s As ns).mono ?_
  rintro _ w1 ⟨rfl, hp⟩
  replace HP := Aside0.mk hp
  clear hp
  obtain ⟨e_s, h_e_s⟩ : ∃ e_s, e_s = needE [s] e_b := ⟨_, rfl⟩
  rw [← h_e_s] at HP
  have H_e_s := Aside0.mk h_e_s
  clear h_e_s
  have hc_d := box_cells (Pd.hd (Pd.tl HP.out))
  go_wp2_with fail
  clear hc_d
  refine (need_cd HP.out d A8d c8d).mono ?_
  rintro _ w1 ⟨rfl, hp⟩
  replace HP := Aside0.mk hp
  clear hp
  obtain ⟨e_d, h_e_d⟩ : ∃ e_d, e_d = needE [d] e_s := ⟨_, rfl⟩
  rw [← h_e_d] at HP
  have H_e_d := Aside0.mk h_e_d
  clear h_e_d
  have hc0 := hd_cell HP.out.hd
  by_cases hee : e_d = 0
  rotate_left
  · have hd1 : (e_d != 0) = true := by simp; exact hee
    have HE := Aside0.mk hee
    clear hee
    have hgr : gr ≠ gk := (List.pairwise_cons.1 HP.out.dis).1 (gr, .cells #[.int .i64 0, .int .i64 0, .int .i64 0, .int .i64 0, .int .i64 0, .int .i64 0, .slice none 0 0] 39 (0, 0)) (by with_reducible repeat (first | exact List.mem_cons_self | apply List.mem_cons_of_mem))
    have hgr2 := hgr.symm
    have hcz := cells7 (Pd.hd (Pd.tl (Pd.tl HP.out)))
    have hfz := froz7 (Pd.hd (Pd.tl (Pd.tl HP.out)))
    go_wp2_with fail
    go_region
    all_goals go_wp2
    all_goals refine bodyPost_ret (results_ct rfl _ _ gr 39 #[.int .i64 0, .int .i64 0, .int .i64 0, .int .i64 0, .int .i64 0, .int .i64 0, .slice none 0 0] (0, 0) _ rfl (blk_drew (put7 (Pd.hd (Pd.tl (Pd.tl HP.out))))) hu39 rfl (by kernel_rfl)) rfl ?_
    have hRR : R = (0, 0, 0, 0, 0, 0, [], e_d) := by (rw [HR.out]; have h_gp := H_gp.out; have h_th := H_th.out; have h_fr := H_fr.out; have h_ah := H_ah.out; have h_bh := H_bh.out; have h_e_b := H_e_b.out; have h_e_s := H_e_s.out; have h_e_d := H_e_d.out; subst h_gp h_th h_fr h_ah h_bh h_e_b h_e_s h_e_d; unfold rRadV1; exact if_neg HE.out)
    rw [hRR]
    exact ⟨none, 0, rfl, Nat.le_refl _, Kd.C_nil _ _, Pre.bel (Pd.toPre (Pd.drew (Pd.st7 (Pd.tl (Pd.tl HP.out)))))⟩
  · have hd1 : (e_d != 0) = false := by simp; exact hee
    have hlen : F.f4.f0.length = 56 := by
      have k0 := (needE_ok (H_e_d.out.symm.trans hee)).1
      have k1 := (needE_ok (H_e_s.out.symm.trans k0)).1
      have k2 := (needE_ok (H_e_b.out.symm.trans k1)).1
      have k3 := keepV_ok (H_bh.out ▸ k2)
      exact konst_long k3.2.1
    obtain ⟨ak, hAk, hk55⟩ := Kd.at_int HG9.out 55 (by omega) (by rw [hlen]; omega)
    subst hAk
    simp only [show (55 : Int).toNat = 55 from rfl] at hk55
    simp only [Addr.add, show ¬ (55 : Nat) = 0 by omega, if_false] at hk55
    have HK55 := Aside0.mk hk55
    clear hk55
    have HF9 : Aside0 (∀ (W : World) (L : List (Nat × Obj)), Pd w W L → W.heap[gf]? = some (.cells #[.int .i64 F.f0.f0, .int .i64 F.f0.f1, .int .i64 F.f0.f2, .int .i64 F.f0.f3, .int .i64 F.f0.f4, .bool F.f0.f5, .slice A6 F.f1.length c6, .slice A7 F.f2.length c7, .slice A8 F.f3.length c8, .slice (some ak) F.f4.f0.length c9, .slice A10 F.f4.f1.length c10, .slice A11 F.f4.f2.length c11, .slice A12 F.f4.f3.length c12, .slice A13 F.f4.f4.length c13, .int .i64 F.f4.f5.f0, .slice A15 F.f4.f5.f1.length c15, .slice A16 F.f4.f5.f2.length c16] 36 (0, 0)) → W.cell? ⟨gf, 9, none⟩ = some (.slice (some ak) 56 c9) ∧ W.cell? ⟨ak.block, ak.off + 55, none⟩ = some (.int .i64 (rd F.f4.f0 55))) := ⟨fun W L h h1 => by have h2 := blk_cell h1 9; rw [show (#[.int .i64 F.f0.f0, .int .i64 F.f0.f1, .int .i64 F.f0.f2, .int .i64 F.f0.f3, .int .i64 F.f0.f4, .bool F.f0.f5, .slice A6 F.f1.length c6, .slice A7 F.f2.length c7, .slice A8 F.f3.length c8, .slice (some ak) F.f4.f0.length c9, .slice A10 F.f4.f1.length c10, .slice A11 F.f4.f2.length c11, .slice A12 F.f4.f3.length c12, .slice A13 F.f4.f4.length c13, .int .i64 F.f4.f5.f0, .slice A15 F.f4.f5.f1.length c15, .slice A16 F.f4.f5.f2.length c16] : Array Value)[9]? = some (.slice (some ak) F.f4.f0.length c9) from rfl, hlen] at h2; exact ⟨h2, h.oldc HK55.out⟩⟩
    clear hlen
    have HEE := Aside0.mk hee
    clear hee
    go_wp2_with fail
    clear hc0 hd1
    go_region_held3 (fun w' => w'.cell? ⟨gb, 2, none⟩ = some (.int .i64 b.f2) ∧ w'.cell? ⟨gb, 3, none⟩ = some (.int .i64 b.f3)) (with_reducible exact cells23 (Pd.getb (by with_reducible repeat (first | exact HP.out | apply Pd.alloc | apply Pd.drew)) (by with_reducible repeat (first | exact List.mem_cons_self | apply List.mem_cons_of_mem)))) (first | (go_at_call 50; (try simp only [i64_w]); refine (add_cd (by with_reducible repeat (first | exact HP.out | apply Pd.alloc | apply Pd.drew)) _ _).mono ?_; rintro _ w1 ⟨rfl, hp⟩; replace HP := Aside0.mk hp; clear hp))
    obtain ⟨n1, h_n1⟩ : ∃ n1, n1 = keepV e_d (toldOf (sumR [gp.1, th.1])) := ⟨_, rfl⟩
    rw [← h_n1] at HP ⊢
    have H_n1 := Aside0.mk h_n1
    clear h_n1
    obtain ⟨n2, h_n2⟩ : ∃ n2, n2 = keepV n1.2 (toldOf (sumR [n1.1, b.f2])) := ⟨_, rfl⟩
    rw [← h_n2] at HP ⊢
    have H_n2 := Aside0.mk h_n2
    clear h_n2
    obtain ⟨n, h_n⟩ : ∃ n, n = keepV n2.2 (toldOf (sumR [n2.1, b.f3])) := ⟨_, rfl⟩
    rw [← h_n] at HP ⊢
    have H_n := Aside0.mk h_n
    clear h_n
    have hc_s := box_cells (Pd.hd (Pd.tl (Pd.tl (Pd.tl HP.out))))
    go_wp2_with fail
    clear hc_s
    (try simp only [i64_w])
    refine (add_cd HP.out s.f2 s.f3).mono ?_
    rintro _ w1 ⟨rfl, hp⟩
    replace HP := Aside0.mk hp
    clear hp
    obtain ⟨h, h_h⟩ : ∃ h, h = keepV n.2 (toldOf (sumR [s.f2, s.f3])) := ⟨_, rfl⟩
    rw [← h_h] at HP ⊢
    have H_h := Aside0.mk h_h
    clear h_h
    obtain ⟨q, h_q⟩ : ∃ q, q = radGap gp.1 n.1 h.1 h.2 := ⟨_, rfl⟩
    have H_q := Aside0.mk h_q
    clear h_q
    go_upto_if 111 with fail
    go_cut [15] from 109 (fun s15 w' => s15 = .int .i64 q.1 ∧ Aside0 (Pd w w' [(gk, .cells #[.int .i64 q.2] 74 (0, 0)), (gd, .cells #[.int .i64 d.f0, .int .i64 d.f1, .int .i64 d.f2, .int .i64 d.f3, .int .i64 d.f4, .int .i64 d.f5, .slice A8d d.f6.length c8d] 39 (0, 0)), (gr, .cells #[.int .i64 0, .int .i64 0, .int .i64 0, .int .i64 0, .int .i64 0, .int .i64 0, .slice none 0 0] 39 (0, 0)), (gs, .cells #[.int .i64 s.f0, .int .i64 s.f1, .int .i64 s.f2, .int .i64 s.f3, .int .i64 s.f4, .int .i64 s.f5, .slice As s.f6.length ns] 39 (0, 0)), (gb, .cells #[.int .i64 b.f0, .int .i64 b.f1, .int .i64 b.f2, .int .i64 b.f3, .int .i64 b.f4, .int .i64 b.f5, .slice Ab b.f6.length nb] 39 (0, 0)), (gf, .cells #[.int .i64 F.f0.f0, .int .i64 F.f0.f1, .int .i64 F.f0.f2, .int .i64 F.f0.f3, .int .i64 F.f0.f4, .bool F.f0.f5, .slice A6 F.f1.length c6, .slice A7 F.f2.length c7, .slice A8 F.f3.length c8, .slice (some ak) F.f4.f0.length c9, .slice A10 F.f4.f1.length c10, .slice A11 F.f4.f2.length c11, .slice A12 F.f4.f3.length c12, .slice A13 F.f4.f4.length c13, .int .i64 F.f4.f5.f0, .slice A15 F.f4.f5.f1.length c15, .slice A16 F.f4.f5.f2.length c16] 36 (0, 0))]))
    case first =>
      by_cases hnh : n.1 < h.1
      · have hd2 : decide (n.1 < h.1) = true := decide_eq_true hnh
        go_wp2_with fail
        (try simp only [i64_w])
        refine (sub_cd HP.out h.1 n.1).mono ?_
        rintro _ w1 ⟨rfl, hp⟩
        replace HP := Aside0.mk hp
        clear hp
        obtain ⟨q1, h_q1⟩ : ∃ q1, q1 = keepV h.2 (toldOf (sumR [h.1, wrap64 (-n.1)])) := ⟨_, rfl⟩
        rw [← h_q1] at HP ⊢
        have H_q1 := Aside0.mk h_q1
        clear h_q1
        go_wp2_with fail
        refine (half_cd HP.out q1.1).mono ?_
        rintro _ w1 ⟨rfl, hp⟩
        replace HP := Aside0.mk hp
        clear hp
        obtain ⟨q2, h_q2⟩ : ∃ q2, q2 = keepV q1.2 (toldOf (halfR q1.1)) := ⟨_, rfl⟩
        rw [← h_q2] at HP ⊢
        have H_q2 := Aside0.mk h_q2
        clear h_q2
        go_wp2_with fail
        (try simp only [i64_w])
        refine (add_cd HP.out gp.1 q2.1).mono ?_
        rintro _ w1 ⟨rfl, hp⟩
        replace HP := Aside0.mk hp
        clear hp
        obtain ⟨q3, h_q3⟩ : ∃ q3, q3 = keepV q2.2 (toldOf (sumR [gp.1, q2.1])) := ⟨_, rfl⟩
        rw [← h_q3] at HP ⊢
        have H_q3 := Aside0.mk h_q3
        clear h_q3
        have hq : q = q3 := by (rw [H_q.out]; unfold radGap; rw [if_pos hnh]; have h_q1 := H_q1.out; have h_q2 := H_q2.out; have h_q3 := H_q3.out; subst h_q1 h_q2 h_q3; try rfl)
        go_wp2_with fail; go_meet; rw [hq]; exact ⟨rfl, ⟨(by with_reducible repeat (first | exact HP.out | apply Pd.drew))⟩⟩
      · have hd2 : decide (n.1 < h.1) = false := decide_eq_false hnh
        have hq : q = (gp.1, h.2) := by (rw [H_q.out]; unfold radGap; exact if_neg hnh)
        go_wp2_with fail; go_meet; rw [hq]; exact ⟨rfl, ⟨(by with_reducible repeat (first | exact HP.out | apply Pd.drew))⟩⟩
    case rest =>
      obtain ⟨rfl, HP⟩ := hcut
      have hc_b := box_cells (Pd.hd (Pd.tl (Pd.tl (Pd.tl (Pd.tl HP.out)))))
      go_wp2_with fail
      clear hc_b
      (try simp only [i64_w])
      refine (add_cd HP.out b.f2 q.1).mono ?_
      rintro _ w1 ⟨rfl, hp⟩
      replace HP := Aside0.mk hp
      clear hp
      obtain ⟨t1, h_t1⟩ : ∃ t1, t1 = keepV q.2 (toldOf (sumR [b.f2, q.1])) := ⟨_, rfl⟩
      rw [← h_t1] at HP ⊢
      have H_t1 := Aside0.mk h_t1
      clear h_t1
      go_wp2_with fail
      (try simp only [i64_w])
      refine (add_cd HP.out t1.1 th.1).mono ?_
      rintro _ w1 ⟨rfl, hp⟩
      replace HP := Aside0.mk hp
      clear hp
      obtain ⟨top, h_top⟩ : ∃ top, top = keepV t1.2 (toldOf (sumR [t1.1, th.1])) := ⟨_, rfl⟩
      rw [← h_top] at HP ⊢
      have H_top := Aside0.mk h_top
      clear h_top
      have hc_s := box_cells (Pd.hd (Pd.tl (Pd.tl (Pd.tl HP.out))))
      go_wp2_with fail
      clear hc_s
      (try simp only [i64_w])
      refine (sub_cd HP.out top.1 s.f2).mono ?_
      rintro _ w1 ⟨rfl, hp⟩
      replace HP := Aside0.mk hp
      clear hp
      obtain ⟨up, h_up⟩ : ∃ up, up = keepV top.2 (toldOf (sumR [top.1, wrap64 (-s.f2)])) := ⟨_, rfl⟩
      rw [← h_up] at HP ⊢
      have H_up := Aside0.mk h_up
      clear h_up
      have hc_d := box_cells (Pd.hd (Pd.tl HP.out))
      go_wp2_with fail
      clear hc_d
      (try simp only [i64_w])
      refine (add_cd HP.out ah.1 d.f1).mono ?_
      rintro _ w1 ⟨rfl, hp⟩
      replace HP := Aside0.mk hp
      clear hp
      obtain ⟨x1, h_x1⟩ : ∃ x1, x1 = keepV up.2 (toldOf (sumR [ah.1, d.f1])) := ⟨_, rfl⟩
      rw [← h_x1] at HP ⊢
      have H_x1 := Aside0.mk h_x1
      clear h_x1
      go_wp2_with fail
      (try simp only [i64_w])
      refine (add_cd HP.out x1.1 bh.1).mono ?_
      rintro _ w1 ⟨rfl, hp⟩
      replace HP := Aside0.mk hp
      clear hp
      obtain ⟨xs, h_xs⟩ : ∃ xs, xs = keepV x1.2 (toldOf (sumR [x1.1, bh.1])) := ⟨_, rfl⟩
      rw [← h_xs] at HP ⊢
      have H_xs := Aside0.mk h_xs
      clear h_xs
      have hj := HF9.out _ _ HP.out (Pd.hd (Pd.tl (Pd.tl (Pd.tl (Pd.tl (Pd.tl HP.out))))))
      obtain ⟨hj1, hj2⟩ := hj
      go_wp2_with fail
      clear hj1 hj2
      refine (mulDiv01 _ _ _ _).mono ?_
      rintro _ w1 ⟨rfl, rfl⟩
      go_wp2_with fail
      go_region_held3 (fun w' => w'.cell? ⟨gd, 3, none⟩ = some (.int .i64 d.f3) ∧ w'.cell? ⟨gs, 3, none⟩ = some (.int .i64 s.f3)) (with_reducible exact cells33 (Pd.getb (by with_reducible repeat (first | exact HP.out | apply Pd.alloc | apply Pd.drew)) (by with_reducible repeat (first | exact List.mem_cons_self | apply List.mem_cons_of_mem))) (Pd.getb (by with_reducible repeat (first | exact HP.out | apply Pd.alloc | apply Pd.drew)) (by with_reducible repeat (first | exact List.mem_cons_self | apply List.mem_cons_of_mem)))) (first | (go_at_call 48; (try simp only [i64_w]); refine (sub_cd (by with_reducible repeat (first | exact HP.out | apply Pd.alloc | apply Pd.drew)) _ _).mono ?_; rintro _ w1 ⟨rfl, hp⟩; replace HP := Aside0.mk hp; clear hp) | (go_at_call 50; (try simp only [i64_w]); refine (add_cd (by with_reducible repeat (first | exact HP.out | apply Pd.alloc | apply Pd.drew)) _ _).mono ?_; rintro _ w1 ⟨rfl, hp⟩; replace HP := Aside0.mk hp; clear hp) | (go_at_call 66; (try simp only [i64_w]); refine (got_cd (by with_reducible repeat (first | exact HP.out | apply Pd.alloc | apply Pd.drew)) _ _).mono ?_; rintro _ w1 ⟨rfl, hp⟩; replace HP := Aside0.mk hp; clear hp))
      obtain ⟨u2, h_u2⟩ : ∃ u2, u2 = keepV xs.2 (toldOf (sumR [up.1, wrap64 (-s.f3)])) := ⟨_, rfl⟩
      rw [← h_u2] at HP ⊢
      have H_u2 := Aside0.mk h_u2
      clear h_u2
      obtain ⟨y1, h_y1⟩ : ∃ y1, y1 = keepV u2.2 (toldOf (sumR [d.f3, u2.1])) := ⟨_, rfl⟩
      rw [← h_y1] at HP ⊢
      have H_y1 := Aside0.mk h_y1
      clear h_y1
      obtain ⟨ra, h_ra⟩ : ∃ ra, ra = keepV y1.2 (toldOf (mulDivR h.1 (rd F.f4.f0 55) 100)) := ⟨_, rfl⟩
      rw [← h_ra] at HP ⊢
      have H_ra := Aside0.mk h_ra
      clear h_ra
      obtain ⟨y, h_y⟩ : ∃ y, y = keepV ra.2 (toldOf (sumR [y1.1, ra.1])) := ⟨_, rfl⟩
      rw [← h_y] at HP ⊢
      have H_y := Aside0.mk h_y
      clear h_y
      obtain ⟨i49, hi49, hz49, hs49, hby49⟩ := info_parts info49
      have HKX := Aside0.mk (k49_mk w ⟨ah.1, y.1, d⟩ HLd.out HCd.out)
      have HRW := Aside0.mk (Row.nil (d := k49) (e := 49) HP.out)
      have hc_d := cells7 (Pd.hd (Pd.tl HP.out))
      go_wp2_with (first | ((with_reducible refine gate_dst (N := 177) rfl ?_); refine Row.appendL (d := k49) (e := 49) (ts := 37) Try.underlying37 hi49 hz49 hs49 hby49 rfl (by decide) (HRW.out.alc _) (by rfl) _ _ (by rfl) (by rfl) (c := [.int .i64 ah.1, .int .i64 y.1, .int .i64 d.f0, .int .i64 d.f1, .int .i64 d.f2, .int .i64 d.f3, .int .i64 d.f4, .int .i64 d.f5, .slice A8d d.f6.length c8d]) (by rfl) (by exact alloc_last _ _) HKX.out (by simp [Value.oneCell']) (by decide) (by decide) ?_; intro q0 cap0 w2 hR; obtain ⟨o0, hown, hp⟩ := hR.own1; have HOWN := Aside0.mk (show OwnAt w q0 cap0 o0 [⟨ah.1, y.1, d⟩] from hown); replace HP := Aside0.mk (Pd.swp hp); clear hR hown hp hc_d HRW; have hc_s := box_cells (Pd.hd (Pd.tl (Pd.tl (Pd.tl (Pd.tl HP.out)))))))
      clear hc_s
      (try simp only [i64_w])
      refine (add_cd HP.out (max 0 xs.1) s.f1).mono ?_
      rintro _ w1 ⟨rfl, hp⟩
      replace HP := Aside0.mk hp
      clear hp
      obtain ⟨at_, h_at_⟩ : ∃ at_, at_ = keepV y.2 (toldOf (sumR [(max 0 xs.1), s.f1])) := ⟨_, rfl⟩
      rw [← h_at_] at HP ⊢
      have H_at_ := Aside0.mk h_at_
      clear h_at_
      have hc_b := box_cells (Pd.hd (Pd.tl (Pd.tl (Pd.tl (Pd.tl (Pd.tl HP.out))))))
      go_wp2_with (first | ((with_reducible refine gate_dst (N := 31) rfl ?_); refine box_event ?hg (N := 31) ?hd (cs := #[.int .i64 0, .int .i64 0, .int .i64 0, .int .i64 0, .int .i64 0, .int .i64 0, .slice none 0 0]) (t := 39) ?hr ?_; (case hd => rfl); (case hg => rfl); (case hr => first | (go_simp; done) | (go_simp; rfl)); intro gu hg wk9 hbox hb; replace HP := Aside0.mk (Pd.swp (Pd.box (by with_reducible repeat (first | exact HP.out | apply Pd.drew)) hg hbox hb)); clear hg hbox hb; have hcz := cells7 (Pd.hd (Pd.tl HP.out)); have hfz := froz7 (Pd.hd (Pd.tl HP.out))))
      refine Pd.foldD (Pd.swp (Pd.st7 (Pd.swp HP.out))) ?_
      intro W' hp
      replace HP := Aside0.mk hp
      clear hp hcz hfz hc_b
      go_wp2_with fail
      go_region_held3 (fun w' => w'.cell? ⟨gs, 0, none⟩ = some (.int .i64 s.f0) ∧ w'.cell? ⟨gs, 1, none⟩ = some (.int .i64 s.f1) ∧ w'.cell? ⟨gs, 2, none⟩ = some (.int .i64 s.f2) ∧ w'.cell? ⟨gs, 3, none⟩ = some (.int .i64 s.f3) ∧ w'.cell? ⟨gs, 4, none⟩ = some (.int .i64 s.f4) ∧ w'.cell? ⟨gs, 5, none⟩ = some (.int .i64 s.f5) ∧ w'.cell? ⟨gs, 6, none⟩ = some (.slice As s.f6.length ns) ∧ w'.cell? ⟨gu, 0, none⟩ = some (.int .i64 2) ∧ w'.cell? ⟨gu, 1, none⟩ = some (.int .i64 b.f1) ∧ w'.cell? ⟨gu, 2, none⟩ = some (.int .i64 th.1) ∧ w'.cell? ⟨gu, 3, none⟩ = some (.int .i64 0) ∧ w'.cell? ⟨gu, 4, none⟩ = some (.int .i64 0) ∧ w'.cell? ⟨gu, 5, none⟩ = some (.int .i64 0) ∧ w'.cell? ⟨gu, 6, none⟩ = some (.slice none 0 0) ∧ w'.cell? ⟨gb, 0, none⟩ = some (.int .i64 b.f0) ∧ w'.cell? ⟨gb, 1, none⟩ = some (.int .i64 b.f1) ∧ w'.cell? ⟨gb, 2, none⟩ = some (.int .i64 b.f2) ∧ w'.cell? ⟨gb, 3, none⟩ = some (.int .i64 b.f3) ∧ w'.cell? ⟨gb, 4, none⟩ = some (.int .i64 b.f4) ∧ w'.cell? ⟨gb, 5, none⟩ = some (.int .i64 b.f5) ∧ w'.cell? ⟨gb, 6, none⟩ = some (.slice Ab b.f6.length nb)) (with_reducible exact three_cells (Pd.getb (by with_reducible repeat (first | exact HP.out | apply Pd.alloc | apply Pd.drew)) (by with_reducible repeat (first | exact List.mem_cons_self | apply List.mem_cons_of_mem))) (Pd.getb (by with_reducible repeat (first | exact HP.out | apply Pd.alloc | apply Pd.drew)) (by with_reducible repeat (first | exact List.mem_cons_self | apply List.mem_cons_of_mem))) (Pd.getb (by with_reducible repeat (first | exact HP.out | apply Pd.alloc | apply Pd.drew)) (by with_reducible repeat (first | exact List.mem_cons_self | apply List.mem_cons_of_mem)))) (first | (go_at_call 48; (try simp only [i64_w]); refine (sub_cd (by with_reducible repeat (first | exact HP.out | apply Pd.alloc | apply Pd.drew)) _ _).mono ?_; rintro _ w1 ⟨rfl, hp⟩; replace HP := Aside0.mk hp; clear hp) | (go_at_call 50; (try simp only [i64_w]); refine (add_cd (by with_reducible repeat (first | exact HP.out | apply Pd.alloc | apply Pd.drew)) _ _).mono ?_; rintro _ w1 ⟨rfl, hp⟩; replace HP := Aside0.mk hp; clear hp) | ((with_reducible refine gate_app ?_); refine append_on (by rfl) _ _ (by rfl) [(⟨ah.1, y.1, d⟩ : S49)] (by rfl) HOWN.out (by rfl) [⟨(max 0 xs.1), up.1, s⟩, ⟨at_.1, (keepV at_.2 (toldOf (sumR [top.1, wrap64 (-th.1)]))).1, ⟨2, b.f1, th.1, 0, 0, 0, []⟩⟩, ⟨at_.1, 0, b⟩, ⟨0, 0, ⟨0, 0, (keepV (keepV at_.2 (toldOf (sumR [top.1, wrap64 (-th.1)]))).2 (toldOf (sumR [top.1, fr.1]))).1, 0, 0, 0, []⟩⟩] [[.int .i64 (max 0 xs.1), .int .i64 up.1, .int .i64 s.f0, .int .i64 s.f1, .int .i64 s.f2, .int .i64 s.f3, .int .i64 s.f4, .int .i64 s.f5, .slice As s.f6.length ns], [.int .i64 at_.1, .int .i64 (keepV at_.2 (toldOf (sumR [top.1, wrap64 (-th.1)]))).1, .int .i64 2, .int .i64 b.f1, .int .i64 th.1, .int .i64 0, .int .i64 0, .int .i64 0, .slice none 0 0], [.int .i64 at_.1, .int .i64 0, .int .i64 b.f0, .int .i64 b.f1, .int .i64 b.f2, .int .i64 b.f3, .int .i64 b.f4, .int .i64 b.f5, .slice Ab b.f6.length nb], [.int .i64 0, .int .i64 0, .int .i64 0, .int .i64 0, .int .i64 (keepV (keepV at_.2 (toldOf (sumR [top.1, wrap64 (-th.1)]))).2 (toldOf (sumR [top.1, fr.1]))).1, .int .i64 0, .int .i64 0, .int .i64 0, .slice none 0 0]] (by rfl) (by decide) (by decide) (Nat.le_of_ble_eq_true rfl) (by first | exact alloc_last _ _ | exact blk_drew (alloc_last _ _)) (by with_reducible repeat (first | apply Pd.alloc | apply Pd.drew | exact Pd.third HP.out)) ⟨k49_mk w ⟨(max 0 xs.1), up.1, s⟩ HLs.out HCs.out, k49_mk w ⟨at_.1, (keepV at_.2 (toldOf (sumR [top.1, wrap64 (-th.1)]))).1, ⟨2, b.f1, th.1, 0, 0, 0, []⟩⟩ (A8 := none) (c8 := 0) (Nat.le_refl _) ⟨rfl, Nat.zero_le _, fun h => absurd h (Nat.lt_irrefl 0)⟩, k49_mk w ⟨at_.1, 0, b⟩ HLb.out HCb.out, k49_mk w ⟨0, 0, ⟨0, 0, (keepV (keepV at_.2 (toldOf (sumR [top.1, wrap64 (-th.1)]))).2 (toldOf (sumR [top.1, fr.1]))).1, 0, 0, 0, []⟩⟩ (A8 := none) (c8 := 0) (Nat.le_refl _) ⟨rfl, Nat.zero_le _, fun h => absurd h (Nat.lt_irrefl 0)⟩, trivial⟩ (by simp [Value.oneCell']) ?_; intro q4 cap o4 w1 hp hcap hrow; replace HP := Aside0.mk hp; have HROW := Aside0.mk hrow; clear hp hcap hrow))
      go_wp2_with fail
      obtain ⟨ln, h_ln⟩ : ∃ ln, ln = keepV at_.2 (toldOf (sumR [top.1, wrap64 (-th.1)])) := ⟨_, rfl⟩
      rw [← h_ln] at HP ⊢
      have H_ln := Aside0.mk h_ln
      clear h_ln
      obtain ⟨hi, h_hi⟩ : ∃ hi, hi = keepV ln.2 (toldOf (sumR [top.1, fr.1])) := ⟨_, rfl⟩
      rw [← h_hi] at HP ⊢
      have H_hi := Aside0.mk h_hi
      clear h_hi
      replace HROW : Aside0 (RowAt w q4 o4 ([⟨ah.1, y.1, d⟩, ⟨(max 0 xs.1), up.1, s⟩, ⟨at_.1, ln.1, ⟨2, b.f1, th.1, 0, 0, 0, []⟩⟩, ⟨at_.1, 0, b⟩, ⟨0, 0, ⟨0, 0, hi.1, 0, 0, 0, []⟩⟩] : List S49)) := ⟨by (have h_ln := H_ln.out; have h_hi := H_hi.out; subst h_hi; subst h_ln; exact HROW.out)⟩
      replace HP := Aside0.mk (Pd.swp HP.out)
      have hc_b := box_cells (Pd.hd (Pd.tl (Pd.tl (Pd.tl (Pd.tl (Pd.tl (Pd.tl HP.out)))))))
      go_wp2_with fail
      clear hc_b
      (try simp only [i64_w])
      refine (add_cd HP.out at_.1 b.f1).mono ?_
      rintro _ w1 ⟨rfl, hp⟩
      replace HP := Aside0.mk hp
      clear hp
      obtain ⟨wd, h_wd⟩ : ∃ wd, wd = keepV hi.2 (toldOf (sumR [at_.1, b.f1])) := ⟨_, rfl⟩
      rw [← h_wd] at HP ⊢
      have H_wd := Aside0.mk h_wd
      clear h_wd
      go_wp2_with fail
      refine (rset_own wd.1 [⟨ah.1, y.1, d⟩, ⟨(max 0 xs.1), up.1, s⟩, ⟨at_.1, ln.1, ⟨2, b.f1, th.1, 0, 0, 0, []⟩⟩, ⟨at_.1, 0, b⟩, ⟨0, 0, ⟨0, 0, hi.1, 0, 0, 0, []⟩⟩] (by simp) (Pd.swp HP.out) HROW.out).mono ?_
      rintro _ w1 ⟨A1, n1, rfl, hl, hf, hp⟩
      replace HP := Aside0.mk hp
      have HLL := Aside0.mk hl
      have HFF := Aside0.mk hf
      clear hp hl hf
      obtain ⟨V, h_V⟩ : ∃ V, V = setV wd.2 wd.1 [⟨ah.1, y.1, d⟩, ⟨(max 0 xs.1), up.1, s⟩, ⟨at_.1, ln.1, ⟨2, b.f1, th.1, 0, 0, 0, []⟩⟩, ⟨at_.1, 0, b⟩, ⟨0, 0, ⟨0, 0, hi.1, 0, 0, 0, []⟩⟩] := ⟨_, rfl⟩
      rw [← h_V] at HLL HFF ⊢
      have H_V := Aside0.mk h_V
      clear h_V
      obtain ⟨P0, hP0, hFF⟩ : ∃ P0 : Nat → Prop, (∀ k, P0 k → k ≠ gr) ∧ Kd.F k49 w1 P0 A1 V.2.2.2.2.2.2.1.length V.2.2.2.2.2.2.1 := ⟨_, fun k hk => hk (gr, .cells #[.int .i64 0, .int .i64 0, .int .i64 0, .int .i64 0, .int .i64 0, .int .i64 0, .slice none 0 0] 39 (0, 0)) (by with_reducible repeat (first | exact List.mem_cons_self | apply List.mem_cons_of_mem)), HFF.out⟩
      have HP0 := Aside0.mk hP0
      replace HFF := Aside0.mk hFF
      clear hP0 hFF
      go_wp2_with (first | ((with_reducible refine gate_dst (N := 33) rfl ?_); refine box_event ?hg (N := 33) ?hd (cs := #[.int .i64 0, .int .i64 0, .int .i64 0, .int .i64 0, .int .i64 0, .int .i64 0, .slice none 0 0]) (t := 39) ?hr ?_; (case hd => rfl); (case hg => rfl); (case hr => first | (go_simp; done) | (go_simp; rfl)); intro gv hg wk9 hbox hb; have HG := Aside0.mk hg; have HF2 := Aside0.mk (Kd.F_below (Kd.F_bound HFF.out) hb); replace HP := Aside0.mk (Pd.box (by with_reducible repeat (first | exact HP.out | apply Pd.drew)) hg hbox hb); clear hg hbox hb; have hcz := cells7 (Pd.hd HP.out); have hfz := froz7 (Pd.hd HP.out)) | (have hgo := hcz; clear hgo; (with_reducible refine gate_dst (N := 222) rfl ?_); refine Pd.foldT (T := fun W => Kd.F k49 W (fun k => P0 k ∧ k < w1.heap.size) A1 V.2.2.2.2.2.2.1.length V.2.2.2.2.2.2.1) (Pd.st7 HP.out) (Kd.F_step HF2.out (fun k hk hlt => far7 _ (by have h1 := HG.out; have h2 := hk.2; omega))) ?_; intro W' h0 hF0; replace HP := Aside0.mk h0; have HFZ := Aside0.mk hF0; clear h0 hF0 hcz hfz; have hsv := cells7 (Pd.hd HP.out); have hcr := cells7 (Pd.hd (Pd.tl (Pd.tl (Pd.tl (Pd.tl HP.out))))); have hfr := froz7 (Pd.hd (Pd.tl (Pd.tl (Pd.tl (Pd.tl HP.out)))))))
      go_wp2
      all_goals refine bodyPost_ret (results_ct rfl _ _ gr 39 #[.int .i64 V.1, .int .i64 V.2.1, .int .i64 V.2.2.1, .int .i64 V.2.2.2.1, .int .i64 V.2.2.2.2.1, .int .i64 V.2.2.2.2.2.1, .slice A1 V.2.2.2.2.2.2.1.length n1] (0, 0) _ rfl (put7 (Pd.hd (Pd.tl (Pd.tl (Pd.tl (Pd.tl HP.out)))))) hu39 rfl (by kernel_rfl)) rfl ?_
      have hVR : V = R := by (rw [HR.out]; have h_gp := H_gp.out; have h_th := H_th.out; have h_fr := H_fr.out; have h_ah := H_ah.out; have h_bh := H_bh.out; have h_e_b := H_e_b.out; have h_e_s := H_e_s.out; have h_e_d := H_e_d.out; have h_n1 := H_n1.out; have h_n2 := H_n2.out; have h_n := H_n.out; have h_h := H_h.out; have h_q := H_q.out; have h_t1 := H_t1.out; have h_top := H_top.out; have h_up := H_up.out; have h_x1 := H_x1.out; have h_xs := H_xs.out; have h_u2 := H_u2.out; have h_y1 := H_y1.out; have h_ra := H_ra.out; have h_y := H_y.out; have h_at_ := H_at_.out; have h_ln := H_ln.out; have h_hi := H_hi.out; have h_wd := H_wd.out; subst h_gp h_th h_fr h_ah h_bh h_e_b h_e_s h_e_d h_n1 h_n2 h_n h_h h_q h_t1 h_top h_up h_x1 h_xs h_u2 h_y1 h_ra h_y h_at_ h_ln h_hi h_wd; have h_V := H_V.out; subst h_V; unfold rRadV1; dsimp only; rw [if_pos HEE.out]; try rfl)
      rw [← hVR]
      exact ⟨A1, n1, rfl, HLL.out, HFZ.out _ (fun k hk _ => far7 _ (HP0.out k hk.1)), Pre.bel (Pd.toPre (Pd.st7 (Pd.tl (Pd.tl (Pd.tl (Pd.tl HP.out))))))⟩
end Go.Proofs.Ytjkbblnebpgpfaa.P
