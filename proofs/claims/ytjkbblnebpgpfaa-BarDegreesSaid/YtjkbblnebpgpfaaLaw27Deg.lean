import Derived.Test.YtjkbblnebpgpfaaBar10
import Derived.Test.YtjkbblnebpgpfaaBarH
import Derived.Test.YtjkbblnebpgpfaaBar15
/- The law BarDegrees: the walk. Printed by a program of this work (mklaw27g.py). -/
set_option linter.unusedVariables false
set_option linter.unusedSimpArgs false
namespace Go.Proofs.Ytjkbblnebpgpfaa.P
open Go.RowKit Go.Proofs.YtjkbblnebpgpfaaW.PrintWords Go.Proofs.YtjkbblnebpgpfaaW.PrintLast Go.Proofs.YtjkbblnebpgpfaaW.PrintMore

theorem Pd.base {w W : World} {L : List (Nat × Obj)} (h : Pd w W L) : ∀ p ∈ L, W.heap[p.1]? = some p.2 := fun p hp => (h.loc p hp).1
theorem Pd.olds {w W : World} {L M : List (Nat × Obj)} (h : Pd w W L) (hM : ∀ p ∈ M, w.heap[p.1]? = some p.2) {b : Nat} {o : Obj} (hm : (b, o) ∈ M) : W.heap[b]? = some o := by
  have h1 := hM _ hm
  rw [h.bel.block b (blk_lt h1)]
  exact h1
theorem Pd.rebase {w W : World} {L M : List (Nat × Obj)} (h : Pd w W L) (hM : ∀ p ∈ M, w.heap[p.1]? = some p.2) : ∀ p ∈ L ++ M, W.heap[p.1]? = some p.2 := by
  intro p hp
  rcases List.mem_append.1 hp with hp | hp
  · exact (h.loc p hp).1
  · exact h.olds hM hp

theorem setGo_nil1 {wd e : Int} {l : List S49} (h : (setV e wd l).2.2.2.2.2.2.2 ≠ 0) : (setV e wd l).2.2.2.2.2.2.1 = [] := by
  unfold setV at h ⊢
  by_cases he : e = 0
  · rw [if_pos he] at h ⊢
    unfold setR at h ⊢
    cases hg : setGo l 0 0 with
    | error e1 => rfl
    | ok p =>
      obtain ⟨hh, d⟩ := p
      rw [hg] at h
      simp only [setEnd] at h ⊢
      by_cases h1 : isLen wd = true
      · rw [if_pos h1] at h ⊢
        by_cases h2 : (isLen hh && isLen d) = true
        · rw [if_pos h2] at h
          exact absurd rfl h
        · rw [if_neg h2]
      · rw [if_neg h1]
  · rw [if_neg he]

theorem rad1_nil (F : S36) (c z : Int) (b s d : S39) (r : Int) (h : (radV1 F c z b s d r).2.2.2.2.2.2.2 ≠ 0) : (radV1 F c z b s d r).2.2.2.2.2.2.1 = [] := by
  unfold radV1 at h ⊢
  dsimp only at h ⊢
  split at h
  · next he => rw [if_pos he]; exact setGo_nil1 h
  · next he => rw [if_neg he]
theorem one_row {w W : World} {L : List (Nat × Obj)} {d : S39} {A : Option Addr} {n : Nat} {t : TypeId} (h : Pd w W L) (hl : d.f6.length ≤ n) (hC : Kd.C k49 w A d.f6.length d.f6) : Kd.C k39 (W.alloc (.cells #[.int .i64 d.f0, .int .i64 d.f1, .int .i64 d.f2, .int .i64 d.f3, .int .i64 d.f4, .int .i64 d.f5, .slice A d.f6.length n] t)) (some ⟨W.heap.size, 0, none⟩) 1 [d] :=
  row_C (xs := [d]) (css := [[.int .i64 d.f0, .int .i64 d.f1, .int .i64 d.f2, .int .i64 d.f3, .int .i64 d.f4, .int .i64 d.f5, .slice A d.f6.length n]]) ⟨k39_heap.K (fun k hlt => (h.alloc (.cells #[.int .i64 d.f0, .int .i64 d.f1, .int .i64 d.f2, .int .i64 d.f3, .int .i64 d.f4, .int .i64 d.f5, .slice A d.f6.length n] t)).bel.block k hlt) (k39_mk w d hl hC), trivial⟩ (alloc_last _ _) (by simp)
/-- The cells of a kid, in whatever world that keeps the frame. -/
theorem kid_cells {w0 : World} {ad : Addr} {xs : List S49} (h : Kd.C k49 w0 (some ad) xs.length xs) (k : Nat) (hk : k < xs.length) : ∃ A8 c8, xs[k].f2.f6.length ≤ c8 ∧ Kd.C k49 w0 A8 xs[k].f2.f6.length xs[k].f2.f6 ∧ ∀ (W : World) (L : List (Nat × Obj)), Pd w0 W L → W.cell? (ad.add (k * 9)) = some (.int .i64 xs[k].f0) ∧ W.cell? ⟨(ad.add (k * 9)).block, (ad.add (k * 9)).off + 1, none⟩ = some (.int .i64 xs[k].f1) ∧ W.cell? ⟨(ad.add (k * 9)).block, (ad.add (k * 9)).off + 2, none⟩ = some (.int .i64 xs[k].f2.f0) ∧ W.cell? ⟨(ad.add (k * 9)).block, (ad.add (k * 9)).off + 3, none⟩ = some (.int .i64 xs[k].f2.f1) ∧ W.cell? ⟨(ad.add (k * 9)).block, (ad.add (k * 9)).off + 4, none⟩ = some (.int .i64 xs[k].f2.f2) ∧ W.cell? ⟨(ad.add (k * 9)).block, (ad.add (k * 9)).off + 5, none⟩ = some (.int .i64 xs[k].f2.f3) ∧ W.cell? ⟨(ad.add (k * 9)).block, (ad.add (k * 9)).off + 6, none⟩ = some (.int .i64 xs[k].f2.f4) ∧ W.cell? ⟨(ad.add (k * 9)).block, (ad.add (k * 9)).off + 7, none⟩ = some (.int .i64 xs[k].f2.f5) ∧ W.cell? ⟨(ad.add (k * 9)).block, (ad.add (k * 9)).off + 8, none⟩ = some (.slice A8 xs[k].f2.f6.length c8) := by
  obtain ⟨ad', A8, c8, hA, h1, h2, h3⟩ := kid_keep h k hk
  cases hA
  exact ⟨A8, c8, h1, h2, fun W L hP => h3 W hP.bel⟩
theorem C_pd {w W : World} {L : List (Nat × Obj)} {A : Option Addr} {xs : List S49} (hC : Kd.C k49 w A xs.length xs) (h : Pd w W L) : Kd.C k49 W A xs.length xs := Kd.C_below hC h.bel
theorem deg_fin {x s1 b1 : Int} (h1 : isLen s1 = true) (h2 : isLen b1 = true) (h3 : isLen (s1 + b1) = true) (h4 : isLen (x + s1) = true) (h5 : isLen (x + s1 + b1) = true) (h6 : isLen x = true) :
    wrap64 x = x ∧ wrap64 (0 + x) = x ∧ wrap64 (s1 + x) = x + s1 ∧ wrap64 (s1 + b1 + x) = x + s1 + b1 := by
  obtain ⟨a1, a2⟩ := isLen_iff.1 h1
  obtain ⟨b1', b2'⟩ := isLen_iff.1 h2
  obtain ⟨c1, c2⟩ := isLen_iff.1 h6
  exact ⟨by unfold wrap64; omega, by unfold wrap64; omega, by unfold wrap64; omega, by unfold wrap64; omega⟩

set_option maxRecDepth 100000 in
set_option maxHeartbeats 8000000 in
theorem law_degrees (hrad : RadCalls) (w : World) (F : S36) (c z : Int) (b s d : S39) (hOb : Ok39 b) (hOs : Ok39 s) (hOd : Ok39 d) (cs : List Value) (Ab : Option Addr) (nb : Nat) (As : Option Addr) (ns : Nat) (Ad : Option Addr) (nd : Nat) (hF : FontIn w F cs) (hlb : b.f6.length ≤ nb) (hCb : Kd.C k49 w Ab b.f6.length b.f6)  (hls : s.f6.length ≤ ns) (hCs : Kd.C k49 w As s.f6.length s.f6)  (hld : d.f6.length ≤ nd) (hCd : Kd.C k49 w Ad d.f6.length d.f6)
    (hbar : ∀ w : World, Calls Try.prog 28 #[] w fun r w' => r = .returned (.bool true) ∧ Below w.heap.size w w') :
    Calls Try.prog 9 #[.agg cs.toArray, .int .i64 c, .int .i64 z, .agg #[.int .i64 b.f0, .int .i64 b.f1, .int .i64 b.f2, .int .i64 b.f3, .int .i64 b.f4, .int .i64 b.f5, .slice Ab b.f6.length nb], .agg #[.int .i64 s.f0, .int .i64 s.f1, .int .i64 s.f2, .int .i64 s.f3, .int .i64 s.f4, .int .i64 s.f5, .slice As s.f6.length ns], .agg #[.int .i64 d.f0, .int .i64 d.f1, .int .i64 d.f2, .int .i64 d.f3, .int .i64 d.f4, .int .i64 d.f5, .slice Ad d.f6.length nd]] w fun r w' => r = .returned (.bool true) ∧ Below w.heap.size w w' := by
  have hu39 := Try.underlying39
  have hu36 := Try.underlying36
  have hu49 := Try.underlying49
  have HF := Aside0.mk hF
  have HOb := Aside0.mk hOb
  have HLb := Aside0.mk hlb
  have HCb := Aside0.mk hCb
  have HOs := Aside0.mk hOs
  have HLs := Aside0.mk hls
  have HCs := Aside0.mk hCs
  have HOd := Aside0.mk hOd
  have HLd := Aside0.mk hld
  have HCd := Aside0.mk hCd
  obtain ⟨A6, c6, A7, c7, A8, c8, A9, c9, A10, c10, A11, c11, A12, c12, A13, c13, A15, c15, A16, c16, hcs, hcr⟩ := id hF
  subst hcs
  clear hcr hF hOb hlb hCb hOs hls hCs hOd hld hCd
  have HP := Aside0.mk (Pd.start w)
  go_enter Try.func9, Try.ntmps9
  go_wp2_with (first | ((with_reducible refine gate_dst (N := 6) rfl ?_); refine box_event ?hg (N := 6) ?hd (cs := #[.int .i64 F.f0.f0, .int .i64 F.f0.f1, .int .i64 F.f0.f2, .int .i64 F.f0.f3, .int .i64 F.f0.f4, .bool F.f0.f5, .slice A6 F.f1.length c6, .slice A7 F.f2.length c7, .slice A8 F.f3.length c8, .slice A9 F.f4.f0.length c9, .slice A10 F.f4.f1.length c10, .slice A11 F.f4.f2.length c11, .slice A12 F.f4.f3.length c12, .slice A13 F.f4.f4.length c13, .int .i64 F.f4.f5.f0, .slice A15 F.f4.f5.f1.length c15, .slice A16 F.f4.f5.f2.length c16]) (t := 36) ?hr ?_; (case hd => rfl); (case hg => rfl); (case hr => first | (go_simp; done) | (go_simp; rfl)); intro gf hg wk hbox hb; replace HP := Aside0.mk (Pd.box (by with_reducible repeat (first | exact HP.out | apply Pd.drew)) hg hbox hb); clear hg hbox hb) | ((with_reducible refine gate_dst (N := 9) rfl ?_); refine box_event ?hg (N := 9) ?hd (cs := #[.int .i64 b.f0, .int .i64 b.f1, .int .i64 b.f2, .int .i64 b.f3, .int .i64 b.f4, .int .i64 b.f5, .slice Ab b.f6.length nb]) (t := 39) ?hr ?_; (case hd => rfl); (case hg => rfl); (case hr => first | (go_simp; done) | (go_simp; rfl)); intro gb hg wk hbox hb; replace HP := Aside0.mk (Pd.box (by with_reducible repeat (first | exact HP.out | apply Pd.drew)) hg hbox hb); clear hg hbox hb) | ((with_reducible refine gate_dst (N := 10) rfl ?_); refine box_event ?hg (N := 10) ?hd (cs := #[.int .i64 s.f0, .int .i64 s.f1, .int .i64 s.f2, .int .i64 s.f3, .int .i64 s.f4, .int .i64 s.f5, .slice As s.f6.length ns]) (t := 39) ?hr ?_; (case hd => rfl); (case hg => rfl); (case hr => first | (go_simp; done) | (go_simp; rfl)); intro gs hg wk hbox hb; replace HP := Aside0.mk (Pd.box (by with_reducible repeat (first | exact HP.out | apply Pd.drew)) hg hbox hb); clear hg hbox hb) | ((with_reducible refine gate_dst (N := 11) rfl ?_); refine box_event ?hg (N := 11) ?hd (cs := #[.int .i64 d.f0, .int .i64 d.f1, .int .i64 d.f2, .int .i64 d.f3, .int .i64 d.f4, .int .i64 d.f5, .slice Ad d.f6.length nd]) (t := 39) ?hr ?_; (case hd => rfl); (case hg => rfl); (case hr => first | (go_simp; done) | (go_simp; rfl)); intro gd hg wk hbox hb; replace HP := Aside0.mk (Pd.box (by with_reducible repeat (first | exact HP.out | apply Pd.drew)) hg hbox hb); clear hg hbox hb; have hs_b := cells7 (Pd.hd (Pd.tl (Pd.tl HP.out))); have hs_s := cells7 (Pd.hd (Pd.tl HP.out)); have hs_d := cells7 (Pd.hd HP.out)) | ((with_reducible refine gate_dst (N := 20) rfl ?_); refine wpList_load_row rfl 36 (.tmp 6) rfl gf (by rfl) 36 #[.int .i64 F.f0.f0, .int .i64 F.f0.f1, .int .i64 F.f0.f2, .int .i64 F.f0.f3, .int .i64 F.f0.f4, .bool F.f0.f5, .slice A6 F.f1.length c6, .slice A7 F.f2.length c7, .slice A8 F.f3.length c8, .slice A9 F.f4.f0.length c9, .slice A10 F.f4.f1.length c10, .slice A11 F.f4.f2.length c11, .slice A12 F.f4.f3.length c12, .slice A13 F.f4.f4.length c13, .int .i64 F.f4.f5.f0, .slice A15 F.f4.f5.f1.length c15, .slice A16 F.f4.f5.f2.length c16] (0, 0) _ (Pd.hd (Pd.tl (Pd.tl (Pd.tl (by with_reducible repeat (first | exact HP.out | apply Pd.drew)))))) hu36 rfl info_font ?_))
  clear hs_b hs_s hs_d
  refine (few27_calls _ F b s d Ab As Ad nb ns nd _ (HF.out.heap HP.out.bel) HOb.out HLb.out (Kd.C_below HCb.out HP.out.bel) HOs.out HLs.out (Kd.C_below HCs.out HP.out.bel) HOd.out HLd.out (Kd.C_below HCd.out HP.out.bel)).mono ?_
  rintro _ w1 ⟨q, rfl, hb⟩
  replace HP := Aside0.mk (Pd.below HP.out hb)
  clear hb
  cases q with
  | false =>
    go_wp2
    go_ret
    exact ⟨rfl, HP.out.bel⟩
  | true =>
    have HW := Aside0.mk HP.out.bel
    have HB := Aside0.mk (Pd.base HP.out)
    replace HF := Aside0.mk (HF.out.heap HP.out.bel)
    replace HCb := Aside0.mk (Kd.C_below HCb.out HP.out.bel)
    replace HCs := Aside0.mk (Kd.C_below HCs.out HP.out.bel)
    replace HCd := Aside0.mk (Kd.C_below HCd.out HP.out.bel)
    replace HP := Aside0.mk (Pd.start w1)
    have hs_b := cells7 (Pd.olds HP.out HB.out (b := gb) (o := .cells #[.int .i64 b.f0, .int .i64 b.f1, .int .i64 b.f2, .int .i64 b.f3, .int .i64 b.f4, .int .i64 b.f5, .slice Ab b.f6.length nb] 39 (0, 0)) (by with_reducible repeat (first | exact List.mem_cons_self | apply List.mem_cons_of_mem))); have hs_s := cells7 (Pd.olds HP.out HB.out (b := gs) (o := .cells #[.int .i64 s.f0, .int .i64 s.f1, .int .i64 s.f2, .int .i64 s.f3, .int .i64 s.f4, .int .i64 s.f5, .slice As s.f6.length ns] 39 (0, 0)) (by with_reducible repeat (first | exact List.mem_cons_self | apply List.mem_cons_of_mem)))
    go_wp2_with (first | ((with_reducible refine gate_dst (N := 27) rfl ?_); refine wpList_load_row rfl 36 (.tmp 6) rfl gf (by rfl) 36 #[.int .i64 F.f0.f0, .int .i64 F.f0.f1, .int .i64 F.f0.f2, .int .i64 F.f0.f3, .int .i64 F.f0.f4, .bool F.f0.f5, .slice A6 F.f1.length c6, .slice A7 F.f2.length c7, .slice A8 F.f3.length c8, .slice A9 F.f4.f0.length c9, .slice A10 F.f4.f1.length c10, .slice A11 F.f4.f2.length c11, .slice A12 F.f4.f3.length c12, .slice A13 F.f4.f4.length c13, .int .i64 F.f4.f5.f0, .slice A15 F.f4.f5.f1.length c15, .slice A16 F.f4.f5.f2.length c16] (0, 0) _ (Pd.olds HP.out HB.out (b := gf) (o := .cells #[.int .i64 F.f0.f0, .int .i64 F.f0.f1, .int .i64 F.f0.f2, .int .i64 F.f0.f3, .int .i64 F.f0.f4, .bool F.f0.f5, .slice A6 F.f1.length c6, .slice A7 F.f2.length c7, .slice A8 F.f3.length c8, .slice A9 F.f4.f0.length c9, .slice A10 F.f4.f1.length c10, .slice A11 F.f4.f2.length c11, .slice A12 F.f4.f3.length c12, .slice A13 F.f4.f4.length c13, .int .i64 F.f4.f5.f0, .slice A15 F.f4.f5.f1.length c15, .slice A16 F.f4.f5.f2.length c16] 36 (0, 0)) (by with_reducible repeat (first | exact List.mem_cons_self | apply List.mem_cons_of_mem))) hu36 rfl info_font ?_))
    clear hs_b hs_s
    refine (hrad F c z b s Ab As nb ns _ _ (HF.out.heap HP.out.bel) HLb.out (Kd.C_below HCb.out HP.out.bel) HLs.out (Kd.C_below HCs.out HP.out.bel)).mono ?_
    rintro _ w20 ⟨A20, n20, rfl, hl, hC, hb⟩
    have hz := rad_zero F c z b s
    obtain ⟨R, h_R⟩ : ∃ R, R = radV F c z b s := ⟨_, rfl⟩
    rw [← h_R] at hl hC hz ⊢
    have HZ := Aside0.mk hz
    clear h_R hz
    replace HP := Aside0.mk (Pd.below HP.out hb)
    clear hb
    replace HW := Aside0.mk (below_step HW.out HP.out.bel)
    replace HB := Aside0.mk (Pd.rebase HP.out HB.out)
    replace HF := Aside0.mk (HF.out.heap HP.out.bel)
    replace HCb := Aside0.mk (Kd.C_below HCb.out HP.out.bel)
    replace HCs := Aside0.mk (Kd.C_below HCs.out HP.out.bel)
    replace HCd := Aside0.mk (Kd.C_below HCd.out HP.out.bel)
    have HL20 := Aside0.mk hl
    have HC20 := Aside0.mk hC
    clear hl hC
    replace HP := Aside0.mk (Pd.start w20)
    simp only [List.cons_append, List.nil_append] at HB
    go_wp2_with (first | ((with_reducible refine gate_dst (N := 13) rfl ?_); refine box_event ?hg (N := 13) ?hd (cs := #[.int .i64 0, .int .i64 0, .int .i64 0, .int .i64 0, .int .i64 0, .int .i64 0, .slice none 0 0]) (t := 39) ?hr ?_; (case hd => rfl); (case hg => rfl); (case hr => first | (go_simp; done) | (go_simp; rfl)); intro g13 hg wk9 hbox hb; replace HP := Aside0.mk (Pd.box HP.out hg hbox hb); clear hg hbox hb; have hcz := cells7 (Pd.hd HP.out); have hfz := froz7 (Pd.hd HP.out)) | (have hgo := hcz; clear hgo; (with_reducible refine gate_dst (N := 36) rfl ?_); refine Pd.fold (Pd.st7 HP.out) ?_; intro W' h0; replace HP := Aside0.mk h0; clear h0 hcz hfz; have hs_b := cells7 (Pd.olds HP.out HB.out (b := gb) (o := .cells #[.int .i64 b.f0, .int .i64 b.f1, .int .i64 b.f2, .int .i64 b.f3, .int .i64 b.f4, .int .i64 b.f5, .slice Ab b.f6.length nb] 39 (0, 0)) (by with_reducible repeat (first | exact List.mem_cons_self | apply List.mem_cons_of_mem))); have hs_s := cells7 (Pd.olds HP.out HB.out (b := gs) (o := .cells #[.int .i64 s.f0, .int .i64 s.f1, .int .i64 s.f2, .int .i64 s.f3, .int .i64 s.f4, .int .i64 s.f5, .slice As s.f6.length ns] 39 (0, 0)) (by with_reducible repeat (first | exact List.mem_cons_self | apply List.mem_cons_of_mem))); have hs_d := cells7 (Pd.olds HP.out HB.out (b := gd) (o := .cells #[.int .i64 d.f0, .int .i64 d.f1, .int .i64 d.f2, .int .i64 d.f3, .int .i64 d.f4, .int .i64 d.f5, .slice Ad d.f6.length nd] 39 (0, 0)) (by with_reducible repeat (first | exact List.mem_cons_self | apply List.mem_cons_of_mem))); refine wpList_load_row rfl 36 (.tmp 6) rfl gf (by rfl) 36 #[.int .i64 F.f0.f0, .int .i64 F.f0.f1, .int .i64 F.f0.f2, .int .i64 F.f0.f3, .int .i64 F.f0.f4, .bool F.f0.f5, .slice A6 F.f1.length c6, .slice A7 F.f2.length c7, .slice A8 F.f3.length c8, .slice A9 F.f4.f0.length c9, .slice A10 F.f4.f1.length c10, .slice A11 F.f4.f2.length c11, .slice A12 F.f4.f3.length c12, .slice A13 F.f4.f4.length c13, .int .i64 F.f4.f5.f0, .slice A15 F.f4.f5.f1.length c15, .slice A16 F.f4.f5.f2.length c16] (0, 0) _ (Pd.olds HP.out HB.out (b := gf) (o := .cells #[.int .i64 F.f0.f0, .int .i64 F.f0.f1, .int .i64 F.f0.f2, .int .i64 F.f0.f3, .int .i64 F.f0.f4, .bool F.f0.f5, .slice A6 F.f1.length c6, .slice A7 F.f2.length c7, .slice A8 F.f3.length c8, .slice A9 F.f4.f0.length c9, .slice A10 F.f4.f1.length c10, .slice A11 F.f4.f2.length c11, .slice A12 F.f4.f3.length c12, .slice A13 F.f4.f4.length c13, .int .i64 F.f4.f5.f0, .slice A15 F.f4.f5.f1.length c15, .slice A16 F.f4.f5.f2.length c16] 36 (0, 0)) (by with_reducible repeat (first | exact List.mem_cons_self | apply List.mem_cons_of_mem))) hu36 rfl info_font ?_))
    clear hs_b hs_s hs_d
    refine (rad1_calls F c z b s d Ab As _ nb ns 1 _ _ (HF.out.heap (Pd.alloc HP.out _).bel) HLb.out (Kd.C_below HCb.out (Pd.alloc HP.out _).bel) HLs.out (Kd.C_below HCs.out (Pd.alloc HP.out _).bel) (one_row HP.out HLd.out HCd.out)).mono ?_
    rintro _ w21 ⟨A21, n21, rfl, hl, hC, hb⟩
    have hz := rad_one F c z b s d (rd F.f4.f0 55)
    have hn := rad1_nil F c z b s d (rd F.f4.f0 55)
    obtain ⟨S, h_S⟩ : ∃ S, S = radV1 F c z b s d (rd F.f4.f0 55) := ⟨_, rfl⟩
    rw [← h_S] at hl hC hz hn ⊢
    have HZ1 := Aside0.mk hz
    have HN := Aside0.mk hn
    clear h_S hz hn
    replace HP := Aside0.mk (Pd.below (Pd.alloc HP.out _) hb)
    clear hb
    replace HW := Aside0.mk (below_step HW.out HP.out.bel)
    replace HB := Aside0.mk (Pd.rebase HP.out HB.out)
    replace HF := Aside0.mk (HF.out.heap HP.out.bel)
    replace HCb := Aside0.mk (Kd.C_below HCb.out HP.out.bel)
    replace HCs := Aside0.mk (Kd.C_below HCs.out HP.out.bel)
    replace HCd := Aside0.mk (Kd.C_below HCd.out HP.out.bel)
    replace HC20 := Aside0.mk (Kd.C_below HC20.out HP.out.bel)
    have HL21 := Aside0.mk hl
    have HC21 := Aside0.mk hC
    clear hl hC
    replace HP := Aside0.mk (Pd.start w21)
    simp only [List.cons_append, List.nil_append] at HB
    by_cases h2 : S.2.2.2.2.2.2.2 = 0
    rotate_left
    · by_cases h1 : R.2.2.2.2.2.2.2 = 0
      · skip
        have hd1 : (R.2.2.2.2.2.2.2 != 0) = false := by simp; exact h1
        have hd3 : decide (R.2.2.2.2.2.2.2 = 0) = true := by simp; exact h1
        have hd5 : (R.2.2.2.2.2.2.2 == 0) = true := by simp; exact h1
        have hd2 : (S.2.2.2.2.2.2.2 != 0) = true := by simp; exact h2
        have hd4 : decide (S.2.2.2.2.2.2.2 = 0) = false := by simp; exact h2
        have hd6 : (S.2.2.2.2.2.2.2 == 0) = false := by simp; exact h2
        have hn0 := HN.out h2
        have hlen : S.2.2.2.2.2.2.1.length = 0 := by rw [hn0]; rfl
        have HH := Aside0.mk h2
        clear hn0
        have HH1 := Aside0.mk h1
        clear h1 h2
        go_wp2_with (first | ((with_reducible refine gate_dst (N := 15) rfl ?_); refine box_event ?hg (N := 15) ?hd (cs := #[.int .i64 0, .int .i64 0, .int .i64 0, .int .i64 0, .int .i64 0, .int .i64 0, .slice none 0 0]) (t := 39) ?hr ?_; (case hd => rfl); (case hg => rfl); (case hr => first | (go_simp; done) | (go_simp; rfl)); intro g15 hg wk9 hbox hb; replace HP := Aside0.mk (Pd.box HP.out hg hbox hb); clear hg hbox hb; have hcz := cells7 (Pd.hd HP.out); have hfz := froz7 (Pd.hd HP.out)))
        refine (hbar _).mono ?_
        rintro _ w7 ⟨rfl, hb⟩
        replace HP := Aside0.mk (Pd.below (Pd.st7 HP.out) hb)
        clear hb hcz hfz
        have hs15 := cells7 (Pd.hd HP.out)
        go_wp2
        all_goals go_ret
        all_goals exact ⟨by first | rfl | simp, below_step HW.out HP.out.bel⟩
      · skip
        have hd1 : (R.2.2.2.2.2.2.2 != 0) = true := by simp; exact h1
        have hd3 : decide (R.2.2.2.2.2.2.2 = 0) = false := by simp; exact h1
        have hd5 : (R.2.2.2.2.2.2.2 == 0) = false := by simp; exact h1
        have hd2 : (S.2.2.2.2.2.2.2 != 0) = true := by simp; exact h2
        have hd4 : decide (S.2.2.2.2.2.2.2 = 0) = false := by simp; exact h2
        have hd6 : (S.2.2.2.2.2.2.2 == 0) = false := by simp; exact h2
        have hn0 := HN.out h2
        have hlen : S.2.2.2.2.2.2.1.length = 0 := by rw [hn0]; rfl
        have HH := Aside0.mk h2
        clear hn0
        have HH1 := Aside0.mk h1
        clear h1 h2
        go_wp2_with (first | ((with_reducible refine gate_dst (N := 15) rfl ?_); refine box_event ?hg (N := 15) ?hd (cs := #[.int .i64 0, .int .i64 0, .int .i64 0, .int .i64 0, .int .i64 0, .int .i64 0, .slice none 0 0]) (t := 39) ?hr ?_; (case hd => rfl); (case hg => rfl); (case hr => first | (go_simp; done) | (go_simp; rfl)); intro g15 hg wk9 hbox hb; replace HP := Aside0.mk (Pd.box HP.out hg hbox hb); clear hg hbox hb; have hcz := cells7 (Pd.hd HP.out); have hfz := froz7 (Pd.hd HP.out)))
        refine (hbar _).mono ?_
        rintro _ w7 ⟨rfl, hb⟩
        replace HP := Aside0.mk (Pd.below (Pd.st7 HP.out) hb)
        clear hb hcz hfz
        have hs15 := cells7 (Pd.hd HP.out)
        go_wp2
        all_goals go_ret
        all_goals exact ⟨by first | rfl | simp, below_step HW.out HP.out.bel⟩
    by_cases h1 : R.2.2.2.2.2.2.2 = 0
    rotate_left
    · skip
      have hd1 : (R.2.2.2.2.2.2.2 != 0) = true := by simp; exact h1
      have hd3 : decide (R.2.2.2.2.2.2.2 = 0) = false := by simp; exact h1
      have hd5 : (R.2.2.2.2.2.2.2 == 0) = false := by simp; exact h1
      have hd2 : (S.2.2.2.2.2.2.2 != 0) = false := by simp; exact h2
      have hd4 : decide (S.2.2.2.2.2.2.2 = 0) = true := by simp; exact h2
      have hd6 : (S.2.2.2.2.2.2.2 == 0) = true := by simp; exact h2
      have HH := Aside0.mk h2
      have HH1 := Aside0.mk h1
      clear h1 h2
      go_wp2_with (first | ((with_reducible refine gate_dst (N := 15) rfl ?_); refine box_event ?hg (N := 15) ?hd (cs := #[.int .i64 0, .int .i64 0, .int .i64 0, .int .i64 0, .int .i64 0, .int .i64 0, .slice none 0 0]) (t := 39) ?hr ?_; (case hd => rfl); (case hg => rfl); (case hr => first | (go_simp; done) | (go_simp; rfl)); intro g15 hg wk9 hbox hb; replace HP := Aside0.mk (Pd.box HP.out hg hbox hb); clear hg hbox hb; have hcz := cells7 (Pd.hd HP.out); have hfz := froz7 (Pd.hd HP.out)))
      refine (hbar _).mono ?_
      rintro _ w7 ⟨rfl, hb⟩
      replace HP := Aside0.mk (Pd.below (Pd.st7 HP.out) hb)
      clear hb hcz hfz
      have hs15 := cells7 (Pd.hd HP.out)
      go_wp2
      all_goals go_ret
      all_goals exact ⟨by first | rfl | simp, below_step HW.out HP.out.bel⟩
    obtain ⟨l1, l2, hh, dd, top, ht, hV⟩ := HZ.out h1
    obtain ⟨l3, x, y, ah, hh2, dd2, top2, hx0, l4, l5, l6, ht2, hV2⟩ := HZ1.out h2
    obtain rfl : top2 = top := ht2.trans ht.symm
    clear HZ HZ1 HN ht ht2
    obtain ⟨f1, f2, f3, f4⟩ := deg_fin l1 l3 l2 l4 l5 l6
    clear l1 l2 l3 l4 l5 l6
    generalize (konstV F 51 c z).1 = th at hV hV2
    generalize top2 + (konstV F 52 c z).1 = hi at hV hV2
    generalize top2 - th = yl at hV hV2
    generalize top2 - s.f2 = ys at hV hV2
    obtain ⟨X1, hX1⟩ : ∃ X1, X1 = x + s.f1 := ⟨_, rfl⟩
    obtain ⟨X2, hX2⟩ : ∃ X2, X2 = X1 + b.f1 := ⟨_, rfl⟩
    rw [← hX1] at hV2 f3 f4
    rw [← hX2] at hV2 f4
    clear hX1 hX2
    subst hV hV2
    dsimp only at HC20 HC21 HL20 HL21 HB ⊢
    simp only [List.length_cons, List.length_nil, Nat.zero_add, Nat.reduceAdd] at HB
    clear h1 h2
    obtain ⟨a1, hA⟩ := kid_ad HC20.out (by simp)
    subst hA
    obtain ⟨a2, hA⟩ := kid_ad HC21.out (by simp)
    subst hA
    obtain ⟨Pa1_0, ca1_0, hl, hC, hW⟩ := kid_cells HC20.out 0 (by simp)
    have HKa1_0 : Aside0 (∀ (W : World) (L : List (Nat × Obj)), Pd w21 W L → W.cell? a1 = some (.int .i64 (0)) ∧ W.cell? ⟨a1.block, a1.off + 1, none⟩ = some (.int .i64 (ys)) ∧ W.cell? ⟨a1.block, a1.off + 2, none⟩ = some (.int .i64 (s.f0)) ∧ W.cell? ⟨a1.block, a1.off + 3, none⟩ = some (.int .i64 (s.f1)) ∧ W.cell? ⟨a1.block, a1.off + 4, none⟩ = some (.int .i64 (s.f2)) ∧ W.cell? ⟨a1.block, a1.off + 5, none⟩ = some (.int .i64 (s.f3)) ∧ W.cell? ⟨a1.block, a1.off + 6, none⟩ = some (.int .i64 (s.f4)) ∧ W.cell? ⟨a1.block, a1.off + 7, none⟩ = some (.int .i64 (s.f5)) ∧ W.cell? ⟨a1.block, a1.off + 8, none⟩ = some (.slice Pa1_0 (s.f6.length) ca1_0)) := ⟨fun W L hP => by have h0 := hW W L hP; simp [Addr.add] at h0; exact h0⟩
    have HLa1_0 := Aside0.mk hl
    have HCa1_0 := Aside0.mk hC
    clear hl hC hW
    obtain ⟨Pa1_1, ca1_1, hl, hC, hW⟩ := kid_cells HC20.out 1 (by simp)
    have HKa1_1 : Aside0 (∀ (W : World) (L : List (Nat × Obj)), Pd w21 W L → W.cell? ⟨a1.block, a1.off + 9, none⟩ = some (.int .i64 (s.f1)) ∧ W.cell? ⟨a1.block, a1.off + 9 + 1, none⟩ = some (.int .i64 (yl)) ∧ W.cell? ⟨a1.block, a1.off + 9 + 2, none⟩ = some (.int .i64 (2)) ∧ W.cell? ⟨a1.block, a1.off + 9 + 3, none⟩ = some (.int .i64 (b.f1)) ∧ W.cell? ⟨a1.block, a1.off + 9 + 4, none⟩ = some (.int .i64 (th)) ∧ W.cell? ⟨a1.block, a1.off + 9 + 5, none⟩ = some (.int .i64 (0)) ∧ W.cell? ⟨a1.block, a1.off + 9 + 6, none⟩ = some (.int .i64 (0)) ∧ W.cell? ⟨a1.block, a1.off + 9 + 7, none⟩ = some (.int .i64 (0)) ∧ W.cell? ⟨a1.block, a1.off + 9 + 8, none⟩ = some (.slice Pa1_1 (0) ca1_1)) := ⟨fun W L hP => by have h0 := hW W L hP; simp [Addr.add] at h0; exact h0⟩
    have HLa1_1 := Aside0.mk hl
    have HCa1_1 := Aside0.mk hC
    clear hl hC hW
    obtain ⟨Pa1_2, ca1_2, hl, hC, hW⟩ := kid_cells HC20.out 2 (by simp)
    have HKa1_2 : Aside0 (∀ (W : World) (L : List (Nat × Obj)), Pd w21 W L → W.cell? ⟨a1.block, a1.off + 18, none⟩ = some (.int .i64 (s.f1)) ∧ W.cell? ⟨a1.block, a1.off + 18 + 1, none⟩ = some (.int .i64 (0)) ∧ W.cell? ⟨a1.block, a1.off + 18 + 2, none⟩ = some (.int .i64 (b.f0)) ∧ W.cell? ⟨a1.block, a1.off + 18 + 3, none⟩ = some (.int .i64 (b.f1)) ∧ W.cell? ⟨a1.block, a1.off + 18 + 4, none⟩ = some (.int .i64 (b.f2)) ∧ W.cell? ⟨a1.block, a1.off + 18 + 5, none⟩ = some (.int .i64 (b.f3)) ∧ W.cell? ⟨a1.block, a1.off + 18 + 6, none⟩ = some (.int .i64 (b.f4)) ∧ W.cell? ⟨a1.block, a1.off + 18 + 7, none⟩ = some (.int .i64 (b.f5)) ∧ W.cell? ⟨a1.block, a1.off + 18 + 8, none⟩ = some (.slice Pa1_2 (b.f6.length) ca1_2)) := ⟨fun W L hP => by have h0 := hW W L hP; simp [Addr.add] at h0; exact h0⟩
    have HLa1_2 := Aside0.mk hl
    have HCa1_2 := Aside0.mk hC
    clear hl hC hW
    obtain ⟨Pa1_3, ca1_3, hl, hC, hW⟩ := kid_cells HC20.out 3 (by simp)
    have HKa1_3 : Aside0 (∀ (W : World) (L : List (Nat × Obj)), Pd w21 W L → W.cell? ⟨a1.block, a1.off + 27, none⟩ = some (.int .i64 (0)) ∧ W.cell? ⟨a1.block, a1.off + 27 + 1, none⟩ = some (.int .i64 (0)) ∧ W.cell? ⟨a1.block, a1.off + 27 + 2, none⟩ = some (.int .i64 (0)) ∧ W.cell? ⟨a1.block, a1.off + 27 + 3, none⟩ = some (.int .i64 (0)) ∧ W.cell? ⟨a1.block, a1.off + 27 + 4, none⟩ = some (.int .i64 (hi)) ∧ W.cell? ⟨a1.block, a1.off + 27 + 5, none⟩ = some (.int .i64 (0)) ∧ W.cell? ⟨a1.block, a1.off + 27 + 6, none⟩ = some (.int .i64 (0)) ∧ W.cell? ⟨a1.block, a1.off + 27 + 7, none⟩ = some (.int .i64 (0)) ∧ W.cell? ⟨a1.block, a1.off + 27 + 8, none⟩ = some (.slice Pa1_3 (0) ca1_3)) := ⟨fun W L hP => by have h0 := hW W L hP; simp [Addr.add] at h0; exact h0⟩
    have HLa1_3 := Aside0.mk hl
    have HCa1_3 := Aside0.mk hC
    clear hl hC hW
    obtain ⟨Pa2_0, ca2_0, hl, hC, hW⟩ := kid_cells HC21.out 0 (by simp)
    have HKa2_0 : Aside0 (∀ (W : World) (L : List (Nat × Obj)), Pd w21 W L → W.cell? a2 = some (.int .i64 (ah)) ∧ W.cell? ⟨a2.block, a2.off + 1, none⟩ = some (.int .i64 (y)) ∧ W.cell? ⟨a2.block, a2.off + 2, none⟩ = some (.int .i64 (d.f0)) ∧ W.cell? ⟨a2.block, a2.off + 3, none⟩ = some (.int .i64 (d.f1)) ∧ W.cell? ⟨a2.block, a2.off + 4, none⟩ = some (.int .i64 (d.f2)) ∧ W.cell? ⟨a2.block, a2.off + 5, none⟩ = some (.int .i64 (d.f3)) ∧ W.cell? ⟨a2.block, a2.off + 6, none⟩ = some (.int .i64 (d.f4)) ∧ W.cell? ⟨a2.block, a2.off + 7, none⟩ = some (.int .i64 (d.f5)) ∧ W.cell? ⟨a2.block, a2.off + 8, none⟩ = some (.slice Pa2_0 (d.f6.length) ca2_0)) := ⟨fun W L hP => by have h0 := hW W L hP; simp [Addr.add] at h0; exact h0⟩
    have HLa2_0 := Aside0.mk hl
    have HCa2_0 := Aside0.mk hC
    clear hl hC hW
    obtain ⟨Pa2_1, ca2_1, hl, hC, hW⟩ := kid_cells HC21.out 1 (by simp)
    have HKa2_1 : Aside0 (∀ (W : World) (L : List (Nat × Obj)), Pd w21 W L → W.cell? ⟨a2.block, a2.off + 9, none⟩ = some (.int .i64 (x)) ∧ W.cell? ⟨a2.block, a2.off + 9 + 1, none⟩ = some (.int .i64 (ys)) ∧ W.cell? ⟨a2.block, a2.off + 9 + 2, none⟩ = some (.int .i64 (s.f0)) ∧ W.cell? ⟨a2.block, a2.off + 9 + 3, none⟩ = some (.int .i64 (s.f1)) ∧ W.cell? ⟨a2.block, a2.off + 9 + 4, none⟩ = some (.int .i64 (s.f2)) ∧ W.cell? ⟨a2.block, a2.off + 9 + 5, none⟩ = some (.int .i64 (s.f3)) ∧ W.cell? ⟨a2.block, a2.off + 9 + 6, none⟩ = some (.int .i64 (s.f4)) ∧ W.cell? ⟨a2.block, a2.off + 9 + 7, none⟩ = some (.int .i64 (s.f5)) ∧ W.cell? ⟨a2.block, a2.off + 9 + 8, none⟩ = some (.slice Pa2_1 (s.f6.length) ca2_1)) := ⟨fun W L hP => by have h0 := hW W L hP; simp [Addr.add] at h0; exact h0⟩
    have HLa2_1 := Aside0.mk hl
    have HCa2_1 := Aside0.mk hC
    clear hl hC hW
    obtain ⟨Pa2_2, ca2_2, hl, hC, hW⟩ := kid_cells HC21.out 2 (by simp)
    have HKa2_2 : Aside0 (∀ (W : World) (L : List (Nat × Obj)), Pd w21 W L → W.cell? ⟨a2.block, a2.off + 18, none⟩ = some (.int .i64 (X1)) ∧ W.cell? ⟨a2.block, a2.off + 18 + 1, none⟩ = some (.int .i64 (yl)) ∧ W.cell? ⟨a2.block, a2.off + 18 + 2, none⟩ = some (.int .i64 (2)) ∧ W.cell? ⟨a2.block, a2.off + 18 + 3, none⟩ = some (.int .i64 (b.f1)) ∧ W.cell? ⟨a2.block, a2.off + 18 + 4, none⟩ = some (.int .i64 (th)) ∧ W.cell? ⟨a2.block, a2.off + 18 + 5, none⟩ = some (.int .i64 (0)) ∧ W.cell? ⟨a2.block, a2.off + 18 + 6, none⟩ = some (.int .i64 (0)) ∧ W.cell? ⟨a2.block, a2.off + 18 + 7, none⟩ = some (.int .i64 (0)) ∧ W.cell? ⟨a2.block, a2.off + 18 + 8, none⟩ = some (.slice Pa2_2 (0) ca2_2)) := ⟨fun W L hP => by have h0 := hW W L hP; simp [Addr.add] at h0; exact h0⟩
    have HLa2_2 := Aside0.mk hl
    have HCa2_2 := Aside0.mk hC
    clear hl hC hW
    obtain ⟨Pa2_3, ca2_3, hl, hC, hW⟩ := kid_cells HC21.out 3 (by simp)
    have HKa2_3 : Aside0 (∀ (W : World) (L : List (Nat × Obj)), Pd w21 W L → W.cell? ⟨a2.block, a2.off + 27, none⟩ = some (.int .i64 (X1)) ∧ W.cell? ⟨a2.block, a2.off + 27 + 1, none⟩ = some (.int .i64 (0)) ∧ W.cell? ⟨a2.block, a2.off + 27 + 2, none⟩ = some (.int .i64 (b.f0)) ∧ W.cell? ⟨a2.block, a2.off + 27 + 3, none⟩ = some (.int .i64 (b.f1)) ∧ W.cell? ⟨a2.block, a2.off + 27 + 4, none⟩ = some (.int .i64 (b.f2)) ∧ W.cell? ⟨a2.block, a2.off + 27 + 5, none⟩ = some (.int .i64 (b.f3)) ∧ W.cell? ⟨a2.block, a2.off + 27 + 6, none⟩ = some (.int .i64 (b.f4)) ∧ W.cell? ⟨a2.block, a2.off + 27 + 7, none⟩ = some (.int .i64 (b.f5)) ∧ W.cell? ⟨a2.block, a2.off + 27 + 8, none⟩ = some (.slice Pa2_3 (b.f6.length) ca2_3)) := ⟨fun W L hP => by have h0 := hW W L hP; simp [Addr.add] at h0; exact h0⟩
    have HLa2_3 := Aside0.mk hl
    have HCa2_3 := Aside0.mk hC
    clear hl hC hW
    obtain ⟨Pa2_4, ca2_4, hl, hC, hW⟩ := kid_cells HC21.out 4 (by simp)
    have HKa2_4 : Aside0 (∀ (W : World) (L : List (Nat × Obj)), Pd w21 W L → W.cell? ⟨a2.block, a2.off + 36, none⟩ = some (.int .i64 (0)) ∧ W.cell? ⟨a2.block, a2.off + 36 + 1, none⟩ = some (.int .i64 (0)) ∧ W.cell? ⟨a2.block, a2.off + 36 + 2, none⟩ = some (.int .i64 (0)) ∧ W.cell? ⟨a2.block, a2.off + 36 + 3, none⟩ = some (.int .i64 (0)) ∧ W.cell? ⟨a2.block, a2.off + 36 + 4, none⟩ = some (.int .i64 (hi)) ∧ W.cell? ⟨a2.block, a2.off + 36 + 5, none⟩ = some (.int .i64 (0)) ∧ W.cell? ⟨a2.block, a2.off + 36 + 6, none⟩ = some (.int .i64 (0)) ∧ W.cell? ⟨a2.block, a2.off + 36 + 7, none⟩ = some (.int .i64 (0)) ∧ W.cell? ⟨a2.block, a2.off + 36 + 8, none⟩ = some (.slice Pa2_4 (0) ca2_4)) := ⟨fun W L hP => by have h0 := hW W L hP; simp [Addr.add] at h0; exact h0⟩
    have HLa2_4 := Aside0.mk hl
    have HCa2_4 := Aside0.mk hC
    clear hl hC hW
    go_wp2_with (first | ((with_reducible refine gate_dst (N := 15) rfl ?_); refine box_event ?hg (N := 15) ?hd (cs := #[.int .i64 0, .int .i64 0, .int .i64 0, .int .i64 0, .int .i64 0, .int .i64 0, .slice none 0 0]) (t := 39) ?hr ?_; (case hd => rfl); (case hg => rfl); (case hr => first | (go_simp; done) | (go_simp; rfl)); intro g15 hg wk9 hbox hb; replace HP := Aside0.mk (Pd.box HP.out hg hbox hb); clear hg hbox hb; have hcz := cells7 (Pd.hd HP.out); have hfz := froz7 (Pd.hd HP.out)))
    refine Pd.foldD (Pd.st7 HP.out) ?_
    intro W' hp
    replace HP := Aside0.mk hp
    clear hp hcz hfz
    obtain ⟨OB13, h13⟩ : ∃ ob : Obj, ob = .cells #[.int .i64 3, .int .i64 (s.f1 + b.f1), .int .i64 hh, .int .i64 dd, .int .i64 0, .int .i64 0, .slice (some a1) 4 n20] 39 (0, 0) := ⟨_, rfl⟩
    obtain ⟨OB15, h15⟩ : ∃ ob : Obj, ob = .cells #[.int .i64 3, .int .i64 X2, .int .i64 hh2, .int .i64 dd2, .int .i64 0, .int .i64 0, .slice (some a2) 5 n21] 39 (0, 0) := ⟨_, rfl⟩
    have H13 : Aside0 (∀ (W : World) (L : List (Nat × Obj)), Pd w21 W L → W.cell? ⟨g13, 1, none⟩ = some (.int .i64 (s.f1 + b.f1)) ∧ W.cell? ⟨g13, 6, none⟩ = some (.slice (some a1) 4 n20)) := ⟨fun W L hP => by have h0 := hP.olds HB.out (b := g13) (o := OB13) (by rw [h13]; exact (by with_reducible repeat (first | exact List.mem_cons_self | apply List.mem_cons_of_mem))); rw [h13] at h0; exact ⟨blk_cell h0 1, blk_cell h0 6⟩⟩
    have H15 : Aside0 (∀ (W : World) (L : List (Nat × Obj)), Pd w21 W ((g15, OB15) :: L) → W.cell? ⟨g15, 1, none⟩ = some (.int .i64 X2) ∧ W.cell? ⟨g15, 6, none⟩ = some (.slice (some a2) 5 n21)) := ⟨fun W L hP => by have h0 := hP.hd; rw [h15] at h0; exact ⟨blk_cell h0 1, blk_cell h0 6⟩⟩
    have HD : Aside0 (∀ (W : World) (L : List (Nat × Obj)), Pd w21 W L → W.cell? ⟨gd, 0, none⟩ = some (.int .i64 d.f0) ∧ W.cell? ⟨gd, 1, none⟩ = some (.int .i64 d.f1) ∧ W.cell? ⟨gd, 2, none⟩ = some (.int .i64 d.f2) ∧ W.cell? ⟨gd, 3, none⟩ = some (.int .i64 d.f3) ∧ W.cell? ⟨gd, 4, none⟩ = some (.int .i64 d.f4) ∧ W.cell? ⟨gd, 5, none⟩ = some (.int .i64 d.f5) ∧ W.cell? ⟨gd, 6, none⟩ = some (.slice Ad d.f6.length nd)) := ⟨fun W L hP => cells7 (hP.olds HB.out (b := gd) (o := .cells #[.int .i64 d.f0, .int .i64 d.f1, .int .i64 d.f2, .int .i64 d.f3, .int .i64 d.f4, .int .i64 d.f5, .slice Ad d.f6.length nd] 39 (0, 0)) (by with_reducible repeat (first | exact List.mem_cons_self | apply List.mem_cons_of_mem)))⟩
    replace HP : Aside0 (Pd w21 W' [(g15, OB15)]) := ⟨by rw [h15]; exact HP.out⟩
    clear h13 h15 HB
    have H7 : Aside0 (∀ w' : World, Pd w21 w' [(g15, OB15)] → w'.cell? ⟨g13, 6, none⟩ = some (.slice (some a1) 4 n20) ∧ w'.cell? ⟨g15, 6, none⟩ = some (.slice (some a2) 5 n21) ∧ w'.cell? ⟨a2.block, a2.off + 2, none⟩ = some (.int .i64 (d.f0)) ∧ w'.cell? ⟨a2.block, a2.off + 3, none⟩ = some (.int .i64 (d.f1)) ∧ w'.cell? ⟨a2.block, a2.off + 4, none⟩ = some (.int .i64 (d.f2)) ∧ w'.cell? ⟨a2.block, a2.off + 5, none⟩ = some (.int .i64 (d.f3)) ∧ w'.cell? ⟨a2.block, a2.off + 6, none⟩ = some (.int .i64 (d.f4)) ∧ w'.cell? ⟨a2.block, a2.off + 7, none⟩ = some (.int .i64 (d.f5)) ∧ w'.cell? ⟨a2.block, a2.off + 8, none⟩ = some (.slice Pa2_0 (d.f6.length) ca2_0) ∧ w'.cell? ⟨gd, 0, none⟩ = some (.int .i64 d.f0) ∧ w'.cell? ⟨gd, 1, none⟩ = some (.int .i64 d.f1) ∧ w'.cell? ⟨gd, 2, none⟩ = some (.int .i64 d.f2) ∧ w'.cell? ⟨gd, 3, none⟩ = some (.int .i64 d.f3) ∧ w'.cell? ⟨gd, 4, none⟩ = some (.int .i64 d.f4) ∧ w'.cell? ⟨gd, 5, none⟩ = some (.int .i64 d.f5) ∧ w'.cell? ⟨gd, 6, none⟩ = some (.slice Ad d.f6.length nd)) := ⟨fun W hp => by have j13 := H13.out _ _ hp; have j15 := H15.out _ _ hp; have jk := HKa2_0.out _ _ hp; have jd := HD.out _ _ hp; exact ⟨j13.2, j15.2, jk.2.2.1, jk.2.2.2.1, jk.2.2.2.2.1, jk.2.2.2.2.2.1, jk.2.2.2.2.2.2.1, jk.2.2.2.2.2.2.2.1, jk.2.2.2.2.2.2.2.2, jd⟩⟩
    go_region_held3 (fun w' => w'.cell? ⟨g13, 6, none⟩ = some (.slice (some a1) 4 n20) ∧ w'.cell? ⟨g15, 6, none⟩ = some (.slice (some a2) 5 n21) ∧ w'.cell? ⟨a2.block, a2.off + 2, none⟩ = some (.int .i64 (d.f0)) ∧ w'.cell? ⟨a2.block, a2.off + 3, none⟩ = some (.int .i64 (d.f1)) ∧ w'.cell? ⟨a2.block, a2.off + 4, none⟩ = some (.int .i64 (d.f2)) ∧ w'.cell? ⟨a2.block, a2.off + 5, none⟩ = some (.int .i64 (d.f3)) ∧ w'.cell? ⟨a2.block, a2.off + 6, none⟩ = some (.int .i64 (d.f4)) ∧ w'.cell? ⟨a2.block, a2.off + 7, none⟩ = some (.int .i64 (d.f5)) ∧ w'.cell? ⟨a2.block, a2.off + 8, none⟩ = some (.slice Pa2_0 (d.f6.length) ca2_0) ∧ w'.cell? ⟨gd, 0, none⟩ = some (.int .i64 d.f0) ∧ w'.cell? ⟨gd, 1, none⟩ = some (.int .i64 d.f1) ∧ w'.cell? ⟨gd, 2, none⟩ = some (.int .i64 d.f2) ∧ w'.cell? ⟨gd, 3, none⟩ = some (.int .i64 d.f3) ∧ w'.cell? ⟨gd, 4, none⟩ = some (.int .i64 d.f4) ∧ w'.cell? ⟨gd, 5, none⟩ = some (.int .i64 d.f5) ∧ w'.cell? ⟨gd, 6, none⟩ = some (.slice Ad d.f6.length nd)) (exact H7.out _ (by with_reducible repeat (first | exact HP.out | apply Pd.alloc | apply Pd.drew))) (first | (go_at_call 21; refine (same_calls _ d (Nat.lt_succ_self _) _ _ _ _ _ HLa2_0.out (C_pd HCa2_0.out (by with_reducible repeat (first | exact HP.out | apply Pd.alloc | apply Pd.drew))) HLd.out (C_pd HCd.out (by with_reducible repeat (first | exact HP.out | apply Pd.alloc | apply Pd.drew)))).mono ?_; rintro _ w1 ⟨rfl, hb⟩; replace HP := Aside0.mk (Pd.below (by with_reducible repeat (first | exact HP.out | apply Pd.alloc | apply Pd.drew)) hb); clear hb))
    have j15 := (H15.out _ _ HP.out).2
    have j1 := (HKa2_1.out _ _ HP.out).1
    go_wp2_with fail
    clear j15 j1
    go_loopw [18] (fun i wr => (i = .int .i64 0 ∨ i = .int .i64 1 ∨ i = .int .i64 2 ∨ i = .int .i64 3 ∨ i = .int .i64 4) ∧ Aside0 (Pd w21 wr [(g15, OB15)])) (fun i _ => 4 - (intOf i).toNat)
    case atStart => exact ⟨.inl rfl, ⟨(by with_reducible repeat (first | exact HP.out | apply Pd.drew))⟩⟩
    case round =>
      obtain ⟨hi5, HP⟩ := hrel
      rcases hi5 with rfl | rfl | rfl | rfl | rfl
      · have j13 := (H13.out _ _ HP.out).2
        have ja := (HKa1_0.out _ _ HP.out).1
        go_wp2_with fail
        clear j13 ja
        have H16 : Aside0 (∀ w' : World, Pd w21 w' [(g15, OB15)] → w'.cell? ⟨g13, 6, none⟩ = some (.slice (some a1) 4 n20) ∧ w'.cell? ⟨g15, 6, none⟩ = some (.slice (some a2) 5 n21) ∧ w'.cell? ⟨a1.block, a1.off + 1, none⟩ = some (.int .i64 (ys)) ∧ w'.cell? ⟨a1.block, a1.off + 2, none⟩ = some (.int .i64 (s.f0)) ∧ w'.cell? ⟨a1.block, a1.off + 3, none⟩ = some (.int .i64 (s.f1)) ∧ w'.cell? ⟨a1.block, a1.off + 4, none⟩ = some (.int .i64 (s.f2)) ∧ w'.cell? ⟨a1.block, a1.off + 5, none⟩ = some (.int .i64 (s.f3)) ∧ w'.cell? ⟨a1.block, a1.off + 6, none⟩ = some (.int .i64 (s.f4)) ∧ w'.cell? ⟨a1.block, a1.off + 7, none⟩ = some (.int .i64 (s.f5)) ∧ w'.cell? ⟨a1.block, a1.off + 8, none⟩ = some (.slice Pa1_0 (s.f6.length) ca1_0) ∧ w'.cell? ⟨a2.block, a2.off + 9, none⟩ = some (.int .i64 (x)) ∧ w'.cell? ⟨a2.block, a2.off + 9 + 1, none⟩ = some (.int .i64 (ys)) ∧ w'.cell? ⟨a2.block, a2.off + 9 + 2, none⟩ = some (.int .i64 (s.f0)) ∧ w'.cell? ⟨a2.block, a2.off + 9 + 3, none⟩ = some (.int .i64 (s.f1)) ∧ w'.cell? ⟨a2.block, a2.off + 9 + 4, none⟩ = some (.int .i64 (s.f2)) ∧ w'.cell? ⟨a2.block, a2.off + 9 + 5, none⟩ = some (.int .i64 (s.f3)) ∧ w'.cell? ⟨a2.block, a2.off + 9 + 6, none⟩ = some (.int .i64 (s.f4)) ∧ w'.cell? ⟨a2.block, a2.off + 9 + 7, none⟩ = some (.int .i64 (s.f5)) ∧ w'.cell? ⟨a2.block, a2.off + 9 + 8, none⟩ = some (.slice Pa2_1 (s.f6.length) ca2_1)) := ⟨fun W hp => by have j13 := H13.out _ _ hp; have j15 := H15.out _ _ hp; have jk := HKa1_0.out _ _ hp; have jm := HKa2_1.out _ _ hp; exact ⟨j13.2, j15.2, jk.2.1, jk.2.2.1, jk.2.2.2.1, jk.2.2.2.2.1, jk.2.2.2.2.2.1, jk.2.2.2.2.2.2.1, jk.2.2.2.2.2.2.2.1, jk.2.2.2.2.2.2.2.2, jm⟩⟩
        have hwk : IntKind.i64.wrap 1 = 1 := by first | rfl | decide
        go_region_held3 (fun w' => w'.cell? ⟨g13, 6, none⟩ = some (.slice (some a1) 4 n20) ∧ w'.cell? ⟨g15, 6, none⟩ = some (.slice (some a2) 5 n21) ∧ w'.cell? ⟨a1.block, a1.off + 1, none⟩ = some (.int .i64 (ys)) ∧ w'.cell? ⟨a1.block, a1.off + 2, none⟩ = some (.int .i64 (s.f0)) ∧ w'.cell? ⟨a1.block, a1.off + 3, none⟩ = some (.int .i64 (s.f1)) ∧ w'.cell? ⟨a1.block, a1.off + 4, none⟩ = some (.int .i64 (s.f2)) ∧ w'.cell? ⟨a1.block, a1.off + 5, none⟩ = some (.int .i64 (s.f3)) ∧ w'.cell? ⟨a1.block, a1.off + 6, none⟩ = some (.int .i64 (s.f4)) ∧ w'.cell? ⟨a1.block, a1.off + 7, none⟩ = some (.int .i64 (s.f5)) ∧ w'.cell? ⟨a1.block, a1.off + 8, none⟩ = some (.slice Pa1_0 (s.f6.length) ca1_0) ∧ w'.cell? ⟨a2.block, a2.off + 9, none⟩ = some (.int .i64 (x)) ∧ w'.cell? ⟨a2.block, a2.off + 9 + 1, none⟩ = some (.int .i64 (ys)) ∧ w'.cell? ⟨a2.block, a2.off + 9 + 2, none⟩ = some (.int .i64 (s.f0)) ∧ w'.cell? ⟨a2.block, a2.off + 9 + 3, none⟩ = some (.int .i64 (s.f1)) ∧ w'.cell? ⟨a2.block, a2.off + 9 + 4, none⟩ = some (.int .i64 (s.f2)) ∧ w'.cell? ⟨a2.block, a2.off + 9 + 5, none⟩ = some (.int .i64 (s.f3)) ∧ w'.cell? ⟨a2.block, a2.off + 9 + 6, none⟩ = some (.int .i64 (s.f4)) ∧ w'.cell? ⟨a2.block, a2.off + 9 + 7, none⟩ = some (.int .i64 (s.f5)) ∧ w'.cell? ⟨a2.block, a2.off + 9 + 8, none⟩ = some (.slice Pa2_1 (s.f6.length) ca2_1)) (exact H16.out _ (by with_reducible repeat (first | exact HP.out | apply Pd.alloc | apply Pd.drew))) (first | (go_at_call 21; refine (same_calls _ s (Nat.lt_succ_self _) _ _ _ _ _ HLa2_1.out (C_pd HCa2_1.out (by with_reducible repeat (first | exact HP.out | apply Pd.alloc | apply Pd.drew))) HLa1_0.out (C_pd HCa1_0.out (by with_reducible repeat (first | exact HP.out | apply Pd.alloc | apply Pd.drew)))).mono ?_; rintro _ w1 ⟨rfl, hb⟩; replace HP := Aside0.mk (Pd.below (by with_reducible repeat (first | exact HP.out | apply Pd.alloc | apply Pd.drew)) hb); clear hb))
        all_goals (go_wp2; go_roundw)
        all_goals (first | (case rel => exact ⟨by first | (simp; done) | go_num, HP⟩) | skip)
        all_goals (first | (case measure => simp [intOf]) | skip)
      · have j13 := (H13.out _ _ HP.out).2
        have ja := (HKa1_1.out _ _ HP.out).1
        go_wp2_with fail
        clear j13 ja
        have H16 : Aside0 (∀ w' : World, Pd w21 w' [(g15, OB15)] → w'.cell? ⟨g13, 6, none⟩ = some (.slice (some a1) 4 n20) ∧ w'.cell? ⟨g15, 6, none⟩ = some (.slice (some a2) 5 n21) ∧ w'.cell? ⟨a1.block, a1.off + 9 + 1, none⟩ = some (.int .i64 (yl)) ∧ w'.cell? ⟨a1.block, a1.off + 9 + 2, none⟩ = some (.int .i64 (2)) ∧ w'.cell? ⟨a1.block, a1.off + 9 + 3, none⟩ = some (.int .i64 (b.f1)) ∧ w'.cell? ⟨a1.block, a1.off + 9 + 4, none⟩ = some (.int .i64 (th)) ∧ w'.cell? ⟨a1.block, a1.off + 9 + 5, none⟩ = some (.int .i64 (0)) ∧ w'.cell? ⟨a1.block, a1.off + 9 + 6, none⟩ = some (.int .i64 (0)) ∧ w'.cell? ⟨a1.block, a1.off + 9 + 7, none⟩ = some (.int .i64 (0)) ∧ w'.cell? ⟨a1.block, a1.off + 9 + 8, none⟩ = some (.slice Pa1_1 (0) ca1_1) ∧ w'.cell? ⟨a2.block, a2.off + 18, none⟩ = some (.int .i64 (X1)) ∧ w'.cell? ⟨a2.block, a2.off + 18 + 1, none⟩ = some (.int .i64 (yl)) ∧ w'.cell? ⟨a2.block, a2.off + 18 + 2, none⟩ = some (.int .i64 (2)) ∧ w'.cell? ⟨a2.block, a2.off + 18 + 3, none⟩ = some (.int .i64 (b.f1)) ∧ w'.cell? ⟨a2.block, a2.off + 18 + 4, none⟩ = some (.int .i64 (th)) ∧ w'.cell? ⟨a2.block, a2.off + 18 + 5, none⟩ = some (.int .i64 (0)) ∧ w'.cell? ⟨a2.block, a2.off + 18 + 6, none⟩ = some (.int .i64 (0)) ∧ w'.cell? ⟨a2.block, a2.off + 18 + 7, none⟩ = some (.int .i64 (0)) ∧ w'.cell? ⟨a2.block, a2.off + 18 + 8, none⟩ = some (.slice Pa2_2 (0) ca2_2)) := ⟨fun W hp => by have j13 := H13.out _ _ hp; have j15 := H15.out _ _ hp; have jk := HKa1_1.out _ _ hp; have jm := HKa2_2.out _ _ hp; exact ⟨j13.2, j15.2, jk.2.1, jk.2.2.1, jk.2.2.2.1, jk.2.2.2.2.1, jk.2.2.2.2.2.1, jk.2.2.2.2.2.2.1, jk.2.2.2.2.2.2.2.1, jk.2.2.2.2.2.2.2.2, jm⟩⟩
        have hwk : IntKind.i64.wrap 2 = 2 := by first | rfl | decide
        go_region_held3 (fun w' => w'.cell? ⟨g13, 6, none⟩ = some (.slice (some a1) 4 n20) ∧ w'.cell? ⟨g15, 6, none⟩ = some (.slice (some a2) 5 n21) ∧ w'.cell? ⟨a1.block, a1.off + 9 + 1, none⟩ = some (.int .i64 (yl)) ∧ w'.cell? ⟨a1.block, a1.off + 9 + 2, none⟩ = some (.int .i64 (2)) ∧ w'.cell? ⟨a1.block, a1.off + 9 + 3, none⟩ = some (.int .i64 (b.f1)) ∧ w'.cell? ⟨a1.block, a1.off + 9 + 4, none⟩ = some (.int .i64 (th)) ∧ w'.cell? ⟨a1.block, a1.off + 9 + 5, none⟩ = some (.int .i64 (0)) ∧ w'.cell? ⟨a1.block, a1.off + 9 + 6, none⟩ = some (.int .i64 (0)) ∧ w'.cell? ⟨a1.block, a1.off + 9 + 7, none⟩ = some (.int .i64 (0)) ∧ w'.cell? ⟨a1.block, a1.off + 9 + 8, none⟩ = some (.slice Pa1_1 (0) ca1_1) ∧ w'.cell? ⟨a2.block, a2.off + 18, none⟩ = some (.int .i64 (X1)) ∧ w'.cell? ⟨a2.block, a2.off + 18 + 1, none⟩ = some (.int .i64 (yl)) ∧ w'.cell? ⟨a2.block, a2.off + 18 + 2, none⟩ = some (.int .i64 (2)) ∧ w'.cell? ⟨a2.block, a2.off + 18 + 3, none⟩ = some (.int .i64 (b.f1)) ∧ w'.cell? ⟨a2.block, a2.off + 18 + 4, none⟩ = some (.int .i64 (th)) ∧ w'.cell? ⟨a2.block, a2.off + 18 + 5, none⟩ = some (.int .i64 (0)) ∧ w'.cell? ⟨a2.block, a2.off + 18 + 6, none⟩ = some (.int .i64 (0)) ∧ w'.cell? ⟨a2.block, a2.off + 18 + 7, none⟩ = some (.int .i64 (0)) ∧ w'.cell? ⟨a2.block, a2.off + 18 + 8, none⟩ = some (.slice Pa2_2 (0) ca2_2)) (exact H16.out _ (by with_reducible repeat (first | exact HP.out | apply Pd.alloc | apply Pd.drew))) (first | (go_at_call 21; refine (same_calls _ (⟨2, b.f1, th, 0, 0, 0, []⟩ : S39) (Nat.lt_succ_self _) _ _ _ _ _ HLa2_2.out (C_pd HCa2_2.out (by with_reducible repeat (first | exact HP.out | apply Pd.alloc | apply Pd.drew))) HLa1_1.out (C_pd HCa1_1.out (by with_reducible repeat (first | exact HP.out | apply Pd.alloc | apply Pd.drew)))).mono ?_; rintro _ w1 ⟨rfl, hb⟩; replace HP := Aside0.mk (Pd.below (by with_reducible repeat (first | exact HP.out | apply Pd.alloc | apply Pd.drew)) hb); clear hb))
        all_goals (go_wp2; go_roundw)
        all_goals (first | (case rel => exact ⟨by first | (simp; done) | go_num, HP⟩) | skip)
        all_goals (first | (case measure => simp [intOf]) | skip)
      · have j13 := (H13.out _ _ HP.out).2
        have ja := (HKa1_2.out _ _ HP.out).1
        go_wp2_with fail
        clear j13 ja
        have H16 : Aside0 (∀ w' : World, Pd w21 w' [(g15, OB15)] → w'.cell? ⟨g13, 6, none⟩ = some (.slice (some a1) 4 n20) ∧ w'.cell? ⟨g15, 6, none⟩ = some (.slice (some a2) 5 n21) ∧ w'.cell? ⟨a1.block, a1.off + 18 + 1, none⟩ = some (.int .i64 (0)) ∧ w'.cell? ⟨a1.block, a1.off + 18 + 2, none⟩ = some (.int .i64 (b.f0)) ∧ w'.cell? ⟨a1.block, a1.off + 18 + 3, none⟩ = some (.int .i64 (b.f1)) ∧ w'.cell? ⟨a1.block, a1.off + 18 + 4, none⟩ = some (.int .i64 (b.f2)) ∧ w'.cell? ⟨a1.block, a1.off + 18 + 5, none⟩ = some (.int .i64 (b.f3)) ∧ w'.cell? ⟨a1.block, a1.off + 18 + 6, none⟩ = some (.int .i64 (b.f4)) ∧ w'.cell? ⟨a1.block, a1.off + 18 + 7, none⟩ = some (.int .i64 (b.f5)) ∧ w'.cell? ⟨a1.block, a1.off + 18 + 8, none⟩ = some (.slice Pa1_2 (b.f6.length) ca1_2) ∧ w'.cell? ⟨a2.block, a2.off + 27, none⟩ = some (.int .i64 (X1)) ∧ w'.cell? ⟨a2.block, a2.off + 27 + 1, none⟩ = some (.int .i64 (0)) ∧ w'.cell? ⟨a2.block, a2.off + 27 + 2, none⟩ = some (.int .i64 (b.f0)) ∧ w'.cell? ⟨a2.block, a2.off + 27 + 3, none⟩ = some (.int .i64 (b.f1)) ∧ w'.cell? ⟨a2.block, a2.off + 27 + 4, none⟩ = some (.int .i64 (b.f2)) ∧ w'.cell? ⟨a2.block, a2.off + 27 + 5, none⟩ = some (.int .i64 (b.f3)) ∧ w'.cell? ⟨a2.block, a2.off + 27 + 6, none⟩ = some (.int .i64 (b.f4)) ∧ w'.cell? ⟨a2.block, a2.off + 27 + 7, none⟩ = some (.int .i64 (b.f5)) ∧ w'.cell? ⟨a2.block, a2.off + 27 + 8, none⟩ = some (.slice Pa2_3 (b.f6.length) ca2_3)) := ⟨fun W hp => by have j13 := H13.out _ _ hp; have j15 := H15.out _ _ hp; have jk := HKa1_2.out _ _ hp; have jm := HKa2_3.out _ _ hp; exact ⟨j13.2, j15.2, jk.2.1, jk.2.2.1, jk.2.2.2.1, jk.2.2.2.2.1, jk.2.2.2.2.2.1, jk.2.2.2.2.2.2.1, jk.2.2.2.2.2.2.2.1, jk.2.2.2.2.2.2.2.2, jm⟩⟩
        have hwk : IntKind.i64.wrap 3 = 3 := by first | rfl | decide
        go_region_held3 (fun w' => w'.cell? ⟨g13, 6, none⟩ = some (.slice (some a1) 4 n20) ∧ w'.cell? ⟨g15, 6, none⟩ = some (.slice (some a2) 5 n21) ∧ w'.cell? ⟨a1.block, a1.off + 18 + 1, none⟩ = some (.int .i64 (0)) ∧ w'.cell? ⟨a1.block, a1.off + 18 + 2, none⟩ = some (.int .i64 (b.f0)) ∧ w'.cell? ⟨a1.block, a1.off + 18 + 3, none⟩ = some (.int .i64 (b.f1)) ∧ w'.cell? ⟨a1.block, a1.off + 18 + 4, none⟩ = some (.int .i64 (b.f2)) ∧ w'.cell? ⟨a1.block, a1.off + 18 + 5, none⟩ = some (.int .i64 (b.f3)) ∧ w'.cell? ⟨a1.block, a1.off + 18 + 6, none⟩ = some (.int .i64 (b.f4)) ∧ w'.cell? ⟨a1.block, a1.off + 18 + 7, none⟩ = some (.int .i64 (b.f5)) ∧ w'.cell? ⟨a1.block, a1.off + 18 + 8, none⟩ = some (.slice Pa1_2 (b.f6.length) ca1_2) ∧ w'.cell? ⟨a2.block, a2.off + 27, none⟩ = some (.int .i64 (X1)) ∧ w'.cell? ⟨a2.block, a2.off + 27 + 1, none⟩ = some (.int .i64 (0)) ∧ w'.cell? ⟨a2.block, a2.off + 27 + 2, none⟩ = some (.int .i64 (b.f0)) ∧ w'.cell? ⟨a2.block, a2.off + 27 + 3, none⟩ = some (.int .i64 (b.f1)) ∧ w'.cell? ⟨a2.block, a2.off + 27 + 4, none⟩ = some (.int .i64 (b.f2)) ∧ w'.cell? ⟨a2.block, a2.off + 27 + 5, none⟩ = some (.int .i64 (b.f3)) ∧ w'.cell? ⟨a2.block, a2.off + 27 + 6, none⟩ = some (.int .i64 (b.f4)) ∧ w'.cell? ⟨a2.block, a2.off + 27 + 7, none⟩ = some (.int .i64 (b.f5)) ∧ w'.cell? ⟨a2.block, a2.off + 27 + 8, none⟩ = some (.slice Pa2_3 (b.f6.length) ca2_3)) (exact H16.out _ (by with_reducible repeat (first | exact HP.out | apply Pd.alloc | apply Pd.drew))) (first | (go_at_call 21; refine (same_calls _ b (Nat.lt_succ_self _) _ _ _ _ _ HLa2_3.out (C_pd HCa2_3.out (by with_reducible repeat (first | exact HP.out | apply Pd.alloc | apply Pd.drew))) HLa1_2.out (C_pd HCa1_2.out (by with_reducible repeat (first | exact HP.out | apply Pd.alloc | apply Pd.drew)))).mono ?_; rintro _ w1 ⟨rfl, hb⟩; replace HP := Aside0.mk (Pd.below (by with_reducible repeat (first | exact HP.out | apply Pd.alloc | apply Pd.drew)) hb); clear hb))
        all_goals (go_wp2; go_roundw)
        all_goals (first | (case rel => exact ⟨by first | (simp; done) | go_num, HP⟩) | skip)
        all_goals (first | (case measure => simp [intOf]) | skip)
      · have j13 := (H13.out _ _ HP.out).2
        have ja := (HKa1_3.out _ _ HP.out).1
        go_wp2_with fail
        clear j13 ja
        have H16 : Aside0 (∀ w' : World, Pd w21 w' [(g15, OB15)] → w'.cell? ⟨g13, 6, none⟩ = some (.slice (some a1) 4 n20) ∧ w'.cell? ⟨g15, 6, none⟩ = some (.slice (some a2) 5 n21) ∧ w'.cell? ⟨a1.block, a1.off + 27 + 1, none⟩ = some (.int .i64 (0)) ∧ w'.cell? ⟨a1.block, a1.off + 27 + 2, none⟩ = some (.int .i64 (0)) ∧ w'.cell? ⟨a1.block, a1.off + 27 + 3, none⟩ = some (.int .i64 (0)) ∧ w'.cell? ⟨a1.block, a1.off + 27 + 4, none⟩ = some (.int .i64 (hi)) ∧ w'.cell? ⟨a1.block, a1.off + 27 + 5, none⟩ = some (.int .i64 (0)) ∧ w'.cell? ⟨a1.block, a1.off + 27 + 6, none⟩ = some (.int .i64 (0)) ∧ w'.cell? ⟨a1.block, a1.off + 27 + 7, none⟩ = some (.int .i64 (0)) ∧ w'.cell? ⟨a1.block, a1.off + 27 + 8, none⟩ = some (.slice Pa1_3 (0) ca1_3) ∧ w'.cell? ⟨a2.block, a2.off + 36, none⟩ = some (.int .i64 (0)) ∧ w'.cell? ⟨a2.block, a2.off + 36 + 1, none⟩ = some (.int .i64 (0)) ∧ w'.cell? ⟨a2.block, a2.off + 36 + 2, none⟩ = some (.int .i64 (0)) ∧ w'.cell? ⟨a2.block, a2.off + 36 + 3, none⟩ = some (.int .i64 (0)) ∧ w'.cell? ⟨a2.block, a2.off + 36 + 4, none⟩ = some (.int .i64 (hi)) ∧ w'.cell? ⟨a2.block, a2.off + 36 + 5, none⟩ = some (.int .i64 (0)) ∧ w'.cell? ⟨a2.block, a2.off + 36 + 6, none⟩ = some (.int .i64 (0)) ∧ w'.cell? ⟨a2.block, a2.off + 36 + 7, none⟩ = some (.int .i64 (0)) ∧ w'.cell? ⟨a2.block, a2.off + 36 + 8, none⟩ = some (.slice Pa2_4 (0) ca2_4)) := ⟨fun W hp => by have j13 := H13.out _ _ hp; have j15 := H15.out _ _ hp; have jk := HKa1_3.out _ _ hp; have jm := HKa2_4.out _ _ hp; exact ⟨j13.2, j15.2, jk.2.1, jk.2.2.1, jk.2.2.2.1, jk.2.2.2.2.1, jk.2.2.2.2.2.1, jk.2.2.2.2.2.2.1, jk.2.2.2.2.2.2.2.1, jk.2.2.2.2.2.2.2.2, jm⟩⟩
        have hwk : IntKind.i64.wrap 4 = 4 := by first | rfl | decide
        go_region_held3 (fun w' => w'.cell? ⟨g13, 6, none⟩ = some (.slice (some a1) 4 n20) ∧ w'.cell? ⟨g15, 6, none⟩ = some (.slice (some a2) 5 n21) ∧ w'.cell? ⟨a1.block, a1.off + 27 + 1, none⟩ = some (.int .i64 (0)) ∧ w'.cell? ⟨a1.block, a1.off + 27 + 2, none⟩ = some (.int .i64 (0)) ∧ w'.cell? ⟨a1.block, a1.off + 27 + 3, none⟩ = some (.int .i64 (0)) ∧ w'.cell? ⟨a1.block, a1.off + 27 + 4, none⟩ = some (.int .i64 (hi)) ∧ w'.cell? ⟨a1.block, a1.off + 27 + 5, none⟩ = some (.int .i64 (0)) ∧ w'.cell? ⟨a1.block, a1.off + 27 + 6, none⟩ = some (.int .i64 (0)) ∧ w'.cell? ⟨a1.block, a1.off + 27 + 7, none⟩ = some (.int .i64 (0)) ∧ w'.cell? ⟨a1.block, a1.off + 27 + 8, none⟩ = some (.slice Pa1_3 (0) ca1_3) ∧ w'.cell? ⟨a2.block, a2.off + 36, none⟩ = some (.int .i64 (0)) ∧ w'.cell? ⟨a2.block, a2.off + 36 + 1, none⟩ = some (.int .i64 (0)) ∧ w'.cell? ⟨a2.block, a2.off + 36 + 2, none⟩ = some (.int .i64 (0)) ∧ w'.cell? ⟨a2.block, a2.off + 36 + 3, none⟩ = some (.int .i64 (0)) ∧ w'.cell? ⟨a2.block, a2.off + 36 + 4, none⟩ = some (.int .i64 (hi)) ∧ w'.cell? ⟨a2.block, a2.off + 36 + 5, none⟩ = some (.int .i64 (0)) ∧ w'.cell? ⟨a2.block, a2.off + 36 + 6, none⟩ = some (.int .i64 (0)) ∧ w'.cell? ⟨a2.block, a2.off + 36 + 7, none⟩ = some (.int .i64 (0)) ∧ w'.cell? ⟨a2.block, a2.off + 36 + 8, none⟩ = some (.slice Pa2_4 (0) ca2_4)) (exact H16.out _ (by with_reducible repeat (first | exact HP.out | apply Pd.alloc | apply Pd.drew))) (first | (go_at_call 21; refine (same_calls _ (⟨0, 0, hi, 0, 0, 0, []⟩ : S39) (Nat.lt_succ_self _) _ _ _ _ _ HLa2_4.out (C_pd HCa2_4.out (by with_reducible repeat (first | exact HP.out | apply Pd.alloc | apply Pd.drew))) HLa1_3.out (C_pd HCa1_3.out (by with_reducible repeat (first | exact HP.out | apply Pd.alloc | apply Pd.drew)))).mono ?_; rintro _ w1 ⟨rfl, hb⟩; replace HP := Aside0.mk (Pd.below (by with_reducible repeat (first | exact HP.out | apply Pd.alloc | apply Pd.drew)) hb); clear hb))
        all_goals (go_wp2; go_roundw)
        all_goals (first | (case rel => exact ⟨by first | (simp; done) | go_num, HP⟩) | skip)
        all_goals (first | (case measure => simp [intOf]) | skip)
      · go_wp2_with fail
        refine (hbar _).mono ?_
        rintro _ w7 ⟨rfl, hb⟩
        replace HP := Aside0.mk (Pd.below HP.out hb)
        clear hb
        have j15 := (H15.out _ _ HP.out).1
        have j13 := (H13.out _ _ HP.out).1
        have hge : decide (0 ≤ x) = true := by simp; exact hx0
        go_wp2
        go_ret
        exact ⟨by first | rfl | simp, below_step HW.out HP.out.bel⟩
end Go.Proofs.Ytjkbblnebpgpfaa.P
