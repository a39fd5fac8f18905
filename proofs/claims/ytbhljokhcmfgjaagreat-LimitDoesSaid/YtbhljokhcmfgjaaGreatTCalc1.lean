import Derived.Test.YtbhljokhcmfgjaaGreatTRef7
/- The calculator (layer 26's reference) over whatever blocks the caller has: its block is the one ahead. Printed by a program of this work (mkcalc1.py). -/
set_option linter.unusedVariables false
set_option linter.unusedSimpArgs false
namespace Go.Proofs.YtbhljokhcmfgjaaGreat.P
open Go.RowKit Go.Proofs.YtbhljokhcmfgjaaGreatW.PrintWords Go.Proofs.YtbhljokhcmfgjaaGreatW.PrintLast Go.Proofs.YtbhljokhcmfgjaaGreatW.PrintMore

theorem put_head0 {w : World} {q : Nat} {t : TypeId} {u v : Value} {rest : List Value} (h : w.heap[q]? = some (.cells (u :: rest).toArray t (0, 0))) : (w.setCell ⟨q, 0, none⟩ v).heap[q]? = some (.cells (v :: rest).toArray t (0, 0)) := blk_put h 0 v (by simp)
section
variable {w W W1 : World} {L : List (Nat × Obj)} {g : Nat} {e : Int} {rest : List Value} {t : TypeId}
theorem Pd.sto {u v : Value} (h : Pd w W ((g, .cells (u :: rest).toArray t (0, 0)) :: L)) : Pd w (W.setCell ⟨g, 0, none⟩ v) ((g, .cells (v :: rest).toArray t (0, 0)) :: L) :=
  h.put (put_head0 h.hd) (fun k hk => Below.heap_setCell _ ⟨g, 0, none⟩ v k hk) (Below.setCell h.bel (p := ⟨g, 0, none⟩) (h.loc _ List.mem_cons_self).2 v)
theorem hd_cell {u : Value} (h : W.heap[g]? = some (.cells (u :: rest).toArray t (0, 0))) : W.cell? ⟨g, 0, none⟩ = some u := by
  rw [blk_cell h 0]
  simp
set_option maxRecDepth 100000 in
set_option maxHeartbeats 1000000 in
theorem got_cd (h : Pd w W ((g, .cells (Value.int .i64 e :: rest).toArray t (0, 0)) :: L)) (n x : Int) : Calls Tryz.prog 36 #[.pointer (some ⟨g, 0, none⟩), .int .i64 n, .int .i64 x] W fun r w' => r = .returned (.int .i64 (keepV e (n, x)).1) ∧ Pd w w' ((g, .cells (Value.int .i64 (keepV e (n, x)).2 :: rest).toArray t (0, 0)) :: L) := by
  have hc := hd_cell h.hd
  have hf : W.frozen? ⟨g, 0, none⟩ = false := blk_frozen h.hd 0
  have HP := Aside0.mk h
  clear h
  go_enter Tryz.func36, Tryz.ntmps36
  by_cases he : e = 0
  · subst he
    have k2 : (keepV 0 (n, x)).2 = x := by simp [keepV]
    by_cases hx : x = 0
    · subst hx
      have k1 : (keepV 0 (n, 0)).1 = n := by simp [keepV]
      rw [k1, k2]
      go_wp2
      go_ret
      exact ⟨rfl, Pd.sto HP.out⟩
    · have k1 : (keepV 0 (n, x)).1 = 0 := by simp [keepV, hx]
      rw [k1, k2]
      go_wp2
      go_ret
      exact ⟨rfl, Pd.sto HP.out⟩
  · have k1 : (keepV e (n, x)).1 = 0 := by simp [keepV, he]
    have k2 : (keepV e (n, x)).2 = e := by simp [keepV, he]
    rw [k1, k2]
    go_wp2
    go_ret
    exact ⟨rfl, HP.out⟩
set_option maxRecDepth 100000 in
set_option maxHeartbeats 1000000 in
theorem add_cd (h : Pd w W ((g, .cells (Value.int .i64 e :: rest).toArray t (0, 0)) :: L)) (a b : Int) : Calls Tryz.prog 30 #[.pointer (some ⟨g, 0, none⟩), .int .i64 a, .int .i64 b] W fun r w' => r = .returned (.int .i64 (keepV e (toldOf (sumR [a, b]))).1) ∧ Pd w w' ((g, .cells (Value.int .i64 (keepV e (toldOf (sumR [a, b]))).2 :: rest).toArray t (0, 0)) :: L) := by
  obtain ⟨p, hp⟩ : ∃ p, p = toldOf (sumR [a, b]) := ⟨_, rfl⟩
  have HC := Aside0.mk (fun w => add01 a b w)
  rw [← hp] at HC ⊢
  clear hp
  have HP := Aside0.mk h
  clear h
  go_enter Tryz.func30, Tryz.ntmps30
  go_wp2_with fail
  refine (HC.out _).mono ?_
  rintro _ w1 ⟨rfl, rfl⟩
  go_wp2_with fail
  refine (got_cd HP.out p.1 p.2).mono ?_
  rintro _ w2 ⟨rfl, hp⟩
  replace HP := Aside0.mk hp
  clear hp
  go_wp2
  go_ret
  exact ⟨rfl, HP.out⟩
set_option maxRecDepth 100000 in
set_option maxHeartbeats 1000000 in
theorem half_cd (h : Pd w W ((g, .cells (Value.int .i64 e :: rest).toArray t (0, 0)) :: L)) (a : Int) : Calls Tryz.prog 28 #[.pointer (some ⟨g, 0, none⟩), .int .i64 a] W fun r w' => r = .returned (.int .i64 (keepV e (toldOf (halfR a))).1) ∧ Pd w w' ((g, .cells (Value.int .i64 (keepV e (toldOf (halfR a))).2 :: rest).toArray t (0, 0)) :: L) := by
  obtain ⟨p, hp⟩ : ∃ p, p = toldOf (halfR a) := ⟨_, rfl⟩
  have HC := Aside0.mk (fun w => half01 a w)
  rw [← hp] at HC ⊢
  clear hp
  have HP := Aside0.mk h
  clear h
  go_enter Tryz.func28, Tryz.ntmps28
  go_wp2_with fail
  refine (HC.out _).mono ?_
  rintro _ w1 ⟨rfl, rfl⟩
  go_wp2_with fail
  refine (got_cd HP.out p.1 p.2).mono ?_
  rintro _ w2 ⟨rfl, hp⟩
  replace HP := Aside0.mk hp
  clear hp
  go_wp2
  go_ret
  exact ⟨rfl, HP.out⟩
set_option maxRecDepth 100000 in
set_option maxHeartbeats 1000000 in
theorem sub_cd (h : Pd w W ((g, .cells (Value.int .i64 e :: rest).toArray t (0, 0)) :: L)) (a b : Int) : Calls Tryz.prog 31 #[.pointer (some ⟨g, 0, none⟩), .int .i64 a, .int .i64 b] W fun r w' => r = .returned (.int .i64 (keepV e (toldOf (sumR [a, wrap64 (-b)]))).1) ∧ Pd w w' ((g, .cells (Value.int .i64 (keepV e (toldOf (sumR [a, wrap64 (-b)]))).2 :: rest).toArray t (0, 0)) :: L) := by
  have HP := Aside0.mk h
  clear h
  go_enter Tryz.func31, Tryz.ntmps31
  go_wp2_with fail
  (try simp only [i64_w])
  refine (add_cd HP.out a (wrap64 (-b))).mono ?_
  rintro _ w2 ⟨rfl, hp⟩
  replace HP := Aside0.mk hp
  clear hp
  go_wp2
  go_ret
  exact ⟨rfl, HP.out⟩
def midV (e all own : Int) : Int × Int := keepV (keepV e (toldOf (sumR [all, wrap64 (-own)]))).2 (toldOf (halfR (keepV e (toldOf (sumR [all, wrap64 (-own)]))).1))
set_option maxRecDepth 100000 in
set_option maxHeartbeats 1000000 in
theorem mid_cd (h : Pd w W ((g, .cells (Value.int .i64 e :: rest).toArray t (0, 0)) :: L)) (a b : Int) : Calls Tryz.prog 29 #[.pointer (some ⟨g, 0, none⟩), .int .i64 a, .int .i64 b] W fun r w' => r = .returned (.int .i64 (midV e a b).1) ∧ Pd w w' ((g, .cells (Value.int .i64 (midV e a b).2 :: rest).toArray t (0, 0)) :: L) := by
  obtain ⟨R, hR⟩ : ∃ R, R = midV e a b := ⟨_, rfl⟩
  rw [← hR]
  have HR := Aside0.mk hR
  clear hR
  have HP := Aside0.mk h
  clear h
  go_enter Tryz.func29, Tryz.ntmps29
  go_wp2_with fail
  refine (sub_cd HP.out a b).mono ?_
  rintro _ w2 ⟨rfl, hp⟩
  replace HP := Aside0.mk hp
  clear hp
  obtain ⟨s, hs⟩ : ∃ s, s = keepV e (toldOf (sumR [a, wrap64 (-b)])) := ⟨_, rfl⟩
  rw [← hs] at HP ⊢
  have HS := Aside0.mk hs
  clear hs
  go_wp2_with fail
  refine (half_cd HP.out s.1).mono ?_
  rintro _ w3 ⟨rfl, hp⟩
  replace HP := Aside0.mk hp
  clear hp
  obtain rfl : R = keepV s.2 (toldOf (halfR s.1)) := by rw [HR.out, midV, ← HS.out]
  go_wp2
  go_ret
  exact ⟨rfl, HP.out⟩
set_option maxRecDepth 100000 in
set_option maxHeartbeats 1000000 in
theorem konst_cd (h : Pd w W ((g, .cells (Value.int .i64 e :: rest).toArray t (0, 0)) :: L)) {F : S36} {cs : List Value} {va : Array Value} (hF : FontIn w F cs) (hv : va = cs.toArray) (k c z : Int) : Calls Tryz.prog 25 #[.pointer (some ⟨g, 0, none⟩), .agg va, .int .i64 k, .int .i64 c, .int .i64 z] W fun r w' => r = .returned (.int .i64 (keepV e (konstV F k c z)).1) ∧ Pd w w' ((g, .cells (Value.int .i64 (keepV e (konstV F k c z)).2 :: rest).toArray t (0, 0)) :: L) := by
  subst hv
  obtain ⟨p, hp⟩ : ∃ p, p = konstV F k c z := ⟨_, rfl⟩
  have HC := Aside0.mk (fun w (hF : FontIn w F cs) => konst22 F k c z cs w hF)
  rw [← hp] at HC ⊢
  clear hp
  have hu36 := Tryz.underlying36
  obtain ⟨A6, c6, A7, c7, A8, c8, A9, c9, A10, c10, A11, c11, A12, c12, A13, c13, A15, c15, A16, c16, hcs, hcr⟩ := id hF
  subst hcs
  clear hcr
  have HF := Aside0.mk hF
  have HP := Aside0.mk h
  clear hF h
  go_enter Tryz.func25, Tryz.ntmps25
  go_wp2_with (first | ((with_reducible refine gate_dst (N := 6) rfl ?_); refine box_event ?hg (N := 6) ?hd (cs := #[.int .i64 F.f0.f0, .int .i64 F.f0.f1, .int .i64 F.f0.f2, .int .i64 F.f0.f3, .int .i64 F.f0.f4, .bool F.f0.f5, .slice A6 F.f1.length c6, .slice A7 F.f2.length c7, .slice A8 F.f3.length c8, .slice A9 F.f4.f0.length c9, .slice A10 F.f4.f1.length c10, .slice A11 F.f4.f2.length c11, .slice A12 F.f4.f3.length c12, .slice A13 F.f4.f4.length c13, .int .i64 F.f4.f5.f0, .slice A15 F.f4.f5.f1.length c15, .slice A16 F.f4.f5.f2.length c16]) (t := 36) ?hr ?_; (case hd => rfl); (case hg => rfl); (case hr => first | (go_simp; done) | (go_simp; rfl)); intro gf hg wk hbox hb; replace HP := Aside0.mk (Pd.box (by with_reducible repeat (first | exact HP.out | apply Pd.drew)) hg hbox hb); clear hg hbox hb) | ((with_reducible refine gate_dst (N := 14) rfl ?_); refine wpList_load_row rfl 36 (.tmp 6) rfl gf (by rfl) 36 #[.int .i64 F.f0.f0, .int .i64 F.f0.f1, .int .i64 F.f0.f2, .int .i64 F.f0.f3, .int .i64 F.f0.f4, .bool F.f0.f5, .slice A6 F.f1.length c6, .slice A7 F.f2.length c7, .slice A8 F.f3.length c8, .slice A9 F.f4.f0.length c9, .slice A10 F.f4.f1.length c10, .slice A11 F.f4.f2.length c11, .slice A12 F.f4.f3.length c12, .slice A13 F.f4.f4.length c13, .int .i64 F.f4.f5.f0, .slice A15 F.f4.f5.f1.length c15, .slice A16 F.f4.f5.f2.length c16] (0, 0) _ (Pd.hd (by with_reducible repeat (first | exact HP.out | apply Pd.drew))) hu36 rfl info_font ?_))
  refine (HC.out _ (HF.out.heap HP.out.bel)).mono ?_
  rintro _ w1 ⟨rfl, hb⟩
  replace HP := Aside0.mk (HP.out.below hb).tl
  clear hb
  go_wp2_with fail
  refine (got_cd HP.out p.1 p.2).mono ?_
  rintro _ w2 ⟨rfl, hp⟩
  replace HP := Aside0.mk hp
  clear hp
  go_wp2
  go_ret
  exact ⟨rfl, HP.out⟩
theorem lens3 (x : S39) : lens x = (isLen x.f1 && (isLen x.f2 && isLen x.f3)) := by simp [lens]
set_option maxRecDepth 100000 in
set_option maxHeartbeats 1000000 in
theorem lens26 (x : S39) (A : Option Addr) (n : Nat) (w : World) : Calls Tryz.prog 50 #[.agg #[.int .i64 x.f0, .int .i64 x.f1, .int .i64 x.f2, .int .i64 x.f3, .int .i64 x.f4, .int .i64 x.f5, .slice A x.f6.length n]] w fun r w' => r = .returned (.bool (lens x)) ∧ Below w.heap.size w w' := by
  have hu39 := Tryz.underlying39
  by_cases h1 : isLen x.f1 = true
  case neg =>
    have HL := Aside0.mk (show isLen x.f1 = false by simpa using h1)
    have HV := Aside0.mk (show lens x = false by rw [lens3, HL.out]; simp)
    clear h1
    go_enter Tryz.func50, Tryz.ntmps50
    have HP := Aside0.mk (Pd.start w)
    go_wp2_with (first | ((with_reducible refine gate_dst (N := 1) rfl ?_); refine box_event ?hg (N := 1) ?hd (cs := #[.int .i64 x.f0, .int .i64 x.f1, .int .i64 x.f2, .int .i64 x.f3, .int .i64 x.f4, .int .i64 x.f5, .slice A x.f6.length n]) (t := 39) ?hr ?_; (case hd => rfl); (case hg => rfl); (case hr => first | (go_simp; done) | (go_simp; rfl)); intro gx hg wk hbox hb; replace HP := Aside0.mk (Pd.box (by with_reducible repeat (first | exact HP.out | apply Pd.drew)) hg hbox hb); clear hg hbox hb; have hcx := box_cells (Pd.hd HP.out)))
    refine (len01_f HL.out _).mono ?_
    rintro _ w1 ⟨rfl, rfl⟩
    go_wp2
    go_ret
    exact ⟨tmb (by rw [HV.out]), HP.out.bel⟩
  have HL1 := Aside0.mk h1
  by_cases h2 : isLen x.f2 = true
  case neg =>
    have HL := Aside0.mk (show isLen x.f2 = false by simpa using h2)
    have HV := Aside0.mk (show lens x = false by rw [lens3, HL.out]; simp)
    clear h1 h2
    go_enter Tryz.func50, Tryz.ntmps50
    have HP := Aside0.mk (Pd.start w)
    go_wp2_with (first | ((with_reducible refine gate_dst (N := 1) rfl ?_); refine box_event ?hg (N := 1) ?hd (cs := #[.int .i64 x.f0, .int .i64 x.f1, .int .i64 x.f2, .int .i64 x.f3, .int .i64 x.f4, .int .i64 x.f5, .slice A x.f6.length n]) (t := 39) ?hr ?_; (case hd => rfl); (case hg => rfl); (case hr => first | (go_simp; done) | (go_simp; rfl)); intro gx hg wk hbox hb; replace HP := Aside0.mk (Pd.box (by with_reducible repeat (first | exact HP.out | apply Pd.drew)) hg hbox hb); clear hg hbox hb; have hcx := box_cells (Pd.hd HP.out)))
    refine (len01_t HL1.out _).mono ?_
    rintro _ w1 ⟨rfl, rfl⟩
    go_wp2_with fail
    refine (len01_f HL.out _).mono ?_
    rintro _ w1 ⟨rfl, rfl⟩
    go_wp2
    go_ret
    exact ⟨tmb (by rw [HV.out]), HP.out.bel⟩
  have HL2 := Aside0.mk h2
  by_cases h3 : isLen x.f3 = true
  case neg =>
    have HL := Aside0.mk (show isLen x.f3 = false by simpa using h3)
    have HV := Aside0.mk (show lens x = false by rw [lens3, HL.out]; simp)
    clear h1 h2 h3
    go_enter Tryz.func50, Tryz.ntmps50
    have HP := Aside0.mk (Pd.start w)
    go_wp2_with (first | ((with_reducible refine gate_dst (N := 1) rfl ?_); refine box_event ?hg (N := 1) ?hd (cs := #[.int .i64 x.f0, .int .i64 x.f1, .int .i64 x.f2, .int .i64 x.f3, .int .i64 x.f4, .int .i64 x.f5, .slice A x.f6.length n]) (t := 39) ?hr ?_; (case hd => rfl); (case hg => rfl); (case hr => first | (go_simp; done) | (go_simp; rfl)); intro gx hg wk hbox hb; replace HP := Aside0.mk (Pd.box (by with_reducible repeat (first | exact HP.out | apply Pd.drew)) hg hbox hb); clear hg hbox hb; have hcx := box_cells (Pd.hd HP.out)))
    refine (len01_t HL1.out _).mono ?_
    rintro _ w1 ⟨rfl, rfl⟩
    go_wp2_with fail
    refine (len01_t HL2.out _).mono ?_
    rintro _ w1 ⟨rfl, rfl⟩
    go_wp2_with fail
    refine (len01_f HL.out _).mono ?_
    rintro _ w1 ⟨rfl, rfl⟩
    go_wp2
    go_ret
    exact ⟨tmb (by rw [HV.out]), HP.out.bel⟩
  have HL3 := Aside0.mk h3
  have HV := Aside0.mk (show lens x = true by rw [lens3, h1, h2, h3]; rfl)
  clear h1 h2 h3
  go_enter Tryz.func50, Tryz.ntmps50
  have HP := Aside0.mk (Pd.start w)
  go_wp2_with (first | ((with_reducible refine gate_dst (N := 1) rfl ?_); refine box_event ?hg (N := 1) ?hd (cs := #[.int .i64 x.f0, .int .i64 x.f1, .int .i64 x.f2, .int .i64 x.f3, .int .i64 x.f4, .int .i64 x.f5, .slice A x.f6.length n]) (t := 39) ?hr ?_; (case hd => rfl); (case hg => rfl); (case hr => first | (go_simp; done) | (go_simp; rfl)); intro gx hg wk hbox hb; replace HP := Aside0.mk (Pd.box (by with_reducible repeat (first | exact HP.out | apply Pd.drew)) hg hbox hb); clear hg hbox hb; have hcx := box_cells (Pd.hd HP.out)))
  refine (len01_t HL1.out _).mono ?_
  rintro _ w1 ⟨rfl, rfl⟩
  go_wp2_with fail
  refine (len01_t HL2.out _).mono ?_
  rintro _ w1 ⟨rfl, rfl⟩
  go_wp2_with fail
  refine (len01_t HL3.out _).mono ?_
  rintro _ w1 ⟨rfl, rfl⟩
  go_wp2
  go_ret
  exact ⟨tmb (by rw [HV.out]), HP.out.bel⟩
set_option maxRecDepth 100000 in
set_option maxHeartbeats 1000000 in
theorem need_cd (h : Pd w W ((g, .cells (Value.int .i64 e :: rest).toArray t (0, 0)) :: L)) (x : S39) (A : Option Addr) (n : Nat) : Calls Tryz.prog 27 #[.pointer (some ⟨g, 0, none⟩), .agg #[.int .i64 x.f0, .int .i64 x.f1, .int .i64 x.f2, .int .i64 x.f3, .int .i64 x.f4, .int .i64 x.f5, .slice A x.f6.length n]] W fun r w' => r = .returned (.tuple #[]) ∧ Pd w w' ((g, .cells (Value.int .i64 (needE [x] e) :: rest).toArray t (0, 0)) :: L) := by
  have hu39 := Tryz.underlying39
  have HC := Aside0.mk (fun w => lens26 x A n w)
  have HP := Aside0.mk h
  clear h
  by_cases hl : lens x = true
  · have HL := Aside0.mk (show needE [x] e = e by simp [needE, hl])
    rw [hl] at HC
    rw [HL.out]
    clear hl
    go_enter Tryz.func27, Tryz.ntmps27
    go_wp2_with (first | ((with_reducible refine gate_dst (N := 3) rfl ?_); refine box_event ?hg (N := 3) ?hd (cs := #[.int .i64 x.f0, .int .i64 x.f1, .int .i64 x.f2, .int .i64 x.f3, .int .i64 x.f4, .int .i64 x.f5, .slice A x.f6.length n]) (t := 39) ?hr ?_; (case hd => rfl); (case hg => rfl); (case hr => first | (go_simp; done) | (go_simp; rfl)); intro gx hg wk hbox hb; replace HP := Aside0.mk (Pd.box (by with_reducible repeat (first | exact HP.out | apply Pd.drew)) hg hbox hb); clear hg hbox hb; have hcx := box_cells (Pd.hd HP.out)))
    refine (HC.out _).mono ?_
    rintro _ w1 ⟨rfl, hb⟩
    replace HP := Aside0.mk (HP.out.below hb).tl
    clear hb hcx
    go_wp2
    go_end0
    exact ⟨rfl, HP.out⟩
  · have HL := Aside0.mk (show needE [x] e = (keepV e (0, 1)).2 by simp [needE, keepV, hl])
    rw [show lens x = false by simpa using hl] at HC
    rw [HL.out]
    clear hl
    go_enter Tryz.func27, Tryz.ntmps27
    go_wp2_with (first | ((with_reducible refine gate_dst (N := 3) rfl ?_); refine box_event ?hg (N := 3) ?hd (cs := #[.int .i64 x.f0, .int .i64 x.f1, .int .i64 x.f2, .int .i64 x.f3, .int .i64 x.f4, .int .i64 x.f5, .slice A x.f6.length n]) (t := 39) ?hr ?_; (case hd => rfl); (case hg => rfl); (case hr => first | (go_simp; done) | (go_simp; rfl)); intro gx hg wk hbox hb; replace HP := Aside0.mk (Pd.box (by with_reducible repeat (first | exact HP.out | apply Pd.drew)) hg hbox hb); clear hg hbox hb; have hcx := box_cells (Pd.hd HP.out)))
    refine (HC.out _).mono ?_
    rintro _ w1 ⟨rfl, hb⟩
    replace HP := Aside0.mk (HP.out.below hb).tl
    clear hb hcx
    go_wp2_with fail
    refine (got_cd HP.out 0 1).mono ?_
    rintro _ w2 ⟨rfl, hp⟩
    replace HP := Aside0.mk hp
    clear hp
    go_wp2
    go_end0
    exact ⟨rfl, HP.out⟩
end
end Go.Proofs.YtbhljokhcmfgjaaGreat.P

