import Derived.Test.YtbhljokhcmfgjaaLimF
import Derived.Test.YtbhljokhcmfgjaaLim7
/- The law LimitAttach: what it asks (plain), and the walk. Printed by a program of this work (mklim10.py). -/
set_option linter.unusedVariables false
set_option linter.unusedSimpArgs false
namespace Go.Proofs.Ytbhljokhcmfgjaa.P
open Go.RowKit Go.Proofs.YtbhljokhcmfgjaaW.PrintWords Go.Proofs.YtbhljokhcmfgjaaW.PrintLast Go.Proofs.YtbhljokhcmfgjaaW.PrintMore

theorem Pd.put17_11 {w W : World} {L : List (Nat × Obj)} {q : Nat} {t : TypeId} {u0 u1 u2 u3 u4 u5 u6 u7 u8 u9 u10 u11 u12 u13 u14 u15 u16 v : Value} (h : Pd w W ((q, .cells #[u0, u1, u2, u3, u4, u5, u6, u7, u8, u9, u10, u11, u12, u13, u14, u15, u16] t (0, 0)) :: L)) : Pd w (W.setCell ⟨q, 11, none⟩ v) ((q, .cells #[u0, u1, u2, u3, u4, u5, u6, u7, u8, u9, u10, v, u12, u13, u14, u15, u16] t (0, 0)) :: L) :=
  h.put (blk_put h.hd 11 v rfl) (fun k hk => Below.heap_setCell _ ⟨q, 11, none⟩ v k hk) (h.bel.setCell (p := ⟨q, 11, none⟩) (h.loc _ List.mem_cons_self).2 v)
theorem Pd.put9_7 {w W : World} {L : List (Nat × Obj)} {q : Nat} {t : TypeId} {u0 u1 u2 u3 u4 u5 u6 u7 u8 v : Value} (h : Pd w W ((q, .cells #[u0, u1, u2, u3, u4, u5, u6, u7, u8] t (0, 0)) :: L)) : Pd w (W.setCell ⟨q, 7, none⟩ v) ((q, .cells #[u0, u1, u2, u3, u4, u5, u6, v, u8] t (0, 0)) :: L) :=
  h.put (blk_put h.hd 7 v rfl) (fun k hk => Below.heap_setCell _ ⟨q, 7, none⟩ v k hk) (h.bel.setCell (p := ⟨q, 7, none⟩) (h.loc _ List.mem_cons_self).2 v)
/-- A font with other accents. -/
def withAcc (F : S63) (l : List S82) : S63 := ⟨F.f0, F.f1, F.f2, F.f3, ⟨F.f4.f0, F.f4.f1, l, F.f4.f3, F.f4.f4, F.f4.f5⟩⟩
theorem font_acc {w W : World} {F : S63} (hb : Below w.heap.size w W) {A6 : Option Addr} {c6 : Nat} (l6 : F.f1.length ≤ c6) (g6 : Kd.C k196 w A6 F.f1.length F.f1) {A7 : Option Addr} {c7 : Nat} (l7 : F.f2.length ≤ c7) (g7 : Kd.C k198 w A7 F.f2.length F.f2) {A8 : Option Addr} {c8 : Nat} (l8 : F.f3.length ≤ c8) (g8 : Kd.C k157 w A8 F.f3.length F.f3) {A9 : Option Addr} {c9 : Nat} (l9 : F.f4.f0.length ≤ c9) (g9 : Kd.C (Kd.int .i64) w A9 F.f4.f0.length F.f4.f0) {A10 : Option Addr} {c10 : Nat} (l10 : F.f4.f1.length ≤ c10) (g10 : Kd.C k82 w A10 F.f4.f1.length F.f4.f1) {A12 : Option Addr} {c12 : Nat} (l12 : F.f4.f3.length ≤ c12) (g12 : Kd.C (Kd.int .i64) w A12 F.f4.f3.length F.f4.f3) {A13 : Option Addr} {c13 : Nat} (l13 : F.f4.f4.length ≤ c13) (g13 : Kd.C k160 w A13 F.f4.f4.length F.f4.f4) {A15 : Option Addr} {c15 : Nat} (l15 : F.f4.f5.f1.length ≤ c15) (g15 : Kd.C k178 w A15 F.f4.f5.f1.length F.f4.f5.f1) {A16 : Option Addr} {c16 : Nat} (l16 : F.f4.f5.f2.length ≤ c16) (g16 : Kd.C k178 w A16 F.f4.f5.f2.length F.f4.f5.f2) {ga : Nat} {q : S82} (h2 : Kd.C k82 W (some ⟨ga, 0, none⟩) 1 [q]) : FontIn W (withAcc F [q]) [.int .i64 F.f0.f0, .int .i64 F.f0.f1, .int .i64 F.f0.f2, .int .i64 F.f0.f3, .int .i64 F.f0.f4, .bool F.f0.f5, .slice A6 F.f1.length c6, .slice A7 F.f2.length c7, .slice A8 F.f3.length c8, .slice A9 F.f4.f0.length c9, .slice A10 F.f4.f1.length c10, .slice (some ⟨ga, 0, none⟩) 1 1, .slice A12 F.f4.f3.length c12, .slice A13 F.f4.f4.length c13, .int .i64 F.f4.f5.f0, .slice A15 F.f4.f5.f1.length c15, .slice A16 F.f4.f5.f2.length c16] :=
  ⟨A6, c6, A7, c7, A8, c8, A9, c9, A10, c10, some ⟨ga, 0, none⟩, 1, A12, c12, A13, c13, A15, c15, A16, c16, rfl, l6, Kd.C_below g6 hb, l7, Kd.C_below g7 hb, l8, Kd.C_below g8 hb, l9, Kd.C_below g9 hb, l10, Kd.C_below g10 hb, Nat.le_refl _, h2, l12, Kd.C_below g12 hb, l13, Kd.C_below g13 hb, l15, Kd.C_below g15 hb, l16, Kd.C_below g16 hb⟩
theorem pair_C {W : World} {ga : Nat} {a b : Int} (h : W.heap[ga]? = some (.cells #[.int .i64 a, .int .i64 b] 82 (0, 0))) : Kd.C k82 W (some ⟨ga, 0, none⟩) 1 [⟨a, b⟩] :=
  row_C (xs := [(⟨a, b⟩ : S82)]) (css := [[.int .i64 a, .int .i64 b]]) ⟨⟨[.int .i64 a], [.int .i64 b], rfl, rfl, rfl⟩, trivial⟩ h (by simp)
/-- Half of what is as wide. -/
def halfW (x : S25) (it : Int) : Int × Int := keepV (keepV 0 (toldOf (sumR [x.f1, it]))).2 (toldOf (halfR (keepV 0 (toldOf (sumR [x.f1, it]))).1))
theorem info_one {v : Int} (h1 : ¬ v < -32768) (h2 : ¬ v > 32767) : infoIs [⟨3, v⟩] = true := by
  unfold infoIs
  have hp : pairOk ⟨3, v⟩ = true := (pairOk_iff _).2 ⟨by show -32768 ≤ v; omega, by show v ≤ 32767; omega⟩
  simp [covIs, covGo, hp]
theorem find_three {v : Int} (h1 : ¬ v < -32768) (h2 : ¬ v > 32767) : findV [⟨3, v⟩] 3 = (v, true) := by
  unfold findV
  rw [if_pos (info_one h1 h2)]
  rfl
theorem find_other {v g : Int} (hg : g ≠ 3) (h1 : ¬ v < -32768) (h2 : ¬ v > 32767) : findV [⟨3, v⟩] g = (0, false) := by
  unfold findV
  rw [if_pos (info_one h1 h2)]
  have : ((3 : Int) == g) = false := by simp; omega
  simp [List.find?, this]
theorem need_cases (xs : List Int) : needI xs 0 = 0 ∨ needI xs 0 = 1 := by
  unfold needI
  split
  · exact .inl rfl
  · exact .inr rfl
theorem needI_all {xs : List Int} (h : needI xs 0 = 0) : xs.all isLen = true := by
  unfold needI at h
  split at h
  · next hh => exact hh
  · simp [keepV] at h
theorem halfW_ok {x : S25} {it : Int} (h : needI [x.f1, x.f2, x.f3, it] 0 = 0) : (halfW x it).2 ≠ 1 ∧ ((halfW x it).2 = 0 → wrap64 (2 * (halfW x it).1) = wrap64 (x.f1 + it) ∨ wrap64 (wrap64 (2 * (halfW x it).1) + 1) = wrap64 (x.f1 + it)) := by
  have ha := needI_all h
  simp only [List.all_cons, List.all_nil, Bool.and_true, Bool.and_eq_true] at ha
  obtain ⟨h1, _, _, h2⟩ := ha
  have hs := add_val x.f1 it h1 h2
  obtain ⟨a1, b1⟩ := isLen_iff.1 h1
  obtain ⟨a2, b2⟩ := isLen_iff.1 h2
  unfold halfW
  rw [hs]
  by_cases hl : isLen (x.f1 + it) = true
  · have e1 : toldOf (.ok (x.f1 + it)) = (x.f1 + it, 0) := by simp [toldOf, hl]
    rw [e1]
    have e2 : keepV 0 (x.f1 + it, 0) = (x.f1 + it, 0) := by simp [keepV]
    rw [e2]
    dsimp only
    rw [half_val _ hl]
    have e3 : keepV 0 ((x.f1 + it) / 2, 0) = ((x.f1 + it) / 2, 0) := by simp [keepV]
    rw [e3]
    dsimp only
    refine ⟨by decide, fun _ => ?_⟩
    unfold wrap64
    omega
  · have e1 : toldOf (.ok (x.f1 + it)) = (0, 2) := by simp [toldOf, hl]
    rw [e1]
    have e2 : keepV 0 (0, 2) = (0, 2) := by simp [keepV]
    rw [e2]
    dsimp only
    have e3 : ∀ y, (keepV 2 y).2 = 2 := fun y => by simp [keepV]
    rw [e3]
    exact ⟨by decide, fun h => absurd h (by decide)⟩
theorem attach_err {F : S63} {size gl it : Int} {x : S25} (h : needI [x.f1, x.f2, x.f3, it] 0 = 1) : attachV F size x gl it = (0, 1) := by
  unfold attachV
  rw [if_neg (by rw [h]; decide), h]
theorem attach_three {F : S63} {size v it : Int} {x : S25} (h : needI [x.f1, x.f2, x.f3, it] 0 = 0) (h1 : ¬ v < -32768) (h2 : ¬ v > 32767) : attachV (withAcc F [⟨3, v⟩]) size x 3 it = unitsV F v size := by
  unfold attachV
  rw [if_pos h, show (withAcc F [⟨3, v⟩]).f4.f2 = [⟨3, v⟩] from rfl, find_three h1 h2, if_pos ⟨rfl, by decide⟩]
  rfl
theorem attach_other {F : S63} {size v gl it : Int} {x : S25} (h : needI [x.f1, x.f2, x.f3, it] 0 = 0) (hg : gl ≠ 3) (h1 : ¬ v < -32768) (h2 : ¬ v > 32767) : attachV (withAcc F [⟨3, v⟩]) size x gl it = halfW x it := by
  unfold attachV
  rw [if_pos h, show (withAcc F [⟨3, v⟩]).f4.f2 = [⟨3, v⟩] from rfl, find_other hg h1 h2, if_neg (fun h => (by cases h.1))]
  rfl
set_option maxRecDepth 100000 in
set_option maxHeartbeats 6000000 in
theorem law_attach (w : World) (F : S63) (size : Int) (x : S25) (gl it v : Int) (hO : Ok25 x) (A : Option Addr) (n : Nat) (cs : List Value) (hF : FontIn w F cs) (hl : x.f6.length ≤ n) (hC : Kd.C k41 w A x.f6.length x.f6) : Calls Try.prog 11 #[.agg cs.toArray, .int .i64 size, .agg #[.int .i64 x.f0, .int .i64 x.f1, .int .i64 x.f2, .int .i64 x.f3, .int .i64 x.f4, .int .i64 x.f5, .slice A x.f6.length n, .int .i64 gl, .int .i64 it], .int .i64 v] w fun r w' => r = .returned (.bool true) ∧ Below w.heap.size w w' := by
  have hu39 := Try.underlying25
  have hu36 := Try.underlying63
  have hu73 := Try.underlying73
  have hu50 := Try.underlying50
  have hu82 := Try.underlying82
  have HF := Aside0.mk hF
  have HO := Aside0.mk hO
  have HLN := Aside0.mk hl
  have HC := Aside0.mk hC
  obtain ⟨A6, c6, A7, c7, A8, c8, A9, c9, A10, c10, A11, c11, A12, c12, A13, c13, A15, c15, A16, c16, hcs, hcr⟩ := id hF
  subst hcs
  obtain ⟨l6, g6, l7, g7, l8, g8, l9, g9, l10, g10, l11, g11, l12, g12, l13, g13, l15, g15, l16, g16⟩ := hcr
  have HACC : Aside0 (∀ (W : World) (ga : Nat), Below w.heap.size w W → Kd.C k82 W (some ⟨ga, 0, none⟩) 1 [⟨3, v⟩] → FontIn W (withAcc F [⟨3, v⟩]) [.int .i64 F.f0.f0, .int .i64 F.f0.f1, .int .i64 F.f0.f2, .int .i64 F.f0.f3, .int .i64 F.f0.f4, .bool F.f0.f5, .slice A6 F.f1.length c6, .slice A7 F.f2.length c7, .slice A8 F.f3.length c8, .slice A9 F.f4.f0.length c9, .slice A10 F.f4.f1.length c10, .slice (some ⟨ga, 0, none⟩) 1 1, .slice A12 F.f4.f3.length c12, .slice A13 F.f4.f4.length c13, .int .i64 F.f4.f5.f0, .slice A15 F.f4.f5.f1.length c15, .slice A16 F.f4.f5.f2.length c16]) := ⟨fun W ga hb h2 => font_acc hb l6 g6 l7 g7 l8 g8 l9 g9 l10 g10 l12 g12 l13 g13 l15 g15 l16 g16 h2⟩
  clear l6 g6 l7 g7 l8 g8 l9 g9 l10 g10 l11 g11 l12 g12 l13 g13 l15 g15 l16 g16
  clear hF hO hl hC
  have HP := Aside0.mk (Pd.start w)
  go_enter Try.func11, Try.ntmps11
  go_wp2_with (first | ((with_reducible refine gate_dst (N := 4) rfl ?_); refine box_event ?hg (N := 4) ?hd (cs := #[.int .i64 F.f0.f0, .int .i64 F.f0.f1, .int .i64 F.f0.f2, .int .i64 F.f0.f3, .int .i64 F.f0.f4, .bool F.f0.f5, .slice A6 F.f1.length c6, .slice A7 F.f2.length c7, .slice A8 F.f3.length c8, .slice A9 F.f4.f0.length c9, .slice A10 F.f4.f1.length c10, .slice A11 F.f4.f2.length c11, .slice A12 F.f4.f3.length c12, .slice A13 F.f4.f4.length c13, .int .i64 F.f4.f5.f0, .slice A15 F.f4.f5.f1.length c15, .slice A16 F.f4.f5.f2.length c16]) (t := 63) ?hr ?_; (case hd => rfl); (case hg => rfl); (case hr => first | (go_simp; done) | (go_simp; rfl)); intro gf hg wk hbox hb; replace HP := Aside0.mk (Pd.box (by with_reducible repeat (first | exact HP.out | apply Pd.drew)) hg hbox hb); clear hg hbox hb) | ((with_reducible refine gate_dst (N := 6) rfl ?_); refine box_event ?hg (N := 6) ?hd (cs := #[.int .i64 x.f0, .int .i64 x.f1, .int .i64 x.f2, .int .i64 x.f3, .int .i64 x.f4, .int .i64 x.f5, .slice A x.f6.length n, .int .i64 gl, .int .i64 it]) (t := 73) ?hr ?_; (case hd => rfl); (case hg => rfl); (case hr => first | (go_simp; done) | (go_simp; rfl)); intro gn hg wk hbox hb; replace HP := Aside0.mk (Pd.box (by with_reducible repeat (first | exact HP.out | apply Pd.drew)) hg hbox hb); clear hg hbox hb; have hn := nuc_c9 (Pd.getb HP.out (b := gn) (by with_reducible repeat (first | exact List.mem_cons_self | apply List.mem_cons_of_mem)))) | ((with_reducible refine gate_dst (N := 19) rfl ?_); refine wpList_load_row rfl 63 (.tmp 4) rfl gf (by rfl) 63 #[.int .i64 F.f0.f0, .int .i64 F.f0.f1, .int .i64 F.f0.f2, .int .i64 F.f0.f3, .int .i64 F.f0.f4, .bool F.f0.f5, .slice A6 F.f1.length c6, .slice A7 F.f2.length c7, .slice A8 F.f3.length c8, .slice A9 F.f4.f0.length c9, .slice A10 F.f4.f1.length c10, .slice A11 F.f4.f2.length c11, .slice A12 F.f4.f3.length c12, .slice A13 F.f4.f4.length c13, .int .i64 F.f4.f5.f0, .slice A15 F.f4.f5.f1.length c15, .slice A16 F.f4.f5.f2.length c16] (0, 0) _ (Pd.hd (Pd.tl (by with_reducible repeat (first | exact HP.out | apply Pd.drew)))) hu36 rfl info_font ?_))
  refine (few29_calls _ F x gl it x gl it A n A n _ (HF.out.heap HP.out.bel) HO.out HLN.out (Kd.C_below HC.out HP.out.bel) HO.out HLN.out (Kd.C_below HC.out HP.out.bel)).mono ?_
  rintro _ w1 ⟨q, rfl, _, hb⟩
  replace HP := Aside0.mk (Pd.below HP.out hb)
  clear hb hn
  cases q with
  | false =>
    go_wp2
    go_ret
    exact ⟨rfl, HP.out.bel⟩
  | true =>
    by_cases h1 : v < -32768
    · have d1 : decide (v < -32768) = true := decide_eq_true h1
      go_wp2
      go_ret
      exact ⟨rfl, HP.out.bel⟩
    have d1 : decide (v < -32768) = false := decide_eq_false h1
    by_cases h2 : v > 32767
    · have d2 : decide (v > 32767) = true := decide_eq_true h2
      go_wp2
      go_ret
      exact ⟨rfl, HP.out.bel⟩
    have d2 : decide (v > 32767) = false := decide_eq_false h2
    have H1 := Aside0.mk h1
    have H2 := Aside0.mk h2
    clear h1 h2
    go_wp2_with (first | ((with_reducible refine gate_dst (N := 32) rfl ?_); refine wpList_load_row rfl 63 (.tmp 4) rfl gf (by rfl) 63 #[.int .i64 F.f0.f0, .int .i64 F.f0.f1, .int .i64 F.f0.f2, .int .i64 F.f0.f3, .int .i64 F.f0.f4, .bool F.f0.f5, .slice A6 F.f1.length c6, .slice A7 F.f2.length c7, .slice A8 F.f3.length c8, .slice A9 F.f4.f0.length c9, .slice A10 F.f4.f1.length c10, .slice A11 F.f4.f2.length c11, .slice A12 F.f4.f3.length c12, .slice A13 F.f4.f4.length c13, .int .i64 F.f4.f5.f0, .slice A15 F.f4.f5.f1.length c15, .slice A16 F.f4.f5.f2.length c16] (0, 0) _ (Pd.getb HP.out (b := gf) (o := .cells #[.int .i64 F.f0.f0, .int .i64 F.f0.f1, .int .i64 F.f0.f2, .int .i64 F.f0.f3, .int .i64 F.f0.f4, .bool F.f0.f5, .slice A6 F.f1.length c6, .slice A7 F.f2.length c7, .slice A8 F.f3.length c8, .slice A9 F.f4.f0.length c9, .slice A10 F.f4.f1.length c10, .slice A11 F.f4.f2.length c11, .slice A12 F.f4.f3.length c12, .slice A13 F.f4.f4.length c13, .int .i64 F.f4.f5.f0, .slice A15 F.f4.f5.f1.length c15, .slice A16 F.f4.f5.f2.length c16] 63 (0, 0)) (by with_reducible repeat (first | exact List.mem_cons_self | apply List.mem_cons_of_mem))) hu36 rfl info_font ?_) | ((with_reducible refine gate_dst (N := 9) rfl ?_); refine box_event ?hg (N := 9) ?hd (cs := #[.int .i64 0, .int .i64 0, .int .i64 0, .int .i64 0, .int .i64 0, .bool false, .slice none 0 0, .slice none 0 0, .slice none 0 0, .slice none 0 0, .slice none 0 0, .slice none 0 0, .slice none 0 0, .slice none 0 0, .int .i64 0, .slice none 0 0, .slice none 0 0]) (t := 63) ?hr ?_; (case hd => rfl); (case hg => rfl); (case hr => first | (go_simp; done) | (go_simp; rfl)); intro g9 hg w9 hbox hb; replace HP := Aside0.mk (Pd.box HP.out hg hbox hb); clear hg hbox hb; have hcz := cells17 (Pd.hd HP.out); have hfz := froz17 (Pd.hd HP.out)) | (have hgo := hcz; clear hgo; (with_reducible refine gate_dst (N := 34) rfl ?_); refine Pd.fold (Pd.st17 HP.out) ?_; intro W1 h0; replace HP := Aside0.mk h0; clear h0 hcz hfz; skip) | ((with_reducible refine gate_dst (N := 35) rfl ?_); refine lit_event ?hg (N := 35) ?hd (cs := #[.int .i64 3, .int .i64 v]) (t := 82) (n := 1) ?hr ?_; (case hd => rfl); (case hg => rfl); (case hr => first | (go_simp; done) | (go_simp; rfl)); intro ga hg wa hbox hb; replace HP := Aside0.mk (Pd.swp (Pd.box HP.out hg hbox hb)); clear hg hbox hb; have hcz := blk_cell (Pd.hd HP.out) 11; have hfz := blk_frozen (Pd.hd HP.out) 11) | (have hgo := hcz; clear hgo; (with_reducible refine gate_dst (N := 38) rfl ?_); refine Pd.fold (Pd.put17_11 HP.out) ?_; intro W2 h0; replace HP := Aside0.mk h0; clear h0 hcz hfz; have hn := nuc_c9 (Pd.getb HP.out (b := gn) (by with_reducible repeat (first | exact List.mem_cons_self | apply List.mem_cons_of_mem)))) | ((with_reducible refine gate_dst (N := 10) rfl ?_); refine box_event ?hg (N := 10) ?hd (cs := #[.int .i64 0, .int .i64 0, .int .i64 0, .int .i64 0, .int .i64 0, .int .i64 0, .slice none 0 0, .int .i64 0, .int .i64 0]) (t := 73) ?hr ?_; (case hd => rfl); (case hg => rfl); (case hr => first | (go_simp; done) | (go_simp; rfl)); intro gm hg w10 hbox hb; replace HP := Aside0.mk (Pd.box HP.out hg hbox hb); clear hg hbox hb hn; have hcz := cells9 (Pd.hd HP.out); have hfz := froz9 (Pd.hd HP.out)) | (have hgo := hcz; clear hgo; (with_reducible refine gate_dst (N := 41) rfl ?_); refine Pd.fold (Pd.put9_7 <| Pd.set9l HP.out) ?_; intro W4 h0; replace HP := Aside0.mk h0; clear h0 hcz hfz; have hm := nuc_c9 (Pd.getb HP.out (b := gm) (by with_reducible repeat (first | exact List.mem_cons_self | apply List.mem_cons_of_mem))); refine wpList_load_row rfl 63 (.tmp 9) rfl g9 (by rfl) 63 #[.int .i64 F.f0.f0, .int .i64 F.f0.f1, .int .i64 F.f0.f2, .int .i64 F.f0.f3, .int .i64 F.f0.f4, .bool F.f0.f5, .slice A6 F.f1.length c6, .slice A7 F.f2.length c7, .slice A8 F.f3.length c8, .slice A9 F.f4.f0.length c9, .slice A10 F.f4.f1.length c10, .slice (some ⟨ga, 0, none⟩) 1 1, .slice A12 F.f4.f3.length c12, .slice A13 F.f4.f4.length c13, .int .i64 F.f4.f5.f0, .slice A15 F.f4.f5.f1.length c15, .slice A16 F.f4.f5.f2.length c16] (0, 0) _ (Pd.getb HP.out (b := g9) (o := .cells #[.int .i64 F.f0.f0, .int .i64 F.f0.f1, .int .i64 F.f0.f2, .int .i64 F.f0.f3, .int .i64 F.f0.f4, .bool F.f0.f5, .slice A6 F.f1.length c6, .slice A7 F.f2.length c7, .slice A8 F.f3.length c8, .slice A9 F.f4.f0.length c9, .slice A10 F.f4.f1.length c10, .slice (some ⟨ga, 0, none⟩) 1 1, .slice A12 F.f4.f3.length c12, .slice A13 F.f4.f4.length c13, .int .i64 F.f4.f5.f0, .slice A15 F.f4.f5.f1.length c15, .slice A16 F.f4.f5.f2.length c16] 63 (0, 0)) (by with_reducible repeat (first | exact List.mem_cons_self | apply List.mem_cons_of_mem))) hu36 rfl info_font ?_))
    obtain ⟨aV, haV⟩ : ∃ q, q = attachV (withAcc F [⟨3, v⟩]) size x 3 it := ⟨_, rfl⟩
    have HaV := Aside0.mk haV
    clear haV
    obtain ⟨cV, hcV⟩ : ∃ q, q = attachV (withAcc F [⟨3, v⟩]) size x (-1) it := ⟨_, rfl⟩
    have HcV := Aside0.mk hcV
    clear hcV
    obtain ⟨dV, hdV⟩ : ∃ q, q = attachV (withAcc F [⟨3, v⟩]) size x 4 it := ⟨_, rfl⟩
    have HdV := Aside0.mk hdV
    clear hdV
    obtain ⟨bV, hbV⟩ : ∃ q, q = unitsV F v size := ⟨_, rfl⟩
    have HbV := Aside0.mk hbV
    clear hbV
    refine (attach_calls (withAcc F [⟨3, v⟩]) size x 3 it A n _ _ (HACC.out _ _ HP.out.bel (pair_C (Pd.getb HP.out (b := ga) (by with_reducible repeat (first | exact List.mem_cons_self | apply List.mem_cons_of_mem))))) (by simp [withAcc])).mono ?_
    rintro _ w1 ⟨rfl, hb⟩
    rw [← HaV.out]
    replace HP := Aside0.mk (Pd.below HP.out hb)
    clear hb hm
    have hh0 := blk_cell (Pd.getb HP.out (b := gf) (by with_reducible repeat (first | exact List.mem_cons_self | apply List.mem_cons_of_mem))) 0
    have hh1 := blk_cell (Pd.getb HP.out (b := gf) (by with_reducible repeat (first | exact List.mem_cons_self | apply List.mem_cons_of_mem))) 1
    have hh2 := blk_cell (Pd.getb HP.out (b := gf) (by with_reducible repeat (first | exact List.mem_cons_self | apply List.mem_cons_of_mem))) 2
    have hh3 := blk_cell (Pd.getb HP.out (b := gf) (by with_reducible repeat (first | exact List.mem_cons_self | apply List.mem_cons_of_mem))) 3
    have hh4 := blk_cell (Pd.getb HP.out (b := gf) (by with_reducible repeat (first | exact List.mem_cons_self | apply List.mem_cons_of_mem))) 4
    have hh5 := blk_cell (Pd.getb HP.out (b := gf) (by with_reducible repeat (first | exact List.mem_cons_self | apply List.mem_cons_of_mem))) 5
    go_wp2_with fail
    refine (head_Units.calls F.f0.f0 F.f0.f1 F.f0.f2 F.f0.f3 F.f0.f4 F.f0.f5 v size bV.1 bV.2 _ (by rw [HbV.out]; exact units_some F v size)).mono ?_
    rintro _ w1 ⟨rfl, hb⟩
    replace HP := Aside0.mk (Pd.below HP.out hb)
    clear hb hh0 hh1 hh2 hh3 hh4 hh5
    have hcz := blk_cell (Pd.hd HP.out) 7
    have hfz := blk_frozen (Pd.hd HP.out) 7
    go_wp2_with (first | (have hgo := hcz; clear hgo; (with_reducible refine gate_dst (N := 57) rfl ?_); refine Pd.fold (Pd.put9_7 HP.out) ?_; intro W57 h0; replace HP := Aside0.mk h0; clear h0 hcz hfz; have hm := nuc_c9 (Pd.getb HP.out (b := gm) (by with_reducible repeat (first | exact List.mem_cons_self | apply List.mem_cons_of_mem))); refine wpList_load_row rfl 63 (.tmp 9) rfl g9 (by rfl) 63 #[.int .i64 F.f0.f0, .int .i64 F.f0.f1, .int .i64 F.f0.f2, .int .i64 F.f0.f3, .int .i64 F.f0.f4, .bool F.f0.f5, .slice A6 F.f1.length c6, .slice A7 F.f2.length c7, .slice A8 F.f3.length c8, .slice A9 F.f4.f0.length c9, .slice A10 F.f4.f1.length c10, .slice (some ⟨ga, 0, none⟩) 1 1, .slice A12 F.f4.f3.length c12, .slice A13 F.f4.f4.length c13, .int .i64 F.f4.f5.f0, .slice A15 F.f4.f5.f1.length c15, .slice A16 F.f4.f5.f2.length c16] (0, 0) _ (Pd.getb HP.out (b := g9) (o := .cells #[.int .i64 F.f0.f0, .int .i64 F.f0.f1, .int .i64 F.f0.f2, .int .i64 F.f0.f3, .int .i64 F.f0.f4, .bool F.f0.f5, .slice A6 F.f1.length c6, .slice A7 F.f2.length c7, .slice A8 F.f3.length c8, .slice A9 F.f4.f0.length c9, .slice A10 F.f4.f1.length c10, .slice (some ⟨ga, 0, none⟩) 1 1, .slice A12 F.f4.f3.length c12, .slice A13 F.f4.f4.length c13, .int .i64 F.f4.f5.f0, .slice A15 F.f4.f5.f1.length c15, .slice A16 F.f4.f5.f2.length c16] 63 (0, 0)) (by with_reducible repeat (first | exact List.mem_cons_self | apply List.mem_cons_of_mem))) hu36 rfl info_font ?_))
    refine (attach_calls (withAcc F [⟨3, v⟩]) size x (-1) it A n _ _ (HACC.out _ _ HP.out.bel (pair_C (Pd.getb HP.out (b := ga) (by with_reducible repeat (first | exact List.mem_cons_self | apply List.mem_cons_of_mem))))) (by simp [withAcc])).mono ?_
    rintro _ w1 ⟨rfl, hb⟩
    rw [← HcV.out]
    replace HP := Aside0.mk (Pd.below HP.out hb)
    clear hb hm
    have hcz := blk_cell (Pd.hd HP.out) 7
    have hfz := blk_frozen (Pd.hd HP.out) 7
    go_wp2_with (first | (have hgo := hcz; clear hgo; (with_reducible refine gate_dst (N := 65) rfl ?_); refine Pd.fold (Pd.put9_7 HP.out) ?_; intro W65 h0; replace HP := Aside0.mk h0; clear h0 hcz hfz; have hm := nuc_c9 (Pd.getb HP.out (b := gm) (by with_reducible repeat (first | exact List.mem_cons_self | apply List.mem_cons_of_mem))); refine wpList_load_row rfl 63 (.tmp 9) rfl g9 (by rfl) 63 #[.int .i64 F.f0.f0, .int .i64 F.f0.f1, .int .i64 F.f0.f2, .int .i64 F.f0.f3, .int .i64 F.f0.f4, .bool F.f0.f5, .slice A6 F.f1.length c6, .slice A7 F.f2.length c7, .slice A8 F.f3.length c8, .slice A9 F.f4.f0.length c9, .slice A10 F.f4.f1.length c10, .slice (some ⟨ga, 0, none⟩) 1 1, .slice A12 F.f4.f3.length c12, .slice A13 F.f4.f4.length c13, .int .i64 F.f4.f5.f0, .slice A15 F.f4.f5.f1.length c15, .slice A16 F.f4.f5.f2.length c16] (0, 0) _ (Pd.getb HP.out (b := g9) (o := .cells #[.int .i64 F.f0.f0, .int .i64 F.f0.f1, .int .i64 F.f0.f2, .int .i64 F.f0.f3, .int .i64 F.f0.f4, .bool F.f0.f5, .slice A6 F.f1.length c6, .slice A7 F.f2.length c7, .slice A8 F.f3.length c8, .slice A9 F.f4.f0.length c9, .slice A10 F.f4.f1.length c10, .slice (some ⟨ga, 0, none⟩) 1 1, .slice A12 F.f4.f3.length c12, .slice A13 F.f4.f4.length c13, .int .i64 F.f4.f5.f0, .slice A15 F.f4.f5.f1.length c15, .slice A16 F.f4.f5.f2.length c16] 63 (0, 0)) (by with_reducible repeat (first | exact List.mem_cons_self | apply List.mem_cons_of_mem))) hu36 rfl info_font ?_))
    refine (attach_calls (withAcc F [⟨3, v⟩]) size x 4 it A n _ _ (HACC.out _ _ HP.out.bel (pair_C (Pd.getb HP.out (b := ga) (by with_reducible repeat (first | exact List.mem_cons_self | apply List.mem_cons_of_mem))))) (by simp [withAcc])).mono ?_
    rintro _ w1 ⟨rfl, hb⟩
    rw [← HdV.out]
    replace HP := Aside0.mk (Pd.below HP.out hb)
    clear hb hm
    have hn := nuc_c9 (Pd.getb HP.out (b := gn) (by with_reducible repeat (first | exact List.mem_cons_self | apply List.mem_cons_of_mem)))
    rcases need_cases [x.f1, x.f2, x.f3, it] with hE | hE
    · have e1 := HaV.out.trans (attach_three hE (by have := H1.out; omega) (by have := H2.out; omega))
      have e2 := HcV.out.trans (attach_other hE (by decide) (by have := H1.out; omega) (by have := H2.out; omega))
      have e3 := HdV.out.trans (attach_other hE (by decide) (by have := H1.out; omega) (by have := H2.out; omega))
      obtain rfl : dV = cV := e3.trans e2.symm
      obtain rfl : aV = bV := e1.trans HbV.out.symm
      obtain ⟨hi, hj⟩ := halfW_ok hE
      rw [← e2] at hi hj
      clear e1 e2 e3 hE
      have HI := Aside0.mk hi
      have q1 : (dV.2 == 1) = false := by simpa using hi
      clear hi
      by_cases h0 : dV.2 = 0
      · have q0 : (dV.2 == 0) = true := by simpa using h0
        rcases hj h0 with hk | hk
        · have HK := Aside0.mk hk
          have q2 : (wrap64 (2 * dV.1) != wrap64 (x.f1 + it)) = false := by simp [hk]
          clear hk hj h0
          go_wp2_with fail
          all_goals (refine (limited_calls _).mono ?_; rintro _ w7 ⟨rfl, hb⟩; have HP2 := Aside0.mk (Pd.below HP.out hb); clear hb; try dsimp only)
          all_goals (go_wp2; go_ret; exact ⟨rfl, HP2.out.bel⟩)
        · have HK := Aside0.mk hk
          have q3 : (wrap64 (wrap64 (2 * dV.1) + 1) != wrap64 (x.f1 + it)) = false := by simp [hk]
          clear hk hj h0
          go_wp2_with fail
          all_goals (refine (limited_calls _).mono ?_; rintro _ w7 ⟨rfl, hb⟩; have HP2 := Aside0.mk (Pd.below HP.out hb); clear hb; try dsimp only)
          all_goals (go_wp2; go_ret; exact ⟨rfl, HP2.out.bel⟩)
      · have q0 : (dV.2 == 0) = false := by simpa using h0
        clear hj h0
        go_wp2_with fail
        refine (limited_calls _).mono ?_
        rintro _ w7 ⟨rfl, hb⟩
        replace HP := Aside0.mk (Pd.below HP.out hb)
        clear hb
        try dsimp only
        go_wp2
        go_ret
        exact ⟨rfl, HP.out.bel⟩
    · have e1 := HaV.out.trans (attach_err hE)
      have e2 := HcV.out.trans (attach_err hE)
      have e3 := HdV.out.trans (attach_err hE)
      clear HaV HcV HdV
      subst e1 e2 e3
      clear hE
      go_wp2_with fail
      refine (limited_calls _).mono ?_
      rintro _ w7 ⟨rfl, hb⟩
      replace HP := Aside0.mk (Pd.below HP.out hb)
      clear hb
      try dsimp only
      go_wp2
      go_ret
      exact ⟨rfl, HP.out.bel⟩
end Go.Proofs.Ytbhljokhcmfgjaa.P
