import Derived.Test.YtbhljokhcmfgjaaGreatTLim5
import Derived.Test.YtbhljokhcmfgjaaGreatTLim8
/- The example of layer 29's laws: its numbers; its row of constants. Printed by a program of this work (mklim9.py). -/
set_option linter.unusedVariables false
set_option linter.unusedSimpArgs false
namespace Go.Proofs.YtbhljokhcmfgjaaGreat.P
open Go.RowKit Go.Proofs.YtbhljokhcmfgjaaGreatW.PrintWords Go.Proofs.YtbhljokhcmfgjaaGreatW.PrintLast Go.Proofs.YtbhljokhcmfgjaaGreatW.PrintMore
def limL : List Int := [0, 0, 0, 0, 0, 0, 450, 0, 0, 0, 0, 0, 0, 0, 0, 0, 0, 0, 100, 120, 0, 0, 0, 0, 0, 0, 0, 0, 0, 0, 0, 0, 0, 0, 0, 0, 0, 0, 0, 0, 0, 0, 0, 0, 0, 0, 0, 0, 0, 0, 0, 0, 0, 0, 0, 0]
def limF : S36 := ⟨⟨1000, 9, 1, 0, 0, false⟩, [], [], [], ⟨limL, [], [⟨2, 70⟩], [], [], ⟨0, [], []⟩⟩⟩
def limR : S39 := ⟨2, 100, 500, 50, 0, 0, []⟩
set_option maxRecDepth 100000 in
theorem lim_lim : lim10V limF 2 1000 limR 20 limR = (3, 100, 1150, 50, 0, 0, [⟨0, 0, limR⟩, ⟨10, 650, limR⟩], 0) := by kernel_rfl
set_option maxRecDepth 100000 in
theorem lim_acc : accentV limF 2 1000 limR 1 20 limR 2 0 = (3, 100, 550, 50, 0, 0, [⟨0, 0, limR⟩, ⟨-10, 50, limR⟩], 0) := by kernel_rfl
set_option maxRecDepth 100000 in
theorem lim_att : attachV limF 1000 limR 1 20 = (60, 0) := by kernel_rfl
theorem lim_row {w wm : World} {go co : Nat} (ho : Kd.R (Kd.int .i64) 3 wm w.heap.size (fun _ => True) (.slice (some ⟨go, 0, none⟩) 56 co) (List.replicate 56 0)) (hb : Below w.heap.size w wm) (gb : w.heap.size ≤ go) :
    ∃ o, Pd w (((wm.setCell ⟨go, 18, none⟩ (.int .i64 100)).setCell ⟨go, 19, none⟩ (.int .i64 120)).setCell ⟨go, 6, none⟩ (.int .i64 450)) [(go, o)] ∧ 56 ≤ co ∧ ∀ W' : World, W'.heap[go]? = some o → Kd.C (Kd.int .i64) W' (some ⟨go, 0, none⟩) 56 limL := by
  have q1 := (Kd.R_putg ho 18 100).1
  have q2 := (Kd.R_putg q1 19 120).1
  have q3 : Kd.R (Kd.int .i64) 3 (((wm.setCell ⟨go, 18, none⟩ (.int .i64 100)).setCell ⟨go, 19, none⟩ (.int .i64 120)).setCell ⟨go, 6, none⟩ (.int .i64 450)) w.heap.size (fun _ => True) (.slice (some ⟨go, 0, none⟩) 56 co) limL := (Kd.R_putg q2 6 450).1
  obtain ⟨g1, c1, he, _, _, cells, hc⟩ := Kd.R_form q3 (by decide)
  injection he with h1 h2 h3
  injection h1 with h1
  injection h1 with h1
  subst h1
  have hB : Below w.heap.size w (((wm.setCell ⟨go, 18, none⟩ (.int .i64 100)).setCell ⟨go, 19, none⟩ (.int .i64 120)).setCell ⟨go, 6, none⟩ (.int .i64 450)) := (((hb.setCell (p := ⟨go, 18, none⟩) gb _).setCell (p := ⟨go, 19, none⟩) gb _).setCell (p := ⟨go, 6, none⟩) gb _)
  refine ⟨.cells cells 3 (0, 0), ⟨⟨hB, ?_⟩, List.pairwise_singleton _ _⟩, (Kd.R_reads' q3).2.1, ?_⟩
  · intro p hp
    rcases List.mem_cons.1 hp with rfl | hp
    · exact ⟨hc, gb⟩
    · simp at hp
  · intro W' hW
    exact Kd.R_F (Kd.R_tight rfl q3) W' (fun k hk _ => by
      have : k = go := by simpa [Value.ownBlock] using hk
      subst this
      exact hW.trans hc.symm)
theorem lim_font {W : World} {go co ga : Nat} (hco : 56 ≤ co) (h : Kd.C (Kd.int .i64) W (some ⟨go, 0, none⟩) 56 limL) (h2 : Kd.C k77 W (some ⟨ga, 0, none⟩) 1 [⟨2, 70⟩]) : FontIn W limF [.int .i64 1000, .int .i64 9, .int .i64 1, .int .i64 0, .int .i64 0, .bool false, .slice none 0 0, .slice none 0 0, .slice none 0 0, .slice (some ⟨go, 0, none⟩) 56 co, .slice none 0 0, .slice (some ⟨ga, 0, none⟩) 1 1, .slice none 0 0, .slice none 0 0, .int .i64 0, .slice none 0 0, .slice none 0 0] :=
  ⟨none, 0, none, 0, none, 0, some ⟨go, 0, none⟩, co, none, 0, some ⟨ga, 0, none⟩, 1, none, 0, none, 0, none, 0, none, 0, rfl, Nat.le_refl _, ⟨rfl, Nat.zero_le _, fun h => absurd h (Nat.lt_irrefl 0)⟩, Nat.le_refl _, ⟨rfl, Nat.zero_le _, fun h => absurd h (Nat.lt_irrefl 0)⟩, Nat.le_refl _, ⟨rfl, Nat.zero_le _, fun h => absurd h (Nat.lt_irrefl 0)⟩, hco, h, Nat.le_refl _, ⟨rfl, Nat.zero_le _, fun h => absurd h (Nat.lt_irrefl 0)⟩, Nat.le_refl _, h2, Nat.le_refl _, ⟨rfl, Nat.zero_le _, fun h => absurd h (Nat.lt_irrefl 0)⟩, Nat.le_refl _, ⟨rfl, Nat.zero_le _, fun h => absurd h (Nat.lt_irrefl 0)⟩, Nat.le_refl _, ⟨rfl, Nat.zero_le _, fun h => absurd h (Nat.lt_irrefl 0)⟩, Nat.le_refl _, ⟨rfl, Nat.zero_le _, fun h => absurd h (Nat.lt_irrefl 0)⟩⟩
theorem lim_pair {W : World} {ga : Nat} (h : W.heap[ga]? = some (.cells #[.int .i64 2, .int .i64 70] 77 (0, 0))) : Kd.C k77 W (some ⟨ga, 0, none⟩) 1 [⟨2, 70⟩] :=
  row_C (xs := [(⟨2, 70⟩ : S77)]) (css := [[.int .i64 2, .int .i64 70]]) ⟨⟨[.int .i64 2], [.int .i64 70], rfl, rfl, rfl⟩, trivial⟩ h (by decide)
theorem limR_K (w : World) : k39.K w limR [.int .i64 2, .int .i64 100, .int .i64 500, .int .i64 50, .int .i64 0, .int .i64 0, .slice none 0 0] := k39_mk w limR (A6 := none) (c6 := 0) (Nat.le_refl _) ⟨rfl, Nat.zero_le _, fun h => absurd h (Nat.lt_irrefl 0)⟩
theorem Pd.set9l {w W : World} {L : List (Nat × Obj)} {q : Nat} {t : TypeId} {u0 u1 u2 u3 u4 u5 u6 u7 u8 v0 v1 v2 v3 v4 v5 v6 v7 v8 : Value} (h : Pd w W ((q, .cells #[u0, u1, u2, u3, u4, u5, u6, u7, u8] t (0, 0)) :: L)) : Pd w (((((((((W.setCell ⟨q, 0, none⟩ v0).setCell ⟨q, 1, none⟩ v1).setCell ⟨q, 2, none⟩ v2).setCell ⟨q, 3, none⟩ v3).setCell ⟨q, 4, none⟩ v4).setCell ⟨q, 5, none⟩ v5).setCell ⟨q, 6, none⟩ v6).setCell ⟨q, 7, none⟩ v7).setCell ⟨q, 8, none⟩ v8) ((q, .cells #[v0, v1, v2, v3, v4, v5, v6, v7, v8] t (0, 0)) :: L) :=
  h.put (put9 h.hd) (fun k hk => far9 _ hk) (bel9 h.bel (h.loc _ List.mem_cons_self).2)
set_option maxRecDepth 100000 in
set_option maxHeartbeats 2000000 in
theorem lim_many (F : S36) (c z : Int) (x : S39) (gl it : Int) (A : Option Addr) (n : Nat) (Au Ad : Option Addr) (m nu m2 nd : Nat) (cs : List Value) (w : World) (hF : FontIn w F cs) (hn : 1 < m) : Calls Tryz.prog 7 #[.agg cs.toArray, .int .i64 c, .int .i64 z, .agg #[.int .i64 x.f0, .int .i64 x.f1, .int .i64 x.f2, .int .i64 x.f3, .int .i64 x.f4, .int .i64 x.f5, .slice A x.f6.length n, .int .i64 gl, .int .i64 it], .slice Au m nu, .slice Ad m2 nd] w fun r w' => r = .returned (.tuple #[.agg #[.int .i64 0, .int .i64 0, .int .i64 0, .int .i64 0, .int .i64 0, .int .i64 0, .slice none 0 0], .int .i64 1]) ∧ Below w.heap.size w w' := by
  have hu39 := Tryz.underlying39
  obtain ⟨A6, c6, A7, c7, A8, c8, A9, c9, A10, c10, A11, c11, A12, c12, A13, c13, A15, c15, A16, c16, hcs, hcr⟩ := id hF
  subst hcs
  clear hcr hF
  have hd1 : decide ((m : Int) > 1) = true := decide_eq_true (by omega)
  have HP := Aside0.mk (Pd.start w)
  go_enter Tryz.func7, Tryz.ntmps7
  go_wp2_with (first | ((with_reducible refine gate_dst (N := 6) rfl ?_); refine box_event ?hg (N := 6) ?hd (cs := #[.int .i64 F.f0.f0, .int .i64 F.f0.f1, .int .i64 F.f0.f2, .int .i64 F.f0.f3, .int .i64 F.f0.f4, .bool F.f0.f5, .slice A6 F.f1.length c6, .slice A7 F.f2.length c7, .slice A8 F.f3.length c8, .slice A9 F.f4.f0.length c9, .slice A10 F.f4.f1.length c10, .slice A11 F.f4.f2.length c11, .slice A12 F.f4.f3.length c12, .slice A13 F.f4.f4.length c13, .int .i64 F.f4.f5.f0, .slice A15 F.f4.f5.f1.length c15, .slice A16 F.f4.f5.f2.length c16]) (t := 36) ?hr ?_; (case hd => rfl); (case hg => rfl); (case hr => first | (go_simp; done) | (go_simp; rfl)); intro gf hg wk hbox hb; replace HP := Aside0.mk (Pd.box (by with_reducible repeat (first | exact HP.out | apply Pd.drew)) hg hbox hb); clear hg hbox hb) | ((with_reducible refine gate_dst (N := 9) rfl ?_); refine box_event ?hg (N := 9) ?hd (cs := #[.int .i64 x.f0, .int .i64 x.f1, .int .i64 x.f2, .int .i64 x.f3, .int .i64 x.f4, .int .i64 x.f5, .slice A x.f6.length n, .int .i64 gl, .int .i64 it]) (t := 41) ?hr ?_; (case hd => rfl); (case hg => rfl); (case hr => first | (go_simp; done) | (go_simp; rfl)); intro gn hg wk hbox hb; replace HP := Aside0.mk (Pd.box (by with_reducible repeat (first | exact HP.out | apply Pd.drew)) hg hbox hb); clear hg hbox hb) | ((with_reducible refine gate_dst (N := 12) rfl ?_); refine box_event ?hg (N := 12) ?hd (cs := #[.int .i64 0, .int .i64 0, .int .i64 0, .int .i64 0, .int .i64 0, .int .i64 0, .slice none 0 0]) (t := 39) ?hr ?_; (case hd => rfl); (case hg => rfl); (case hr => first | (go_simp; done) | (go_simp; rfl)); intro gr hg wk hbox hb; replace HP := Aside0.mk (Pd.box (by with_reducible repeat (first | exact HP.out | apply Pd.drew)) hg hbox hb); clear hg hbox hb; have hcz := cells7 (Pd.hd HP.out); have hfz := froz7 (Pd.hd HP.out)))
  refine bodyPost_ret (results_ct rfl _ _ gr 39 #[.int .i64 0, .int .i64 0, .int .i64 0, .int .i64 0, .int .i64 0, .int .i64 0, .slice none 0 0] (0, 0) _ rfl (put7 (Pd.hd HP.out)) hu39 rfl (by kernel_rfl)) rfl ?_
  exact ⟨rfl, (Pd.st7 HP.out).bel⟩
end Go.Proofs.YtbhljokhcmfgjaaGreat.P
