import Derived.Test.YtbhljokhcmfgjaaTIter3
import Derived.Test.YtbhljokhcmfgjaaTCheck1
import Derived.Test.YtbhljokhcmfgjaaTCheck2
/- box.Check. -/
set_option linter.unusedVariables false
set_option linter.unusedSimpArgs false
namespace Go.Proofs.Ytbhljokhcmfgjaa.P
open Go.RowKit Go.Shelf Go.Proofs.YtbhljokhcmfgjaaW.PrintWords Go.Proofs.YtbhljokhcmfgjaaW.PrintLast Go.Proofs.YtbhljokhcmfgjaaW.PrintMore
attribute [local go_sem] Oper.semAt_some

/-- What Check answers; m: more than the box's size. -/
def checkV (m : Nat) (b : S25) : Int := if depthF m b > 512 then 8 else if (flatF m 0 0 0 b).length > 65535 then 7 else if (flatF m 0 0 0 b).all (fun it => ownV it.2.2.2) then 0 else 5
theorem Pd.sc {w W : World} {L : List (Nat × Obj)} {q : Nat} {t : TypeId} {u v : Value} (h : Pd w W ((q, .cells #[u] t (0, 0)) :: L)) : Pd w (W.setCell ⟨q, 0, none⟩ v) ((q, .cells #[v] t (0, 0)) :: L) :=
  h.put (blk_put h.hd 0 v rfl) (fun k hk => Below.heap_setCell _ ⟨q, 0, none⟩ v k hk) (h.bel.setCell (p := ⟨q, 0, none⟩) (h.loc _ List.mem_cons_self).2 v)
theorem Keep.setCell {B : Nat} {w W : World} (h : Keep B w W) {q : Nat} (hq : q < B) (v : Value) : Keep B w (W.setCell ⟨q, 0, none⟩ v) :=
  ⟨by have := h.size; simpa using this, fun k hk hl => (Below.heap_setCell _ ⟨q, 0, none⟩ v k (show k ≠ q by omega)).trans (h.same k hk hl)⟩
theorem Pd.pm {w W : World} {L L' : List (Nat × Obj)} (h : Pd w W L) (hp : L.Perm L') : Pd w W L' := ⟨⟨h.bel, fun p hp' => h.loc p (hp.mem_iff.2 hp')⟩, (hp.pairwise_iff (fun {_ _} h => Ne.symm h)).1 h.dis⟩
theorem Pd.third {w W : World} {L : List (Nat × Obj)} {a b c : Nat × Obj} (h : Pd w W (a :: b :: c :: L)) : Pd w W (c :: a :: b :: L) := h.pm ((List.Perm.cons a (List.Perm.swap c b L)).trans (List.Perm.swap c a (b :: L)))
theorem Pd.back3 {w W : World} {L : List (Nat × Obj)} {a b c : Nat × Obj} (h : Pd w W (c :: a :: b :: L)) : Pd w W (a :: b :: c :: L) := h.pm ((List.Perm.swap a c (b :: L)).trans (List.Perm.cons a (List.Perm.swap b c L)))
theorem ownFrom_pd {β : Type} {w : World} {B : Nat} (hB : w.heap.size ≤ B) {L : List (Nat × Obj)} (hL : ∀ p ∈ L, p.2.isCells = true) : OwnFrom B (fun (_ : β) W => Pd w W L) := fun _ X Y row hs hg hr =>
  ⟨⟨(ownFrom_below (β := Unit) (Nat.le_refl _) hB) () X Y row hs.bel hg hr, fun p hp => ⟨(hg.block p.1 (blk_lt (hs.loc p hp).1) (fun e => by
    obtain ⟨-, o, ho, hc⟩ := hr p.1 e.symm
    rw [(hs.loc p hp).1] at ho
    cases ho
    rw [hL p hp] at hc
    cases hc)).trans (hs.loc p hp).1, (hs.loc p hp).2⟩⟩, hs.dis⟩
theorem results_c {P : Program} {fn : Func} {q : Tmp} {ty : TypeId} (h : fn.results = #[.cell q ty]) (tmps : Array Value) (w : World) (g : Nat) (v : Value) (d : TypeDesc) (hp : tmps.getD q undef = .pointer (some ⟨g, 0, none⟩)) (hg : w.cell? ⟨g, 0, none⟩ = some v) (hu : P.underlying ty = some d) (hd : (match d with | .struct _ | .array _ _ => true | _ => false) = false) : (results fn tmps).run P w = .ok v w := by
  have hp' : tmps[q]?.getD undef = .pointer (some ⟨g, 0, none⟩) := by simpa using hp
  have ha : (isAgg ty).run P w = .ok false w := by
    unfold isAgg
    cases d <;> simp_all [go_sem, Go.underlying]
  simp [results, h, hp', asAddr, loadVar, ha, hg]
/-- One loop's mark at a return. -/
theorem leaves_mark {F : Fence} {n : Nat} {P : Program} {fn : Func} {tmps : Array Value} {R : Ending → World → Prop} (B : Nat) (T : World → Prop) (hT : OwnFrom B (fun (_ : Unit) W => T W)) (hR : ∀ W, T W → ∃ v, (results fn tmps).run P W = .ok v W ∧ R (.returned v) W)
    (D : Nat) (W : World) (h : T W) (hB : B ≤ D) (hd : W.heap[D]? = some (.deferred (some []))) : LeavesInM F n P fn tmps R [{ target := .collected D, args := #[] }] .returning W := by
  refine ⟨by simp, .inl ⟨D, _, rfl, run_takeDeferred hd, ?_⟩⟩
  obtain ⟨v, hv, hr⟩ := hR _ (hT.putObj (s := ()) _ h hB hd rfl)
  exact ⟨v, hv, hr⟩

set_option maxRecDepth 100000 in
set_option maxHeartbeats 4000000 in
theorem check_calls (m : Nat) (x : S25) (hm : SizeOf.sizeOf x < m) (w : World) (A : Option Addr) (n : Nat) (hl : x.f6.length ≤ n) (hC : Kd.C k41 w A x.f6.length x.f6) :
    Calls Try.prog 24 #[.agg #[.int .i64 x.f0, .int .i64 x.f1, .int .i64 x.f2, .int .i64 x.f3, .int .i64 x.f4, .int .i64 x.f5, .slice A x.f6.length n]] w fun r w' => r = .returned (.int .i64 (checkV m x)) ∧ Below w.heap.size w w' := by
  refine (callsIn_wide (n := 0)).1 ?_
  have hu39 := Try.underlying25
  have hu98 := Try.underlying94
  obtain ⟨L, hL, hit⟩ := all1_iter w m ⟨0, 0, 0, x, A, n, hl, hC⟩ hm
  have hdp := depth_calls m x hm
  have HP := Aside0.mk (Pd.start w)
  refine callsIn_of_wp_marks Try.func24 rfl trivial ?_
  simp only [Try.ntmps24, List.size_toArray, List.length_cons, List.length_nil, Nat.reduceAdd, Nat.reduceSub, Array.replicate_succ, Array.replicate_zero, List.push_toArray, List.append_toArray, List.nil_append, List.cons_append]
  gi_wp2
  have hu41 := Try.underlying28
  refine ⟨trivial, rfl, ?_⟩
  refine (callsIn_wide.2 (hdp _ A n hl (Kd.C_below hC (((Below.refl _ w).alloc (Nat.le_refl _) _).alloc (by simp) _)))).mono ?_
  rintro _ w1 ⟨rfl, hb⟩
  replace HP := Aside0.mk (((HP.out.row (.cells #[.int .i64 x.f0, .int .i64 x.f1, .int .i64 x.f2, .int .i64 x.f3, .int .i64 x.f4, .int .i64 x.f5, .slice A x.f6.length n] 25)).rowAt (.cells #[.int .i64 0] 28) (b := w.heap.size + 1) (by simp)).below hb)
  clear hb hdp
  have hz := blk_cell HP.out.hd 0
  have hzf := blk_frozen HP.out.hd 0
  by_cases hd : depthF m x > 512
  · have hd1 : decide (depthF m x > 512) = true := decide_eq_true hd
    gi_wp2
    have HP1 := Aside0.mk (HP.out.sc (v := .int .i64 8))
    exact ⟨_, results_c rfl _ _ (w.heap.size + 1) (.int .i64 8) _ rfl (blk_cell HP1.out.hd 0) hu41 rfl, by unfold checkV; rw [if_pos hd], HP1.out.bel⟩
  · have hd1 : decide (depthF m x > 512) = false := decide_eq_false hd
    have HD := Aside0.mk hd
    clear hd
    have HP2 := Aside0.mk ((HP.out.rowAt (.cells #[.int .i64 0] 3) (b := w1.heap.size) rfl).rowAt (.cells #[.bool true] 4) (b := w1.heap.size + 1) (by simp))
    have hb7 := HP2.out.tl.tl.tl.hd
    have b0 := blk_cell hb7 0
    have b1 := blk_cell hb7 1
    have b2 := blk_cell hb7 2
    have b3 := blk_cell hb7 3
    have b4 := blk_cell hb7 4
    have b5 := blk_cell hb7 5
    have b6 := blk_cell hb7 6
    clear hb7 hz hzf
    gi_wp2
    refine ⟨trivial, rfl, ?_⟩
    refine (callsIn_wide.2 (boxall_calls _ _ rfl _ _ _ _ _ _ _ _ _ _ rfl)).mono ?_
    rintro e w4 ⟨rfl, rfl⟩
    clear b0 b1 b2 b3 b4 b5 b6
    obtain ⟨W4, hW4⟩ : ∃ W4, W4 = (w1.alloc (.cells #[.int .i64 0] 3)).alloc (.cells #[.bool true] 4) := ⟨_, rfl⟩
    rw [← hW4] at HP2
    have s4 : W4.heap.size = w1.heap.size + 2 := by rw [hW4]; simp
    obtain ⟨W5, hW5⟩ : ∃ W5, W5 = W4.alloc (.cells #[.int .i64 0, .int .i64 0, .int .i64 0, .int .i64 x.f0, .int .i64 x.f1, .int .i64 x.f2, .int .i64 x.f3, .int .i64 x.f4, .int .i64 x.f5, .slice A x.f6.length n] 94) := ⟨_, rfl⟩
    have HP5 := Aside0.mk (HP2.out.below (W1 := W5) (by rw [hW5]; exact (Below.refl _ _).alloc (Nat.le_refl _) _))
    have G5 : W5.heap[w1.heap.size + 2]? = some (.cells (Fnd.cells (⟨0, 0, 0, x, A, n, hl, hC⟩ : Fnd w)) 94 (0, 0)) := by rw [hW5, ← s4]; exact alloc_last _ _
    have s5 : W5.heap.size = w1.heap.size + 3 := by rw [hW5]; simp [s4]
    have sw : w.heap.size ≤ w1.heap.size := by have := HP.out.tl.bel.size; exact this
    rw [hW4] at hW5
    gi_wp2_with (rw [← hW5])
    refine range_iter rfl (fun h => (by cases h)) (gf := 93) (lb := #[.pointer (some ⟨w1.heap.size + 2, 0, none⟩)]) rfl trivial (enters_of Try.func93 (by kernel_rfl) rfl) (n₀ := w.heap.size) (B := w1.heap.size + 2) (by omega) (by omega) (hit (w1.heap.size + 2) W5 _ HP5.out.bel (by omega) G5) (fun _ => rfl)
      (fun pre V => (pre.length ≤ 65535 ∧ W5.heap.size ≤ V.heap.size) ∧ Pd w V [(w1.heap.size + 1, .cells #[.bool (pre.all fun f => ownV f.b)] 4 (0, 0)), (w1.heap.size, .cells #[.int .i64 (pre.length : Nat)] 3 (0, 0)), (w.heap.size + 1, .cells #[.int .i64 0] 28 (0, 0)), (w.heap.size, .cells #[.int .i64 x.f0, .int .i64 x.f1, .int .i64 x.f2, .int .i64 x.f3, .int .i64 x.f4, .int .i64 x.f5, .slice A x.f6.length n] 25 (0, 0))]) (fun pre V => 65535 < pre.length ∧ Pd w V [(w1.heap.size + 1, .cells #[.bool (pre.dropLast.all fun f => ownV f.b)] 4 (0, 0)), (w1.heap.size, .cells #[.int .i64 (pre.length : Nat)] 3 (0, 0)), (w.heap.size + 1, .cells #[.int .i64 7] 28 (0, 0)), (w.heap.size, .cells #[.int .i64 x.f0, .int .i64 x.f1, .int .i64 x.f2, .int .i64 x.f3, .int .i64 x.f4, .int .i64 x.f5, .slice A x.f6.length n] 25 (0, 0))])
      ?hI ?hIx ?h0 (fun y a' V => ∃ (g5 : Nat) (v0 v6 v7 v8 v9 v10 v11 v12 v13 v14 v15 v16 v17 v18 v19 v20 v21 v22 v23 v24 : Value), W5.heap.size ≤ g5 ∧ V.heap[g5]? = some (.cells y.cells 94 (0, 0)) ∧ a' = ({ tmps := #[v0, .pointer (some ⟨w.heap.size, 0, none⟩), .pointer (some ⟨w.heap.size + 1, 0, none⟩), .pointer (some ⟨w1.heap.size, 0, none⟩), .pointer (some ⟨w1.heap.size + 1, 0, none⟩), .pointer (some ⟨g5, 0, none⟩), v6, v7, v8, v9, v10, v11, v12, v13, v14, v15, v16, v17, v18, v19, v20, v21, v22, v23, v24], defers := [] } : Act)) ?hAx ?assign ?body ?done ?stop
    case hI => exact fun s X Y row hs hg hr => ⟨⟨hs.1.1, Nat.le_trans hs.1.2 hg.size⟩, (ownFrom_pd (β := Unit) (by omega) (by simp [Obj.isCells])) () X Y row hs.2 hg hr⟩
    case hIx => exact fun s X Y row hs hg hr => ⟨hs.1, (ownFrom_pd (β := Unit) (by omega) (by simp [Obj.isCells])) () X Y row hs.2 hg hr⟩
    case h0 => exact ⟨⟨Nat.zero_le _, Nat.le_refl _⟩, HP5.out⟩
    case hAx =>
      rintro y a' _ X Y row ⟨g5, v0, v6, v7, v8, v9, v10, v11, v12, v13, v14, v15, v16, v17, v18, v19, v20, v21, v22, v23, v24, h5, hx, ha⟩ hg hr
      refine ⟨g5, v0, v6, v7, v8, v9, v10, v11, v12, v13, v14, v15, v16, v17, v18, v19, v20, v21, v22, v23, v24, h5, (hg.block g5 (Array.getElem?_eq_some_iff.1 hx).1 (fun e => ?_)).trans hx, ha⟩
      obtain ⟨-, o, ho, hc⟩ := hr g5 e.symm
      rw [hx] at ho; cases ho; cases hc
    case assign =>
      rintro l2 pre y V K ⟨⟨hlen, hsz⟩, hpd⟩ hK
      have sv := hpd.bel.size
      unfold Fnd.cells
      gi_wp2
      exact hK _ _ (Keep.alloc _ _ _) ((Below.refl _ V).alloc sv _) ⟨⟨hlen, by simp; omega⟩, hpd.below ((Below.refl _ V).alloc (Nat.le_refl _) _)⟩ ⟨V.heap.size, _, _, _, _, _, _, _, _, _, _, _, _, _, _, _, _, _, _, _, _, hsz, alloc_last V _, rfl⟩
    case body =>
      rintro l2 pre y _ V ⟨⟨hlen, hsz⟩, hpd⟩ ⟨g5, v0, v6, v7, v8, v9, v10, v11, v12, v13, v14, v15, v16, v17, v18, v19, v20, v21, v22, v23, v24, h5, hx, rfl⟩ hlen2
      have sv := hpd.bel.size
      have hwk : wrap64 ((pre.length : Nat) + 1 : Int) = ((pre.length + 1 : Nat) : Int) := by rw [IntWalk.wrap64_in _ (by omega)]; rfl
      obtain ⟨c, hc⟩ : ∃ c : Int, c = (pre.length : Nat) := ⟨_, rfl⟩
      rw [← hc] at hwk hpd
      have HWK := Aside0.mk hwk
      have hm0 : V.cell? ⟨w1.heap.size, 0, none⟩ = some (.int .i64 c) := blk_cell hpd.tl.hd 0
      have hm1 : V.frozen? ⟨w1.heap.size, 0, none⟩ = false := blk_frozen hpd.tl.hd 0
      have HV := Aside0.mk hpd
      obtain ⟨V1, hV1⟩ : ∃ V1, V1 = V.setCell ⟨w1.heap.size, 0, none⟩ (.int .i64 (wrap64 (c + 1))) := ⟨_, rfl⟩
      have HV1 := Aside0.mk ((hpd.swp.sc (v := .int .i64 (wrap64 (c + 1)))).swp)
      have hx1 : (V.setCell ⟨w1.heap.size, 0, none⟩ (.int .i64 (wrap64 (c + 1)))).heap[g5]? = some (.cells y.cells 94 (0, 0)) := (Below.heap_setCell _ ⟨w1.heap.size, 0, none⟩ _ g5 (show g5 ≠ w1.heap.size by omega)).trans hx
      have hs1 : (V.setCell ⟨w1.heap.size, 0, none⟩ (.int .i64 (wrap64 (c + 1)))).heap.size = V.heap.size := by simp
      have K1 : Keep (w1.heap.size + 2) V (V.setCell ⟨w1.heap.size, 0, none⟩ (.int .i64 (wrap64 (c + 1)))) := (Keep.refl _ V).setCell (by omega) _
      have B1 : Below w.heap.size V (V.setCell ⟨w1.heap.size, 0, none⟩ (.int .i64 (wrap64 (c + 1)))) := (Below.refl _ V).setCell (p := ⟨w1.heap.size, 0, none⟩) sw _
      rw [← hV1] at HV1 hx1 hs1 K1 B1
      have n0 : (V.setCell ⟨w1.heap.size, 0, none⟩ (.int .i64 (wrap64 (c + 1)))).cell? ⟨w1.heap.size, 0, none⟩ = some (.int .i64 (wrap64 (c + 1))) := blk_cell (hV1 ▸ HV1.out.tl.hd) 0
      have e0 : (V.setCell ⟨w1.heap.size, 0, none⟩ (.int .i64 (wrap64 (c + 1)))).cell? ⟨w.heap.size + 1, 0, none⟩ = some (.int .i64 0) := blk_cell (hV1 ▸ HV1.out.tl.tl.hd) 0
      have e1 : (V.setCell ⟨w1.heap.size, 0, none⟩ (.int .i64 (wrap64 (c + 1)))).frozen? ⟨w.heap.size + 1, 0, none⟩ = false := blk_frozen (hV1 ▸ HV1.out.tl.tl.hd) 0
      have i0 : (V.setCell ⟨w1.heap.size, 0, none⟩ (.int .i64 (wrap64 (c + 1)))).cell? ⟨w1.heap.size + 1, 0, none⟩ = some (.bool (pre.all fun f => ownV f.b)) := blk_cell (hV1 ▸ HV1.out.hd) 0
      have i1 : (V.setCell ⟨w1.heap.size, 0, none⟩ (.int .i64 (wrap64 (c + 1)))).frozen? ⟨w1.heap.size + 1, 0, none⟩ = false := blk_frozen (hV1 ▸ HV1.out.hd) 0
      have HHX := Aside0.mk hx1
      have HS := Aside0.mk (show V.heap.size = V1.heap.size ∧ W5.heap.size ≤ V.heap.size ∧ pre.length ≤ 65535 ∧ W5.heap.size ≤ g5 ∧ w.heap.size ≤ V.heap.size ∧ W5.heap.size = w1.heap.size + 3 ∧ w.heap.size ≤ w1.heap.size ∧ W4.heap.size = w1.heap.size + 2 from ⟨hs1.symm, hsz, hlen, h5, sv, s5, sw, s4⟩)
      have HK1 := Aside0.mk K1
      have HB1 := Aside0.mk B1
      have HC := Aside0.mk hc
      have HV1E := Aside0.mk hV1
      have HL2 := Aside0.mk hlen2
      by_cases hgt : wrap64 (c + 1) > 65535
      · have hd2 : decide (wrap64 (c + 1) > 65535) = true := decide_eq_true hgt
        have HGT := Aside0.mk hgt
        clear hgt hwk hpd hx1 hs1 K1 B1 hc hlen2 hsz hlen h5 sv i0 i1 hx HP HP2 HP5 HD G5 hit hd1 s4 s5 sw hL hW4 hW5
        gi_wp2
        rw [← HV1E.out]
        have hs := HS.out
        refine ⟨(HK1.out.mono (by omega)).setCell (by omega) _, ?_, ?_⟩
        · have := HGT.out
          rw [HWK.out] at this
          simp only [List.length_append, List.length_cons, List.length_nil]
          omega
        · have h := (HV1.out.third.sc (v := .int .i64 7)).back3
          rw [HWK.out] at h
          rw [List.dropLast_concat]
          simpa only [List.length_append, List.length_cons, List.length_nil] using h
      · have hd2 : decide (wrap64 (c + 1) > 65535) = false := decide_eq_false hgt
        obtain ⟨q, hq⟩ : ∃ q, (pre.all fun f => ownV f.b) = q := ⟨_, rfl⟩
        rw [hq] at i0
        have HQ := Aside0.mk hq
        have HGT := Aside0.mk hgt
        clear hgt hwk hpd hx1 hs1 K1 B1 hc hlen2 hsz hlen h5 sv e0 e1 hx HP HP2 HP5 HD G5 hit hd1 s4 s5 sw hL hW4 hW5 hq
        cases q with
        | false =>
          gi_wp2
          refine ⟨trivial, ?_⟩
          gi_wp2
          rw [← HV1E.out]
          have hs := HS.out
          refine ⟨HK1.out.setCell (by omega) _, HB1.out.setCell (p := ⟨w1.heap.size + 1, 0, none⟩) (by show w.heap.size ≤ w1.heap.size + 1; omega) _, ⟨?_, ?_⟩, ?_⟩
          · have := HGT.out
            rw [HWK.out] at this
            simp only [List.length_append, List.length_cons, List.length_nil]
            omega
          · simp; omega
          · have h := HV1.out.sc (v := .bool false)
            rw [HWK.out] at h
            have hall : ((pre ++ [y]).all fun f => ownV f.b) = false := by rw [List.all_append, HQ.out]; rfl
            rw [hall]
            simpa only [List.length_append, List.length_cons, List.length_nil] using h
        | true =>
          have h10 := HHX.out
          unfold Fnd.cells at h10
          rw [HV1E.out] at h10
          obtain ⟨f0, f1, f2, f3, f4, f5, f6, f7, f8, f9⟩ := ten_cells h10
          clear h10
          gi_wp2
          refine ⟨trivial, rfl, ?_⟩
          rw [← HV1E.out]
          refine (callsIn_wide.2 (own_calls y.b V1 y.A y.n y.hl (Kd.C_below y.hC HV1.out.bel))).mono ?_
          rintro _ w6 ⟨rfl, hb6⟩
          have HV6 := Aside0.mk (HV1.out.below hb6)
          have HK6 := Aside0.mk (HK1.out.trans (⟨hb6.size, fun k _ hl => hb6.block k hl⟩ : Keep (w1.heap.size + 2) V1 w6))
          have HB6 := Aside0.mk (HB1.out.trans (hb6.mono (by have := HS.out; omega)))
          have hsz6 := Aside0.mk hb6.size
          clear f0 f1 f2 f3 f4 f5 f6 f7 f8 f9 n0 i0 i1 hm0 hm1 hb6
          have j0 : w6.cell? ⟨w1.heap.size + 1, 0, none⟩ = some (.bool (pre.all fun f => ownV f.b)) := blk_cell HV6.out.hd 0
          have j1 : w6.frozen? ⟨w1.heap.size + 1, 0, none⟩ = false := blk_frozen HV6.out.hd 0
          gi_wp2
          have hs := HS.out
          have hs6 := hsz6.out
          refine ⟨HK6.out.setCell (by omega) _, HB6.out.setCell (p := ⟨w1.heap.size + 1, 0, none⟩) (by show w.heap.size ≤ w1.heap.size + 1; omega) _, ⟨?_, ?_⟩, ?_⟩
          · have := HGT.out
            rw [HWK.out] at this
            simp only [List.length_append, List.length_cons, List.length_nil]
            omega
          · simp; omega
          · have h := HV6.out.sc (v := .bool (ownV y.b))
            rw [HWK.out] at h
            have hall : ((pre ++ [y]).all fun f => ownV f.b) = ownV y.b := by rw [List.all_append, HQ.out]; simp
            rw [hall]
            simpa only [List.length_append, List.length_cons, List.length_nil] using h
    case done =>
      rintro D V hD ⟨⟨hlen, hsz⟩, hpd⟩ hdD
      have HV := Aside0.mk hpd
      have hLl : L.length = (flatF m 0 0 0 x).length := by rw [← hL, List.length_map]
      have hLa : (L.all fun f => ownV f.b) = (flatF m 0 0 0 x).all (fun it => ownV it.2.2.2) := by rw [← hL, List.all_map]; rfl
      have HR := Aside0.mk (show checkV m x = if (L.all fun f => ownV f.b) then 0 else 5 by unfold checkV; rw [if_neg (show ¬ depthF m x > 512 by have := HD.out; omega), if_neg (by omega), hLa])
      have HDD := Aside0.mk (show w.heap.size ≤ D ∧ D ≠ w.heap.size + 1 ∧ V.heap[D]? = some (.deferred (some [])) from ⟨by omega, by omega, hdD⟩)
      have e0 : V.cell? ⟨w.heap.size + 1, 0, none⟩ = some (.int .i64 0) := blk_cell hpd.tl.tl.hd 0
      have e1 : V.frozen? ⟨w.heap.size + 1, 0, none⟩ = false := blk_frozen hpd.tl.tl.hd 0
      have i0 : V.cell? ⟨w1.heap.size + 1, 0, none⟩ = some (.bool (L.all fun f => ownV f.b)) := blk_cell hpd.hd 0
      obtain ⟨q, hq⟩ : ∃ q, (L.all fun f => ownV f.b) = q := ⟨_, rfl⟩
      rw [hq] at i0
      have HQ := Aside0.mk hq
      clear hpd hLl hLa hdD hlen hsz HP HP2 HP5 HD G5 hit hd1 s4 s5 sw hL hW4 hW5 hq
      cases q with
      | false =>
        gi_wp2
        exact leaves_mark w.heap.size (fun W' => Pd w W' [(w.heap.size + 1, .cells #[.int .i64 5] 28 (0, 0)), (w1.heap.size + 1, .cells #[.bool (L.all fun f => ownV f.b)] 4 (0, 0)), (w1.heap.size, .cells #[.int .i64 (L.length : Nat)] 3 (0, 0)), (w.heap.size, .cells #[.int .i64 x.f0, .int .i64 x.f1, .int .i64 x.f2, .int .i64 x.f3, .int .i64 x.f4, .int .i64 x.f5, .slice A x.f6.length n] 25 (0, 0))])
          (ownFrom_pd (Nat.le_refl _) (by simp [Obj.isCells])) (fun W' h => ⟨_, results_c rfl _ _ (w.heap.size + 1) (.int .i64 5) _ rfl (blk_cell h.hd 0) hu41 rfl, by rw [HR.out, HQ.out]; rfl, h.bel⟩) D _ (HV.out.third.sc (v := .int .i64 5)) HDD.out.1 ((Below.heap_setCell _ ⟨w.heap.size + 1, 0, none⟩ _ D HDD.out.2.1).trans HDD.out.2.2)
      | true =>
        gi_wp2
        exact leaves_mark w.heap.size (fun W' => Pd w W' [(w.heap.size + 1, .cells #[.int .i64 0] 28 (0, 0)), (w1.heap.size + 1, .cells #[.bool (L.all fun f => ownV f.b)] 4 (0, 0)), (w1.heap.size, .cells #[.int .i64 (L.length : Nat)] 3 (0, 0)), (w.heap.size, .cells #[.int .i64 x.f0, .int .i64 x.f1, .int .i64 x.f2, .int .i64 x.f3, .int .i64 x.f4, .int .i64 x.f5, .slice A x.f6.length n] 25 (0, 0))])
          (ownFrom_pd (Nat.le_refl _) (by simp [Obj.isCells])) (fun W' h => ⟨_, results_c rfl _ _ (w.heap.size + 1) (.int .i64 0) _ rfl (blk_cell h.hd 0) hu41 rfl, by rw [HR.out, HQ.out]; rfl, h.bel⟩) D _ (HV.out.third.sc (v := .int .i64 0)) HDD.out.1 ((Below.heap_setCell _ ⟨w.heap.size + 1, 0, none⟩ _ D HDD.out.2.1).trans HDD.out.2.2)
    case stop =>
      rintro D pre V hD hpre ⟨hlen, hpd⟩ hdD
      have hle : pre.length ≤ L.length := hpre.length_le
      have HR := Aside0.mk (show checkV m x = 7 by unfold checkV; rw [if_neg (show ¬ depthF m x > 512 by have := HD.out; omega), if_pos (by have h := congrArg List.length hL; rw [List.length_map] at h; omega)])
      gi_wp2
      exact leaves_mark w.heap.size (fun W' => Pd w W' [(w1.heap.size + 1, .cells #[.bool (pre.dropLast.all fun f => ownV f.b)] 4 (0, 0)), (w1.heap.size, .cells #[.int .i64 (pre.length : Nat)] 3 (0, 0)), (w.heap.size + 1, .cells #[.int .i64 7] 28 (0, 0)), (w.heap.size, .cells #[.int .i64 x.f0, .int .i64 x.f1, .int .i64 x.f2, .int .i64 x.f3, .int .i64 x.f4, .int .i64 x.f5, .slice A x.f6.length n] 25 (0, 0))])
        (ownFrom_pd (Nat.le_refl _) (by simp [Obj.isCells])) (fun W' h => ⟨_, results_c rfl _ _ (w.heap.size + 1) (.int .i64 7) _ rfl (blk_cell h.tl.tl.hd 0) hu41 rfl, by rw [HR.out], h.bel⟩) D _ hpd (by omega) hdD
end Go.Proofs.Ytbhljokhcmfgjaa.P
