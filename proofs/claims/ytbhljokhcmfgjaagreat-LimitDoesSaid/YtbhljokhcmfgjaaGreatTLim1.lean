import Derived.Test.YtbhljokhcmfgjaaGreatTPC
/- limit's ledger: keep, sum, half, need, konst over Pd; the error is the last cell. Printed by a program of this work (mklim1.py). -/
set_option linter.unusedVariables false
set_option linter.unusedSimpArgs false
namespace Go.Proofs.YtbhljokhcmfgjaaGreat.P
open Go.RowKit Go.Proofs.YtbhljokhcmfgjaaGreatW.PrintWords Go.Proofs.YtbhljokhcmfgjaaGreatW.PrintLast Go.Proofs.YtbhljokhcmfgjaaGreatW.PrintMore

theorem put_last {w : World} {q : Nat} {t : TypeId} {u v : Value} {pre : List Value} (hl : pre.length = 19) (h : w.heap[q]? = some (.cells (pre ++ [u]).toArray t (0, 0))) : (w.setCell ⟨q, 19, none⟩ v).heap[q]? = some (.cells (pre ++ [v]).toArray t (0, 0)) := blk_put h 19 v (by rw [← hl]; simp)
section
variable {w W W1 : World} {L : List (Nat × Obj)} {g : Nat} {e : Int} {pre : List Value} {t : TypeId}
theorem Pd.stL {u v : Value} (hl : pre.length = 19) (h : Pd w W ((g, .cells (pre ++ [u]).toArray t (0, 0)) :: L)) : Pd w (W.setCell ⟨g, 19, none⟩ v) ((g, .cells (pre ++ [v]).toArray t (0, 0)) :: L) :=
  h.put (put_last hl h.hd) (fun k hk => Below.heap_setCell _ ⟨g, 19, none⟩ v k hk) (Below.setCell h.bel (p := ⟨g, 19, none⟩) (h.loc _ List.mem_cons_self).2 v)
theorem last_cell {u : Value} (hl : pre.length = 19) (h : W.heap[g]? = some (.cells (pre ++ [u]).toArray t (0, 0))) : W.cell? ⟨g, 19, none⟩ = some u := by
  rw [blk_cell h 19, ← hl]
  simp
set_option maxRecDepth 100000 in
set_option maxHeartbeats 1000000 in
theorem keep_ld (hl : pre.length = 19) (h : Pd w W ((g, .cells (pre ++ [Value.int .i64 e]).toArray t (0, 0)) :: L)) (n x : Int) : Calls Tryz.prog 33 #[.pointer (some ⟨g, 0, none⟩), .int .i64 n, .int .i64 x] W fun r w' => r = .returned (.int .i64 (keepV e (n, x)).1) ∧ Pd w w' ((g, .cells (pre ++ [Value.int .i64 (keepV e (n, x)).2]).toArray t (0, 0)) :: L) := by
  have hc := last_cell hl h.hd
  have hf : W.frozen? ⟨g, 19, none⟩ = false := blk_frozen h.hd 19
  have HP := Aside0.mk h
  have HL := Aside0.mk hl
  clear h hl
  go_enter Tryz.func33, Tryz.ntmps33
  by_cases he : e = 0
  · subst he
    have k2 : (keepV 0 (n, x)).2 = x := by simp [keepV]
    by_cases hx : x = 0
    · subst hx
      have k1 : (keepV 0 (n, 0)).1 = n := by simp [keepV]
      rw [k1, k2]
      go_wp2
      go_ret
      exact ⟨rfl, Pd.stL HL.out HP.out⟩
    · have k1 : (keepV 0 (n, x)).1 = 0 := by simp [keepV, hx]
      rw [k1, k2]
      go_wp2
      go_ret
      exact ⟨rfl, Pd.stL HL.out HP.out⟩
  · have k1 : (keepV e (n, x)).1 = 0 := by simp [keepV, he]
    have k2 : (keepV e (n, x)).2 = e := by simp [keepV, he]
    rw [k1, k2]
    go_wp2
    go_ret
    exact ⟨rfl, HP.out⟩
theorem ints_C {xs : List Int} {b : Nat} {t1 : TypeId} (hb : W.heap[b]? = some (.cells (encs (Value.int .i64) xs).toArray t1 (0, 0))) (hx : xs.length ≤ 9223372036854775807) : Kd.C (Kd.int .i64) W (some ⟨b, 0, none⟩) xs.length xs := by
  have hE : ∀ xs : List Int, Each ((Kd.int .i64).K W) xs (xs.map (fun x => [Value.int .i64 x])) := by
    intro xs
    induction xs with
    | nil => exact trivial
    | cons x xs ih => exact ⟨rfl, ih⟩
  have hf : ∀ xs : List Int, (xs.map (fun x => [Value.int .i64 x])).flatten = encs (Value.int .i64) xs := by
    intro xs
    induction xs with
    | nil => rfl
    | cons x xs ih => rw [List.map_cons, List.flatten_cons, ih]; rfl
  exact row_C (hE xs) (by rw [hf]; exact hb) hx
set_option maxRecDepth 100000 in
set_option maxHeartbeats 1000000 in
theorem sum_ld (hl : pre.length = 19) (h : Pd w W ((g, .cells (pre ++ [Value.int .i64 e]).toArray t (0, 0)) :: L)) (xs : List Int) {b : Nat} {t1 : TypeId} (hb : W.heap[b]? = some (.cells (encs (Value.int .i64) xs).toArray t1 (0, 0))) (hx : xs.length ≤ 9223372036854775807) : Calls Tryz.prog 23 #[.pointer (some ⟨g, 0, none⟩), .slice (some ⟨b, 0, none⟩) xs.length xs.length] W fun r w' => r = .returned (.int .i64 (keepV e (toldOf (sumR xs))).1) ∧ Pd w w' ((g, .cells (pre ++ [Value.int .i64 (keepV e (toldOf (sumR xs))).2]).toArray t (0, 0)) :: L) := by
  have HC := Aside0.mk (ints_C hb hx)
  obtain ⟨p, hp⟩ : ∃ p, p = toldOf (sumR xs) := ⟨_, rfl⟩
  rw [← hp]
  have HV := Aside0.mk hp
  have HP := Aside0.mk h
  have HL := Aside0.mk hl
  clear h hl hp hb hx
  go_enter Tryz.func23, Tryz.ntmps23
  go_wp2_with fail
  refine (fixed_Sum.calls (some ⟨b, 0, none⟩) xs.length xs p.1 p.2 W HC.out (Nat.le_refl _) (by rw [fixed_Sum.f, HV.out])).mono ?_
  rintro _ w1 ⟨rfl, hb⟩
  replace HP := Aside0.mk (HP.out.below hb)
  clear hb
  go_wp2_with fail
  refine (keep_ld HL.out HP.out p.1 p.2).mono ?_
  rintro _ w2 ⟨rfl, hp⟩
  replace HP := Aside0.mk hp
  clear hp
  go_wp2
  go_ret
  exact ⟨rfl, HP.out⟩
set_option maxRecDepth 100000 in
set_option maxHeartbeats 1000000 in
theorem half_ld (hl : pre.length = 19) (h : Pd w W ((g, .cells (pre ++ [Value.int .i64 e]).toArray t (0, 0)) :: L)) (a : Int) : Calls Tryz.prog 21 #[.pointer (some ⟨g, 0, none⟩), .int .i64 a] W fun r w' => r = .returned (.int .i64 (keepV e (toldOf (halfR a))).1) ∧ Pd w w' ((g, .cells (pre ++ [Value.int .i64 (keepV e (toldOf (halfR a))).2]).toArray t (0, 0)) :: L) := by
  obtain ⟨p, hp⟩ : ∃ p, p = toldOf (halfR a) := ⟨_, rfl⟩
  rw [← hp]
  have HV := Aside0.mk hp
  have HP := Aside0.mk h
  have HL := Aside0.mk hl
  clear h hl hp
  go_enter Tryz.func21, Tryz.ntmps21
  go_wp2_with fail
  refine (fixed_Half.calls a p.1 p.2 W (by rw [fixed_Half.f, HV.out])).mono ?_
  rintro _ w1 ⟨rfl, hb⟩
  replace HP := Aside0.mk (HP.out.below hb)
  clear hb
  go_wp2_with fail
  refine (keep_ld HL.out HP.out p.1 p.2).mono ?_
  rintro _ w2 ⟨rfl, hp⟩
  replace HP := Aside0.mk hp
  clear hp
  go_wp2
  go_ret
  exact ⟨rfl, HP.out⟩
/-- What need leaves. -/
def needI (xs : List Int) (e : Int) : Int := if xs.all isLen then e else (keepV e (0, 1)).2
set_option maxRecDepth 100000 in
set_option maxHeartbeats 1000000 in
theorem need_ld (hl : pre.length = 19) (h : Pd w W ((g, .cells (pre ++ [Value.int .i64 e]).toArray t (0, 0)) :: L)) (xs : List Int) {b : Nat} {t1 : TypeId} (hb : W.heap[b]? = some (.cells (encs (Value.int .i64) xs).toArray t1 (0, 0))) (hx : xs.length ≤ 9223372036854775807) : Calls Tryz.prog 20 #[.pointer (some ⟨g, 0, none⟩), .slice (some ⟨b, 0, none⟩) xs.length xs.length] W fun r w' => r = .returned (.tuple #[]) ∧ Pd w w' ((g, .cells (pre ++ [Value.int .i64 (needI xs e)]).toArray t (0, 0)) :: L) := by
  have HC := Aside0.mk (ints_C hb hx)
  have HP := Aside0.mk h
  have HL := Aside0.mk hl
  clear h hl hb hx
  obtain ⟨z, hz⟩ : ∃ z, z = needI xs e := ⟨_, rfl⟩
  rw [← hz]
  have HZ := Aside0.mk hz
  clear hz
  go_enter Tryz.func20, Tryz.ntmps20
  go_wp2_with fail
  refine (fixed_Is_any _ _ xs W HC.out (Nat.le_refl _)).mono ?_
  rintro _ w1 ⟨rfl, hd⟩
  replace HP := Aside0.mk (HP.out.below (hd.below))
  clear hd
  obtain ⟨q, hq⟩ : ∃ q, q = xs.all isLen := ⟨_, rfl⟩
  have HQ := Aside0.mk hq
  rw [← hq]
  clear hq
  cases q with
  | true =>
    have hn : needI xs e = e := by unfold needI; rw [if_pos HQ.out.symm]
    have hz := HZ.out
    rw [hn] at hz
    subst hz
    go_wp2
    go_end0
    exact ⟨rfl, HP.out⟩
  | false =>
    have hn : needI xs e = (keepV e (0, 1)).2 := by unfold needI; rw [if_neg (by rw [← HQ.out]; simp)]
    have hz := HZ.out
    rw [hn] at hz
    subst hz
    go_wp2_with fail
    refine (keep_ld HL.out HP.out 0 1).mono ?_
    rintro _ w2 ⟨rfl, hp⟩
    replace HP := Aside0.mk hp
    clear hp
    go_wp2
    go_end0
    exact ⟨rfl, HP.out⟩
end
theorem lg_cells {W : World} {g : Nat} {v0 v1 v2 v3 v4 v5 v6 v7 v8 v9 v10 v11 v12 v13 v14 v15 v16 v17 v18 u : Value} {t : TypeId} (h : W.heap[g]? = some (.cells ([v0, v1, v2, v3, v4, v5, v6, v7, v8, v9, v10, v11, v12, v13, v14, v15, v16, v17, v18] ++ [u]).toArray t (0, 0))) :
    W.cell? ⟨g, 0, none⟩ = some v0 ∧ W.cell? ⟨g, 1, none⟩ = some v1 ∧ W.cell? ⟨g, 2, none⟩ = some v2 ∧ W.cell? ⟨g, 3, none⟩ = some v3 ∧ W.cell? ⟨g, 4, none⟩ = some v4 ∧ W.cell? ⟨g, 5, none⟩ = some v5 ∧ W.cell? ⟨g, 6, none⟩ = some v6 ∧ W.cell? ⟨g, 7, none⟩ = some v7 ∧ W.cell? ⟨g, 8, none⟩ = some v8 ∧ W.cell? ⟨g, 9, none⟩ = some v9 ∧ W.cell? ⟨g, 10, none⟩ = some v10 ∧ W.cell? ⟨g, 11, none⟩ = some v11 ∧ W.cell? ⟨g, 12, none⟩ = some v12 ∧ W.cell? ⟨g, 13, none⟩ = some v13 ∧ W.cell? ⟨g, 14, none⟩ = some v14 ∧ W.cell? ⟨g, 15, none⟩ = some v15 ∧ W.cell? ⟨g, 16, none⟩ = some v16 ∧ W.cell? ⟨g, 17, none⟩ = some v17 ∧ W.cell? ⟨g, 18, none⟩ = some v18 :=
  ⟨blk_cell h 0, blk_cell h 1, blk_cell h 2, blk_cell h 3, blk_cell h 4, blk_cell h 5, blk_cell h 6, blk_cell h 7, blk_cell h 8, blk_cell h 9, blk_cell h 10, blk_cell h 11, blk_cell h 12, blk_cell h 13, blk_cell h 14, blk_cell h 15, blk_cell h 16, blk_cell h 17, blk_cell h 18⟩
set_option maxRecDepth 100000 in
set_option maxHeartbeats 2000000 in
theorem konst_ld {w W : World} {L : List (Nat × Obj)} {g : Nat} {e : Int} {pre cs : List Value} {F : S36} {c z : Int} (h : Pd w W ((g, .cells (pre ++ [Value.int .i64 e]).toArray 60 (0, 0)) :: L)) (hF : FontIn w F cs) (hr : pre = cs ++ [.int .i64 c, .int .i64 z]) (k : Int) : Calls Tryz.prog 18 #[.pointer (some ⟨g, 0, none⟩), .int .i64 k] W fun r w' => r = .returned (.int .i64 (keepV e (konstV F k c z)).1) ∧ Pd w w' ((g, .cells (pre ++ [Value.int .i64 (keepV e (konstV F k c z)).2]).toArray 60 (0, 0)) :: L) := by
  have hu36 := Tryz.underlying36
  have HF := Aside0.mk hF
  obtain ⟨A6, c6, A7, c7, A8, c8, A9, c9, A10, c10, A11, c11, A12, c12, A13, c13, A15, c15, A16, c16, hcs, hcr⟩ := id hF
  subst hcs
  replace hr : pre = [.int .i64 F.f0.f0, .int .i64 F.f0.f1, .int .i64 F.f0.f2, .int .i64 F.f0.f3, .int .i64 F.f0.f4, .bool F.f0.f5, .slice A6 F.f1.length c6, .slice A7 F.f2.length c7, .slice A8 F.f3.length c8, .slice A9 F.f4.f0.length c9, .slice A10 F.f4.f1.length c10, .slice A11 F.f4.f2.length c11, .slice A12 F.f4.f3.length c12, .slice A13 F.f4.f4.length c13, .int .i64 F.f4.f5.f0, .slice A15 F.f4.f5.f1.length c15, .slice A16 F.f4.f5.f2.length c16, .int .i64 c, .int .i64 z] := hr
  subst hr
  have HL := Aside0.mk (show ([.int .i64 F.f0.f0, .int .i64 F.f0.f1, .int .i64 F.f0.f2, .int .i64 F.f0.f3, .int .i64 F.f0.f4, .bool F.f0.f5, .slice A6 F.f1.length c6, .slice A7 F.f2.length c7, .slice A8 F.f3.length c8, .slice A9 F.f4.f0.length c9, .slice A10 F.f4.f1.length c10, .slice A11 F.f4.f2.length c11, .slice A12 F.f4.f3.length c12, .slice A13 F.f4.f4.length c13, .int .i64 F.f4.f5.f0, .slice A15 F.f4.f5.f1.length c15, .slice A16 F.f4.f5.f2.length c16, .int .i64 c, .int .i64 z] : List Value).length = 19 from rfl)
  clear hcr hF
  obtain ⟨p, hp⟩ : ∃ p, p = konstV F k c z := ⟨_, rfl⟩
  rw [← hp]
  have HK := Aside0.mk hp
  clear hp
  have HP := Aside0.mk h
  have hS := lg_cells h.hd
  clear h
  go_enter Tryz.func18, Tryz.ntmps18
  go_wp2_with fail
  go_region_held3 (fun w' => w'.cell? ⟨g, 0, none⟩ = some (.int .i64 F.f0.f0) ∧ w'.cell? ⟨g, 1, none⟩ = some (.int .i64 F.f0.f1) ∧ w'.cell? ⟨g, 2, none⟩ = some (.int .i64 F.f0.f2) ∧ w'.cell? ⟨g, 3, none⟩ = some (.int .i64 F.f0.f3) ∧ w'.cell? ⟨g, 4, none⟩ = some (.int .i64 F.f0.f4) ∧ w'.cell? ⟨g, 5, none⟩ = some (.bool F.f0.f5) ∧ w'.cell? ⟨g, 6, none⟩ = some (.slice A6 F.f1.length c6) ∧ w'.cell? ⟨g, 7, none⟩ = some (.slice A7 F.f2.length c7) ∧ w'.cell? ⟨g, 8, none⟩ = some (.slice A8 F.f3.length c8) ∧ w'.cell? ⟨g, 9, none⟩ = some (.slice A9 F.f4.f0.length c9) ∧ w'.cell? ⟨g, 10, none⟩ = some (.slice A10 F.f4.f1.length c10) ∧ w'.cell? ⟨g, 11, none⟩ = some (.slice A11 F.f4.f2.length c11) ∧ w'.cell? ⟨g, 12, none⟩ = some (.slice A12 F.f4.f3.length c12) ∧ w'.cell? ⟨g, 13, none⟩ = some (.slice A13 F.f4.f4.length c13) ∧ w'.cell? ⟨g, 14, none⟩ = some (.int .i64 F.f4.f5.f0) ∧ w'.cell? ⟨g, 15, none⟩ = some (.slice A15 F.f4.f5.f1.length c15) ∧ w'.cell? ⟨g, 16, none⟩ = some (.slice A16 F.f4.f5.f2.length c16) ∧ w'.cell? ⟨g, 17, none⟩ = some (.int .i64 c) ∧ w'.cell? ⟨g, 18, none⟩ = some (.int .i64 z)) (first | with_reducible exact lg_cells (Pd.hd (by with_reducible repeat (first | exact HP.out | apply Pd.drew)))) (first | (go_at_call 44; refine (konst_calls _ F _ k c z (HF.out.heap (Pre.bel (Pd.toPre (by with_reducible repeat (first | exact HP.out | apply Pd.drew)))))).mono ?_; rintro _ w1 ⟨rfl, hb⟩; rw [← HK.out]; replace HP := Aside0.mk (Pd.below (by with_reducible repeat (first | exact HP.out | apply Pd.drew)) hb); clear hb) | (go_at_call 33; refine (keep_ld HL.out (by with_reducible repeat (first | exact HP.out | apply Pd.drew)) p.1 p.2).mono ?_; rintro _ w1 ⟨rfl, hp⟩; replace HP := Aside0.mk hp; clear hp))
  all_goals go_wp2
  all_goals go_ret
  all_goals exact ⟨rfl, HP.out⟩
end Go.Proofs.YtbhljokhcmfgjaaGreat.P
