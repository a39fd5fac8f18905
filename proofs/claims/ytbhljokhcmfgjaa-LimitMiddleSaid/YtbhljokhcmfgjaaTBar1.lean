import Derived.Test.YtbhljokhcmfgjaaTPB
/- bar's ledger and maker: keep, sum, need, konst, gap, over whatever blocks the caller has (Pd): the maker is the block ahead. -/
set_option linter.unusedVariables false
set_option linter.unusedSimpArgs false
namespace Go.Proofs.Ytbhljokhcmfgjaa.P
open Go.RowKit Go.Proofs.YtbhljokhcmfgjaaW.PrintWords Go.Proofs.YtbhljokhcmfgjaaW.PrintLast Go.Proofs.YtbhljokhcmfgjaaW.PrintMore

theorem put_head {w : World} {q : Nat} {t : TypeId} {u v : Value} {rest : List Value} (h : w.heap[q]? = some (.cells (u :: rest).toArray t (0, 0))) : (w.setCell ⟨q, 0, none⟩ v).heap[q]? = some (.cells (v :: rest).toArray t (0, 0)) := blk_put h 0 v (by simp)
section
variable {w W W1 : World} {L : List (Nat × Obj)} {g : Nat} {e : Int} {rest : List Value} {t : TypeId}
theorem Pd.st1 {u v : Value} (h : Pd w W ((g, .cells (u :: rest).toArray t (0, 0)) :: L)) : Pd w (W.setCell ⟨g, 0, none⟩ v) ((g, .cells (v :: rest).toArray t (0, 0)) :: L) :=
  h.put (put_head h.hd) (fun k hk => Below.heap_setCell _ ⟨g, 0, none⟩ v k hk) (Below.setCell h.bel (p := ⟨g, 0, none⟩) (h.loc _ List.mem_cons_self).2 v)
theorem Pd.lit {o : Obj} (h : Pd w W L) (hB : Lit W o W1) : Pd w W1 ((W.heap.size, o) :: L) := (h.row o).below hB
theorem head_cell {u : Value} (h : W.heap[g]? = some (.cells (u :: rest).toArray t (0, 0))) : W.cell? ⟨g, 0, none⟩ = some u := by
  rw [blk_cell h 0]
  simp
set_option maxRecDepth 100000 in
set_option maxHeartbeats 1000000 in
theorem keep_pd (h : Pd w W ((g, .cells (Value.int .i64 e :: rest).toArray t (0, 0)) :: L)) (n x : Int) : Calls Try.prog 99 #[.pointer (some ⟨g, 0, none⟩), .int .i64 n, .int .i64 x] W fun r w' => r = .returned (.int .i64 (keepV e (n, x)).1) ∧ Pd w w' ((g, .cells (Value.int .i64 (keepV e (n, x)).2 :: rest).toArray t (0, 0)) :: L) := by
  have hc := head_cell h.hd
  have hf : W.frozen? ⟨g, 0, none⟩ = false := blk_frozen h.hd 0
  have HP := Aside0.mk h
  clear h
  go_enter Try.func99, Try.ntmps99
  by_cases he : e = 0
  · subst he
    have k2 : (keepV 0 (n, x)).2 = x := by simp [keepV]
    by_cases hx : x = 0
    · subst hx
      have k1 : (keepV 0 (n, 0)).1 = n := by simp [keepV]
      rw [k1, k2]
      go_wp2
      go_ret
      exact ⟨rfl, Pd.st1 HP.out⟩
    · have k1 : (keepV 0 (n, x)).1 = 0 := by simp [keepV, hx]
      rw [k1, k2]
      go_wp2
      go_ret
      exact ⟨rfl, Pd.st1 HP.out⟩
  · have k1 : (keepV e (n, x)).1 = 0 := by simp [keepV, he]
    have k2 : (keepV e (n, x)).2 = e := by simp [keepV, he]
    rw [k1, k2]
    go_wp2
    go_ret
    exact ⟨rfl, HP.out⟩
set_option maxRecDepth 100000 in
set_option maxHeartbeats 1000000 in
/-- A sum of a row that lies in a block. -/
theorem sum_pd (h : Pd w W ((g, .cells (Value.int .i64 e :: rest).toArray t (0, 0)) :: L)) (xs : List Int) {b : Nat} {t1 : TypeId} (hb : W.heap[b]? = some (.cells (encs (Value.int .i64) xs).toArray t1 (0, 0))) (hx : xs.length ≤ 9223372036854775807) : Calls Try.prog 69 #[.pointer (some ⟨g, 0, none⟩), .slice (some ⟨b, 0, none⟩) xs.length xs.length] W fun r w' => r = .returned (.int .i64 (keepV e (toldOf (sumR xs))).1) ∧ Pd w w' ((g, .cells (Value.int .i64 (keepV e (toldOf (sumR xs))).2 :: rest).toArray t (0, 0)) :: L) := by
  have hC : Kd.C (Kd.int .i64) W (some ⟨b, 0, none⟩) xs.length xs := by
    have hE : ∀ xs : List Int, Each ((Kd.int .i64).K W) xs (xs.map (fun x => [Value.int .i64 x])) := by
      intro xs
      induction xs with
      | nil => exact trivial
      | cons x xs ih => exact ⟨rfl, ih⟩
    have hf : ∀ xs : List Int, (xs.map (fun x => [Value.int .i64 x])).flatten = encs (Value.int .i64) xs := by
      intro xs
      induction xs with
      | nil => rfl
      | cons x xs ih => rw [List.map_cons, List.flatten_cons, ih]; rfl
    exact row_C (hE xs) (by rw [hf]; exact hb) hx
  obtain ⟨p, hp⟩ : ∃ p, p = toldOf (sumR xs) := ⟨_, rfl⟩
  rw [← hp]
  have HV := Aside0.mk (show fixed_Sum.f xs = some (p.1, p.2) by rw [fixed_Sum.f, hp])
  have HP := Aside0.mk h
  have HC := Aside0.mk hC
  clear h hb hC hp
  go_enter Try.func69, Try.ntmps69
  go_wp2_with fail
  refine (fixed_Sum.calls (some ⟨b, 0, none⟩) xs.length xs p.1 p.2 W HC.out (Nat.le_refl _) HV.out).mono ?_
  rintro _ w1 ⟨rfl, hb⟩
  replace HP := Aside0.mk (HP.out.below hb)
  clear hb
  go_wp2_with fail
  refine (keep_pd HP.out p.1 p.2).mono ?_
  rintro _ w2 ⟨rfl, hp⟩
  replace HP := Aside0.mk hp
  clear hp
  go_wp2
  go_ret
  exact ⟨rfl, HP.out⟩
set_option maxRecDepth 100000 in
set_option maxHeartbeats 1000000 in
/-- A row of boxes that lies in a block of the caller's: each has to be right. -/
theorem need_pd {b : Nat} {t1 : TypeId} (xs : List S25) (css : List (List Value)) (h : Pd w W ((g, .cells (Value.int .i64 e :: rest).toArray t (0, 0)) :: (b, .cells css.flatten.toArray t1 (0, 0)) :: L)) (hx : xs.length ≤ 9223372036854775807) (hK : Each (k25.K w) xs css) : Calls Try.prog 68 #[.pointer (some ⟨g, 0, none⟩), .slice (some ⟨b, 0, none⟩) xs.length xs.length] W fun r w' => r = .returned (.tuple #[]) ∧ Pd w w' ((g, .cells (Value.int .i64 (needE xs e) :: rest).toArray t (0, 0)) :: (b, .cells css.flatten.toArray t1 (0, 0)) :: L) := by
  have hu39 := Try.underlying25
  have HK := Aside0.mk hK
  have HX := Aside0.mk hx
  have HP := Aside0.mk h
  have hmax : xs.length ≤ 9223372036854775807 := hx
  obtain ⟨A, hA⟩ : ∃ A : Option Addr, A = some ⟨b, 0, none⟩ := ⟨_, rfl⟩
  rw [← hA]
  have HA := Aside0.mk hA
  clear h hK hx hA
  go_enter Try.func68, Try.ntmps68
  go_wp2
  go_loopw [8] (fun i wr => ∃ (kk : Nat) (e1 : Int), kk ≤ xs.length ∧ i = .int .i64 kk ∧ Aside0 (needE (xs.drop kk) e1 = needE xs e) ∧ Aside0 (Pd w wr ((g, .cells (Value.int .i64 e1 :: rest).toArray t (0, 0)) :: (b, .cells css.flatten.toArray t1 (0, 0)) :: L))) (fun i _ => xs.length - (intOf i).toNat)
  case atStart => exact ⟨0, e, Nat.zero_le _, rfl, ⟨rfl⟩, HP⟩
  case round =>
    obtain ⟨kk, e1, hk, rfl, HG, HP⟩ := hrel
    by_cases hlt : kk < xs.length
    · have hd1 : decide ((kk : Int) < (xs.length : Int)) = true := by simp; omega
      have hi0 : (0 : Int) ≤ (kk : Int) := Int.natCast_nonneg _
      have hi1 : (kk : Int) < (xs.length : Int) := by omega
      have hstep := Aside0.mk (needE_drop xs kk hlt e1)
      have hCr : Kd.C k25 wr A xs.length xs := HA.out ▸ row_C (HK.out.imp fun x cs hx => k25_heap.K (fun k hlt => HP.out.bel.block k hlt) hx) (HP.out.tl.hd) HX.out
      obtain ⟨ad, A6, c6, hAd, h0, h1, h2, h3, h4, h5, h6, hl6, hr6⟩ := at_T25 hCr (kk : Int) hi0 hi1
      subst hAd
      obtain ⟨x, hx⟩ : ∃ x, x = rd_T25 xs kk := ⟨_, rfl⟩
      rw [← hx] at h0 h1 h2 h3 h4 h5 h6
      rw [← hx] at hstep
      clear hl6 hr6 hx hCr
      simp only [Int.toNat_natCast] at h0 h1 h2 h3 h4 h5 h6
      by_cases hok : lens x = true
      · have HOK := Aside0.mk hok
        clear hok
        have HIS := Aside0.mk (fixed_Is_any (some ⟨wr.heap.size + 1, 0, none⟩) 3 [x.f1, x.f2, x.f3] ((wr.alloc (.cells #[.int .i64 x.f0, .int .i64 x.f1, .int .i64 x.f2, .int .i64 x.f3, .int .i64 x.f4, .int .i64 x.f5, .slice A6 x.f6.length c6] 25)).alloc (.cells #[.int .i64 x.f1, .int .i64 x.f2, .int .i64 x.f3] 3)) (lit3_C _ _ _ _ _ _ (by simp)) (Nat.le_refl _))
        rw [show ([x.f1, x.f2, x.f3].all isLen) = true from HOK.out] at HIS
        go_wp2_with fail
        refine HIS.out.mono ?_
        rintro e2 w1 ⟨rfl, hd⟩
        replace HP := Aside0.mk (HP.out.below ((((Below.refl _ _).alloc (Nat.le_refl _) _).alloc (by simp) _).trans (hd.below.mono (by simp; omega))))
        clear hd HIS
        go_wp2
        go_roundw
        case rel => exact ⟨kk + 1, e1, by omega, by go_num, ⟨by rw [← HG.out, hstep.out, if_pos HOK.out]⟩, HP⟩
        case measure => simp [intOf] <;> omega
      · have HOK := Aside0.mk (show lens x = false by simpa using hok)
        clear hok
        have HIS := Aside0.mk (fixed_Is_any (some ⟨wr.heap.size + 1, 0, none⟩) 3 [x.f1, x.f2, x.f3] ((wr.alloc (.cells #[.int .i64 x.f0, .int .i64 x.f1, .int .i64 x.f2, .int .i64 x.f3, .int .i64 x.f4, .int .i64 x.f5, .slice A6 x.f6.length c6] 25)).alloc (.cells #[.int .i64 x.f1, .int .i64 x.f2, .int .i64 x.f3] 3)) (lit3_C _ _ _ _ _ _ (by simp)) (Nat.le_refl _))
        rw [show ([x.f1, x.f2, x.f3].all isLen) = false from HOK.out] at HIS
        go_wp2_with fail
        refine HIS.out.mono ?_
        rintro e2 w1 ⟨rfl, hd⟩
        replace HP := Aside0.mk (HP.out.below ((((Below.refl _ _).alloc (Nat.le_refl _) _).alloc (by simp) _).trans (hd.below.mono (by simp; omega))))
        clear hd HIS
        go_wp2_with fail
        refine (keep_pd HP.out 0 1).mono ?_
        rintro e3 w2 ⟨rfl, hp⟩
        replace HP := Aside0.mk hp
        clear hp
        go_wp2
        go_roundw
        case rel => exact ⟨kk + 1, if e1 = 0 then 1 else e1, by omega, by go_num, ⟨by rw [← HG.out, hstep.out, HOK.out]; rfl⟩, HP⟩
        case measure => simp [intOf] <;> omega
    · obtain rfl : kk = xs.length := by omega
      have hd1 : decide ((xs.length : Int) < (xs.length : Int)) = false := by simp
      go_wp2
      go_end0
      refine ⟨rfl, ?_⟩
      have : needE xs e = e1 := by rw [← HG.out, List.drop_of_length_le (Nat.le_refl _)]; rfl
      rw [this]
      exact HP.out
end
end Go.Proofs.Ytbhljokhcmfgjaa.P
