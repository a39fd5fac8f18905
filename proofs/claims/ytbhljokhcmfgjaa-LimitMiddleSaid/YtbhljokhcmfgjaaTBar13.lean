import Derived.Test.YtbhljokhcmfgjaaTBar5
/- What bar.Radical with a degree needs besides: need over the caller's own boxes, an append to a row of the call's own, MulDiv, over Pd. -/
set_option linter.unusedVariables false
set_option linter.unusedSimpArgs false
namespace Go.Proofs.Ytbhljokhcmfgjaa.P
open Go.RowKit Go.Proofs.YtbhljokhcmfgjaaW.PrintWords Go.Proofs.YtbhljokhcmfgjaaW.PrintLast Go.Proofs.YtbhljokhcmfgjaaW.PrintMore

section
variable {w W W1 : World} {L : List (Nat × Obj)} {g : Nat} {e : Int} {rest : List Value} {t : TypeId}
set_option maxRecDepth 100000 in
set_option maxHeartbeats 1000000 in
theorem need_arg_pd (xs : List S25) {A : Option Addr} {c : Nat} (h : Pd w W ((g, .cells (Value.int .i64 e :: rest).toArray t (0, 0)) :: L)) (hx : xs.length ≤ 9223372036854775807) (hC : Kd.C k25 w A xs.length xs) : Calls Try.prog 68 #[.pointer (some ⟨g, 0, none⟩), .slice A xs.length c] W fun r w' => r = .returned (.tuple #[]) ∧ Pd w w' ((g, .cells (Value.int .i64 (needE xs e) :: rest).toArray t (0, 0)) :: L) := by
  have hu39 := Try.underlying25
  have HC := Aside0.mk hC
  have HX := Aside0.mk hx
  have HP := Aside0.mk h
  have hmax : xs.length ≤ 9223372036854775807 := hx
  clear h hC hx
  go_enter Try.func68, Try.ntmps68
  go_wp2
  go_loopw [8] (fun i wr => ∃ (kk : Nat) (e1 : Int), kk ≤ xs.length ∧ i = .int .i64 kk ∧ Aside0 (needE (xs.drop kk) e1 = needE xs e) ∧ Aside0 (Pd w wr ((g, .cells (Value.int .i64 e1 :: rest).toArray t (0, 0)) :: L))) (fun i _ => xs.length - (intOf i).toNat)
  case atStart => exact ⟨0, e, Nat.zero_le _, rfl, ⟨rfl⟩, HP⟩
  case round =>
    obtain ⟨kk, e1, hk, rfl, HG, HP⟩ := hrel
    by_cases hlt : kk < xs.length
    · have hd1 : decide ((kk : Int) < (xs.length : Int)) = true := by simp; omega
      have hi0 : (0 : Int) ≤ (kk : Int) := Int.natCast_nonneg _
      have hi1 : (kk : Int) < (xs.length : Int) := by omega
      have hstep := Aside0.mk (needE_drop xs kk hlt e1)
      have hCr : Kd.C k25 wr A xs.length xs := Kd.C_below HC.out HP.out.bel
      obtain ⟨ad, A6, c6, hAd, h0, h1, h2, h3, h4, h5, h6, hl6, hr6⟩ := at_T25 hCr (kk : Int) hi0 hi1
      subst hAd
      obtain ⟨x, hx⟩ : ∃ x, x = rd_T25 xs kk := ⟨_, rfl⟩
      rw [← hx] at h0 h1 h2 h3 h4 h5 h6
      rw [← hx] at hstep
      clear hl6 hr6 hx hCr
      simp only [Int.toNat_natCast] at h0 h1 h2 h3 h4 h5 h6
      by_cases hok : lens x = true
      · have HOK := Aside0.mk hok
        clear hok
        have HIS := Aside0.mk (fixed_Is_any (some ⟨wr.heap.size + 1, 0, none⟩) 3 [x.f1, x.f2, x.f3] ((wr.alloc (.cells #[.int .i64 x.f0, .int .i64 x.f1, .int .i64 x.f2, .int .i64 x.f3, .int .i64 x.f4, .int .i64 x.f5, .slice A6 x.f6.length c6] 25)).alloc (.cells #[.int .i64 x.f1, .int .i64 x.f2, .int .i64 x.f3] 3)) (lit3_C _ _ _ _ _ _ (by simp)) (Nat.le_refl _))
        rw [show ([x.f1, x.f2, x.f3].all isLen) = true from HOK.out] at HIS
        go_wp2_with fail
        refine HIS.out.mono ?_
        rintro e2 w1 ⟨rfl, hd⟩
        replace HP := Aside0.mk (HP.out.below ((((Below.refl _ _).alloc (Nat.le_refl _) _).alloc (by simp) _).trans (hd.below.mono (by simp; omega))))
        clear hd HIS
        go_wp2
        go_roundw
        case rel => exact ⟨kk + 1, e1, by omega, by go_num, ⟨by rw [← HG.out, hstep.out, if_pos HOK.out]⟩, HP⟩
        case measure => simp [intOf] <;> omega
      · have HOK := Aside0.mk (show lens x = false by simpa using hok)
        clear hok
        have HIS := Aside0.mk (fixed_Is_any (some ⟨wr.heap.size + 1, 0, none⟩) 3 [x.f1, x.f2, x.f3] ((wr.alloc (.cells #[.int .i64 x.f0, .int .i64 x.f1, .int .i64 x.f2, .int .i64 x.f3, .int .i64 x.f4, .int .i64 x.f5, .slice A6 x.f6.length c6] 25)).alloc (.cells #[.int .i64 x.f1, .int .i64 x.f2, .int .i64 x.f3] 3)) (lit3_C _ _ _ _ _ _ (by simp)) (Nat.le_refl _))
        rw [show ([x.f1, x.f2, x.f3].all isLen) = false from HOK.out] at HIS
        go_wp2_with fail
        refine HIS.out.mono ?_
        rintro e2 w1 ⟨rfl, hd⟩
        replace HP := Aside0.mk (HP.out.below ((((Below.refl _ _).alloc (Nat.le_refl _) _).alloc (by simp) _).trans (hd.below.mono (by simp; omega))))
        clear hd HIS
        go_wp2_with fail
        refine (keep_pd HP.out 0 1).mono ?_
        rintro e3 w2 ⟨rfl, hp⟩
        replace HP := Aside0.mk hp
        clear hp
        go_wp2
        go_roundw
        case rel => exact ⟨kk + 1, if e1 = 0 then 1 else e1, by omega, by go_num, ⟨by rw [← HG.out, hstep.out, HOK.out]; rfl⟩, HP⟩
        case measure => simp [intOf] <;> omega
    · obtain rfl : kk = xs.length := by omega
      have hd1 : decide ((xs.length : Int) < (xs.length : Int)) = false := by simp
      go_wp2
      go_end0
      refine ⟨rfl, ?_⟩
      have : needE xs e = e1 := by rw [← HG.out, List.drop_of_length_le (Nat.le_refl _)]; rfl
      rw [this]
      exact HP.out
theorem mulDiv_pd (h : Pd w W L) (a b c : Int) : Calls Try.prog 85 #[.int .i64 a, .int .i64 b, .int .i64 c] W fun r w' => r = .returned (.tuple #[.int .i64 (toldOf (mulDivR a b c)).1, .int .i64 (toldOf (mulDivR a b c)).2]) ∧ Pd w w' L := by
  obtain ⟨p, hp⟩ : ∃ p, p = toldOf (mulDivR a b c) := ⟨_, rfl⟩
  rw [← hp]
  exact (fixed_MulDiv.calls a b c p.1 p.2 W (by rw [fixed_MulDiv.f, ← hp])).mono fun r w' ⟨h1, h2⟩ => ⟨h1, h.below h2⟩
end
section
variable {ops : Array Oper} {o : Oper} {a : Act} {K : Act → World → Prop} {Q : Exit → Act → World → Prop} {E : Prop}
theorem each_app {α : Type} {R : α → List Value → Prop} : ∀ {xs : List α} {css : List (List Value)} {ys : List α} {dss : List (List Value)}, Each R xs css → Each R ys dss → Each R (xs ++ ys) (css ++ dss)
  | [], [], _, _, _, h => h
  | _ :: _, _ :: _, _, _, h, h2 => ⟨h.1, each_app h.2 h2⟩
/-- A row of kids of the call's own, to which more may be appended. -/
def OwnAt (w : World) (q cap : Nat) (o : Obj) (xs : List S41) : Prop := ∃ css, Each (k41.K w) xs css ∧ ∀ W_ : World, W_.heap[q]? = some o → W_.ownsRow w.heap.size 41 9 (.slice (some ⟨q, 0, none⟩) xs.length cap) xs.length css.flatten
set_option maxRecDepth 100000 in
theorem append_own {w W : World} {L : List (Nat × Obj)} {b n : Nat} {t1 : TypeId} (hgd : o.guard = none) (s x : Operand) (ho : o.op = .call { callee := .builtin .append, args := #[s, x], argTypes := #[23, 23] }) (hs : a.eval s = .slice none 0 0) (hx : a.eval x = .slice (some ⟨b, 0, none⟩) n n)
    (xs : List S41) (css : List (List Value)) (hlen : n = xs.length) (h0 : 0 < n) (hn : n ≤ 1000) (hB : W.heap[b]? = some (.cells css.flatten.toArray t1 (0, 0))) (h : Pd w W L) (hK : Each (k41.K w) xs css) (h1 : ∀ u ∈ css.flatten, u.oneCell' = true)
    (k : ∀ q cap o1 w', Pd w w' ((q, o1) :: L) → xs.length ≤ cap → OwnAt w q cap o1 xs → K (a.put o.dst (.slice (some ⟨q, 0, none⟩) xs.length cap)) w') :
    if Region.wanted o (yielded ops a.tmps) = true then Oper.wp Try.prog o a W K Q else E := by
  subst hlen
  obtain ⟨i, hi, hz, hs9, hby⟩ := info_parts info41
  have hl9 : css.flatten.length = xs.length * 9 := by rw [flat_len (n := 9) hK.lens, each_len hK]
  refine step_append_lies W hgd s x 23 ho W.heap.size 41 i _ 9 88 Try.underlying23 hi hz hs9 hby rfl (by omega) (.slice none 0 0) 0 [] hs (World.ownsRow_nil _ _ _ _) ⟨b, 0, none⟩ xs.length xs.length css.flatten hx hl9 ?_ h1 h0 (by simp only [maxLen]; omega) (by omega) (Nat.le_refl _) W.heap.size rfl ?_
  · intro j u hu
    have ha : (⟨b, 0, none⟩ : Addr).add j = ⟨b, j, none⟩ := by
      unfold Addr.add
      split
      · next h => rw [h]
      · simp
    rw [ha, blk_cell hB]
    simpa using hu
  · intro q cap w' hown hgrow hat hlt
    simp only [Nat.zero_add, List.nil_append] at hown ⊢
    obtain ⟨hlf, h2⟩ := hown
    rcases h2 with ⟨h3, _⟩ | ⟨g, c, cur, h3, hge, hcur, h4, hmx, hsz, htk⟩
    · cases h3
    · injection h3 with h5 h6 h7
      injection h5 with h5
      injection h5 with h5
      subst h5 h7
      have hB2 : Below W.heap.size W w' := (Below.refl _ _).grown hgrow (Nat.le_refl _) (fun k hk => by cases hk)
      have hP : Pd w w' ((q, .cells cur 41 (0, 0)) :: L) :=
        ⟨⟨below_step h.bel hB2, fun p hp => by
            rcases List.mem_cons.1 hp with rfl | hp
            · exact ⟨hcur, Nat.le_trans h.bel.size hge⟩
            · exact ((h.below hB2).loc p hp)⟩,
          List.Pairwise.cons (fun p hp => by have := blk_lt (h.loc p hp).1; show p.1 ≠ q; omega) h.dis⟩
      exact k q cap _ w' hP h4 ⟨css, hK, fun W_ hq => ⟨hlf, .inr ⟨q, cap, cur, rfl, Nat.le_trans h.bel.size hge, hq, h4, hmx, hsz, htk⟩⟩⟩
/-- Kids appended to a row of the call's own. -/
theorem append_on {w W : World} {L : List (Nat × Obj)} {q0 cap0 b n : Nat} {o0 : Obj} {t1 : TypeId} (hgd : o.guard = none) (s x : Operand) (ho : o.op = .call { callee := .builtin .append, args := #[s, x], argTypes := #[23, 23] }) (xs0 : List S41) (hs : a.eval s = .slice (some ⟨q0, 0, none⟩) xs0.length cap0) (hown : OwnAt w q0 cap0 o0 xs0) (hx : a.eval x = .slice (some ⟨b, 0, none⟩) n n)
    (xs : List S41) (css : List (List Value)) (hlen : n = xs.length) (h0 : 0 < n) (hn : n ≤ 1000) (hn0 : xs0.length ≤ 1000) (hB : W.heap[b]? = some (.cells css.flatten.toArray t1 (0, 0))) (h : Pd w W ((q0, o0) :: L)) (hK : Each (k41.K w) xs css) (h1 : ∀ u ∈ css.flatten, u.oneCell' = true)
    (k : ∀ q cap o1 w', Pd w w' ((q, o1) :: L) → xs0.length + xs.length ≤ cap → RowAt w q o1 (xs0 ++ xs) → K (a.put o.dst (.slice (some ⟨q, 0, none⟩) (xs0.length + xs.length) cap)) w') :
    if Region.wanted o (yielded ops a.tmps) = true then Oper.wp Try.prog o a W K Q else E := by
  subst hlen
  obtain ⟨css0, hK0, hown1⟩ := hown
  have hown0 := hown1 W h.hd
  obtain ⟨i, hi, hz, hs9, hby⟩ := info_parts info41
  have hl9 : css.flatten.length = xs.length * 9 := by rw [flat_len (n := 9) hK.lens, each_len hK]
  refine step_append_lies W hgd s x 23 ho w.heap.size 41 i _ 9 88 Try.underlying23 hi hz hs9 hby rfl (by omega) _ xs0.length css0.flatten hs hown0 ⟨b, 0, none⟩ xs.length xs.length css.flatten hx hl9 ?_ h1 h0 (by simp only [maxLen]; omega) (by omega) h.bel.size W.heap.size rfl ?_
  · intro j u hu
    have ha : (⟨b, 0, none⟩ : Addr).add j = ⟨b, j, none⟩ := by
      unfold Addr.add
      split
      · next h => rw [h]
      · simp
    rw [ha, blk_cell hB]
    simpa using hu
  · intro q cap w' hown hgrow hat hlt
    have hq0 : w.heap.size ≤ q0 := (h.loc _ List.mem_cons_self).2
    obtain ⟨hlf, h2⟩ := hown
    rcases h2 with ⟨h3, _⟩ | ⟨g, c, cur, h3, hge, hcur, h4, _, hsz, htk⟩
    · cases h3
    · injection h3 with h5 h6 h7
      injection h5 with h5
      injection h5 with h5
      subst h5 h7
      have hbel : Below w.heap.size w w' := h.bel.grown hgrow h.bel.size (fun k hk => by cases hk; exact hq0)
      have hP : Pd w w' ((q, .cells cur 41 (0, 0)) :: L) :=
        ⟨⟨hbel, fun p hp => by
            rcases List.mem_cons.1 hp with rfl | hp
            · exact ⟨hcur, hge⟩
            · have hpl := h.tl.loc p hp
              have hne : p.1 ≠ q0 := (List.pairwise_cons.1 h.dis).1 p hp
              exact ⟨(hgrow.block p.1 (blk_lt hpl.1) (fun he => hne (by cases he; rfl))).trans hpl.1, hpl.2⟩⟩,
          List.Pairwise.cons (fun p hp => by
            have hpl := h.tl.loc p hp
            have hne : p.1 ≠ q0 := (List.pairwise_cons.1 h.dis).1 p hp
            have hlt2 := blk_lt hpl.1
            show p.1 ≠ q
            rcases hat with hat | hat
            · have : q0 = q := by cases hat; rfl
              rw [← this]
              exact hne
            · omega) h.tl.dis⟩
      refine k q cap _ w' hP h4 ⟨css0 ++ css, each_app hK0 hK, fun W_ hq j u hu => ?_⟩
      rw [List.flatten_append] at hu
      have hj : j < (xs0.length + xs.length) * 9 := by
        have := (List.getElem?_eq_some_iff.1 hu).1
        simp only [List.length_append] at this
        have h0 : css0.flatten.length = xs0.length * 9 := by rw [flat_len (n := 9) hK0.lens, each_len hK0]
        omega
      have ha : (⟨q, 0, none⟩ : Addr).add j = ⟨q, j, none⟩ := by
        unfold Addr.add
        split
        · next h => rw [h]
        · simp
      rw [ha, blk_cell hq, ← Array.getElem?_toList, ← hu, ← htk, List.getElem?_take, if_pos hj]
end
end Go.Proofs.Ytbhljokhcmfgjaa.P
