import Derived.Test.YtbhljokhcmfgjaaGreatRef1
import Derived.Test.YtbhljokhcmfgjaaGreatTOwn1
import Derived.StillTailTactics
import Derived.Deep.QuietTactic
import Derived.BigQuiet
/- The document's Set (layer 23): a short walk over a row of the call's own. Printed by a program of this work (mkset.py). -/
set_option linter.unusedVariables false
set_option linter.unusedSimpArgs false
namespace Go.Proofs.YtbhljokhcmfgjaaGreat.P
open Go.RowKit Go.Proofs.YtbhljokhcmfgjaaGreatW.PrintWords Go.Proofs.YtbhljokhcmfgjaaGreatW.PrintLast Go.Proofs.YtbhljokhcmfgjaaGreatW.PrintMore

theorem setGo_e1 : ∀ (l : List S67) (h d e : Int), setGo l h d = .error e → e = 1
  | [], _, _, _, h => by simp [setGo] at h
  | x :: l, h, d, e, he => by
    rw [setGo] at he
    split at he
    · exact setGo_e1 l _ _ e he
    · injection he with he; exact he.symm
theorem setGo_bad : ∀ (l : List S67) (h d : Int), l.all kidOk = false → setGo l h d = .error 1
  | [], _, _, h => by simp at h
  | x :: l, a, d, h => by
    rw [setGo]
    split
    · next hx => exact setGo_bad l _ _ (by simpa [hx] using h)
    · rfl
theorem setGo_drop (l : List S67) (k : Nat) (hk : k < l.length) (hx : kidOk (rd_T67 l k) = true) (h d : Int) : setGo (l.drop k) h d = setGo (l.drop (k + 1)) (mx h (wrap64 ((rd_T67 l k).f1 + (rd_T67 l k).f2.f2))) (mx d (wrap64 ((rd_T67 l k).f2.f3 - (rd_T67 l k).f1))) := by
  rw [List.drop_eq_getElem_cons hk]
  rw [rd_kid l k hk] at hx ⊢
  rw [setGo, if_pos hx]
theorem take_kid (l : List S67) (k : Nat) (hk : k < l.length) : l.take (k + 1) = l.take k ++ [rd_T67 l k] := by
  rw [rd_kid l k hk, List.take_succ_eq_append_getElem hk]
theorem all_kid (l : List S67) (k : Nat) (hk : k < l.length) (h : (l.take k).all kidOk = true) (hx : kidOk (rd_T67 l k) = true) : (l.take (k + 1)).all kidOk = true := by
  rw [take_kid l k hk, List.all_append, h]
  simpa using hx
theorem not_kid (l : List S67) (k : Nat) (hk : k < l.length) (hx : kidOk (rd_T67 l k) = false) : l.all kidOk = false := by
  rw [rd_kid l k hk] at hx
  rw [Bool.eq_false_iff]
  intro h
  rw [List.all_eq_true.1 h _ (List.getElem_mem hk)] at hx
  cases hx
theorem setR_badw {wd : Int} {l : List S67} (h : isLen wd = false) : setR wd l = (0, 0, 0, 0, 0, 0, [], 1) := by
  unfold setR
  cases hg : setGo l 0 0 with
  | error e => rw [setGo_e1 l 0 0 e hg]; rfl
  | ok p => rw [setEnd, if_neg (by rw [h]; decide)]
theorem setR_badk {wd : Int} {l : List S67} (h : l.all kidOk = false) : setR wd l = (0, 0, 0, 0, 0, 0, [], 1) := by
  unfold setR
  rw [setGo_bad l 0 0 h]
  rfl
/-- Where a row of kids is read: in every world that has the blocks L. -/
structure Src (w : World) (L : List (Nat × Obj)) (A : Option Addr) (xs : List S67) (css : List (List Value)) : Prop where
  each : Each (k67.K w) xs css
  at_ : xs ≠ [] → ∃ ad, A = some ad ∧ ∀ W', Pd w W' L → ∀ j u, css.flatten[j]? = some u → W'.cell? (ad.add j) = some u
theorem Src.block {w : World} {L : List (Nat × Obj)} {b : Nat} {xs : List S67} {css : List (List Value)} {t1 : TypeId} (hK : Each (k67.K w) xs css) : Src w ((b, .cells css.flatten.toArray t1 (0, 0)) :: L) (some ⟨b, 0, none⟩) xs css :=
  ⟨hK, fun _ => ⟨_, rfl, fun W' h j u hu => by
    have ha : (⟨b, 0, none⟩ : Addr).add j = ⟨b, j, none⟩ := by
      unfold Addr.add
      split
      · next h => rw [h]
      · simp
    rw [ha, blk_cell h.hd]
    simpa using hu⟩⟩
theorem each_of {α : Type} {R : α → List Value → Prop} : ∀ (xs : List α) (p : Nat → List Value → Prop), (∀ j x, xs[j]? = some x → ∃ c, R x c ∧ p j c) → ∃ css, Each R xs css ∧ ∀ j c, css[j]? = some c → p j c
  | [], p, _ => ⟨[], trivial, fun j c h => by simp at h⟩
  | x :: xs, p, h => by
    obtain ⟨c, hc, hp⟩ := h 0 x rfl
    obtain ⟨css, hE, hq⟩ := each_of xs (fun j => p (j + 1)) (fun j y hy => h (j + 1) y (by simpa using hy))
    refine ⟨c :: css, ⟨hc, hE⟩, fun j c' h' => ?_⟩
    cases j with
    | zero => rw [List.getElem?_cons_zero, Option.some.injEq] at h'; subst h'; exact hp
    | succ j => exact hq j c' (by simpa using h')
theorem flat_idx (n : Nat) (hn : 0 < n) : ∀ (css : List (List Value)), (∀ c ∈ css, c.length = n) → ∀ (j : Nat) (u : Value), css.flatten[j]? = some u → ∃ c, css[j / n]? = some c ∧ c[j % n]? = some u
  | [], _, j, u, h => by simp at h
  | c :: css, hl, j, u, h => by
    have hc : c.length = n := hl c (by simp)
    rw [List.flatten_cons] at h
    rcases Nat.lt_or_ge j n with hj | hj
    · rw [List.getElem?_append_left (by omega)] at h
      exact ⟨c, by rw [Nat.div_eq_of_lt hj]; rfl, by rw [Nat.mod_eq_of_lt hj]; exact h⟩
    · rw [List.getElem?_append_right (by omega), hc] at h
      obtain ⟨c', h1, h2⟩ := flat_idx n hn css (fun c h => hl c (by simp [h])) (j - n) u h
      have e1 : j / n = (j - n) / n + 1 := by rw [Nat.div_eq_sub_div hn hj]
      have e2 : j % n = (j - n) % n := Nat.mod_eq_sub_mod hj
      exact ⟨c', by rw [e1, List.getElem?_cons_succ]; exact h1, by rw [e2]; exact h2⟩
theorem Src.arg {w : World} {L : List (Nat × Obj)} {A : Option Addr} {xs : List S67} (h : Kd.C k67 w A xs.length xs) : ∃ css, Src w L A xs css := by
  by_cases hx : xs = []
  · subst hx
    exact ⟨[], trivial, fun h => absurd rfl h⟩
  · have hp : 0 < xs.length := by
      cases xs with
      | nil => exact absurd rfl hx
      | cons => simp
    obtain ⟨ad, hA, hc⟩ := h.2.2 hp
    obtain ⟨css, hE, hq⟩ := each_of (R := k67.K w) xs (fun j c => ∀ i u, c[i]? = some u → w.cell? (ad.add (j * 9 + i)) = some u) (fun j x hj => by
      obtain ⟨c, _, hK, hcell⟩ := hc j x hj
      exact ⟨c, hK, hcell⟩)
    refine ⟨css, hE, fun _ => ⟨ad, hA, fun W' hP j u hu => ?_⟩⟩
    obtain ⟨c, h1, h2⟩ := flat_idx 9 (by decide) css hE.lens j u hu
    have h3 := hq _ c h1 _ u h2
    rw [show j / 9 * 9 + j % 9 = j by omega] at h3
    rw [hP.bel.cell (World.block_lt_of_cell? w _ h3)]
    exact h3
theorem Src.mono {w : World} {L L1 : List (Nat × Obj)} {A : Option Addr} {xs : List S67} {css : List (List Value)} (h : Src w L A xs css) (hL : ∀ W, Pd w W L1 → Pd w W L) : Src w L1 A xs css :=
  ⟨h.each, fun hx => by obtain ⟨ad, h1, h2⟩ := h.at_ hx; exact ⟨ad, h1, fun W' hP => h2 W' (hL W' hP)⟩⟩
theorem Src.get {w : World} {L : List (Nat × Obj)} {A : Option Addr} {xs : List S67} {css : List (List Value)} (h : Src w L A xs css) (k : Nat) (hk : k < xs.length) {x : S67} (hx : rd_T67 xs k = x) :
    ∃ ad A8 c8, A = some ad ∧ k67.K w x [.int .i64 x.f0, .int .i64 x.f1, .int .i64 x.f2.f0, .int .i64 x.f2.f1, .int .i64 x.f2.f2, .int .i64 x.f2.f3, .int .i64 x.f2.f4, .int .i64 x.f2.f5, .slice A8 x.f2.f6.length c8] ∧ ∀ W', Pd w W' L → W'.cell? (ad.add (k * 9)) = some (.int .i64 x.f0) ∧ W'.cell? ⟨(ad.add (k * 9)).block, (ad.add (k * 9)).off + 1, none⟩ = some (.int .i64 x.f1) ∧ W'.cell? ⟨(ad.add (k * 9)).block, (ad.add (k * 9)).off + 2, none⟩ = some (.int .i64 x.f2.f0) ∧ W'.cell? ⟨(ad.add (k * 9)).block, (ad.add (k * 9)).off + 3, none⟩ = some (.int .i64 x.f2.f1) ∧ W'.cell? ⟨(ad.add (k * 9)).block, (ad.add (k * 9)).off + 4, none⟩ = some (.int .i64 x.f2.f2) ∧ W'.cell? ⟨(ad.add (k * 9)).block, (ad.add (k * 9)).off + 5, none⟩ = some (.int .i64 x.f2.f3) ∧ W'.cell? ⟨(ad.add (k * 9)).block, (ad.add (k * 9)).off + 6, none⟩ = some (.int .i64 x.f2.f4) ∧ W'.cell? ⟨(ad.add (k * 9)).block, (ad.add (k * 9)).off + 7, none⟩ = some (.int .i64 x.f2.f5) ∧ W'.cell? ⟨(ad.add (k * 9)).block, (ad.add (k * 9)).off + 8, none⟩ = some (.slice A8 x.f2.f6.length c8) := by
  obtain ⟨ad, hA, hc⟩ := h.at_ (fun e => by rw [e] at hk; simp at hk)
  rw [rd_kid xs k hk] at hx
  obtain ⟨c, hc1, hc2⟩ := h.each.get k x (by rw [← hx]; exact List.getElem?_eq_getElem hk)
  obtain ⟨A8, c8, rfl, l8, g8⟩ := k67_open hc2
  refine ⟨ad, A8, c8, hA, hc2, fun W' hP => ?_⟩
  have hcell : ∀ i u, (_ : List Value)[i]? = some u → W'.cell? (ad.add (k * 9 + i)) = some u := fun i u hu => hc W' hP _ u (flat_get 9 css h.each.lens k i _ u hc1 hu)
  exact ⟨hcell 0 _ rfl, by rw [← add_field _ _ 1 (by omega)]; exact hcell 1 _ rfl, by rw [← add_field _ _ 2 (by omega)]; exact hcell 2 _ rfl, by rw [← add_field _ _ 3 (by omega)]; exact hcell 3 _ rfl, by rw [← add_field _ _ 4 (by omega)]; exact hcell 4 _ rfl, by rw [← add_field _ _ 5 (by omega)]; exact hcell 5 _ rfl, by rw [← add_field _ _ 6 (by omega)]; exact hcell 6 _ rfl, by rw [← add_field _ _ 7 (by omega)]; exact hcell 7 _ rfl, by rw [← add_field _ _ 8 (by omega)]; exact hcell 8 _ rfl⟩

section
variable {w W : World} {L : List (Nat × Obj)} {v : Value} {xs : List S67} {g : Nat} {t : TypeId} {u0 u1 u2 u3 u4 u5 u6 : Value}
theorem Row.s2 (h : Row k67 67 w W ((g, .cells #[u0, u1, u2, u3, u4, u5, u6] t (0, 0)) :: L) v xs) (x : Value) : Row k67 67 w (W.setCell ⟨g, 2, none⟩ x) ((g, .cells #[u0, u1, x, u3, u4, u5, u6] t (0, 0)) :: L) v xs :=
  h.put (blk_put h.pd.hd 2 x (by simp)) (fun k hk => Below.heap_setCell _ ⟨g, 2, none⟩ x k hk) (Below.setCell h.pd.bel (p := ⟨g, 2, none⟩) (h.pd.loc _ List.mem_cons_self).2 x)
theorem Row.s3 (h : Row k67 67 w W ((g, .cells #[u0, u1, u2, u3, u4, u5, u6] t (0, 0)) :: L) v xs) (x : Value) : Row k67 67 w (W.setCell ⟨g, 3, none⟩ x) ((g, .cells #[u0, u1, u2, x, u4, u5, u6] t (0, 0)) :: L) v xs :=
  h.put (blk_put h.pd.hd 3 x (by simp)) (fun k hk => Below.heap_setCell _ ⟨g, 3, none⟩ x k hk) (Below.setCell h.pd.bel (p := ⟨g, 3, none⟩) (h.pd.loc _ List.mem_cons_self).2 x)
theorem Row.s6 (h : Row k67 67 w W ((g, .cells #[u0, u1, u2, u3, u4, u5, u6] t (0, 0)) :: L) v xs) (x : Value) : Row k67 67 w (W.setCell ⟨g, 6, none⟩ x) ((g, .cells #[u0, u1, u2, u3, u4, u5, x] t (0, 0)) :: L) v xs :=
  h.put (blk_put h.pd.hd 6 x (by simp)) (fun k hk => Below.heap_setCell _ ⟨g, 6, none⟩ x k hk) (Below.setCell h.pd.bel (p := ⟨g, 6, none⟩) (h.pd.loc _ List.mem_cons_self).2 x)
end
theorem mx_max (a b : Int) : mx a b = max a b := by unfold mx; omega
theorem qt {P : Program} {f : FuncId} {args : Array Value} {r : Ending} (h : ∀ w, Calls P f args w fun e w' => e = r ∧ w = w') (w : World) : Calls P f args w fun e w' => e = r ∧ w' = w := (h w).mono fun _ _ h => ⟨h.1, h.2.symm⟩
theorem Row.foldC {P : Program} {C : Code} {a : Act} {Q : Exit → Act → World → Prop} {α : Type} {d : Kd α} {e : TypeId} {w W : World} {L : List (Nat × Obj)} {v : Value} {xs : List α} (h : Row d e w W L v xs) (k : ∀ W', Row d e w W' L v xs → C.wp P Q a W') : C.wp P Q a W := k W h
theorem F_after {w W W1 : World} {L : List (Nat × Obj)} {A : Option Addr} {n : Nat} {l : List S67} {b : Nat} {o : Obj} (h : Kd.F k67 W (fun k => ∀ p ∈ (b, o) :: L, k ≠ p.1) A n l) (hh : ∀ k, k ≠ b → W1.heap[k]? = W.heap[k]?) (hb : Pd w W ((b, o) :: L)) (hL : ∀ k, (∀ p ∈ L, k ≠ p.1) → k < W1.heap.size → k ≠ b → k < W.heap.size) : True := trivial
theorem nilF {W : World} {ok : Nat → Prop} : Kd.F k67 W ok none ([] : List S67).length [] := fun W' _ => ⟨rfl, by simp, fun h => absurd h (Nat.lt_irrefl 0)⟩
theorem isLen3 {x : S67} (h : kidOk x = true) : isLen x.f0 = true ∧ isLen x.f1 = true ∧ isLen x.f2.f1 = true ∧ isLen x.f2.f2 = true ∧ isLen x.f2.f3 = true := by simpa [kidOk] using h
theorem kidOk5 (x : S67) : kidOk x = (isLen x.f0 && (isLen x.f1 && (isLen x.f2.f1 && (isLen x.f2.f2 && isLen x.f2.f3)))) := by simp [kidOk]

theorem three23 (a b c : Int) (w : World) : Calls Tryz.prog 76 #[.int .i64 a, .int .i64 b, .int .i64 c] w fun e w' => e = .returned (.bool (isLen a && (isLen b && isLen c))) ∧ w = w' := by
  by_cases h1 : isLen a = true
  case neg =>
    have HL := Aside0.mk (show isLen a = false by simpa using h1)
    have HV := Aside0.mk (show (isLen a && (isLen b && isLen c)) = false by rw [HL.out]; simp)
    clear h1
    go_enter Tryz.func76, Tryz.ntmps76
    go_wp2_with fail
    refine (len01_f HL.out _).mono ?_
    rintro _ w1 ⟨rfl, rfl⟩
    go_wp2
    go_ret
    exact ⟨tmb (by rw [HV.out]), rfl⟩
  have HL1 := Aside0.mk h1
  by_cases h2 : isLen b = true
  case neg =>
    have HL := Aside0.mk (show isLen b = false by simpa using h2)
    have HV := Aside0.mk (show (isLen a && (isLen b && isLen c)) = false by rw [HL.out]; simp)
    clear h1 h2
    go_enter Tryz.func76, Tryz.ntmps76
    go_wp2_with fail
    refine (len01_t HL1.out _).mono ?_
    rintro _ w1 ⟨rfl, rfl⟩
    go_wp2_with fail
    refine (len01_f HL.out _).mono ?_
    rintro _ w1 ⟨rfl, rfl⟩
    go_wp2
    go_ret
    exact ⟨tmb (by rw [HV.out]), rfl⟩
  have HL2 := Aside0.mk h2
  by_cases h3 : isLen c = true
  case neg =>
    have HL := Aside0.mk (show isLen c = false by simpa using h3)
    have HV := Aside0.mk (show (isLen a && (isLen b && isLen c)) = false by rw [HL.out]; simp)
    clear h1 h2 h3
    go_enter Tryz.func76, Tryz.ntmps76
    go_wp2_with fail
    refine (len01_t HL1.out _).mono ?_
    rintro _ w1 ⟨rfl, rfl⟩
    go_wp2_with fail
    refine (len01_t HL2.out _).mono ?_
    rintro _ w1 ⟨rfl, rfl⟩
    go_wp2_with fail
    refine (len01_f HL.out _).mono ?_
    rintro _ w1 ⟨rfl, rfl⟩
    go_wp2
    go_ret
    exact ⟨tmb (by rw [HV.out]), rfl⟩
  have HL3 := Aside0.mk h3
  have HV := Aside0.mk (show (isLen a && (isLen b && isLen c)) = true by rw [h1, h2, h3]; rfl)
  clear h1 h2 h3
  go_enter Tryz.func76, Tryz.ntmps76
  go_wp2_with fail
  refine (len01_t HL1.out _).mono ?_
  rintro _ w1 ⟨rfl, rfl⟩
  go_wp2_with fail
  refine (len01_t HL2.out _).mono ?_
  rintro _ w1 ⟨rfl, rfl⟩
  go_wp2_with fail
  refine (len01_t HL3.out _).mono ?_
  rintro _ w1 ⟨rfl, rfl⟩
  go_wp2
  go_ret
  exact ⟨tmb (by rw [HV.out]), rfl⟩
set_option maxRecDepth 100000 in
set_option maxHeartbeats 8000000 in
theorem set23 {w W : World} {L : List (Nat × Obj)} {A : Option Addr} {n : Nat} (wd : Int) (xs : List S67) {css : List (List Value)} (hx : xs.length < 1599289640401) (h : Pd w W L) (hS : Src w L A xs css) : Calls Tryz.prog 53 #[.int .i64 wd, .slice A xs.length n] W fun r w' => ∃ A1 n1, r = .returned (.tuple #[.agg #[.int .i64 (setR wd xs).1, .int .i64 (setR wd xs).2.1, .int .i64 (setR wd xs).2.2.1, .int .i64 (setR wd xs).2.2.2.1, .int .i64 (setR wd xs).2.2.2.2.1, .int .i64 (setR wd xs).2.2.2.2.2.1, .slice A1 (setR wd xs).2.2.2.2.2.2.1.length n1], .int .i64 (setR wd xs).2.2.2.2.2.2.2]) ∧ (setR wd xs).2.2.2.2.2.2.1.length ≤ n1 ∧ Kd.F k67 w' (fun k => ∀ p ∈ L, k ≠ p.1) A1 (setR wd xs).2.2.2.2.2.2.1.length (setR wd xs).2.2.2.2.2.2.1 ∧ Pd w w' L := by
  have hu39 := Tryz.underlying39
  have hu49 := Tryz.underlying67
  obtain ⟨V, hV⟩ : ∃ V, V = setR wd xs := ⟨_, rfl⟩
  rw [← hV]
  have HV := Aside0.mk hV
  have HP := Aside0.mk h
  have HS := Aside0.mk hS
  have hmax : xs.length ≤ 9223372036854775807 := by omega
  have HX := Aside0.mk hx
  clear hV h hS hx
  by_cases hw : isLen wd = true
  case neg =>
    have HL := Aside0.mk (show isLen wd = false by simpa using hw)
    have HB := Aside0.mk (setR_badw (l := xs) HL.out)
    clear hw
    go_enter Tryz.func53, Tryz.ntmps53
    go_wp2_with (first | ((with_reducible refine gate_dst (N := 4) rfl ?_); refine box_event ?hg (N := 4) ?hd (cs := #[.int .i64 0, .int .i64 0, .int .i64 0, .int .i64 0, .int .i64 0, .int .i64 0, .slice none 0 0]) (t := 39) ?hr ?_; (case hd => rfl); (case hg => rfl); (case hr => first | (go_simp; done) | (go_simp; rfl)); intro gr hg wk hbox hb; replace HP := Aside0.mk (Pd.box (by with_reducible repeat (first | exact HP.out | apply Pd.drew)) hg hbox hb); clear hg hbox hb; have hcz := cells7 (Pd.hd HP.out); have hfz := froz7 (Pd.hd HP.out)))
    refine (len01_f HL.out _).mono ?_
    rintro _ w1 ⟨rfl, rfl⟩
    go_wp2
    refine bodyPost_ret (results_ct rfl _ _ gr 39 #[.int .i64 0, .int .i64 0, .int .i64 0, .int .i64 0, .int .i64 0, .int .i64 0, .slice none 0 0] (0, 0) _ rfl (put7 (Pd.hd HP.out)) hu39 rfl (by kernel_rfl)) rfl ?_
    obtain rfl : V = (0, 0, 0, 0, 0, 0, [], 1) := by rw [HV.out]; exact HB.out
    exact ⟨none, 0, rfl, Nat.le_refl _, nilF, (Pd.st7 HP.out).tl⟩
  have HL := Aside0.mk hw
  clear hw
  go_enter Tryz.func53, Tryz.ntmps53
  go_wp2_with (first | ((with_reducible refine gate_dst (N := 4) rfl ?_); refine box_event ?hg (N := 4) ?hd (cs := #[.int .i64 0, .int .i64 0, .int .i64 0, .int .i64 0, .int .i64 0, .int .i64 0, .slice none 0 0]) (t := 39) ?hr ?_; (case hd => rfl); (case hg => rfl); (case hr => first | (go_simp; done) | (go_simp; rfl)); intro gr hg wk hbox hb; replace HP := Aside0.mk (Pd.box (by with_reducible repeat (first | exact HP.out | apply Pd.drew)) hg hbox hb); clear hg hbox hb; have hcz := cells7 (Pd.hd HP.out); have hfz := froz7 (Pd.hd HP.out)))
  refine (len01_t HL.out _).mono ?_
  rintro _ w1 ⟨rfl, rfl⟩
  clear hcz hfz
  go_wp2_with fail
  go_loopw [6] (fun i wr => ∃ kk : Nat, kk ≤ xs.length ∧ i = .int .i64 kk ∧ Aside0 ((xs.take kk).all kidOk = true) ∧ Aside0 (Pd w wr ((gr, .cells #[.int .i64 0, .int .i64 0, .int .i64 0, .int .i64 0, .int .i64 0, .int .i64 0, .slice none 0 0] 39 (0, 0)) :: L))) (fun i _ => xs.length - (intOf i).toNat)
  case atStart => exact ⟨0, Nat.zero_le _, rfl, ⟨by simp⟩, HP⟩
  case round =>
    obtain ⟨k, hk, rfl, HK, HP⟩ := hrel
    by_cases hlt : k < xs.length
    case pos =>
      have hd1 : decide ((k : Int) < (xs.length : Int)) = true := by simp; omega
      have hi0 : (0 : Int) ≤ (k : Int) := Int.natCast_nonneg _
      have hi1 : (k : Int) < (xs.length : Int) := by omega
      obtain ⟨x, hx⟩ : ∃ x, rd_T67 xs k = x := ⟨_, rfl⟩
      obtain ⟨ad, A8, c8, hA, _, hcell⟩ := HS.out.get k hlt hx
      subst hA
      have HC := Aside0.mk hcell
      have HXX := Aside0.mk hx
      clear hcell hx
      by_cases h0 : isLen x.f0 = true
      case neg =>
        have HN := Aside0.mk (Bool.eq_false_iff.mpr h0)
        clear h0
        have HB : Aside0 (setR wd xs = (0, 0, 0, 0, 0, 0, [], 1)) := ⟨setR_badk (not_kid xs k hlt (by rw [HXX.out, kidOk5, HN.out]; simp))⟩
        have hck := HC.out _ HP.out.tl
        go_wp2
        go_quiet ((first | (go_at_call 49; with_reducible exact Calls.quiet_of_same (qt (fun w => len01_f HN.out w) _))))
        all_goals (have hcz := cells7 (Pd.hd HP.out))
        all_goals (have hfz := froz7 (Pd.hd HP.out))
        all_goals go_wp2
        all_goals (obtain rfl : V = (0, 0, 0, 0, 0, 0, [], 1) := by rw [HV.out]; exact HB.out)
        all_goals refine bodyPost_ret (results_ct rfl _ _ gr 39 #[.int .i64 0, .int .i64 0, .int .i64 0, .int .i64 0, .int .i64 0, .int .i64 0, .slice none 0 0] (0, 0) _ rfl (put7 (Pd.hd (HP.out.drewM _))) hu39 rfl (by kernel_rfl)) rfl ?_
        all_goals exact ⟨none, 0, rfl, Nat.le_refl _, nilF, (Pd.st7 (HP.out.drewM _)).tl⟩
      have H0 := Aside0.mk h0
      clear h0
      by_cases h1 : isLen x.f1 = true
      case neg =>
        have HN := Aside0.mk (Bool.eq_false_iff.mpr h1)
        clear h1
        have HB : Aside0 (setR wd xs = (0, 0, 0, 0, 0, 0, [], 1)) := ⟨setR_badk (not_kid xs k hlt (by rw [HXX.out, kidOk5, HN.out]; simp))⟩
        have hck := HC.out _ HP.out.tl
        go_wp2
        go_quiet ((first | (go_at_call 49; with_reducible exact Calls.quiet_of_same (qt (fun w => len01_t H0.out w) _)) | (go_at_call 49; with_reducible exact Calls.quiet_of_same (qt (fun w => len01_f HN.out w) _))))
        all_goals (have hcz := cells7 (Pd.hd HP.out))
        all_goals (have hfz := froz7 (Pd.hd HP.out))
        all_goals go_wp2
        all_goals (obtain rfl : V = (0, 0, 0, 0, 0, 0, [], 1) := by rw [HV.out]; exact HB.out)
        all_goals refine bodyPost_ret (results_ct rfl _ _ gr 39 #[.int .i64 0, .int .i64 0, .int .i64 0, .int .i64 0, .int .i64 0, .int .i64 0, .slice none 0 0] (0, 0) _ rfl (put7 (Pd.hd (HP.out.drewM _))) hu39 rfl (by kernel_rfl)) rfl ?_
        all_goals exact ⟨none, 0, rfl, Nat.le_refl _, nilF, (Pd.st7 (HP.out.drewM _)).tl⟩
      have H1 := Aside0.mk h1
      clear h1
      by_cases h2 : (isLen x.f2.f1 && (isLen x.f2.f2 && isLen x.f2.f3)) = true
      case neg =>
        have HN := Aside0.mk (Bool.eq_false_iff.mpr h2)
        have HT := Aside0.mk (fun w => three23 x.f2.f1 x.f2.f2 x.f2.f3 w)
        rw [HN.out] at HT
        clear h2
        have HB : Aside0 (setR wd xs = (0, 0, 0, 0, 0, 0, [], 1)) := ⟨setR_badk (not_kid xs k hlt (by rw [HXX.out, kidOk5, HN.out]; simp))⟩
        have hck := HC.out _ HP.out.tl
        go_wp2
        go_quiet ((first | (go_at_call 49; with_reducible exact Calls.quiet_of_same (qt (fun w => len01_t H0.out w) _)) | (go_at_call 49; with_reducible exact Calls.quiet_of_same (qt (fun w => len01_t H1.out w) _)) | (go_at_call 76; with_reducible exact Calls.quiet_of_same (qt HT.out _))))
        all_goals (have hcz := cells7 (Pd.hd HP.out))
        all_goals (have hfz := froz7 (Pd.hd HP.out))
        all_goals go_wp2
        all_goals (obtain rfl : V = (0, 0, 0, 0, 0, 0, [], 1) := by rw [HV.out]; exact HB.out)
        all_goals refine bodyPost_ret (results_ct rfl _ _ gr 39 #[.int .i64 0, .int .i64 0, .int .i64 0, .int .i64 0, .int .i64 0, .int .i64 0, .slice none 0 0] (0, 0) _ rfl (put7 (Pd.hd (HP.out.drewM _))) hu39 rfl (by kernel_rfl)) rfl ?_
        all_goals exact ⟨none, 0, rfl, Nat.le_refl _, nilF, (Pd.st7 (HP.out.drewM _)).tl⟩
      have H2 := Aside0.mk h2
      have HT := Aside0.mk (fun w => three23 x.f2.f1 x.f2.f2 x.f2.f3 w)
      rw [h2] at HT
      have HN : Aside0 ((xs.take (k + 1)).all kidOk = true) := ⟨all_kid xs k hlt HK.out (by rw [HXX.out, kidOk5, H0.out, H1.out, h2]; rfl)⟩
      clear h2
      have hck := HC.out _ HP.out.tl
      go_wp2
      go_quiet ((first | (go_at_call 49; with_reducible exact Calls.quiet_of_same (qt (fun w => len01_t H0.out w) _)) | (go_at_call 49; with_reducible exact Calls.quiet_of_same (qt (fun w => len01_t H1.out w) _)) | (go_at_call 76; with_reducible exact Calls.quiet_of_same (qt HT.out _))))
      all_goals go_wp2
      all_goals go_roundw
      all_goals try (case rel => exact ⟨k + 1, by omega, by go_num, HN, ⟨(HP.out.drewM _)⟩⟩)
      all_goals try (case measure => simp [intOf] <;> omega)
    obtain rfl : k = xs.length := by omega
    have hd1 : decide ((xs.length : Int) < (xs.length : Int)) = false := by simp
    have HAll : Aside0 (xs.all kidOk = true) := ⟨by have := HK.out; rwa [List.take_length] at this⟩
    clear HK hlt
    go_wp2_with (first | ((with_reducible refine gate_dst (N := 7) rfl ?_); refine box_event ?hg (N := 7) ?hd (cs := #[.int .i64 0, .int .i64 0, .int .i64 0, .int .i64 0, .int .i64 0, .int .i64 0, .slice none 0 0]) (t := 39) ?hr ?_; (case hd => rfl); (case hg => rfl); (case hr => first | (go_simp; done) | (go_simp; rfl)); intro gb hg wk hbox hb; replace HP := Aside0.mk (Pd.box (by with_reducible repeat (first | exact HP.out | apply Pd.drew)) hg hbox hb); clear hg hbox hb; have hcz := cells7 (Pd.hd HP.out); have hfz := froz7 (Pd.hd HP.out)))
    clear hcz hfz
    go_loopw [8] (fun i wr => ∃ (kk : Nat) (h d : Int) (v : Value), kk ≤ xs.length ∧ i = .int .i64 kk ∧ Aside0 (setGo (xs.drop kk) h d = setGo xs 0 0) ∧ Aside0 (Row k67 67 w wr ((gb, .cells #[.int .i64 3, .int .i64 wd, .int .i64 h, .int .i64 d, .int .i64 0, .int .i64 0, v] 39 (0, 0)) :: ((gr, .cells #[.int .i64 0, .int .i64 0, .int .i64 0, .int .i64 0, .int .i64 0, .int .i64 0, .slice none 0 0] 39 (0, 0)) :: L)) v (xs.take kk))) (fun i _ => xs.length - (intOf i).toNat)
    case atStart => exact ⟨0, 0, 0, _, Nat.zero_le _, rfl, ⟨rfl⟩, ⟨Row.nil (Pd.st7 HP.out)⟩⟩
    case round =>
      obtain ⟨k, h, d, v, hk, rfl, HG, HR⟩ := hrel
      clear HP
      by_cases hlt : k < xs.length
      case pos =>
        have hd1 : decide ((k : Int) < (xs.length : Int)) = true := by simp; omega
        have hi0 : (0 : Int) ≤ (k : Int) := Int.natCast_nonneg _
        have hi1 : (k : Int) < (xs.length : Int) := by omega
        obtain ⟨x, hx⟩ : ∃ x, rd_T67 xs k = x := ⟨_, rfl⟩
        obtain ⟨ad, A8, c8, hA, hKx, hcell⟩ := HS.out.get k hlt hx
        subst hA
        have HKX := Aside0.mk hKx
        have HC := Aside0.mk hcell
        have HTK : Aside0 (xs.take (k + 1) = xs.take k ++ [x]) := ⟨by rw [take_kid xs k hlt, hx]⟩
        have HOK : kidOk (rd_T67 xs k) = true := by rw [rd_kid xs k hlt]; exact List.all_eq_true.1 HAll.out _ (List.getElem_mem hlt)
        have HG2 : Aside0 (setGo (xs.drop (k + 1)) (max h (wrap64 (x.f1 + x.f2.f2))) (max d (wrap64 (x.f2.f3 - x.f1))) = setGo xs 0 0) := ⟨by rw [← mx_max, ← mx_max, ← HG.out, setGo_drop xs k hlt HOK, hx]⟩
        clear hcell hx HOK hKx
        obtain ⟨h1, hh1⟩ : ∃ m, max h (wrap64 (x.f1 + x.f2.f2)) = m := ⟨_, rfl⟩
        obtain ⟨d1, hd1'⟩ : ∃ m, max d (wrap64 (x.f2.f3 - x.f1)) = m := ⟨_, rfl⟩
        rw [hh1, hd1'] at HG2
        have hh2 := hh1
        have hd2 := hd1'
        simp only [← i64_w] at hh2 hd2
        have hc7 := cells7 (Pd.hd HR.out.pd)
        have hf7 := froz7 (Pd.hd HR.out.pd)
        have hck := HC.out _ HR.out.pd.tl.tl
        go_wp2
        go_still_tail 16, (by kernel_rfl)
        go_wp2_with fail
        refine Row.foldC (HR.out.s2 (.int .i64 h1)).drew ?_
        intro W1 hR
        replace HR := Aside0.mk hR
        clear hR hc7 hf7 hck
        have hc7 := cells7 (Pd.hd HR.out.pd)
        have hf7 := froz7 (Pd.hd HR.out.pd)
        have hck := HC.out _ HR.out.pd.tl.tl
        go_still_tail 14, (by kernel_rfl)
        go_wp2_with fail
        refine Row.foldC (HR.out.s3 (.int .i64 d1)).drew ?_
        intro W2 hR
        replace HR := Aside0.mk hR
        clear hR hc7 hf7 hck
        have hc7 := cells7 (Pd.hd HR.out.pd)
        have hf7 := froz7 (Pd.hd HR.out.pd)
        have hck := HC.out _ HR.out.pd.tl.tl
        obtain ⟨i0, hi, hz, hs9, hby⟩ := info_parts info67
        have HLK := Aside0.mk (show (xs.take k).length = k by rw [List.length_take, Nat.min_eq_left hk])
        have HBD := Aside0.mk (show (xs.take k).length + 1 ≤ maxLen ∧ ((xs.take k).length + 1) * 88 ≤ 140737488355328 by have := HX.out; rw [List.length_take, Nat.min_eq_left hk]; unfold maxLen; omega)
        have hca : ∀ ob : Obj, (W2.alloc ob).cell? ⟨gb, 6, none⟩ = some v := fun ob => (cells7 (Pd.hd (HR.out.pd.alc ob))).2.2.2.2.2.2
        go_region_law ((refine Row.append (d := k67) (e := 67) (ts := 37) Tryz.underlying37 hi hz hs9 hby rfl (by decide) (by with_reducible repeat (first | exact HR.out | apply Row.alc | apply Row.drew)) (by rfl) _ _ (by rfl) (by rfl) (c := [.int .i64 x.f0, .int .i64 x.f1, .int .i64 x.f2.f0, .int .i64 x.f2.f1, .int .i64 x.f2.f2, .int .i64 x.f2.f3, .int .i64 x.f2.f4, .int .i64 x.f2.f5, .slice A8 x.f2.f6.length c8]) (by rfl) (by first | exact alloc_last _ _ | exact blk_drew (alloc_last _ _)) HKX.out (by simp [Value.oneCell']) HBD.out.1 HBD.out.2 ?_; intro q1 cap1 w1 hR; rw [HLK.out] at hR; replace HR := Aside0.mk hR; clear hR; have hc7 := cells7 (Pd.hd HR.out.pd); have hf7 := froz7 (Pd.hd HR.out.pd)))
        all_goals (have hc7 := cells7 (Pd.hd HR.out.pd); have hf7 := froz7 (Pd.hd HR.out.pd))
        all_goals go_wp2
        all_goals go_roundw
        all_goals try (case rel => exact ⟨k + 1, h1, d1, _, by omega, by go_num, HG2, ⟨by rw [HTK.out]; exact (HR.out.s6 _)⟩⟩)
        all_goals try (case measure => simp [intOf] <;> omega)
      obtain rfl : k = xs.length := by omega
      have hd1 : decide ((xs.length : Int) < (xs.length : Int)) = false := by simp
      have HE : Aside0 (setGo xs 0 0 = .ok (h, d)) := ⟨by rw [← HG.out, List.drop_of_length_le (Nat.le_refl _)]; rfl⟩
      have HR0 : Row k67 67 w wr ((gb, .cells #[.int .i64 3, .int .i64 wd, .int .i64 h, .int .i64 d, .int .i64 0, .int .i64 0, v] 39 (0, 0)) :: ((gr, .cells #[.int .i64 0, .int .i64 0, .int .i64 0, .int .i64 0, .int .i64 0, .int .i64 0, .slice none 0 0] 39 (0, 0)) :: L)) v xs := by have := HR.out; rwa [List.take_length] at this
      replace HR := Aside0.mk HR0
      clear HG hlt HR0
      have hc7 := cells7 (Pd.hd HR.out.pd)
      have hcz := cells7 (Pd.hd HR.out.pd.tl)
      have hfz := froz7 (Pd.hd HR.out.pd.tl)
      by_cases h2 : isLen h = true
      case neg =>
        have HN := Aside0.mk (Bool.eq_false_iff.mpr h2)
        clear h2
        go_wp2_with fail
        refine (len01_f HN.out _).mono ?_
        rintro _ w1 ⟨rfl, rfl⟩
        go_wp2
        refine bodyPost_ret (results_ct rfl _ _ gr 39 #[.int .i64 0, .int .i64 0, .int .i64 0, .int .i64 0, .int .i64 0, .int .i64 0, .slice none 0 0] (0, 0) _ rfl (put7 (Pd.hd HR.out.pd.tl)) hu39 rfl (by kernel_rfl)) rfl ?_
        obtain rfl : V = (0, 0, 0, 0, 0, 0, [], 2) := by rw [HV.out, setR, HE.out, setEnd, if_pos HL.out, if_neg (by rw [HN.out]; simp)]
        exact ⟨none, 0, rfl, Nat.le_refl _, nilF, (Pd.st7 HR.out.pd.tl).tl⟩
      have H2 := Aside0.mk h2
      clear h2
      by_cases h3 : isLen d = true
      case neg =>
        have HN := Aside0.mk (Bool.eq_false_iff.mpr h3)
        clear h3
        go_wp2_with fail
        refine (len01_t H2.out _).mono ?_
        rintro _ w1 ⟨rfl, rfl⟩
        go_wp2_with fail
        refine (len01_f HN.out _).mono ?_
        rintro _ w1 ⟨rfl, rfl⟩
        go_wp2
        refine bodyPost_ret (results_ct rfl _ _ gr 39 #[.int .i64 0, .int .i64 0, .int .i64 0, .int .i64 0, .int .i64 0, .int .i64 0, .slice none 0 0] (0, 0) _ rfl (put7 (Pd.hd HR.out.pd.tl)) hu39 rfl (by kernel_rfl)) rfl ?_
        obtain rfl : V = (0, 0, 0, 0, 0, 0, [], 2) := by rw [HV.out, setR, HE.out, setEnd, if_pos HL.out, if_neg (by rw [HN.out]; simp)]
        exact ⟨none, 0, rfl, Nat.le_refl _, nilF, (Pd.st7 HR.out.pd.tl).tl⟩
      have H3 := Aside0.mk h3
      clear h3
      obtain ⟨A1, n1, hv, hln, hFF⟩ := HR.out.reads k67_heap hmax
      subst hv
      have HFF := Aside0.mk hFF
      have HLN := Aside0.mk hln
      clear hFF hln
      go_wp2_with fail
      refine (len01_t H2.out _).mono ?_
      rintro _ w1 ⟨rfl, rfl⟩
      go_wp2_with fail
      refine (len01_t H3.out _).mono ?_
      rintro _ w1 ⟨rfl, rfl⟩
      go_wp2
      refine bodyPost_ret (results_ct rfl _ _ gr 39 #[.int .i64 3, .int .i64 wd, .int .i64 h, .int .i64 d, .int .i64 0, .int .i64 0, .slice A1 xs.length n1] (0, 0) _ rfl (put7 (Pd.hd HR.out.pd.tl)) hu39 rfl (by kernel_rfl)) rfl ?_
      obtain rfl : V = (3, wd, h, d, 0, 0, xs, 0) := by rw [HV.out, setR, HE.out, setEnd, if_pos HL.out, if_pos (by rw [H2.out, H3.out]; rfl)]
      exact ⟨A1, n1, rfl, HLN.out, Kd.F_mono (Kd.F_step (Kd.F_mono (ok' := fun k => (∀ p ∈ L, k ≠ p.1) ∧ k ≠ gb ∧ k ≠ gr) HFF.out (fun k hk => ⟨fun p hp => hk p (List.mem_cons_of_mem _ (List.mem_cons_of_mem _ hp)), hk _ List.mem_cons_self, hk _ (List.mem_cons_of_mem _ List.mem_cons_self)⟩)) (fun k hk _ => far7 _ hk.2.2)) (fun k hk => hk.1), (Pd.st7 HR.out.pd.tl).tl⟩
end Go.Proofs.YtbhljokhcmfgjaaGreat.P

