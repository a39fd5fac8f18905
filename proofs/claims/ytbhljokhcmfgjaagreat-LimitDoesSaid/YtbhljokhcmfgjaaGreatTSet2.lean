import Derived.Test.YtbhljokhcmfgjaaGreatTSet1
import Derived.Test.YtbhljokhcmfgjaaGreatUntil
/- box.Set: a short walk over a row of the call's own. Printed by a program of this work (mkset.py). -/
set_option linter.unusedVariables false
set_option linter.unusedSimpArgs false
namespace Go.Proofs.YtbhljokhcmfgjaaGreat.P
open Go.RowKit Go.Proofs.YtbhljokhcmfgjaaGreatW.PrintWords Go.Proofs.YtbhljokhcmfgjaaGreatW.PrintLast Go.Proofs.YtbhljokhcmfgjaaGreatW.PrintMore

theorem cells9r {W : World} {b : Nat} {v0 v1 v2 v3 v4 v5 v6 v7 v8 : Value} {t : TypeId} (h : W.heap[b]? = some (.cells #[v0, v1, v2, v3, v4, v5, v6, v7, v8] t (0, 0))) : W.cell? ⟨b, 0, none⟩ = some v0 ∧ W.cell? ⟨b, 1, none⟩ = some v1 ∧ W.cell? ⟨b, 2, none⟩ = some v2 ∧ W.cell? ⟨b, 3, none⟩ = some v3 ∧ W.cell? ⟨b, 4, none⟩ = some v4 ∧ W.cell? ⟨b, 5, none⟩ = some v5 ∧ W.cell? ⟨b, 6, none⟩ = some v6 ∧ W.cell? ⟨b, 7, none⟩ = some v7 ∧ W.cell? ⟨b, 8, none⟩ = some v8 :=
  ⟨blk_cell h 0, blk_cell h 1, blk_cell h 2, blk_cell h 3, blk_cell h 4, blk_cell h 5, blk_cell h 6, blk_cell h 7, blk_cell h 8⟩
section
variable {w W : World} {L : List (Nat × Obj)} {v : Value} {xs : List S67} {g : Nat} {t : TypeId} {u0 u1 u2 u3 u4 u5 u6 u7 u8 v0 v1 v2 v3 v4 v5 v6 v7 v8 : Value}
theorem Row.st9 (h : Row k67 67 w W ((g, .cells #[u0, u1, u2, u3, u4, u5, u6, u7, u8] t (0, 0)) :: L) v xs) : Row k67 67 w (((((((((W.setCell ⟨g, 0, none⟩ v0).setCell ⟨g, 1, none⟩ v1).setCell ⟨g, 2, none⟩ v2).setCell ⟨g, 3, none⟩ v3).setCell ⟨g, 4, none⟩ v4).setCell ⟨g, 5, none⟩ v5).setCell ⟨g, 6, none⟩ v6).setCell ⟨g, 7, none⟩ v7).setCell ⟨g, 8, none⟩ v8) ((g, .cells #[v0, v1, v2, v3, v4, v5, v6, v7, v8] t (0, 0)) :: L) v xs :=
  h.put (put9 h.pd.hd) (fun k hk => far9 _ hk) (bel9 h.pd.bel (h.pd.loc _ List.mem_cons_self).2)
theorem Row.foldQ {Q : Exit → Act → World → Prop} {e : Exit} {a : Act} (h : Row k67 67 w W L v xs) (k : ∀ W', Row k67 67 w W' L v xs → Q e a W') : Q e a W := k W h
theorem Row.foldL {P : Program} {ops : Array Oper} {rest : List Oper} {a : Act} {Q : Exit → Act → World → Prop} (h : Row k67 67 w W L v xs) (k : ∀ W', Row k67 67 w W' L v xs → wpList P ops Q rest a W') : wpList P ops Q rest a W := k W h
end
theorem setGo_badk (l : List S67) (k : Nat) (hk : k < l.length) (hx : kidOk (rd_T67 l k) = false) (h d : Int) (a b : Int) (hG : setGo (l.drop k) h d = setGo l a b) : setGo l a b = .error 1 := by
  rw [← hG, List.drop_eq_getElem_cons hk]
  rw [rd_kid l k hk] at hx
  rw [setGo, if_neg (by rw [hx]; decide)]
theorem setR_err {wd : Int} {l : List S67} (h : setGo l 0 0 = .error 1) : setR wd l = (0, 0, 0, 0, 0, 0, [], 1) := by
  unfold setR
  rw [h]
  rfl
theorem is_lit1 {a1 : Int} {e : TypeId} {W : World} {B : Nat} (hB : B = W.heap.size) {b : Bool} (hb : [a1].all isLen = b) : Calls Tryz.prog 45 #[.slice (some ⟨B, 0, none⟩) 1 1] (W.alloc (.cells #[.int .i64 a1] e)) fun r w' => r = .returned (.bool b) ∧ Below W.heap.size W w' := by
  subst hB
  exact (fixed_Is_any _ 1 [a1] _ (lit_C W e [a1] (by simp)) (Nat.le_refl _)).mono fun r w' h => ⟨by rw [h.1, hb], ((Below.refl _ _).alloc (Nat.le_refl _) _).trans (h.2.below.mono (by simp))⟩
theorem is_lit2 {a1 a2 : Int} {e : TypeId} {W : World} {B : Nat} (hB : B = W.heap.size) {b : Bool} (hb : [a1, a2].all isLen = b) : Calls Tryz.prog 45 #[.slice (some ⟨B, 0, none⟩) 2 2] (W.alloc (.cells #[.int .i64 a1, .int .i64 a2] e)) fun r w' => r = .returned (.bool b) ∧ Below W.heap.size W w' := by
  subst hB
  exact (fixed_Is_any _ 2 [a1, a2] _ (lit_C W e [a1, a2] (by simp)) (Nat.le_refl _)).mono fun r w' h => ⟨by rw [h.1, hb], ((Below.refl _ _).alloc (Nat.le_refl _) _).trans (h.2.below.mono (by simp))⟩
theorem is_lit5 {a1 a2 a3 a4 a5 : Int} {e : TypeId} {W : World} {B : Nat} (hB : B = W.heap.size) {b : Bool} (hb : [a1, a2, a3, a4, a5].all isLen = b) : Calls Tryz.prog 45 #[.slice (some ⟨B, 0, none⟩) 5 5] (W.alloc (.cells #[.int .i64 a1, .int .i64 a2, .int .i64 a3, .int .i64 a4, .int .i64 a5] e)) fun r w' => r = .returned (.bool b) ∧ Below W.heap.size W w' := by
  subst hB
  exact (fixed_Is_any _ 5 [a1, a2, a3, a4, a5] _ (lit_C W e [a1, a2, a3, a4, a5] (by simp)) (Nat.le_refl _)).mono fun r w' h => ⟨by rw [h.1, hb], ((Below.refl _ _).alloc (Nat.le_refl _) _).trans (h.2.below.mono (by simp))⟩

set_option maxRecDepth 100000 in
set_option maxHeartbeats 8000000 in
theorem bset {w W : World} {L : List (Nat × Obj)} {A : Option Addr} {n : Nat} (wd : Int) (xs : List S67) {css : List (List Value)} (hx : xs.length < 1599289640401) (h : Pd w W L) (hS : Src w L A xs css) : Calls Tryz.prog 24 #[.int .i64 wd, .slice A xs.length n] W fun r w' => ∃ A1 n1, r = .returned (.tuple #[.agg #[.int .i64 (setR wd xs).1, .int .i64 (setR wd xs).2.1, .int .i64 (setR wd xs).2.2.1, .int .i64 (setR wd xs).2.2.2.1, .int .i64 (setR wd xs).2.2.2.2.1, .int .i64 (setR wd xs).2.2.2.2.2.1, .slice A1 (setR wd xs).2.2.2.2.2.2.1.length n1], .int .i64 (setR wd xs).2.2.2.2.2.2.2]) ∧ (setR wd xs).2.2.2.2.2.2.1.length ≤ n1 ∧ Kd.F k67 w' (fun k => ∀ p ∈ L, k ≠ p.1) A1 (setR wd xs).2.2.2.2.2.2.1.length (setR wd xs).2.2.2.2.2.2.1 ∧ Pd w w' L := by
  have hu39 := Tryz.underlying39
  have hu49 := Tryz.underlying67
  obtain ⟨V, hV⟩ : ∃ V, V = setR wd xs := ⟨_, rfl⟩
  rw [← hV]
  have HV := Aside0.mk hV
  have HP := Aside0.mk h
  have HS := Aside0.mk hS
  have hmax : xs.length ≤ 9223372036854775807 := by omega
  have HX := Aside0.mk hx
  clear hV h hS hx
  go_enter Tryz.func24, Tryz.ntmps24
  go_wp2_with (first | ((with_reducible refine gate_dst (N := 4) rfl ?_); refine box_event ?hg (N := 4) ?hd (cs := #[.int .i64 0, .int .i64 0, .int .i64 0, .int .i64 0, .int .i64 0, .int .i64 0, .slice none 0 0]) (t := 39) ?hr ?_; (case hd => rfl); (case hg => rfl); (case hr => first | (go_simp; done) | (go_simp; rfl)); intro gr hg wk hbox hb; replace HP := Aside0.mk (Pd.box (by with_reducible repeat (first | exact HP.out | apply Pd.drew)) hg hbox hb); clear hg hbox hb) | ((with_reducible refine gate_dst (N := 6) rfl ?_); refine box_event ?hg (N := 6) ?hd (cs := #[.int .i64 0, .int .i64 0, .int .i64 0, .int .i64 0, .int .i64 0, .int .i64 0, .slice none 0 0]) (t := 39) ?hr ?_; (case hd => rfl); (case hg => rfl); (case hr => first | (go_simp; done) | (go_simp; rfl)); intro gb hg wk hbox hb; replace HP := Aside0.mk (Pd.box (by with_reducible repeat (first | exact HP.out | apply Pd.drew)) hg hbox hb); clear hg hbox hb; have hcz := cells7 (Pd.hd HP.out); have hfz := froz7 (Pd.hd HP.out)))
  clear hcz hfz
  go_loopw [13] (fun i wr => ∃ (kk : Nat) (h d : Int) (v : Value), kk ≤ xs.length ∧ i = .int .i64 kk ∧ Aside0 (setGo (xs.drop kk) h d = setGo xs 0 0) ∧ Aside0 (Row k67 67 w wr ((gb, .cells #[.int .i64 3, .int .i64 wd, .int .i64 h, .int .i64 d, .int .i64 0, .int .i64 0, v] 39 (0, 0)) :: ((gr, .cells #[.int .i64 0, .int .i64 0, .int .i64 0, .int .i64 0, .int .i64 0, .int .i64 0, .slice none 0 0] 39 (0, 0)) :: L)) v (xs.take kk))) (fun i _ => xs.length - (intOf i).toNat)
  case atStart => exact ⟨0, 0, 0, _, Nat.zero_le _, rfl, ⟨rfl⟩, ⟨Row.nil (Pd.st7 HP.out)⟩⟩
  case round =>
    obtain ⟨k, h, d, v, hk, rfl, HG, HR⟩ := hrel
    clear HP
    by_cases hlt : k < xs.length
    case pos =>
      have hd1 : decide ((k : Int) < (xs.length : Int)) = true := by simp; omega
      have hi0 : (0 : Int) ≤ (k : Int) := Int.natCast_nonneg _
      have hi1 : (k : Int) < (xs.length : Int) := by omega
      obtain ⟨x, hx⟩ : ∃ x, rd_T67 xs k = x := ⟨_, rfl⟩
      obtain ⟨ad, A8, c8, hA, hKx, hcell⟩ := HS.out.get k hlt hx
      subst hA
      have HKX := Aside0.mk hKx
      have hck := hcell _ HR.out.pd.tl.tl
      clear hcell hKx
      have HXX := Aside0.mk hx
      have HTK : Aside0 (xs.take (k + 1) = xs.take k ++ [x]) := ⟨by rw [take_kid xs k hlt, hx]⟩
      have HG0 := Aside0.mk (fun h' => setGo_drop xs k hlt h' h d)
      rw [hx] at HG0
      clear hx
      by_cases hok : kidOk x = true
      case neg =>
        have HO := Aside0.mk (show [x.f0, x.f1, x.f2.f1, x.f2.f2, x.f2.f3].all isLen = false from Bool.eq_false_iff.mpr hok)
        have HB : Aside0 (setR wd xs = (0, 0, 0, 0, 0, 0, [], 1)) := ⟨setR_err (setGo_badk xs k hlt (by rw [HXX.out]; exact Bool.eq_false_iff.mpr hok) h d 0 0 HG.out)⟩
        clear hok HG0
        go_wp2_with fail
        refine (is_lit5 (by simp) HO.out).mono ?_
        rintro _ w1 ⟨rfl, hb⟩
        replace HR := Aside0.mk ((HR.out.box (b := wr.heap.size) rfl (alloc_last _ _) ((Below.refl _ _).alloc (Nat.le_refl _) _)).below hb)
        clear hb hck
        generalize wr.heap.size = gk at HR ⊢
        have hcz := cells7 (Pd.hd HR.out.pd.tl.tl)
        have hfz := froz7 (Pd.hd HR.out.pd.tl.tl)
        go_wp2
        refine bodyPost_ret (results_ct rfl _ _ gr 39 #[.int .i64 0, .int .i64 0, .int .i64 0, .int .i64 0, .int .i64 0, .int .i64 0, .slice none 0 0] (0, 0) _ rfl (put7 (Pd.hd HR.out.pd.tl.tl)) hu39 rfl (by kernel_rfl)) rfl ?_
        obtain rfl : V = (0, 0, 0, 0, 0, 0, [], 1) := by rw [HV.out]; exact HB.out
        exact ⟨none, 0, rfl, Nat.le_refl _, nilF, (Pd.st7 HR.out.pd.tl.tl).tl⟩
      have HO := Aside0.mk (show [x.f0, x.f1, x.f2.f1, x.f2.f2, x.f2.f3].all isLen = true from hok)
      have HG2 : Aside0 (setGo (xs.drop (k + 1)) (max h (wrap64 (x.f1 + x.f2.f2))) (max d (wrap64 (x.f2.f3 - x.f1))) = setGo xs 0 0) := ⟨by rw [← mx_max, ← mx_max, ← HG.out, HG0.out hok]⟩
      clear hok HG0
      obtain ⟨h1, hh1⟩ : ∃ m, max h (wrap64 (x.f1 + x.f2.f2)) = m := ⟨_, rfl⟩
      obtain ⟨d1, hd1'⟩ : ∃ m, max d (wrap64 (x.f2.f3 - x.f1)) = m := ⟨_, rfl⟩
      rw [hh1, hd1'] at HG2
      have HH1 := Aside0.mk hh1
      have HD1 := Aside0.mk hd1'
      clear hh1 hd1'
      go_wp2_with fail
      refine (is_lit5 (by simp) HO.out).mono ?_
      rintro _ w1 ⟨rfl, hb⟩
      replace HR := Aside0.mk ((HR.out.box (b := wr.heap.size) rfl (alloc_last _ _) ((Below.refl _ _).alloc (Nat.le_refl _) _)).below hb)
      clear hb hck
      generalize wr.heap.size = gk at HR ⊢
      go_wp2_with fail
      have hk9 := cells9r (Pd.hd HR.out.pd)
      have hb7 := cells7 (Pd.hd HR.out.pd.tl)
      have hbf := froz7 (Pd.hd HR.out.pd.tl)
      have hh1 := HH1.out
      have hd1' := HD1.out
      have hh2 := hh1
      have hd2 := hd1'
      simp only [← i64_w] at hh2 hd2
      have hne : gk ≠ gb := fun he => Pd.ne1 HR.out.pd he.symm
      refine wp_region_till (st := 19) (A := fun w' => w'.cell? ⟨gk, 1, none⟩ = some (.int .i64 x.f1) ∧ w'.cell? ⟨gk, 4, none⟩ = some (.int .i64 x.f2.f2) ∧ w'.cell? ⟨gk, 5, none⟩ = some (.int .i64 x.f2.f3)) (C := fun w' => w'.cell? ⟨gb, 2, none⟩ = some (.int .i64 h) ∧ w'.cell? ⟨gb, 3, none⟩ = some (.int .i64 d)) (by kernel_rfl) ?_ ?_
      · exact ⟨⟨hk9.2.1, hk9.2.2.2.2.1, hk9.2.2.2.2.2.1⟩, fun _ => ⟨hb7.2.2.1, hb7.2.2.2.1⟩⟩
      intro hT
      refine wpU_take (i := 0) (v := ?_) rfl (by kernel_rfl) (fun _ _ _ h => h) rfl hT ?_ (fun hT2 => ?_)
      rotate_left 1
      · intro w_ hw_; (try dsimp only at hw_); go_simp; (try with_reducible rfl)
      clear hT; have hT := hT2; clear hT2
      (try simp only [Act.put, List.setIfInBounds_toArray, List.set_cons_zero, List.set_cons_succ])
      refine wpU_take (i := 2) (v := ?_) rfl (by kernel_rfl) (fun _ _ _ h => h) rfl hT ?_ (fun hT2 => ?_)
      rotate_left 1
      · intro w_ hw_; (try dsimp only at hw_); go_simp; (try with_reducible rfl)
      clear hT; have hT := hT2; clear hT2
      (try simp only [Act.put, List.setIfInBounds_toArray, List.set_cons_zero, List.set_cons_succ])
      refine wpU_take (i := 3) (v := ?_) rfl (by kernel_rfl) (fun _ _ _ h => h) rfl hT ?_ (fun hT2 => ?_)
      rotate_left 1
      · intro w_ hw_; (try dsimp only at hw_); go_simp; (try with_reducible rfl)
      clear hT; have hT := hT2; clear hT2
      (try simp only [Act.put, List.setIfInBounds_toArray, List.set_cons_zero, List.set_cons_succ])
      refine wpU_take (i := 4) (v := ?_) rfl (by kernel_rfl) (fun _ _ _ h => h) rfl hT ?_ (fun hT2 => ?_)
      rotate_left 1
      · intro w_ hw_; (try dsimp only at hw_); go_simp; (try with_reducible rfl)
      clear hT; have hT := hT2; clear hT2
      (try simp only [Act.put, List.setIfInBounds_toArray, List.set_cons_zero, List.set_cons_succ])
      refine wpU_take (i := 5) (v := ?_) rfl (by kernel_rfl) (fun _ _ _ h => h) rfl hT ?_ (fun hT2 => ?_)
      rotate_left 1
      · intro w_ hw_; (try dsimp only at hw_); go_simp; (try with_reducible rfl)
      clear hT; have hT := hT2; clear hT2
      (try simp only [Act.put, List.setIfInBounds_toArray, List.set_cons_zero, List.set_cons_succ])
      refine wpU_take (i := 6) (v := ?_) rfl (by kernel_rfl) (fun _ _ _ h => h) rfl hT ?_ (fun hT2 => ?_)
      rotate_left 1
      · intro w_ hw_; (try dsimp only at hw_); go_simp; (try with_reducible rfl)
      clear hT; have hT := hT2; clear hT2
      (try simp only [Act.put, List.setIfInBounds_toArray, List.set_cons_zero, List.set_cons_succ])
      refine wpU_take (i := 7) (v := ?_) rfl (by kernel_rfl) (fun _ _ _ h => h) rfl hT ?_ (fun hT2 => ?_)
      rotate_left 1
      · intro w_ hw_; (try dsimp only at hw_); go_simp; (try with_reducible rfl)
      clear hT; have hT := hT2; clear hT2
      (try simp only [Act.put, List.setIfInBounds_toArray, List.set_cons_zero, List.set_cons_succ])
      refine wpU_load (i := 1) (v := ?_) rfl (by kernel_rfl) (fun _ _ _ h => h) rfl hT ?_ (fun hT2 => ?_)
      rotate_left 1
      · intro w_ hw_; (try dsimp only at hw_); go_simp; (try with_reducible rfl)
      clear hT; have hT := hT2; clear hT2
      (try simp only [Act.put, List.setIfInBounds_toArray, List.set_cons_zero, List.set_cons_succ])
      refine wpU_take (i := 8) (v := ?_) rfl (by kernel_rfl) (fun _ _ _ h => h) rfl hT ?_ (fun hT2 => ?_)
      rotate_left 1
      · intro w_ hw_; (try dsimp only at hw_); go_simp; (try with_reducible rfl)
      clear hT; have hT := hT2; clear hT2
      (try simp only [Act.put, List.setIfInBounds_toArray, List.set_cons_zero, List.set_cons_succ])
      refine wpU_take (i := 9) (v := ?_) rfl (by kernel_rfl) (fun _ _ _ h => h) rfl hT ?_ (fun hT2 => ?_)
      rotate_left 1
      · intro w_ hw_; (try dsimp only at hw_); go_simp; (try with_reducible rfl)
      clear hT; have hT := hT2; clear hT2
      (try simp only [Act.put, List.setIfInBounds_toArray, List.set_cons_zero, List.set_cons_succ])
      refine wpU_load (i := 10) (v := ?_) rfl (by kernel_rfl) (fun _ _ _ h => h) rfl hT ?_ (fun hT2 => ?_)
      rotate_left 1
      · intro w_ hw_; (try dsimp only at hw_); go_simp; (try with_reducible rfl)
      clear hT; have hT := hT2; clear hT2
      (try simp only [Act.put, List.setIfInBounds_toArray, List.set_cons_zero, List.set_cons_succ])
      refine wpU_take (i := 11) (v := ?_) rfl (by kernel_rfl) (fun _ _ _ h => h) rfl hT ?_ (fun hT2 => ?_)
      rotate_left 1
      · intro w_ hw_; (try dsimp only at hw_); go_simp; (try with_reducible rfl)
      clear hT; have hT := hT2; clear hT2
      (try simp only [Act.put, List.setIfInBounds_toArray, List.set_cons_zero, List.set_cons_succ])
      refine wpU_take (i := 12) (v := ?_) rfl (by kernel_rfl) (fun _ _ _ h => h) rfl hT ?_ (fun hT2 => ?_)
      rotate_left 1
      · intro w_ hw_; (try dsimp only at hw_); go_simp; (try with_reducible rfl)
      clear hT; have hT := hT2; clear hT2
      (try simp only [Act.put, List.setIfInBounds_toArray, List.set_cons_zero, List.set_cons_succ])
      refine wpU_take (i := 13) (v := ?_) rfl (by kernel_rfl) (fun _ _ _ h => h) rfl hT ?_ (fun hT2 => ?_)
      rotate_left 1
      · intro w_ hw_; (try dsimp only at hw_); go_simp; (try with_reducible rfl)
      clear hT; have hT := hT2; clear hT2
      (try simp only [Act.put, List.setIfInBounds_toArray, List.set_cons_zero, List.set_cons_succ])
      refine wpU_take (i := 14) (v := ?_) rfl (by kernel_rfl) (fun _ _ _ h => h) rfl hT ?_ (fun hT2 => ?_)
      rotate_left 1
      · intro w_ hw_; (try dsimp only at hw_); go_simp; (try with_reducible rfl)
      clear hT; have hT := hT2; clear hT2
      (try simp only [Act.put, List.setIfInBounds_toArray, List.set_cons_zero, List.set_cons_succ])
      refine wpU_take (i := 15) (v := ?_) rfl (by kernel_rfl) (fun _ _ _ h => h) rfl hT ?_ (fun hT2 => ?_)
      rotate_left 1
      · intro w_ hw_; (try dsimp only at hw_); go_simp; (try with_reducible rfl)
      clear hT; have hT := hT2; clear hT2
      (try simp only [Act.put, List.setIfInBounds_toArray, List.set_cons_zero, List.set_cons_succ])
      refine wpU_take (i := 16) (v := ?_) rfl (by kernel_rfl) (fun _ _ _ h => h) rfl hT ?_ (fun hT2 => ?_)
      rotate_left 1
      · intro w_ hw_; (try dsimp only at hw_); go_simp; (try with_reducible rfl)
      clear hT; have hT := hT2; clear hT2
      (try simp only [Act.put, List.setIfInBounds_toArray, List.set_cons_zero, List.set_cons_succ])
      refine wpU_take (i := 17) (v := ?_) rfl (by kernel_rfl) (fun _ _ _ h => h) rfl hT ?_ (fun hT2 => ?_)
      rotate_left 1
      · intro w_ hw_; (try dsimp only at hw_); go_simp; (try with_reducible rfl)
      clear hT; have hT := hT2; clear hT2
      (try simp only [Act.put, List.setIfInBounds_toArray, List.set_cons_zero, List.set_cons_succ])
      refine wpU_take (i := 18) (v := ?_) rfl (by kernel_rfl) (fun _ _ _ h => h) rfl hT ?_ (fun hT2 => ?_)
      rotate_left 1
      · intro w_ hw_; (try dsimp only at hw_); go_simp; (try with_reducible rfl)
      clear hT; have hT := hT2; clear hT2
      (try simp only [Act.put, List.setIfInBounds_toArray, List.set_cons_zero, List.set_cons_succ])
      refine wpU_one (i := 19) rfl (by kernel_rfl) rfl (fun K hK => ?_)
      go_simp
      refine hK _ _ ⟨?_, fun h => by have h2 := h.symm.trans (show _ = true by kernel_rfl); cases h2⟩ (fun hT2 => ?_)
      · have h9 := cells9r (Pd.hd ((HR.out.swp.s2 (.int .i64 h1)).swp.drew).pd); exact ⟨h9.2.1, h9.2.2.2.2.1, h9.2.2.2.2.2.1⟩
      clear hK K hT; have hT := hT2; clear hT2
      (try simp only [Act.put, List.setIfInBounds_toArray, List.set_cons_zero, List.set_cons_succ])
      refine wpU_take (i := 20) (v := ?_) rfl (by kernel_rfl) (fun _ _ _ h => h) rfl hT ?_ (fun hT2 => ?_)
      rotate_left 1
      · intro w_ hw_; (try dsimp only at hw_); go_simp; (try with_reducible rfl)
      clear hT; have hT := hT2; clear hT2
      (try simp only [Act.put, List.setIfInBounds_toArray, List.set_cons_zero, List.set_cons_succ])
      refine wpU_one (i := 21) rfl (by kernel_rfl) rfl (fun K hK => ?_)
      go_simp
      refine hK _ _ ⟨?_, fun h => by have h2 := h.symm.trans (show _ = true by kernel_rfl); cases h2⟩ (fun hT2 => ?_)
      · have h9 := cells9r (Pd.hd (((HR.out.swp.s2 (.int .i64 h1)).s3 (.int .i64 d1)).swp.drew).pd); exact ⟨h9.2.1, h9.2.2.2.2.1, h9.2.2.2.2.2.1⟩
      clear hK K hT; have hT := hT2; clear hT2
      (try simp only [Act.put, List.setIfInBounds_toArray, List.set_cons_zero, List.set_cons_succ])
      refine wpU_done (by kernel_rfl) ?_ _
      refine Row.foldQ ((HR.out.swp.s2 (.int .i64 h1)).s3 (.int .i64 d1)).swp.drew ?_
      intro W3 hR
      replace HR := Aside0.mk hR
      clear hR hT hk9 hb7 hbf
      have hk9 := cells9r (Pd.hd HR.out.pd)
      have hb7 := cells7 (Pd.hd HR.out.pd.tl)
      have hbf := froz7 (Pd.hd HR.out.pd.tl)
      obtain ⟨i0, hi, hz, hs9, hby⟩ := info_parts info67
      have HLK := Aside0.mk (show (xs.take k).length = k by rw [List.length_take, Nat.min_eq_left hk])
      have HBD := Aside0.mk (show (xs.take k).length + 1 ≤ maxLen ∧ ((xs.take k).length + 1) * 88 ≤ 140737488355328 by have := HX.out; rw [List.length_take, Nat.min_eq_left hk]; unfold maxLen; omega)
      go_wp2_with (first | ((with_reducible refine gate_dst (N := 58) rfl ?_); refine Row.appendL (d := k67) (e := 67) (ts := 37) Tryz.underlying37 hi hz hs9 hby rfl (by decide) (HR.out.alc _) (by rfl) _ _ (by rfl) (by rfl) (c := [.int .i64 x.f0, .int .i64 x.f1, .int .i64 x.f2.f0, .int .i64 x.f2.f1, .int .i64 x.f2.f2, .int .i64 x.f2.f3, .int .i64 x.f2.f4, .int .i64 x.f2.f5, .slice A8 x.f2.f6.length c8]) (by rfl) (by exact alloc_last _ _) HKX.out (by simp [Value.oneCell']) HBD.out.1 HBD.out.2 ?_; intro q1 cap1 w2 hR; rw [HLK.out] at hR; replace HR := Aside0.mk hR; clear hR hb7 hbf hk9; have hb7 := cells7 (Pd.hd HR.out.pd.tl); have hbf := froz7 (Pd.hd HR.out.pd.tl)))
      go_roundw
      case rel => exact ⟨k + 1, h1, d1, _, by omega, by go_num, HG2, ⟨by rw [HTK.out]; exact (HR.out.swp.s6 _).swp.tl⟩⟩
      case measure => simp [intOf] <;> omega
    obtain rfl : k = xs.length := by omega
    have hd1 : decide ((xs.length : Int) < (xs.length : Int)) = false := by simp
    have HE : Aside0 (setGo xs 0 0 = .ok (h, d)) := ⟨by rw [← HG.out, List.drop_of_length_le (Nat.le_refl _)]; rfl⟩
    have HR0 : Row k67 67 w wr ((gb, .cells #[.int .i64 3, .int .i64 wd, .int .i64 h, .int .i64 d, .int .i64 0, .int .i64 0, v] 39 (0, 0)) :: ((gr, .cells #[.int .i64 0, .int .i64 0, .int .i64 0, .int .i64 0, .int .i64 0, .int .i64 0, .slice none 0 0] 39 (0, 0)) :: L)) v xs := by have := HR.out; rwa [List.take_length] at this
    replace HR := Aside0.mk HR0
    clear HG hlt HR0
    have hc7 := cells7 (Pd.hd HR.out.pd)
    have hcz := cells7 (Pd.hd HR.out.pd.tl)
    have hfz := froz7 (Pd.hd HR.out.pd.tl)
    by_cases hw : isLen wd = true
    case neg =>
      have HN0 := Aside0.mk (Bool.eq_false_iff.mpr hw)
      have HN := Aside0.mk (show [wd].all isLen = false by rw [List.all_cons, HN0.out]; rfl)
      clear hw
      go_wp2_with fail
      refine (is_lit1 (by simp) HN.out).mono ?_
      rintro _ w1 ⟨rfl, hb⟩
      replace HR := Aside0.mk (HR.out.below hb)
      clear hb hc7 hcz hfz
      have hc7 := cells7 (Pd.hd HR.out.pd)
      have hcz := cells7 (Pd.hd HR.out.pd.tl)
      have hfz := froz7 (Pd.hd HR.out.pd.tl)
      go_wp2
      refine bodyPost_ret (results_ct rfl _ _ gr 39 #[.int .i64 0, .int .i64 0, .int .i64 0, .int .i64 0, .int .i64 0, .int .i64 0, .slice none 0 0] (0, 0) _ rfl (put7 (Pd.hd HR.out.pd.tl)) hu39 rfl (by kernel_rfl)) rfl ?_
      obtain rfl : V = (0, 0, 0, 0, 0, 0, [], 1) := by rw [HV.out, setR, HE.out, setEnd, if_neg (by rw [HN0.out]; decide)]
      exact ⟨none, 0, rfl, Nat.le_refl _, nilF, (Pd.st7 HR.out.pd.tl).tl⟩
    have HL := Aside0.mk hw
    have HW := Aside0.mk (show [wd].all isLen = true by rw [List.all_cons, hw]; rfl)
    clear hw
    by_cases h2 : (isLen h && isLen d) = true
    case neg =>
      have HN0 := Aside0.mk (Bool.eq_false_iff.mpr h2)
      have HN := Aside0.mk (show [h, d].all isLen = false by simpa using HN0.out)
      clear h2
      go_wp2_with fail
      refine (is_lit1 (by simp) HW.out).mono ?_
      rintro _ w1 ⟨rfl, hb⟩
      replace HR := Aside0.mk (HR.out.below hb)
      clear hb hc7 hcz hfz
      have hc7 := cells7 (Pd.hd HR.out.pd)
      have hcz := cells7 (Pd.hd HR.out.pd.tl)
      have hfz := froz7 (Pd.hd HR.out.pd.tl)
      go_wp2_with fail
      refine (is_lit2 (by simp) HN.out).mono ?_
      rintro _ w1 ⟨rfl, hb⟩
      replace HR := Aside0.mk (HR.out.below hb)
      clear hb hc7 hcz hfz
      have hc7 := cells7 (Pd.hd HR.out.pd)
      have hcz := cells7 (Pd.hd HR.out.pd.tl)
      have hfz := froz7 (Pd.hd HR.out.pd.tl)
      go_wp2
      refine bodyPost_ret (results_ct rfl _ _ gr 39 #[.int .i64 0, .int .i64 0, .int .i64 0, .int .i64 0, .int .i64 0, .int .i64 0, .slice none 0 0] (0, 0) _ rfl (put7 (Pd.hd HR.out.pd.tl)) hu39 rfl (by kernel_rfl)) rfl ?_
      obtain rfl : V = (0, 0, 0, 0, 0, 0, [], 2) := by rw [HV.out, setR, HE.out, setEnd, if_pos HL.out, if_neg (by rw [HN0.out]; decide)]
      exact ⟨none, 0, rfl, Nat.le_refl _, nilF, (Pd.st7 HR.out.pd.tl).tl⟩
    have H2 := Aside0.mk h2
    have HN := Aside0.mk (show [h, d].all isLen = true by simpa using h2)
    clear h2
    obtain ⟨A1, n1, hv, hln, hFF⟩ := HR.out.reads k67_heap hmax
    subst hv
    have HLN := Aside0.mk hln
    clear hFF hln
    go_wp2_with fail
    refine (is_lit1 (by simp) HW.out).mono ?_
    rintro _ w1 ⟨rfl, hb⟩
    replace HR := Aside0.mk (HR.out.below hb)
    clear hb hc7 hcz hfz
    have hc7 := cells7 (Pd.hd HR.out.pd)
    have hcz := cells7 (Pd.hd HR.out.pd.tl)
    have hfz := froz7 (Pd.hd HR.out.pd.tl)
    go_wp2_with fail
    refine (is_lit2 (by simp) HN.out).mono ?_
    rintro _ w1 ⟨rfl, hb⟩
    replace HR := Aside0.mk (HR.out.below hb)
    clear hb hc7 hcz hfz
    have hc7 := cells7 (Pd.hd HR.out.pd)
    have hcz := cells7 (Pd.hd HR.out.pd.tl)
    have hfz := froz7 (Pd.hd HR.out.pd.tl)
    have HFF : Aside0 (Kd.F k67 w1 (fun k => ∀ p ∈ ((gb, .cells #[.int .i64 3, .int .i64 wd, .int .i64 h, .int .i64 d, .int .i64 0, .int .i64 0, (.slice A1 xs.length n1)] 39 (0, 0)) :: ((gr, .cells #[.int .i64 0, .int .i64 0, .int .i64 0, .int .i64 0, .int .i64 0, .int .i64 0, .slice none 0 0] 39 (0, 0)) :: L)), k ≠ p.1) A1 xs.length xs) := ⟨by obtain ⟨A2, n2, hv, _, hF⟩ := HR.out.reads k67_heap hmax; injection hv with h1 h2 h3; subst h1; exact hF⟩
    go_wp2
    refine bodyPost_ret (results_ct rfl _ _ gr 39 #[.int .i64 3, .int .i64 wd, .int .i64 h, .int .i64 d, .int .i64 0, .int .i64 0, .slice A1 xs.length n1] (0, 0) _ rfl (put7 (Pd.hd HR.out.pd.tl)) hu39 rfl (by kernel_rfl)) rfl ?_
    obtain rfl : V = (3, wd, h, d, 0, 0, xs, 0) := by rw [HV.out, setR, HE.out, setEnd, if_pos HL.out, if_pos H2.out]
    exact ⟨A1, n1, rfl, HLN.out, Kd.F_mono (Kd.F_step (Kd.F_mono (ok' := fun k => (∀ p ∈ L, k ≠ p.1) ∧ k ≠ gb ∧ k ≠ gr) HFF.out (fun k hk => ⟨fun p hp => hk p (List.mem_cons_of_mem _ (List.mem_cons_of_mem _ hp)), hk _ List.mem_cons_self, hk _ (List.mem_cons_of_mem _ List.mem_cons_self)⟩)) (fun k hk _ => far7 _ hk.2.2)) (fun k hk => hk.1), (Pd.st7 HR.out.pd.tl).tl⟩
end Go.Proofs.YtbhljokhcmfgjaaGreat.P

