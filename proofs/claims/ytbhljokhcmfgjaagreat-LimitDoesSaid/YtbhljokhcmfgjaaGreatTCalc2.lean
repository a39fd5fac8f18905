import Derived.Test.YtbhljokhcmfgjaaGreatTCalc1
import Derived.Test.YtbhljokhcmfgjaaGreatTSet1
import Derived.BigRegion
/- The calculator's Set (layer 26's reference): a short walk. Printed by a program of this work (mkcalc2.py). -/
set_option linter.unusedVariables false
set_option linter.unusedSimpArgs false
namespace Go.Proofs.YtbhljokhcmfgjaaGreat.P
open Go.RowKit Go.Proofs.YtbhljokhcmfgjaaGreatW.PrintWords Go.Proofs.YtbhljokhcmfgjaaGreatW.PrintLast Go.Proofs.YtbhljokhcmfgjaaGreatW.PrintMore

section
variable {w W W1 : World} {L : List (Nat × Obj)} {g : Nat} {e : Int} {rest : List Value} {t : TypeId}
theorem alloc_heap_lt {w : World} {o : Obj} {k : Nat} (h : k < w.heap.size) : (w.alloc o).heap[k]? = w.heap[k]? := by
  show (w.heap.push o)[k]? = _
  rw [Array.getElem?_push_lt h]
  exact (Array.getElem?_eq_getElem h).symm
theorem Pd.ltt (h : Pd w W L) : ∀ p ∈ L, p.1 < W.heap.size := fun p hp => blk_lt (h.loc p hp).1
set_option maxRecDepth 100000 in
set_option maxHeartbeats 4000000 in
theorem set_cd {A : Option Addr} {n : Nat} (wd : Int) (xs : List S67) {css : List (List Value)} (hx : xs.length < 1599289640401) (h : Pd w W ((g, .cells (Value.int .i64 e :: rest).toArray t (0, 0)) :: L)) (hS : Src w ((g, .cells (Value.int .i64 e :: rest).toArray t (0, 0)) :: L) A xs css) : Calls Tryz.prog 32 #[.pointer (some ⟨g, 0, none⟩), .int .i64 wd, .slice A xs.length n] W fun r w' => ∃ A1 n1, r = .returned (.tuple #[.agg #[.int .i64 (setV e wd xs).1, .int .i64 (setV e wd xs).2.1, .int .i64 (setV e wd xs).2.2.1, .int .i64 (setV e wd xs).2.2.2.1, .int .i64 (setV e wd xs).2.2.2.2.1, .int .i64 (setV e wd xs).2.2.2.2.2.1, .slice A1 (setV e wd xs).2.2.2.2.2.2.1.length n1], .int .i64 (setV e wd xs).2.2.2.2.2.2.2]) ∧ (setV e wd xs).2.2.2.2.2.2.1.length ≤ n1 ∧ Kd.F k67 w' (fun k => ∀ p ∈ ((g, .cells (Value.int .i64 e :: rest).toArray t (0, 0)) :: L), k ≠ p.1) A1 (setV e wd xs).2.2.2.2.2.2.1.length (setV e wd xs).2.2.2.2.2.2.1 ∧ Pd w w' ((g, .cells (Value.int .i64 e :: rest).toArray t (0, 0)) :: L) := by
  have hu39 := Tryz.underlying39
  have HS := Aside0.mk hS
  have HX := Aside0.mk hx
  have HP := Aside0.mk h
  have HLT := Aside0.mk h.ltt
  clear h hS hx
  by_cases he : e = 0
  · obtain ⟨V, hV⟩ : ∃ V, V = setR wd xs := ⟨_, rfl⟩
    have hSV : setV e wd xs = V := by rw [hV]; exact if_pos he
    have HQ := Aside0.mk (fun (W : World) (L : List (Nat × Obj)) (h : Pd w W L) (hS : Src w L A xs css) => set23 (n := n) wd xs HX.out h hS)
    rw [← hV] at HQ
    rw [hSV]
    clear hSV hV
    have hd1 : (e != 0) = false := by simp; exact he
    have hc0 := hd_cell HP.out.hd
    go_enter Tryz.func32, Tryz.ntmps32
    go_wp2_with (first | ((with_reducible refine gate_dst (N := 6) rfl ?_); refine box_event ?hg (N := 6) ?hd (cs := #[.int .i64 0, .int .i64 0, .int .i64 0, .int .i64 0, .int .i64 0, .int .i64 0, .slice none 0 0]) (t := 39) ?hr ?_; (case hd => rfl); (case hg => rfl); (case hr => first | (go_simp; done) | (go_simp; rfl)); intro gr hg wk hbox hb; replace HP := Aside0.mk (Pd.box (by with_reducible repeat (first | exact HP.out | apply Pd.drew)) hg hbox hb); clear hg hbox hb; have hcz := cells7 (Pd.hd HP.out); have hfz := froz7 (Pd.hd HP.out); have hc0 := hd_cell (Pd.hd (Pd.tl HP.out))))
    clear hcz hfz hc0
    refine (HQ.out _ _ HP.out (HS.out.mono fun _ h => h.tl)).mono ?_
    rintro _ w1 ⟨A1, n1, rfl, hl, hF, hp⟩
    replace HP := Aside0.mk hp
    have HF := Aside0.mk hF
    have HL := Aside0.mk hl
    clear hp hF hl HQ
    have hcz := fun ob : Obj => cells7 (Pd.hd (Pd.alc HP.out ob))
    have hfz := fun ob : Obj => froz7 (Pd.hd (Pd.alc HP.out ob))
    go_wp2
    refine bodyPost_ret (results_ct rfl _ _ gr 39 #[.int .i64 V.1, .int .i64 V.2.1, .int .i64 V.2.2.1, .int .i64 V.2.2.2.1, .int .i64 V.2.2.2.2.1, .int .i64 V.2.2.2.2.2.1, .slice A1 V.2.2.2.2.2.2.1.length n1] (0, 0) _ rfl (put7 (Pd.hd (Pd.alc HP.out _))) hu39 rfl (by kernel_rfl)) rfl ?_
    exact ⟨A1, n1, rfl, HL.out, Kd.F_mono (Kd.F_step HF.out (fun k hk hlt => (far7 _ (hk _ List.mem_cons_self)).trans (alloc_heap_lt hlt))) (fun k hk p hp => hk p (List.mem_cons_of_mem _ hp)), (Pd.st7 (Pd.alc HP.out _)).tl⟩
  · have hV : setV e wd xs = (0, 0, 0, 0, 0, 0, [], e) := if_neg he
    rw [hV]
    have hd1 : (e != 0) = true := by simp; exact he
    have hc0 := hd_cell HP.out.hd
    go_enter Tryz.func32, Tryz.ntmps32
    go_wp2_with (first | ((with_reducible refine gate_dst (N := 6) rfl ?_); refine box_event ?hg (N := 6) ?hd (cs := #[.int .i64 0, .int .i64 0, .int .i64 0, .int .i64 0, .int .i64 0, .int .i64 0, .slice none 0 0]) (t := 39) ?hr ?_; (case hd => rfl); (case hg => rfl); (case hr => first | (go_simp; done) | (go_simp; rfl)); intro gr hg wk hbox hb; replace HP := Aside0.mk (Pd.box (by with_reducible repeat (first | exact HP.out | apply Pd.drew)) hg hbox hb); clear hg hbox hb; have hcz := cells7 (Pd.hd HP.out); have hfz := froz7 (Pd.hd HP.out); have hc0 := hd_cell (Pd.hd (Pd.tl HP.out))))
    clear hc0
    have hgr : g ≠ gr := Pd.ne1 HP.out
    have hc0 := hd_cell (Pd.hd (Pd.tl HP.out))
    have hgr2 := hgr.symm
    go_region
    all_goals go_wp2
    refine bodyPost_ret (results_ct rfl _ _ gr 39 #[.int .i64 0, .int .i64 0, .int .i64 0, .int .i64 0, .int .i64 0, .int .i64 0, .slice none 0 0] (0, 0) _ rfl (blk_drew (put7 (Pd.hd HP.out))) hu39 rfl (by kernel_rfl)) rfl ?_
    exact ⟨none, 0, rfl, Nat.le_refl _, Kd.F_nil _ _ _, (Pd.st7 HP.out).tl.drew⟩
end

end Go.Proofs.YtbhljokhcmfgjaaGreat.P

