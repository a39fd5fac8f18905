import Derived.Test.YtbhljokhcmfgjaaGreatInfo2
import Derived.Test.YtbhljokhcmfgjaaGreatTOwn1
/- Package info: glyphs, Is, Find. -/
set_option linter.unusedVariables false
set_option linter.unusedSimpArgs false
namespace Go.Proofs.YtbhljokhcmfgjaaGreat.P
open Go.RowKit Go.Proofs.YtbhljokhcmfgjaaGreatW.PrintWords Go.Proofs.YtbhljokhcmfgjaaGreatW.PrintLast Go.Proofs.YtbhljokhcmfgjaaGreatW.PrintMore

theorem Row.st2 {α : Type} {d : Kd α} {e : TypeId} {w W : World} {L : List (Nat × Obj)} {v : Value} {xs : List α} {g : Nat} {t : TypeId} {u0 u1 v0 v1 : Value} (h : Row d e w W ((g, .cells #[u0, u1] t (0, 0)) :: L) v xs) : Row d e w ((W.setCell ⟨g, 0, none⟩ v0).setCell ⟨g, 1, none⟩ v1) ((g, .cells #[v0, v1] t (0, 0)) :: L) v xs :=
  h.put (blk_put (blk_put h.pd.hd 0 v0 rfl) 1 v1 rfl) (fun k hk => (Below.heap_setCell _ ⟨g, 1, none⟩ v1 k hk).trans (Below.heap_setCell _ ⟨g, 0, none⟩ v0 k hk)) ((h.pd.bel.setCell (p := ⟨g, 0, none⟩) (h.pd.loc _ List.mem_cons_self).2 v0).setCell (p := ⟨g, 1, none⟩) (h.pd.loc _ List.mem_cons_self).2 v1)
theorem alloc_st2 {W : World} {p q : Addr} {u v : Value} {o : Obj} : (((W.setCell p u).setCell q v).alloc o).heap[W.heap.size]? = some o := by
  have h := alloc_last ((W.setCell p u).setCell q v) o
  simpa using h
set_option maxRecDepth 100000 in
set_option maxHeartbeats 2000000 in
theorem glyphs_calls (A : Option Addr) (c : Nat) (l : List S77) (w : World) (hC : Kd.C k77 w A l.length l) (hlen : l.length ≤ 1000000) :
    Calls Tryz.prog 62 #[.slice A l.length c] w fun r w' => ∃ A1 n1, r = .returned (.slice A1 (l.map (·.f0)).length n1) ∧ Kd.C (Kd.int .i64) w' A1 (l.map (·.f0)).length (l.map (·.f0)) ∧ Below w.heap.size w w' := by
  obtain ⟨i0, hi, hz0, hz1, hz2⟩ := info_parts (show (Tryz.prog.info? 3).map (fun i => (i.zero, i.size, i.bytes)) = some (some (.int .i64 0), 1, 8) by kernel_rfl)
  have hu82 := Tryz.underlying77
  have hmax := Kd.C_max hC
  have HC := Aside0.mk hC
  have HLEN := Aside0.mk hlen
  have HR := Aside0.mk (Row.nil (d := Kd.int .i64) (e := 3) (Pd.start w))
  clear hC
  go_enter Tryz.func62, Tryz.ntmps62
  go_wp2
  go_loopw [3, 8] (fun v i wr => ∃ k : Nat, k ≤ l.length ∧ i = .int .i64 k ∧ Aside0 (Row (Kd.int .i64) 3 w wr [] v ((l.take k).map (·.f0)))) (fun v i _ => l.length - (intOf i).toNat)
  case atStart => exact ⟨0, Nat.zero_le _, rfl, HR⟩
  case round =>
    obtain ⟨k, hk, rfl, HR⟩ := hrel
    by_cases hlt : k < l.length
    · have hd1 : decide ((k : Int) < (l.length : Int)) = true := by simp; omega
      have hi0 : (0 : Int) ≤ (k : Int) := Int.natCast_nonneg _
      have hi1 : (k : Int) < (l.length : Int) := by omega
      obtain ⟨ad, hA, h0, h1⟩ := at_pair (Kd.C_below HC.out HR.out.pd.bel) k hlt
      subst hA
      obtain ⟨x, hx⟩ : ∃ x, x = rdP l k := ⟨_, rfl⟩
      rw [← hx] at h0 h1
      have HX := Aside0.mk (show (l.take k).map (·.f0) ++ [x.f0] = (l.take (k + 1)).map (·.f0) by rw [hx, rdP_eq hlt, List.take_succ_eq_append_getElem hlt, List.map_append]; rfl)
      have HK := Aside0.mk (show ((l.take k).map (·.f0)).length = k by simp; omega)
      have HM := Aside0.mk (show ((l.take k).map (·.f0)).length + 1 ≤ maxLen ∧ (((l.take k).map (·.f0)).length + 1) * 8 ≤ 140737488355328 by rw [HK.out]; unfold maxLen; omega)
      clear hx
      go_wp2_with (first | ((with_reducible refine gate_dst (N := 5) rfl ?_); refine box_event ?hg (N := 5) ?hd (cs := #[.int .i64 0, .int .i64 0]) (t := 77) ?hr ?_; (case hd => rfl); (case hg => rfl); (case hr => first | (go_simp; done) | (go_simp; rfl)); intro gx hg wk hbox hb; replace HR := Aside0.mk (Row.box HR.out hg hbox hb); clear hg hbox hb; have hx0 := blk_cell HR.out.pd.hd 0; have hx1 := blk_cell HR.out.pd.hd 1; have hf0 := blk_frozen HR.out.pd.hd 0; have hf1 := blk_frozen HR.out.pd.hd 1) | ((with_reducible refine gate_dst (N := 16) rfl ?_); refine Row.appendL (d := Kd.int .i64) (e := 3) (ts := 27) Tryz.underlying27 hi hz0 hz1 hz2 rfl Nat.one_pos ((Row.st2 HR.out).alc _) (by rfl) _ _ (by rfl) (by rfl) (y := x.f0) (c := [.int .i64 x.f0]) (by rfl) (by exact alloc_st2) rfl (by intro u hu; rw [List.mem_singleton] at hu; subst hu; rfl) HM.out.1 HM.out.2 ?_; intro q cap w2 hR; rw [HX.out, HK.out] at hR; have HR2 := Aside0.mk hR.tl; clear hR HR))
      go_roundw
      case rel => exact ⟨k + 1, by omega, by go_num, HR2⟩
      case measure => simp [intOf]; omega
    · obtain rfl : k = l.length := by omega
      have hd1 : decide ((l.length : Int) < (l.length : Int)) = false := by simp
      rw [List.take_length] at HR
      obtain ⟨A1, n1, rfl, hle, hF⟩ := HR.out.reads (Kd.heap_int .i64) (by simpa using hmax)
      have HF := Aside0.mk (hF wr (fun _ _ _ => rfl))
      go_wp2
      go_ret
      exact ⟨A1, ⟨n1, by simp⟩, by have h := HF.out; rw [List.length_map] at h; exact h, HR.out.pd.bel⟩
/-- Are pairs right? -/
def infoIs (l : List S77) : Bool := covIs (l.map (·.f0)) && l.all pairOk
theorem wrong_tells (v : Value) : Tells 85 #[v] #[] (fun x => !pairOk x) := by
  intro x W
  have h := wrong_calls x v W
  have e : (#[v] ++ #[Value.agg #[.int .i64 x.f0, .int .i64 x.f1]] ++ #[] : Array Value) = #[v, .agg #[.int .i64 x.f0, .int .i64 x.f1]] := by simp
  rw [e]
  exact h
set_option maxRecDepth 100000 in
set_option maxHeartbeats 1000000 in
theorem infoIs_calls (A : Option Addr) (c : Nat) (l : List S77) (w : World) (hC : Kd.C k77 w A l.length l) (hlen : l.length ≤ 1000000) :
    Calls Tryz.prog 60 #[.slice A l.length c] w fun r w' => r = .returned (.bool (infoIs l)) ∧ Below w.heap.size w w' := by
  have hmf : ∀ (fn : Fn) (first cap : Array Value) (w : World), (Instr.makeFunc fn first cap).run Tryz.prog w = .ok (.func fn first cap) w := fun _ _ _ _ => rfl
  have HC := Aside0.mk hC
  have hG := glyphs_calls A c l w hC hlen
  obtain ⟨gl, hgl⟩ : ∃ gl, gl = l.map (·.f0) := ⟨_, rfl⟩
  rw [← hgl] at hG
  have HGL := Aside0.mk hgl
  have HG := Aside0.mk hG
  clear hgl hG
  obtain ⟨z, hz⟩ : ∃ z, z = infoIs l := ⟨_, rfl⟩
  have HZ := Aside0.mk hz
  rw [← hz]
  clear hC hz
  go_enter Tryz.func60, Tryz.ntmps60
  go_wp2_with fail
  refine HG.out.mono ?_
  rintro _ w1 ⟨A1, n1, rfl, hC1, hb⟩
  have HB := Aside0.mk hb
  have HI := Aside0.mk (coverIs_calls A1 n1 _ w1 hC1)
  clear hb hC1
  go_wp2_with fail
  refine HI.out.mono ?_
  rintro _ w2 ⟨rfl, rfl⟩
  cases hq : covIs gl with
  | false =>
    have hz := HZ.out
    unfold infoIs at hz
    rw [← HGL.out, hq] at hz
    clear hq
    rw [Bool.false_and] at hz
    subst hz
    go_wp2
    go_ret
    exact ⟨rfl, HB.out⟩
  | true =>
    have hz := HZ.out
    unfold infoIs at hz
    rw [← HGL.out, hq, Bool.true_and] at hz
    clear hq
    have HZ2 := Aside0.mk (show z = !(l.any fun x => !pairOk x) by rw [hz, List.all_eq_not_any_not])
    clear hz
    have HF := Aside0.mk (containsFunc_calls A c l 85 #[.slice A l.length c] #[] (fun args w => by go_simp) (fun x => !pairOk x) (wrong_tells _) w1 (Kd.C_below HC.out HB.out))
    go_wp2_with fail
    refine HF.out.mono ?_
    rintro _ w3 ⟨rfl, hb⟩
    replace HB := Aside0.mk (below_step HB.out hb)
    clear hb
    have hz := HZ2.out
    obtain ⟨y, hy⟩ : ∃ y, y = (l.any fun x => !pairOk x) := ⟨_, rfl⟩
    rw [← hy] at hz ⊢
    clear hy
    subst hz
    go_wp2
    go_ret
    exact ⟨rfl, HB.out⟩
/-- What info.Find answers. -/
def findV (l : List S77) (g : Int) : Int × Bool := if infoIs l then (match l.find? (fun x => x.f0 == g) with | some x => (x.f1, true) | none => (0, false)) else (0, false)
theorem find_at {l : List S77} {g : Int} {k : Nat} (h : infoIs l = true) (hk : k < l.length) (hg : (rdP l k).f0 = g) : findV l g = ((rdP l k).f1, true) := by
  unfold findV
  rw [if_pos h]
  unfold infoIs at h
  rw [Bool.and_eq_true] at h
  have hs := (cov_sorted _ none h.1).1
  rw [rdP_eq hk] at hg ⊢
  have hf : l.find? (fun x => x.f0 == g) = some l[k] := by
    rw [List.find?_eq_some_iff_append]
    refine ⟨by simp [hg], l.take k, l.drop (k + 1), ?_, fun a ha => ?_⟩
    · rw [← List.drop_eq_getElem_cons hk, List.take_append_drop]
    · obtain ⟨i, hi, rfl⟩ := List.getElem_of_mem ha
      rw [List.length_take] at hi
      have h1 := List.pairwise_iff_getElem.1 hs i k (by rw [List.length_map]; omega) (by rw [List.length_map]; exact hk) (by omega)
      simp only [List.getElem_map] at h1
      simp only [List.getElem_take]
      simp
      omega
  rw [hf]
theorem find_no {l : List S77} {g : Int} (h : infoIs l = true → ∀ x ∈ l.map (·.f0), x ≠ g) : findV l g = (0, false) := by
  unfold findV
  by_cases hi : infoIs l = true
  · rw [if_pos hi]
    have hf : l.find? (fun x => x.f0 == g) = none := by
      rw [List.find?_eq_none]
      intro x hx
      have := h hi x.f0 (List.mem_map.2 ⟨x, hx, rfl⟩)
      simpa using this
    rw [hf]
  · rw [if_neg hi]
set_option maxRecDepth 100000 in
set_option maxHeartbeats 1000000 in
theorem infoFind_calls (A : Option Addr) (c : Nat) (l : List S77) (g : Int) (w : World) (hC : Kd.C k77 w A l.length l) (hlen : l.length ≤ 1000000) :
    Calls Tryz.prog 37 #[.slice A l.length c, .int .i64 g] w fun r w' => r = .returned (.tuple #[.int .i64 (findV l g).1, .bool (findV l g).2]) ∧ Below w.heap.size w w' := by
  have hmax := Kd.C_max hC
  have hu82 := Tryz.underlying77
  have HC := Aside0.mk hC
  have HLEN := Aside0.mk hlen
  have HI := Aside0.mk (infoIs_calls A c l w hC hlen)
  obtain ⟨z, hz⟩ : ∃ z, z = findV l g := ⟨_, rfl⟩
  have HZ := Aside0.mk hz
  rw [← hz]
  clear hC hz hlen
  go_enter Tryz.func37, Tryz.ntmps37
  go_wp2_with fail
  refine HI.out.mono ?_
  rintro _ w1 ⟨rfl, hb⟩
  have HB := Aside0.mk hb
  clear hb
  cases hq : infoIs l with
  | false =>
    have hz : z = (0, false) := HZ.out.trans (find_no (fun h => by rw [hq] at h; cases h))
    clear hq
    subst hz
    go_wp2
    go_ret2
    exact ⟨rfl, HB.out⟩
  | true =>
    have HQ := Aside0.mk hq
    clear hq
    have hG := glyphs_calls A c l w1 (Kd.C_below HC.out HB.out) HLEN.out
    obtain ⟨gl, hgl⟩ : ∃ gl, gl = l.map (·.f0) := ⟨_, rfl⟩
    rw [← hgl] at hG
    have HGL := Aside0.mk hgl
    have HG := Aside0.mk hG
    clear hgl hG
    go_wp2_with fail
    refine HG.out.mono ?_
    rintro _ w2 ⟨A1, n1, rfl, hC1, hb⟩
    replace HB := Aside0.mk (below_step HB.out hb)
    have HF := Aside0.mk (coverFind_calls A1 n1 gl g w2 hC1 (by rw [HGL.out, List.length_map]; exact HLEN.out))
    clear hb hC1
    go_wp2_with fail
    refine HF.out.mono ?_
    rintro _ w3 ⟨⟨at_, is, rfl, h1, h2⟩, rfl⟩
    cases is with
    | false =>
      obtain ⟨ha, hx⟩ := h2 rfl
      have hz : z = (0, false) := HZ.out.trans (find_no (fun h => by rw [← HGL.out]; exact hx (by unfold infoIs at h; rw [Bool.and_eq_true, ← HGL.out] at h; exact h.1)))
      clear h1 h2 hx
      subst hz
      subst ha
      go_wp2
      go_ret2
      exact ⟨rfl, HB.out⟩
    | true =>
      obtain ⟨_, k, rfl, hk, hg⟩ := h1 rfl
      rw [HGL.out, List.length_map] at hk
      rw [HGL.out] at hg
      have hg2 : (rdP l k).f0 = g := by rw [← hg, rdP_eq hk, rd_getElem (by rw [List.length_map]; exact hk), List.getElem_map]
      have hz := HZ.out.trans (find_at HQ.out hk hg2)
      have hi0 : (0 : Int) ≤ (k : Int) := Int.natCast_nonneg _
      have hi1 : (k : Int) < (l.length : Int) := by omega
      obtain ⟨ad, hA, h0, h3⟩ := at_pair (Kd.C_below HC.out HB.out) k hk
      subst hA
      obtain ⟨x, hx⟩ : ∃ x, x = rdP l k := ⟨_, rfl⟩
      rw [← hx] at h0 h3 hz
      clear h1 h2 hx hg hg2
      subst hz
      go_wp2
      go_ret2
      exact ⟨rfl, HB.out⟩
end Go.Proofs.YtbhljokhcmfgjaaGreat.P
