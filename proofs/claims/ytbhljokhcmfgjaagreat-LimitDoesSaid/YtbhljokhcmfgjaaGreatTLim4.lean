import Derived.Test.YtbhljokhcmfgjaaGreatTLim2
import Derived.Test.YtbhljokhcmfgjaaGreatTPC
/- Append of one element that lies anywhere; limit.Limits' closure; what limit.Limits computes. Printed by a program of this work (mklim4.py). -/
set_option linter.unusedVariables false
set_option linter.unusedSimpArgs false
namespace Go.Proofs.YtbhljokhcmfgjaaGreat.P
open Go.RowKit Go.Proofs.YtbhljokhcmfgjaaGreatW.PrintWords Go.Proofs.YtbhljokhcmfgjaaGreatW.PrintLast Go.Proofs.YtbhljokhcmfgjaaGreatW.PrintMore

section
variable {α : Type} {d : Kd α} {e : TypeId} {w W W1 : World} {L : List (Nat × Obj)} {v : Value} {xs : List α}
variable {ops : Array Oper} {o : Oper} {a : Act} {K : Act → World → Prop} {Q : Exit → Act → World → Prop} {E : Prop}
theorem Row.appendA {ts : TypeId} {i : TypeInfo} {z : Value} {by1 : Nat} (ht : Tryz.prog.underlying ts = some (.slice e)) (hi : Tryz.prog.info? e = some i) (hz : i.zero = some z) (hsize : i.size = d.sz) (hby : i.bytes = by1) (hzs : z.cells.size = d.sz) (hsz : 0 < d.sz)
    (h : Row d e w W L v xs) (hgd : o.guard = none) (s x : Operand) (ho : o.op = .call { callee := .builtin .append, args := #[s, x], argTypes := #[ts, ts] }) (hs : a.eval s = v) {ad : Addr} {n : Nat} {y : α} {c : List Value} (hx : a.eval x = .slice (some ad) 1 n)
    (hnews : ∀ j u, c[j]? = some u → W.cell? (ad.add j) = some u) (hK : d.K w y c) (h1 : ∀ u ∈ c, u.oneCell' = true) (hm : xs.length + 1 ≤ maxLen) (hb : (xs.length + 1) * by1 ≤ 140737488355328)
    (k : ∀ q cap w', Row d e w w' L (.slice (some ⟨q, 0, none⟩) (xs.length + 1) cap) (xs ++ [y]) → K (a.put o.dst (.slice (some ⟨q, 0, none⟩) (xs.length + 1) cap)) w') :
    if Region.wanted o (yielded ops a.tmps) = true then Oper.wp Tryz.prog o a W K Q else E := by
  have hl1 : c.length = 1 * d.sz := by rw [Nat.one_mul]; exact d.K_len hK
  have hlen : (xs ++ [y]).length = xs.length + 1 := by simp
  rcases h with ⟨rfl, rfl, h⟩ | ⟨q, cap, cur, css, rfl, hE, h, hc, hmx, hcs, htk⟩
  · refine step_append_lies W hgd s x ts ho w.heap.size e i z d.sz by1 ht hi hz hsize hby hzs hsz _ 0 [] hs (World.ownsRow_nil _ _ _ _) ad 1 n c hx hl1 hnews h1 (by decide) hm hb h.bel.size W.heap.size rfl ?_
    intro g cap w' hown hgrow hat hlt
    obtain ⟨hlf, h2⟩ := hown
    rcases h2 with ⟨h3, _⟩ | ⟨g', cap', cur, h3, hge, hcur, h4, hmx, hcs, htk⟩
    · cases h3
    · injection h3 with h5 h6 h7
      injection h5 with h5
      injection h5 with h5
      subst h5 h7
      have hg : g = W.heap.size := by
        rcases hat with hat | hat
        · cases hat
        · exact hat
      have hB2 : Below W.heap.size W w' := (Below.refl _ _).grown hgrow (Nat.le_refl _) (fun k hk => by cases hk)
      refine k g cap w' (.inr ⟨g, cap, cur, [c], rfl, ⟨hK, trivial⟩, h.box hg hcur hB2, ?_, hmx, hcs, ?_⟩)
      · simpa using h4
      · simpa using htk
  · have hown0 : W.ownsRow w.heap.size e d.sz (.slice (some ⟨q, 0, none⟩) xs.length cap) xs.length css.flatten :=
      ⟨hE.flat (fun x c h => d.K_len h), .inr ⟨q, cap, cur, rfl, (h.loc _ List.mem_cons_self).2, h.hd, hc, hmx, hcs, htk⟩⟩
    refine step_append_lies W hgd s x ts ho w.heap.size e i z d.sz by1 ht hi hz hsize hby hzs hsz _ xs.length css.flatten hs hown0 ad 1 n c hx hl1 hnews h1 (by decide) hm hb h.bel.size W.heap.size rfl ?_
    intro g cap1 w' hown hgrow hat hlt
    obtain ⟨hlf, h2⟩ := hown
    rcases h2 with ⟨h3, _⟩ | ⟨g', cap', cur1, h3, hge, hcur, h4, hmx1, hcs1, htk1⟩
    · cases h3
    · injection h3 with h5 h6 h7
      injection h5 with h5
      injection h5 with h5
      subst h5 h7
      have hq0 : w.heap.size ≤ q := (h.loc _ List.mem_cons_self).2
      have hbel : Below w.heap.size w w' := h.bel.grown hgrow h.bel.size (fun k hk => by cases hk; exact hq0)
      have hP : Pd w w' ((g, .cells cur1 e (0, 0)) :: L) :=
        ⟨⟨hbel, fun p hp => by
            rcases List.mem_cons.1 hp with rfl | hp
            · exact ⟨hcur, hge⟩
            · have hpl := h.tl.loc p hp
              have hne : p.1 ≠ q := (List.pairwise_cons.1 h.dis).1 p hp
              exact ⟨(hgrow.block p.1 (blk_lt hpl.1) (fun he => hne (by cases he; rfl))).trans hpl.1, hpl.2⟩⟩,
          List.Pairwise.cons (fun p hp => by
            have hpl := h.tl.loc p hp
            have hne : p.1 ≠ q := (List.pairwise_cons.1 h.dis).1 p hp
            have hlt2 := blk_lt hpl.1
            show p.1 ≠ g
            rcases hat with hat | hat
            · have : q = g := by cases hat; rfl
              rw [← this]
              exact hne
            · omega) h.tl.dis⟩
      have hv : (Value.slice (some ⟨g, 0, none⟩) (xs.length + 1) cap1) = .slice (some ⟨g, 0, none⟩) (xs ++ [y]).length cap1 := by rw [hlen]
      exact k g cap1 w' (.inr ⟨g, cap1, cur1, css ++ [c], hv, hE.snoc hK, hP, by rw [hlen]; exact h4, hmx1, hcs1, by rw [hlen, htk1]; simp⟩)
theorem Row.appendAL {rest : List Oper} {ts : TypeId} {i : TypeInfo} {z : Value} {by1 : Nat} (ht : Tryz.prog.underlying ts = some (.slice e)) (hi : Tryz.prog.info? e = some i) (hz : i.zero = some z) (hsize : i.size = d.sz) (hby : i.bytes = by1) (hzs : z.cells.size = d.sz) (hsz : 0 < d.sz)
    (h : Row d e w W L v xs) (hgd : o.guard = none) (s x : Operand) (ho : o.op = .call { callee := .builtin .append, args := #[s, x], argTypes := #[ts, ts] }) (hs : a.eval s = v) {ad : Addr} {n : Nat} {y : α} {c : List Value} (hx : a.eval x = .slice (some ad) 1 n)
    (hnews : ∀ j u, c[j]? = some u → W.cell? (ad.add j) = some u) (hK : d.K w y c) (h1 : ∀ u ∈ c, u.oneCell' = true) (hm : xs.length + 1 ≤ maxLen) (hb : (xs.length + 1) * by1 ≤ 140737488355328)
    (k : ∀ q cap w', Row d e w w' L (.slice (some ⟨q, 0, none⟩) (xs.length + 1) cap) (xs ++ [y]) → wpList Tryz.prog ops Q rest (a.put o.dst (.slice (some ⟨q, 0, none⟩) (xs.length + 1) cap)) w') : wpList Tryz.prog ops Q (o :: rest) a W :=
  wpList_plain hgd fun K hGo => by
    have h2 := Row.appendA (ops := ops) (Q := Q) (E := False) ht hi hz hsize hby hzs hsz h hgd s x ho hs hx hnews hK h1 hm hb (fun q cap w' h => hGo _ _ (k q cap w' h))
    rwa [if_pos (by simp [Region.wanted, hgd])] at h2
end
theorem alloc_at {X : World} {o : Obj} {k : Nat} (hk : k = X.heap.size) : (X.alloc o).heap[k]? = some o := by
  subst hk
  exact alloc_last X o
/-- Half of what is left over. -/
def midL (e w b : Int) : Int × Int := keepV (keepV e (toldOf (sumR [w, wrap64 (-b)]))).2 (toldOf (halfR (keepV e (toldOf (sumR [w, wrap64 (-b)]))).1))
theorem mid_cells {w W : World} {L : List (Nat × Obj)} {q g1 g2 : Nat} {led : Nat × Obj} {v0 v1 v2 v3 v4 v5 v6 u1 u2 : Value} {t t1 t2 : TypeId} (h1 : (g1, .cells #[u1] t1 (0, 0)) ∈ L) (h2 : (g2, .cells #[u2] t2 (0, 0)) ∈ L) (h : Pd w W ((q, .cells #[v0, v1, v2, v3, v4, v5, v6] t (0, 0)) :: led :: L)) : W.cell? ⟨g1, 0, none⟩ = some u1 ∧ W.cell? ⟨g2, 0, none⟩ = some u2 ∧ W.cell? ⟨q, 1, none⟩ = some v1 :=
  ⟨blk_cell (Pd.getb h (List.mem_cons_of_mem _ (List.mem_cons_of_mem _ h1))) 0, blk_cell (Pd.getb h (List.mem_cons_of_mem _ (List.mem_cons_of_mem _ h2))) 0, blk_cell h.hd 1⟩
set_option maxRecDepth 100000 in
set_option maxHeartbeats 2000000 in
theorem mid_ld {w W : World} {L : List (Nat × Obj)} {g : Nat} {e wd : Int} {pre : List Value} (hl : pre.length = 19) (h : Pd w W ((g, .cells (pre ++ [Value.int .i64 e]).toArray 60 (0, 0)) :: L)) {g1 g2 : Nat} {t1 t2 : TypeId} (h1 : (g1, .cells #[.pointer (some ⟨g, 0, none⟩)] t1 (0, 0)) ∈ L) (h2 : (g2, .cells #[.int .i64 wd] t2 (0, 0)) ∈ L) (x : S39) (A : Option Addr) (n : Nat) : Calls Tryz.prog 22 #[.agg #[.int .i64 x.f0, .int .i64 x.f1, .int .i64 x.f2, .int .i64 x.f3, .int .i64 x.f4, .int .i64 x.f5, .slice A x.f6.length n], .pointer (some ⟨g1, 0, none⟩), .pointer (some ⟨g2, 0, none⟩)] W fun r w' => r = .returned (.int .i64 (midL e wd x.f1).1) ∧ Pd w w' ((g, .cells (pre ++ [Value.int .i64 (midL e wd x.f1).2]).toArray 60 (0, 0)) :: L) := by
  have hu39 := Tryz.underlying39
  have HP := Aside0.mk h
  have HL := Aside0.mk hl
  have H1 := Aside0.mk h1
  have H2 := Aside0.mk h2
  clear h hl h1 h2
  obtain ⟨s, h_s⟩ : ∃ s, s = keepV e (toldOf (sumR [wd, wrap64 (-x.f1)])) := ⟨_, rfl⟩
  obtain ⟨r, h_r⟩ : ∃ r, r = midL e wd x.f1 := ⟨_, rfl⟩
  rw [← h_r]
  have HS := Aside0.mk h_s
  have HR := Aside0.mk (show r = keepV s.2 (toldOf (halfR s.1)) by rw [h_r, h_s]; rfl)
  clear h_s h_r
  go_enter Tryz.func22, Tryz.ntmps22
  go_wp2_with (first | ((with_reducible refine gate_dst (N := 3) rfl ?_); refine box_event ?hg (N := 3) ?hd (cs := #[.int .i64 x.f0, .int .i64 x.f1, .int .i64 x.f2, .int .i64 x.f3, .int .i64 x.f4, .int .i64 x.f5, .slice A x.f6.length n]) (t := 39) ?hr ?_; (case hd => rfl); (case hg => rfl); (case hr => first | (go_simp; done) | (go_simp; rfl)); intro gq hg wk hbox hb; replace HP := Aside0.mk (Pd.box HP.out hg hbox hb); clear hg hbox hb))
  go_region_held3 (fun w' => w'.cell? ⟨g1, 0, none⟩ = some (.pointer (some ⟨g, 0, none⟩)) ∧ w'.cell? ⟨g2, 0, none⟩ = some (.int .i64 wd) ∧ w'.cell? ⟨gq, 1, none⟩ = some (.int .i64 x.f1)) (with_reducible exact mid_cells H1.out H2.out (by with_reducible repeat (first | exact HP.out | apply Pd.alc | apply Pd.drew))) (first | (go_at_call 23; (try simp only [i64_w]); refine (sum2_ld HL.out (Pd.swp (by with_reducible repeat (first | exact HP.out | apply Pd.alc | apply Pd.drew))) (x0 := wd) (x1 := wrap64 (-x.f1)) (by repeat (first | exact alloc_last _ _ | apply blk_drew))).mono ?_; rintro _ w1 ⟨rfl, hp⟩; rw [← HS.out] at hp ⊢; replace HP := Aside0.mk (Pd.swp hp); clear hp) | (go_at_call 21; refine (half_ld HL.out (Pd.swp (by with_reducible repeat (first | exact HP.out | apply Pd.alc | apply Pd.drew))) s.1).mono ?_; rintro _ w1 ⟨rfl, hp⟩; rw [← HR.out] at hp ⊢; replace HP := Aside0.mk (Pd.swp hp); clear hp))
  all_goals go_wp2
  all_goals go_ret
  all_goals exact ⟨rfl, Pd.tl HP.out⟩
/-- What limit.Limits computes with 1 above and 1 below. -/
def lim11V (F : S36) (c z : Int) (x : S39) (it : Int) (u : S39) (d : S39) : BoxV :=
  let k1 := keepV 0 (konstV F 18 c z)
  let k2 := keepV k1.2 (konstV F 19 c z)
  let k3 := keepV k2.2 (konstV F 20 c z)
  let k4 := keepV k3.2 (konstV F 21 c z)
  let e0 := needI [x.f1, x.f2, x.f3, it] k4.2
  let e1 := needI [u.f1, u.f2, u.f3] e0
  let w1 := max x.f1 u.f1
  let e2 := needI [d.f1, d.f2, d.f3] e1
  let w2 := max w1 d.f1
  if ¬ e2 = 0 then (0, 0, 0, 0, 0, 0, [], e2) else
  let h := keepV 0 (toldOf (halfR it))
  let m0 := midL h.2 w2 x.f1
  let mu := midL m0.2 w2 u.f1
  let ux := keepV mu.2 (toldOf (sumR [mu.1, h.1]))
  let ug := keepV ux.2 (toldOf (sumR [k1.1, u.f3]))
  let uy := keepV ug.2 (toldOf (sumR [x.f2, max ug.1 k2.1]))
  let md := midL uy.2 w2 d.f1
  let dx := keepV md.2 (toldOf (sumR [md.1, wrap64 (-h.1)]))
  let dg := keepV dx.2 (toldOf (sumR [k3.1, d.f2]))
  let dy := keepV dg.2 (toldOf (sumR [x.f3, max dg.1 k4.1]))
  setV dy.2 w2 [⟨m0.1, 0, x⟩, ⟨ux.1, uy.1, u⟩, ⟨dx.1, wrap64 (-dy.1), d⟩]
/-- What limit.Limits computes with 1 above and 0 below. -/
def lim10V (F : S36) (c z : Int) (x : S39) (it : Int) (u : S39) : BoxV :=
  let k1 := keepV 0 (konstV F 18 c z)
  let k2 := keepV k1.2 (konstV F 19 c z)
  let e0 := needI [x.f1, x.f2, x.f3, it] k2.2
  let e1 := needI [u.f1, u.f2, u.f3] e0
  let w1 := max x.f1 u.f1
  if ¬ e1 = 0 then (0, 0, 0, 0, 0, 0, [], e1) else
  let h := keepV 0 (toldOf (halfR it))
  let m0 := midL h.2 w1 x.f1
  let mu := midL m0.2 w1 u.f1
  let ux := keepV mu.2 (toldOf (sumR [mu.1, h.1]))
  let ug := keepV ux.2 (toldOf (sumR [k1.1, u.f3]))
  let uy := keepV ug.2 (toldOf (sumR [x.f2, max ug.1 k2.1]))
  setV uy.2 w1 [⟨m0.1, 0, x⟩, ⟨ux.1, uy.1, u⟩]
/-- What limit.Limits computes with 0 above and 1 below. -/
def lim01V (F : S36) (c z : Int) (x : S39) (it : Int) (d : S39) : BoxV :=
  let k3 := keepV 0 (konstV F 20 c z)
  let k4 := keepV k3.2 (konstV F 21 c z)
  let e0 := needI [x.f1, x.f2, x.f3, it] k4.2
  let e2 := needI [d.f1, d.f2, d.f3] e0
  let w2 := max x.f1 d.f1
  if ¬ e2 = 0 then (0, 0, 0, 0, 0, 0, [], e2) else
  let h := keepV 0 (toldOf (halfR it))
  let m0 := midL h.2 w2 x.f1
  let md := midL m0.2 w2 d.f1
  let dx := keepV md.2 (toldOf (sumR [md.1, wrap64 (-h.1)]))
  let dg := keepV dx.2 (toldOf (sumR [k3.1, d.f2]))
  let dy := keepV dg.2 (toldOf (sumR [x.f3, max dg.1 k4.1]))
  setV dy.2 w2 [⟨m0.1, 0, x⟩, ⟨dx.1, wrap64 (-dy.1), d⟩]
/-- What limit.Limits computes with 0 above and 0 below. -/
def lim00V (F : S36) (c z : Int) (x : S39) (it : Int) : BoxV :=
  let e0 := needI [x.f1, x.f2, x.f3, it] 0
  if ¬ e0 = 0 then (0, 0, 0, 0, 0, 0, [], e0) else
  let h := keepV 0 (toldOf (halfR it))
  let m0 := midL h.2 x.f1 x.f1
  setV m0.2 x.f1 [⟨m0.1, 0, x⟩]
end Go.Proofs.YtbhljokhcmfgjaaGreat.P
