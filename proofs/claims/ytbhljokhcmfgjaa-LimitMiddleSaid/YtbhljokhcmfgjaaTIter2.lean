import Derived.Test.YtbhljokhcmfgjaaTPB
import Derived.Test.YtbhljokhcmfgjaaIter1
/- box.all: a recursive iterator: what it hands over. -/
set_option linter.unusedVariables false
set_option linter.unusedSimpArgs false
namespace Go.Proofs.Ytbhljokhcmfgjaa.P
open Go.RowKit Go.Shelf Go.Proofs.YtbhljokhcmfgjaaW.PrintWords Go.Proofs.YtbhljokhcmfgjaaW.PrintLast Go.Proofs.YtbhljokhcmfgjaaW.PrintMore
attribute [local go_sem] Oper.semAt_some

/-- A box in another one: where, how deep; its kids' address in the world w0. -/
structure Fnd (w0 : World) where
  x : Int
  y : Int
  d : Int
  b : S25
  A : Option Addr
  n : Nat
  hl : b.f6.length ≤ n
  hC : Kd.C k41 w0 A b.f6.length b.f6
def Fnd.cells {w0 : World} (f : Fnd w0) : Array Value := #[.int .i64 f.x, .int .i64 f.y, .int .i64 f.d, .int .i64 f.b.f0, .int .i64 f.b.f1, .int .i64 f.b.f2, .int .i64 f.b.f3, .int .i64 f.b.f4, .int .i64 f.b.f5, .slice f.A f.b.f6.length f.n]
/-- P of a box and of all in it. -/
inductive AllP (Q : S25 → Prop) : S25 → Prop
  | mk (b : S25) (h : Q b) (hk : ∀ k ∈ b.f6, AllP Q k.f2) : AllP Q b
theorem AllP.own {Q : S25 → Prop} {b : S25} (h : AllP Q b) : Q b := by cases h with | mk _ h _ => exact h
theorem AllP.kids {Q : S25 → Prop} {b : S25} (h : AllP Q b) : ∀ k ∈ b.f6, AllP Q k.f2 := by cases h with | mk _ _ h => exact h
theorem room_wide0 (k : Nat) : Fence.wide.room k := fun d h => by cases h
theorem yield_any {m : Nat} (m' : Nat) {P : Program} {l : Nat} {args : Array Value} {W : World} {R : Ending → World → Prop} (h : YieldAt Fence.wide m P l args W R) : YieldAt Fence.wide m' P l args W R := by
  obtain ⟨fn, tmps, assign, body, hy, h1, h2⟩ := h
  exact ⟨fn, tmps, assign, body, hy, h1, fun c cs _ => h2 c cs (room_wide0 _)⟩
theorem roundIn_any {m : Nat} (l2 m' : Nat) {P : Program} {l : Nat} {f : FuncId} {tmps : Array Value} {assign body : Code} {W : World} {R : Ending → World → Prop} (h : RoundIn Fence.wide m P l f tmps assign body W R) : RoundIn (Fence.wide.inRound l2) m' P l f tmps assign body W R := ⟨h.1, fun c cs _ => h.2 c cs (room_wide0 _)⟩
theorem ten_cells {W : World} {b : Nat} {v0 v1 v2 v3 v4 v5 v6 v7 v8 v9 : Value} {t : TypeId} (h : W.heap[b]? = some (.cells #[v0, v1, v2, v3, v4, v5, v6, v7, v8, v9] t (0, 0))) : W.cell? ⟨b, 0, none⟩ = some v0 ∧ W.cell? ⟨b, 1, none⟩ = some v1 ∧ W.cell? ⟨b, 2, none⟩ = some v2 ∧ W.cell? ⟨b, 3, none⟩ = some v3 ∧ W.cell? ⟨b, 4, none⟩ = some v4 ∧ W.cell? ⟨b, 5, none⟩ = some v5 ∧ W.cell? ⟨b, 6, none⟩ = some v6 ∧ W.cell? ⟨b, 7, none⟩ = some v7 ∧ W.cell? ⟨b, 8, none⟩ = some v8 ∧ W.cell? ⟨b, 9, none⟩ = some v9 :=
  ⟨blk_cell h 0, blk_cell h 1, blk_cell h 2, blk_cell h 3, blk_cell h 4, blk_cell h 5, blk_cell h 6, blk_cell h 7, blk_cell h 8, blk_cell h 9⟩
set_option maxRecDepth 100000 in
set_option maxHeartbeats 1000000 in
theorem boxall_calls (w : World) (cs : Array Value) (hcs : cs.size = 10) (v0 v1 v2 v3 v4 v5 v6 v7 v8 v9 : Value) (hv : cs = #[v0, v1, v2, v3, v4, v5, v6, v7, v8, v9]) : Calls Try.prog 49 #[.agg cs] w fun r w' => r = .returned (.func (.func 93) #[] #[.pointer (some ⟨w.heap.size, 0, none⟩)]) ∧ w' = w.alloc (.cells cs 94) := by
  subst hv
  have hu := Try.underlying94
  go_enter Try.func49, Try.ntmps49
  go_wp2
  go_ret
  exact ⟨rfl, rfl⟩

/-- The deferred calls of loops that are over: marks alone. -/
theorem leaves_marks {F : Fence} {n : Nat} {P : Program} {fn : Func} {tmps : Array Value} {R : Ending → World → Prop} (B : Nat) (T : World → Prop) (hT : OwnFrom B (fun (_ : Unit) W => T W)) (hfn : fn.results = #[]) (hR : ∀ W, T W → R (.returned (.tuple #[])) W) :
    ∀ (ds : List Nat) (W : World), T W → ds.Pairwise (· ≠ ·) → (∀ D ∈ ds, B ≤ D ∧ W.heap[D]? = some (.deferred (some []))) → LeavesInM F n P fn tmps R (ds.map fun D => ({ target := .collected D, args := #[] } : Deferred)) .returning W
  | [], W, h, _, _ => ⟨_, results_none hfn _ _ _, hR W h⟩
  | D :: ds, W, h, hp, hd => by
    have h1 := hd D List.mem_cons_self
    refine ⟨by simp, .inl ⟨D, _, rfl, run_takeDeferred h1.2, ?_⟩⟩
    refine leaves_marks B T hT hfn hR ds _ (hT.putObj (s := ()) _ h h1.1 h1.2 rfl) (List.pairwise_cons.1 hp).2 (fun D' hD' => ?_)
    have h2 := hd D' (List.mem_cons_of_mem _ hD')
    exact ⟨h2.1, (World.putObj_heap_other (fun e => (List.pairwise_cons.1 hp).1 D' hD' e.symm)).trans h2.2⟩
/-- What is told of an iterator of the box b: just the boxes in it. -/
def TellsY (w0 : World) (L : List (Fnd w0)) (b : S25) : Prop := ∀ Q : S25 → Prop, (∀ x ∈ L, Q x.b) ↔ AllP Q b

set_option maxRecDepth 100000 in
set_option maxHeartbeats 4000000 in
theorem all1_step (w0 : World) (f : Fnd w0) (Ls : List (List (Fnd w0))) (fs : Nat → Fnd w0) (hlen : Ls.length = f.b.f6.length)
    (hfs : ∀ (i : Nat) (hi : i < f.b.f6.length), (fs i).x = wrap64 (f.x + f.b.f6[i].f0) ∧ (fs i).y = wrap64 (f.y + f.b.f6[i].f1) ∧ (fs i).d = wrap64 (f.d + 1) ∧ (fs i).b = f.b.f6[i].f2 ∧ ∃ ad, f.A = some ad ∧ ∀ W : World, Below w0.heap.size w0 W → W.cell? (ad.add (i * 9)) = some (.int .i64 f.b.f6[i].f0) ∧ W.cell? ⟨(ad.add (i * 9)).block, (ad.add (i * 9)).off + 1, none⟩ = some (.int .i64 f.b.f6[i].f1) ∧ W.cell? ⟨(ad.add (i * 9)).block, (ad.add (i * 9)).off + 2, none⟩ = some (.int .i64 f.b.f6[i].f2.f0) ∧ W.cell? ⟨(ad.add (i * 9)).block, (ad.add (i * 9)).off + 3, none⟩ = some (.int .i64 f.b.f6[i].f2.f1) ∧ W.cell? ⟨(ad.add (i * 9)).block, (ad.add (i * 9)).off + 4, none⟩ = some (.int .i64 f.b.f6[i].f2.f2) ∧ W.cell? ⟨(ad.add (i * 9)).block, (ad.add (i * 9)).off + 5, none⟩ = some (.int .i64 f.b.f6[i].f2.f3) ∧ W.cell? ⟨(ad.add (i * 9)).block, (ad.add (i * 9)).off + 6, none⟩ = some (.int .i64 f.b.f6[i].f2.f4) ∧ W.cell? ⟨(ad.add (i * 9)).block, (ad.add (i * 9)).off + 7, none⟩ = some (.int .i64 f.b.f6[i].f2.f5) ∧ W.cell? ⟨(ad.add (i * 9)).block, (ad.add (i * 9)).off + 8, none⟩ = some (.slice (fs i).A f.b.f6[i].f2.f6.length (fs i).n))
    (hit : ∀ (i : Nat) (hi : i < Ls.length) (gb : Nat) (w₁ : World) (n : Nat), Below w0.heap.size w0 w₁ → w0.heap.size ≤ gb → w₁.heap[gb]? = some (.cells (fs i).cells 94 (0, 0)) → IterOK Fence.wide n Try.prog 93 #[.pointer (some ⟨gb, 0, none⟩)] (fun x : Fnd w0 => #[.agg x.cells]) w0.heap.size gb Ls[i] w₁)
    (gb : Nat) (w₁ : World) (n : Nat) (hb1 : Below w0.heap.size w0 w₁) (hgb : w0.heap.size ≤ gb) (hg : w₁.heap[gb]? = some (.cells f.cells 94 (0, 0))) :
    IterOK Fence.wide n Try.prog 93 #[.pointer (some ⟨gb, 0, none⟩)] (fun x : Fnd w0 => #[.agg x.cells]) w0.heap.size gb (f :: Ls.flatten) w₁ := by
  intro l J Jx W hkW hbW hJ hJx hY h0
  have hu98 := Try.underlying94
  have hu39 := Try.underlying25
  have hu49 := Try.underlying41
  have hgW := hkW.get (Nat.le_refl _) hg
  have HB := Aside0.mk (hb1.trans hbW)
  refine callsIn_of_wp_marks Try.func93 rfl trivial ?_
  simp only [Try.ntmps93, List.size_toArray, List.length_cons, List.length_nil, Nat.reduceAdd, Nat.reduceSub, Array.replicate_succ, Array.replicate_zero, List.push_toArray, List.append_toArray, List.nil_append, List.cons_append]
  have h01 : J [] (W.alloc (.cells #[.func (.yield l) #[] #[]] 131)) := hJ.alloc _ h0
  obtain ⟨fn, tmps, assign, body, hy, hR⟩ := hY [] f (W.alloc (.cells #[.func (.yield l) #[] #[]] 131)) h01 (by simp)
  have hgW1 := (Keep.alloc gb W (.cells #[.func (.yield l) #[] #[]] 131)).get (Nat.le_refl _) hgW
  have HCF := Aside0.mk (show ∀ W : World, W.heap[gb]? = some (.cells f.cells 94 (0, 0)) → W.cell? ⟨gb, 0, none⟩ = some (.int .i64 f.x) ∧ W.cell? ⟨gb, 1, none⟩ = some (.int .i64 f.y) ∧ W.cell? ⟨gb, 2, none⟩ = some (.int .i64 f.d) ∧ W.cell? ⟨gb, 3, none⟩ = some (.int .i64 f.b.f0) ∧ W.cell? ⟨gb, 4, none⟩ = some (.int .i64 f.b.f1) ∧ W.cell? ⟨gb, 5, none⟩ = some (.int .i64 f.b.f2) ∧ W.cell? ⟨gb, 6, none⟩ = some (.int .i64 f.b.f3) ∧ W.cell? ⟨gb, 7, none⟩ = some (.int .i64 f.b.f4) ∧ W.cell? ⟨gb, 8, none⟩ = some (.int .i64 f.b.f5) ∧ W.cell? ⟨gb, 9, none⟩ = some (.slice f.A f.b.f6.length f.n) from fun W h => ten_cells h)
  obtain ⟨c0, c1, c2, c3, c4, c5, c6, c7, c8, c9⟩ := HCF.out _ hgW1
  unfold Fnd.cells at hy
  have HY := Aside0.mk hY
  have HJ := Aside0.mk hJ
  have HX := Aside0.mk hJx
  clear hY hJ hJx h0
  gi_wp2
  refine ⟨fun h => (by cases h), ?_⟩
  refine hR.mono ?_
  clear c0 c1 c2 c3 c4 c5 c6 c7 c8 c9 hy hR
  rintro e W3 (⟨rfl, hJ3, hb3, hk3⟩ | ⟨rfl, hx3, hk3⟩)
  · have hgW3 := hk3.get (Nat.le_refl _) hgW1
    obtain ⟨c0, c1, c2, c3, c4, c5, c6, c7, c8, c9⟩ := HCF.out W3 hgW3
    gi_wp2
    refine wpIn_loop (fun a' w' => ∃ (k : Nat) (ds : List Nat) (u4 u15 u16 u17 u18 u19 u20 u21 u22 u23 u24 u25 u26 u27 u28 u29 u30 u31 u32 u33 u34 u35 u36 u37 u38 u39 u40 : Value), k ≤ f.b.f6.length ∧ a' = ({ tmps := #[.func (.yield l) #[] #[], .pointer (some ⟨gb, 0, none⟩), .pointer (some ⟨W.heap.size, 0, none⟩), undef, u4, undef, .func (.yield l) #[] #[], .agg #[.int .i64 f.x, .int .i64 f.y, .int .i64 f.d, .int .i64 f.b.f0, .int .i64 f.b.f1, .int .i64 f.b.f2, .int .i64 f.b.f3, .int .i64 f.b.f4, .int .i64 f.b.f5, .slice f.A f.b.f6.length f.n], .bool true, .bool false, .pointer (some ⟨gb, 3, none⟩), .pointer (some ⟨gb, 9, none⟩), .slice f.A f.b.f6.length f.n, .int .i64 (f.b.f6.length : Nat), .int .i64 (k : Nat), u15, u16, u17, u18, u19, u20, u21, u22, u23, u24, u25, u26, u27, u28, u29, u30, u31, u32, u33, u34, u35, u36, u37, u38, u39, u40], defers := (ds.map fun D => ({ target := .collected D, args := #[] } : Deferred)) } : Act) ∧ Aside0 (J (f :: (Ls.take k).flatten) w') ∧ Aside0 (Below w0.heap.size w0 w') ∧ Aside0 (Keep gb (W.alloc (.cells #[.func (.yield l) #[] #[]] 131)) w') ∧ Aside0 (ds.Pairwise (· ≠ ·)) ∧ Aside0 (∀ D ∈ ds, W.heap.size < D ∧ w'.heap[D]? = some (.deferred (some [])))) (fun a' _ => f.b.f6.length - (intOf (a'.tmps[14]?.getD undef)).toNat) ?_ ?_
    · exact ⟨0, [], undef, undef, undef, undef, undef, undef, undef, undef, undef, undef, undef, undef, undef, undef, undef, undef, undef, undef, undef, undef, undef, undef, undef, undef, undef, undef, undef, Nat.zero_le _, rfl, ⟨by simpa using hJ3⟩, ⟨(HB.out.alloc HB.out.size _).trans hb3⟩, ⟨hk3⟩, ⟨List.Pairwise.nil⟩, ⟨by simp⟩⟩
    · clear c0 c1 c2 c3 c4 c5 c6 c7 c8 c9 hJ3 hb3 hk3 hgW3
      rintro _ w' ⟨k, ds, u4, u15, u16, u17, u18, u19, u20, u21, u22, u23, u24, u25, u26, u27, u28, u29, u30, u31, u32, u33, u34, u35, u36, u37, u38, u39, u40, hk, rfl, HJ3, HB3, HK3, HDP, HD⟩
      have hgw := HK3.out.get (Nat.le_refl _) hgW1
      by_cases hlt : k < f.b.f6.length
      · have hd1 : decide ((k : Int) < (f.b.f6.length : Int)) = true := by simp; omega
        have hi0 : (0 : Int) ≤ (k : Int) := Int.natCast_nonneg _
        have hi1 : (k : Int) < (f.b.f6.length : Int) := by omega
        obtain ⟨e0, e1, e2, e3, ad, hA, hK⟩ := hfs k hlt
        obtain ⟨k0, k1, k2, k3, k4, k5, k6, k7, k8⟩ := hK w' HB3.out
        have hgv := (Keep.alloc gb w' (.cells #[.int .i64 f.b.f6[k].f0, .int .i64 f.b.f6[k].f1, .int .i64 f.b.f6[k].f2.f0, .int .i64 f.b.f6[k].f2.f1, .int .i64 f.b.f6[k].f2.f2, .int .i64 f.b.f6[k].f2.f3, .int .i64 f.b.f6[k].f2.f4, .int .i64 f.b.f6[k].f2.f5, .slice (fs k).A f.b.f6[k].f2.f6.length (fs k).n] 41)).get (Nat.le_refl _) hgw
        obtain ⟨c0, c1, c2, c3, c4, c5, c6, c7, c8, c9⟩ := HCF.out _ hgv
        rw [hA] at c9 ⊢
        gi_wp2
        refine ⟨trivial, fun h => (by cases h), ?_⟩
        refine (callsIn_wide.2 (boxall_calls _ _ rfl _ _ _ _ _ _ _ _ _ _ rfl)).mono ?_
        rintro e w4 ⟨rfl, rfl⟩
        clear c0 c1 c2 c3 c4 c5 c6 c7 c8 c9 k0 k1 k2 k3 k4 k5 k6 k7 k8
        have hcc : (#[.int .i64 (wrap64 (f.x + f.b.f6[k].f0)), .int .i64 (wrap64 (f.y + f.b.f6[k].f1)), .int .i64 (wrap64 (f.d + 1)), .int .i64 f.b.f6[k].f2.f0, .int .i64 f.b.f6[k].f2.f1, .int .i64 f.b.f6[k].f2.f2, .int .i64 f.b.f6[k].f2.f3, .int .i64 f.b.f6[k].f2.f4, .int .i64 f.b.f6[k].f2.f5, .slice (fs k).A f.b.f6[k].f2.f6.length (fs k).n] : Array Value) = (fs k).cells := by unfold Fnd.cells; rw [e0, e1, e2, e3]
        have hlt2 : k < Ls.length := by omega
        obtain ⟨W5, hW5⟩ : ∃ W5, W5 = (w'.alloc (.cells #[.int .i64 f.b.f6[k].f0, .int .i64 f.b.f6[k].f1, .int .i64 f.b.f6[k].f2.f0, .int .i64 f.b.f6[k].f2.f1, .int .i64 f.b.f6[k].f2.f2, .int .i64 f.b.f6[k].f2.f3, .int .i64 f.b.f6[k].f2.f4, .int .i64 f.b.f6[k].f2.f5, .slice (fs k).A f.b.f6[k].f2.f6.length (fs k).n] 41)).alloc (.cells #[.int .i64 (wrap64 (f.x + f.b.f6[k].f0)), .int .i64 (wrap64 (f.y + f.b.f6[k].f1)), .int .i64 (wrap64 (f.d + 1)), .int .i64 f.b.f6[k].f2.f0, .int .i64 f.b.f6[k].f2.f1, .int .i64 f.b.f6[k].f2.f2, .int .i64 f.b.f6[k].f2.f3, .int .i64 f.b.f6[k].f2.f4, .int .i64 f.b.f6[k].f2.f5, .slice (fs k).A f.b.f6[k].f2.f6.length (fs k).n] 94) := ⟨_, rfl⟩
        have s5 : W5.heap.size = w'.heap.size + 2 := by rw [hW5]; simp
        have K5 : Keep gb w' W5 := by rw [hW5]; exact (Keep.alloc gb w' _).trans (Keep.alloc gb _ _)
        have sw := HK3.out.size
        have sb := HB3.out.size
        have B5 : Below w0.heap.size w' W5 := by rw [hW5]; exact ((Below.refl _ w').alloc sb _).alloc (by simp; omega) _
        have J5 : J (f :: (Ls.take k).flatten) W5 := by rw [hW5]; exact HJ.out.alloc _ (HJ.out.alloc _ HJ3.out)
        have G5 : W5.heap[w'.heap.size + 1]? = some (.cells (fs k).cells 94 (0, 0)) := by rw [hW5, ← hcc]; have h := World.alloc_heap_new (w'.alloc (.cells #[.int .i64 f.b.f6[k].f0, .int .i64 f.b.f6[k].f1, .int .i64 f.b.f6[k].f2.f0, .int .i64 f.b.f6[k].f2.f1, .int .i64 f.b.f6[k].f2.f2, .int .i64 f.b.f6[k].f2.f3, .int .i64 f.b.f6[k].f2.f4, .int .i64 f.b.f6[k].f2.f5, .slice (fs k).A f.b.f6[k].f2.f6.length (fs k).n] 41)) (.cells #[.int .i64 (wrap64 (f.x + f.b.f6[k].f0)), .int .i64 (wrap64 (f.y + f.b.f6[k].f1)), .int .i64 (wrap64 (f.d + 1)), .int .i64 f.b.f6[k].f2.f0, .int .i64 f.b.f6[k].f2.f1, .int .i64 f.b.f6[k].f2.f2, .int .i64 f.b.f6[k].f2.f3, .int .i64 f.b.f6[k].f2.f4, .int .i64 f.b.f6[k].f2.f5, .slice (fs k).A f.b.f6[k].f2.f6.length (fs k).n] 94); rwa [World.size_alloc] at h
        have hgbW : gb ≤ W.heap.size := Nat.le_of_lt (Array.getElem?_eq_some_iff.1 hgW).1
        have hT : (Ls.take (k + 1)).flatten = (Ls.take k).flatten ++ Ls[k] := by rw [List.take_succ_eq_append_getElem hlt2, List.flatten_append]; simp only [List.flatten_cons, List.flatten_nil, List.append_nil]
        have hFl : Ls.flatten = (Ls.take k).flatten ++ (Ls[k] ++ (Ls.drop (k + 1)).flatten) := by have h := congrArg List.flatten (List.take_append_drop k Ls); rw [List.drop_eq_getElem_cons hlt2, List.flatten_append, List.flatten_cons] at h; exact h.symm
        simp only [World.size_alloc] at *
        gi_wp2_with (rw [← hW5])
        refine range_iter rfl (fun h => (by cases h)) (gf := 93) (lb := #[.pointer (some ⟨w'.heap.size + 1, 0, none⟩)]) rfl trivial (enters_of Try.func93 (by kernel_rfl) rfl) (n₀ := w0.heap.size) (B := w'.heap.size + 1) (by omega) (by omega) (hit k hlt2 (w'.heap.size + 1) W5 (n - 1) (HB3.out.trans B5) (by omega) G5) (fun _ => rfl)
          (fun pre V => J ((f :: (Ls.take k).flatten) ++ pre) V ∧ Below w0.heap.size W5 V ∧ Keep gb W5 V) (fun pre V => Jx ((f :: (Ls.take k).flatten) ++ pre) V ∧ Keep W.heap.size W5 V)
          ?hI ?hIx ?h0 (fun x a' V => ∃ (g5 : Nat) (v3 v4 v6 v7 v8 v9 v10 v11 v12 v13 v14 v15 v16 v17 v18 v19 v20 v21 v22 v23 v24 v25 v26 v27 v28 v29 v30 v31 v32 v33 v34 v35 v36 v37 v38 v39 v40 : Value), W5.heap.size ≤ g5 ∧ V.heap[g5]? = some (.cells x.cells 94 (0, 0)) ∧ a' = ({ tmps := #[.func (.yield l) #[] #[], .pointer (some ⟨gb, 0, none⟩), .pointer (some ⟨W.heap.size, 0, none⟩), v3, v4, .pointer (some ⟨g5, 0, none⟩), v6, v7, v8, v9, v10, v11, v12, v13, v14, v15, v16, v17, v18, v19, v20, v21, v22, v23, v24, v25, v26, v27, v28, v29, v30, v31, v32, v33, v34, v35, v36, v37, v38, v39, v40], defers := [] } : Act)) ?hAx ?assign ?body ?done ?stop
        case hI => exact fun s X Y row hs hg hr => ⟨(OwnFrom.up HJ.out (by omega)) _ X Y row hs.1 hg hr, (ownFrom_below (β := Unit) (by omega) (by omega)) () X Y row hs.2.1 hg hr, (ownFrom_keep (β := Unit) (Nat.le_refl _)) () X Y row hs.2.2 hg hr⟩
        case hIx => exact fun s X Y row hs hg hr => ⟨(OwnFrom.up HX.out (by omega)) _ X Y row hs.1 hg hr, (ownFrom_keep (β := Unit) (Nat.le_refl _)) () X Y row hs.2 hg hr⟩
        case h0 => exact ⟨by simpa using J5, Below.refl _ _, Keep.refl _ _⟩
        case hAx =>
          rintro x a' _ X Y row ⟨g5, v3, v4, v6, v7, v8, v9, v10, v11, v12, v13, v14, v15, v16, v17, v18, v19, v20, v21, v22, v23, v24, v25, v26, v27, v28, v29, v30, v31, v32, v33, v34, v35, v36, v37, v38, v39, v40, h5, hx, ha⟩ hg hr
          refine ⟨g5, v3, v4, v6, v7, v8, v9, v10, v11, v12, v13, v14, v15, v16, v17, v18, v19, v20, v21, v22, v23, v24, v25, v26, v27, v28, v29, v30, v31, v32, v33, v34, v35, v36, v37, v38, v39, v40, h5, (hg.block g5 (Array.getElem?_eq_some_iff.1 hx).1 (fun e => ?_)).trans hx, ha⟩
          obtain ⟨-, o, ho, hc⟩ := hr g5 e.symm
          rw [hx] at ho; cases ho; cases hc
        case assign =>
          rintro l2 pre x V K ⟨hj, hb, hk5⟩ hK
          have sv := hk5.size
          unfold Fnd.cells
          gi_wp2
          exact hK _ _ (Keep.alloc _ _ _) ((Below.refl _ V).alloc (by omega) _) ⟨OwnFrom.alloc HJ.out _ hj, hb.alloc (by omega) _, hk5.trans (Keep.alloc _ _ _)⟩ ⟨V.heap.size, _, _, _, _, _, _, _, _, _, _, _, _, _, _, _, _, _, _, _, _, _, _, _, _, _, _, _, _, _, _, _, _, _, _, _, _, _, hk5.size, World.alloc_heap_new V _, rfl⟩
        case body =>
          rintro l2 pre x _ V ⟨hj, hb, hk5⟩ ⟨g5, v3, v4, v6, v7, v8, v9, v10, v11, v12, v13, v14, v15, v16, v17, v18, v19, v20, v21, v22, v23, v24, v25, v26, v27, v28, v29, v30, v31, v32, v33, v34, v35, v36, v37, v38, v39, v40, h5, hx, rfl⟩ hlen
          have sv := hk5.size
          obtain ⟨c0, c1, c2, c3, c4, c5, c6, c7, c8, c9⟩ := ten_cells hx
          have cy : V.cell? ⟨W.heap.size, 0, none⟩ = some (.func (.yield l) #[] #[]) := blk_cell (hk5.get hgbW (K5.get hgbW (HK3.out.get hgbW (World.alloc_heap_new W _)))) 0
          obtain ⟨fn, tmps, assign, body, hy, hR⟩ := HY.out ((f :: (Ls.take k).flatten) ++ pre) x V hj (by rw [hFl]; simp only [List.length_append, List.length_cons]; omega)
          unfold Fnd.cells at hy
          gi_wp2
          refine ⟨fun h => (by cases h), ?_⟩
          refine (roundIn_any l2 _ hR).mono ?_
          clear c0 c1 c2 c3 c4 c5 c6 c7 c8 c9 hy hR
          rintro e W6 (⟨rfl, hJ6, hb6, hk6⟩ | ⟨rfl, hx6, hk6⟩)
          · gi_wp2
            exact ⟨hk6.mono (by omega), hb6, by simpa using hJ6, hb.trans hb6, hk5.trans hk6⟩
          · gi_wp2
            exact ⟨hk6.mono (by omega), by simpa using hx6, (hk5.mono (by omega)).trans (hk6.mono (Nat.le_refl _))⟩
        case done =>
          rintro D V hD ⟨hj, hb, hk5⟩ hdD
          have sv := hk5.size
          rw [List.cons_append, ← hT] at hj
          have hms : f.b.f6.length - ((k + 1 : Nat) : Int).toNat < f.b.f6.length - ((k : Nat) : Int).toNat := by omega
          have hk1 : k + 1 ≤ f.b.f6.length := hlt
          have hDp : (D :: ds).Pairwise (· ≠ ·) := List.pairwise_cons.2 ⟨fun D' h' e => by have := (Array.getElem?_eq_some_iff.1 (HD.out D' h').2).1; omega, HDP.out⟩
          have hDd : ∀ D' ∈ D :: ds, W.heap.size < D' ∧ V.heap[D']? = some (.deferred (some [])) := by
            rintro D' h'
            rcases List.mem_cons.1 h' with rfl | h'
            · exact ⟨by omega, hdD⟩
            · exact ⟨(HD.out D' h').1, hk5.get (by have := (HD.out D' h').1; omega) (K5.get (by have := (HD.out D' h').1; omega) (HD.out D' h').2)⟩
          have hwk : wrap64 ((k : Int) + 1) = ((k + 1 : Nat) : Int) := by rw [IntWalk.wrap64_in _ (by have := f.hC.2.1; omega)]; rfl
          gi_wp2
          rw [hwk]
          exact ⟨⟨k + 1, D :: ds, _, _, _, _, _, _, _, _, _, _, _, _, _, _, _, _, _, _, _, _, _, _, _, _, _, _, _, hk1, rfl, ⟨hj⟩, ⟨(HB3.out.trans B5).trans hb⟩, ⟨(HK3.out.trans K5).trans hk5⟩, ⟨hDp⟩, ⟨hDd⟩⟩, hms⟩
        case stop =>
          rintro D pre V hD hpre ⟨hx, hk5⟩ hdD
          have sv := hk5.size
          gi_wp2
          refine leaves_marks W.heap.size (fun V => Jx ((f :: (Ls.take k).flatten) ++ pre) V) (fun _ X Y row hs hg hr => HX.out _ X Y row hs hg hr) rfl (fun V hv => ⟨⟨_, rfl⟩, .inr ⟨_, ?pr, hv⟩⟩) (D :: ds) V hx ?pw ?hd
          case pr =>
            obtain ⟨t, ht⟩ := hpre
            refine ⟨t ++ (Ls.drop (k + 1)).flatten, ?_⟩
            rw [hFl, ← ht]; simp
          case pw =>
            refine List.pairwise_cons.2 ⟨fun D' h' e => ?_, HDP.out⟩
            have := (Array.getElem?_eq_some_iff.1 (HD.out D' h').2).1
            omega
          case hd =>
            rintro D' h'
            rcases List.mem_cons.1 h' with rfl | h'
            · exact ⟨by omega, hdD⟩
            · exact ⟨Nat.le_of_lt (HD.out D' h').1, hk5.get (by have := (HD.out D' h').1; omega) (K5.get (by have := (HD.out D' h').1; omega) (HD.out D' h').2)⟩
      · obtain rfl : k = f.b.f6.length := by omega
        have hd1 : decide ((f.b.f6.length : Int) < (f.b.f6.length : Int)) = false := by simp
        gi_wp2
        have hj := HJ3.out
        rw [List.take_of_length_le (by omega)] at hj
        exact leaves_marks W.heap.size (fun V => J (f :: Ls.flatten) V) (fun _ X Y row hs hg hr => HJ.out _ X Y row hs hg hr) rfl (fun V hv => ⟨⟨_, rfl⟩, .inl hv⟩) ds w' hj HDP.out (fun D h => ⟨Nat.le_of_lt (HD.out D h).1, (HD.out D h).2⟩)
  · gi_wp2
    exact ⟨.tuple #[], results_none rfl _ _ _, ⟨_, rfl⟩, .inr ⟨[f], ⟨Ls.flatten, rfl⟩, hx3⟩⟩
end Go.Proofs.Ytbhljokhcmfgjaa.P
