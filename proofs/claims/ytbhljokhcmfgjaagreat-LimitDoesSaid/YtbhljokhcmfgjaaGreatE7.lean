import Derived.Test.YtbhljokhcmfgjaaGreatK1
import Derived.Test.YtbhljokhcmfgjaaGreatK2
import Derived.Test.YtbhljokhcmfgjaaGreatK4
import Derived.Test.YtbhljokhcmfgjaaGreatK5
import Derived.Deep.Slices
import Derived.ChangeArms
import Derived.KernelRfl
/- Part 7 of the proof of stackCenter_holds: what it needs of this work's texts, joined. -/
set_option linter.unusedVariables false
set_option linter.unusedSimpArgs false
namespace Go.Proofs.YtbhljokhcmfgjaaGreat.P
open Go.RowKit Go.Proofs.YtbhljokhcmfgjaaGreatW.PrintWords
def kidOk (x : S67) : Bool := [x.f0, x.f1, x.f2.f1, x.f2.f2, x.f2.f3].all isLen
def setGo : List S67 → Int → Int → Except Int (Int × Int)
  | [], h, d => .ok (h, d)
  | x :: l, h, d => if kidOk x = true then setGo l (mx h (wrap64 (x.f1 + x.f2.f2))) (mx d (wrap64 (x.f2.f3 - x.f1))) else .error 1
def setEnd (w : Int) (l : List S67) : Except Int (Int × Int) → Int × Int × Int × Int × Int × Int × List S67 × Int
  | .error e => (0, 0, 0, 0, 0, 0, [], e)
  | .ok (h, d) => if isLen w = true then (if (isLen h && isLen d) = true then (3, w, h, d, 0, 0, l, 0) else (0, 0, 0, 0, 0, 0, [], 2)) else (0, 0, 0, 0, 0, 0, [], 1)
def setR (w : Int) (l : List S67) := setEnd w l (setGo l 0 0)
theorem rd_kid (l : List S67) (i : Nat) (h : i < l.length) : rd_T67 l (i : Int) = l[i] := by simp [rd_T67, List.getD_eq_getElem?_getD, h]
end Go.Proofs.YtbhljokhcmfgjaaGreat.P
namespace Go.Proofs.YtbhljokhcmfgjaaGreat.Opens
open Go.RowKit Go.Proofs.YtbhljokhcmfgjaaGreatW.PrintWords
/-- What is read of type t, in N steps at most, is of kind d, and so is G. -/
structure Opn {α : Type} (P : Program) (N : Nat) (t : TypeId) (d : Kd α) (G : α → Prop) : Prop where
  sz : P.cellsOf t = d.sz
  go : ∀ {H : Type} {enc : TypeId × Value → H} {w : World} {base : Nat} {spare : Nat → Bool} {held : Bool} {fuel : Nat} {cs : List Value} {x : DataW H × List MemPlace},
    fuel ≤ N → DataW.trod enc P w base spare held fuel t cs = some x → ∃ a : α, d.K w a cs ∧ G a
section
variable {α β : Type} {P : Program} {N M : Nat} {t e : TypeId} {d : Kd α} {d' : Kd β} {G G1 : α → Prop} {G' : β → Prop}
theorem Opn.mono (h : Opn P N t d G) (hM : M ≤ N) : Opn P M t d G := ⟨h.sz, fun hf hx => h.go (Nat.le_trans hf hM) hx⟩
theorem Opn.imp (h : Opn P N t d G) (hg : ∀ a, G a → G1 a) : Opn P N t d G1 := ⟨h.sz, fun hf hx => by
  obtain ⟨a, h1, h2⟩ := h.go hf hx
  exact ⟨a, h1, hg a h2⟩⟩
theorem Opn.zero (hs : P.cellsOf t = d.sz) : Opn P 0 t d G := ⟨hs, fun {_ _ _ _ _ _ fuel _ _} hf hx => by
  obtain rfl : fuel = 0 := Nat.le_zero.1 hf
  simp [DataW.trod] at hx⟩
/-- The same cells, told by a kind that says less. -/
theorem Opn.kind {d1 : Kd α} (h : Opn P N t d G) (hs : d1.sz = d.sz) (hk : ∀ w x cs, d.K w x cs → d1.K w x cs) : Opn P N t d1 G := ⟨h.sz.trans hs.symm, fun hf hx => by
  obtain ⟨a, h1, h2⟩ := h.go hf hx
  exact ⟨a, hk _ _ _ h1, h2⟩⟩
theorem opn_int {k : IntKind} (ht : P.underlying t = some (.int k)) (hs : P.cellsOf t = 1) : Opn P N t (Kd.int k) (fun n => (Lit.int k n).wf = true) := ⟨hs, fun _ h => by
  obtain ⟨n, rfl, _, hw⟩ := DataW.trod_int ht h
  exact ⟨n, rfl, hw⟩⟩
theorem opn_bool (ht : P.underlying t = some .bool) (hs : P.cellsOf t = 1) : Opn P N t Kd.bool (fun _ => True) := ⟨hs, fun _ h => by
  obtain ⟨b, rfl, _⟩ := DataW.trod_bool ht h
  exact ⟨b, rfl, trivial⟩⟩
theorem list_of {p : Nat → α → Prop} : ∀ n, (∀ i, i < n → ∃ x, p i x) → ∃ l : List α, l.length = n ∧ ∀ i x, l[i]? = some x → p i x
  | 0, _ => ⟨[], rfl, fun i x h => by simp at h⟩
  | n + 1, h => by
    obtain ⟨l, hl, hp⟩ := list_of n (fun i hi => h i (by omega))
    obtain ⟨x, hx⟩ := h n (by omega)
    refine ⟨l ++ [x], by simp [hl], fun i y hy => ?_⟩
    rcases Nat.lt_or_ge i l.length with hi | hi
    · exact hp i y (by rwa [List.getElem?_append_left hi] at hy)
    · rw [List.getElem?_append_right hi] at hy
      have h0 : i - l.length = 0 := by
        rcases Nat.eq_zero_or_pos (i - l.length) with h0 | h0
        · exact h0
        · rw [List.getElem?_eq_none (by simp; omega)] at hy
          cases hy
      rw [h0] at hy
      simp only [List.getElem?_cons_zero, Option.some.injEq] at hy
      obtain rfl : i = n := by omega
      rw [← hy]
      exact hx
theorem opn_slice (ht : P.underlying t = some (.slice e)) (hs : P.cellsOf t = 1) (h : Opn P N e d G) : Opn P (N + 1) t (Kd.slice e d) (fun l => ∀ x ∈ l, G x) := ⟨hs, by
  intro H enc w base spare held fuel cs x hf hx
  rcases DataW.trod_slice ht hx with ⟨rfl, _⟩ | ⟨a, len, cap, elems, rest, n, rfl, rfl, _, hb, hl, hm, hlen, hel, _, _⟩
  · exact ⟨[], ⟨none, 0, rfl, Nat.le_refl _, Kd.C_nil d w⟩, by simp⟩
  · have one : ∀ i, i < len → ∃ p : α, G p ∧ ∃ c : List Value, c.length = d.sz ∧ d.K w p c ∧ ∀ j u, c[j]? = some u → w.cell? (a.add (i * d.sz + j)) = some u := by
      intro i hi
      have h1 := hel i hi
      rw [List.getElem?_eq_getElem (by omega)] at h1
      obtain ⟨cs', h2, h3⟩ := Option.bind_eq_some_iff.1 h1
      obtain ⟨p, hp, hg⟩ := h.go (by omega) h3
      obtain ⟨_, hcl, hcc⟩ := World.cells?_some h2
      refine ⟨p, hg, cs', by rw [hcl, h.sz], hp, fun j u hu => ?_⟩
      have hj : j < P.cellsOf e := by rw [← hcl]; exact (List.getElem?_eq_some_iff.1 hu).1
      have h4 := hcc j hj
      rw [hu, Go.Deep.add_add, h.sz] at h4
      exact h4
    obtain ⟨l, rfl, hp⟩ := list_of len one
    have hmx : l.length ≤ 9223372036854775807 := by simp only [maxLen] at hm; omega
    refine ⟨l, ⟨some a, cap, rfl, hl, rfl, hmx, fun _ => ⟨a, rfl, fun j p hj => (hp j p hj).2⟩⟩, fun x hx => ?_⟩
    obtain ⟨j, hj, rfl⟩ := List.getElem_of_mem hx
    exact (hp j _ (List.getElem?_eq_getElem hj)).1⟩
/-- A struct's fields, from the cell 'off' on. -/
structure OpnF (P : Program) (N : Nat) (fs : List Field) (off : Nat) (d : Kd α) (G : α → Prop) : Prop where
  go : ∀ {H : Type} {enc : TypeId × Value → H} {w : World} {base : Nat} {spare : Nat → Bool} {held : Bool} {n : Nat} {cs : List Value} {xs : List (DataW H × List MemPlace)}, n ≤ N → xs.length = fs.length → cs.length = off + d.sz →
    (∀ (i : Nat) (f : Field), fs[i]? = some f → DataW.trod enc P w base spare held n f.type ((cs.drop f.offset).take (P.cellsOf f.type)) = xs[i]?) → ∃ a : α, d.K w a (cs.drop off) ∧ G a
theorem opnF_one {f : Field} {off : Nat} (ho : f.offset = off) (h : Opn P N f.type d G) : OpnF P N [f] off d G := ⟨by
  intro H enc w base spare held n cs xs hn hx hc hall
  have h1 := hall 0 f rfl
  rw [List.getElem?_eq_getElem (by rw [hx]; simp)] at h1
  obtain ⟨a, ha, hg⟩ := h.go hn h1
  rw [ho, List.take_of_length_le (by rw [List.length_drop, h.sz]; omega)] at ha
  exact ⟨a, ha, hg⟩⟩
theorem opnF_cons {f : Field} {fs : List Field} {off : Nat} (ho : f.offset = off) (h : Opn P N f.type d G) (hr : OpnF P N fs (off + d.sz) d' G') : OpnF P N (f :: fs) off (Kd.pair d d') (fun a => G a.1 ∧ G' a.2) := ⟨by
  intro H enc w base spare held n cs xs hn hx hc hall
  have h1 := hall 0 f rfl
  rw [List.getElem?_eq_getElem (by rw [hx]; simp)] at h1
  obtain ⟨a, ha, hg⟩ := h.go hn h1
  obtain ⟨y, ys, rfl⟩ : ∃ y ys, xs = y :: ys := by
    cases xs with
    | nil => simp at hx
    | cons y ys => exact ⟨y, ys, rfl⟩
  have hc' : cs.length = off + (d.sz + d'.sz) := hc
  obtain ⟨b, hb, hg'⟩ := hr.go (xs := ys) (cs := cs) hn (by simpa using hx) (by omega) (fun i g hi => by simpa using hall (i + 1) g (by simpa using hi))
  rw [ho, h.sz] at ha
  refine ⟨(a, b), ⟨(cs.drop off).take d.sz, cs.drop (off + d.sz), ?_, ha, hb⟩, hg, hg'⟩
  rw [← List.drop_drop]
  exact (List.take_append_drop _ _).symm⟩
theorem opn_struct {fs : Array Field} (ht : P.underlying t = some (.struct fs)) (hs : P.cellsOf t = d.sz) (h : OpnF P N fs.toList 0 d G) (f : β → α) (g : α → β) (hfg : ∀ a, f (g a) = a) : Opn P (N + 1) t (Kd.iso d f) (fun b => G (f b)) := ⟨hs, by
  intro H enc w base spare held fuel cs x hf hx
  obtain ⟨xs, n, rfl, _, hl, hlen, hall⟩ := DataW.trod_struct ht hx
  obtain ⟨a, ha, hg⟩ := h.go (xs := xs) (cs := cs) (w := w) (by omega) (by simpa using hlen) (by rw [hl, hs]; omega) (fun i g hi => hall i g (by simpa using hi))
  refine ⟨g a, ?_, by rw [hfg]; exact hg⟩
  show d.K w (f (g a)) cs
  rw [hfg]
  simpa using ha⟩
end
end Go.Proofs.YtbhljokhcmfgjaaGreat.Opens
namespace Go.Proofs.YtbhljokhcmfgjaaGreat.P
open Go.RowKit Go.Proofs.YtbhljokhcmfgjaaGreat.Opens Go.Proofs.YtbhljokhcmfgjaaGreatW.PrintWords
def i64In (n : Int) : Prop := -9223372036854775808 ≤ n ∧ n ≤ 9223372036854775807
theorem i64In_of {n : Int} (h : (Lit.int .i64 n).wf = true) : i64In n := by
  have hmin : IntKind.i64.min = -9223372036854775808 := rfl
  have hmax : IntKind.i64.max = 9223372036854775807 := rfl
  simp only [Lit.wf, Bool.and_eq_true, decide_eq_true_eq, hmin, hmax] at h
  exact h
theorem o3 : ∀ N, Opn Tryz.prog N 3 (Kd.int .i64) (fun x => i64In x) := fun _ => (opn_int Tryz.underlying3 (by kernel_rfl)).imp (fun _ h => i64In_of h)
theorem o4 : ∀ N, Opn Tryz.prog N 4 Kd.bool (fun _ => True) := fun _ => opn_bool Tryz.underlying4 (by kernel_rfl)
def Ok23 (x : S23) : Prop := i64In x.f0 ∧ i64In x.f1 ∧ i64In x.f2 ∧ i64In x.f3 ∧ i64In x.f4 ∧ True
theorem o23 : ∀ N, Opn Tryz.prog N 23 k23 Ok23 := fun N => ((opn_struct (d := (Kd.pair (Kd.int .i64) (Kd.pair (Kd.int .i64) (Kd.pair (Kd.int .i64) (Kd.pair (Kd.int .i64) (Kd.pair (Kd.int .i64) Kd.bool)))))) Tryz.underlying23 (by kernel_rfl) (opnF_cons rfl (o3 N) (opnF_cons rfl (o3 N) (opnF_cons rfl (o3 N) (opnF_cons rfl (o3 N) (opnF_cons rfl (o3 N) (opnF_one rfl (o4 N))))))) (fun x : S23 => (x.f0, x.f1, x.f2, x.f3, x.f4, x.f5)) (fun a => (⟨a.1, a.2.1, a.2.2.1, a.2.2.2.1, a.2.2.2.2.1, a.2.2.2.2.2⟩ : S23)) (fun _ => rfl)).imp (fun _ h => h)).mono (Nat.le_succ N)
def Ok159 (x : S159) : Prop := i64In x.f0 ∧ i64In x.f1
theorem o159 : ∀ N, Opn Tryz.prog N 159 k159 Ok159 := fun N => ((opn_struct (d := (Kd.pair (Kd.int .i64) (Kd.int .i64))) Tryz.underlying159 (by kernel_rfl) (opnF_cons rfl (o3 N) (opnF_one rfl (o3 N))) (fun x : S159 => (x.f0, x.f1)) (fun a => (⟨a.1, a.2⟩ : S159)) (fun _ => rfl)).imp (fun _ h => h)).mono (Nat.le_succ N)
theorem o24 : ∀ N, Opn Tryz.prog N 24 (Kd.slice 159 k159) (fun x => (∀ y ∈ x, Ok159 y)) := fun N => (opn_slice Tryz.underlying24 (by kernel_rfl) (o159 N)).mono (Nat.le_succ N)
def Ok161 (x : S161) : Prop := True ∧ i64In x.f1 ∧ i64In x.f2 ∧ i64In x.f3 ∧ i64In x.f4
theorem o161 : ∀ N, Opn Tryz.prog N 161 k161 Ok161 := fun N => ((opn_struct (d := (Kd.pair Kd.bool (Kd.pair (Kd.int .i64) (Kd.pair (Kd.int .i64) (Kd.pair (Kd.int .i64) (Kd.int .i64)))))) Tryz.underlying161 (by kernel_rfl) (opnF_cons rfl (o4 N) (opnF_cons rfl (o3 N) (opnF_cons rfl (o3 N) (opnF_cons rfl (o3 N) (opnF_one rfl (o3 N)))))) (fun x : S161 => (x.f0, x.f1, x.f2, x.f3, x.f4)) (fun a => (⟨a.1, a.2.1, a.2.2.1, a.2.2.2.1, a.2.2.2.2⟩ : S161)) (fun _ => rfl)).imp (fun _ h => h)).mono (Nat.le_succ N)
theorem o25 : ∀ N, Opn Tryz.prog N 25 (Kd.slice 161 k161) (fun x => (∀ y ∈ x, Ok161 y)) := fun N => (opn_slice Tryz.underlying25 (by kernel_rfl) (o161 N)).mono (Nat.le_succ N)
def Ok118 (x : S118) : Prop := i64In x.f0 ∧ i64In x.f1 ∧ i64In x.f2 ∧ i64In x.f3
theorem o118 : ∀ N, Opn Tryz.prog N 118 k118 Ok118 := fun N => ((opn_struct (d := (Kd.pair (Kd.int .i64) (Kd.pair (Kd.int .i64) (Kd.pair (Kd.int .i64) (Kd.int .i64))))) Tryz.underlying118 (by kernel_rfl) (opnF_cons rfl (o3 N) (opnF_cons rfl (o3 N) (opnF_cons rfl (o3 N) (opnF_one rfl (o3 N))))) (fun x : S118 => (x.f0, x.f1, x.f2, x.f3)) (fun a => (⟨a.1, a.2.1, a.2.2.1, a.2.2.2⟩ : S118)) (fun _ => rfl)).imp (fun _ h => h)).mono (Nat.le_succ N)
theorem o26 : ∀ N, Opn Tryz.prog N 26 (Kd.slice 118 k118) (fun x => (∀ y ∈ x, Ok118 y)) := fun N => (opn_slice Tryz.underlying26 (by kernel_rfl) (o118 N)).mono (Nat.le_succ N)
theorem o27 : ∀ N, Opn Tryz.prog N 27 (Kd.slice 3 (Kd.int .i64)) (fun x => (∀ y ∈ x, i64In y)) := fun N => (opn_slice Tryz.underlying27 (by kernel_rfl) (o3 N)).mono (Nat.le_succ N)
def Ok77 (x : S77) : Prop := i64In x.f0 ∧ i64In x.f1
theorem o77 : ∀ N, Opn Tryz.prog N 77 k77 Ok77 := fun N => ((opn_struct (d := (Kd.pair (Kd.int .i64) (Kd.int .i64))) Tryz.underlying77 (by kernel_rfl) (opnF_cons rfl (o3 N) (opnF_one rfl (o3 N))) (fun x : S77 => (x.f0, x.f1)) (fun a => (⟨a.1, a.2⟩ : S77)) (fun _ => rfl)).imp (fun _ h => h)).mono (Nat.le_succ N)
theorem o28 : ∀ N, Opn Tryz.prog N 28 (Kd.slice 77 k77) (fun x => (∀ y ∈ x, Ok77 y)) := fun N => (opn_slice Tryz.underlying28 (by kernel_rfl) (o77 N)).mono (Nat.le_succ N)
def Ok123 (x : S123) : Prop := (∀ y ∈ x.f0, i64In y) ∧ (∀ y ∈ x.f1, i64In y)
theorem o123 : ∀ N, Opn Tryz.prog N 123 k123 Ok123 := fun N => ((opn_struct (d := (Kd.pair (Kd.slice 3 (Kd.int .i64)) (Kd.slice 3 (Kd.int .i64)))) Tryz.underlying123 (by kernel_rfl) (opnF_cons rfl (o27 N) (opnF_one rfl (o27 N))) (fun x : S123 => (x.f0, x.f1)) (fun a => (⟨a.1, a.2⟩ : S123)) (fun _ => rfl)).imp (fun _ h => h)).mono (Nat.le_succ N)
theorem o119 : ∀ N, Opn Tryz.prog N 119 (Kd.slice 123 k123) (fun x => (∀ y ∈ x, Ok123 y)) := fun N => (opn_slice Tryz.underlying119 (by kernel_rfl) (o123 N)).mono (Nat.le_succ N)
def Ok121 (x : S121) : Prop := i64In x.f0 ∧ (∀ y ∈ x.f1, Ok123 y)
theorem o121 : ∀ N, Opn Tryz.prog N 121 k121 Ok121 := fun N => ((opn_struct (d := (Kd.pair (Kd.int .i64) (Kd.slice 123 k123))) Tryz.underlying121 (by kernel_rfl) (opnF_cons rfl (o3 N) (opnF_one rfl (o119 N))) (fun x : S121 => (x.f0, x.f1)) (fun a => (⟨a.1, a.2⟩ : S121)) (fun _ => rfl)).imp (fun _ h => h)).mono (Nat.le_succ N)
theorem o29 : ∀ N, Opn Tryz.prog N 29 (Kd.slice 121 k121) (fun x => (∀ y ∈ x, Ok121 y)) := fun N => (opn_slice Tryz.underlying29 (by kernel_rfl) (o121 N)).mono (Nat.le_succ N)
def Ok163 (x : S163) : Prop := i64In x.f0 ∧ i64In x.f1
theorem o163 : ∀ N, Opn Tryz.prog N 163 k163 Ok163 := fun N => ((opn_struct (d := (Kd.pair (Kd.int .i64) (Kd.int .i64))) Tryz.underlying163 (by kernel_rfl) (opnF_cons rfl (o3 N) (opnF_one rfl (o3 N))) (fun x : S163 => (x.f0, x.f1)) (fun a => (⟨a.1, a.2⟩ : S163)) (fun _ => rfl)).imp (fun _ h => h)).mono (Nat.le_succ N)
theorem o130 : ∀ N, Opn Tryz.prog N 130 (Kd.slice 163 k163) (fun x => (∀ y ∈ x, Ok163 y)) := fun N => (opn_slice Tryz.underlying130 (by kernel_rfl) (o163 N)).mono (Nat.le_succ N)
def Ok165 (x : S165) : Prop := i64In x.f0 ∧ i64In x.f1 ∧ i64In x.f2 ∧ i64In x.f3 ∧ True
theorem o165 : ∀ N, Opn Tryz.prog N 165 k165 Ok165 := fun N => ((opn_struct (d := (Kd.pair (Kd.int .i64) (Kd.pair (Kd.int .i64) (Kd.pair (Kd.int .i64) (Kd.pair (Kd.int .i64) Kd.bool))))) Tryz.underlying165 (by kernel_rfl) (opnF_cons rfl (o3 N) (opnF_cons rfl (o3 N) (opnF_cons rfl (o3 N) (opnF_cons rfl (o3 N) (opnF_one rfl (o4 N)))))) (fun x : S165 => (x.f0, x.f1, x.f2, x.f3, x.f4)) (fun a => (⟨a.1, a.2.1, a.2.2.1, a.2.2.2.1, a.2.2.2.2⟩ : S165)) (fun _ => rfl)).imp (fun _ h => h)).mono (Nat.le_succ N)
theorem o131 : ∀ N, Opn Tryz.prog N 131 (Kd.slice 165 k165) (fun x => (∀ y ∈ x, Ok165 y)) := fun N => (opn_slice Tryz.underlying131 (by kernel_rfl) (o165 N)).mono (Nat.le_succ N)
def Ok133 (x : S133) : Prop := i64In x.f0 ∧ (∀ y ∈ x.f1, Ok163 y) ∧ i64In x.f2 ∧ (∀ y ∈ x.f3, Ok165 y)
theorem o133 : ∀ N, Opn Tryz.prog N 133 k133 Ok133 := fun N => ((opn_struct (d := (Kd.pair (Kd.int .i64) (Kd.pair (Kd.slice 163 k163) (Kd.pair (Kd.int .i64) (Kd.slice 165 k165))))) Tryz.underlying133 (by kernel_rfl) (opnF_cons rfl (o3 N) (opnF_cons rfl (o130 N) (opnF_cons rfl (o3 N) (opnF_one rfl (o131 N))))) (fun x : S133 => (x.f0, x.f1, x.f2, x.f3)) (fun a => (⟨a.1, a.2.1, a.2.2.1, a.2.2.2⟩ : S133)) (fun _ => rfl)).imp (fun _ h => h)).mono (Nat.le_succ N)
theorem o30 : ∀ N, Opn Tryz.prog N 30 (Kd.slice 133 k133) (fun x => (∀ y ∈ x, Ok133 y)) := fun N => (opn_slice Tryz.underlying30 (by kernel_rfl) (o133 N)).mono (Nat.le_succ N)
structure S32 where
  f0 : Int
  f1 : (List S133)
  f2 : (List S133)
def k32 : Kd S32 := Kd.iso (Kd.pair (Kd.int .i64) (Kd.pair (Kd.slice 133 k133) (Kd.slice 133 k133))) (fun x : S32 => (x.f0, x.f1, x.f2))
def Ok32 (x : S32) : Prop := i64In x.f0 ∧ (∀ y ∈ x.f1, Ok133 y) ∧ (∀ y ∈ x.f2, Ok133 y)
theorem o32 : ∀ N, Opn Tryz.prog N 32 k32 Ok32 := fun N => ((opn_struct (d := (Kd.pair (Kd.int .i64) (Kd.pair (Kd.slice 133 k133) (Kd.slice 133 k133)))) Tryz.underlying32 (by kernel_rfl) (opnF_cons rfl (o3 N) (opnF_cons rfl (o30 N) (opnF_one rfl (o30 N)))) (fun x : S32 => (x.f0, x.f1, x.f2)) (fun a => (⟨a.1, a.2.1, a.2.2⟩ : S32)) (fun _ => rfl)).imp (fun _ h => h)).mono (Nat.le_succ N)
structure S34 where
  f0 : (List Int)
  f1 : (List S77)
  f2 : (List S77)
  f3 : (List Int)
  f4 : (List S121)
  f5 : S32
def k34 : Kd S34 := Kd.iso (Kd.pair (Kd.slice 3 (Kd.int .i64)) (Kd.pair (Kd.slice 77 k77) (Kd.pair (Kd.slice 77 k77) (Kd.pair (Kd.slice 3 (Kd.int .i64)) (Kd.pair (Kd.slice 121 k121) k32))))) (fun x : S34 => (x.f0, x.f1, x.f2, x.f3, x.f4, x.f5))
def Ok34 (x : S34) : Prop := (∀ y ∈ x.f0, i64In y) ∧ (∀ y ∈ x.f1, Ok77 y) ∧ (∀ y ∈ x.f2, Ok77 y) ∧ (∀ y ∈ x.f3, i64In y) ∧ (∀ y ∈ x.f4, Ok121 y) ∧ Ok32 x.f5
theorem o34 : ∀ N, Opn Tryz.prog N 34 k34 Ok34 := fun N => ((opn_struct (d := (Kd.pair (Kd.slice 3 (Kd.int .i64)) (Kd.pair (Kd.slice 77 k77) (Kd.pair (Kd.slice 77 k77) (Kd.pair (Kd.slice 3 (Kd.int .i64)) (Kd.pair (Kd.slice 121 k121) k32)))))) Tryz.underlying34 (by kernel_rfl) (opnF_cons rfl (o27 N) (opnF_cons rfl (o28 N) (opnF_cons rfl (o28 N) (opnF_cons rfl (o27 N) (opnF_cons rfl (o29 N) (opnF_one rfl (o32 N))))))) (fun x : S34 => (x.f0, x.f1, x.f2, x.f3, x.f4, x.f5)) (fun a => (⟨a.1, a.2.1, a.2.2.1, a.2.2.2.1, a.2.2.2.2.1, a.2.2.2.2.2⟩ : S34)) (fun _ => rfl)).imp (fun _ h => h)).mono (Nat.le_succ N)
structure S36 where
  f0 : S23
  f1 : (List S159)
  f2 : (List S161)
  f3 : (List S118)
  f4 : S34
def k36 : Kd S36 := Kd.iso (Kd.pair k23 (Kd.pair (Kd.slice 159 k159) (Kd.pair (Kd.slice 161 k161) (Kd.pair (Kd.slice 118 k118) k34)))) (fun x : S36 => (x.f0, x.f1, x.f2, x.f3, x.f4))
def Ok36 (x : S36) : Prop := Ok23 x.f0 ∧ (∀ y ∈ x.f1, Ok159 y) ∧ (∀ y ∈ x.f2, Ok161 y) ∧ (∀ y ∈ x.f3, Ok118 y) ∧ Ok34 x.f4
theorem o36 : ∀ N, Opn Tryz.prog N 36 k36 Ok36 := fun N => ((opn_struct (d := (Kd.pair k23 (Kd.pair (Kd.slice 159 k159) (Kd.pair (Kd.slice 161 k161) (Kd.pair (Kd.slice 118 k118) k34))))) Tryz.underlying36 (by kernel_rfl) (opnF_cons rfl (o23 N) (opnF_cons rfl (o24 N) (opnF_cons rfl (o25 N) (opnF_cons rfl (o26 N) (opnF_one rfl (o34 N)))))) (fun x : S36 => (x.f0, x.f1, x.f2, x.f3, x.f4)) (fun a => (⟨a.1, a.2.1, a.2.2.1, a.2.2.2.1, a.2.2.2.2⟩ : S36)) (fun _ => rfl)).imp (fun _ h => h)).mono (Nat.le_succ N)
def GB39 (g : S67 → Prop) (x : S39) : Prop := i64In x.f0 ∧ i64In x.f1 ∧ i64In x.f2 ∧ i64In x.f3 ∧ i64In x.f4 ∧ i64In x.f5 ∧ (∀ y ∈ x.f6, g y)
def GU67 : Nat → S67 → Prop
  | 0, _ => False
  | n + 1, x => i64In x.f0 ∧ i64In x.f1 ∧ GB39 (GU67 n) x.f2
def Ok67 (x : S67) : Prop := ∃ n, GU67 n x
def Ok39 (x : S39) : Prop := GB39 Ok67 x
theorem oB39 {N : Nat} {d : Kd S67} {g : S67 → Prop} (hd : d.sz = k67.sz) (h : Opn Tryz.prog N 67 d g) : Opn Tryz.prog (N + 2) 39 (G39 d) (GB39 g) :=
  (opn_struct (d := (Kd.pair (Kd.int .i64) (Kd.pair (Kd.int .i64) (Kd.pair (Kd.int .i64) (Kd.pair (Kd.int .i64) (Kd.pair (Kd.int .i64) (Kd.pair (Kd.int .i64) (Kd.slice 67 d)))))))) Tryz.underlying39 (by show Program.cellsOf _ _ = _; first | kernel_rfl | (simp only [Kd.pair]; kernel_rfl)) (opnF_cons rfl (o3 (N + 1)) (opnF_cons rfl (o3 (N + 1)) (opnF_cons rfl (o3 (N + 1)) (opnF_cons rfl (o3 (N + 1)) (opnF_cons rfl (o3 (N + 1)) (opnF_cons rfl (o3 (N + 1)) (opnF_one rfl (opn_slice Tryz.underlying37 (by kernel_rfl) h)))))))) (fun x : S39 => (x.f0, x.f1, x.f2, x.f3, x.f4, x.f5, x.f6)) (fun a => (⟨a.1, a.2.1, a.2.2.1, a.2.2.2.1, a.2.2.2.2.1, a.2.2.2.2.2.1, a.2.2.2.2.2.2⟩ : S39)) (fun _ => rfl)).imp (fun _ h => h)
theorem oU67 : ∀ N, Opn Tryz.prog N 67 (Kd.upto F67 9 [67] N) (GU67 N)
  | 0 => Opn.zero (by kernel_rfl)
  | N + 1 => by
    have ih := oU67 N
    have hb := oB39 (sz67 N) ih
    exact ((opn_struct (d := (Kd.pair (Kd.int .i64) (Kd.pair (Kd.int .i64) (G39 (Kd.upto F67 9 [67] N))))) (N := N + 2) Tryz.underlying67 (by show _ = _; have := sz67 (N + 1); exact (show Program.cellsOf Tryz.prog 67 = _ from by kernel_rfl).trans this.symm) (opnF_cons rfl (o3 (N + 2)) (opnF_cons rfl (o3 (N + 2)) (opnF_one rfl hb))) (fun x : S67 => (x.f0, x.f1, x.f2)) (fun a => (⟨a.1, a.2.1, a.2.2⟩ : S67)) (fun _ => rfl)).imp (fun _ h => h)).mono (by omega)
theorem o67 : ∀ N, Opn Tryz.prog N 67 k67 Ok67 := fun N => ((oU67 N).imp (fun _ h => ⟨N, h⟩)).kind (sz67 N).symm (fun _ _ _ h => ⟨N, h⟩)
theorem o39 : ∀ N, Opn Tryz.prog N 39 k39 Ok39 := fun N => (oB39 rfl (o67 N)).mono (by omega)
end Go.Proofs.YtbhljokhcmfgjaaGreat.P
namespace Go.Proofs.YtbhljokhcmfgjaaGreat.P
open Go.RowKit Go.Proofs.YtbhljokhcmfgjaaGreatW.PrintWords Go.Proofs.YtbhljokhcmfgjaaGreatW.PrintLast Go.Proofs.YtbhljokhcmfgjaaGreatW.PrintMore
attribute [local go_sem] max2_int min2_int max_two min_two max_three min_three max_four min_four
set_option linter.unusedVariables false
set_option linter.unusedSimpArgs false
set_option maxHeartbeats 8000000 in
set_option maxRecDepth 100000 in
theorem style_Size.callsU (k : Nat) (A0 : Option Addr) (c0 : Nat) (l0 : List Int) (a1 : Int) (a2 : Int) (r1 : Int) (r2 : Int) (w : World) (hr0 : Kd.C (Kd.int .i64) w A0 l0.length l0) (h : style_Size.f k l0 a1 a2 = some (r1, r2)) :
    Calls Tryz.prog 34 #[.slice A0 l0.length c0, .int .i64 a1, .int .i64 a2] w fun e w' => e = .returned (.tuple #[.int .i64 r1, .int .i64 r2]) ∧ Below w.heap.size w w' := by
  have HR0 := Aside0.mk hr0
  clear hr0
  have HB := Aside0.mk (Below.refl w.heap.size w)
  have H : ((style_Is.f a1).bind fun t159 => (if t159 = true then ((fixed_Is.f k (([a2] : List Int))).bind fun t163 => (if t163 = true then (if a2 < 0 then (style_Size.j0 k l0 a1 a2 true) else ((konst_Is.f l0).bind fun t164 => (style_Size.j0 k l0 a1 a2 (!t164)))) else (style_Size.j0 k l0 a1 a2 true))) else (style_Size.j0 k l0 a1 a2 true))) = some (r1, r2) := h
  clear h
  have HC4 := Aside0.mk H
  clear H
  go_enter Tryz.func34, Tryz.ntmps34
  go_upto_region 1 with (fail)
  go_cut [28] (fun v28 wc => ∃ (kq : Nat) (x28_3 : Bool), v28 = .bool x28_3 ∧ Aside0 (style_Size.j0 kq l0 a1 a2 x28_3 = some (r1, r2)) ∧ Aside0 (kq ≤ k) ∧ Aside0 (Below w.heap.size w wc))
  case first =>
    have H := HC4.out
    clear HC4
    replace H := Option.bind_eq_some_iff.mp H
    obtain ⟨t159, A50, H⟩ := H
    replace H : (if t159 = true then ((fixed_Is.f k (([a2] : List Int))).bind fun t163 => (if t163 = true then (if a2 < 0 then (style_Size.j0 k l0 a1 a2 true) else ((konst_Is.f l0).bind fun t164 => (style_Size.j0 k l0 a1 a2 (!t164)))) else (style_Size.j0 k l0 a1 a2 true))) else (style_Size.j0 k l0 a1 a2 true)) = some (r1, r2) := H
    have A5 := Aside0.mk A50
    clear A50
    by_cases c6 : t159 = true
    · subst c6
      have H1 : ((fixed_Is.f k (([a2] : List Int))).bind fun t163 => (if t163 = true then (if a2 < 0 then (style_Size.j0 k l0 a1 a2 true) else ((konst_Is.f l0).bind fun t164 => (style_Size.j0 k l0 a1 a2 (!t164)))) else (style_Size.j0 k l0 a1 a2 true))) = some (r1, r2) := by rw [if_pos rfl] at H; exact H
      clear H
      have H := H1
      clear H1
      obtain ⟨y160, hy160⟩ : ∃ y_ : List Int, y_ = (([a2] : List Int)) := ⟨_, rfl⟩
      replace H : ((fixed_Is.f k y160).bind fun t163 => (if t163 = true then (if a2 < 0 then (style_Size.j0 k l0 a1 a2 true) else ((konst_Is.f l0).bind fun t164 => (style_Size.j0 k l0 a1 a2 (!t164)))) else (style_Size.j0 k l0 a1 a2 true))) = some (r1, r2) := by first | (rw [hy160]; with_reducible exact H) | (have H2_ := (Option.bind_some _ _).symm.trans H; rw [hy160]; with_reducible exact H2_) | (have H2_ := (Option.bind_some _ _).symm.trans H; with_reducible exact H2_) | with_reducible exact H | (rw [hy160]; exact H) | exact H
      have Ny160 := Aside0.mk hy160
      clear hy160
      replace H := Option.bind_eq_some_iff.mp H
      obtain ⟨t163, A70, H⟩ := H
      replace H : (if t163 = true then (if a2 < 0 then (style_Size.j0 k l0 a1 a2 true) else ((konst_Is.f l0).bind fun t164 => (style_Size.j0 k l0 a1 a2 (!t164)))) else (style_Size.j0 k l0 a1 a2 true)) = some (r1, r2) := H
      have A7 := Aside0.mk A70
      clear A70
      by_cases c8 : t163 = true
      · subst c8
        have H1 : (if a2 < 0 then (style_Size.j0 k l0 a1 a2 true) else ((konst_Is.f l0).bind fun t164 => (style_Size.j0 k l0 a1 a2 (!t164)))) = some (r1, r2) := by rw [if_pos rfl] at H; exact H
        clear H
        have H := H1
        clear H1
        by_cases c9 : a2 < 0
        · rw [if_pos c9] at H
          have c9b0 : decide (a2 < 0) = true := decide_eq_true c9
          clear c9
          (first | rw [c9b0] | (simp only [i64_w, i32_w]; rw [c9b0]) | skip)
          have H' := Aside0.mk H
          clear H
          go_wp2_with (first | ((with_reducible refine gate_callee (f := 54) rfl ?_); refine goesL_ (some 12) rfl rfl Tryz.func54 (by kernel_rfl) rfl #[.int .i64 a1] rfl (by (try simp only [List.map_toArray, List.map_cons, List.map_nil]); first | done | rfl | (simp only [List.length_drop, List.length_take]; rfl)) ?_; (with_reducible refine (style_Is.calls a1 true _ A5.out).mono ?_); rintro e w' ⟨rfl, ⟨nd, rfl⟩⟩; refine ⟨_, rfl, ?_⟩) | ((with_reducible refine gate_dst (N := 16) rfl ?_); (try (refine gate_guard (by rfl) ?_; dsimp only)); refine Kd.R_lit (Kd.int .i64) _ 3 ?hg (N := 16) ?hd (xs := ([a2] : List Int)) (inner := [.int .i64 a2]) (ok := fun _ => True) (okp := fun _ => True) ?hr ?hp (fun _ hk => hk) trivial (Below.refl _ _) (Nat.le_refl _) (by simp) ?_; (case hd => rfl); (case hg => rfl); (case hr => first | (go_simp; done) | (go_simp; rfl)); (case hp => exact (Reps.one (show Kd.M (Kd.int .i64) _ _ _ a2 [.int .i64 a2] from rfl) (Reps.none _ _))); intro v161 w10 ho11 hb hg_ hnew_; clear hg_ hnew_; (first | rw [← Ny160.out] at ho11 | (simp only [Int.reduceToNat] at ho11; rw [← Ny160.out] at ho11)); have n0_ := Aside0.mk (Kd.R_lower ho11 (below_size (by repeat (first | (with_reducible first | exact HB.out | apply below_alloc | apply pw_below_drewN | apply below_drew1) | exact HB.out)))); have n1_ := Aside0.mk (below_step (by repeat (first | (with_reducible first | exact HB.out | apply below_alloc | apply pw_below_drewN | apply below_drew1) | exact HB.out)) hb); clear HB; have HO162 := n0_; have HB := n1_; clear n0_ n1_; clear hb ho11; obtain ⟨Ao12, co12, eo12⟩ := Kd.R_slice HO162.out; subst eo12) | (go_at_call 45; (with_reducible refine (fixed_Is.calls k _ _ y160 true _ ?side1 ?side2 A7.out).mono ?_); (case side1 => repeat (first | exact (Kd.R_reads' HO162.out).2.2 | (with_reducible refine Kd.C_alloc ?_ _) | (with_reducible refine Kd.C_drewN ?_ _) | (with_reducible refine Kd.C_drew ?_))); (case side2 => exact (Kd.R_reads' HO162.out).2.1); rintro e w' ⟨rfl, ⟨nd, rfl⟩⟩))
          go_meet
          case rel => exact ⟨_, (true), (by first | rfl | (simp; done) | (simp [*]; done)), H', ⟨by first | omega | exact Nat.le_refl _⟩, ⟨by repeat (first | (with_reducible first | exact HB.out | apply below_alloc | apply pw_below_drewN | apply below_drew1) | exact HB.out)⟩⟩
        · rw [if_neg c9] at H
          have c9b0 : decide (a2 < 0) = false := decide_eq_false c9
          clear c9
          (first | rw [c9b0] | (simp only [i64_w, i32_w]; rw [c9b0]) | skip)
          replace H := Option.bind_eq_some_iff.mp H
          obtain ⟨t164, A130, H⟩ := H
          replace H : (style_Size.j0 k l0 a1 a2 (!t164)) = some (r1, r2) := H
          have A13 := Aside0.mk A130
          clear A130
          have H' := Aside0.mk H
          clear H
          go_wp2_with (first | ((with_reducible refine gate_callee (f := 54) rfl ?_); refine goesL_ (some 12) rfl rfl Tryz.func54 (by kernel_rfl) rfl #[.int .i64 a1] rfl (by (try simp only [List.map_toArray, List.map_cons, List.map_nil]); first | done | rfl | (simp only [List.length_drop, List.length_take]; rfl)) ?_; (with_reducible refine (style_Is.calls a1 true _ A5.out).mono ?_); rintro e w' ⟨rfl, ⟨nd, rfl⟩⟩; refine ⟨_, rfl, ?_⟩) | ((with_reducible refine gate_dst (N := 16) rfl ?_); (try (refine gate_guard (by rfl) ?_; dsimp only)); refine Kd.R_lit (Kd.int .i64) _ 3 ?hg (N := 16) ?hd (xs := ([a2] : List Int)) (inner := [.int .i64 a2]) (ok := fun _ => True) (okp := fun _ => True) ?hr ?hp (fun _ hk => hk) trivial (Below.refl _ _) (Nat.le_refl _) (by simp) ?_; (case hd => rfl); (case hg => rfl); (case hr => first | (go_simp; done) | (go_simp; rfl)); (case hp => exact (Reps.one (show Kd.M (Kd.int .i64) _ _ _ a2 [.int .i64 a2] from rfl) (Reps.none _ _))); intro v161 w14 ho15 hb hg_ hnew_; clear hg_ hnew_; (first | rw [← Ny160.out] at ho15 | (simp only [Int.reduceToNat] at ho15; rw [← Ny160.out] at ho15)); have n0_ := Aside0.mk (Kd.R_lower ho15 (below_size (by repeat (first | (with_reducible first | exact HB.out | apply below_alloc | apply pw_below_drewN | apply below_drew1) | exact HB.out)))); have n1_ := Aside0.mk (below_step (by repeat (first | (with_reducible first | exact HB.out | apply below_alloc | apply pw_below_drewN | apply below_drew1) | exact HB.out)) hb); clear HB; have HO162 := n0_; have HB := n1_; clear n0_ n1_; clear hb ho15; obtain ⟨Ao16, co16, eo16⟩ := Kd.R_slice HO162.out; subst eo16) | (go_at_call 45; (with_reducible refine (fixed_Is.calls k _ _ y160 true _ ?side1 ?side2 A7.out).mono ?_); (case side1 => repeat (first | exact (Kd.R_reads' HO162.out).2.2 | (with_reducible refine Kd.C_alloc ?_ _) | (with_reducible refine Kd.C_drewN ?_ _) | (with_reducible refine Kd.C_drew ?_))); (case side2 => exact (Kd.R_reads' HO162.out).2.1); rintro e w' ⟨rfl, ⟨nd, rfl⟩⟩) | (go_at_call 55; (with_reducible refine (konst_Is.callsU _ _ l0 t164 _ ?side1 A13.out).mono ?_); (case side1 => repeat (first | exact (Kd.C_below HR0.out (by repeat (first | (with_reducible first | exact HB.out | apply below_alloc | apply pw_below_drewN | apply below_drew1) | exact HB.out))) | (with_reducible refine Kd.C_alloc ?_ _) | (with_reducible refine Kd.C_drewN ?_ _) | (with_reducible refine Kd.C_drew ?_))); rintro e w17 ⟨rfl, hb⟩; have n0_ := Aside0.mk (Kd.R_below (by (with_reducible repeat (first | apply Kd.R_alloc | apply Kd.R_drewN | apply Kd.R_drew)); exact HO162.out) hb); have n1_ := Aside0.mk (below_step (by repeat (first | (with_reducible first | exact HB.out | apply below_alloc | apply pw_below_drewN | apply below_drew1) | exact HB.out)) hb); clear HO162; clear HB; have HO162 := n0_; have HB := n1_; clear n0_ n1_; (try clear hb); (try clear hb2); (try clear hk); (try clear hi)))
          go_meet
          case rel => exact ⟨_, (!t164), (by first | rfl | (simp; done) | (simp [*]; done)), H', ⟨by first | omega | exact Nat.le_refl _⟩, ⟨by repeat (first | (with_reducible first | exact HB.out | apply below_alloc | apply pw_below_drewN | apply below_drew1) | exact HB.out)⟩⟩
      · replace c8 := Bool.eq_false_iff.mpr c8
        subst c8
        have H1 : (style_Size.j0 k l0 a1 a2 true) = some (r1, r2) := by rw [if_neg (show ¬ (false = true) by decide)] at H; exact H
        clear H
        have H := H1
        clear H1
        have H' := Aside0.mk H
        clear H
        go_wp2_with (first | ((with_reducible refine gate_callee (f := 54) rfl ?_); refine goesL_ (some 12) rfl rfl Tryz.func54 (by kernel_rfl) rfl #[.int .i64 a1] rfl (by (try simp only [List.map_toArray, List.map_cons, List.map_nil]); first | done | rfl | (simp only [List.length_drop, List.length_take]; rfl)) ?_; (with_reducible refine (style_Is.calls a1 true _ A5.out).mono ?_); rintro e w' ⟨rfl, ⟨nd, rfl⟩⟩; refine ⟨_, rfl, ?_⟩) | ((with_reducible refine gate_dst (N := 16) rfl ?_); (try (refine gate_guard (by rfl) ?_; dsimp only)); refine Kd.R_lit (Kd.int .i64) _ 3 ?hg (N := 16) ?hd (xs := ([a2] : List Int)) (inner := [.int .i64 a2]) (ok := fun _ => True) (okp := fun _ => True) ?hr ?hp (fun _ hk => hk) trivial (Below.refl _ _) (Nat.le_refl _) (by simp) ?_; (case hd => rfl); (case hg => rfl); (case hr => first | (go_simp; done) | (go_simp; rfl)); (case hp => exact (Reps.one (show Kd.M (Kd.int .i64) _ _ _ a2 [.int .i64 a2] from rfl) (Reps.none _ _))); intro v161 w18 ho19 hb hg_ hnew_; clear hg_ hnew_; (first | rw [← Ny160.out] at ho19 | (simp only [Int.reduceToNat] at ho19; rw [← Ny160.out] at ho19)); have n0_ := Aside0.mk (Kd.R_lower ho19 (below_size (by repeat (first | (with_reducible first | exact HB.out | apply below_alloc | apply pw_below_drewN | apply below_drew1) | exact HB.out)))); have n1_ := Aside0.mk (below_step (by repeat (first | (with_reducible first | exact HB.out | apply below_alloc | apply pw_below_drewN | apply below_drew1) | exact HB.out)) hb); clear HB; have HO162 := n0_; have HB := n1_; clear n0_ n1_; clear hb ho19; obtain ⟨Ao20, co20, eo20⟩ := Kd.R_slice HO162.out; subst eo20) | (go_at_call 45; (with_reducible refine (fixed_Is.calls k _ _ y160 false _ ?side1 ?side2 A7.out).mono ?_); (case side1 => repeat (first | exact (Kd.R_reads' HO162.out).2.2 | (with_reducible refine Kd.C_alloc ?_ _) | (with_reducible refine Kd.C_drewN ?_ _) | (with_reducible refine Kd.C_drew ?_))); (case side2 => exact (Kd.R_reads' HO162.out).2.1); rintro e w' ⟨rfl, ⟨nd, rfl⟩⟩))
        go_meet
        case rel => exact ⟨_, (true), (by first | rfl | (simp; done) | (simp [*]; done)), H', ⟨by first | omega | exact Nat.le_refl _⟩, ⟨by repeat (first | (with_reducible first | exact HB.out | apply below_alloc | apply pw_below_drewN | apply below_drew1) | exact HB.out)⟩⟩
    · replace c6 := Bool.eq_false_iff.mpr c6
      subst c6
      have H1 : (style_Size.j0 k l0 a1 a2 true) = some (r1, r2) := by rw [if_neg (show ¬ (false = true) by decide)] at H; exact H
      clear H
      have H := H1
      clear H1
      have H' := Aside0.mk H
      clear H
      go_wp2_with (first | ((with_reducible refine gate_callee (f := 54) rfl ?_); refine goesL_ (some 12) rfl rfl Tryz.func54 (by kernel_rfl) rfl #[.int .i64 a1] rfl (by (try simp only [List.map_toArray, List.map_cons, List.map_nil]); first | done | rfl | (simp only [List.length_drop, List.length_take]; rfl)) ?_; (with_reducible refine (style_Is.calls a1 false _ A5.out).mono ?_); rintro e w' ⟨rfl, ⟨nd, rfl⟩⟩; refine ⟨_, rfl, ?_⟩))
      go_meet
      case rel => exact ⟨_, (true), (by first | rfl | (simp; done) | (simp [*]; done)), H', ⟨by first | omega | exact Nat.le_refl _⟩, ⟨by repeat (first | (with_reducible first | exact HB.out | apply below_alloc | apply pw_below_drewN | apply below_drew1) | exact HB.out)⟩⟩
  case rest =>
    clear HC4
    try clear p2
    try clear c5
    try clear c6
    try clear c8
    try clear c9
    try clear c9b0
    obtain ⟨kq, x28_3, rfl, HA, HJ3, HB⟩ := hcut
    cases kq with
    | zero => exact absurd HA.out (by simp [style_Size.j0])
    | succ kj3 =>
      have H := HA.out
      clear HA
      simp only [style_Size.j0] at H
      by_cases c21 : x28_3 = true
      · subst c21
        have H1 : (some (0, 1)) = some (r1, r2) := by rw [if_pos rfl] at H; exact H
        clear H
        have H := H1
        clear H1
        simp only [Option.some.injEq, Prod.mk.injEq] at H
        obtain ⟨rfl, rfl⟩ := H
        go_wp2
        go_ret2
        exact ⟨by first | rfl | (simp [errW_none, errW_some] <;> rfl) | (simp [*, errW_none, errW_some] <;> rfl), by repeat (first | (with_reducible first | exact HB.out | apply below_alloc | apply pw_below_drewN | apply below_drew1) | exact HB.out)⟩
      · replace c21 := Bool.eq_false_iff.mpr c21
        subst c21
        have H1 : (if 0 < (l0.length : Int) then (if a1 < 4 then (some (a2, 0)) else (if a1 ≥ 6 then (if 1 < (l0.length : Int) then ((fixed_MulDiv.f a2 (rd l0 1) 100).bind fun bt167 => (if bt167.1 < 0 then (some (0, 1)) else (some (bt167.1, bt167.2)))) else (none)) else ((fixed_MulDiv.f a2 (rd l0 0) 100).bind fun bt169 => (if bt169.1 < 0 then (some (0, 1)) else (some (bt169.1, bt169.2)))))) else (none)) = some (r1, r2) := by rw [if_neg (show ¬ (false = true) by decide)] at H; exact H
        clear H
        have H := H1
        clear H1
        by_cases c22 : 0 < (l0.length : Int)
        · rw [if_pos c22] at H
          have c22b0 : decide (0 < (l0.length : Int)) = true := decide_eq_true c22
          have c22b1 : decide (0 < l0.length) = true := decide_eq_true (by omega)
          clear c22
          by_cases c23 : a1 < 4
          · rw [if_pos c23] at H
            have c23b0 : decide (a1 < 4) = true := decide_eq_true c23
            clear c23
            simp only [Option.some.injEq, Prod.mk.injEq] at H
            obtain ⟨rfl, rfl⟩ := H
            have p165 : 0 ≤ (0 : Int) := (by omega)
            have q165 : 0 < (l0.length : Int) := of_decide_eq_true (by first | (with_reducible assumption) | assumption)
            obtain ⟨ad165, e165, hx165_0⟩ := Kd.at_int HR0.out 0 p165 q165
            cases e165
            have qi165 : (0 < l0.length) = True := eq_true (by omega)
            (try rw [show ((0 : Int)).toNat = 0 from rfl] at hx165_0)
            (try rw [Addr.add_zero'] at hx165_0)
            replace hx165_0 := (HB.out.cell (World.block_lt_of_cell? w _ hx165_0)).trans hx165_0
            replace p165 := eq_true p165
            replace q165 := eq_true q165
            go_wp2
            go_ret2
            exact ⟨by first | rfl | (simp [errW_none, errW_some] <;> rfl) | (simp [*, errW_none, errW_some] <;> rfl), by repeat (first | (with_reducible first | exact HB.out | apply below_alloc | apply pw_below_drewN | apply below_drew1) | exact HB.out)⟩
          · rw [if_neg c23] at H
            have c23b0 : decide (a1 < 4) = false := decide_eq_false c23
            clear c23
            by_cases c24 : a1 ≥ 6
            · rw [if_pos c24] at H
              have c24b0 : decide (6 ≤ a1) = true := decide_eq_true c24
              clear c24
              by_cases c25 : 1 < (l0.length : Int)
              · rw [if_pos c25] at H
                have c25b0 : decide (1 < (l0.length : Int)) = true := decide_eq_true c25
                have c25b1 : decide (1 < l0.length) = true := decide_eq_true (by omega)
                clear c25
                replace H := Option.bind_eq_some_iff.mp H
                obtain ⟨⟨t167, t168⟩, A260, H⟩ := H
                replace H : (if t167 < 0 then (some (0, 1)) else (some (t167, t168))) = some (r1, r2) := H
                have A26 := Aside0.mk A260
                clear A260
                by_cases c27 : t167 < 0
                · rw [if_pos c27] at H
                  have c27b0 : decide (t167 < 0) = true := decide_eq_true c27
                  clear c27
                  simp only [Option.some.injEq, Prod.mk.injEq] at H
                  obtain ⟨rfl, rfl⟩ := H
                  have p165 : 0 ≤ (0 : Int) := (by omega)
                  have q165 : 0 < (l0.length : Int) := of_decide_eq_true (by first | (with_reducible assumption) | assumption)
                  obtain ⟨ad165, e165, hx165_0⟩ := Kd.at_int HR0.out 0 p165 q165
                  cases e165
                  have qi165 : (0 < l0.length) = True := eq_true (by omega)
                  (try rw [show ((0 : Int)).toNat = 0 from rfl] at hx165_0)
                  (try rw [Addr.add_zero'] at hx165_0)
                  replace hx165_0 := (HB.out.cell (World.block_lt_of_cell? w _ hx165_0)).trans hx165_0
                  replace p165 := eq_true p165
                  replace q165 := eq_true q165
                  have p166 : 0 ≤ (1 : Int) := (by omega)
                  have q166 : 1 < (l0.length : Int) := of_decide_eq_true (by first | (with_reducible assumption) | assumption)
                  obtain ⟨ad166, e166, hx166_0⟩ := Kd.at_int HR0.out 1 p166 q166
                  obtain rfl : ad165 = ad166 := (by injection e166)
                  (try simp only [show (1 : Int).toNat = 1 from rfl, Nat.reduceMul, Nat.reduceEqDiff, Go.Addr.add, ↓reduceIte] at hx166_0)
                  have qi166 : (1 < l0.length) = True := eq_true (by omega)
                  (try rw [show ((1 : Int)).toNat = 1 from rfl] at hx166_0)
                  replace hx166_0 := (HB.out.cell (World.block_lt_of_cell? w _ hx166_0)).trans hx166_0
                  replace p166 := eq_true p166
                  replace q166 := eq_true q166
                  go_wp2_with (first | ((with_reducible refine gate_callee (f := 56) rfl ?_); refine goesL_ (some 45) rfl rfl Tryz.func56 (by kernel_rfl) rfl #[.int .i64 a2, .int .i64 (rd l0 1), .int .i64 100] rfl (by (try simp only [List.map_toArray, List.map_cons, List.map_nil]); first | done | rfl | (simp only [List.length_drop, List.length_take]; rfl)) ?_; (with_reducible refine (fixed_MulDiv.calls a2 (rd l0 1) 100 t167 t168 _ A26.out).mono ?_); rintro e w28 ⟨rfl, hb⟩; refine ⟨_, rfl, ?_⟩; have n0_ := Aside0.mk (below_step (by repeat (first | (with_reducible first | exact HB.out | apply below_alloc | apply pw_below_drewN | apply below_drew1) | exact HB.out)) hb); clear HB; have HB := n0_; clear n0_; (try clear hb); (try clear hb2); (try clear hk); (try clear hi)))
                  go_ret2
                  exact ⟨by first | rfl | (simp [errW_none, errW_some] <;> rfl) | (simp [*, errW_none, errW_some] <;> rfl), by repeat (first | (with_reducible first | exact HB.out | apply below_alloc | apply pw_below_drewN | apply below_drew1) | exact HB.out)⟩
                · rw [if_neg c27] at H
                  have c27b0 : decide (t167 < 0) = false := decide_eq_false c27
                  clear c27
                  simp only [Option.some.injEq, Prod.mk.injEq] at H
                  obtain ⟨rfl, rfl⟩ := H
                  have p165 : 0 ≤ (0 : Int) := (by omega)
                  have q165 : 0 < (l0.length : Int) := of_decide_eq_true (by first | (with_reducible assumption) | assumption)
                  obtain ⟨ad165, e165, hx165_0⟩ := Kd.at_int HR0.out 0 p165 q165
                  cases e165
                  have qi165 : (0 < l0.length) = True := eq_true (by omega)
                  (try rw [show ((0 : Int)).toNat = 0 from rfl] at hx165_0)
                  (try rw [Addr.add_zero'] at hx165_0)
                  replace hx165_0 := (HB.out.cell (World.block_lt_of_cell? w _ hx165_0)).trans hx165_0
                  replace p165 := eq_true p165
                  replace q165 := eq_true q165
                  have p166 : 0 ≤ (1 : Int) := (by omega)
                  have q166 : 1 < (l0.length : Int) := of_decide_eq_true (by first | (with_reducible assumption) | assumption)
                  obtain ⟨ad166, e166, hx166_0⟩ := Kd.at_int HR0.out 1 p166 q166
                  obtain rfl : ad165 = ad166 := (by injection e166)
                  (try simp only [show (1 : Int).toNat = 1 from rfl, Nat.reduceMul, Nat.reduceEqDiff, Go.Addr.add, ↓reduceIte] at hx166_0)
                  have qi166 : (1 < l0.length) = True := eq_true (by omega)
                  (try rw [show ((1 : Int)).toNat = 1 from rfl] at hx166_0)
                  replace hx166_0 := (HB.out.cell (World.block_lt_of_cell? w _ hx166_0)).trans hx166_0
                  replace p166 := eq_true p166
                  replace q166 := eq_true q166
                  go_wp2_with (first | ((with_reducible refine gate_callee (f := 56) rfl ?_); refine goesL_ (some 45) rfl rfl Tryz.func56 (by kernel_rfl) rfl #[.int .i64 a2, .int .i64 (rd l0 1), .int .i64 100] rfl (by (try simp only [List.map_toArray, List.map_cons, List.map_nil]); first | done | rfl | (simp only [List.length_drop, List.length_take]; rfl)) ?_; (with_reducible refine (fixed_MulDiv.calls a2 (rd l0 1) 100 t167 t168 _ A26.out).mono ?_); rintro e w29 ⟨rfl, hb⟩; refine ⟨_, rfl, ?_⟩; have n0_ := Aside0.mk (below_step (by repeat (first | (with_reducible first | exact HB.out | apply below_alloc | apply pw_below_drewN | apply below_drew1) | exact HB.out)) hb); clear HB; have HB := n0_; clear n0_; (try clear hb); (try clear hb2); (try clear hk); (try clear hi)))
                  go_ret2
                  exact ⟨by first | rfl | (simp [errW_none, errW_some] <;> rfl) | (simp [*, errW_none, errW_some] <;> rfl), by repeat (first | (with_reducible first | exact HB.out | apply below_alloc | apply pw_below_drewN | apply below_drew1) | exact HB.out)⟩
              · rw [if_neg c25] at H
                exact absurd H (by simp)
            · rw [if_neg c24] at H
              have c24b0 : decide (6 ≤ a1) = false := decide_eq_false c24
              clear c24
              replace H := Option.bind_eq_some_iff.mp H
              obtain ⟨⟨t169, t170⟩, A300, H⟩ := H
              replace H : (if t169 < 0 then (some (0, 1)) else (some (t169, t170))) = some (r1, r2) := H
              have A30 := Aside0.mk A300
              clear A300
              by_cases c31 : t169 < 0
              · rw [if_pos c31] at H
                have c31b0 : decide (t169 < 0) = true := decide_eq_true c31
                clear c31
                simp only [Option.some.injEq, Prod.mk.injEq] at H
                obtain ⟨rfl, rfl⟩ := H
                have p165 : 0 ≤ (0 : Int) := (by omega)
                have q165 : 0 < (l0.length : Int) := of_decide_eq_true (by first | (with_reducible assumption) | assumption)
                obtain ⟨ad165, e165, hx165_0⟩ := Kd.at_int HR0.out 0 p165 q165
                cases e165
                have qi165 : (0 < l0.length) = True := eq_true (by omega)
                (try rw [show ((0 : Int)).toNat = 0 from rfl] at hx165_0)
                (try rw [Addr.add_zero'] at hx165_0)
                replace hx165_0 := (HB.out.cell (World.block_lt_of_cell? w _ hx165_0)).trans hx165_0
                replace p165 := eq_true p165
                replace q165 := eq_true q165
                go_wp2_with (first | ((with_reducible refine gate_callee (f := 56) rfl ?_); refine goesL_ (some 45) rfl rfl Tryz.func56 (by kernel_rfl) rfl #[.int .i64 a2, .int .i64 (rd l0 0), .int .i64 100] rfl (by (try simp only [List.map_toArray, List.map_cons, List.map_nil]); first | done | rfl | (simp only [List.length_drop, List.length_take]; rfl)) ?_; (with_reducible refine (fixed_MulDiv.calls a2 (rd l0 0) 100 t169 t170 _ A30.out).mono ?_); rintro e w32 ⟨rfl, hb⟩; refine ⟨_, rfl, ?_⟩; have n0_ := Aside0.mk (below_step (by repeat (first | (with_reducible first | exact HB.out | apply below_alloc | apply pw_below_drewN | apply below_drew1) | exact HB.out)) hb); clear HB; have HB := n0_; clear n0_; (try clear hb); (try clear hb2); (try clear hk); (try clear hi)))
                go_ret2
                exact ⟨by first | rfl | (simp [errW_none, errW_some] <;> rfl) | (simp [*, errW_none, errW_some] <;> rfl), by repeat (first | (with_reducible first | exact HB.out | apply below_alloc | apply pw_below_drewN | apply below_drew1) | exact HB.out)⟩
              · rw [if_neg c31] at H
                have c31b0 : decide (t169 < 0) = false := decide_eq_false c31
                clear c31
                simp only [Option.some.injEq, Prod.mk.injEq] at H
                obtain ⟨rfl, rfl⟩ := H
                have p165 : 0 ≤ (0 : Int) := (by omega)
                have q165 : 0 < (l0.length : Int) := of_decide_eq_true (by first | (with_reducible assumption) | assumption)
                obtain ⟨ad165, e165, hx165_0⟩ := Kd.at_int HR0.out 0 p165 q165
                cases e165
                have qi165 : (0 < l0.length) = True := eq_true (by omega)
                (try rw [show ((0 : Int)).toNat = 0 from rfl] at hx165_0)
                (try rw [Addr.add_zero'] at hx165_0)
                replace hx165_0 := (HB.out.cell (World.block_lt_of_cell? w _ hx165_0)).trans hx165_0
                replace p165 := eq_true p165
                replace q165 := eq_true q165
                go_wp2_with (first | ((with_reducible refine gate_callee (f := 56) rfl ?_); refine goesL_ (some 45) rfl rfl Tryz.func56 (by kernel_rfl) rfl #[.int .i64 a2, .int .i64 (rd l0 0), .int .i64 100] rfl (by (try simp only [List.map_toArray, List.map_cons, List.map_nil]); first | done | rfl | (simp only [List.length_drop, List.length_take]; rfl)) ?_; (with_reducible refine (fixed_MulDiv.calls a2 (rd l0 0) 100 t169 t170 _ A30.out).mono ?_); rintro e w33 ⟨rfl, hb⟩; refine ⟨_, rfl, ?_⟩; have n0_ := Aside0.mk (below_step (by repeat (first | (with_reducible first | exact HB.out | apply below_alloc | apply pw_below_drewN | apply below_drew1) | exact HB.out)) hb); clear HB; have HB := n0_; clear n0_; (try clear hb); (try clear hb2); (try clear hk); (try clear hi)))
                go_ret2
                exact ⟨by first | rfl | (simp [errW_none, errW_some] <;> rfl) | (simp [*, errW_none, errW_some] <;> rfl), by repeat (first | (with_reducible first | exact HB.out | apply below_alloc | apply pw_below_drewN | apply below_drew1) | exact HB.out)⟩
        · rw [if_neg c22] at H
          exact absurd H (by simp)
set_option maxHeartbeats 8000000 in
set_option maxRecDepth 100000 in
theorem style_Konst.callsU (k : Nat) (a0_0 : Int) (a0_1 : Int) (a0_2 : Int) (a0_3 : Int) (a0_4 : Int) (a0_5 : Bool) (A0_6 : Option Addr) (c0_6 : Nat) (l0_6 : List (S159)) (A0_7 : Option Addr) (c0_7 : Nat) (l0_7 : List (S161)) (A0_8 : Option Addr) (c0_8 : Nat) (l0_8 : List (S118)) (A0_9 : Option Addr) (c0_9 : Nat) (l0_9 : List Int) (A0_10 : Option Addr) (c0_10 : Nat) (l0_10 : List (S77)) (A0_11 : Option Addr) (c0_11 : Nat) (l0_11 : List (S77)) (A0_12 : Option Addr) (c0_12 : Nat) (l0_12 : List Int) (A0_13 : Option Addr) (c0_13 : Nat) (l0_13 : List (S121)) (a0_14 : Int) (A0_15 : Option Addr) (c0_15 : Nat) (l0_15 : List (S133)) (A0_16 : Option Addr) (c0_16 : Nat) (l0_16 : List (S133)) (a1 : Int) (a2 : Int) (a3 : Int) (r1 : Int) (r2 : Int) (w : World) (hr0_6 : Kd.C k159 w A0_6 l0_6.length l0_6) (hr0_7 : Kd.C k161 w A0_7 l0_7.length l0_7) (hr0_8 : Kd.C k118 w A0_8 l0_8.length l0_8) (hr0_9 : Kd.C (Kd.int .i64) w A0_9 l0_9.length l0_9) (hr0_10 : Kd.C k77 w A0_10 l0_10.length l0_10) (hr0_11 : Kd.C k77 w A0_11 l0_11.length l0_11) (hr0_12 : Kd.C (Kd.int .i64) w A0_12 l0_12.length l0_12) (hr0_13 : Kd.C k121 w A0_13 l0_13.length l0_13) (hr0_15 : Kd.C k133 w A0_15 l0_15.length l0_15) (hr0_16 : Kd.C k133 w A0_16 l0_16.length l0_16) (h : style_Konst.f k a0_0 a0_1 a0_2 a0_3 a0_4 a0_5 l0_6 l0_7 l0_8 l0_9 l0_10 l0_11 l0_12 l0_13 a0_14 l0_15 l0_16 a1 a2 a3 = some (r1, r2)) :
    Calls Tryz.prog 44 #[.agg #[.int .i64 a0_0, .int .i64 a0_1, .int .i64 a0_2, .int .i64 a0_3, .int .i64 a0_4, .bool a0_5, .slice A0_6 l0_6.length c0_6, .slice A0_7 l0_7.length c0_7, .slice A0_8 l0_8.length c0_8, .slice A0_9 l0_9.length c0_9, .slice A0_10 l0_10.length c0_10, .slice A0_11 l0_11.length c0_11, .slice A0_12 l0_12.length c0_12, .slice A0_13 l0_13.length c0_13, .int .i64 a0_14, .slice A0_15 l0_15.length c0_15, .slice A0_16 l0_16.length c0_16], .int .i64 a1, .int .i64 a2, .int .i64 a3] w fun e w' => e = .returned (.tuple #[.int .i64 r1, .int .i64 r2]) ∧ Below w.heap.size w w' := by
  have hu36 := Tryz.underlying36
  have hu23 := Tryz.underlying23
  have HR0_6 := Aside0.mk hr0_6
  clear hr0_6
  have HR0_7 := Aside0.mk hr0_7
  clear hr0_7
  have HR0_8 := Aside0.mk hr0_8
  clear hr0_8
  have HR0_9 := Aside0.mk hr0_9
  clear hr0_9
  have HR0_10 := Aside0.mk hr0_10
  clear hr0_10
  have HR0_11 := Aside0.mk hr0_11
  clear hr0_11
  have HR0_12 := Aside0.mk hr0_12
  clear hr0_12
  have HR0_13 := Aside0.mk hr0_13
  clear hr0_13
  have HR0_15 := Aside0.mk hr0_15
  clear hr0_15
  have HR0_16 := Aside0.mk hr0_16
  clear hr0_16
  have HB := Aside0.mk (Below.refl w.heap.size w)
  have H : (if a1 < 0 then (style_Konst.j0 k a1 a2 a3 true a0_0 a0_1 a0_2 a0_3 a0_4 a0_5 l0_6 l0_7 l0_8 l0_9 l0_10 l0_11 l0_12 l0_13 a0_14 l0_15 l0_16) else (style_Konst.j0 k a1 a2 a3 (decide (a1 ≥ 56)) a0_0 a0_1 a0_2 a0_3 a0_4 a0_5 l0_6 l0_7 l0_8 l0_9 l0_10 l0_11 l0_12 l0_13 a0_14 l0_15 l0_16)) = some (r1, r2) := h
  clear h
  have HC5 := Aside0.mk H
  clear H
  go_enter Tryz.func44, Tryz.ntmps44
  go_upto_region 1 with (first | ((with_reducible refine gate_dst (N := 4) rfl ?_); refine box_event ?hg (N := 4) ?hd (cs := #[.int .i64 a0_0, .int .i64 a0_1, .int .i64 a0_2, .int .i64 a0_3, .int .i64 a0_4, .bool a0_5, .slice A0_6 l0_6.length c0_6, .slice A0_7 l0_7.length c0_7, .slice A0_8 l0_8.length c0_8, .slice A0_9 l0_9.length c0_9, .slice A0_10 l0_10.length c0_10, .slice A0_11 l0_11.length c0_11, .slice A0_12 l0_12.length c0_12, .slice A0_13 l0_13.length c0_13, .int .i64 a0_14, .slice A0_15 l0_15.length c0_15, .slice A0_16 l0_16.length c0_16]) (t := 36) ?hr ?_; (case hd => rfl); (case hg => rfl); (case hr => first | (go_simp; done) | (go_simp; rfl)); intro gb175 hg w6 hbox hb; have n0_ := Aside0.mk (below_step (by repeat (first | (with_reducible first | exact HB.out | apply below_alloc | apply pw_below_drewN | apply below_drew1) | exact HB.out)) hb); have n1_ := Aside0.mk (hbox); have n2_ := Aside0.mk ((by rw [hg]; exact (below_size (by repeat (first | (with_reducible first | exact HB.out | apply below_alloc | apply pw_below_drewN | apply below_drew1) | exact HB.out))) : w.heap.size ≤ gb175)); have n3_ := Aside0.mk ((by rw [hg]; exact (below_size (by repeat (first | (with_reducible first | exact HB.out | apply below_alloc | apply pw_below_drewN | apply below_drew1) | exact HB.out))) : w.heap.size ≤ gb175)); clear HB; have HB := n0_; have BK175 := n1_; have GW175 := n2_; have GE175 := n3_; clear n0_ n1_ n2_ n3_; clear hb hbox hg))
  (try simp only [Act.put, List.setIfInBounds_toArray, List.set_cons_zero, List.set_cons_succ])
  go_cut [17] (fun v17 wc => ∃ (kq : Nat) (x17_4 : Bool), v17 = .bool x17_4 ∧ Aside0 (style_Konst.j0 kq a1 a2 a3 x17_4 a0_0 a0_1 a0_2 a0_3 a0_4 a0_5 l0_6 l0_7 l0_8 l0_9 l0_10 l0_11 l0_12 l0_13 a0_14 l0_15 l0_16 = some (r1, r2)) ∧ Aside0 (kq ≤ k) ∧ Aside0 (wc.heap[gb175]? = some (.cells #[.int .i64 a0_0, .int .i64 a0_1, .int .i64 a0_2, .int .i64 a0_3, .int .i64 a0_4, .bool a0_5, (.slice A0_6 l0_6.length c0_6), (.slice A0_7 l0_7.length c0_7), (.slice A0_8 l0_8.length c0_8), (.slice A0_9 l0_9.length c0_9), (.slice A0_10 l0_10.length c0_10), (.slice A0_11 l0_11.length c0_11), (.slice A0_12 l0_12.length c0_12), (.slice A0_13 l0_13.length c0_13), .int .i64 a0_14, (.slice A0_15 l0_15.length c0_15), (.slice A0_16 l0_16.length c0_16)] 36 (0, 0))) ∧ Aside0 (Below w.heap.size w wc))
  case first =>
    have H := HC5.out
    clear HC5
    by_cases c7 : a1 < 0
    · rw [if_pos c7] at H
      have c7b0 : decide (a1 < 0) = true := decide_eq_true c7
      clear c7
      (first | rw [c7b0] | (simp only [i64_w, i32_w]; rw [c7b0]) | skip)
      have H' := Aside0.mk H
      clear H
      go_wp2
      go_meet
      case rel => exact ⟨_, (true), (by first | rfl | (simp; done) | (simp [*]; done)), H', ⟨by first | omega | exact Nat.le_refl _⟩, ⟨by (with_reducible repeat (first | refine blk_drewN ?_ _ | refine blk_drew ?_ | refine blk_alloc ?_ _)); exact BK175.out⟩, ⟨by repeat (first | (with_reducible first | exact HB.out | apply below_alloc | apply pw_below_drewN | apply below_drew1 | refine below_set ?_ GE175.out) | exact HB.out)⟩⟩
    · rw [if_neg c7] at H
      have c7b0 : decide (a1 < 0) = false := decide_eq_false c7
      clear c7
      (first | rw [c7b0] | (simp only [i64_w, i32_w]; rw [c7b0]) | skip)
      have H' := Aside0.mk H
      clear H
      go_wp2
      go_meet
      case rel => exact ⟨_, (decide (a1 ≥ 56)), (by first | rfl | (simp; done) | (simp [*]; done)), H', ⟨by first | omega | exact Nat.le_refl _⟩, ⟨by (with_reducible repeat (first | refine blk_drewN ?_ _ | refine blk_drew ?_ | refine blk_alloc ?_ _)); exact BK175.out⟩, ⟨by repeat (first | (with_reducible first | exact HB.out | apply below_alloc | apply pw_below_drewN | apply below_drew1 | refine below_set ?_ GE175.out) | exact HB.out)⟩⟩
  case rest =>
    clear HC5
    try clear c2
    try clear p2
    try clear c7
    try clear c7b0
    obtain ⟨kq, x17_4, rfl, HA, HJ4, BK175, HB⟩ := hcut
    cases kq with
    | zero => exact absurd HA.out (by simp [style_Konst.j0])
    | succ kj4 =>
      have H := HA.out
      clear HA
      simp only [style_Konst.j0] at H
      by_cases c8 : x17_4 = true
      · subst c8
        have H1 : (some (0, 1)) = some (r1, r2) := by rw [if_pos rfl] at H; exact H
        clear H
        have H := H1
        clear H1
        simp only [Option.some.injEq, Prod.mk.injEq] at H
        obtain ⟨rfl, rfl⟩ := H
        go_wp2
        go_ret2
        exact ⟨by first | rfl | (simp [errW_none, errW_some] <;> rfl) | (simp [*, errW_none, errW_some] <;> rfl), by repeat (first | (with_reducible first | exact HB.out | apply below_alloc | apply pw_below_drewN | apply below_drew1 | refine below_set ?_ GE175.out) | exact HB.out)⟩
      · replace c8 := Bool.eq_false_iff.mpr c8
        subst c8
        have H1 : ((style_Size.f kj4 l0_9 a2 a3).bind fun bt176 => (if bt176.2 = 0 then (if 0 ≤ a1 then (if a1 < (l0_9.length : Int) then ((head_Units.f a0_0 a0_1 a0_2 a0_3 a0_4 a0_5 (rd l0_9 a1) bt176.1).bind fun bt179 => (some (bt179.1, bt179.2))) else (none)) else (none)) else (some (0, bt176.2)))) = some (r1, r2) := by rw [if_neg (show ¬ (false = true) by decide)] at H; exact H
        clear H
        have H := H1
        clear H1
        replace H := Option.bind_eq_some_iff.mp H
        obtain ⟨⟨t176, t177⟩, A90, H⟩ := H
        replace H : (if t177 = 0 then (if 0 ≤ a1 then (if a1 < (l0_9.length : Int) then ((head_Units.f a0_0 a0_1 a0_2 a0_3 a0_4 a0_5 (rd l0_9 a1) t176).bind fun bt179 => (some (bt179.1, bt179.2))) else (none)) else (none)) else (some (0, t177))) = some (r1, r2) := H
        have A9 := Aside0.mk A90
        clear A90
        by_cases c10 : t177 = 0
        · rw [if_pos c10] at H
          have c10b0 : (t177 == 0) = true := beq_iff_eq.mpr c10
          have c10b1 : (t177 != 0) = false := bne_eq_false_iff_eq.mpr c10
          clear c10
          by_cases c11 : 0 ≤ a1
          · rw [if_pos c11] at H
            have c11b0 : decide (0 ≤ a1) = true := decide_eq_true c11
            clear c11
            by_cases c12 : a1 < (l0_9.length : Int)
            · rw [if_pos c12] at H
              have c12b0 : decide (a1 < (l0_9.length : Int)) = true := decide_eq_true c12
              clear c12
              replace H := Option.bind_eq_some_iff.mp H
              obtain ⟨⟨t179, t180⟩, A130, H⟩ := H
              replace H : (some (t179, t180)) = some (r1, r2) := H
              have A13 := Aside0.mk A130
              clear A130
              simp only [Option.some.injEq, Prod.mk.injEq] at H
              obtain ⟨rfl, rfl⟩ := H
              have hcz14_0 : wc.cell? ⟨gb175, 0, none⟩ = some (.int .i64 a0_0) := (blk_cell BK175.out 0).trans rfl
              have hcz14_1 : wc.cell? ⟨gb175, 1, none⟩ = some (.int .i64 a0_1) := (blk_cell BK175.out 1).trans rfl
              have hcz14_2 : wc.cell? ⟨gb175, 2, none⟩ = some (.int .i64 a0_2) := (blk_cell BK175.out 2).trans rfl
              have hcz14_3 : wc.cell? ⟨gb175, 3, none⟩ = some (.int .i64 a0_3) := (blk_cell BK175.out 3).trans rfl
              have hcz14_4 : wc.cell? ⟨gb175, 4, none⟩ = some (.int .i64 a0_4) := (blk_cell BK175.out 4).trans rfl
              have hcz14_5 : wc.cell? ⟨gb175, 5, none⟩ = some (.bool a0_5) := (blk_cell BK175.out 5).trans rfl
              have hcz14_6 : wc.cell? ⟨gb175, 6, none⟩ = some (.slice A0_6 l0_6.length c0_6) := (blk_cell BK175.out 6).trans rfl
              have hcz14_7 : wc.cell? ⟨gb175, 7, none⟩ = some (.slice A0_7 l0_7.length c0_7) := (blk_cell BK175.out 7).trans rfl
              have hcz14_8 : wc.cell? ⟨gb175, 8, none⟩ = some (.slice A0_8 l0_8.length c0_8) := (blk_cell BK175.out 8).trans rfl
              have hcz14_9 : wc.cell? ⟨gb175, 9, none⟩ = some (.slice A0_9 l0_9.length c0_9) := (blk_cell BK175.out 9).trans rfl
              have hcz14_10 : wc.cell? ⟨gb175, 10, none⟩ = some (.slice A0_10 l0_10.length c0_10) := (blk_cell BK175.out 10).trans rfl
              have hcz14_11 : wc.cell? ⟨gb175, 11, none⟩ = some (.slice A0_11 l0_11.length c0_11) := (blk_cell BK175.out 11).trans rfl
              have hcz14_12 : wc.cell? ⟨gb175, 12, none⟩ = some (.slice A0_12 l0_12.length c0_12) := (blk_cell BK175.out 12).trans rfl
              have hcz14_13 : wc.cell? ⟨gb175, 13, none⟩ = some (.slice A0_13 l0_13.length c0_13) := (blk_cell BK175.out 13).trans rfl
              have hcz14_14 : wc.cell? ⟨gb175, 14, none⟩ = some (.int .i64 a0_14) := (blk_cell BK175.out 14).trans rfl
              have hcz14_15 : wc.cell? ⟨gb175, 15, none⟩ = some (.slice A0_15 l0_15.length c0_15) := (blk_cell BK175.out 15).trans rfl
              have hcz14_16 : wc.cell? ⟨gb175, 16, none⟩ = some (.slice A0_16 l0_16.length c0_16) := (blk_cell BK175.out 16).trans rfl
              have hfz14_0 := blk_frozen BK175.out 0
              have hfz14_1 := blk_frozen BK175.out 1
              have hfz14_2 := blk_frozen BK175.out 2
              have hfz14_3 := blk_frozen BK175.out 3
              have hfz14_4 := blk_frozen BK175.out 4
              have hfz14_5 := blk_frozen BK175.out 5
              have hfz14_6 := blk_frozen BK175.out 6
              have hfz14_7 := blk_frozen BK175.out 7
              have hfz14_8 := blk_frozen BK175.out 8
              have hfz14_9 := blk_frozen BK175.out 9
              have hfz14_10 := blk_frozen BK175.out 10
              have hfz14_11 := blk_frozen BK175.out 11
              have hfz14_12 := blk_frozen BK175.out 12
              have hfz14_13 := blk_frozen BK175.out 13
              have hfz14_14 := blk_frozen BK175.out 14
              have hfz14_15 := blk_frozen BK175.out 15
              have hfz14_16 := blk_frozen BK175.out 16
              try go_wp2_with (first | ((with_reducible refine gate_callee (f := 34) rfl ?_); refine goesL_ (some 24) rfl rfl Tryz.func34 (by kernel_rfl) rfl #[.slice A0_9 l0_9.length c0_9, .int .i64 a2, .int .i64 a3] rfl (by (try simp only [List.map_toArray, List.map_cons, List.map_nil]); first | done | rfl | (simp only [List.length_drop, List.length_take]; rfl)) ?_; (with_reducible refine (style_Size.callsU kj4 _ _ l0_9 a2 a3 t176 t177 _ ?side1 A9.out).mono ?_); (case side1 => repeat (first | exact (Kd.C_below HR0_9.out HB.out) | (with_reducible refine Kd.C_alloc ?_ _) | (with_reducible refine Kd.C_drewN ?_ _) | (with_reducible refine Kd.C_drew ?_))); rintro e w15 ⟨rfl, hb⟩; refine ⟨_, rfl, ?_⟩; have n0_ := Aside0.mk (blk_below (g := gb175) (o := .cells #[.int .i64 a0_0, .int .i64 a0_1, .int .i64 a0_2, .int .i64 a0_3, .int .i64 a0_4, .bool a0_5, .slice A0_6 l0_6.length c0_6, .slice A0_7 l0_7.length c0_7, .slice A0_8 l0_8.length c0_8, .slice A0_9 l0_9.length c0_9, .slice A0_10 l0_10.length c0_10, .slice A0_11 l0_11.length c0_11, .slice A0_12 l0_12.length c0_12, .slice A0_13 l0_13.length c0_13, .int .i64 a0_14, .slice A0_15 l0_15.length c0_15, .slice A0_16 l0_16.length c0_16] 36 (0, 0)) (by (with_reducible repeat (first | refine blk_drewN ?_ _ | refine blk_drew ?_ | refine blk_alloc ?_ _)); exact BK175.out) hb); have n1_ := Aside0.mk (below_step (by repeat (first | (with_reducible first | exact HB.out | apply below_alloc | apply pw_below_drewN | apply below_drew1 | refine below_set ?_ GE175.out) | exact HB.out)) hb); clear BK175; clear HB; have BK175 := n0_; have HB := n1_; clear n0_ n1_; (try clear hb); (try clear hb2); (try clear hk); (try clear hi)))
              have n0_ := Aside0.mk (blk_drew BK175.out)
              have n1_ := Aside0.mk (below_drew1 HB.out)
              clear BK175
              clear HB
              have BK175 := n0_
              have HB := n1_
              clear n0_ n1_
              have p178 : 0 ≤ (a1 : Int) := of_decide_eq_true (by first | (with_reducible assumption) | assumption)
              have q178 : a1 < (l0_9.length : Int) := of_decide_eq_true (by first | (with_reducible assumption) | assumption)
              obtain ⟨ad178, e178, hx178_0⟩ := Kd.at_int HR0_9.out a1 p178 q178
              have hw178_0 := hx178_0
              cases e178
              replace hx178_0 := (HB.out.cell (World.block_lt_of_cell? w _ hx178_0)).trans hx178_0
              replace p178 := eq_true p178
              replace q178 := eq_true q178
              refine start_ (n := 14) (S := fun w' => w'.cell? ⟨gb175, 0, none⟩ = some (.int .i64 a0_0) ∧ w'.cell? ⟨gb175, 1, none⟩ = some (.int .i64 a0_1) ∧ w'.cell? ⟨gb175, 2, none⟩ = some (.int .i64 a0_2) ∧ w'.cell? ⟨gb175, 3, none⟩ = some (.int .i64 a0_3) ∧ w'.cell? ⟨gb175, 4, none⟩ = some (.int .i64 a0_4) ∧ w'.cell? ⟨gb175, 5, none⟩ = some (.bool a0_5) ∧ w'.cell? ⟨gb175, 6, none⟩ = some (.slice A0_6 l0_6.length c0_6) ∧ w'.cell? ⟨gb175, 7, none⟩ = some (.slice A0_7 l0_7.length c0_7) ∧ w'.cell? ⟨gb175, 8, none⟩ = some (.slice A0_8 l0_8.length c0_8) ∧ w'.cell? ⟨gb175, 9, none⟩ = some (.slice (some ad178) l0_9.length c0_9) ∧ w'.cell? ⟨gb175, 10, none⟩ = some (.slice A0_10 l0_10.length c0_10) ∧ w'.cell? ⟨gb175, 11, none⟩ = some (.slice A0_11 l0_11.length c0_11) ∧ w'.cell? ⟨gb175, 12, none⟩ = some (.slice A0_12 l0_12.length c0_12) ∧ w'.cell? ⟨gb175, 13, none⟩ = some (.slice A0_13 l0_13.length c0_13) ∧ w'.cell? ⟨gb175, 14, none⟩ = some (.int .i64 a0_14) ∧ w'.cell? ⟨gb175, 15, none⟩ = some (.slice A0_15 l0_15.length c0_15) ∧ w'.cell? ⟨gb175, 16, none⟩ = some (.slice A0_16 l0_16.length c0_16) ∧ w'.cell? (ad178.add (a1).toNat) = some (.int .i64 (rd l0_9 a1))) (ds := []) #[false, false, false, false, false, false, false, false, false, false, false, false, false, false] (by kernel_rfl) rfl rfl ⟨(blk_cell BK175.out 0).trans rfl, (blk_cell BK175.out 1).trans rfl, (blk_cell BK175.out 2).trans rfl, (blk_cell BK175.out 3).trans rfl, (blk_cell BK175.out 4).trans rfl, (blk_cell BK175.out 5).trans rfl, (blk_cell BK175.out 6).trans rfl, (blk_cell BK175.out 7).trans rfl, (blk_cell BK175.out 8).trans rfl, (blk_cell BK175.out 9).trans rfl, (blk_cell BK175.out 10).trans rfl, (blk_cell BK175.out 11).trans rfl, (blk_cell BK175.out 12).trans rfl, (blk_cell BK175.out 13).trans rfl, (blk_cell BK175.out 14).trans rfl, (blk_cell BK175.out 15).trans rfl, (blk_cell BK175.out 16).trans rfl, ((HB.out.cell (World.block_lt_of_cell? w _ hw178_0)).trans hw178_0)⟩ (fun hHeld => ?_); refine with_tabW style_Konst.tab6 style_Konst.bits6 (fun HT_ HW_ => ?_)
              generalize w15.drew = w16 at BK175 HB hx178_0 hHeld ⊢
              refine pure_ (i := 0) (N := some 30) (v := ?_) (a' := ?_) #[true, false, false, false, false, false, false, false, false, false, false, false, false, false] rfl rfl (any_of HT_.out (by kernel_rfl)) (fun _ _ _ h => h) (Or.inl ⟨by rfl, ?_⟩) ?_ ?_
              rotate_left
              · intro w'
                go_simp
                with_reducible rfl
              rotate_left
              · simp only [Act.put, List.setIfInBounds_toArray, List.set_cons_zero, List.set_cons_succ, i64_w, i32_w]
                rfl
              refine pure_ (i := 2) (N := some 32) (v := ?_) (a' := ?_) #[true, false, true, false, false, false, false, false, false, false, false, false, false, false] rfl rfl (any_of HT_.out (by kernel_rfl)) (fun _ _ _ h => h) (Or.inl ⟨by rfl, ?_⟩) ?_ ?_
              rotate_left
              · intro w'
                go_simp
                with_reducible rfl
              rotate_left
              · simp only [Act.put, List.setIfInBounds_toArray, List.set_cons_zero, List.set_cons_succ, i64_w, i32_w]
                rfl
              refine pure_ (i := 3) (N := some 33) (v := ?_) (a' := ?_) #[true, false, true, true, false, false, false, false, false, false, false, false, false, false] rfl rfl (any_of HT_.out (by kernel_rfl)) (fun _ _ _ h => h) (Or.inl ⟨by rfl, ?_⟩) ?_ ?_
              rotate_left
              · intro w'
                go_simp
                with_reducible rfl
              rotate_left
              · simp only [Act.put, List.setIfInBounds_toArray, List.set_cons_zero, List.set_cons_succ, i64_w, i32_w]
                rfl
              refine pure_ (i := 5) (N := some 35) (v := ?_) (a' := ?_) #[true, false, true, true, false, true, false, false, false, false, false, false, false, false] rfl rfl (any_of HT_.out (by kernel_rfl)) (fun _ _ _ h => h) (Or.inl ⟨by rfl, ?_⟩) ?_ ?_
              rotate_left
              · intro w'
                go_simp
                with_reducible rfl
              rotate_left
              · simp only [Act.put, List.setIfInBounds_toArray, List.set_cons_zero, List.set_cons_succ, i64_w, i32_w]
                rfl
              refine pure_ (i := 8) (N := some 38) (v := ?_) (a' := ?_) #[true, false, true, true, false, true, false, false, true, false, false, false, false, false] rfl rfl (any_of HT_.out (by kernel_rfl)) (fun _ _ _ h => h) (Or.inl ⟨by rfl, ?_⟩) ?_ ?_
              rotate_left
              · intro w'
                go_simp
                with_reducible rfl
              rotate_left
              · simp only [Act.put, List.setIfInBounds_toArray, List.set_cons_zero, List.set_cons_succ, i64_w, i32_w]
                rfl
              refine take_ (i := 1) (N := some 31) (v := ?_) (a' := ?_) #[true, true, true, true, false, true, false, false, true, false, false, false, false, false] rfl rfl (take_ofW HT_.out HW_.out (by kernel_rfl)) (fun _ _ _ h => h) (Or.inl ⟨by rfl, ?_⟩) hHeld ?_ ?_
              rotate_left
              · rintro w' ⟨s0, s1, s2, s3, s4, s5, s6, s7, s8, s9, s10, s11, s12, s13, s14, s15, s16, s17⟩
                go_simp
                with_reducible rfl
              rotate_left
              · simp only [Act.put, List.setIfInBounds_toArray, List.set_cons_zero, List.set_cons_succ, i64_w, i32_w]
                rfl
              refine take_ (i := 4) (N := some 34) (v := ?_) (a' := ?_) #[true, true, true, true, true, true, false, false, true, false, false, false, false, false] rfl rfl (take_ofW HT_.out HW_.out (by kernel_rfl)) (fun _ _ _ h => h) (Or.inl ⟨by rfl, ?_⟩) hHeld ?_ ?_
              rotate_left
              · rintro w' ⟨s0, s1, s2, s3, s4, s5, s6, s7, s8, s9, s10, s11, s12, s13, s14, s15, s16, s17⟩
                go_simp
                with_reducible rfl
              rotate_left
              · simp only [Act.put, List.setIfInBounds_toArray, List.set_cons_zero, List.set_cons_succ, i64_w, i32_w]
                rfl
              refine pure_ (i := 6) (N := some 36) (v := ?_) (a' := ?_) #[true, true, true, true, true, true, true, false, true, false, false, false, false, false] rfl rfl (any_of HT_.out (by kernel_rfl)) (fun _ _ _ h => h) (Or.inl ⟨by rfl, ?_⟩) ?_ ?_
              rotate_left
              · intro w'
                go_simp
                with_reducible rfl
              rotate_left
              · simp only [Act.put, List.setIfInBounds_toArray, List.set_cons_zero, List.set_cons_succ, i64_w, i32_w]
                rfl
              refine take_ (i := 7) (N := some 37) (v := ?_) (a' := ?_) #[true, true, true, true, true, true, true, true, true, false, false, false, false, false] rfl rfl (take_ofW HT_.out HW_.out (by kernel_rfl)) (fun _ _ _ h => h) (Or.inl ⟨by rfl, ?_⟩) hHeld ?_ ?_
              rotate_left
              · rintro w' ⟨s0, s1, s2, s3, s4, s5, s6, s7, s8, s9, s10, s11, s12, s13, s14, s15, s16, s17⟩
                go_simp
                with_reducible rfl
              rotate_left
              · simp only [Act.put, List.setIfInBounds_toArray, List.set_cons_zero, List.set_cons_succ, i64_w, i32_w]
                rfl
              refine one_ (i := 9) (N := some 39) #[true, true, true, true, true, true, true, true, true, true, false, false, false, false] rfl rfl (one_of HT_.out (by kernel_rfl)) (by decide) (fun K hK => ?_)
              refine goes_ Tryz.func38 (by kernel_rfl) rfl #[.agg #[.int .i64 a0_0, .int .i64 a0_1, .int .i64 a0_2, .int .i64 a0_3, .int .i64 a0_4, .bool a0_5], .int .i64 (rd l0_9 a1), .int .i64 t176] (by rfl) rfl rfl (by (try simp only [List.map_toArray, List.map_cons, List.map_nil]); first | done | rfl | (simp only [List.length_drop, List.length_take]; rfl)) ?_
              with_reducible refine (head_Units.calls a0_0 a0_1 a0_2 a0_3 a0_4 a0_5 (rd l0_9 a1) t176 t179 t180 _ A13.out).mono ?_
              rintro e w17 ⟨rfl, hb⟩
              refine ⟨_, rfl, ?_⟩
              have n0_ := Aside0.mk (blk_below (g := gb175) (o := .cells #[.int .i64 a0_0, .int .i64 a0_1, .int .i64 a0_2, .int .i64 a0_3, .int .i64 a0_4, .bool a0_5, .slice A0_6 l0_6.length c0_6, .slice A0_7 l0_7.length c0_7, .slice A0_8 l0_8.length c0_8, .slice (some ad178) l0_9.length c0_9, .slice A0_10 l0_10.length c0_10, .slice A0_11 l0_11.length c0_11, .slice A0_12 l0_12.length c0_12, .slice A0_13 l0_13.length c0_13, .int .i64 a0_14, .slice A0_15 l0_15.length c0_15, .slice A0_16 l0_16.length c0_16] 36 (0, 0)) (by (with_reducible repeat (first | refine blk_drewN ?_ _ | refine blk_drew ?_ | refine blk_alloc ?_ _)); exact BK175.out) hb)
              have n1_ := Aside0.mk (below_step (by repeat (first | (with_reducible first | exact HB.out | apply below_alloc | apply pw_below_drewN | apply below_drew1 | refine below_set ?_ GE175.out) | exact HB.out)) hb)
              clear BK175
              clear HB
              have BK175 := n0_
              have HB := n1_
              clear n0_ n1_
              (try clear hb)
              (try clear hb2)
              (try clear hk)
              (try clear hi)
              refine hK.out _ _ ⟨(blk_cell BK175.out 0).trans rfl, (blk_cell BK175.out 1).trans rfl, (blk_cell BK175.out 2).trans rfl, (blk_cell BK175.out 3).trans rfl, (blk_cell BK175.out 4).trans rfl, (blk_cell BK175.out 5).trans rfl, (blk_cell BK175.out 6).trans rfl, (blk_cell BK175.out 7).trans rfl, (blk_cell BK175.out 8).trans rfl, (blk_cell BK175.out 9).trans rfl, (blk_cell BK175.out 10).trans rfl, (blk_cell BK175.out 11).trans rfl, (blk_cell BK175.out 12).trans rfl, (blk_cell BK175.out 13).trans rfl, (blk_cell BK175.out 14).trans rfl, (blk_cell BK175.out 15).trans rfl, (blk_cell BK175.out 16).trans rfl, ((HB.out.cell (World.block_lt_of_cell? w _ hw178_0)).trans hw178_0)⟩ (fun hHeld => ?_)
              clear hK K
              refine norm_ (a' := ?_) ?_ ?_
              rotate_left
              · show Act.put _ (some 39) _ = _
                simp only [Act.put, List.setIfInBounds_toArray, List.set_cons_zero, List.set_cons_succ, i64_w, i32_w]
                rfl
              refine pure_ (i := 10) (N := some 40) (v := ?_) (a' := ?_) #[true, true, true, true, true, true, true, true, true, true, true, false, false, false] rfl rfl (any_of HT_.out (by kernel_rfl)) (fun _ _ _ h => h) (Or.inl ⟨by rfl, ?_⟩) ?_ ?_
              rotate_left
              · intro w'
                go_simp
                with_reducible rfl
              rotate_left
              · simp only [Act.put, List.setIfInBounds_toArray, List.set_cons_zero, List.set_cons_succ, i64_w, i32_w]
                rfl
              refine pure_ (i := 11) (N := some 41) (v := ?_) (a' := ?_) #[true, true, true, true, true, true, true, true, true, true, true, true, false, false] rfl rfl (any_of HT_.out (by kernel_rfl)) (fun _ _ _ h => h) (Or.inl ⟨by rfl, ?_⟩) ?_ ?_
              rotate_left
              · intro w'
                go_simp
                with_reducible rfl
              rotate_left
              · simp only [Act.put, List.setIfInBounds_toArray, List.set_cons_zero, List.set_cons_succ, i64_w, i32_w]
                rfl
              refine pure_ (i := 12) (N := some 8) (v := ?_) (a' := ?_) #[true, true, true, true, true, true, true, true, true, true, true, true, true, false] rfl rfl (any_of HT_.out (by kernel_rfl)) (fun _ _ _ h => h) (Or.inl ⟨by rfl, ?_⟩) ?_ ?_
              rotate_left
              · intro w'
                go_simp
                with_reducible rfl
              rotate_left
              · simp only [Act.put, List.setIfInBounds_toArray, List.set_cons_zero, List.set_cons_succ, i64_w, i32_w]
                rfl
              refine pure_ (i := 13) (N := some 9) (v := ?_) (a' := ?_) #[true, true, true, true, true, true, true, true, true, true, true, true, true, true] rfl rfl (any_of HT_.out (by kernel_rfl)) (fun _ _ _ h => h) (Or.inl ⟨by rfl, ?_⟩) ?_ ?_
              rotate_left
              · intro w'
                go_simp
                with_reducible rfl
              rotate_left
              · simp only [Act.put, List.setIfInBounds_toArray, List.set_cons_zero, List.set_cons_succ, i64_w, i32_w]
                rfl
              refine done_ (done_of HT_.out (by kernel_rfl)) ?_
              try go_wp2
              go_ret2
              exact ⟨by first | rfl | (simp [errW_none, errW_some] <;> rfl) | (simp [*, errW_none, errW_some] <;> rfl), by repeat (first | (with_reducible first | exact HB.out | apply below_alloc | apply pw_below_drewN | apply below_drew1 | refine below_set ?_ GE175.out) | exact HB.out)⟩
            · rw [if_neg c12] at H
              exact absurd H (by simp)
          · rw [if_neg c11] at H
            exact absurd H (by simp)
        · rw [if_neg c10] at H
          have c10b0 : (t177 == 0) = false := beq_eq_false_iff_ne.mpr c10
          have c10b1 : (t177 != 0) = true := bne_iff_ne.mpr c10
          simp only [Option.some.injEq, Prod.mk.injEq] at H
          obtain ⟨rfl, rfl⟩ := H
          have hcz18_0 : wc.cell? ⟨gb175, 0, none⟩ = some (.int .i64 a0_0) := (blk_cell BK175.out 0).trans rfl
          have hcz18_1 : wc.cell? ⟨gb175, 1, none⟩ = some (.int .i64 a0_1) := (blk_cell BK175.out 1).trans rfl
          have hcz18_2 : wc.cell? ⟨gb175, 2, none⟩ = some (.int .i64 a0_2) := (blk_cell BK175.out 2).trans rfl
          have hcz18_3 : wc.cell? ⟨gb175, 3, none⟩ = some (.int .i64 a0_3) := (blk_cell BK175.out 3).trans rfl
          have hcz18_4 : wc.cell? ⟨gb175, 4, none⟩ = some (.int .i64 a0_4) := (blk_cell BK175.out 4).trans rfl
          have hcz18_5 : wc.cell? ⟨gb175, 5, none⟩ = some (.bool a0_5) := (blk_cell BK175.out 5).trans rfl
          have hcz18_6 : wc.cell? ⟨gb175, 6, none⟩ = some (.slice A0_6 l0_6.length c0_6) := (blk_cell BK175.out 6).trans rfl
          have hcz18_7 : wc.cell? ⟨gb175, 7, none⟩ = some (.slice A0_7 l0_7.length c0_7) := (blk_cell BK175.out 7).trans rfl
          have hcz18_8 : wc.cell? ⟨gb175, 8, none⟩ = some (.slice A0_8 l0_8.length c0_8) := (blk_cell BK175.out 8).trans rfl
          have hcz18_9 : wc.cell? ⟨gb175, 9, none⟩ = some (.slice A0_9 l0_9.length c0_9) := (blk_cell BK175.out 9).trans rfl
          have hcz18_10 : wc.cell? ⟨gb175, 10, none⟩ = some (.slice A0_10 l0_10.length c0_10) := (blk_cell BK175.out 10).trans rfl
          have hcz18_11 : wc.cell? ⟨gb175, 11, none⟩ = some (.slice A0_11 l0_11.length c0_11) := (blk_cell BK175.out 11).trans rfl
          have hcz18_12 : wc.cell? ⟨gb175, 12, none⟩ = some (.slice A0_12 l0_12.length c0_12) := (blk_cell BK175.out 12).trans rfl
          have hcz18_13 : wc.cell? ⟨gb175, 13, none⟩ = some (.slice A0_13 l0_13.length c0_13) := (blk_cell BK175.out 13).trans rfl
          have hcz18_14 : wc.cell? ⟨gb175, 14, none⟩ = some (.int .i64 a0_14) := (blk_cell BK175.out 14).trans rfl
          have hcz18_15 : wc.cell? ⟨gb175, 15, none⟩ = some (.slice A0_15 l0_15.length c0_15) := (blk_cell BK175.out 15).trans rfl
          have hcz18_16 : wc.cell? ⟨gb175, 16, none⟩ = some (.slice A0_16 l0_16.length c0_16) := (blk_cell BK175.out 16).trans rfl
          have hfz18_0 := blk_frozen BK175.out 0
          have hfz18_1 := blk_frozen BK175.out 1
          have hfz18_2 := blk_frozen BK175.out 2
          have hfz18_3 := blk_frozen BK175.out 3
          have hfz18_4 := blk_frozen BK175.out 4
          have hfz18_5 := blk_frozen BK175.out 5
          have hfz18_6 := blk_frozen BK175.out 6
          have hfz18_7 := blk_frozen BK175.out 7
          have hfz18_8 := blk_frozen BK175.out 8
          have hfz18_9 := blk_frozen BK175.out 9
          have hfz18_10 := blk_frozen BK175.out 10
          have hfz18_11 := blk_frozen BK175.out 11
          have hfz18_12 := blk_frozen BK175.out 12
          have hfz18_13 := blk_frozen BK175.out 13
          have hfz18_14 := blk_frozen BK175.out 14
          have hfz18_15 := blk_frozen BK175.out 15
          have hfz18_16 := blk_frozen BK175.out 16
          go_wp2_with (first | ((with_reducible refine gate_callee (f := 34) rfl ?_); refine goesL_ (some 24) rfl rfl Tryz.func34 (by kernel_rfl) rfl #[.slice A0_9 l0_9.length c0_9, .int .i64 a2, .int .i64 a3] rfl (by (try simp only [List.map_toArray, List.map_cons, List.map_nil]); first | done | rfl | (simp only [List.length_drop, List.length_take]; rfl)) ?_; (with_reducible refine (style_Size.callsU kj4 _ _ l0_9 a2 a3 t176 t177 _ ?side1 A9.out).mono ?_); (case side1 => repeat (first | exact (Kd.C_below HR0_9.out HB.out) | (with_reducible refine Kd.C_alloc ?_ _) | (with_reducible refine Kd.C_drewN ?_ _) | (with_reducible refine Kd.C_drew ?_))); rintro e w19 ⟨rfl, hb⟩; refine ⟨_, rfl, ?_⟩; have n0_ := Aside0.mk (blk_below (g := gb175) (o := .cells #[.int .i64 a0_0, .int .i64 a0_1, .int .i64 a0_2, .int .i64 a0_3, .int .i64 a0_4, .bool a0_5, .slice A0_6 l0_6.length c0_6, .slice A0_7 l0_7.length c0_7, .slice A0_8 l0_8.length c0_8, .slice A0_9 l0_9.length c0_9, .slice A0_10 l0_10.length c0_10, .slice A0_11 l0_11.length c0_11, .slice A0_12 l0_12.length c0_12, .slice A0_13 l0_13.length c0_13, .int .i64 a0_14, .slice A0_15 l0_15.length c0_15, .slice A0_16 l0_16.length c0_16] 36 (0, 0)) (by (with_reducible repeat (first | refine blk_drewN ?_ _ | refine blk_drew ?_ | refine blk_alloc ?_ _)); exact BK175.out) hb); have n1_ := Aside0.mk (below_step (by repeat (first | (with_reducible first | exact HB.out | apply below_alloc | apply pw_below_drewN | apply below_drew1 | refine below_set ?_ GE175.out) | exact HB.out)) hb); clear BK175; clear HB; have BK175 := n0_; have HB := n1_; clear n0_ n1_; (try clear hb); (try clear hb2); (try clear hk); (try clear hi)))
          go_ret2
          exact ⟨by first | rfl | (simp [errW_none, errW_some] <;> rfl) | (simp [*, errW_none, errW_some] <;> rfl), by repeat (first | (with_reducible first | exact HB.out | apply below_alloc | apply pw_below_drewN | apply below_drew1 | refine below_set ?_ GE175.out) | exact HB.out)⟩
end Go.Proofs.YtbhljokhcmfgjaaGreat.P
