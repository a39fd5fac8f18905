import Derived.Test.YtbhljokhcmfgjaaGreatK1
import Derived.Test.YtbhljokhcmfgjaaGreatProg
import Derived.Below
import Derived.Deep.Draws
import Derived.Deep.AppendLies
import Derived.Maps.AppendAt
import Derived.OwnWalk
import Derived.Laws.BytesArg
import Derived.Laws.MakeOwn
import Derived.Laws.OwnMore
import Derived.Deep.OwnRows
import Derived.Tactics
import Derived.Lib.ConvBytes
import Derived.Laws.Slices
import Derived.WalkKit
import Derived.KernelRfl
import Derived.RowKit3
import Derived.Deep.LoopGhost
import Derived.Deep.QuietTactic
import Derived.BigQuiet
import Derived.WideLaws
import Derived.Deep.DeepCutAuto
import Derived.Deep.CutBlock
import Derived.Deep.RegionHeld3
import Derived.Laws.Rows
import Derived.Lib.AppendStr
import Derived.ArgAppend
import Derived.Laws.IdiomCopy
import Derived.OrdersHeld
import Derived.Laws.BitsLemmas
import Derived.RowKit
import Derived.Laws.StructEq
import Derived.Recover
import Derived.Defers
import Derived.Shelf.Strings.Builder1
/- Part 2 of the proof of stackCenter_holds: what it needs of this work's texts, joined. -/
set_option linter.unusedVariables false
set_option linter.unusedSimpArgs false
namespace Go.Proofs.YtbhljokhcmfgjaaGreat.P
open Go.RowKit Go.Proofs.YtbhljokhcmfgjaaGreatW.PrintWords Go.Proofs.YtbhljokhcmfgjaaGreatW.PrintLast Go.Proofs.YtbhljokhcmfgjaaGreatW.PrintMore
attribute [local go_sem] max2_int min2_int max_two min_two max_three min_three max_four min_four   -- for this text's walks alone
set_option linter.unusedVariables false
set_option linter.unusedSimpArgs false
def errW : Option Int → Value
  | none => .nilIface
  | some c => .iface 0 (.int .i64 c)
theorem errW_none : errW none = .nilIface := rfl
theorem errW_some (c : Int) : errW (some c) = .iface 0 (.int .i64 c) := rfl
theorem info3 : (Tryz.prog.info? 3).map (fun i => (i.zero, i.size, i.bytes)) = some (some (.int .i64 0), 1, 8) := by kernel_rfl
theorem info67 : (Tryz.prog.info? 67).map (fun i => (i.zero, i.size, i.bytes)) = some (some (.agg #[(.int .i64 0), (.int .i64 0), (.int .i64 0), (.int .i64 0), (.int .i64 0), (.int .i64 0), (.int .i64 0), (.int .i64 0), (.slice none 0 0)]), 9, 88) := by kernel_rfl
structure S118 where
  f0 : Int
  f1 : Int
  f2 : Int
  f3 : Int
def z123 : S118 := ⟨(0 : Int), (0 : Int), (0 : Int), (0 : Int)⟩
def k118 : Kd S118 := Kd.iso (Kd.pair (Kd.int .i64) (Kd.pair (Kd.int .i64) (Kd.pair (Kd.int .i64) (Kd.int .i64)))) (fun x : S118 => (x.f0, x.f1, x.f2, x.f3))
theorem k118_open {w : World} {x : S118} {cs : List Value} (h : k118.K w x cs) : cs = [.int .i64 x.f0, .int .i64 x.f1, .int .i64 x.f2, .int .i64 x.f3] := by
  obtain ⟨_, _, rfl, rfl, ⟨_, _, rfl, rfl, ⟨_, _, rfl, rfl, rfl⟩⟩⟩ := h
  exact rfl
def rd_T118 (xs : List S118) (i : Int) : S118 := xs.getD i.toNat z123
theorem at_T118 {w : World} {A : Option Addr} {n : Nat} {xs : List S118} (h : Kd.C k118 w A n xs) (i : Int) (h0 : 0 ≤ i) (h1 : i < n) : ∃ ad , A = some ad ∧ w.cell? (ad.add (i.toNat * 4)) = some (.int .i64 (rd_T118 xs i).f0) ∧ w.cell? ⟨(ad.add (i.toNat * 4)).block, (ad.add (i.toNat * 4)).off + 1, none⟩ = some (.int .i64 (rd_T118 xs i).f1) ∧ w.cell? ⟨(ad.add (i.toNat * 4)).block, (ad.add (i.toNat * 4)).off + 2, none⟩ = some (.int .i64 (rd_T118 xs i).f2) ∧ w.cell? ⟨(ad.add (i.toNat * 4)).block, (ad.add (i.toNat * 4)).off + 3, none⟩ = some (.int .i64 (rd_T118 xs i).f3) := by
  obtain ⟨ad, c, e, _, hK, hc0⟩ := Kd.C_get h z123 i h0 h1
  have hc : ∀ j u, c[j]? = some u → w.cell? (ad.add (i.toNat * 4 + j)) = some u := hc0
  obtain rfl := k118_open hK
  exact ⟨ad, e, hc 0 _ rfl, by rw [← add_field _ _ 1 (by omega)]; exact hc 1 _ rfl, by rw [← add_field _ _ 2 (by omega)]; exact hc 2 _ rfl, by rw [← add_field _ _ 3 (by omega)]; exact hc 3 _ rfl⟩
structure S123 where
  f0 : (List Int)
  f1 : (List Int)
def z128 : S123 := ⟨([] : List Int), ([] : List Int)⟩
def k123 : Kd S123 := Kd.iso (Kd.pair (Kd.slice 3 (Kd.int .i64)) (Kd.slice 3 (Kd.int .i64))) (fun x : S123 => (x.f0, x.f1))
theorem k123_open {w : World} {x : S123} {cs : List Value} (h : k123.K w x cs) : ∃ A0 c0 A1 c1, cs = [.slice A0 x.f0.length c0, .slice A1 x.f1.length c1] ∧ x.f0.length ≤ c0 ∧ (Kd.int .i64).C w A0 x.f0.length x.f0 ∧ x.f1.length ≤ c1 ∧ (Kd.int .i64).C w A1 x.f1.length x.f1 := by
  obtain ⟨_, _, rfl, ⟨A0, c0, rfl, l0, g0⟩, ⟨A1, c1, rfl, l1, g1⟩⟩ := h
  exact ⟨A0, c0, A1, c1, rfl, l0, g0, l1, g1⟩
def rd_T123 (xs : List S123) (i : Int) : S123 := xs.getD i.toNat z128
theorem at_T123 {w : World} {A : Option Addr} {n : Nat} {xs : List S123} (h : Kd.C k123 w A n xs) (i : Int) (h0 : 0 ≤ i) (h1 : i < n) : ∃ ad A0 c0 A1 c1, A = some ad ∧ w.cell? (ad.add (i.toNat * 2)) = some (.slice A0 (rd_T123 xs i).f0.length c0) ∧ w.cell? ⟨(ad.add (i.toNat * 2)).block, (ad.add (i.toNat * 2)).off + 1, none⟩ = some (.slice A1 (rd_T123 xs i).f1.length c1) ∧ (rd_T123 xs i).f0.length ≤ c0 ∧ (Kd.int .i64).C w A0 (rd_T123 xs i).f0.length (rd_T123 xs i).f0 ∧ (rd_T123 xs i).f1.length ≤ c1 ∧ (Kd.int .i64).C w A1 (rd_T123 xs i).f1.length (rd_T123 xs i).f1 := by
  obtain ⟨ad, c, e, _, hK, hc0⟩ := Kd.C_get h z128 i h0 h1
  have hc : ∀ j u, c[j]? = some u → w.cell? (ad.add (i.toNat * 2 + j)) = some u := hc0
  obtain ⟨A0, c0, A1, c1, rfl, l0, g0, l1, g1⟩ := k123_open hK
  exact ⟨ad, A0, c0, A1, c1, e, hc 0 _ rfl, by rw [← add_field _ _ 1 (by omega)]; exact hc 1 _ rfl, l0, g0, l1, g1⟩
structure S121 where
  f0 : Int
  f1 : (List S123)
def z126 : S121 := ⟨(0 : Int), ([] : List S123)⟩
def k121 : Kd S121 := Kd.iso (Kd.pair (Kd.int .i64) (Kd.slice 123 k123)) (fun x : S121 => (x.f0, x.f1))
theorem k121_open {w : World} {x : S121} {cs : List Value} (h : k121.K w x cs) : ∃ A1 c1, cs = [.int .i64 x.f0, .slice A1 x.f1.length c1] ∧ x.f1.length ≤ c1 ∧ k123.C w A1 x.f1.length x.f1 := by
  obtain ⟨_, _, rfl, rfl, ⟨A1, c1, rfl, l1, g1⟩⟩ := h
  exact ⟨A1, c1, rfl, l1, g1⟩
def rd_T121 (xs : List S121) (i : Int) : S121 := xs.getD i.toNat z126
theorem at_T121 {w : World} {A : Option Addr} {n : Nat} {xs : List S121} (h : Kd.C k121 w A n xs) (i : Int) (h0 : 0 ≤ i) (h1 : i < n) : ∃ ad A1 c1, A = some ad ∧ w.cell? (ad.add (i.toNat * 2)) = some (.int .i64 (rd_T121 xs i).f0) ∧ w.cell? ⟨(ad.add (i.toNat * 2)).block, (ad.add (i.toNat * 2)).off + 1, none⟩ = some (.slice A1 (rd_T121 xs i).f1.length c1) ∧ (rd_T121 xs i).f1.length ≤ c1 ∧ k123.C w A1 (rd_T121 xs i).f1.length (rd_T121 xs i).f1 := by
  obtain ⟨ad, c, e, _, hK, hc0⟩ := Kd.C_get h z126 i h0 h1
  have hc : ∀ j u, c[j]? = some u → w.cell? (ad.add (i.toNat * 2 + j)) = some u := hc0
  obtain ⟨A1, c1, rfl, l1, g1⟩ := k121_open hK
  exact ⟨ad, A1, c1, e, hc 0 _ rfl, by rw [← add_field _ _ 1 (by omega)]; exact hc 1 _ rfl, l1, g1⟩
structure S163 where
  f0 : Int
  f1 : Int
def k163 : Kd S163 := Kd.iso (Kd.pair (Kd.int .i64) (Kd.int .i64)) (fun x : S163 => (x.f0, x.f1))
structure S165 where
  f0 : Int
  f1 : Int
  f2 : Int
  f3 : Int
  f4 : Bool
def k165 : Kd S165 := Kd.iso (Kd.pair (Kd.int .i64) (Kd.pair (Kd.int .i64) (Kd.pair (Kd.int .i64) (Kd.pair (Kd.int .i64) Kd.bool)))) (fun x : S165 => (x.f0, x.f1, x.f2, x.f3, x.f4))
structure S133 where
  f0 : Int
  f1 : (List S163)
  f2 : Int
  f3 : (List S165)
def z138 : S133 := ⟨(0 : Int), ([] : List S163), (0 : Int), ([] : List S165)⟩
def k133 : Kd S133 := Kd.iso (Kd.pair (Kd.int .i64) (Kd.pair (Kd.slice 163 k163) (Kd.pair (Kd.int .i64) (Kd.slice 165 k165)))) (fun x : S133 => (x.f0, x.f1, x.f2, x.f3))
theorem k133_open {w : World} {x : S133} {cs : List Value} (h : k133.K w x cs) : ∃ A1 c1 A3 c3, cs = [.int .i64 x.f0, .slice A1 x.f1.length c1, .int .i64 x.f2, .slice A3 x.f3.length c3] ∧ x.f1.length ≤ c1 ∧ k163.C w A1 x.f1.length x.f1 ∧ x.f3.length ≤ c3 ∧ k165.C w A3 x.f3.length x.f3 := by
  obtain ⟨_, _, rfl, rfl, ⟨_, _, rfl, ⟨A1, c1, rfl, l1, g1⟩, ⟨_, _, rfl, rfl, ⟨A3, c3, rfl, l3, g3⟩⟩⟩⟩ := h
  exact ⟨A1, c1, A3, c3, rfl, l1, g1, l3, g3⟩
def rd_T133 (xs : List S133) (i : Int) : S133 := xs.getD i.toNat z138
theorem at_T133 {w : World} {A : Option Addr} {n : Nat} {xs : List S133} (h : Kd.C k133 w A n xs) (i : Int) (h0 : 0 ≤ i) (h1 : i < n) : ∃ ad A1 c1 A3 c3, A = some ad ∧ w.cell? (ad.add (i.toNat * 4)) = some (.int .i64 (rd_T133 xs i).f0) ∧ w.cell? ⟨(ad.add (i.toNat * 4)).block, (ad.add (i.toNat * 4)).off + 1, none⟩ = some (.slice A1 (rd_T133 xs i).f1.length c1) ∧ w.cell? ⟨(ad.add (i.toNat * 4)).block, (ad.add (i.toNat * 4)).off + 2, none⟩ = some (.int .i64 (rd_T133 xs i).f2) ∧ w.cell? ⟨(ad.add (i.toNat * 4)).block, (ad.add (i.toNat * 4)).off + 3, none⟩ = some (.slice A3 (rd_T133 xs i).f3.length c3) ∧ (rd_T133 xs i).f1.length ≤ c1 ∧ k163.C w A1 (rd_T133 xs i).f1.length (rd_T133 xs i).f1 ∧ (rd_T133 xs i).f3.length ≤ c3 ∧ k165.C w A3 (rd_T133 xs i).f3.length (rd_T133 xs i).f3 := by
  obtain ⟨ad, c, e, _, hK, hc0⟩ := Kd.C_get h z138 i h0 h1
  have hc : ∀ j u, c[j]? = some u → w.cell? (ad.add (i.toNat * 4 + j)) = some u := hc0
  obtain ⟨A1, c1, A3, c3, rfl, l1, g1, l3, g3⟩ := k133_open hK
  exact ⟨ad, A1, c1, A3, c3, e, hc 0 _ rfl, by rw [← add_field _ _ 1 (by omega)]; exact hc 1 _ rfl, by rw [← add_field _ _ 2 (by omega)]; exact hc 2 _ rfl, by rw [← add_field _ _ 3 (by omega)]; exact hc 3 _ rfl, l1, g1, l3, g3⟩
structure S77 where
  f0 : Int
  f1 : Int
def k77 : Kd S77 := Kd.iso (Kd.pair (Kd.int .i64) (Kd.int .i64)) (fun x : S77 => (x.f0, x.f1))
structure S159 where
  f0 : Int
  f1 : Int
def k159 : Kd S159 := Kd.iso (Kd.pair (Kd.int .i64) (Kd.int .i64)) (fun x : S159 => (x.f0, x.f1))
structure S161 where
  f0 : Bool
  f1 : Int
  f2 : Int
  f3 : Int
  f4 : Int
def k161 : Kd S161 := Kd.iso (Kd.pair Kd.bool (Kd.pair (Kd.int .i64) (Kd.pair (Kd.int .i64) (Kd.pair (Kd.int .i64) (Kd.int .i64))))) (fun x : S161 => (x.f0, x.f1, x.f2, x.f3, x.f4))
structure S39P (κ : Type) where
  f0 : Int
  f1 : Int
  f2 : Int
  f3 : Int
  f4 : Int
  f5 : Int
  f6 : List κ
structure S67 where
  f0 : Int
  f1 : Int
  f2 : S39P S67
abbrev S39 := S39P S67
def z39 : S39 := ⟨(0 : Int), (0 : Int), (0 : Int), (0 : Int), (0 : Int), (0 : Int), []⟩
def z49 : S67 := ⟨(0 : Int), (0 : Int), z39⟩
def G39 (d : Kd S67) : Kd S39 := Kd.iso (Kd.pair (Kd.int .i64) (Kd.pair (Kd.int .i64) (Kd.pair (Kd.int .i64) (Kd.pair (Kd.int .i64) (Kd.pair (Kd.int .i64) (Kd.pair (Kd.int .i64) (Kd.slice 67 d))))))) (fun x : S39 => (x.f0, x.f1, x.f2, x.f3, x.f4, x.f5, x.f6))
def F67 (d : Kd S67) : Kd S67 := Kd.iso (Kd.pair (Kd.int .i64) (Kd.pair (Kd.int .i64) (G39 d))) (fun x : S67 => (x.f0, x.f1, x.f2))
theorem monoG39 : Kd.Mono G39 := Kd.mono_iso _ (Kd.mono_pair (Kd.mono_const _) (Kd.mono_pair (Kd.mono_const _) (Kd.mono_pair (Kd.mono_const _) (Kd.mono_pair (Kd.mono_const _) (Kd.mono_pair (Kd.mono_const _) (Kd.mono_pair (Kd.mono_const _) (Kd.mono_slice 67 Kd.mono_id)))))))
theorem mono49 : Kd.Mono F67 := Kd.mono_iso _ (Kd.mono_pair (Kd.mono_const _) (Kd.mono_pair (Kd.mono_const _) monoG39))
theorem subG39 : Kd.Sub G39 [67] := Kd.sub_iso _ (Kd.sub_pair (Kd.sub_const _ (by decide)) (Kd.sub_pair (Kd.sub_const _ (by decide)) (Kd.sub_pair (Kd.sub_const _ (by decide)) (Kd.sub_pair (Kd.sub_const _ (by decide)) (Kd.sub_pair (Kd.sub_const _ (by decide)) (Kd.sub_pair (Kd.sub_const _ (by decide)) (Kd.sub_slice 67 (by decide) Kd.sub_id)))))))
theorem sub49 : Kd.Sub F67 [67] := Kd.sub_iso _ (Kd.sub_pair (Kd.sub_const _ (by decide)) (Kd.sub_pair (Kd.sub_const _ (by decide)) subG39))
theorem sz67 : ∀ n, (Kd.upto F67 9 [67] n).sz = 9 := Kd.upto_sz (fun _ => rfl)
def k67 : Kd S67 := Kd.fix F67 9 [67] sz67 (Kd.upto_E sub49)
def k39 : Kd S39 := G39 k67
theorem G39_heap {d : Kd S67} (h_ : Kd.Heap d) : Kd.Heap (G39 d) := Kd.heap_iso _ (Kd.heap_pair (Kd.heap_int .i64) (Kd.heap_pair (Kd.heap_int .i64) (Kd.heap_pair (Kd.heap_int .i64) (Kd.heap_pair (Kd.heap_int .i64) (Kd.heap_pair (Kd.heap_int .i64) (Kd.heap_pair (Kd.heap_int .i64) (Kd.heap_slice 67 h_)))))))
theorem k67_heap : Kd.Heap k67 := Kd.heap_fix (fun _ h_ => Kd.heap_iso _ (Kd.heap_pair (Kd.heap_int .i64) (Kd.heap_pair (Kd.heap_int .i64) (G39_heap h_))))
theorem k39_heap : Kd.Heap k39 := G39_heap k67_heap
theorem G39_open {d : Kd S67} {w : World} {x : S39} {cs : List Value} (h : (G39 d).K w x cs) : ∃ A6 c6, cs = [.int .i64 x.f0, .int .i64 x.f1, .int .i64 x.f2, .int .i64 x.f3, .int .i64 x.f4, .int .i64 x.f5, .slice A6 x.f6.length c6] ∧ x.f6.length ≤ c6 ∧ d.C w A6 x.f6.length x.f6 := by
  obtain ⟨_, _, rfl, rfl, ⟨_, _, rfl, rfl, ⟨_, _, rfl, rfl, ⟨_, _, rfl, rfl, ⟨_, _, rfl, rfl, ⟨_, _, rfl, rfl, ⟨A6, c6, rfl, l6, g6⟩⟩⟩⟩⟩⟩⟩ := h
  exact ⟨A6, c6, rfl, l6, g6⟩
theorem k39_open {w : World} {x : S39} {cs : List Value} (h : k39.K w x cs) : ∃ A6 c6, cs = [.int .i64 x.f0, .int .i64 x.f1, .int .i64 x.f2, .int .i64 x.f3, .int .i64 x.f4, .int .i64 x.f5, .slice A6 x.f6.length c6] ∧ x.f6.length ≤ c6 ∧ k67.C w A6 x.f6.length x.f6 := G39_open h
theorem G39_mk (d : Kd S67) (w : World) (x : S39) {A6 : Option Addr} {c6 : Nat} (l6 : x.f6.length ≤ c6) (g6 : d.C w A6 x.f6.length x.f6) : (G39 d).K w x [.int .i64 x.f0, .int .i64 x.f1, .int .i64 x.f2, .int .i64 x.f3, .int .i64 x.f4, .int .i64 x.f5, .slice A6 x.f6.length c6] := ⟨[.int .i64 x.f0], _, rfl, rfl, ⟨[.int .i64 x.f1], _, rfl, rfl, ⟨[.int .i64 x.f2], _, rfl, rfl, ⟨[.int .i64 x.f3], _, rfl, rfl, ⟨[.int .i64 x.f4], _, rfl, rfl, ⟨[.int .i64 x.f5], _, rfl, rfl, ⟨A6, c6, rfl, l6, g6⟩⟩⟩⟩⟩⟩⟩
theorem k39_mk (w : World) (x : S39) {A6 : Option Addr} {c6 : Nat} (l6 : x.f6.length ≤ c6) (g6 : k67.C w A6 x.f6.length x.f6) : k39.K w x [.int .i64 x.f0, .int .i64 x.f1, .int .i64 x.f2, .int .i64 x.f3, .int .i64 x.f4, .int .i64 x.f5, .slice A6 x.f6.length c6] := G39_mk k67 w x l6 g6
theorem k67_open {w : World} {x : S67} {cs : List Value} (h : k67.K w x cs) : ∃ A8 c8, cs = [.int .i64 x.f0, .int .i64 x.f1, .int .i64 x.f2.f0, .int .i64 x.f2.f1, .int .i64 x.f2.f2, .int .i64 x.f2.f3, .int .i64 x.f2.f4, .int .i64 x.f2.f5, .slice A8 x.f2.f6.length c8] ∧ x.f2.f6.length ≤ c8 ∧ k67.C w A8 x.f2.f6.length x.f2.f6 := by
  obtain ⟨n, h⟩ := h
  cases n with
  | zero => exact h.elim
  | succ n =>
    obtain ⟨_, _, rfl, rfl, ⟨_, _, rfl, rfl, s_⟩⟩ := h
    obtain ⟨A, c, rfl, l, g⟩ := G39_open s_
    exact ⟨A, c, rfl, l, Kd.fix_C g⟩
theorem k67_mk (w : World) (x : S67) {A8 : Option Addr} {c8 : Nat} (l8 : x.f2.f6.length ≤ c8) (g8 : k67.C w A8 x.f2.f6.length x.f2.f6) : k67.K w x [.int .i64 x.f0, .int .i64 x.f1, .int .i64 x.f2.f0, .int .i64 x.f2.f1, .int .i64 x.f2.f2, .int .i64 x.f2.f3, .int .i64 x.f2.f4, .int .i64 x.f2.f5, .slice A8 x.f2.f6.length c8] := by
  obtain ⟨n0, q0⟩ := Kd.fix_C_back mono49 g8
  exact ⟨n0 + 1, ⟨[.int .i64 x.f0], _, rfl, rfl, ⟨[.int .i64 x.f1], _, rfl, rfl, G39_mk _ w x.f2 l8 q0⟩⟩⟩
def rd_T39 (xs : List S39) (i : Int) : S39 := xs.getD i.toNat z39
theorem at_T39 {w : World} {A : Option Addr} {n : Nat} {xs : List S39} (h : Kd.C k39 w A n xs) (i : Int) (h0 : 0 ≤ i) (h1 : i < n) : ∃ ad A6 c6, A = some ad ∧ w.cell? (ad.add (i.toNat * 7)) = some (.int .i64 (rd_T39 xs i).f0) ∧ w.cell? ⟨(ad.add (i.toNat * 7)).block, (ad.add (i.toNat * 7)).off + 1, none⟩ = some (.int .i64 (rd_T39 xs i).f1) ∧ w.cell? ⟨(ad.add (i.toNat * 7)).block, (ad.add (i.toNat * 7)).off + 2, none⟩ = some (.int .i64 (rd_T39 xs i).f2) ∧ w.cell? ⟨(ad.add (i.toNat * 7)).block, (ad.add (i.toNat * 7)).off + 3, none⟩ = some (.int .i64 (rd_T39 xs i).f3) ∧ w.cell? ⟨(ad.add (i.toNat * 7)).block, (ad.add (i.toNat * 7)).off + 4, none⟩ = some (.int .i64 (rd_T39 xs i).f4) ∧ w.cell? ⟨(ad.add (i.toNat * 7)).block, (ad.add (i.toNat * 7)).off + 5, none⟩ = some (.int .i64 (rd_T39 xs i).f5) ∧ w.cell? ⟨(ad.add (i.toNat * 7)).block, (ad.add (i.toNat * 7)).off + 6, none⟩ = some (.slice A6 (rd_T39 xs i).f6.length c6) ∧ (rd_T39 xs i).f6.length ≤ c6 ∧ k67.C w A6 (rd_T39 xs i).f6.length (rd_T39 xs i).f6 := by
  obtain ⟨ad, c, e, _, hK, hc0⟩ := Kd.C_get h z39 i h0 h1
  have hc : ∀ j u, c[j]? = some u → w.cell? (ad.add (i.toNat * 7 + j)) = some u := hc0
  obtain ⟨A6, c6, rfl, l6, g6⟩ := k39_open hK
  exact ⟨ad, A6, c6, e, hc 0 _ rfl, by rw [← add_field _ _ 1 (by omega)]; exact hc 1 _ rfl, by rw [← add_field _ _ 2 (by omega)]; exact hc 2 _ rfl, by rw [← add_field _ _ 3 (by omega)]; exact hc 3 _ rfl, by rw [← add_field _ _ 4 (by omega)]; exact hc 4 _ rfl, by rw [← add_field _ _ 5 (by omega)]; exact hc 5 _ rfl, by rw [← add_field _ _ 6 (by omega)]; exact hc 6 _ rfl, l6, g6⟩
theorem k67_openF {W : World} {ok : Nat → Prop} {x : S67} {cs : List Value} (h : Kd.FK k67 W ok x cs) : ∃ A8 c8, cs = [.int .i64 x.f0, .int .i64 x.f1, .int .i64 x.f2.f0, .int .i64 x.f2.f1, .int .i64 x.f2.f2, .int .i64 x.f2.f3, .int .i64 x.f2.f4, .int .i64 x.f2.f5, .slice A8 x.f2.f6.length c8] ∧ x.f2.f6.length ≤ c8 ∧ Kd.F k67 W ok A8 x.f2.f6.length x.f2.f6 := by
  obtain ⟨A8, c8, rfl, l8, _⟩ := k67_open (Kd.FK_now h)
  exact ⟨A8, c8, rfl, l8, (fun W' hW => by obtain ⟨A8_, c8_, he, l8_, g8_⟩ := k67_open (h W' hW); injection (Option.some.inj (show some (Value.slice A8 x.f2.f6.length c8) = some (Value.slice A8_ x.f2.f6.length c8_) from congrArg (fun l => l[8]?) he)) with ha_ _ _; rw [ha_]; exact g8_)⟩
theorem k67_mkF (W : World) (ok : Nat → Prop) (x : S67) {A8 : Option Addr} {c8 : Nat} (l8 : x.f2.f6.length ≤ c8) (g8 : Kd.F k67 W ok A8 x.f2.f6.length x.f2.f6) : Kd.FK k67 W ok x [.int .i64 x.f0, .int .i64 x.f1, .int .i64 x.f2.f0, .int .i64 x.f2.f1, .int .i64 x.f2.f2, .int .i64 x.f2.f3, .int .i64 x.f2.f4, .int .i64 x.f2.f5, .slice A8 x.f2.f6.length c8] := fun W2 hW => k67_mk W2 x l8 (g8 W2 hW)
def rd_T67 (xs : List S67) (i : Int) : S67 := xs.getD i.toNat z49
theorem at_T67 {w : World} {A : Option Addr} {n : Nat} {xs : List S67} (h : Kd.C k67 w A n xs) (i : Int) (h0 : 0 ≤ i) (h1 : i < n) : ∃ ad A8 c8, A = some ad ∧ w.cell? (ad.add (i.toNat * 9)) = some (.int .i64 (rd_T67 xs i).f0) ∧ w.cell? ⟨(ad.add (i.toNat * 9)).block, (ad.add (i.toNat * 9)).off + 1, none⟩ = some (.int .i64 (rd_T67 xs i).f1) ∧ w.cell? ⟨(ad.add (i.toNat * 9)).block, (ad.add (i.toNat * 9)).off + 2, none⟩ = some (.int .i64 (rd_T67 xs i).f2.f0) ∧ w.cell? ⟨(ad.add (i.toNat * 9)).block, (ad.add (i.toNat * 9)).off + 3, none⟩ = some (.int .i64 (rd_T67 xs i).f2.f1) ∧ w.cell? ⟨(ad.add (i.toNat * 9)).block, (ad.add (i.toNat * 9)).off + 4, none⟩ = some (.int .i64 (rd_T67 xs i).f2.f2) ∧ w.cell? ⟨(ad.add (i.toNat * 9)).block, (ad.add (i.toNat * 9)).off + 5, none⟩ = some (.int .i64 (rd_T67 xs i).f2.f3) ∧ w.cell? ⟨(ad.add (i.toNat * 9)).block, (ad.add (i.toNat * 9)).off + 6, none⟩ = some (.int .i64 (rd_T67 xs i).f2.f4) ∧ w.cell? ⟨(ad.add (i.toNat * 9)).block, (ad.add (i.toNat * 9)).off + 7, none⟩ = some (.int .i64 (rd_T67 xs i).f2.f5) ∧ w.cell? ⟨(ad.add (i.toNat * 9)).block, (ad.add (i.toNat * 9)).off + 8, none⟩ = some (.slice A8 (rd_T67 xs i).f2.f6.length c8) ∧ (rd_T67 xs i).f2.f6.length ≤ c8 ∧ k67.C w A8 (rd_T67 xs i).f2.f6.length (rd_T67 xs i).f2.f6 := by
  obtain ⟨ad, c, e, _, hK, hc0⟩ := Kd.C_get h z49 i h0 h1
  have hc : ∀ j u, c[j]? = some u → w.cell? (ad.add (i.toNat * 9 + j)) = some u := hc0
  obtain ⟨A8, c8, rfl, l8, g8⟩ := k67_open hK
  exact ⟨ad, A8, c8, e, hc 0 _ rfl, by rw [← add_field _ _ 1 (by omega)]; exact hc 1 _ rfl, by rw [← add_field _ _ 2 (by omega)]; exact hc 2 _ rfl, by rw [← add_field _ _ 3 (by omega)]; exact hc 3 _ rfl, by rw [← add_field _ _ 4 (by omega)]; exact hc 4 _ rfl, by rw [← add_field _ _ 5 (by omega)]; exact hc 5 _ rfl, by rw [← add_field _ _ 6 (by omega)]; exact hc 6 _ rfl, by rw [← add_field _ _ 7 (by omega)]; exact hc 7 _ rfl, by rw [← add_field _ _ 8 (by omega)]; exact hc 8 _ rfl, l8, g8⟩
structure S23 where
  f0 : Int
  f1 : Int
  f2 : Int
  f3 : Int
  f4 : Int
  f5 : Bool
def k23 : Kd S23 := Kd.iso (Kd.pair (Kd.int .i64) (Kd.pair (Kd.int .i64) (Kd.pair (Kd.int .i64) (Kd.pair (Kd.int .i64) (Kd.pair (Kd.int .i64) Kd.bool))))) (fun x : S23 => (x.f0, x.f1, x.f2, x.f3, x.f4, x.f5))
end Go.Proofs.YtbhljokhcmfgjaaGreat.P

namespace Go.Proofs.YtbhljokhcmfgjaaGreat.P
open Go.RowKit Go.Proofs.YtbhljokhcmfgjaaGreatW.PrintWords Go.Proofs.YtbhljokhcmfgjaaGreatW.PrintLast Go.Proofs.YtbhljokhcmfgjaaGreatW.PrintMore
attribute [local go_sem] max2_int min2_int max_two min_two max_three min_three max_four min_four   -- for this text's walks alone
set_option linter.unusedVariables false
set_option linter.unusedSimpArgs false
def fixed_Is.l0 : Nat → List Int → Int → Int → Option (Bool)
  | 0, _, _, _ => none
  | k + 1, x5, x6, x7 => if x7 < x6 then (if 0 ≤ x7 then (if x7 < (x5.length : Int) then (if (rd x5 x7) < (-1073741823) then (some false) else (if (rd x5 x7) > 1073741823 then (some false) else (fixed_Is.l0 k x5 x6 (wrap64 (x7 + 1))))) else (none)) else (none)) else (some true)
def fixed_Is.f (k : Nat) (l0 : List Int) : Option (Bool) := fixed_Is.l0 k l0 (l0.length : Int) 0
theorem fixed_Is.mono_l : ∀ k, (∀ y0 y1 y2, LeO (fixed_Is.l0 k y0 y1 y2) (fixed_Is.l0 (k + 1) y0 y1 y2))
  | 0 => fun _ _ _ r h => by simp [fixed_Is.l0] at h
  | k + 1 => by
    have ih0 := fixed_Is.mono_l k
    · intro y0 y1 y2
      unfold fixed_Is.l0
      repeat' first
      | (with_reducible exact ih0 _ _ _)
      | (with_reducible exact LeO.refl _)
      | (with_reducible exact LeO.none _)
      | (with_reducible refine LeO.ite ?_ ?_)
      | (with_reducible refine LeO.bind ?_ (fun _ => ?_))
      | exact ih0 _ _ _
      | exact LeO.none _
      | refine LeO.ite ?_ ?_
      | refine LeO.bind ?_ (fun _ => ?_)
theorem fixed_Is.mono : ∀ a0 k, LeO (fixed_Is.f k a0) (fixed_Is.f (k + 1) a0) := by
  intro a0 k
  have ih0 := fixed_Is.mono_l k
  unfold fixed_Is.f
  repeat' first
      | (with_reducible exact ih0 _ _ _)
      | (with_reducible exact LeO.refl _)
      | (with_reducible exact LeO.none _)
      | (with_reducible refine LeO.ite ?_ ?_)
      | (with_reducible refine LeO.bind ?_ (fun _ => ?_))
      | exact ih0 _ _ _
      | exact LeO.none _
      | refine LeO.ite ?_ ?_
      | refine LeO.bind ?_ (fun _ => ?_)
set_option maxHeartbeats 8000000 in
set_option maxRecDepth 100000 in
theorem fixed_Is.calls (k : Nat) (A0 : Option Addr) (c0 : Nat) (l0 : List Int) (r : Bool) (w : World) (hr0 : Kd.C (Kd.int .i64) w A0 l0.length l0) (hc0 : l0.length ≤ c0) (h : fixed_Is.f k l0 = some r) :
    Calls Tryz.prog 45 #[.slice A0 l0.length c0] w fun e w' => e = .returned (.bool r) ∧ Drawn0 w w' := by
  have HR0 := Aside0.mk hr0
  have HC0 := Aside0.mk hc0
  clear hr0 hc0
  have H : (fixed_Is.l0 k l0 (l0.length : Int) 0) = some r := h
  clear h
  have H' := Aside0.mk H
  clear H
  go_enter Tryz.func45, Tryz.ntmps45
  go_wp2
  go_loopg [7] k (fun kq v7 w' => ∃ (x7_1 : Int), v7 = .int .i64 x7_1 ∧ Aside0 (fixed_Is.l0 kq l0 (l0.length : Int) x7_1 = some r) ∧ Aside0 (kq ≤ k) ∧ Drawn0 w w')
  case atStart => exact ⟨(0), (by first | rfl | (simp; done) | (simp [*]; done)), H', ⟨Nat.le_refl _⟩, by repeat (first | exact Drawn0.refl _ | apply Drawn0.step)⟩
  case round =>
    clear H'
    obtain ⟨x7_1, rfl, HA, HK1, ⟨m1, rfl⟩⟩ := hrel
    cases gk with
    | zero => exact absurd HA.out (by simp [fixed_Is.l0])
    | succ k1 =>
      have H := HA.out
      clear HA
      simp only [fixed_Is.l0] at H
      by_cases c2 : x7_1 < (l0.length : Int)
      · rw [if_pos c2] at H
        have c2b0 : decide (x7_1 < (l0.length : Int)) = true := decide_eq_true c2
        clear c2
        by_cases c3 : 0 ≤ x7_1
        · rw [if_pos c3] at H
          have c3b0 : decide (0 ≤ x7_1) = true := decide_eq_true c3
          clear c3
          by_cases c4 : x7_1 < (l0.length : Int)
          · rw [if_pos c4] at H
            have c4b0 : decide (x7_1 < (l0.length : Int)) = true := decide_eq_true c4
            clear c4
            by_cases c5 : (rd l0 x7_1) < (-1073741823)
            · rw [if_pos c5] at H
              have c5b0 : decide ((rd l0 x7_1) < (-1073741823)) = true := decide_eq_true c5
              clear c5
              obtain rfl := Option.some.inj H
              have p155 : 0 ≤ (x7_1 : Int) := of_decide_eq_true (by first | (with_reducible assumption) | assumption)
              have q155 : x7_1 < (l0.length : Int) := of_decide_eq_true (by first | (with_reducible assumption) | assumption)
              obtain ⟨ad155, e155, hx155_0⟩ := Kd.at_int HR0.out x7_1 p155 q155
              cases e155
              replace p155 := eq_true p155
              replace q155 := eq_true q155
              go_wp2
              go_ret
              exact ⟨by first | rfl | (simp; done) | (simp [*]; done), by repeat (first | exact Drawn0.refl _ | apply Drawn0.step)⟩
            · rw [if_neg c5] at H
              have c5b0 : decide ((rd l0 x7_1) < (-1073741823)) = false := decide_eq_false c5
              clear c5
              by_cases c6 : (rd l0 x7_1) > 1073741823
              · rw [if_pos c6] at H
                have c6b0 : decide (1073741823 < (rd l0 x7_1)) = true := decide_eq_true c6
                clear c6
                obtain rfl := Option.some.inj H
                have p155 : 0 ≤ (x7_1 : Int) := of_decide_eq_true (by first | (with_reducible assumption) | assumption)
                have q155 : x7_1 < (l0.length : Int) := of_decide_eq_true (by first | (with_reducible assumption) | assumption)
                obtain ⟨ad155, e155, hx155_0⟩ := Kd.at_int HR0.out x7_1 p155 q155
                cases e155
                replace p155 := eq_true p155
                replace q155 := eq_true q155
                go_wp2
                go_ret
                exact ⟨by first | rfl | (simp; done) | (simp [*]; done), by repeat (first | exact Drawn0.refl _ | apply Drawn0.step)⟩
              · rw [if_neg c6] at H
                have c6b0 : decide (1073741823 < (rd l0 x7_1)) = false := decide_eq_false c6
                clear c6
                have H' := Aside0.mk H
                clear H
                have p155 : 0 ≤ (x7_1 : Int) := of_decide_eq_true (by first | (with_reducible assumption) | assumption)
                have q155 : x7_1 < (l0.length : Int) := of_decide_eq_true (by first | (with_reducible assumption) | assumption)
                obtain ⟨ad155, e155, hx155_0⟩ := Kd.at_int HR0.out x7_1 p155 q155
                cases e155
                replace p155 := eq_true p155
                replace q155 := eq_true q155
                go_wp2
                go_roundg k1
                case measure => have := HK1.out; omega
                case rel => exact ⟨(wrap64 (x7_1 + 1)), (by first | rfl | (simp; done) | (simp [*]; done)), H', ⟨by have := HK1.out; omega⟩, by repeat (first | exact Drawn0.refl _ | apply Drawn0.step)⟩
          · rw [if_neg c4] at H
            exact absurd H (by simp)
        · rw [if_neg c3] at H
          exact absurd H (by simp)
      · rw [if_neg c2] at H
        have c2b0 : decide (x7_1 < (l0.length : Int)) = false := decide_eq_false c2
        clear c2
        obtain rfl := Option.some.inj H
        go_wp2
        go_ret
        exact ⟨by first | rfl | (simp; done) | (simp [*]; done), by repeat (first | exact Drawn0.refl _ | apply Drawn0.step)⟩
end Go.Proofs.YtbhljokhcmfgjaaGreat.P

namespace Go.Proofs.YtbhljokhcmfgjaaGreat.P
open Go.RowKit Go.Proofs.YtbhljokhcmfgjaaGreatW.PrintWords Go.Proofs.YtbhljokhcmfgjaaGreatW.PrintLast Go.Proofs.YtbhljokhcmfgjaaGreatW.PrintMore
attribute [local go_sem] max2_int min2_int max_two min_two max_three min_three max_four min_four   -- for this text's walks alone
set_option linter.unusedVariables false
set_option linter.unusedSimpArgs false
def style_Is.f (a0 : Int) : Option (Bool) := if a0 ≥ 0 then (some (decide (a0 < 8))) else (some false)
set_option maxHeartbeats 8000000 in
set_option maxRecDepth 100000 in
theorem style_Is.calls (a0 : Int) (r : Bool) (w : World) (h : style_Is.f a0 = some r) :
    Calls Tryz.prog 54 #[.int .i64 a0] w fun e w' => e = .returned (.bool r) ∧ Drawn0 w w' := by
  have H : (if a0 ≥ 0 then (some (decide (a0 < 8))) else (some false)) = some r := h
  clear h
  by_cases c2 : a0 ≥ 0
  · rw [if_pos c2] at H
    have c2b0 : decide (0 ≤ a0) = true := decide_eq_true c2
    clear c2
    obtain rfl := Option.some.inj H
    go_enter Tryz.func54, Tryz.ntmps54
    go_wp2
    go_ret
    exact ⟨by first | rfl | (simp; done) | (simp [*]; done), by repeat (first | exact Drawn0.refl _ | apply Drawn0.step)⟩
  · rw [if_neg c2] at H
    have c2b0 : decide (0 ≤ a0) = false := decide_eq_false c2
    clear c2
    obtain rfl := Option.some.inj H
    go_enter Tryz.func54, Tryz.ntmps54
    go_wp2
    go_ret
    exact ⟨by first | rfl | (simp; done) | (simp [*]; done), by repeat (first | exact Drawn0.refl _ | apply Drawn0.step)⟩
end Go.Proofs.YtbhljokhcmfgjaaGreat.P

namespace Go.Proofs.YtbhljokhcmfgjaaGreat.P
open Go.RowKit Go.Proofs.YtbhljokhcmfgjaaGreatW.PrintWords Go.Proofs.YtbhljokhcmfgjaaGreatW.PrintLast Go.Proofs.YtbhljokhcmfgjaaGreatW.PrintMore
/-- Is a number a length? -/
def isLen (a : Int) : Bool := decide (-1073741823 ≤ a) && decide (a ≤ 1073741823)
theorem isLen_iff {a : Int} : isLen a = true ↔ -1073741823 ≤ a ∧ a ≤ 1073741823 := by simp [isLen]
theorem fixed_Is_l0 (l : List Int) (hm : l.length ≤ 9223372036854775807) (d : Nat) : ∀ (k i : Nat), l.length - i = d → i ≤ l.length → d < k → fixed_Is.l0 k l (l.length : Int) i = some ((l.drop i).all isLen) := by
  induction d with
  | zero =>
    intro k i hd hi hk
    obtain ⟨k, rfl⟩ : ∃ m, k = m + 1 := ⟨k - 1, by omega⟩
    simp only [fixed_Is.l0]
    rw [if_neg (by omega), List.drop_of_length_le (by omega)]
    rfl
  | succ d ih =>
    intro k i hd hi hk
    obtain ⟨k, rfl⟩ : ∃ m, k = m + 1 := ⟨k - 1, by omega⟩
    have hlt : i < l.length := by omega
    have hrd : rd l (i : Int) = l[i] := by simp [rd, List.getD_eq_getElem?_getD, hlt]
    have hw : wrap64 ((i : Int) + 1) = ((i + 1 : Nat) : Int) := by unfold wrap64; omega
    simp only [fixed_Is.l0]
    rw [if_pos (by omega), if_pos (by omega), if_pos (by omega), hrd, List.drop_eq_getElem_cons hlt, List.all_cons]
    by_cases h1 : l[i] < -1073741823
    · rw [if_pos h1]
      have : isLen l[i] = false := by simp [isLen]; omega
      rw [this]; rfl
    · rw [if_neg h1]
      by_cases h2 : l[i] > 1073741823
      · rw [if_pos h2]
        have : isLen l[i] = false := by simp [isLen]; omega
        rw [this]; rfl
      · rw [if_neg h2, hw, ih k (i + 1) (by omega) (by omega) (by omega)]
        have : isLen l[i] = true := isLen_iff.2 ⟨by omega, by omega⟩
        rw [this]; rfl
theorem fixed_Is_f (l : List Int) (hm : l.length ≤ 9223372036854775807) : fixed_Is.f (l.length + 1) l = some (l.all isLen) := by
  have := fixed_Is_l0 l hm l.length (l.length + 1) 0 (by omega) (by omega) (by omega)
  simpa [fixed_Is.f] using this
theorem fixed_Is_any (A0 : Option Addr) (c0 : Nat) (l0 : List Int) (w : World) (hr0 : Kd.C (Kd.int .i64) w A0 l0.length l0) (hc0 : l0.length ≤ c0) :
    Calls Tryz.prog 45 #[.slice A0 l0.length c0] w fun e w' => e = .returned (.bool (l0.all isLen)) ∧ Drawn0 w w' :=
  fixed_Is.calls _ A0 c0 l0 _ w hr0 hc0 (fixed_Is_f l0 (Kd.C_max hr0))
set_option maxHeartbeats 400000 in
theorem need_yes (c : Int) (A0 : Option Addr) (c0 : Nat) (l0 : List Int) (w : World) (hr0 : Kd.C (Kd.int .i64) w A0 l0.length l0) (hc0 : l0.length ≤ c0) (h : l0.all isLen = true) :
    Calls Tryz.prog 73 #[.int .i64 c, .slice A0 l0.length c0] w fun e w' => e = .returned (.tuple #[]) ∧ Drawn0 w w' := by
  have H := fixed_Is_any A0 c0 l0 w hr0 hc0
  rw [h] at H
  have H := Aside0.mk H
  clear hr0 hc0 h
  go_enter Tryz.func73, Tryz.ntmps73
  go_wp2_with fail
  refine H.out.mono ?_
  rintro e w' ⟨rfl, ⟨n, rfl⟩⟩
  go_wp2
  go_end0
  exact ⟨rfl, ⟨n, rfl⟩⟩
/-- An error that is thrown. -/
def thrown (c : Int) : Ending := .panicked [{ v := .iface 45 (.int .i64 c), recovered := false }]
set_option maxHeartbeats 400000 in
theorem need_no (c : Int) (A0 : Option Addr) (c0 : Nat) (l0 : List Int) (w : World) (hr0 : Kd.C (Kd.int .i64) w A0 l0.length l0) (hc0 : l0.length ≤ c0) (h : l0.all isLen = false) :
    Calls Tryz.prog 73 #[.int .i64 c, .slice A0 l0.length c0] w fun e w' => e = thrown c ∧ Drawn0 w w' := by
  have H := fixed_Is_any A0 c0 l0 w hr0 hc0
  rw [h] at H
  have H := Aside0.mk H
  clear hr0 hc0 h
  have hp : ∀ (c : Int) (w : World), (Instr.panic (.iface 45 (.int .i64 c))).run Tryz.prog w = .halt (.panic (.iface 45 (.int .i64 c))) w := fun _ _ => rfl
  go_enter Tryz.func73, Tryz.ntmps73
  go_wp2_with fail
  refine H.out.mono ?_
  rintro e w' ⟨rfl, ⟨n, rfl⟩⟩
  go_wp2
  exact ⟨rfl, rfl, ⟨n, rfl⟩⟩
/-- What a function that may throw comes to: a number, or an error. -/
def endOf : Except Int Int → Ending
  | .ok n => .returned (.int .i64 n)
  | .error c => thrown c
/-- .. and what is told of it. -/
def toldOf : Except Int Int → Int × Int
  | .ok n => if isLen n = true then (n, 0) else (0, 2)
  | .error c => (0, c)
/-- The deferred function, where nothing is thrown. -/
theorem caught1_idle (p q : Addr) (w : World) :
    CallsD Tryz.prog 97 #[.pointer (some p), .pointer (some q)] .returning w fun e u' w' => e = .returned (.tuple #[]) ∧ u' = .returning ∧ w' = w := by
  refine callsD_of_wpS Tryz.func97 rfl fun c₀ cs hu => ?_
  apply wpS_seq
  apply wpS_region
  simp [wpOpsS, go_sem, recoverD, hu, Tryz.ntmps97, Exit.thenS]
  refine wpS_of_wp ?_
  show Code.wp _ _ _ { tmps := #[.pointer (some p), .pointer (some q), .nilIface, .nilIface, undef, undef, undef, undef], defers := [] } w
  go_wp2
  cases c₀
  simp_all [bodyPostS, results, Tryz.results97]
set_option maxRecDepth 100000 in
/-- The deferred function, where an error is thrown. -/
theorem caught1_busy (p q : Addr) (x y c : Int) (older : List PanicEntry) (w : World) (hpq : p ≠ q) (hp : w.cell? p = some (.int .i64 x)) (hq : w.cell? q = some (.int .i64 y)) (hpf : w.frozen? p = false) (hqf : w.frozen? q = false) :
    CallsD Tryz.prog 97 #[.pointer (some p), .pointer (some q)] (.panicking ({ v := .iface 45 (.int .i64 c), recovered := false } :: older)) w fun e u' w' =>
      e = .returned (.tuple #[]) ∧ u' = .panicking ({ v := .iface 45 (.int .i64 c), recovered := true } :: older) ∧ w' = ((w.setCell p (.int .i64 0)).setCell q (.int .i64 c)).drew := by
  have hta : ∀ (v : Value) (W : World), (Instr.typeAssert (.iface 45 v) 20 45 false).run Tryz.prog W = .ok v W := fun v W => by rfl
  refine callsD_of_wpS Tryz.func97 rfl fun c₀ cs hu => ?_
  apply wpS_seq
  apply wpS_region
  simp [wpOpsS, go_sem, recoverD, hu, Tryz.ntmps97, Exit.thenS]
  refine wpS_of_wp ?_
  show Code.wp _ _ _ { tmps := #[.pointer (some p), .pointer (some q), .iface 45 (.int .i64 c), .iface 45 (.int .i64 c), undef, undef, undef, undef], defers := [] } w
  go_wp2
  go_region
  exact ⟨rfl, _, rfl, _, results_none rfl _ _ _, rfl, rfl, rfl⟩
/-- A function of the program is entered with just these arguments. -/
def Enters (f : FuncId) (args : Array Value) : Prop := ∀ w, (callFunc f args).run Tryz.prog w = .ok (.enter f args) w
/-- Two variables made, one behind the other; whatever is new behind them. -/
theorem two_boxes {w w1 : World} {u v : Value} {s t : Nat} (hb : Below ((w.alloc (.cells #[u] s)).alloc (.cells #[v] t)).heap.size ((w.alloc (.cells #[u] s)).alloc (.cells #[v] t)) w1) :
    w1.heap[w.heap.size]? = some (.cells #[u] s (0, 0)) ∧ w1.heap[w.heap.size + 1]? = some (.cells #[v] t (0, 0)) ∧ w.heap.size + 2 ≤ w1.heap.size ∧ Below w.heap.size w w1 := by
  have hs := hb.size
  simp only [World.size_alloc] at hs
  refine ⟨?_, ?_, hs, ((((Below.refl _ _).alloc (Nat.le_refl _) _).alloc (by simp) _).trans (hb.mono (by simp; omega)))⟩
  · rw [hb.block _ (by simp; omega), Below.heap_alloc _ _ _ (by simp), heap_alloc_new]
  · rw [hb.block _ (by simp)]
    have := heap_alloc_new (w.alloc (.cells #[u] s)) (.cells #[v] t)
    simpa using this
/-- A literal of numbers, read. -/
theorem lit_C (W : World) (e : TypeId) (xs : List Int) (hm : xs.length ≤ 9223372036854775807) : Kd.C (Kd.int .i64) (W.alloc (.cells (encs (Value.int .i64) xs).toArray e)) (some ⟨W.heap.size, 0, none⟩) xs.length xs := by
  have h := own_lit_of (enc := Value.int .i64) W W.heap.size e xs (Nat.le_refl _) hm
  obtain ⟨A, c, he, hr⟩ := own_reads_of (d := (0 : Int)) h
  injection he with ha _ _
  subst ha
  exact Kd.C_of_reads hr
theorem lit1_C (W : World) (B : Nat) (e : TypeId) (x : Int) (hB : B = W.heap.size) : Kd.C (Kd.int .i64) (W.alloc (.cells #[.int .i64 x] e)) (some ⟨B, 0, none⟩) [x].length [x] := by
  subst hB
  exact lit_C W e [x] (by simp)
set_option maxRecDepth 100000 in
set_option maxHeartbeats 400000 in
theorem caught_ok (f : FuncId) (caps : Array Value) (hf : Enters f caps) (n : Int) (w : World) (hn : isLen n = true) (hdo : ∀ W, Below w.heap.size w W → Calls Tryz.prog f caps W fun e w' => e = .returned (.int .i64 n) ∧ Below W.heap.size W w') :
    Calls Tryz.prog 71 #[.func (.func f) #[] caps] w fun e w' => e = .returned (.tuple #[.int .i64 n, .int .i64 0]) ∧ Below w.heap.size w w' := by
  have hmf : ∀ (fn : Fn) (first cap : Array Value) (w : World), (Instr.makeFunc fn first cap).run Tryz.prog w = .ok (.func fn first cap) w := fun _ _ _ _ => rfl
  unfold Enters at hf
  have H := Aside0.mk hdo
  have HN := Aside0.mk hn
  clear hdo hn
  go_enter_defers Tryz.func71, Tryz.ntmps71
  go_wp2_with fail
  refine (H.out _ (((Below.refl _ _).alloc (Nat.le_refl _) _).alloc (by simp) _)).mono ?_
  rintro e w1 ⟨rfl, hb1⟩
  obtain ⟨hx, hy, hz, hb⟩ := two_boxes hb1
  have hx1 := cell_of_one hx
  have hx2 := free_of_one hx
  have hy1 := cell_of_one hy
  have hy2 := free_of_one hy
  have HB := Aside0.mk hb
  have HX := Aside0.mk hx
  have HY := Aside0.mk hy
  clear hb1 hb hx hy
  go_wp2_with fail
  refine (need_yes 2 (some ⟨w1.heap.size, 0, none⟩) 1 [n] _ ?h1 ?h2 ?h3).mono ?_
  case h1 => exact lit1_C _ _ _ _ (by simp [World.setCell])
  case h2 => exact Nat.le_refl _
  case h3 => simp [HN.out]
  rintro e w2 ⟨rfl, hd⟩
  have hd := hd.below
  have hx3 := blk_below (blk_alloc (blk_put HX.out 0 (.int .i64 n) rfl) (.cells #[.int .i64 n] 3)) hd
  have hy3 := blk_below (blk_alloc (blk_far HY.out (p := ⟨w.heap.size, 0, none⟩) (by simp) (.int .i64 n)) (.cells #[.int .i64 n] 3)) hd
  have HB3 := Aside0.mk ((((HB.out.setCell (p := ⟨w.heap.size, 0, none⟩) (Nat.le_refl _) (.int .i64 n)).alloc (by simp [World.setCell]; omega) (.cells #[.int .i64 n] 3))).trans (hd.mono (by simp [World.setCell]; omega)))
  have HX3 := Aside0.mk hx3
  have HY3 := Aside0.mk hy3
  clear hd hx1 hx2 hy1 hy2 HX HY HB hz
  have hx1 := cell_of_one hx3
  have hx2 := free_of_one hx3
  have hy1 := cell_of_one hy3
  have hy2 := free_of_one hy3
  clear hx3 hy3
  go_wp2
  refine leaves_cons (f := 97) (args := #[.pointer (some ⟨w.heap.size, 0, none⟩), .pointer (some ⟨w.heap.size + 1, 0, none⟩)]) (by simp) (by simp [go_sem]) ?_
  refine (caught1_idle _ _ _).mono ?_
  rintro e u' w'' ⟨rfl, rfl, rfl⟩
  have hx4 := blk_far (blk_put HX3.out 0 (.int .i64 n) rfl) (p := ⟨w.heap.size + 1, 0, none⟩) (by simp) (.int .i64 0)
  have hy4 := blk_put (blk_far HY3.out (p := ⟨w.heap.size, 0, none⟩) (by simp) (.int .i64 n)) 0 (.int .i64 0) rfl
  have hx5 := cell_of_one hx4
  have hy5 := cell_of_one hy4
  exact ⟨_, by simp [results, Tryz.results71, go_sem, hx5, hy5], rfl, (HB3.out.setCell (p := ⟨w.heap.size, 0, none⟩) (Nat.le_refl _) _).setCell (p := ⟨w.heap.size + 1, 0, none⟩) (Nat.le_succ _) _⟩
set_option maxRecDepth 100000 in
set_option maxHeartbeats 400000 in
theorem caught_over (f : FuncId) (caps : Array Value) (hf : Enters f caps) (n : Int) (w : World) (hn : isLen n = false) (hdo : ∀ W, Below w.heap.size w W → Calls Tryz.prog f caps W fun e w' => e = .returned (.int .i64 n) ∧ Below W.heap.size W w') :
    Calls Tryz.prog 71 #[.func (.func f) #[] caps] w fun e w' => e = .returned (.tuple #[.int .i64 0, .int .i64 2]) ∧ Below w.heap.size w w' := by
  have hmf : ∀ (fn : Fn) (first cap : Array Value) (w : World), (Instr.makeFunc fn first cap).run Tryz.prog w = .ok (.func fn first cap) w := fun _ _ _ _ => rfl
  unfold Enters at hf
  have H := Aside0.mk hdo
  have HN := Aside0.mk hn
  clear hdo hn
  go_enter_defers Tryz.func71, Tryz.ntmps71
  go_wp2_with fail
  refine (H.out _ (((Below.refl _ _).alloc (Nat.le_refl _) _).alloc (by simp) _)).mono ?_
  rintro e w1 ⟨rfl, hb1⟩
  obtain ⟨hx, hy, hz, hb⟩ := two_boxes hb1
  have hx1 := cell_of_one hx
  have hx2 := free_of_one hx
  have hy1 := cell_of_one hy
  have hy2 := free_of_one hy
  have HB := Aside0.mk hb
  have HX := Aside0.mk hx
  have HY := Aside0.mk hy
  clear hb1 hb hx hy
  go_wp2_with fail
  refine (need_no 2 (some ⟨w1.heap.size, 0, none⟩) 1 [n] _ ?h1 ?h2 ?h3).mono ?_
  case h1 => exact lit1_C _ _ _ _ (by simp [World.setCell])
  case h2 => exact Nat.le_refl _
  case h3 => simp [HN.out]
  rintro e w2 ⟨rfl, hd⟩
  have hd := hd.below
  have hx3 := blk_below (blk_alloc (blk_put HX.out 0 (.int .i64 n) rfl) (.cells #[.int .i64 n] 3)) hd
  have hy3 := blk_below (blk_alloc (blk_far HY.out (p := ⟨w.heap.size, 0, none⟩) (by simp) (.int .i64 n)) (.cells #[.int .i64 n] 3)) hd
  have HB3 := Aside0.mk ((((HB.out.setCell (p := ⟨w.heap.size, 0, none⟩) (Nat.le_refl _) (.int .i64 n)).alloc (by simp [World.setCell]; omega) (.cells #[.int .i64 n] 3))).trans (hd.mono (by simp [World.setCell]; omega)))
  have HX3 := Aside0.mk hx3
  have HY3 := Aside0.mk hy3
  clear hd hx1 hx2 hy1 hy2 HX HY HB hz
  have hx1 := cell_of_one hx3
  have hx2 := free_of_one hx3
  have hy1 := cell_of_one hy3
  have hy2 := free_of_one hy3
  clear hx3 hy3
  unfold thrown
  go_wp2
  refine leaves_cons (f := 97) (args := #[.pointer (some ⟨w.heap.size, 0, none⟩), .pointer (some ⟨w.heap.size + 1, 0, none⟩)]) (by simp) (by simp [go_sem]) ?_
  refine (caught1_busy ⟨w.heap.size, 0, none⟩ ⟨w.heap.size + 1, 0, none⟩ n 0 2 [] _ (by simp) hx1 hy1 hx2 hy2).mono ?_
  rintro e u' w'' ⟨rfl, rfl, rfl⟩
  have hx4 := blk_far (blk_put HX3.out 0 (.int .i64 0) rfl) (p := ⟨w.heap.size + 1, 0, none⟩) (by simp) (.int .i64 2)
  have hy4 := blk_put (blk_far HY3.out (p := ⟨w.heap.size, 0, none⟩) (by simp) (.int .i64 0)) 0 (.int .i64 2) rfl
  have hx5 := cell_of_one hx4
  have hy5 := cell_of_one hy4
  exact ⟨_, by simp [results, Tryz.results71, go_sem, hx5, hy5], rfl, ((HB3.out.setCell (p := ⟨w.heap.size, 0, none⟩) (Nat.le_refl _) _).setCell (p := ⟨w.heap.size + 1, 0, none⟩) (Nat.le_succ _) _).drew⟩
set_option maxRecDepth 100000 in
set_option maxHeartbeats 400000 in
theorem caught_error (f : FuncId) (caps : Array Value) (hf : Enters f caps) (c : Int) (w : World) (hdo : ∀ W, Below w.heap.size w W → Calls Tryz.prog f caps W fun e w' => e = thrown c ∧ Below W.heap.size W w') :
    Calls Tryz.prog 71 #[.func (.func f) #[] caps] w fun e w' => e = .returned (.tuple #[.int .i64 0, .int .i64 c]) ∧ Below w.heap.size w w' := by
  have hmf : ∀ (fn : Fn) (first cap : Array Value) (w : World), (Instr.makeFunc fn first cap).run Tryz.prog w = .ok (.func fn first cap) w := fun _ _ _ _ => rfl
  unfold Enters at hf
  have H := Aside0.mk hdo
  clear hdo
  go_enter_defers Tryz.func71, Tryz.ntmps71
  go_wp2_with fail
  refine (H.out _ (((Below.refl _ _).alloc (Nat.le_refl _) _).alloc (by simp) _)).mono ?_
  rintro e w1 ⟨rfl, hb1⟩
  obtain ⟨hx, hy, hz, hb⟩ := two_boxes hb1
  have hx1 := cell_of_one hx
  have hx2 := free_of_one hx
  have hy1 := cell_of_one hy
  have hy2 := free_of_one hy
  have HB := Aside0.mk hb
  have HX := Aside0.mk hx
  have HY := Aside0.mk hy
  clear hb1 hb hx hy
  unfold thrown
  go_wp2
  refine leaves_cons (f := 97) (args := #[.pointer (some ⟨w.heap.size, 0, none⟩), .pointer (some ⟨w.heap.size + 1, 0, none⟩)]) (by simp) (by simp [go_sem]) ?_
  refine (caught1_busy ⟨w.heap.size, 0, none⟩ ⟨w.heap.size + 1, 0, none⟩ 0 0 c [] _ (by simp) hx1 hy1 hx2 hy2).mono ?_
  rintro e u' w'' ⟨rfl, rfl, rfl⟩
  have hx4 := blk_far (blk_put HX.out 0 (.int .i64 0) rfl) (p := ⟨w.heap.size + 1, 0, none⟩) (by simp) (.int .i64 c)
  have hy4 := blk_put (blk_far HY.out (p := ⟨w.heap.size, 0, none⟩) (by simp) (.int .i64 0)) 0 (.int .i64 c) rfl
  have hx5 := cell_of_one hx4
  have hy5 := cell_of_one hy4
  exact ⟨_, by simp [results, Tryz.results71, go_sem, hx5, hy5], rfl, ((HB.out.setCell (p := ⟨w.heap.size, 0, none⟩) (Nat.le_refl _) _).setCell (p := ⟨w.heap.size + 1, 0, none⟩) (Nat.le_succ _) _).drew⟩
/-- 'caught': what a function comes to, and what is told of it. -/
theorem caught_any (f : FuncId) (caps : Array Value) (hf : Enters f caps) (r : Except Int Int) (w : World) (hdo : ∀ W, Below w.heap.size w W → Calls Tryz.prog f caps W fun e w' => e = endOf r ∧ Below W.heap.size W w') :
    Calls Tryz.prog 71 #[.func (.func f) #[] caps] w fun e w' => e = .returned (.tuple #[.int .i64 (toldOf r).1, .int .i64 (toldOf r).2]) ∧ Below w.heap.size w w' := by
  cases r with
  | ok n =>
    by_cases hn : isLen n = true
    · have h := caught_ok f caps hf n w hn hdo
      simpa only [toldOf, if_pos hn] using h
    · have h := caught_over f caps hf n w (by simpa using hn) hdo
      simpa only [toldOf, if_neg hn] using h
  | error c => exact caught_error f caps hf c w hdo
end Go.Proofs.YtbhljokhcmfgjaaGreat.P

namespace Go.Proofs.YtbhljokhcmfgjaaGreat.P
open Go.RowKit Go.Proofs.YtbhljokhcmfgjaaGreatW.PrintWords Go.Proofs.YtbhljokhcmfgjaaGreatW.PrintLast Go.Proofs.YtbhljokhcmfgjaaGreatW.PrintMore
/-- All together, one behind the other; as soon as it is no length, it is too much. -/
def sumGo : List Int → Int → Except Int Int
  | [], n => .ok n
  | a :: l, n => if isLen (n + a) = true then sumGo l (n + a) else .error 2
def sumR (l : List Int) : Except Int Int := if l.all isLen = true then sumGo l 0 else .error 1
def fixed_Sum.f (l : List Int) : Option (Int × Int) := some (toldOf (sumR l))
theorem sumR_drop (l : List Int) (k : Nat) (h : k < l.length) (n : Int) : sumGo (l.drop k) n = if isLen (n + rd l k) = true then sumGo (l.drop (k + 1)) (n + rd l k) else .error 2 := by
  rw [List.drop_eq_getElem_cons h]
  have : rd l k = l[k] := by simp [rd, List.getD_eq_getElem?_getD, h]
  rw [this]
  rfl
theorem isLen_rd (l : List Int) (h : l.all isLen = true) (k : Nat) (hk : k < l.length) : -1073741823 ≤ rd l k ∧ rd l k ≤ 1073741823 := by
  have : rd l k = l[k] := by simp [rd, List.getD_eq_getElem?_getD, hk]
  rw [this]
  exact isLen_iff.1 (List.all_eq_true.1 h _ (List.getElem_mem hk))
theorem enters_sum (args : Array Value) : Enters 74 args := fun w => by
  go_simp
theorem need_yes' (c : Int) (A0 : Option Addr) (c0 : Nat) (l0 : List Int) (w : World) (hr0 : Kd.C (Kd.int .i64) w A0 l0.length l0) (hc0 : l0.length ≤ c0) (h : l0.all isLen = true) :
    Calls Tryz.prog 73 #[.int .i64 c, .slice A0 l0.length c0] w fun e w' => e = .returned (.tuple #[]) ∧ Below w.heap.size w w' := (need_yes c A0 c0 l0 w hr0 hc0 h).mono fun _ _ ⟨h1, h2⟩ => ⟨h1, h2.below⟩
theorem need_no' (c : Int) (A0 : Option Addr) (c0 : Nat) (l0 : List Int) (w : World) (hr0 : Kd.C (Kd.int .i64) w A0 l0.length l0) (hc0 : l0.length ≤ c0) (h : l0.all isLen = false) :
    Calls Tryz.prog 73 #[.int .i64 c, .slice A0 l0.length c0] w fun e w' => e = thrown c ∧ Below w.heap.size w w' := (need_no c A0 c0 l0 w hr0 hc0 h).mono fun _ _ ⟨h1, h2⟩ => ⟨h1, h2.below⟩
set_option maxRecDepth 100000 in
set_option maxHeartbeats 1000000 in
theorem sum1_calls (B : Nat) (A0 : Option Addr) (c0 : Nat) (l0 : List Int) (w : World) (hB : w.heap[B]? = some (.cells #[.slice A0 l0.length c0] 27 (0, 0))) (hr0 : Kd.C (Kd.int .i64) w A0 l0.length l0) (hc0 : l0.length ≤ c0) :
    Calls Tryz.prog 74 #[.pointer (some ⟨B, 0, none⟩)] w fun e w' => e = endOf (sumR l0) ∧ Below w.heap.size w w' := by
  have hcell := cell_of_one hB
  have hmax := Kd.C_max hr0
  have HR := Aside0.mk hr0
  have HC := Aside0.mk hc0
  have HBL := Aside0.mk hB
  clear hr0 hc0 hB
  by_cases hall : l0.all isLen = true
  · have HA := Aside0.mk hall
    have HS : Aside0 (sumR l0 = sumGo l0 0) := ⟨by simp [sumR, hall]⟩
    clear hall
    go_enter Tryz.func74, Tryz.ntmps74
    go_wp2_with fail
    refine (need_yes' 1 A0 c0 l0 _ HR.out HC.out HA.out).mono ?_
    rintro e w1 ⟨rfl, hd⟩
    have hc1 := cell_of_one (blk_below HBL.out hd)
    have HD := Aside0.mk hd
    clear hd hcell
    go_wp2
    go_loopw [2, 9] (fun n i wr => ∃ (k : Nat) (s : Int), k ≤ l0.length ∧ n = .int .i64 s ∧ i = .int .i64 k ∧ Aside0 (-1073741823 ≤ s ∧ s ≤ 1073741823) ∧ Aside0 (sumGo (l0.drop k) s = sumGo l0 0) ∧ Aside0 (Below w.heap.size w wr)) (fun _ i _ => l0.length - (intOf i).toNat)
    case atStart => exact ⟨0, 0, Nat.zero_le _, rfl, rfl, ⟨by omega⟩, ⟨rfl⟩, HD⟩
    case round =>
      obtain ⟨k, s, hk, rfl, rfl, HSL, HG, HW⟩ := hrel
      by_cases hlt : k < l0.length
      · have hstep := Aside0.mk (sumR_drop l0 k hlt s)
        obtain ⟨ha1, ha2⟩ := isLen_rd l0 HA.out k hlt
        obtain ⟨hs1, hs2⟩ := HSL.out
        obtain ⟨ad, e, hcl⟩ := Kd.at_int (Kd.C_below HR.out HW.out) (k : Int) (by omega) (by omega)
        cases e
        obtain ⟨a, ha⟩ : ∃ a, a = rd l0 k := ⟨_, rfl⟩
        rw [← ha] at hcl ha1 ha2
        simp only [Int.toNat_natCast] at hcl
        have HAeq := Aside0.mk ha
        clear ha
        have hd1 : decide ((k : Int) < (l0.length : Int)) = true := by simp; omega
        by_cases hl : isLen (s + a) = true
        · have HL := Aside0.mk hl
          clear hl
          go_wp2_with fail
          refine (need_yes' 2 (some ⟨wr.heap.size, 0, none⟩) 1 [s + a] _ ?h1 ?h2 ?h3).mono ?_
          case h1 => exact lit1_C _ _ _ _ rfl
          case h2 => exact Nat.le_refl _
          case h3 => simp [HL.out]
          rintro e w2 ⟨rfl, hd⟩
          have HW2 := Aside0.mk ((HW.out.alloc HW.out.size (.cells #[.int .i64 (s + a)] 3)).trans (hd.mono (by have := HW.out.size; simp; omega)))
          clear hd
          go_wp2
          go_roundw
          case rel => exact ⟨k + 1, s + a, by omega, rfl, by go_num, ⟨isLen_iff.1 HL.out⟩, ⟨by rw [← HG.out, hstep.out, ← HAeq.out, if_pos HL.out]⟩, HW2⟩
          case measure => simp [intOf]; omega
        · have HL := Aside0.mk (show isLen (s + a) = false by simpa using hl)
          clear hl
          go_wp2_with fail
          refine (need_no' 2 (some ⟨wr.heap.size, 0, none⟩) 1 [s + a] _ ?h4 ?h5 ?h6).mono ?_
          case h4 => exact lit1_C _ _ _ _ rfl
          case h5 => exact Nat.le_refl _
          case h6 => simp [HL.out]
          rintro e w2 ⟨rfl, hd⟩
          have HW2 := Aside0.mk ((HW.out.alloc HW.out.size (.cells #[.int .i64 (s + a)] 3)).trans (hd.mono (by have := HW.out.size; simp; omega)))
          clear hd
          unfold thrown
          go_wp2
          refine ⟨rfl, ?_, HW2.out⟩
          rw [HS.out, ← HG.out, hstep.out, ← HAeq.out, if_neg (by simp [HL.out])]
          rfl
      · obtain rfl : k = l0.length := by omega
        have hd1 : decide ((l0.length : Int) < (l0.length : Int)) = false := by simp
        go_wp2
        go_ret
        refine ⟨?_, HW.out⟩
        rw [HS.out, ← HG.out, List.drop_of_length_le (Nat.le_refl _)]
        rfl
  · have HA := Aside0.mk (show l0.all isLen = false by simpa using hall)
    have HS : Aside0 (sumR l0 = .error 1) := ⟨by simp only [sumR]; rw [if_neg hall]⟩
    clear hall
    go_enter Tryz.func74, Tryz.ntmps74
    go_wp2_with fail
    refine (need_no' 1 A0 c0 l0 _ HR.out HC.out HA.out).mono ?_
    rintro e w1 ⟨rfl, hd⟩
    have HD := Aside0.mk hd
    clear hd
    unfold thrown
    go_wp2
    exact ⟨rfl, by rw [HS.out]; rfl, HD.out⟩
set_option maxHeartbeats 400000 in
theorem fixed_Sum.calls (A0 : Option Addr) (c0 : Nat) (l0 : List Int) (r1 r2 : Int) (w : World) (hr0 : Kd.C (Kd.int .i64) w A0 l0.length l0) (hc0 : l0.length ≤ c0) (h : fixed_Sum.f l0 = some (r1, r2)) :
    Calls Tryz.prog 47 #[.slice A0 l0.length c0] w fun e w' => e = .returned (.tuple #[.int .i64 r1, .int .i64 r2]) ∧ Below w.heap.size w w' := by
  have hmf : ∀ (fn : Fn) (first cap : Array Value) (w : World), (Instr.makeFunc fn first cap).run Tryz.prog w = .ok (.func fn first cap) w := fun _ _ _ _ => rfl
  have HR := Aside0.mk hr0
  have HC := Aside0.mk hc0
  have he : toldOf (sumR l0) = (r1, r2) := Option.some.inj h
  have HE := Aside0.mk he
  clear hr0 hc0 h he
  go_enter Tryz.func47, Tryz.ntmps47
  go_wp2_with fail
  refine (caught_any 74 #[.pointer (some ⟨w.heap.size, 0, none⟩)] (enters_sum _) (sumR l0) _ ?_).mono ?_
  · intro W hW
    exact sum1_calls w.heap.size A0 c0 l0 W (blk_below (blk_new w _) (hW.mono (by simp))) (Kd.C_below (Kd.C_alloc HR.out _) (hW.mono (by simp))) HC.out
  rintro e w1 ⟨rfl, hd⟩
  have HD := Aside0.mk (((Below.refl w.heap.size w).alloc (Nat.le_refl _) (.cells #[.slice A0 l0.length c0] 27)).trans (hd.mono (by simp)))
  clear hd
  rw [HE.out]
  go_wp2
  go_ret2
  exact ⟨rfl, HD.out⟩
end Go.Proofs.YtbhljokhcmfgjaaGreat.P

namespace Go.Proofs.YtbhljokhcmfgjaaGreat.P
open Go.RowKit Go.Proofs.YtbhljokhcmfgjaaGreatW.PrintWords Go.Proofs.YtbhljokhcmfgjaaGreatW.PrintLast Go.Proofs.YtbhljokhcmfgjaaGreatW.PrintMore
def halfR (a : Int) : Except Int Int := if isLen a = true then .ok (a / 2) else .error 1
def fixed_Half.f (a : Int) : Option (Int × Int) := some (toldOf (halfR a))
theorem enters_half (args : Array Value) : Enters 72 args := fun w => by go_simp
set_option maxRecDepth 100000 in
set_option maxHeartbeats 1000000 in
theorem half1_calls (B : Nat) (a : Int) (w : World) (hB : w.heap[B]? = some (.cells #[.int .i64 a] 3 (0, 0))) :
    Calls Tryz.prog 72 #[.pointer (some ⟨B, 0, none⟩)] w fun e w' => e = endOf (halfR a) ∧ Below w.heap.size w w' := by
  have hcell := cell_of_one hB
  have HBL := Aside0.mk hB
  clear hB
  by_cases hl : isLen a = true
  · have HL := Aside0.mk hl
    have HS : Aside0 (halfR a = .ok (a / 2)) := ⟨by simp [halfR, hl]⟩
    clear hl
    go_enter Tryz.func72, Tryz.ntmps72
    go_wp2_with fail
    refine (need_yes' 1 (some ⟨w.heap.size, 0, none⟩) 1 [a] _ ?h1 ?h2 ?h3).mono ?_
    case h1 => exact lit1_C _ _ _ _ rfl
    case h2 => exact Nat.le_refl _
    case h3 => simp [HL.out]
    rintro e w1 ⟨rfl, hd⟩
    have hc1 := cell_of_one (blk_below (blk_alloc HBL.out _) hd)
    have HD := Aside0.mk (((Below.refl w.heap.size w).alloc (Nat.le_refl _) (.cells #[.int .i64 a] 3)).trans (hd.mono (by simp)))
    clear hd hcell
    go_wp2
    go_ret
    exact ⟨by rw [HS.out]; rfl, HD.out⟩
  · have HL := Aside0.mk (show isLen a = false by simpa using hl)
    have HS : Aside0 (halfR a = .error 1) := ⟨by simp only [halfR]; rw [if_neg hl]⟩
    clear hl
    go_enter Tryz.func72, Tryz.ntmps72
    go_wp2_with fail
    refine (need_no' 1 (some ⟨w.heap.size, 0, none⟩) 1 [a] _ ?h1 ?h2 ?h3).mono ?_
    case h1 => exact lit1_C _ _ _ _ rfl
    case h2 => exact Nat.le_refl _
    case h3 => simp [HL.out]
    rintro e w1 ⟨rfl, hd⟩
    have HD := Aside0.mk (((Below.refl w.heap.size w).alloc (Nat.le_refl _) (.cells #[.int .i64 a] 3)).trans (hd.mono (by simp)))
    clear hd
    unfold thrown
    go_wp2
    exact ⟨rfl, by rw [HS.out]; rfl, HD.out⟩
set_option maxHeartbeats 400000 in
theorem fixed_Half.calls (a0 : Int) (r1 r2 : Int) (w : World) (h : fixed_Half.f a0 = some (r1, r2)) :
    Calls Tryz.prog 46 #[.int .i64 a0] w fun e w' => e = .returned (.tuple #[.int .i64 r1, .int .i64 r2]) ∧ Below w.heap.size w w' := by
  have hmf : ∀ (fn : Fn) (first cap : Array Value) (w : World), (Instr.makeFunc fn first cap).run Tryz.prog w = .ok (.func fn first cap) w := fun _ _ _ _ => rfl
  have he : toldOf (halfR a0) = (r1, r2) := Option.some.inj h
  have HE := Aside0.mk he
  clear h he
  go_enter Tryz.func46, Tryz.ntmps46
  go_wp2_with fail
  refine (caught_any 72 #[.pointer (some ⟨w.heap.size, 0, none⟩)] (enters_half _) (halfR a0) _ ?_).mono ?_
  · intro W hW
    exact half1_calls w.heap.size a0 W (blk_below (blk_new w _) (hW.mono (by simp)))
  rintro e w1 ⟨rfl, hd⟩
  have HD := Aside0.mk (((Below.refl w.heap.size w).alloc (Nat.le_refl _) (.cells #[.int .i64 a0] 3)).trans (hd.mono (by simp)))
  clear hd
  rw [HE.out]
  go_wp2
  go_ret2
  exact ⟨rfl, HD.out⟩
theorem lit3_C (W : World) (B : Nat) (e : TypeId) (x y z : Int) (hB : B = W.heap.size) : Kd.C (Kd.int .i64) (W.alloc (.cells #[.int .i64 x, .int .i64 y, .int .i64 z] e)) (some ⟨B, 0, none⟩) [x, y, z].length [x, y, z] := by
  subst hB
  exact lit_C W e [x, y, z] (by simp)
theorem tmod_bd {p c : Int} (h : ¬ c = 0) (h1 : -1073741823 ≤ c) (h2 : c ≤ 1073741823) : -1073741823 ≤ p.tmod c ∧ p.tmod c ≤ 1073741823 := by
  have h3 : (p.tmod c).natAbs ≤ 1073741823 := by
    rw [Int.natAbs_tmod]
    have := Nat.mod_lt p.natAbs (show 0 < c.natAbs by omega)
    omega
  omega
theorem tdiv_bd {p c : Int} (h1 : -1152921504606846976 ≤ p) (h2 : p ≤ 1152921504606846976) : -1152921504606846976 ≤ wrap64 (p.tdiv c) ∧ wrap64 (p.tdiv c) ≤ 1152921504606846976 := by
  have h3 : (p.tdiv c).natAbs ≤ 1152921504606846976 := by
    rw [Int.natAbs_tdiv]
    exact Nat.le_trans (Nat.div_le_self p.natAbs c.natAbs) (by omega)
  unfold wrap64
  omega
theorem mul_bd {a b : Int} (ha1 : -1073741823 ≤ a) (ha2 : a ≤ 1073741823) (hb1 : -1073741823 ≤ b) (hb2 : b ≤ 1073741823) : -1152921504606846976 ≤ wrap64 (a * b) ∧ wrap64 (a * b) ≤ 1152921504606846976 := by
  have h : (a * b).natAbs ≤ 1073741823 * 1073741823 := by
    rw [Int.natAbs_mul]
    exact Nat.mul_le_mul (by omega) (by omega)
  unfold wrap64
  omega
/-- Rounded: p by c, of which q is the quotient and t is left. -/
def roundQ (p c q t : Int) : Int := if (if c < -c then -c else c) ≤ 2 * (if t < -t then -t else t) then (if (decide (p < 0) == decide (c < 0)) = true then q + 1 else q - 1) else q
def mulDivQ (a b c : Int) : Int := roundQ (wrap64 (a * b)) c (wrap64 ((wrap64 (a * b)).tdiv c)) ((wrap64 (a * b)).tmod c)
def mulDivR (a b c : Int) : Except Int Int := if [a, b, c].all isLen = true then (if c = 0 then .error 1 else .ok (mulDivQ a b c)) else .error 1
def fixed_MulDiv.f (a b c : Int) : Option (Int × Int) := some (toldOf (mulDivR a b c))
theorem enters_mulDiv (args : Array Value) : Enters 78 args := fun w => by go_simp
set_option maxRecDepth 100000 in
set_option maxHeartbeats 1000000 in
theorem mulDiv1_calls (B : Nat) (a b c : Int) (w : World) (hA : w.heap[B]? = some (.cells #[.int .i64 a] 3 (0, 0))) (hB : w.heap[B + 1]? = some (.cells #[.int .i64 b] 3 (0, 0))) (hC : w.heap[B + 2]? = some (.cells #[.int .i64 c] 3 (0, 0)))
    (ha : isLen a = true) (hb : isLen b = true) (hc : isLen c = true) (h0 : (c == 0) = false) :
    Calls Tryz.prog 78 #[.pointer (some ⟨B, 0, none⟩), .pointer (some ⟨B + 1, 0, none⟩), .pointer (some ⟨B + 2, 0, none⟩)] w fun e w' => e = .returned (.int .i64 (mulDivQ a b c)) ∧ Below w.heap.size w w' := by
  have hcA := cell_of_one hA
  have hcB := cell_of_one hB
  have hcC := cell_of_one hC
  have HA := Aside0.mk hA
  have HB := Aside0.mk hB
  have HC := Aside0.mk hC
  have hL := Aside0.mk (And.intro ha (And.intro hb hc))
  obtain ⟨ha1, ha2⟩ := isLen_iff.1 ha
  obtain ⟨hb1, hb2⟩ := isLen_iff.1 hb
  obtain ⟨hc1, hc2⟩ := isLen_iff.1 hc
  clear hA hB hC ha hb hc
  go_enter Tryz.func78, Tryz.ntmps78
  go_wp2_with fail
  refine (need_yes' 1 (some ⟨w.heap.size, 0, none⟩) 3 [a, b, c] _ ?h1 ?h2 ?h3).mono ?_
  case h1 => exact lit3_C _ _ _ _ _ _ rfl
  case h2 => exact Nat.le_refl _
  case h3 => simp [hL.out]
  rintro e w1 ⟨rfl, hd⟩
  have hc1A := cell_of_one (blk_below (blk_alloc HA.out _) hd)
  have hc1B := cell_of_one (blk_below (blk_alloc HB.out _) hd)
  have hc1C := cell_of_one (blk_below (blk_alloc HC.out _) hd)
  have HD := Aside0.mk (((Below.refl w.heap.size w).alloc (Nat.le_refl _) (.cells #[.int .i64 a, .int .i64 b, .int .i64 c] 3)).trans (hd.mono (by simp)))
  clear hd hcA hcB hcC
  go_wp2
  obtain ⟨p, hp⟩ : ∃ p, p = wrap64 (a * b) := ⟨_, rfl⟩
  rw [← hp]
  have HP := Aside0.mk hp
  have hp1 : -1152921504606846976 ≤ p ∧ p ≤ 1152921504606846976 := by rw [hp]; exact mul_bd ha1 ha2 hb1 hb2
  obtain ⟨hp1, hp2⟩ := hp1
  have h00 : ¬ c = 0 := by simpa using h0
  clear hp
  go_region
  obtain ⟨q, hq⟩ : ∃ q, q = wrap64 (p.tdiv c) := ⟨_, rfl⟩
  obtain ⟨t, ht⟩ : ∃ t, t = p.tmod c := ⟨_, rfl⟩
  rw [← hq, ← ht]
  have HQ := Aside0.mk hq
  have HT := Aside0.mk ht
  have ht1 : -1073741823 ≤ t ∧ t ≤ 1073741823 := by rw [ht]; exact tmod_bd h00 hc1 hc2
  have hq1 : -1152921504606846976 ≤ q ∧ q ≤ 1152921504606846976 := by rw [hq]; exact tdiv_bd hp1 hp2
  obtain ⟨ht1, ht2⟩ := ht1
  obtain ⟨hq1, hq2⟩ := hq1
  clear hq ht
  have HM : Aside0 (mulDivQ a b c = roundQ p c q t) := ⟨by rw [mulDivQ, ← HP.out, ← HQ.out, ← HT.out]⟩
  by_cases hc1 : (if c < -c then -c else c) ≤ 2 * (if t < -t then -t else t)
  · by_cases hc2 : (decide (p < 0) == decide (c < 0)) = true
    · have HE : Aside0 (roundQ p c q t = q + 1) := ⟨by rw [roundQ, if_pos hc1, if_pos hc2]⟩
      go_wp2
      all_goals
        go_ret
        exact ⟨by rw [HM.out, HE.out]; rfl, HD.out.drew⟩
    · have HE : Aside0 (roundQ p c q t = q - 1) := ⟨by rw [roundQ, if_pos hc1, if_neg hc2]⟩
      replace hc2 : (decide (p < 0) == decide (c < 0)) = false := by simpa only [Bool.not_eq_true] using hc2
      go_wp2
      all_goals
        go_ret
        exact ⟨by rw [HM.out, HE.out]; rfl, HD.out.drew⟩
  · have HE : Aside0 (roundQ p c q t = q) := ⟨by rw [roundQ, if_neg hc1]⟩
    go_wp2
    all_goals
      go_ret
      exact ⟨by rw [HM.out, HE.out]; rfl, HD.out.drew⟩
set_option maxRecDepth 100000 in
set_option maxHeartbeats 1000000 in
theorem mulDiv1_any (B : Nat) (a b c : Int) (w : World) (hA : w.heap[B]? = some (.cells #[.int .i64 a] 3 (0, 0))) (hB : w.heap[B + 1]? = some (.cells #[.int .i64 b] 3 (0, 0))) (hC : w.heap[B + 2]? = some (.cells #[.int .i64 c] 3 (0, 0))) :
    Calls Tryz.prog 78 #[.pointer (some ⟨B, 0, none⟩), .pointer (some ⟨B + 1, 0, none⟩), .pointer (some ⟨B + 2, 0, none⟩)] w fun e w' => e = endOf (mulDivR a b c) ∧ Below w.heap.size w w' := by
  by_cases hall : [a, b, c].all isLen = true
  · have h3 : isLen a = true ∧ isLen b = true ∧ isLen c = true := by simpa using hall
    by_cases h0 : c = 0
    · have hcA := cell_of_one hA
      have hcB := cell_of_one hB
      have hcC := cell_of_one hC
      have HC := Aside0.mk hC
      have HL := Aside0.mk hall
      have hp : ∀ (c : Int) (w : World), (Instr.panic (.iface 45 (.int .i64 c))).run Tryz.prog w = .halt (.panic (.iface 45 (.int .i64 c))) w := fun _ _ => rfl
      have HS : Aside0 (mulDivR a b c = .error 1) := ⟨by simp only [mulDivR]; rw [if_pos hall, if_pos h0]⟩
      have hc0 : (c == 0) = true := by simpa using h0
      clear hA hB hC hall h3 h0
      go_enter Tryz.func78, Tryz.ntmps78
      go_wp2_with fail
      refine (need_yes' 1 (some ⟨w.heap.size, 0, none⟩) 3 [a, b, c] _ ?h1 ?h2 ?h3).mono ?_
      case h1 => exact lit3_C _ _ _ _ _ _ rfl
      case h2 => exact Nat.le_refl _
      case h3 => exact HL.out
      rintro e w1 ⟨rfl, hd⟩
      have hc1C := cell_of_one (blk_below (blk_alloc HC.out _) hd)
      have HD := Aside0.mk (((Below.refl w.heap.size w).alloc (Nat.le_refl _) (.cells #[.int .i64 a, .int .i64 b, .int .i64 c] 3)).trans (hd.mono (by simp)))
      clear hd hcA hcB hcC
      go_wp2
      exact ⟨rfl, by rw [HS.out]; rfl, HD.out⟩
    · have h := mulDiv1_calls B a b c w hA hB hC h3.1 h3.2.1 h3.2.2 (by simpa using h0)
      have he : mulDivR a b c = .ok (mulDivQ a b c) := by simp only [mulDivR]; rw [if_pos hall, if_neg h0]
      rw [he]
      exact h
  · have hcA := cell_of_one hA
    have hcB := cell_of_one hB
    have hcC := cell_of_one hC
    have HL := Aside0.mk (show [a, b, c].all isLen = false by simpa only [Bool.not_eq_true] using hall)
    have HS : Aside0 (mulDivR a b c = .error 1) := ⟨by simp only [mulDivR]; rw [if_neg hall]⟩
    clear hA hB hC hall
    go_enter Tryz.func78, Tryz.ntmps78
    go_wp2_with fail
    refine (need_no' 1 (some ⟨w.heap.size, 0, none⟩) 3 [a, b, c] _ ?h1 ?h2 ?h3).mono ?_
    case h1 => exact lit3_C _ _ _ _ _ _ rfl
    case h2 => exact Nat.le_refl _
    case h3 => exact HL.out
    rintro e w1 ⟨rfl, hd⟩
    have HD := Aside0.mk (((Below.refl w.heap.size w).alloc (Nat.le_refl _) (.cells #[.int .i64 a, .int .i64 b, .int .i64 c] 3)).trans (hd.mono (by simp)))
    clear hd
    unfold thrown
    go_wp2
    exact ⟨rfl, by rw [HS.out]; rfl, HD.out⟩
theorem three_boxes {w W : World} {u v x : Value} {s t r : Nat} (hb : Below w.heap.size (((w.alloc (.cells #[u] s)).alloc (.cells #[v] t)).alloc (.cells #[x] r)) W) (hs : w.heap.size + 3 ≤ W.heap.size) (hb3 : Below (w.heap.size + 3) (((w.alloc (.cells #[u] s)).alloc (.cells #[v] t)).alloc (.cells #[x] r)) W) :
    W.heap[w.heap.size]? = some (.cells #[u] s (0, 0)) ∧ W.heap[w.heap.size + 1]? = some (.cells #[v] t (0, 0)) ∧ W.heap[w.heap.size + 2]? = some (.cells #[x] r (0, 0)) := by
  refine ⟨?_, ?_, ?_⟩
  · rw [hb3.block _ (by omega), Below.heap_alloc _ _ _ (by simp; omega), Below.heap_alloc _ _ _ (by simp), heap_alloc_new]
  · rw [hb3.block _ (by omega), Below.heap_alloc _ _ _ (by simp)]
    have := heap_alloc_new (w.alloc (.cells #[u] s)) (.cells #[v] t)
    simpa using this
  · rw [hb3.block _ (by omega)]
    have := heap_alloc_new ((w.alloc (.cells #[u] s)).alloc (.cells #[v] t)) (.cells #[x] r)
    simpa using this
set_option maxHeartbeats 400000 in
theorem fixed_MulDiv.calls (a0 a1 a2 : Int) (r1 r2 : Int) (w : World) (h : fixed_MulDiv.f a0 a1 a2 = some (r1, r2)) :
    Calls Tryz.prog 56 #[.int .i64 a0, .int .i64 a1, .int .i64 a2] w fun e w' => e = .returned (.tuple #[.int .i64 r1, .int .i64 r2]) ∧ Below w.heap.size w w' := by
  have hmf : ∀ (fn : Fn) (first cap : Array Value) (w : World), (Instr.makeFunc fn first cap).run Tryz.prog w = .ok (.func fn first cap) w := fun _ _ _ _ => rfl
  have he : toldOf (mulDivR a0 a1 a2) = (r1, r2) := Option.some.inj h
  have HE := Aside0.mk he
  clear h he
  go_enter Tryz.func56, Tryz.ntmps56
  go_wp2_with fail
  refine (caught_any 78 #[.pointer (some ⟨w.heap.size, 0, none⟩), .pointer (some ⟨w.heap.size + 1, 0, none⟩), .pointer (some ⟨w.heap.size + 2, 0, none⟩)] (enters_mulDiv _) (mulDivR a0 a1 a2) _ ?_).mono ?_
  · intro W hW
    have hs := hW.size
    simp only [World.size_alloc] at hs hW
    obtain ⟨h1, h2, h3⟩ := three_boxes (hW.mono (by omega)) hs hW
    exact mulDiv1_any w.heap.size a0 a1 a2 W h1 h2 h3
  rintro e w1 ⟨rfl, hd⟩
  have HD := Aside0.mk (((((Below.refl w.heap.size w).alloc (Nat.le_refl _) (.cells #[.int .i64 a0] 3)).alloc (by simp) (.cells #[.int .i64 a1] 3)).alloc (by simp; omega) (.cells #[.int .i64 a2] 3)).trans (hd.mono (by simp; omega)))
  clear hd
  rw [HE.out]
  go_wp2
  go_ret2
  exact ⟨rfl, HD.out⟩
end Go.Proofs.YtbhljokhcmfgjaaGreat.P

namespace Go.Proofs.YtbhljokhcmfgjaaGreat.P
open Go.Shelf Go.RowKit
def ren167 : Go.Shelf.Ren := ⟨fun | 167 => 108 | 240 => 111 | 276 => 112 | n => n, fun | 0 => 0 | 4 => 4 | 5 => 5 | 9 => 9 | 20 => 20 | 37 => 135 | 70 => 134 | 72 => 137 | 75 => 139 | 80 => 141 | 164 => 143 | n => n, fun | n => n⟩
theorem lays167 : Go.Proofs.Lays.n167 Tryz.prog ren167 := {
  mixed := by kernel_rfl
  f167 := Tryz.func108.trans (congrArg some (by kernel_rfl))
  f240 := Tryz.func111.trans (congrArg some (by kernel_rfl))
  f276 := Tryz.func112.trans (congrArg some (by kernel_rfl))
  t0 := Tryz.underlying0
  a0 := Tryz.isAgg0
  z0 := Tryz.sizeOf0
  v0 := Tryz.zeroValue0
  t4 := Tryz.underlying4
  a4 := Tryz.isAgg4
  z4 := Tryz.sizeOf4
  v4 := Tryz.zeroValue4
  t5 := Tryz.underlying5
  a5 := Tryz.isAgg5
  z5 := Tryz.sizeOf5
  v5 := Tryz.zeroValue5
  t9 := Tryz.underlying9
  a9 := Tryz.isAgg9
  z9 := Tryz.sizeOf9
  v9 := Tryz.zeroValue9
  t20 := Tryz.underlying20
  a20 := Tryz.isAgg20
  z20 := Tryz.sizeOf20
  v20 := Tryz.zeroValue20
  t37 := Tryz.underlying135
  a37 := Tryz.isAgg135
  z37 := Tryz.sizeOf135
  v37 := Tryz.zeroValue135
  t70 := Tryz.underlying134
  a70 := Tryz.isAgg134
  z70 := Tryz.sizeOf134
  v70 := Tryz.zeroValue134
  t72 := Tryz.underlying137
  a72 := Tryz.isAgg137
  z72 := Tryz.sizeOf137
  v72 := Tryz.zeroValue137
  t75 := Tryz.underlying139
  a75 := Tryz.isAgg139
  z75 := Tryz.sizeOf139
  v75 := Tryz.zeroValue139
  t164 := Tryz.underlying143
  a164 := Tryz.isAgg143
  z164 := Tryz.sizeOf143
  v164 := Tryz.zeroValue143 }
theorem extra167 : Builder.Extra Tryz.prog ren167 := {
  sizeBuilder := by kernel_rfl
  liesBuilder := by kernel_rfl
  t5 := Tryz.underlying5
  a5 := Tryz.isAgg5
  z5 := Tryz.sizeOf5
  v5 := Tryz.zeroValue5
  infoByte := by kernel_rfl
  cellsByte := by kernel_rfl
  sizeByte := by kernel_rfl
  neB5 := by decide }
def ren169 : Go.Shelf.Ren := ⟨fun | 169 => 109 | n => n, fun | 0 => 0 | 3 => 3 | 5 => 5 | 9 => 9 | 37 => 135 | 70 => 134 | 72 => 137 | 127 => 142 | n => n, fun | n => n⟩
theorem lays169 : Go.Proofs.Lays.n169 Tryz.prog ren169 := {
  mixed := by kernel_rfl
  f169 := Tryz.func109.trans (congrArg some (by kernel_rfl))
  t0 := Tryz.underlying0
  a0 := Tryz.isAgg0
  z0 := Tryz.sizeOf0
  v0 := Tryz.zeroValue0
  t3 := Tryz.underlying3
  a3 := Tryz.isAgg3
  z3 := Tryz.sizeOf3
  v3 := Tryz.zeroValue3
  t9 := Tryz.underlying9
  a9 := Tryz.isAgg9
  z9 := Tryz.sizeOf9
  v9 := Tryz.zeroValue9
  t37 := Tryz.underlying135
  a37 := Tryz.isAgg135
  z37 := Tryz.sizeOf135
  v37 := Tryz.zeroValue135
  t70 := Tryz.underlying134
  a70 := Tryz.isAgg134
  z70 := Tryz.sizeOf134
  v70 := Tryz.zeroValue134
  t72 := Tryz.underlying137
  a72 := Tryz.isAgg137
  z72 := Tryz.sizeOf137
  v72 := Tryz.zeroValue137
  t127 := Tryz.underlying142
  a127 := Tryz.isAgg142
  z127 := Tryz.sizeOf142
  v127 := Tryz.zeroValue142 }
theorem extra169 : Builder.Extra Tryz.prog ren169 := {
  sizeBuilder := by kernel_rfl
  liesBuilder := by kernel_rfl
  t5 := Tryz.underlying5
  a5 := Tryz.isAgg5
  z5 := Tryz.sizeOf5
  v5 := Tryz.zeroValue5
  infoByte := by kernel_rfl
  cellsByte := by kernel_rfl
  sizeByte := by kernel_rfl
  neB5 := by decide }
theorem WriteByte.calls (B b : Nat) (bs : List Value) (c : Int) (w : World) (h : Lib.IsBuilder 137 5 B b bs w) (hlen : bs.length + 1 ≤ 140737488355328) (hBw : B ≤ w.heap.size) :
    Calls Tryz.prog 108 #[.pointer (some ⟨b, 0, none⟩), .int .u8 c] w fun e w' => e = .returned .nilIface ∧ (Lib.BuilderAt 137 5 B b (.pointer (some ⟨b, 0, none⟩)) (bs ++ [.int .u8 c]) w' ∧ Below B w w') := Any.Builder_WriteByte lays167 extra167 B b bs c w h hlen hBw
theorem BuilderString.calls (B b : Nat) (l : List UInt8) (w : World) (h : Lib.IsBuilder 137 5 B b (Lib.byteCells l) w) (hBw : B ≤ w.heap.size) :
    Calls Tryz.prog 109 #[.pointer (some ⟨b, 0, none⟩)] w fun e w' => e = .returned (.string ⟨l.toArray⟩) ∧ Below B w w' := Any.Builder_String_any lays169 extra169 B b l w h hBw
end Go.Proofs.YtbhljokhcmfgjaaGreat.P

namespace Go.Proofs.YtbhljokhcmfgjaaGreat.P
open Go.RowKit Go.Proofs.YtbhljokhcmfgjaaGreatW.PrintWords Go.Proofs.YtbhljokhcmfgjaaGreatW.PrintLast Go.Proofs.YtbhljokhcmfgjaaGreatW.PrintMore
set_option linter.unusedSimpArgs false
/-- A number's size: so many bytes; below 0: with a sign. -/
def sizeOk (n : Int) : Bool := (decide (n ≠ 0) && decide (-4 ≤ n)) && decide (n ≤ 4)
def fitsR (v n : Int) : Bool := if n < 0 then decide (-(2 ^ (-8 * n - 1).toNat) ≤ v) && decide (v < 2 ^ (-8 * n - 1).toNat) else decide (0 ≤ v) && decide (v < 2 ^ (8 * n).toNat)
theorem sizeOk_cases {n : Int} (h : sizeOk n = true) : n = -4 ∨ n = -3 ∨ n = -2 ∨ n = -1 ∨ n = 1 ∨ n = 2 ∨ n = 3 ∨ n = 4 := by
  simp [sizeOk] at h
  omega
set_option maxRecDepth 100000 in
set_option maxHeartbeats 2000000 in
theorem bin_right_calls (A0 : Option Addr) (c0 : Nat) (l0 : List Int) (w : World) (hr0 : Kd.C (Kd.int .i64) w A0 l0.length l0) (hc0 : l0.length ≤ c0) :
    Calls Tryz.prog 106 #[.slice A0 l0.length c0] w fun e w' => e = .returned (.bool (l0.all sizeOk)) ∧ w = w' := by
  have hmax := Kd.C_max hr0
  have HR := Aside0.mk hr0
  have HC := Aside0.mk hc0
  clear hr0 hc0
  go_enter Tryz.func106, Tryz.ntmps106
  go_wp2
  go_loopw [7] (fun i wr => ∃ (k : Nat), k ≤ l0.length ∧ i = .int .i64 k ∧ wr = w ∧ Aside0 ((l0.drop k).all sizeOk = l0.all sizeOk)) (fun i _ => l0.length - (intOf i).toNat)
  case atStart => exact ⟨0, Nat.zero_le _, rfl, rfl, ⟨by simp⟩⟩
  case round =>
    obtain ⟨k, hk, rfl, rfl, HG⟩ := hrel
    by_cases hlt : k < l0.length
    · obtain ⟨ad, e, hcl⟩ := Kd.at_int HR.out (k : Int) (by omega) (by omega)
      cases e
      have hstep : (l0.drop k).all sizeOk = (sizeOk (rd l0 k) && (l0.drop (k + 1)).all sizeOk) := by
        rw [List.drop_eq_getElem_cons hlt]
        have : rd l0 k = l0[k] := by simp [rd, List.getD_eq_getElem?_getD, hlt]
        rw [this]
        rfl
      have HS := Aside0.mk hstep
      clear hstep
      obtain ⟨a, ha⟩ : ∃ a, a = rd l0 k := ⟨_, rfl⟩
      rw [← ha] at hcl HS
      simp only [Int.toNat_natCast] at hcl
      clear ha
      have hd1 : decide ((k : Int) < (l0.length : Int)) = true := by simp; omega
      by_cases h0 : a = 0
      · have h0d : (a == 0) = true := by simpa using h0
        have HF : Aside0 (sizeOk a = false) := ⟨by subst h0; rfl⟩
        clear h0
        go_wp2
        go_ret
        exact ⟨by rw [← HG.out, HS.out, HF.out]; rfl, rfl⟩
      · have h0d : (a == 0) = false := by simpa using h0
        by_cases h4 : a < -4
        · have h4d : decide (a < -4) = true := by simpa using h4
          have HF : Aside0 (sizeOk a = false) := ⟨by simp only [sizeOk, Bool.and_eq_false_iff, decide_eq_false_iff_not]; omega⟩
          clear h0 h4
          go_wp2
          go_ret
          exact ⟨by rw [← HG.out, HS.out, HF.out]; rfl, rfl⟩
        · have h4d : decide (a < -4) = false := by simpa using h4
          by_cases h5 : 4 < a
          · have h5d : decide (4 < a) = true := by simpa using h5
            have HF : Aside0 (sizeOk a = false) := ⟨by simp only [sizeOk, Bool.and_eq_false_iff, decide_eq_false_iff_not]; omega⟩
            clear h0 h4 h5
            go_wp2
            go_ret
            exact ⟨by rw [← HG.out, HS.out, HF.out]; rfl, rfl⟩
          · have h5d : decide (4 < a) = false := by simpa using h5
            have HF : Aside0 (sizeOk a = true) := ⟨by simp only [sizeOk, Bool.and_eq_true, decide_eq_true_eq]; omega⟩
            clear h0 h4 h5
            go_wp2
            go_roundw
            case rel => exact ⟨k + 1, by omega, by go_num, trivial, ⟨by rw [← HG.out, HS.out, HF.out]; rfl⟩⟩
            case measure => simp [intOf]; omega
    · obtain rfl : k = l0.length := by omega
      have hd1 : decide ((l0.length : Int) < (l0.length : Int)) = false := by simp
      go_wp2
      go_ret
      exact ⟨by rw [← HG.out]; simp, rfl⟩
set_option maxRecDepth 100000 in
set_option maxHeartbeats 4000000 in
theorem bin_fits_calls (v n : Int) (hn : sizeOk n = true) (w : World) :
    Calls Tryz.prog 107 #[.int .i64 v, .int .i64 n] w fun e w' => e = .returned (.bool (fitsR v n)) ∧ w = w' := by
  rcases sizeOk_cases hn with rfl | rfl | rfl | rfl | rfl | rfl | rfl | rfl
  · by_cases h : -2147483648 ≤ v
    · have hd : decide (-2147483648 ≤ v) = true := by simpa using h
      go_enter Tryz.func107, Tryz.ntmps107
      go_wp2
      go_ret
      exact ⟨by simp [fitsR, h] <;> omega, rfl⟩
    · have hd : decide (-2147483648 ≤ v) = false := by simpa using h
      go_enter Tryz.func107, Tryz.ntmps107
      go_wp2
      go_ret
      exact ⟨by simp [fitsR, h] <;> omega, rfl⟩
  · by_cases h : -8388608 ≤ v
    · have hd : decide (-8388608 ≤ v) = true := by simpa using h
      go_enter Tryz.func107, Tryz.ntmps107
      go_wp2
      go_ret
      exact ⟨by simp [fitsR, h] <;> omega, rfl⟩
    · have hd : decide (-8388608 ≤ v) = false := by simpa using h
      go_enter Tryz.func107, Tryz.ntmps107
      go_wp2
      go_ret
      exact ⟨by simp [fitsR, h] <;> omega, rfl⟩
  · by_cases h : -32768 ≤ v
    · have hd : decide (-32768 ≤ v) = true := by simpa using h
      go_enter Tryz.func107, Tryz.ntmps107
      go_wp2
      go_ret
      exact ⟨by simp [fitsR, h] <;> omega, rfl⟩
    · have hd : decide (-32768 ≤ v) = false := by simpa using h
      go_enter Tryz.func107, Tryz.ntmps107
      go_wp2
      go_ret
      exact ⟨by simp [fitsR, h] <;> omega, rfl⟩
  · by_cases h : -128 ≤ v
    · have hd : decide (-128 ≤ v) = true := by simpa using h
      go_enter Tryz.func107, Tryz.ntmps107
      go_wp2
      go_ret
      exact ⟨by simp [fitsR, h] <;> omega, rfl⟩
    · have hd : decide (-128 ≤ v) = false := by simpa using h
      go_enter Tryz.func107, Tryz.ntmps107
      go_wp2
      go_ret
      exact ⟨by simp [fitsR, h] <;> omega, rfl⟩
  · by_cases h : 0 ≤ v
    · have hd : decide (0 ≤ v) = true := by simpa using h
      go_enter Tryz.func107, Tryz.ntmps107
      go_wp2
      go_ret
      exact ⟨by simp [fitsR, h] <;> omega, rfl⟩
    · have hd : decide (0 ≤ v) = false := by simpa using h
      go_enter Tryz.func107, Tryz.ntmps107
      go_wp2
      go_ret
      exact ⟨by simp [fitsR, h] <;> omega, rfl⟩
  · by_cases h : 0 ≤ v
    · have hd : decide (0 ≤ v) = true := by simpa using h
      go_enter Tryz.func107, Tryz.ntmps107
      go_wp2
      go_ret
      exact ⟨by simp [fitsR, h] <;> omega, rfl⟩
    · have hd : decide (0 ≤ v) = false := by simpa using h
      go_enter Tryz.func107, Tryz.ntmps107
      go_wp2
      go_ret
      exact ⟨by simp [fitsR, h] <;> omega, rfl⟩
  · by_cases h : 0 ≤ v
    · have hd : decide (0 ≤ v) = true := by simpa using h
      go_enter Tryz.func107, Tryz.ntmps107
      go_wp2
      go_ret
      exact ⟨by simp [fitsR, h] <;> omega, rfl⟩
    · have hd : decide (0 ≤ v) = false := by simpa using h
      go_enter Tryz.func107, Tryz.ntmps107
      go_wp2
      go_ret
      exact ⟨by simp [fitsR, h] <;> omega, rfl⟩
  · by_cases h : 0 ≤ v
    · have hd : decide (0 ≤ v) = true := by simpa using h
      go_enter Tryz.func107, Tryz.ntmps107
      go_wp2
      go_ret
      exact ⟨by simp [fitsR, h] <;> omega, rfl⟩
    · have hd : decide (0 ≤ v) = false := by simpa using h
      go_enter Tryz.func107, Tryz.ntmps107
      go_wp2
      go_ret
      exact ⟨by simp [fitsR, h] <;> omega, rfl⟩
end Go.Proofs.YtbhljokhcmfgjaaGreat.P

namespace Go.Proofs.YtbhljokhcmfgjaaGreat.P
open Go.RowKit Go.Proofs.YtbhljokhcmfgjaaGreatW.PrintWords Go.Proofs.YtbhljokhcmfgjaaGreatW.PrintLast Go.Proofs.YtbhljokhcmfgjaaGreatW.PrintMore
set_option linter.unusedSimpArgs false
/-- One byte of a number; its so many last bytes. -/
def byteAt (v : Int) (k : Nat) : UInt8 := UInt8.ofNat ((v / 2 ^ (8 * k)) % 256).toNat
def bytesOf (v : Int) : Nat → List UInt8
  | 0 => []
  | k + 1 => byteAt v k :: bytesOf v k
def putGo : List Int → List Int → List UInt8 → List UInt8 × Int
  | n :: s, v :: l, bs => if fitsR v n = true then putGo s l (bs ++ bytesOf v n.natAbs) else ([], 2)
  | _, _, bs => (bs, 0)
def putR (s l : List Int) : List UInt8 × Int := if s.all sizeOk = true ∧ s.length = l.length then putGo s l [] else ([], 1)
theorem byteAt_toNat (v : Int) (k : Nat) : ((byteAt v k).toNat : Int) = v / 2 ^ (8 * k) % 256 := by
  simp only [byteAt]
  have h1 : 0 ≤ v / 2 ^ (8 * k) % 256 := Int.emod_nonneg _ (by decide)
  have h2 : v / 2 ^ (8 * k) % 256 < 256 := Int.emod_lt_of_pos _ (by decide)
  generalize v / 2 ^ (8 * k) % 256 = x at h1 h2
  have : (UInt8.ofNat x.toNat).toNat = x.toNat := by
    simp only [UInt8.toNat_ofNat']
    omega
  rw [this]
  omega
theorem byteCells_length (l : List UInt8) : (Lib.byteCells l).length = l.length := by simp [Lib.byteCells]
theorem byteCells_snoc (l : List UInt8) (x : UInt8) : Lib.byteCells (l ++ [x]) = Lib.byteCells l ++ [.int .u8 x.toNat] := by simp [Lib.byteCells]
theorem bytesOf_length (v : Int) (k : Nat) : (bytesOf v k).length = k := by
  induction k with
  | zero => rfl
  | succ k ih => simp [bytesOf, ih]
theorem putGo_drop (s l : List Int) (k : Nat) (hs : k < s.length) (hl : k < l.length) (bs : List UInt8) : putGo (s.drop k) (l.drop k) bs = if fitsR (rd l k) (rd s k) = true then putGo (s.drop (k + 1)) (l.drop (k + 1)) (bs ++ bytesOf (rd l k) (rd s k).natAbs) else ([], 2) := by
  rw [List.drop_eq_getElem_cons hs, List.drop_eq_getElem_cons hl]
  have h1 : rd s k = s[k] := by simp [rd, List.getD_eq_getElem?_getD, hs]
  have h2 : rd l k = l[k] := by simp [rd, List.getD_eq_getElem?_getD, hl]
  rw [h1, h2]
  rfl
theorem sizeOk_rd (l : List Int) (h : l.all sizeOk = true) (k : Nat) (hk : k < l.length) : sizeOk (rd l k) = true := by
  have : rd l k = l[k] := by simp [rd, List.getD_eq_getElem?_getD, hk]
  rw [this]
  exact List.all_eq_true.1 h _ (List.getElem_mem hk)
set_option maxRecDepth 100000 in
set_option maxHeartbeats 4000000 in
theorem bin_Put_calls (A0 : Option Addr) (c0 : Nat) (l0 : List Int) (A1 : Option Addr) (c1 : Nat) (l1 : List Int) (w : World) (hr0 : Kd.C (Kd.int .i64) w A0 l0.length l0) (hc0 : l0.length ≤ c0) (hr1 : Kd.C (Kd.int .i64) w A1 l1.length l1) (hc1 : l1.length ≤ c1) (hlen : l0.length ≤ 1099511627776) :
    Calls Tryz.prog 100 #[.slice A0 l0.length c0, .slice A1 l1.length c1] w fun e w' => e = .returned (.tuple #[.string ⟨(putR l0 l1).1.toArray⟩, .int .i64 (putR l0 l1).2]) ∧ Below w.heap.size w w' := by
  have hmax0 := Kd.C_max hr0
  have hmax1 := Kd.C_max hr1
  have HR0 := Aside0.mk hr0
  have HC0 := Aside0.mk hc0
  have HR1 := Aside0.mk hr1
  have HC1 := Aside0.mk hc1
  clear hr0 hc0 hr1 hc1
  by_cases hall : l0.all sizeOk = true
  · have HP := bin_right_calls A0 c0 l0 w HR0.out HC0.out
    have HA := Aside0.mk hall
    rw [hall] at HP
    clear hall
    have HP := Aside0.mk HP
    by_cases heq : l0.length = l1.length
    · have HE := Aside0.mk heq
      have hb : ((l0.length : Int) != (l1.length : Int)) = false := by simp [heq]
      have HQ : Aside0 (putR l0 l1 = putGo l0 l1 []) := ⟨by simp [putR, HA.out, heq]⟩
      clear heq
      go_enter Tryz.func100, Tryz.ntmps100
      go_wp2_with fail
      refine HP.out.mono ?_
      rintro e w1 ⟨rfl, rfl⟩
      go_wp2
      go_loopw [22] (fun i wr => ∃ (k : Nat) (bs : List UInt8), k ≤ l0.length ∧ i = .int .i64 k ∧ bs.length ≤ 4 * k ∧ Aside0 (putGo (l0.drop k) (l1.drop k) bs = putGo l0 l1 []) ∧ Aside0 (Lib.IsBuilder 137 5 w.heap.size w.heap.size (Lib.byteCells bs) wr) ∧ Aside0 (Below w.heap.size w wr)) (fun i _ => l0.length - (intOf i).toNat)
      case atStart => exact ⟨0, [], Nat.zero_le _, rfl, by simp, ⟨rfl⟩, ⟨Lib.fresh_isBuilder _ _ w⟩, ⟨(Below.refl _ _).alloc (Nat.le_refl _) _⟩⟩
      case round =>
        obtain ⟨k, bs, hk, rfl, hbl, HG, HB, HW⟩ := hrel
        by_cases hlt : k < l0.length
        · obtain ⟨ad0, e0, hcl0⟩ := Kd.at_int (Kd.C_below HR0.out HW.out) (k : Int) (by omega) (by omega)
          cases e0
          obtain ⟨ad1, e1, hcl1⟩ := Kd.at_int (Kd.C_below HR1.out HW.out) (k : Int) (by omega) (by have := HE.out; omega)
          cases e1
          have hstep := Aside0.mk (putGo_drop l0 l1 k hlt (by have := HE.out; omega) bs)
          have hok := sizeOk_rd l0 HA.out k hlt
          obtain ⟨n, hn⟩ : ∃ n, n = rd l0 k := ⟨_, rfl⟩
          obtain ⟨v, hv⟩ : ∃ v, v = rd l1 k := ⟨_, rfl⟩
          simp only [Int.toNat_natCast] at hcl0 hcl1
          rw [← hn] at hcl0 hok
          rw [← hv] at hcl1
          have HN := Aside0.mk hn
          have HV := Aside0.mk hv
          have HOK := Aside0.mk hok
          clear hn hv hok
          have hlt1 : k < l1.length := by have := HE.out; omega
          have hd1 : decide ((k : Int) < (l0.length : Int)) = true := by simp; omega
          have hd2 : decide ((k : Int) < (l1.length : Int)) = true := by simp; omega
          have HF := bin_fits_calls v n HOK.out wr
          by_cases hf : fitsR v n = true
          · rw [hf] at HF
            have HF := Aside0.mk HF
            have hf := Aside0.mk hf
            go_wp2_with fail
            refine HF.out.mono ?_
            rintro e w1 ⟨rfl, rfl⟩
            go_wp2
            have hna : n.natAbs ≤ 4 := by
              rcases sizeOk_cases HOK.out with h | h | h | h | h | h | h | h <;> subst h <;> decide
            go_loopw [9] (fun x wi => ∃ (j : Int) (m : Nat) (cs : List UInt8), x = .int .i64 j ∧ j + 1 = m ∧ m ≤ 4 ∧ cs.length + m = bs.length + n.natAbs ∧ Aside0 (cs ++ bytesOf v m = bs ++ bytesOf v n.natAbs) ∧ Aside0 (Lib.IsBuilder 137 5 w.heap.size w.heap.size (Lib.byteCells cs) wi) ∧ Aside0 (Below w.heap.size w wi)) (fun x _ => (intOf x + 1).toNat)
            case atStart =>
              refine ⟨_, n.natAbs, bs, rfl, ?_, hna, rfl, ⟨rfl⟩, HB, HW⟩
              rcases sizeOk_cases HOK.out with h | h | h | h | h | h | h | h <;> subst h <;> simp [wrap64] <;> omega
            case round =>
              obtain ⟨j, m, cs, rfl, hjm, hm4, hcl, HCS, HBI, HWI⟩ := hrel
              by_cases hj : 0 ≤ j
              · obtain ⟨q, rfl⟩ : ∃ q : Nat, m = q + 1 := ⟨m - 1, by omega⟩
                obtain rfl : j = (q : Int) := by omega
                obtain ⟨ad2, e2, hcl2⟩ := Kd.at_int (Kd.C_below HR1.out HWI.out) (k : Int) (by omega) (by omega)
                cases e2
                simp only [Int.toNat_natCast] at hcl2
                rw [← HV.out] at hcl2
                go_wp2_with fail
                rw [← byteAt_toNat]
                refine (WriteByte.calls w.heap.size w.heap.size (Lib.byteCells cs) _ wr HBI.out (by rw [byteCells_length]; omega) HWI.out.size).mono ?_
                rintro e w1 ⟨rfl, hbu, hd⟩
                rw [← byteCells_snoc] at hbu
                have HBU := Aside0.mk hbu
                have HD := Aside0.mk hd
                clear hbu hd
                go_wp2
                go_roundw
                case rel => exact ⟨(q : Int) - 1, q, cs ++ [byteAt v q], by go_num, by omega, by omega, by simp; omega, ⟨by rw [← HCS.out]; simp [bytesOf]⟩, ⟨.inr HBU.out⟩, ⟨HWI.out.trans HD.out⟩⟩
                case measure => simp [intOf] <;> omega
              · obtain rfl : m = 0 := by omega
                obtain rfl : j = -1 := by omega
                go_wp2
                go_roundw
                case rel =>
                  simp only [bytesOf, List.append_nil] at HCS
                  refine ⟨k + 1, bs ++ bytesOf v n.natAbs, by omega, by go_num, by simp [bytesOf_length]; omega, ⟨?_⟩, ⟨by rw [← HCS.out]; exact HBI.out⟩, HWI⟩
                  rw [← HG.out, hstep.out, ← HN.out, ← HV.out, if_pos hf.out]
                case measure => simp [intOf]; omega
          · rw [Bool.not_eq_true] at hf
            rw [hf] at HF
            have HF := Aside0.mk HF
            have hf := Aside0.mk hf
            go_wp2_with fail
            refine HF.out.mono ?_
            rintro e w1 ⟨rfl, rfl⟩
            go_wp2
            go_ret2
            refine ⟨?_, HW.out⟩
            rw [HQ.out, ← HG.out, hstep.out, ← HN.out, ← HV.out, hf.out]
            rfl
        · obtain rfl : k = l0.length := by omega
          have hd1 : decide ((l0.length : Int) < (l0.length : Int)) = false := by simp
          go_wp2_with fail
          refine (BuilderString.calls w.heap.size w.heap.size bs wr HB.out HW.out.size).mono ?_
          rintro e w1 ⟨rfl, hd⟩
          have HD := Aside0.mk hd
          clear hd
          go_wp2
          go_ret2
          refine ⟨?_, HW.out.trans HD.out⟩
          have : putGo l0 l1 [] = (bs, 0) := by rw [← HG.out, List.drop_of_length_le (Nat.le_refl _)]; rfl
          rw [HQ.out, this]
          rfl
    · have hb : ((l0.length : Int) != (l1.length : Int)) = true := by simp; omega
      have HQ : Aside0 (putR l0 l1 = ([], 1)) := ⟨by simp [putR, heq]⟩
      go_enter Tryz.func100, Tryz.ntmps100
      go_wp2_with fail
      refine HP.out.mono ?_
      rintro e w1 ⟨rfl, rfl⟩
      go_wp2
      go_ret2
      exact ⟨by rw [HQ.out]; rfl, Below.refl _ _⟩
  · have HP := bin_right_calls A0 c0 l0 w HR0.out HC0.out
    have HQ : Aside0 (putR l0 l1 = ([], 1)) := ⟨by simp [putR, hall]⟩
    rw [Bool.not_eq_true] at hall
    rw [hall] at HP
    clear hall
    have HP := Aside0.mk HP
    go_enter Tryz.func100, Tryz.ntmps100
    go_wp2_with fail
    refine HP.out.mono ?_
    rintro e w1 ⟨rfl, rfl⟩
    go_wp2
    go_ret2
    exact ⟨by rw [HQ.out]; rfl, Below.refl _ _⟩
end Go.Proofs.YtbhljokhcmfgjaaGreat.P
