import Derived.Test.YtbhljokhcmfgjaaE7
import Derived.Test.YtbhljokhcmfgjaaE8
import Derived.Test.YtbhljokhcmfgjaaE9
import Derived.Test.YtbhljokhcmfgjaaE11
import Derived.KernelRfl
/- Part 12 of the proof of stackCenter_holds: what it needs of this work's texts, joined. -/
set_option linter.unusedVariables false
set_option linter.unusedSimpArgs false
namespace Go.Proofs.Ytbhljokhcmfgjaa.P
open Go.RowKit Go.Proofs.YtbhljokhcmfgjaaW.PrintWords Go.Proofs.YtbhljokhcmfgjaaW.PrintLast Go.Proofs.YtbhljokhcmfgjaaW.PrintMore
set_option linter.unusedVariables false
set_option linter.unusedSimpArgs false
theorem Pre.below {w W W1 : World} {L : List (Nat × Obj)} (h : Pre w W L) (hB : Below W.heap.size W W1) : Pre w W1 L := ⟨below_step h.bel hB, fun p hp => ⟨blk_below (h.loc p hp).1 hB, (h.loc p hp).2⟩⟩
theorem konst_calls (w : World) (F : S63) (cs : List Value) (k c z : Int) (hF : FontIn w F cs) : Calls Try.prog 31 #[.agg cs.toArray, .int .i64 k, .int .i64 c, .int .i64 z] w fun r w' => r = .returned (.tuple #[.int .i64 (konstV F k c z).1, .int .i64 (konstV F k c z).2]) ∧ Below w.heap.size w w' := by
  obtain ⟨A6, c6, A7, c7, A8, c8, A9, c9, A10, c10, A11, c11, A12, c12, A13, c13, A15, c15, A16, c16, rfl, l6, g6, l7, g7, l8, g8, l9, g9, l10, g10, l11, g11, l12, g12, l13, g13, l15, g15, l16, g16⟩ := hF
  exact style_Konst.callsU 3 F.f0.f0 F.f0.f1 F.f0.f2 F.f0.f3 F.f0.f4 F.f0.f5 A6 c6 F.f1 A7 c7 F.f2 A8 c8 F.f3 A9 c9 F.f4.f0 A10 c10 F.f4.f1 A11 c11 F.f4.f2 A12 c12 F.f4.f3 A13 c13 F.f4.f4 F.f4.f5.f0 A15 c15 F.f4.f5.f1 A16 c16 F.f4.f5.f2 k c z _ _ w g6 g7 g8 g9 g10 g11 g12 g13 g15 g16 (konstV_eq F k c z)
theorem few18_calls (w : World) (F : S63) (cs : List Value) (hF : FontIn w F cs) : Calls Try.prog 57 #[.agg cs.toArray] w fun r w' => ∃ b, r = .returned (.bool b) ∧ Below w.heap.size w w' := by
  obtain ⟨A6, c6, A7, c7, A8, c8, A9, c9, A10, c10, A11, c11, A12, c12, A13, c13, A15, c15, A16, c16, rfl, l6, g6, l7, g7, l8, g8, l9, g9, l10, g10, l11, g11, l12, g12, l13, g13, l15, g15, l16, g16⟩ := hF
  obtain ⟨k, r, h⟩ := few18_total F.f0.f0 F.f0.f1 F.f0.f2 F.f0.f3 F.f0.f4 F.f0.f5 F.f1 F.f2 F.f3 F.f4.f0 F.f4.f1 F.f4.f2 F.f4.f3 F.f4.f4 F.f4.f5.f0 F.f4.f5.f1 F.f4.f5.f2
  exact (vinculumref18_Few.calls k F.f0.f0 F.f0.f1 F.f0.f2 F.f0.f3 F.f0.f4 F.f0.f5 A6 c6 F.f1 A7 c7 F.f2 A8 c8 F.f3 A9 c9 F.f4.f0 A10 c10 F.f4.f1 A11 c11 F.f4.f2 A12 c12 F.f4.f3 A13 c13 F.f4.f4 F.f4.f5.f0 A15 c15 F.f4.f5.f1 A16 c16 F.f4.f5.f2 r w g6 l6 g7 l7 g8 l8 g9 l9 g10 l10 g11 l11 g12 l12 g13 l13 g15 l15 g16 l16 h).mono fun e w' hh => ⟨r, hh.1, hh.2⟩
theorem few23_calls (w : World) (x : S25) (hx : Ok25 x) (A : Option Addr) (n : Nat) (hl : x.f6.length ≤ n) (hC : Kd.C k41 w A x.f6.length x.f6) : Calls Try.prog 14 #[.agg #[.int .i64 x.f0, .int .i64 x.f1, .int .i64 x.f2, .int .i64 x.f3, .int .i64 x.f4, .int .i64 x.f5, .slice A x.f6.length n]] w fun r w' => ∃ b, r = .returned (.bool b) ∧ Below w.heap.size w w' := by
  obtain ⟨k, r, h⟩ := few23_total x hx
  exact (vinculumref23_Few.calls k x.f0 x.f1 x.f2 x.f3 x.f4 x.f5 A n x.f6 r w hC hl h).mono fun e w' hh => ⟨r, hh.1, hh.2⟩
set_option maxRecDepth 100000 in
set_option maxHeartbeats 3000000 in
theorem few_calls (w : World) (F : S63) (num den : S25) (hn : Ok25 num) (hd : Ok25 den) (cs : List Value) (Anum : Option Addr) (nnum : Nat) (Aden : Option Addr) (nden : Nat) (hF : FontIn w F cs) (lnum : num.f6.length ≤ nnum) (hnum : Kd.C k41 w Anum num.f6.length num.f6) (lden : den.f6.length ≤ nden) (hden : Kd.C k41 w Aden den.f6.length den.f6) :
    Calls Try.prog 28 #[.agg cs.toArray, .agg #[.int .i64 num.f0, .int .i64 num.f1, .int .i64 num.f2, .int .i64 num.f3, .int .i64 num.f4, .int .i64 num.f5, .slice Anum num.f6.length nnum], .agg #[.int .i64 den.f0, .int .i64 den.f1, .int .i64 den.f2, .int .i64 den.f3, .int .i64 den.f4, .int .i64 den.f5, .slice Aden den.f6.length nden]] w fun r w' => ∃ b, r = .returned (.bool b) ∧ Below w.heap.size w w' := by
  have hu39 := Try.underlying25
  have hu36 := Try.underlying63
  have HF := Aside0.mk hF
  have Hn := Aside0.mk hn
  have Hd := Aside0.mk hd
  have HLnum := Aside0.mk lnum
  have HCnum := Aside0.mk hnum
  have HLden := Aside0.mk lden
  have HCden := Aside0.mk hden
  obtain ⟨A6, c6, A7, c7, A8, c8, A9, c9, A10, c10, A11, c11, A12, c12, A13, c13, A15, c15, A16, c16, hcs, hcr⟩ := id hF
  subst hcs
  clear hcr hn hd lnum hnum lden hden hF
  have HP := Aside0.mk (Pre.start w)
  go_enter Try.func28, Try.ntmps28
  go_wp2_with (first | ((with_reducible refine gate_dst (N := 3) rfl ?_); refine box_event ?hg (N := 3) ?hd (cs := #[.int .i64 F.f0.f0, .int .i64 F.f0.f1, .int .i64 F.f0.f2, .int .i64 F.f0.f3, .int .i64 F.f0.f4, .bool F.f0.f5, .slice A6 F.f1.length c6, .slice A7 F.f2.length c7, .slice A8 F.f3.length c8, .slice A9 F.f4.f0.length c9, .slice A10 F.f4.f1.length c10, .slice A11 F.f4.f2.length c11, .slice A12 F.f4.f3.length c12, .slice A13 F.f4.f4.length c13, .int .i64 F.f4.f5.f0, .slice A15 F.f4.f5.f1.length c15, .slice A16 F.f4.f5.f2.length c16]) (t := 63) ?hr ?_; (case hd => rfl); (case hg => rfl); (case hr => first | (go_simp; done) | (go_simp; rfl)); intro gf hg wk hbox hb; replace HP := Aside0.mk (Pre.box (by with_reducible repeat (first | exact HP.out | apply Pre.drew)) hg hbox hb); clear hg hbox hb) | ((with_reducible refine gate_dst (N := 4) rfl ?_); refine box_event ?hg (N := 4) ?hd (cs := #[.int .i64 num.f0, .int .i64 num.f1, .int .i64 num.f2, .int .i64 num.f3, .int .i64 num.f4, .int .i64 num.f5, .slice Anum num.f6.length nnum]) (t := 25) ?hr ?_; (case hd => rfl); (case hg => rfl); (case hr => first | (go_simp; done) | (go_simp; rfl)); intro gnum hg wk hbox hb; replace HP := Aside0.mk (Pre.box (by with_reducible repeat (first | exact HP.out | apply Pre.drew)) hg hbox hb); clear hg hbox hb) | ((with_reducible refine gate_dst (N := 5) rfl ?_); refine box_event ?hg (N := 5) ?hd (cs := #[.int .i64 den.f0, .int .i64 den.f1, .int .i64 den.f2, .int .i64 den.f3, .int .i64 den.f4, .int .i64 den.f5, .slice Aden den.f6.length nden]) (t := 25) ?hr ?_; (case hd => rfl); (case hg => rfl); (case hr => first | (go_simp; done) | (go_simp; rfl)); intro gden hg wk hbox hb; replace HP := Aside0.mk (Pre.box (by with_reducible repeat (first | exact HP.out | apply Pre.drew)) hg hbox hb); clear hg hbox hb) | ((with_reducible refine gate_dst (N := 7) rfl ?_); refine wpList_load_row rfl 63 (.tmp 3) rfl gf (by rfl) 63 #[.int .i64 F.f0.f0, .int .i64 F.f0.f1, .int .i64 F.f0.f2, .int .i64 F.f0.f3, .int .i64 F.f0.f4, .bool F.f0.f5, .slice A6 F.f1.length c6, .slice A7 F.f2.length c7, .slice A8 F.f3.length c8, .slice A9 F.f4.f0.length c9, .slice A10 F.f4.f1.length c10, .slice A11 F.f4.f2.length c11, .slice A12 F.f4.f3.length c12, .slice A13 F.f4.f4.length c13, .int .i64 F.f4.f5.f0, .slice A15 F.f4.f5.f1.length c15, .slice A16 F.f4.f5.f2.length c16] (0, 0) _ (Pre.hd (Pre.tl (Pre.tl HP.out))) hu36 rfl info_font ?_))
  refine (few18_calls _ F _ (HF.out.heap HP.out.bel)).mono ?_
  rintro _ w1 ⟨b1, rfl, hb⟩
  replace HP := Aside0.mk (Pre.below HP.out hb)
  clear hb
  have hS1 := box_cells (Pre.hd (Pre.tl HP.out))
  have hS2 := box_cells (Pre.hd HP.out)
  cases b1 with
  | false =>
    go_wp2
    go_ret
    exact ⟨_, rfl, HP.out.bel⟩
  | true =>
    go_wp2_with fail
    clear hS1 hS2
    refine (few23_calls _ num Hn.out Anum nnum HLnum.out (Kd.C_below HCnum.out HP.out.bel)).mono ?_
    rintro _ w1 ⟨b2, rfl, hb⟩
    replace HP := Aside0.mk (Pre.below HP.out hb)
    clear hb
    have hS2 := box_cells (Pre.hd HP.out)
    cases b2 with
    | false =>
      go_wp2
      go_ret
      exact ⟨_, rfl, HP.out.bel⟩
    | true =>
      go_wp2_with fail
      clear hS2
      refine (few23_calls _ den Hd.out Aden nden HLden.out (Kd.C_below HCden.out HP.out.bel)).mono ?_
      rintro _ w1 ⟨b3, rfl, hb⟩
      replace HP := Aside0.mk (Pre.below HP.out hb)
      clear hb
      go_wp2
      go_ret
      exact ⟨_, rfl, HP.out.bel⟩
end Go.Proofs.Ytbhljokhcmfgjaa.P

namespace Go.Proofs.Ytbhljokhcmfgjaa.P
open Go.RowKit Go.Proofs.YtbhljokhcmfgjaaW.PrintWords Go.Proofs.YtbhljokhcmfgjaaW.PrintMore
def pileL : List Int := [0, 0, 0, 0, 0, 250, 0, 0, 0, 0, 0, 0, 0, 0, 0, 0, 0, 0, 0, 0, 0, 0, 0, 0, 0, 0, 0, 0, 0, 0, 0, 0, 0, 300, 0, 0, 0, 100, 40, 0, 100, 0, 0, 0, 0, 0, 0, 0, 0, 0, 0, 0, 0, 0, 0, 0]
def pileF : S63 := ⟨⟨1000, 1, 1, 0, 0, false⟩, [], [], [], ⟨pileL, [], [], [], [], ⟨0, [], []⟩⟩⟩
def pileN : S25 := ⟨2, 100, 50, 20, 0, 0, []⟩
def pileD : S25 := ⟨2, 301, 60, 0, 0, 0, []⟩
def pileK : List S41 := [⟨100, 390, pileN⟩, ⟨0, 0, ⟨2, 301, 270, -230, 0, 0, []⟩⟩, ⟨0, 0, pileD⟩]
set_option maxRecDepth 100000 in
theorem pile_frac : fracV pileF 0 1000 pileN pileD = (3, 301, 440, 0, 0, 0, pileK, 0) := by kernel_rfl
set_option maxRecDepth 100000 in
theorem pile_center : centerV pileF 2 1000 pileN = (3, 100, 285, 0, 0, 0, [⟨0, 235, pileN⟩], 0) := by kernel_rfl
set_option maxRecDepth 100000 in
theorem pile_atop : (atopV pileF 8 1000 pileN pileD).2.2.2.2.2.2.2 = 1 := by kernel_rfl
end Go.Proofs.Ytbhljokhcmfgjaa.P

namespace Go.Proofs.Ytbhljokhcmfgjaa.P
open Go.RowKit Go.Proofs.YtbhljokhcmfgjaaW.PrintWords Go.Proofs.YtbhljokhcmfgjaaW.PrintLast Go.Proofs.YtbhljokhcmfgjaaW.PrintMore
set_option linter.unusedVariables false
set_option linter.unusedSimpArgs false
theorem far17 (w : World) {b q : Nat} (hne : b ≠ q) {v0 v1 v2 v3 v4 v5 v6 v7 v8 v9 v10 v11 v12 v13 v14 v15 v16 : Value} : (((((((((((((((((w.setCell ⟨q, 0, none⟩ v0).setCell ⟨q, 1, none⟩ v1).setCell ⟨q, 2, none⟩ v2).setCell ⟨q, 3, none⟩ v3).setCell ⟨q, 4, none⟩ v4).setCell ⟨q, 5, none⟩ v5).setCell ⟨q, 6, none⟩ v6).setCell ⟨q, 7, none⟩ v7).setCell ⟨q, 8, none⟩ v8).setCell ⟨q, 9, none⟩ v9).setCell ⟨q, 10, none⟩ v10).setCell ⟨q, 11, none⟩ v11).setCell ⟨q, 12, none⟩ v12).setCell ⟨q, 13, none⟩ v13).setCell ⟨q, 14, none⟩ v14).setCell ⟨q, 15, none⟩ v15).setCell ⟨q, 16, none⟩ v16).heap[b]? = w.heap[b]? :=
  (Below.heap_setCell _ ⟨q, 16, none⟩ v16 b hne).trans ((Below.heap_setCell _ ⟨q, 15, none⟩ v15 b hne).trans ((Below.heap_setCell _ ⟨q, 14, none⟩ v14 b hne).trans ((Below.heap_setCell _ ⟨q, 13, none⟩ v13 b hne).trans ((Below.heap_setCell _ ⟨q, 12, none⟩ v12 b hne).trans ((Below.heap_setCell _ ⟨q, 11, none⟩ v11 b hne).trans ((Below.heap_setCell _ ⟨q, 10, none⟩ v10 b hne).trans ((Below.heap_setCell _ ⟨q, 9, none⟩ v9 b hne).trans ((Below.heap_setCell _ ⟨q, 8, none⟩ v8 b hne).trans ((Below.heap_setCell _ ⟨q, 7, none⟩ v7 b hne).trans ((Below.heap_setCell _ ⟨q, 6, none⟩ v6 b hne).trans ((Below.heap_setCell _ ⟨q, 5, none⟩ v5 b hne).trans ((Below.heap_setCell _ ⟨q, 4, none⟩ v4 b hne).trans ((Below.heap_setCell _ ⟨q, 3, none⟩ v3 b hne).trans ((Below.heap_setCell _ ⟨q, 2, none⟩ v2 b hne).trans ((Below.heap_setCell _ ⟨q, 1, none⟩ v1 b hne).trans (Below.heap_setCell _ ⟨q, 0, none⟩ v0 b hne))))))))))))))))
theorem put17 {w : World} {q : Nat} {t : TypeId} {u0 u1 u2 u3 u4 u5 u6 u7 u8 u9 u10 u11 u12 u13 u14 u15 u16 : Value} (h : w.heap[q]? = some (.cells #[u0, u1, u2, u3, u4, u5, u6, u7, u8, u9, u10, u11, u12, u13, u14, u15, u16] t (0, 0))) {v0 v1 v2 v3 v4 v5 v6 v7 v8 v9 v10 v11 v12 v13 v14 v15 v16 : Value} : (((((((((((((((((w.setCell ⟨q, 0, none⟩ v0).setCell ⟨q, 1, none⟩ v1).setCell ⟨q, 2, none⟩ v2).setCell ⟨q, 3, none⟩ v3).setCell ⟨q, 4, none⟩ v4).setCell ⟨q, 5, none⟩ v5).setCell ⟨q, 6, none⟩ v6).setCell ⟨q, 7, none⟩ v7).setCell ⟨q, 8, none⟩ v8).setCell ⟨q, 9, none⟩ v9).setCell ⟨q, 10, none⟩ v10).setCell ⟨q, 11, none⟩ v11).setCell ⟨q, 12, none⟩ v12).setCell ⟨q, 13, none⟩ v13).setCell ⟨q, 14, none⟩ v14).setCell ⟨q, 15, none⟩ v15).setCell ⟨q, 16, none⟩ v16).heap[q]? = some (.cells #[v0, v1, v2, v3, v4, v5, v6, v7, v8, v9, v10, v11, v12, v13, v14, v15, v16] t (0, 0)) :=
  blk_put (cs := #[v0, v1, v2, v3, v4, v5, v6, v7, v8, v9, v10, v11, v12, v13, v14, v15, u16]) (blk_put (cs := #[v0, v1, v2, v3, v4, v5, v6, v7, v8, v9, v10, v11, v12, v13, v14, u15, u16]) (blk_put (cs := #[v0, v1, v2, v3, v4, v5, v6, v7, v8, v9, v10, v11, v12, v13, u14, u15, u16]) (blk_put (cs := #[v0, v1, v2, v3, v4, v5, v6, v7, v8, v9, v10, v11, v12, u13, u14, u15, u16]) (blk_put (cs := #[v0, v1, v2, v3, v4, v5, v6, v7, v8, v9, v10, v11, u12, u13, u14, u15, u16]) (blk_put (cs := #[v0, v1, v2, v3, v4, v5, v6, v7, v8, v9, v10, u11, u12, u13, u14, u15, u16]) (blk_put (cs := #[v0, v1, v2, v3, v4, v5, v6, v7, v8, v9, u10, u11, u12, u13, u14, u15, u16]) (blk_put (cs := #[v0, v1, v2, v3, v4, v5, v6, v7, v8, u9, u10, u11, u12, u13, u14, u15, u16]) (blk_put (cs := #[v0, v1, v2, v3, v4, v5, v6, v7, u8, u9, u10, u11, u12, u13, u14, u15, u16]) (blk_put (cs := #[v0, v1, v2, v3, v4, v5, v6, u7, u8, u9, u10, u11, u12, u13, u14, u15, u16]) (blk_put (cs := #[v0, v1, v2, v3, v4, v5, u6, u7, u8, u9, u10, u11, u12, u13, u14, u15, u16]) (blk_put (cs := #[v0, v1, v2, v3, v4, u5, u6, u7, u8, u9, u10, u11, u12, u13, u14, u15, u16]) (blk_put (cs := #[v0, v1, v2, v3, u4, u5, u6, u7, u8, u9, u10, u11, u12, u13, u14, u15, u16]) (blk_put (cs := #[v0, v1, v2, u3, u4, u5, u6, u7, u8, u9, u10, u11, u12, u13, u14, u15, u16]) (blk_put (cs := #[v0, v1, u2, u3, u4, u5, u6, u7, u8, u9, u10, u11, u12, u13, u14, u15, u16]) (blk_put (cs := #[v0, u1, u2, u3, u4, u5, u6, u7, u8, u9, u10, u11, u12, u13, u14, u15, u16]) (blk_put (cs := #[u0, u1, u2, u3, u4, u5, u6, u7, u8, u9, u10, u11, u12, u13, u14, u15, u16]) (h) 0 v0 rfl) 1 v1 rfl) 2 v2 rfl) 3 v3 rfl) 4 v4 rfl) 5 v5 rfl) 6 v6 rfl) 7 v7 rfl) 8 v8 rfl) 9 v9 rfl) 10 v10 rfl) 11 v11 rfl) 12 v12 rfl) 13 v13 rfl) 14 v14 rfl) 15 v15 rfl) 16 v16 rfl
theorem bel17 {a w : World} {B q : Nat} (h : Below B a w) (hq : B ≤ q) {v0 v1 v2 v3 v4 v5 v6 v7 v8 v9 v10 v11 v12 v13 v14 v15 v16 : Value} : Below B a (((((((((((((((((w.setCell ⟨q, 0, none⟩ v0).setCell ⟨q, 1, none⟩ v1).setCell ⟨q, 2, none⟩ v2).setCell ⟨q, 3, none⟩ v3).setCell ⟨q, 4, none⟩ v4).setCell ⟨q, 5, none⟩ v5).setCell ⟨q, 6, none⟩ v6).setCell ⟨q, 7, none⟩ v7).setCell ⟨q, 8, none⟩ v8).setCell ⟨q, 9, none⟩ v9).setCell ⟨q, 10, none⟩ v10).setCell ⟨q, 11, none⟩ v11).setCell ⟨q, 12, none⟩ v12).setCell ⟨q, 13, none⟩ v13).setCell ⟨q, 14, none⟩ v14).setCell ⟨q, 15, none⟩ v15).setCell ⟨q, 16, none⟩ v16) :=
  Below.setCell (Below.setCell (Below.setCell (Below.setCell (Below.setCell (Below.setCell (Below.setCell (Below.setCell (Below.setCell (Below.setCell (Below.setCell (Below.setCell (Below.setCell (Below.setCell (Below.setCell (Below.setCell (Below.setCell (h) (p := ⟨q, 0, none⟩) hq v0) (p := ⟨q, 1, none⟩) hq v1) (p := ⟨q, 2, none⟩) hq v2) (p := ⟨q, 3, none⟩) hq v3) (p := ⟨q, 4, none⟩) hq v4) (p := ⟨q, 5, none⟩) hq v5) (p := ⟨q, 6, none⟩) hq v6) (p := ⟨q, 7, none⟩) hq v7) (p := ⟨q, 8, none⟩) hq v8) (p := ⟨q, 9, none⟩) hq v9) (p := ⟨q, 10, none⟩) hq v10) (p := ⟨q, 11, none⟩) hq v11) (p := ⟨q, 12, none⟩) hq v12) (p := ⟨q, 13, none⟩) hq v13) (p := ⟨q, 14, none⟩) hq v14) (p := ⟨q, 15, none⟩) hq v15) (p := ⟨q, 16, none⟩) hq v16
theorem froz17 {W : World} {b : Nat} {v0 v1 v2 v3 v4 v5 v6 v7 v8 v9 v10 v11 v12 v13 v14 v15 v16 : Value} {t : TypeId} (h : W.heap[b]? = some (.cells #[v0, v1, v2, v3, v4, v5, v6, v7, v8, v9, v10, v11, v12, v13, v14, v15, v16] t (0, 0))) :
    W.frozen? ⟨b, 0, none⟩ = false ∧ W.frozen? ⟨b, 1, none⟩ = false ∧ W.frozen? ⟨b, 2, none⟩ = false ∧ W.frozen? ⟨b, 3, none⟩ = false ∧ W.frozen? ⟨b, 4, none⟩ = false ∧ W.frozen? ⟨b, 5, none⟩ = false ∧ W.frozen? ⟨b, 6, none⟩ = false ∧ W.frozen? ⟨b, 7, none⟩ = false ∧ W.frozen? ⟨b, 8, none⟩ = false ∧ W.frozen? ⟨b, 9, none⟩ = false ∧ W.frozen? ⟨b, 10, none⟩ = false ∧ W.frozen? ⟨b, 11, none⟩ = false ∧ W.frozen? ⟨b, 12, none⟩ = false ∧ W.frozen? ⟨b, 13, none⟩ = false ∧ W.frozen? ⟨b, 14, none⟩ = false ∧ W.frozen? ⟨b, 15, none⟩ = false ∧ W.frozen? ⟨b, 16, none⟩ = false :=
  ⟨blk_frozen h 0, blk_frozen h 1, blk_frozen h 2, blk_frozen h 3, blk_frozen h 4, blk_frozen h 5, blk_frozen h 6, blk_frozen h 7, blk_frozen h 8, blk_frozen h 9, blk_frozen h 10, blk_frozen h 11, blk_frozen h 12, blk_frozen h 13, blk_frozen h 14, blk_frozen h 15, blk_frozen h 16⟩
structure Pd (w W : World) (L : List (Nat × Obj)) : Prop extends Pre w W L where
  dis : L.Pairwise (fun a b => b.1 ≠ a.1)
section
variable {w W W1 : World} {L : List (Nat × Obj)}
theorem Pd.start (w : World) : Pd w w [] := ⟨Pre.start w, List.Pairwise.nil⟩
theorem Pd.drew (h : Pd w W L) : Pd w W.drew L := ⟨h.toPre.drew, h.dis⟩
theorem Pd.below (h : Pd w W L) (hB : Below W.heap.size W W1) : Pd w W1 L := ⟨h.toPre.below hB, h.dis⟩
theorem Pd.box (h : Pd w W L) {b : Nat} {o : Obj} (hg : b = W.heap.size) (hb : W1.heap[b]? = some o) (hB : Below W.heap.size W W1) : Pd w W1 ((b, o) :: L) :=
  ⟨h.toPre.box hg hb hB, List.Pairwise.cons (fun p hp => by have := blk_lt (h.loc p hp).1; show p.1 ≠ b; omega) h.dis⟩
theorem Pd.row (h : Pd w W L) (o : Obj) : Pd w (W.alloc o) ((W.heap.size, o) :: L) := h.box rfl (alloc_last W o) ((Below.refl _ _).alloc (Nat.le_refl _) o)
theorem Pd.rowAt (h : Pd w W L) (o : Obj) {b : Nat} (hb : b = W.heap.size) : Pd w (W.alloc o) ((b, o) :: L) := by
  subst hb
  exact h.row o
theorem Pd.hd {b : Nat} {o : Obj} (h : Pd w W ((b, o) :: L)) : W.heap[b]? = some o := h.toPre.hd
theorem Pd.tl {p : Nat × Obj} (h : Pd w W (p :: L)) : Pd w W L := ⟨h.toPre.tl, (List.pairwise_cons.1 h.dis).2⟩
theorem Pd.put {q : Nat} {o o1 : Obj} (h : Pd w W ((q, o) :: L)) (hq : W1.heap[q]? = some o1) (hh : ∀ k, k ≠ q → W1.heap[k]? = W.heap[k]?) (hB : Below w.heap.size w W1) : Pd w W1 ((q, o1) :: L) :=
  ⟨⟨hB, fun p hp => by
    rcases List.mem_cons.1 hp with rfl | hp
    · exact ⟨hq, (h.loc (q, o) List.mem_cons_self).2⟩
    · exact ⟨(hh p.1 ((List.pairwise_cons.1 h.dis).1 p hp)).trans (h.loc p (List.mem_cons_of_mem _ hp)).1, (h.loc p (List.mem_cons_of_mem _ hp)).2⟩⟩,
    List.Pairwise.cons (fun p hp => (List.pairwise_cons.1 h.dis).1 p hp) (List.pairwise_cons.1 h.dis).2⟩
theorem Pd.ne1 {b0 b1 : Nat} {o0 o1 : Obj} (h : Pd w W ((b0, o0) :: (b1, o1) :: L)) : b1 ≠ b0 := (List.pairwise_cons.1 h.dis).1 (b1, o1) List.mem_cons_self
theorem Pd.skip {p q : Nat × Obj} (h : Pd w W (p :: q :: L)) : Pd w W (p :: L) :=
  ⟨⟨h.bel, fun r hr => h.loc r (by rcases List.mem_cons.1 hr with rfl | hr; exact List.mem_cons_self; exact List.mem_cons_of_mem _ (List.mem_cons_of_mem _ hr))⟩, List.Pairwise.cons (fun r hr => (List.pairwise_cons.1 h.dis).1 r (List.mem_cons_of_mem _ hr)) (List.pairwise_cons.1 (List.pairwise_cons.1 h.dis).2).2⟩
theorem Pd.st7 {q : Nat} {t : TypeId} {u0 u1 u2 u3 u4 u5 u6 v0 v1 v2 v3 v4 v5 v6 : Value} (h : Pd w W ((q, .cells #[u0, u1, u2, u3, u4, u5, u6] t (0, 0)) :: L)) : Pd w (((((((W.setCell ⟨q, 0, none⟩ v0).setCell ⟨q, 1, none⟩ v1).setCell ⟨q, 2, none⟩ v2).setCell ⟨q, 3, none⟩ v3).setCell ⟨q, 4, none⟩ v4).setCell ⟨q, 5, none⟩ v5).setCell ⟨q, 6, none⟩ v6) ((q, .cells #[v0, v1, v2, v3, v4, v5, v6] t (0, 0)) :: L) :=
  h.put (put7 h.hd) (fun k hk => far7 _ hk) (bel7 h.bel (h.loc _ List.mem_cons_self).2)
theorem Pd.st17 {q : Nat} {t : TypeId} {u0 u1 u2 u3 u4 u5 u6 u7 u8 u9 u10 u11 u12 u13 u14 u15 u16 v0 v1 v2 v3 v4 v5 v6 v7 v8 v9 v10 v11 v12 v13 v14 v15 v16 : Value} (h : Pd w W ((q, .cells #[u0, u1, u2, u3, u4, u5, u6, u7, u8, u9, u10, u11, u12, u13, u14, u15, u16] t (0, 0)) :: L)) : Pd w (((((((((((((((((W.setCell ⟨q, 0, none⟩ v0).setCell ⟨q, 1, none⟩ v1).setCell ⟨q, 2, none⟩ v2).setCell ⟨q, 3, none⟩ v3).setCell ⟨q, 4, none⟩ v4).setCell ⟨q, 5, none⟩ v5).setCell ⟨q, 6, none⟩ v6).setCell ⟨q, 7, none⟩ v7).setCell ⟨q, 8, none⟩ v8).setCell ⟨q, 9, none⟩ v9).setCell ⟨q, 10, none⟩ v10).setCell ⟨q, 11, none⟩ v11).setCell ⟨q, 12, none⟩ v12).setCell ⟨q, 13, none⟩ v13).setCell ⟨q, 14, none⟩ v14).setCell ⟨q, 15, none⟩ v15).setCell ⟨q, 16, none⟩ v16) ((q, .cells #[v0, v1, v2, v3, v4, v5, v6, v7, v8, v9, v10, v11, v12, v13, v14, v15, v16] t (0, 0)) :: L) :=
  h.put (put17 h.hd) (fun k hk => far17 _ hk) (bel17 h.bel (h.loc _ List.mem_cons_self).2)
end
theorem pile_row {w wm : World} {go co : Nat} (ho : Kd.R (Kd.int .i64) 3 wm w.heap.size (fun _ => True) (.slice (some ⟨go, 0, none⟩) 56 co) (List.replicate 56 0)) (hb : Below w.heap.size w wm) (gb : w.heap.size ≤ go) :
    ∃ o, Pd w (((((wm.setCell ⟨go, 5, none⟩ (.int .i64 250)).setCell ⟨go, 38, none⟩ (.int .i64 40)).setCell ⟨go, 33, none⟩ (.int .i64 300)).setCell ⟨go, 37, none⟩ (.int .i64 100)).setCell ⟨go, 40, none⟩ (.int .i64 100)) [(go, o)] ∧ 56 ≤ co ∧ ∀ W' : World, W'.heap[go]? = some o → Kd.C (Kd.int .i64) W' (some ⟨go, 0, none⟩) 56 pileL := by
  have q1 := (Kd.R_putg ho 5 250).1
  have q2 := (Kd.R_putg q1 38 40).1
  have q3 := (Kd.R_putg q2 33 300).1
  have q4 := (Kd.R_putg q3 37 100).1
  have q5 : Kd.R (Kd.int .i64) 3 (((((wm.setCell ⟨go, 5, none⟩ (.int .i64 250)).setCell ⟨go, 38, none⟩ (.int .i64 40)).setCell ⟨go, 33, none⟩ (.int .i64 300)).setCell ⟨go, 37, none⟩ (.int .i64 100)).setCell ⟨go, 40, none⟩ (.int .i64 100)) w.heap.size (fun _ => True) (.slice (some ⟨go, 0, none⟩) 56 co) pileL := (Kd.R_putg q4 40 100).1
  obtain ⟨g1, c1, he, _, _, cells, hc⟩ := Kd.R_form q5 (by decide)
  injection he with h1 h2 h3
  injection h1 with h1
  injection h1 with h1
  subst h1
  have hB : Below w.heap.size w (((((wm.setCell ⟨go, 5, none⟩ (.int .i64 250)).setCell ⟨go, 38, none⟩ (.int .i64 40)).setCell ⟨go, 33, none⟩ (.int .i64 300)).setCell ⟨go, 37, none⟩ (.int .i64 100)).setCell ⟨go, 40, none⟩ (.int .i64 100)) := ((((hb.setCell (p := ⟨go, 5, none⟩) gb _).setCell (p := ⟨go, 38, none⟩) gb _).setCell (p := ⟨go, 33, none⟩) gb _).setCell (p := ⟨go, 37, none⟩) gb _).setCell (p := ⟨go, 40, none⟩) gb _
  refine ⟨.cells cells 3 (0, 0), ⟨⟨hB, ?_⟩, List.pairwise_singleton _ _⟩, (Kd.R_reads' q5).2.1, ?_⟩
  · intro p hp
    rcases List.mem_cons.1 hp with rfl | hp
    · exact ⟨hc, gb⟩
    · simp at hp
  · intro W' hW
    exact Kd.R_F (Kd.R_tight rfl q5) W' (fun k hk _ => by
      have : k = go := by simpa [Value.ownBlock] using hk
      subst this
      exact hW.trans hc.symm)
theorem pile_font {W : World} {go co : Nat} (hco : 56 ≤ co) (h : Kd.C (Kd.int .i64) W (some ⟨go, 0, none⟩) 56 pileL) : FontIn W pileF [.int .i64 1000, .int .i64 1, .int .i64 1, .int .i64 0, .int .i64 0, .bool false, .slice none 0 0, .slice none 0 0, .slice none 0 0, .slice (some ⟨go, 0, none⟩) 56 co, .slice none 0 0, .slice none 0 0, .slice none 0 0, .slice none 0 0, .int .i64 0, .slice none 0 0, .slice none 0 0] :=
  ⟨none, 0, none, 0, none, 0, some ⟨go, 0, none⟩, co, none, 0, none, 0, none, 0, none, 0, none, 0, none, 0, rfl, Nat.le_refl _, ⟨rfl, Nat.zero_le _, fun h => absurd h (Nat.lt_irrefl 0)⟩, Nat.le_refl _, ⟨rfl, Nat.zero_le _, fun h => absurd h (Nat.lt_irrefl 0)⟩, Nat.le_refl _, ⟨rfl, Nat.zero_le _, fun h => absurd h (Nat.lt_irrefl 0)⟩, hco, h, Nat.le_refl _, ⟨rfl, Nat.zero_le _, fun h => absurd h (Nat.lt_irrefl 0)⟩, Nat.le_refl _, ⟨rfl, Nat.zero_le _, fun h => absurd h (Nat.lt_irrefl 0)⟩, Nat.le_refl _, ⟨rfl, Nat.zero_le _, fun h => absurd h (Nat.lt_irrefl 0)⟩, Nat.le_refl _, ⟨rfl, Nat.zero_le _, fun h => absurd h (Nat.lt_irrefl 0)⟩, Nat.le_refl _, ⟨rfl, Nat.zero_le _, fun h => absurd h (Nat.lt_irrefl 0)⟩, Nat.le_refl _, ⟨rfl, Nat.zero_le _, fun h => absurd h (Nat.lt_irrefl 0)⟩⟩
end Go.Proofs.Ytbhljokhcmfgjaa.P
