import Derived.Test.YtbhljokhcmfgjaaGreatTCalc3
import Derived.Test.YtbhljokhcmfgjaaGreatTLim2
/- The document's accents (layer 29): nuc, Attach, Accent. Printed by a program of this work (mkref29.py). -/
set_option linter.unusedVariables false
set_option linter.unusedSimpArgs false
namespace Go.Proofs.YtbhljokhcmfgjaaGreat.P
open Go.RowKit Go.Proofs.YtbhljokhcmfgjaaGreatW.PrintWords Go.Proofs.YtbhljokhcmfgjaaGreatW.PrintLast Go.Proofs.YtbhljokhcmfgjaaGreatW.PrintMore

theorem nuc_need (x : S39) (it e : Int) : (if isLen it = true then needE [x] e else (keepV (needE [x] e) (0, 1)).2) = needI [x.f1, x.f2, x.f3, it] e := by
  simp only [needE, needI, lens, List.all_cons, List.all_nil, Bool.and_true]
  by_cases h1 : isLen x.f1 = true <;> by_cases h2 : isLen x.f2 = true <;> by_cases h3 : isLen x.f3 = true <;> by_cases h4 : isLen it = true <;> by_cases he : e = 0 <;> simp [keepV, h1, h2, h3, h4, he]
set_option maxRecDepth 100000 in
set_option maxHeartbeats 1000000 in
theorem nuc29 {w W : World} {L : List (Nat × Obj)} {g : Nat} {e : Int} {rest : List Value} {t : TypeId} (h : Pd w W ((g, .cells (Value.int .i64 e :: rest).toArray t (0, 0)) :: L)) (x : S39) (A : Option Addr) (n : Nat) (gl it : Int) : Calls Tryz.prog 26 #[.pointer (some ⟨g, 0, none⟩), .agg #[.int .i64 x.f0, .int .i64 x.f1, .int .i64 x.f2, .int .i64 x.f3, .int .i64 x.f4, .int .i64 x.f5, .slice A x.f6.length n, .int .i64 gl, .int .i64 it]] W fun r w' => r = .returned (.tuple #[]) ∧ Pd w w' ((g, .cells (Value.int .i64 (needI [x.f1, x.f2, x.f3, it] e) :: rest).toArray t (0, 0)) :: L) := by
  have hu39 := Tryz.underlying39
  have hu73 := Tryz.underlying41
  have HP := Aside0.mk h
  obtain ⟨E, hE⟩ : ∃ E, E = needI [x.f1, x.f2, x.f3, it] e := ⟨_, rfl⟩
  rw [← hE]
  have HE := Aside0.mk hE
  clear h hE
  go_enter Tryz.func26, Tryz.ntmps26
  go_wp2_with (first | ((with_reducible refine gate_dst (N := 3) rfl ?_); refine box_event ?hg (N := 3) ?hd (cs := #[.int .i64 x.f0, .int .i64 x.f1, .int .i64 x.f2, .int .i64 x.f3, .int .i64 x.f4, .int .i64 x.f5, .slice A x.f6.length n, .int .i64 gl, .int .i64 it]) (t := 41) ?hr ?_; (case hd => rfl); (case hg => rfl); (case hr => first | (go_simp; done) | (go_simp; rfl)); intro gx hg wk hbox hb; replace HP := Aside0.mk (Pd.box (by with_reducible repeat (first | exact HP.out | apply Pd.drew)) hg hbox hb); clear hg hbox hb; have hn := nuc_c9 (Pd.hd HP.out)))
  refine (need_cd (Pd.swp HP.out) x A n).mono ?_
  rintro _ w1 ⟨rfl, hp⟩
  replace HP := Aside0.mk hp
  clear hp hn
  have hn := nuc_c9 (Pd.hd (Pd.tl HP.out))
  go_wp2_with fail
  clear hn
  refine (len01 it _).mono ?_
  rintro _ w2 ⟨rfl, rfl⟩
  cases hq : isLen it with
  | true =>
    have hz : E = needE [x] e := by rw [HE.out, ← nuc_need, if_pos hq]
    clear hq
    subst hz
    go_wp2
    go_end0
    exact ⟨rfl, HP.out.skip⟩
  | false =>
    have hz : E = (keepV (needE [x] e) (0, 1)).2 := by rw [HE.out, ← nuc_need, if_neg (by rw [hq]; decide)]
    clear hq
    subst hz
    go_wp2_with fail
    refine (got_cd HP.out 0 1).mono ?_
    rintro _ w3 ⟨rfl, hp⟩
    go_wp2
    go_end0
    exact ⟨rfl, hp.skip⟩
end Go.Proofs.YtbhljokhcmfgjaaGreat.P
