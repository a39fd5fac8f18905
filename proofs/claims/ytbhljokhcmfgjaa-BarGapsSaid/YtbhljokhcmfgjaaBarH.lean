import Derived.Test.YtbhljokhcmfgjaaBar6
/- What bar.Radical without a degree answers, as a proposition (proved in Bar11). -/
set_option linter.unusedVariables false
namespace Go.Proofs.Ytbhljokhcmfgjaa.P
open Go.RowKit Go.Proofs.YtbhljokhcmfgjaaW.PrintWords Go.Proofs.YtbhljokhcmfgjaaW.PrintLast Go.Proofs.YtbhljokhcmfgjaaW.PrintMore
def RadCalls : Prop := ∀ (F : S63) (c z : Int) (b s : S25) (Ab As : Option Addr) (nb ns : Nat) (cs : List Value) (w : World) (hF : FontIn w F cs) (lb : b.f6.length ≤ nb) (hb : Kd.C k41 w Ab b.f6.length b.f6) (ls : s.f6.length ≤ ns) (hs : Kd.C k41 w As s.f6.length s.f6),
    Calls Try.prog 74 #[.agg cs.toArray, .int .i64 c, .int .i64 z, .agg #[.int .i64 b.f0, .int .i64 b.f1, .int .i64 b.f2, .int .i64 b.f3, .int .i64 b.f4, .int .i64 b.f5, .slice Ab b.f6.length nb], .agg #[.int .i64 s.f0, .int .i64 s.f1, .int .i64 s.f2, .int .i64 s.f3, .int .i64 s.f4, .int .i64 s.f5, .slice As s.f6.length ns], .slice none 0 0] w fun r w' => ∃ A1 n1, r = .returned (.tuple #[.agg #[.int .i64 (radV F c z b s).1, .int .i64 (radV F c z b s).2.1, .int .i64 (radV F c z b s).2.2.1, .int .i64 (radV F c z b s).2.2.2.1, .int .i64 (radV F c z b s).2.2.2.2.1, .int .i64 (radV F c z b s).2.2.2.2.2.1, .slice A1 (radV F c z b s).2.2.2.2.2.2.1.length n1], .int .i64 (radV F c z b s).2.2.2.2.2.2.2]) ∧ (radV F c z b s).2.2.2.2.2.2.1.length ≤ n1 ∧ Kd.C k41 w' A1 (radV F c z b s).2.2.2.2.2.2.1.length (radV F c z b s).2.2.2.2.2.2.1 ∧ Below w.heap.size w w'
end Go.Proofs.Ytbhljokhcmfgjaa.P
