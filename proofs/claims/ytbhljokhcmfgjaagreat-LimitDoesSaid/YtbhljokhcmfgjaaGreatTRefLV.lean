import Derived.Test.YtbhljokhcmfgjaaGreatTRefN
import Derived.Test.YtbhljokhcmfgjaaGreatTLim9
import Derived.Deep.Cut
/- What the document's limits compute (layer 29). -/
set_option linter.unusedVariables false
set_option linter.unusedSimpArgs false
namespace Go.Proofs.YtbhljokhcmfgjaaGreat.P
open Go.RowKit Go.Proofs.YtbhljokhcmfgjaaGreatW.PrintWords Go.Proofs.YtbhljokhcmfgjaaGreatW.PrintLast Go.Proofs.YtbhljokhcmfgjaaGreatW.PrintMore
def rlim11V (F : S36) (c z : Int) (x : S39) (it : Int) (u : S39) (d : S39) : BoxV :=
  let k1 := keepV 0 (konstV F 18 c z)
  let k2 := keepV k1.2 (konstV F 19 c z)
  let k3 := keepV k2.2 (konstV F 20 c z)
  let k4 := keepV k3.2 (konstV F 21 c z)
  let e0 := needI [x.f1, x.f2, x.f3, it] k4.2
  let e1 := needE [u] e0
  let e2 := needE [d] e1
  let w2 := max (max x.f1 u.f1) d.f1
  if ¬ e2 = 0 then (0, 0, 0, 0, 0, 0, [], e2) else
  let h := keepV 0 (toldOf (halfR it))
  let m0 := midV h.2 w2 x.f1
  let ug := keepV m0.2 (toldOf (sumR [k1.1, u.f3]))
  let uy := keepV ug.2 (toldOf (sumR [x.f2, max ug.1 k2.1]))
  let mu := midV uy.2 w2 u.f1
  let ux := keepV mu.2 (toldOf (sumR [mu.1, h.1]))
  let dg := keepV ux.2 (toldOf (sumR [k3.1, d.f2]))
  let dy := keepV dg.2 (toldOf (sumR [x.f3, max dg.1 k4.1]))
  let md := midV dy.2 w2 d.f1
  let dx := keepV md.2 (toldOf (sumR [md.1, wrap64 (-h.1)]))
  setV dx.2 w2 [⟨m0.1, 0, x⟩, ⟨ux.1, uy.1, u⟩, ⟨dx.1, wrap64 (-dy.1), d⟩]
def rlim10V (F : S36) (c z : Int) (x : S39) (it : Int) (u : S39) : BoxV :=
  let k1 := keepV 0 (konstV F 18 c z)
  let k2 := keepV k1.2 (konstV F 19 c z)
  let e0 := needI [x.f1, x.f2, x.f3, it] k2.2
  let e1 := needE [u] e0
  let w1 := max x.f1 u.f1
  if ¬ e1 = 0 then (0, 0, 0, 0, 0, 0, [], e1) else
  let h := keepV 0 (toldOf (halfR it))
  let m0 := midV h.2 w1 x.f1
  let ug := keepV m0.2 (toldOf (sumR [k1.1, u.f3]))
  let uy := keepV ug.2 (toldOf (sumR [x.f2, max ug.1 k2.1]))
  let mu := midV uy.2 w1 u.f1
  let ux := keepV mu.2 (toldOf (sumR [mu.1, h.1]))
  setV ux.2 w1 [⟨m0.1, 0, x⟩, ⟨ux.1, uy.1, u⟩]
def rlim01V (F : S36) (c z : Int) (x : S39) (it : Int) (d : S39) : BoxV :=
  let k3 := keepV 0 (konstV F 20 c z)
  let k4 := keepV k3.2 (konstV F 21 c z)
  let e0 := needI [x.f1, x.f2, x.f3, it] k4.2
  let e2 := needE [d] e0
  let w2 := max x.f1 d.f1
  if ¬ e2 = 0 then (0, 0, 0, 0, 0, 0, [], e2) else
  let h := keepV 0 (toldOf (halfR it))
  let m0 := midV h.2 w2 x.f1
  let dg := keepV m0.2 (toldOf (sumR [k3.1, d.f2]))
  let dy := keepV dg.2 (toldOf (sumR [x.f3, max dg.1 k4.1]))
  let md := midV dy.2 w2 d.f1
  let dx := keepV md.2 (toldOf (sumR [md.1, wrap64 (-h.1)]))
  setV dx.2 w2 [⟨m0.1, 0, x⟩, ⟨dx.1, wrap64 (-dy.1), d⟩]
def rlim00V (F : S36) (c z : Int) (x : S39) (it : Int) : BoxV :=
  let e0 := needI [x.f1, x.f2, x.f3, it] 0
  if ¬ e0 = 0 then (0, 0, 0, 0, 0, 0, [], e0) else
  let h := keepV 0 (toldOf (halfR it))
  let m0 := midV h.2 x.f1 x.f1
  setV m0.2 x.f1 [⟨m0.1, 0, x⟩]
end Go.Proofs.YtbhljokhcmfgjaaGreat.P
