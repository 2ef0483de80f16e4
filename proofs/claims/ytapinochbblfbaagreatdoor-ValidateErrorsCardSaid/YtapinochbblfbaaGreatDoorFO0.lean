/- The empty table. -/
import Derived.Test.YtapinochbblfbaaGreatDoorFN
namespace Go.Proofs.YtapinochbblfbaaGreatDoor.E
open Go Go.Proofs
set_option maxRecDepth 1000000
noncomputable def tab0 : Tr (List Ent) :=
  .node none .leaf .leaf
theorem tab0_ok : AllT (TabOk Tryz.prog) tab0 :=
  .bare .leaf .leaf
end Go.Proofs.YtapinochbblfbaaGreatDoor.E
