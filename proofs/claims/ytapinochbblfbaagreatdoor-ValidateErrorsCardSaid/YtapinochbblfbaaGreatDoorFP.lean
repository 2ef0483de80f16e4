/- The examples of chapter 33 give true. -/
import Derived.Test.YtapinochbblfbaaGreatDoorFO4
namespace Go.Proofs.YtapinochbblfbaaGreatDoor.E
open Go Go.Proofs
set_option maxRecDepth 1000000
noncomputable def eAw : Ent := ⟨10, [], .bool true⟩
theorem rAw : chk (runT tab4 eAw.f eAw.args) eAw.res = true := by kernel_rfl
theorem oAw : EntOk Tryz.prog eAw := runT_ok tab4_ok rAw (by kernel_rfl)
end Go.Proofs.YtapinochbblfbaaGreatDoor.E
