/- The law 'portcullislaw16.WatchClean': the row's statement. -/
import Derived.Test.YtfndgclogopdgaaGreatDoorLift
import Derived.Test.YtfndgclogopdgaaGreatDoorFacts12
namespace Go.Proofs.YtfndgclogopdgaaGreatDoor
open Go.ChangeShapes Go.WideShapes Go.ChangeAt Go.RowKit

theorem watchClean_row : Rows.WatchCleanSaid :=
  OpenClaim.holds_of_wide 12 Tryz.f12 rfl rfl rfl rfl rfl rfl rfl ⟨rfl, rfl, rfl, rfl, rfl⟩ rfl rfl rfl rfl rfl cleanName Tryz.func12 cleanFactall
    cleanInst cleanWrap
    (fun os started H enc _ => clean_lifted os started H enc)

end Go.Proofs.YtfndgclogopdgaaGreatDoor
