/- The closed facts of the card of 'WatchClean', one by one. -/
import Derived.Test.YtfndgclogopdgaaGreatDoorRows
import Derived.Test.YtfndgclogopdgaaGreatDoorCards
import Derived.SevenTiedAt
import Derived.KernelRfl
namespace Go.Proofs.YtfndgclogopdgaaGreatDoor
theorem cleanCard1 : Rows.watchCleanRow.wfByText (OpenSpec.ofChange Rows.watchCleanSpec) = true := by kernel_rfl
theorem cleanCard2 : Tryz.prog.mainIs = some (true, "c2fb594010835e350fdeb428311391298f81364d4c7d0939c98a4b39f5b9693d".toList) := by kernel_rfl
theorem cleanCard3 : true = Tryz.prog.looks [] := by kernel_rfl
theorem cleanCard4 : false = Rows.watchCleanRow.goesBy Tryz.prog := by kernel_rfl
theorem cleanCard5 : Tryz.prog.wantsStandIn 89 = false := by kernel_rfl
end Go.Proofs.YtfndgclogopdgaaGreatDoor
