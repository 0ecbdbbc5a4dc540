/-
  DERIVED. GIVEN WITH THE SEED: THE CARDS: each row of YtfndgclogopdgaaGreatDoorRows.lean that lists a variable, with what it lists TIED to the program's text (the seventh form; the later family's looks); each row that meets fmt, with fmt's text TOLD by the authors' own Lean function (tested against real Go, not proved from fmt's source: count such statements apart). THE CARD IS WHAT COUNTS. Prove the row's statement (the work); the ties are given (YtfndgclogopdgaaGreatDoorTie.lean); close each card by the builder's one call (the guide's Derived/Test/ToyasCard.lean, 'card_holds'). Laid BY PROGRAM, IN A SANDBOX (cutbox-door.mjs). By AI agents, Wed Nov 11 2026. No macro, syntax, notation, axiom, sorry.
-/
import Derived.Test.YtfndgclogopdgaaGreatDoorRows
import GoSem.ClaimSeven
namespace Go.Proofs.YtfndgclogopdgaaGreatDoor
namespace Rows

/-- THE TIED CARD OF 'portcullislaw15.MachineSteps'. -/
def machineStepsCard : Claim7 := { stood := { row := machineStepsRow, standIns := [], harness := (true, "c2fb594010835e350fdeb428311391298f81364d4c7d0939c98a4b39f5b9693d"), looks := true }, kinds := [], alts := [], laidByText := true, laidKinds := [.data, .data, .data, .data, .sentinel, .sentinel, .pinned], laidTests := true, laidLooks := .later }
def MachineStepsCardSaid : Prop := Claim7.holds Tryz.pinned (.plain (OpenSpec.ofChange machineStepsSpec)) machineStepsCard

/-- THE TIED CARD OF 'portcullislaw15.MachineIdle'. -/
def machineIdleCard : Claim7 := { stood := { row := machineIdleRow, standIns := [], harness := (true, "c2fb594010835e350fdeb428311391298f81364d4c7d0939c98a4b39f5b9693d"), looks := true }, kinds := [], alts := [], laidByText := true, laidKinds := [.data, .data, .data, .data, .sentinel, .sentinel, .pinned], laidTests := true, laidLooks := .later }
def MachineIdleCardSaid : Prop := Claim7.holds Tryz.pinned (.plain (OpenSpec.ofChange machineIdleSpec)) machineIdleCard

/-- THE TIED CARD OF 'portcullislaw15.MachineFaults'. -/
def machineFaultsCard : Claim7 := { stood := { row := machineFaultsRow, standIns := [], harness := (true, "c2fb594010835e350fdeb428311391298f81364d4c7d0939c98a4b39f5b9693d"), looks := true }, kinds := [], alts := [], laidByText := true, laidKinds := [.data, .data, .data, .data, .sentinel, .sentinel, .pinned], laidTests := true, laidLooks := .later }
def MachineFaultsCardSaid : Prop := Claim7.holds Tryz.pinned (.plain (OpenSpec.ofChange machineFaultsSpec)) machineFaultsCard

/-- THE TIED CARD OF 'portcullislaw15.MachineAlone'. -/
def machineAloneCard : Claim7 := { stood := { row := machineAloneRow, standIns := [], harness := (true, "c2fb594010835e350fdeb428311391298f81364d4c7d0939c98a4b39f5b9693d"), looks := true }, kinds := [], alts := [], laidByText := true, laidKinds := [.data, .data, .data, .data, .sentinel, .sentinel, .pinned], laidTests := true, laidLooks := .later }
def MachineAloneCardSaid : Prop := Claim7.holds Tryz.pinned (.plain (OpenSpec.ofChange machineAloneSpec)) machineAloneCard

/-- THE TIED CARD OF 'portcullislaw15.MachineRuns'. -/
def machineRunsCard : Claim7 := { stood := { row := machineRunsRow, standIns := [], harness := (true, "c2fb594010835e350fdeb428311391298f81364d4c7d0939c98a4b39f5b9693d"), looks := true }, kinds := [], alts := [], laidByText := true, laidKinds := [.data, .data, .data, .data, .sentinel, .sentinel, .pinned], laidTests := true, laidLooks := .later }
def MachineRunsCardSaid : Prop := Claim7.holds Tryz.pinned (.plain (OpenSpec.ofChange machineRunsSpec)) machineRunsCard

/-- THE TIED CARD OF 'portcullislaw15.MachineEvents'. -/
def machineEventsCard : Claim7 := { stood := { row := machineEventsRow, standIns := [], harness := (true, "c2fb594010835e350fdeb428311391298f81364d4c7d0939c98a4b39f5b9693d"), looks := true }, kinds := [], alts := [], laidByText := true, laidKinds := [.data, .data, .data, .data, .sentinel, .sentinel, .pinned], laidTests := true, laidLooks := .later }
def MachineEventsCardSaid : Prop := Claim7.holds Tryz.pinned (.plain (OpenSpec.ofChange machineEventsSpec)) machineEventsCard

/-- THE TIED CARD OF 'portcullislaw15.MachineLocks'. -/
def machineLocksCard : Claim7 := { stood := { row := machineLocksRow, standIns := [], harness := (true, "c2fb594010835e350fdeb428311391298f81364d4c7d0939c98a4b39f5b9693d"), looks := true }, kinds := [], alts := [], laidByText := true, laidKinds := [.data, .data, .data, .data, .sentinel, .sentinel, .pinned], laidTests := true, laidLooks := .later }
def MachineLocksCardSaid : Prop := Claim7.holds Tryz.pinned (.plain (OpenSpec.ofChange machineLocksSpec)) machineLocksCard

/-- THE TIED CARD OF 'portcullislaw16.WatchLooks'. -/
def watchLooksCard : Claim7 := { stood := { row := watchLooksRow, standIns := [], harness := (true, "c2fb594010835e350fdeb428311391298f81364d4c7d0939c98a4b39f5b9693d"), looks := true }, kinds := [], alts := [], laidByText := true, laidKinds := [.data, .data, .data, .data, .sentinel, .sentinel, .pinned], laidTests := true, laidLooks := .later }
def WatchLooksCardSaid : Prop := Claim7.holds Tryz.pinned (.plain (OpenSpec.ofChange watchLooksSpec)) watchLooksCard

/-- THE TIED CARD OF 'portcullislaw16.WatchTouches'. -/
def watchTouchesCard : Claim7 := { stood := { row := watchTouchesRow, standIns := [], harness := (true, "c2fb594010835e350fdeb428311391298f81364d4c7d0939c98a4b39f5b9693d"), looks := true }, kinds := [], alts := [], laidByText := true, laidKinds := [.data, .data, .data, .data, .sentinel, .sentinel, .pinned], laidTests := true, laidLooks := .later }
def WatchTouchesCardSaid : Prop := Claim7.holds Tryz.pinned (.plain (OpenSpec.ofChange watchTouchesSpec)) watchTouchesCard

/-- THE TIED CARD OF 'portcullislaw16.WatchClean'. -/
def watchCleanCard : Claim7 := { stood := { row := watchCleanRow, standIns := [], harness := (true, "c2fb594010835e350fdeb428311391298f81364d4c7d0939c98a4b39f5b9693d"), looks := true }, kinds := [], alts := [], laidByText := true, laidKinds := [.data, .data, .data, .data, .sentinel, .sentinel, .pinned], laidTests := true, laidLooks := .later }
def WatchCleanCardSaid : Prop := Claim7.holds Tryz.pinned (.plain (OpenSpec.ofChange watchCleanSpec)) watchCleanCard

/-- THE TIED CARD OF 'portcullislaw16.WatchEnded'. -/
def watchEndedCard : Claim7 := { stood := { row := watchEndedRow, standIns := [], harness := (true, "c2fb594010835e350fdeb428311391298f81364d4c7d0939c98a4b39f5b9693d"), looks := true }, kinds := [], alts := [], laidByText := true, laidKinds := [.data, .data, .data, .data, .sentinel, .sentinel, .pinned], laidTests := true, laidLooks := .later }
def WatchEndedCardSaid : Prop := Claim7.holds Tryz.pinned (.plain (OpenSpec.ofChange watchEndedSpec)) watchEndedCard

/-- THE SECOND FORM's CARD OF 'portcullislaw15.MachineSteps'. -/
def machineStepsUptoCard : Claim7 := { stood := { row := machineStepsUptoRow, standIns := [], harness := (true, "c2fb594010835e350fdeb428311391298f81364d4c7d0939c98a4b39f5b9693d"), looks := true }, kinds := [], alts := [], laidByText := true, laidKinds := [.data, .data, .data, .data, .sentinel, .sentinel, .pinned], laidTests := true, laidLooks := .later }
def MachineStepsUptoCardSaid : Prop := Claim7.holds Tryz.pinned (.plain (OpenSpec.upto machineStepsSpec)) machineStepsUptoCard

/-- THE SECOND FORM's CARD OF 'portcullislaw15.MachineIdle'. -/
def machineIdleUptoCard : Claim7 := { stood := { row := machineIdleUptoRow, standIns := [], harness := (true, "c2fb594010835e350fdeb428311391298f81364d4c7d0939c98a4b39f5b9693d"), looks := true }, kinds := [], alts := [], laidByText := true, laidKinds := [.data, .data, .data, .data, .sentinel, .sentinel, .pinned], laidTests := true, laidLooks := .later }
def MachineIdleUptoCardSaid : Prop := Claim7.holds Tryz.pinned (.plain (OpenSpec.upto machineIdleSpec)) machineIdleUptoCard

/-- THE SECOND FORM's CARD OF 'portcullislaw15.MachineFaults'. -/
def machineFaultsUptoCard : Claim7 := { stood := { row := machineFaultsUptoRow, standIns := [], harness := (true, "c2fb594010835e350fdeb428311391298f81364d4c7d0939c98a4b39f5b9693d"), looks := true }, kinds := [], alts := [], laidByText := true, laidKinds := [.data, .data, .data, .data, .sentinel, .sentinel, .pinned], laidTests := true, laidLooks := .later }
def MachineFaultsUptoCardSaid : Prop := Claim7.holds Tryz.pinned (.plain (OpenSpec.upto machineFaultsSpec)) machineFaultsUptoCard

/-- THE SECOND FORM's CARD OF 'portcullislaw15.MachineAlone'. -/
def machineAloneUptoCard : Claim7 := { stood := { row := machineAloneUptoRow, standIns := [], harness := (true, "c2fb594010835e350fdeb428311391298f81364d4c7d0939c98a4b39f5b9693d"), looks := true }, kinds := [], alts := [], laidByText := true, laidKinds := [.data, .data, .data, .data, .sentinel, .sentinel, .pinned], laidTests := true, laidLooks := .later }
def MachineAloneUptoCardSaid : Prop := Claim7.holds Tryz.pinned (.plain (OpenSpec.upto machineAloneSpec)) machineAloneUptoCard

/-- THE SECOND FORM's CARD OF 'portcullislaw15.MachineRuns'. -/
def machineRunsUptoCard : Claim7 := { stood := { row := machineRunsUptoRow, standIns := [], harness := (true, "c2fb594010835e350fdeb428311391298f81364d4c7d0939c98a4b39f5b9693d"), looks := true }, kinds := [], alts := [], laidByText := true, laidKinds := [.data, .data, .data, .data, .sentinel, .sentinel, .pinned], laidTests := true, laidLooks := .later }
def MachineRunsUptoCardSaid : Prop := Claim7.holds Tryz.pinned (.plain (OpenSpec.upto machineRunsSpec)) machineRunsUptoCard

/-- THE SECOND FORM's CARD OF 'portcullislaw15.MachineEvents'. -/
def machineEventsUptoCard : Claim7 := { stood := { row := machineEventsUptoRow, standIns := [], harness := (true, "c2fb594010835e350fdeb428311391298f81364d4c7d0939c98a4b39f5b9693d"), looks := true }, kinds := [], alts := [], laidByText := true, laidKinds := [.data, .data, .data, .data, .sentinel, .sentinel, .pinned], laidTests := true, laidLooks := .later }
def MachineEventsUptoCardSaid : Prop := Claim7.holds Tryz.pinned (.plain (OpenSpec.upto machineEventsSpec)) machineEventsUptoCard

/-- THE SECOND FORM's CARD OF 'portcullislaw15.MachineLocks'. -/
def machineLocksUptoCard : Claim7 := { stood := { row := machineLocksUptoRow, standIns := [], harness := (true, "c2fb594010835e350fdeb428311391298f81364d4c7d0939c98a4b39f5b9693d"), looks := true }, kinds := [], alts := [], laidByText := true, laidKinds := [.data, .data, .data, .data, .sentinel, .sentinel, .pinned], laidTests := true, laidLooks := .later }
def MachineLocksUptoCardSaid : Prop := Claim7.holds Tryz.pinned (.plain (OpenSpec.upto machineLocksSpec)) machineLocksUptoCard

/-- THE SECOND FORM's CARD OF 'portcullislaw16.WatchLooks'. -/
def watchLooksUptoCard : Claim7 := { stood := { row := watchLooksUptoRow, standIns := [], harness := (true, "c2fb594010835e350fdeb428311391298f81364d4c7d0939c98a4b39f5b9693d"), looks := true }, kinds := [], alts := [], laidByText := true, laidKinds := [.data, .data, .data, .data, .sentinel, .sentinel, .pinned], laidTests := true, laidLooks := .later }
def WatchLooksUptoCardSaid : Prop := Claim7.holds Tryz.pinned (.plain (OpenSpec.upto watchLooksSpec)) watchLooksUptoCard

/-- THE SECOND FORM's CARD OF 'portcullislaw16.WatchTouches'. -/
def watchTouchesUptoCard : Claim7 := { stood := { row := watchTouchesUptoRow, standIns := [], harness := (true, "c2fb594010835e350fdeb428311391298f81364d4c7d0939c98a4b39f5b9693d"), looks := true }, kinds := [], alts := [], laidByText := true, laidKinds := [.data, .data, .data, .data, .sentinel, .sentinel, .pinned], laidTests := true, laidLooks := .later }
def WatchTouchesUptoCardSaid : Prop := Claim7.holds Tryz.pinned (.plain (OpenSpec.upto watchTouchesSpec)) watchTouchesUptoCard

/-- THE SECOND FORM's CARD OF 'portcullislaw16.WatchClean'. -/
def watchCleanUptoCard : Claim7 := { stood := { row := watchCleanUptoRow, standIns := [], harness := (true, "c2fb594010835e350fdeb428311391298f81364d4c7d0939c98a4b39f5b9693d"), looks := true }, kinds := [], alts := [], laidByText := true, laidKinds := [.data, .data, .data, .data, .sentinel, .sentinel, .pinned], laidTests := true, laidLooks := .later }
def WatchCleanUptoCardSaid : Prop := Claim7.holds Tryz.pinned (.plain (OpenSpec.upto watchCleanSpec)) watchCleanUptoCard

/-- THE SECOND FORM's CARD OF 'portcullislaw16.WatchEnded'. -/
def watchEndedUptoCard : Claim7 := { stood := { row := watchEndedUptoRow, standIns := [], harness := (true, "c2fb594010835e350fdeb428311391298f81364d4c7d0939c98a4b39f5b9693d"), looks := true }, kinds := [], alts := [], laidByText := true, laidKinds := [.data, .data, .data, .data, .sentinel, .sentinel, .pinned], laidTests := true, laidLooks := .later }
def WatchEndedUptoCardSaid : Prop := Claim7.holds Tryz.pinned (.plain (OpenSpec.upto watchEndedSpec)) watchEndedUptoCard
end Rows
end Go.Proofs.YtfndgclogopdgaaGreatDoor
