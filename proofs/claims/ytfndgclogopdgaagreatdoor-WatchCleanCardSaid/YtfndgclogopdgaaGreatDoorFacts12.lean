/- The closed facts of the row of 'WatchClean', one by one. -/
import Derived.Test.YtfndgclogopdgaaGreatDoorRows
import Derived.Stop.Joined
import Derived.JoinedOf
import Derived.KernelRfl
namespace Go.Proofs.YtfndgclogopdgaaGreatDoor
theorem bothT {a b : Bool} (h : a = true) (k : b = true) : (a && b) = true := by rw [h, k]; rfl
theorem cleanFact0 : (Rows.watchCleanRow.wf (OpenSpec.ofChange Rows.watchCleanSpec)) = true := by kernel_rfl
theorem cleanFact1 : (laidOutB Tryz.prog) = true := by kernel_rfl
theorem cleanFact2 : (mapsRowed Tryz.prog) = true := by kernel_rfl
theorem cleanFact3 : (Tryz.f12.params.all (Tryz.prog.readableRec ·)) = true := by kernel_rfl
theorem cleanFact4 : (namedTie Tryz.prog Rows.watchCleanRow.named Rows.watchCleanSpec.vars) = true := by kernel_rfl
theorem cleanFact5 : (Rows.watchCleanRow.stops == []) = true := by kernel_rfl
theorem cleanFact6 : (Tryz.prog.stops == []) = true := by kernel_rfl
theorem cleanFact7 : (Rows.watchCleanRow.knobs == []) = true := by kernel_rfl
theorem cleanFact8 : (Tryz.prog.stopKnobs == []) = true := by kernel_rfl
theorem cleanFact9 : (Rows.watchCleanRow.inPlace == Tryz.prog.inPlace 12) = true := by kernel_rfl
theorem cleanFact10 : (Rows.watchCleanRow.unfollowed == Tryz.prog.unfollowed 12) = true := by kernel_rfl
theorem cleanFact11 : (Rows.watchCleanRow.recurses == Tryz.prog.recurses 12) = true := by kernel_rfl
theorem cleanFact12 : (Rows.watchCleanRow.named == Tryz.prog.varsNamed 12) = true := by kernel_rfl
theorem cleanFact13 : (Rows.watchCleanRow.maps == (Tryz.f12.params.toList ++ Rows.watchCleanSpec.plain.varTypes Tryz.prog).any (Tryz.prog.mapsRec ·)) = true := by kernel_rfl
theorem cleanFact14 : (Rows.watchCleanRow.ifaces == (Tryz.f12.params.toList ++ Rows.watchCleanSpec.plain.varTypes Tryz.prog).any (Tryz.prog.ifacesRec ·)) = true := by kernel_rfl
theorem cleanFact15 : (Rows.watchCleanRow.mapsOut == Tryz.prog.mapsAmong Tryz.f12.resultTypes.toList) = true := by kernel_rfl
theorem cleanFact16 : (Rows.watchCleanRow.loops == (Tryz.f12.params.toList ++ Rows.watchCleanSpec.plain.varTypes Tryz.prog).any (Tryz.prog.loopsFrom ·)) = true := by kernel_rfl
theorem cleanFact17 : (Rows.watchCleanRow.wideKeys == (Tryz.f12.params.toList ++ Rows.watchCleanSpec.plain.varTypes Tryz.prog ++ Tryz.f12.resultTypes.toList).any (Tryz.prog.wideKeysFrom ·)) = true := by kernel_rfl
theorem cleanFact18 : (Rows.watchCleanSpec.vars.all (Tryz.prog.varReadable ·)) = true := by kernel_rfl
theorem cleanFact19 : (Tryz.f12.resultTypes.all (fun t => Tryz.prog.readableRec t && decide (t < Tryz.prog.types.size))) = true := by kernel_rfl
theorem cleanFact20 : (Rows.watchCleanRow.ifacesOut == Tryz.f12.resultTypes.toList.any (Tryz.prog.ifacesRec ·)) = true := by kernel_rfl
theorem cleanFact21 : (Rows.watchCleanRow.loopsOut == Tryz.f12.resultTypes.toList.any (Tryz.prog.loopsFrom ·)) = true := by kernel_rfl
theorem cleanFact22 : (Rows.watchCleanRow.plainKeys == Tryz.prog.plainKeys) = true := by kernel_rfl
theorem cleanFact23 : (Rows.watchCleanRow.shortTexts.isNone) = true := by kernel_rfl
theorem cleanFact24 : (Tryz.prog.stopsHeard) = true := by kernel_rfl
theorem cleanFact25 : (Tryz.prog.mayEnter) = true := by kernel_rfl
theorem cleanFact26 : (Rows.watchCleanRow.lifted == Tryz.prog.liftsFinal) = true := by kernel_rfl
theorem cleanFact27 : (Tryz.prog.make == some Rows.watchCleanRow.make) = true := by kernel_rfl
theorem cleanFact28 : (Rows.watchCleanRow.kinds == (if Rows.watchCleanRow.domain.isEmpty then [] else Tryz.f12.params.toList.map fun t => match Tryz.prog.underlying t with | some (.int k) => some k | _ => none)) = true := by kernel_rfl
theorem cleanFact29 : (Rows.watchCleanRow.pinned == Rows.watchCleanRow.pinnedBy) = true := by kernel_rfl
theorem cleanFact30 : (Rows.watchCleanRow.veiled == (Tryz.f12.params.toList ++ Rows.watchCleanSpec.plain.varTypes Tryz.prog ++ Tryz.f12.resultTypes.toList).any (Tryz.prog.veiledRec ·)) = true := by kernel_rfl
theorem cleanFact31 : (Rows.watchCleanRow.veiledFits Tryz.prog Tryz.f12.params.toList (Tryz.f12.params.toList ++ Rows.watchCleanSpec.plain.varTypes Tryz.prog ++ Tryz.f12.resultTypes.toList)) = true := by kernel_rfl
set_option maxRecDepth 100000 in
theorem cleanFactall : joinedFacts Tryz.prog 12 Tryz.f12 Rows.watchCleanSpec Rows.watchCleanRow = true := (bothT (bothT (bothT (bothT (bothT (bothT (bothT (bothT (bothT (bothT (bothT (bothT (bothT (bothT (bothT (bothT (bothT (bothT (bothT (bothT (bothT (bothT (bothT (bothT (bothT (bothT (bothT (bothT (bothT (bothT (bothT cleanFact0 cleanFact1) cleanFact2) cleanFact3) cleanFact4) cleanFact5) cleanFact6) cleanFact7) cleanFact8) cleanFact9) cleanFact10) cleanFact11) cleanFact12) cleanFact13) cleanFact14) cleanFact15) cleanFact16) cleanFact17) cleanFact18) cleanFact19) cleanFact20) cleanFact21) cleanFact22) cleanFact23) cleanFact24) cleanFact25) cleanFact26) cleanFact27) cleanFact28) cleanFact29) cleanFact30) cleanFact31)
theorem cleanName : Tryz.prog.funcNamed "portcullis/portcullislaw16.WatchClean" = some 12 := by kernel_rfl
theorem cleanInst : Tryz.f12.isInstance Tryz.prog Rows.watchCleanRow.origin Rows.watchCleanRow.targs := of_decide_eq_true (by kernel_rfl)
theorem cleanWrap : Tryz.f12.isWrapper Tryz.prog Rows.watchCleanRow.wrapper Rows.watchCleanRow.mainSum := by unfold Func.isWrapper; first | (rw [if_pos (by decide +kernel)]; kernel_rfl) | (rw [if_neg (by decide +kernel)]; exact ⟨rfl, rfl⟩)
end Go.Proofs.YtfndgclogopdgaaGreatDoor
