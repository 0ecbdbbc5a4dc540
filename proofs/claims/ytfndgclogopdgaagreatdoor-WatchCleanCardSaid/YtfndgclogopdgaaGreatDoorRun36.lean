/- The call of the sixteenth chapter's opening check (function 36) comes to true in every world that holds the library's number of bytes; all that lay in the world stays. The kernel runs the abstract executor. -/
import Derived.Test.YtfndgclogopdgaaGreatDoorHook
namespace Go.Proofs.YtfndgclogopdgaaGreatDoor
open Go.AX

theorem isTrue_get {x : Option (AV × AH)} (h : Go.AX.isTrue x = true) : ∃ h', x = some (.bool true, h') := by
  unfold Go.AX.isTrue at h
  split at h
  · rename_i b h'; subst h; exact ⟨h', rfl⟩
  · cases h

set_option maxRecDepth 1000000 in
theorem run36 : Go.AX.isTrue ((tower Tryz.prog (hook 263 319 314) 1000000).call 36 [] h0) = true := by kernel_rfl

theorem max_of {W : World} {m : Int} (h : W.cell? ⟨0, 0, none⟩ = some (.int .i64 m)) : Max (fun b o => b = 0 ∧ W.heap[0]? = some o) := by
  cases ho : W.heap[0]? with
  | none => simp [World.cell?, ho] at h
  | some o =>
    refine ⟨o, m, ⟨rfl, rfl⟩, fun w hw => ?_⟩
    rw [← h]
    simp [World.cell?, hw, ho]

theorem follows_rec : Tryz.prog.follows .rangeFuncRecover = true := by kernel_rfl
theorem follows_mixed : Tryz.prog.follows .mixedOrders = true := by kernel_rfl

theorem calls_of_run {f : FuncId} (hx : Go.AX.isTrue ((tower Tryz.prog (hook 263 319 314) 1000000).call f [] h0) = true) (hb : ((Tryz.prog.funcs[f]?).bind (·.body)).isSome = true) {W : World} {m : Int} (h : W.cell? ⟨0, 0, none⟩ = some (.int .i64 m)) :
    Calls Tryz.prog f #[] W fun e w' => e = .returned (.bool true) ∧ RowKit.Below W.heap.size W w' := by
  obtain ⟨h', hrun⟩ := isTrue_get hx
  cases hf : Tryz.prog.funcs[f]? with
  | none => rw [hf] at hb; cases hb
  | some fn =>
    rw [hf] at hb
    cases hc : fn.body with
    | none => simp only [Option.bind_some, hc] at hb; cases hb
    | some c => exact calls_true (hook_ok (max_of h)) enters follows_rec follows_mixed hf hc hrun .nil W (fun b o hb => by rw [hb.1]; exact hb.2)

theorem alive16 {W : World} {m : Int} (h : W.cell? ⟨0, 0, none⟩ = some (.int .i64 m)) :
    Calls Tryz.prog 36 #[] W fun e w' => e = .returned (.bool true) ∧ RowKit.Below W.heap.size W w' := calls_of_run run36 (by kernel_rfl) h
end Go.Proofs.YtfndgclogopdgaaGreatDoor
