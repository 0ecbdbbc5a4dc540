/- The law 'WatchClean' (function 12), walked by the abstract executor: it answers true at every argument of its shape. -/
import Derived.Test.YtfndgclogopdgaaGreatDoorRun36
namespace Go.Proofs.YtfndgclogopdgaaGreatDoor
open Go.AX

set_option maxRecDepth 1000000 in
theorem run12 (n1 n2 n3 : Nat) (b1 b2 : Bool) : Go.AX.isTrue ((tower Tryz.prog (hookT 36) 1000).call 12 [.agg [.slcO n1, .slcO n2, .slcO n3, .bool b1, .bool b2]] h0) = true := by
  cases n1 <;> cases n2 <;> cases n3 <;> cases b1 <;> cases b2 <;> kernel_rfl

theorem cell_same {W w : World} {m : Int} (h : W.cell? ⟨0, 0, none⟩ = some (.int .i64 m)) (hw : ∀ o, W.heap[0]? = some o → w.heap[0]? = some o) : w.cell? ⟨0, 0, none⟩ = some (.int .i64 m) := by
  cases ho : W.heap[0]? with
  | none => simp [World.cell?, ho] at h
  | some o =>
    rw [← h]
    simp [World.cell?, hw o ho, ho]

theorem clean_walk (a1 a2 a3 : Option Addr) (n1 c1 n2 c2 n3 c3 : Nat) (b1 b2 : Bool) {W : World} {m : Int} (h : W.cell? ⟨0, 0, none⟩ = some (.int .i64 m)) :
    Calls Tryz.prog 12 #[.agg #[.slice a1 n1 c1, .slice a2 n2 c2, .slice a3 n3 c3, .bool b1, .bool b2]] W fun e w' => e = .returned (.bool true) ∧ RowKit.Below W.heap.size W w' := by
  obtain ⟨h', hrun⟩ := isTrue_get (run12 n1 n2 n3 b1 b2)
  have hbody : ((Tryz.prog.funcs[12]?).bind (·.body)).isSome = true := by kernel_rfl
  have hok : HookOK (fun b o => b = 0 ∧ W.heap[0]? = some o) Tryz.prog (hookT 36) :=
    hookT_ok (enters_at (by kernel_rfl)) (fun w hw => alive16 (cell_same h (fun o ho => hw 0 o ⟨rfl, ho⟩)))
  have hrel : VRL (fun _ => none) [AV.agg [.slcO n1, .slcO n2, .slcO n3, .bool b1, .bool b2]] [Value.agg #[.slice a1 n1 c1, .slice a2 n2 c2, .slice a3 n3 c3, .bool b1, .bool b2]] :=
    .cons _ _ _ _ (.agg _ [_, _, _, _, _] (.cons _ _ _ _ (.slcO _ _ _) (.cons _ _ _ _ (.slcO _ _ _) (.cons _ _ _ _ (.slcO _ _ _) (.cons _ _ _ _ (.bool _) (.cons _ _ _ _ (.bool _) .nil)))))) .nil
  cases hf : Tryz.prog.funcs[12]? with
  | none => rw [hf] at hbody; cases hbody
  | some fn =>
    rw [hf] at hbody
    cases hc : fn.body with
    | none => simp only [Option.bind_some, hc] at hbody; cases hbody
    | some c => exact calls_true hok enters follows_rec follows_mixed hf hc hrun hrel W (fun b o hb => by rw [hb.1]; exact hb.2)
end Go.Proofs.YtfndgclogopdgaaGreatDoor
