/- The executor's stand-ins at this translation; the run of the programs that the laws begin with. -/
import Derived.Test.YtfndgclogopdgaaGreatDoorAxD
import Derived.Test.YtfndgclogopdgaaGreatDoorLaid
import Derived.KernelRfl
namespace Go.Proofs.YtfndgclogopdgaaGreatDoor
open Go.AX

theorem names_ok : (Tryz.prog.funcs.toList.all fun fn => fn.body.isNone || !(fn.name == "runtime.NumGoroutine")) = true := by kernel_rfl

theorem enters : EntersOK Tryz.prog := by
  intro f fn c hf hc args w
  have hall := List.all_eq_true.1 names_ok fn (Array.mem_toList_iff.2 (Array.mem_of_getElem? hf))
  have hn : (fn.name == "runtime.NumGoroutine") = false := by
    simp only [hc, Option.isNone_some, Bool.false_or, Bool.not_eq_true'] at hall
    exact hall
  have hn' : ¬ fn.name = "runtime.NumGoroutine" := fun he => by rw [he] at hn; simp at hn
  simp [callFunc, hf, hn', hc]

theorem enters_at {f : Nat} (h : ((Tryz.prog.funcs[f]?).bind (·.body)).isSome = true) (args : Array Value) (w : World) : (callFunc f args).run Tryz.prog w = .ok (.enter f args) w := by
  cases hf : Tryz.prog.funcs[f]? with
  | none => rw [hf] at h; cases h
  | some fn =>
    rw [hf] at h
    cases hc : fn.body with
    | none => simp only [Option.bind_some, hc] at h; cases h
    | some c => exact enters f fn c hf hc args w

theorem zero436 (w : World) : (zeroValue 436).run Tryz.prog w = .ok (.agg (Array.replicate 256 (.bool false))) w := by
  have h : (Tryz.prog.info? 436).map (·.zero) = some (some (.agg (Array.replicate 256 (.bool false)))) := by kernel_rfl
  cases hi : Tryz.prog.info? 436 with
  | none => rw [hi] at h; cases h
  | some i =>
    rw [hi] at h
    simp only [Option.map_some, Option.some.injEq] at h
    simp [zeroValue, typeInfo, hi, h]

/-- Where the library's number of bytes lies. -/
def Max (G : Nat → Obj → Prop) : Prop := ∃ o m, G 0 o ∧ ∀ w : World, w.heap[0]? = some o → w.cell? ⟨0, 0, none⟩ = some (.int .i64 m)

theorem hook_ok {G : Nat → Obj → Prop} (hm : Max G) : HookOK G Tryz.prog (hook 263 319 314) := by
  constructor
  · intro f args h v h' hh e D cargs cs w ha hp
    unfold hook at hh
    rcases bc_get hh with ⟨hf, hh1⟩ | ⟨_, hh1⟩ <;> clear hh <;> have hh := hh1 <;> clear hh1
    · have hf' : f = 263 := Nat.eq_of_beq_eq_true hf
      subst hf'
      split at hh
      · rename_i s n
        rcases bc_get hh with ⟨hn, hh1⟩ | ⟨_, hh1⟩ <;> clear hh <;> have hh := hh1 <;> clear hh1
        · simp only [Option.some.injEq, Prod.mk.injEq] at hh
          obtain ⟨rfl, rfl⟩ := hh
          have hn' : n < 256 := by simpa [Nat.blt_eq] using hn
          obtain ⟨cl, rfl⟩ : ∃ cl : List Value, cargs = cl.toArray := ⟨cargs.toList, by simp⟩
          change VRL e _ cl at ha
          cases ha with | cons _ c1 _ _ h1 ha =>
          cases ha with | cons _ c2 _ _ h2 ha =>
          cases ha; cases h1; cases h2
          obtain ⟨cv, w', hc, hq⟩ := callR_of (Tryz.strings_IndexByte ⟨s.toArray⟩ (Int.ofNat n) w) (enters_at (by kernel_rfl) _ w)
            (Q := fun cv w' => cv = .int .i64 (Lib.indexByte s n.toUInt8) ∧ w' = w) (fun e w' hr => ⟨_, hr.1, by simp, hr.2⟩) cs
          obtain ⟨rfl, rfl⟩ := hq
          refine ⟨_, w', e, hc, ?_, Post.refl hp⟩
          rw [idxByte_eq hn']
          have : (if Lib.indexByte s n.toUInt8 = -1 then -1 else Lib.indexByte s n.toUInt8 + ((0 : Nat) : Int)) = Lib.indexByte s n.toUInt8 := by
            split
            · rename_i h; rw [h]
            · simp
          rw [this]
          exact .int _ _
        · cases hh
      · cases hh
    · rcases bc_get hh with ⟨hf, hh1⟩ | ⟨_, hh1⟩ <;> clear hh <;> have hh := hh1 <;> clear hh1
      · have hf' : f = 319 := Nat.eq_of_beq_eq_true hf
        subst hf'
        split at hh
        · rename_i s t
          rcases bc_get hh with ⟨hn, hh1⟩ | ⟨_, hh1⟩ <;> clear hh <;> have hh := hh1 <;> clear hh1
          · simp only [Option.some.injEq, Prod.mk.injEq] at hh
            obtain ⟨rfl, rfl⟩ := hh
            have hn' : s.length < 4294967281 := by simpa [Nat.blt_eq] using hn
            obtain ⟨cl, rfl⟩ : ∃ cl : List Value, cargs = cl.toArray := ⟨cargs.toList, by simp⟩
            change VRL e _ cl at ha
            cases ha with | cons _ c1 _ _ h1 ha =>
            cases ha with | cons _ c2 _ _ h2 ha =>
            cases ha; cases h1; cases h2
            obtain ⟨o, m, hG, hcell⟩ := hm
            obtain ⟨cv, w', hc, hq⟩ := callR_of (Tryz.strings_Contains ⟨s.toArray⟩ ⟨t.toArray⟩ m w (by simpa [ByteArray.size] using hn') (hcell w (hp.glob 0 o hG).1)) (enters_at (by kernel_rfl) _ w)
              (Q := fun cv w' => cv = .bool (Lib.contains s t) ∧ w' = w) (fun e w' hr => ⟨_, hr.1, by simp, hr.2⟩) cs
            obtain ⟨rfl, rfl⟩ := hq
            refine ⟨_, w', e, hc, ?_, Post.refl hp⟩
            rw [containsL_eq]
            exact .bool _
          · cases hh
        · cases hh
      · rcases bc_get hh with ⟨hf, hh1⟩ | ⟨_, hh1⟩ <;> clear hh <;> have hh := hh1 <;> clear hh1
        · have hf' : f = 314 := Nat.eq_of_beq_eq_true hf
          subst hf'
          split at hh
          · rename_i s
            rcases bc_get hh with ⟨hn, hh1⟩ | ⟨_, hh1⟩ <;> clear hh <;> have hh := hh1 <;> clear hh1
            · simp only [Option.some.injEq, Prod.mk.injEq] at hh
              obtain ⟨rfl, rfl⟩ := hh
              have hn2 : (Nat.blt s.length 4294967281 && allAscii s) = true := hn
              simp only [Bool.and_eq_true] at hn2
              have hn' : s.length < 4294967281 := by simpa [Nat.blt_eq] using hn2.1
              obtain ⟨cl, rfl⟩ : ∃ cl : List Value, cargs = cl.toArray := ⟨cargs.toList, by simp⟩
              change VRL e _ cl at ha
              cases ha with | cons _ c1 _ _ h1 ha =>
              cases ha; cases h1
              obtain ⟨cv, w', hc, hq⟩ := callR_of (Tryz.strings_makeASCIISet zero436 ⟨s.toArray⟩ w (by simpa [ByteArray.size] using hn') (by simpa using allAscii_spec s hn2.2)) (enters_at (by kernel_rfl) _ w)
                (Q := fun cv w' => cv = .tuple #[.agg (Lib.setCells s), .bool true] ∧ w' = w.alloc (.cells (Lib.setCells s) 436)) (fun e w' hr => ⟨_, hr.1, by simp, by simpa using hr.2⟩) cs
              obtain ⟨rfl, rfl⟩ := hq
              refine ⟨_, _, e, hc, ?_, Post.below hp ((RowKit.Below.refl _ _).alloc (Nat.le_refl _) _)⟩
              have h1 := VR.agg (e := e) _ _ (set_rel e s)
              rw [Array.toArray_toList] at h1
              exact .tup _ [_, _] (.cons _ _ _ _ h1 (.cons _ _ _ _ (.bool _) .nil))
            · cases hh
          · cases hh
        · cases hh
  · intro f args h v h' hh
    unfold hook at hh
    have hsame : h' = h := by
      rcases bc_get hh with ⟨_, hh⟩ | ⟨_, hh⟩
      · split at hh
        · rcases bc_get hh with ⟨_, hh⟩ | ⟨_, hh⟩
          · simp only [Option.some.injEq, Prod.mk.injEq] at hh; exact hh.2.symm
          · cases hh
        · cases hh
      · rcases bc_get hh with ⟨_, hh⟩ | ⟨_, hh⟩
        · split at hh
          · rcases bc_get hh with ⟨_, hh⟩ | ⟨_, hh⟩
            · simp only [Option.some.injEq, Prod.mk.injEq] at hh; exact hh.2.symm
            · cases hh
          · cases hh
        · rcases bc_get hh with ⟨_, hh⟩ | ⟨_, hh⟩
          · split at hh
            · rcases bc_get hh with ⟨_, hh⟩ | ⟨_, hh⟩
              · simp only [Option.some.injEq, Prod.mk.injEq] at hh; exact hh.2.symm
              · cases hh
            · cases hh
          · cases hh
    rw [hsame]
    exact AH.Le.refl h
end Go.Proofs.YtfndgclogopdgaaGreatDoor
