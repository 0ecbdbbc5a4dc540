/- The abstract executor: the other operations. -/
import Derived.Test.YtfndgclogopdgaaGreatDoorAxB
import Derived.Laws.Tables

/-! AX: slices. -/
namespace Go.AX

variable {P : Program} {e : Env} {D : Nat → Prop} {h h' : AH} {w : World}

theorem optA_more {x : Option AV} {d m m' n : Nat} (hh : optA x d m = some n) (hm : m ≤ m') : optA x d m' = some n := by
  unfold optA at hh ⊢
  split at hh
  · exact hh
  · obtain ⟨k, rfl, hle⟩ := atMost_some hh
    simp only [atMost?]
    have : Nat.ble n m' = true := Nat.ble_eq_true_of_le (by omega)
    rw [this]

theorem optA_le {x : Option AV} {d m n : Nat} (hh : optA x d m = some n) (hd : d ≤ m) : n ≤ m := by
  unfold optA at hh
  split at hh
  · simp only [Option.some.injEq] at hh; omega
  · obtain ⟨k, _, hle⟩ := atMost_some hh
    exact hle

theorem run_sliceAt {t : TypeId} {cx : Value} {clo chi : Option Value} {d : TypeDesc} (hd : P.underlying t = some d) (hna : ∀ n el, d ≠ .array n el) (w : World) :
    (Instr.sliceAt t cx clo chi none).run P w = (Instr.slice t cx clo chi none).run P w := by
  unfold Instr.sliceAt
  rw [Sem.run_bind, run_und hd]
  simp only [Result.andThen_ok]

theorem goodP_slice {t : TypeId} {x v : AV} {lo hi : Option AV} {cx : Value} {clo chi : Option Value} (hh : sliceA P t x lo hi = some v) (hx : VR e x cx)
    (hlo : ∀ a, lo = some a → ∃ c, clo = some c ∧ VR e a c) (hln : lo = none → clo = none)
    (hhi : ∀ a, hi = some a → ∃ c, chi = some c ∧ VR e a c) (hhn : hi = none → chi = none) : GoodP P (Instr.sliceAt t cx clo chi none) e w v := by
  unfold sliceA at hh
  split at hh
  · rename_i s hu
    repeat (split at hh <;> try (cases hh; done))
    rename_i _ hI hhI _ l hl
    simp only [Option.some.injEq] at hh; subst hh
    cases hx
    have hsz : (⟨s.toArray⟩ : ByteArray).size = s.length := by simp [ByteArray.size]
    have hb := run_bounds (P := P) (e := e) (isS := false) hhI hl hhi hhn hlo hln w
    refine ⟨.string ((⟨s.toArray⟩ : ByteArray).extract l hI), ?_, ?_⟩
    · rw [run_sliceAt hu (by simp)]
      unfold Instr.slice
      rw [Sem.run_bind, run_und hu]
      simp only [Result.andThen_ok, Option.isSome_none, Bool.false_eq_true, if_false, Sem.run_bind, hsz, hb, Sem.run_pure]
    · have : (⟨s.toArray⟩ : ByteArray).extract l hI = ⟨((s.take hI).drop l).toArray⟩ := by
        apply ByteArray.ext
        apply Array.ext'
        rw [Go.Lib.extract_data]
        simp [List.drop_take]
      rw [this]
      exact .str _
  · rename_i el id off len cap hu
    repeat (split at hh <;> try (cases hh; done))
    · rename_i _ _ s hI hs hhI _ l hl _ hc
      simp only [Option.some.injEq] at hh; subst hh
      cases hx with | slc _ _ _ _ b tt hb =>
      have hbd := run_bounds (P := P) (e := e) (isS := true) hhI hl hhi hhn hlo hln w
      have hcl : cap = l := Nat.eq_of_beq_eq_true hc
      refine ⟨.slice (some ⟨b, off, none⟩) (hI - l) (cap - l), ?_, ?_⟩
      · rw [run_sliceAt hu (by simp)]
        unfold Instr.slice
        rw [Sem.run_bind, run_und hu]
        simp only [Result.andThen_ok, Sem.run_bind, hbd, run_sizeOf hs, Sem.run_pure]
        rw [if_pos hcl]
      · have h0 : cap - l = 0 := by omega
        rw [h0]
        exact .slc _ _ _ _ _ _ hb
    · rename_i _ _ s hI hs hhI _ l hl _ hc
      simp only [Option.some.injEq] at hh; subst hh
      cases hx with | slc _ _ _ _ b tt hb =>
      have hbd := run_bounds (P := P) (e := e) (isS := true) hhI hl hhi hhn hlo hln w
      have hcl : cap ≠ l := fun hc' => by subst hc'; simp at hc
      refine ⟨.slice (some ⟨b, off + l * s, none⟩) (hI - l) (cap - l), ?_, .slc _ _ _ _ _ _ hb⟩
      rw [run_sliceAt hu (by simp)]
      unfold Instr.slice
      rw [Sem.run_bind, run_und hu]
      simp only [Result.andThen_ok, Sem.run_bind, hbd, run_sizeOf hs, Sem.run_pure]
      rw [if_neg hcl]
      simp [add_addr]
  · rename_i el id off len es hu
    repeat (split at hh <;> try (cases hh; done))
    · rename_i _ _ s hI hs hhI _ _ l hl hse _ hc
      simp only [Option.some.injEq] at hh; subst hh
      cases hx with | slcU _ _ _ _ b tt c hb hcl ht =>
      have hbd := run_bounds (P := P) (e := e) (isS := true) (optA_more hhI hcl) hl hhi hhn hlo hln w
      have hes : s = es := Nat.eq_of_beq_eq_true hse
      subst hes
      have hlt : l < len := by simp [Nat.blt] at hc; omega
      have hhl : hI ≤ len := optA_le hhI (Nat.le_refl _)
      refine ⟨.slice (some ⟨b, off + l * s, none⟩) (hI - l) (c - l), ?_, .slcU _ _ _ _ _ _ _ hb (by simp only [Nat.sub_eq]; omega) ?_⟩
      · rw [run_sliceAt hu (by simp)]
        unfold Instr.slice
        rw [Sem.run_bind, run_und hu]
        simp only [Result.andThen_ok, Sem.run_bind, hbd, run_sizeOf hs, Sem.run_pure]
        rw [if_neg (by omega)]
        simp [add_addr]
      · change off + l * s + (c - l) * s = tt
        have : l * s + (c - l) * s = c * s := by rw [← Nat.add_mul]; congr 1; omega
        omega
    · rename_i _ _ s hI hs hhI _ _ l hl hse _ hc
      simp only [Option.some.injEq] at hh; subst hh
      cases hx with | slcU _ _ _ _ b tt c hb hcl ht =>
      have hbd := run_bounds (P := P) (e := e) (isS := true) (optA_more hhI hcl) hl hhi hhn hlo hln w
      have hge : ¬ l < len := fun hc' => by rw [show Nat.blt l len = true by simp [Nat.blt]; omega] at hc; cases hc
      have hhl : hI ≤ len := optA_le hhI (Nat.le_refl _)
      have hll : l ≤ hI := optA_le hl (Nat.zero_le _)
      have h0 : hI - l = 0 := by omega
      refine ⟨.slice (if c = l then some ⟨b, off, none⟩ else some (Addr.add ⟨b, off, none⟩ (l * s))) 0 (c - l), ?_, .slcE _ _⟩
      rw [run_sliceAt hu (by simp)]
      unfold Instr.slice
      rw [Sem.run_bind, run_und hu]
      simp only [Result.andThen_ok, Sem.run_bind, hbd, run_sizeOf hs, Sem.run_pure, h0]
      rfl
  · rename_i el hu
    repeat (split at hh <;> try (cases hh; done))
    rename_i _ _ s hI hs hhI _ l hl
    simp only [Option.some.injEq] at hh; subst hh
    cases hx
    have hI0 : hI ≤ 0 := optA_le hhI (Nat.le_refl _)
    have l0 : l ≤ hI := optA_le hl (Nat.zero_le _)
    have hI0' : hI = 0 := by omega
    have l0' : l = 0 := by omega
    subst hI0' l0'
    have hbd := run_bounds (P := P) (e := e) (isS := true) hhI hl hhi hhn hlo hln w
    refine ⟨.slice none 0 0, ?_, .slcN⟩
    rw [run_sliceAt hu (by simp)]
    unfold Instr.slice
    rw [Sem.run_bind, run_und hu]
    simp only [Result.andThen_ok, Sem.run_bind, hbd, run_sizeOf hs, Sem.run_pure]
    rfl
  · rename_i el hu
    repeat (split at hh <;> try (cases hh; done))
    rename_i _ _ s hI hs hhI _ l hl
    simp only [Option.some.injEq] at hh; subst hh
    cases hx with | slcE a c =>
    have hI0 : hI ≤ 0 := optA_le hhI (Nat.le_refl _)
    have l0 : l ≤ hI := optA_le hl (Nat.zero_le _)
    have hI0' : hI = 0 := by omega
    have l0' : l = 0 := by omega
    subst hI0' l0'
    have hbd := run_bounds (P := P) (e := e) (isS := true) (optA_more hhI (Nat.zero_le c)) hl hhi hhn hlo hln w
    refine ⟨.slice (if c = 0 then a else a.map (·.add (0 * s))) 0 c, ?_, .slcE _ _⟩
    rw [run_sliceAt hu (by simp)]
    unfold Instr.slice
    rw [Sem.run_bind, run_und hu]
    simp only [Result.andThen_ok, Sem.run_bind, hbd, run_sizeOf hs, Sem.run_pure]
    rfl
  · rename_i n el id off hu
    repeat (split at hh <;> try (cases hh; done))
    · rename_i _ _ s hI hs hhI _ l hl _ hc
      simp only [Option.some.injEq] at hh; subst hh
      cases hx with | ptr _ _ b tt hb =>
      have hbd := run_bounds (P := P) (e := e) (isS := false) hhI hl hhi hhn hlo hln w
      have hcl : n = l := Nat.eq_of_beq_eq_true hc
      refine ⟨.slice (some ⟨b, off, none⟩) (hI - l) (n - l), ?_, ?_⟩
      · unfold Instr.sliceAt
        rw [Sem.run_bind, run_und hu]
        simp only [Result.andThen_ok, Sem.run_bind, Instr.sureAddr, hbd, run_sizeOf hs, Sem.run_pure]
        rw [if_pos hcl]
      · have h0 : n - l = 0 := by omega
        rw [h0]
        exact .slc _ _ _ _ _ _ hb
    · rename_i _ _ s hI hs hhI _ l hl _ hc
      simp only [Option.some.injEq] at hh; subst hh
      cases hx with | ptr _ _ b tt hb =>
      have hbd := run_bounds (P := P) (e := e) (isS := false) hhI hl hhi hhn hlo hln w
      have hcl : n ≠ l := fun hc' => by subst hc'; simp at hc
      refine ⟨.slice (some ⟨b, off + l * s, none⟩) (hI - l) (n - l), ?_, .slc _ _ _ _ _ _ hb⟩
      unfold Instr.sliceAt
      rw [Sem.run_bind, run_und hu]
      simp only [Result.andThen_ok, Sem.run_bind, Instr.sureAddr, hbd, run_sizeOf hs, Sem.run_pure]
      rw [if_neg hcl]
      simp [add_addr]
  · cases hh
end Go.AX

/-! AX: values of parts. -/
namespace Go.AX

variable {P : Program} {e : Env} {D : Nat → Prop} {h h' : AH} {w : World}

theorem splice_foldl (off : Nat) : ∀ (xs : List Value) (k : Nat) (cs : List Value), off + k + xs.length ≤ cs.length →
    ((xs.zipIdx k).foldl (fun (a : Array Value) (p : Value × Nat) => a.setIfInBounds (off + p.2) p.1) cs.toArray) = (cs.take (off + k) ++ (xs ++ cs.drop (off + k + xs.length))).toArray := by
  intro xs
  induction xs with
  | nil => intro k cs _; simp
  | cons x xs ih =>
    intro k cs hle
    simp only [List.length_cons] at hle
    simp only [List.zipIdx_cons, List.foldl_cons]
    have hset : cs.toArray.setIfInBounds (off + k) x = (cs.set (off + k) x).toArray := by simp
    rw [hset, ih (k + 1) _ (by simp; omega)]
    congr 1
    have hlt : off + k < cs.length := by omega
    rw [show off + (k + 1) = (off + k) + 1 from by omega]
    rw [List.take_set, List.drop_set_of_lt (by omega)]
    have h1 : (cs.take (off + k + 1)).set (off + k) x = cs.take (off + k) ++ [x] := by
      rw [List.take_succ_eq_append_getElem hlt]
      rw [List.set_append_right _ _ (by simp; omega)]
      simp
      have : min (off + k) cs.length = off + k := by omega
      simp [this]
    rw [h1]
    simp only [List.append_assoc, List.cons_append, List.nil_append, List.length_cons]
    rw [show off + k + (xs.length + 1) = off + k + 1 + xs.length from by omega]

theorem fill_sound (place : Nat → Option (Nat × Nat)) : ∀ (ps : List (Nat × AV)) (cps : List (Nat × Value)) (cells out : List AV) (ccells : List Value),
    fillA place cells ps = some out → VRL e cells ccells → ps.map (·.1) = cps.map (·.1) → VRL e (ps.map (·.2)) (cps.map (·.2)) → (∀ p ∈ ps, noTop p.2 = true) →
    ∃ cout, Instr.fill place ccells.toArray cps = some cout.toArray ∧ VRL e out cout := by
  intro ps
  induction ps with
  | nil =>
    intro cps cells out ccells hh hc hm _ _
    simp only [fillA, Option.some.injEq] at hh
    subst hh
    cases cps with
    | nil => exact ⟨ccells, rfl, hc⟩
    | cons _ _ => simp at hm
  | cons p ps ih =>
    intro cps cells out ccells hh hc hm hv hnt
    obtain ⟨i, v⟩ := p
    cases cps with
    | nil => simp at hm
    | cons q cps =>
      obtain ⟨j, cv⟩ := q
      simp only [List.map_cons, List.cons.injEq] at hm
      obtain ⟨rfl, hm⟩ := hm
      simp only [List.map_cons] at hv
      cases hv with
      | cons _ _ _ _ hv0 hvt =>
      simp only [fillA] at hh
      split at hh
      · cases hh
      · rename_i off size hpl
        split at hh
        · rename_i hcond
          simp only [Bool.and_eq_true] at hcond
          have hnt0 := hnt (i, v) (by simp)
          have hvl : v.cells.length = cv.cells.size := cells_len hv0 hnt0
          have hs : v.cells.length = size := Nat.eq_of_beq_eq_true hcond.1
          have hle : off + size ≤ cells.length := by simpa using Nat.le_of_ble_eq_true hcond.2
          have hcl := hc.length
          have hcv := hv0.cells hnt0
          have hfold : (cv.cells.zipIdx.foldl (fun cs (p : Value × Nat) => cs.setIfInBounds (off + p.2) p.1) ccells.toArray) =
              (ccells.take off ++ (cv.cells.toList ++ ccells.drop (off + size))).toArray := by
            rw [← Array.foldl_toList, Array.toList_zipIdx]
            have := splice_foldl off cv.cells.toList 0 ccells (by simp; omega)
            simpa [← hvl, hs] using this
          obtain ⟨cout, h1, h2⟩ := ih cps _ out (ccells.take off ++ (cv.cells.toList ++ ccells.drop (off + size))) hh
            ((hc.take off).append (hcv.append (hc.drop _))) hm hvt (fun p hp => hnt p (by simp [hp]))
          refine ⟨cout, ?_, h2⟩
          simp only [Instr.fill, hpl]
          rw [if_neg (by simp only [Bool.or_eq_true, decide_eq_true_eq, not_or]; constructor <;> simp <;> omega)]
          have : (cv.cells.zipIdx.foldl (fun cs x => match x with | (c, j) => cs.setIfInBounds (off + j) c) ccells.toArray) =
              (ccells.take off ++ (cv.cells.toList ++ ccells.drop (off + size))).toArray := hfold
          rw [this]
          exact h1
        · cases hh

theorem abs_noTop {v : Value} : abs v ≠ some .top := by
  unfold abs absF
  intro hh
  split at hh <;> (try split at hh) <;> cases hh

theorem zero_info {t : Nat} {z : AV} (hh : zeroA P t = some z) (e : Env) : ∃ i cz, P.info? t = some i ∧ i.zero = some cz ∧ VR e z cz := by
  unfold zeroA at hh
  split at hh
  · rename_i i hi
    split at hh
    · rename_i v hv; exact ⟨i, v, hi, hv, abs_sound e _ _ _ hh⟩
    · cases hh
  · cases hh

theorem sz_info {t s : Nat} (hh : sz P t = some s) : ∃ i, P.info? t = some i ∧ i.size = s := by
  unfold sz at hh
  split at hh
  · rename_i i hi; exact ⟨i, hi, by simpa using hh⟩
  · cases hh

theorem places_some : ∀ (fs : List Field), allSized P fs = true → ∃ places : List (Nat × Nat), fs.mapM (fun (f : Field) => (P.info? f.type).map fun i => (f.offset, i.size)) = some places ∧
    ∀ i : Nat, places[i]? = (match fs[i]? with | some f => (match sz P f.type with | some s => some (f.offset, s) | none => none) | none => none) := by
  intro fs
  induction fs with
  | nil => intro _; exact ⟨[], rfl, fun i => by simp⟩
  | cons f fs ih =>
    intro hall
    simp only [allSized, List.all_cons, Bool.and_eq_true] at hall
    obtain ⟨pl, h1, h2⟩ := ih hall.2
    obtain ⟨s, hs⟩ := Option.isSome_iff_exists.1 hall.1
    obtain ⟨i, hi, his⟩ := sz_info hs
    refine ⟨(f.offset, s) :: pl, by simp [List.mapM_cons, hi, h1, his], fun k => ?_⟩
    cases k with
    | zero => simp [hs]
    | succ k => simpa using h2 k

/-- 'evP' and what the model reads. -/
theorem evP_rel {e : Env} {tm : Tr AV} {ρ : Operand → Value} : ∀ (ps : List (Nat × Operand)), (∀ p ∈ ps, VR e (ev tm p.2) (ρ p.2)) →
    (evP tm ps).map (·.1) = (ps.map fun p => (p.1, ρ p.2)).map (·.1) ∧ VRL e ((evP tm ps).map (·.2)) ((ps.map fun p => (p.1, ρ p.2)).map (·.2)) := by
  intro ps
  induction ps with
  | nil => intro _; exact ⟨rfl, .nil⟩
  | cons p ps ih =>
    intro hh
    obtain ⟨i, o⟩ := p
    obtain ⟨h1, h2⟩ := ih (fun p hp => hh p (by simp [hp]))
    refine ⟨by simp only [evP, List.map_cons]; rw [h1], ?_⟩
    simp only [evP, List.map_cons]
    exact .cons _ _ _ _ (hh (i, o) (by simp)) h2

theorem goodP_build {t : TypeId} {ps : List (Nat × AV)} {v : AV} {cps : Array (Nat × Value)} (hh : buildA P t ps = some v) (hm : ps.map (·.1) = cps.toList.map (·.1))
    (hv : VRL e (ps.map (·.2)) (cps.toList.map (·.2))) : GoodP P (Instr.build t cps) e w v := by
  unfold buildA at hh
  split at hh
  · cases hh
  · rename_i hnt
    have hnt' : ∀ p ∈ ps, noTop p.2 = true := by simpa using hnt
    split at hh
    · rename_i fs z hu hz
      split at hh
      · rename_i hall
        split at hh
        · rename_i cs hf
          simp only [Option.some.injEq] at hh; subst hh
          obtain ⟨i, cz, hi, hcz, hr⟩ := zero_info hz e
          obtain ⟨pl, hp1, hp2⟩ := places_some (P := P) fs.toList hall
          have hznt : VRL e z.cells cz.cells.toList := by
            refine hr.cells ?_
            cases z <;> first | rfl | (exfalso; revert hz; unfold zeroA; rw [hi]; simp only [hcz]; intro hz; exact absurd hz (by simpa using abs_noTop))
          have hplace : (fieldPlace? P fs) = (fun x => pl.toArray[x]?) := by
            funext k
            have := hp2 k
            simp only [fieldPlace?, nthL]
            simp only [List.getElem?_toArray, this, Array.getElem?_toList]
            cases fs[k]? <;> rfl
          rw [hplace] at hf
          obtain ⟨cout, h1, h2⟩ := fill_sound _ ps cps.toList _ _ cz.cells.toList hf hznt hm hv hnt'
          refine ⟨_, run_build w t cps cout.toArray ?_, .agg _ _ h2⟩
          unfold Program.built
          simp only [hi, hu, hcz, hp1]
          simpa using h1
        · cases hh
      · cases hh
    · rename_i n el z hu hz
      split at hh
      · rename_i s hs
        split at hh
        · rename_i cs hf
          simp only [Option.some.injEq] at hh; subst hh
          obtain ⟨i, cz, hi, hcz, hr⟩ := zero_info hz e
          obtain ⟨ie, hie, his⟩ := sz_info hs
          have hznt : VRL e z.cells cz.cells.toList := by
            refine hr.cells ?_
            cases z <;> first | rfl | (exfalso; revert hz; unfold zeroA; rw [hi]; simp only [hcz]; intro hz; exact absurd hz (by simpa using abs_noTop))
          obtain ⟨cout, h1, h2⟩ := fill_sound _ ps cps.toList _ _ cz.cells.toList hf hznt hm hv hnt'
          refine ⟨_, run_build w t cps cout.toArray ?_, .agg _ _ h2⟩
          unfold Program.built
          simp only [hi, hu, hcz, hie, his]
          simpa using h1
        · cases hh
      · cases hh
    · cases hh
end Go.AX

/-! AX: slices that are made and grow. -/
namespace Go.AX

variable {G : Nat → Obj → Prop} {P : Program} {e : Env} {D : Nat → Prop} {h h' : AH} {w : World}

def repC (z : List Value) : Nat → List Value
  | 0 => []
  | n + 1 => z ++ repC z n

theorem repA_rel {zs : List AV} {czs : List Value} (hz : VRL e zs czs) : ∀ n, VRL e (repA zs n) (repC czs n)
  | 0 => .nil
  | n + 1 => hz.append (repA_rel hz n)
theorem repC_length (z : List Value) : ∀ n, (repC z n).length = n * z.length
  | 0 => by simp [repC]
  | n + 1 => by simp [repC, repC_length z n, Nat.add_mul, Nat.add_comm]

theorem repC_range (z : List Value) (_hz : 0 < z.length) : ∀ n, (Array.range (n * z.length)).map (fun i => z.toArray[i % z.toArray.size]!) = (repC z n).toArray := by
  intro n
  apply Array.ext'
  simp only [Array.toList_map, Array.toList_range]
  induction n with
  | zero => simp [repC]
  | succ n ih =>
    rw [show (n + 1) * z.length = z.length + n * z.length from by rw [Nat.add_mul]; omega, List.range_add, List.map_append]
    simp only [repC]
    congr 1
    · apply List.ext_getElem
      · simp
      · intro i h1 h2
        simp at h1
        simp [Nat.mod_eq_of_lt h1, h1]
    · rw [List.map_map, ← ih]
      apply List.map_congr_left
      intro i _
      simp

theorem good_first {s n : Nat} {x : AV} {cx : Value} {cs : List AV} {h1 h2 : AH} (hh : firstA s n x h = some (cs, h1)) (hx : VR e x cx) (hp : Pre G e D h h2 w) (hn : h.next ≤ h2.next)
    (hr : ∀ id, h1.R.testBit id = true → h2.R.testBit id = true) :
    ∃ ccs, (Builtin.firstCells s n cx).run P w = .ok ccs.toArray w ∧ VRL e cs ccs ∧ Post e D h h1 w w e ∧ h1.mem = h.mem ∧ h1.next = h.next := by
  have key : ∀ (id off : Nat) (vs : List AV) (o : Bool) (b t : Nat), h.mem.get id = some (.cells vs o) → Nat.ble (Nat.add off (Nat.mul n s)) vs.length = true → e id = some (b, t) → h2.R.testBit id = true →
      ∃ ccs : List Value, (loadCells ⟨b, off, none⟩ (n * s)).run P w = .ok ccs.toArray w ∧ VRL e ((vs.drop off).take (Nat.mul n s)) ccs := by
    intro id off vs o b t hm hle hb hbit
    obtain ⟨hd, b', t', co, he, hw, hrel⟩ := hp.known hm hbit
    rw [hb] at he
    simp only [Option.some.injEq, Prod.mk.injEq] at he
    obtain ⟨rfl, rfl⟩ := he
    cases hrel with
    | cells _ _ cvs tail elem fr hl ho ht hf =>
      have hle' : off + n * s ≤ vs.length := by simpa using Nat.le_of_ble_eq_true hle
      have hlen := hl.length
      refine ⟨(cvs.drop off).take (n * s), ?_, (hl.drop off).take _⟩
      rw [run_loadCells hw (by simp; omega)]
      congr 2
      simp only [List.drop_append, List.take_append]
      have h1 : n * s - (cvs.drop off).length = 0 := by simp; omega
      rw [h1]; simp
  unfold firstA at hh
  split at hh
  · rename_i id off len cap
    repeat (split at hh <;> try (cases hh; done))
    rename_i _ vs o hm _ hle
    simp only [Option.some.injEq, Prod.mk.injEq] at hh
    obtain ⟨rfl, rfl⟩ := hh
    cases hx with | slc _ _ _ _ b t hb =>
    obtain ⟨ccs, g1, g2⟩ := key id off vs o b t hm hle hb (hr id (bit_rd h id))
    exact ⟨ccs, by simpa [Builtin.firstCells] using g1, g2, Post.rd id (hp.first (by simpa using hn) hr), by simp, by simp⟩
  · rename_i id off len es
    repeat (split at hh <;> try (cases hh; done))
    rename_i _ vs o hm _ hle
    simp only [Option.some.injEq, Prod.mk.injEq] at hh
    obtain ⟨rfl, rfl⟩ := hh
    cases hx with | slcU _ _ _ _ b t c hb hc ht =>
    obtain ⟨ccs, g1, g2⟩ := key id off vs o b t hm hle hb (hr id (bit_rd h id))
    exact ⟨ccs, by simpa [Builtin.firstCells] using g1, g2, Post.rd id (hp.first (by simpa using hn) hr), by simp, by simp⟩
  · simp only [Option.some.injEq, Prod.mk.injEq] at hh
    obtain ⟨rfl, rfl⟩ := hh
    cases hx
    exact ⟨[], by simp [Builtin.firstCells], .nil, Post.refl hp, rfl, rfl⟩
  · split at hh
    · rename_i hz
      simp only [Option.some.injEq, Prod.mk.injEq] at hh
      obtain ⟨rfl, rfl⟩ := hh
      have hn0 : n = 0 := Nat.eq_of_beq_eq_true hz
      subst hn0
      cases hx with | slcE a c =>
      refine ⟨[], ?_, .nil, Post.refl hp, rfl, rfl⟩
      cases a <;> simp [Builtin.firstCells, loadCells, loadCellsFrom]
    · cases hh
  · rename_i b
    simp only [Option.some.injEq, Prod.mk.injEq] at hh
    obtain ⟨rfl, rfl⟩ := hh
    cases hx
    refine ⟨(b.take n).map fun c => .int .u8 c.toNat, ?_, ?_, Post.refl hp, rfl, rfl⟩
    · simp only [Builtin.firstCells, Sem.run_pure]
      congr 1
      apply Array.ext'
      have : ((⟨b.toArray⟩ : ByteArray).extract 0 n).data.toList = b.take n := by rw [Go.Lib.extract_data]; simp
      rw [Array.toList_map, this]
    · generalize b.take n = l
      induction l with
      | nil => exact .nil
      | cons c l ih => exact .cons _ _ _ _ (.int _ _) ih
  · cases hh

theorem good_buildSlice {t len : Nat} {ps : List (Nat × AV)} {v : AV} {cps : Array (Nat × Value)} (hh : buildSliceA P t len ps h = some (v, h')) (hm : ps.map (·.1) = cps.toList.map (·.1))
    (hv : VRL e (ps.map (·.2)) (cps.toList.map (·.2))) (hp : Pre G e D h h' w) : Good P (Instr.buildSlice t len cps) e D h h' w v := by
  unfold buildSliceA at hh
  split at hh
  · cases hh
  · rename_i hnt
    have hnt' : ∀ p ∈ ps, noTop p.2 = true := by simpa using hnt
    split at hh
    · rename_i el hu
      split at hh
      · rename_i hl0
        split at hh
        · rename_i s hs
          simp only [Option.some.injEq, Prod.mk.injEq] at hh
          obtain ⟨rfl, rfl⟩ := hh
          have hlen : len = 0 := Nat.eq_of_beq_eq_true hl0
          subst hlen
          have hcps : cps.toList = [] := by
            cases hc : cps.toList with
            | nil => rfl
            | cons _ _ => rw [hc] at hm; simp at hm
          have ho : ORel e 0 (.cells [] false) (.cells #[] el) := by
            have := ORel.cells (e := e) (t := 0) [] false [] [] el (0, 0) .nil (fun _ => rfl) rfl (fun i hi => by omega)
            simpa using this
          obtain ⟨e', he', hpost⟩ := Post.alloc _ (.cells #[] el) 0 hp (by simp) ho
          refine ⟨.slice (some ⟨w.heap.size, 0, none⟩) 0 0, _, e', ?_, .slc _ _ _ _ _ _ he', hpost⟩
          simp only [Instr.buildSlice, Sem.run_bind, run_und hu, Result.andThen_ok, run_sizeOf hs, hcps]
          have h00 : ∀ z : Array Value, (Array.range 0).map (fun i => z[i % z.size]!) = #[] := fun z => by apply Array.ext'; simp
          simp [Instr.fill, newRow]
          exact congrArg (fun c => w.alloc (Obj.cells c el)) (by apply Array.ext'; simp)
        · cases hh
      · cases hh
      · split at hh
        · rename_i s z hs hz
          split at hh
          · rename_i hc
            split at hh
            · rename_i cs hf
              simp only [Option.some.injEq, Prod.mk.injEq] at hh
              obtain ⟨rfl, rfl⟩ := hh
              simp only [Bool.and_eq_true] at hc
              obtain ⟨⟨hc1, hc2⟩, hc3⟩ := hc
              have c1 : len * s ≤ 16777216 := by simpa using Nat.le_of_ble_eq_true hc1
              have c2 : 0 < len * s := by
                have : Nat.blt 0 (len * s) = true := hc2
                simp [Nat.blt] at this; omega
              have c3 : z.cells.length = s := Nat.eq_of_beq_eq_true hc3
              obtain ⟨cz, hz1, hz2⟩ := run_zero hz e w
              have hzt : noTop z = true := by
                obtain ⟨i, cz', hi, hcz, _⟩ := zero_info hz e
                cases z <;> first | rfl | (exfalso; revert hz; unfold zeroA; rw [hi]; simp only [hcz]; intro hz; exact absurd hz (by simpa using abs_noTop))
              have hzc := hz2.cells hzt
              have hlz : cz.cells.toList.length = s := by rw [← hzc.length, c3]
              have hspos : 0 < s := Nat.pos_of_mul_pos_left c2
              obtain ⟨cout, h1, h2⟩ := fill_sound _ _ cps.toList _ _ (repC cz.cells.toList len) hf (repA_rel hzc len) hm hv hnt'
              have hoc : ORel e cout.length (.cells cs false) (.cells cout.toArray el) := by
                have := ORel.cells (e := e) (t := cout.length) cs false cout [] el (0, 0) h2 (fun _ => rfl) (by simp) (fun i _ => by simp)
                simpa using this
              obtain ⟨e', he', hpost⟩ := Post.alloc _ (.cells cout.toArray el) _ hp (by simp) hoc
              refine ⟨.slice (some ⟨w.heap.size, 0, none⟩) len len, _, e', ?_, .slc _ _ _ _ _ _ he', hpost⟩
              have hrep := repC_range cz.cells.toList (by omega) len
              rw [hlz] at hrep
              simp only [Instr.buildSlice, Sem.run_bind, run_und hu, Result.andThen_ok, run_sizeOf hs]
              rw [if_neg (by omega)]
              rw [if_neg (by omega)]
              simp only [Sem.run_bind, hz1, Result.andThen_ok, Sem.run_pure]
              have hrep' : (Array.range (len * s)).map (fun i => cz.cells[i % cz.cells.size]!) = (repC cz.cells.toList len).toArray := by simpa using hrep
              have h1' : Instr.fill (fun i => some (i * s, s)) (repC cz.cells.toList len).toArray cps.toList = some cout.toArray := h1
              rw [hrep', h1']
              simp [newRow]
            · cases hh
          · cases hh
        · cases hh
    · cases hh

theorem good_makeSlice {t : Nat} {l c v : AV} {cl cc : Value} (hh : makeSliceA P t l c h = some (v, h')) (hl : VR e l cl) (hc : VR e c cc) (hp : Pre G e D h h' w) :
    Good P (Instr.makeSlice t cl cc) e D h h' w v := by
  unfold makeSliceA at hh
  split at hh
  · rename_i el k l k' c hu
    split at hh
    · rename_i s b z hs hb hz
      split at hh
      · rename_i hcond
        simp only [Option.some.injEq, Prod.mk.injEq] at hh
        obtain ⟨rfl, rfl⟩ := hh
        simp only [Bool.and_eq_true] at hcond
        obtain ⟨⟨⟨⟨⟨q1, q2⟩, q3⟩, q4⟩, q5⟩, q6⟩ := hcond
        have q1 : l ≤ c := Nat.le_of_ble_eq_true q1
        have q3 : c * b ≤ 1000000 := Nat.le_of_ble_eq_true q3
        have q4 : c ≤ 1000000 := Nat.le_of_ble_eq_true q4
        have q5 : z.cells.length = s := Nat.eq_of_beq_eq_true q5
        cases hl; cases hc
        obtain ⟨ib, hib, hbb⟩ := run_bytes hb
        obtain ⟨cz, hz1, hz2⟩ := run_zero hz e w
        have hzt := isCell_noTop q6
        have hzc := hz2.cells hzt
        have hlz : cz.cells.toList.length = s := by rw [← hzc.length, q5]
        have wl : IntKind.i64.wrap (l : Int) = l := wrap_i64 (by omega) (by omega)
        have wc : IntKind.i64.wrap (c : Int) = c := wrap_i64 (by omega) (by omega)
        have hoc : ORel e (repC cz.cells.toList c).length (.cells (repA z.cells c) false) (.cells (repC cz.cells.toList c).toArray el) := by
          have := ORel.cells (e := e) (t := (repC cz.cells.toList c).length) _ false _ [] el (0, 0) (repA_rel hzc c) (fun _ => rfl) (by simp) (fun i _ => by simp)
          simpa using this
        obtain ⟨e', he', hpost⟩ := Post.alloc _ (.cells (repC cz.cells.toList c).toArray el) _ hp (by simp) hoc
        refine ⟨.slice (some ⟨w.heap.size, 0, none⟩) l c, _, e', ?_, .slc _ _ _ _ _ _ he', hpost⟩
        simp only [Instr.makeSlice, Sem.run_bind, run_und hu, Result.andThen_ok, asInt, asIntOf, Sem.run_pure, run_typeInfo' hib, Int.ofNat_eq_natCast, wl, wc, hbb]
        have hb0 : (b : Int) * (c : Int) ≤ 1000000 := by rw [← Int.natCast_mul, Nat.mul_comm]; omega
        have hpw : (2 : Int) ^ 48 = 281474976710656 := by decide
        rw [if_neg (by simp only [hpw, Bool.or_eq_true, decide_eq_true_eq, not_or]; refine ⟨⟨⟨?_, ?_⟩, ?_⟩, ?_⟩ <;> omega)]
        simp only [run_askRoom, Result.andThen_ok, Sem.run_bind, run_sizeOf hs, Int.toNat_natCast, newRow]
        by_cases h0 : c * s = 0
        · have hr0 : repC cz.cells.toList c = [] := by
            apply List.eq_nil_of_length_eq_zero
            rw [repC_length, hlz]; exact h0
          rw [if_pos h0, hr0]
          simp only [Sem.run_bind, Sem.run_pure, Result.andThen_ok, h0, run_newObj]
          have : (Array.map (fun x => (#[] : Array Value)[x % (#[] : Array Value).size]!) (Array.range 0)) = #[] := by apply Array.ext'; simp
          rw [this]
          rfl
        · rw [if_neg h0]
          simp only [Sem.run_bind, hz1, Result.andThen_ok, Sem.run_pure]
          have hspos : 0 < s := Nat.pos_of_ne_zero (fun hh => h0 (by rw [hh, Nat.mul_zero]))
          have hrep := repC_range cz.cells.toList (by omega) c
          rw [hlz] at hrep
          have hrep' : (Array.range (c * s)).map (fun i => cz.cells[i % cz.cells.size]!) = (repC cz.cells.toList c).toArray := by simpa using hrep
          rw [hrep']
          rfl
      · cases hh
    · cases hh
  · cases hh
end Go.AX

/-! AX: append, copy. -/
namespace Go.AX

variable {P : Program} {e : Env} {D : Nat → Prop} {h h' : AH} {w : World}

theorem run_lenOf {x : AV} {cx : Value} {n : Nat} (hh : lenOfA x = some n) (hx : VR e x cx) (w : World) : (Builtin.lenOf cx).run P w = .ok n w := by
  unfold lenOfA at hh
  split at hh <;> first
    | (cases hh; done)
    | (simp only [Option.some.injEq] at hh; subst hh; cases hx; simp [Builtin.lenOf, ByteArray.size]; done)
    | (simp only [Option.some.injEq] at hh; subst hh; cases hx; simp [Builtin.lenOf]; rfl)

theorem growBy_le (newLen : Nat) : ∀ (r c : Nat), c ≤ newLen → Builtin.growBy newLen r c ≤ 2 * newLen + 768 := by
  intro r
  induction r with
  | zero => intro c hc; simp only [Builtin.growBy]; omega
  | succ r ih =>
    intro c hc
    simp only [Builtin.growBy]
    split
    · omega
    · by_cases h2 : c + (c + 768) / 4 ≤ newLen
      · exact ih _ h2
      · cases r with
        | zero => simp only [Builtin.growBy]; omega
        | succ r => simp only [Builtin.growBy]; rw [if_pos (by omega)]; omega

theorem nextcap_le {need cap : Nat} (hlt : cap < need) : Builtin.nextslicecap need cap ≤ 2 * need + 768 := by
  unfold Builtin.nextslicecap
  split
  · omega
  · split
    · omega
    · exact growBy_le need 4 cap (by omega)

/-- The new capacity that the tape gives. -/
theorem run_cap (need old : Nat) (el : TypeId) (w : World) : ∃ cap, need ≤ cap ∧ (choose (.appendCap need old el)).run P w = .ok cap { w with drawn := w.drawn + 1 } :=
  ⟨(Question.appendCap need old el).cut (w.tape w.drawn (.appendCap need old el)), by simp [Question.cut], by simp [choose, Sem.run, Question.forced]⟩

structure AppT (P : Program) (ts : Array TypeId) (el : TypeId) (s b : Nat) : Prop where
  t0 : ∃ t, ts[0]? = some t ∧ P.underlying t = some (.slice el)
  t1 : ∃ t u, ts[1]? = some t ∧ P.underlying t = some u ∧ ∀ k, u ≠ .int k
  s : sz P el = some s
  b : byt P el = some b

/-- append where there is room. -/
theorem run_append_room {ts : Array TypeId} {el s b ty : Nat} (T : AppT P ts el s b) {a : Addr} {sLen sCap n : Nat} {cx : Value} {rest : List Value} {x : AV} (hx : VR e x cx) (hn : lenOfA x = some n) {w w' : World}
    {new : Array Value} (hle : sLen + n ≤ sCap) (hnew : (Builtin.firstCells s n cx).run P w = .ok new w) (hst : (storeCells (a.add (sLen * s)) new.toList).run P w = .ok () w') :
    (Builtin.append_ ts ty (.slice (some a) sLen sCap :: cx :: rest).toArray).run P w = .ok (.slice (some a) (sLen + n) sCap) w' := by
  obtain ⟨t0, ht0, hu0⟩ := T.t0
  obtain ⟨t1, u1, ht1, hu1, hne⟩ := T.t1
  have hl := run_lenOf (P := P) hn hx w
  unfold Builtin.append_
  simp only [ht0, ht1]
  simp only [List.getElem?_toArray, List.getElem?_cons_zero, List.getElem?_cons_succ, Sem.run_bind, run_und hu0, Result.andThen_ok, run_sizeOf T.s, run_und hu1]
  cases u1 <;> first
    | exact absurd rfl (hne _)
    | (simp only [Sem.run_pure, Result.andThen_ok, Bool.false_eq_true, if_false, Sem.run_bind, hl, hle, if_true, Bool.not_false, hnew, hst])

/-- append to nil of nothing. -/
theorem run_append_nil {ts : Array TypeId} {el s b ty : Nat} (T : AppT P ts el s b) {cx : Value} {rest : List Value} {x : AV} (hx : VR e x cx) (hn : lenOfA x = some 0) {w : World} :
    (Builtin.append_ ts ty (.slice none 0 0 :: cx :: rest).toArray).run P w = .ok (.slice none 0 0) w := by
  obtain ⟨t0, ht0, hu0⟩ := T.t0
  obtain ⟨t1, u1, ht1, hu1, hne⟩ := T.t1
  have hl := run_lenOf (P := P) hn hx w
  have hnew : ∃ new, (Builtin.firstCells s 0 cx).run P w = .ok new w := by
    unfold lenOfA at hn
    split at hn <;> first
      | (cases hn; done)
      | (cases hx; exact ⟨_, by simp [Builtin.firstCells, loadCells, loadCellsFrom]; rfl⟩)
      | (cases hx; rename_i a _; cases a <;> exact ⟨_, by simp [Builtin.firstCells, loadCells, loadCellsFrom]; rfl⟩)
  obtain ⟨new, hnew⟩ := hnew
  unfold Builtin.append_
  simp only [ht0, ht1]
  simp only [List.getElem?_toArray, List.getElem?_cons_zero, List.getElem?_cons_succ, Sem.run_bind, run_und hu0, Result.andThen_ok, run_sizeOf T.s, run_und hu1]
  cases u1 <;> first
    | exact absurd rfl (hne _)
    | (simp only [Sem.run_pure, Result.andThen_ok, Bool.false_eq_true, if_false, Sem.run_bind, hl, Nat.add_zero, Nat.le_refl, if_true, Bool.not_false, hnew])

/-- append where there is no room. -/
theorem run_append_grow {ts : Array TypeId} {el s b ty : Nat} (T : AppT P ts el s b) {base : Option Addr} {sLen sCap n : Nat} {cx : Value} {rest : List Value} {x : AV} (hx : VR e x cx) (hn : lenOfA x = some n) {w : World}
    {old new : Array Value} {z : Value} {cap : Nat} (hgt : ¬ sLen + n ≤ sCap) (hb0 : 0 < b) (hlim : (sLen + n) * b ≤ 1000000)
    (hcap : (choose (.appendCap (sLen + n) sCap el)).run P w = .ok cap { w with drawn := w.drawn + 1 })
    (hold : (Builtin.firstCells s sLen (.slice base sLen sCap)).run P { w with drawn := w.drawn + 1 } = .ok old { w with drawn := w.drawn + 1 })
    (hnew : (Builtin.firstCells s n cx).run P { w with drawn := w.drawn + 1 } = .ok new { w with drawn := w.drawn + 1 })
    (hz : (zeroValue el).run P { w with drawn := w.drawn + 1 } = .ok z { w with drawn := w.drawn + 1 }) :
    (Builtin.append_ ts ty (.slice base sLen sCap :: cx :: rest).toArray).run P w =
      .ok (.slice (some ⟨w.heap.size, 0, none⟩) (sLen + n) cap) (({ w with drawn := w.drawn + 1 } : World).alloc (.cells (old ++ new ++ Builtin.zeroCells z.cells (cap - (sLen + n))) el)) := by
  obtain ⟨t0, ht0, hu0⟩ := T.t0
  obtain ⟨t1, u1, ht1, hu1, hne⟩ := T.t1
  obtain ⟨ib, hib, hbb⟩ := run_bytes T.b
  have hl := run_lenOf (P := P) hn hx w
  have hmax : IntKind.i64.max = 9223372036854775807 := by decide
  have hneed : sLen + n ≤ 1000000 := Nat.le_trans (Nat.le_mul_of_pos_right _ hb0) hlim
  have hb1 : b ≤ 1000000 := by
    have h1 : 1 ≤ sLen + n := by omega
    exact Nat.le_trans (Nat.le_mul_of_pos_left b h1) hlim
  have hnc : ¬ Builtin.nextslicecap (sLen + n) sCap * ib.bytes > 2 ^ 48 := by
    have h1 := nextcap_le (need := sLen + n) (cap := sCap) (by omega)
    have h2 : Builtin.nextslicecap (sLen + n) sCap * b ≤ (2 * (sLen + n) + 768) * b := Nat.mul_le_mul_right b h1
    have h3 : (2 * (sLen + n) + 768) * b = 2 * ((sLen + n) * b) + 768 * b := by rw [Nat.add_mul, Nat.mul_assoc]
    have h4 : (2 : Nat) ^ 48 = 281474976710656 := by decide
    rw [hbb, h4]
    omega
  have hmx : ¬ (((sLen + n : Nat) : Int) > IntKind.i64.max ∧ (False ∨ ib.bytes = 0)) := by
    rw [hmax]; intro hh; omega
  unfold Builtin.append_
  simp only [ht0, ht1]
  simp only [List.getElem?_toArray, List.getElem?_cons_zero, List.getElem?_cons_succ, Sem.run_bind, run_und hu0, Result.andThen_ok, run_sizeOf T.s, run_und hu1]
  cases u1 <;> first
    | exact absurd rfl (hne _)
    | (simp only [Sem.run_pure, Result.andThen_ok, Bool.false_eq_true, if_false, Sem.run_bind, hl, hgt, Bool.not_false, run_typeInfo' hib]
       rw [if_neg hmx]
       simp only [Sem.run_bind, run_typeInfo' hib, Result.andThen_ok]
       rw [if_neg hnc]
       simp only [Sem.run_bind, hcap, run_typeInfo' hib, Result.andThen_ok, run_askRoom, hold, if_true, hnew, hz, newRow, run_newObj, Sem.run_pure]
       rfl)
end Go.AX

/-! AX: append, whole. -/
namespace Go.AX

variable {G : Nat → Obj → Prop} {P : Program} {e : Env} {D : Nat → Prop} {h h' : AH} {w : World}

theorem zero_noTop {t : Nat} {z : AV} (hz : zeroA P t = some z) : noTop z = true := by
  obtain ⟨i, cz', hi, hcz, _⟩ := zero_info hz (fun _ => none)
  cases z <;> first | rfl | (exfalso; revert hz; unfold zeroA; rw [hi]; simp only [hcz]; intro hz; exact absurd hz (by simpa using abs_noTop))

theorem zeroCells_size (z : Array Value) (n : Nat) : (Builtin.zeroCells z n).size = n * z.size := by simp [Builtin.zeroCells]

theorem rd_bits {h1 : AH} {id : Nat} (o : Option AObj) : ∀ j, h1.R.testBit j = true → (h1.wr id o).R.testBit j = true := fun j hj => by
  simp only [AH.wr_R, testBit_or_shift, hj, Bool.true_or]

theorem first_next {s n : Nat} {x : AV} {cs : List AV} {h1 : AH} (hh : firstA s n x h = some (cs, h1)) : h1.next = h.next ∧ h1.mem = h.mem ∧ (∀ j, h.R.testBit j = true → h1.R.testBit j = true) := by
  unfold firstA at hh
  repeat' (first | (cases hh; done) | split at hh)
  all_goals
    simp only [Option.some.injEq, Prod.mk.injEq] at hh
    obtain ⟨_, rfl⟩ := hh
    first
      | exact ⟨rfl, rfl, fun _ hj => hj⟩
      | exact ⟨by simp, by simp, fun j hj => by simp only [AH.rd_R, testBit_or_shift, hj, Bool.true_or]⟩

theorem firstA_length {s n : Nat} {x : AV} {cs : List AV} {h1 : AH} (hh : firstA s n x h = some (cs, h1)) (hn : lenOfA x = some n) (hs : strOk s x = true) : cs.length = n * s := by
  unfold firstA at hh
  repeat' (first | (cases hh; done) | split at hh)
  · rename_i _ _ hle
    simp only [Option.some.injEq, Prod.mk.injEq] at hh
    obtain ⟨rfl, _⟩ := hh
    have := Nat.le_of_ble_eq_true hle
    simp only [Nat.add_eq, Nat.mul_eq] at this
    simp; omega
  · rename_i _ _ hle
    simp only [Option.some.injEq, Prod.mk.injEq] at hh
    obtain ⟨rfl, _⟩ := hh
    have := Nat.le_of_ble_eq_true hle
    simp only [Nat.add_eq, Nat.mul_eq] at this
    simp; omega
  · simp only [Option.some.injEq, Prod.mk.injEq] at hh
    obtain ⟨rfl, _⟩ := hh
    simp [lenOfA] at hn; subst hn; simp
  · rename_i hz
    simp only [Option.some.injEq, Prod.mk.injEq] at hh
    obtain ⟨rfl, _⟩ := hh
    simp [lenOfA] at hn; subst hn; simp
  · simp only [Option.some.injEq, Prod.mk.injEq] at hh
    obtain ⟨rfl, _⟩ := hh
    simp [lenOfA] at hn; subst hn
    have : s = 1 := Nat.eq_of_beq_eq_true hs
    subst this; simp

theorem good_grow {ts : Array TypeId} {el s b ty : Nat} (T : AppT P ts el s b) {base : Option Addr} {sLen sCap n : Nat} {sl x v : AV} {cx : Value} {rest : List Value}
    (hh : growA P el s sLen n sl x h = some (v, h')) (hsl : VR e sl (.slice base sLen sCap)) (hx : VR e x cx) (hn : lenOfA x = some n) (hso : strOk s x = true) (hsn : lenOfA sl = some sLen) (hgt : ¬ sLen + n ≤ sCap) (hb0 : 0 < b)
    (hlim : (sLen + n) * b ≤ 1000000) (hp : Pre G e D h h' w) : Good P (Builtin.append_ ts ty (.slice base sLen sCap :: cx :: rest).toArray) e D h h' w v := by
  unfold growA at hh
  repeat (split at hh <;> try (cases hh; done))
  rename_i _ old h1 hold _ _ new h2 z hnew hz _ hc
  simp only [Option.some.injEq, Prod.mk.injEq] at hh
  obtain ⟨rfl, rfl⟩ := hh
  simp only [Bool.and_eq_true] at hc
  obtain ⟨hc1, hc2⟩ := hc
  have hzl : z.cells.length = s := Nat.eq_of_beq_eq_true hc1
  obtain ⟨n1, m1, r1⟩ := first_next hold
  obtain ⟨n2, m2, r2⟩ := first_next hnew
  have p0 := hp.drawn (w.drawn + 1)
  obtain ⟨cold, ho1, ho2, post1, _, _⟩ := good_first hold hsl p0 (by simp [n2, n1]) (fun j hj => by simpa using r2 j hj)
  have p1 := p0.next post1
  obtain ⟨cnew, hn1, hn2, post2, _, _⟩ := good_first hnew hx p1 (by simp [n2]) (fun j hj => by simpa using hj)
  have p2 := p1.next post2
  obtain ⟨cap, hcap1, hcap2⟩ := run_cap (P := P) (sLen + n) sCap el w
  obtain ⟨cz, hz1, hz2⟩ := run_zero hz e { w with drawn := w.drawn + 1 }
  have hzs : cz.cells.size = s := by rw [← cells_len hz2 (zero_noTop hz), hzl]
  have hrun := run_append_grow (ty := ty) (rest := rest) T (base := base) hx hn hgt hb0 hlim hcap2 ho1 hn1 hz1
  have hol : old.length = sLen * s := by
    refine firstA_length hold hsn ?_
    cases hsl <;> rfl
  have hnl : new.length = n * s := firstA_length hnew hn hso
  have hoc := ho2.length
  have hnc := hn2.length
  have hobj : ORel e (cap * s) (.cells (old ++ new) true) (.cells (cold.toArray ++ cnew.toArray ++ Builtin.zeroCells cz.cells (cap - (sLen + n))) el) := by
    have := ORel.cells (e := e) (t := cap * s) (old ++ new) true (cold ++ cnew) (Builtin.zeroCells cz.cells (cap - (sLen + n))).toList el (0, 0) (ho2.append hn2) (fun hf => by cases hf)
      (by
        simp only [List.length_append, Array.length_toList, zeroCells_size, hzs]
        rw [← hoc, ← hnc, hol, hnl, ← Nat.add_mul, ← Nat.add_mul, Nat.add_sub_cancel' hcap1])
      (fun i _ => by simp)
    have heq : (cold.toArray ++ cnew.toArray ++ Builtin.zeroCells cz.cells (cap - (sLen + n))) = (cold ++ cnew ++ (Builtin.zeroCells cz.cells (cap - (sLen + n))).toList).toArray := by
      apply Array.ext'; simp
    rw [heq]; exact this
  obtain ⟨e', he', post3⟩ := Post.alloc _ _ _ p2 (by simp) hobj
  refine ⟨_, _, e', hrun, ?_, (Post.trans p0 post1 (Post.trans p1 post2 post3)).ofDrawn⟩
  exact .slcU _ _ _ _ _ _ _ he' hcap1 (by simp)

theorem good_room {ts : Array TypeId} {el s b ty : Nat} (T : AppT P ts el s b) {id off len cap n : Nat} {x v : AV} {csl cx : Value} {rest : List Value}
    (hh : roomA s n id off len cap x h = some (v, h')) (hsl : VR e (.slc id off len cap) csl) (hx : VR e x cx) (hn : lenOfA x = some n) (hle : len + n ≤ cap)
    (hp : Pre G e D h h' w) : Good P (Builtin.append_ ts ty (csl :: cx :: rest).toArray) e D h h' w v := by
  unfold roomA at hh
  repeat' (first | (cases hh; done) | split at hh)
  rename_i _ new h1 hnew _ vs o hm _ vs' hst
  simp only [Option.some.injEq, Prod.mk.injEq] at hh
  obtain ⟨rfl, rfl⟩ := hh
  obtain ⟨n1, m1, r1⟩ := first_next hnew
  obtain ⟨cnew, hn1, hn2, post1, _, _⟩ := good_first hnew hx hp (by simp [n1]) (rd_bits _)
  have p1 := hp.next post1
  obtain ⟨hd, b', t, co, he, hw, hr⟩ := p1.known hm (bit_wr h1 id _)
  cases hsl with
  | slc _ _ _ _ b'' t'' hb =>
    rw [hb] at he
    simp only [Option.some.injEq, Prod.mk.injEq] at he
    obtain ⟨rfl, rfl⟩ := he
    obtain ⟨w', hs1, post2⟩ := good_cells (P := P) hst hm p1 hd hb hw hr hn2
    have hrun := run_append_room (ty := ty) (rest := rest) T (a := ⟨b'', off, none⟩) hx hn hle hn1 (by rw [add_addr]; exact hs1)
    exact ⟨_, _, e, hrun, .slc _ _ _ _ _ _ hb, Post.trans hp post1 post2⟩

theorem good_roomU {ts : Array TypeId} {el s b ty : Nat} (T : AppT P ts el s b) {id off len n : Nat} {x v : AV} {csl cx : Value} {rest : List Value} (hs0 : 0 < s)
    (hh : roomUA s n id off len s x h = some (v, h')) (hsl : VR e (.slcU id off len s) csl) (hx : VR e x cx) (hn : lenOfA x = some n) (hle : off + (len + n) * s ≤ knownA id h)
    (hp : Pre G e D h h' w) : Good P (Builtin.append_ ts ty (csl :: cx :: rest).toArray) e D h h' w v := by
  unfold roomUA at hh
  repeat' (first | (cases hh; done) | split at hh)
  rename_i _ new h1 hnew _ vs o hm _ vs' hst
  simp only [Option.some.injEq, Prod.mk.injEq] at hh
  obtain ⟨rfl, rfl⟩ := hh
  obtain ⟨n1, m1, r1⟩ := first_next hnew
  obtain ⟨cnew, hn1, hn2, post1, _, _⟩ := good_first hnew hx hp (by simp [n1]) (rd_bits _)
  have p1 := hp.next post1
  obtain ⟨hd, b', t, co, he, hw, hr⟩ := p1.known hm (bit_wr h1 id _)
  cases hsl with
  | slcU _ _ _ _ b'' t'' c hb hlc ht =>
    rw [hb] at he
    simp only [Option.some.injEq, Prod.mk.injEq] at he
    obtain ⟨rfl, rfl⟩ := he
    have hroom : len + n ≤ c := by
      have hk : knownA id h = vs.length := by unfold knownA; rw [← m1, hm]
      rw [hk] at hle
      cases hr with
      | cells _ _ cvs tail elem fr hl ho htt hf =>
        have hcl := hl.length
        have h2 : (len + n) * s ≤ c * s := by omega
        exact Nat.le_of_mul_le_mul_right h2 hs0
    obtain ⟨w', hs1, post2⟩ := good_cells (P := P) hst hm p1 hd hb hw hr hn2
    have hrun := run_append_room (ty := ty) (rest := rest) T (a := ⟨b'', off, none⟩) (sCap := c) hx hn hroom hn1 (by rw [add_addr]; exact hs1)
    exact ⟨_, _, e, hrun, .slcU _ _ _ _ _ _ _ hb hroom ht, Post.trans hp post1 post2⟩

theorem good_maybe {ts : Array TypeId} {el s b ty : Nat} (T : AppT P ts el s b) {id len n : Nat} {x v : AV} {csl cx : Value} {rest : List Value}
    (hh : maybeA P el s n id len x h = some (v, h')) (hsl : VR e (.slcU id 0 len s) csl) (hx : VR e x cx) (hn : lenOfA x = some n) (hso : strOk s x = true) (hb0 : 0 < b) (hs0 : 0 < s) (hn0 : n ≠ 0)
    (hlim : (len + n) * b ≤ 1000000) (hp : Pre G e D h h' w) : Good P (Builtin.append_ ts ty (csl :: cx :: rest).toArray) e D h h' w v := by
  unfold maybeA at hh
  repeat' (first | (cases hh; done) | split at hh)
  rename_i _ new h1 z hnew hz _ vs hm _ hc
  simp only [Option.some.injEq, Prod.mk.injEq] at hh
  obtain ⟨rfl, rfl⟩ := hh
  simp only [Bool.and_eq_true] at hc
  obtain ⟨⟨⟨hc1, hc2⟩, hc3⟩, hc4⟩ := hc
  have hvs : len * s = vs.length := Nat.eq_of_beq_eq_true hc1
  have hzl : z.cells.length = s := Nat.eq_of_beq_eq_true hc3
  obtain ⟨n1, m1, r1⟩ := first_next hnew
  have hnl : new.length = n * s := firstA_length hnew hn hso
  have hR : ∀ j, h1.R.testBit j = true → ((h1.wr id none).new (.cells (vs ++ new) true)).R.testBit j = true := fun j hj => by
    simp only [AH.new_R]; exact rd_bits _ j hj
  cases hsl with
  | slcU _ _ _ _ b' t c hb hlc ht =>
    have ht' : c * s = t := by simpa using ht
    by_cases hroom : len + n ≤ c
    · obtain ⟨cnew, hn1, hn2, post1, _, _⟩ := good_first hnew hx hp (by simp [n1]) hR
      have p1 := hp.next post1
      obtain ⟨hd, b'', t'', co, he, hw, hr⟩ := p1.known hm (by simp only [AH.new_R]; exact bit_wr h1 id _)
      rw [hb] at he
      simp only [Option.some.injEq, Prod.mk.injEq] at he
      obtain ⟨rfl, rfl⟩ := he
      cases hr with
      | cells _ _ cvs tail elem fr hl ho htt hf =>
        have hcl := hl.length
        have hnl' := hn2.length
        have hroom' : len * s + n * s ≤ c * s := by rw [← Nat.add_mul]; exact Nat.mul_le_mul_right s hroom
        have htl : cnew.length ≤ tail.length := by omega
        have hbk : w.heap[b']? = some (.cells (cvs ++ (tail.take cnew.length ++ tail.drop cnew.length)).toArray elem fr) := by rw [List.take_append_drop]; exact hw
        have hst := run_storeCells (P := P) (b := b') (off := 0 + len * s) (elem := elem) (fr := fr) cnew 0 w cvs _ _ hbk (by omega) (by simp; omega) (hn2.one_cell hc2)
          (fun k hk => hf k (by rw [List.take_append_drop] at hk; simp at hk; omega))
        have hne : cnew ≠ [] := fun h0 => by
          have := Nat.mul_pos (Nat.pos_of_ne_zero hn0) hs0
          rw [h0] at hnl'
          simp only [List.length_nil] at hnl'
          omega
        rw [if_neg hne] at hst
        have hrun := run_append_room (ty := ty) (rest := rest) T (a := ⟨b', 0, none⟩) hx hn hroom hn1 (by rw [add_addr]; exact hst)
        have hobj : ORel e t (.cells (vs ++ new) true) (.cells (cvs ++ (cnew ++ tail.drop cnew.length)).toArray elem fr) := by
          have := ORel.cells (e := e) (t := t) (vs ++ new) true (cvs ++ cnew) (tail.drop cnew.length) elem fr (hl.append hn2) (fun hf => by cases hf) (by simp; omega) hf
          simpa using this
        obtain ⟨e', he', post2⟩ := Post.rename p1 (by simp) hd hm hb hobj
        refine ⟨_, _, e', hrun, ?_, Post.trans hp post1 post2⟩
        exact .slcU _ _ _ _ _ _ _ (by simpa using he') hroom (by simpa using ht')
    · have p0 := hp.drawn (w.drawn + 1)
      obtain ⟨cnew, hn1, hn2, post1, _, _⟩ := good_first hnew hx p0 (by simp [n1]) hR
      have p1 := p0.next post1
      obtain ⟨hd, b'', t'', co, he, hw, hr⟩ := p1.known hm (by simp only [AH.new_R]; exact bit_wr h1 id _)
      rw [hb] at he
      simp only [Option.some.injEq, Prod.mk.injEq] at he
      obtain ⟨rfl, rfl⟩ := he
      cases hr with
      | cells _ _ cvs tail elem fr hl ho htt hf =>
        have hcl := hl.length
        have hnl' := hn2.length
        obtain ⟨cap, hcap1, hcap2⟩ := run_cap (P := P) (len + n) c el w
        obtain ⟨cz, hz1, hz2⟩ := run_zero hz e { w with drawn := w.drawn + 1 }
        have hzs : cz.cells.size = s := by rw [← cells_len hz2 (zero_noTop hz), hzl]
        have hold : (Builtin.firstCells s len (.slice (some ⟨b', 0, none⟩) len c)).run P { w with drawn := w.drawn + 1 } = .ok cvs.toArray { w with drawn := w.drawn + 1 } := by
          simp only [Builtin.firstCells]
          have hle : len * s ≤ c * s := Nat.mul_le_mul_right s hlc
          rw [run_loadCells hw (by simp; omega)]
          congr 1
          simp only [List.drop_zero]
          rw [hvs, hcl, List.take_left']
          rfl
        have hrun := run_append_grow (ty := ty) (rest := rest) T (base := some ⟨b', 0, none⟩) hx hn hroom hb0 hlim hcap2 hold hn1 hz1
        have hobj : ORel e (cap * s) (.cells (vs ++ new) true) (.cells (cvs.toArray ++ cnew.toArray ++ Builtin.zeroCells cz.cells (cap - (len + n))) el) := by
          have := ORel.cells (e := e) (t := cap * s) (vs ++ new) true (cvs ++ cnew) (Builtin.zeroCells cz.cells (cap - (len + n))).toList el (0, 0) (hl.append hn2) (fun hf => by cases hf)
            (by
              simp only [List.length_append, Array.length_toList, zeroCells_size, hzs]
              rw [← hcl, ← hnl', ← hvs, hnl, ← Nat.add_mul, ← Nat.add_mul, Nat.add_sub_cancel' hcap1])
            (fun i _ => by simp)
          have heq : (cvs.toArray ++ cnew.toArray ++ Builtin.zeroCells cz.cells (cap - (len + n))) = (cvs ++ cnew ++ (Builtin.zeroCells cz.cells (cap - (len + n))).toList).toArray := by
            apply Array.ext'; simp
          rw [heq]; exact this
        have post2 := Post.kill (co := .cells (cvs ++ tail).toArray elem fr) p1 hd hm hb
        rw [setBlk_id hw] at post2
        have p2 := p1.next post2
        obtain ⟨e', he', post3⟩ := Post.alloc _ _ _ p2 (by simp) hobj
        refine ⟨_, _, e', hrun, ?_, (Post.trans p0 post1 (Post.trans p1 post2 post3)).ofDrawn⟩
        exact .slcU _ _ _ _ _ _ _ (by simpa using he') hcap1 (by simp)

theorem run_first0 {s : Nat} {x : AV} {cx : Value} (hx : VR e x cx) (hn : lenOfA x = some 0) : (Builtin.firstCells s 0 cx).run P w = .ok #[] w := by
  unfold lenOfA at hn
  split at hn <;> first
    | (cases hn; done)
    | (cases hx; simp [Builtin.firstCells, loadCells, loadCellsFrom]; rfl)
    | (cases hx; simp [Builtin.firstCells, loadCells, loadCellsFrom]; done)
    | (cases hx; rename_i a _; cases a <;> simp [Builtin.firstCells, loadCells, loadCellsFrom])

theorem good_append {ts : Array TypeId} {ty t xt : Nat} {sl x v : AV} {csl cx : Value} {rest : List Value} (h0 : ts[0]? = some t) (h1 : ts[1]? = some xt)
    (hh : appendA P t xt sl x h = some (v, h')) (hsl : VR e sl csl) (hx : VR e x cx) (hp : Pre G e D h h' w) : Good P (Builtin.append_ ts ty (csl :: cx :: rest).toArray) e D h h' w v := by
  unfold appendA at hh
  split at hh
  · rename_i el u hu hxu
    have hmain : (∀ k, u ≠ .int k) → (match sz P el, byt P el, lenOfA x, lenOfA sl with
      | some s, some b, some n, some sLen => match Nat.ble (Nat.mul (Nat.add sLen n) s) limitN && Nat.ble (Nat.mul (Nat.add sLen n) b) limitN && Nat.blt 0 s && Nat.blt 0 b && strOk s x with
        | true => append2A P el s n sl x h
        | false => none
      | _, _, _, _ => none) = some (v, h') → Good P (Builtin.append_ ts ty (csl :: cx :: rest).toArray) e D h h' w v := by
      clear hh
      intro hne hh
      split at hh
      · rename_i s b n sLen hs hb hn hsn
        split at hh
        · rename_i hc
          simp only [Bool.and_eq_true] at hc
          obtain ⟨⟨⟨⟨hc1, hc2⟩, hc3⟩, hc4⟩, hc5⟩ := hc
          have c2 : (sLen + n) * b ≤ 1000000 := by simpa [limitN] using Nat.le_of_ble_eq_true hc2
          have c3 : 0 < s := by
            have : Nat.blt 0 s = true := hc3
            simp [Nat.blt] at this; omega
          have c4 : 0 < b := by
            have : Nat.blt 0 b = true := hc4
            simp [Nat.blt] at this; omega
          have T : AppT P ts el s b := ⟨⟨t, h0, hu⟩, ⟨xt, u, h1, hxu, hne⟩, hs, hb⟩
          unfold append2A at hh
          split at hh
          · simp [lenOfA] at hsn
            subst hsn
            split at hh
            · rename_i hz
              simp only [Option.some.injEq, Prod.mk.injEq] at hh
              obtain ⟨rfl, rfl⟩ := hh
              have : n = 0 := Nat.eq_of_beq_eq_true hz
              subst this
              cases hsl
              exact ⟨_, w, e, run_append_nil T hx hn, .slcN, Post.refl hp⟩
            · rename_i hz
              have hn0 : n ≠ 0 := fun h0 => by subst h0; simp at hz
              cases hsl
              exact good_grow T hh .slcN hx hn hc5 rfl (by omega) c4 c2 hp
          · simp [lenOfA] at hsn
            subst hsn
            split at hh
            · rename_i hle
              exact good_room T hh hsl hx hn (by simpa using Nat.le_of_ble_eq_true hle) hp
            · rename_i hle
              cases hsl with
              | slc _ _ _ _ b' t' hb' => exact good_grow T hh (.slc _ _ _ _ _ _ hb') hx hn hc5 rfl (fun hl => by rw [Nat.add_eq, Nat.ble_eq_true_of_le hl] at hle; cases hle) c4 c2 hp
          · rename_i id off len es
            simp [lenOfA] at hsn
            subst hsn
            split at hh
            · rename_i hz
              simp only [Option.some.injEq, Prod.mk.injEq] at hh
              obtain ⟨rfl, rfl⟩ := hh
              have : n = 0 := Nat.eq_of_beq_eq_true hz
              subst this
              cases hsl with
              | slcU _ _ _ _ b' t' c' hb' hlc ht =>
                have hrun := run_append_room (P := P) (w := w) (w' := w) (ty := ty) (rest := rest) T (a := ⟨b', off, none⟩) (sCap := c') hx hn (by omega) (run_first0 (s := s) hx hn) (by simp [storeCells])
                exact ⟨_, w, e, hrun, .slcU _ _ _ _ _ _ _ hb' (by omega) ht, Post.refl hp⟩
            · rename_i hz
              have hn0 : n ≠ 0 := fun h0 => by subst h0; simp at hz
              split at hh
              · rename_i hc6
                simp only [Bool.and_eq_true] at hc6
                obtain ⟨h61, h62⟩ := hc6
                have h61 := Nat.eq_of_beq_eq_true h61
                have h62 := Nat.le_of_ble_eq_true h62
                subst h61
                exact good_roomU T c3 hh hsl hx hn h62 hp
              split at hh
              · rename_i hc6
                simp only [Bool.and_eq_true] at hc6
                obtain ⟨h61, h62⟩ := hc6
                have h61 := Nat.eq_of_beq_eq_true h61
                have h62 := Nat.eq_of_beq_eq_true h62
                subst h61; subst h62
                exact good_maybe T hh hsl hx hn hc5 c4 c3 hn0 c2 hp
              · cases hh
          · cases hh
        · cases hh
      · cases hh
    split at hh
    · cases hh
    · rename_i hne
      exact hmain hne hh
  · cases hh
end Go.AX

/-! AX: copy, min, max, cap, maps. -/
namespace Go.AX

variable {G : Nat → Obj → Prop} {P : Program} {e : Env} {D : Nat → Prop} {h h' : AH} {w : World}

theorem good_copy {ts : Array TypeId} {ty t : Nat} {d x v : AV} {cd cx : Value} {rest : List Value} (h0 : ts[0]? = some t)
    (hh : copyA P t d x h = some (v, h')) (hd : VR e d cd) (hx : VR e x cx) (hp : Pre G e D h h' w) : Good P (Builtin.copy_ ts ty (cd :: cx :: rest).toArray) e D h h' w v := by
  unfold copyA at hh
  split at hh
  · rename_i el hu
    split at hh
    · rename_i s dl xl hs hdl hxl
      split at hh
      · rename_i cs h1 hf
        obtain ⟨n1, m1, r1⟩ := first_next hf
        have hl := run_lenOf (P := P) hxl hx w
        split at hh
        · simp only [Option.some.injEq, Prod.mk.injEq] at hh
          obtain ⟨rfl, rfl⟩ := hh
          simp [lenOfA] at hdl; subst hdl
          obtain ⟨ccs, hc1, hc2, post1, _, _⟩ := good_first hf hx hp (by simp [n1]) (fun j hj => hj)
          cases hd
          refine ⟨_, w, e, ?_, .int _ _, post1⟩
          unfold Builtin.copy_
          simp only [h0, List.getElem?_toArray, List.getElem?_cons_zero, List.getElem?_cons_succ, Sem.run_bind, run_und hu, Result.andThen_ok, hl, run_sizeOf hs]
          have : Nat.min xl 0 = min xl 0 := rfl
          rw [this, hc1]
          rfl
        · rename_i id off n c
          repeat' (first | (cases hh; done) | split at hh)
          rename_i _ vs o hm _ vs' hst
          simp only [Option.some.injEq, Prod.mk.injEq] at hh
          obtain ⟨rfl, rfl⟩ := hh
          simp [lenOfA] at hdl; subst hdl
          obtain ⟨ccs, hc1, hc2, post1, _, _⟩ := good_first hf hx hp (by simp [n1]) (rd_bits _)
          have p1 := hp.next post1
          obtain ⟨hD, b', t', co, he, hw, hr⟩ := p1.known hm (bit_wr h1 id _)
          cases hd with | slc _ _ _ _ b'' t'' hb =>
          rw [hb] at he
          simp only [Option.some.injEq, Prod.mk.injEq] at he
          obtain ⟨rfl, rfl⟩ := he
          obtain ⟨w', hs1, post2⟩ := good_cells (P := P) hst hm p1 hD hb hw hr hc2
          refine ⟨_, w', e, ?_, .int _ _, Post.trans hp post1 post2⟩
          unfold Builtin.copy_
          simp only [h0, List.getElem?_toArray, List.getElem?_cons_zero, List.getElem?_cons_succ, Sem.run_bind, run_und hu, Result.andThen_ok, hl, run_sizeOf hs]
          have : Nat.min xl n = min xl n := rfl
          rw [this, hc1]
          simp only [Result.andThen_ok, hs1]
          rfl
        · rename_i id off n es
          repeat' (first | (cases hh; done) | split at hh)
          rename_i _ vs o hm _ vs' hst
          simp only [Option.some.injEq, Prod.mk.injEq] at hh
          obtain ⟨rfl, rfl⟩ := hh
          simp [lenOfA] at hdl; subst hdl
          obtain ⟨ccs, hc1, hc2, post1, _, _⟩ := good_first hf hx hp (by simp [n1]) (rd_bits _)
          have p1 := hp.next post1
          obtain ⟨hD, b', t', co, he, hw, hr⟩ := p1.known hm (bit_wr h1 id _)
          cases hd with | slcU _ _ _ _ b'' t'' c hb hlc ht =>
          rw [hb] at he
          simp only [Option.some.injEq, Prod.mk.injEq] at he
          obtain ⟨rfl, rfl⟩ := he
          obtain ⟨w', hs1, post2⟩ := good_cells (P := P) hst hm p1 hD hb hw hr hc2
          refine ⟨_, w', e, ?_, .int _ _, Post.trans hp post1 post2⟩
          unfold Builtin.copy_
          simp only [h0, List.getElem?_toArray, List.getElem?_cons_zero, List.getElem?_cons_succ, Sem.run_bind, run_und hu, Result.andThen_ok, hl, run_sizeOf hs]
          have : Nat.min xl n = min xl n := rfl
          rw [this, hc1]
          simp only [Result.andThen_ok, hs1]
          rfl
        · cases hh
      · cases hh
    · cases hh
  · cases hh

theorem goodP_fold {f : AV → AV → Option AV} {g : Value → Value → Sem Value} (hfg : ∀ x y z cx cy, f x y = some z → VR e x cx → VR e y cy → GoodP P (g cx cy) e w z) :
    ∀ (ys : List AV) (cys : List Value) (x v : AV) (cx : Value), foldA f x ys = some v → VR e x cx → VRL e ys cys → GoodP P (cys.foldlM g cx) e w v
  | [], _, x, v, cx, hh, hx, .nil => by
    simp only [foldA, Option.some.injEq] at hh; subst hh
    exact ⟨cx, by simp, hx⟩
  | y :: ys, _, x, v, cx, hh, hx, .cons _ cy _ cys hy hys => by
    simp only [foldA] at hh
    split at hh
    · rename_i z hz
      obtain ⟨cz, h1, h2⟩ := hfg x y z cx cy hz hx hy
      obtain ⟨cv, h3, h4⟩ := goodP_fold hfg ys cys z v cz hh h2 hys
      exact ⟨cv, by simp only [List.foldlM_cons, Sem.run_bind, h1, Result.andThen_ok, h3], h4⟩
    · cases hh

theorem goodP_min2 (x y z : AV) (cx cy : Value) (hh : min2 x y = some z) (hx : VR e x cx) (hy : VR e y cy) : GoodP P (Builtin.min2 cx cy) e w z := by
  unfold min2 at hh
  split at hh
  · simp only [Option.some.injEq] at hh; subst hh
    cases hx; cases hy
    rename_i k a _ b
    refine ⟨.int k (if b < a then b else a), by simp only [Builtin.min2, Sem.run_pure], ?_⟩
    by_cases hc : b < a
    · simp only [ilt_eq, hc, decide_true, if_true]; exact .int _ _
    · simp only [ilt_eq, hc, decide_false, if_false]; exact .int _ _
  · cases hh
theorem goodP_max2 (x y z : AV) (cx cy : Value) (hh : max2 x y = some z) (hx : VR e x cx) (hy : VR e y cy) : GoodP P (Builtin.max2 cx cy) e w z := by
  unfold max2 at hh
  split at hh
  · simp only [Option.some.injEq] at hh; subst hh
    cases hx; cases hy
    rename_i k a _ b
    refine ⟨.int k (if a < b then b else a), by simp only [Builtin.max2, Sem.run_pure], ?_⟩
    by_cases hc : a < b
    · simp only [ilt_eq, hc, decide_true, if_true]; exact .int _ _
    · simp only [ilt_eq, hc, decide_false, if_false]; exact .int _ _
  · cases hh

theorem goodP_cap {ts : Array TypeId} {ty t : Nat} {x v : AV} {cx : Value} {rest : List Value} (h0 : ts[0]? = some t) (hh : capA P t x = some v) (hx : VR e x cx) :
    GoodP P (Builtin.cap_ ts ty (cx :: rest).toArray) e w v := by
  unfold capA at hh
  split at hh
  · rename_i hu
    simp only [Option.some.injEq] at hh; subst hh
    cases hx
    refine ⟨_, ?_, .int _ _⟩
    unfold Builtin.cap_
    simp only [h0, List.getElem?_toArray, List.getElem?_cons_zero, Sem.run_bind, run_und hu, Result.andThen_ok]
    rfl
  · rename_i hu
    simp only [Option.some.injEq] at hh; subst hh
    cases hx
    refine ⟨_, ?_, .int _ _⟩
    unfold Builtin.cap_
    simp only [h0, List.getElem?_toArray, List.getElem?_cons_zero, Sem.run_bind, run_und hu, Result.andThen_ok]
    rfl
  · cases hh

/-! Maps -/
theorem getMap {r : Nat} {es : Array MapEntry} {clock : Nat} (hb : w.heap[r]? = some (.map es clock)) : (getObj r).run P w = .ok (.map es clock) w := by
  simp [getObj, Sem.run, hb]
theorem setMap {r : Nat} {es : Array MapEntry} {clock : Nat} (o : Obj) (hb : w.heap[r]? = some (.map es clock)) : (setObj r o).run P w = .ok () (w.setBlk r o) := by
  simp [setObj, Sem.run, hb, World.setBlk]
theorem keyType_some {kt : Nat} {k : AV} (hh : keyType P kt k = true) : ∃ d, P.underlying kt = some d ∧ ((∃ j, d = .int j ∧ ∃ l n, k = .int l n) ∨ (d = .string ∧ ∃ s, k = .str s) ∨ (d = .bool ∧ ∃ b, k = .bool b)) := by
  unfold keyType at hh
  split at hh
  · rename_i hu; exact ⟨_, hu, .inl ⟨_, rfl, _, _, rfl⟩⟩
  · rename_i hu; exact ⟨_, hu, .inr (.inl ⟨rfl, _, rfl⟩)⟩
  · rename_i hu; exact ⟨_, hu, .inr (.inr ⟨rfl, _, rfl⟩)⟩
  · cases hh

theorem run_checkKey' {kt : Nat} {k : AV} (hh : keyType P kt k = true) (emp : Bool) (ck : Value) (w : World) (n : Nat) : (Instr.checkKey emp (n + 1) kt ck).run P w = .ok () w := by
  obtain ⟨d, hd, hk⟩ := keyType_some hh
  simp only [Instr.checkKey, Sem.run_bind, run_und hd, Result.andThen_ok]
  rcases hk with ⟨j, rfl, _⟩ | ⟨rfl, _⟩ | ⟨rfl, _⟩ <;> rfl

theorem keyEq_sound {k l : AV} {ck cl : Value} {b : Bool} {kt : Nat} {d : TypeDesc} (hd : P.underlying kt = some d) (hk : keyType P kt k = true) (hh : keyEq k l = some b) (h1 : VR e k ck) (h2 : VR e l cl) :
    Instr.sameNow d ck cl = some b ∧ (b = true → ∀ n, Instr.sameBits n cl ck = true) := by
  obtain ⟨d', hd', hk'⟩ := keyType_some hk
  rw [hd] at hd'
  simp only [Option.some.injEq] at hd'
  subst hd'
  rcases hk' with ⟨j, rfl, l', n, rfl⟩ | ⟨rfl, s, rfl⟩ | ⟨rfl, b', rfl⟩
  · cases l <;> try (simp [keyEq] at hh; done)
    simp only [keyEq] at hh
    split at hh
    · rename_i hkq
      simp only [Option.some.injEq] at hh
      cases h1; cases h2
      have hkq := keq_eq hkq
      subst hkq
      rw [ieq_eq] at hh
      subst hh
      refine ⟨by simp [Instr.sameNow]; rfl, fun hb n => ?_⟩
      have := of_decide_eq_true hb
      subst this
      simp [Instr.sameBits]
    · cases hh
  · cases l <;> try (simp [keyEq] at hh; done)
    simp only [keyEq, Option.some.injEq] at hh
    cases h1; cases h2
    rw [bytesEq_eq] at hh
    subst hh
    rename_i s2
    refine ⟨?_, fun hb n => ?_⟩
    · simp only [Instr.sameNow]
      congr 1
      rw [beq_toListBytes, toList_mk, toList_mk]
    · have := eq_of_beq hb
      subst this
      simp only [Instr.sameBits]
      rw [beq_toListBytes, beq_self_eq_true]
  · cases l <;> try (simp [keyEq] at hh; done)
    simp only [keyEq, Option.some.injEq] at hh
    cases h1; cases h2
    subst hh
    refine ⟨by simp [Instr.sameNow], fun hb n => ?_⟩
    simp at hb
    subst hb
    simp [Instr.sameBits]

theorem find_sound {kt : Nat} {d : TypeDesc} {k : AV} {ck : Value} (hd : P.underlying kt = some d) (hk : keyType P kt k = true) (hck : VR e k ck) :
    ∀ (es : List AEntry) (ces : List MapEntry) (i : Nat) (r : Option AV), ERL e es ces → findA k es = some r →
      match r with
      | none => Instr.findNow d ck ces i = some none
      | some v => ∃ j c, ces[j]? = some c ∧ Instr.findNow d ck ces i = some (some (i + j, c.val)) ∧ VR e v c.val ∧ (∀ n, Instr.sameBits n c.key ck = true) ∧
          ∀ nv cnv, VR e nv cnv → ERL e (replA k nv es) (ces.modify j fun c => { c with key := ck, val := cnv }) := by
  intro es
  induction es with
  | nil =>
    intro ces i r hr hh
    cases hr
    simp only [findA, Option.some.injEq] at hh
    subst hh
    rfl
  | cons a es ih =>
    intro ces i r hr hh
    cases hr with
    | cons _ c _ cs hkr hvr hb ht =>
      simp only [findA] at hh
      split at hh
      · rename_i hq
        simp only [Option.some.injEq] at hh
        subst hh
        obtain ⟨h1, h2⟩ := keyEq_sound hd hk hq hck hkr
        refine ⟨0, c, by simp, by simp [Instr.findNow, h1], hvr, h2 rfl, fun nv cnv hn => ?_⟩
        simp only [replA, hq, List.modify_zero_cons]
        exact .cons _ _ _ _ hck hn hb ht
      · rename_i hq
        obtain ⟨h1, _⟩ := keyEq_sound hd hk hq hck hkr
        have := ih cs (i + 1) r ht hh
        cases r with
        | none => simp only [Instr.findNow, h1]; exact this
        | some v =>
          obtain ⟨j, c', g1, g2, g3, g4, g5⟩ := this
          refine ⟨j + 1, c', by simpa using g1, ?_, g3, g4, fun nv cnv hn => ?_⟩
          · simp only [Instr.findNow, h1, g2]
            rw [Nat.add_assoc, Nat.add_comm 1 j]
          · simp only [replA, hq, List.modify_succ_cons]
            exact .cons _ _ _ _ hkr hvr hb (g5 nv cnv hn)
      · cases hh

theorem ERL.length {as : List AEntry} {cs : List MapEntry} (h : ERL e as cs) : as.length = cs.length := by
  induction h with
  | nil => rfl
  | cons _ _ _ _ _ _ _ _ ih => simp [ih]

theorem ERL.append {as bs : List AEntry} {cs ds : List MapEntry} (h : ERL e as cs) (h' : ERL e bs ds) : ERL e (as ++ bs) (cs ++ ds) := by
  induction h with
  | nil => exact h'
  | cons a c as cs hk hv hb _ ih => exact .cons a c _ _ hk hv hb ih

theorem lookA_sound {t : Nat} {es : List AEntry} {ces : List MapEntry} {k v : AV} {ck : Value} {ok : Bool} (hh : lookA P t es k ok = some v) (hr : ERL e es ces) (hck : VR e k ck) (w : World) :
    ∃ kt el cv, P.underlying t = some (.map kt el) ∧ keyType P kt k = true ∧ VR e v cv ∧ (do
      let (x, y) ← match ← Instr.findKey kt ck ces with
        | some (_, v) => pure (v, true)
        | none => pure (← zeroValue el, false)
      pure (if ok then .tuple #[x, .bool y] else x) : Sem Value).run P w = .ok cv w := by
  unfold lookA at hh
  split at hh
  · rename_i kt el hu
    split at hh
    · rename_i val z hkt hf hz
      simp only [Option.some.injEq] at hh
      subst hh
      obtain ⟨d, hd, _⟩ := keyType_some hkt
      obtain ⟨j, c, g1, g2, g3, _, _⟩ := find_sound hd hkt hck es ces 0 _ hr hf
      refine ⟨kt, el, if ok then .tuple #[c.val, .bool true] else c.val, hu, hkt, ?_, ?_⟩
      · cases ok with
        | false => exact g3
        | true => exact .tup _ [c.val, .bool true] (.cons _ _ _ _ g3 (.cons _ _ _ _ (.bool _) .nil))
      · simp only [Instr.findKey, Sem.run_bind, run_und hd, Result.andThen_ok, g2, Sem.run_pure]
    · rename_i z hkt hf hz
      simp only [Option.some.injEq] at hh
      subst hh
      obtain ⟨d, hd, _⟩ := keyType_some hkt
      have g2 := find_sound hd hkt hck es ces 0 _ hr hf
      obtain ⟨cz, hz1, hz2⟩ := run_zero hz e w
      refine ⟨kt, el, if ok then .tuple #[cz, .bool false] else cz, hu, hkt, ?_, ?_⟩
      · cases ok with
        | false => exact hz2
        | true => exact .tup _ [cz, .bool false] (.cons _ _ _ _ hz2 (.cons _ _ _ _ (.bool _) .nil))
      · simp only [Instr.findKey, Sem.run_bind, run_und hd, Result.andThen_ok, g2, Sem.run_pure, hz1]
    · cases hh
  · cases hh

theorem good_lookup {t : Nat} {m k v : AV} {cm ck : Value} {ok : Bool} (hh : lookupA P t m k ok h = some (v, h')) (hm : VR e m cm) (hk : VR e k ck) (hp : Pre G e D h h' w) :
    Good P (Instr.lookup t cm ck ok) e D h h' w v := by
  unfold lookupA at hh
  split at hh
  · split at hh
    · rename_i x hx
      simp only [Option.some.injEq, Prod.mk.injEq] at hh
      obtain ⟨rfl, rfl⟩ := hh
      cases hm
      obtain ⟨kt, el, cv, h1, h2, h3, h4⟩ := lookA_sound hx .nil hk w
      refine ⟨cv, w, e, ?_, h3, Post.refl hp⟩
      simp only [Instr.lookup, Sem.run_bind, run_und h1, Result.andThen_ok, Sem.run_pure]
      rw [run_checkKey' (n := 9999) h2]
      simp only [Sem.run_bind, Result.andThen_ok, Sem.run_pure] at h4 ⊢
      exact h4
    · cases hh
  · repeat' (first | (cases hh; done) | split at hh)
    rename_i id _ es c hg _ x hx
    simp only [Option.some.injEq, Prod.mk.injEq] at hh
    obtain ⟨rfl, rfl⟩ := hh
    obtain ⟨hD, b', t', co, he, hw, hr⟩ := hp.known hg (bit_rd h id)
    cases hm with | map _ b'' t'' hb =>
    rw [hb] at he
    simp only [Option.some.injEq, Prod.mk.injEq] at he
    obtain ⟨rfl, rfl⟩ := he
    cases hr with
    | map _ _ ces hes =>
      obtain ⟨kt, el, cv, h1, h2, h3, h4⟩ := lookA_sound hx hes hk w
      refine ⟨cv, w, e, ?_, h3, Post.rd id hp⟩
      simp only [Instr.lookup, Sem.run_bind, run_und h1, Result.andThen_ok, getMap hw, Sem.run_pure]
      rw [run_checkKey' (n := 9999) h2]
      simp only [Sem.run_bind, Result.andThen_ok, Sem.run_pure] at h4 ⊢
      exact h4
  · cases hh

theorem good_update {t : Nat} {m k v : AV} {cm ck cv : Value} (hh : updateA P t m k v h = some h') (hm : VR e m cm) (hk : VR e k ck) (hv : VR e v cv) (hp : Pre G e D h h' w) :
    GoodU P (Instr.mapUpdate t cm ck cv) e D h h' w := by
  unfold updateA at hh
  split at hh
  · split at hh
    · rename_i id _ _ es c kt el hg hu
      have hw : ∀ o, h' = h.wr id o → ∃ b t', e id = some (b, t') ∧ cm = .map (some b) ∧ ∃ ces, w.heap[b]? = some (.map ces.toArray c) ∧ ERL e es ces ∧ D id := by
        intro o ho
        subst ho
        obtain ⟨hD, b', t', co, he, hw, hr⟩ := hp.known hg (bit_wr h id o)
        cases hm with | map _ b'' t'' hb =>
        rw [hb] at he
        simp only [Option.some.injEq, Prod.mk.injEq] at he
        obtain ⟨rfl, rfl⟩ := he
        cases hr with
        | map _ _ ces hes => exact ⟨_, _, hb, rfl, ces, hw, hes, hD⟩
      split at hh
      · rename_i val hkt hf hnt
        simp only [Option.some.injEq] at hh
        obtain ⟨b, t', he, rfl, ces, hheap, hes, hD⟩ := hw _ hh.symm
        subst hh
        obtain ⟨d, hd, _⟩ := keyType_some hkt
        obtain ⟨j, c', g1, g2, g3, g4, g5⟩ := find_sound hd hkt hk es ces 0 _ hes hf
        have hobj : ORel e t' (.map (replA k v es) c) (.map (ces.modify j fun c => { c with key := ck, val := cv }).toArray c) := .map _ _ _ (g5 v cv hv)
        refine ⟨w.setBlk b _, e, ?_, Post.write hp hD hg he hobj⟩
        simp only [Instr.mapUpdate, Sem.run_bind, run_und hu, Result.andThen_ok, getMap hheap]
        rw [run_checkKey' (n := 9999) hkt]
        simp only [Instr.findKey, Sem.run_bind, run_und hd, Result.andThen_ok, g2, Sem.run_pure, Instr.keyThatStays, Nat.zero_add, List.getElem?_toArray, g1, Option.map_some, Option.getD_some, g4, if_true]
        rw [setMap _ hheap]
        simp
      · rename_i hkt hf hnt
        simp only [Option.some.injEq] at hh
        obtain ⟨b, t', he, rfl, ces, hheap, hes, hD⟩ := hw _ hh.symm
        subst hh
        obtain ⟨d, hd, _⟩ := keyType_some hkt
        have g2 := find_sound hd hkt hk es ces 0 _ hes hf
        have hobj : ORel e t' (.map (es ++ [({ key := k, val := v, born := c } : AEntry)]) (Nat.succ c)) (.map (ces ++ [({ key := ck, val := cv, born := c } : MapEntry)]).toArray (c + 1)) :=
          .map _ _ _ (hes.append (.cons _ _ _ _ hk hv rfl .nil))
        refine ⟨w.setBlk b _, e, ?_, Post.write hp hD hg he hobj⟩
        simp only [Instr.mapUpdate, Sem.run_bind, run_und hu, Result.andThen_ok, getMap hheap]
        rw [run_checkKey' (n := 9999) hkt]
        simp only [Instr.findKey, Sem.run_bind, run_und hd, Result.andThen_ok, g2, Sem.run_pure]
        rw [setMap _ hheap]
        simp
      · cases hh
    · cases hh
  · cases hh

theorem good_newMap (hp : Pre G e D h (h.new (.map [] 0)) w) : ∃ e', (newObj (.map #[] 0)).run P w = .ok w.heap.size (w.alloc (.map #[] 0)) ∧ VR e' (.map h.next) (.map (some w.heap.size)) ∧
    Post e D h (h.new (.map [] 0)) w (w.alloc (.map #[] 0)) e' := by
  obtain ⟨e', he', hpost⟩ := Post.alloc (.map [] 0) (.map #[] 0) 0 hp (by simp) (.map _ _ [] .nil)
  exact ⟨e', by simp [run_newObj], .map _ _ _ he', hpost⟩
end Go.AX

/-! AX: an operation that is no call of a function. -/
namespace Go.AX

variable {G : Nat → Obj → Prop} {P : Program} {e : Env} {D : Nat → Prop} {h h' : AH} {w : World}

/-- What the frame does next with it. -/
inductive Comes1 : Next → Value → Prop
  | value (v : Value) : Comes1 (.value v) v
  | skip : Comes1 .skip undef
  | recover : Comes1 .recover .nilIface

def GoodN (P : Program) (s : Sem Next) (e : Env) (D : Nat → Prop) (h h' : AH) (w : World) (v : AV) : Prop :=
  ∃ n cv w' e', s.run P w = .ok n w' ∧ Comes1 n cv ∧ VR e' v cv ∧ Post e D h h' w w' e'

theorem Good.next {s : Sem Value} {v : AV} (g : Good P s e D h h' w v) : GoodN P (do pure (.value (← s))) e D h h' w v :=
  let ⟨cv, w', e', h1, h2, h3⟩ := g
  ⟨.value cv, cv, w', e', by simp only [Sem.run_bind, h1, Result.andThen_ok, Sem.run_pure], .value cv, h2, h3⟩

theorem GoodU.next {s : Sem Unit} (g : GoodU P s e D h h' w) : GoodN P (do s; pure .skip) e D h h' w (.tup []) :=
  let ⟨w', e', h1, h2⟩ := g
  ⟨.skip, undef, w', e', by simp only [Sem.run_bind, h1, Result.andThen_ok, Sem.run_pure], .skip, .tup [] [] .nil, h2⟩

theorem ev_rel {tm : Tr AV} {a : Act} (ht : TR e tm a.tmps) (x : Operand) : VR e (ev tm x) (a.eval x) := by
  cases x with
  | tmp t =>
    simp only [ev]
    cases hg : tm.get t with
    | none => exact .top _
    | some v =>
      obtain ⟨cv, h1, h2⟩ := ht t v hg
      simp only [oc, Act.eval, Array.getD_eq_getD_getElem?, h1]
      exact h2
  | const v =>
    simp only [ev]
    cases hg : abs v with
    | none => exact .top _
    | some a => exact abs_sound e _ _ _ hg
  | global g => exact .glob g
  | func f => exact .fn f [] [] [] [] .nil .nil

theorem evL_rel {tm : Tr AV} {ρ : Operand → Value} (hr : ∀ x, VR e (ev tm x) (ρ x)) : ∀ xs : List Operand, VRL e (evL tm xs) (xs.map ρ)
  | [] => .nil
  | x :: xs => .cons _ _ _ _ (hr x) (evL_rel hr xs)

theorem evL_rel' {tm : Tr AV} {ρ : Operand → Value} : ∀ xs : List Operand, (∀ x ∈ xs, VR e (ev tm x) (ρ x)) → VRL e (evL tm xs) (xs.map ρ)
  | [], _ => .nil
  | x :: xs, hr => .cons _ _ _ _ (hr x (by simp)) (evL_rel' xs fun y hy => hr y (by simp [hy]))

theorem good_simple {tm : Tr AV} {o : Oper} {ρ : Operand → Value} {v : AV} (hh : simpleA P tm o.op h = some (v, h')) (hr : ∀ x ∈ o.op.operands.toList, VR e (ev tm x) (ρ x)) (hp : Pre G e D h h' w) :
    GoodN P (execOp ρ o) e D h h' w v := by
  obtain ⟨dst, op, ty, pos, af, gd⟩ := o
  simp only at hh hr
  cases op <;> simp only [simpleA] at hh <;> try (cases hh; done)
  case move x =>
    simp only [Option.some.injEq, Prod.mk.injEq] at hh
    obtain ⟨rfl, rfl⟩ := hh
    exact ⟨_, _, w, e, by simp only [execOp, Sem.run_pure], .value _, hr x (by simp [Op.operands]), Post.refl hp⟩
  case assign x =>
    simp only [Option.some.injEq, Prod.mk.injEq] at hh
    obtain ⟨rfl, rfl⟩ := hh
    exact ⟨_, _, w, e, by simp only [execOp, Sem.run_pure], .value _, hr x (by simp [Op.operands]), Post.refl hp⟩
  case pick c a b =>
    have hc := hr c (by simp [Op.operands])
    split at hh
    · rename_i hcv
      simp only [Option.some.injEq, Prod.mk.injEq] at hh
      obtain ⟨rfl, rfl⟩ := hh
      rw [hcv] at hc
      generalize hcc : ρ c = cc at hc
      cases hc
      exact ⟨_, _, w, e, by simp only [execOp, hcc, asBool, Sem.run_bind, Sem.run_pure, Result.andThen_ok, if_true], .value _, hr a (by simp [Op.operands]), Post.refl hp⟩
    · rename_i hcv
      simp only [Option.some.injEq, Prod.mk.injEq] at hh
      obtain ⟨rfl, rfl⟩ := hh
      rw [hcv] at hc
      generalize hcc : ρ c = cc at hc
      cases hc
      exact ⟨_, _, w, e, by simp only [execOp, hcc, asBool, Sem.run_bind, Sem.run_pure, Result.andThen_ok, if_false, Bool.false_eq_true], .value _, hr b (by simp [Op.operands]), Post.refl hp⟩
    · cases hh
  case alloc t =>
    split at hh
    · rename_i z hz; exact (good_alloc hz hh hp).next
    · cases hh
  case box t x => exact (good_box hh (hr x (by simp [Op.operands])) hp).next
  case build t ps =>
    obtain ⟨h1, rfl⟩ := pureOk_some hh
    obtain ⟨g1, g2⟩ := evP_rel (e := e) (tm := tm) (ρ := ρ) ps.toList (fun p hm => hr p.2 (by simp only [Op.operands, List.mem_map]; exact ⟨p, hm, rfl⟩))
    exact ((goodP_build h1 (by simpa using g1) (by simpa using g2)).good hp).next
  case buildSlice t n ps =>
    obtain ⟨g1, g2⟩ := evP_rel (e := e) (tm := tm) (ρ := ρ) ps.toList (fun p hm => hr p.2 (by simp only [Op.operands, List.mem_map]; exact ⟨p, hm, rfl⟩))
    exact (good_buildSlice hh (by simpa using g1) (by simpa using g2) hp).next
  case load t a => exact (good_load hh (hr a (by simp [Op.operands])) hp).next
  case store t a x =>
    unfold unitOk at hh
    split at hh
    · rename_i h1 hs
      simp only [Option.some.injEq, Prod.mk.injEq] at hh
      obtain ⟨rfl, rfl⟩ := hh
      exact (good_store hs (hr a (by simp [Op.operands])) (hr x (by simp [Op.operands])) hp).next
    · cases hh
  case nilCheck x =>
    obtain ⟨h1, rfl⟩ := pureOk_some hh
    obtain ⟨cv, g1, g2⟩ := goodP_nilCheck (P := P) (w := w) (ρ := ρ) (o := x) (dst := dst) (ty := ty) (pos := pos) (af := af) (gd := gd) h1 (hr x (by simp [Op.operands])) rfl
    exact ⟨_, cv, w, e, g1, .value _, g2, Post.refl hp⟩
  case binOp op t x y _ =>
    obtain ⟨h1, rfl⟩ := pureOk_some hh
    exact ((goodP_bin h1 (hr x (by simp [Op.operands])) (hr y (by simp [Op.operands]))).good hp).next
  case unOp op _ x =>
    obtain ⟨h1, rfl⟩ := pureOk_some hh
    exact ((goodP_un h1 (hr x (by simp [Op.operands]))).good hp).next
  case convert s d x => exact (good_conv hh (hr x (by simp [Op.operands])) hp).next
  case makeInterface t x =>
    split at hh
    · cases hh
    · rename_i u hne hu
      simp only [Option.some.injEq, Prod.mk.injEq] at hh
      obtain ⟨rfl, rfl⟩ := hh
      refine Good.next (s := Instr.makeInterface t (ρ x)) ⟨.iface t (ρ x), w, e, ?_, .iface _ _ _ (hr x (by simp [Op.operands])), Post.refl hp⟩
      simp only [Instr.makeInterface, Sem.run_bind, run_und hu, Result.andThen_ok]
      cases u <;> first | exact absurd rfl (hne _) | rfl
    · cases hh
  case makeFunc f fs cs =>
    cases f <;> simp only [simpleA] at hh <;> try (cases hh; done)
    · rename_i g
      simp only [Option.some.injEq, Prod.mk.injEq] at hh
      obtain ⟨rfl, rfl⟩ := hh
      refine Good.next (s := Instr.makeFunc (.func g) (fs.map ρ) (cs.map ρ)) ⟨.func (.func g) (fs.map ρ) (cs.map ρ), w, e, rfl, ?_, Post.refl hp⟩
      have := VR.fn (e := e) g _ _ _ _ (evL_rel' fs.toList fun x hx => hr x (by simp only [Op.operands, Array.toList_append, List.mem_append]; exact .inl hx)) (evL_rel' cs.toList fun x hx => hr x (by simp only [Op.operands, Array.toList_append, List.mem_append]; exact .inr hx))
      rw [← Array.toList_map, ← Array.toList_map, Array.toArray_toList, Array.toArray_toList] at this
      exact this
  case makeMap t r =>
    cases r with
    | none =>
      simp only [simpleA, Option.some.injEq, Prod.mk.injEq] at hh
      obtain ⟨rfl, rfl⟩ := hh
      obtain ⟨e', h1, h2, h3⟩ := good_newMap (P := P) hp
      exact Good.next (s := Instr.makeMap t none) ⟨_, _, e', by simp only [Instr.makeMap, Sem.run_bind, h1, Sem.run_pure, Result.andThen_ok], h2, h3⟩
    | some r =>
      simp only [simpleA] at hh
      split at hh
      · rename_i kt el k n hu hrv
        simp only [Option.some.injEq, Prod.mk.injEq] at hh
        obtain ⟨rfl, rfl⟩ := hh
        have hrr := hr r (by simp [Op.operands])
        rw [hrv] at hrr
        generalize hcc : ρ r = cc at hrr
        cases hrr
        obtain ⟨e', h1, h2, h3⟩ := good_newMap (P := P) hp
        refine Good.next (s := Instr.makeMap t ((some r).map ρ)) ⟨_, _, e', ?_, h2, h3⟩
        simp only [Instr.makeMap, Option.map_some, hcc, Sem.run_bind, run_und hu, Result.andThen_ok, asInt, asIntOf, Sem.run_pure, h1]
      · cases hh
  case makeSlice t l c => exact (good_makeSlice hh (hr l (by simp [Op.operands])) (hr c (by simp [Op.operands])) hp).next
  case slice t x lo hi mx =>
    cases mx with
    | some _ => simp only [simpleA] at hh; cases hh
    | none =>
      simp only [simpleA] at hh
      obtain ⟨h1, rfl⟩ := pureOk_some hh
      have hO : ∀ o : Option Operand, (o = lo ∨ o = hi) → (∀ a, evO tm o = some a → ∃ c, o.map ρ = some c ∧ VR e a c) ∧ (evO tm o = none → o.map ρ = none) := by
        intro o hlh
        cases o with
        | none => exact ⟨fun a ha => by simp [evO] at ha, fun _ => rfl⟩
        | some y => exact ⟨fun a ha => by simp only [evO, Option.some.injEq] at ha; subst ha; exact ⟨_, rfl, hr y (by rcases hlh with hl | hl <;> simp [Op.operands, ← hl])⟩, fun hn => by simp [evO] at hn⟩
      exact ((goodP_slice h1 (hr x (by simp [Op.operands])) (hO lo (.inl rfl)).1 (hO lo (.inl rfl)).2 (hO hi (.inr rfl)).1 (hO hi (.inr rfl)).2).good hp).next
  case fieldAddr t x f =>
    obtain ⟨h1, rfl⟩ := pureOk_some hh
    exact ((goodP_fieldAddr h1 (hr x (by simp [Op.operands]))).good hp).next
  case field t x f =>
    obtain ⟨h1, rfl⟩ := pureOk_some hh
    exact ((goodP_field h1 (hr x (by simp [Op.operands]))).good hp).next
  case indexAddr t x i =>
    obtain ⟨h1, rfl⟩ := pureOk_some hh
    exact ((goodP_indexAddr h1 (hr x (by simp [Op.operands])) (hr i (by simp [Op.operands]))).good hp).next
  case index t x i =>
    obtain ⟨h1, rfl⟩ := pureOk_some hh
    exact ((goodP_index h1 (hr x (by simp [Op.operands])) (hr i (by simp [Op.operands]))).good hp).next
  case lookup t m k ok => exact (good_lookup hh (hr m (by simp [Op.operands])) (hr k (by simp [Op.operands])) hp).next
  case insert t m k x =>
    unfold unitOk at hh
    split at hh
    · rename_i h1 hs
      simp only [Option.some.injEq, Prod.mk.injEq] at hh
      obtain ⟨rfl, rfl⟩ := hh
      exact (good_update hs (hr m (by simp [Op.operands])) (hr k (by simp [Op.operands])) (hr x (by simp [Op.operands])) hp).next
    · cases hh
  case mapUpdate t m k x =>
    unfold unitOk at hh
    split at hh
    · rename_i h1 hs
      simp only [Option.some.injEq, Prod.mk.injEq] at hh
      obtain ⟨rfl, rfl⟩ := hh
      exact (good_update hs (hr m (by simp [Op.operands])) (hr k (by simp [Op.operands])) (hr x (by simp [Op.operands])) hp).next
    · cases hh
  case extract t i =>
    obtain ⟨h1, rfl⟩ := pureOk_some hh
    exact ((goodP_extract h1 (hr t (by simp [Op.operands]))).good hp).next

theorem good_builtin {b : Builtin} {ts : Array TypeId} {ty : TypeId} {cs : Array Bool} {args : List AV} {cargs : Array Value} {v : AV} (hh : builtinA P b ts.toList args h = some (v, h')) (hr : VRL e args cargs.toList)
    (hp : Pre G e D h h' w) : GoodN P (builtin b ts ty cs cargs) e D h h' w v := by
  obtain ⟨cl, rfl⟩ : ∃ cl : List Value, cargs = cl.toArray := ⟨cargs.toList, by simp⟩
  simp only at hr
  unfold builtinA at hh
  split at hh
  · rename_i t _ x _ hts
    cases hr with | cons _ cx _ _ hx hr =>
    exact (good_len (by rw [← Array.getElem?_toList, hts]; rfl) hh hx hp).next
  · rename_i t _ x _ hts
    obtain ⟨h1, rfl⟩ := pureOk_some hh
    cases hr with | cons _ cx _ _ hx hr =>
    exact ((goodP_cap (by rw [← Array.getElem?_toList, hts]; rfl) h1 hx).good hp).next
  · rename_i t xt _ s x _ hts
    cases hr with | cons _ cs _ _ hs hr =>
    cases hr with | cons _ cx _ _ hx hr =>
    exact (good_append (by rw [← Array.getElem?_toList, hts]; rfl) (by rw [← Array.getElem?_toList, hts]; rfl) hh hs hx hp).next
  · rename_i t _ d x _ hts
    cases hr with | cons _ cd _ _ hd hr =>
    cases hr with | cons _ cx _ _ hx hr =>
    exact (good_copy (by rw [← Array.getElem?_toList, hts]; rfl) hh hd hx hp).next
  · rename_i x xs
    obtain ⟨h1, rfl⟩ := pureOk_some hh
    cases hr with | cons _ cx _ cxs hx hr =>
    exact ((goodP_fold goodP_min2 _ _ _ _ _ h1 hx hr).good hp).next
  · rename_i x xs
    obtain ⟨h1, rfl⟩ := pureOk_some hh
    cases hr with | cons _ cx _ cxs hx hr =>
    exact ((goodP_fold goodP_max2 _ _ _ _ _ h1 hx hr).good hp).next
  · simp only [Option.some.injEq, Prod.mk.injEq] at hh
    obtain ⟨rfl, rfl⟩ := hh
    exact ⟨_, _, w, e, by simp only [builtin, Sem.run_pure], .recover, .ifaceN, Post.refl hp⟩
  · cases hh
end Go.AX

/-! AX: what is read grows; numbers grow. -/
namespace Go.AX

structure AH.Le (h h' : AH) : Prop where
  next : h.next ≤ h'.next
  R : ∀ id, h.R.testBit id = true → h'.R.testBit id = true

variable {G : Nat → Obj → Prop} {P : Program} {h h1 h' : AH}

theorem AH.Le.refl (h : AH) : h.Le h := ⟨Nat.le_refl _, fun _ h => h⟩
theorem AH.Le.trans (a : h.Le h1) (b : h1.Le h') : h.Le h' := ⟨Nat.le_trans a.next b.next, fun id hr => b.R id (a.R id hr)⟩
theorem AH.Le.rd (h : AH) (id : Nat) : h.Le (h.rd id) := ⟨by simp, fun j hj => by simp only [AH.rd_R, testBit_or_shift, hj, Bool.true_or]⟩
theorem AH.Le.wr (h : AH) (id : Nat) (o : Option AObj) : h.Le (h.wr id o) := ⟨by simp, rd_bits o⟩
theorem AH.Le.new (h : AH) (o : AObj) : h.Le (h.new o) := ⟨by simp, fun j hj => by simpa using hj⟩

theorem Pre.le {e : Env} {D : Nat → Prop} {w : World} (hp : Pre G e D h h' w) (hl : h1.Le h') : Pre G e D h h1 w := hp.first hl.next hl.R

theorem mono_first {s n : Nat} {x : AV} {cs : List AV} (hh : firstA s n x h = some (cs, h1)) : h.Le h1 :=
  let ⟨a, _, c⟩ := first_next hh
  ⟨Nat.le_of_eq a.symm, c⟩

theorem mono_load {t : Nat} {a v : AV} (hh : loadA P t a h = some (v, h')) : h.Le h' := by
  unfold loadA at hh
  repeat' (first | (cases hh; done) | split at hh)
  all_goals
    simp only [Option.some.injEq, Prod.mk.injEq] at hh
    first
      | (have hq := And.right hh; subst hq; first | exact AH.Le.refl _ | exact AH.Le.rd _ _ | exact AH.Le.wr _ _ _ | exact AH.Le.new _ _)
      | (subst hh; first | exact AH.Le.refl _ | exact AH.Le.rd _ _ | exact AH.Le.wr _ _ _ | exact AH.Le.new _ _)
theorem mono_store {t : Nat} {a x : AV} (hh : storeA P t a x h = some h') : h.Le h' := by
  unfold storeA at hh
  repeat' (first | (cases hh; done) | split at hh)
  all_goals
    simp only [Option.some.injEq, Prod.mk.injEq] at hh
    first
      | (have hq := And.right hh; subst hq; first | exact AH.Le.refl _ | exact AH.Le.rd _ _ | exact AH.Le.wr _ _ _ | exact AH.Le.new _ _)
      | (subst hh; first | exact AH.Le.refl _ | exact AH.Le.rd _ _ | exact AH.Le.wr _ _ _ | exact AH.Le.new _ _)
theorem mono_newVar {v x : AV} (hh : newVarA v h = some (x, h')) : h.Le h' := by
  unfold newVarA at hh
  repeat' (first | (cases hh; done) | split at hh)
  all_goals
    simp only [Option.some.injEq, Prod.mk.injEq] at hh
    first
      | (have hq := And.right hh; subst hq; first | exact AH.Le.refl _ | exact AH.Le.rd _ _ | exact AH.Le.wr _ _ _ | exact AH.Le.new _ _)
      | (subst hh; first | exact AH.Le.refl _ | exact AH.Le.rd _ _ | exact AH.Le.wr _ _ _ | exact AH.Le.new _ _)
theorem mono_len {t : Nat} {x v : AV} (hh : lenA P t x h = some (v, h')) : h.Le h' := by
  unfold lenA at hh
  repeat' (first | (cases hh; done) | split at hh)
  all_goals
    simp only [Option.some.injEq, Prod.mk.injEq] at hh
    first
      | (have hq := And.right hh; subst hq; first | exact AH.Le.refl _ | exact AH.Le.rd _ _ | exact AH.Le.wr _ _ _ | exact AH.Le.new _ _)
      | (subst hh; first | exact AH.Le.refl _ | exact AH.Le.rd _ _ | exact AH.Le.wr _ _ _ | exact AH.Le.new _ _)
theorem mono_conv {s d : Nat} {x v : AV} (hh : convHA P s d x h = some (v, h')) : h.Le h' := by
  unfold convHA at hh
  repeat' (first | (cases hh; done) | split at hh)
  all_goals
    simp only [Option.some.injEq, Prod.mk.injEq] at hh
    first
      | (have hq := And.right hh; subst hq; first | exact AH.Le.refl _ | exact AH.Le.rd _ _ | exact AH.Le.wr _ _ _ | exact AH.Le.new _ _)
      | (subst hh; first | exact AH.Le.refl _ | exact AH.Le.rd _ _ | exact AH.Le.wr _ _ _ | exact AH.Le.new _ _)
theorem mono_buildSlice {t n : Nat} {ps : List (Nat × AV)} {v : AV} (hh : buildSliceA P t n ps h = some (v, h')) : h.Le h' := by
  unfold buildSliceA at hh
  repeat' (first | (cases hh; done) | split at hh)
  all_goals
    simp only [Option.some.injEq, Prod.mk.injEq] at hh
    first
      | (have hq := And.right hh; subst hq; first | exact AH.Le.refl _ | exact AH.Le.rd _ _ | exact AH.Le.wr _ _ _ | exact AH.Le.new _ _)
      | (subst hh; first | exact AH.Le.refl _ | exact AH.Le.rd _ _ | exact AH.Le.wr _ _ _ | exact AH.Le.new _ _)
theorem mono_makeSlice {t : Nat} {l c v : AV} (hh : makeSliceA P t l c h = some (v, h')) : h.Le h' := by
  unfold makeSliceA at hh
  repeat' (first | (cases hh; done) | split at hh)
  all_goals
    simp only [Option.some.injEq, Prod.mk.injEq] at hh
    first
      | (have hq := And.right hh; subst hq; first | exact AH.Le.refl _ | exact AH.Le.rd _ _ | exact AH.Le.wr _ _ _ | exact AH.Le.new _ _)
      | (subst hh; first | exact AH.Le.refl _ | exact AH.Le.rd _ _ | exact AH.Le.wr _ _ _ | exact AH.Le.new _ _)
theorem mono_lookup {t : Nat} {m k v : AV} {ok : Bool} (hh : lookupA P t m k ok h = some (v, h')) : h.Le h' := by
  unfold lookupA at hh
  repeat' (first | (cases hh; done) | split at hh)
  all_goals
    simp only [Option.some.injEq, Prod.mk.injEq] at hh
    first
      | (have hq := And.right hh; subst hq; first | exact AH.Le.refl _ | exact AH.Le.rd _ _ | exact AH.Le.wr _ _ _ | exact AH.Le.new _ _)
      | (subst hh; first | exact AH.Le.refl _ | exact AH.Le.rd _ _ | exact AH.Le.wr _ _ _ | exact AH.Le.new _ _)
theorem mono_update {t : Nat} {m k v : AV} (hh : updateA P t m k v h = some h') : h.Le h' := by
  unfold updateA at hh
  repeat' (first | (cases hh; done) | split at hh)
  all_goals
    simp only [Option.some.injEq, Prod.mk.injEq] at hh
    first
      | (have hq := And.right hh; subst hq; first | exact AH.Le.refl _ | exact AH.Le.rd _ _ | exact AH.Le.wr _ _ _ | exact AH.Le.new _ _)
      | (subst hh; first | exact AH.Le.refl _ | exact AH.Le.rd _ _ | exact AH.Le.wr _ _ _ | exact AH.Le.new _ _)

theorem mono_grow {el s sLen n : Nat} {sl x v : AV} (hh : growA P el s sLen n sl x h = some (v, h')) : h.Le h' := by
  unfold growA at hh
  repeat' (first | (cases hh; done) | split at hh)
  rename_i _ old h1 hold _ _ new h2 z hnew hz _ hc
  simp only [Option.some.injEq, Prod.mk.injEq] at hh
  obtain ⟨_, rfl⟩ := hh
  exact (mono_first hold).trans ((mono_first hnew).trans (AH.Le.new _ _))
theorem mono_room {s n id off len cap : Nat} {x v : AV} (hh : roomA s n id off len cap x h = some (v, h')) : h.Le h' := by
  unfold roomA at hh
  repeat' (first | (cases hh; done) | split at hh)
  rename_i _ new h1 hnew _ vs o hm _ vs' hst
  simp only [Option.some.injEq, Prod.mk.injEq] at hh
  obtain ⟨_, rfl⟩ := hh
  exact (mono_first hnew).trans (AH.Le.wr _ _ _)
theorem mono_roomU {s n id off len es : Nat} {x v : AV} (hh : roomUA s n id off len es x h = some (v, h')) : h.Le h' := by
  unfold roomUA at hh
  repeat' (first | (cases hh; done) | split at hh)
  rename_i _ new h1 hnew _ vs o hm _ vs' hst
  simp only [Option.some.injEq, Prod.mk.injEq] at hh
  obtain ⟨_, rfl⟩ := hh
  exact (mono_first hnew).trans (AH.Le.wr _ _ _)
theorem mono_maybe {el s n id len : Nat} {x v : AV} (hh : maybeA P el s n id len x h = some (v, h')) : h.Le h' := by
  unfold maybeA at hh
  repeat' (first | (cases hh; done) | split at hh)
  rename_i _ new h1 z hnew hz _ vs hm _ hc
  simp only [Option.some.injEq, Prod.mk.injEq] at hh
  obtain ⟨_, rfl⟩ := hh
  exact (mono_first hnew).trans ((AH.Le.wr _ _ _).trans (AH.Le.new _ _))
theorem mono_append {t xt : Nat} {sl x v : AV} (hh : appendA P t xt sl x h = some (v, h')) : h.Le h' := by
  have h2 : ∀ el s n, append2A P el s n sl x h = some (v, h') → h.Le h' := by
    intro el s n hh
    unfold append2A at hh
    repeat' (first | (cases hh; done) | split at hh)
    all_goals first
      | exact mono_grow hh
      | exact mono_room hh
      | exact mono_roomU hh
      | exact mono_maybe hh
      | (simp only [Option.some.injEq, Prod.mk.injEq] at hh; obtain ⟨_, rfl⟩ := hh; exact AH.Le.refl _)
  unfold appendA at hh
  repeat' (first | (cases hh; done) | split at hh)
  all_goals exact h2 _ _ _ hh
theorem mono_copy {t : Nat} {d x v : AV} (hh : copyA P t d x h = some (v, h')) : h.Le h' := by
  unfold copyA at hh
  split at hh
  · split at hh
    · split at hh
      · rename_i hf
        refine (mono_first hf).trans ?_
        repeat' (first | (cases hh; done) | split at hh)
        all_goals
          simp only [Option.some.injEq, Prod.mk.injEq] at hh
          first
            | (have hq := And.right hh; subst hq; first | exact AH.Le.refl _ | exact AH.Le.rd _ _ | exact AH.Le.wr _ _ _ | exact AH.Le.new _ _)
            | (subst hh; first | exact AH.Le.refl _ | exact AH.Le.rd _ _ | exact AH.Le.wr _ _ _ | exact AH.Le.new _ _)
      · cases hh
    · cases hh
  · cases hh
theorem mono_pure {x : Option AV} {v : AV} (hh : pureOk x h = some (v, h')) : h.Le h' := by
  obtain ⟨_, h1⟩ := pureOk_some hh
  simp only at h1
  subst h1; exact AH.Le.refl _
theorem mono_unit {x : Option AH} {v : AV} (hh : unitOk x = some (v, h')) (hx : ∀ h1, x = some h1 → h.Le h1) : h.Le h' := by
  unfold unitOk at hh
  split at hh
  · simp only [Option.some.injEq, Prod.mk.injEq] at hh
    obtain ⟨_, rfl⟩ := hh
    exact hx _ rfl
  · cases hh
theorem mono_builtin {b : Builtin} {ts : List TypeId} {args : List AV} {v : AV} (hh : builtinA P b ts args h = some (v, h')) : h.Le h' := by
  unfold builtinA at hh
  repeat' (first | (cases hh; done) | split at hh)
  all_goals first
    | exact mono_len hh
    | exact mono_pure hh
    | exact mono_append hh
    | exact mono_copy hh
    | (simp only [Option.some.injEq, Prod.mk.injEq] at hh; obtain ⟨_, rfl⟩ := hh; exact AH.Le.refl _)
theorem mono_simple {tm : Tr AV} {o : Op} {v : AV} (hh : simpleA P tm o h = some (v, h')) : h.Le h' := by
  unfold simpleA at hh
  repeat' (first | (cases hh; done) | split at hh)
  all_goals first
    | exact mono_pure hh
    | exact mono_unit hh (fun _ hx => mono_store hx)
    | exact mono_unit hh (fun _ hx => mono_update hx)
    | exact mono_load hh
    | exact mono_newVar hh
    | exact mono_conv hh
    | exact mono_buildSlice hh
    | exact mono_makeSlice hh
    | exact mono_lookup hh
    | (simp only [Option.some.injEq, Prod.mk.injEq] at hh; obtain ⟨_, rfl⟩ := hh; first | exact AH.Le.refl _ | exact AH.Le.new _ _)

/-- The functions of one depth keep it. -/
structure FnsLe (t : Fns) : Prop where
  xf : ∀ {fs tm k ds h v h'}, t.xf fs tm k ds h = some (v, h') → h.Le h'
  code : ∀ {c k fs tm ds h v h'}, t.code c k fs tm ds h = some (v, h') → h.Le h'
  unwind : ∀ {ds fs tm h v h'}, t.unwind ds fs tm h = some (v, h') → h.Le h'
  call : ∀ {f args h v h'}, t.call f args h = some (v, h') → h.Le h'
  callD : ∀ {f args h v h'}, t.callD f args h = some (v, h') → h.Le h'

theorem oc_get {α β : Type} {o : Option α} {s : α → Option β} {r : β} (h : oc o none s = some r) : ∃ a, o = some a ∧ s a = some r := by
  cases o with
  | none => simp [oc] at h
  | some a => exact ⟨a, rfl, h⟩
theorem bc_get {α : Type} {b : Bool} {x y : Option α} {r : α} (h : bc b x y = some r) : (b = true ∧ x = some r) ∨ (b = false ∧ y = some r) := by
  cases b with
  | true => exact .inl ⟨rfl, h⟩
  | false => exact .inr ⟨rfl, h⟩

section
variable {t : Fns} (T : FnsLe t)
include T

theorem mono_round {l : Nat} {args : List AV} {v : AV} (hh : xround t l args h = some (v, h')) : h.Le h' := by
  unfold xround at hh
  repeat' (first | (cases hh; done) | split at hh)
  exact (AH.Le.rd _ _).trans (T.xf hh)
theorem mono_goal {g : Goal} {v : AV} (hh : xgoal t g h = some (v, h')) : h.Le h' := by
  unfold xgoal at hh
  split at hh
  · exact T.call hh
  · exact mono_round T hh
  · cases hh
theorem mono_callO {c : Call} {tm : Tr AV} {v : AV} (hh : xcallO P t c tm h = some (v, h')) : h.Le h' := by
  unfold xcallO at hh
  split at hh
  · exact mono_builtin hh
  · exact mono_goal T hh
  · cases hh
theorem mono_op {o : Op} {tm : Tr AV} {v : AV} (hh : xop P t o tm h = some (v, h')) : h.Le h' := by
  unfold xop at hh
  split at hh
  · exact mono_callO T hh
  · simp only [Option.some.injEq, Prod.mk.injEq] at hh; obtain ⟨_, rfl⟩ := hh; exact AH.Le.refl _
  · simp only [Option.some.injEq, Prod.mk.injEq] at hh; obtain ⟨_, rfl⟩ := hh; exact AH.Le.refl _
  · exact mono_load hh
  · exact mono_pure hh
  · exact mono_simple hh
theorem mono_ops {fs : FS} {ops : Array Oper} : ∀ {os : List Oper} {tm : Tr AV} {ds : List ADefer} {h : AH} {r : Tr AV × List ADefer × AH}, xops P t fs ops os tm ds h = some r → h.Le r.2.2
  | [], tm, ds, h, r, hh => by
    simp only [xops, Option.some.injEq] at hh; subst hh; exact AH.Le.refl _
  | o :: os, tm, ds, h, r, hh => by
    simp only [xops] at hh
    obtain ⟨want, hw, hh⟩ := oc_get hh
    rcases bc_get hh with ⟨_, hh⟩ | ⟨_, hh⟩
    · rcases bc_get hh with ⟨_, hh⟩ | ⟨_, hh⟩
      · obtain ⟨_, _, hh⟩ := oc_get hh
        obtain ⟨_, _, hh⟩ := oc_get hh
        exact mono_ops hh
      · obtain ⟨r1, h1, hh⟩ := oc_get hh
        obtain ⟨_, _, hh⟩ := oc_get hh
        exact (mono_op T (v := r1.1) (h' := r1.2) h1).trans (mono_ops hh)
    · obtain ⟨_, _, hh⟩ := oc_get hh
      exact mono_ops hh
end

@[simp] theorem AH.clean_next (h : AH) : h.clean.next = h.next := by cases h; rfl
@[simp] theorem AH.clean_mem (h : AH) : h.clean.mem = h.mem := by cases h; rfl
@[simp] theorem AH.clean_R (h : AH) : h.clean.R = 0 := by cases h; rfl
@[simp] theorem AH.clean_W (h : AH) : h.clean.W = 0 := by cases h; rfl
@[simp] theorem AH.join_next (h : AH) (R W : Nat) : (h.join R W).next = h.next := by cases h; rfl
@[simp] theorem AH.join_mem (h : AH) (R W : Nat) : (h.join R W).mem = h.mem := by cases h; rfl
@[simp] theorem AH.join_R (h : AH) (R W : Nat) : (h.join R W).R = R := by cases h; rfl
@[simp] theorem AH.join_W (h : AH) (R W : Nat) : (h.join R W).W = W := by cases h; rfl

section
variable {t : Fns} (T : FnsLe t)
include T
theorem mono_drawn {fs : FS} {ops : Array Oper} : ∀ {os : List Oper} {i : Nat} {feet : List Foot} {tm : Tr AV} {h : AH} {R W : Nat} {r : Tr AV × AH}, xdraw P t fs ops os i feet tm h R W = some r →
    h.next ≤ r.2.next ∧ (∀ id, R.testBit id = true → r.2.R.testBit id = true) ∧ (∀ id, W.testBit id = true → r.2.W.testBit id = true)
  | [], i, feet, tm, h, R, W, r, hh => by
    simp only [xdraw, Option.some.injEq] at hh; subst hh
    exact ⟨by simp, fun _ h => by simpa using h, fun _ h => by simpa using h⟩
  | o :: os, i, feet, tm, h, R, W, r, hh => by
    simp only [xdraw] at hh
    obtain ⟨bf, _, hh⟩ := oc_get hh
    rcases bc_get hh with ⟨_, hh⟩ | ⟨_, hh⟩
    · cases hh
    · obtain ⟨r1, h1, hh⟩ := oc_get hh
      rcases bc_get hh with ⟨_, hh⟩ | ⟨_, hh⟩
      · obtain ⟨tm', _, hh⟩ := oc_get hh
        obtain ⟨a1, a2, a3⟩ := mono_drawn hh
        have hle : h.next ≤ r1.2.next := by
          obtain ⟨want, _, h1⟩ := oc_get h1
          rcases bc_get h1 with ⟨_, h1⟩ | ⟨_, h1⟩
          · exact (mono_op T (v := r1.1) (h' := r1.2) h1).next
          · simp only [Option.some.injEq] at h1; subst h1; exact Nat.le_refl _
        refine ⟨Nat.le_trans hle (by simpa using a1), fun id hr => a2 id ?_, fun id hr => a3 id ?_⟩
        · show (R ||| r1.2.R).testBit id = true
          rw [Nat.testBit_or, hr]; rfl
        · show (W ||| r1.2.W).testBit id = true
          rw [Nat.testBit_or, hr]; rfl
      · cases hh
theorem mono_draw {fs : FS} {ops : Array Oper} {tm : Tr AV} {h : AH} {r : Tr AV × AH} (hh : xdraw P t fs ops ops.toList 0 [] tm h.clean h.R h.W = some r) : h.Le r.2 := by
  obtain ⟨a1, a2, _⟩ := mono_drawn T hh
  exact ⟨by simpa using a1, a2⟩

theorem mono_leave {jump : Option Code} {fs : FS} {tm : Tr AV} {ds : List ADefer} {v : AV} (hh : xleave t jump fs tm ds h = some (v, h')) : h.Le h' := by
  unfold xleave at hh
  repeat' (first | (cases hh; done) | split at hh)
  all_goals first
    | exact T.unwind hh
    | (simp only [Option.some.injEq, Prod.mk.injEq] at hh; obtain ⟨_, rfl⟩ := hh; exact AH.Le.wr _ _ _)

omit T in
theorem mono_resultsL {tm : Tr AV} : ∀ (rs : List ResultVar) (h : AH) (vs : List AV) (h' : AH), xresultsL P rs tm h = some (vs, h') → h.Le h' := by
  intro rs
  induction rs with
  | nil => intro h vs h' hh; simp only [xresultsL, Option.some.injEq, Prod.mk.injEq] at hh; obtain ⟨_, rfl⟩ := hh; exact AH.Le.refl _
  | cons r rs ih =>
    intro h vs h' hh
    simp only [xresultsL] at hh
    split at hh
    · rename_i v1 h1 hr
      split at hh
      · rename_i vs2 h2 hrs
        simp only [Option.some.injEq, Prod.mk.injEq] at hh
        obtain ⟨_, rfl⟩ := hh
        refine AH.Le.trans ?_ (ih _ _ _ hrs)
        unfold xresult1 at hr
        repeat' (first | (cases hr; done) | split at hr)
        · simp only [Option.some.injEq, Prod.mk.injEq] at hr; obtain ⟨_, rfl⟩ := hr; exact AH.Le.refl _
        · exact mono_load hr
      · cases hh
    · cases hh

omit T in
theorem mono_results {rs : List ResultVar} {tm : Tr AV} {v : AV} (hh : xresults P rs tm h = some (v, h')) : h.Le h' := by
  have key := mono_resultsL (P := P) (tm := tm)
  unfold xresults at hh
  repeat' (first | (cases hh; done) | split at hh)
  · rename_i h1 hk
    simp only [Option.some.injEq, Prod.mk.injEq] at hh; obtain ⟨_, rfl⟩ := hh; exact key _ _ _ _ hk
  · rename_i h1 _ hk
    simp only [Option.some.injEq, Prod.mk.injEq] at hh; obtain ⟨_, rfl⟩ := hh; exact key _ _ _ _ hk
end

theorem nextFns_le {H : FuncId → List AV → AH → Option (AV × AH)} {t : Fns} (T : FnsLe t) (hH : ∀ {f args h v h'}, H f args h = some (v, h') → h.Le h') : FnsLe (nextFns P H t) where
  xf := by
    intro fs tm k ds h v h' hh
    simp only [nextFns] at hh
    unfold xfr at hh
    repeat' (first | (cases hh; done) | split at hh)
    all_goals first
      | exact mono_leave T hh
      | exact T.xf hh
      | exact T.code hh
      | exact (AH.Le.wr _ _ _).trans (T.xf hh)
      | exact (AH.Le.wr _ _ _).trans (T.code hh)
  code := by
    intro c k fs tm ds h v h' hh
    simp only [nextFns] at hh
    unfold xcode at hh
    cases c <;> simp only at hh
    case cond =>
      split at hh
      · rcases bc_get hh with ⟨_, hh⟩ | ⟨_, hh⟩ <;> exact T.code hh
      · cases hh
    case region =>
      rcases bc_get hh with ⟨_, hh⟩ | ⟨_, hh⟩
      · obtain ⟨r, hr, hh⟩ := oc_get hh
        exact (mono_draw T hr).trans (T.xf hh)
      · obtain ⟨r, hr, hh⟩ := oc_get hh
        exact (mono_ops T hr).trans (T.xf hh)
    case rangeFunc =>
      unfold xrange at hh
      split at hh
      · cases hh
      · split at hh
        · rename_i h1 hg
          exact (AH.Le.new _ _).trans ((AH.Le.new _ _).trans ((mono_goal T hg).trans (T.xf hh)))
        · cases hh
    all_goals first
      | exact T.xf hh
      | exact T.code hh
      | exact mono_leave T hh
      | (cases hh; done)
      | (split at hh <;> first | exact T.xf hh | exact mono_leave T hh)
  unwind := by
    intro ds fs tm h v h' hh
    simp only [nextFns] at hh
    unfold xunwind at hh
    repeat' (first | (cases hh; done) | split at hh)
    all_goals first
      | exact mono_results hh
      | exact (AH.Le.wr _ _ _).trans (T.unwind hh)
      | (rename_i hc; exact (T.callD hc).trans (T.unwind hh))
  call := by
    intro f args h v h' hh
    simp only [nextFns] at hh
    unfold xcall at hh
    repeat' (first | (cases hh; done) | split at hh)
    · rename_i hc
      simp only [Option.some.injEq] at hh
      subst hh
      exact hH hc
    · exact T.code hh
  callD := by
    intro f args h v h' hh
    simp only [nextFns] at hh
    unfold xcall at hh
    repeat' (first | (cases hh; done) | split at hh)
    all_goals first
      | exact T.code hh
      | (rename_i hq; cases hq)

theorem tower_le {H : FuncId → List AV → AH → Option (AV × AH)} (hH : ∀ {f args h v h'}, H f args h = some (v, h') → h.Le h') : ∀ n, FnsLe (tower P H n)
  | 0 => { xf := (by intro _ _ _ _ _ _ _ hh; cases hh), code := (by intro _ _ _ _ _ _ _ _ hh; cases hh), unwind := (by intro _ _ _ _ _ _ hh; cases hh), call := (by intro _ _ _ _ _ hh; cases hh), callD := (by intro _ _ _ _ _ hh; cases hh) }
  | n + 1 => nextFns_le (tower_le hH n) hH
end Go.AX
