/- The law 'portcullislaw16.WatchClean': what the walk gives: at every input that the row takes in, the law answers true and its argument reads afterwards as it read before. -/
import Derived.Test.YtfndgclogopdgaaGreatDoorTie
import Derived.Test.YtfndgclogopdgaaGreatDoorCards
import Derived.Test.YtfndgclogopdgaaGreatDoorSeen
import Derived.Test.YtfndgclogopdgaaGreatDoorWrap
import Derived.ProofKit
import Derived.OpenShut
import Derived.LaidMore
import Derived.Lay
import Derived.Carry
import Derived.Shelf.Vars
import Derived.SevenTiedAt
import Derived.Stop.Joined
namespace Go.Proofs.YtfndgclogopdgaaGreatDoor
open Go.ChangeShapes Go.WideShapes Go.ChangeAt Go.RowKit

theorem own : ownKnob Tryz.prog.godebug = none := by kernel_rfl
theorem laidOut : laidOutB Tryz.prog = true := by kernel_rfl

theorem maxlen {W : World} (h : W.ShapedOpen Tryz.prog) : ∃ m, W.cell? ⟨0, 0, none⟩ = some (.int .i64 m) :=
  cell_of_shapedOpen_int (t := 3) (zero := #[.int .i64 0]) h (of_decide_eq_true (by kernel_rfl)) (by kernel_rfl) rfl (by kernel_rfl) (by kernel_rfl) Tryz.underlying3

set_option maxRecDepth 100000 in
theorem slice_of {W : World} {base : Nat} {u e : TypeId} {v : Value} (hu : Tryz.prog.underlying u = some (.slice e)) (h : Cell.okWide Tryz.prog W .any base u v) : ∃ a n c, v = .slice a n c := by
  unfold Cell.okWide Cell.ok at h
  rw [hu] at h
  cases v <;> first | exact ⟨_, _, _, rfl⟩ | (exact absurd h (by simp))

set_option maxRecDepth 100000 in
theorem bool_of {W : World} {base : Nat} {u : TypeId} {v : Value} (hu : Tryz.prog.underlying u = some .bool) (h : Cell.okWide Tryz.prog W .any base u v) : ∃ b, v = .bool b := by
  unfold Cell.okWide Cell.ok at h
  rw [hu] at h
  cases v <;> first | exact ⟨_, rfl⟩ | (exact absurd h (by simp))

set_option maxRecDepth 100000 in
theorem open_seen {W : World} {base : Nat} {v : Value} (h : Value.okWide Tryz.prog W .any base 89 v) :
    ∃ a1 n1 c1 a2 n2 c2 a3 n3 c3 b1 b2, v = .agg #[.slice a1 n1 c1, .slice a2 n2 c2, .slice a3 n3 c3, .bool b1, .bool b2] := by
  unfold Value.okWide at h
  rw [Tryz.underlying89] at h
  obtain ⟨cs, rfl, hsz, ts, hts, _, hc⟩ := h
  have h5 : Tryz.prog.cellsOf 89 = 5 := by kernel_rfl
  have ht5 : Tryz.prog.cellTypes Tryz.prog.depth 89 = some [87, 25, 25, 4, 4] := by kernel_rfl
  rw [h5] at hsz
  rw [ht5] at hts
  simp only [Option.some.injEq] at hts
  subst hts
  obtain ⟨l⟩ := cs
  match l, hsz with
  | [x0, x1, x2, x3, x4], _ =>
    obtain ⟨u0, e0, g0⟩ := hc 0 x0 rfl
    obtain ⟨u1, e1, g1⟩ := hc 1 x1 rfl
    obtain ⟨u2, e2, g2⟩ := hc 2 x2 rfl
    obtain ⟨u3, e3, g3⟩ := hc 3 x3 rfl
    obtain ⟨u4, e4, g4⟩ := hc 4 x4 rfl
    simp at e0 e1 e2 e3 e4
    subst e0; subst e1; subst e2; subst e3; subst e4
    obtain ⟨a1, n1, c1, rfl⟩ := slice_of Tryz.underlying87 g0
    obtain ⟨a2, n2, c2, rfl⟩ := slice_of Tryz.underlying25 g1
    obtain ⟨a3, n3, c3, rfl⟩ := slice_of Tryz.underlying25 g2
    obtain ⟨b1, rfl⟩ := bool_of Tryz.underlying4 g3
    obtain ⟨b2, rfl⟩ := bool_of Tryz.underlying4 g4
    exact ⟨_, _, _, _, _, _, _, _, _, _, _, rfl⟩

set_option maxRecDepth 100000 in
theorem clean_lifted (os : Os) (started : os.Started) (H : Type) (enc : TypeId × Value → H) :
    ReturnsInHanded {} Tryz.checked os 12 .any (fun w args => (Rows.watchCleanSpec.pre enc Tryz.prog Tryz.f12 Rows.watchCleanRow.domain false w args ∧ laidMetH Tryz.prog Rows.watchCleanRow.laid w) ∧ sizedMet enc Tryz.prog Tryz.f12 (OpenSpec.ofChange Rows.watchCleanSpec) false w args)
      (Rows.watchCleanSpec.post enc Tryz.prog Tryz.f12 false true false false) := by
  refine handed_and_shaped (C := Tryz.checked) (X := fun w _ => laidMetH Tryz.prog Rows.watchCleanRow.laid w) (fun _ _ _ hh h => h.of_heap hh) own started (by kernel_rfl) Tryz.func12
    (ChangeSpec.witness_shaped (enc := enc) (C := Tryz.checked) (os := os) (X := fun w _ => laidMetH Tryz.prog Rows.watchCleanRow.laid w) false (World.laidAll Tryz.prog os Rows.watchCleanRow.laid)
      #[.agg #[.slice none 0 0, .slice none 0 0, .slice none 0 0, .bool false, .bool false]] 8 (World.laidAll_os _ _ _)
      (World.shaped_of_ZipB (by kernel_rfl) (by kernel_rfl)) (by kernel_rfl) (by kernel_rfl) (by kernel_rfl)
      (by rw [MakeChecks.laidMetH_plain _ _ _ (by kernel_rfl)]; exact laidMet_laidAll _ (by kernel_rfl) (by kernel_rfl))) ?_
  intro W base args ds gs before hval0 hW _ _ hsh
  have hval : ∀ (j : Nat) t v, Tryz.f12.params[j]? = some t → args[j]? = some v → Value.okWide Tryz.prog W .any base t v := hval0
  have hW' := hW
  obtain ⟨p, q, hA0, hV, rfl, _, _⟩ := hW
  have hA : DataW.TrodAll enc Tryz.prog W 0 (fun _ => true) true Tryz.f12.params.toList args.toList ds p := hA0
  rw [Tryz.params12] at hA hval
  obtain ⟨v0, d0, rfl, rfl, h0⟩ := trodAll_one hA
  obtain ⟨rfl, rfl⟩ := trodVars_none hV
  clear hA0 hval0
  simp only [List.append_nil] at hW'
  have hlt : ∀ x ∈ p, x.block < W.heap.size := fun x hx => by simpa using hW'.lt x hx
  obtain ⟨a1, n1, c1, a2, n2, c2, a3, n3, c3, b1, b2, rfl⟩ := open_seen (hval 0 89 v0 rfl rfl)
  obtain ⟨m, hm⟩ := maxlen hsh
  refine (clean_walk a1 a2 a3 n1 c1 n2 c2 n3 c3 b1 b2 hm).mono fun e W' ⟨he, hb⟩ => ?_
  subst he
  refine ⟨_, rfl, _, _, _, [], _, [], hW', ?_, trodAll_mk1 (Below.trod laidOut (by kernel_rfl) (of_decide_eq_true (by kernel_rfl)) h0 hb hlt), rfl, hb.frame _, fun h => by cases h⟩
  exact trodAll_mk1 (shut_bool Tryz.underlying4 _)

end Go.Proofs.YtfndgclogopdgaaGreatDoor
