/- The law 'portcullislaw16.WatchClean': the tied card: at every input that the row takes in, the law answers true and its argument reads afterwards as it read before. -/
import Derived.Test.YtfndgclogopdgaaGreatDoorRow
import Derived.Test.YtfndgclogopdgaaGreatDoorCFacts
namespace Go.Proofs.YtfndgclogopdgaaGreatDoor
open Go.ChangeShapes Go.WideShapes Go.ChangeAt Go.RowKit

theorem watchClean_card : Rows.WatchCleanCardSaid :=
  Claim7.holds_tied_plain_at .later [] [.data, .data, .data, .data, .sentinel, .sentinel, .pinned] true (true, "c2fb594010835e350fdeb428311391298f81364d4c7d0939c98a4b39f5b9693d") true
    watchClean_row (fun _ h => by cases h) cleanCard1 (fun _ h => by cases h) watchClean_row_tie rfl ⟨rfl, rfl⟩ cleanCard2 rfl
    (fun f fn hf hfn => by
      obtain rfl : f = 12 := Option.some.inj (cleanName.symm.trans hf) |>.symm
      obtain rfl : fn = Tryz.f12 := (Option.some.inj (Tryz.func12.symm.trans hfn)).symm
      exact ⟨cleanCard3, fun j t ht => by
        rw [Tryz.params12] at ht
        have h89 : t = 89 := by
          rcases j with _ | j
          · simpa using ht.symm
          · simp at ht
        subst h89
        exact cleanCard5⟩)
    cleanCard4
end Go.Proofs.YtfndgclogopdgaaGreatDoor
