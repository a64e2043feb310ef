/- Whatever text comes in, stemmalaw24.ScriptWords returns true and the text reads as it did: the tied card of the statement. -/
import Derived.Test.YtimfoejkeblbeaaGreatDoorF4
import Derived.Test.YtimfoejkeblbeaaGreatDoorTie9
import Derived.Test.YtimfoejkeblbeaaGreatDoorC1
import Derived.Test.YtimfoejkeblbeaaGreatDoorC2
import Derived.Test.YtimfoejkeblbeaaGreatDoorC3
import Derived.Test.YtimfoejkeblbeaaGreatDoorCards
namespace Go.Proofs.YtimfoejkeblbeaaGreatDoor
open Go
theorem scriptWords_card_holds : Rows.ScriptWordsCardSaid :=
  Claim7.holds_tied_plain_at .later [] [.pinned, .data, .sentinel, .sentinel, .data, .data, .data] true (true, "5f9bdd42fa139dd589685cb71096a4a376e461e936ee637e34dc7c84f6d2b28c") true
    scriptWords_holds (fun _ h => by cases h) sw_wft (fun _ h => by cases h) scriptWords_row_tie rfl ⟨rfl, rfl⟩ sw_main rfl
    (fun f fn hf hfn => by
      obtain rfl : f = 3 := Option.some.inj (sw_name3.symm.trans hf) |>.symm
      obtain rfl : fn = Tryz.f3 := (Option.some.inj (Tryz.func3.symm.trans hfn)).symm
      exact ⟨sw_looks, fun j t ht => by
        rw [Tryz.params3] at ht
        have h3 : t = 9 := by
          rcases j with _ | j
          · simpa using ht.symm
          · simp at ht
        subst h3
        exact sw_stand⟩)
    sw_goes
#print axioms scriptWords_card_holds
end Go.Proofs.YtimfoejkeblbeaaGreatDoor
