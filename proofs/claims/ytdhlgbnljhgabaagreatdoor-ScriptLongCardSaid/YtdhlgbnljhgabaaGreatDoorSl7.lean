/- Proved: florinlaw26.ScriptLong returns true for every input (the listed package-level variables hold what the program's text lays; no other condition). Part 13 of 13. -/
import Derived.Test.YtdhlgbnljhgabaaGreatDoorSl6
/- ScriptLong: the card. -/
namespace Go.Proofs.YtdhlgbnljhgabaaGreatDoor
open Go.ChangeShapes Go.WideShapes Go.ChangeAt Go.RowKit
set_option maxRecDepth 1000000
theorem goesBy : false = Rows.scriptLongRow.goesBy Tryz.pinned.checked.prog := by kernel_rfl
theorem card_holds : Rows.ScriptLongCardSaid :=
  Claim7.holds_tied_plain_at .later [] [.data, .data, .data, .data, .sentinel, .sentinel, .pinned] true (true, "999231993caffa8ae1e37850c171d4cefee4f713586067182a22286386069fb7") true
    row_holds (fun _ h => by cases h) byText (fun _ h => by cases h) scriptLong_row_tie rfl ⟨rfl, rfl⟩ mainIs rfl
    (fun f fn hf hfn => by
      obtain rfl : f = 3 := Option.some.inj (named3.symm.trans hf) |>.symm
      obtain rfl : fn = Tryz.f3 := (Option.some.inj (Tryz.func3.symm.trans hfn)).symm
      exact ⟨looks, fun j t ht => by
        rw [Tryz.params3] at ht
        have h3 : t = 3 := by
          rcases j with _ | j
          · simpa using ht.symm
          · simp at ht
        subst h3
        exact standIn⟩)
    goesBy
#print axioms card_holds
end Go.Proofs.YtdhlgbnljhgabaaGreatDoor
