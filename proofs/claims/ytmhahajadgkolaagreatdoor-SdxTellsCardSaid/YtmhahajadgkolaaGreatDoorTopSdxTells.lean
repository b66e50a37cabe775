/- 'SdxTells' of every input: true, and nothing that was there has turned. No condition. (The frame is the kit's own shell, the walk is ours.) -/
import Derived.Test.YtmhahajadgkolaaGreatDoorRows
import Derived.Test.YtmhahajadgkolaaGreatDoorBrSdxTells
import Derived.Test.YtmhahajadgkolaaGreatDoorCards
import Derived.Test.YtmhahajadgkolaaGreatDoorTie
import Derived.WalkKit
import Derived.ProofKit
import Derived.OpenShut
import Derived.ShutString
import Derived.ChangeOld
import Derived.Below
import Derived.LaidMore
import Derived.Stop.Joined
import Derived.SevenTiedAt
import Derived.Lib.LaidTab
namespace Go.Proofs.YtmhahajadgkolaaGreatDoor.sdxTells
open Go.ChangeShapes Go.WideShapes Go.ChangeAt Go.RowKit
set_option linter.unusedVariables false

/-- ████ THE STATEMENT: THE TIED CARD ████ -/
theorem proved : Rows.SdxTellsCardSaid :=
 Claim7.holds_tied_plain_at .later [] [.data] true (true, "fb0bae563dbdc7dd5e6454061b75ff2ab82d40a988483fe03cf9c8e185d1b877") false
  over (fun _ h => by cases h) (by as_aux_lemma => kernel_rfl) (fun _ h => by cases h) sdxTells_row_tie rfl ⟨rfl, rfl⟩ (by as_aux_lemma => kernel_rfl) rfl
  (fun f fn hf hfn => by
   obtain rfl : f = 4 := Option.some.inj ((show Tryz.prog.funcNamed "carrefour/carrefourlaw25.SdxTells" = some 4 by as_aux_lemma => kernel_rfl).symm.trans hf) |>.symm
   obtain rfl : fn = Tryz.f4 := (Option.some.inj (Tryz.func4.symm.trans hfn)).symm
   exact ⟨by as_aux_lemma => kernel_rfl, fun j t ht => by
    rw [Tryz.params4] at ht
    have hm : t ∈ [3, 62, 3] := by simpa using Array.mem_of_getElem? ht
    have hall : ([3, 62, 3].all fun u => !Tryz.prog.wantsStandIn u) = true := by as_aux_lemma => kernel_rfl
    exact (show Tryz.prog.wantsStandIn t = false by simpa using List.all_eq_true.1 hall t hm)⟩)
  (by as_aux_lemma => kernel_rfl)
#print axioms proved
end Go.Proofs.YtmhahajadgkolaaGreatDoor.sdxTells
