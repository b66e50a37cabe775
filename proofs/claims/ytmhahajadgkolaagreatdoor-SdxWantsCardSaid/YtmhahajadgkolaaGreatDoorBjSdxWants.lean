/- Texts joined: engine, contracts and laws, in the order in which they build. -/
import Derived.Test.YtmhahajadgkolaaGreatDoorRows
import Derived.JoinedOf
import Derived.Test.YtmhahajadgkolaaGreatDoorCards
import Derived.Test.YtmhahajadgkolaaGreatDoorTie
import Derived.WalkKit
import Derived.ProofKit
import Derived.OpenShut
import Derived.ShutString
import Derived.ChangeOld
import Derived.Below
import Derived.LaidMore
import Derived.Stop.Joined
import Derived.SevenTiedAt
import Derived.Lib.LaidTab
import Derived.Test.YtmhahajadgkolaaGreatDoorBiSdxWants
/- SdxWants: the closed facts that the statement asks for. -/
namespace Go.Proofs.YtmhahajadgkolaaGreatDoor.sdxWants
open Go.ChangeShapes Go.WideShapes Go.ChangeAt Go.RowKit
set_option linter.unusedVariables false

set_option maxHeartbeats 8000000 in
theorem closed : joinedFacts Tryz.prog 3 Tryz.f3 Rows.sdxWantsSpec Rows.sdxWantsRow = true := by
  unfold joinedFacts
  simp only [Bool.and_eq_true]
  refine ⟨⟨⟨⟨⟨⟨⟨⟨⟨⟨⟨⟨⟨⟨⟨⟨⟨⟨⟨⟨⟨⟨⟨⟨⟨⟨⟨⟨⟨⟨⟨?_, ?_⟩, ?_⟩, ?_⟩, ?_⟩, ?_⟩, ?_⟩, ?_⟩, ?_⟩, ?_⟩, ?_⟩, ?_⟩, ?_⟩, ?_⟩, ?_⟩, ?_⟩, ?_⟩, ?_⟩, ?_⟩, ?_⟩, ?_⟩, ?_⟩, ?_⟩, ?_⟩, ?_⟩, ?_⟩, ?_⟩, ?_⟩, ?_⟩, ?_⟩, ?_⟩, ?_⟩ <;> (as_aux_lemma => kernel_rfl)
end Go.Proofs.YtmhahajadgkolaaGreatDoor.sdxWants
