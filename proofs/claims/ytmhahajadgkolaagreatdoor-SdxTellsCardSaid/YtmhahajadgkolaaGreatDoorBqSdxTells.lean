/- Joined texts. -/
import Derived.Test.YtmhahajadgkolaaGreatDoorRows
import Derived.JoinedOf
import Derived.Test.YtmhahajadgkolaaGreatDoorCards
import Derived.Test.YtmhahajadgkolaaGreatDoorTie
import Derived.WalkKit
import Derived.ProofKit
import Derived.OpenShut
import Derived.ShutString
import Derived.ChangeOld
import Derived.Below
import Derived.LaidMore
import Derived.Stop.Joined
import Derived.SevenTiedAt
import Derived.Lib.LaidTab
import Derived.Test.YtmhahajadgkolaaGreatDoorBpSdxTells
set_option maxHeartbeats 8000000
namespace Go.Proofs.YtmhahajadgkolaaGreatDoor.sdxTells
open Go.ChangeShapes Go.WideShapes Go.ChangeAt Go.RowKit
set_option linter.unusedVariables false

theorem closed:joinedFacts Tryz.prog 4 Tryz.f4 Rows.sdxTellsSpec Rows.sdxTellsRow=true:=by
 unfold joinedFacts
 simp only[Hr]
 refine⟨⟨⟨⟨⟨⟨⟨⟨⟨⟨⟨⟨⟨⟨⟨⟨⟨⟨⟨⟨⟨⟨⟨⟨⟨⟨⟨⟨⟨⟨⟨?_,?_⟩,?_⟩,?_⟩,?_⟩,?_⟩,?_⟩,?_⟩,?_⟩,?_⟩,?_⟩,?_⟩,?_⟩,?_⟩,?_⟩,?_⟩,?_⟩,?_⟩,?_⟩,?_⟩,?_⟩,?_⟩,?_⟩,?_⟩,?_⟩,?_⟩,?_⟩,?_⟩,?_⟩,?_⟩,?_⟩,?_⟩<;>(as_aux_lemma=>kernel_rfl)
end Go.Proofs.YtmhahajadgkolaaGreatDoor.sdxTells
