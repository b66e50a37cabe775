/- Joined texts. -/
import Derived.Test.YtmhahajadgkolaaGreatDoorRows
import Derived.Test.YtmhahajadgkolaaGreatDoorCards
import Derived.Test.YtmhahajadgkolaaGreatDoorTie
import Derived.WalkKit
import Derived.ProofKit
import Derived.OpenShut
import Derived.ShutString
import Derived.ChangeOld
import Derived.Below
import Derived.LaidMore
import Derived.Stop.Joined
import Derived.SevenTiedAt
import Derived.Lib.LaidTab
import Derived.Test.YtmhahajadgkolaaGreatDoorBqSdxTells
set_option maxHeartbeats 1000000
namespace Go.Proofs.YtmhahajadgkolaaGreatDoor.sdxTells
open Go.ChangeShapes Go.WideShapes Go.ChangeAt Go.RowKit
set_option linter.unusedVariables false

theorem over:Rows.sdxTellsRow.holds Tryz.pinned (OpenSpec.ofChange Rows.sdxTellsSpec) :=
 OpenClaim.holds_of_wide 4 Tryz.f4 U U U U U U U ⟨rfl,rfl,rfl,rfl,rfl⟩ U U U U U (by as_aux_lemma=>kernel_rfl) Tryz.func4 closed
  (Ai8 (by as_aux_lemma=>kernel_rfl)) (by as_aux_lemma=>unfold Func.isWrapper;first|(rw[IR (by decide +kernel)];kernel_rfl)|(rw[E9 (by decide +kernel)];exact⟨rfl,rfl⟩))
  (λc a H b _=>lifted c a H b)

end Go.Proofs.YtmhahajadgkolaaGreatDoor.sdxTells
