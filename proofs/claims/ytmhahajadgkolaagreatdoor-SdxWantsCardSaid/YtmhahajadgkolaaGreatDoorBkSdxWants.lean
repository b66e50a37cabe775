/- Texts joined: engine, contracts and laws, in the order in which they build. -/
import Derived.Test.YtmhahajadgkolaaGreatDoorRows
import Derived.Test.YtmhahajadgkolaaGreatDoorCards
import Derived.Test.YtmhahajadgkolaaGreatDoorTie
import Derived.WalkKit
import Derived.ProofKit
import Derived.OpenShut
import Derived.ShutString
import Derived.ChangeOld
import Derived.Below
import Derived.LaidMore
import Derived.Stop.Joined
import Derived.SevenTiedAt
import Derived.Lib.LaidTab
import Derived.Test.YtmhahajadgkolaaGreatDoorBjSdxWants
/- SdxWants: the statement's row holds. -/
namespace Go.Proofs.YtmhahajadgkolaaGreatDoor.sdxWants
open Go.ChangeShapes Go.WideShapes Go.ChangeAt Go.RowKit
set_option linter.unusedVariables false

theorem over : Rows.sdxWantsRow.holds Tryz.pinned (OpenSpec.ofChange Rows.sdxWantsSpec) :=
  OpenClaim.holds_of_wide 3 Tryz.f3 rfl rfl rfl rfl rfl rfl rfl ⟨rfl, rfl, rfl, rfl, rfl⟩ rfl rfl rfl rfl rfl (by as_aux_lemma => kernel_rfl) Tryz.func3 closed
    (of_decide_eq_true (by as_aux_lemma => kernel_rfl)) (by as_aux_lemma => unfold Func.isWrapper; first | (rw [if_pos (by decide +kernel)]; kernel_rfl) | (rw [if_neg (by decide +kernel)]; exact ⟨rfl, rfl⟩))
    (fun os started H enc _ => lifted os started H enc)

end Go.Proofs.YtmhahajadgkolaaGreatDoor.sdxWants
