/- Texts joined: engine, contracts and laws, in the order in which they build. -/
import Derived.Test.YtmhahajadgkolaaGreatDoorProg
import Derived.Test.YtmhahajadgkolaaGreatDoorBfSdxWants
/- The document's example, run by the kernel: it answers true. -/
namespace Go.Proofs.YtmhahajadgkolaaGreatDoor
open Go.RowKit

def isTV (r : Er Res) : Bool := match r with
  | .ok (.val v _) => eqV v (.bool true)
  | _ => false
theorem isTV_inv {r : Er Res} (h : isTV r = true) : ∃ H', r = .ok (.val (.bool true) H') := by
  unfold isTV at h
  split at h
  · rename_i v H'
    rw [eqV_eq _ _ h]
    exact ⟨H', rfl⟩
  · cases h
theorem head0_run : isTV (runE Tryz.prog E0 3000 (.call 7 [] H0)) = true := by decide +kernel
theorem head0_c (w : World) (hG : GWv w) : Calls Tryz.prog 7 #[] w fun e w' => e = .returned (.bool true) ∧ Frm F0 w w' := by
  obtain ⟨H', h⟩ := isTV_inv head0_run
  have hc := ((ev_ok (w0 := w) mixed keys_ok 3000).call _ _ _ _ _ h).2
  refine (hc _ [] [] w [] (sr0 hG) .nil (St.start _ _)).mono ?_
  rintro e w' ⟨R', L', v', rfl, _, _, hv, hW⟩
  cases hv with
  | plain _ => exact ⟨rfl, hW.frm⟩
end Go.Proofs.YtmhahajadgkolaaGreatDoor
