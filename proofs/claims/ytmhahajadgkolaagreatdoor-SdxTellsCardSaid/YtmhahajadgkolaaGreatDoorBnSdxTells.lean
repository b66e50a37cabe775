/- Joined texts. -/
import Derived.Test.YtmhahajadgkolaaGreatDoorProg
import Derived.Test.YtmhahajadgkolaaGreatDoorBmSdxTells
set_option maxHeartbeats 1000000
namespace Go.Proofs.YtmhahajadgkolaaGreatDoor
open Go.RowKit Tryz

def isTV(r:Er Res):Bool:=match r with
 | .ok (.val v _)=>eqV v (.bool true)
 | _=>false
theorem Aex{r:Er Res}(h:isTV r=true):∃a,r=.ok (.val (.bool true) a):=by
 unfold isTV at h
 split at h
 .rename_i v a
  rw[NR _ _ h]
  exact⟨a,rfl⟩
 .cases h
theorem Acf:isTV (runE prog E0 3000 (.call 7 [] H0))=true:=by decide +kernel
theorem Ag4(w:World)(b:GWv w):Cl 7 #[] w λe a=>e=.returned (.bool true)/\Frm F0 w a:=by
 obtain⟨g,h⟩:=Aex Acf
 have d:=((Aeb (w0:=w) mixed Va 3000).call _ _ _ _ _ h).2
 refine(d _ [] [] w [] (sr0 b) .nil (St.start _ _)).mono ?_
 rintro e a ⟨j,i,k,rfl,_,_,f,c⟩
 cases f with
 | plain _=>exact⟨rfl,c.frm⟩
end Go.Proofs.YtmhahajadgkolaaGreatDoor
