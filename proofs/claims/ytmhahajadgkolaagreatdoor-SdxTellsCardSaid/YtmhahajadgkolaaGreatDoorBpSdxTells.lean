/- Joined texts. -/
import Derived.Test.YtmhahajadgkolaaGreatDoorRows
import Derived.Test.YtmhahajadgkolaaGreatDoorCards
import Derived.Test.YtmhahajadgkolaaGreatDoorTie
import Derived.WalkKit
import Derived.ProofKit
import Derived.OpenShut
import Derived.ShutString
import Derived.ChangeOld
import Derived.Below
import Derived.LaidMore
import Derived.Stop.Joined
import Derived.SevenTiedAt
import Derived.Lib.LaidTab
import Derived.Test.YtmhahajadgkolaaGreatDoorBoSdxTells
set_option maxHeartbeats 1000000
namespace Go.Proofs.YtmhahajadgkolaaGreatDoor.sdxTells
open Go.ChangeShapes Go.WideShapes Go.ChangeAt Go.RowKit
set_option linter.unusedVariables false

theorem own:ownKnob Tryz.prog.godebug=none:=C6
theorem laidOut:laidOutB Tryz.prog=true:=C6

theorem walk(g:Vl)(j:Vl)(l:Vl)(w:Wd)(n:Arg Tryz.prog w 3 g)(o:Arg Tryz.prog w 62 j)(q:Arg Tryz.prog w 3 l)(b:laidMetH Tryz.prog [("carrefour/head.widths",Rows.laid_carrefour_head_widths)] w):
 Cl 4 #[g,j,l] w λe m=>e=.returned (.bool true)/\Below w.heap.size w m:=by
 obtain⟨A,rfl,_⟩:=n.int Tryz.underlying3
 obtain⟨r,c,B,rfl,z,u,d⟩:=o.sdl
 obtain⟨n2,rfl,_⟩:=q.int Tryz.underlying3
 have t:GW w:=by
  rw[MakeChecks.laidMetH_plain _ _ _ C6] at b
  have v:=Lib.tabIs_of_head (zs:=[8,48,48,16,32,32,8,16,16]) (k:=.i64) (show Tryz.prog.globalNamed "carrefour/head.widths" = some 0 by kernel_rfl) (show(Tryz.prog.globals[0]?).map (·.type)=some 451 by kernel_rfl) Tryz.underlying451 Tryz.underlying3 C6 C6 b
  intro i f
  have:=v.cell (show Tryz.prog.globalNamed "carrefour/head.widths" = some 0 by kernel_rfl) i f
  match i,f with
  | 0,_|1,_|2,_|3,_|4,_|5,_|6,_|7,_|8,_=>exact this
 exact(UB w t A n2 r c B u (λy a=>(d y a).1) (λy a=>(d y a).2) z).mono λe m ⟨x,s⟩=>⟨x,s.below (M2 _) λ_ h=>h.elim⟩

theorem Ad0(b:Os)(a:Array Vl):laidMetH Tryz.prog [("carrefour/head.widths",Rows.laid_carrefour_head_widths)] ((World.doorLaid Tryz.prog 14 b).forCall (λ_ _=>0) ⟨#[],a,[]⟩).memory :=
 laidMetH_of_parts3 (fuel:=8) (laidMet_of_run' 8 C6 C6) C6 C6
set_option maxRecDepth 100000 in
theorem lifted(r:Os)(k:r.Started)(H:Type)(c:TypeId×Vl->H):
 ReturnsInHanded {} Tryz.checked r 4 .any (λw b=>(Rows.sdxTellsSpec.pre c Tryz.prog Tryz.f4 [] false w b/\laidMetH Tryz.prog [("carrefour/head.widths",Rows.laid_carrefour_head_widths)] w)/\sizedMet c Tryz.prog Tryz.f4 (OpenSpec.ofChange Rows.sdxTellsSpec) false w b)
  (Rows.sdxTellsSpec.post c Tryz.prog Tryz.f4 false true false false):=by
 refine returnsInHanded_of_change_and (C:=Tryz.checked) (X:=λw _=>laidMetH Tryz.prog [("carrefour/head.widths",Rows.laid_carrefour_head_widths)] w) (λ_ _ _ hh h=>h.of_heap hh) own k C6 Tryz.func4
  (ChangeSpec.witness_shaped (enc:=c) (C:=Tryz.checked) (os:=r) (X:=λw _=>laidMetH Tryz.prog [("carrefour/head.widths",Rows.laid_carrefour_head_widths)] w) false (World.doorLaid Tryz.prog 14 r) #[iI 0,sN,iI 0] 8 U (World.shaped_of_RefB C6 C6) C6 C6 C6 (Ad0 r _)) ?_
 intro a d b ds gs y i O P o hL _
 have f:∀(j:Nat) t v,Tryz.f4.params[j]?=some t->b[j]?=some v->Value.okWide Tryz.prog a .any d t v:=i
 have D:=O
 obtain⟨p,q,s,hV,rfl,hfz,hnd⟩:=O
 have N:DataW.TrodAll c Tryz.prog a 0 (λ_=>true) true Tryz.f4.params.toList b.toList ds p:=s
 rw[Tryz.params4] at N f o
 obtain⟨z,vs0,d0,ds0,p0,q0,E,rfl,rfl,K,r0⟩:=trodAll_cons N
 obtain⟨A,vs1,d1,ds1,p1,q1,rfl,rfl,rfl,L,r1⟩:=trodAll_cons r0
 obtain⟨B,vs2,d2,ds2,p2,q2,rfl,rfl,rfl,M,r2⟩:=trodAll_cons r1
 obtain⟨rfl,rfl,rfl⟩:=trodAll_nil r2
 obtain rfl:b = #[z,A,B]:=by cases b;simp_all
 obtain⟨rfl,rfl⟩:=trodVars_none hV
 have Q:=K
 have F:∀x∈p0,x.block<a.heap.size:=by obtain⟨m,g⟩:=Q;exact DataW.trod_lt m _ _ _ g
 have T:Arg Tryz.prog a 3 z:=⟨⟨d,f 0 3 z U U⟩,K.elim λm g=>⟨H,c,m,_,g,Jt (λn u=>Ai8 (Acw.1 o n u)) (j:=0) U U⟩⟩
 have R:=L
 have G:∀x∈p1,x.block<a.heap.size:=by obtain⟨m,g⟩:=R;exact DataW.trod_lt m _ _ _ g
 have Z:Arg Tryz.prog a 62 A:=⟨⟨d,f 1 62 A U U⟩,L.elim λm g=>⟨H,c,m,_,g,Jt (λn u=>Ai8 (Acw.1 o n u)) (j:=1) U U⟩⟩
 have S:=M
 have J:∀x∈p2,x.block<a.heap.size:=by obtain⟨m,g⟩:=S;exact DataW.trod_lt m _ _ _ g
 have b2:Arg Tryz.prog a 3 B:=⟨⟨d,f 2 3 B U U⟩,M.elim λm g=>⟨H,c,m,_,g,Jt (λn u=>Ai8 (Acw.1 o n u)) (j:=2) U U⟩⟩
 clear s i
 refine(walk z A B a T Z b2 hL).mono λe W' ⟨he,l⟩=>?_
 subst he
 exact⟨_,rfl,_,_,_,[],_,[],D,trodAll_mk1 (shut_bool Tryz.underlying4 _),(trodAll_cons_mk (Below.trod laidOut C6 (Ai8 C6) Q l F) (trodAll_cons_mk (Below.trod laidOut C6 (Ai8 C6) R l G) (trodAll_cons_mk (Below.trod laidOut C6 (Ai8 C6) S l J) trodAll_mk0))),rfl,l.frame _,λh=>by cases h⟩

end Go.Proofs.YtmhahajadgkolaaGreatDoor.sdxTells
