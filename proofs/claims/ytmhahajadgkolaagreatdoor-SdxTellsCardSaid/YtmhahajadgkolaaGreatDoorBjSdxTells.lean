/- Joined texts. -/
import Derived.Test.YtmhahajadgkolaaGreatDoorBiSdxTells
set_option maxHeartbeats 8000000
set_option maxRecDepth 8000
namespace Go.Proofs.YtmhahajadgkolaaGreatDoor
open Go.RowKit Tryz
variable{A N:Nat}{B:Nat->Prop}{C X:eL}{D E:Wd}{F:Array Bool}{G:PfL}{H:MpL}{J O:Sv}{M:List PfL}{R:List EnD}{T:List RuL}{Z:List MpL}
section Gq
attribute [local irreducible] WL WC WE WQ WP WH WR WM WRH

structure SpD where
 k:Ky3
 tag:Int
 mark:Int
def SpD.cells(h:SpD):vL:=[iI h.k.from_,iI h.k.best,iI h.k.may,iI h.tag,iI h.mark]
structure SxC where
 gx:Nat
 gw:Nat
 gt:Nat
 gs:Nat
 gp:Nat
 gsp:Nat
 n:Nat
 sc:Nat
 wl:vL
 rules:Int
 p:PlN
 ar:Vl
 fresh:Int
 gm:List Nat
def SxC.cells(c:SxC):vL:=[pG c.gs,pG c.gw,iI c.rules,.slice c.p.oa c.p.outs.length c.p.oc,.slice c.p.ia c.p.ins.length c.p.ic,.slice c.p.ma c.p.AY.length c.p.mc,.slice c.p.xa c.p.xn c.p.xc,.slice c.p.ya c.p.yn c.p.yc,.slice c.p.za c.p.zn c.p.zc,pG c.gp,c.ar,.slice (aG c.gsp) c.n c.sc,iI c.fresh]
def SxC.maps(c:SxC):vL:=c.gm.map λg=>.map (some g)
def SxC.sw(c:SxC):vL:=pG c.gt::c.wl
structure SxL where
 c:SxC
 xs:List RlL
 ys:List RlL
 PM:eL
 t:TbL
 TE:eL
 TK:eL
 b:PoL
 v:Sv
 sp:List MpL
def SxL.all(x:SxL)(L:eL):eL:=.row x.c.gx x.c.cells::.row x.c.gw x.c.sw::.row x.c.gsp x.c.maps::.row x.c.gt x.t.cells::(x.TE++(x.TK++(x.b.AE++(x.v.AE++(x.sp.map MpL.ent++(x.PM++L))))))
def SxL.at_(x:SxL)(k:Nat)(q:Vl):Option Vl:=match x.sp[k]? with
 | none=>none
 | some m=>m.M q
structure IS(p:PfL):Prop where
 ok:BP p=true
 u:U32 p.addr
structure Pc(v:Sv)(ex:Nat->Prop)(k:Nat)(q u:Vl):Prop where
 is_:∃(p:PfL) (h:SpD),q=aA p.cells/\IS p/\p∈v.S/\u=aA h.cells/\h.k.In/\h.mark=ES k p
 th:∃m:Mb,v.ms[k]?=some m/\(ex k\/m.there=true)
structure PlW(p:PlN):Prop where
 in_:p.In
 o:p.outs.length=p.AY.length/\∀t∈p.outs,BN t=0/\Lt t
 i:p.ins.length=p.AY.length/\∀t∈p.ins,BN t=0/\Lt t
theorem PlW.AY{p:PlN}(h:PlW p):∀f∈p.AY,Byt f:=h.in_.AY
structure CQ(x:SxL)(ex:Nat->Prop:=λ_=>False):Prop where
 v:x.v.Ok
 vs:x.v.s=x.c.gs
 told:∀q,BP q=true->U32 q.addr->Told x.v q
 n:x.sp.length=x.c.n/\x.v.ms.length=x.c.n
 gm:x.sp.map MpL.g=x.c.gm
 pl:Uz x.c.p x.xs x.ys
 pn:x.c.p.AY.length=x.c.n
 pi:PlW x.c.p
 pm:∀w,(∀e∈x.PM,e.holds w)->x.c.p.At w/\LV w x.c.p.xa x.xs/\LV w x.c.p.ya x.ys/\Rg w x.c.p.za (G3 x.c.p.AY)
 b:x.b.Ok
 bp:x.b.p=x.c.gp
 rules:0<=x.c.rules/\x.c.rules<=4096
 most:0<=x.t.most/\x.t.most<=4096
 tv:Vec 21 x.t.ad x.t.es.length x.t.c (DA x.t.es) x.TE
 tk:I7 x.TK x.t.es
 tn:(x.t.es.length:Int)<=x.t.most
 ta:FC x.t.d
 te:∀e∈x.t.d, ∃(k:Nat) (p:PfL),k<x.c.n/\IS p/\x.at_ k (aA p.cells)≠none/\Qu e k p
 sp:∀(k:Nat) (m:MpL),x.sp[k]?=some m->m.Ok KPf/\∀q u,m.M q=some u->Pc x.v ex k q u
structure Wg(x:SxL)(ex:Nat->Prop:=λ_=>False):Prop where
 few:x.v.S.length<=5000
 n:x.sp.length=x.c.n/\x.v.ms.length=x.c.n
 gm:x.sp.map MpL.g=x.c.gm
 sp:∀(k:Nat) (m:MpL),x.sp[k]?=some m->m.Ok KPf/\∀q u,m.M q=some u->Pc x.v ex k q u
theorem CQ.wk{x:SxL}(h:CQ x B):Wg x B:=⟨h.v.few,h.n,h.gm,h.sp⟩
theorem CQ.n16{x:SxL}(h:CQ x B):0<x.c.n/\x.c.n<=16:=by
 have:=h.pl.n
 have:=h.pn
 omega
theorem Xm(w:Wd)(k:Nat)(p:PfL)(hk:k<16)(e:IS p):Cl 182 #[iI k,aA p.cells] w (RvF (iI (ES k p)) w):=by
 have q:=IG e.ok
 have b:=e.u
 unfold U32 at b
 obtain⟨A,d⟩:∃A:Nat,(k:Int)*64+p.len=A:=⟨((k:Int)*64+p.len).toNat,W⟩
 obtain⟨B,r⟩:=Int.eq_ofNat_of_zero_le b.1
 have a:orN ((A:Int)*2^32) p.addr=ES k p:=by
  unfold ES orN
  have f:((A:Int)*2^32).toNat=2^32*A:=W
  have g:p.addr.toNat=B:=W
  rw[f,g, <- Nat.two_pow_add_eq_or_of_lt W,d]
  omega
 refine en0 func182 U ntmps182 U<|J2 ?_
 refine zx U U U U U<|λj i=>J6 ?_
 refine zV (SL U U U ((DK W W))) U<|J1 ?_
 refine zV (An U U i3o.h (cellAt (v:=iI p.len) U)) U<|zV (EW U U U ((show _=(A:Int) from(DK W W).trans d))) U<|zV (ND (m:=32) (c:=(2:Int)^32) U U U U (by show 32<=64;omega) U (DK W W)) U ?_
 refine J1 ?_
 refine zV (An U U W6.h (cellAt (v:=.int .u32 p.addr) U)) U<|zV (FA U U underlying3 underlying30 (DK W W)) U<|zV (S9 U U U ((Im W W W W).trans a)) U ?_
 exact Cx
structure EtS where
 i:Nat
 ad:Option Addr
 c:Nat
 E:eL
theorem TA(w:Wd)(a:List RuL)(ad:Option Addr)(c:Nat)(mark:Int)(p:PfL)(hR:Rg w ad (BB a))(hn:a.length<=4096)(hp:IS p):
 Cl 184 #[.slice ad a.length c,iI mark,aA p.cells] w λe R=>∃(q:Option Addr) (H:Nat) (E:eL),e=.returned (.slice q (IV p.len mark a).length H)/\Vec 21 q (IV p.len mark a).length H (DA (IV p.len mark a)) E/\St Fx w R E:=by
 have h1:=IG hp.ok
 refine en0 func184 U ntmps184 U<|J2 ?_
 refine zx U U U U U<|λk hg5=>J7 ?_
 refine WL.Mm (m:=0) (c:=a.length) U U U W W W underlying231 ID W W BC CG U (.none U) U U<|λf J=>?_
 generalize hZ:List.flatten _=Z
 have G:Vec 21 (aG f) 0 a.length [] [.row f Z]:=E8
 refine J12 ?_
 refine oLp (λx:EtS=>[(15,iI x.i),(14,iI a.length),(13,.slice ad a.length c),(7,.slice x.ad x.i x.c),(1,iI mark),(5,pG k)]) (λx=>x.E++[.row k p.cells]) (λx=>x.i<=a.length/\Vec 21 x.ad x.i x.c (DA (IV p.len mark (a.take x.i))) x.E) (λx=>a.length-x.i) ⟨0,aG f,a.length,[.row f Z]⟩ ⟨Lv _,G⟩ ?_
 rintro⟨i,T,X,E⟩ ⟨hi,A⟩
 dsimp only at hi A⊢
 refine J2 ?_
 refine JT (λD=>?_) λD=>?_
 refine J11 ?_
 obtain⟨r,N⟩:∃r,a[i]?=some r:=Gx
 obtain⟨b1,o1,ea1,r1⟩:=hR (by intro hh;have:=FM a;rw[hh] at this;simp at this;omega)
 obtain⟨d,u⟩:∃d:EnL,d=⟨(p.len+1)*4096-(i:Int),mark,r⟩:=⟨_,rfl⟩
 have y:IV p.len mark (a.take (i+1))=IV p.len mark (a.take i)++[d]:=(by rw[AhG,N,Aiw,Ab4,Ahp,Nat.min_eq_left (W),u])
 refine zV ((AA (b:=b1) (off:=o1) (lo:=i) U Du U underlying54 BJ U W)) U ?_
 refine zV (AB (cs:=r.cells) U U Ji.h (RuL.len r) (DP (λh=>h) (Rg.seg RuL.len r1 N))) U<|zy U CZ.h U U<|?_
 intro z hg9
 refine J2 ?_
 refine WL.as (L':=.row z r.cells::(E++[.row k p.cells])) U<|J5 ?_
 refine zV (An U U i3o.h (cellAt (g:=k) (v:=iI p.len) U)) U<|J1 ?_
 refine zV (SL U U U ((DK W W))) U<|J3 ?_
 refine zV (AB U U Ji.h U (AL (g:=z))) U<|zV ((GC U U CG AhD U).eq (v:=aA d.cells) (by rw[u];rfl)) U ?_
 refine zB underlying231 BC CG (by show some (AK (List.replicate 1 _).flatten 0 d.cells)=some d.cells;exact If some (AH (EnL.len d))) U ?_
 intro j M
 refine WL.to (L':=E++(.row j d.cells::.row z r.cells::[.row k p.cells])) (λw F=>F.AJ)<|WL.AU U U U underlying231 underlying231 BC ID CG U U A (new:=d.cells) (λ_=>⟨j,0,rfl,λw F=>AL (g:=j) w F⟩) (EnL.len d) (BD IU d) W (.none U) U U<|λs C B t O=>J8 ?_
 exact eWx [.row j d.cells,.row z r.cells] ⟨i+1,s,C,B⟩ C7 ⟨C7,by dsimp only;rw[y,show DA (IV p.len mark (a.take i)++[d])=DA (IV p.len mark (a.take i))++d.cells from AX _ _ _];exact t⟩
 refine J16 ?_
 refine eT1 ?_
 obtain rfl:i=a.length:=W
 rw[Ah6] at A
 exact λR h=>⟨T,X,E,by rw[Md],by rw[Md];exact A,h.AN [.row k p.cells]⟩
def ShC(x:SxL)(k:Nat)(p:PfL)(a:Ky3)(b:Bool):Prop:=b=true->a.Ok x.c.n k/\∃m:Mb,x.v.ms[k]?=some m/\m.there=true/\IF x.v k m.sy p
theorem XQ(w:Wd)(x:SxL)(k:Nat)(p:PfL)(f:CQ x)(hk:k<x.c.n)(z:IS p)(B:Row w x.c.gx x.c.cells)(A:SvH x.v w):
 Cl 180 #[pG x.c.gx,iI k,aA p.cells] w λe j=>∃(a:Ky3) (b:Bool),e=.returned (.tuple #[aA a.cells,.bool b])/\ShC x k p a b/\Frm Fx w j:=by
 have H:=f.n
 have d:=f.vs
 have D:=f.n16
 obtain⟨m,s⟩:∃m,x.v.ms[k]?=some m:=Gx
 refine en0 func180 U ntmps180 U<|J2 ?_
 refine zx U U U U U<|λC F=>zy U i84z.h U U<|λN G=>J9 ?_
 refine zV (An U U Jj.h ((BO (λh=>h) B U))) U<|J1 ?_
 refine zk CkO U (λw i=>(by rw[<- d];exact AgD w x.v k m (A.st i) (W) s)) ?_
 generalize t:m.there=J
 cases J
 refine J13 ?_
 refine eT2 ?_
 exact λj h=>⟨⟨0,0,0⟩,false,rfl,λh=>Da,h.frm⟩
 refine J7 ?_
 refine WC.held ([.row C p.cells]) mixed<|WRH.first (g:=5) [0,1,2,3,4,5] C6 C6 kp<|J3 ?_
 refine zj (An U U Jj.h ((BO (λh=>h) B U))) U<|J2 ?_
 refine WH.nil<|WRH.one (g:=4) 6 C6<|zK CkO U<|λM i=>?_
 rw[<- d]
 refine(FOf_c M x.v k m p (A.st i) f.v s z.u z.ok).mono ?_
 rintro e j ⟨a,b,rfl,q,r,E⟩
 refine⟨_,_,rfl,i.ext E,?_⟩
 refine WL.BL kp<|WRH.first (g:=2) [7,8] C6 C6 kp<|J2 ?_
 refine WH.nil<|WRH.one (g:=1) 9 C6<|J1 ?_
 refine WL.BL kp<|WRH.first (g:=0) [10] C6 C6 kp<|J1 ?_
 refine WH.nil<|WRH.done C6<|J2 ?_
 refine eT2 ?_
 exact λj h=>⟨a,b,rfl,λy=>⟨by rw[<- H.2];exact r y,m,s,t,q.1 y⟩,h.frm⟩

def SxL.spR(x:SxL)(k:Nat):eL:=(x.sp.eraseIdx k).map MpL.ent
def SxL.op(x:SxL)(k:Nat)(m:MpL)(L:eL):eL:=.obj m.g (.map m.es m.c)::.row x.c.gx x.c.cells::.row x.c.gw x.c.sw::.row x.c.gsp x.c.maps::.row x.c.gt x.t.cells::(x.TE++(x.TK++(x.b.AE++(x.v.AE++(x.spR k++(x.PM++L))))))
theorem SxL.Hi{x:SxL}{m:MpL}{L:eL}(j:x.sp[A]?=some m):(x.op A m L).Perm (x.all L):=by
 have d:(x.sp.map MpL.ent).Perm (m.ent::x.spR A):=(Vt j).map MpL.ent
 have e:(x.v.AE++(x.sp.map MpL.ent++(x.PM++L))).Perm (m.ent::(x.v.AE++(x.spR A++(x.PM++L)))):=((d.append_right _).append_left _).trans List.perm_middle
 have f:(x.b.AE++(x.v.AE++(x.sp.map MpL.ent++(x.PM++L)))).Perm (m.ent::(x.b.AE++(x.v.AE++(x.spR A++(x.PM++L))))):=(e.append_left _).trans List.perm_middle
 have g:(x.TE++(x.TK++(x.b.AE++(x.v.AE++(x.sp.map MpL.ent++(x.PM++L)))))).Perm (m.ent::(x.TE++(x.TK++(x.b.AE++(x.v.AE++(x.spR A++(x.PM++L))))))):=((((f.append_left _).trans List.perm_middle).append_left _).trans List.perm_middle)
 have i:∀c B C D:Ent, ∀M N:eL,M.Perm (m.ent::N)->(m.ent::c::B::C::D::N).Perm (c::B::C::D::M):=λc B C D M N h =>
  (List.perm_middle (l₁:=[c,B,C,D]) (a:=m.ent) (l₂:=N)).symm.trans ((h.symm.append_left [c,B,C,D]))
 exact i _ _ _ _ _ _ g
theorem SxL.opened{x:SxL}(a:x.sp[A]?=some H)(h:St B D E (x.all C)):St B D E (x.op A H C):=h.perm (SxL.Hi a)
theorem SxL.closed{x x':SxL}{m':MpL}(f:x.sp[A]?=some H)(a:x'.sp=x.sp.set A m')
 (h:St B D E (.obj m'.g (.map m'.es m'.c)::.row x'.c.gx x'.c.cells::.row x'.c.gw x'.c.sw::.row x'.c.gsp x'.c.maps::.row x'.c.gt x'.t.cells::(x'.TE++(x'.TK++(x'.b.AE++(x'.v.AE++(x.spR A++(x'.PM++C)))))))):St B D E (x'.all C):=by
 have e:x'.spR A=x.spR A:=by unfold SxL.spR;rw[a,PJ]
 rw[<- e] at h
 have d:=(Eu.1 f).1
 exact h.perm (SxL.Hi (m:=m') (by rw[a,AdZ d])).symm
theorem SxL.AdB{x x':SxL}{m':MpL}(b:x.sp[A]?=some H)(c:x'.sp=x.sp.set A m')(j:Nat)(q:Vl):x'.at_ j q=if j=A then m'.M q else x.at_ j q:=by
 have a:=(Eu.1 b).1
 unfold SxL.at_
 rw[c]
 by_cases e:j=A
 .subst e
  rw[IR U,AdZ a]
 .rw [E9 e,Adq λh=>e h.symm]
theorem SxL.CM{x:SxL}(a:x.sp[A]?=some H)(q:Vl):x.at_ A q=H.M q:=by
 unfold SxL.at_
 rw[a]
theorem Pc.more{q u:Vl}(h:Pc J B A q u)(a:CT J O):Pc O B A q u:=by
 obtain⟨p,s,b,c,d,e⟩:=h.is_
 obtain⟨m,f,g⟩:=h.th
 obtain⟨k,i,_,j,_⟩:=a.at_ A m f
 exact⟨⟨p,s,b,c,by rw[a.S];exact d,e⟩,⟨k,i,g.imp id j.trans⟩⟩
theorem Aej{x:SxL}{m':MpL}(a:x.sp[A]?=some H)(b:m'.g=H.g):(x.sp.set A m').map MpL.g=x.sp.map MpL.g:=by
 apply AhO
 intro i
 rw[WF,WF,List.getElem?_set]
 by_cases e:A=i
 .subst e
  rw[IR U,IR (Eu.1 a).1,a]
  simp[b]
 .rw [E9 e]
theorem KF{x:SxL}(a:Wg x B){k:Nat}{m:MpL}(b:x.sp[k]?=some m):x.c.maps[0+k*1]?=some (.map (some m.g)):=by
 unfold SxC.maps
 rw[<- a.gm,PP,Aed,WF,WF,b];rfl
theorem Lu{x:SxL}(a:CQ x B){k:Nat}{m:MpL}(b:x.sp[k]?=some m):x.c.maps[0+k*1]?=some (.map (some m.g)):=KF a.wk b
theorem QR(h:D.rangeAt A 0 G.cells):BH D (aG A) 2 PfL.cells [G]:=λi x a=>by
 match i,a with
 | 0,a=>cases a;exact⟨A,0,rfl,h⟩
structure LiftP(ex:Nat->Prop)(x x':SxL)(k:Nat)(p:PfL):Prop where
 ok:CQ x' ex
 c:x'.c=x.c
 v:CT x.v x'.v
 gone:x'.at_ k (aA p.cells)=none
 else_:∀j q, ¬(j=k/\q=aA p.cells)->x'.at_ j q=x.at_ j q
theorem AeH{outs:List Int}{e:EnD}(h:e∈Gp R outs):e∈R/\e.mark ∉ outs:=by
 unfold Gp at h
 have:=Aig.1 h
 exact⟨this.1,by simpa using this.2⟩
theorem YZ{outs:List Int}(h:FC R):FC (Gp R outs):=h.filter _
theorem AeI(ex:Nat->Prop)(w0 w1:Wd)(x:SxL)(k:Nat)(p:PfL)(m:MpL)(u:Vl)(L:eL)(a:CQ x ex)(G:x.sp[k]?=some m)(Z:IS p)(hu:m.M (aA p.cells)=some u)(hS0:St Fx w0 w1 (x.all L)):
 Cl 60 #[pG x.c.gx,iI k,aA p.cells] w1 λe w'=>∃E:SxL,e=.returned (.tuple #[])/\LiftP ex x E k p/\St Fx w0 w' (E.all L):=by
 have hn:=a.n
 have h16:=a.n16
 have hkl:=(Eu.1 G).1
 obtain⟨T,hmv⟩:=a.sp k m G
 have hso:=hmv _ _ hu
 obtain⟨p',h,hpe,hpo,hpS,rfl,hkI,hmk⟩:=hso.is_
 obtain rfl:=EE hpe
 obtain⟨mb,hmb,_⟩:=hso.th
 have htn:=a.tn
 have X:=a.most
 have hS1:St Fx w0 w1 (.obj m.g (.map m.es m.c)::.row x.c.gx x.c.cells::.row x.c.gw x.c.sw::.row x.c.gsp x.c.maps::.row x.c.gt x.t.cells::(x.TE++(x.TK++(x.b.AE++(x.v.AE++(x.spR k++(x.PM++L))))))):=SxL.opened G hS0
 refine enter func60 U ntmps60 U hS1<|J2 ?_
 refine zx U U U U U<|λJ hg5=>J3 ?_
 refine WC.AS mixed<|rF 7 [0,1,2,4]<|?_
 refine J5 ?_
 refine WR.mix (g:=1) 9 [3,5,6,7,8] [] U HQ U U U C6 C6<|zm (An U U J0.h (cellAt (g:=x.c.gx) (v:=.slice (aG x.c.gsp) x.c.n x.c.sc) U)) U<|zm (AA (lo:=k) U U U underlying77 FY W W) U<|zm (An U U EN (cellAt (g:=x.c.gsp) (v:=.map (some m.g)) (Lu a G))) U<|zm (AB U U DD.h U AL) U<|?_
 refine zm (HP (z:=.agg (SpD.cells ⟨⟨0,0,0⟩,0,0⟩).toArray) U U U underlying133 DH (KPf.mk Z.ok Z.u) C6 (C4 (es:=m.es) m.g (c:=m.c) C9) T.im) U ?_
 rw[hu]
 refine WM.nil<|WP.NU<|?_
 intro N hg6
 refine rO 0 [10]<|J1 ?_
 refine WL.CD (g:=N) (cs':=h.cells) (AH U)<|J4 ?_
 refine WC.held ([.row N h.cells,.row x.c.gx x.c.cells,.row x.c.gw x.c.sw]) mixed<|WRH.first (g:=2) [0,1,2,3,4,5,6,7,8] C6 C6 kp<|J3 ?_
 refine zj (An U U Vr (cellAt (g:=x.c.gx) (v:=pG x.c.gw) U)) U<|J2 ?_
 refine zj (An U U Vp (cellAt (g:=x.c.gw) (v:=pG x.c.gt) U)) U<|J1 ?_
 refine zj (An U U i3o.h (cellAt (g:=N) (v:=iI h.mark) U)) U<|WH.nil<|?_
 refine WRH.one (g:=1) 9 C6<|zB underlying34 AZ G0 (by show some (AK (List.replicate 1 _).flatten 0 [Value.int .i64 h.mark])=some [Value.int .i64 h.mark];exact If some (AH U)) U ?_
 intro A hg25
 refine WL.BL kp<|WRH.one (g:=0) 10 C6<|zK CkO U<|λw2 hS=>(Take_c Fx w0 w2 (.row A [iI h.mark]::.row N h.cells::.row J p.cells::.obj m.g (.map m.es m.c)::.row x.c.gx x.c.cells::.row x.c.gw x.c.sw::.row x.c.gsp x.c.maps::(x.b.AE++(x.v.AE++(x.spR k++(x.PM++L))))) x.TE x.TK x.c.gt x.t (aG A) 1 [h.mark] a.tv a.tk hS.AJ (λw h=>λ_=>⟨A,0,rfl,AL (g:=A) w h⟩) W (by show 1<=100000;decide)).mono ?_
 rintro e w' ⟨H,y,rfl,ht1,ht2,ht3,htv,htk,B⟩
 refine⟨_,.row A [iI h.mark]::.row N h.cells::.row J p.cells::.obj m.g (.map m.es m.c)::.row x.c.gx x.c.cells::.row x.c.gw x.c.sw::.row x.c.gsp x.c.maps::.row x.c.gt H.cells::(y++(x.TK++(x.b.AE++(x.v.AE++(x.spR k++(x.PM++L)))))),rfl,B.AJ,?_⟩
 refine WL.BL kp<|WRH.done C6<|J2 ?_
 refine WC.AS mixed<|rF 3 [0,1,2,4,5]<|?_
 refine J6 ?_
 refine rA 1 [3,6] U<|qV (An U U NV (cellAt (g:=x.c.gx) (v:=pG x.c.gp) U)) U<|qV (An U U i3o.h (cellAt (g:=N) (v:=iI h.tag) U)) U<|?_
 refine J1 ?_
 refine rO 0 [7]<|zK CkO U<|?_
 intro w2 hS
 rw[<- a.bp]
 refine(Z4 Fx w0 w2 x.b h.tag (.row A [iI h.mark]::.row N h.cells::.row J p.cells::.obj m.g (.map m.es m.c)::.row x.c.gx x.c.cells::.row x.c.gw x.c.sw::.row x.c.gsp x.c.maps::.row x.c.gt H.cells::(y++(x.TK++(x.v.AE++(x.spR k++(x.PM++L)))))) a.b hS.AJ).mono ?_
 rintro e w' ⟨r,b',rfl,hb1,hb2,B⟩
 refine⟨_,.row J p.cells::.obj m.g (.map m.es m.c)::.row x.c.gx x.c.cells::.row x.c.gw x.c.sw::.row x.c.gsp x.c.maps::.row x.c.gt H.cells::(y++(x.TK++(b'.AE++(x.v.AE++(x.spR k++(x.PM++L)))))),rfl,B.AN [.row A [iI h.mark],.row N h.cells],?_⟩
 refine J4 ?_
 refine WC.AS mixed<|rF 5 [0,1,2,4]<|?_
 refine J5 ?_
 refine rA 1 [3,5,6,7] U<|qV (An U U J0.h (cellAt (g:=x.c.gx) (v:=.slice (aG x.c.gsp) x.c.n x.c.sc) U)) U<|?_
 refine qV (AA (lo:=k) U U U underlying77 FY W W) U<|qV (An U U EN (cellAt (g:=x.c.gsp) (v:=.map (some m.g)) (Lu a G))) U<|J2 ?_
 refine rO 0 [8]<|WL.UR U U U underlying133 DH (KPf.mk Z.ok Z.u) (T.im) (.none U) U<|?_
 intro i hMU hsU hstU
 refine J3 ?_
 refine WC.held ([.row J p.cells,.row x.c.gx x.c.cells]) mixed<|WRH.first (g:=2) [0,1,2,3,4,5] C6 C6 kp<|J3 ?_
 refine zj (An U U Jj.h (cellAt (g:=x.c.gx) (v:=pG x.c.gs) U)) U<|J1 ?_
 refine zj (AB U U DD.h U (AL (g:=J))) U<|WH.nil<|?_
 refine WRH.one (g:=1) 6 C6<|zB underlying32 BT FZ.h Di U ?_
 intro F hg49
 refine WL.BL kp<|WRH.one (g:=0) 7 C6<|zK CkO U<|λw2 hS=>?_
 rw[<- a.vs]
 refine(Uv Fx w0 w2 x.v k mb (aG F) 1 [p] (.row F p.cells::.row J p.cells::.obj m.g (.map i m.c)::.row x.c.gx x.c.cells::.row x.c.gw x.c.sw::.row x.c.gsp x.c.maps::.row x.c.gt H.cells::(y++(x.TK++(b'.AE++(x.spR k++(x.PM++L)))))) a.v hmb (λq C=>by rw[Es.1 C];exact⟨Z.ok,Z.u⟩) (λq C=>by rw[Es.1 C];exact hpS) Fj (λw h=>QR (AL (g:=F) w h)) hS.AJ).mono ?_
 rintro e w' ⟨v',rfl,f,B⟩
 refine⟨_,.row F p.cells::.row J p.cells::.obj m.g (.map i m.c)::.row x.c.gx x.c.cells::.row x.c.gw x.c.sw::.row x.c.gsp x.c.maps::.row x.c.gt H.cells::(y++(x.TK++(b'.AE++(v'.AE++(x.spR k++(x.PM++L)))))),rfl,B.AJ,?_⟩
 refine WL.BL kp<|WRH.done C6<|WE.LC (P:=prog) (.inr U) results60  ?_
 refine λw' B=>⟨{ x with t:=H,TE:=y,b:=b',v:=v',sp:=x.sp.set k ⟨m.g,i,m.c,CR m.M (aA p.cells) none⟩ },rfl,?_,SxL.closed (m':=⟨m.g,i,m.c,CR m.M (aA p.cells) none⟩) G U B.tail.tail⟩
 obtain⟨E,D⟩:∃E:SxL,E = { x with t:=H,TE:=y,b:=b',v:=v',sp:=x.sp.set k ⟨m.g,i,m.c,CR m.M (aA p.cells) none⟩ }:=⟨_,rfl⟩
 have hat:∀j q,E.at_ j q=if j=k then CR m.M (aA p.cells) none q else x.at_ j q:=SxL.AdB (x':=E) (m':=⟨m.g,i,m.c,CR m.M (aA p.cells) none⟩) G (by rw[D])
 have hel:∀j q, ¬(j=k/\q=aA p.cells)->E.at_ j q=x.at_ j q:=λj q hne=>by
  rw[hat]
  by_cases e:j=k
  .subst e
   rw[IR U,CI _ _ λe2=>hne ⟨rfl,e2⟩,SxL.CM G]
  .rw [E9 e]
 rw[<- D]
 have O:E.at_ k (aA p.cells)=none:=(by rw[hat,IR U,DC])
 have hte:∀e∈H.d, ∃(j:Nat) (q:PfL),j<x.c.n/\IS q/\E.at_ j (aA q.cells)≠none/\Qu e j q:=λe he=>by
  rw[ht2] at he
  obtain⟨h1,h2⟩:=AeH he
  obtain⟨j,q,g1,g2,g3,g4⟩:=a.te e h1
  refine⟨j,q,g1,g2,?_,g4⟩
  rw[hel j _ λhc=>h2 (by rw[Es,hmk,g4.mark,hc.1,EE hc.2])]
  exact g3
 refine⟨?_,by rw[D],by rw[D];exact f.more,O,hel⟩
 rw[D] at hte ⊢
 exact⟨f.ok,f.more.s.trans a.vs,λq h1 h2=>f.more.told (a.told q h1 h2),⟨by dsimp only;rw[AbI];exact hn.1,f.more.len.trans hn.2⟩,(Aej (m':=⟨m.g,i,m.c,CR m.M (aA p.cells) none⟩) G U).trans a.gm,a.pl,a.pn,a.pi,a.pm,hb2,hb1.trans a.bp,a.rules,by dsimp only;rw[ht1];exact X,htv,htk,by dsimp only;rw[ht1];omega,by show FC H.d;rw[ht2];exact YZ a.ta,hte,λj mj R=>by
  have R:(x.sp.set k ⟨m.g,i,m.c,CR m.M (aA p.cells) none⟩)[j]?=some mj:=R
  by_cases e:j=k
  .subst e
   rw[AdZ hkl] at R
   cases R
   refine⟨⟨hMU,hstU T.st⟩,λq u C=>?_⟩
   have C:CR m.M (aA p.cells) none q=some u:=C
   by_cases e:q=aA p.cells
   .subst e;rw[DC] at C;cases C
   .rw [CI _ _ e] at C;exact(hmv q u C).more f.more
  .rw [Adq λh=>e h.symm] at R
   exact⟨(a.sp j mj R).1,λq u C=>((a.sp j mj R).2 q u C).more f.more⟩⟩

structure RnP(x x':SxL)(k:Nat)(p:PfL)(r:Int):Prop where
 ok:CQ x'
 c:∃fr,x'.c = { x.c with fresh:=fr }
 v:CT x.v x'.v
 r5:r≠5
 new:∀j q,x'.at_ j q≠none->x.at_ j q≠none\/(j=k/\q=aA p.cells/\∃m:Mb,x'.v.ms[k]?=some m/\m.NM q≠none/\m.BM q≠none)
theorem RnP.same{x:SxL}(a:CQ x):RnP x x A G 0:=⟨a,⟨x.c.fresh,rfl⟩,CT.refl _,C8,λ_ _ h=>.inl h⟩
structure RwS where
 m:MpL
 y:SxL
structure RwT where
 r:Int
 t:TbL
 TE:eL
 TK:eL
theorem AeT(T:List EnD):Gp T []=T:=by
 unfold Gp
 exact List.filter_eq_self.2 λe _=>by simp
theorem en_err(e:EnD):e.err≠5:=by
 unfold EnD.err RuD.err L9
 (repeat' split)<;>omega
theorem TC:∀(T:List EnD),Gz EnD.err T≠5
 | []=>by show(0:Int)≠5;decide
 | e::T=>by
  show(if e.err≠0 then e.err else Gz EnD.err T)≠5
  split
  .exact en_err e
  .exact TC T
theorem XI(hk:A<16)(r:IS G)(v:FC R)(x:BkOk A G T)(h:∀e∈R, ∃(j:Nat) (q:PfL),j<16/\IS q/\¬(j=A/\q=G)/\Qu e j q):FC (R++((IV G.len (ES A G) T).map EnL.d).map EnD.norm):=by
 unfold FC
 rw[List.pairwise_append]
 refine⟨v,Sj (RH _ _ _),λa w b g c=>?_⟩
 obtain⟨j,q,y,s,k,f⟩:=h a w
 obtain⟨t,i,rfl⟩:=Ab8.1 g
 exact k (WJ f (Vk (QJ x t i)) y hk s.ok r.ok s.u r.u c)
theorem in_ok(g:IS G)(hk:A<16)(f:BkOk A G T)(q:∀r∈T,DE C r)(h:∀e∈C,e.holds D):∀e∈IV G.len (ES A G) T,InOk D e:=λe d=>by
 obtain⟨i,s,k⟩:=List.mem_iff_getElem.1 d
 obtain⟨r,j,rfl⟩:=Kp (by rw[FS s,k])
 have a:=Do j
 have x:=(Eu.1 j).1
 have w:=f.few
 have v:=IG g.ok
 obtain⟨t,c,b⟩:=q r a
 exact⟨⟨by show -9223372036854775808<=(G.len+1)*4096-(i:Int)/\(G.len+1)*4096-(i:Int)<=9223372036854775807;omega,by show -9223372036854775808<=ES A G/\ES A G<=9223372036854775807;unfold ES;have:=g.u;unfold U32 at this;omega,(f.fit r a).isIn⟩,c.rg λe d=>h e (b e d)⟩
theorem CQ.putB{x:SxL}{a:PoL}(h:CQ x)(c:a.Ok)(d:a.p=x.b.p):CQ { x with b:=a } :=
 ⟨h.v,h.vs,h.told,h.n,h.gm,h.pl,h.pn,h.pi,h.pm,c,d.trans h.bp,h.rules,h.most,h.tv,h.tk,h.tn,h.ta,h.te,h.sp⟩
theorem CQ.putT{x:SxL}{a:TbL}(h:CQ x)(f:a.most=x.t.most)(j:Vec 21 a.ad a.es.length a.c (DA a.es) C)(i:I7 X a.es)(r:(a.es.length:Int)<=x.t.most)(k:FC a.d)(q:∀e∈a.d,e∈x.t.d):CQ { x with t:=a,TE:=C,TK:=X } :=
 ⟨h.v,h.vs,h.told,h.n,h.gm,h.pl,h.pn,h.pi,h.pm,h.b,h.bp,h.rules,by dsimp only;rw[f];exact h.most,j,i,by dsimp only;rw[f];exact r,k,λe g=>h.te e (q e g),h.sp⟩
theorem AhL(w0 w1:Wd)(x:SxL)(k:Nat)(p:PfL)(L:eL)(hO:CQ x)(hk:k<x.c.n)(T:IS p)(hpS:p∈x.v.S)(hG:GW w0)(hS0:St Fx w0 w1 (x.all L)):
 Cl 120 #[pG x.c.gx,iI k,aA p.cells] w1 λe w'=>∃(r:Int) (x':SxL),e=.returned (iI r)/\RnP x x' k p r/\St Fx w0 w' (x'.all L):=by
 have hn:=hO.n
 have h16:=hO.n16
 obtain⟨m,hm⟩:∃m,x.sp[k]?=some m:=Gx
 obtain⟨hmo,hmv⟩:=hO.sp k m hm
 obtain⟨N,hu0,hu1⟩:∃N:SpD,(m.M (aA p.cells)).getD (.agg (SpD.cells ⟨⟨0,0,0⟩,0,0⟩).toArray)=aA N.cells/\((m.M (aA p.cells)).isSome=true->m.M (aA p.cells)=some (aA N.cells)):=by
  cases hc:m.M (aA p.cells) with
  | none=>exact⟨_,rfl,λh=>by cases h⟩
  | some u =>
   obtain⟨_,h,_,_,_,rfl,_⟩:=(hmv _ _ hc).is_
   exact⟨h,rfl,λ_=>rfl⟩
 have hS1:St Fx w0 w1 (.obj m.g (.map m.es m.c)::.row x.c.gx x.c.cells::.row x.c.gw x.c.sw::.row x.c.gsp x.c.maps::.row x.c.gt x.t.cells::(x.TE++(x.TK++(x.b.AE++(x.v.AE++(x.spR k++(x.PM++L))))))):=SxL.opened hm hS0
 refine enter func120 U ntmps120 U hS1<|J2 ?_
 refine zx U U U U U<|λC hg5=>J8 ?_
 refine zK CkO U<|λZ O=>(XQ Z x k p hO hk T (O.row (g:=x.c.gx)) (SvH.of λe he=>O.holds e Dd)).mono ?_
 rintro e w' ⟨f,b,rfl,hb,hF⟩
 refine⟨_,_,rfl,O.ext hF,?_⟩
 refine J3 ?_
 refine zy U i84z.h U U<|λF hg7=>J1 ?_
 refine WL.CD (g:=F) (cs':=f.cells) (AH U)<|J4 ?_
 refine WC.AS mixed<|rF 11 [0,1,2,4]<|?_
 refine J5 ?_
 refine WR.mix (g:=2) 12 [3,5,6,7,8,9,10] [11] U HQ U U U C6 C6<|zm (An U U J0.h (cellAt (g:=x.c.gx) (v:=.slice (aG x.c.gsp) x.c.n x.c.sc) U)) U<|zm (AA (lo:=k) U U U underlying77 FY W W) U<|zm (An U U EN (cellAt (g:=x.c.gsp) (v:=.map (some m.g)) (Lu hO hm))) U<|zm (AB U U DD.h U (AL (g:=C))) U<|?_
 refine zm (ED (z:=.agg (SpD.cells ⟨⟨0,0,0⟩,0,0⟩).toArray) U U U underlying133 DH (KPf.mk T.ok T.u) C6 (C4 (es:=m.es) m.g (c:=m.c) C9) hmo.im) U ?_
 rw[hu0]
 generalize hhv:(m.M (aA p.cells)).isSome=hv
 refine zm (DG U U) U<|zm (CB U U U) U<|WM.nil<|?_
 refine J1 ?_
 refine WP.NU<|λg9 hg9=>rO 1 [13]<|J1 ?_
 refine WL.CD (g:=g9) (cs':=N.cells) (AH U)<|J1 ?_
 refine rF 0 [14]<|J4 ?_
 refine WC.cut (λhv:Bool=>[(10,.bool hv),(8,.bool b),(7,pG F),(5,pG C),(0,pG x.c.gx),(1,iI k)]) (λ_=>.row F f.cells::.row C p.cells::.obj m.g (.map m.es m.c)::.row x.c.gx x.c.cells::.row x.c.gw x.c.sw::.row x.c.gsp x.c.maps::.row x.c.gt x.t.cells::(x.TE++(x.TK++(x.b.AE++(x.v.AE++(x.spR k++(x.PM++L))))))) (λhv=>(m.M (aA p.cells)).isSome=hv) ?_ ?_
 refine J4 ?_
 skip
 cases hv
 refine J13 ?_
 exact eMx [.row g9 N.cells] false hhv
 refine J1 ?_
 skip
 cases b
 refine J12 ?_
 exact eMx [.row g9 N.cells] true hhv
 refine J4 ?_
 refine zS (AB U U Mi.h U (AT (g:=g9) (m:=3) (new:=N.k.cells) U)) U<|zS (AB U U Mi.h U (AL (g:=F))) U<|?_
 obtain⟨b43,hbe⟩:∃c:Bool,c=true<->N.k.cells=f.cells:=⟨@decide _ (Classical.propDecidable _),@Aim _ (Classical.propDecidable _)⟩
 refine zS (GN (b:=b43) U U U Ad8 Ad7 U U hbe) U ?_
 cases b43
 refine J5 ?_
 exact eMx [.row g9 N.cells] true hhv
 refine J11 ?_
 refine eT1 ?_
 exact λw' h=>⟨0,x,rfl,RnP.same hO,(St.AN (L':=.obj m.g (.map m.es m.c)::.row x.c.gx x.c.cells::.row x.c.gw x.c.sw::.row x.c.gsp x.c.maps::.row x.c.gt x.t.cells::(x.TE++(x.TK++(x.b.AE++(x.v.AE++(x.spR k++(x.PM++L))))))) [.row g9 N.cells,.row F f.cells,.row C p.cells] h).perm (SxL.Hi hm).symm⟩
 intro hv hhv
 refine WC.cut (λ_:RwS=>[(8,.bool b),(7,pG F),(5,pG C),(0,pG x.c.gx),(1,iI k)]) (λz=>.row F f.cells::.row C p.cells::.obj z.m.g (.map z.m.es z.m.c)::.row x.c.gx x.c.cells::.row x.c.gw x.c.sw::.row x.c.gsp x.c.maps::.row x.c.gt z.y.t.cells::(z.y.TE++(z.y.TK++(z.y.b.AE++(z.y.v.AE++(z.y.spR k++(z.y.PM++L))))))) (λz=>CQ z.y/\z.y.c=x.c/\CT x.v z.y.v/\z.y.sp[k]?=some z.m/\z.m.M (aA p.cells)=none/\∀j q,z.y.at_ j q≠none->x.at_ j q≠none) ?_ ?_
 refine J3 ?_
 skip
 cases hv
 refine J4 ?_
 exact eM ⟨m,x⟩ ⟨hO,rfl,CT.refl _,hm,by simpa using hhv,λ_ _ h=>h⟩
 refine J7 ?_
 refine zK CkO U<|λZ O=>?_
 have hmu:m.M (aA p.cells)=some (aA N.cells):=hu1 hhv
 have h2:St Fx w0 Z (.obj m.g (.map m.es m.c)::.row x.c.gx x.c.cells::.row x.c.gw x.c.sw::.row x.c.gsp x.c.maps::.row x.c.gt x.t.cells::(x.TE++(x.TK++(x.b.AE++(x.v.AE++(x.spR k++(x.PM++(.row F f.cells::.row C p.cells::L)))))))):=O.AJ
 refine(AeI Fx w0 Z x k p m _ (.row F f.cells::.row C p.cells::L) hO hm T hmu (h2.perm (SxL.Hi (x:=x) hm).symm)).mono ?_
 rintro e w' ⟨y,rfl,R,i⟩
 have hyn:=R.ok.n
 rw[R.c] at hyn
 obtain⟨a,B⟩:∃a,y.sp[k]?=some a:=Gx
 have h3:=SxL.opened B i
 unfold SxL.op at h3
 rw[R.c] at h3
 refine⟨_,.row F f.cells::.row C p.cells::.obj a.g (.map a.es a.c)::.row x.c.gx x.c.cells::.row x.c.gw x.c.sw::.row x.c.gsp x.c.maps::.row x.c.gt y.t.cells::(y.TE++(y.TK++(y.b.AE++(y.v.AE++(y.spR k++(y.PM++L)))))),rfl,h3.AJ,?_⟩
 refine J1 ?_
 exact eM ⟨a,y⟩ ⟨R.ok,R.c,R.v,B,by rw[<- SxL.CM B];exact R.gone,λj q h hc=>h (by
 by_cases e:j=k/\q=aA p.cells
 .rw [e.1,e.2];exact R.gone
 .rw [R.else_ j q e];exact hc)⟩
 rintro⟨a,y⟩ ⟨hY,A,hYv,B,hmn,hYa⟩
 dsimp only at hY A hYv B hmn hYa⊢
 have hback:∀ {w:Wd}(b':PoL) (t':TbL) (TE' TK':eL),St Fx w0 w (.obj a.g (.map a.es a.c)::.row x.c.gx x.c.cells::.row x.c.gw x.c.sw::.row x.c.gsp x.c.maps::.row x.c.gt t'.cells::(TE'++(TK'++(b'.AE++(y.v.AE++(y.spR k++(y.PM++L)))))))->St Fx w0 w (SxL.all { y with b:=b',t:=t',TE:=TE',TK:=TK' } L):=λb' t' TE' TK' h=>(by
  rw[<- A] at h
  exact St.perm (L':=SxL.all { y with b:=b',t:=t',TE:=TE',TK:=TK' } L) h (SxL.Hi (x:={ y with b:=b',t:=t',TE:=TE',TK:=TK' }) B).symm)
 have hbp:y.b.p=x.c.gp:=hY.bp.trans (If SxC.gp A)
 have hvs:y.v.s=x.c.gs:=hY.vs.trans (If SxC.gs A)
 have hyn:y.sp.length=x.c.n/\y.v.ms.length=x.c.n:=(by have:=hY.n;rw[A] at this;exact this)
 have hmost:=hY.most
 have htn:=hY.tn
 refine J4 ?_
 skip
 cases b
 refine J11 ?_
 refine eT1 ?_
 exact λw' h=>⟨0,y,rfl,⟨hY,⟨x.c.fresh,A⟩,hYv,C8,λj q h=>.inl (hYa j q h)⟩,hback y.b y.t y.TE y.TK (h.AN [.row F f.cells,.row C p.cells])⟩
 refine J7 ?_
 refine WC.AS mixed<|rF 8 [0,1,2]<|?_
 obtain⟨hkey,mb,hmb,hth,hoff⟩:=hb U
 obtain⟨kj,hkj,hkje⟩:=hkey.best
 have hkf:=hkey.from_
 have hkm:=hkey.may
 have hkI:f.In:=⟨by unfold I64;omega,by unfold I64;omega,by unfold I64;omega⟩
 refine J4 ?_
 refine rA 6 [3,4] U<|qV (An U U NV (cellAt (g:=x.c.gx) (v:=pG x.c.gp) U)) U<|qV (AB U U Mi.h U (AL (g:=F))) U<|?_
 refine J1 ?_
 refine rO 5 [5]<|zK CkO U<|?_
 intro Z O
 rw[<- hbp]
 refine(Z5 Fx w0 Z y.b f (.row F f.cells::.row C p.cells::.obj a.g (.map a.es a.c)::.row x.c.gx x.c.cells::.row x.c.gw x.c.sw::.row x.c.gsp x.c.maps::.row x.c.gt y.t.cells::(y.TE++(y.TK++(y.v.AE++(y.spR k++(y.PM++L)))))) hY.b hkI O.AJ).mono ?_
 rintro e w' ⟨tg,r1,b1,rfl,htg,hr1,hb1,hb2,i⟩
 refine⟨_,.row F f.cells::.row C p.cells::.obj a.g (.map a.es a.c)::.row x.c.gx x.c.cells::.row x.c.gw x.c.sw::.row x.c.gsp x.c.maps::.row x.c.gt y.t.cells::(y.TE++(y.TK++(b1.AE++(y.v.AE++(y.spR k++(y.PM++L)))))),rfl,i.AJ,?_⟩
 refine J1 ?_
 refine rF 0 [6,7,8,9,10]<|J12 ?_
 refine JT (λh62=>?_) λh62=>?_
 refine J11 ?_
 refine eT1 ?_
 exact λw' h=>⟨r1,_,rfl,⟨hY.putB hb2 hb1,⟨x.c.fresh,A⟩,hYv,W,λj q h=>.inl (hYa j q h)⟩,hback b1 y.t y.TE y.TK (h.AN [.row F f.cells,.row C p.cells])⟩
 refine J8 ?_
 refine zV (AB U U DD.h U (AL (g:=C))) U<|zk CkO U (λw O=>Xm w k p W T)<|J4 ?_
 refine WC.AS mixed<|rF 9 [0,1,2,6]<|?_
 refine J5 ?_
 refine rA 6 [3,4,5] U<|qV (AB U U RS.h U (AT (g:=x.c.gx) (m:=6) (new:=x.c.p.cells) U)) U<|qV (AB U U DD.h U (AL (g:=C))) U<|qV (AB U U Mi.h U (AL (g:=F))) U<|?_
 refine J1 ?_
 refine rO 5 [7]<|zK CkO U<|?_
 intro Z O
 have hpm:=hY.pm Z λe he=>O.holds e Dd
 have hpl:=hY.pl
 rw[A] at hpm hpl
 have hpn:=hO.pn
 refine(ZW Z x.c.p y.xs y.ys p f k kj tg hpl hpm.2.1 hpm.2.2.1 hpm.2.2.2 hO.pi.AY T.ok T.u hkf W hkje W (hG.BI (λh=>h) O)).mono ?_
 rintro e w' ⟨r2,ls,ad,c,E,K,rfl,hr2,hVE,hOE,hBk,i⟩
 refine⟨_,_,rfl,O.join i,?_⟩
 have hpa:FC (y.t.d++((IV p.len (ES k p) ls).map EnL.d).map EnD.norm):=XI W T hY.ta hBk λe he=>(by
 obtain⟨j,q,g1,g2,g3,g4⟩:=hY.te e he
 rw[A] at g1
 exact⟨j,q,W,g2,λhc=>g3 (by rw[hc.1,hc.2,SxL.CM B];exact hmn),g4⟩)
 refine J1 ?_
 refine rF 0 [8,9,10,11,12]<|J8 ?_
 refine WC.cut (λz:RwT=>[(12,iI z.r),(11,iI tg),(13,iI (ES k p)),(7,pG F),(5,pG C),(0,pG x.c.gx),(1,iI k)]) (λz=>.row F f.cells::.row C p.cells::.obj a.g (.map a.es a.c)::.row x.c.gx x.c.cells::.row x.c.gw x.c.sw::.row x.c.gsp x.c.maps::.row x.c.gt z.t.cells::(z.TE++(z.TK++(b1.AE++(y.v.AE++(y.spR k++(y.PM++L))))))) (λz=>z.r≠5/\z.t.most=y.t.most/\Vec 21 z.t.ad z.t.es.length z.t.c (DA z.t.es) z.TE/\I7 z.TK z.t.es/\(z.t.es.length:Int)<=y.t.most/\FC z.t.d/\∀e∈z.t.d,e∈y.t.d\/(z.r=0/\Qu e k p)) ?_ ?_
 refine J3 ?_
 refine JT (λh79=>?_) λh79=>?_
 refine J3 ?_
 refine WC.held ([.row C p.cells,.row x.c.gx x.c.cells,.row x.c.gw x.c.sw]) mixed<|WRH.first (g:=3) [0,1,2,3,4,5,6,7,8,9] C6 C6 kp<|J3 ?_
 refine zj (An U U Vr (cellAt (g:=x.c.gx) (v:=pG x.c.gw) U)) U<|J2 ?_
 refine zj (An U U Vp (cellAt (g:=x.c.gw) (v:=pG x.c.gt) U)) U<|J2 ?_
 refine zj (AB U U DD.h U (AL (g:=C))) U<|WH.nil<|?_
 refine WRH.one (g:=2) 10 C6<|zK CkO U<|λZ O=>(TA Z ls ad c (ES k p) p (hVE.rg λe he=>O.holds e Dd) hBk.few T).mono ?_
 rintro e w' ⟨ad3,c3,E3,rfl,hV3,i⟩
 refine⟨_,_,rfl,O.join i,?_⟩
 refine WL.BL kp<|WRH.one (g:=1) 11 C6<|zK CkO U<|λZ O=>(Ta Fx w0 Z (E3++(E++(K++(.row F f.cells::.row C p.cells::.obj a.g (.map a.es a.c)::.row x.c.gx x.c.cells::.row x.c.gw x.c.sw::.row x.c.gsp x.c.maps::(b1.AE++(y.v.AE++(y.spR k++(y.PM++L)))))))) y.TE y.TK x.c.gt y.t none 0 [] ad3 c3 (IV p.len (ES k p) ls) (λh=>h) hG hY.tv hY.tk O.AJ (λw h=>λhn=>absurd U hn) (λw h=>hV3.rg λe he=>h.holds e Dd) (λw h=>in_ok T W hBk hOE λe he=>h.holds e Dd) hmost W (by show 0<=100000;omega) (by rw[Md];have:=hBk.few;omega)).mono ?_
 rintro e w' ⟨G,t2,H,J,rfl,hm2,hW,hV2,hK2,i⟩
 have hln:t2.d.length=t2.es.length:=Ri _
 have hly:y.t.d.length=y.t.es.length:=Ri _
 have hw1:=hW.twice
 have hw2:=hW.ok
 have hw3:=hW.bad
 rw[AeT] at hw1 hw2
 refine⟨_,.row F f.cells::.row C p.cells::.obj a.g (.map a.es a.c)::.row x.c.gx x.c.cells::.row x.c.gw x.c.sw::.row x.c.gsp x.c.maps::.row x.c.gt t2.cells::(H++(J++(b1.AE++(y.v.AE++(y.spR k++(y.PM++L)))))),rfl,i.AN (E3++(E++K)),?_⟩
 refine WL.BL kp<|WRH.first (g:=0) [12] C6 C6 kp<|J1 ?_
 exact WH.nil<|WRH.done C6<|eM ⟨G,t2,H,J⟩ ⟨λh5=>(hw1 h5).elim (TC _) λhn=>hn hpa,hm2,hV2,hK2,(by
 dsimp only
 by_cases N:G=0
 .have:=(hw2 N).2.1;omega
 .have:=hw3 N;rw[this] at hln;omega),(by
 dsimp only
 by_cases N:G=0
 .exact FC.perm (hw2 N).1.symm hpa
 .rw [hw3 N];exact hY.ta),λe he=>by
 dsimp only at he ⊢
 by_cases N:G=0
 .rcases LI.1 ((hw2 N).1.mem_iff.1 he) with he|he
  .exact .inl he
  .obtain ⟨e0,he0,rfl⟩:=Ab8.1 he
   exact .inr ⟨N,Vk (QJ hBk e0 he0)⟩
 .rw [hw3 N] at he;exact .inl he⟩
 refine J4 ?_
 exact eMx (E++K) ⟨r2,y.t,y.TE,y.TK⟩ ⟨C7,rfl,hY.tv,hY.tk,hY.tn,hY.ta,λe he=>.inl he⟩
 rintro⟨G,t2,H,J⟩ ⟨hc5,hm2,hV2,hK2,hl2,ha2,hme⟩
 dsimp only at hc5 hm2 hV2 hK2 hl2 ha2 hme⊢
 refine J4 ?_
 refine JT (λh93=>?_) λh93=>?_
 refine J8 ?_
 refine zV (An U U NV (cellAt (g:=x.c.gx) (v:=pG x.c.gp) U)) U<|J1 ?_
 refine zK CkO U<|λZ O=>?_
 rw[<- hbp, <- hb1]
 refine(Uw Fx w0 Z b1 tg (.row F f.cells::.row C p.cells::.obj a.g (.map a.es a.c)::.row x.c.gx x.c.cells::.row x.c.gw x.c.sw::.row x.c.gsp x.c.maps::.row x.c.gt t2.cells::(H++(J++(y.v.AE++(y.spR k++(y.PM++L)))))) hb2 O.AJ).mono ?_
 rintro e w' ⟨r3,b3,rfl,hb3,hb4,i⟩
 refine⟨_,.obj a.g (.map a.es a.c)::.row x.c.gx x.c.cells::.row x.c.gw x.c.sw::.row x.c.gsp x.c.maps::.row x.c.gt t2.cells::(H++(J++(b3.AE++(y.v.AE++(y.spR k++(y.PM++L)))))),rfl,i.AN [.row F f.cells,.row C p.cells],?_⟩
 refine J10 ?_
 refine eT1 ?_
 exact λw' h=>⟨G,_,rfl,⟨(hY.putB hb4 (hb3.trans hb1)).putT hm2 hV2 hK2 hl2 ha2 λe he=>(hme e he).elim id λq=>absurd q.1 h93,⟨x.c.fresh,A⟩,hYv,hc5,λj q h=>.inl (hYa j q h)⟩,hback b3 t2 H J h⟩
 refine J6 ?_
 refine WC.AS mixed<|rF 8 [0,1,2,4,9,11]<|?_
 obtain rfl:G=0:=W
 have hmy:MpL.Ok KPf a/\∀q u,a.M q=some u->Pc y.v Fx k q u:=hY.sp k a B
 obtain⟨hd,hhd⟩:∃hd:SpD,hd=⟨f,tg,ES k p⟩:=⟨_,rfl⟩
 obtain⟨mb1,hmb1,hmbI,hmbt,hmbB,hmbN⟩:=hYv.at_ k mb hmb
 refine J7 ?_
 refine rA 1 [3,5,6,7,8,10,12] U<|qV (An U U J0.h (cellAt (g:=x.c.gx) (v:=.slice (aG x.c.gsp) x.c.n x.c.sc) U)) U<|?_
 refine qV (AA (lo:=k) U U U underlying77 FY W W) U<|qV (An U U EN (cellAt (g:=x.c.gsp) (v:=.map (some a.g)) (by rw[<- A];exact Lu hY B))) U ?_
 refine qV (AB U U DD.h U (AL (g:=C))) U<|qV (AB U U Mi.h U (AL (g:=F))) U<|?_
 refine J1 ?_
 refine qV ((GC U U HQ Aa2 U).eq (v:=aA hd.cells) (by rw[hhd];rfl)) U ?_
 refine J1 ?_
 refine rO 0 [13]<|WL.EH U U U U underlying133 DH (KPf.mk T.ok T.u) (hmy.1.im) (.none U) U<|?_
 intro X cU hMU hsU hstU
 refine J8 ?_
 refine zV (An U U i3o.h (cellAt (g:=x.c.gx) (v:=iI x.c.fresh) U)) U<|zV (EW U U U (rfl)) U<|?_
 refine J3 ?_
 obtain⟨c2,hc2⟩:∃c2:SxC,c2 = { x.c with fresh:=IntKind.i64.wrap (x.c.fresh+1) }:=⟨_,rfl⟩
 refine WL.CD (g:=x.c.gx) (cs':=c2.cells) (by rw[hc2];rfl) ?_
 refine J3 ?_
 refine WC.held ([.row C p.cells,.row x.c.gx c2.cells]) mixed<|WRH.first (g:=2) [0,1,2,3,4,5] C6 C6 kp<|J5 ?_
 refine zj (AB U U DD.h U (AL (g:=C))) U<|WH.nil<|?_
 refine WRH.one (g:=1) 6 C6<|zB underlying32 BT FZ.h Di U ?_
 intro g127 hg127
 refine WL.BL kp<|WRH.one (g:=0) 7 C6<|zK CkO U<|λZ O=>?_
 rw[show c2.gs=y.v.s from(by rw[hc2];exact hvs.symm)]
 refine(Uv Fx w0 Z y.v k mb1 (aG g127) 1 [p] (.row g127 p.cells::.row F f.cells::.row C p.cells::.obj a.g (.map X cU)::.row x.c.gx c2.cells::.row x.c.gw x.c.sw::.row x.c.gsp x.c.maps::.row x.c.gt t2.cells::(H++(J++(b1.AE++(y.spR k++(y.PM++L)))))) hY.v hmb1 (λq hq=>by rw[Es.1 hq];exact⟨T.ok,T.u⟩) (λq hq=>by rw[Es.1 hq,hYv.S];exact hpS) Fj (λw h=>QR (AL (g:=g127) w h)) O.AJ).mono ?_
 rintro e w' ⟨v',rfl,D,i⟩
 refine⟨_,.row g127 p.cells::.row F f.cells::.row C p.cells::.obj a.g (.map X cU)::.row x.c.gx c2.cells::.row x.c.gw x.c.sw::.row x.c.gsp x.c.maps::.row x.c.gt t2.cells::(H++(J++(b1.AE++(v'.AE++(y.spR k++(y.PM++L)))))),rfl,i.AJ,?_⟩
 refine WL.BL kp<|WRH.done C6<|J7 ?_
 refine eT1 ?_
 subst hc2
 refine λw' i=>⟨0, { y with c:={ x.c with fresh:=IntKind.i64.wrap (x.c.fresh+1) },t:=t2,TE:=H,TK:=J,b:=b1,v:=v',sp:=y.sp.set k ⟨a.g,X,cU,CR a.M (aA p.cells) (some (aA hd.cells))⟩ },rfl,?_,SxL.closed (m':=⟨a.g,X,cU,CR a.M (aA p.cells) (some (aA hd.cells))⟩) B U i.tail.tail.tail⟩
 obtain⟨x',hx'⟩:∃x':SxL,x' = { y with c:={ x.c with fresh:=IntKind.i64.wrap (x.c.fresh+1) },t:=t2,TE:=H,TK:=J,b:=b1,v:=v',sp:=y.sp.set k ⟨a.g,X,cU,CR a.M (aA p.cells) (some (aA hd.cells))⟩ }:=⟨_,rfl⟩
 have hat:∀j q,x'.at_ j q=if j=k then CR a.M (aA p.cells) (some (aA hd.cells)) q else y.at_ j q:=SxL.AdB (x':=x') (m':=⟨a.g,X,cU,CR a.M (aA p.cells) (some (aA hd.cells))⟩) B (by rw[hx'])
 have hel:∀j q, ¬(j=k/\q=aA p.cells)->x'.at_ j q=y.at_ j q:=λj q hne=>by
  rw[hat]
  by_cases e:j=k
  .subst e
   rw[IR U,CI _ _ λe2=>hne ⟨rfl,e2⟩,SxL.CM B]
  .rw [E9 e]
 rw[<- hx']
 have hnew:x'.at_ k (aA p.cells)≠none:=(by rw[hat,IR U,DC];intro e;cases e)
 have hyt:∀e∈y.t.d, ∃(j:Nat) (q:PfL),j<x.c.n/\IS q/\y.at_ j (aA q.cells)≠none/\Qu e j q:=(by have:=hY.te;rw[A] at this;exact this)
 have hte:∀e∈t2.d, ∃(j:Nat) (q:PfL),j<x.c.n/\IS q/\x'.at_ j (aA q.cells)≠none/\Qu e j q:=λe he=>by
  rcases hme e he with h1|⟨_,h1⟩
  .obtain ⟨j,q,g1,g2,g3,g4⟩:=hyt e h1
   refine⟨j,q,g1,g2,?_,g4⟩
   by_cases hc:j=k/\aA q.cells=aA p.cells
   .rw [hc.1,hc.2];exact hnew
   .rw [hel j _ hc];exact g3
  .exact ⟨k,p,hk,T,hnew,h1⟩
 have hvv:=hYv.trans D.more
 obtain⟨mb2,hmb2,hmbI2,hmbt2,hmbB2,hmbN2⟩:=hvv.at_ k mb hmb
 refine⟨?_,⟨IntKind.i64.wrap (x.c.fresh+1),by rw[hx']⟩,by rw[hx'];exact hvv,C8,λj q h=>?_⟩
 .rw [hx'] at hte ⊢
  have hpl:Uz x.c.p y.xs y.ys:=(by have:=hY.pl;rw[A] at this;exact this)
  have hpm:=hY.pm
  rw[A] at hpm
  refine⟨D.ok,D.more.s.trans hvs,λq h1 h2=>D.more.told (hY.told q h1 h2),⟨by dsimp only;rw[AbI];exact hyn.1,D.more.len.trans hyn.2⟩,(Aej (m':=⟨a.g,X,cU,CR a.M (aA p.cells) (some (aA hd.cells))⟩) B U).trans (hY.gm.trans (show y.c.gm=x.c.gm from If SxC.gm A)),hpl,hO.pn,hO.pi,hpm,hb2,hb1.trans hbp,hO.rules,by dsimp only;rw[hm2];exact hmost,hV2,hK2,by dsimp only;rw[hm2];exact hl2,ha2,hte,λj mj hj=>?_⟩
  have hj:(y.sp.set k ⟨a.g,X,cU,CR a.M (aA p.cells) (some (aA hd.cells))⟩)[j]?=some mj:=hj
  by_cases e:j=k
  .subst e
   rw[AdZ (Eu.1 B).1] at hj
   cases hj
   refine⟨⟨hMU,hstU hmy.1.st⟩,λq u hq=>?_⟩
   have hq:CR a.M (aA p.cells) (some (aA hd.cells)) q=some u:=hq
   by_cases e:q=aA p.cells
   .subst e;rw[DC] at hq;cases hq
    exact⟨⟨p,hd,rfl,T,(by show p∈v'.S;rw[hvv.S];exact hpS),rfl,(by rw[hhd];exact hkI),by rw[hhd]⟩,⟨mb2,hmb2,.inr (hmbt2.trans hth)⟩⟩
   .rw [CI _ _ e] at hq;exact(hmy.2 q u hq).more D.more
  .rw [Adq λh=>e h.symm] at hj
   exact⟨(hY.sp j mj hj).1,λq u hq=>((hY.sp j mj hj).2 q u hq).more D.more⟩
 .by_cases hc:j=k/\q=aA p.cells
  .refine .inr ⟨hc.1,hc.2,mb2,(by rw[hx'];exact hmb2),?_,?_⟩
   .rw [hc.2];exact D.new mb2 hmb2 (hmbt2.trans hth) p (Es.2 U)
   .rw [hc.2,hmbB2];exact hO.told p T.ok T.u k mb hmb hoff
  .rw [hel j q hc] at h;exact .inl (hYa j q h)

theorem Hl(w:Wd)(c:SxC)(a:Row w c.gx c.cells):Cl 58 #[pG c.gx] w (RvF (.bool false) w):=by
 refine en0 func58 U ntmps58 U<|J8 ?_
 refine zV (AI false U U underlying44 U) U<|J4 ?_
 refine zS (An U U Jj.h ((BO (λh=>h) a U))) U<|zS (AI false U U underlying63 U) U<|?_
 refine J5 ?_
 refine zS (An U U Vr ((BO (λh=>h) a U))) U<|zS (AI false U U underlying71 U) U<|?_
 refine J5 ?_
 exact Aw
theorem SX(w:Wd)(c:SxC)(k:Int)(d:Row w c.gx c.cells):Cl 43 #[pG c.gx,iI k] w (RvF (.bool (decide (0<=k/\k<c.n))) w):=by
 refine en0 func43 U ntmps43 U<|J8 ?_
 refine zk CkO U (λw f=>Hl w c (d.st f)) ?_
 skip
 refine J3 ?_
 refine JT (λa=>?_) λa=>?_
 refine J6 ?_
 refine zS (An U U J0.h ((BO (v:=.slice (aG c.gsp) c.n c.sc) (λh=>h) d U))) U<|J1 ?_
 refine JT (λb=>?_) λb=>?_
 refine J5 ?_
 refine eT1 ?_
 exact λe h=>⟨by rw[UV ⟨a,b⟩],h.frm⟩
 refine J5 ?_
 refine eT1 ?_
 exact λe h=>⟨by rw[Ro λq=>b q.2],h.frm⟩
 refine J14 ?_
 refine eT1 ?_
 exact λe h=>⟨by rw[Ro λq=>a q.1],h.frm⟩
theorem Ahx(w:Wd)(ad:Option Addr)(c:Nat)(a:List Int)(u:Rg w ad (a.map (Value.int .i64)))(D:a.length<=1000):
 Cl 119 #[.slice ad a.length c] w (RvF (iI (Gz id a)) w):=by
 refine en0 func119 U ntmps119 U<|J19 ?_
 refine oLp (λj:Nat=>[(8,iI j),(7,iI a.length),(6,.slice ad a.length c),(3,iI 0)]) (λ_=>[]) (λj=>j<=a.length/\∀i y,i<j->a[i]?=some y->id y=0) (λj=>a.length-j) 0 ⟨Lv _,λi y h=>absurd h W⟩ ?_
 rintro j ⟨C,q⟩
 refine J2 ?_
 refine JT (λt=>?_) λt=>?_
 refine J10 ?_
 obtain⟨y,f⟩:∃y,a[j]?=some y:=Gx
 obtain⟨r,s,ea1,B⟩:=u (by intro x;rw[List.map_eq_nil_iff.1 x] at f;simp at f)
 have v:w.cell? ⟨r,s+j,none⟩=some (iI y):=B j _ (by rw[WF,f];rfl)
 refine zV ((AA (b:=r) (off:=s) (lo:=j) U Du U underlying347 AfS U W)) U ?_
 refine zV (An U U one_45 (BY (λh=>h) (by rw[Aed];exact v))) U ?_
 refine J7 ?_
 refine JT (λd=>?_) λd=>?_
 refine J15 ?_
 refine eT1 ?_
 have k:Gz id a=y:=UX q f d
 rw[k]
 exact fR
 refine J10 ?_
 exact eW (j+1) W ⟨W,λi z A g=>by
 by_cases e:i=j
 .subst e;rw[f] at g;cases g;exact AhH d
 .exact q i z W g⟩
 refine J16 ?_
 refine eT1 ?_
 have k:Gz id a=0:=TD λi y A f=>q i y W f
 rw[k]
 exact fR
theorem SxL.all_eq(x:SxL)(L:eL):x.all L=x.all []++L:=by
 unfold SxL.all
 simp only[AbT,Qs,Acx]
theorem SxL.GI{x:SxL}{L Z:eL}{p:Nat->Prop}(h:St p D E (Z++x.all L)):St p D E (x.all (Z++L)):=by
 exact Bu
theorem SxL.MW{x:SxL}{L Z:eL}{p:Nat->Prop}(h:St p D E (x.all (Z++L))):St p D E (Z++x.all L):=by
 exact Bu
theorem SxL.Rb{x:SxL}(h:St B D E (x.all C)):St B D E C:=by
 rw[SxL.all_eq] at h
 exact h.sub (Ai9 _ _)
theorem SxL.Am{x:SxL}(h:St B D E (x.all C)):Row E x.c.gx x.c.cells:=h.holds (.row x.c.gx x.c.cells) (by unfold SxL.all;simp)
theorem HN{a:Option Addr}(f:PfV a A M C)(d:∀e∈C,e.holds D):BH D a 2 PfL.cells M:=λi x c=>by
 have h:=(Eu.1 c).1
 obtain⟨b,o,e,r⟩:=Vec.rg f d (by intro g;have:=AP PfL.BK M;rw[g] at this;simp at this;omega)
 exact⟨b,o,e,Rg.seg PfL.BK r c⟩
structure RaP(x x':SxL)(ps:List PfL)(r:Int):Prop where
 ok:CQ x'
 c:∃fr,x'.c = { x.c with fresh:=fr }
 v:CT x.v x'.v
 r5:r≠5
 new:∀j q,x'.at_ j q≠none->x.at_ j q≠none\/∃p∈ps,q=aA p.cells/\∃m:Mb,x'.v.ms[j]?=some m/\m.NM q≠none/\m.BM q≠none
theorem RaP.same{x:SxL}(a:CQ x):RaP x x M 0:=⟨a,⟨x.c.fresh,rfl⟩,CT.refl _,C8,λ_ _ h=>.inl h⟩
theorem RaP.one{x y z:SxL}{r J d:Int}(h:RaP x y M r)(g:RnP y z A G J)(B:G∈M)(t:d≠5):RaP x z M d:=by
 obtain⟨f1,f⟩:=h.c
 obtain⟨f2,i⟩:=g.c
 refine⟨g.ok,⟨f2,by rw[i,f]⟩,h.v.trans g.v,t,λj q a=>?_⟩
 rcases g.new j q a with a|⟨rfl,rfl,w⟩
 .rcases h.new j q a with a|⟨H,b,e,m,k,s,u⟩
  .exact .inl a
  .obtain ⟨F,C,_,_,D,E⟩:=g.v.at_ j m k
   exact .inr ⟨H,b,e,F,C,E q s,by rw[D];exact u⟩
 .exact .inr ⟨G,B,rfl,w⟩
theorem RaP.gx{x y:SxL}{a:List PfL}{r:Int}(h:RaP x y a r):y.c.gx=x.c.gx/\y.c.n=x.c.n:=by
 obtain⟨f,e⟩:=h.c
 rw[e];exact⟨rfl,rfl⟩
structure RaS where
 i:Nat
 j:Nat
 r:Int
 y:SxL
theorem LB(w0 E:Wd)(x:SxL)(ad:Option Addr)(c:Nat)(a:List PfL)(L:eL)(T:CQ x)(C:FP a)(N:∀p∈a,p∈x.v.S)(hpl:a.length<=8589934592)(Z:∀w,St Fx w0 w L->BH w ad 2 PfL.cells a)(hG:GW w0)(B:St Fx w0 E (x.all L)):
 Cl 61 #[pG x.c.gx,.slice ad a.length c] E λe R=>∃(r:Int) (x':SxL),e=.returned (iI r)/\RaP x x' a r/\St Fx w0 R (x'.all L):=by
 have h16:=T.n16
 have J:St Fx w0 E (.row x.c.gx x.c.cells::.row x.c.gw x.c.sw::.row x.c.gsp x.c.maps::.row x.c.gt x.t.cells::(x.TE++(x.TK++(x.b.AE++(x.v.AE++(x.sp.map MpL.ent++(x.PM++L))))))):=B
 refine enter func61 U ntmps61 U J<|J16 ?_
 refine zV (An U U J0.h (cellAt (g:=x.c.gx) (v:=.slice (aG x.c.gsp) x.c.n x.c.sc) U)) U<|J5 ?_
 refine oLp (λs:RaS=>[(14,iI s.i),(13,iI x.c.n),(5,iI s.r),(0,pG x.c.gx),(1,.slice ad a.length c)]) (λs=>s.y.all L) (λs=>s.i<=x.c.n/\RaP x s.y a s.r) (λs=>x.c.n-s.i) ⟨0,0,0,x⟩ ⟨Lv _,RaP.same T⟩ ?_
 rintro⟨i,_,r,y⟩ ⟨hi,d⟩
 dsimp only at hi d⊢
 refine J2 ?_
 refine JT (λF=>?_) λF=>?_
 refine J22 ?_
 refine oLp (λs:RaS=>[(19,iI s.j),(18,iI a.length),(17,.slice ad a.length c),(6,iI i),(5,iI s.r),(14,iI i),(13,iI x.c.n),(0,pG x.c.gx),(1,.slice ad a.length c)]) (λs=>s.y.all L) (λs=>s.j<=a.length/\RaP x s.y a s.r) (λs=>a.length-s.j) ⟨0,0,r,y⟩ ⟨Lv _,d⟩ ?_
 rintro⟨_,j,r,y⟩ ⟨hj,d⟩
 dsimp only at hj d⊢
 refine J2 ?_
 refine JT (λG=>?_) λG=>?_
 refine J10 ?_
 obtain⟨p,M⟩:∃p,a[j]?=some p:=Gx
 have f:=Do M
 have O:IS p:=⟨(C p f).1,(C p f).2⟩
 obtain⟨b1,o1,ea1,_⟩:=Z E (SxL.Rb B) j p M
 refine zV ((AA (b:=b1) (off:=o1) (lo:=j) U Du U underlying32 BT U W)) U ?_
 refine WL.val (AB (cs:=p.cells) U U DD.h U (λw u=>by
 obtain⟨b2,o2,A,k⟩:=Z w (SxL.Rb u) j p M
 rw[ea1] at A;cases A
 exact k)) (.none U) U U ?_
 refine zy U FZ.h U U<|λD hg8=>J7 ?_
 refine zV (AB U U DD.h U (AL (g:=D))) U<|zK CkO U<|?_
 intro w2 u
 have h2:St Fx w0 w2 ([.row D p.cells]++y.all L):=u
 rw[<- d.gx.1]
 refine(AhL w0 w2 y i p ([.row D p.cells]++L) d.ok (by rw[d.gx.2];omega) O (by rw[d.v.S];exact N p f) hG (SxL.GI h2)).mono ?_
 rintro e R ⟨k,z,rfl,hz,H⟩
 refine⟨_,.row D p.cells::z.all L,rfl,SxL.MW H,?_⟩
 refine zB underlying347 AfS Ah3 (by show some (AK (AK (List.replicate 2 _).flatten 0 [Value.int .i64 r]) 1 [Value.int .i64 k])=some [Value.int .i64 r,Value.int .i64 k];rfl) U ?_
 intro q X
 refine zk CkO U (λw u=>Ahx w (aG q) 2 [r,k] (λ_=>⟨q,0,rfl,AL (g:=q) w u⟩) (by show 2<=1000;decide)) ?_
 have h5:Gz id [r,k]≠5:=(by
 show(if r≠0 then r else if k≠0 then k else 0)≠5
 have:=d.r5
 have:=hz.r5
 split
 .assumption
 .split
  .assumption
  .decide)
 refine J8 ?_
 exact WE.to (L':=z.all L) (λw u=>u.tail.tail) (eW ⟨0,j+1,Gz id [r,k],z⟩ C7 ⟨C7,d.one hz f h5⟩)
 refine J14 ?_
 exact eW ⟨i+1,0,r,y⟩ C7 ⟨C7,d⟩
 refine J16 ?_
 refine eT1 ?_
 exact λR h=>⟨r,y,rfl,d,h⟩

instance SxL.atI{x:SxL}:At (SxL.all x C) x.c.gx x.c.cells:=⟨by unfold SxL.all;simp⟩
def SxL.Hz(x:SxL)(L:eL):eL:=.row x.c.gx x.c.cells::.row x.c.gw x.c.sw::.row x.c.gsp x.c.maps::.row x.c.gt x.t.cells::(x.TE++(x.TK++(x.b.AE++(x.sp.map MpL.ent++(x.PM++L)))))
theorem SxL.ZK(x:SxL)(L:eL):(x.v.AE++x.Hz L).Perm (x.all L):=by
 unfold SxL.Hz SxL.all
 refine(Aib x.v.AE [_,_,_,_] _).trans<|List.Perm.append_left [_,_,_,_]<|(Aib _ _ _).trans (List.Perm.append_left _ ?_)
 exact B7
theorem SxL.Gi{x:SxL}(h:St B D E (x.all C)):St B D E (x.v.AE++x.Hz C):=h.perm (SxL.ZK x C)
theorem SxL.MH{x:SxL}(h:St B D E (J.AE++x.Hz C)):St B D E (SxL.all { x with v:=J } C):=h.perm (SxL.ZK { x with v:=J } C).symm
theorem SxL.LK{x:SxL}(h:St B D E (C++(J.AE++x.Hz X))):St B D E (C++SxL.all { x with v:=J } X):=h.perm ((SxL.ZK { x with v:=J } X).symm.append_left C)
theorem SxL.HG{x:SxL}(h:St B D E (x.all (C++X))):St B D E (x.all X):=by
 rw[SxL.all_eq] at h ⊢
 exact h.sub ((Ai9 C X).append_left _)
theorem Pc.step{a:Nat->Prop}{d:Nat->Bool->Bool}{q u:Vl}(h:Pc J B A q u)(c:GH J O d)(j:∀b,B A\/b=true->a A\/d A b=true):Pc O a A q u:=by
 obtain⟨p,s,e,f,g,i⟩:=h.is_
 obtain⟨m,k,r⟩:=h.th
 obtain⟨w,t,v⟩:=c.at_ A m k
 exact⟨⟨p,s,e,f,by rw[c.S];exact g,i⟩,⟨w,t,by rw[v];exact j _ r⟩⟩
theorem CQ.putV{x:SxL}{a:Nat->Prop}{f:Nat->Bool->Bool}(h:CQ x B)(c:GH x.v J f)(g:∀k b,B k\/b=true->a k\/f k b=true):CQ { x with v:=J } a :=
 ⟨c.ok,c.s.trans h.vs,λq d e=>c.told q d e (h.told q d e),⟨h.n.1,c.len.trans h.n.2⟩,h.gm,h.pl,h.pn,h.pi,h.pm,h.b,h.bp,h.rules,h.most,h.tv,h.tk,h.tn,h.ta,h.te,λk m hk=>⟨(h.sp k m hk).1,λq u i=>((h.sp k m hk).2 q u i).step c (g k)⟩⟩
def NewP(x:SxL)(j:Nat)(q:Vl):Prop:=∃p:PfL,IS p/\q=aA p.cells/\V1 x.v p/\∃m:Mb,x.v.ms[j]?=some m/\m.NM q≠none/\m.BM q≠none
structure XTo(x x':SxL):Prop where
 ok:CQ x'
 gx:x'.c.gx=x.c.gx
 n:x'.c.n=x.c.n
 S:x'.v.S=x.v.S
theorem XTo.refl{x:SxL}(h:CQ x):XTo x x:=⟨h,rfl,rfl,rfl⟩
theorem XTo.trans{a b c:SxL}(h:XTo a b)(k:XTo b c):XTo a c:=⟨k.ok,k.gx.trans h.gx,k.n.trans h.n,k.S.trans h.S⟩
theorem RaP.to{x y:SxL}{r:Int}(h:RaP x y M r):XTo x y:=⟨h.ok,h.gx.1,h.gx.2,h.v.S⟩
theorem V1.more(h:V1 J G)(c:CT J O):V1 O G:=by
 obtain⟨k,m,a,b⟩:=h
 obtain⟨f,d,e,_⟩:=c.at_ k m a
 exact⟨k,f,d,by rw[e.rib];exact b⟩
theorem Agn(w0 i:Wd)(x:SxL)(k:Int)(L:eL)(a:CQ x)(hk:¬(0<=k/\k<(x.c.n:Int)))(f:St Fx w0 i (x.all L)):
 Cl 19 #[pG x.c.gx,iI k] i λe w'=>e=.returned (iI 1)/\St Fx w0 w' (x.all L):=by
 have q:=a.n
 refine enter func19 U ntmps19 U f<|J9 ?_
 refine zk CkO U (λw b=>Hl w x.c (SxL.Am b)) ?_
 skip
 refine J11 ?_
 refine zV (An U U Jj.h (cellAt (g:=x.c.gx) (v:=pG x.c.gs) U)) U<|J1 ?_
 refine zK CkO U<|λj b=>?_
 rw[<- a.vs]
 refine(We Fx w0 j x.v k (x.Hz L) a.v W (SxL.Gi b)).mono ?_
 rintro e w' ⟨rfl,d⟩
 refine⟨_,x.all L,rfl,SxL.MH d,?_⟩
 refine J6 ?_
 refine zV ((Gs U U U).t W) U<|J11 ?_
 exact Bj
structure JoP(x x':SxL)(r:Int):Prop where
 to:XTo x x'
 r5:r≠5
 new:∀j q,x'.at_ j q≠none->x.at_ j q≠none\/NewP x' j q
theorem AcZ(w0 Z:Wd)(x:SxL)(k:Nat)(m:Mb)(L:eL)(A:CQ x)(X:x.v.ms[k]?=some m)(hG:GW w0)(B:St Fx w0 Z (x.all L)):
 Cl 19 #[pG x.c.gx,iI k] Z λe u=>(m.there=true/\e=.returned (iI 5)/\St Fx w0 u (x.all L))\/(m.there=false/\∃(r:Int) (x':SxL),e=.returned (iI r)/\JoP x x' r/\St Fx w0 u (x'.all L)):=by
 cases F:m.there with
 | true =>
  refine enter func19 U ntmps19 U B<|J9 ?_
  refine zk CkO U (λw d=>Hl w x.c (SxL.Am d)) ?_
  skip
  refine J11 ?_
  refine zV (An U U Jj.h (cellAt (g:=x.c.gx) (v:=pG x.c.gs) U)) U<|J1 ?_
  refine zK CkO U<|λz d=>?_
  rw[<- A.vs]
  refine(UA Fx w0 z x.v k m (x.Hz L) A.v X (SxL.Gi d)).mono ?_
  rintro e u (⟨_,rfl,a⟩|⟨D,_⟩)
  rotate_left
  .rw [F] at D;cases D
  refine⟨_,x.all L,rfl,SxL.MH a,?_⟩
  refine J6 ?_
  refine zV ((Gs U U U).t W) U<|J11 ?_
  refine eT1 ?_
  exact λu h=>.inl ⟨rfl,rfl,h⟩
 | false =>
  refine enter func19 U ntmps19 U B<|J9 ?_
  refine zk CkO U (λw d=>Hl w x.c (SxL.Am d)) ?_
  skip
  refine J11 ?_
  refine zV (An U U Jj.h (cellAt (g:=x.c.gx) (v:=pG x.c.gs) U)) U<|J1 ?_
  refine zK CkO U<|λz d=>?_
  rw[<- A.vs]
  refine(UA Fx w0 z x.v k m (x.Hz L) A.v X (SxL.Gi d)).mono ?_
  rintro e u (⟨D,_⟩|⟨_,G,rfl,T,a⟩)
  .rw [F] at D;cases D
  have s:CQ { x with v:=G }:=A.putV T.step λj b h=>(by
   rcases h with h|h
   .exact h.elim
   .exact .inr (by show(if j=k then true else b)=true;split;rfl;exact h))
  refine⟨_,SxL.all { x with v:=G } L,rfl,SxL.MH a,?_⟩
  refine J6 ?_
  refine zV ((Gs U U U).f W) U<|J11 ?_
  refine zV (An U U Jj.h (cellAt (g:=x.c.gx) (v:=pG x.c.gs) U)) U<|zK CkO U<|?_
  intro z d
  rw[<- s.vs]
  refine(QD Fx w0 z G (x.Hz L) s.v (SxL.Gi d)).mono ?_
  rintro e u ⟨ps,ad,c,E,rfl,J,i,O,N,_,hpl,a⟩
  refine⟨_,E++SxL.all { x with v:=G } L,rfl,SxL.LK a,?_⟩
  refine zK CkO U<|λz d=>(LB w0 z { x with v:=G } ad c ps (E++L) s i O W (λw h=>HN J λe he=>h.holds e (Ha _ he)) hG (SxL.GI d)).mono ?_
  rintro e u ⟨r,y,rfl,H,a⟩
  refine⟨_,y.all L,rfl,SxL.HG a,?_⟩
  refine J4 ?_
  refine eT1 ?_
  refine λu h=>.inr ⟨rfl,r,y,rfl,⟨XTo.trans ⟨s,rfl,rfl,T.S⟩ H.to,H.r5,λj q R=>?_⟩,h⟩
  rcases H.new j q R with R|⟨p,C,rfl,M⟩
  .exact .inl R
  .exact .inr ⟨p,⟨(i p C).1,(i p C).2⟩,rfl,((N p (i p C).1 (i p C).2).1 C).more H.v,M⟩

theorem Abx(ex:Nat->Prop)(w0 w1:Wd)(x:SxL)(k:Nat)(m:MpL)(L:eL)(hO:Wg x ex)(R:x.sp[k]?=some m)(hS0:St Fx w0 w1 (x.all L)):
 Cl 59 #[pG x.c.gx,iI k] w1 λe w'=>∃(j:List PfL) (H:Option Addr) (c:Nat) (E:eL),e=.returned (.slice H j.length c)/\PfV H c j E/\FP j/\j.Nodup/\j.length<=5000/\(∀p∈j,p∈x.v.S)/\(∀p,p∈j<->m.M (aA p.cells)≠none)/\St Fx w0 w' (E++x.all L):=by
 have hn:=hO.n
 have hkl:=(Eu.1 R).1
 have O:=hO.few
 obtain⟨T,hmv⟩:=hO.sp k m R
 have hN:=T.im
 have A:=T.st
 have hS1:St Fx w0 w1 (.obj m.g (.map m.es m.c)::.row x.c.gx x.c.cells::.row x.c.gw x.c.sw::.row x.c.gsp x.c.maps::.row x.c.gt x.t.cells::(x.TE++(x.TK++(x.b.AE++(x.v.AE++(x.spR k++(x.PM++L))))))):=SxL.opened R hS0
 have B:∀ {w:Wd}{E:eL},St Fx w0 w (E++(.obj m.g (.map m.es m.c)::.row x.c.gx x.c.cells::.row x.c.gw x.c.sw::.row x.c.gsp x.c.maps::.row x.c.gt x.t.cells::(x.TE++(x.TK++(x.b.AE++(x.v.AE++(x.spR k++(x.PM++L))))))))->St Fx w0 w (E++x.all L):=λh=>St.perm (L':=_++x.all L) h ((SxL.Hi (x:=x) R).symm.append_left _)
 refine enter func59 U ntmps59 U hS1<|J16 ?_
 refine zV (An U U J0.h (cellAt (g:=x.c.gx) (v:=.slice (aG x.c.gsp) x.c.n x.c.sc) U)) U<|J1 ?_
 refine zV (AA (lo:=k) U U U underlying77 FY W W) U<|zV (An U U EN (cellAt (g:=x.c.gsp) (v:=.map (some m.g)) (KF hO R))) U<|WL.range (es:=m.es) (c:=m.c) U U underlying133 C9 (.none U) U U<|λy hg14=>J3 ?_
 refine oLp (λz:NwS=>[(14,pG y),(5,.slice z.ad z.ps.length z.c)]) (λz=>z.E++(.obj y (.mapIter (some m.g) m.c z.seen m.c)::.obj m.g (.map m.es m.c)::.row x.c.gx x.c.cells::.row x.c.gw x.c.sw::.row x.c.gsp x.c.maps::.row x.c.gt x.t.cells::(x.TE++(x.TK++(x.b.AE++(x.v.AE++(x.spR k++(x.PM++L)))))))) (λz=>PfV z.ad z.c z.ps z.E/\Kj m.es z.seen z.ps/\FP z.ps/\∀p∈z.ps,p∈x.v.S) (λz=>JD m.es z.seen) ⟨#[],[],none,0,[]⟩ ⟨Vec.nil 2,Kj.nil _,λp h=>Da,λp h=>Da⟩ ?_
 rintro⟨seen,j,H,c,E⟩ ⟨hV,i,F,s⟩
 dsimp only at hV i F s⊢
 have hpl:j.length<=5000:=AcC (PC i.nd s) O
 refine J2 ?_
 refine WL.next U U C9 (A) (.none U) U U (λC=>?_) λd a u=>?_
 refine J13 ?_
 refine zK CkO U<|λw2 hS=>(N7 Fx w0 w2 _ E H c j hV hS W).mono ?_
 rintro e w' ⟨rfl,ys,E1,G,hpw,hV1,hS'⟩
 refine⟨_,_,rfl,hS',?_⟩
 refine J9 ?_
 refine eT1 ?_
 refine λw' h=>?_
 exact⟨ys,H,c,E1,by rw[G.length_eq],hV1,λq f=>F q (G.mem_iff.1 f),G.nodup_iff.2 i.nd,by rw[G.length_eq];exact hpl,λq f=>s q (G.mem_iff.1 f),λq=>G.mem_iff.trans (i.all hN C q),B (h.sub (Acq (Adk _ _) _))⟩
 refine J1 ?_
 obtain⟨p,D,X,hpU⟩:=hN.keys d a
 refine J9 ?_
 refine zV ((LL U U (es:=m.es) (g:=m.g) (c:=m.c) (since:=m.c) (seen:=seen) C9 C9 A a).eq (v:=.tuple #[aA p.cells,d.val]) (by rw[D])) U ?_
 refine J1 ?_
 refine zy U FZ.h U U<|λg6 hg6=>J6 ?_
 refine zB underlying32 BT FZ.h U U<|λr hg21=>?_
 obtain⟨Z,hT0⟩:∃Z:eL,Z=.obj y (.mapIter (some m.g) m.c (seen.push d.born) m.c)::.obj m.g (.map m.es m.c)::.row x.c.gx x.c.cells::.row x.c.gw x.c.sw::.row x.c.gsp x.c.maps::.row x.c.gt x.t.cells::(x.TE++(x.TK++(x.b.AE++(x.v.AE++(x.spR k++(x.PM++L)))))):=⟨_,rfl⟩
 refine WL.to (L':=E++(.row r p.cells::Z)) (λw h=>by
  have h1:St Fx w0 w (.row r p.cells::.row g6 p.cells::(E++Z)):=Fp
  exact St.AN [.row g6 p.cells] h1) ?_
 refine WL.AU U U U underlying32 underlying32 BT P6 FZ.h U U hV (new:=p.cells) (λ_=>⟨r,0,rfl,λw hS=>AL (g:=r) w hS⟩) U (BD PfL.one _) W (.none U) U U<|λJ c22 E22 N hr22=>J3 ?_
 exact WE.next ⟨seen.push d.born,j++[p],J,c22,E22⟩ (HA a u) ⟨by dsimp only;unfold PfV;rw[AX,AC];exact N,i.push hN A a u D,λq f=>by
 rcases LI.1 f with f|f
 .exact F q f
 .rw [Es.1 f];exact⟨X,hpU⟩,λq f=>by
 rcases LI.1 f with f|f
 .exact s q f
 .rw [Es.1 f]
  obtain⟨p',_,h2,_,h1,_⟩:=(hmv d.key d.val ((hN.get _ _).2 ⟨d,a,rfl,rfl⟩)).is_
  rw[D] at h2
  rw[EE h2];exact h1⟩ (.cons U (.eq U Dl .nil)) Dv
theorem Ac0(w0 i:Wd)(x:SxL)(k:Int)(L:eL)(a:CQ x)(hk:¬(0<=k/\k<(x.c.n:Int)))(f:St Fx w0 i (x.all L)):
 Cl 18 #[pG x.c.gx,iI k] i λe w'=>e=.returned (iI 1)/\St Fx w0 w' (x.all L):=by
 have q:=a.n
 refine enter func18 U ntmps18 U f<|J9 ?_
 refine zk CkO U (λw b=>Hl w x.c (SxL.Am b)) ?_
 skip
 refine J10 ?_
 refine zV (An U U Jj.h (cellAt (g:=x.c.gx) (v:=pG x.c.gs) U)) U<|J1 ?_
 refine zK CkO U<|λj b=>?_
 rw[<- a.vs]
 refine(Te Fx w0 j x.v k (x.Hz L) a.v W (SxL.Gi b)).mono ?_
 rintro e w' ⟨rfl,d⟩
 refine⟨_,x.all L,rfl,SxL.MH d,?_⟩
 refine J11 ?_
 refine zV ((Gs U U U).t W) U<|J11 ?_
 exact Bj
structure LvS where
 j:Nat
 y:SxL
theorem Z1(w0 w1:Wd)(x:SxL)(k:Nat)(m:Mb)(L:eL)(T:CQ x)(hm:x.v.ms[k]?=some m)(hG:GW w0)(hS0:St Fx w0 w1 (x.all L)):
 Cl 18 #[pG x.c.gx,iI k] w1 λe N=>∃(r:Int) (x':SxL),e=.returned (iI r)/\XTo x x'/\(∃m':Mb,x'.v.ms[k]?=some m'/\m'.there=false)/\St Fx w0 N (x'.all L):=by
 have hn:=T.n
 have hkl:=(Eu.1 hm).1
 cases ab:m.there with
 | false =>
  refine enter func18 U ntmps18 U hS0<|J9 ?_
  refine zk CkO U (λw s=>Hl w x.c (SxL.Am s)) ?_
  skip
  refine J10 ?_
  refine zV (An U U Jj.h (cellAt (g:=x.c.gx) (v:=pG x.c.gs) U)) U<|J1 ?_
  refine zK CkO U<|λw2 s=>?_
  rw[<- T.vs]
  refine(Q4 Fx w0 w2 x.v k m (x.Hz L) T.v hm (SxL.Gi s)).mono ?_
  rintro e N (⟨_,rfl,a⟩|⟨ht,_⟩)
  rotate_left
  .rw [ab] at ht;cases ht
  refine⟨_,x.all L,rfl,SxL.MH a,?_⟩
  refine J11 ?_
  refine zV ((Gs U U U).t W) U<|J11 ?_
  refine eT1 ?_
  exact λN h=>⟨4,x,rfl,XTo.refl T,⟨m,hm,ab⟩,h⟩
 | true =>
  refine enter func18 U ntmps18 U hS0<|J9 ?_
  refine zk CkO U (λw s=>Hl w x.c (SxL.Am s)) ?_
  skip
  refine J10 ?_
  refine zV (An U U Jj.h (cellAt (g:=x.c.gx) (v:=pG x.c.gs) U)) U<|J1 ?_
  refine zK CkO U<|λw2 s=>?_
  rw[<- T.vs]
  refine(Q4 Fx w0 w2 x.v k m (x.Hz L) T.v hm (SxL.Gi s)).mono ?_
  rintro e N (⟨ht,_⟩|⟨_,v',hs,ad,c,E,rfl,hPV,hhl,hps,hpS,Z,a⟩)
  .rw [ab] at ht;cases ht
  have X:CQ { x with v:=v' } (λj=>j=k):=T.putV Z λj b h=>(by
   by_cases e:j=k
   .exact .inl e
   .rcases h with h|h
    .exact h.elim
    .exact .inr (by show(if j=k then false else b)=true;rw[E9 e];exact h))
  refine⟨_,E++SxL.all { x with v:=v' } L,rfl,SxL.LK (a.perm (Aib _ _ _)),?_⟩
  refine J11 ?_
  refine zV ((Gs U U U).f W) U<|J5 ?_
  refine WC.cut (λy:SxL=>[(5,.slice ad hs.length c),(0,pG x.c.gx),(1,iI k)]) (λy=>y.all (E++L)) (λy=>CQ y/\y.c=x.c/\y.v.S=x.v.S/\∃m':Mb,y.v.ms[k]?=some m'/\m'.there=false) ?_ ?_
  refine J4 ?_
  refine zk CkO U (λw s=>SX w x.c k (SxL.Am (x:={ x with v:=v' }) (s.sub (Ai9 E _)))) ?_
  rw[UV (⟨W,W⟩:(0:Int)<=(k:Int)/\(k:Int)<(x.c.n:Int))]
  refine J7 ?_
  refine zK CkO U<|λw2 s=>?_
  obtain⟨ms,F⟩:∃ms,x.sp[k]?=some ms:=Gx
  refine(Abx (λj=>j=k) w0 w2 { x with v:=v' } k ms (E++L) X.wk F (SxL.GI s)).mono ?_
  rintro e N ⟨C,pa,pc,EP,rfl,hQV,hqs,hnd,hql,hqS,hqm,a⟩
  refine⟨_,SxL.all { x with v:=v' } (EP++(E++L)),rfl,SxL.GI a,?_⟩
  refine J5 ?_
  refine oLp (λz:LvS=>[(30,iI z.j),(29,iI C.length),(28,.slice pa C.length pc),(5,.slice ad hs.length c),(0,pG x.c.gx),(1,iI k)]) (λz=>z.y.all (EP++(E++L))) (λz=>z.j<=C.length/\CQ z.y (λj=>j=k)/\z.y.c=x.c/\CT v' z.y.v/\(∀i p,i<z.j->C[i]?=some p->z.y.at_ k (aA p.cells)=none)/\∀q,(∀i p,i<z.j->C[i]?=some p->q≠aA p.cells)->z.y.at_ k q=x.at_ k q) (λz=>C.length-z.j) ⟨0, { x with v:=v' }⟩ ⟨Lv _,X,rfl,CT.refl _,λi p h=>absurd h C7,λq _=>rfl⟩ ?_
  rintro⟨j,y⟩ ⟨hj,hY,d,D,hz,hk⟩
  dsimp only at hj hY d D hz hk⊢
  refine J2 ?_
  refine JT (λh31=>?_) λh31=>?_
  refine J10 ?_
  obtain⟨p,J⟩:∃p,C[j]?=some p:=Gx
  have aa:=Do J
  have hpo:IS p:=⟨(hqs p aa).1,(hqs p aa).2⟩
  have hyn:y.sp.length=x.c.n:=(by have:=hY.n.1;rw[d] at this;exact this)
  obtain⟨my,hmy⟩:∃my,y.sp[k]?=some my:=Gx
  have hat:y.at_ k (aA p.cells)=x.at_ k (aA p.cells):=hk _ λi p' H A e=>(by
   have e:=EE e
   obtain⟨l1,e1⟩:=Eu.1 J
   obtain⟨l2,e2⟩:=Eu.1 A
   exact List.pairwise_iff_getElem.1 hnd i j l2 l1 H (by rw[e1,e2,e]))
  obtain⟨u,hu⟩:∃u,my.M (aA p.cells)=some u:=(by
   rw[SxL.CM hmy,SxL.CM F] at hat
   have:=(hqm p).1 aa
   rw[<- hat] at this
   cases G:my.M (aA p.cells) with
   | none=>exact absurd G this
   | some u=>exact⟨u,rfl⟩)
  obtain⟨b1,o1,ea1,_⟩:=HN hQV (λe he=>a.holds e (Ha _ he)) j p J
  refine zV ((AA (b:=b1) (off:=o1) (lo:=j) U D2 U underlying32 BT U W)) U ?_
  refine WL.val (AB (cs:=p.cells) U U DD.h U (λw s=>by
  obtain⟨b2,o2,ea2,r2⟩:=HN hQV (λe he=>(SxL.Rb s).holds e (Ha _ he)) j p J
  rw[ea1] at ea2;cases ea2
  exact r2)) (.none U) U U ?_
  refine zy U FZ.h U U<|λg8 hg8=>J6 ?_
  refine zV (AB U U DD.h U (AL (g:=g8))) U<|zK CkO U<|?_
  intro w3 s
  have O:St Fx w0 w3 ([.row g8 p.cells]++y.all (EP++(E++L))):=s
  rw[show x.c.gx=y.c.gx from by rw[d]]
  refine(AeI (λj=>j=k) w0 w3 y k p my u ([.row g8 p.cells]++(EP++(E++L))) hY hmy hpo hu (SxL.GI O)).mono ?_
  rintro e N ⟨z,rfl,R,a⟩
  refine⟨_,z.all (EP++(E++L)),rfl,SxL.HG a,?_⟩
  refine J7 ?_
  exact eW ⟨j+1,z⟩ C7 ⟨C7,R.ok,R.c.trans d,D.trans R.v,λi p' H A=>by
  have H:i<j+1:=H
  by_cases e:i=j
  .subst e;rw[J] at A;cases A;exact R.gone
  .by_cases e2:aA p'.cells=aA p.cells
   .rw [e2];exact R.gone
   .rw [R.else_ k _ λG=>e2 G.2];exact hz i p' W A,λq B=>by
  rw[R.else_ k q λG=>B j p C7 J G.2]
  exact hk q λi p' H A=>B i p' C7 A⟩
  refine J8 ?_
  obtain rfl:j=C.length:=W
  have hall:∀q,y.at_ k q=none:=λq=>(by
   by_cases B:∃i p,i<C.length/\C[i]?=some p/\q=aA p.cells
   .obtain ⟨i,p,h1,O,rfl⟩:=B
    exact hz i p h1 O
   .rw [hk q λi p h1 O e=>B ⟨i,p,h1,O,e⟩,SxL.CM F]
    cases G:ms.M q with
    | none=>rfl
    | some u =>
     obtain⟨p,_,rfl,_⟩:=((X.sp k ms F).2 q u G).is_
     obtain⟨i,H,e⟩:=List.mem_iff_getElem.1 ((hqm p).2 (by rw[G];intro e;cases e))
     exact absurd ⟨i,p,H,by rw[FS H,e],rfl⟩ B)
  obtain⟨m1,k1,k2⟩:=Z.at_ k m hm
  obtain⟨m2,k3,_,k4,_⟩:=D.at_ k m1 k1
  exact WE.to (L':=y.all (E++L)) (λw h=>SxL.HG h) (eM y ⟨⟨hY.v,hY.vs,hY.told,hY.n,hY.gm,hY.pl,hY.pn,hY.pi,hY.pm,hY.b,hY.bp,hY.rules,hY.most,hY.tv,hY.tk,hY.tn,hY.ta,hY.te,λj mj hj=>⟨(hY.sp j mj hj).1,λq u B=>⟨((hY.sp j mj hj).2 q u B).is_,by
   obtain⟨mb,g1,g2⟩:=((hY.sp j mj hj).2 q u B).th
   refine⟨mb,g1,g2.elim (λe=>?_) .inr⟩
   subst e
   rw[<- SxL.CM hj,hall q] at B
   cases B⟩⟩⟩,d,D.S.trans Z.S,⟨m2,k3,by rw[k4,k2];exact IR rfl⟩⟩)
  rintro y ⟨hY,d,hYS,hYm⟩
  refine J4 ?_
  refine zK CkO U<|λw2 s=>?_
  rw[show x.c.gx=y.c.gx from by rw[d]]
  refine(LB w0 w2 y ad c hs (E++L) hY hps (λp J=>by rw[hYS];exact hpS p J) hhl (λw h=>HN hPV λe he=>h.holds e (Ha _ he)) hG s).mono ?_
  rintro e N ⟨r,z,rfl,hR,a⟩
  refine⟨_,z.all L,rfl,SxL.HG a,?_⟩
  refine J4 ?_
  refine eT1 ?_
  refine λN h=>⟨r,z,rfl,XTo.trans ⟨hY,by rw[d],by rw[d],hYS⟩ hR.to,?_,h⟩
  obtain⟨m',h1,O⟩:=hYm
  obtain⟨m2,h3,_,h4,_⟩:=hR.v.at_ k m' h1
  exact⟨m2,h3,h4.trans O⟩

def Qv(w0 b:Wd)(x:SxL)(L:eL)(e:Ending):Prop:=∃(r:Int) (a:SxL),e=.returned (iI r)/\XTo x a/\St Fx w0 b (a.all L)
theorem Yw(w0 i:Wd)(x:SxL)(k:Int)(a:MsL)(L:eL)(hO:CQ x)(hk:¬(0<=k/\k<(x.c.n:Int)))(f:St Fx w0 i (x.all L)):
 Cl 25 #[pG x.c.gx,iI k,aA a.cells] i λe w'=>Qv w0 w' x L e:=by
 have s:=hO.n
 refine enter func25 U ntmps25 U f<|J2 ?_
 refine zx U U U U U<|λj q=>J7 ?_
 refine zk CkO U (λw b=>Hl w x.c (SxL.Am b.tail)) ?_
 skip
 refine J6 ?_
 refine WC.AS mixed<|rF 8 [0,1,2,4]<|?_
 refine J5 ?_
 refine rA 6 [3,5] U<|qV (An U U Jj.h (cellAt (g:=x.c.gx) (v:=pG x.c.gs) U)) U<|qV (AB U U i41m.h U (AL (g:=j))) U<|?_
 refine J1 ?_
 refine rO 5 [6]<|zK CkO U<|?_
 intro r b
 rw[<- hO.vs]
 refine(Q5 Fx w0 r x.v k a (x.Hz L) hO.v W (SxL.Gi b.tail)).mono ?_
 rintro e w' ⟨rfl,d⟩
 refine⟨_,x.all L,rfl,SxL.MH d,?_⟩
 refine J1 ?_
 refine rF 0 [7,8,9,10,11]<|J12 ?_
 exact B3
theorem AbS(w0 N:Wd)(x:SxL)(k:Nat)(m:Mb)(a:MsL)(L:eL)(y:CQ x)(hm:x.v.ms[k]?=some m)(F:Stb Fx w0 λw=>a.At w)(hz:a.atr.Zs)(Z:(∀p∈a.gone,U32 p.addr)/\∀p∈a.nets,U32 p.addr)(hl:a.gone.length<=1000/\a.nets.length<=1000)(C:∀p∈a.gone,p∈x.v.S)(G:∀p∈a.nets,p∈x.v.S)(T:GW w0)(B:St Fx w0 N (x.all L)):
 Cl 25 #[pG x.c.gx,iI k,aA a.cells] N λe s=>Qv w0 s x L e:=by
 refine enter func25 U ntmps25 U B<|J2 ?_
 refine zx U U U U U<|λR hg5=>J7 ?_
 refine zk CkO U (λw q=>Hl w x.c (SxL.Am q.tail)) ?_
 skip
 refine J6 ?_
 refine WC.AS mixed<|rF 8 [0,1,2,4]<|?_
 refine J5 ?_
 refine rA 6 [3,5] U<|qV (An U U Jj.h (cellAt (g:=x.c.gx) (v:=pG x.c.gs) U)) U<|qV (AB U U i41m.h U (AL (g:=R))) U<|?_
 refine J1 ?_
 refine rO 5 [6]<|zK CkO U<|?_
 intro M q
 rw[<- y.vs]
 refine(Tf Fx w0 M x.v k m a (x.Hz L) y.v hm F hz Z hl C G (SxL.Gi q.tail)).mono ?_
 rintro e s ⟨r,t,hs,O,c,E,rfl,A,D,J,H,d,i⟩
 have f:CQ { x with v:=t }:=y.putV d λj b h=>h
 refine⟨_,E++SxL.all { x with v:=t } L,rfl,SxL.LK (i.perm (Aib _ _ _)),?_⟩
 refine J1 ?_
 refine rF 0 [7,8,9,10,11]<|J12 ?_
 refine JT (λu=>?_) λu=>?_
 refine J11 ?_
 refine eT1 ?_
 exact λs h=>⟨r,_,rfl,⟨f,rfl,rfl,d.S⟩,h.sub (Ai9 _ _)⟩
 refine J9 ?_
 refine zK CkO U<|λM q=>(LB w0 M { x with v:=t } O c hs (E++L) f J (λp hp=>by show p∈t.S;rw[d.S];exact H p hp) D (λw h=>HN A λe he=>h.holds e (Ha _ he)) T (SxL.GI q)).mono ?_
 rintro e s ⟨r2,z,rfl,X,i⟩
 refine⟨_,z.all L,rfl,SxL.HG i,?_⟩
 refine J4 ?_
 refine eT1 ?_
 exact λs h=>⟨r2,z,rfl,XTo.trans ⟨f,rfl,rfl,d.S⟩ X.to,h⟩
theorem AbR(w0 k:Wd)(x:SxL)(a d:Int)(b:Bool)(L:eL)(hO:CQ x)(hk:¬((0<=a/\a<(x.c.n:Int))/\(0<=d/\d<(x.c.n:Int))))(j:St Fx w0 k (x.all L)):
 Cl 26 #[pG x.c.gx,iI a,iI d,.bool b] k λe w'=>Qv w0 w' x L e:=by
 have r:=hO.n
 refine enter func26 U ntmps26 U j<|J9 ?_
 refine zk CkO U (λw f=>Hl w x.c (SxL.Am f)) ?_
 skip
 refine J11 ?_
 refine zV (An U U Jj.h (cellAt (g:=x.c.gx) (v:=pG x.c.gs) U)) U<|J3 ?_
 refine zK CkO U<|λq f=>?_
 rw[<- hO.vs]
 refine(Td Fx w0 q x.v a d b (x.Hz L) hO.v W (SxL.Gi f)).mono ?_
 rintro e w' ⟨rfl,i⟩
 refine⟨_,x.all L,rfl,SxL.MH i,?_⟩
 refine J6 ?_
 exact B3
theorem Ado(w0 H:Wd)(x:SxL)(u G:Nat)(m mt:Mb)(b:Bool)(L:eL)(z:CQ x)(R:x.v.ms[u]?=some m)(C:x.v.ms[G]?=some mt)(M:GW w0)(B:St Fx w0 H (x.all L)):
 Cl 26 #[pG x.c.gx,iI u,iI G,.bool b] H λe s=>Qv w0 s x L e:=by
 refine enter func26 U ntmps26 U B<|J9 ?_
 refine zk CkO U (λw i=>Hl w x.c (SxL.Am i)) ?_
 skip
 refine J11 ?_
 refine zV (An U U Jj.h (cellAt (g:=x.c.gx) (v:=pG x.c.gs) U)) U<|J3 ?_
 refine zK CkO U<|λt i=>?_
 rw[<- z.vs]
 refine(Wc Fx w0 t x.v u G m mt b (x.Hz L) z.v R C (SxL.Gi i)).mono ?_
 rintro e s ⟨q,rfl,k,a⟩
 have d:CQ { x with v:=q }:=z.putV k λj b h=>h
 refine⟨_,SxL.all { x with v:=q } L,rfl,SxL.MH a,?_⟩
 refine J6 ?_
 refine zV ((Gs U U U).f W) U<|J11 ?_
 refine zV (An U U Jj.h (cellAt (g:=x.c.gx) (v:=pG x.c.gs) U)) U<|zK CkO U<|?_
 intro t i
 rw[<- d.vs]
 refine(QD Fx w0 t q (x.Hz L) d.v (SxL.Gi i)).mono ?_
 rintro e s ⟨Z,J,c,E,rfl,A,F,D,T,_,X,a⟩
 refine⟨_,E++SxL.all { x with v:=q } L,rfl,SxL.LK a,?_⟩
 refine zK CkO U<|λt i=>(LB w0 t { x with v:=q } J c Z (E++L) d F D W (λw h=>HN A λe O=>h.holds e (Ha _ O)) M (SxL.GI i)).mono ?_
 rintro e s ⟨r,y,rfl,N,a⟩
 refine⟨_,y.all L,rfl,SxL.HG a,?_⟩
 refine J4 ?_
 refine eT1 ?_
 exact λs h=>⟨r,y,rfl,XTo.trans ⟨d,rfl,rfl,k.S⟩ N.to,h⟩
theorem AgF(w0 y:Wd)(x:SxL)(k:Nat)(p:PfL)(L:eL)(f:CQ x)(hk:k<x.c.n)(A:IS p)(i:St Fx w0 y (x.all L)):
 Cl 21 #[pG x.c.gx,iI k,aA p.cells] y λe B=>∃h:SpD,e=.returned (.tuple #[.agg #[iI h.k.from_,iI h.k.best,iI h.k.may,iI h.tag],.bool (x.at_ k (aA p.cells)).isSome])/\St Fx w0 B (x.all L):=by
 have O:=f.n
 obtain⟨m,a⟩:∃m,x.sp[k]?=some m:=Gx
 obtain⟨q,r⟩:=f.sp k m a
 obtain⟨d,s⟩:∃d:SpD,(m.M (aA p.cells)).getD (.agg (SpD.cells ⟨⟨0,0,0⟩,0,0⟩).toArray)=aA d.cells:=by
  cases F:m.M (aA p.cells) with
  | none=>exact⟨_,rfl⟩
  | some u =>
   obtain⟨_,h,_,_,_,rfl,_⟩:=(r _ _ F).is_
   exact⟨h,rfl⟩
 have j:St Fx w0 y (.obj m.g (.map m.es m.c)::.row x.c.gx x.c.cells::.row x.c.gw x.c.sw::.row x.c.gsp x.c.maps::.row x.c.gt x.t.cells::(x.TE++(x.TK++(x.b.AE++(x.v.AE++(x.spR k++(x.PM++L))))))):=SxL.opened a i
 rw[SxL.CM a]
 refine enter func21 U ntmps21 U j<|J2 ?_
 refine zx U U U U U<|λC G=>zy U i86z.h U U<|λN H=>J8 ?_
 refine zk CkO U (λw E=>SX w x.c k (E.row (g:=x.c.gx))) ?_
 rw[UV (⟨W,W⟩:(0:Int)<=(k:Int)/\(k:Int)<(x.c.n:Int))]
 refine J7 ?_
 refine WC.AS mixed<|rF 11 [0,1,2,4]<|?_
 refine J5 ?_
 refine WR.mix (g:=2) 12 [3,5,6,7,8,9,10] [11] U HQ U U U C6 C6<|zm (An U U J0.h (cellAt (g:=x.c.gx) (v:=.slice (aG x.c.gsp) x.c.n x.c.sc) U)) U<|zm (AA (lo:=k) U U U underlying77 FY W W) U<|zm (An U U EN (cellAt (g:=x.c.gsp) (v:=.map (some m.g)) (Lu f a))) U<|zm (AB U U DD.h U (AL (g:=C))) U<|?_
 refine zm (ED (z:=.agg (SpD.cells ⟨⟨0,0,0⟩,0,0⟩).toArray) U U U underlying133 DH (KPf.mk A.ok A.u) C6 (C4 (es:=m.es) m.g (c:=m.c) C9) q.im) U ?_
 rw[s]
 generalize (m.M (aA p.cells)).isSome=R
 refine zm (DG U U) U<|zm (CB U U U) U<|WM.nil<|?_
 refine J1 ?_
 refine WP.NU<|λD J=>rO 1 [13]<|J1 ?_
 refine WL.CD (g:=D) (cs':=d.cells) (AH U)<|J1 ?_
 refine rF 0 [14]<|J7 ?_
 refine zV (AB U U i86m.h U (AT (m:=4) U)) U<|J6 ?_
 refine eT2 ?_
 refine λB h=>⟨d,rfl,?_⟩
 exact St.perm (L':=x.all L) (St.sub (L':=.obj m.g (.map m.es m.c)::.row x.c.gx x.c.cells::.row x.c.gw x.c.sw::.row x.c.gsp x.c.maps::.row x.c.gt x.t.cells::(x.TE++(x.TK++(x.b.AE++(x.v.AE++(x.spR k++(x.PM++L))))))) h (by repeat (first|exact Aia _|refine List.Sublist.cons _ ?_))) (SxL.Hi (x:=x) a).symm
theorem Hop_c(w:Wd)(t:Int):Cl 57 #[iI t] w λe w'=>∃v:Int,e=.returned (.int .u32 v)/\Frm Fx w w':=by
 refine en0 func57 U ntmps57 U<|J8 ?_
 refine zV (HX U U U (Hy (i:=8) (m:=256) C8 C8 C8)) U<|zV (FA U U underlying30 underlying3 (rfl)) U<|zV (EW U U U (rfl)) U<|?_
 refine J4 ?_
 exact Cq

structure AdL where
 p:PfL
 gone:Bool
 a:AtL
def AdL.cells(x:AdL):vL:=x.p.cells++(.bool x.gone::x.a.cells)
theorem AdL.BK(x:AdL):x.cells.length=13:=rfl
theorem AdL.one(x:AdL):∀v∈x.cells,v.oneCell'=true:=λv a=>by
 unfold AdL.cells PfL.cells AtL.cells at a
 simp only[Rl,AbT,Aec,List.not_mem_nil,or_false] at a
 rcases a with h|h|h|h|h|h|h|h|h|h|h|h|h<;>(rw[h];rfl)
structure AvS where
 j:Nat
 ads:List AdL
 ad:Option Addr
 c:Nat
 E:eL
structure AvR where
 r:RtL
 K:eL
 g:Nat
structure AdvP(x x':SxL)(k:Nat)(m:MpL)(mb:Mb)(ads:List AdL):Prop where
 to:XTo x x'
 sp:x'.sp=x.sp
 told:∃mb':Mb,x'.v.ms[k]?=some mb'/\∀q,mb'.NM q=none
 all_:∃ps:List PfL,ps.Nodup/\FP ps/\(∀p,p∈ps<->mb.NM (aA p.cells)≠none)/\ads.map AdL.gone=ps.map λp => !((m.M (aA p.cells)).isSome && (mb.BM (aA p.cells)).isSome)
 few:ads.length<=5000
theorem Pa(w0 w1:Wd)(x:SxL)(k:Nat)(m:MpL)(mb:Mb)(L:eL)(hO:CQ x)(hm:x.sp[k]?=some m)(hmb:x.v.ms[k]?=some mb)(hS0:St Fx w0 w1 (x.all L)):
 Cl 17 #[pG x.c.gx,iI k] w1 λe F=>∃(x':SxL) (f:List AdL) (ad:Option Addr) (c:Nat) (E:eL),e=.returned (.slice ad f.length c)/\Vec 13 ad f.length c (AM AdL.cells f) E/\AdvP x x' k m mb f/\St Fx w0 F (E++x'.all L):=by
 have hn:=hO.n
 have hkl:=(Eu.1 hm).1
 obtain⟨hmo,hmv⟩:=hO.sp k m hm
 refine enter func17 U ntmps17 U hS0<|J10 ?_
 refine zk CkO U (λw d=>SX w x.c k (SxL.Am d)) ?_
 rw[UV (⟨W,W⟩:(0:Int)<=(k:Int)/\(k:Int)<(x.c.n:Int))]
 refine J17 ?_
 refine zV (An U U Jj.h (cellAt (g:=x.c.gx) (v:=pG x.c.gs) U)) U<|J1 ?_
 refine zK CkO U<|λw2 d=>?_
 rw[<- hO.vs]
 refine(Agw Fx w0 w2 x.v k mb (x.Hz L) hO.v hmb (SxL.Gi d)).mono ?_
 rintro e F ⟨B,A,pa,pc,O,rfl,hPV,ae,hnd,hpl,hpm,hSt,⟨i,D,hBM,hNM⟩,s⟩
 have q:CQ { x with v:=B }:=hO.putV hSt λj b h=>h
 obtain⟨Z,hZ⟩:∃Z:eL,Z=.row x.c.gw x.c.sw::.row x.c.gt x.t.cells::(x.TE++(x.TK++(x.b.AE++(B.AE++(x.spR k++(x.PM++(O++L))))))):=⟨_,rfl⟩
 have X:∀e∈B.AE,e∈Z:=λe he=>by rw[hZ];simp[he]
 have hZp:∀e∈O,e∈Z:=λe he=>by rw[hZ];simp[he]
 have h3:St Fx w0 F (.obj m.g (.map m.es m.c)::.row x.c.gx x.c.cells::.row x.c.gw x.c.sw::.row x.c.gsp x.c.maps::.row x.c.gt x.t.cells::(x.TE++(x.TK++(x.b.AE++(B.AE++(x.spR k++(x.PM++(O++L)))))))):=SxL.opened (x:={ x with v:=B }) hm (SxL.GI (SxL.LK s))
 refine⟨_,.obj m.g (.map m.es m.c)::.row x.c.gx x.c.cells::.row x.c.gsp x.c.maps::Z,rfl,(by rw[hZ];exact h3.AJ),?_⟩
 refine J5 ?_
 refine oLp (λz:AvS=>[(24,iI z.j),(23,iI A.length),(22,.slice pa A.length pc),(5,.slice z.ad z.ads.length z.c),(0,pG x.c.gx),(1,iI k)]) (λz=>z.E++(.obj m.g (.map m.es m.c)::.row x.c.gx x.c.cells::.row x.c.gsp x.c.maps::Z)) (λz=>z.j<=A.length/\Vec 13 z.ad z.ads.length z.c (AM AdL.cells z.ads) z.E/\z.ads.map AdL.gone=(A.take z.j).map λp => !((m.M (aA p.cells)).isSome && (i.BM (aA p.cells)).isSome)) (λz=>A.length-z.j) ⟨0,[],none,0,[]⟩ ⟨Lv _,Vec.nil 13,rfl⟩ ?_
 rintro⟨j,f,aa,ac,EA⟩ ⟨hj,T,hg⟩
 dsimp only at hj T hg⊢
 have hal:f.length=j:=(by have:=If List.length hg;rw[Ri,Ri,Ahp] at this;omega)
 refine J2 ?_
 refine JT (λh25=>?_) λh25=>?_
 refine J10 ?_
 obtain⟨p,hp⟩:∃p,A[j]?=some p:=Gx
 have J:=Do hp
 have y:IS p:=⟨(ae p J).1,(ae p J).2⟩
 obtain⟨b1,o1,ea1,_⟩:=HN hPV (λe he=>s.holds e (Ha _ he)) j p hp
 obtain⟨H,hu0⟩:∃H:SpD,(m.M (aA p.cells)).getD (.agg (SpD.cells ⟨⟨0,0,0⟩,0,0⟩).toArray)=aA H.cells:=(by
  cases hc:m.M (aA p.cells) with
  | none=>exact⟨_,rfl⟩
  | some u =>
   obtain⟨_,h,_,_,_,rfl,_⟩:=(hmv _ _ hc).is_
   exact⟨h,rfl⟩)
 refine zV ((AA (b:=b1) (off:=o1) (lo:=j) U D2 U underlying32 BT U W)) U ?_
 refine WL.val (AB (cs:=p.cells) U U DD.h U (λw d=>by
 obtain⟨b2,o2,ea2,r2⟩:=HN hPV (λe he=>d.holds e (by simp[hZp e he])) j p hp
 rw[ea1] at ea2;cases ea2
 exact r2)) (.none U) U U ?_
 refine zy U FZ.h U U<|λg7 hg7=>J5 ?_
 refine zV (AB U U DD.h U (AL (g:=g7))) U<|zV ((GC U U O8 plc_90 U).eq (v:=.agg (AdL.cells ⟨p,true,.zero⟩).toArray) U) U<|zy U O8 U U<|?_
 intro C hg8
 refine J1 ?_
 refine WL.CD (g:=C) (cs':=AdL.cells ⟨p,true,.zero⟩) (AH U)<|J3 ?_
 refine WC.AS mixed<|rF 11 [0,1,2,4]<|?_
 refine J5 ?_
 refine WR.mix (g:=2) 12 [3,5,6,7,8,9,10] [11] U HQ U U U C6 C6<|zm (An U U J0.h (cellAt (g:=x.c.gx) (v:=.slice (aG x.c.gsp) x.c.n x.c.sc) U)) U<|zm (AA (lo:=k) U U U underlying77 FY W W) U<|zm (An U U EN (cellAt (g:=x.c.gsp) (v:=.map (some m.g)) (Lu hO hm))) U<|zm (AB U U DD.h U (AL (g:=g7))) U<|?_
 refine zm (ED (z:=.agg (SpD.cells ⟨⟨0,0,0⟩,0,0⟩).toArray) U U U underlying133 DH (KPf.mk y.ok y.u) C6 (C4 (es:=m.es) m.g (c:=m.c) C9) hmo.im) U ?_
 rw[hu0]
 generalize hhv:(m.M (aA p.cells)).isSome=hv
 refine zm (DG U U) U<|zm (CB U U U) U<|WM.nil<|?_
 refine J1 ?_
 refine WP.NU<|λR hg9=>rO 1 [13]<|J1 ?_
 refine WL.CD (g:=R) (cs':=H.cells) (AH U)<|J1 ?_
 refine rF 0 [14]<|J4 ?_
 refine WC.cut (λz:AdL=>[(8,pG C),(24,iI j),(23,iI A.length),(22,.slice pa A.length pc),(5,.slice aa f.length ac),(0,pG x.c.gx),(1,iI k)]) (λz=>.row C z.cells::(EA++(.obj m.g (.map m.es m.c)::.row x.c.gx x.c.cells::.row x.c.gsp x.c.maps::Z))) (λz=>z.gone = !(hv && (i.BM (aA p.cells)).isSome)) ?_ ?_
 refine WC.cut (λz:AvR=>[(11,pG z.g),(12,.bool (i.BM (aA p.cells)).isSome),(10,.bool hv),(9,pG R),(8,pG C),(24,iI j),(23,iI A.length),(22,.slice pa A.length pc),(5,.slice aa f.length ac),(0,pG x.c.gx),(1,iI k)]) (λz=>.row z.g z.r.cells::(z.K++(.row R H.cells::.row C (AdL.cells ⟨p,true,.zero⟩)::(EA++(.obj m.g (.map m.es m.c)::.row x.c.gx x.c.cells::.row x.c.gsp x.c.maps::Z))))) (λz=>(i.BM (aA p.cells)).isSome=true->G1 z.K z.r.a) ?_ ?_
 refine WC.held ([.row g7 p.cells,.row x.c.gx x.c.cells]) mixed<|WRH.first (g:=7) [0,1,2,3,4,5] C6 C6 kp<|J3 ?_
 refine zj (An U U Jj.h (cellAt (g:=x.c.gx) (v:=pG x.c.gs) U)) U<|J1 ?_
 refine zj (AB U U DD.h U (AL (g:=g7))) U<|WH.nil<|?_
 refine WRH.each (g:=6) [6,10] C6 C8<|⟨?_,?_⟩
 refine zK CkO U<|λN d=>?_
 rw[<- q.vs]
 refine(Aaa N B k i p (SvH.of λe he=>d.holds e (by simp[X e he])) q.v D y.u y.ok).mono ?_
 rintro e F ⟨r,K,rfl,hRK,s⟩
 refine⟨_,_,rfl,d.join s,?_⟩
 refine WL.BL kp<|WRH.first (g:=3) [7,8,9] C6 C6 kp<|J3 ?_
 refine WH.nil<|WRH.one (g:=2) 10 C6<|zy U GK.h U U<|λg11 hg11=>WL.BL kp ?_
 exact Ba
 refine zy U GK.h U U<|λg11 hg11=>WL.BL kp<|WRH.one (g:=5) 6 C6<|zK CkO U<|λN d=>?_
 rw[<- q.vs]
 refine(Aaa N B k i p (SvH.of λe he=>d.holds e (by simp[X e he])) q.v D y.u y.ok).mono ?_
 rintro e F ⟨r,K,rfl,hRK,s⟩
 refine⟨_,_,rfl,d.join s,?_⟩
 refine WL.BL kp<|WRH.first (g:=2) [7,8,9] C6 C6 kp<|J3 ?_
 refine WH.nil ?_
 exact Ba
 rintro⟨r,K,g11⟩ hRK
 dsimp only at hRK⊢
 refine J4 ?_
 generalize hbb:(i.BM (aA p.cells)).isSome=b54
 cases hv
 refine J6 ?_
 exact eMx (.row g11 r.cells::(K++[.row R H.cells])) ⟨p,true,.zero⟩ U
 refine J1 ?_
 skip
 cases b54
 refine J5 ?_
 exact eMx (.row g11 r.cells::(K++[.row R H.cells])) ⟨p,true,.zero⟩ U
 refine J8 ?_
 refine WL.CD (g:=C) (cs':=AdL.cells ⟨p,false,.zero⟩) U<|J3 ?_
 refine WC.AS mixed<|rF 6 [0,1,2]<|?_
 refine J4 ?_
 refine rA 4 [3,4] U<|qV (An U U Jj.h (cellAt (g:=x.c.gx) (v:=pG x.c.gs) U)) U<|qV (AB U U P9.h U (AL (g:=g11))) U<|?_
 refine J1 ?_
 refine rO 3 [5]<|zK CkO U<|?_
 intro N d
 have hR2:=hRK hbb
 rw[<- q.vs]
 refine(Adh N B r (SvH.of λe he=>d.holds e (by simp[X e he])) (hR2.1 N λe he=>d.holds e Dd) hR2.2).mono ?_
 rintro e F ⟨r2,rfl,hF⟩
 refine⟨_,_,rfl,d.ext hF,?_⟩
 refine J1 ?_
 refine rF 1 [6,7]<|pV (SJ U U i163_2.h JZ.h U) U<|?_
 refine J2 ?_
 refine rO 0 [8]<|WL.FN U U U U JZ.h U Dn (.none U) U ?_
 refine WL.CD (g:=C) (cs':=AdL.cells ⟨p,false,r2.a⟩) U<|J6 ?_
 refine zV (An U U i3o.h (cellAt (g:=R) (v:=iI H.tag) U)) U<|zK CkO U<|?_
 intro N d
 refine(Hop_c N H.tag).mono ?_
 rintro e F ⟨vh,rfl,hF⟩
 refine⟨_,_,rfl,d.ext hF,?_⟩
 refine J3 ?_
 refine WL.CD (g:=C) (cs':=AdL.cells ⟨p,false, { r2.a with hop:=vh }⟩) U<|J1 ?_
 exact eMx (.row g11 r.cells::(K++[.row R H.cells])) ⟨p,false, { r2.a with hop:=vh }⟩ U
 rintro a ab
 have ab:a.gone = !(hv && (i.BM (aA p.cells)).isSome):=ab
 refine J2 ?_
 refine zV (AB U U i90m.h U (AL (g:=C))) U<|zB underlying68 Abn O8 (by show some (AK (List.replicate 1 _).flatten 0 a.cells)=some a.cells;exact If some (AH U)) U ?_
 intro G hg73
 refine WL.to (L':=EA++(.row G a.cells::(.row C a.cells::.obj m.g (.map m.es m.c)::.row x.c.gx x.c.cells::.row x.c.gsp x.c.maps::Z))) (λw d=>d.AJ)<|WL.AU U U U underlying68 underlying68 Abn by_90 O8 U U T (new:=a.cells) (λ_=>⟨G,0,rfl,λw d=>AL (g:=G) w d⟩) (AdL.BK a) (BD AdL.one a) W (.none U) U U<|λad74 c74 E74 hV74 hr74=>J8 ?_
 exact WE.to (L':=E74++(.obj m.g (.map m.es m.c)::.row x.c.gx x.c.cells::.row x.c.gsp x.c.maps::Z)) (λw d=>d.AN [.row G a.cells,.row C a.cells]) (eW ⟨j+1,f++[a],ad74,c74,E74⟩ C7 ⟨C7,by dsimp only;rw[AC,AX];exact hV74,by dsimp only;rw[AhG,hp,Aiw,Ai7,Ai7,hg];congr 1;show[a.gone]=[!((m.M (aA p.cells)).isSome && (i.BM (aA p.cells)).isSome)];rw[ab,hhv]⟩ (.int U C7 (.cons U (.cons U (.eq U Dc (.cons U (.cons U .nil)))))))
 refine J16 ?_
 refine eT1 ?_
 refine λF h=>⟨{ x with v:=B },f,aa,ac,EA,rfl,T,⟨⟨q,rfl,rfl,hSt.S⟩,rfl,⟨i,D,hNM⟩,⟨A,hnd,ae,hpm,?_⟩,W⟩,?_⟩
 .obtain rfl:j=A.length:=W
  rw[Ah6,hBM] at hg
  exact hg
 .rw [hZ] at h
  have h4:St Fx w0 F (EA++(.obj m.g (.map m.es m.c)::.row x.c.gx x.c.cells::.row x.c.gw x.c.sw::.row x.c.gsp x.c.maps::.row x.c.gt x.t.cells::(x.TE++(x.TK++(x.b.AE++(B.AE++(x.spR k++(x.PM++(O++L))))))))):=h.AJ
  have h5:St Fx w0 F (EA++SxL.all { x with v:=B } (O++L)):=h4.perm ((SxL.Hi (x:={ x with v:=B }) hm).symm.append_left _)
  exact h5.sub (Acq (by rw[SxL.all_eq _ (O++L),SxL.all_eq _ L];exact(Ai9 O L).append_left _) _)

instance SxL.atS{x:SxL}:At (SxL.all x C) x.c.gsp x.c.maps:=⟨by unfold SxL.all;simp⟩
def Q3(x:SxL)(k:Nat)(a:List Int):Prop:=∀(j:Nat) (m:MpL),j<k->x.sp[j]?=some m->∀(q:Vl) (h:SpD),m.M q=some (aA h.cells)->h.mark∈a
structure MkA where
 k:Nat
 ms:List Int
 ad:Option Addr
 c:Nat
 E:eL
structure MkB where
 seen:Array Nat
 ps:List PfL
 ms:List Int
 ad:Option Addr
 c:Nat
 E:eL
theorem AhV{g h:SpD}(e:aA g.cells=aA h.cells):g.mark=h.mark:=by
 injection e with e
 have e:=If Array.toList e
 simp only[SpD.cells] at e
 injection e with _ e;injection e with _ e;injection e with _ e;injection e with _ e;injection e with e _
 injection e
theorem Ahk(w0 w1:Wd)(x:SxL)(L:eL)(hO:Wg x)(hn16:x.c.n<=16)(hS0:St Fx w0 w1 (x.all L)):
 Cl 103 #[pG x.c.gx] w1 λe w'=>∃(i:List Int) (C:Option Addr) (c:Nat) (E:eL),e=.returned (.slice C i.length c)/\Vec 1 C i.length c (i.map (Value.int .i64)) E/\Q3 x x.c.n i/\i.length<=90000/\St Fx w0 w' (E++x.all L):=by
 have hn:=hO.n
 have ab:=hO.few
 refine enter func103 U ntmps103 U hS0<|J16 ?_
 refine zV (An U U J0.h (cellAt (g:=x.c.gx) (v:=.slice (aG x.c.gsp) x.c.n x.c.sc) U)) U<|J5 ?_
 refine oLp (λz:MkA=>[(13,iI z.k),(12,iI x.c.n),(11,.slice (aG x.c.gsp) x.c.n x.c.sc),(3,.slice z.ad z.ms.length z.c)]) (λz=>z.E++x.all L) (λz=>z.k<=x.c.n/\Vec 1 z.ad z.ms.length z.c (z.ms.map (Value.int .i64)) z.E/\Q3 x z.k z.ms/\z.ms.length<=5000*z.k) (λz=>x.c.n-z.k) ⟨0,[],none,0,[]⟩ ⟨Lv _,Vec.nil 1,λj m h=>absurd h (Ac5 _),Lv _⟩ ?_
 rintro⟨k,i,C,c,E⟩ ⟨hk,G,F,hl⟩
 dsimp only at hk G F hl⊢
 refine J2 ?_
 refine JT (λh14=>?_) λh14=>?_
 refine J10 ?_
 obtain⟨m,hm⟩:∃m,x.sp[k]?=some m:=Gx
 obtain⟨ac,hmv⟩:=hO.sp k m hm
 have hN:=ac.im
 have u:=ac.st
 obtain⟨Z,hZ⟩:∃Z:eL,Z=.row x.c.gx x.c.cells::.row x.c.gw x.c.sw::.row x.c.gsp x.c.maps::.row x.c.gt x.t.cells::(x.TE++(x.TK++(x.b.AE++(x.v.AE++(x.spR k++(x.PM++L)))))):=⟨_,rfl⟩
 have hto:∀ {E:eL},(E++(.obj m.g (.map m.es m.c)::Z)).Perm (E++x.all L):=λ{E}=>by rw[hZ];exact(SxL.Hi (x:=x) (L:=L) hm).append_left E
 refine zV (AA (lo:=k) U U U underlying77 FY W W) U<|zV (An U U EN (cellAt (g:=x.c.gsp) (v:=.map (some m.g)) (KF hO hm))) U<|WL.to (L':=E++(.obj m.g (.map m.es m.c)::Z)) (λw h=>h.perm hto)<|?_
 refine J6 ?_
 refine WL.range (es:=m.es) (c:=m.c) U U underlying133 C9 (.none U) U U<|λr hg18=>WL.to (L':=E++(.obj r (.mapIter (some m.g) m.c #[] m.c)::.obj m.g (.map m.es m.c)::Z)) (λw h=>h.AJ)<|J3 ?_
 refine oLp (λz:MkB=>[(18,pG r),(13,iI k),(12,iI x.c.n),(11,.slice (aG x.c.gsp) x.c.n x.c.sc),(3,.slice z.ad z.ms.length z.c)]) (λz=>z.E++(.obj r (.mapIter (some m.g) m.c z.seen m.c)::.obj m.g (.map m.es m.c)::Z)) (λz=>Vec 1 z.ad z.ms.length z.c (z.ms.map (Value.int .i64)) z.E/\Kj m.es z.seen z.ps/\(∀p∈z.ps,p∈x.v.S)/\Q3 x k z.ms/\(∀e∈m.es.toList,e.born∈z.seen.toList->∃h:SpD,e.val=aA h.cells/\h.mark∈z.ms)/\z.ms.length<=5000*k+z.ps.length) (λz=>JD m.es z.seen) ⟨#[],[],i,C,c,E⟩ ⟨G,Kj.nil _,λp h=>Da,F,λe _ h=>(by simp at h),C7⟩ ?_
 rintro⟨seen,ps,i,C,c,E⟩ ⟨G,O,M,F,N,hl⟩
 dsimp only at G O M F N hl⊢
 have hpl:ps.length<=5000:=AcC (PC O.nd M) ab
 refine J2 ?_
 refine WL.next U U C9 (u) (.none U) U U (λJ=>?_) λd a A=>?_
 refine J15 ?_
 have X:=J
 exact WE.to (L':=E++x.all L) (λw h=>(St.sub (L':=E++(.obj m.g (.map m.es m.c)::Z)) h (Acq (Adk _ _) _)).perm hto.symm) (eW ⟨k+1,i,C,c,E⟩ C7 ⟨C7,G,λj m' y D q h h3=>by
  have y:j<k+1:=y
  by_cases e:j=k
  .subst e
   rw[hm] at D;cases D
   obtain⟨e0,aa,hk0,hv0⟩:=(hN.get _ _).1 h3
   obtain⟨h',g1,g2⟩:=N e0 aa (X e0 aa)
   rw[AhV (hv0.symm.trans g1)]
   exact g2
  .exact F j m' W D q h h3,C7⟩)
 refine J1 ?_
 obtain⟨p,af,hpok,hpU⟩:=hN.keys d a
 obtain⟨p',f,B,_,ae,hve,_⟩:=(hmv d.key d.val ((hN.get _ _).2 ⟨d,a,rfl,rfl⟩)).is_
 rw[af] at B
 obtain rfl:=EE B
 refine J9 ?_
 refine zV ((LL U U (es:=m.es) (g:=m.g) (c:=m.c) (since:=m.c) (seen:=seen) C9 C9 u a).eq (v:=.tuple #[d.key,aA f.cells]) (by rw[hve])) U ?_
 refine J1 ?_
 refine zy U HQ U U<|λg7 hg7=>J1 ?_
 refine WL.CD (g:=g7) (cs':=f.cells) (AH U)<|J5 ?_
 refine zV (An U U i3o.h (cellAt (g:=g7) (v:=iI f.mark) U)) U<|zB underlying34 AZ G0 (by show some (AK (List.replicate 1 _).flatten 0 [Value.int .i64 f.mark])=some [Value.int .i64 f.mark];exact If some (AH U)) U ?_
 intro s hg26
 obtain⟨T0,hT0⟩:∃T0:eL,T0=.obj r (.mapIter (some m.g) m.c (seen.push d.born) m.c)::.obj m.g (.map m.es m.c)::Z:=⟨_,rfl⟩
 refine WL.to (L':=E++(.row s [iI f.mark]::T0)) (λw h=>by
  have y:St Fx w0 w (.row s [iI f.mark]::.row g7 f.cells::(E++T0)):=Fp
  exact St.AN [.row g7 f.cells] y) ?_
 refine WL.AU U U U underlying34 underlying34 AZ by_3 G0 U U G (new:=[iI f.mark]) (λ_=>⟨s,0,rfl,λw hS=>AL (g:=s) w hS⟩) U U W (.none U) U U<|λR c27 E27 T hr27=>J3 ?_
 exact WE.next ⟨seen.push d.born,ps++[p],i++[f.mark],R,c27,E27⟩ (HA a A) ⟨by dsimp only;rw[AC,Ai7];exact T,O.push hN u a A af,λq hq=>by
 rcases LI.1 hq with hq|hq
 .exact M q hq
 .rw [Es.1 hq];exact ae,λj m' y D q h h3=>Ha _ (F j m' y D q h h3),λe he H=>by
 dsimp only at H ⊢
 rw[Array.toList_push,LI,Es] at H
 rcases H with H|H
 .obtain ⟨h,y,D⟩:=N e he H
  exact⟨h,y,Ha _ D⟩
 .have h4:e=d:=Vg u.2.1 he a H
  rw[h4]
  exact⟨f,hve,Mu _ (Es.2 U)⟩,by dsimp only;rw[AC,AC,AbJ,AbJ];omega⟩ (.cons U (.cons U (.cons U (.cons U (.eq U Dl .nil))))) Dv
 refine J16 ?_
 refine eT1 ?_
 obtain rfl:k=x.c.n:=W
 exact λw' h=>⟨i,C,c,E,rfl,G,F,W,h⟩
end Gq

section
variable {P:Program}{ops:Array Oper}{Q:Exit->Act->World->Prop}{n:Nat}{p:Nat->Prop}{w0:World}{o:Oper}{rest os:List Oper}{l:Kn}{L L0:List Ent}{K:Act->World->Prop}{S:World->Prop}{m:Nat}
def Pd(P:Program)(ops:Array Oper)(Q:Exit->Act->World->Prop)(S:World->Prop)(m:Nat):Nat->Array Bool->Act->World->Prop
 | 0,b,a,w=>Region.ready .any ops b=[]/\Q .normal a w
 | g+1,b,a,w=>(Region.ready .any ops b=[]->Q .normal a w)/\∀i∈Region.ready .any ops b,wpOp P ops Q i (λd c=>(i<m->S c)/\Pd P ops Q S m g (b.setIfInBounds i true) d c) a w
theorem Pd.any:∀(g:Nat) (b:Array Bool) (a:Act) (w:World),Pd P ops Q S m g b a w->wpAny P .any ops Q g b a w
 | 0,_,_,_,h=>h
 | g+1,_,_,_,h=>⟨h.1,λi d=>wpOp_mono (λc e k=>Pd.any g _ c e k.2) (h.2 i d)⟩
def Af6(ops:Array Oper)(m i:Nat):Bool:=(List.range ops.size).all λk=>Nat.blt k m || (match ops[k]? with|some o=>Aaj o i|none=>true)
theorem ZM{o:Oper}(h:Af6 ops m A=true)(c:ops[N]?=some o)(hk:¬N<m):∃e∈o.after,Region.binds .any e=true/\e.on=A:=by
 have a:=Acw.1 h N (Aij.2 (AbY.1 c).1)
 rw[c,Ait] at a
 rcases a with a|a
 .exact absurd (by simpa using a) hk
 .obtain ⟨e,d,b⟩:=List.any_eq_true.1 a
  rw[Hr] at b
  exact⟨e,by simpa using d,b.1,NE b.2⟩
theorem Afh(c:A∈Region.ready .any ops F):F.getD A false=false:=by
 have a:=(mem_ready.1 c).1
 rw[Ai1] at a ⊢
 cases h:F[A]? with
 | none=>rfl
 | some b=>rw[h] at a;exact a
theorem Pd.first{i:Nat}{x:Oper}{v:Value}(M:ops[i]?=some x)(q:Region.noSelect ops=true)(B:Af6 ops m i=true)
 (hQ:∀c a w,Q (.panic c) (a.put x.dst v) w->Q (.panic c) a w):∀(g:Nat) (d:Array Bool) (a:Act) (w:World),
  (∀j u,ops[j]?=some u->j≠i->d.getD j true=false->(∀e∈u.after,Region.binds .any e=true->e.on≠i)->x.apart ops u=true) ->
  i∈Region.ready .any ops d->YieldsIf P ops S x v a->S w->Pd P ops Q S m g (d.setIfInBounds i true) (a.put x.dst v) w->Pd P ops Q S m (g+1) d a w
 | g,d,a,w,hf,D,hy,hS,H=>by
  refine⟨λh=>(by rw[h] at D;cases D),λj N=>?_⟩
  by_cases f:j=i
  .subst f
   exact hy.wpOp M hS ⟨λ_=>hS,H⟩
  .cases g with
   | zero =>
    have:=ready_mono N f
    rw[H.1] at this
    cases this
   | succ g =>
    obtain⟨s,u,r,y⟩:=mem_ready.1 N
    have t:∀e∈u.after,Region.binds .any e=true->e.on≠i:=λe G F J=>by
     have Z:=y e G F
     rw[J,Afh D] at Z
     cases Z
    have O:j<m:=Aie λhk=>by
     obtain⟨e,G,F,X⟩:=ZM B r hk
     exact t e G F X
    have h2:=wpOp_putIf r (hf j u r f s t) (λE b=>Region.noSelect_spec q i x E b M) (λE b=>Region.noSelect_spec q j u E b r) hQ hy (H.2 j (ready_mono N f))
    refine wpOp_mono (λa' w' C=>⟨C.2.1,Pd.first M q B hQ g _ a' w' (λk ok hk R A T=>hf k ok hk R ?_ T) (ready_mono D (Ai4 f)) C.1 (C.2.1 O) ?_⟩) h2
    .by_cases z:j=k
     .subst z;exact s
     .rw [Aiz true z] at A;exact A
    .rw [Array.setIfInBounds_comm _ _ f]
     exact C.2.2
def PZ(P:Program)(os:List Oper)(Q:Exit->Act->World->Prop)(p:Nat->Prop)(w0:World)(L0:List Ent)(m g:Nat)(b:Array Bool):Act->World->Prop:=λa w=>Pd P os.toArray (NP Q) (λw=>St p w0 w L0) m g b a w
def WRT(P:Program)(os:List Oper)(Q:Exit->Act->World->Prop)(n:Nat)(p:Nat->Prop)(w0:World)(L0:List Ent)(m g:Nat)(b:Array Bool)(l:Kn)(L:List Ent):Prop :=
 ∀a w,Has n a l->St p w0 w L->PZ P os Q p w0 L0 m g b a w
theorem WC.heldT(m:Nat)(L0:List Ent)(e:P.follows .mixedOrders=true)(h:WRT P os Q n p w0 L0 m os.length (Array.replicate os.length false) l L):WC P (.region A os.toArray true) Q n p w0 l L:=λa w d c =>
 Code.wp_mono NP.imp (wp_region_any e (by have b:=Pd.any _ _ _ _ (h a w.drew d c.drew);simpa using b))
def Af7(ops:Array Oper)(m:Nat)(a:List Nat):Bool:=a.all (Af6 ops m)
theorem O4{K:Act->Prop}{w:World}{g:Nat}(d:Region.noSelect os.toArray=true)(r:S w):∀(f:List Nat) (b:Array Bool) (a:Act),GA .any os.toArray f b=true->Af7 os.toArray m f=true ->
 VP P os.toArray S K (f.map (at_ os)) a->(∀a,K a->Pd P os.toArray (NP Q) S m g (marks b f) a w)->Pd P os.toArray (NP Q) S m (f.length+g) b a w
 | [],b,a,_,_,h,k=>by simpa [marks] using k a h
 | i::is,b,a,q,hZ,h,k=>by
  simp only[GA,Hr] at q
  simp only[Af7,List.all_cons,Hr] at hZ
  obtain⟨⟨x,t⟩,j⟩:=q
  obtain⟨v,y,s⟩:=h
  have e:i∈Region.ready .any os.toArray b:=by simpa using x
  rw[Acg,show is.length+1+g=(is.length+g)+1 by omega]
  exact Pd.first (CM e) d hZ.1 (λc a w u=>u) _ b a w (Region.free_spec (CM e) t) e y r (O4 d r is _ _ j hZ.2 s k)
theorem WRT.first{g:Nat}(b:List Nat)(c:Region.noSelect os.toArray=true)(i:GA .any os.toArray b F=true)(hZ:Af7 os.toArray m b=true)(e:∀w,St p w0 w L->St p w0 w L0)
 (h:WH P os.toArray (PZ P os Q p w0 L0 m g (marks F b)) n p w0 L0 (b.map (at_ os)) l L):WRT P os Q n p w0 L0 m (b.length+g) F l L:=λa w j d =>
 O4 (K:=λf=>∀w,St p w0 w L->PZ P os Q p w0 L0 m g (marks F b) f w) c (e w d) b F a i hZ (h a j) λ_ h=>h w d
theorem WRT.each{g:Nat}(e:List Nat)(d:Region.ready .any os.toArray F=e)(c:e≠[])
 (h:QX (λi=>WL P os.toArray (RQ (λa' w'=>(i<m->St p w0 w' L0)/\PZ P os Q p w0 L0 m g (F.setIfInBounds i true) a' w') (NP Q)) n p w0 [at_ os i] l L) e):WRT P os Q n p w0 L0 m (g+1) F l L:=λa w k j=>by
 refine⟨λf=>absurd (d ▸ f) c,λi b=>?_⟩
 rw[d] at b
 have q:=CM (listed:=F) (i:=i) (by rw[d];exact b)
 have h':=h.get i b a w k j
 unfold wpOp
 simp only[q]
 unfold wpList at h'
 split
 .rename_i hwd
  exact Ca
 .rename_i hwd
  rw[E9 hwd] at h'
  exact h'
theorem WRT.one{g:Nat}(i:Nat)(c:Region.ready .any os.toArray F=[i])
 (h:WL P os.toArray (RQ (λb a=>(i<m->St p w0 a L0)/\PZ P os Q p w0 L0 m g (F.setIfInBounds i true) b a) (NP Q)) n p w0 [at_ os i] l L):WRT P os Q n p w0 L0 m (g+1) F l L :=
 WRT.each [i] c C9 h
theorem WRT.done(b:Region.ready .any os.toArray F=[])(h:WE Q .normal n p w0 l L):WRT P os Q n p w0 L0 m 0 F l L:=λa w d c=>⟨b,h a w d c⟩
theorem WH.PE(h:WRT P os Q n p w0 L0 m A F l L):WH P os.toArray (PZ P os Q p w0 L0 m A F) n p w0 L0 [] l L:=λa c w b=>h a w c b
theorem WL.PE(d:∀w,St p w0 w L->St p w0 w L0)(h:WRT P os Q n p w0 L0 m N F l L):WL P os.toArray (RQ (λe c=>(A<m->St p w0 c L0)/\PZ P os Q p w0 L0 m N F e c) (NP Q)) n p w0 [] l L:=λa w f b=>⟨λ_=>d w b,h a w f b⟩
theorem WL.Xw(f:Nat.ble m A=true)(h:WRT P os Q n p w0 L0 m N F l L):WL P os.toArray (RQ (λc b=>(A<m->St p w0 b L0)/\PZ P os Q p w0 L0 m N F c b) (NP Q)) n p w0 [] l L:=λa w e d=>⟨λh=>absurd (show m<=A by simpa using f) W,h a w e d⟩
end
section Gq
attribute [local irreducible] WL WC WE WQ WP WH WR WM WRH

def AV(n:Nat)(a:List MpL):vL:=a.map (λm=>.map (some m.g))++List.replicate (n-a.length) (.map none)
theorem Ack(h:Z.length<=A):(AV A Z).length=A:=by
 unfold AV
 rw[AC,Ri,Ai2];omega
theorem Acl{m:MpL}(h:Z.length<A):(AV A Z).set (0+Z.length*1) (.map (some m.g))=AV A (Z++[m]):=by
 unfold AV
 have a:List.replicate (A-Z.length) (Value.map none)=.map none::List.replicate (A-Z.length-1) (.map none):=by
  rw[show A-Z.length=(A-Z.length-1)+1 by omega,List.replicate_succ];rfl
 rw[a,PP,Aed,List.set_append,Ri,E9 (Nat.lt_irrefl _),Nat.sub_self,List.set_cons_zero,Ai7,AC,AbJ,Qs,Nat.sub_sub]
 rfl
theorem OK(h:Z[N]?=some H):(AV A Z)[0+N*1]?=some (.map (some H.g)):=by
 have:=(Eu.1 h).1
 unfold AV
 rw[PP,Aed,Ae9 (by rw[Ri];exact this),WF,h];rfl
structure DxV where
 b:PoL
 ins:List EnL
 ia:Option Addr
 ic:Nat
 EI:eL
 KI:eL
 tk:List Int
 ta:Option Addr
 tc:Nat
 ET:eL
structure DxP(x:SxL)(ds:List MpL)(s:DxV)(B:Nat):Prop where
 b:s.b.Ok
 bp:s.b.p=x.b.p
 mp:∀(j:Nat) (m:MpL),ds[j]?=some m->m.Ok KPf/\∀q u,m.M q=some u->Pc x.v Fx j q u
 en:∀e∈s.ins, ∃(j:Nat) (p:PfL) (m:MpL),j<16/\IS p/\ds[j]?=some m/\m.M (aA p.cells)≠none/\Qu e.d j p
 ap:FC (s.ins.map EnL.d)
 in_:∀e∈s.ins,e.d.In
 own:I7 s.KI s.ins
 vi:Vec 21 s.ia s.ins.length s.ic (DA s.ins) s.EI
 il:s.ins.length<=4096
 vt:Vec 1 s.ta s.tk.length s.tc (s.tk.map (Value.int .i64)) s.ET
 tl:s.tk.length<=B
structure DxT where
 i:Nat
 ds:List MpL
 v:DxV
structure DxS extends DxV where
 j:Nat
 cur:MpL
structure DxU extends DxV where
 h:SpD
theorem ent_in(b:IS G)(hk:A<16)(a:BkOk A G T):∀e∈IV G.len (ES A G) T,e.d.In:=λe g=>by
 obtain⟨i,h,f⟩:=List.mem_iff_getElem.1 g
 obtain⟨r,c,rfl⟩:=Kp (by rw[FS h,f])
 have q:=(Eu.1 c).1
 have k:=a.few
 have j:=IG b.ok
 exact⟨by show -9223372036854775808<=(G.len+1)*4096-(i:Int)/\(G.len+1)*4096-(i:Int)<=9223372036854775807;omega,by show -9223372036854775808<=ES A G/\ES A G<=9223372036854775807;unfold ES;have:=b.u;unfold U32 at this;omega,(a.fit r (Do c)).isIn⟩
theorem draw_c(w0 w1:Wd)(x:SxL)(q:PlN)(qx qy:List RlL)(X B:Nat)(L:eL)(hO:CQ x)(hq:Uz q qx qy)(hqn:q.AY.length=x.c.n)(hqb:∀f∈q.AY,Byt f)(hqr:∀w,(∀e∈x.PM++L,e.holds w)->LV w q.xa qx/\LV w q.ya qy/\Rg w q.za (G3 q.AY))(hG:GW w0)
 (hS0:St Fx w0 w1 (.row X [.slice (aG B) x.c.n x.c.n,sN,sN]::.row B (AV x.c.n [])::x.all L)) :
 Cl 101 #[pG x.c.gx,pG X,aA q.cells] w1 λe w'=>∃(r:Int) (ds:List MpL) (v:DxV),e=.returned (iI r)/\DxP x ds v 90000/\(r=0->ds.length=x.c.n)/\St Fx w0 w' (.row X [.slice (aG B) x.c.n x.c.n,.slice v.ia v.ins.length v.ic,.slice v.ta v.tk.length v.tc]::.row B (AV x.c.n ds)::(v.ET++(v.EI++(v.KI++(ds.map MpL.ent++SxL.all { x with b:=v.b } L))))):=by
 have hn:=hO.n
 have h16:=hO.n16
 have hrules:=hO.rules
 refine enter func101 U ntmps101 U hS0<|J2 ?_
 refine zx U U U U U<|λg5 hg5=>J8 ?_
 refine zV (An U U Jj.h (cellAt (g:=x.c.gx) (v:=pG x.c.gs) U)) U<|zK CkO U<|?_
 intro w2 hS
 have h2:St Fx w0 w2 ([.row g5 q.cells,.row X [.slice (aG B) x.c.n x.c.n,sN,sN],.row B (AV x.c.n [])]++x.all L):=hS
 rw[<- hO.vs]
 refine(QD Fx w0 w2 x.v (x.Hz ([.row g5 q.cells,.row X [.slice (aG B) x.c.n x.c.n,sN,sN],.row B (AV x.c.n [])]++L)) hO.v (SxL.Gi (SxL.GI h2))).mono ?_
 rintro e w' ⟨ps,pa,pc,E,rfl,hPV,hps,hpS,_,hnd,hpl,hS'⟩
 have h4:St Fx w0 w' ([.row g5 q.cells,.row X [.slice (aG B) x.c.n x.c.n,sN,sN],.row B (AV x.c.n [])]++x.all (E++L)):=SxL.MW (x:=x) ((SxL.GI (SxL.LK (x:=x) hS')).perm (by rw[SxL.all_eq _ (_++(E++L)),SxL.all_eq _ (E++(_++L))];exact(Aib _ _ _).append_left _))
 have h5:St Fx w0 w' (.row X [.slice (aG B) x.c.n x.c.n,sN,sN]::.row B (AV x.c.n [])::.row g5 q.cells::x.all (E++L)):=(St.AJ (L:=.row g5 q.cells::.row X [.slice (aG B) x.c.n x.c.n,sN,sN]::.row B (AV x.c.n [])::x.all (E++L)) h4)
 refine⟨_,_,rfl,h5,?_⟩
 refine J9 ?_
 refine zV (An U U J0.h (cellAt (g:=x.c.gx) (v:=.slice (aG x.c.gsp) x.c.n x.c.sc) U)) U<|J5 ?_
 refine oLp (λz:DxT=>[(29,iI z.i),(28,iI x.c.n),(7,.slice pa ps.length pc),(0,pG x.c.gx),(1,pG X),(5,pG g5)]) (λz=>.row X [.slice (aG B) x.c.n x.c.n,.slice z.v.ia z.v.ins.length z.v.ic,.slice z.v.ta z.v.tk.length z.v.tc]::.row B (AV x.c.n z.ds)::.row g5 q.cells::(z.ds.map MpL.ent++(z.v.EI++(z.v.KI++(z.v.ET++SxL.all { x with b:=z.v.b } (E++L)))))) (λz=>z.i<=x.c.n/\z.ds.length=z.i/\DxP x z.ds z.v (5000*z.i)) (λz=>x.c.n-z.i) ⟨0,[],⟨x.b,[],none,0,[],[],[],none,0,[]⟩⟩ ⟨Lv _,rfl,⟨hO.b,rfl,λj m h=>Da,λe h=>Da,List.Pairwise.nil,λe h=>Da,λe h=>Da,Vec.nil 21,Lv _,Vec.nil 1,Lv _⟩⟩ ?_
 rintro⟨i,A,v⟩ ⟨hi,hpl2,hV⟩
 dsimp only at hi hpl2 hV⊢
 refine J2 ?_
 refine JT (λh30=>?_) λh30=>?_
 refine J19 ?_
 refine zV (An U U J0.h (cellAt (g:=X) (v:=.slice (aG B) x.c.n x.c.n) U)) U<|J1 ?_
 refine WL.makeMap U (.none U) U U<|λg37 hg37=>zV (AA (lo:=A.length) U U U underlying77 FY W W) U<|WL.DX U U U U EN (by rw[Ack (W)];omega) (.none U) U ?_
 obtain⟨cur0,hcur0⟩:∃c:MpL,c=⟨g37, #[],0,λ_=>none⟩:=⟨_,rfl⟩
 refine WL.CD (g:=B) (cs':=AV x.c.n (A++[cur0])) (by rw[hcur0];exact Acl (m:=⟨g37, #[],0,λ_=>none⟩) (W)) ?_
 obtain⟨m,hm⟩:∃m,x.sp[i]?=some m:=Gx
 obtain⟨hmo,hmv⟩:=hO.sp i m hm
 obtain⟨Z,hZ⟩:∃Z:eL,Z=A.map MpL.ent++(.row x.c.gw x.c.sw::.row x.c.gt x.t.cells::(x.TE++(x.TK++(x.v.AE++(x.spR i++(x.PM++(E++L))))))):=⟨_,rfl⟩
 have hZv:∀e∈x.v.AE,e∈Z:=λe he=>by rw[hZ];simp[he]
 have hZp:∀e∈E,e∈Z:=λe he=>by rw[hZ];simp[he]
 have hZq:∀e∈x.PM++L,e∈Z:=λe he=>by
  rw[hZ]
  rcases LI.1 he with he|he<;>simp[he]
 have hout:∀(b:PoL) (H:List EnL) (ia:Option Addr) (ic:Nat) (EI KI:eL) (tk:List Int) (ta:Option Addr) (tc:Nat) (ET:eL) (cur:MpL) (w:Wd),St Fx w0 w (.row X [.slice (aG B) x.c.n x.c.n,.slice ia H.length ic,.slice ta tk.length tc]::.obj cur.g (.map cur.es cur.c)::(EI++(KI++(ET++(.obj m.g (.map m.es m.c)::.row x.c.gx x.c.cells::.row x.c.gsp x.c.maps::.row B (AV x.c.n (A++[cur]))::.row g5 q.cells::(b.AE++Z))))))->St Fx w0 w (.row X [.slice (aG B) x.c.n x.c.n,.slice ia H.length ic,.slice ta tk.length tc]::.row B (AV x.c.n (A++[cur]))::.row g5 q.cells::((A++[cur]).map MpL.ent++(EI++(KI++(ET++SxL.all { x with b:=b } (E++L)))))):=λb H ia ic EI KI tk ta tc ET cur w h=>by
  rw[hZ] at h
  have h2:St Fx w0 w ((.row X [.slice (aG B) x.c.n x.c.n,.slice ia H.length ic,.slice ta tk.length tc]::.row B (AV x.c.n (A++[cur]))::.row g5 q.cells::((A++[cur]).map MpL.ent++(EI++(KI++ET))))++SxL.op { x with b:=b } i m (E++L)):=by
   unfold SxL.op
   rw[Ai7]
   simp only[AbT,Qs,Acu,List.map_nil,Aec,MpL.ent]
   rw[show SxL.spR { x with b:=b } i=x.spR i from rfl]
   exact h.AJ
  have h3:=h2.perm ((SxL.Hi (x:={ x with b:=b }) hm).symm.append_left _)
  simp only[AbT,Qs] at h3
  exact h3
 have hdrop:∀(G D G5:Ent) (ds EI KI ET:eL) (b:PoL) (w:Wd),St Fx w0 w (G::D::G5::(ds++(EI++(KI++(ET++SxL.all { x with b:=b } (E++L))))))->St Fx w0 w (G::D::(ET++(EI++(KI++(ds++SxL.all { x with b:=b } L))))):=λG D G5 ds EI KI ET b w h=>by
  have h2:St Fx w0 w (G::D::(ET++(EI++(KI++(ds++SxL.all { x with b:=b } (E++L)))))):=h.AN [G5]
  exact h2.sub (by
   refine List.Sublist.cons_cons _ (List.Sublist.cons_cons _ (Acq (Acq (Acq (Acq ?_ _) _) _) _))
   rw[SxL.all_eq _ (E++L),SxL.all_eq _ L]
   exact(Ai9 E L).append_left _)
 have hexit:∀(b:PoL) (H:List EnL) (ia:Option Addr) (ic:Nat) (EI KI:eL) (tk:List Int) (ta:Option Addr) (tc:Nat) (ET:eL) (cur:MpL),cur.g=g37->∀(w:Wd) (y:eL),St Fx w0 w (y++(.row X [.slice (aG B) x.c.n x.c.n,.slice ia H.length ic,.slice ta tk.length tc]::.obj cur.g (.map cur.es cur.c)::(EI++(KI++(ET++(.obj m.g (.map m.es m.c)::.row x.c.gx x.c.cells::.row x.c.gsp x.c.maps::.row B (AV x.c.n (A++[cur]))::.row g5 q.cells::(b.AE++Z)))))))->St Fx w0 w (.row X [.slice (aG B) x.c.n x.c.n,.slice ia H.length ic,.slice ta tk.length tc]::.row B (AV x.c.n (A++[cur]))::(ET++(EI++(KI++((A++[cur]).map MpL.ent++SxL.all { x with b:=b } L))))):=λb H ia ic EI KI tk ta tc ET cur _ w y h=>hdrop _ _ _ _ _ _ _ _ w (hout b H ia ic EI KI tk ta tc ET cur w (h.sub (Ai9 y _)))
 obtain⟨s0,hs0⟩:∃s:DxS,s = { toDxV:=v,j:=0,cur:=cur0 }:=⟨_,rfl⟩
 have hcn:(∀q,cur0.M q=none)/\cur0.Ok KPf:=by rw[hcur0];exact⟨λ_=>rfl,⟨CP.empty _,MapKept.stamped_empty _⟩⟩
 have hd0:DxP x (A++[cur0]) v (5000*i):=⟨hV.b,hV.bp,λj mj hj=>by
  by_cases e:j<A.length
  .rw [Ae9 e] at hj;exact hV.mp j mj hj
  .rw [Ah8 (Nat.le_of_not_lt e)] at hj
   have hj0:=(Eu.1 hj).1
   have hj1:j-A.length=0:=by simp at hj0;omega
   rw[hj1] at hj;cases hj
   exact⟨hcn.2,λq u hq=>by rw[hcn.1] at hq;cases hq⟩,λe he=>by
  obtain⟨j,p,mj,h1,h2,h3,h4⟩:=hV.en e he
  exact⟨j,p,mj,h1,h2,by rw[Ae9 (Eu.1 h3).1];exact h3,h4⟩,hV.ap,hV.in_,hV.own,hV.vi,hV.il,hV.vt,hV.tl⟩
 refine WL.to (L':=.row X [.slice (aG B) x.c.n x.c.n,.slice s0.ia s0.ins.length s0.ic,.slice s0.ta s0.tk.length s0.tc]::.obj s0.cur.g (.map s0.cur.es s0.cur.c)::(s0.EI++(s0.KI++(s0.ET++(.obj m.g (.map m.es m.c)::.row x.c.gx x.c.cells::.row x.c.gsp x.c.maps::.row B (AV x.c.n (A++[s0.cur]))::.row g5 q.cells::(s0.b.AE++Z)))))) (λw h=>?_) ?_
 .have h1:St Fx w0 w ((.obj g37 (.map #[] 0)::.row X [.slice (aG B) x.c.n x.c.n,.slice v.ia v.ins.length v.ic,.slice v.ta v.tk.length v.tc]::.row B (AV x.c.n (A++[cur0]))::.row g5 q.cells::(A.map MpL.ent++(v.EI++(v.KI++v.ET))))++SxL.all { x with b:=v.b } (E++L)):=(by simpa only [AbT,Qs] using h)
  have h2:=h1.perm ((SxL.Hi (x:={ x with b:=v.b }) hm).append_left _)
  unfold SxL.op at h2
  simp only[AbT,Qs] at h2
  rw[hs0,hZ]
  rw[hcur0] at h2 ⊢
  dsimp only at h2 ⊢
  rw[show SxL.spR { x with b:=v.b } i=x.spR i from rfl] at h2
  exact h2.AJ
 refine J10 ?_
 refine WC.loop (λs:DxS=>[(41,iI s.j),(39,.slice pa ps.length pc),(40,iI ps.length),(8,iI i),(29,iI i),(28,iI x.c.n),(7,.slice pa ps.length pc),(0,pG x.c.gx),(1,pG X),(5,pG g5)]) (λs=>.row X [.slice (aG B) x.c.n x.c.n,.slice s.ia s.ins.length s.ic,.slice s.ta s.tk.length s.tc]::.obj s.cur.g (.map s.cur.es s.cur.c)::(s.EI++(s.KI++(s.ET++(.obj m.g (.map m.es m.c)::.row x.c.gx x.c.cells::.row x.c.gsp x.c.maps::.row B (AV x.c.n (A++[s.cur]))::.row g5 q.cells::(s.b.AE++Z)))))) (λs=>s.j<=ps.length/\DxP x (A++[s.cur]) s.toDxV (5000*i+s.j)/\s.cur.g=g37/\∀q,s.cur.M q≠none->∃(j:Nat) (p:PfL),j<s.j/\ps[j]?=some p/\q=aA p.cells) (λs=>ps.length-s.j) s0 (by rw[hs0];exact⟨Lv _,hd0,by rw[hcur0],λq hq=>absurd (hcn.1 q) hq⟩) (by rw[hs0];exact(.cons U (.cons U (.cons U (.cons U (.cons U (.cons U (.cons U (.cons U (.cons U (.cons U .nil))))))))))) (.refl _) ?_
 rintro⟨⟨b,H,ia,ic,EI,KI,tk,ta,tc,ET⟩,j,cur⟩ ⟨hj,F,hcg,hcM⟩
 dsimp only at hj F hcg hcM⊢
 have hbp:=F.bp
 have hxb:=hO.bp
 refine J2 ?_
 refine JT (λh42=>?_) λh42=>?_
 refine J10 ?_
 obtain⟨p,hp⟩:∃p,ps[j]?=some p:=Gx
 have hpm2:=Do hp
 have hpo:IS p:=⟨(hps p hpm2).1,(hps p hpm2).2⟩
 obtain⟨b1,o1,ea1,_⟩:=HN hPV (λe he=>hS'.holds e (Ha _ he)) j p hp
 have hnew:cur.M (aA p.cells)=none:=Ago λhc=>(by
  obtain⟨j2,p2,h1,h2,h3⟩:=hcM _ hc
  have e:=EE h3
  obtain⟨l1,e1⟩:=Eu.1 hp
  obtain⟨l2,e2⟩:=Eu.1 h2
  exact List.pairwise_iff_getElem.1 hnd j2 j l2 l1 h1 (by rw[e1,e2,e]))
 obtain⟨h0,hu0,hu1⟩:∃h0:SpD,(m.M (aA p.cells)).getD (.agg (SpD.cells ⟨⟨0,0,0⟩,0,0⟩).toArray)=aA h0.cells/\((m.M (aA p.cells)).isSome=true->h0.k.In/\h0.mark=ES i p):=(by
  cases hc:m.M (aA p.cells) with
  | none=>exact⟨_,rfl,λh=>by cases h⟩
  | some u =>
   obtain⟨p',h,e1,_,_,rfl,h5,h6⟩:=(hmv _ _ hc).is_
   rw[EE e1]
   exact⟨h,rfl,λ_=>⟨h5,h6⟩⟩)
 refine zV ((AA (b:=b1) (off:=o1) (lo:=j) U D2 U underlying32 BT U W)) U ?_
 refine WL.val (AB (cs:=p.cells) U U DD.h U (λw hS=>by
 obtain⟨b2,o2,ea2,r2⟩:=HN hPV (λe he=>hS.holds e (by simp[hZp e he])) j p hp
 rw[ea1] at ea2;cases ea2
 exact r2)) (.none U) U U ?_
 refine zy U FZ.h U U<|λN hg10=>J7 ?_
 refine zV (AB U U DD.h U (AL (g:=N))) U<|zK CkO U<|?_
 intro w3 hS
 refine(XQ w3 x i p hO W hpo (hS.row (g:=x.c.gx)) (SvH.of λe he=>hS.holds e (by simp[hZv e he]))).mono ?_
 rintro e w' ⟨aa,bw,rfl,hb,hF⟩
 refine⟨_,_,rfl,hS.ext hF,?_⟩
 refine J3 ?_
 refine zy U i84z.h U U<|λT hg11=>J1 ?_
 refine WL.CD (g:=T) (cs':=aa.cells) (AH U)<|J7 ?_
 skip
 cases bw
 refine J12 ?_
 exact eWx [.row T aa.cells,.row N p.cells] ⟨⟨b,H,ia,ic,EI,KI,tk,ta,tc,ET⟩,j+1,cur⟩ C7 ⟨C7,⟨F.b,F.bp,F.mp,F.en,F.ap,F.in_,F.own,F.vi,F.il,F.vt,by have:=F.tl;dsimp only at this ⊢;omega⟩,hcg,λq hq=>by
 obtain⟨j2,p2,h1,h2⟩:=hcM q hq
 exact⟨j2,p2,C7,h2⟩⟩
 refine J7 ?_
 refine WC.AS mixed<|rF 11 [0,1,2,4]<|?_
 obtain⟨hkey,mb,hmb,hth,hoff⟩:=hb U
 obtain⟨kj,hkj,hkje⟩:=hkey.best
 have hkf:=hkey.from_
 have hkm:=hkey.may
 have hkI:aa.In:=⟨by unfold I64;omega,by unfold I64;omega,by unfold I64;omega⟩
 refine J5 ?_
 refine WR.mix (g:=2) 12 [3,5,6,7,8,9,10] [11] U HQ U U U C6 C6<|zm (An U U J0.h (cellAt (g:=x.c.gx) (v:=.slice (aG x.c.gsp) x.c.n x.c.sc) U)) U<|zm (AA (lo:=i) U U U underlying77 FY W W) U<|zm (An U U EN (cellAt (g:=x.c.gsp) (v:=.map (some m.g)) (Lu hO hm))) U<|zm (AB U U DD.h U (AL (g:=N))) U<|?_
 refine zm (ED (z:=.agg (SpD.cells ⟨⟨0,0,0⟩,0,0⟩).toArray) U U U underlying133 DH (KPf.mk hpo.ok hpo.u) C6 (C4 (es:=m.es) m.g (c:=m.c) C9) hmo.im) U ?_
 rw[hu0]
 generalize hhv:(m.M (aA p.cells)).isSome=hv at hu1
 refine zm (DG U U) U<|zm (CB U U U) U<|WM.nil<|?_
 refine J1 ?_
 refine WP.NU<|λO hg13=>rO 1 [13]<|J1 ?_
 refine WL.CD (g:=O) (cs':=h0.cells) (AH U)<|J1 ?_
 refine rF 0 [14]<|J4 ?_
 refine WC.cut (λz:DxU=>[(11,pG T),(10,pG N),(13,pG O),(41,iI j),(39,.slice pa ps.length pc),(40,iI ps.length),(8,iI i),(29,iI i),(28,iI x.c.n),(7,.slice pa ps.length pc),(0,pG x.c.gx),(1,pG X),(5,pG g5)]) (λz=>.row O z.h.cells::.row T aa.cells::.row N p.cells::.row X [.slice (aG B) x.c.n x.c.n,.slice z.ia z.ins.length z.ic,.slice z.ta z.tk.length z.tc]::.obj cur.g (.map cur.es cur.c)::(z.EI++(z.KI++(z.ET++(.obj m.g (.map m.es m.c)::.row x.c.gx x.c.cells::.row x.c.gsp x.c.maps::.row B (AV x.c.n (A++[cur]))::.row g5 q.cells::(z.b.AE++Z)))))) (λz=>z.ins=H/\z.EI=EI/\z.KI=KI/\z.ia=ia/\z.ic=ic/\z.h.k.In/\z.h.mark=ES i p/\DxP x (A++[cur]) z.toDxV (5000*i+j+1)) ?_ ?_
 refine WC.cut (λbb:Bool=>[(74,.bool bb),(11,pG T),(10,pG N),(13,pG O),(41,iI j),(39,.slice pa ps.length pc),(40,iI ps.length),(8,iI i),(29,iI i),(28,iI x.c.n),(7,.slice pa ps.length pc),(0,pG x.c.gx),(1,pG X),(5,pG g5)]) (λ_=>.row O h0.cells::.row T aa.cells::.row N p.cells::.row X [.slice (aG B) x.c.n x.c.n,.slice ia H.length ic,.slice ta tk.length tc]::.obj cur.g (.map cur.es cur.c)::(EI++(KI++(ET++(.obj m.g (.map m.es m.c)::.row x.c.gx x.c.cells::.row x.c.gsp x.c.maps::.row B (AV x.c.n (A++[cur]))::.row g5 q.cells::(b.AE++Z)))))) (λbb=>bb=false->h0.k.In/\h0.mark=ES i p) ?_ ?_
 refine J2 ?_
 skip
 cases hv
 refine J9 ?_
 exact eM true λh=>by cases h
 refine J4 ?_
 refine zS (AB U U Mi.h U (AT (g:=O) (m:=3) (new:=h0.k.cells) U)) U<|zS (AB U U Mi.h U (AL (g:=T))) U<|?_
 obtain⟨b73,hbe⟩:∃c:Bool,c=true<->¬h0.k.cells=aa.cells:=⟨@decide _ (Classical.propDecidable _),@Aim _ (Classical.propDecidable _)⟩
 refine zS (LN (b:=b73) U U U Ad8 Ad7 U U hbe) U ?_
 cases b73
 refine J2 ?_
 exact eM false λ_=>hu1 U
 refine J2 ?_
 exact eM true λh=>by cases h
 intro bb hbb
 refine WC.YF U (λh74=>?_) λh74=>?_
 refine J1 ?_
 refine WC.AS mixed<|rF 8 [0,1,2]<|?_
 refine J4 ?_
 refine rA 6 [3,4] U<|qV (An U U NV (cellAt (g:=x.c.gx) (v:=pG x.c.gp) U)) U<|qV (AB U U Mi.h U (AL (g:=T))) U<|?_
 refine J1 ?_
 refine rO 5 [5]<|zK CkO U<|?_
 intro w3 hS
 rw[show x.c.gp=b.p from hxb.symm.trans hbp.symm]
 refine(Z5 Fx w0 w3 b aa (.row O h0.cells::.row T aa.cells::.row N p.cells::.row X [.slice (aG B) x.c.n x.c.n,.slice ia H.length ic,.slice ta tk.length tc]::.obj cur.g (.map cur.es cur.c)::(EI++(KI++(ET++(.obj m.g (.map m.es m.c)::.row x.c.gx x.c.cells::.row x.c.gsp x.c.maps::.row B (AV x.c.n (A++[cur]))::.row g5 q.cells::Z))))) F.b hkI hS.AJ).mono ?_
 rintro e w' ⟨tg,r1,b2,rfl,htg,hr1,hb1,hb2,hS'⟩
 refine⟨_,.row O h0.cells::.row T aa.cells::.row N p.cells::.row X [.slice (aG B) x.c.n x.c.n,.slice ia H.length ic,.slice ta tk.length tc]::.obj cur.g (.map cur.es cur.c)::(EI++(KI++(ET++(.obj m.g (.map m.es m.c)::.row x.c.gx x.c.cells::.row x.c.gsp x.c.maps::.row B (AV x.c.n (A++[cur]))::.row g5 q.cells::(b2.AE++Z))))),rfl,hS'.AJ,?_⟩
 refine J1 ?_
 refine rF 0 [6,7,8,9,10]<|J12 ?_
 refine JT (λh85=>?_) λh85=>?_
 refine J21 ?_
 refine eT1 ?_
 exact λw' h=>⟨r1,A++[cur],⟨b2,H,ia,ic,EI,KI,tk,ta,tc,ET⟩,rfl,⟨hb2,hb1.trans F.bp,F.mp,F.en,F.ap,F.in_,F.own,F.vi,F.il,F.vt,by have:=F.tl;dsimp only at this ⊢;omega⟩,λh0=>absurd h0 h85,hexit b2 H ia ic EI KI tk ta tc ET cur hcg w' [.row O h0.cells,.row T aa.cells,.row N p.cells] h⟩
 refine J11 ?_
 refine zV (An U U S3.h (cellAt (g:=X) (v:=.slice ta tk.length tc) U)) U<|J1 ?_
 refine zB underlying34 AZ G0 (by show some (AK (List.replicate 1 _).flatten 0 [Value.int .i64 tg])=some [Value.int .i64 tg];exact If some (AH U)) U ?_
 intro g93 hg93
 refine WL.to (L':=ET++(.row g93 [iI tg]::.row O h0.cells::.row T aa.cells::.row N p.cells::.row X [.slice (aG B) x.c.n x.c.n,.slice ia H.length ic,.slice ta tk.length tc]::.obj cur.g (.map cur.es cur.c)::(EI++(KI++(.obj m.g (.map m.es m.c)::.row x.c.gx x.c.cells::.row x.c.gsp x.c.maps::.row B (AV x.c.n (A++[cur]))::.row g5 q.cells::(b2.AE++Z)))))) (λw h=>h.AJ)<|WL.AU U U U underlying34 underlying34 AZ by_3 G0 U U F.vt (new:=[iI tg]) (λ_=>⟨g93,0,rfl,λw hS=>AL (g:=g93) w hS⟩) U U (by have:=F.tl;dsimp only at this;omega) (.none U) U U ?_
 intro ad94 c94 E94 hV94 hr94
 refine J3 ?_
 refine WL.CD (g:=X) (cs':=[.slice (aG B) x.c.n x.c.n,.slice ia H.length ic,.slice ad94 (tk.length+1) c94]) U ?_
 obtain⟨hl,hhl⟩:∃hl:SpD,hl=⟨aa,tg,ES i p⟩:=⟨_,rfl⟩
 refine J2 ?_
 refine WC.AS mixed<|rF 6 [1,3]<|?_
 refine J3 ?_
 refine rA 1 [0,2,4,5,6] U<|qV (AB U U Mi.h U (AL (g:=T))) U<|?_
 refine J1 ?_
 refine qV (AB U U DD.h U (AL (g:=N))) U<|qC CkO U (λw hS=>Xm w i p W hpo)<|qV ((GC U U HQ Aa2 U).eq (v:=aA hl.cells) (by rw[hhl];rfl)) U ?_
 refine J1 ?_
 refine rO 0 [7]<|J1 ?_
 refine WL.CD (g:=O) (cs':=hl.cells) (AH U)<|J2 ?_
 exact WE.to (L':=.row O hl.cells::.row T aa.cells::.row N p.cells::.row X [.slice (aG B) x.c.n x.c.n,.slice ia H.length ic,.slice ad94 (tk++[tg]).length c94]::.obj cur.g (.map cur.es cur.c)::(EI++(KI++(E94++(.obj m.g (.map m.es m.c)::.row x.c.gx x.c.cells::.row x.c.gsp x.c.maps::.row B (AV x.c.n (A++[cur]))::.row g5 q.cells::(b2.AE++Z)))))) (λw h=>by
 rw[AC,AbJ]
 exact St.AN [.row g93 [iI tg]] h) (eM ⟨⟨b2,H,ia,ic,EI,KI,tk++[tg],ad94,c94,E94⟩,hl⟩ ⟨rfl,rfl,rfl,rfl,rfl,by rw[hhl];exact hkI,by rw[hhl],⟨hb2,hb1.trans F.bp,F.mp,F.en,F.ap,F.in_,F.own,F.vi,F.il,by dsimp only;rw[AC,Ai7];exact hV94,by have:=F.tl;dsimp only at this ⊢;rw[AC,AbJ];omega⟩⟩)
 refine J1 ?_
 exact eM ⟨⟨b,H,ia,ic,EI,KI,tk,ta,tc,ET⟩,h0⟩ ⟨rfl,rfl,rfl,rfl,rfl,(hbb h74).1,(hbb h74).2,⟨F.b,F.bp,F.mp,F.en,F.ap,F.in_,F.own,F.vi,F.il,F.vt,by have:=F.tl;dsimp only at this ⊢;omega⟩⟩
 rintro⟨⟨b,R,ia',ic',EI',KI',tk,ta,tc,ET⟩,hl⟩ ⟨rfl,rfl,rfl,rfl,rfl,hlI,hlm,C⟩
 dsimp only at hlI hlm C⊢
 refine J2 ?_
 refine zV (AB U U RS.h U (AL (g:=g5))) U<|zV (AB U U DD.h U (AL (g:=N))) U<|zV (AB U U Mi.h U (AL (g:=T))) U<|?_
 refine J2 ?_
 refine zV (An U U i3o.h (cellAt (g:=O) (v:=iI hl.tag) U)) U<|zK CkO U<|?_
 intro w3 hS
 have hpm:=hqr w3 λe he=>hS.holds e (by simp[hZq e he])
 refine(ZW w3 q qx qy p aa i kj hl.tag hq hpm.1 hpm.2.1 hpm.2.2 hqb hpo.ok hpo.u hkf W hkje W (hG.BI (λh=>h) hS)).mono ?_
 rintro e w' ⟨r2,ls,bad,bc,EB,KB,rfl,hr2,hVE,hOE,hBk,hS'⟩
 refine⟨_,_,rfl,hS.join hS',?_⟩
 refine J11 ?_
 refine JT (λh115=>?_) λh115=>?_
 refine J20 ?_
 refine eT1 ?_
 exact λw' h=>⟨r2,A++[cur],⟨b,R,ia',ic',EI',KI',tk,ta,tc,ET⟩,rfl,⟨C.b,C.bp,C.mp,C.en,C.ap,C.in_,C.own,C.vi,C.il,C.vt,by have:=C.tl;dsimp only at this ⊢;omega⟩,λh0=>absurd h0 h115,hexit b R ia' ic' EI' KI' tk ta tc ET cur hcg w' (EB++KB++[.row O hl.cells,.row T aa.cells,.row N p.cells]) (by simpa only [Qs,AbT,Aec] using h)⟩
 refine J7 ?_
 refine cQ mixed ?_
 have hil:=C.il
 dsimp only at hil
 refine J5 ?_
 refine qV (An U U i3o.h (cellAt (g:=x.c.gx) (v:=iI x.c.rules) U)) U<|J3 ?_
 refine qV (An U U TI.h (cellAt (g:=X) (v:=.slice ia' R.length ic') U)) U<|J2 ?_
 refine JT (λh129=>?_) λh129=>?_
 refine J19 ?_
 refine eT1 ?_
 exact λw' h=>⟨30,A++[cur],⟨b,R,ia',ic',EI',KI',tk,ta,tc,ET⟩,rfl,⟨C.b,C.bp,C.mp,C.en,C.ap,C.in_,C.own,C.vi,C.il,C.vt,by have:=C.tl;dsimp only at this ⊢;omega⟩,λh0=>absurd h0 C8,hexit b R ia' ic' EI' KI' tk ta tc ET cur hcg w' (EB++KB++[.row O hl.cells,.row T aa.cells,.row N p.cells]) (by simpa only [Qs,AbT,Aec] using h)⟩
 refine J6 ?_
 refine WC.heldT 11 ([.row O hl.cells,.row N p.cells,.row X [.slice (aG B) x.c.n x.c.n,.slice ia' R.length ic',.slice ta tk.length tc]]) mixed<|WRT.first (g:=5) [0,1,2,3,4,5,6,7,8] C6 C6 C6 kp ?_
 obtain⟨ie,hie⟩:∃ie:List EnL,ie=R++IV p.len (ES i p) ls:=⟨_,rfl⟩
 have hiel:ie.length=R.length+ls.length:=(by rw[hie,AC,Md])
 refine J4 ?_
 refine zj (An U U TI.h (cellAt (g:=X) (v:=.slice ia' R.length ic') U)) U<|J2 ?_
 refine zj (An U U i3o.h (cellAt (g:=O) (v:=iI (ES i p)) (by show some (Value.int .i64 hl.mark)=_;rw[hlm]))) U ?_
 refine zj (AB U U DD.h U (AL (g:=N))) U<|WH.PE<|?_
 refine WRT.one (g:=4) 9 C6<|zK CkO U<|λw3 hS=>(TA w3 ls bad bc (ES i p) p (hVE.rg λe he=>hS.holds e Dd) hBk.few hpo).mono ?_
 rintro e w' ⟨ad3,c3,E3,rfl,hV3,hS'⟩
 refine⟨_,E3++(EB++(KB++(.row O hl.cells::.row T aa.cells::.row N p.cells::.row X [.slice (aG B) x.c.n x.c.n,.slice ia' R.length ic',.slice ta tk.length tc]::.obj cur.g (.map cur.es cur.c)::(EI'++(KI'++(ET++(.obj m.g (.map m.es m.c)::.row x.c.gx x.c.cells::.row x.c.gsp x.c.maps::.row B (AV x.c.n (A++[cur]))::.row g5 q.cells::(b.AE++Z)))))))),rfl,(by simpa only [Qs,AbT,Aec] using hS.join hS'),?_⟩
 refine WL.PE kp<|WRT.one (g:=3) 10 C6<|WL.to (L':=EI'++(E3++(EB++(KB++(.row O hl.cells::.row T aa.cells::.row N p.cells::.row X [.slice (aG B) x.c.n x.c.n,.slice ia' R.length ic',.slice ta tk.length tc]::.obj cur.g (.map cur.es cur.c)::(KI'++(ET++(.obj m.g (.map m.es m.c)::.row x.c.gx x.c.cells::.row x.c.gsp x.c.maps::.row B (AV x.c.n (A++[cur]))::.row g5 q.cells::(b.AE++Z))))))))) (λw h=>h.AJ)<|WL.AU U U U underlying231 underlying231 BC ID CG U U C.vi (new:=DA (IV p.len (ES i p) ls)) (λhp=>by obtain⟨b4,o4,ea4,r4⟩:=hV3.XS (L:=EI'++(E3++(EB++(KB++(.row O hl.cells::.row T aa.cells::.row N p.cells::.row X [.slice (aG B) x.c.n x.c.n,.slice ia' R.length ic',.slice ta tk.length tc]::.obj cur.g (.map cur.es cur.c)::(KI'++(ET++(.obj m.g (.map m.es m.c)::.row x.c.gx x.c.cells::.row x.c.gsp x.c.maps::.row B (AV x.c.n (A++[cur]))::.row g5 q.cells::(b.AE++Z))))))))) (λe he=>by simp[he]) (by rw[DO];omega);exact⟨b4,o4,ea4,λw hS=>r4 _ _ w hS⟩) (DO _) (Gm IU _) (by rw[Md];have:=hBk.few;omega) (.none U) U U ?_
 intro ad140 c140 E140 hV140 hr140
 refine WL.PE kp<|WRT.one (g:=2) 11 C6<|J1 ?_
 refine WL.Xw U<|WRT.one (g:=1) 12 C6<|J1 ?_
 refine WL.Xw U<|WRT.one (g:=0) 13 C6<|J1 ?_
 refine WL.CD (g:=X) (cs':=[.slice (aG B) x.c.n x.c.n,.slice ad140 ie.length c140,.slice ta tk.length tc]) (by rw[hie,AC];rfl) ?_
 have hV5:Vec 21 ad140 ie.length c140 (DA ie) E140:=(by rw[hie,AC,show DA (R++IV p.len (ES i p) ls)=DA R++DA (IV p.len (ES i p) ls) from GJ _ _ _];exact hV140)
 have hci:(A++[cur])[i]?=some cur:=(by rw[Ah8 (W),hpl2,Nat.sub_self];rfl)
 obtain⟨hcO,hcS⟩:=F.mp i cur hci
 refine WL.Xw U<|WRT.done C6<|J1 ?_
 refine WC.AS mixed<|rF 6 [0,1,2,4]<|?_
 refine J5 ?_
 refine rA 1 [3,5,6,7,8] U<|qV (An U U J0.h (cellAt (g:=X) (v:=.slice (aG B) x.c.n x.c.n) U)) U<|?_
 refine qV (AA (lo:=i) U U U underlying77 FY W W) U<|qV (An U U EN (cellAt (g:=B) (v:=.map (some cur.g)) (OK hci))) U<|qV (AB U U DD.h U (AL (g:=N))) U<|qV (AB U U i160m.h U (AL (g:=O))) U<|?_
 refine J1 ?_
 refine rO 0 [9]<|WL.EH U U U U underlying133 DH (KPf.mk hpo.ok hpo.u) (hcO.im) (.none U) U<|?_
 intro esU cU hMU hsU hstU
 refine J8 ?_
 obtain⟨J,hc2⟩:∃c2:MpL,c2=⟨cur.g,esU,cU,CR cur.M (aA p.cells) (some (aA hl.cells))⟩:=⟨_,rfl⟩
 have hms:AV x.c.n (A++[J])=AV x.c.n (A++[cur]):=(by unfold AV;rw[Ai7,Ai7,AC,AC,hc2];rfl)
 have hci2:(A++[J])[i]?=some J:=(by rw[Ah8 (W),hpl2,Nat.sub_self];rfl)
 have hcp:∀(j:Nat) (mj:MpL),(A++[cur])[j]?=some mj->(j=i/\mj=cur)\/(A++[J])[j]?=some mj:=λj mj h=>(by
  by_cases e:j<A.length
  .rw [Ae9 e] at h ⊢;exact .inr h
  .have hlen:=(Eu.1 h).1
   rw[AC,AbJ] at hlen
   have e2:j=i:=W
   subst e2
   rw[hci] at h;cases h;exact .inl ⟨rfl,rfl⟩)
 have hcM2:∀q,cur.M q≠none->J.M q≠none:=λq h=>(by
  rw[hc2]
  show CR _ _ _ q≠none
  by_cases e:q=aA p.cells
  .rw [e,DC];intro e;cases e
  .rw [CI _ _ e];exact h)
 have hcMp:J.M (aA p.cells)≠none:=(by rw[hc2];show CR _ _ _ _≠none;rw[DC];intro e;cases e)
 have hap:FC (ie.map EnL.d):=(by
  rw[hie,Ai7]
  unfold FC
  rw[List.pairwise_append]
  refine⟨C.ap,RH _ _ _,λa ha b' hb' hab=>?_⟩
  obtain⟨a0,ha0,rfl⟩:=Ab8.1 ha
  obtain⟨j2,p2,mj,g1,g2,g3,g4,g5⟩:=C.en a0 ha0
  obtain⟨e1,e2⟩:=WJ g5 (QJ hBk _ hb') g1 W g2.ok hpo.ok g2.u hpo.u hab
  subst e1 e2
  rw[hci] at g3;cases g3
  exact g4 hnew)
 have hDx:DxP x (A++[J]) ⟨b,ie,ad140,c140,E140,KB++KI',tk,ta,tc,ET⟩ (5000*i+(j+1)):=(by
  refine⟨C.b,C.bp,λj2 mj hj2=>?_,λe he=>?_,hap,λe he=>?_,λe he=>?_,hV5,C7,C.vt,by have:=C.tl;dsimp only at this ⊢;omega⟩
  .by_cases e:j2<A.length
   .rw [Ae9 e] at hj2
    exact F.mp j2 mj (by rw[Ae9 e];exact hj2)
   .have hlen:=(Eu.1 hj2).1
    rw[AC,AbJ] at hlen
    have e2:j2=i:=W
    subst e2
    rw[hci2] at hj2;cases hj2
    rw[hc2]
    refine⟨⟨hMU,hstU hcO.st⟩,λq u hq=>?_⟩
    have hq:CR cur.M (aA p.cells) (some (aA hl.cells)) q=some u:=hq
    by_cases e:q=aA p.cells
    .subst e;rw[DC] at hq;cases hq
     exact⟨⟨p,hl,rfl,hpo,hpS p hpm2,rfl,hlI,hlm⟩,⟨mb,hmb,.inr hth⟩⟩
    .rw [CI _ _ e] at hq;exact hcS q u hq
  .dsimp only at he
   rw[hie] at he
   rcases LI.1 he with he|he
   .obtain ⟨j2,p2,mj,g1,g2,g3,g4,g5⟩:=C.en e he
    rcases hcp j2 mj g3 with⟨rfl,rfl⟩|g3
    .exact ⟨_,p2,J,g1,g2,hci2,hcM2 _ g4,g5⟩
    .exact ⟨j2,p2,mj,g1,g2,g3,g4,g5⟩
   .exact ⟨i,p,J,W,hpo,hci2,hcMp,QJ hBk _ (Ab5 he)⟩
  .dsimp only at he
   rw[hie] at he
   rcases LI.1 he with he|he
   .exact C.in_ e he
   .exact ent_in hpo W hBk e he
  .dsimp only at he
   rw[hie] at he
   rcases LI.1 he with he|he
   .exact (C.own e he).sub λz hz=>Mu _ hz
   .obtain ⟨a,ha,e1⟩:=List.mem_iff_getElem.1 he
    obtain⟨r,hr,rfl⟩:=Kp (by rw[FS ha,e1])
    exact(hOE r (Do hr)).sub λz hz=>Ha _ hz)
 refine WE.to (L':=.row X [.slice (aG B) x.c.n x.c.n,.slice ad140 ie.length c140,.slice ta tk.length tc]::.obj J.g (.map J.es J.c)::(E140++((KB++KI')++(ET++(.obj m.g (.map m.es m.c)::.row x.c.gx x.c.cells::.row x.c.gsp x.c.maps::.row B (AV x.c.n (A++[J]))::.row g5 q.cells::(b.AE++Z)))))) (λw h=>?_) (eW ⟨⟨b,ie,ad140,c140,E140,KB++KI',tk,ta,tc,ET⟩,j+1,J⟩ C7 ⟨C7,hDx,by rw[hc2];exact hcg,λq hq=>?_⟩)
 .rw [hms,Qs,hc2]
  exact h.AN (.row O hl.cells::.row T aa.cells::.row N p.cells::(E3++EB))
 .by_cases e:q=aA p.cells
  .exact ⟨j,p,C7,hp,e⟩
  .have hq:J.M q≠none:=hq
   rw[hc2] at hq
   have hq:CR cur.M (aA p.cells) (some (aA hl.cells)) q≠none:=hq
   rw[CI _ _ e] at hq
   obtain⟨j2,p2,h1,h2⟩:=hcM q hq
   exact⟨j2,p2,C7,h2⟩
 refine J14 ?_
 exact WE.to (L':=.row X [.slice (aG B) x.c.n x.c.n,.slice ia H.length ic,.slice ta tk.length tc]::.row B (AV x.c.n (A++[cur]))::.row g5 q.cells::((A++[cur]).map MpL.ent++(EI++(KI++(ET++SxL.all { x with b:=b } (E++L)))))) (λw h=>hout b H ia ic EI KI tk ta tc ET cur w h) (eW ⟨i+1,A++[cur],⟨b,H,ia,ic,EI,KI,tk,ta,tc,ET⟩⟩ C7 ⟨C7,by dsimp only;rw[AC,AbJ];omega,⟨F.b,F.bp,F.mp,F.en,F.ap,F.in_,F.own,F.vi,F.il,F.vt,by have:=F.tl;dsimp only at this ⊢;omega⟩⟩)
 refine J15 ?_
 refine eT1 ?_
 obtain rfl:i=x.c.n:=W
 refine λw' h=>⟨0,A,v,rfl,⟨hV.b,hV.bp,hV.mp,hV.en,hV.ap,hV.in_,hV.own,hV.vi,hV.il,hV.vt,by have:=hV.tl;omega⟩,λ_=>hpl2,?_⟩
 have h2:=St.AN (L':=.row X [.slice (aG B) x.c.n x.c.n,.slice v.ia v.ins.length v.ic,.slice v.ta v.tk.length v.tc]::.row B (AV x.c.n A)::(v.ET++(v.EI++(v.KI++(A.map MpL.ent++SxL.all { x with b:=v.b } (E++L)))))) [.row g5 q.cells] h
 exact h2.sub (by
  refine List.Sublist.cons_cons _ (List.Sublist.cons_cons _ (Acq (Acq (Acq (Acq ?_ _) _) _) _))
  rw[SxL.all_eq _ (E++L),SxL.all_eq _ L]
  exact(Ai9 E L).append_left _)
end Gq
end Go.Proofs.YtmhahajadgkolaaGreatDoor
