/- Joined texts. -/
import Derived.Test.YtmhahajadgkolaaGreatDoorBgSdxTells
set_option maxHeartbeats 4000000
set_option maxRecDepth 8000
namespace Go.Proofs.YtmhahajadgkolaaGreatDoor
open Go.RowKit Tryz
variable{B:Nat}
section Gq
attribute [local irreducible] WL WC WE WQ WP WH WR WM WRH

structure Ky3.Ok(k:Ky3)(n f:Nat):Prop where
 from_:k.from_=(f:Int)
 best:∃j:Nat,j<n/\k.best=(j:Int)
 may:0<=k.may/\k.may<=65535
theorem Zd{x y:Int}(c:0<=x/\x<=65535)(e:0<=y/\y<=65535):0<=orN x y/\orN x y<=65535:=by
 obtain⟨a,rfl⟩:=Int.eq_ofNat_of_zero_le c.1
 obtain⟨b,rfl⟩:=Int.eq_ofNat_of_zero_le e.1
 show 0<=((a ||| b:Nat):Int)/\((a ||| b:Nat):Int)<=65535
 have:a ||| b<2^16:=Nat.or_lt_two_pow W W
 omega
theorem Zi(h:B<16):(0:Int)<=(2:Int)^B/\(2:Int)^B<=65535:=by
 have:∀B:Nat,B<16->(0:Int)<=(2:Int)^B/\(2:Int)^B<=65535:=C8
 exact this B h
theorem Afp{c b:vL}{m i:Nat}{v:Vl}(h:seg c B m=b)(a:b[i]?=some v):c[B+i]?=some v:=by
 rw[<- h] at a
 unfold seg at a
 rw[Agg] at a
 split at a
 .rw [Aic] at a;exact a
 .cases a
structure FoS where
 k:Nat
 may:Int
theorem FOf_c(w0:Wd)(v:Sv)(z:Nat)(mt:Mb)(p:PfL)(hv:SvH v w0)(hO:v.Ok)(D:v.ms[z]?=some mt)(hp:U32 p.addr)(ab:BP p=true):
 Cl 256 #[pG v.s,iI z,aA p.cells] w0 λe O=>∃(k:Ky3) (b:Bool),e=.returned (.tuple #[aA k.cells,.bool b])/\(b=true<->IF v z mt.sy p)/\(b=true->k.Ok v.ms.length z)/\Frm Fx w0 O:=by
 have hn:=hO.n
 have hk:=(Eu.1 D).1
 refine en0 func256 U ntmps256 U<|J2 ?_
 refine zx U U U U U<|λg5 hg5=>zy U i84z.h U U<|λg6 hg6=>J8 ?_
 refine zK CkO U<|λw1 hS=>(Ac7 w1 v z mt p (hv.st hS) hO D hp ab).mono ?_
 rintro e O ⟨a,ad,c,E,rfl,hV,q,G,hl16,X⟩
 refine⟨_,_,rfl,hS.join X,?_⟩
 refine J8 ?_
 refine JT (λu=>?_) λu=>?_
 refine J12 ?_
 refine eT2 ?_
 have g:a=[]:=List.eq_nil_of_length_eq_zero W
 exact λO h=>⟨⟨0,0,0⟩,false,rfl,⟨λh=>Da,λh=>absurd g (q.2 h)⟩,λh=>Da,h.frm⟩
 refine J9 ?_
 have g:a≠[]:=(by intro e;rw[e] at u;exact u U)
 obtain⟨gr,B,rfl,rfl,hrcl,ac⟩:=hV.split g
 simp only[AbT,Aec]
 obtain⟨N,M⟩:∃N,a[0]?=some N:=Gx
 have H:=G N (Do M)
 refine zV (AA (lo:=0) U U U underlying170 Ho U W) U<|J1 ?_
 refine WL.val (An U U i3o.h ((cellAt (cs:=AM RtL.cells a++B) (by
 have S:=DF RtL.BK (R:=B) M
 exact Afp (i:=0) S U)))) (.none U) U U ?_
 refine J1 ?_
 refine zy U i84z.h U U<|λg9 hg9=>J12 ?_
 refine WC.loop (λx:FoS=>[(28,iI x.k),(27,iI a.length),(26,.slice (aG gr) a.length c),(9,pG g9),(6,pG g6)]) (λx=>[.row g9 [iI z,iI N.peer,iI x.may],.row gr (AM RtL.cells a++B),.row g6 [iI 0,iI 0,iI 0]]) (λx=>x.k<=a.length/\0<=x.may/\x.may<=65535) (λx=>a.length-x.k) ⟨0,0⟩ ⟨Lv _,C8,C8⟩ Km (Acy [_,_,_] _) ?_
 rintro⟨k,y⟩ ⟨aa,f,w⟩
 dsimp only at aa f w⊢
 refine J2 ?_
 refine JT (λT=>?_) λT=>?_
 refine J10 ?_
 obtain⟨r,hr⟩:∃r,a[k]?=some r:=Gx
 obtain⟨j,hj,Z⟩:=G r (Do hr)
 have J:=Zi (show j<16 by omega)
 have F:=Zd ⟨f,w⟩ J
 refine zV (AA (lo:=k) U U U underlying170 Ho W W) U<|WL.val (AB (cs:=r.cells) U U P9.h (RtL.BK r) (AT (cs:=AM RtL.cells a++B) (m:=13) (by
 have S:=DF RtL.BK (R:=B) hr
 rw[PP]
 exact S))) (.none U) U U ?_
 refine zy U GK.h U U<|λg11 hg11=>J3 ?_
 refine WC.AS mixed<|rF 6 [0,2]<|?_
 refine J3 ?_
 refine rA 1 [1,3,4,5,6] U<|qV (An U U i3o.h (cellAt (v:=iI y) U)) U<|?_
 refine qV (An U U i3o.h (cellAt (v:=iI (j:Int)) (by show some (Value.int .i64 r.peer)=_;rw[Z]))) U ?_
 refine qV (ND (m:=j) (c:=(2:Int)^j) U U U U (by show j<=64;omega) U ((If _ (Int.one_mul _)).trans (DK W W))) U ?_
 refine qV (S9 U U U (Im f W J.1 W)) U<|J2 ?_
 refine rO 0 [7]<|J9 ?_
 exact WE.next ⟨k+1,orN y ((2:Int)^j)⟩ C7 ⟨C7,F.1,F.2⟩ (.int U C7 (.cons U (.cons U (.cons U (.cons U .nil))))) (Adk _ _)
 refine J17 ?_
 refine eT2 ?_
 exact λO h=>⟨⟨z,N.peer,y⟩,true,rfl,⟨λ_=>q.1 g,λ_=>rfl⟩,λ_=>⟨rfl,H,f,w⟩,h.frm⟩

theorem Abv(w:Wd)(a:Ac)(b:Int):Cl 324 #[.agg (acL a).toArray,iI b] w λe w'=>∃q:Int,e=.returned (iI q)/\Frm Fx w w':=by
 refine en0 func324 U ntmps324 U<|J2 ?_
 refine zx U U U U U<|λj g=>J7 ?_
 refine zV (An U U i3o.h (cellAt (v:=iI a.set) U)) U<|zV (IP (m:=0) (c:=(2:Int)^0) U U U U (by show 0<=64;omega) U) U ?_
 refine zV (HX U U U (Hy (i:=1) (m:=2) C8 C8 C8)) U<|JT (λf=>?_) (λf=>?_)
 refine J6 ?_
 refine zV (AG (lo:=0) U U U underlying218 CF U W) U<|zV (An U U Gn.h (cellAt (v:=.int .u64 (a.val 0)) U)) U<|zV (FA U U underlying3 underlying23 (rfl)) U<|?_
 refine J5 ?_
 exact Cq
 refine J12 ?_
 exact Cq
def Vz(p:PlN)(n:Int):Prop:=0<=n/\n<p.zn
instance (p:PlN) (n:Int):Decidable (Vz p n):=by unfold Vz;infer_instance
theorem Afo(w:Wd)(p:PlN)(n:Int):Cl 257 #[aA p.cells,iI n] w (RvF (.bool (decide (Vz p n))) w):=by
 refine en0 func257 U ntmps257 U<|J2 ?_
 refine zx U U U U U<|λf e=>J6 ?_
 refine JT (λb=>?_) λb=>?_
 refine J3 ?_
 refine zS (An U U i49o.h (cellAt (v:=.slice p.za p.zn p.zc) U)) U<|J1 ?_
 refine JT (λa=>?_) λa=>?_
 refine J5 ?_
 refine eT1 ?_
 exact λc h=>⟨by rw[UV (p:=Vz p n) ⟨b,a⟩],h.frm⟩
 refine J5 ?_
 refine eT1 ?_
 exact λc h=>⟨by rw[Ro λq:Vz p n=>a q.2],h.frm⟩
 refine J11 ?_
 refine eT1 ?_
 exact λc h=>⟨by rw[Ro λq:Vz p n=>b q.1],h.frm⟩
structure S1(ls:List RuL):Prop where
 fit:IK 64 ls
 vm:VmL (ls.map RuL.d)
theorem S1.nil:S1 []:=⟨⟨λr h=>Da,λr h=>Da⟩,VmL.nil⟩
theorem S1.snoc{c:List RuL}(h:S1 c){r:RuL}(e:r.d.Fit)(f:r.acts.length<=64)(g:r.m.Vm):S1 (c++[r]) :=
 ⟨⟨λx a=>by
  rcases LI.1 a with a|a
  .exact h.fit.fit x a
  .rw [Es.1 a];exact e,λx a=>by
  rcases LI.1 a with a|a
  .exact h.fit.few x a
  .rw [Es.1 a];exact f⟩,λd b=>by
  rw[Ai7] at b
  rcases LI.1 b with b|b
  .exact h.vm d b
  .rw [Es.1 b];exact g⟩
theorem Mw{K b:eL}{c:List RuL}{r:RuL}(h:∀r∈c,DE K r)(k:DE b r)(f:∀e∈K,e∈b):∀x∈c++[r],DE b x:=λx a=>by
 rcases LI.1 a with a|a
 .obtain ⟨E,i,g⟩:=h x a
  exact⟨E,i,λe j=>f e (g e j)⟩
 .rw [Es.1 a];exact k
structure SnS where
 i:Nat
 to:Int
 ls:List RuL
 ad:Option Addr
 c:Nat
 E:eL
 K:eL
structure SnA where
 j:Nat
 to:Int
 us:List Ac
 ad:Option Addr
 c:Nat
 E:eL
structure SnR(ls:List RuL)(ad:Option Addr)(c:Nat)(E K:eL):Prop where
 V:Vec 19 ad ls.length c (BB ls) E
 own:∀r∈ls,DE K r
 ok:S1 ls
theorem Yf(b:Option Addr)(c:Nat):(RuL.d ⟨mt0,b,c,[]⟩).Fit:=⟨⟨Sg,Ve,λa h=>by cases h⟩,λa h=>by cases h⟩
theorem Vy{m:Mt}{c:List Ac}{e:Option Addr}(f:m.In)(g:m.Nz)(h:∀a∈c,a.In/\a.Nz/\a.Ok):(RuL.d ⟨m,e,B,c⟩).Fit:=⟨⟨f,g,λa b=>⟨(h a b).1,(h a b).2.1⟩⟩,λa b=>(h a b).2.2⟩
theorem send_c(w:Wd)(p:PlN)(xs ys:List RlL)(k:Ky3)(f b:Nat)(F:Mt)(hp:Uz p xs ys)(hA:LV w p.xa xs)(hf:k.from_=(f:Int))(hf2:f<p.AY.length)(hb:k.best=(b:Int))(hb2:b<16)(ht:GF F)(hG:GW w):
 Cl 259 #[aA p.cells,aA k.cells,.agg (mtL F).toArray] w λe w'=>∃(to:Int) (D:List RuL) (ad:Option Addr) (c:Nat) (E K:eL),e=.returned (.tuple #[.slice ad D.length c,iI to])/\(0<=to/\to<=65535)/\SnR D ad c E K/\D.length<=5002/\St Fx w w' (E++K):=by
 obtain⟨x,hx⟩:∃x,xs[f]?=some x:=⟨xs[f]'(by have:=hp.x.2;omega),FS _⟩
 have hxm:=Do hx
 have hxo:=hp.xo x hxm
 have hxA:=hA.at_ x hxm
 have hxl:=hxo.few
 obtain⟨b0,o0,ea0,r0⟩:=hA.rd (by intro hh;have h1:=AP RlL.len xs;rw[hh] at h1;have:=hp.x.2;have h1:0=xs.length*1:=h1;omega)
 have r0c:w.cell? ⟨b0,o0+f,none⟩=some (.slice x.ad x.ls.length x.c):=by
  have:=Rg.seg RlL.len r0 hx 0 _ U
  rwa [Aed] at this
 have hpx:=hp.x.1
 have hz:=hp.z
 have hn16:=hp.n.2
 have hbi:BG 0=255:=C8
 refine en0 func259 U ntmps259 U<|J2 ?_
 refine zx U U U U U<|λH hg3=>zx U U U U U<|λJ hg4=>zx U U U U U<|λG hg5=>J14 ?_
 refine WC.cut (λy:SnS=>[(9,iI y.to),(8,.slice y.ad y.ls.length y.c)]) (λy=>y.E++y.K) (λy=>(0<=y.to/\y.to<=65535)/\y.ls.length<=5001/\SnR y.ls y.ad y.c y.E y.K) ?_ ?_
 refine J3 ?_
 refine zV (An U U i72o.h (cellAt (v:=.slice p.xa p.xn p.xc) U)) U<|J1 ?_
 refine zV (An U U i3o.h (cellAt (v:=iI (f:Int)) D7)) U ?_
 refine zV ((AA (b:=b0) (off:=o0) (lo:=f) U (by show some (Value.slice p.xa _ _)=_;rw[ea0]) U underlying72 Qo U (by have:=hp.x.2;omega))) U ?_
 refine zV (An U U S4.h (BY (λh=>h) (by rw[Aed];exact r0c))) U ?_
 refine J5 ?_
 refine oLp (λy:SnS=>[(27,iI y.i),(26,iI x.ls.length),(25,.slice x.ad x.ls.length x.c),(9,iI y.to),(8,.slice y.ad y.ls.length y.c),(3,pG H),(4,pG J),(5,pG G)]) (λy=>y.E++(.row G (mtL F)::.row J k.cells::.row H p.cells::y.K)) (λy=>y.i<=x.ls.length/\(0<=y.to/\y.to<=65535)/\y.ls.length<=y.i/\SnR y.ls y.ad y.c y.E y.K) (λy=>x.ls.length-y.i) ⟨0,0,[],none,0,[],[]⟩ ⟨Lv _,C8,M2 _,Vec.nil 19,λr h=>Da,S1.nil⟩ ?_
 rintro⟨i,to,D,ad,c,E,K⟩ ⟨hi,M,hll,Z⟩
 dsimp only at hi M hll Z⊢
 refine J2 ?_
 refine JT (λh28=>?_) λh28=>?_
 refine J10 ?_
 obtain⟨r,hr⟩:∃r,x.ls[i]?=some r:=Gx
 have hrm:=Do hr
 have hrf:=hxo.fit.fit r hrm
 have hrn:=hxo.fit.few r hrm
 have hrv:r.m.Vm:=hxo.vm r.d (Ab5 hrm)
 obtain⟨b1,o1,ea1,r1⟩:=hxA.rd (by intro hh;have:=FM x.ls;rw[hh] at this;simp at this;omega)
 refine zV ((AA (b:=b1) (off:=o1) (lo:=i) U (by show some (Value.slice x.ad _ _)=_;rw[ea1]) U underlying54 BJ U W)) U ?_
 refine zV (AB (cs:=r.cells) U U Ji.h (RuL.len r) (DP (λh=>h) (Rg.seg RuL.len r1 hr))) U<|zy U CZ.h U U<|?_
 intro u hg11
 refine J1 ?_
 refine WL.as (L':=.row u r.cells::(E++(.row G (mtL F)::.row J k.cells::.row H p.cells::K))) U<|J5 ?_
 refine zV (AB U U Ad.h U (AT (g:=u) (m:=18) (new:=mtL r.m) (Gr r))) U<|zV (AB U U Ad.h U (AL (g:=G))) U<|zk CkO U (λw B=>L6 w r.m F hrf.isIn.m ht.in_)<|?_
 generalize h37:(r.m.and F).isSome=b37
 obtain⟨m,hm⟩:∃m,(r.m.and F).getD mt0=m:=⟨_,rfl⟩
 rw[hm]
 refine J3 ?_
 skip
 cases b37
 refine zy U FR.h U U<|λs hg12=>J1 ?_
 refine WL.CD (g:=s) (cs':=mtL m) (AH U)<|J19 ?_
 exact eWx [.row s (mtL m),.row u r.cells] ⟨i+1,to,D,ad,c,E,K⟩ C7 ⟨C7,M,C7,Z⟩
 refine zy U FR.h U U<|λs hg12=>J1 ?_
 refine WL.CD (g:=s) (cs':=mtL m) (AH U)<|J21 ?_
 obtain⟨N,hm'⟩:=Option.isSome_iff_exists.1 h37
 rw[hm'] at hm
 obtain rfl:N=m:=hm
 obtain⟨_,hmb⟩:=Jb hm'
 have hmo:GF N:=(by rw[hmb];exact⟨Mt.Oh hrf.isIn.m ht.in_,Mt.Oi hrf.isIn.nz ht.nz,hrv.both ht.vm⟩)
 refine J1 ?_
 refine zV (An U U DV (cellAt (v:=.slice r.ad r.acts.length r.c) (DQ r))) U<|J5 ?_
 refine oLp (λy:SnA=>[(43,iI y.j),(42,iI r.acts.length),(41,.slice r.ad r.acts.length r.c),(14,.slice y.ad y.us.length y.c),(9,iI y.to),(11,pG u),(12,pG s),(27,iI i),(26,iI x.ls.length),(25,.slice x.ad x.ls.length x.c),(8,.slice ad D.length c),(3,pG H),(4,pG J),(5,pG G)]) (λy=>y.E++(.row s (mtL N)::.row u r.cells::(E++(.row G (mtL F)::.row J k.cells::.row H p.cells::K)))) (λy=>y.j<=r.acts.length/\(0<=y.to/\y.to<=65535)/\y.us.length<=y.j/\(∀a∈y.us,a.In/\a.Nz/\a.Ok)/\Vec 10 y.ad y.us.length y.c (CJ y.us) y.E) (λy=>r.acts.length-y.j) ⟨0,to,[],none,0,[]⟩ ⟨Lv _,M,M2 _,λa h=>Da,Vec.nil 10⟩ ?_
 rintro⟨j,t1,us,aa,ac,EA⟩ ⟨hj,ht1,hul,hua,hVA⟩
 dsimp only at hj ht1 hul hua hVA⊢
 refine J2 ?_
 refine JT (λh44=>?_) λh44=>?_
 refine J10 ?_
 obtain⟨a,ha⟩:∃a,r.acts[j]?=some a:=Gx
 have hat:=hrf.three (Do ha)
 obtain⟨b2,o2,ea2,r2⟩:=(hxA.ok r hrm) Dw
 refine zV ((AA (b:=b2) (off:=o2) (lo:=j) U D8 U underlying221 BV U W)) U ?_
 refine zV (AB (cs:=acL a) U U Hw.h (CU a) (DP (λh=>h) (Rg.seg CU r2 ha))) U<|zy U DY.h U U<|?_
 intro g16 hg16
 refine J1 ?_
 refine WL.as (L':=.row g16 (acL a)::(EA++(.row s (mtL N)::.row u r.cells::(E++(.row G (mtL F)::.row J k.cells::.row H p.cells::K))))) U<|J4 ?_
 refine zV (AB U U Hw.h U (AL (g:=g16))) U<|J1 ?_
 refine zV (An U U i3o.h (cellAt (v:=iI (f:Int)) D7)) U ?_
 refine zK CkO U<|λw1 B=>(Abv w1 a f).mono ?_
 rintro e w' ⟨q,rfl,hF⟩
 refine⟨_,_,rfl,B.ext hF,?_⟩
 refine J5 ?_
 refine zV (AB U U RS.h U (AL (g:=H))) U<|J1 ?_
 refine zk CkO U (λw B=>Afo w p q) ?_
 generalize h53:decide (Vz p q)=b53
 cases b53
 refine J15 ?_
 exact Bw
 refine J1 ?_
 refine zS (AB U U Mi.h U (AL (g:=J))) U<|J1 ?_
 refine zk CkO U (λw B=>AhC w k q) ?_
 generalize h57:decide (Lz k q)=b57
 cases b57
 refine J11 ?_
 exact Bw
 refine J6 ?_
 obtain⟨pn,rfl⟩:∃pn:Nat,q=pn:=⟨q.toNat,by have:=(Ai8 h53).1;omega⟩
 have hpn:pn<16:=(by have:=(Ai8 h53).2;omega)
 have hpw:=Zi hpn
 have hor:=Zd ht1 hpw
 refine J1 ?_
 refine zV (AB U U Hw.h U (AL (g:=g16))) U<|zB underlying221 BV DY.h (by show some (AK (List.replicate 1 _).flatten 0 (acL a))=some (acL a);exact If some (AH U)) U ?_
 intro g61 hg61
 refine WL.to (L':=EA++(.row g61 (acL a)::(.row s (mtL N)::.row u r.cells::(E++(.row G (mtL F)::.row J k.cells::.row H p.cells::K))))) (λw B=>B.AN [.row g16 (acL a)])<|WL.AU U U U underlying221 underlying221 BV Lc DY.h U U hVA (new:=acL a) (λ_=>⟨g61,0,rfl,λw B=>AL (g:=g61) w B⟩) (CU a) (BD La a) W (.none U) U U<|λad62 c62 E62 hV62 hr62=>J6 ?_
 refine zV (ND (m:=pn) (c:=(2:Int)^pn) U U U U (by show pn<=64;omega) U ((If _ (Int.one_mul _)).trans (DK W W))) U ?_
 refine zV (S9 U U U (Im ht1.1 W hpw.1 W)) U<|J8 ?_
 exact WE.to (L':=E62++(.row s (mtL N)::.row u r.cells::(E++(.row G (mtL F)::.row J k.cells::.row H p.cells::K)))) (λw B=>B.AN [.row g61 (acL a)]) (eW ⟨j+1,orN t1 ((2:Int)^pn),us++[a],ad62,c62,E62⟩ C7 ⟨C7,hor,by dsimp only;rw[AC,AbJ];omega,λy hy=>by
 rcases LI.1 hy with hy|hy
 .exact hua y hy
 .rw [Es.1 hy];exact hat,by dsimp only;rw[AC,show CJ (us++[a])=CJ us++acL a from AX _ _ _];exact hV62⟩ (.int U C7 (.cons U (.cons U (.eq U Dc (.cons U (.cons U (.cons U (.cons U (.cons U (.cons U (.cons U (.cons U (.cons U (.cons U .nil)))))))))))))))
 refine J9 ?_
 refine WC.cut (λy:SnA=>[(14,.slice y.ad y.us.length y.c),(9,iI y.to),(11,pG u),(12,pG s),(27,iI i),(26,iI x.ls.length),(25,.slice x.ad x.ls.length x.c),(8,.slice ad D.length c),(3,pG H),(4,pG J),(5,pG G)]) (λy=>E++(.row s (mtL N)::(y.E++(.row u r.cells::.row G (mtL F)::.row J k.cells::.row H p.cells::K)))) (λy=>(0<=y.to/\y.to<=65535)/\y.us.length<=64/\(∀a∈y.us,a.In/\a.Nz/\a.Ok)/\Vec 10 y.ad y.us.length y.c (CJ y.us) y.E) ?_ ?_
 refine J4 ?_
 refine JT (λh70=>?_) λh70=>?_
 refine J6 ?_
 refine zV (An U U i3o.h (cellAt (v:=iI (b:Int)) Fb)) U ?_
 refine zV (FA U U underlying23 underlying3 (LU W W)) U<|zk CkO U (λw B=>AcI w 0 C8 b W W (hG.BI (λh=>h) B))<|J3 ?_
 refine zy U DY.h U U<|λg18 hg18=>J1 ?_
 refine WL.CD (g:=g18) (cs':=acL (Ac.one 0 b)) (AH U) ?_
 have hone:=NK (k:=0) C8 (v:=(b:Int)) W W
 have hpb:=Zi hb2
 have hob:=Zd ht1 hpb
 obtain⟨R,hobe⟩:∃R,R=Ac.one 0 (b:Int):=⟨_,rfl⟩
 rw[<- hobe] at hone ⊢
 refine J6 ?_
 refine zV (AB U U Hw.h U (AL (g:=g18))) U<|zB underlying221 BV DY.h (by show some (AK (List.replicate 1 _).flatten 0 (acL R))=some (acL R);exact If some (AH U)) U ?_
 intro g80 hg80
 refine WL.to (L':=EA++(.row g80 (acL R)::(.row s (mtL N)::.row u r.cells::(E++(.row G (mtL F)::.row J k.cells::.row H p.cells::K))))) (λw B=>B.AN [.row g18 (acL R)])<|WL.AU U U U underlying221 underlying221 BV Lc DY.h U U hVA (new:=acL R) (λ_=>⟨g80,0,rfl,λw B=>AL (g:=g80) w B⟩) (CU R) (BD La R) W (.none U) U U<|λad81 c81 E81 hV81 hr81=>J6 ?_
 refine zV (An U U i3o.h (cellAt (v:=iI (b:Int)) Fb)) U ?_
 refine zV (ND (m:=b) (c:=(2:Int)^b) U U U U (by show b<=64;omega) U ((If _ (Int.one_mul _)).trans (DK W W))) U ?_
 refine zV (S9 U U U (Im ht1.1 W hpb.1 W)) U<|J2 ?_
 exact WE.to (L':=E++(.row s (mtL N)::(E81++(.row u r.cells::.row G (mtL F)::.row J k.cells::.row H p.cells::K)))) (λw B=>B.AN [.row g80 (acL R)]) (eM ⟨0,orN t1 ((2:Int)^b),us++[R],ad81,c81,E81⟩ ⟨hob,by dsimp only;rw[AC,AbJ];omega,λy hy=>by
 rcases LI.1 hy with hy|hy
 .exact hua y hy
 .rw [Es.1 hy];exact hone,by dsimp only;rw[AC,show CJ (us++[R])=CJ us++acL R from AX _ _ _];exact hV81⟩ (.eq U Dc (.cons U (.cons U (.cons U (.cons U (.cons U (.cons U (.cons U (.cons U (.cons U (.cons U .nil))))))))))))
 refine J4 ?_
 exact eMx [] ⟨0,t1,us,aa,ac,EA⟩ ⟨ht1,C7,hua,hVA⟩
 rintro⟨_,t2,vs,va,vc,EV⟩ ⟨ht2,hvl,hva,hVV⟩
 dsimp only at ht2 hvl hva hVV⊢
 obtain⟨nr,hnr⟩:∃nr:RuL,nr=⟨N,va,vc,vs⟩:=⟨_,rfl⟩
 have hnO:DE (EV++K) nr:=(by rw[hnr];exact⟨EV,hVV,λe he=>Ha _ he⟩)
 have hR2:S1 (D++[nr]):=(by rw[hnr];exact Z.ok.snoc (Vy hmo.in_ hmo.nz hva) hvl hmo.vm)
 have hK2:∀r∈D++[nr],DE (EV++K) r:=Mw Z.own hnO λe he=>Mu _ he
 obtain⟨b95,hbe⟩:∃c:Bool,c=true<->mtL N=mtL F:=⟨@decide _ (Classical.propDecidable _),@Aim _ (Classical.propDecidable _)⟩
 refine J3 ?_
 refine zV (AB U U Ad.h U (AL (g:=s))) U<|J1 ?_
 refine zV ((GC U U CZ.h W5.h U).eq (v:=aA nr.cells) (by rw[hnr];rfl)) U ?_
 refine zB underlying54 BJ CZ.h Dp U ?_
 intro X hg91
 refine WL.to (L':=E++(.row X nr.cells::(.row s (mtL N)::(EV++(.row u r.cells::.row G (mtL F)::.row J k.cells::.row H p.cells::K))))) (λw B=>B.AJ)<|WL.AU U U U underlying54 underlying54 BJ NN CZ.h U U Z.V (new:=nr.cells) (λ_=>⟨X,0,rfl,λw B=>AL (g:=X) w B⟩) (RuL.len nr) (BD Nn nr) W (.none U) U U<|λT c92 S hV92 hr92=>?_
 have hV2:Vec 19 T (D++[nr]).length c92 (BB (D++[nr])) S:=(by rw[AC,show BB (D++[nr])=BB D++nr.cells from AX _ _ _];exact hV92)
 refine J5 ?_
 refine zV (AB U U Ad.h U (AL (g:=s))) U<|zV (AB U U Ad.h U (AL (g:=G))) U<|zV (GN (b:=b95) U U U UU US U U hbe) U<|?_
 cases b95
 refine J10 ?_
 exact WE.to (L':=S++(.row G (mtL F)::.row J k.cells::.row H p.cells::(EV++K))) (λw B=>B.AN [.row X nr.cells,.row s (mtL N),.row u r.cells]) (eW ⟨i+1,t2,D++[nr],T,c92,S,EV++K⟩ C7 ⟨C7,ht2,by dsimp only;rw[AC,AbJ];omega,hV2,hK2,hR2⟩ (.int U C7 (.cons U (.cons U (.cons U (.eq U Dc (.cons U (.cons U (.cons U .nil)))))))))
 refine J4 ?_
 refine WE.FI U<|J3 ?_
 exact WE.to (L':=S++(EV++K)) (λw B=>B.AN [.row X nr.cells,.row s (mtL N),.row u r.cells,.row G (mtL F),.row J k.cells,.row H p.cells]) (eM ⟨0,t2,D++[nr],T,c92,S,EV++K⟩ ⟨ht2,by dsimp only;rw[AC,AbJ];omega,hV2,hK2,hR2⟩ (.cons U (.eq U Dc .nil)))
 refine J8 ?_
 exact eMx [.row G (mtL F),.row J k.cells,.row H p.cells] ⟨0,to,D,ad,c,E,K⟩ ⟨M,C7,Z⟩
 rintro⟨_,to,D,ad,c,E,K⟩ ⟨M,hll,Z⟩
 dsimp only at M hll Z⊢
 obtain⟨O,hnz⟩:∃nr:RuL,nr=⟨mt0,none,0,[]⟩:=⟨_,rfl⟩
 have hnO:DE K O:=(by rw[hnz];exact⟨[],Vec.nil 10,λe he=>Fy⟩)
 refine J3 ?_
 refine zV ((GC U U CZ.h W5.h U).eq (v:=aA O.cells) (by rw[hnz];rfl)) U ?_
 refine zB underlying54 BJ CZ.h (by show some (AK (List.replicate 1 _).flatten 0 O.cells)=some O.cells;exact If some (AH (RuL.len O))) U ?_
 intro g99 hg99
 refine WL.to (L':=E++(.row g99 O.cells::K)) (λw B=>B.AJ)<|WL.AU U U U underlying54 underlying54 BJ NN CZ.h U U Z.V (new:=O.cells) (λ_=>⟨g99,0,rfl,λw B=>AL (g:=g99) w B⟩) (RuL.len O) (BD Nn O) W (.none U) U U<|λad100 c100 E100 hV100 hr100=>J6 ?_
 refine eT2 ?_
 exact λw' h=>⟨to,D++[O],ad100,c100,E100,K,by rw[AC];rfl,M,⟨by rw[AC,show BB (D++[O])=BB D++O.cells from AX _ _ _];exact hV100,Mw Z.own hnO λe he=>he,by rw[hnz];exact Z.ok.snoc (Yf none 0) (Lv _) Mt.Vm.zero⟩,by rw[AC,AbJ];omega,h.AN [.row g99 O.cells]⟩

theorem Acv(w:Wd)(p:PlN)(xs ys:List RlL)(to:Int)(hp:Uz p xs ys)(hA:LV w p.ya ys)(hZ:Rg w p.za (G3 p.AY))(hB:∀f∈p.AY,Byt f)(hG:GW w):
 Cl 260 #[aA p.cells,iI to] w λe w'=>∃(F:List RuL) (ad:Option Addr) (c:Nat) (E K:eL),e=.returned (.slice ad F.length c)/\SnR F ad c E K/\F.length<=10000000000/\St Fx w w' (E++K):=by
 have hpy:=hp.y.1
 have hpy2:=hp.y.2
 have hz:=hp.z
 have hn16:=hp.n.2
 have hbi:BG 0=255:=C8
 have hb2:BG 2=281474976710655:=C8
 refine en0 func260 U ntmps260 U<|J2 ?_
 refine zx U U U U U<|λG hg2=>J12 ?_
 refine zV (An U U i72o.h (cellAt (v:=.slice p.ya p.yn p.yc) U)) U<|J5 ?_
 refine oLp (λq:SnS=>[(22,iI q.i),(5,.slice q.ad q.ls.length q.c),(21,iI p.yn),(20,.slice p.ya p.yn p.yc),(1,iI to),(2,pG G)]) (λq=>q.E++(.row G p.cells::q.K)) (λq=>q.i<=p.yn/\(q.ls.length:Int)<=100000000*(q.i:Int)/\SnR q.ls q.ad q.c q.E q.K) (λq=>p.yn-q.i) ⟨0,0,[],none,0,[],[]⟩ ⟨Lv _,by dsimp only;decide,Vec.nil 19,λr h=>Da,S1.nil⟩ ?_
 rintro⟨i,_,F,ad,c,E,K⟩ ⟨hi,hll,J⟩
 dsimp only at hi hll J⊢
 refine J2 ?_
 refine JT (λh23=>?_) λh23=>?_
 refine J11 ?_
 obtain⟨y,hy⟩:∃y,ys[i]?=some y:=Gx
 obtain⟨fm,hfm⟩:∃f,p.AY[i]?=some f:=Gx
 have hym:=Do hy
 have ak:=hp.yo y hym
 have hyA:=hA.at_ y hym
 have hyl:=ak.few
 obtain⟨b0,o0,ea0,r0⟩:=hA.rd (by intro hh;have h1:=AP RlL.len ys;rw[hh] at h1;have h1:0=ys.length*1:=h1;omega)
 have r0c:w.cell? ⟨b0,o0+i,none⟩=some (.slice y.ad y.ls.length y.c):=(by
  have:=Rg.seg RlL.len r0 hy 0 _ U
  rwa [Aed] at this)
 obtain⟨b3,o3,ea3,r3⟩:=hZ (by intro hh;have h1:=PA p.AY;rw[hh] at h1;have h1:0=p.AY.length*6:=h1;omega)
 refine zV ((AA (b:=b0) (off:=o0) (lo:=i) U (by show some (Value.slice p.ya _ _)=_;rw[ea0]) U underlying72 Qo U W)) U ?_
 refine zV (An U U S4.h (BY (λh=>h) (by rw[Aed];exact r0c))) U ?_
 refine J9 ?_
 refine zV (IP (m:=i) (c:=(2:Int)^i) U U U U (by show i<=64;omega) U) U ?_
 refine zV (HX U U U (Hy (i:=1) (m:=2) C8 C8 C8)) U<|JT (λh31=>?_) (λh31=>?_)
 refine J11 ?_
 exact eW ⟨i+1,0,F,ad,c,E,K⟩ C7 ⟨C7,C7,J⟩
 refine J8 ?_
 refine zV (FA U U underlying23 underlying3 (LU W W)) U<|zk CkO U (λw u=>N4 w 0 C8 i ⟨W,W⟩ (KH W W) (hG.BI (λh=>h) u))<|J3 ?_
 refine zy U FR.h U U<|λH hg8=>J1 ?_
 refine WL.CD (g:=H) (cs':=mtL (Mt.one 0 i (BG 0))) (AH U) ?_
 have X:GF (Mt.one 0 (i:Int) (BG 0)):=Ks C8 W W
 obtain⟨he,hhe⟩:∃m,Mt.one 0 (i:Int) (BG 0)=m:=⟨_,rfl⟩
 rw[hhe] at X ⊢
 have hnum:=AbA (hB fm (Do hfm)) (k:=6) (M2 _)
 refine J6 ?_
 refine zV (An U U i49o.h (cellAt (v:=.slice p.za p.zn p.zc) U)) U<|J1 ?_
 refine zV ((AA (b:=b3) (off:=o3) (lo:=i) U (by show some (Value.slice p.za _ _)=_;rw[ea3]) U underlying49 Abo U W)) U ?_
 refine zV (AB (cs:=mcL fm) U U i93m.h (Vd fm) (DP (λh=>h) (Rg.seg Vd r3 hfm))) U<|zk CkO U (λw u=>Num_c w fm (hB fm (Do hfm)))<|?_
 refine zk CkO U (λw u=>AcI w 2 C8 (Ms fm 6) hnum.1 W (hG.BI (λh=>h) u))<|J3 ?_
 refine zy U DY.h U U<|λs hg10=>J1 ?_
 refine WL.CD (g:=s) (cs':=acL (Ac.one 2 (Ms fm 6))) (AH U) ?_
 have M:=NK (k:=2) C8 hnum.1 W
 obtain⟨R,hmie⟩:∃m,Ac.one 2 (Ms fm 6)=m:=⟨_,rfl⟩
 rw[hmie] at M ⊢
 refine WL.to (L':=E++(.row s (acL R)::.row H (mtL he)::.row G p.cells::K)) (λw u=>u.AJ)<|J11 ?_
 refine oLp (λq:SnS=>[(50,iI q.i),(5,.slice q.ad q.ls.length q.c),(49,iI y.ls.length),(48,.slice y.ad y.ls.length y.c),(6,iI i),(8,pG H),(10,pG s),(22,iI i),(21,iI p.yn),(20,.slice p.ya p.yn p.yc),(1,iI to),(2,pG G)]) (λq=>q.E++(.row s (acL R)::.row H (mtL he)::.row G p.cells::q.K)) (λq=>q.i<=y.ls.length/\(q.ls.length:Int)<=100000000*(i:Int)+(q.i:Int)/\SnR q.ls q.ad q.c q.E q.K) (λq=>y.ls.length-q.i) ⟨0,0,F,ad,c,E,K⟩ ⟨Lv _,C7,J⟩ ?_
 rintro⟨j,_,F,ad,c,E,K⟩ ⟨hj,hll,J⟩
 dsimp only at hj hll J⊢
 refine J2 ?_
 refine JT (λh51=>?_) λh51=>?_
 refine J10 ?_
 obtain⟨r,hr⟩:∃r,y.ls[j]?=some r:=Gx
 have ai:=Do hr
 have ah:=ak.fit.fit r ai
 have hrn:=ak.fit.few r ai
 have hrv:r.m.Vm:=ak.vm r.d (Ab5 ai)
 obtain⟨b1,o1,ea1,r1⟩:=hyA.rd (by intro hh;have:=FM y.ls;rw[hh] at this;simp at this;omega)
 refine zV ((AA (b:=b1) (off:=o1) (lo:=j) U (by show some (Value.slice y.ad _ _)=_;rw[ea1]) U underlying54 BJ U W)) U ?_
 refine zV (AB (cs:=r.cells) U U Ji.h (RuL.len r) (DP (λh=>h) (Rg.seg RuL.len r1 hr))) U<|zy U CZ.h U U<|?_
 intro D hg13
 refine J1 ?_
 refine WL.as (L':=.row D r.cells::(E++(.row s (acL R)::.row H (mtL he)::.row G p.cells::K))) U<|J5 ?_
 refine zV (AB U U Ad.h U (AT (g:=D) (m:=18) (new:=mtL r.m) (Gr r))) U<|zV (AB U U Ad.h U (AL (g:=H))) U<|zk CkO U (λw u=>L6 w r.m he ah.isIn.m X.in_)<|?_
 generalize h60:(r.m.and he).isSome=b60
 obtain⟨m,hm⟩:∃m,(r.m.and he).getD mt0=m:=⟨_,rfl⟩
 rw[hm]
 refine J3 ?_
 skip
 cases b60
 refine zy U FR.h U U<|λB hg14=>J1 ?_
 refine WL.CD (g:=B) (cs':=mtL m) (AH U)<|J19 ?_
 exact eWx [.row B (mtL m),.row D r.cells] ⟨j+1,0,F,ad,c,E,K⟩ C7 ⟨C7,C7,J⟩
 refine zy U FR.h U U<|λB hg14=>J1 ?_
 refine WL.CD (g:=B) (cs':=mtL m) (AH U)<|J21 ?_
 obtain⟨m',hm'⟩:=Option.isSome_iff_exists.1 h60
 rw[hm'] at hm
 obtain rfl:m'=m:=hm
 obtain⟨_,hmb⟩:=Jb hm'
 have hmo:GF m':=(by rw[hmb];exact⟨Mt.Oh ah.isIn.m X.in_,Mt.Oi ah.isIn.nz X.nz,hrv.both X.vm⟩)
 refine J1 ?_
 refine zV (An U U DV (cellAt (v:=.slice r.ad r.acts.length r.c) (DQ r))) U<|J5 ?_
 refine oLp (λq:SnA=>[(66,iI q.j),(16,.slice q.ad q.us.length q.c),(65,iI r.acts.length),(64,.slice r.ad r.acts.length r.c),(14,pG B),(5,.slice ad F.length c),(50,iI j),(49,iI y.ls.length),(48,.slice y.ad y.ls.length y.c),(6,iI i),(8,pG H),(10,pG s),(22,iI i),(21,iI p.yn),(20,.slice p.ya p.yn p.yc),(1,iI to),(2,pG G)]) (λq=>q.E++(.row B (mtL m')::.row D r.cells::(E++(.row s (acL R)::.row H (mtL he)::.row G p.cells::K)))) (λq=>q.j<=r.acts.length/\q.us.length<=q.j/\(∀a∈q.us,a.In/\a.Nz/\a.Ok)/\Vec 10 q.ad q.us.length q.c (CJ q.us) q.E) (λq=>r.acts.length-q.j) ⟨0,0,[],none,0,[]⟩ ⟨Lv _,M2 _,λa h=>Da,Vec.nil 10⟩ ?_
 rintro⟨k,_,us,aa,ac,Z⟩ ⟨hk,hul,aj,ag⟩
 dsimp only at hk hul aj ag⊢
 refine J2 ?_
 refine JT (λh67=>?_) λh67=>?_
 refine J10 ?_
 obtain⟨a,ha⟩:∃a,r.acts[k]?=some a:=Gx
 have T:=ah.three (Do ha)
 obtain⟨b2,o2,ea2,r2⟩:=(hyA.ok r ai) Dw
 refine zV ((AA (b:=b2) (off:=o2) (lo:=k) U D8 U underlying221 BV U W)) U ?_
 refine zV (AB (cs:=acL a) U U Hw.h (CU a) (DP (λh=>h) (Rg.seg CU r2 ha))) U<|zy U DY.h U U<|?_
 intro S hg18
 refine J1 ?_
 refine WL.as (L':=.row S (acL a)::(Z++(.row B (mtL m')::.row D r.cells::(E++(.row s (acL R)::.row H (mtL he)::.row G p.cells::K))))) U<|J4 ?_
 refine zV (AB U U Hw.h U (AL (g:=S))) U<|J1 ?_
 refine zK CkO U<|λw1 u=>(Abv w1 a i).mono ?_
 rintro e w' ⟨q,rfl,hF⟩
 refine⟨_,_,rfl,u.ext hF,?_⟩
 refine J1 ?_
 refine JT (λh74=>?_) λh74=>?_
 refine J5 ?_
 refine zV (AB U U Hw.h U (AL (g:=S))) U<|zV (AB U U Hw.h U (AL (g:=s))) U<|zk CkO U (λw u=>Adl w a R T.2.2 M.2.2)<|?_
 obtain⟨O,hob⟩:∃m,a.then R=m:=⟨_,rfl⟩
 have hone:O.In/\O.Nz/\O.Ok:=(by rw[<- hob];exact⟨Ac.AfT T.1 M.1 T.2.2 M.2.2,Ac.AfU T.2.1 M.2.1,Ac.ZA T.2.2 M.2.2⟩)
 rw[hob]
 refine zB underlying221 BV DY.h (by show some (AK (List.replicate 1 _).flatten 0 (acL O))=some (acL O);exact If some (AH U)) U ?_
 intro ab hg79
 refine WL.to (L':=Z++(.row ab (acL O)::.row B (mtL m')::.row D r.cells::(E++(.row s (acL R)::.row H (mtL he)::.row G p.cells::K)))) (λw u=>u.AN [.row S (acL a)])<|WL.AU U U U underlying221 underlying221 BV Lc DY.h U U ag (new:=acL O) (λ_=>⟨ab,0,rfl,λw u=>AL (g:=ab) w u⟩) (CU O) (BD La O) W (.none U) U U<|λad80 c80 E80 hV80 hr80=>J8 ?_
 exact WE.to (L':=E80++(.row B (mtL m')::.row D r.cells::(E++(.row s (acL R)::.row H (mtL he)::.row G p.cells::K)))) (λw u=>u.AN [.row ab (acL O)]) (eW ⟨k+1,0,us++[O],ad80,c80,E80⟩ C7 ⟨C7,by dsimp only;rw[AC,AbJ];omega,λz hz=>by
 rcases LI.1 hz with hz|hz
 .exact aj z hz
 .rw [Es.1 hz];exact hone,by dsimp only;rw[AC,show CJ (us++[O])=CJ us++acL O from AX _ _ _];exact hV80⟩ (.int U C7 (.eq U Dc (.cons U (.cons U (.cons U (.cons U (.cons U (.cons U (.cons U (.cons U (.cons U (.cons U (.cons U (.cons U (.cons U (.cons U (.cons U .nil))))))))))))))))))
 refine J10 ?_
 exact eWx [.row S (acL a)] ⟨k+1,0,us,aa,ac,Z⟩ C7 ⟨C7,C7,aj,ag⟩
 refine J11 ?_
 obtain⟨nr,hnr⟩:∃nr:RuL,nr=⟨m',aa,ac,us⟩:=⟨_,rfl⟩
 have hnO:DE (Z++K) nr:=(by rw[hnr];exact⟨Z,ag,λe he=>Ha _ he⟩)
 have hR2:S1 (F++[nr]):=(by rw[hnr];exact J.ok.snoc (Vy hmo.in_ hmo.nz aj) (C7) hmo.vm)
 have hK2:∀r∈F++[nr],DE (Z++K) r:=Mw J.own hnO λe he=>Mu _ he
 refine zV (AB U U Ad.h U (AL (g:=B))) U<|J1 ?_
 refine zV ((GC U U CZ.h W5.h U).eq (v:=aA nr.cells) (by rw[hnr];rfl)) U ?_
 refine zB underlying54 BJ CZ.h Dp U ?_
 intro ae hg86
 refine WL.to (L':=E++(.row ae nr.cells::(Z++(.row B (mtL m')::.row D r.cells::(.row s (acL R)::.row H (mtL he)::.row G p.cells::K))))) (λw u=>u.AJ)<|WL.AU U U U underlying54 underlying54 BJ NN CZ.h U U J.V (new:=nr.cells) (λ_=>⟨ae,0,rfl,λw u=>AL (g:=ae) w u⟩) (RuL.len nr) (BD Nn nr) W (.none U) U U<|λad87 c87 E87 hV87 hr87=>J8 ?_
 exact WE.to (L':=E87++(.row s (acL R)::.row H (mtL he)::.row G p.cells::(Z++K))) (λw u=>u.AN [.row ae nr.cells,.row B (mtL m'),.row D r.cells]) (eW ⟨j+1,0,F++[nr],ad87,c87,E87,Z++K⟩ C7 ⟨C7,by dsimp only;rw[AC,AbJ];omega,by dsimp only;rw[AC,show BB (F++[nr])=BB F++nr.cells from AX _ _ _];exact hV87,hK2,hR2⟩ (.int U C7 (.eq U Dc (.cons U (.cons U (.cons U (.cons U (.cons U (.cons U (.cons U (.cons U (.cons U (.cons U .nil)))))))))))))
 refine J14 ?_
 exact eWx [.row s (acL R),.row H (mtL he)] ⟨i+1,0,F,ad,c,E,K⟩ C7 ⟨C7,C7,J⟩
 refine J12 ?_
 obtain⟨N,hnz⟩:∃nr:RuL,nr=⟨mt0,none,0,[]⟩:=⟨_,rfl⟩
 have hnO:DE K N:=(by rw[hnz];exact⟨[],Vec.nil 10,λe he=>Fy⟩)
 refine zV ((GC U U CZ.h W5.h U).eq (v:=aA N.cells) (by rw[hnz];rfl)) U ?_
 refine zB underlying54 BJ CZ.h (by show some (AK (List.replicate 1 _).flatten 0 N.cells)=some N.cells;exact If some (AH (RuL.len N))) U ?_
 intro af hg92
 refine WL.to (L':=E++(.row af N.cells::(.row G p.cells::K))) (λw u=>u.AJ)<|WL.AU U U U underlying54 underlying54 BJ NN CZ.h U U J.V (new:=N.cells) (λ_=>⟨af,0,rfl,λw u=>AL (g:=af) w u⟩) (RuL.len N) (BD Nn N) W (.none U) U U<|λad93 c93 E93 hV93 hr93=>J4 ?_
 refine eT1 ?_
 exact λw' h=>⟨F++[N],ad93,c93,E93,K,by rw[AC];rfl,⟨by rw[AC,show BB (F++[N])=BB F++N.cells from AX _ _ _];exact hV93,Mw J.own hnO λe he=>he,by rw[hnz];exact J.ok.snoc (Yf none 0) (Lv _) Mt.Vm.zero⟩,by rw[AC,AbJ];omega,h.AN [.row af N.cells,.row G p.cells]⟩
end Gq
end Go.Proofs.YtmhahajadgkolaaGreatDoor
namespace Go.Proofs.YtmhahajadgkolaaGreatDoor
open Go.RowKit Go.Sort Tryz
variable{B D:Nat}{E:Sv}{F M:Mb}{G:Int}{H:PfL}{J S:EnD}{N:List EnD}{O R:Mt}{T:Ent->List Ent}
section Gq
attribute [local irreducible] WL WC WE WQ WP WH WR WM WRH

abbrev lsE(g:Nat)(R:vL)(a:List EnL):Ent:=.row g (DA a++R)
abbrev NW:Vl:=.func (.func 188) #[] #[]
theorem SC{a:List EnL}{x y:EnL}(g:a[B]?=some x)(h:a[D]?=some y):((a.set B y).set D x).Perm a:=by
 obtain⟨e,b⟩:=Eu.1 g
 obtain⟨f,c⟩:=Eu.1 h
 subst b c
 exact List.set_set_perm e f
theorem CA{r:Nat}(h:G=r)(a:r<=1000000):IntKind.i64.wrap G=(r:Int):=by
 rw[h];exact DK W W
theorem VN{r:Nat}(h:G=r)(a:r<=1000000):IntKind.u64.wrap G=(r:Int):=by
 rw[h,IntKind.wrap_u64];omega
structure LsS where
 i:Nat
 ys:List EnL
structure LsT where
 i:Nat
 j:Nat
 ys:List EnL
def LsP(p:Nat->Prop)(w0 b:Wd)(g:Nat)(R:vL)(c:List EnL)(L:eL)(e:Ending):Prop:=e=.returned (.tuple #[])/\∃a,a.Perm c/\St p w0 b (lsE g R a::L)
theorem VE(p:Nat->Prop)(w0 w:Wd)(L:eL)(g c N:Nat)(R:vL)(j:List EnL)(a b n:Nat)(B:a+n<=b)(D:b+n<=N)(v:j.length=N)(E:N<=100000)(s:St p w0 w (lsE g R j::L)):
 Cl 370 #[.slice (aG g) N c,iI a,iI b,iI n,NW] w λe r=>LsP p w0 r g R j L e:=by
 refine enter func370 U ntmps370 U s<|J6 ?_
 refine oLp (λx:LsS=>[(10,iI x.i),(0,.slice (aG g) N c),(1,iI a),(2,iI b),(3,iI n)]) (λx=>lsE g R x.ys::L) (λx=>x.i<=n/\x.ys.Perm j) (λx=>n-x.i) ⟨0,j⟩ ⟨Lv _,.refl _⟩ ?_
 rintro⟨i,f⟩ ⟨u,k⟩
 dsimp only at u k⊢
 have z:f.length=N:=k.length_eq.trans v
 refine J5 ?_
 refine JT (λq=>?_) λq=>?_
 refine J7 ?_
 refine WC.AS mixed<|rF 6 [0,1,2,3,4,5,6,7,8,9,10,11,12,14,15,16,17,18]<|?_
 refine J12 ?_
 obtain⟨y,hy⟩:∃y,f[b+i]?=some y:=Gx
 obtain⟨x,hx1⟩:∃x,f[a+i]?=some x:=Gx
 refine pV (AA (lo:=b+i) U U U underlying231 BC W W) U<|J4 ?_
 refine pV (AA (lo:=a+i) U U U underlying231 BC W W) U<|J1 ?_
 refine rA 3 [13,19,20] U<|qV (AB (cs:=y.cells) U U FV.h (EnL.len _) (AT (m:=21) Dt)) U ?_
 refine qV (AB (cs:=x.cells) U U FV.h (EnL.len _) (AT (m:=21) Fe)) U ?_
 refine qV (AA (lo:=a+i) U U U underlying231 BC W W) U<|J1 ?_
 refine rO 2 [21]<|WL.FN U U U U FV.h U Fk (.none U) U ?_
 refine WL.as (L':=lsE g R (f.set (a+i) y)::L) Ef ?_
 refine J1 ?_
 refine rF 1 [22]<|pV (AA (lo:=b+i) U U U underlying231 BC W W) U<|J1 ?_
 refine rO 0 [23]<|WL.FN U U U U FV.h U Ee (.none U) U ?_
 refine J9 ?_
 exact WE.next ⟨i+1,(f.set (a+i) y).set (b+i) x⟩ C7 ⟨C7,(SC hx1 hy).trans k⟩ (.int U C7 (.cons U (.cons U (.cons U (.cons U .nil))))) D1
 refine J7 ?_
 refine WE.LC (P:=prog) (.inr U) results370  ?_
 exact λr h=>⟨rfl,f,k,h⟩
theorem rotP_c(p:Nat->Prop)(w0 w:Wd)(L:eL)(g c N:Nat)(R:vL)(D:List EnL)(a m b:Nat)(T:a<m)(X:m<b)(Z:b<=N)(S:D.length=N)(J:N<=100000)(k:St p w0 w (lsE g R D::L)):
 Cl 358 #[.slice (aG g) N c,iI a,iI m,iI b,NW] w λe z=>LsP p w0 z g R D L e:=by
 refine enter func358 U ntmps358 U k<|J4 ?_
 refine zV (GD U U U (CA (r:=m-a) W W)) U<|J7 ?_
 refine zV (GD U U U (CA (r:=b-m) W W)) U<|J5 ?_
 refine oLp (λx:LsT=>[(10,iI x.i),(11,iI x.j),(0,.slice (aG g) N c),(2,iI m),(4,NW)]) (λx=>lsE g R x.ys::L) (λx=>1<=x.i/\1<=x.j/\a+x.i<=m/\m+x.j<=b/\x.ys.Perm D) (λx=>x.i+x.j) ⟨m-a,b-m,D⟩ ⟨C7,C7,C7,C7,.refl _⟩ ?_
 rintro⟨i,j,F⟩ ⟨M,O,s,u,v⟩
 dsimp only at M O s u v⊢
 have q:F.length=N:=v.length_eq.trans S
 refine J5 ?_
 refine JT (λG=>?_) λG=>?_
 refine J10 ?_
 refine JT (λH=>?_) λH=>?_
 refine J8 ?_
 refine zV (GD U U U (CA (r:=m-i) W W)) U<|J3 ?_
 refine zK CkO U<|λB k=>(VE p w0 B L g c N R F (m-i) m j W W q J k).mono ?_
 rintro e z ⟨rfl,E,y,f⟩
 refine⟨_,_,rfl,f,?_⟩
 refine J5 ?_
 refine zV (GD U U U (CA (r:=i-j) W W)) U<|J3 ?_
 exact eW ⟨i-j,j,E⟩ C7 ⟨C7,O,C7,u,y.trans v⟩
 refine J8 ?_
 refine zV (GD U U U (CA (r:=m-i) W W)) U<|J2 ?_
 refine zV (EW U U U (CA (r:=m+j) W W)) U<|J1 ?_
 refine zV (GD U U U (CA (r:=m+j-i) W W)) U<|J2 ?_
 refine zK CkO U<|λB k=>(VE p w0 B L g c N R F (m-i) (m+j-i) i W W q J k).mono ?_
 rintro e z ⟨rfl,E,y,f⟩
 refine⟨_,_,rfl,f,?_⟩
 refine J5 ?_
 refine zV (GD U U U (CA (r:=j-i) W W)) U<|J3 ?_
 exact eW ⟨i,j-i,E⟩ C7 ⟨M,C7,s,C7,y.trans v⟩
 refine J12 ?_
 refine zV (GD U U U (CA (r:=m-i) W W)) U<|J3 ?_
 refine zK CkO U<|λB k=>?_
 obtain rfl:i=j:=W
 refine(VE p w0 B L g c N R F (m-i) m i W W q J k).mono ?_
 rintro e z ⟨rfl,E,y,f⟩
 refine⟨_,_,rfl,f,?_⟩
 refine J1 ?_
 refine WE.LC (P:=prog) (.inr U) results358  ?_
 exact λz h=>⟨rfl,E,y.trans v,h⟩
structure SpS where
 s:Nat
 r:Nat
theorem VF(g c N:Nat)(R:vL)(hN:N<=100000)(p:Nat->Prop)(w0:Wd)(L:eL):∀(S:Nat) (w:Wd) (q:List EnL) (a m b:Nat),b-a<=S->a<m->m<b->b<=N->q.length=N->St p w0 w (lsE g R q::L) ->
 Cl 328 #[.slice (aG g) N c,iI a,iI m,iI b,NW] w λe w'=>LsP p w0 w' g R q L e
 | 0=>λw q a m b h h1 h2=>by omega
 | S+1=>by
  intro w q a m b hSz h1 h2 hb hx v
  obtain⟨f,hmid⟩:∃x,x=(a+b) / 2:=⟨_,rfl⟩
  have J:∀k,k<N->∃x,q[k]?=some x:=λk hk=>Gx
  refine enter func328 U ntmps328 U v<|J6 ?_
  refine JT (λh28=>?_) λh28=>?_
  refine J17 ?_
  refine oLp (λx:SpS=>[(10,iI x.s),(11,iI x.r),(0,.slice (aG g) N c),(1,iI a),(4,NW)]) (λ_=>lsE g R q::L) (λx=>m<=x.s/\x.s<=x.r/\x.r<=b) (λx=>x.r-x.s) ⟨m,b⟩ ⟨M2 _,C7,M2 _⟩ ?_
  rintro⟨i,j⟩ ⟨ag,hi2,ah⟩
  dsimp only at ag hi2 ah⊢
  obtain⟨h,hh⟩:∃x,x=(i+j) / 2:=⟨_,rfl⟩
  refine J5 ?_
  refine JT (λh33=>?_) λh33=>?_
  refine J10 ?_
  obtain⟨y,hy⟩:=J h W
  obtain⟨z,hz⟩:=J a W
  refine zV (EW U U U (CA (r:=i+j) W W)) U<|zV (FA U U underlying182 underlying3 (VN (r:=i+j) W W)) U<|zV ((IP (m:=1) (c:=2) U U U U C8 U).int (B:=((h:Nat):Int)) W) U<|zV (FA U U underlying3 underlying182 (CA (r:=h) W W)) U<|J4 ?_
  refine cQ mixed<|J3 ?_
  refine qV (AA (lo:=h) U U U underlying231 BC W W) U<|qV (AB (cs:=y.cells) U U FV.h (EnL.len _) (AT (m:=21) Dt)) U ?_
  refine J2 ?_
  refine qV (AA (lo:=a) U U U underlying231 BC W W) U<|qV (AB (cs:=z.cells) U U FV.h (EnL.len _) (AT (m:=21) Ff)) U ?_
  refine WQ.FQ _ U U U CkO (.none U) U U (λw v=>Calls.still (Ni w y z) v)<|JT (λh50=>?_) (λh50=>?_)
  refine J9 ?_
  exact eW ⟨h+1,j⟩ C7 ⟨C7,C7,ah⟩
  refine J8 ?_
  exact eW ⟨i,h⟩ C7 ⟨ag,C7,C7⟩
  refine J16 ?_
  refine oLp (λx:LsS=>[(13,iI x.i),(10,iI i),(0,.slice (aG g) N c)]) (λx=>lsE g R x.ys::L) (λx=>a<=x.i/\x.ys.Perm q) (λx=>i-x.i) ⟨a,q⟩ ⟨M2 _,.refl _⟩ ?_
  rintro⟨k,ys⟩ ⟨G,hp⟩
  dsimp only at G hp⊢
  have H:ys.length=N:=hp.length_eq.trans hx
  refine J6 ?_
  refine JT (λh58=>?_) λh58=>?_
  refine J7 ?_
  refine WC.AS mixed<|rF 6 [0,1,2,3,4,5,6,7,8,10,11,12]<|?_
  refine J8 ?_
  obtain⟨y,hy⟩:∃y,ys[k+1]?=some y:=Gx
  obtain⟨x,hx1⟩:∃x,ys[k]?=some x:=Gx
  refine pV (AA (lo:=k+1) U U U underlying231 BC W W) U<|J2 ?_
  refine pV (AA (lo:=k) U U U underlying231 BC W W) U<|J1 ?_
  refine rA 3 [9,13,14] U<|qV (AB (cs:=y.cells) U U FV.h (EnL.len _) (AT (m:=21) Dt)) U ?_
  refine qV (AB (cs:=x.cells) U U FV.h (EnL.len _) (AT (m:=21) Fe)) U ?_
  refine qV (AA (lo:=k) U U U underlying231 BC W W) U<|J1 ?_
  refine rO 2 [15]<|WL.FN U U U U FV.h U Fk (.none U) U ?_
  refine WL.as (L':=lsE g R (ys.set k y)::L) Ef ?_
  refine J1 ?_
  refine rF 1 [16]<|pV (AA (lo:=k+1) U U U underlying231 BC W W) U<|J1 ?_
  refine rO 0 [17]<|WL.FN U U U U FV.h U Ee (.none U) U ?_
  refine J9 ?_
  exact WE.next ⟨k+1,(ys.set k y).set (k+1) x⟩ C7 ⟨C7,(SC hx1 hy).trans hp⟩ (.int U C7 (.cons U (.cons U .nil))) D1
  exact Cb
  refine J11 ?_
  refine JT (λh80=>?_) λh80=>?_
  refine J17 ?_
  refine oLp (λx:SpS=>[(14,iI x.s),(15,iI x.r),(0,.slice (aG g) N c),(2,iI m),(4,NW)]) (λ_=>lsE g R q::L) (λx=>a<=x.s/\x.s<=x.r/\x.r<=m) (λx=>x.r-x.s) ⟨a,m⟩ ⟨M2 _,C7,M2 _⟩ ?_
  rintro⟨i,j⟩ ⟨ai,hj2,aj⟩
  dsimp only at ai hj2 aj⊢
  obtain⟨h,hh⟩:∃x,x=(i+j) / 2:=⟨_,rfl⟩
  refine J5 ?_
  refine JT (λh85=>?_) λh85=>?_
  refine J10 ?_
  obtain⟨y,hy⟩:=J m W
  obtain⟨z,hz⟩:=J h W
  refine zV (EW U U U (CA (r:=i+j) W W)) U<|zV (FA U U underlying182 underlying3 (VN (r:=i+j) W W)) U<|zV ((IP (m:=1) (c:=2) U U U U C8 U).int (B:=((h:Nat):Int)) W) U<|zV (FA U U underlying3 underlying182 (CA (r:=h) W W)) U<|J4 ?_
  refine cQ mixed<|J3 ?_
  refine qV (AA (lo:=m) U U U underlying231 BC W W) U<|qV (AB (cs:=y.cells) U U FV.h (EnL.len _) (AT (m:=21) Dt)) U ?_
  refine J2 ?_
  refine qV (AA (lo:=h) U U U underlying231 BC W W) U<|qV (AB (cs:=z.cells) U U FV.h (EnL.len _) (AT (m:=21) Ff)) U ?_
  refine WQ.FQ _ U U U CkO (.none U) U U (λw v=>Calls.still (Ni w y z) v)<|JT (λM=>?_) (λM=>?_)
  refine J9 ?_
  exact eW ⟨i,h⟩ C7 ⟨ai,C7,C7⟩
  refine J10 ?_
  exact eW ⟨h+1,j⟩ C7 ⟨C7,C7,aj⟩
  refine J16 ?_
  refine oLp (λx:LsS=>[(17,iI x.i),(14,iI i),(0,.slice (aG g) N c)]) (λx=>lsE g R x.ys::L) (λx=>x.i<=m/\x.ys.Perm q) (λx=>x.i-i) ⟨m,q⟩ ⟨M2 _,.refl _⟩ ?_
  rintro⟨k,ys⟩ ⟨G,hp⟩
  dsimp only at G hp⊢
  have H:ys.length=N:=hp.length_eq.trans hx
  refine J5 ?_
  refine JT (λO=>?_) λO=>?_
  refine J7 ?_
  refine WC.AS mixed<|rF 6 [0,1,2,3,4,5,6,7,8,10,11,12]<|?_
  refine J4 ?_
  obtain⟨u,rfl⟩:∃u,k=u+1:=⟨k-1,W⟩
  obtain⟨y,hy⟩:∃y,ys[u]?=some y:=Gx
  obtain⟨x,hx1⟩:∃x,ys[u+1]?=some x:=Gx
  refine pV (GD U U U (CA (r:=u) W W)) U<|J2 ?_
  refine pV (GD U U U (CA (r:=u) W W)) U<|pV (AA (lo:=u) U U U underlying231 BC W W) U<|J2 ?_
  refine pV (AA (lo:=u+1) U U U underlying231 BC W W) U<|J1 ?_
  refine rA 3 [9,13,14] U<|qV (AB (cs:=y.cells) U U FV.h (EnL.len _) (AT (m:=21) Dt)) U ?_
  refine qV (AB (cs:=x.cells) U U FV.h (EnL.len _) (AT (m:=21) Fe)) U ?_
  refine qV (AA (lo:=u+1) U U U underlying231 BC W W) U<|J1 ?_
  refine rO 2 [15]<|WL.FN U U U U FV.h U Fk (.none U) U ?_
  refine WL.as (L':=lsE g R (ys.set (u+1) y)::L) Ef ?_
  refine J1 ?_
  refine rF 1 [16]<|pV (AA (lo:=u) U U U underlying231 BC W W) U<|J1 ?_
  refine rO 0 [17]<|WL.FN U U U U FV.h U Ee (.none U) U ?_
  refine J6 ?_
  refine zV (GD U U U (CA (r:=u) W W)) U<|J2 ?_
  exact WE.next ⟨u,(ys.set (u+1) y).set u x⟩ C7 ⟨C7,(SC hx1 hy).trans hp⟩ Km D1
  exact Cb
  refine J9 ?_
  refine zV (EW U U U (CA (r:=a+b) W W)) U<|zV (FA U U underlying182 underlying3 (VN (r:=a+b) W W)) U<|zV ((IP (m:=1) (c:=2) U U U U C8 U).int (B:=((f:Nat):Int)) W) U<|zV (FA U U underlying3 underlying182 (CA (r:=f) W W)) U<|J7 ?_
  refine zV (EW U U U (CA (r:=f+m) W W)) U<|J9 ?_
  refine WC.cut (λx:SpS=>[(20,iI x.s),(21,iI x.r),(18,iI f),(19,iI (f+m:Nat)),(0,.slice (aG g) N c),(1,iI a),(2,iI m),(3,iI b),(4,NW)]) (λ_=>lsE g R q::L) (λx=>(f<m/\x.s=f+m-b/\x.r=f)\/(m<=f/\x.s=a/\x.r=m)) ?_ ?_
  refine J4 ?_
  refine JT (λT=>?_) λT=>?_
  refine J7 ?_
  refine zV (GD U U U (CA (r:=f+m-b) W W)) U<|J7 ?_
  exact eM ⟨f+m-b,f⟩ (.inl ⟨W,rfl,rfl⟩)
  refine J13 ?_
  exact eM ⟨a,m⟩ (.inr ⟨W,rfl,rfl⟩)
  rintro⟨s,r⟩ hsr
  dsimp only at hsr⊢
  refine J3 ?_
  refine zV (GD U U U (CA (r:=f+m-1) W W)) U<|J5 ?_
  refine oLp (λx:SpS=>[(20,iI x.s),(21,iI x.r),(22,iI (f+m-1:Nat)),(18,iI f),(19,iI (f+m:Nat)),(0,.slice (aG g) N c),(1,iI a),(2,iI m),(3,iI b),(4,NW)]) (λ_=>lsE g R q::L) (λx=>s<=x.s/\x.s<=x.r/\x.r<=r) (λx=>x.r-x.s) ⟨s,r⟩ ⟨M2 _,C7,M2 _⟩ ?_
  rintro⟨D,r1⟩ ⟨ak,hq2,al⟩
  dsimp only at ak hq2 al⊢
  obtain⟨h,hh⟩:∃x,x=(D+r1) / 2:=⟨_,rfl⟩
  refine J5 ?_
  refine JT (λX=>?_) λX=>?_
  refine J10 ?_
  obtain⟨y,hy⟩:=J (f+m-1-h) W
  obtain⟨z,hz⟩:=J h W
  refine zV (EW U U U (CA (r:=D+r1) W W)) U<|zV (FA U U underlying182 underlying3 (VN (r:=D+r1) W W)) U<|zV ((IP (m:=1) (c:=2) U U U U C8 U).int (B:=((h:Nat):Int)) W) U<|zV (FA U U underlying3 underlying182 (CA (r:=h) W W)) U<|J4 ?_
  refine cQ mixed<|J4 ?_
  refine qV (GD U U U (CA (r:=f+m-1-h) W W)) U<|qV (AA (lo:=f+m-1-h) U U U underlying231 BC W W) U<|qV (AB (cs:=y.cells) U U FV.h (EnL.len _) (AT (m:=21) Dt)) U ?_
  refine J2 ?_
  refine qV (AA (lo:=h) U U U underlying231 BC W W) U<|qV (AB (cs:=z.cells) U U FV.h (EnL.len _) (AT (m:=21) Ff)) U ?_
  refine WQ.FQ _ U U U CkO (.none U) U U (λw v=>Calls.still (Ni w y z) v)<|JT (λZ=>?_) (λZ=>?_)
  refine J9 ?_
  exact eW ⟨D,h⟩ C7 ⟨ak,C7,C7⟩
  refine J10 ?_
  exact eW ⟨h+1,r1⟩ C7 ⟨C7,C7,al⟩
  refine J12 ?_
  obtain⟨F,hen⟩:∃x,x=f+m-D:=⟨_,rfl⟩
  have hfin:a<=D/\D<=m/\D<=f/\m<=F/\f<=F/\F<=b:=W
  refine zV (GD U U U (CA (r:=F) W W)) U<|J3 ?_
  refine WC.cut (λ_:List EnL=>[(24,iI F),(20,iI D),(18,iI f),(0,.slice (aG g) N c),(1,iI a),(3,iI b),(4,NW)]) (λys=>lsE g R ys::L) (λys=>ys.Perm q) ?_ ?_
  refine J4 ?_
  refine JT (λaa=>?_) λaa=>?_
  refine J3 ?_
  refine JT (λab=>?_) λab=>?_
  refine J10 ?_
  refine zK CkO U<|λw1 v=>(rotP_c p w0 w1 L g c N R q D m F W W W hx hN v).mono ?_
  rintro e w' ⟨rfl,zs,hz,E⟩
  refine⟨_,_,rfl,E,?_⟩
  refine J1 ?_
  exact eM zs hz
  refine J5 ?_
  exact eM q (.refl _)
  refine J9 ?_
  exact eM q (.refl _)
  rintro ys hp
  have hp:ys.Perm q:=hp
  have H:ys.length=N:=hp.length_eq.trans hx
  refine WC.cut (λ_:List EnL=>[(24,iI F),(20,iI D),(18,iI f),(0,.slice (aG g) N c),(1,iI a),(3,iI b),(4,NW)]) (λys=>lsE g R ys::L) (λys=>ys.Perm q) ?_ ?_
  refine J4 ?_
  refine JT (λac=>?_) λac=>?_
  refine J3 ?_
  refine JT (λad=>?_) λad=>?_
  refine J10 ?_
  refine zK CkO U<|λw1 v=>(VF g c N R hN p w0 L S w1 ys a D f W W W W H v).mono ?_
  rintro e w' ⟨rfl,zs,hz,E⟩
  refine⟨_,_,rfl,E,?_⟩
  refine J1 ?_
  exact eM zs (hz.trans hp)
  refine J5 ?_
  exact eM ys hp
  refine J9 ?_
  exact eM ys hp
  rintro us hq
  have hq:us.Perm q:=hq
  have hul:us.length=N:=hq.length_eq.trans hx
  refine J4 ?_
  refine JT (λae=>?_) λae=>?_
  refine J3 ?_
  refine JT (λaf=>?_) λaf=>?_
  refine J10 ?_
  refine zK CkO U<|λw1 v=>(VF g c N R hN p w0 L S w1 us f F b W W W W hul v).mono ?_
  rintro e w' ⟨rfl,zs,hz,E⟩
  refine⟨_,_,rfl,E,?_⟩
  refine J1 ?_
  refine WE.LC (P:=prog) (.inr U) results328  ?_
  exact λw' h=>⟨rfl,zs,hz.trans hq,h⟩
  refine J5 ?_
  exact Cj
  refine J9 ?_
  exact Cj
theorem AcX(p:Nat->Prop)(w0 w:Wd)(L:eL)(g c N:Nat)(R:vL)(f:List EnL)(a b:Nat)(q:a<=b)(y:b<=N)(s:f.length=N)(E:N<=100000)(z:St p w0 w (lsE g R f::L)):
 Cl 327 #[.slice (aG g) N c,iI a,iI b,NW] w λe u=>e=.returned (.tuple #[])/\∃i v,i.Perm f/\v.length=R.length/\St p w0 u (lsE g v i::L):=by
 subst s
 refine(InsE_c p w0 w L g c (DA f++R) f a b q y (by rw[<- DO,List.take_left]) z W).mono ?_
 rintro e u ⟨rfl,i,j,D,_,B,s,k⟩
 have r:=XG (permIn_mono f.toArray i.toArray a b 0 f.length (Lv _) y C9 D)
 refine⟨rfl,i,j.drop (f.length*21),r.1,?_,?_⟩
 .rw [List.length_drop,B,AC,DO];omega
 .show St p w0 u (.row g (DA i++j.drop (f.length*21))::L)
  rw[<- s,AeN]
  exact k
structure StP where
 t:Nat
 ys:List EnL
 R:vL
theorem AbP(p:Nat->Prop)(w0 w:Wd)(L E:eL)(g c:Nat)(i:List EnL)(hV:Vec 21 (aG g) i.length c (DA i) E)(j:St p w0 w (E++L))(hn:i.length<=5000):
 Cl 187 #[.slice (aG g) i.length c,.func (.func 188) #[] #[]] w λe s =>
  e=.returned (.tuple #[])/\∃f E',f.Perm i/\Vec 21 (aG g) f.length c (DA f) E'/\St p w0 s (E'++L):=by
 rcases hV with⟨ha,_⟩|⟨g1,cs,T,rfl,hx,hcl,hkc⟩
 .cases ha
 have T:=Ade T
 have T:g=g1:=If Addr.block T
 subst T
 obtain⟨N,k⟩:∃N,N=i.length:=⟨_,rfl⟩
 have Z:cs=DA i++cs.drop (i.length*21):=by
  rw[<- hx,AeN]
 have X:(cs.drop (i.length*21)).length=(c-N)*21:=by rw[List.length_drop,hcl,k,Nat.sub_mul]
 generalize cs.drop (i.length*21)=R at Z X
 subst Z
 have J:∀w,St p w0 w (lsE g R i::L)->Cl 263 #[.slice (aG g) N c,iI N,NW] w λe s =>
  e=.returned (.tuple #[])/\∃f R',f.Perm i/\R'.length=R.length/\St p w0 s (lsE g R' f::L):=by
  intro w j
  refine enter func263 U ntmps263 U j<|J14 ?_
  refine WC.loop (λx:StP=>[(6,iI 20),(7,iI (20*x.t:Nat)),(8,iI (20*x.t+20:Nat)),(0,.slice (aG g) N c),(1,iI N),(2,NW)]) (λx=>lsE g x.R x.ys::L) (λx=>20*x.t<=N/\x.ys.Perm i/\x.R.length=R.length) (λx=>N-20*x.t) ⟨0,i,R⟩ ⟨Lv _,.refl _,rfl⟩ (.cons U (.int U U (.int U U (.cons U (.cons U (.cons U .nil)))))) (.refl _) ?_
  rintro⟨t,f,R1⟩ ⟨ht,v,F⟩
  dsimp only at ht v F⊢
  have ab:f.length=N:=by rw[v.length_eq,k]
  refine J5 ?_
  refine JT (λh13=>?_) λh13=>?_
  refine J12 ?_
  refine zK CkO U<|λB j=>(AcX p w0 B L g c N R1 f (20*t) (20*t+20) W W ab W j).mono ?_
  rintro e s ⟨rfl,M,R2,H,D,b⟩
  refine⟨_,_,rfl,b,?_⟩
  refine J11 ?_
  refine zV (EW U U U (CA (r:=20*(t+1)+20) W W)) U<|J3 ?_
  exact eW ⟨t+1,M,R2⟩ C7 ⟨C7,H.trans v,D.trans F⟩
  refine J14 ?_
  refine zK CkO U<|λB j=>(AcX p w0 B L g c N R1 f (20*t) N W (M2 _) ab W j).mono ?_
  rintro e s ⟨rfl,M,R2,H,D,b⟩
  refine⟨_,_,rfl,b,?_⟩
  refine J3 ?_
  refine oLp (λx:StP=>[(6,iI x.t),(0,.slice (aG g) N c),(1,iI N),(2,NW)]) (λx=>lsE g x.R x.ys::L) (λx=>(20<=x.t/\x.t<=20000)/\x.ys.Perm i/\x.R.length=R.length) (λx=>20000-x.t) ⟨20,M,R2⟩ ⟨C7,H.trans v,D.trans F⟩ ?_
  rintro⟨O,f,R3⟩ ⟨hbs,y,G⟩
  dsimp only at hbs y G⊢
  have hyl3:f.length=N:=by rw[y.length_eq,k]
  refine J5 ?_
  refine JT (λh30=>?_) λh30=>?_
  refine J9 ?_
  obtain⟨a,hcs2⟩:∃a,a=2*O:=⟨_,rfl⟩
  refine zV (SL U U U (CA (r:=a) W W)) U<|J6 ?_
  refine oLp (λx:StP=>[(6,iI O),(7,iI x.t),(8,iI (x.t+a:Nat)),(0,.slice (aG g) N c),(1,iI N),(2,NW)]) (λx=>lsE g x.R x.ys::L) (λx=>x.t<=N/\x.ys.Perm i/\x.R.length=R.length) (λx=>N-x.t) ⟨0,f,R3⟩ ⟨Lv _,y,G⟩ ?_
  rintro⟨u,us,S⟩ ⟨hh,q,z⟩
  dsimp only at hh q z⊢
  have aa:us.length=N:=by rw[q.length_eq,k]
  refine J5 ?_
  refine JT (λh35=>?_) λh35=>?_
  refine J12 ?_
  refine zV (EW U U U (CA (r:=u+O) W W)) U<|J2 ?_
  refine zK CkO U<|λB j=>(VF g c N S W p w0 L N B us u (u+O) (u+a) W W W W aa j).mono ?_
  rintro e s ⟨rfl,M,H,b⟩
  refine⟨_,_,rfl,b,?_⟩
  refine J11 ?_
  refine zV (SL U U U (CA (r:=a) W W)) U<|zV (EW U U U (CA (r:=u+a+a) W W)) U<|J3 ?_
  exact eW ⟨u+a,M,S⟩ C7 ⟨C7,H.trans q,z⟩
  refine J13 ?_
  refine zV (EW U U U (CA (r:=u+O) W W)) U<|J7 ?_
  refine JT (λh54=>?_) λh54=>?_
  refine J9 ?_
  refine zK CkO U<|λB j=>(VF g c N S W p w0 L N B us u (u+O) N W W W W aa j).mono ?_
  rintro e s ⟨rfl,M,H,b⟩
  refine⟨_,_,rfl,b,?_⟩
  refine J4 ?_
  refine zV (SL U U U (CA (r:=a) W W)) U<|J3 ?_
  exact eW ⟨a,M,S⟩ C7 ⟨C7,H.trans q,z⟩
  refine J7 ?_
  refine zV (SL U U U (CA (r:=a) W W)) U<|J3 ?_
  exact eW ⟨a,us,S⟩ C7 ⟨C7,q,z⟩
  refine J7 ?_
  refine WE.LC (P:=prog) (.inr U) results263  ?_
  exact λs h=>⟨rfl,f,R3,y,G,h⟩
 refine enter func187 U ntmps187 U j ?_
 rw[<- k]
 refine J5 ?_
 refine zK CkO U<|λB j=>(J B j).mono ?_
 rintro e s ⟨rfl,f,R',h1,h2,b⟩
 refine⟨_,_,rfl,b,?_⟩
 refine J1 ?_
 refine WE.LC (P:=prog) (.inr U) results187  ?_
 exact λs h=>⟨rfl,f,[lsE g R' f],h1,Vec.row (by rw[<- DO,List.take_left]) (by rw[AC,DO,h1.length_eq,h2,X,k, <- Agz];congr 1;omega) (by rw[h1.length_eq];exact hkc),h⟩

structure ChW(most:Int)(T:List EnD)(outs:List Int)(ins:List EnD)(code:Int)(T':List EnD):Prop where
 bad:code≠0->T'=T
 twice:code=5->Gz EnD.err ins=5\/¬FC (Gp T outs++ins.map EnD.norm)
 ok:code=0->T'.Perm (Gp T outs++ins.map EnD.norm)/\(T'.length:Int)<=most/\Gz EnD.err ins=0
theorem ChW.err{c:Int}{T:List EnD}{outs:List Int}{b:List EnD}{a:Int}(h:a=Gz EnD.err b\/a=30)(f:a≠0):ChW c T outs b a T :=
 ⟨λ_=>rfl,λk=>.inl (h.elim (λe=>by rw[<- e];exact k) λe=>by omega),λk=>absurd k f⟩
theorem ChW.dup{outs:List Int}{a:List EnD}(h:¬FC (Gp N outs++a.map EnD.norm)):ChW G N outs a 5 N :=
 ⟨λ_=>rfl,λ_=>.inr h,λk=>absurd k C8⟩
theorem ChW.done{b:List EnD}{outs:List Int}{a:List EnD}(h:Gz EnD.err a=0)(e:(a.length:Int)<=G-(Gp N outs).length)(c:b.Perm (Gp N outs++a.map EnD.norm)):ChW G N outs a 0 b :=
 ⟨λk=>absurd U k,λk=>absurd k C8,λ_=>⟨c,by rw[c.length_eq,AC,Ri];omega,h⟩⟩
theorem Ta(p:Nat->Prop)(w0 w:Wd)(L E K:eL)(g:Nat)(t:TbL)(oa:Option Addr)(oc:Nat)(outs:List Int)(ia:Option Addr)(ic:Nat)(ins:List EnL)(hp:¬p 0)
 (hG:GW w0) (hV:Vec 21 t.ad t.es.length t.c (DA t.es) E) (hK:I7 K t.es) (f:St p w0 w (.row g t.cells::(E++(K++L)))) (ho:∀w,St p w0 w L->Rg w oa (outs.map (Value.int .i64))) (hi:∀w,St p w0 w L->Rg w ia (DA ins)) (hI:∀w,St p w0 w L->∀x∈ins,InOk w x)
 (hm:0<=t.most/\t.most<=4096) (hn:t.es.length<=5000) (hon:outs.length<=100000) (hin:ins.length<=5000) :
 Cl 102 #[pG g,.slice oa outs.length oc,.slice ia ins.length ic] w λe w'=>∃(code:Int) (t':TbL) (E' K':eL),e=.returned (iI code)/\t'.most=t.most/\ChW t.most t.d outs (ins.map EnL.d) code t'.d /\
  Vec 21 t'.ad t'.es.length t'.c (DA t'.es) E'/\I7 K' t'.es/\St p w0 w' (.row g t'.cells::(E'++(K'++L))):=by
 refine enter func102 U ntmps102 U f ?_
 have B:∀w,St p w0 w (.row g t.cells::(E++(K++L)))->St p w0 w L:=λw h=>h.sub (.cons _ (Adn (Ai9 _ _)))
 refine J9 ?_
 refine zV (AI false U U underlying183 U) U<|J14 ?_
 refine oLp (λk:Nat=>[(20,iI k),(19,iI ins.length),(18,.slice ia ins.length ic),(0,pG g),(1,.slice oa outs.length oc),(2,.slice ia ins.length ic)]) (λ_=>.row g t.cells::(E++(K++L))) (λk=>k<=ins.length/\∀i x,i<k->ins[i]?=some x->x.d.err=0) (λk=>ins.length-k) 0 ⟨Lv _,λi x h=>absurd h W⟩ ?_
 rintro k ⟨hk,ac⟩
 refine J2 ?_
 refine JT (λh21=>?_) λh21=>?_
 refine J10 ?_
 obtain⟨x,G⟩:∃x,ins[k]?=some x:=Gx
 obtain⟨b1,o1,M,r1⟩:=hi w (B _ f) Dy
 refine zV ((AA (b:=b1) (off:=o1) (lo:=k) U (by show some (Value.slice ia _ _)=_;rw[M]) U underlying231 BC U W)) U ?_
 refine WL.val (AB (cs:=x.cells) U U FV.h (EnL.len x) (λw f=>by
 obtain⟨b2,o2,N,r2⟩:=hi w (B _ f) Dy
 rw[M] at N;cases N
 exact Rg.seg EnL.len r2 G)) (.none U) U U ?_
 refine zy U CG U U<|λg8 hg8=>J6 ?_
 refine WL.as (L':=.row g8 x.cells::.row g t.cells::(E++(K++L))) U<|zk CkO U (λw f=>(AbE w x (hI w (B _ f.tail) x (Do G)).i (hI w (B _ f.tail) x (Do G)).rd (hG.BI hp f)))<|?_
 refine J6 ?_
 refine JT (λaa=>?_) λaa=>?_
 refine J15 ?_
 refine eT1 ?_
 have he:Gz EnD.err (ins.map EnL.d)=x.d.err:=UX (k:=k) (x:=x.d) (λi y hi2 s=>by
  rw[WF] at s
  cases hq:ins[i]? with
  | none=>rw[hq] at s;cases s
  | some z=>rw[hq] at s;cases s;exact ac i z hi2 hq) (by rw[WF,G];rfl) aa
 exact λw' h=>⟨_,t,E,K,rfl,rfl,by rw[<- he];exact ChW.err (.inl U) (by rw[he];exact aa),hV,hK,h.tail⟩
 refine J10 ?_
 exact eW (k+1) W ⟨W,λi y hi2 s=>by
 by_cases e:i=k
 .subst e;rw[G] at s;cases s;exact Acp.1 aa
 .exact ac i y W s⟩
 refine J13 ?_
 have hno:Gz EnD.err (ins.map EnL.d)=0:=TD λi y hi2 s=>(by
  rw[WF] at s
  cases hq:ins[i]? with
  | none=>rw[hq] at s;cases s
  | some z=>rw[hq] at s;cases s;exact ac i z (by have:=(Eu.1 hq).1;omega) hq)
 have hfl:(t.es.filter (JQ outs)).length<=t.es.length:=List.length_filter_le _ _
 have hld:(Gp t.d outs).length=(t.es.filter (JQ outs)).length:=(by unfold TbL.d;rw[<- Ot,Ri])
 refine zK CkO U<|λw1 f=>(Th w1 g t oa oc outs (f.cell U) (hV.rg λe he=>f.holds e Dd) (ho w1 (B _ f)) W hon).mono ?_
 rintro e w' ⟨ad2,c2,F,rfl,hV2,u⟩
 refine⟨_,_,rfl,f.join u,?_⟩
 have hrS2:∀w,St p w0 w (F++(.row g t.cells::(E++(K++L))))->St p w0 w L:=λw h=>B _ (h.sub (Ai9 _ _))
 generalize R:t.es.filter (JQ outs)=D at hV2 hfl hld ⊢
 refine J11 ?_
 refine zV (An U U i3o.h (cellAt (v:=iI t.most) U)) U<|J3 ?_
 refine JT (λh42=>?_) λh42=>?_
 refine J10 ?_
 refine eT1 ?_
 exact λw' h=>⟨_,t,E,K,rfl,rfl,ChW.err (.inr U) C8,hV,hK,h.sub (Ai9 _ _)⟩
 refine J9 ?_
 refine WL.Mm (m:=0) (c:=ins.length) U U U W W W underlying231 ID W W BC CG U (.none U) U U<|λX hg45=>?_
 generalize hZ:List.flatten _=Z
 have hV0:Vec 21 (aG X) 0 ins.length [] [.row X Z]:=E8
 refine J12 ?_
 refine oLp (λx:ChS=>[(48,iI x.k),(47,iI ins.length),(46,.slice ia ins.length ic),(11,.slice x.ad x.ls.length x.c),(10,.slice ad2 D.length c2),(0,pG g)]) (λx=>x.E++(x.K++(F++(.row g t.cells::(E++(K++L)))))) (λx=>x.k<=ins.length/\x.ls.length=x.k/\(∃q,x.ad=aG q)/\Vec 21 x.ad x.ls.length x.c (DA x.ls) x.E/\x.ls.map EnL.d=((ins.take x.k).map EnL.d).map EnD.norm/\I7 x.K x.ls) (λx=>ins.length-x.k) ⟨0,[],aG X,ins.length,[.row X Z],[]⟩ ⟨Lv _,rfl,⟨_,rfl⟩,hV0,rfl,λe he=>by cases he⟩ ?_
 rintro⟨k,ls,ad,c,Ex,H⟩ ⟨hk,hlk,had,hVx,O,hKx⟩
 dsimp only at hk hlk had hVx O hKx⊢
 refine J2 ?_
 refine JT (λh49=>?_) λh49=>?_
 refine J10 ?_
 have htl2:∀w,St p w0 w (Ex++(H++(F++(.row g t.cells::(E++(K++L))))))->St p w0 w L:=λw h=>hrS2 w (h.sub (Adn (Ai9 _ _)))
 obtain⟨x,G⟩:∃x,ins[k]?=some x:=Gx
 have hxm:=Do G
 have hx64:=Aea (ac k x W G)
 obtain⟨b1,o1,M,r1⟩:=hi _ (B _ f) Dy
 refine zV ((AA (b:=b1) (off:=o1) (lo:=k) U (by show some (Value.slice ia _ _)=_;rw[M]) U underlying231 BC U W)) U ?_
 refine WL.val (AB (cs:=x.cells) U U FV.h (EnL.len x) (λw f=>by
 obtain⟨b2,o2,N,r2⟩:=hi w (htl2 _ f) Dy
 rw[M] at N;cases N
 exact Rg.seg EnL.len r2 G)) (.none U) U U ?_
 refine zy U CG U U<|λg13 hg13=>J1 ?_
 refine WL.as (L':=.row g13 x.cells::(Ex++(H++(F++(.row g t.cells::(E++(K++L))))))) U<|J6 ?_
 refine zV (An U U DV (cellAt (Ad1 x))) U<|zK CkO U<|?_
 intro w1 f
 have hxi:=hI w1 (htl2 _ f.tail) x hxm
 refine(Yp w1 x.r.ad x.r.c x.r.acts hxi.rd (λa ha=>(hxi.i.r.act a ha).2) W).mono ?_
 have hxnz:∀a∈x.r.acts,a.Nz:=λa ha=>(hxi.i.r.act a ha).2
 rintro e w' ⟨ad3,c3,E3,ys,rfl,hN,hle,hV3,u⟩
 refine⟨_,_,rfl,f.join u,?_⟩
 refine J2 ?_
 refine WL.DX U U U U DV (by show 2+18<x.cells.length;rw[EnL.len];omega) (.none U) U ?_
 refine WL.as (L':=E3++(.row g13 (EnL.cells ⟨x.prio,x.mark,⟨x.r.m,ad3,c3,ys⟩⟩)::(Ex++(H++(F++(.row g t.cells::(E++(K++L)))))))) U ?_
 obtain⟨y,s⟩:∃y:EnL,y=⟨x.prio,x.mark,⟨x.r.m,ad3,c3,ys⟩⟩:=⟨_,rfl⟩
 rw[<- s]
 refine J5 ?_
 refine zB underlying231 BC CG (by show some (AK (List.replicate 1 _).flatten 0 y.cells)=some y.cells;rw[AH (by rw[EnL.len];rfl)]) U ?_
 intro g60 hg60
 refine WL.to (L':=Ex++(.row g60 y.cells::(E3++(H++(F++(.row g t.cells::(E++(K++L)))))))) (λw f=>f.AN [.row g13 y.cells])<|WL.AU U U U underlying231 underlying231 BC ID CG U U hVx (new:=y.cells) (λ_=>⟨g60,0,rfl,λw f=>AL (g:=g60) w f⟩) (EnL.len y) (BD IU y) W (.none U) U U<|λad61 c61 E61 hV61 hr61=>J8 ?_
 refine WE.next ⟨k+1,ls++[y],ad61,c61,E61,E3++H⟩ C7 ⟨C7,by dsimp only;rw[AC];show ls.length+1=_;omega,hV61.QS W,by dsimp only;rw[AC,show DA (ls++[y])=DA ls++y.cells from AX _ _ _];exact hV61,?_,?_⟩ (.int U C7 (.cons U (.cons U (.eq U Dc (.cons U (.cons U .nil)))))) (by dsimp only;rw[Qs];exact Acq (.cons _ (.refl _)) _)
 .dsimp only
  rw[AhG,G,Aiw,Ai7,Ai7,Ai7,O,s]
  exact If (_ ++ ·) (If (λz=>[z]) (YI hxnz hN))
 .intro e he
  rcases LI.1 he with he|he
  .exact (hKx e he).sub λz hz=>Mu _ hz
  .rw [Es.1 he,s]
   exact⟨E3,hV3,λz hz=>Ha _ hz⟩
 refine J12 ?_
 obtain⟨gq,rfl⟩:=had
 obtain rfl:k=ins.length:=W
 rw[Ah6] at O
 refine zK CkO U<|λw1 f=>(AbP p w0 w1 (H++(F++(.row g t.cells::(E++(K++L))))) Ex gq c ls hVx f W).mono ?_
 rintro e w' ⟨rfl,ys,Ey,hpy,hVy,u⟩
 rw[<- hpy.length_eq]
 refine⟨_,_,rfl,u,?_⟩
 refine J6 ?_
 refine zK CkO U<|λw1 f=>(Agq w1 D ys ad2 (aG gq) c2 c (hV2.rg λe he=>f.holds e Dd) (hVy.rg λe he=>f.holds e Dd) hV2.len.2 hVy.len.2 (by rw[hpy.length_eq];omega)).mono ?_
 rintro e w' ⟨J,c4,E4,rfl,ab,u⟩
 refine⟨_,_,rfl,f.join u,?_⟩
 have T:=(It D ys).trans (List.Perm.append_left D hpy)
 have hSl:(EZ D ys).length<=20000:=(by rw[T.length_eq,AC];omega)
 generalize EZ D ys=S at ab T hSl ⊢
 refine J10 ?_
 refine oLp (λi:Nat=>[(15,iI i),(14,.slice J S.length c4),(0,pG g)]) (λ_=>E4++(Ey++(H++(F++(.row g t.cells::(E++(K++L))))))) (λi=>1<=i) (λi=>S.length-i) 1 (M2 _) ?_
 rintro i hi1
 refine J6 ?_
 refine JT (λh71=>?_) λh71=>?_
 refine J8 ?_
 refine cQ mixed<|J3 ?_
 obtain⟨j,rfl⟩:∃j,i=j+1:=⟨i-1,W⟩
 obtain⟨xa,hxa⟩:∃x,S[j]?=some x:=Gx
 obtain⟨xb,hxb⟩:∃x,S[j+1]?=some x:=Gx
 obtain⟨g4,ea4⟩:=ab.QS W
 have hrd:∀(j:Nat) (x:EnL),S[j]?=some x->∀w,St p w0 w (E4++(Ey++(H++(F++(.row g t.cells::(E++(K++L)))))))->w.rangeAt g4 (0+j*21) x.cells:=(by
  intro j x G w f
  obtain⟨b5,o5,ea5,r5⟩:=ab.rg (w:=w) (λe he=>f.holds e Dd) (by intro hh;have:=DO S;rw[hh] at this;simp at this;omega)
  rw[ea4] at ea5;cases ea5
  exact Rg.seg EnL.len r5 G)
 refine qV ((AA (b:=g4) (off:=0) (lo:=j) U (by show some (Value.slice J _ _)=_;rw[ea4]) U underlying231 BC W W)) U ?_
 refine qV (AB (cs:=xa.cells) U U FV.h (EnL.len xa) (hrd j xa hxa)) U<|J2 ?_
 refine qV ((AA (b:=g4) (off:=0) (lo:=j+1) U (by show some (Value.slice J _ _)=_;rw[ea4]) U underlying231 BC U W)) U ?_
 refine qV (AB (cs:=xb.cells) U U FV.h (EnL.len xb) (hrd (j+1) xb hxb)) U<|qC CkO U (λw f=>Ni w xa xb)<|?_
 refine JT (λh84=>?_) λh84=>?_
 refine J14 ?_
 refine eT1 ?_
 skip
 have hpd:(S.map EnL.d).Perm (Gp t.d outs++(ins.map EnL.d).map EnD.norm):=(by
  have:=T.map EnL.d
  rw[Ai7,O, <- R,Ot] at this;exact this)
 refine λw' h=>⟨_,t,E,K,rfl,rfl,ChW.dup λhA=>?_,hV,hK,h.AN (E4++(Ey++(H++F)))⟩
 have hA':=List.pairwise_iff_getElem.1 (FC.perm hpd.symm hA)
 have la:=(Eu.1 hxa)
 have lb:=(Eu.1 hxb)
 have:=hA' j (j+1) Dq Dq W
 rw[List.getElem_map,List.getElem_map,la.2,lb.2] at this
 exact this h84
 refine J11 ?_
 exact eW (j+2) W W
 refine J15 ?_
 refine WL.as (L':=E4++(Ey++(H++(F++(.row g (TbL.cells ⟨t.most,J,c4,S⟩)::(E++(K++L))))))) U<|J8 ?_
 refine eT1 ?_
 have hroom:((ins.map EnL.d).length:Int)<=t.most-(Gp t.d outs).length:=(by rw[hld,Ri];omega)
 have hpd:(S.map EnL.d).Perm (Gp t.d outs++(ins.map EnL.d).map EnD.norm):=(by
  have:=T.map EnL.d
  rw[Ai7,O, <- R,Ot] at this;exact this)
 refine λw' h=>⟨0,⟨t.most,J,c4,S⟩,E4,H++K,rfl,rfl,ChW.done hno hroom hpd,ab,λe he=>?_,h.AN (Ey++(F++E))⟩
 rcases LI.1 (T.mem_iff.1 he) with he|he
 .rw [<- R] at he
  exact(hK e (Aig.1 he).1).sub λz hz=>Mu _ hz
 .exact (hKx e he).sub λz hz=>Ha _ hz
end Gq

def ES(k:Nat)(p:PfL):Int:=((k:Int)*64+p.len)*4294967296+p.addr
structure NI(m:Mt)(k:Nat)(p:PfL):Prop where
 port:∀i,BW (BG 0) i=true->BW (m.val 0) i=BW k i
 net:∀i,BW (Ir p.len) i=true->BW (m.val 5) i=BW p.addr i
theorem TT(h:O.meets R)(e:O.Vm){f:Nat}(b:f<9){i:Nat}(g:BW (R.mask f) i=true):BW (orN (O.val f) (R.val f)) i=BW (R.val f) i:=by
 have a:BW (IB (IB (QB (O.val f) (R.val f)) (O.mask f)) (R.mask f)) i=false:=by rw[h f b,Gv]
 rw[Od,Od,AdH,g,Bool.and_true] at a
 rw[QG]
 cases c:BW (O.val f) i with
 | false=>rw[Bool.false_or]
 | true =>
  rw[c,e f b i c,Bool.and_true] at a
  rw[Bool.true_or]
  cases j:BW (R.val f) i with
  | true=>rfl
  | false=>rw[j] at a;cases a
theorem ZP{p:PfL}(c:O.Vm)(h:O.and (Gk B p)=some R):NI R B p:=by
 obtain⟨b,rfl⟩:=Jb h
 refine⟨λi a=>?_,λi a=>?_⟩
 .exact (TT b c C8 ((To B p i).2.trans a)).trans (To B p i).1
 .exact (TT b c C8 ((Wr B p i).2.trans a)).trans (Wr B p i).1
theorem Wu(k i:Nat):BW (k:Int) i=k.testBit i:=by unfold BW;rw[Int.toNat_natCast]
theorem ZQ{p:PfL}(g:NI O B p)(j:NI R D H)(z:B<16)(hk:D<16)(w:BP p=true)(y:BP H=true)(k:U32 p.addr)(uq:U32 H.addr)(f:p.len=H.len)(s:O.val 0=R.val 0)(u:O.val 5=R.val 5):B=D/\p=H:=by
 have q:B=D:=Nat.eq_of_testBit_eq λi=>by
  by_cases v:i<8
  .have e:BW (BG 0) i=true:=by
    unfold BG
    rw[Rj]
    exact UV v
   have a:=g.port i e
   have b:=j.port i e
   rw[s,b,Wu,Wu] at a
   exact a.symm
  .have e:(2:Nat)^4<=2^i:=Aiy C8 W
   rw[Nat.testBit_lt_two_pow W,Nat.testBit_lt_two_pow W]
 have r:p.addr=H.addr:=QF k.1 uq.1 λi=>by
  cases e:BW (Ir p.len) i with
  | true =>
   have a:=g.net i e
   have b:=j.net i (by rw[<- f];exact e)
   rw[<- a, <- b,u]
  | false =>
   have a:BW p.addr i≠true:=λc=>by rw[MV w k i c] at e;cases e
   have b:BW H.addr i≠true:=λc=>by rw[f,MV y uq i c] at e;cases e
   rw[Bool.eq_false_iff.2 a,Bool.eq_false_iff.2 b]
 refine⟨q,?_⟩
 cases p;cases H
 cases r;cases f;rfl
structure Qu(e:EnD)(k:Nat)(p:PfL):Prop where
 mark:e.mark=ES k p
 prio:∃i:Nat,i<4096/\e.prio=(p.len+1)*4096-i
 wi:NI e.r.m k p
theorem XE(h:PG J S=0):J.prio=S.prio/\∀i,i<9->J.r.m.val i=S.r.m.val i:=by
 unfold PG at h
 split at h
 .rename_i c;exact absurd h c
 .rename_i c
  exact⟨(Ko.1 (AhH c)).symm,λi a=>(TS h i a).2⟩
theorem WJ{p:PfL}(b:Qu J B p)(c:Qu S D H)(e:B<16)(hk:D<16)(f:BP p=true)(g:BP H=true)(i:U32 p.addr)(uq:U32 H.addr)(h:PG J S=0):B=D/\p=H:=by
 obtain⟨q,a⟩:=XE h
 obtain⟨x,r,j⟩:=b.prio
 obtain⟨y,s,k⟩:=c.prio
 exact ZQ b.wi c.wi e hk f g i uq W (a 0 C8) (a 5 C8)
def IV(a mark:Int)(b:List RuL):List EnL:=b.mapIdx λi r=>⟨(a+1)*4096-(i:Int),mark,r⟩
theorem Md(a mark:Int)(b:List RuL):(IV a mark b).length=b.length:=List.length_mapIdx
theorem Ab4(a mark:Int)(b:List RuL)(r:RuL):IV a mark (b++[r])=IV a mark b++[⟨(a+1)*4096-(b.length:Int),mark,r⟩]:=List.mapIdx_concat
theorem Kp{mark:Int}{a:List RuL}{e:EnL}(h:(IV G mark a)[B]?=some e):∃r,a[B]?=some r/\e=⟨(G+1)*4096-(B:Int),mark,r⟩:=by
 unfold IV at h
 rw[List.getElem?_mapIdx] at h
 cases b:a[B]? with
 | none=>rw[b] at h;cases h
 | some r=>rw[b] at h;cases h;exact⟨r,rfl,rfl⟩
structure BkOk(k:Nat)(p:PfL)(ls:List RuL):Prop where
 few:ls.length<=4096
 fit:∀r∈ls,r.d.Fit
 wi:∀r∈ls,NI r.m k p
theorem QJ{b:List RuL}(h:BkOk B H b):∀e∈(IV H.len (ES B H) b).map EnL.d,Qu e B H:=λe c=>by
 obtain⟨x,g,rfl⟩:=Ab8.1 c
 obtain⟨i,f,e⟩:=List.mem_iff_getElem.1 g
 obtain⟨r,a,rfl⟩:=Kp (by rw[FS f,e])
 have j:=(Eu.1 a).1
 have:=h.few
 exact⟨rfl,⟨i,W,rfl⟩,h.wi r (Do a)⟩
theorem Ae4(h:J.prio≠S.prio):PG J S≠0:=λe=>h (XE e).1
theorem RH(a mark:Int)(h:List RuL):FC ((IV a mark h).map EnL.d):=by
 unfold FC
 rw[List.pairwise_map,List.pairwise_iff_getElem]
 intro i j e g f
 obtain⟨r,_,b⟩:=Kp (FS e)
 obtain⟨s,_,c⟩:=Kp (FS g)
 rw[b,c]
 refine Ae4 ?_
 show(a+1)*4096-(i:Int)≠(a+1)*4096-(j:Int)
 omega
theorem Vk(h:Qu J B H):Qu J.norm B H:=⟨h.mark,h.prio,h.wi⟩
theorem Sj(h:FC N):FC (N.map EnD.norm):=by
 unfold FC
 rw[List.pairwise_map]
 exact h.imp λk=>k
section Gq
attribute [local irreducible] WL WC WE WQ WP WH WR WM WRH

theorem AbZ(w:Wd):Cl 261 #[] w (RvF (.agg #[iI 16384,iI 1048576]) w):=by
 refine en0 func261 U ntmps261 U<|J2 ?_
 refine zy U i305z.h U U<|λb a=>J9 ?_
 exact Aw
def BlkC(w h:Wd)(f:Nat)(b:PfL)(e:Ending):Prop:=∃(r:Int) (a:List RuL) (g:Option Addr) (c:Nat) (E K:eL),e=.returned (.tuple #[.slice g a.length c,iI r])/\(r=0\/r=30)/\Vec 19 g a.length c (BB a) E/\(∀r∈a,DE K r)/\BkOk f b a/\St Fx w h (E++K)
theorem BlkC.none_{w a:Wd}{L:eL}(h:St Fx w a L):BlkC w a B H (.returned (.tuple #[sN,iI 30])) :=
 ⟨30,[],none,0,[],[],rfl,.inr U,Vec.nil 19,λr h=>Da,⟨Lv _,λr h=>Da,λr h=>Da⟩,h.sub (Aix _)⟩
theorem ZW(w:Wd)(p:PlN)(xs ys:List RlL)(j:PfL)(k:Ky3)(f b:Nat)(tag:Int)(hp:Uz p xs ys)(hAx:LV w p.xa xs)(hAy:LV w p.ya ys)(hZ:Rg w p.za (G3 p.AY))(hB:∀f∈p.AY,Byt f)(hok:BP j=true)(hU:U32 j.addr)(hf:k.from_=(f:Int))(hf2:f<p.AY.length)(hb:k.best=(b:Int))(hb2:b<p.AY.length)(hG:GW w):
 Cl 183 #[aA p.cells,aA j.cells,aA k.cells,iI tag] w λe w'=>BlkC w w' f j e:=by
 have D:=hp.z
 have hn16:=hp.n.2
 have hbo:=Aag (f:=f) (p:=j) W hok hU
 have hs1:decide (Vz p (f:Int))=true:=UV ⟨W,W⟩
 have hs2:decide (Vz p (b:Int))=true:=UV ⟨W,W⟩
 refine en0 func183 U ntmps183 U<|J2 ?_
 refine zx U U U U U<|λg4 hg4=>zx U U U U U<|λg5 hg5=>zx U U U U U<|λg6 hg6=>J9 ?_
 refine zV (An U U i3o.h (cellAt (v:=iI (f:Int)) D7)) U ?_
 refine zk CkO U (λw s=>(Afo w p f).mono λ_ _ h=>⟨by rw[h.1,hs1],h.2⟩)<|J4 ?_
 refine zS (An U U i3o.h (cellAt (v:=iI (b:Int)) Fb)) U ?_
 refine zk CkO U (λw s=>(Afo w p b).mono λ_ _ h=>⟨by rw[h.1,hs2],h.2⟩)<|J4 ?_
 refine zk CkO U (λw s=>I8 w j hU)<|zS ((Gs U U U).f (by rw[IR hok];simp)) U ?_
 refine J10 ?_
 refine zV (An U U i3o.h (cellAt (v:=iI (f:Int)) D7)) U ?_
 refine J1 ?_
 refine zK CkO U<|λw1 s=>(Acn w1 j f tag W hok hU (hG.BI (λh=>h) s)).mono ?_
 rintro e w' ⟨tg,rfl,htg,hF⟩
 refine⟨_,_,rfl,s.ext hF,?_⟩
 refine J4 ?_
 skip
 refine zy U FR.h U U<|λu hg10=>zy U FR.h U U<|λg11 hg11=>J1 ?_
 refine WL.CD (g:=u) (cs':=mtL (Gk f j)) (AH U)<|J1 ?_
 refine WL.CD (g:=g11) (cs':=mtL tg) (AH U)<|J17 ?_
 refine zV (AB U U Ad.h U (AL (g:=g11))) U<|zK CkO U<|?_
 intro w1 s
 refine(send_c w1 p xs ys k f b tg hp ⟨hAx.rd.frm s.frm λ_ _ _ h=>h,λx hx=>(hAx.at_ x hx).frm s.frm⟩ hf hf2 hb W htg (hG.BI (λh=>h) s)).mono ?_
 rintro e w' ⟨to,ls,ad,c,E,K,rfl,hto,hR,hll,B⟩
 refine⟨_,_,rfl,s.join B,?_⟩
 refine J11 ?_
 refine zK CkO U<|λw1 s=>(Acv w1 p xs ys to hp ⟨hAy.rd.frm s.frm λ_ _ _ h=>h,λx hx=>(hAy.at_ x hx).frm s.frm⟩ (hZ.frm s.frm λ_ _ _ h=>h) hB (hG.BI (λh=>h) s)).mono ?_
 rintro e w' ⟨ls2,ad2,c2,E2,K2,rfl,R,hll2,B⟩
 refine⟨_,_,rfl,s.join B,?_⟩
 refine J8 ?_
 refine JT (λh62=>?_) λh62=>?_
 exact Cd
 refine J9 ?_
 refine zk CkO U (λw s=>AbZ w)<|zK CkO U<|?_
 intro w1 s
 refine(VW w1 ad ad2 c c2 ls ls2 16384 1048576 C8 C8 ⟨hR.V.rg λe he=>s.holds e Dd,λr hr=>?_⟩ ⟨R.V.rg λe he=>s.holds e Dd,λr hr=>?_⟩ hR.ok.fit R.ok.fit W W).mono ?_
 .obtain ⟨E',H,G⟩:=hR.own r hr
  exact H.rg λe he=>s.holds e (by simp[G e he])
 .obtain ⟨E',H,G⟩:=R.own r hr
  exact H.rg λe he=>s.holds e (by simp[G e he])
 rintro e w' ⟨ad3,c3,E3,J,l,rfl,hld,hV3,hO3,hF3,hl3,B⟩
 have hvm:=Rh (mr:=16384) (ma:=1048576) hR.ok.vm R.ok.vm
 rw[<- hld] at hvm
 refine⟨_,_,rfl,s.join B,?_⟩
 refine J8 ?_
 refine JT (λh69=>?_) λh69=>?_
 exact Cd
 refine J15 ?_
 refine WL.to (L':=E3++(J++[.row u (mtL (Gk f j))])) (λw s=>s.AN (E2++K2++(E++K++[.row g11 (mtL tg),.row g6 k.cells,.row g5 j.cells,.row g4 p.cells])))<|J4 ?_
 refine oLp (λq:SnS=>[(72,iI q.i),(17,.slice q.ad q.ls.length q.c),(71,iI l.length),(70,.slice ad3 l.length c3),(10,pG u)]) (λq=>q.E++(E3++(J++[.row u (mtL (Gk f j))]))) (λq=>q.i<=l.length/\q.ls.length<=q.i/\Vec 19 q.ad q.ls.length q.c (BB q.ls) q.E/\(∀r∈q.ls,DE J r)/\(∀r∈q.ls,r.d.Fit)/\∀r∈q.ls,NI r.m f j) (λq=>l.length-q.i) ⟨0,0,[],none,0,[],[]⟩ ⟨Lv _,M2 _,Vec.nil 19,λr h=>Da,λr h=>Da,λr h=>Da⟩ ?_
 rintro⟨i,_,bs,ba,bc,EB,_⟩ ⟨hi,hbl,S,O,N,T⟩
 dsimp only at hi hbl S O N T⊢
 refine J2 ?_
 refine JT (λh73=>?_) λh73=>?_
 refine J10 ?_
 obtain⟨r,hr⟩:∃r,l[i]?=some r:=Gx
 have hrm:=Do hr
 have Z:r.d.Fit:=hF3 _ (by rw[<- hld];exact Ab5 hrm)
 have hrv:r.m.Vm:=hvm r.d (Ab5 hrm)
 obtain⟨b1,o1,ea1,r1⟩:=hV3.XS (L:=EB++(E3++(J++[.row u (mtL (Gk f j))]))) (λe he=>by simp[he]) Fv
 refine zV ((AA (b:=b1) (off:=o1) (lo:=i) U (by show some (Value.slice ad3 _ _)=_;rw[ea1]) U underlying54 BJ U W)) U ?_
 refine zV (AB (cs:=r.cells) U U Ji.h (RuL.len r) λw' B=>Rg.seg RuL.len (r1 _ _ w' B) hr) U<|zy U CZ.h U U<|?_
 intro F hg19
 refine J1 ?_
 refine WL.as (L':=.row F r.cells::(EB++(E3++(J++[.row u (mtL (Gk f j))])))) U<|J5 ?_
 refine zV (AB U U Ad.h U (AT (g:=F) (m:=18) (new:=mtL r.m) (Gr r))) U<|zV (AB U U Ad.h U (AL (g:=u))) U<|zk CkO U (λw s=>L6 w r.m (Gk f j) Z.isIn.m hbo.in_)<|?_
 generalize h82:(r.m.and (Gk f j)).isSome=b82
 obtain⟨m,hm⟩:∃m,(r.m.and (Gk f j)).getD mt0=m:=⟨_,rfl⟩
 rw[hm]
 refine J3 ?_
 skip
 cases b82
 refine zy U FR.h U U<|λy hg20=>J1 ?_
 refine WL.CD (g:=y) (cs':=mtL m) (AH U)<|J16 ?_
 exact eWx [.row y (mtL m),.row F r.cells] ⟨i+1,0,bs,ba,bc,EB,[]⟩ C7 ⟨C7,C7,S,O,N,T⟩
 refine zy U FR.h U U<|λy hg20=>J1 ?_
 refine WL.CD (g:=y) (cs':=mtL m) (AH U)<|J10 ?_
 obtain⟨m',hm'⟩:=Option.isSome_iff_exists.1 h82
 rw[hm'] at hm
 obtain rfl:m'=m:=hm
 obtain⟨_,hmb⟩:=Jb hm'
 obtain⟨nr,X⟩:∃nr:RuL,nr=⟨m',r.ad,r.c,r.acts⟩:=⟨_,rfl⟩
 have hnO:DE J nr:=(by obtain⟨E',H,G⟩:=hO3 r hrm;rw[X];exact⟨E',H,G⟩)
 have hnF:nr.d.Fit:=(by rw[X];exact Vy (by rw[hmb];exact Mt.Oh Z.isIn.m hbo.in_) (by rw[hmb];exact Mt.Oi Z.isIn.nz hbo.nz) λa ha=>Z.three ha)
 have hnW:NI nr.m f j:=(by rw[X];exact ZP hrv hm')
 refine J1 ?_
 refine zV (AB U U Ad.h U (AL (g:=y))) U<|J1 ?_
 refine zV (An U U DV (cellAt (v:=.slice r.ad r.acts.length r.c) (DQ r))) U<|zV ((GC U U CZ.h W5.h U).eq (v:=aA nr.cells) (by rw[X];rfl)) U ?_
 refine zB underlying54 BJ CZ.h Dp U ?_
 intro M hg89
 refine WL.to (L':=EB++(.row M nr.cells::(.row y (mtL m')::.row F r.cells::(E3++(J++[.row u (mtL (Gk f j))]))))) (λw s=>s.AJ)<|WL.AU U U U underlying54 underlying54 BJ NN CZ.h U U S (new:=nr.cells) (λ_=>⟨M,0,rfl,λw s=>AL (g:=M) w s⟩) (RuL.len nr) (BD Nn nr) W (.none U) U U<|λad90 c90 E90 hV90 hr90=>J8 ?_
 exact WE.to (L':=E90++(E3++(J++[.row u (mtL (Gk f j))]))) (λw s=>s.AN [.row M nr.cells,.row y (mtL m'),.row F r.cells]) (eW ⟨i+1,0,bs++[nr],ad90,c90,E90,[]⟩ C7 ⟨C7,by dsimp only;rw[AC,AbJ];omega,by dsimp only;rw[AC,show BB (bs++[nr])=BB bs++nr.cells from AX _ _ _];exact hV90,Mw O hnO λe he=>he,λz D=>by
 rcases LI.1 D with D|D
 .exact N z D
 .rw [Es.1 D];exact hnF,λz D=>by
 rcases LI.1 D with D|D
 .exact T z D
 .rw [Es.1 D];exact hnW⟩ (.int U C7 (.eq U Dc (.cons U (.cons U (.cons U .nil))))))
 refine J14 ?_
 refine JT (λh94=>?_) λh94=>?_
 exact Cd
 refine J13 ?_
 refine eT2 ?_
 exact λw' h=>⟨0,bs,ba,bc,EB,J,rfl,.inl U,S,O,⟨W,N,T⟩,h.AN (E3++[.row u (mtL (Gk f j))])⟩
end Gq

section
variable {P:Program}{C:World->Prop}{ops:Array Oper}{Q:Exit->Act->World->Prop}{n:Nat}{p:Nat->Prop}{w0:World}{o:Oper}{rest:List Oper}{l:Kn}{L:List Ent}
variable {t kt et d:Nat}{x xi:Operand}{K:Value->Prop}{A:Value}{es:Array MapEntry}{m:Value->Option Value}
theorem WL.UR(H:o.op=.call { callee:=.builtin .delete,args:=#[x,xi],argTypes:=#[t,kt] })(N:ev l x=some (.map (some B)))(G:ev l xi=some A)(M:P.underlying t=some (.map kt et))(hk:HD P kt K)(u:K A)
 [v:Loc L B (.obj B (.map es D)) T] (y:CP K es m) (F:On ops o l) (E:o.dst=none)
 (h:∀b,CP K b (CR m A none)->b.size=(if (m A).isSome then es.size-1 else es.size)->(MapKept.Stamped es D->MapKept.Stamped b D)->WL P ops Q n p w0 rest l (T (.obj B (.map b D)))):WL P ops Q n p w0 (o::rest) l L:=by
 refine WL.act F E λa w z s=>?_
 obtain⟨q,r,rfl,rfl⟩:=v.ok
 have c:=(s.holds (.obj B (.map es D)) C9).1
 obtain⟨b,J,f,j,i⟩:=Sx (P:=P) (ty:=o.type) (A:=A) (w:=w) M hk u c y
 refine⟨{ w with heap:=w.heap.setIfInBounds B (.map b D) },q++.obj B (.map b D)::r,.inr ⟨.tuple #[],?_⟩,?_,h b f j i⟩
 .have k:evs l [x,xi]=some [.map (some B),A]:=by simp[evs,N,G]
  obtain⟨O,h⟩:=BQ (P:=P) (w:=w) (xs:=[x,xi]) H k z
  rw[h]
  simp[builtin,J]
 .exact s.put (g:=B) (e:=.obj B (.map b D)) (hp:=⟨λ_=>⟨q,r,_,rfl,rfl,rfl⟩⟩) U Frm.setObj ⟨by
   have g:=(AbY.1 c).1
   simp[g],trivial⟩
theorem WL.WB(u:o.op=.call { callee:=.builtin .clear,args:=#[x],argTypes:=#[t] })(y:ev l x=some (.map (some B)))(v:P.underlying t=some (.map kt et))
 [k:Loc L B (.obj B (.map es D)) T] (s:On ops o l) (r:o.dst=none)
 (h:WL P ops Q n p w0 rest l (T (.obj B (.map #[] D)))):WL P ops Q n p w0 (o::rest) l L:=by
 refine WL.act s r λa w q j=>?_
 obtain⟨g,i,rfl,rfl⟩:=k.ok
 have b:=(j.holds (.obj B (.map es D)) C9).1
 refine⟨{ w with heap:=w.heap.setIfInBounds B (.map #[] D) },g++.obj B (.map #[] D)::i,.inr ⟨.tuple #[],?_⟩,?_,h⟩
 .have f:evs l [x]=some [.map (some B)]:=by simp[evs,y]
  obtain⟨z,h⟩:=BQ (P:=P) (w:=w) (xs:=[x]) u f q
  rw[h]
  simp[builtin,Builtin.clear_,Rr v,Ail b,MapKept.run_setObj_map _ b,Result.andThen]
 .exact j.put (g:=B) (e:=.obj B (.map #[] D)) (hp:=⟨λ_=>⟨g,i,_,rfl,rfl,rfl⟩⟩) U Frm.setObj ⟨by
   have c:=(AbY.1 b).1
   simp[c],trivial⟩
end
structure MpL where
 g:Nat
 es:Array MapEntry
 c:Nat
 M:Value->Option Value
structure MpL.Ok(K:Value->Prop)(x:MpL):Prop where
 im:CP K x.es x.M
 st:MapKept.Stamped x.es x.c
def MpL.ent(x:MpL):Ent:=.obj x.g (.map x.es x.c)

section
variable {P:Program}{C:World->Prop}{ops:Array Oper}{Q:Exit->Act->World->Prop}{n:Nat}{p:Nat->Prop}{w0:World}{o:Oper}{rest:List Oper}{l:Kn}{L:List Ent}
variable {t kt et d:Nat}{x xi:Operand}{K:Value->Prop}{A:Value}{es:Array MapEntry}{m:Value->Option Value}
theorem Sy{w:World}{ty:Nat}(k:P.underlying t=some (.map kt et))(hk:HD P kt K)(h:K A)(a:w.heap[D]?=some (.map es B))(q:CP K es m):
 ∃c,(Builtin.delete_ #[t,kt] ty #[.map (some D),A]).run P w=.ok (.tuple #[]) { w with heap:=w.heap.setIfInBounds D (.map c B) }/\c.toList.Sublist es.toList:=by
 have i:∀b,(Instr.checkKey b 10000 kt A).run P w=.ok () w:=λb=>hk.check b w A h
 rcases Ll hk h q w with⟨u,y,e⟩|⟨j,v,u,r,s,e⟩
 .refine ⟨es,?_,.refl _⟩
  simp[Builtin.delete_,Rr k,Ail a,MapKept.run_setObj_map _ a,i,e,Result.andThen]
 .have f:=(Eu.1 r).1
  have g:j<es.size:=by simpa using f
  refine⟨es.eraseIdxIfInBounds j,?_,?_⟩
  .simp [Builtin.delete_,Rr k,Ail a,MapKept.run_setObj_map _ a,i,e,Result.andThen]
  .unfold Array.eraseIdxIfInBounds
   rw[dif_pos g]
   simpa using List.eraseIdx_sublist es.toList j
theorem WL.AgT(X:o.op=.call { callee:=.builtin .delete,args:=#[x,xi],argTypes:=#[t,kt] })(hx:ev l x=some (.map (some B)))(S:ev l xi=some A)(G:P.underlying t=some (.map kt et))(hk:HD P kt K)(y:K A)
 [J:Loc L B (.obj B (.map es D)) T] (z:CP K es m) (R:On ops o l) (N:o.dst=none)
 (h:∀b,CP K b (CR m A none)->(MapKept.Stamped es D->MapKept.Stamped b D)->b.toList.Sublist es.toList->WL P ops Q n p w0 rest l (T (.obj B (.map b D)))):WL P ops Q n p w0 (o::rest) l L:=by
 refine WL.act R N λa w M E=>?_
 obtain⟨s,u,rfl,rfl⟩:=J.ok
 have c:=(E.holds (.obj B (.map es D)) C9).1
 obtain⟨b,F,k,Z,q⟩:=Sx (P:=P) (ty:=o.type) (A:=A) (w:=w) G hk y c z
 obtain⟨j,g,i⟩:=Sy (P:=P) (ty:=o.type) (A:=A) (w:=w) G hk y c z
 have f:=(AbY.1 c).1
 have O:b=j:=by
  rw[F] at g
  injection g with _ H
  have v:=If (λw:World=>w.heap[B]?) H
  simp[f] at v
  exact v
 subst O
 refine⟨{ w with heap:=w.heap.setIfInBounds B (.map b D) },s++.obj B (.map b D)::u,.inr ⟨.tuple #[],?_⟩,?_,h b k q i⟩
 .have r:evs l [x,xi]=some [.map (some B),A]:=by simp[evs,hx,S]
  obtain⟨cs,h⟩:=BQ (P:=P) (w:=w) (xs:=[x,xi]) X r M
  rw[h]
  simp[builtin,F]
 .exact E.put (g:=B) (e:=.obj B (.map b D)) (hp:=⟨λ_=>⟨s,u,_,rfl,rfl,rfl⟩⟩) U Frm.setObj ⟨by
   simp[f],trivial⟩
end
structure Ky3.In(k:Ky3):Prop where
 from_:I64 k.from_
 best:I64 k.best
 may:I64 k.may
def KFk:Value->Prop:=λv=>∃k:Ky3,v=.agg k.cells.toArray/\k.In
theorem KFk.mk{k:Ky3}(h:k.In):KFk (.agg k.cells.toArray):=⟨k,rfl,h⟩
theorem U9:HD prog 84 KFk:=by
 have L:WideMaps.KeyLaw prog 84:=deep_law (m:=4) C8 C6 C6 C6
 have B:HD prog 84 (λv=>∃l,keyOf prog 84 v=some l):=⟨λb w v ⟨l,h⟩=>L.check w b h,λw x es ⟨l,h⟩ D=>L.find w h es D,λw v ⟨l,h⟩=>L.stays w h⟩
 refine B.less λv ⟨k,e,hk⟩=>?_
 subst e
 have u:=QP hk.from_
 have y:=QP hk.best
 have z:=QP hk.may
 have s:prog.cellsOf 84=3:=C6
 have q:prog.keyType 84=true:=C6
 have j:prog.cellsOf 3=1:=C6
 have F:∃r,prog.keyLits (prog.types.size+1) 84 k.cells=some r:=by
  have G:prog.types.size-2+2=prog.types.size:=C6
  have g:∀x:Int,(Lit.int .i64 x).wf=true->prog.keyLits (prog.types.size-2+2) 3 [.int .i64 x]=some [Lit.int .i64 x]:=λx H=>by
   unfold Program.keyLits
   rw[underlying3]
   simp[H]
  have a:=g _ u
  have c:=g _ y
  have f:=g _ z
  rw[G] at a c f
  unfold Program.keyLits
  rw[underlying84]
  generalize prog.types.size=Z at a c f ⊢
  simp[Ky3.cells,s,j,a,c,f]
 obtain⟨r,h⟩:=F
 have E:(Value.agg k.cells.toArray).formed prog 84=true:=by
  unfold Value.formed
  rw[underlying84]
  simp[s,Ky3.cells]
 refine⟨.string (keyBytes r),?_⟩
 unfold keyOf
 rw[underlying84]
 have i:(Value.agg k.cells.toArray).cells.toList=k.cells:=rfl
 simp only[q,E,Bool.and_true,if_true,i,h,Option.map_some]
structure PoL where
 p:Nat
 most:Int
 t:MpL
 h:MpL
def PoL.row(b:PoL):List Value:=[.int .i64 b.most,.map (some b.t.g),.map (some b.h.g)]
def PoL.AE(b:PoL):List Ent:=[.row b.p b.row,.obj b.t.g (.map b.t.es b.t.c),.obj b.h.g (.map b.h.es b.h.c)]
def JE(k:Ky3)(u:Int):List Value:=k.cells++[.int .i64 u]
structure PoL.Ok(b:PoL):Prop where
 most:0<=b.most/\b.most<=65536
 t:b.t.Ok KFk
 tv:∀k u,b.t.M k=some u->∃t:Int,u=.int .i64 t/\0<=t/\t<=65536
 h:b.h.Ok (K7 .i64)
 hv:∀k u,b.h.M k=some u->∃(k:Ky3) (n:Int),u=.agg (JE k n).toArray/\k.In
theorem Ky3.QW:Ky3.In ⟨0,0,0⟩:=⟨by unfold I64;decide,by unfold I64;decide,by unfold I64;decide⟩
theorem PoL.Ok.use{b:PoL}(h:b.Ok)(t:Int):∃(k:Ky3) (n:Int),(b.h.M (.int .i64 t)).getD (.agg (JE ⟨0,0,0⟩ 0).toArray)=.agg (JE k n).toArray/\k.In:=by
 cases a:b.h.M (.int .i64 t) with
 | none=>exact⟨_,_,rfl,Ky3.QW⟩
 | some u=>obtain⟨k,n,e,hk⟩:=h.hv _ _ a;exact⟨k,n,e,hk⟩
theorem PoL.Ok.useU{b:PoL}(h:b.Ok){t:Int}{k:Ky3}{n:Int}(hk:k.In):∀x u,CR b.h.M (.int .i64 t) (some (.agg (JE k n).toArray)) x=some u->∃(k:Ky3) (n:Int),u=.agg (JE k n).toArray/\k.In:=λx u a=>by
 by_cases e:x=.int .i64 t
 .subst e;rw[DC] at a;cases a;exact⟨k,n,rfl,hk⟩
 .rw [CI _ _ e] at a;exact h.hv x u a
theorem Z5(p0:Nat->Prop)(w0 w1:World)(b:PoL)(k:Ky3)(L:List Ent)(a:b.Ok)(hk:k.In)(J:St p0 w0 w1 (b.AE++L)):
 Calls prog 181 #[.pointer (some ⟨b.p,0,none⟩),.agg k.cells.toArray] w1 λe E=>∃(t r:Int) (F:PoL),e=.returned (.tuple #[.int .i64 t,.int .i64 r])/\(0<=t/\t<=65536)/\(r=0\/r=31)/\F.p=b.p/\F.Ok/\St p0 w0 E (F.AE++L):=by
 have v:=a.most
 have N:St p0 w0 w1 (.row b.p b.row::.obj b.t.g (.map b.t.es b.t.c)::.obj b.h.g (.map b.h.es b.h.c)::L):=J
 obtain⟨t0,T,X⟩:∃t0:Int,(b.t.M (.agg k.cells.toArray)).getD (.int .i64 0)=.int .i64 t0/\0<=t0/\t0<=65536:=by
  cases hc:b.t.M (.agg k.cells.toArray) with
  | none=>exact⟨0,rfl,W⟩
  | some u=>obtain⟨t,e,h1,h2⟩:=a.tv _ _ hc;exact⟨t,e,h1,h2⟩
 obtain⟨k0,u0,Z,hk0⟩:=a.use t0
 refine enter func181 U ntmps181 U N<|cR<|WL.box U U U (.none U) U U<|?_
 intro D hg3
 refine zA U<|zA U<|zN<|cS<|cR<|zM U<|zV (AI false U U underlying75 U) U<|zN<|cF U<|cK<|eN<|cS<|cS<|?_
 refine cQ mixed<|qV (DG U U) U<|qV (GP U U) U<|qV (FG U U Aeo.h) U<|qV (An U U Vq (cellAt (g:=b.p) (cs:=b.row) U)) U<|qV (AB U U Mi.h U AL) U<|?_
 refine qV (ED (z:=.int .i64 0) U U U underlying206 U9 (KFk.mk hk) C6 (C4 (es:=b.t.es) b.t.g (c:=b.t.c) C9) a.t.im) U ?_
 rw[T]
 generalize hhad:(b.t.M (.agg k.cells.toArray)).isSome=O
 refine qV (DG U U) U<|qV (CB U U U) U<|qV (CB U U U) U<|qV (MG U U) U<|qV (MG U U) U<|WQ.nil<|eN<|cR<|zM U<|?_
 skip
 cases O
 refine zN<|cF U<|cK<|eN<|cS<|cR<|zM U<|zC U<|zF U Ab7<|zV (An U U i3o.h (cellAt (g:=b.p) (cs:=b.row) U)) U<|zM U<|zN<|cB<|?_
 refine WC.loop (λj:Nat=>[(43,.int .i64 j),(42,.int .i64 b.most),(0,.pointer (some ⟨b.p,0,none⟩)),(3,.pointer (some ⟨D,0,none⟩))]) (λ_=>.row D k.cells::.row b.p b.row::.obj b.t.g (.map b.t.es b.t.c)::.obj b.h.g (.map b.h.es b.h.c)::L) (λj=>(j:Int)<=b.most) (λj=>b.most.toNat-j) 0 v.1 (.cons U (.cons U (.cons U (.cons U .nil)))) (.refl _) ?_
 rintro j hj
 refine cR<|zT (JF U U U) U (λG=>?_) (λG=>?_)
 refine zN<|cS<|cT U<|cK<|eN<|cS<|cB<|cR<|?_
 obtain⟨kj,uj,aa,hkj⟩:=a.use (j:Int)
 refine zM U<|zA U<|zR<|zM U<|zC U<|zV (FG U U U4.h) U<|zV (An U U IY (cellAt (g:=b.p) (cs:=b.row) U)) U<|zM U<|?_
 refine zV (ED (z:=.agg (JE ⟨0,0,0⟩ 0).toArray) U U U underlying207 (OF underlying3) (K7.mk _ _) C6 (C4 (es:=b.h.es) b.h.g (c:=b.h.c) C9) a.h.im) U ?_
 rw[aa]
 generalize hhas:(b.h.M (.int .i64 (j:Int))).isSome=R
 refine zM U<|zX U<|zX U<|WL.alloc U KW (.none U) U U<|?_
 intro g9 hg9
 refine WL.Afz U U U U i299m.h U U (.none U) U<|zA U<|zR<|zM U<|?_
 skip
 cases R
 refine zV (Abt U U U) U<|zN<|cT U<|cS<|WC.AS mixed<|rF 3 [0,1,2,5]<|pV (DG U U) U<|pV (GP U U) U<|pV (FG U U Aeo.h) U<|pV (DG U U) U<|WP.nil<|rA 1 [3,4] U<|qV (An U U Vq (cellAt (g:=b.p) (cs:=b.row) U)) U<|qV (AB U U Mi.h U AL) U<|?_
 refine WQ.Y6<|rO 0 [6]<|WL.EH U U U U underlying206 U9 (KFk.mk hk) (a.t.im) (.none U) U<|?_
 intro q cT H hsT B
 refine zH<|rD<|eN<|cS<|WC.AS mixed<|rF 4 [0,1,2,4]<|pV (DG U U) U<|pV (GP U U) U<|pV (FG U U U4.h) U<|pV (DG U U) U<|WP.nil<|rA 1 [3,5,6] U<|qV (An U U IY (cellAt (g:=b.p) (cs:=b.row) U)) U<|qV (AB U U Mi.h U AL) U<|?_
 refine qV (GC U U KW Aa3 U) U<|WQ.Y6<|rO 0 [7]<|WL.EH U U U U underlying207 (OF underlying3) (K7.mk _ _) (a.h.im) (.none U) U<|?_
 intro f y s S i
 refine zH<|rD<|eN<|cR<|zM U<|zA U<|zA U<|zN<|cE<|eB<|eR<|eR<|eB<|?_
 refine eR<|WE.ret2 (P:=prog) (.inl U) results181 U U<|?_
 exact λE h=>⟨j,0, { b with t:=⟨b.t.g,q,cT,_⟩,h:=⟨b.h.g,f,y,_⟩ },rfl,W,.inl U,rfl,⟨v,⟨H,B a.t.st⟩,λx u w=>by
 have w:CR b.t.M (.agg k.cells.toArray) (some (.int .i64 (j:Int))) x=some u:=w
 by_cases e:x=.agg k.cells.toArray
 .subst e;rw[DC] at w;cases w;exact⟨j,rfl,W⟩
 .rw [CI _ _ e] at w;exact a.tv x u w,⟨s,i a.h.st⟩,a.useU (k:=k) (n:=1) hk⟩,St.AN (L:=.row g9 (JE kj uj)::.row D k.cells::.row b.p b.row::.obj b.t.g (.map q cT)::.obj b.h.g (.map f y)::L) (L':=.row b.p b.row::.obj b.t.g (.map q cT)::.obj b.h.g (.map f y)::L) [.row g9 (JE kj uj),.row D k.cells] h⟩
 refine zV (Abt U U U) U<|zN<|cF U<|cK<|eY<|eN<|WC.region<|?_
 refine zV (EW U U U (DK W W)) U<|zM U<|WL.nil<|?_
 exact WE.next (j+1) W W (.int U W (.cons U (.cons U (.cons U .nil)))) (.cons _ (.refl _))
 refine zN<|cS<|cF U<|cX<|eX<|eX<|eH<|eN<|cR<|zA U<|zA U<|zN<|cE<|?_
 exact WE.ret2 (P:=prog) (.inl U) results181 U U<|λE h=>⟨0,31,b,rfl,W,.inr U,rfl,a,h.tail⟩
 refine zN<|cT U<|cS<|WC.AS mixed<|rF 8 [0,1,2,4,6,7,8,10]<|pV (DG U U) U<|pV (GP U U) U<|pV (FG U U U4.h) U<|pV (DG U U) U<|pV (DG U U) U<|pV (GP U U) U<|pV (FG U U U4.h) U<|pV (DG U U) U<|WP.nil<|?_
 refine rA 1 [3,5,9,11,12,13,14] U<|qV (An U U IY (cellAt (g:=b.p) (cs:=b.row) U)) U<|qV (AB U U Mi.h U AL) U<|qV (An U U IY (cellAt (g:=b.p) (cs:=b.row) U)) U<|?_
 refine qV (HP (z:=.agg (JE ⟨0,0,0⟩ 0).toArray) U U U underlying207 (OF underlying3) (K7.mk _ _) C6 (C4 (es:=b.h.es) b.h.g (c:=b.h.c) C9) a.h.im) U ?_
 rw[Z]
 refine qV (MI U U i299_1.h i3o.h U) U<|qV (EW U U U (rfl)) U<|qV (GC U U KW Aa3 U) U<|WQ.Y6<|rO 0 [15]<|WL.EH U U U U underlying207 (OF underlying3) (K7.mk _ _) (a.h.im) (.none U) U<|?_
 intro f y s S i
 refine zH<|rD<|eN<|cR<|zM U<|zA U<|zA U<|zN<|cE<|eR<|WE.ret2 (P:=prog) (.inl U) results181 U U<|?_
 exact λE h=>⟨t0,0, { b with h:=⟨b.h.g,f,y,_⟩ },rfl,X,.inl U,rfl,⟨v,a.t,a.tv,⟨s,i a.h.st⟩,a.useU (k:=k) (n:=IntKind.i64.wrap (u0+1)) hk⟩,h.tail⟩
section Gq
attribute [local irreducible] WL WC WE WQ WP WH WR WM WRH

theorem X5{M:Vl->Option Vl}{x k u:Vl}(h:CR M x none k=some u):M k=some u:=by
 by_cases e:k=x
 .subst e;rw[DC] at h;cases h
 .rwa [CI _ _ e] at h
structure Adb(b b':PoL):Prop where
 p:b'.p=b.p
 most:b'.most=b.most
 tg:b'.t.g=b.t.g
 hg:b'.h.g=b.h.g
 hc:b'.h.c=b.h.c
 sub:b'.h.es.toList.Sublist b.h.es.toList
 ok:b'.Ok
theorem Z3(B:Nat->Prop)(w0 D:Wd)(b:PoL)(t:Int)(k:Ky3)(L:eL)(a:b.Ok)(hk:k.In)(w:St B w0 D (b.AE++L)):
 Cl 179 #[pG b.p,iI t,aA k.cells] D λe F=>∃E:PoL,e=.returned (.tuple #[])/\Adb b E/\St B w0 F (E.AE++L):=by
 have y:St B w0 D (.row b.p b.row::.obj b.t.g (.map b.t.es b.t.c)::.obj b.h.g (.map b.h.es b.h.c)::L):=w
 refine enter func179 U ntmps179 U y<|J2 ?_
 refine zx U U U U U<|λJ G=>J7 ?_
 refine zV (An U U IY (cellAt (g:=b.p) (cs:=b.row) U)) U<|J1 ?_
 refine WL.AgT U U U underlying207 (OF underlying3) (K7.mk _ _) a.h.im (.none U) U<|λq s i f=>J2 ?_
 refine WC.AS mixed<|rF 3 [0,1,2]<|?_
 refine J4 ?_
 refine rA 1 [3,4] U<|qV (An U U Vq (cellAt (g:=b.p) (cs:=b.row) U)) U<|?_
 refine J2 ?_
 refine rO 0 [5]<|WL.UR U U U underlying206 U9 (KFk.mk hk) (a.t.im) (.none U) U<|?_
 intro r v H j
 refine J2 ?_
 refine WE.LC (P:=prog) (.inr U) results179  ?_
 exact λF h=>⟨{ b with t:=⟨b.t.g,r,b.t.c,_⟩,h:=⟨b.h.g,q,b.h.c,_⟩ },rfl,⟨rfl,rfl,rfl,rfl,rfl,f,⟨a.most,⟨v,j a.t.st⟩,λx u z=>a.tv x u (X5 z),⟨s,i a.h.st⟩,λx u z=>a.hv x u (X5 z)⟩⟩,h.tail⟩
theorem Z4(F:Nat->Prop)(w0 H:Wd)(b:PoL)(t:Int)(L:eL)(a:b.Ok)(y:St F w0 H (b.AE++L)):
 Cl 117 #[pG b.p,iI t] H λe G=>∃(r:Int) (k:PoL),e=.returned (iI r)/\k.p=b.p/\k.Ok/\St F w0 G (k.AE++L):=by
 have B:St F w0 H (.row b.p b.row::.obj b.t.g (.map b.t.es b.t.c)::.obj b.h.g (.map b.h.es b.h.c)::L):=y
 obtain⟨M,i,E,D⟩:=a.use t
 refine enter func117 U ntmps117 U B<|J9 ?_
 refine zV (AI false U U underlying75 U) U<|J10 ?_
 refine zV (An U U IY (cellAt (g:=b.p) (cs:=b.row) U)) U<|J1 ?_
 refine zV (HP (z:=.agg (JE ⟨0,0,0⟩ 0).toArray) U U U underlying207 (OF underlying3) (K7.mk _ _) C6 (C4 (es:=b.h.es) b.h.g (c:=b.h.c) C9) a.h.im) U ?_
 rw[E]
 refine zy U KW U U<|λj R=>J7 ?_
 refine zV (An U U i3o.h (cellAt (g:=j) (v:=iI i) U)) U<|JT (λs=>?_) (λs=>?_)
 refine J10 ?_
 refine eT1 ?_
 exact λG h=>⟨4,b,rfl,rfl,a,h.tail⟩
 refine J8 ?_
 refine zV (An U U i3o.h (cellAt (g:=j) (v:=iI i) U)) U<|zV (GD U U U (rfl)) U<|?_
 refine J2 ?_
 refine WL.as (L':=.row j (JE M (IntKind.i64.wrap (i-1)))::.row b.p b.row::.obj b.t.g (.map b.t.es b.t.c)::.obj b.h.g (.map b.h.es b.h.c)::L) U<|J3 ?_
 refine WC.AS mixed<|rF 3 [0,1,2,4]<|?_
 refine J5 ?_
 refine rA 1 [3,5] U<|qV (An U U IY (cellAt (g:=b.p) (cs:=b.row) U)) U<|qV (AB (cs:=JE M (IntKind.i64.wrap (i-1))) U U i299m.h U λw O=>AL (g:=j) w O) U<|?_
 refine J1 ?_
 refine rO 0 [6]<|WL.EH U U U U underlying207 (OF underlying3) (K7.mk _ _) (a.h.im) (.none U) U<|?_
 intro q N u S f
 refine J9 ?_
 refine eT1 ?_
 exact λG h=>⟨0, { b with h:=⟨b.h.g,q,N,_⟩ },rfl,rfl,⟨a.most,a.t,a.tv,⟨u,f a.h.st⟩,a.useU (n:=IntKind.i64.wrap (i-1)) D⟩,h.tail⟩
theorem Uw(w:Nat->Prop)(w0 O:Wd)(b:PoL)(t:Int)(L:eL)(S:b.Ok)(H:St w w0 O (b.AE++L)):
 Cl 104 #[pG b.p,iI t] O λe q=>∃(r:Int) (D:PoL),e=.returned (iI r)/\D.p=b.p/\D.Ok/\St w w0 q (D.AE++L):=by
 refine enter func104 U ntmps104 U H<|J10 ?_
 refine zK CkO U<|λB G=>(Z4 w w0 B b t L S G).mono ?_
 rintro e q ⟨r,a,rfl,M,i,j⟩
 rw[<- M]
 refine⟨_,.row a.p a.row::.obj a.t.g (.map a.t.es a.t.c)::.obj a.h.g (.map a.h.es a.h.c)::L,rfl,j,?_⟩
 obtain⟨k,y,N,J⟩:=i.use t
 refine J6 ?_
 refine JT (λE=>?_) λE=>?_
 refine J11 ?_
 refine eT1 ?_
 exact λq h=>⟨r,a,rfl,rfl,i,h⟩
 refine J11 ?_
 refine zV (An U U IY (cellAt (g:=a.p) (cs:=a.row) U)) U<|J1 ?_
 refine zV (HP (z:=.agg (JE ⟨0,0,0⟩ 0).toArray) U U U underlying207 (OF underlying3) (K7.mk _ _) C6 (C4 (es:=a.h.es) a.h.g (c:=a.h.c) C9) i.h.im) U ?_
 rw[N]
 refine zy U KW U U<|λs T=>J6 ?_
 refine zV (An U U i3o.h (cellAt (g:=s) (v:=iI y) U)) U<|JT (λF=>?_) (λF=>?_)
 refine J7 ?_
 refine zV (AB (cs:=k.cells) U U Mi.h U (AT (m:=3) U)) U<|zK CkO U<|?_
 intro B G
 have R:St w w0 B (a.AE++(.row s (JE k y)::L)):=St.AJ (L':=.row a.p a.row::.obj a.t.g (.map a.t.es a.t.c)::.obj a.h.g (.map a.h.es a.h.c)::.row s (JE k y)::L) G
 refine(Z3 w w0 B a t k _ i J R).mono ?_
 rintro e q ⟨f,rfl,u,j⟩
 refine⟨_,_,rfl,j,?_⟩
 refine J8 ?_
 refine eT1 ?_
 exact λq h=>⟨0,f,rfl,u.p,u.ok,St.AN (L:=.row f.p f.row::.obj f.t.g (.map f.t.es f.t.c)::.obj f.h.g (.map f.h.es f.h.c)::.row s (JE k y)::L) (L':=.row f.p f.row::.obj f.t.g (.map f.t.es f.t.c)::.obj f.h.g (.map f.h.es f.h.c)::L) [.row s (JE k y)] h⟩
 refine J11 ?_
 refine eT1 ?_
 exact λq h=>⟨0,a,rfl,rfl,i,h.tail⟩
theorem ZB{es a:Array MapEntry}(h:a.toList.Sublist es.toList)(seen:Array Nat):JD a seen<=JD es seen:=(h.filter _).length_le
structure SweS where
 seen:Array Nat
 b:PoL
 n:Int
theorem Ada(z:Nat->Prop)(w0 Z:Wd)(b:PoL)(L:eL)(hO:b.Ok)(N:St z w0 Z (b.AE++L)):
 Cl 100 #[pG b.p] Z λe F=>∃(r:Int) (H:PoL),e=.returned (iI r)/\H.p=b.p/\H.Ok/\St z w0 F (H.AE++L):=by
 have O:St z w0 Z (.row b.p b.row::.obj b.t.g (.map b.t.es b.t.c)::.obj b.h.g (.map b.h.es b.h.c)::L):=N
 refine enter func100 U ntmps100 U O<|J9 ?_
 refine zV (AI false U U underlying75 U) U<|J16 ?_
 refine zV (An U U IY (cellAt (g:=b.p) (cs:=b.row) U)) U<|WL.range (es:=b.h.es) (c:=b.h.c) U U underlying207 C9 (.none U) U U<|λq hg12=>J3 ?_
 refine oLp (λx:SweS=>[(12,pG q),(3,iI x.n),(0,pG b.p)]) (λx=>.obj q (.mapIter (some b.h.g) b.h.c x.seen b.h.c)::.row b.p x.b.row::.obj x.b.t.g (.map x.b.t.es x.b.t.c)::.obj b.h.g (.map x.b.h.es b.h.c)::L) (λx=>Adb b x.b) (λx=>JD x.b.h.es x.seen) ⟨#[],b,0⟩ ⟨rfl,rfl,rfl,rfl,rfl,.refl _,hO⟩ ?_
 rintro⟨seen,f,n⟩ a
 dsimp only at a⊢
 have w:MapKept.Stamped f.h.es b.h.c:=(by rw[<- a.hc];exact a.ok.h.st)
 refine J2 ?_
 refine WL.next U U C9 (w) (.none U) U U (λS=>?_) λi s u=>?_
 refine J17 ?_
 refine eT1 ?_
 exact λF h=>⟨n,f,rfl,a.p,a.ok,by
 have G:St z w0 F (.row f.p f.row::.obj f.t.g (.map f.t.es f.t.c)::.obj f.h.g (.map f.h.es f.h.c)::L):=(by rw[a.p,a.hg,a.hc];exact h.tail)
 exact G⟩
 refine J1 ?_
 obtain⟨t0,T⟩:=a.ok.h.im.keys i s
 obtain⟨y,D,X,R⟩:=a.ok.hv i.key i.val ((a.ok.h.im.get _ _).2 ⟨i,s,rfl,rfl⟩)
 refine J9 ?_
 refine zV ((LL U U (es:=f.h.es) (g:=b.h.g) (c:=b.h.c) (since:=b.h.c) (seen:=seen) C9 C9 w s).eq (v:=.tuple #[iI t0,.agg (JE y D).toArray]) (by rw[T,X])) U ?_
 refine J2 ?_
 refine zy U KW U U<|λB hg5=>J7 ?_
 refine zV (An U U i3o.h (cellAt (g:=B) (v:=iI D) U)) U<|JT (λJ=>?_) (λJ=>?_)
 refine J8 ?_
 refine zV (AB (cs:=y.cells) U U Mi.h U (AT (g:=B) (m:=3) U)) U<|zK CkO U<|?_
 intro w2 hS
 have h1:St z w0 w2 (f.AE++(.row B (JE y D)::.obj q (.mapIter (some b.h.g) b.h.c (seen.push i.born) b.h.c)::L)):=(by
  have h0:St z w0 w2 (.row B (JE y D)::.obj q (.mapIter (some b.h.g) b.h.c (seen.push i.born) b.h.c)::.row f.p f.row::.obj f.t.g (.map f.t.es f.t.c)::.obj f.h.g (.map f.h.es f.h.c)::L):=(by rw[a.p,a.hg,a.hc];exact hS)
  exact St.AJ (L':=.row f.p f.row::.obj f.t.g (.map f.t.es f.t.c)::.obj f.h.g (.map f.h.es f.h.c)::.row B (JE y D)::.obj q (.mapIter (some b.h.g) b.h.c (seen.push i.born) b.h.c)::L) h0)
 have E:=Z3 z w0 w2 f t0 y _ a.ok R h1
 rw[a.p] at E
 refine E.mono ?_
 rintro e F ⟨k,rfl,j,M⟩
 refine⟨_,.obj q (.mapIter (some b.h.g) b.h.c (seen.push i.born) b.h.c)::.row b.p k.row::.obj k.t.g (.map k.t.es k.t.c)::.obj b.h.g (.map k.h.es b.h.c)::L,rfl,?_,?_⟩
 .have G:St z w0 F (.obj q (.mapIter (some b.h.g) b.h.c (seen.push i.born) b.h.c)::.row k.p k.row::.obj k.t.g (.map k.t.es k.t.c)::.obj k.h.g (.map k.h.es k.h.c)::L):=St.AN (L:=.row k.p k.row::.obj k.t.g (.map k.t.es k.t.c)::.obj k.h.g (.map k.h.es k.h.c)::.row B (JE y D)::.obj q (.mapIter (some b.h.g) b.h.c (seen.push i.born) b.h.c)::L) [.row B (JE y D)] M
  rw[j.p,a.p,j.hg,a.hg,j.hc,a.hc] at G
  exact G
 refine J4 ?_
 refine zV (EW U U U (rfl)) U<|J3 ?_
 exact eW ⟨seen.push i.born,k,IntKind.i64.wrap (n+1)⟩ (Nat.lt_of_le_of_lt (ZB j.sub _) (HA s u)) ⟨j.p.trans a.p,j.most.trans a.most,j.tg.trans a.tg,j.hg.trans a.hg,j.hc.trans a.hc,j.sub.trans a.sub,j.ok⟩
 refine J5 ?_
 exact eW ⟨seen.push i.born,f,n⟩ (HA s u) a

theorem EqI_c(w0:Wd)(i:Option Addr)(c:Nat)(a:List Int)(b:Option Addr)(s:Nat)(f:List Int)(v:AQ w0 i (CN a))(w:AQ w0 b (CN f))(F:a.length<=140737488355328):
 Cl 270 #[.slice i a.length c,.slice b f.length s] w0 (RvF (.bool (decide (a=f))) w0):=by
 refine en0 func270 U ntmps270 U<|J12 ?_
 refine JT (λh10=>?_) λh10=>?_
 exact Cc
 refine J14 ?_
 refine oLp (λk:Nat=>[(13,iI k),(12,iI a.length),(0,.slice i a.length c),(1,.slice b f.length s)]) (λ_=>[]) (λk=>k<=a.length/\∀j,j<k->a[j]?=f[j]?) (λk=>a.length-k) 0 ⟨Lv _,λj h=>absurd h (Ac5 _)⟩ ?_
 rintro k ⟨hk,g⟩
 refine J2 ?_
 refine JT (λq=>?_) λq=>?_
 refine J10 ?_
 obtain⟨x,hx1⟩:∃x,a[k]?=some x:=Gx
 obtain⟨y,hy1⟩:∃x,f[k]?=some x:=Gx
 obtain⟨D,G,rfl,z⟩:=v Fg
 obtain⟨E,H,rfl,B⟩:=w Fg
 refine J5 ?_
 refine cQ mixed<|J2 ?_
 refine qV (AA (lo:=k) U U U underlying34 AZ W W) U<|qV (An U U i3o.h ((cellOf (λh=>h) z (Ip hx1)))) U<|J2 ?_
 refine qV (AA (lo:=k) U U U underlying34 AZ W W) U<|qV (An U U i3o.h ((cellOf (λh=>h) B (Ip hy1)))) U<|JT (λh24=>?_) (λh24=>?_)
 exact Br
 refine J10 ?_
 exact eW (k+1) W ⟨W,λj u=>by
 by_cases r:j=k
 .subst r;rw[hx1,hy1];exact If some (Ago h24)
 .exact g j W⟩
 refine J15 ?_
 refine eT1 ?_
 exact λw' h=>⟨by rw[UV (AhO λj=>by
 by_cases u:j<k
 .exact g j u
 .rw [AcL W,AcL W])],h.frm⟩
theorem EqB_c(w0:Wd)(i:Option Addr)(c:Nat)(a:List Int)(b:Option Addr)(s:Nat)(f:List Int)(v:AQ w0 i (u8s a))(w:AQ w0 b (u8s f))(F:a.length<=140737488355328):
 Cl 275 #[.slice i a.length c,.slice b f.length s] w0 (RvF (.bool (decide (a=f))) w0):=by
 refine en0 func275 U ntmps275 U<|J12 ?_
 refine JT (λh10=>?_) λh10=>?_
 exact Cc
 refine J14 ?_
 refine oLp (λk:Nat=>[(13,iI k),(12,iI a.length),(0,.slice i a.length c),(1,.slice b f.length s)]) (λ_=>[]) (λk=>k<=a.length/\∀j,j<k->a[j]?=f[j]?) (λk=>a.length-k) 0 ⟨Lv _,λj h=>absurd h (Ac5 _)⟩ ?_
 rintro k ⟨hk,g⟩
 refine J2 ?_
 refine JT (λq=>?_) λq=>?_
 refine J10 ?_
 obtain⟨x,hx1⟩:∃x,a[k]?=some x:=Gx
 obtain⟨y,hy1⟩:∃x,f[k]?=some x:=Gx
 obtain⟨D,G,rfl,z⟩:=v (by rw[VI];omega)
 obtain⟨E,H,rfl,B⟩:=w (by rw[VI];omega)
 refine J5 ?_
 refine cQ mixed<|J2 ?_
 refine qV (AA (lo:=k) U U U underlying109 sz_5 W W) U<|qV (An U U i5o.h ((cellOf (λh=>h) z (Abp hx1)))) U<|J2 ?_
 refine qV (AA (lo:=k) U U U underlying109 sz_5 W W) U<|qV (An U U i5o.h ((cellOf (λh=>h) B (Abp hy1)))) U<|JT (λh24=>?_) (λh24=>?_)
 exact Br
 refine J10 ?_
 exact eW (k+1) W ⟨W,λj u=>by
 by_cases r:j=k
 .subst r;rw[hx1,hy1];exact If some (Ago h24)
 .exact g j W⟩
 refine J15 ?_
 refine eT1 ?_
 exact λw' h=>⟨by rw[UV (AhO λj=>by
 by_cases u:j<k
 .exact g j u
 .rw [AcL W,AcL W])],h.frm⟩
theorem Agx(w0:Wd)(s t:BR)(g:AQ w0 s.ad (CN s.asl))(i:AQ w0 t.ad (CN t.asl))(f:s.asl.length<=140737488355328):
 Cl 272 #[aA s.cells,aA t.cells] w0 (RvF (.bool (decide (s.say=t.say))) w0):=by
 refine en0 func272 U ntmps272 U<|J2 ?_
 refine zx U U U U U<|λj b=>zx U U U U U<|λk c=>J9 ?_
 refine zT (ZI U U U underlying4) U (λh9=>?_) λh9=>?_
 refine J5 ?_
 refine zk CkO U (λw a=>EqI_c w s.ad s.cap s.asl t.ad t.cap t.asl (g.frm (a.rng λ_ h=>h)) (i.frm (a.rng λ_ h=>h)) f)<|J5 ?_
 refine eT1 ?_
 exact λw' h=>⟨by rw[show decide (s.say=t.say)=decide (s.asl=t.asl) from decide_eq_decide.2 ⟨λe=>If Prod.snd e,λe=>Prod.ext h9 e⟩],h.frm⟩
 exact B9
theorem EqF1_c(w0:Wd)(v:Option Addr)(c:Nat)(a:List BR)(i:Option Addr)(M:Nat)(q:List BR)(T:BH w0 v 2 BR.cells a)(X:BH w0 i 2 BR.cells q)(G:∀s∈a,AQ w0 s.ad (CN s.asl)/\s.asl.length<=140737488355328)(H:∀s∈q,AQ w0 s.ad (CN s.asl))(hn:a.length<=1000000):
 Cl 271 #[.slice v a.length c,.slice i q.length M,.func (.func 272) #[] #[]] w0 (RvF (.bool (decide (a.map BR.say=q.map BR.say))) w0):=by
 refine en0 func271 U ntmps271 U<|J12 ?_
 refine JT (λh14=>?_) λh14=>?_
 exact Bh
 refine J14 ?_
 refine oLp (λk:Nat=>[(17,iI k),(16,iI a.length),(15,.slice v a.length c),(1,.slice i q.length M),(2,.func (.func 272) #[] #[])]) (λ_=>[]) (λk=>k<=a.length/\∀j,j<k->(a.map BR.say)[j]?=(q.map BR.say)[j]?) (λk=>a.length-k) 0 ⟨Lv _,λj h=>absurd h (Ac5 _)⟩ ?_
 rintro k ⟨hk,r⟩
 refine J2 ?_
 refine JT (λD=>?_) λD=>?_
 refine J10 ?_
 obtain⟨x,b⟩:∃x,a[k]?=some x:=Gx
 obtain⟨y,f⟩:∃x,q[k]?=some x:=Gx
 obtain⟨b1,o1,rfl,Z⟩:=T k x b
 obtain⟨b2,o2,rfl,r2⟩:=X k y f
 have u:=G x (Do b)
 have J:=H y (Do f)
 refine J1 ?_
 refine zV (AA (lo:=k) U U U underlying33 Ia W W) U<|zV (AB (cs:=BR.cells x) U U W2.h U (DP (λh=>h) Z)) U<|zy U KV U U<|?_
 intro g8 R
 refine J8 ?_
 refine zV (AA (lo:=k) U U U underlying33 Ia W W) U<|zV (AB (cs:=BR.cells y) U U W2.h U (DP (λh=>h) r2)) U<|zy U KV U U<|?_
 intro g9 S
 refine J8 ?_
 refine WL.FQ U U U CkO (.none U) U U<|λw E=>Calls.then (Agx w x y (u.1.frm (E.rng λ_ h=>h)) (J.frm (E.rng λ_ h=>h)) u.2) E ?_
 generalize g:decide (BR.say x=BR.say y)=B
 cases B
 refine J15 ?_
 refine eT1 ?_
 exact λw' h=>⟨by rw[Ro (λe=>Aep g (by
 have N:=If (λz=>z[k]?) e
 rw[WF,WF,b,f] at N
 exact Ade N))],h.frm⟩
 refine J11 ?_
 exact eW (k+1) W ⟨W,λj O=>by
 by_cases F:j=k
 .subst F;rw[WF,WF,b,f];exact If some (Ai8 g)
 .exact r j W⟩
 refine J15 ?_
 refine eT1 ?_
 exact λw' h=>⟨by rw[UV (AhO λj=>by
 by_cases O:j<k
 .exact r j O
 .rw [AcL Dq,AcL Dq])],h.frm⟩
theorem Agy(w0:Wd)(s t:CS)(g:AQ w0 s.ad (u8s s.val))(i:AQ w0 t.ad (u8s t.val))(f:s.val.length<=140737488355328):
 Cl 274 #[aA s.cells,aA t.cells] w0 (RvF (.bool (decide (s.say=t.say))) w0):=by
 refine en0 func274 U ntmps274 U<|J2 ?_
 refine zx U U U U U<|λj b=>zx U U U U U<|λk c=>J9 ?_
 refine JT (λh9=>?_) λh9=>?_
 refine J5 ?_
 refine zk CkO U (λw a=>EqB_c w s.ad s.cap s.val t.ad t.cap t.val (g.frm (a.rng λ_ h=>h)) (i.frm (a.rng λ_ h=>h)) f)<|J5 ?_
 refine eT1 ?_
 exact λw' h=>⟨by rw[show decide (s.say=t.say)=decide (s.val=t.val) from decide_eq_decide.2 ⟨λe=>If Prod.snd e,λe=>Prod.ext h9 e⟩],h.frm⟩
 exact B9
theorem EqF2_c(w0:Wd)(v:Option Addr)(c:Nat)(a:List CS)(i:Option Addr)(M:Nat)(q:List CS)(T:BH w0 v 2 CS.cells a)(X:BH w0 i 2 CS.cells q)(G:∀s∈a,AQ w0 s.ad (u8s s.val)/\s.val.length<=140737488355328)(H:∀s∈q,AQ w0 s.ad (u8s s.val))(hn:a.length<=1000000):
 Cl 273 #[.slice v a.length c,.slice i q.length M,.func (.func 274) #[] #[]] w0 (RvF (.bool (decide (a.map CS.say=q.map CS.say))) w0):=by
 refine en0 func273 U ntmps273 U<|J12 ?_
 refine JT (λh14=>?_) λh14=>?_
 exact Bh
 refine J14 ?_
 refine oLp (λk:Nat=>[(17,iI k),(16,iI a.length),(15,.slice v a.length c),(1,.slice i q.length M),(2,.func (.func 274) #[] #[])]) (λ_=>[]) (λk=>k<=a.length/\∀j,j<k->(a.map CS.say)[j]?=(q.map CS.say)[j]?) (λk=>a.length-k) 0 ⟨Lv _,λj h=>absurd h (Ac5 _)⟩ ?_
 rintro k ⟨hk,r⟩
 refine J2 ?_
 refine JT (λD=>?_) λD=>?_
 refine J10 ?_
 obtain⟨x,b⟩:∃x,a[k]?=some x:=Gx
 obtain⟨y,f⟩:∃x,q[k]?=some x:=Gx
 obtain⟨b1,o1,rfl,Z⟩:=T k x b
 obtain⟨b2,o2,rfl,r2⟩:=X k y f
 have u:=G x (Do b)
 have J:=H y (Do f)
 refine J1 ?_
 refine zV (AA (lo:=k) U U U underlying35 ME W W) U<|zV (AB (cs:=CS.cells x) U U Aen.h U (DP (λh=>h) Z)) U<|zy U MO U U<|?_
 intro g8 R
 refine J8 ?_
 refine zV (AA (lo:=k) U U U underlying35 ME W W) U<|zV (AB (cs:=CS.cells y) U U Aen.h U (DP (λh=>h) r2)) U<|zy U MO U U<|?_
 intro g9 S
 refine J8 ?_
 refine WL.FQ U U U CkO (.none U) U U<|λw E=>Calls.then (Agy w x y (u.1.frm (E.rng λ_ h=>h)) (J.frm (E.rng λ_ h=>h)) u.2) E ?_
 generalize g:decide (CS.say x=CS.say y)=B
 cases B
 refine J15 ?_
 refine eT1 ?_
 exact λw' h=>⟨by rw[Ro (λe=>Aep g (by
 have N:=If (λz=>z[k]?) e
 rw[WF,WF,b,f] at N
 exact Ade N))],h.frm⟩
 refine J11 ?_
 exact eW (k+1) W ⟨W,λj O=>by
 by_cases F:j=k
 .subst F;rw[WF,WF,b,f];exact If some (Ai8 g)
 .exact r j W⟩
 refine J15 ?_
 refine eT1 ?_
 exact λw' h=>⟨by rw[UV (AhO λj=>by
 by_cases O:j<k
 .exact r j O
 .rw [AcL Dq,AcL Dq])],h.frm⟩
def G2(a:AtL):vL:=[iI a.has,iI a.origin,iI a.med,iI a.loc,iI a.aas,.int .u32 a.hop,.int .u32 a.aid]
theorem Z6(w0:Wd)(a:AtL):Cl 269 #[aA a.cells] w0 (RvF (.agg (G2 a).toArray) w0):=by
 refine en0 func269 U ntmps269 U<|J2 ?_
 refine zx U U U U U<|λe b=>zy U i408z.h U U<|λf c=>J23 ?_
 exact Aw
noncomputable instance:DecidableEq Kf:=λ_ _=>Classical.propDecidable _
theorem ZU(w0:Wd)(a b:AtL)(u:a.At w0)(v:b.At w0)(y:a.Zs):Cl 199 #[aA a.cells,aA b.cells] w0 (RvF (.bool (decide (a.say=b.say))) w0):=by
 obtain⟨T,r⟩:∃q:Bool,q=true<->G2 a=G2 b:=by classical exact⟨decide (G2 a=G2 b),C9⟩
 have R:G2 a=G2 b<->a.has=b.has/\a.origin=b.origin/\a.med=b.med/\a.loc=b.loc/\a.aas=b.aas/\a.hop=b.hop/\a.aid=b.aid:=by
  unfold G2;simp
 have f:a.say=b.say<->G2 a=G2 b/\a.comms=b.comms/\a.path.map BR.say=b.path.map BR.say/\a.others.map CS.say=b.others.map CS.say:=by
  rw[R];unfold AtL.say;rw[Kf.mk.injEq]
  constructor
  .rintro ⟨D,E,F,G,H,J,M,N,O,k⟩;exact⟨⟨D,E,H,J,M,G,N⟩,O,F,k⟩
  .rintro ⟨⟨D,E,H,J,M,G,N⟩,O,F,k⟩;exact⟨D,E,F,G,H,J,M,N,O,k⟩
 have aa:=y.path
 have ab:=y.oths
 have ac:=y.comms
 refine en0 func199 U ntmps199 U<|J2 ?_
 refine zx U U U U U<|λg2 X=>zx U U U U U<|λg3 Z=>J4 ?_
 refine cQ mixed<|J1 ?_
 refine qC CkO U (λw c=>Z6 w a)<|J1 ?_
 refine qC CkO U (λw c=>Z6 w b)<|qV (GN (b:=T) U U U Ag0 AgX U U r) U<|?_
 cases T
 refine J25 ?_
 refine eT1 ?_
 exact λS h=>⟨by rw[Ro λe=>absurd (r.2 (f.1 e).1) C8],h.frm⟩
 refine J5 ?_
 refine WQ.call _ U U CkO (.some U U U) U U (λw c=>Calls.still (EqI_c w a.cad a.cc a.comms b.cad b.cc b.comms ((u.frm (c.rng λ_ h=>h)).comms) ((v.frm (c.rng λ_ h=>h)).comms) W) c) ?_
 generalize i:decide (a.comms=b.comms)=z
 cases z
 refine J19 ?_
 refine eT1 ?_
 exact λS h=>⟨by rw[Ro λe=>Aep i (f.1 e).2.1],h.frm⟩
 refine J6 ?_
 refine WQ.call _ U U CkO (.some U U U) U U (λw c=>Calls.still (EqF1_c w a.pad a.pc a.path b.pad b.pc b.path ((u.frm (c.rng λ_ h=>h)).path) ((v.frm (c.rng λ_ h=>h)).path) (λs g=>⟨(u.frm (c.rng λ_ h=>h)).LX s g,by have:=y.LX s g;omega⟩) (λs g=>(v.frm (c.rng λ_ h=>h)).LX s g) W) c) ?_
 generalize j:decide (a.path.map BR.say=b.path.map BR.say)=B
 cases B
 refine J12 ?_
 refine eT1 ?_
 exact λS h=>⟨by rw[Ro λe=>Aep j (f.1 e).2.2.1],h.frm⟩
 refine J6 ?_
 refine WQ.call _ U U CkO (.some U U U) U U (λw c=>Calls.still (EqF2_c w a.oad a.oc a.others b.oad b.oc b.others ((u.frm (c.rng λ_ h=>h)).oths) ((v.frm (c.rng λ_ h=>h)).oths) (λs g=>⟨(u.frm (c.rng λ_ h=>h)).vals s g,y.vals s g⟩) (λs g=>(v.frm (c.rng λ_ h=>h)).vals s g) W) c)<|J5 ?_
 refine eT1 ?_
 exact λS h=>⟨by rw[decide_eq_decide.2 (show a.say=b.say<->a.others.map CS.say=b.others.map CS.say from⟨λe=>(f.1 e).2.2.2,λe=>f.2 ⟨r.1 U,Ai8 i,Ai8 j,e⟩⟩)],h.frm⟩

def Sv.put(v:Sv)(k:Nat)(m:Mb):Sv:={ v with ms:=v.ms.set k m }
def Sv.rest(v:Sv)(k:Nat):eL:=(v.ms.eraseIdx k).flatMap Mb.AE
theorem Vt{c:Type}:∀ {a:List c}{k:Nat}{m:c},a[k]?=some m->a.Perm (m::a.eraseIdx k)
 | [],_,_,h=>by cases h
 | x::b,0,m,h=>by cases h;exact .refl _
 | x::b,k+1,m,h=>((Vt (show b[k]?=some m from h)).cons x).trans (.swap _ _ _)
theorem Sv.part(h:E.ms[B]?=some F):E.AE.Perm (E.head++(F.AE++E.rest B)):=by
 unfold Sv.AE Sv.rest
 exact List.Perm.append_left _ ((Vt h).flatMap_right Mb.AE)
theorem Sv.HL{m':Mb}(h:E.ms[B]?=some F):(E.put B m').ms[B]?=some m':=by
 have:=(Eu.1 h).1
 show(E.ms.set B m')[B]?=_
 rw[AdZ this]
theorem PJ{b:Type}:∀(a:List b) (k:Nat) (y:b),(a.set k y).eraseIdx k=a.eraseIdx k
 | [],_,_=>rfl
 | x::a,0,y=>rfl
 | x::a,k+1,y=>by simp[PJ a k y]
theorem Sv.Afc(h:E.ms[B]?=some F)(a:M.g=F.g):(E.put B M).FL=E.FL:=by
 unfold Sv.FL Sv.put
 apply AhO
 intro i
 rw[WF,WF,List.getElem?_set]
 by_cases e:B=i
 .subst e
  rw[IR U,IR (Eu.1 h).1,h]
  simp[a]
 .rw [E9 e]
theorem Sv.Afa(h:E.ms[B]?=some F)(b:M.g=F.g):(E.put B M).head=E.head:=by
 have a:=Sv.Afc h b
 unfold Sv.head
 rw[a]
 unfold Sv.put
 rw[AbI]
theorem Sv.Afb(h:E.ms[B]?=some F)(b:M.g=F.g):(E.put B M).AE.Perm (E.head++(M.AE++E.rest B)):=by
 have a:=Sv.part (Sv.HL (m':=M) h)
 rw[Sv.Afa h b] at a
 unfold Sv.rest at a ⊢
 rw[show(E.put B M).ms=E.ms.set B M from rfl,PJ] at a
 exact a
theorem Sv.HM(a:D≠B):(E.put B F).ms[D]?=E.ms[D]?:=Adq (Ai4 a)
theorem Sv.Ie :(E.put B F).ms.length=E.ms.length:=AbI ..
theorem Sv.LA(h:(E.put B F).ms[D]?=some M):(D=B/\M=F)\/E.ms[D]?=some M:=by
 by_cases e:D=B
 .subst e
  have b:=(Eu.1 h).1
  rw[Sv.Ie] at b
  have a:(E.ms.set D F)[D]?=some M:=h
  rw[AdZ b] at a
  cases a;exact .inl ⟨rfl,rfl⟩
 .rw [Sv.HM e] at h;exact .inr h
structure Mb.Is(m' m:Mb):Prop where
 g:m'.g=m.g
 sy:m'.sy=m.sy
 id:m'.id=m.id
 rib:m'.rib=m.rib
structure Mb.Maps(m:Mb):Prop where
 best:CP KPf m.bes m.BM/\MapKept.Stamped m.bes m.bc/\∀k u,m.BM k=some u->∃r:RtL,u=aA r.cells/\G1 m.K r.a
 news:CP KPf m.nes m.NM/\MapKept.Stamped m.nes m.nc/\∀k u,m.NM k=some u->u=.agg #[]
theorem Sv.Ok.maps(h:E.Ok){m:Mb}(a:m∈E.ms):m.Maps:=⟨h.best m a,h.news m a⟩
theorem Sv.Ok.put{v:Sv}(h:v.Ok){k:Nat}{m c:Mb}(i:v.ms[k]?=some m)(g:c.rib.T.Ok G1/\c.rib.peer=(k:Int))(e:c.Maps)(f:c.Ins v.S):(v.put k c).Ok:=by
 refine⟨h.few,λx b=>?_,by rw[Sv.Ie];exact h.n,h.bl,λj x b=>?_,λx b=>?_,λx b=>?_⟩
 .obtain ⟨j,a⟩:=List.mem_iff_getElem?.1 b
  rcases Sv.LA a with⟨_,rfl⟩|a
  .exact f
  .exact h.ins x (Do a)
 .rcases Sv.LA b with⟨rfl,rfl⟩|b
  .exact g
  .exact h.rib j x b
 .obtain ⟨j,a⟩:=List.mem_iff_getElem?.1 b
  rcases Sv.LA a with⟨_,rfl⟩|a
  .exact e.best
  .exact h.best x (Do a)
 .obtain ⟨j,a⟩:=List.mem_iff_getElem?.1 b
  rcases Sv.LA a with⟨_,rfl⟩|a
  .exact e.news
  .exact h.news x (Do a)
theorem AeZ{m':Mb}(g:E.ms[B]?=some F)(h:m'.rib=F.rib):IF (E.put B m') D G H<->IF E D G H:=by
 constructor
 .rintro ⟨j,x,a,b,c,f⟩
  rcases Sv.LA b with⟨rfl,rfl⟩|b
  .exact ⟨j,F,a,g,by rw[<- h];exact c,f⟩
  .exact ⟨j,x,a,b,c,f⟩
 .rintro ⟨j,x,a,b,c,f⟩
  by_cases e:j=B
  .subst e
   rw[g] at b;cases b
   exact⟨j,m',a,Sv.HL g,by rw[h];exact c,f⟩
  .exact ⟨j,x,a,by rw[Sv.HM e];exact b,c,f⟩
theorem AbG(w0:Wd)(x:RtL)(s:x.a.At w0)(k:x.a.Zs):
 Cl 114 #[aA x.cells] w0 λe i=>∃(c:AtL) (K:eL),e=.returned (.agg (RtL.cells ⟨x.peer,x.net,c⟩).toArray)/\c.say=x.a.say/\G1 K c/\St Fx w0 i K:=by
 refine en0 func114 U ntmps114 U<|J2 ?_
 refine zx U U U U U<|λy u=>zy U GK.h U U<|λz v=>J5 ?_
 refine zV (AB (cs:=x.a.cells) U U JZ.h U (AT (m:=10) U)) U<|zK CkO U<|?_
 intro w j
 refine(I2 w x.a (s.frm (j.rng λ_ h=>h)) k).mono ?_
 rintro e i ⟨c,q,r,rfl,b,B,f,g⟩
 refine⟨_,_,rfl,j.join g,?_⟩
 refine J1 ?_
 refine WL.FN U U U U JZ.h U Dn (.none U) U ?_
 refine J9 ?_
 refine eT1 ?_
 exact λi h=>⟨c,q++r,rfl,b,⟨f,UD b k⟩,h.sub (Acy _ _)⟩
end Gq
end Go.Proofs.YtmhahajadgkolaaGreatDoor
