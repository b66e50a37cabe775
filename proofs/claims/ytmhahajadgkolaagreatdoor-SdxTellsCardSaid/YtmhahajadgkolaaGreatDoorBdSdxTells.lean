/- Joined texts. -/
import Derived.Shelf.SlSortCmp.InsertionK
import Derived.Shelf.SlLaysF0
import Derived.Scope
import Derived.DeepKeys3
import Derived.Test.YtmhahajadgkolaaGreatDoorBcSdxTells
set_option maxHeartbeats 8000000
set_option maxRecDepth 8000
namespace Go.Proofs.YtmhahajadgkolaaGreatDoor
open Go.RowKit Tryz
theorem Aim:∀ {p:Prop} [Decidable p],decide p=true<->p:=@decide_eq_true_iff
theorem Ais:∀(n m:Nat),n * m=m * n:=@Nat.mul_comm
section Gq
attribute [local irreducible] WL WC WE WQ WP WH WR WM WRH

def EZ:List EnL->List EnL->List EnL
 | [],B=>B
 | x::A,[]=>x::A
 | x::A,y::B=>if PG x.d y.d<=0 then x::EZ A (y::B) else y::EZ (x::A) B
termination_by A B=>A.length+B.length
theorem Sd(A:List EnL):EZ A []=A:=by cases A<;>(unfold EZ;rfl)
theorem Qc(B:List EnL):EZ [] B=B:=by unfold EZ;rfl
theorem TX{x y:EnL}(A B:List EnL)(h:PG x.d y.d<=0):EZ (x::A) (y::B)=x::EZ A (y::B):=by rw[EZ,IR h]
theorem TW{x y:EnL}(A B:List EnL)(h:¬PG x.d y.d<=0):EZ (x::A) (y::B)=y::EZ (x::A) B:=by rw[EZ,E9 h]
theorem It:∀(A B:List EnL),(EZ A B).Perm (A++B)
 | [],B=>by rw[Qc];exact .refl _
 | x::A,[]=>by rw[Sd,Acx]
 | x::A,y::B=>by
  by_cases h:PG x.d y.d<=0
  .rw [TX A B h];exact(It A (y::B)).cons x
  .rw [TW A B h]
   exact((It (x::A) B).cons y).trans (List.perm_middle (l₁:=x::A) (l₂:=B) (a:=y)).symm
termination_by A B=>A.length+B.length
theorem Rg.tail{w:Wd}{b o c k:Nat}{e:Type}{a:e->vL}(hk:∀x,(a x).length=k){x:e}{d:List e}(h:w.rangeAt b o (AM a (x::d)))(f:(x::d).length<=c):Rg w (some ⟨b,IN o 1 c k,none⟩) (AM a d):=λi=>by
 have m:1<c:=by
  cases d with
  | nil=>exact absurd rfl i
  | cons y r=>simp at f;omega
 refine⟨b,o+k,by unfold IN;rw[E9 W,Aii],λj v g=>?_⟩
 have q:=h (k+j) v (by
  show(a x++AM a d)[k+j]?=some v
  rw[Ah8 (by rw[hk];omega),hk,Nat.add_sub_cancel_left];exact g)
 rwa [Nat.add_assoc]
structure MeS where
 A:List EnL
 aa:Option Addr
 ca:Nat
 B:List EnL
 ab:Option Addr
 cb:Nat
 S:List EnL
 ad:Option Addr
 c:Nat
 E:eL
theorem Agq(w:Wd)(as_ bs:List EnL)(K M:Option Addr)(T X:Nat)(hA:Rg w K (DA as_))(hB:Rg w M (DA bs))(ae:as_.length<=T)(af:bs.length<=X)(hn:as_.length+bs.length<=100000):
 Cl 189 #[.slice K as_.length T,.slice M bs.length X] w λe w'=>∃N c E,e=.returned (.slice N (EZ as_ bs).length c)/\Vec 21 N (EZ as_ bs).length c (DA (EZ as_ bs)) E/\St Fx w w' E:=by
 refine en0 func189 U ntmps189 U<|J12 ?_
 refine WL.Mm (m:=0) (c:=as_.length+bs.length) U U U W W W underlying231 ID W W BC CG U (.none U) U U<|λd ai=>?_
 generalize hZ:List.flatten _=Z
 have ac:Vec 21 (aG d) 0 (as_.length+bs.length) [] [.row d Z]:=E8
 refine J5 ?_
 refine oLp (λx:MeS=>[(0,.slice x.aa x.A.length x.ca),(1,.slice x.ab x.B.length x.cb),(5,.slice x.ad x.S.length x.c)]) (λx=>x.E) (λx=>Rg w x.aa (DA x.A)/\Rg w x.ab (DA x.B)/\x.A.length<=x.ca/\x.B.length<=x.cb/\Vec 21 x.ad x.S.length x.c (DA x.S) x.E/\EZ as_ bs=x.S++EZ x.A x.B) (λx=>x.A.length+x.B.length) ⟨as_,K,T,bs,M,X,[],aG d,as_.length+bs.length,[.row d Z]⟩ ⟨hA,hB,ae,af,ac,rfl⟩ ?_
 rintro⟨A,aa1,f,B,ab1,j,S,N,c,E⟩ ⟨hA1,hB1,a,b,hV,hm⟩
 dsimp only at hA1 hB1 a b hV hm⊢
 have al:S.length+A.length+B.length<=100000:=(by
  have h1:=If List.length hm
  rw[AC,(It as_ bs).length_eq,(It A B).length_eq,AC,AC] at h1
  omega)
 refine J5 ?_
 refine JT (λu=>?_) λu=>?_
 refine J3 ?_
 refine JT (λv=>?_) λv=>?_
 refine J8 ?_
 refine cQ mixed<|J1 ?_
 obtain⟨x,A,rfl⟩:∃x A',A=x::A':=(by cases A with|nil=>simp at u|cons x A=>exact⟨x,A,rfl⟩)
 obtain⟨y,B,rfl⟩:∃y B',B=y::B':=(by cases B with|nil=>simp at v|cons y B=>exact⟨y,B,rfl⟩)
 obtain⟨b1,o1,e1,r1⟩:=hA1 (by show x.cells++DA A≠[];intro h;have:=If List.length h;rw[AC,EnL.len] at this;simp at this)
 obtain⟨b2,o2,e2,r2⟩:=hB1 (by show y.cells++DA B≠[];intro h;have:=If List.length h;rw[AC,EnL.len] at this;simp at this)
 subst e1 e2
 have F:=Rg.seg EnL.len r1 (i:=0) (x:=x) U
 have G:=Rg.seg EnL.len r2 (i:=0) (x:=y) U
 have ag:(x::A).length=A.length+1:=rfl
 have ah:(y::B).length=B.length+1:=rfl
 refine qV (AA (lo:=0) U U U underlying231 BC U W) U<|qV (AB (cs:=x.cells) U U FV.h (EnL.len x) (DP (λh=>h) F)) U<|J1 ?_
 refine qV (AA (lo:=0) U U U underlying231 BC U W) U<|qV (AB (cs:=y.cells) U U FV.h (EnL.len y) (DP (λh=>h) G)) U<|qC CkO U (λw hS=>Ni w x y)<|?_
 refine JT (λr=>?_) λr=>?_
 refine J7 ?_
 refine zV (AA (lo:=0) U U U underlying231 BC U W) U<|zV (AB (cs:=x.cells) U U FV.h (EnL.len x) (DP (λh=>h) F)) U<|zB underlying231 BC CG (by show some (AK (List.replicate 1 _).flatten 0 x.cells)=some x.cells;rw[AH (by rw[EnL.len];rfl)]) U ?_
 intro k aj
 refine WL.to (L':=E++[.row k x.cells]) (λw hS=>hS.AJ)<|WL.AU U U U underlying231 underlying231 BC ID CG U U hV (new:=x.cells) (λ_=>⟨k,0,rfl,λw hS=>AL (g:=k) w hS⟩) (EnL.len x) (BD IU x) W (.none U) U U<|λs O H z am=>J5 ?_
 refine zV ((LO (lo:=1) U U U underlying231 BC U W)) U<|J3 ?_
 exact WE.next ⟨A,some ⟨b1,IN o1 1 f 21,none⟩,f-1,y::B,_,j,S++[x],s,O,H⟩ C7 ⟨Rg.tail EnL.len r1 a,hB1,C7,b,by dsimp only;rw[AC,show DA (S++[x])=DA S++x.cells from AX _ _ _];exact z,by dsimp only;rw[hm,TX A B r,Qs];rfl⟩ (.eq U (by dsimp only;rw[ag,Nat.add_sub_cancel]) (.cons U (.eq U Dc .nil))) (Acy _ _)
 refine J7 ?_
 refine zV (AA (lo:=0) U U U underlying231 BC U W) U<|zV (AB (cs:=y.cells) U U FV.h (EnL.len y) (DP (λh=>h) G)) U<|zB underlying231 BC CG (by show some (AK (List.replicate 1 _).flatten 0 y.cells)=some y.cells;rw[AH (by rw[EnL.len];rfl)]) U ?_
 intro q ak
 refine WL.to (L':=E++[.row q y.cells]) (λw hS=>hS.AJ)<|WL.AU U U U underlying231 underlying231 BC ID CG U U hV (new:=y.cells) (λ_=>⟨q,0,rfl,λw hS=>AL (g:=q) w hS⟩) (EnL.len y) (BD IU y) W (.none U) U U<|λt R J D an=>J5 ?_
 refine zV ((LO (lo:=1) U U U underlying231 BC U W)) U<|J3 ?_
 exact WE.next ⟨x::A,_,f,B,some ⟨b2,IN o2 1 j 21,none⟩,j-1,S++[y],t,R,J⟩ C7 ⟨hA1,Rg.tail EnL.len r2 b,a,C7,by dsimp only;rw[AC,show DA (S++[y])=DA S++y.cells from AX _ _ _];exact D,by dsimp only;rw[hm,TW A B r,Qs];rfl⟩ (.cons U (.eq U (by dsimp only;rw[ah,Nat.add_sub_cancel]) (.eq U Dc .nil))) (Acy _ _)
 refine J13 ?_
 exact Af
 refine J17 ?_
 exact Af

instance:Inhabited EnL:=⟨⟨0,0,⟨⟨λ_=>0,λ_=>0⟩,none,0,[]⟩⟩⟩
end Gq
end Go.Proofs.YtmhahajadgkolaaGreatDoor
namespace Go.Proofs.YtmhahajadgkolaaGreatDoor
open Go.RowKit Go.Shelf Tryz

def renI:Ren:=⟨λn=>match n with|20=>327|n=>n,λn=>match n with|0=>0|3=>3|4=>4|22=>231|24=>326|25=>329|n=>n,λn=>n⟩
set_option maxRecDepth 100000 in
theorem laysI:SlLaysF0.n20 prog renI where
 mixed:=mixed
 f20:=⟨f327.name,C8,func327.trans (If some C6)⟩
 t0:=underlying0
 a0:=isAgg0
 z0:=sizeOf0
 v0:=zeroValue0
 t3:=underlying3
 a3:=isAgg3
 z3:=sizeOf3
 v3:=zeroValue3
 t4:=underlying4
 a4:=isAgg4
 z4:=sizeOf4
 v4:=zeroValue4
 t22:=underlying231
 a22:=isAgg231
 z22:=sizeOf231
 v22:=zeroValue231
 t25:=underlying329
 a25:=isAgg329
 z25:=sizeOf329
 v25:=zeroValue329
end Go.Proofs.YtmhahajadgkolaaGreatDoor
namespace Go.Proofs.YtmhahajadgkolaaGreatDoor
open Go.RowKit Go.Sort Tryz
section Gq
attribute [local irreducible] WL WC WE WQ WP WH WR WM WRH

def Vs(a b:EnL):Int:=PG a.d b.d
theorem Ahy:Cm Vs:=AaZ.on EnL.d
theorem InsE_c(p:Nat->Prop)(w0 w:Wd)(L:eL)(g c:Nat)(i:vL)(d:List EnL)(a b:Nat)(q:a<=b)(H:b<=d.length)(K:i.take (d.length*21)=DA d)(G:St p w0 w (.row g i::L))(J:d.length<1000000):
 Cl 327 #[.slice (aG g) d.length c,iI a,iI b,.func (.func 188) #[] #[]] w λe E =>
  e=.returned (.tuple #[])/\∃(F:List EnL) (k:vL),PermIn a b d.toArray F.toArray/\SortedIn (ltOf Vs) a b F.toArray/\k.length=i.length/\k.take (d.length*21)=DA F/\St p w0 E (.row g k::L):=by
 have u:Row w g i:=G.holds (.row g i) C9
 have f:d.toArray.size=d.length:=C9
 have z:d.length*21<=i.length:=by
  have:=If List.length K
  rw[Ahp,DO] at this
  omega
 have v:CmpLays prog 188 #[] EnL.cells 21 Vs g 0 d.toArray.size w:=λm M N S x y =>
  (Ni (sortWorldK EnL.cells 21 w g 0 m N M) x y).mono λe E ⟨A,O⟩=>⟨A,O.grows⟩
 have R:HoldsK EnL.cells 21 w g 0 d.toArray:=λt r=>by
  rw[size_flatK] at r
  have D:t<i.length:=by rw[f] at r;omega
  rw[PP]
  refine⟨u.cell ?_,u.frozen D⟩
  show i[t]?=some ((flatK EnL.cells 21 d.toArray)[t]!)
  rw[get_flatK _ _ _ _ r, <- RF EnL.len C8 _ r]
  show i[t]?=(AM EnL.cells d)[t]?
  rw[show AM EnL.cells d=i.take (d.length*21) from K.symm,Agg,IR (by rw[<- f];exact r)]
 have s:=Go.Proofs.AnyQ.insertionSortCmpFunc (P:=prog) laysI 21 isAgg326 sizeOf326 EnL.cells EnL.len IU Vs 188 #[] g 0 c a b d.toArray w CkO v R u.lt q (by rw[f];exact H) (by rw[f];omega)
 rw[f] at s
 refine s.mono ?_
 rintro e E ⟨A,n,M,rfl⟩
 have B:=insertionSort_holds (lt:=ltOf Vs) (AfC Ahy) d.toArray a b q (by rw[f];exact H)
 have j:(insertionSort (ltOf Vs) d.toArray a b).size=d.length:=by rw[B.1.1,f]
 refine⟨A,(insertionSort (ltOf Vs) d.toArray a b).toList,gsL EnL.cells 21 (insertionSort (ltOf Vs) d.toArray a b) i,by simpa using B.1,by simpa using B.2,U3 _ _,?_,Ael G⟩
 have:=W0 EnL.len C8 (insertionSort (ltOf Vs) d.toArray a b) i (by rw[j];exact z)
 rwa [j] at this
theorem XG{a b:List EnL}(h:PermIn 0 a.length a.toArray b.toArray):b.Perm a/\b.length=a.length:=by
 have c:b.length=a.length:=by have:=h.1;simpa using this
 have d:=h.2.2
 have f1:b.toArray.extract 0 a.length=b.toArray:=by rw[<- c];simp
 have f2:a.toArray.extract 0 a.length=a.toArray:=C9
 rw[f1,f2] at d
 exact⟨by simpa using d,c⟩

theorem UX{c:Type}{f:c->Int}:∀ {a:List c}{k:Nat}{x:c},(∀i y,i<k->a[i]?=some y->f y=0)->a[k]?=some x->f x≠0->Gz f a=f x
 | [],_,_,_,h,_=>by simp at h
 | y::a,0,x,_,h,b=>by
  simp only[Ahl,Ahe] at h
  subst h
  exact IR b
 | y::a,k+1,x,d,h,b=>by
  have e:=d 0 y W U
  show(if f y≠0 then f y else Gz f a)=f x
  rw[E9 λq=>q e]
  exact UX (k:=k) (λi z j g=>d (i+1) z W (by simpa using g)) (by simpa using h) b
theorem TD{c:Type}{f:c->Int}{a:List c}(h:∀i y,i<a.length->a[i]?=some y->f y=0):Gz f a=0:=M5.2 λx d=>by
 obtain⟨i,b,e⟩:=List.mem_iff_getElem.1 d
 exact h i x b (by rw[FS b,e])
theorem YI{e:EnL}{b:List Ac}{f:Option Addr}{c:Nat}(g:∀a∈e.r.acts,a.Nz)(h:N5 e.r.acts b):EnL.d ⟨e.prio,e.mark,⟨e.r.m,f,c,b⟩⟩=e.d.norm:=by
 show(⟨e.prio,e.mark,⟨e.r.m,b⟩⟩:EnD)=⟨e.prio,e.mark,⟨e.r.m,GL e.r.acts⟩⟩
 rw[Si g h]
theorem Ot(a:List EnL)(outs:List Int):(a.filter (JQ outs)).map EnL.d=Gp (a.map EnL.d) outs:=by
 unfold Gp
 rw[List.filter_map]
 rfl
structure InOk(w:Wd)(x:EnL):Prop where
 i:x.d.In
 rd:Rg w x.r.ad (CJ x.r.acts)
theorem Ad1(e:EnL):e.cells[2+18]?=some (.slice e.r.ad e.r.acts.length e.r.c):=DQ e.r
theorem Aea{x:EnL}(h:x.d.err=0):x.r.acts.length<=64:=by
 unfold EnD.err RuD.err L9 at h
 split at h
 .split at h
  .split at h
   .cases h
   .rename_i k;have:x.d.r.acts.length=x.r.acts.length:=rfl;omega
  .cases h
 .cases h
theorem Vec.QS{s:Nat}{a:Option Addr}{k c:Nat}{d:vL}{E:eL}(b:Vec s a k c d E)(h:0<k):∃g,a=aG g:=by
 rcases b with⟨_,f,_⟩|⟨g,e,rfl,_⟩
 .omega
 .exact ⟨g,rfl⟩
structure ChS where
 k:Nat
 ls:List EnL
 ad:Option Addr
 c:Nat
 E:eL
 K:eL

theorem Take_c(p:Nat->Prop)(w0 w:Wd)(L E K:eL)(g:Nat)(t:TbL)(r:Option Addr)(z:Nat)(outs:List Int)(D:Vec 21 t.ad t.es.length t.c (DA t.es) E)(B:I7 K t.es)(b:St p w0 w (.row g t.cells::(E++(K++L))))(F:∀w,St p w0 w L->Rg w r (outs.map (Value.int .i64)))
 (G:t.es.length<=5000) (m:outs.length<=100000) :
 Cl 116 #[pG g,.slice r outs.length z] w λe s=>∃(a:TbL) (u:eL),e=.returned (iI (t.es.length-a.es.length))/\a.most=t.most/\a.d=Gp t.d outs/\a.es.length<=t.es.length /\
  Vec 21 a.ad a.es.length a.c (DA a.es) u/\I7 K a.es/\St p w0 s (.row g a.cells::(u++(K++L))):=by
 refine enter func116 U ntmps116 U b ?_
 have q:∀w,St p w0 w (.row g t.cells::(E++(K++L)))->St p w0 w L:=λw h=>h.sub (.cons _ (Adn (Ai9 _ _)))
 have k:(t.es.filter (JQ outs)).length<=t.es.length:=List.length_filter_le _ _
 refine J9 ?_
 refine zV (AI false U U underlying183 U) U<|J9 ?_
 refine zK CkO U<|λA b=>(Th A g t r z outs (b.cell U) (D.rg λe he=>b.holds e Dd) (F A (q _ b)) W m).mono ?_
 rintro e s ⟨f,y,x,rfl,j,i⟩
 refine⟨_,_,rfl,b.join i,?_⟩
 refine J8 ?_
 refine zV (An U U TI.h (cellAt (v:=.slice t.ad t.es.length t.c) U)) U<|J14 ?_
 refine WL.as (L':=x++(.row g (TbL.cells ⟨t.most,f,y,t.es.filter (JQ outs)⟩)::(E++(K++L)))) U<|J9 ?_
 refine eT1 ?_
 exact λs h=>⟨⟨t.most,f,y,t.es.filter (JQ outs)⟩,x,rfl,rfl,Ot _ _,k,j,λe he=>B e (Aig.1 he).1,h.AN E⟩
structure RuOk(w:Wd)(r:RuL):Prop where
 rd:Rg w r.ad (CJ r.acts)
 len:r.acts.length<=100000
def FindP(w b:Wd)(a:List EnL)(H:Hd)(e:Ending):Prop :=
 ((∀x∈a, ¬x.r.m.RM H)/\e=.returned (.tuple #[.agg (EnL.cells ⟨0,0,⟨⟨λ_=>0,λ_=>0⟩,none,0,[]⟩⟩).toArray,.bool false])/\Frm Fx w b) \/
 ∃(i:Nat) (x y:EnL) (K:eL),a[i]?=some x/\x.r.m.RM H/\(∀j y,j<i->a[j]?=some y->¬y.r.m.RM H)/\y.d=x.d/\e=.returned (.tuple #[aA y.cells,.bool true])/\DE K y.r/\St Fx w b K
def FindQ(w c:Wd)(a:List EnL)(H:Hd)(e:Ending):Prop :=
 ∃(b:Bool) (y:EnL) (K:eL),e=.returned (.tuple #[aA y.cells,.bool b])/\(b=false->∀x∈a, ¬x.r.m.RM H)/\(b=true->∃(i:Nat) (x:EnL),a[i]?=some x/\x.r.m.RM H/\(∀j y,j<i->a[j]?=some y->¬y.r.m.RM H)/\y.d=x.d)/\DE K y.r/\St Fx w c K
end Gq
end Go.Proofs.YtmhahajadgkolaaGreatDoor
namespace Go.Proofs.YtmhahajadgkolaaGreatDoor
open Go.RowKit Go.Sort Tryz
section Gq
attribute [local irreducible] WL WC WE WQ WP WH WR WM WRH

def Hd.nrm(H:Hd):Hd:={ H with src:=λi=>if i<6 then H.src i else 0,dst:=λi=>if i<6 then H.dst i else 0 }
instance:Inhabited { H:Hd // H.Rt }:=⟨⟨Hd.zero,⟨Hd.QW,C8⟩⟩⟩
open Classical in
structure RunD(r:RuD)(H:Hd)(hs:List Hd):Prop where
 strict:hs.Pairwise λa b=>Aay a b 9<0
 mem:∀x,x∈hs<->∃a∈r.acts,x=(appK a H 9).nrm
def TRunP(a:List EnL)(H:Hd)(b:List Hd):Prop:=((∀x∈a, ¬x.r.m.RM H)/\b=[])\/∃(i:Nat) (x:EnL),a[i]?=some x/\x.r.m.RM H/\(∀j y,j<i->a[j]?=some y->¬y.r.m.RM H)/\RunD x.r.d H b
end Gq
end Go.Proofs.YtmhahajadgkolaaGreatDoor
namespace Go.Proofs.YtmhahajadgkolaaGreatDoor
open Go.RowKit Tryz
variable{A B:Mt}{D:Nat}{E K X:eL}{F R:Ac}{G:List RuD}{H N:Wd}{J:Nat->Int}{M:Nat->Prop}{O:Int}{S:RuD}{T:Option Addr}

def Mt.both(m n:Mt):Mt:=⟨λk=>orN (m.val k) (n.val k),λk=>orN (m.mask k) (n.mask k)⟩
def Mt.meets(m n:Mt):Prop:=∀k,k<9->IB (IB (QB (m.val k) (n.val k)) (m.mask k)) (n.mask k)=0
instance (m n:Mt):Decidable (m.meets n):=by unfold Mt.meets;infer_instance
def Mt.and(m n:Mt):Option Mt:=if m.meets n then some (m.both n) else none
def Mt.I1(m:Mt)(f:Nat):Mt:=⟨λk=>if k=f then 0 else m.val k,λk=>if k=f then 0 else m.mask k⟩
def Mt.eqv(a b:Mt):Prop:=∀k,k<9->a.val k=b.val k/\a.mask k=b.mask k
instance (m n:Mt):Decidable (m.eqv n):=by unfold Mt.eqv;infer_instance
def Mt.over(r m:Mt):Prop:=∀k,k<9->FT (r.mask k) (m.mask k)=0/\r.val k=IB (m.val k) (r.mask k)
instance (m n:Mt):Decidable (m.over n):=by unfold Mt.over;infer_instance
def JH(a:List RuD)(m:Mt):Prop:=∃r∈a,r.m.eqv m\/r.m.over m
instance (a:List RuD) (m:Mt):Decidable (JH a m):=by unfold JH;infer_instance
structure PlD where
 mr:Int
 ma:Int
 out:List RuD
def HS:List RuD->Nat
 | []=>0
 | r::a=>r.acts.length+HS a
theorem Ql:∀b a:List RuD,HS (b++a)=HS b+HS a
 | [],a=>by show HS a=0+HS a;omega
 | x::b,a=>by show x.acts.length+HS (b++a)=(x.acts.length+HS b)+HS a;rw[Ql b a];omega
def PlD.add(p:PlD)(m:Mt)(a:List Ac):Option PlD :=
 if (p.out.length:Int) >= p.mr\/((HS p.out:Nat):Int)+(GL a).length > p.ma then none else some { p with out:=p.out++[⟨m,GL a⟩] }
def HH(a:List RuD)(c:List Ac->List Ac->List Ac)(r:RuD):List RuD->PlD->Option PlD
 | [],p=>some p
 | s::b,p=>match r.m.and s.m with
  | none=>HH a c r b p
  | some m=>if JH a m\/JH p.out m then HH a c r b p else
   match p.add m (c r.acts s.acts) with
   | none=>none
   | some d=>if m.eqv r.m then some d else HH a c r b d
def DU(c:List RuD)(d:List Ac->List Ac->List Ac)(b:List RuD):List RuD->PlD->Option PlD
 | [],p=>some p
 | r::a,p=>match HH c d r b p with
  | none=>none
  | some e=>DU c d b a e
def Ah(a:Ac)(m:Mt):Nat->Option Mt
 | 0=>some m
 | k+1=>match Ah a m k with
  | none=>none
  | some n=>if a.IH k then(if IB (a.val k) (n.mask k)≠n.val k then none else some (n.I1 k)) else some n
def DM(a:Ac):List RuD->List RuD
 | []=>[]
 | r::l=>match Ah a r.m 9 with
  | none=>DM a l
  | some m=>⟨m,r.acts.map a.then⟩::DM a l
def JW(a b:List Ac):List Ac:=a++b
def IL(a b:List Ac):List Ac:=if a.length=0\/b.length=0 then[] else a
def Iw(f e:Int)(d b:List RuD):List Ac->List RuD->Option (List RuD)
 | [],c=>some c
 | a::g,c=>match DU d JW (DM a b) c ⟨f,e,[]⟩ with
  | none=>none
  | some q=>if q.out.length=0 then some [] else Iw f e d b g q.out
def HU:List RuD->PlD->Option PlD
 | [],p=>some p
 | x::a,p=>if JH p.out x.m then HU a p else match p.add x.m x.acts with
  | none=>none
  | some b=>HU a b
def DS(b:List RuD):List RuD->PlD->Option PlD
 | [],p=>some p
 | r::a,p=>match Iw p.mr p.ma p.out b r.acts [⟨r.m,[]⟩] with
  | none=>none
  | some c=>match HU c p with
   | none=>none
   | some d=>DS b a d
def outD:Option PlD->List RuD
 | none=>[]
 | some p=>p.out
theorem PlD.Ij{p q:PlD}{a:List Ac}(h:p.add A a=some q):q = { p with out:=p.out++[⟨A,GL a⟩] }:=by
 unfold PlD.add at h
 split at h
 .cases h
 .exact (Ade h).symm
/-! ### How many -/
theorem Lh{a:List RuD}{c:List Ac->List Ac->List Ac}{r:RuD}:∀(b:List RuD) (p q:PlD),HH a c r b p=some q->q.out.length<=p.out.length+b.length/\q.mr=p.mr/\q.ma=p.ma
 | [],p,q,h=>by cases h;exact⟨M2 _,rfl,rfl⟩
 | s::b,p,q,h=>by
  rw[HH] at h
  rw[Acg]
  split at h
  .have:=Lh b p q h;exact⟨W,this.2⟩
  split at h
  .have:=Lh b p q h;exact⟨W,this.2⟩
  split at h
  .cases h
  rename_i f d
  have e:=PlD.Ij d
  split at h
  .cases h
   subst e
   exact⟨by dsimp only;rw[AC];show _+1<=_;omega,rfl,rfl⟩
  .have:=Lh b f q h
   subst e
   dsimp only at this
   rw[AC] at this
   exact⟨by have:q.out.length<=p.out.length+1+b.length:=this.1;omega,this.2⟩
theorem NO{c:List RuD}{d:List Ac->List Ac->List Ac}{b:List RuD}:∀(a:List RuD) (p q:PlD),DU c d b a p=some q->q.out.length<=p.out.length+a.length*b.length/\q.mr=p.mr/\q.ma=p.ma
 | [],p,q,h=>by cases h;exact⟨W,rfl,rfl⟩
 | r::a,p,q,h=>by
  rw[DU] at h
  split at h
  .cases h
  rename_i g i
  have e:=Lh b p g i
  have f:=NO a g q h
  rw[Acg,Agz]
  exact⟨W,f.2.1.trans e.2.1,f.2.2.trans e.2.2⟩
theorem Lg{Q:List Ac->Prop}{i:List RuD}{d:List Ac->List Ac->List Ac}{r:RuD}:∀(b:List RuD) (p q:PlD),(∀s∈b,Q (GL (d r.acts s.acts)))->(∀x∈p.out,Q x.acts)->HH i d r b p=some q->∀x∈q.out,Q x.acts
 | [],p,q,_,f,h=>by cases h;exact f
 | s::b,p,q,k,f,h=>by
  have a:∀s∈b,Q (GL (d r.acts s.acts)):=λx c=>k x (EQ _ c)
  rw[HH] at h
  split at h
  .exact Lg b p q a f h
  split at h
  .exact Lg b p q a f h
  split at h
  .cases h
  rename_i m j
  have e:=PlD.Ij j
  have g:∀x∈m.out,Q x.acts:=by
   subst e
   intro x c
   rcases LI.1 c with c|c
   .exact f x c
   .rw [Es.1 c];exact k s (Fr ..)
  split at h
  .cases h;exact g
  .exact Lg b m q a g h
theorem Lf{Q:List Ac->Prop}{d:List RuD}{c:List Ac->List Ac->List Ac}{b:List RuD}:∀(a:List RuD) (p q:PlD),(∀r∈a, ∀s∈b,Q (GL (c r.acts s.acts)))->(∀x∈p.out,Q x.acts)->DU d c b a p=some q->∀x∈q.out,Q x.acts
 | [],p,q,_,e,h=>by cases h;exact e
 | r::a,p,q,g,e,h=>by
  rw[DU] at h
  split at h
  .cases h
  rename_i i f
  exact Lf a i q (λx j=>g x (EQ _ j)) (Lg b p i (g r (Fr ..)) e f) h
theorem Ra(a:Ac):∀l:List RuD,(DM a l).length<=l.length
 | []=>M2 _
 | r::l=>by
  rw[DM]
  have:=Ra a l
  split
  .rw [Acg];omega
  .rw [Acg,Acg];omega
theorem Ja{act:Ac}{n:Nat}:∀l:List RuD,(∀r∈l,r.acts.length<=n)->∀r∈DM act l,r.acts.length<=n
 | [],_,r,h=>by cases h
 | x::l,a,r,h=>by
  rw[DM] at h
  split at h
  .exact Ja l (λy b=>a y (EQ _ b)) r h
  .rcases Rl.1 h with rfl|h
   .show (x.acts.map act.then).length<=n
    rw[Ri];exact a x (Fr ..)
   .exact Ja l (λy b=>a y (EQ _ b)) r h
theorem T9{u t:Int}{k b:List RuD}{i j:Nat}(hk:1<=i)(w:b.length<=i)(f:∀r∈b,r.acts.length<=j):∀(e:List Ac) (c d:List RuD) (n:Nat),(∀r∈c,r.acts.length<=n*j)->Iw u t k b e c=some d->d.length<=c.length*i^e.length/\∀r∈d,r.acts.length<=(n+e.length)*j
 | [],c,d,n,g,h=>by cases h;exact⟨C9,by simpa using g⟩
 | a::e,c,d,n,g,h=>by
  rw[Iw] at h
  split at h
  .cases h
  rename_i q y
  have z:=NO c ⟨u,t,[]⟩ q y
  have A:=Lf (Q:=λl=>l.length<=(n+1)*j) c ⟨u,t,[]⟩ q (λr m s B=>by
   refine AcC (H6 _) ?_
   unfold JW
   rw[AC,Agz,Aii]
   have:=g r m
   have:=Ja b f s B
   omega) (λx D=>by cases D) y
  split at h
  .cases h;exact⟨Lv _,λr g=>by cases g⟩
  .have v:=T9 hk w f e q.out d (n+1) A h
   refine⟨?_,by rw[Acg,show n+(e.length+1)=n+1+e.length by omega];exact v.2⟩
   refine AcC v.1 ?_
   rw[Acg,Nat.pow_succ,Ais (i^e.length) i, <- Nat.mul_assoc]
   refine AhN _ ?_
   have E:q.out.length<=0+c.length*(DM a b).length:=z.1
   refine AcC (by omega:q.out.length<=c.length*(DM a b).length) (Nat.mul_le_mul_left _ (AcC (Ra a b) w))
theorem Pg:∀(a:List RuD) (p q:PlD),HU a p=some q->q.out.length<=p.out.length+a.length/\q.mr=p.mr/\q.ma=p.ma
 | [],p,q,h=>by cases h;exact⟨M2 _,rfl,rfl⟩
 | x::a,p,q,h=>by
  rw[HU] at h
  rw[Acg]
  split at h
  .have:=Pg a p q h;exact⟨W,this.2⟩
  split at h
  .cases h
  rename_i c b
  have e:=PlD.Ij b
  have:=Pg a c q h
  subst e
  dsimp only at this
  rw[AC] at this
  exact⟨by have:q.out.length<=p.out.length+1+a.length:=this.1;omega,this.2⟩
theorem Pf{n:Nat}:∀(a:List RuD) (p q:PlD),(∀r∈a,r.acts.length<=n)->(∀r∈p.out,r.acts.length<=n)->HU a p=some q->∀r∈q.out,r.acts.length<=n
 | [],p,q,_,d,h=>by cases h;exact d
 | x::a,p,q,g,d,h=>by
  have c:∀r∈a,r.acts.length<=n:=λy i=>g y (EQ _ i)
  rw[HU] at h
  split at h
  .exact Pf a p q c d h
  split at h
  .cases h
  rename_i j f
  have e:=PlD.Ij f
  refine Pf a j q c (λr b=>?_) h
  subst e
  rcases LI.1 b with b|b
  .exact d r b
  .rw [Es.1 b];exact AcC (H6 _) (g x (Fr ..))
theorem JJ{b:List RuD}{kr ka n:Nat}(hk:1<=kr)(w:b.length<=kr)(e:∀r∈b,r.acts.length<=ka):∀(a:List RuD) (p q:PlD),(∀r∈a,r.acts.length<=n)->(∀r∈p.out,r.acts.length<=n*ka)->DS b a p=some q->q.out.length<=p.out.length+a.length*kr^n/\(∀r∈q.out,r.acts.length<=n*ka)/\q.mr=p.mr/\q.ma=p.ma
 | [],p,q,_,k,h=>by cases h;exact⟨W,k,rfl,rfl⟩
 | r::a,p,q,v,k,h=>by
  rw[DS] at h
  split at h
  .cases h
  rename_i c d
  split at h
  .cases h
  rename_i s f
  have g:=v r (Fr ..)
  have t:=T9 hk w e r.acts [⟨r.m,[]⟩] c 0 (λx i=>by rw[Es.1 i];exact Lv _) d
  rw[AbJ,Aii,PP] at t
  have u:=Pg c p s f
  have y:=Pf (n:=n*ka) c p s (λx i=>AcC (t.2 x i) (AhN _ g)) k f
  have j:=JJ hk w e a s q (λx i=>v x (EQ _ i)) y h
  have z:kr^r.acts.length<=kr^n:=Aiy hk g
  refine⟨?_,j.2.1,j.2.2.1.trans u.2.1,j.2.2.2.trans u.2.2⟩
  rw[Acg,Agz,Aii]
  omega
/-! ### Numbers in range -/
theorem AaY{y:Int}(a:O<=18446744073709551615)(b:y<=18446744073709551615):0<=orN O y/\orN O y<=18446744073709551615:=by
 unfold orN
 have:O.toNat ||| y.toNat<2^64:=Nat.or_lt_two_pow W W
 omega
theorem Mt.Oh(a:A.In)(b:B.In):(A.both B).In:=⟨λk=>AaY (a.val k).2 (b.val k).2,λk=>AaY (a.mask k).2 (b.mask k).2⟩
theorem Mt.Oi(c:A.Nz)(d:B.Nz):(A.both B).Nz:=λk hk=>by
 have a:=c k hk
 have b:=d k hk
 exact⟨by show orN (A.val k) (B.val k)=0;rw[a.1,b.1];rfl,by show orN (A.mask k) (B.mask k)=0;rw[a.2,b.2];rfl⟩
theorem Mt.ZR(h:A.In)(f:Nat):(A.I1 f).In :=
 ⟨λk=>by show 0<=(if k=f then 0 else A.val k)/\(if k=f then 0 else A.val k)<=_;split;exact⟨AgP _,C8⟩;exact h.val k,
  λk=>by show 0<=(if k=f then 0 else A.mask k)/\(if k=f then 0 else A.mask k)<=_;split;exact⟨AgP _,C8⟩;exact h.mask k⟩
theorem Mt.ZS(h:A.Nz)(f:Nat):(A.I1 f).Nz:=λk hk =>
 ⟨by show(if k=f then 0 else A.val k)=0;split;rfl;exact(h k hk).1,by show(if k=f then 0 else A.mask k)=0;split;rfl;exact(h k hk).2⟩
structure RuD.Fit(r:RuD):Prop where
 isIn:r.In
 ok:∀a∈r.acts,a.Ok
theorem Ac.AfU(a:F.Nz)(b:R.Nz):(F.then R).Nz:=λk hk=>by
 show(if R.IH k then R.val k else F.val k)=0
 split
 .exact b k hk
 .exact a k hk
theorem AhU{b:Int}(c:0<=O)(d:0<=b):orN O b / 2^D % 2=1<->(O / 2^D % 2=1\/b / 2^D % 2=1):=by
 obtain⟨x,rfl⟩:=Int.eq_ofNat_of_zero_le c
 obtain⟨y,rfl⟩:=Int.eq_ofNat_of_zero_le d
 have a:∀n:Nat,((n:Int) / 2^D % 2=1)<->n.testBit D=true:=λn=>by
  rw[Nat.testBit_eq_decide_div_mod_eq,Aim]
  have:((n:Int) / 2^D % 2)=((n / 2^D % 2:Nat):Int):=by push_cast;rfl
  rw[this];omega
 show((((x:Int).toNat ||| (y:Int).toNat:Nat):Int) / 2^D % 2=1)<->_
 rw[a,a,a]
 simp[Nat.testBit_or]
theorem Ac.ZA(a:F.Ok)(b:R.Ok):(F.then R).Ok:=by
 refine⟨?_,λk hk=>?_⟩
 .show 0<=orN F.set R.set/\orN F.set R.set<=511
  unfold orN
  have d:=a.1
  have e:=b.1
  have:F.set.toNat ||| R.set.toNat<2^9:=Nat.or_lt_two_pow W W
  omega
 .show (if R.IH k then R.val k else F.val k)<=BG k/\((if R.IH k then R.val k else F.val k)≠0->(F.then R).IH k)
  have c:(F.then R).IH k<->F.IH k\/R.IH k:=AhU a.1.1 b.1.1
  rw[c]
  split
  .rename_i h;exact⟨(b.2 k hk).1,λ_=>.inr h⟩
  .exact ⟨(a.2 k hk).1,λh=>.inl ((a.2 k hk).2 h)⟩
theorem Ac.AfT(c:F.In)(d:R.In)(a:F.Ok)(b:R.Ok):(F.then R).In :=
 ⟨by have:=(Ac.ZA a b).1;omega,λk=>by
  show 0<=(if R.IH k then R.val k else F.val k)/\(if R.IH k then R.val k else F.val k)<=_
  split
  .exact d.val k
  .exact c.val k⟩
theorem Aat{c:List Ac}(d:A.In)(e:A.Nz)(b:∀a∈c,a.In/\a.Nz/\a.Ok):(⟨A,GL c⟩:RuD).Fit :=
 ⟨⟨d,e,λa h=>⟨(b a (KJ h)).1,(b a (KJ h)).2.1⟩⟩,λa h=>(b a (KJ h)).2.2⟩
theorem Jb{m:Mt}(h:A.and B=some m):A.meets B/\m=A.both B:=by
 unfold Mt.and at h
 split at h
 .rename_i a;exact⟨a,(Ade h).symm⟩
 .cases h
def Tg(b:List Ac->List Ac->List Ac):Prop:=∀x y a,a∈b x y->a∈x\/a∈y
theorem Aad:Tg JW:=λ_ _ _ h=>LI.1 h
theorem AdN:Tg IL:=λ_ _ _ h=>by
 unfold IL at h
 split at h
 .cases h
 .exact .inl h
theorem RuD.Fit.three(h:S.Fit){a:Ac}(b:a∈S.acts):a.In/\a.Nz/\a.Ok:=⟨(h.isIn.act a b).1,(h.isIn.act a b).2,h.ok a b⟩
theorem AcB{b:List Ac->List Ac->List Ac}(e:Tg b){r s:RuD}(d:r.Fit)(c:s.Fit):∀a∈b r.acts s.acts,a.In/\a.Nz/\a.Ok:=λa h=>(e _ _ a h).elim d.three c.three
theorem Ph{a:Ac}{m:Mt}(c:m.In)(d:m.Nz):∀(k:Nat) (n:Mt),Ah a m k=some n->n.In/\n.Nz
 | 0,n,h=>by cases h;exact⟨c,d⟩
 | k+1,n,h=>by
  rw[Ah] at h
  split at h
  .cases h
  rename_i f e
  have b:=Ph c d k f e
  split at h
  .split at h
   .cases h
   .cases h;exact⟨Mt.ZR b.1 k,Mt.ZS b.2 k⟩
  .cases h;exact b
theorem NJ{c:Ac}(i:c.In)(j:c.Nz)(f:c.Ok):∀l:List RuD,(∀r∈l,r.Fit)->∀r∈DM c l,r.Fit
 | [],_,r,h=>by cases h
 | x::l,q,r,h=>by
  rw[DM] at h
  split at h
  .exact NJ i j f l (λy s=>q y (EQ _ s)) r h
  .rename_i m t
   rcases Rl.1 h with rfl|h
   .have g:=q x (Fr ..)
    have e:=Ph g.isIn.m g.isIn.nz 9 m t
    refine⟨⟨e.1,e.2,λa k=>?_⟩,λa k=>?_⟩
    .obtain ⟨b,d,rfl⟩:=Ab8.1 k
     have d:=g.three d
     exact⟨Ac.AfT i d.1 f d.2.2,Ac.AfU j d.2.1⟩
    .obtain ⟨b,d,rfl⟩:=Ab8.1 k
     have d:=g.three d
     exact Ac.ZA f d.2.2
   .exact NJ i j f l (λy s=>q y (EQ _ s)) r h

section
variable {P:Program}{Q:Exit->Act->World->Prop}{n:Nat}{p:Nat->Prop}{w0:World}{l:Kn}{L:List Ent}
theorem WC.scope{c:Code}(h:WC P c (Exit.noGoto Q) n p w0 l L):WC P (.scope c) Q n p w0 l L:=λa w d b=>wp_scope_straight (h a w d b)
theorem WE.AhR(h:WE Q .normal n p w0 l L):WE (Exit.noGoto Q) .normal n p w0 l L:=h
theorem WE.KN(h:WE Q .ret n p w0 l L):WE (Exit.noGoto Q) .ret n p w0 l L:=h
theorem WE.Zp(h:WE Q (.exit D) n p w0 l L):WE (Exit.noGoto Q) (.exit D) n p w0 l L:=h
end

theorem Xk{a:Type}{f:Nat->Option a}{g:Nat->a}:∀(n:Nat),(∀i,i<n->f i=some (g i))->(List.range n).mapM f=some ((List.range n).map g)
 | 0,_=>rfl
 | n+1,h=>by
  rw[List.range_succ,List.mapM_append,Xk n λi b=>h i W,Ai7]
  simp[h n W]
theorem Xh{P:Program}{t e:TypeId}{d:Nat}(r:P.underlying t=some (.array 9 e))(m:P.underlying e=some (.int .u64))(j:P.cellsOf t=9)(a:P.cellsOf e=1)(q:∀k,0<=J k/\J k<=18446744073709551615):
 P.keyLits (d+2) t (ucs J 9)=some ((List.range 9).map λi=>Lit.int .u64 (J i)):=by
 have c:∀i,i<9->P.keyLits (d+1) e (((ucs J 9).drop (i*P.cellsOf e)).take (P.cellsOf e))=some [Lit.int .u64 (J i)]:=λi b=>by
  have g:((ucs J 9).drop (i*P.cellsOf e)).take (P.cellsOf e)=[.int .u64 (J i)]:=by
   rw[a,Aed]
   have:=List.drop_eq_getElem_cons (l:=ucs J 9) (i:=i) (by rw[DJ];exact b)
   rw[this]
   have f:=Hk J b
   rw[FS (by rw[DJ];exact b)] at f
   rw[Ade f]
   rfl
  rw[g]
  unfold Program.keyLits
  rw[m]
  have s:(Lit.int .u64 (J i)).wf=true:=by
   have h:=q i
   show(decide (IntKind.u64.min<=J i) && decide (J i<=IntKind.u64.max))=true
   rw[UV (show IntKind.u64.min<=J i from h.1),UV (show J i<=IntKind.u64.max from h.2)]
   rfl
  simp[s]
 unfold Program.keyLits
 rw[r]
 simp only[j,DJ,if_true]
 rw[Xk 9 c]
 rfl
def KMt:Vl->Prop:=λv=>∃l,keyOf prog 220 v=some l
theorem RV:HD prog 220 KMt:=by
 have L:WideMaps.KeyLaw prog 220:=deep_law (m:=4) C8 C6 C6 C6
 exact B5
theorem Ahh(m:Mt)(f:m.In):∃q,prog.keyLits (prog.types.size+1) 220 (mtL m)=some q:=by
 have a:=Xh (P:=prog) (t:=218) (e:=23) (d:=prog.types.size-2) underlying218 underlying23 C6 C6 f.val
 have b:=Xh (P:=prog) (t:=218) (e:=23) (d:=prog.types.size-2) underlying218 underlying23 C6 C6 f.mask
 have k:prog.types.size-2+2=prog.types.size:=C6
 rw[k] at a b
 have g:(mtL m).take 9=ucs m.val 9:=rfl
 have i:((mtL m).drop 9).take 9=ucs m.mask 9:=rfl
 have j:prog.cellsOf 218=9:=C6
 have c:prog.cellsOf 220=18:=C6
 unfold Program.keyLits
 rw[underlying220]
 generalize prog.types.size=Z at a b ⊢
 simp[j,c,IX,g,i,a,b]
theorem KMt.mk(d:A.In):KMt (mtV A):=by
 obtain⟨e,h⟩:=Ahh A d
 have hk:prog.keyType 220=true:=C6
 have c:(mtV A).formed prog 220=true:=by
  have a:prog.cellsOf 220=18:=C6
  unfold mtV Value.formed
  rw[underlying220]
  simp[a,IX]
 refine⟨.string (keyBytes e),?_⟩
 unfold keyOf
 rw[underlying220]
 have b:(mtV A).cells.toList=mtL A:=rfl
 simp only[hk,c,Bool.and_true,if_true,b,h,Option.map_some]
section Gq
attribute [local irreducible] WL WC WE WQ WP WH WR WM WRH

def YB(m n:Mt)(k:Nat):Mt:=⟨λi=>if i<k then orN (m.val i) (n.val i) else m.val i,λi=>if i<k then orN (m.mask i) (n.mask i) else m.mask i⟩
theorem Nc(h:A.eqv B):mtL A=mtL B:=by
 unfold mtL
 rw[KQ (f:=A.val) (g:=B.val) λi a=>(h i a).1,KQ (f:=A.mask) (g:=B.mask) λi a=>(h i a).2]
theorem Adv(hk:D<9):((mtL (YB A B D)).set (0+D*1) (.int .u64 (orN (A.val D) (B.val D)))).set (9+D*1) (.int .u64 (orN (A.mask D) (B.mask D)))=mtL (YB A B (D+1)):=by
 rw[Lw hk,Mp hk]
 refine Nc λi b=>⟨?_,?_⟩
 .show (if i=D then _ else(if i<D then _ else _))=(if i<D+1 then _ else _)
  by_cases e:i=D
  .subst e;rw[IR rfl,IR W]
  .rw [E9 e]
   by_cases a:i<D
   .rw [IR a,IR W]
   .rw [E9 a,E9 W]
 .show (if i=D then _ else(if i<D then _ else _))=(if i<D+1 then _ else _)
  by_cases e:i=D
  .subst e;rw[IR rfl,IR W]
  .rw [E9 e]
   by_cases a:i<D
   .rw [IR a,IR W]
   .rw [E9 a,E9 W]
theorem Wn(hk:D<9):(mtL (YB A B D))[0+D*1]?=some (.int .u64 (A.val D)):=by
 rw[Ic _ hk]
 show some (Value.int .u64 (if D<D then _ else _))=_
 rw[E9 W]
theorem Tl(hk:D<9):(mtL (YB A B D))[9+D*1]?=some (.int .u64 (A.mask D)):=by
 rw[G4 _ hk]
 show some (Value.int .u64 (if D<D then _ else _))=_
 rw[E9 W]
theorem Aac{y:Int}(h:O<=18446744073709551615):0<=IB O y/\IB O y<=18446744073709551615:=by
 unfold IB
 have:O.toNat &&& y.toNat<=O.toNat:=Nat.and_le_left
 omega
theorem L6(w:Wd)(m n:Mt)(B:m.In)(D:n.In):
 Cl 175 #[mtV m,mtV n] w (RvF (.tuple #[mtV ((m.and n).getD mt0),.bool (m.and n).isSome]) w):=by
 refine en0 func175 U ntmps175 U<|J2 ?_
 refine zx U U U U U<|λs H=>zx U U U U U<|λt J=>zy U FR.h U U<|λu K=>J10 ?_
 refine oLp (λk:Nat=>[(7,iI k),(2,pG s),(3,pG t),(4,pG u),(5,.bool false)]) (λk=>[.row u (mtL mt0),.row t (mtL n),.row s (mtL (YB m n k))]) (λk=>k<=9/\∀j,j<k->IB (IB (QB (m.val j) (n.val j)) (m.mask j)) (n.mask j)=0) (λk=>9-k) 0 ⟨Lv _,λj h=>absurd h W⟩ ?_
 rintro k ⟨hk,d⟩
 have b:=B.val k
 have g:=B.mask k
 have c:=D.val k
 have r:=D.mask k
 have z:=Ah1 (x:=m.val k) (y:=n.val k) b.2 c.2
 have E:=Aac (y:=m.mask k) z.2
 refine J2 ?_
 refine JT (λF=>?_) λF=>?_
 refine J16 ?_
 refine cQ mixed<|J2 ?_
 refine qV (AG (lo:=k) U U U underlying218 CF W W) U<|qV (An U U Gn.h (cellAt (Wn W))) U<|J2 ?_
 refine qV (AG (lo:=k) U U U underlying218 CF W W) U<|qV (An U U Gn.h (cellAt (Ic n W))) U<|qV (v_xor U U U (UI b.1 b.2 c.1 c.2)) U<|J2 ?_
 refine qV (AG (lo:=k) U U U underlying218 CF W W) U<|qV (An U U Gn.h (cellAt (Tl W))) U<|qV (HX U U U (IT z.1 z.2 g.1 g.2)) U<|J2 ?_
 refine qV (AG (lo:=k) U U U underlying218 CF W W) U<|qV (An U U Gn.h (cellAt (G4 n W))) U<|qV (HX U U U (IT E.1 E.2 r.1 r.2)) U<|JT (λa=>?_) (λa=>?_)
 refine J17 ?_
 refine eT2 ?_
 have v:m.and n=none:=(by unfold Mt.and;exact E9 λq=>a (q k (W)))
 exact λM h=>⟨by rw[v];rfl,h.frm⟩
 refine J6 ?_
 refine WC.AS mixed<|rF 5 [0,1,2,4,5,6,9]<|?_
 refine J2 ?_
 refine pV (AG (lo:=k) U U U underlying218 CF W W) U<|J2 ?_
 refine pV (AG (lo:=k) U U U underlying218 CF W W) U<|J2 ?_
 refine rA 1 [3,7,8,10] U<|qV (An U U Gn.h (cellAt (Wn W))) U<|qV (An U U Gn.h (cellAt (Ic n W))) U<|qV (S9 U U U (P4 b.1 b.2 c.1 c.2)) U<|qV (AG (lo:=k) U U U underlying218 CF W W) U<|J1 ?_
 refine rO 0 [11]<|WL.DX U U U U Gn.h Ek (.none U) U ?_
 refine J3 ?_
 refine WC.AS mixed<|rF 5 [0,1,2,4,5,6,9]<|?_
 refine J2 ?_
 refine pV (AG (lo:=k) U U U underlying218 CF W W) U<|J2 ?_
 refine pV (AG (lo:=k) U U U underlying218 CF W W) U<|J2 ?_
 refine rA 1 [3,7,8,10] U<|qV (An U U Gn.h (cellAt (by rw[Adq (W)];exact Tl (W)))) U ?_
 refine qV (An U U Gn.h (cellAt (G4 n W))) U<|qV (S9 U U U (P4 g.1 g.2 r.1 r.2)) U<|qV (AG (lo:=k) U U U underlying218 CF W W) U<|J1 ?_
 refine rO 0 [11]<|WL.DX U U U U Gn.h (by rw[AbI,IX];omega) (.none U) U ?_
 refine J8 ?_
 refine WE.as (L':=[.row u (mtL mt0),.row t (mtL n),.row s (mtL (YB m n (k+1)))]) (by rw[<- Adv (W)]) (eW (k+1) W ⟨W,λj N=>by
 by_cases e:j=k
 .subst e;exact Acp.1 a
 .exact d j W⟩)
 refine J11 ?_
 obtain rfl:k=9:=W
 have f:m.and n=some (m.both n):=(by unfold Mt.and;exact IR d)
 have G:mtL (YB m n 9)=mtL (m.both n):=Nc λi A=>⟨IR A,IR A⟩
 rw[G]
 refine J6 ?_
 refine eT2 ?_
 exact λM h=>⟨by rw[f];rfl,h.frm⟩
theorem Yo(w:Wd)(m:Mt)(k:Nat)(hk:k<9):
 Cl 319 #[mtV m,iI k] w (RvF (mtV (m.I1 k)) w):=by
 refine en0 func319 U ntmps319 U<|J2 ?_
 refine zx U U U U U<|λa c=>zy U FR.h U U<|λb d=>J6 ?_
 refine zk CkO U (λw e=>V6 w k hk)<|J7 ?_
 refine zV (AG (lo:=k) U U U underlying218 CF W W) U<|WL.DX U U U U Gn.h Ek (.none U) U ?_
 refine WL.as (L':=[.row b (mtL mt0),.row a (mtL ⟨λi=>if i=k then 0 else m.val i,m.mask⟩)]) (by rw[Lw hk];rfl) ?_
 refine J5 ?_
 refine zV (AG (lo:=k) U U U underlying218 CF W W) U<|WL.DX U U U U Gn.h Ek (.none U) U ?_
 refine WL.as (L':=[.row b (mtL mt0),.row a (mtL (m.I1 k))]) (by rw[Mp hk];rfl) ?_
 refine J9 ?_
 exact Aw
/-! ### Matches as keys -/
theorem OO :mtL A=mtL B<->A.eqv B:=by
 refine⟨λh k hk=>⟨?_,?_⟩,Nc⟩
 .have:=If (λl=>l[0+k*1]?) h
  have this:(mtL A)[0+k*1]?=(mtL B)[0+k*1]?:=this
  rw[Ic A hk,Ic B hk] at this
  injection this with this
  injection this
 .have:=If (λl=>l[9+k*1]?) h
  have this:(mtL A)[9+k*1]?=(mtL B)[9+k*1]?:=this
  rw[G4 A hk,G4 B hk] at this
  injection this with this
  injection this
theorem AaP :mtV A=mtV B<->A.eqv B:=by
 rw[<- OO]
 unfold mtV
 constructor
 .intro h
  injection h with h
  exact List.toArray_inj h
 .intro h;rw[h]

structure PlL where
 mr:Int
 ma:Int
 ad:Option Addr
 c:Nat
 ls:List RuL
 mad:Option Addr
 mc:Nat
 ms:List (Nat->Int)
 hv:Option Nat
 es:Array MapEntry
 cl:Nat
abbrev PB(a:List (Nat->Int)):vL:=AM (λf=>ucs f 9) a
theorem Sa(a:List (Nat->Int)):(PB a).length=a.length*9:=AP (λf=>DJ f 9) a
def PlL.ds(p:PlL):List RuD:=p.ls.map RuL.d
def PlL.d(p:PlL):PlD:=⟨p.mr,p.ma,p.ds⟩
def PlL.cells(p:PlL):vL:=[iI p.mr,iI p.ma,.slice p.ad p.ls.length p.c,.slice p.mad p.ms.length p.mc,.map p.hv,iI ((HS p.ds:Nat):Int)]
open Classical in
noncomputable def JO(a:List RuD):Vl->Option Vl:=λv=>if ∃r∈a,v=mtV r.m then some (.agg #[]) else none
theorem Acb(b:List RuD)(m:Mt)(d:List Ac):CR (JO b) (mtV m) (some (.agg #[]))=JO (b++[⟨m,d⟩]):=by
 funext v
 by_cases h:v=mtV m
 .subst h
  rw[DC]
  exact(IR ⟨_,Mu _ (Es.2 U),rfl⟩).symm
 .rw [CI _ _ h]
  unfold JO
  by_cases c:∃r∈b,v=mtV r.m
  .obtain ⟨r,a,e⟩:=c
   rw[IR ⟨r,a,e⟩,IR ⟨r,Ha _ a,e⟩]
  .rw [E9 c,E9]
   rintro⟨r,a,e⟩
   rcases LI.1 a with a|a
   .exact c ⟨r,a,e⟩
   .rw [Es.1 a] at e;exact h e
theorem Ace:JO []=λ_=>none:=by
 funext v
 exact E9 C9
theorem Ox :(JO G (mtV A)).isSome=true<->∃r∈G,A.eqv r.m:=by
 unfold JO
 by_cases h:∃r∈G,mtV A=mtV r.m
 .rw [IR h]
  obtain⟨r,a,e⟩:=h
  exact⟨λ_=>⟨r,a,AaP.1 e⟩,λ_=>rfl⟩
 .rw [E9 h]
  exact⟨λk=>Eb,λ⟨r,a,e⟩=>absurd ⟨r,a,AaP.2 e⟩ h⟩
theorem Acd(a:List RuD)(v:Vl):(JO a v).getD (.agg #[])=.agg #[]:=by
 unfold JO
 split<;>rfl
section
variable {P:Program}{C:Wd->Prop}{n:Nat}{o:Oper}{l:Kn}
theorem Af3{t c b:TypeId}{x d:Operand}{r:Option Nat}{A:Vl}{K:Vl->Prop}{a:Array MapEntry}(i:o.op=.lookup t x d true)(k:ev l x=some (.map r))(h:ev l d=some A)(j:P.underlying t=some (.map c b))(hk:HD P c K)(e:K A)(m:(P.info? b).bind (·.zero)=some (.agg #[]))
 (g:∀w,C w->SZ w r a) (f:CP K a (JO G)):Val P C n l o (.tuple #[.agg #[],.bool (JO G A).isSome]):=by
 have:=ED (C:=C) (n:=n) i k h j hk e m g f
 rwa [Acd] at this
end
structure PlL.Ok(p:PlL):Prop where
 fit:∀r∈p.ds,r.Fit
 mask:∀r∈p.ds, ∃f∈p.ms, ∀k,k<9->f k=r.m.mask k
 num:∀f∈p.ms, ∀k,0<=f k/\f k<=18446744073709551615
 keys:CP KMt p.es (JO p.ds)
structure PlR(w:Wd)(g:Nat)(p:PlL):Prop where
 row:w.rangeAt g 0 p.cells
 masks:Rg w p.mad (PB p.ms)
 map:SZ w p.hv p.es
theorem Ux(w:Wd)(b a:Int):Cl 174 #[.agg #[iI b,iI a]] w λe c=>∃g,e=.returned (pG g)/\St Fx w c [.row g (PlL.cells ⟨b,a,none,0,[],none,0,[],none, #[],0⟩)]:=by
 refine en0 func174 U ntmps174 U<|J2 ?_
 refine zx U U U U U<|λj f=>J7 ?_
 refine zx U U U U U<|λd i=>J4 ?_
 refine eT1 ?_
 exact λc h=>⟨d,rfl,h.sub (.cons_cons _ (.cons _ (.refl _)))⟩
theorem Vec.XS{k c:Nat}{d:vL}{L:eL}(m:Vec D T k c d E)(r:∀e∈E,e∈L)(s:0<d.length):∃b o,T=some ⟨b,o,none⟩/\∀(p:Nat->Prop) (w0 w:Wd),St p w0 w L->w.rangeAt b o d:=by
 rcases m with⟨_,_,_,rfl,_⟩|⟨g,f,rfl,rfl,t,q,hk⟩
 .simp at s
 .refine ⟨g,0,rfl,λp w0 w i j v a=>?_⟩
  have h:Row w g f:=i.holds (.row g f) (r _ (Fr ..))
  rw[<- t,Agg] at a
  split at a
  .rw [PP];exact h.cell a
  .cases a
def YX(m:Mt)(f:Nat->Int)(k:Nat):Mt:=⟨λi=>if i<k then IB (m.val i) (f i) else 0,f⟩
theorem AeA(hk:D<9):(mtL (YX A J D)).set (0+D*1) (.int .u64 (IB (A.val D) (J D)))=mtL (YX A J (D+1)):=by
 rw[Lw hk]
 refine Nc λi b=>⟨?_,rfl⟩
 show(if i=D then _ else(if i<D then _ else _))=(if i<D+1 then _ else _)
 by_cases e:i=D
 .subst e;rw[IR rfl,IR W]
 .rw [E9 e]
  by_cases a:i<D
  .rw [IR a,IR W]
  .rw [E9 a,E9 W]
theorem Ahb(b:A.In)(a:∀k,0<=J k/\J k<=18446744073709551615)(k:Nat):(YX A J k).In :=
 ⟨λi=>by
  show 0<=(if i<k then _ else _)/\(if i<k then _ else _)<=_
  split
  .exact Aac (b.val i).2
  .exact ⟨AgP _,C8⟩,a⟩
theorem XF(a:∀k,k<9->J k=A.mask k)(c:∀k,k<9->FT (J k) (B.mask k)=0):A.over B<->(YX B J 9).eqv A:=by
 constructor
 .intro h k hk
  refine⟨?_,a k hk⟩
  show(if k<9 then IB (B.val k) (J k) else 0)=_
  rw[IR hk,a k hk]
  exact(h k hk).2.symm
 .intro h k hk
  refine⟨by rw[<- a k hk];exact c k hk,?_⟩
  have b:(if k<9 then IB (B.val k) (J k) else 0)=A.val k:=(h k hk).1
  rw[IR hk,a k hk] at b
  exact b.symm
theorem WK(h:A.eqv B):B.eqv A:=λk hk=>⟨(h k hk).1.symm,(h k hk).2.symm⟩
theorem LZ(w:Wd)(g:Nat)(p:PlL)(m:Mt)(D:PlR w g p)(H:p.Ok)(E:m.In)(hn:p.ms.length<=1000000000):
 Cl 176 #[pG g,mtV m] w (RvF (.bool (decide (JH p.ds m))) w):=by
 have hK:=KMt.mk E
 refine en0 func176 U ntmps176 U<|J2 ?_
 refine zx U U U U U<|λB hg3=>J3 ?_
 refine WC.scope<|J2 ?_
 refine WC.AS mixed<|rF 9 [0,1,2]<|?_
 refine J4 ?_
 refine WR.mix (g:=2) 9 [3,4,5,6,7] [8] U Aaz.h U U U C6 C6<|zm (An U U AaA.h (BY (λh=>h) (D.row 4 _ U))) U<|zm (AB U U Ad.h U AL) U<|zm (Af3 U U U underlying383 RV hK U (Y1 (λ_ h=>h) D.map) H.keys) U<|zm (DG U U) U<|zm (CB U U U) U<|WM.nil<|?_
 refine J1 ?_
 refine WP.NU<|λg5 hg5=>rO 1 [10]<|J2 ?_
 refine rF 0 [11]<|J9 ?_
 refine WC.YF U (λv=>?_) λv=>?_
 refine J7 ?_
 refine WE.KN<|eT1 ?_
 obtain⟨r,c,u⟩:=Ox.1 v
 exact λX h=>⟨by rw[UV (p:=JH p.ds m) ⟨r,c,.inl (WK u)⟩],h.frm⟩
 refine J3 ?_
 refine WC.label<|J4 ?_
 have R:∀r∈p.ds, ¬r.m.eqv m:=λr c u=>(by
 have:=Ox.2 ⟨r,c,WK u⟩
 cases (v.symm.trans this))
 refine J3 ?_
 refine zV (An U U W7.h (BY (λh=>h) (D.row 3 _ U))) U<|J5 ?_
 refine WC.loop (λi:Nat=>[(29,iI i),(28,iI p.ms.length),(27,.slice p.mad p.ms.length p.mc),(3,pG B),(0,pG g),(4,.bool false)]) (λ_=>[.row B (mtL m)]) (λi=>i<=p.ms.length/\∀j f,j<i->p.ms[j]?=some f->∀r∈p.ds,(∀k,k<9->f k=r.m.mask k)->¬r.m.over m) (λi=>p.ms.length-i) 0 ⟨Lv _,λj f h=>absurd h (Ac5 _)⟩ Km (by first|exact .refl _|exact List.Sublist.cons _ (.refl _)) ?_
 rintro i ⟨hi,A⟩
 refine J2 ?_
 refine JT (λM=>?_) λM=>?_
 refine J10 ?_
 obtain⟨f,s⟩:∃x,p.ms[i]?=some x:=Gx
 have d:=H.num f (Do s)
 obtain⟨Z,o1,J,r1⟩:=D.masks (by intro hh;have:=Sa p.ms;rw[hh] at this;simp at this;omega)
 refine zV ((AA (b:=Z) (off:=o1) (lo:=i) U (by show some (Value.slice p.mad _ _)=_;rw[J]) U underlying382 Ht U W)) U ?_
 refine zV (AB (cs:=ucs f 9) U U W4.h (DJ f 9) (DP (λh=>h) (Rg.seg (λf=>DJ f 9) r1 s))) U<|zy U MP U U<|?_
 intro K hg8
 refine J7 ?_
 refine zy U FR.h U U<|λG hg9=>J1 ?_
 refine WL.as (L':=[.row G (mtL (YX m f 0)),.row K (ucs f 9),.row B (mtL m)]) (by first|rfl|kernel_rfl) ?_
 refine J10 ?_
 refine oLp (λk:Nat=>[(36,iI k),(35,.agg (ucs f 9).toArray),(9,pG G),(29,iI i),(28,iI p.ms.length),(27,.slice p.mad p.ms.length p.mc),(3,pG B),(0,pG g),(4,.bool false)]) (λk=>[.row G (mtL (YX m f k)),.row K (ucs f 9),.row B (mtL m)]) (λk=>k<=9/\∀j,j<k->FT (f j) (m.mask j)=0) (λk=>9-k) 0 ⟨Lv _,λj h=>absurd h (Ac5 _)⟩ ?_
 rintro k ⟨hk,S⟩
 refine J2 ?_
 refine JT (λN=>?_) λN=>?_
 refine J11 ?_
 refine zV (X7 (lo:=k) U U U underlying218 Gn.h W W (Hk f W)) U<|J10 ?_
 refine zV (AG (lo:=k) U U U underlying218 CF W W) U<|zV (An U U Gn.h (cellAt (G4 m W))) U<|zV (HO U U U (Gl (d k).1 (d k).2 (E.mask k).1 (E.mask k).2)) U<|JT (λy=>?_) (λy=>?_)
 refine J5 ?_
 refine WE.FI U<|J2 ?_
 refine WE.FI U<|J7 ?_
 exact eW (i+1) W ⟨W,λj f2 F a r c t q=>by
 by_cases e:j=i
 .subst e
  rw[s] at a
  cases a
  have:=(q k W).1
  rw[<- t k W] at this
  exact y this
 .exact A j f2 W a r c t q⟩
 refine J9 ?_
 refine zV (AG (lo:=k) U U U underlying218 CF W W) U<|zV (An U U Gn.h (cellAt (Ic m W))) U<|J1 ?_
 refine zV (HX U U U (IT (E.val k).1 (E.val k).2 (d k).1 (d k).2)) U<|J1 ?_
 refine zV (AG (lo:=k) U U U underlying218 CF W W) U<|WL.DX U U U U Gn.h Ek (.none U) U ?_
 refine J7 ?_
 refine WE.as (L':=[.row G (mtL (YX m f (k+1))),.row K (ucs f 9),.row B (mtL m)]) (by rw[<- AeA (W)]) (eW (k+1) W ⟨W,λj F=>by
 by_cases e:j=k
 .subst e;exact Acp.1 y
 .exact S j W⟩)
 refine J10 ?_
 refine WC.AS mixed<|rF 9 [0,1,2]<|?_
 obtain rfl:k=9:=W
 have O:=KMt.mk (Ahb E d 9)
 refine J4 ?_
 refine WR.mix (g:=2) 9 [3,4,5,6,7] [8] U Aaz.h U U U C6 C6<|zm (An U U AaA.h (BY (λh=>h) (D.row 4 _ U))) U<|zm (AB U U Ad.h U AL) U<|zm (Af3 U U U underlying383 RV O U (Y1 (λ_ h=>h) D.map) H.keys) U<|zm (DG U U) U<|zm (CB U U U) U<|WM.nil<|?_
 refine J1 ?_
 refine WP.NU<|λaa T=>rO 1 [10]<|J2 ?_
 refine rF 0 [11]<|J9 ?_
 refine WC.YF U (λz=>?_) λz=>?_
 refine J11 ?_
 refine WE.KN<|eT1 ?_
 obtain⟨r,c,u⟩:=Ox.1 z
 have t:∀k,k<9->f k=r.m.mask k:=λk hk=>(u k hk).2
 exact λX h=>⟨by rw[UV (p:=JH p.ds m) ⟨r,c,.inr ((XF t S).2 u)⟩],h.frm⟩
 refine J7 ?_
 exact WE.next (i+1) W ⟨W,λj f2 F a r c t q=>by
 by_cases e:j=i
 .subst e
  rw[s] at a
  cases a
  have:=Ox.2 ⟨r,c,(XF t S).1 q⟩
  cases (z.symm.trans this)
 .exact A j f2 W a r c t q⟩ (.int U W (.cons U (.cons U (.cons U (.cons U (.cons U .nil)))))) (by first|exact .cons _ (.cons _ (.refl _))|exact .cons _ (.cons _ (.cons _ (.refl _))))
 refine J15 ?_
 refine WE.KN<|eT1 ?_
 exact λX h=>⟨by
 rw[Ro]
 rintro⟨r,c,u|ho⟩
 .exact R r c u
 .obtain ⟨f,hf,t⟩:=H.mask r c
  obtain⟨j,F⟩:=List.mem_iff_getElem?.1 hf
  have:=(Eu.1 F).1
  exact A j f W F r c t ho,h.frm⟩

structure K9(p:PlL)(E Em H K:eL):Prop where
 out:Vec 19 p.ad p.ls.length p.c (BB p.ls) E
 masks:Vec 9 p.mad p.ms.length p.mc (PB p.ms) Em
 map:(p.hv=none/\p.es = #[]/\H=[])\/∃gm,p.hv=some gm/\H=[.obj gm (.map p.es p.cl)]
 own:∀r∈p.ls,DE K r
 ok:p.Ok
 room:p.ms.length<=p.ls.length/\(p.ls.length:Int)<=p.mr/\p.mr<=4194304/\((HS p.ds:Nat):Int)<=p.ma/\p.ma<=16777216
theorem K9.r{p:PlL}{a L:eL}(h:K9 p E K X a){q:Nat->Prop}{w0 w:Wd}(d:St q w0 w L)(g:Ent.row D p.cells∈L)(i:∀e∈K,e∈L)(k:∀e∈X,e∈L):PlR w D p :=
 ⟨λj v s=>by rw[PP];exact(show Row w D p.cells from d.holds _ g).cell s,h.masks.rg λe m=>d.holds e (i e m),by
  rcases h.map with⟨b,c, -⟩|⟨f,b,c⟩
  .exact .inl ⟨b,c⟩
  .exact .inr ⟨f,p.cl,b,(d.holds (.obj f (.map p.es p.cl)) (k _ (by rw[c];exact Es.2 U))).1⟩⟩
theorem K9.new(b a:Int)(h:0<=b/\b<=4194304)(c:0<=a/\a<=16777216):K9 ⟨b,a,none,0,[],none,0,[],none, #[],0⟩ [] [] [] [] :=
 ⟨Vec.nil 19,Vec.nil 9,.inl ⟨rfl,rfl,rfl⟩,λr h=>Da,⟨λr h=>Da,λr h=>Da,λr h=>Da,by
  show CP KMt #[] (JO [])
  rw[Ace]
  exact CP.empty _⟩,M2 _,h.1,h.2,c.1,c.2⟩
theorem DE.more{r:RuL}(h:DE E r):DE (K++E) r:=h.sub λ_ a=>Mu _ a
structure AdS where
 gm:Nat
 es:Array MapEntry
 cl:Nat
structure AdU where
 ad:Option Addr
 c:Nat
 E:eL
structure AdT where
 mad:Option Addr
 mc:Nat
 ms:List (Nat->Int)
 Em:eL
def Q8(p:PlL)(a:Nat):vL:=[iI p.mr,iI p.ma,.slice p.ad p.ls.length p.c,.slice p.mad p.ms.length p.mc,.map (some a),iI ((HS p.ds:Nat):Int)]
def Wh(p:PlL)(b:Nat)(a:Option Addr)(e d:Nat):vL:=[iI p.mr,iI p.ma,.slice p.ad p.ls.length p.c,.slice a e d,.map (some b),iI ((HS p.ds:Nat):Int)]
theorem AcJ{q:Nat->Prop}{w0 w:Wd}{L E Em H K:eL}(g:Nat)(p:PlL)(m:Mt)(D:Option Addr)(ac:Nat)(u:List Ac)(hA:K9 p E Em H K)(hS:St q w0 w (.row g p.cells::(E++(Em++(H++(K++L))))))(hm:m.In)(hz:m.Nz)(hu:∀w,St q w0 w (.row g p.cells::(E++(Em++(H++(K++L)))))->Rg w D (CJ u))(G:∀a∈u,a.In/\a.Nz/\a.Ok)(hn:u.length<=100000):
 Cl 177 #[pG g,mtV m,.slice D u.length ac] w λe w'=>∃(b:Bool) (p':PlL) (E' N H' K':eL),e=.returned (.bool b)/\(b=true->p.d.add m u=some p'.d)/\(b=false->p.d.add m u=none/\p'.d=p.d)/\K9 p' E' N H' K'/\St q w0 w' (.row g p'.cells::(E'++(N++(H'++(K'++L))))):=by
 obtain⟨rm1,rm2,rm3,rm4,rm5⟩:=hA.room
 have hK:=KMt.mk hm
 refine enter func177 U ntmps177 U hS<|J2 ?_
 refine zx U U U U U<|λg4 hg4=>J6 ?_
 refine zK CkO U<|λw1 hS=>(Yp w1 D ac u (hu w1 hS.tail) (λa ha=>(G a ha).2.1) hn).mono ?_
 rintro e w' ⟨adn,cn,En,ys,rfl,hP,hyl,hVn,F⟩
 have J:GL u=ys:=Si (λa ha=>(G a ha).2.1) hP
 have hdl:(p.d.out.length:Int)=p.ls.length:=(by show((p.ls.map RuL.d).length:Int)=_;rw[Ri])
 refine⟨_,_,rfl,hS.join F,?_⟩
 refine J5 ?_
 refine cQ mixed<|J3 ?_
 refine qV (An U U S4.h (cellAt (v:=.slice p.ad p.ls.length p.c) U)) U<|J5 ?_
 refine qV (An U U i3o.h (cellAt (v:=iI p.mr) U)) U<|JT (λh22=>?_) (λh22=>?_)
 refine J25 ?_
 refine eT1 ?_
 have hno:p.d.add m u=none:=(by unfold PlD.add;exact IR (.inl (by show(p.d.out.length:Int) >= p.mr;omega)))
 exact Bg
 refine J4 ?_
 refine WQ.val (An U U i3o.h (cellAt (v:=iI ((HS p.ds:Nat):Int)) U)) (.some U U U) U U<|J7 ?_
 refine WQ.val (An U U i3o.h (cellAt (v:=iI p.ma) U)) (.some U U U) U U<|JT (λh36=>?_) (λh36=>?_)
 refine J11 ?_
 refine eT1 ?_
 have hno:p.d.add m u=none:=(by unfold PlD.add;rw[J];exact IR (.inr (by show((HS p.ds:Nat):Int)+(ys.length:Int) > p.ma;omega)))
 exact Bg
 refine J6 ?_
 refine WC.cut (λ_:AdS=>[(0,pG g),(4,pG g4),(2,.slice adn ys.length cn),(6,.bool false)]) (λx=>.row g (Q8 p x.gm)::.obj x.gm (.map x.es x.cl)::.row g4 (mtL m)::(En++(E++(Em++(K++L))))) (λx=>CP KMt x.es (JO p.ds)) ?_ ?_
 refine J5 ?_
 obtain⟨O,j⟩:∃b,p.hv.isNone=b:=⟨_,rfl⟩
 refine zV (An U U AaA.h (cellAt (v:=.map p.hv) U)) U<|zV (AI O U U underlying383 (by rw[<- j];rfl)) U ?_
 cases O
 refine J4 ?_
 rcases hA.map with⟨A, -, -⟩|⟨gm,A,hH⟩
 .rw [A] at j;cases j
 .subst hH
  refine WE.to (L':=.row g (Q8 p gm)::.obj gm (.map p.es p.cl)::.row g4 (mtL m)::(En++(E++(Em++(K++L))))) (λw hS=>?_) (eM ⟨gm,p.es,p.cl⟩ hA.ok.keys)
  have e:Q8 p gm=p.cells:=(by unfold Q8 PlL.cells;rw[A])
  rw[e]
  exact hS.AJ
 refine J5 ?_
 refine WL.makeMap U (.none U) U U<|λt hg44=>J4 ?_
 have hh:p.hv=none:=(by cases h:p.hv with|none=>rfl|some x=>rw[h] at j;cases j)
 rcases hA.map with⟨-,X,hH⟩|⟨gm,A, -⟩
 .have hk:=hA.ok.keys
  rw[X] at hk
  subst hH
  refine WE.to (L':=.row g (Q8 p t)::.obj t (.map #[] 0)::.row g4 (mtL m)::(En++(E++(Em++(K++L))))) (λw hS=>?_) (eM ⟨t, #[],0⟩ hk)
  exact St.AJ (L:=.obj t (.map #[] 0)::(En++(.row g4 (mtL m)::.row g (Q8 p t)::(E++(Em++([]++(K++L))))))) hS
 .rw [hh] at A;cases A
 rintro⟨gm,es,cl⟩ hM
 dsimp only at hM⊢
 have ae:p.d.add m u=some ⟨p.mr,p.ma,p.ds++[⟨m,ys⟩]⟩:=(by
  unfold PlD.add
  rw[J]
  exact E9 (λk=>by
   rcases k with k|k
   .have k:(p.d.out.length:Int) >= p.mr:=k
    omega
   .have k:((HS p.ds:Nat):Int)+(ys.length:Int) > p.ma:=k
    omega))
 refine J5 ?_
 refine WC.cut (λb:Bool=>[(7,.bool b),(0,pG g),(4,pG g4),(2,.slice adn ys.length cn),(6,.bool false)]) (λ_=>.row g (Q8 p gm)::.obj gm (.map es cl)::.row g4 (mtL m)::(En++(E++(Em++(K++L))))) (λb=>b=false->∃f∈p.ms, ∀k,k<9->f k=m.mask k) ?_ ?_
 refine J5 ?_
 refine zV (An U U W7.h (cellAt (v:=.slice p.mad p.ms.length p.mc) U)) U<|J5 ?_
 refine oLp (λi:Nat=>[(52,iI i),(51,iI p.ms.length),(50,.slice p.mad p.ms.length p.mc),(7,.bool true),(0,pG g),(4,pG g4),(2,.slice adn ys.length cn),(6,.bool false)]) (λ_=>.row g (Q8 p gm)::.obj gm (.map es cl)::.row g4 (mtL m)::(En++(E++(Em++(K++L))))) (λi=>i<=p.ms.length) (λi=>p.ms.length-i) 0 (Lv _)<|λi hi=>J2 ?_
 refine JT (λh53=>?_) λh53=>?_
 refine J10 ?_
 obtain⟨f,Z⟩:∃x,p.ms[i]?=some x:=Gx
 obtain⟨b1,o1,ea1,q1⟩:=hA.masks.XS (L:=.row g (Q8 p gm)::.obj gm (.map es cl)::.row g4 (mtL m)::(En++(E++(Em++(K++L))))) (λe X=>by simp[X]) (by rw[Sa];omega)
 obtain⟨R,T⟩:∃c:Bool,c=true<->ucs f 9=ucs m.mask 9:=⟨@decide _ (Classical.propDecidable _),@Aim _ (Classical.propDecidable _)⟩
 refine zV ((AA (b:=b1) (off:=o1) (lo:=i) U (by show some (Value.slice p.mad _ _)=_;rw[ea1]) U underlying382 Ht U W)) U ?_
 refine zV (AB (cs:=ucs f 9) U U W4.h (DJ f 9) λw' F=>Rg.seg (λf=>DJ f 9) (q1 _ _ w' F) Z) U<|zy U MP U U<|?_
 intro g9 hg9
 refine J7 ?_
 refine zV (AB U U W4.h U (AT (g:=g4) (m:=9) (new:=ucs m.mask 9) U)) U<|zV (GN (b:=R) U U U AgZ AgW (by first|rfl|(show(ucs f 9).length=9;exact DJ f 9)) (by first|rfl|(show(ucs m.mask 9).length=9;exact DJ m.mask 9)) T) U ?_
 cases R
 refine J10 ?_
 exact eW (i+1) W W
 refine J9 ?_
 refine WE.FI U<|J3 ?_
 exact eM false (λ_=>⟨f,Do Z,λk hk=>(by
 have h:=T.1 U
 have M:=If (λl=>l[k]?) h
 have M:(ucs f 9)[k]?=(ucs m.mask 9)[k]?:=M
 rw[Hk f hk,Hk m.mask hk] at M
 injection M with M
 injection M)⟩)
 refine J8 ?_
 exact eM true λk=>Eb
 intro fr hfr
 refine WC.cut (λ_:AdT=>[(0,pG g),(4,pG g4),(2,.slice adn ys.length cn),(6,.bool false)]) (λx=>.row g (Wh p gm x.mad x.ms.length x.mc)::.obj gm (.map es cl)::.row g4 (mtL m)::(En++(E++(x.Em++(K++L))))) (λx=>Vec 9 x.mad x.ms.length x.mc (PB x.ms) x.Em/\x.ms.length<=p.ms.length+1/\(∀f∈p.ms,f∈x.ms)/\(∃f∈x.ms, ∀k,k<9->f k=m.mask k)/\∀f∈x.ms, ∀k,0<=f k/\f k<=18446744073709551615) ?_ ?_
 refine J3 ?_
 skip
 cases fr
 refine J4 ?_
 exact eM ⟨p.mad,p.mc,p.ms,Em⟩ ⟨hA.masks,Nat.le_succ _,λf h=>h,hfr U,hA.ok.num⟩
 refine J3 ?_
 refine WC.AS mixed<|rF 7 [0,1,2,3,5]<|?_
 refine J6 ?_
 refine WR.each (g:=6) [4,6] C6 C8<|⟨?_,?_⟩
 refine zV (An U U W7.h (cellAt (v:=.slice p.mad p.ms.length p.mc) U)) U<|J1 ?_
 refine rA 5 [6] U<|qV (AB U U W4.h U (AT (g:=g4) (m:=9) (new:=ucs m.mask 9) U)) U<|?_
 exact Cv
 refine zV (AB U U W4.h U (AT (g:=g4) (m:=9) (new:=ucs m.mask 9) U)) U<|J1 ?_
 refine WR.each (g:=5) [4,7] C6 C8<|⟨?_,?_⟩
 refine zV (An U U W7.h (cellAt (v:=.slice p.mad p.ms.length p.mc) U)) U ?_
 exact Cv
 refine zB underlying382 Ht MP (by show some (AK (List.replicate 1 _).flatten 0 (ucs m.mask 9))=some (ucs m.mask 9);exact If some (AH U)) U ?_
 intro g69 hg69
 refine WL.to (L':=Em++(.row g69 (ucs m.mask 9)::.row g (Q8 p gm)::.obj gm (.map es cl)::.row g4 (mtL m)::(En++(E++(K++L))))) (λw hS=>hS.AJ)<|J1 ?_
 refine rA 4 [4] U<|qV (An U U W7.h (cellAt (v:=.slice p.mad p.ms.length p.mc) U)) U<|?_
 refine J1 ?_
 refine rO 3 [8] ?_
 exact Ab
 rintro⟨mad2,mc2,ms2,Em2⟩ ⟨S,hml,B,y,z⟩
 dsimp only at S hml B y z⊢
 refine J1 ?_
 refine WC.AS mixed<|rF 3 [0,1,2,5]<|?_
 refine J5 ?_
 refine rA 1 [3,4] U<|qV (An U U AaA.h (cellAt (v:=.map (some gm)) U)) U<|?_
 refine J2 ?_
 refine rO 0 [6]<|WL.mapUpdate U U U U underlying383 RV (hK) (hM) (.none U) U<|?_
 intro esU cU hMU hsU
 refine J3 ?_
 refine WC.cut (λx:AdU=>[(0,pG g),(2,.slice adn ys.length cn),(6,.bool false)]) (λx=>.row g [iI p.mr,iI p.ma,.slice x.ad (p.ls.length+1) x.c,.slice mad2 ms2.length mc2,.map (some gm),iI ((HS p.ds:Nat):Int)]::(x.E++(.obj gm (.map esU cU)::(En++(Em2++(K++L)))))) (λx=>Vec 19 x.ad (p.ls.length+1) x.c (BB p.ls++RuL.cells ⟨m,adn,cn,ys⟩) x.E) ?_ ?_
 refine WC.AS mixed<|rF 8 [0,1,2,3,6]<|?_
 refine J6 ?_
 refine WR.each (g:=7) [4,5] C6 C8<|⟨?_,?_⟩
 refine zV (An U U S4.h (cellAt (v:=.slice p.ad p.ls.length p.c) U)) U<|J1 ?_
 refine rA 5 [5,7] U<|J3 ?_
 exact Gf
 refine J2 ?_
 refine rF 6 [7]<|J2 ?_
 refine WR.each (g:=5) [4,8] C6 C8<|⟨?_,?_⟩
 refine zV (An U U S4.h (cellAt (v:=.slice p.ad p.ls.length p.c) U)) U<|J1 ?_
 exact Gf
 refine zB underlying54 BJ CZ.h (by show some (AK (List.replicate 1 _).flatten 0 (RuL.cells ⟨m,adn,cn,ys⟩))=some (RuL.cells ⟨m,adn,cn,ys⟩);exact If some (AH U)) U ?_
 intro g87 hg87
 refine WL.to (L':=E++(.row g87 (RuL.cells ⟨m,adn,cn,ys⟩)::.row g (Wh p gm mad2 ms2.length mc2)::.obj gm (.map esU cU)::.row g4 (mtL m)::(En++(Em2++(K++L))))) (λw hS=>hS.AJ)<|J1 ?_
 refine rA 4 [4] U<|qV (An U U S4.h (cellAt (v:=.slice p.ad p.ls.length p.c) U)) U<|?_
 refine J1 ?_
 refine rO 3 [9] ?_
 exact Ga
 rintro⟨ad88,c88,E88⟩ hV88
 dsimp only at hV88⊢
 refine J5 ?_
 refine zV (An U U i3o.h (cellAt (v:=iI ((HS p.ds:Nat):Int)) U)) U<|J14 ?_
 refine eT1 ?_
 have s:(p.ls++[(⟨m,adn,cn,ys⟩:RuL)]).map RuL.d=p.ds++[⟨m,ys⟩]:=(by rw[Ai7];rfl)
 have aa:(⟨m,ys⟩:RuD).Fit:=(by rw[<- J];exact Aat hm hz G)
 have ab:((HS (p.ds++[(⟨m,ys⟩:RuD)]):Nat):Int)=(HS p.ds:Nat)+(ys.length:Int):=(by
  rw[Ql]
  show((HS p.ds+(ys.length+0):Nat):Int)=_
  omega)
 have hu2:=Acb p.ds m ys
 exact λw' h=>⟨true,⟨p.mr,p.ma,ad88,c88,p.ls++[⟨m,adn,cn,ys⟩],mad2,mc2,ms2,some gm,esU,cU⟩,E88,Em2,[.obj gm (.map esU cU)],En++K,rfl,λ_=>by rw[ae];show _=some (⟨p.mr,p.ma,(p.ls++[(⟨m,adn,cn,ys⟩:RuL)]).map RuL.d⟩:PlD);rw[s],λk=>Eb,
  ⟨by dsimp only;rw[AC,show BB (p.ls++[(⟨m,adn,cn,ys⟩:RuL)])=BB p.ls++RuL.cells ⟨m,adn,cn,ys⟩ from AX _ _ _];exact hV88,S,.inr ⟨gm,rfl,rfl⟩,λr hr=>(by
   rcases LI.1 hr with hr|hr
   .exact (hA.own r hr).more
   .rw [Es.1 hr];exact⟨En,hVn,λe X=>Ha _ X⟩),
  ⟨λr hr=>(by
   have hr:r∈(p.ls++[(⟨m,adn,cn,ys⟩:RuL)]).map RuL.d:=hr
   rw[s] at hr
   rcases LI.1 hr with hr|hr
   .exact hA.ok.fit r hr
   .rw [Es.1 hr];exact aa),λr hr=>(by
   have hr:r∈(p.ls++[(⟨m,adn,cn,ys⟩:RuL)]).map RuL.d:=hr
   rw[s] at hr
   rcases LI.1 hr with hr|hr
   .obtain ⟨f,hf,A⟩:=hA.ok.mask r hr;exact⟨f,B f hf,A⟩
   .rw [Es.1 hr];exact y),z,by
   show CP KMt esU (JO ((p.ls++[(⟨m,adn,cn,ys⟩:RuL)]).map RuL.d))
   rw[s, <- hu2]
   exact hMU⟩,
  by dsimp only;rw[AC];show ms2.length<=p.ls.length+1;omega,by dsimp only;rw[AC];show((p.ls.length+1:Nat):Int)<=_;omega,rm3,by show((HS ((p.ls++[(⟨m,adn,cn,ys⟩:RuL)]).map RuL.d):Nat):Int)<=p.ma;rw[s,ab];omega,rm5⟩,by
  have e9:PlL.cells ⟨p.mr,p.ma,ad88,c88,p.ls++[⟨m,adn,cn,ys⟩],mad2,mc2,ms2,some gm,esU,cU⟩=[iI p.mr,iI p.ma,.slice ad88 (p.ls.length+1) c88,.slice mad2 ms2.length mc2,.map (some gm),iI ((HS p.ds:Nat)+(ys.length:Int))]:=(by
   unfold PlL.cells
   dsimp only
   rw[<- ab,AC]
   show _=[_,_,_,_,_,Value.int .i64 ((HS (p.ds++[(⟨m,ys⟩:RuD)]):Nat):Int)]
   rw[<- s]
   rfl)
  rw[e9]
  exact St.AJ (L:=.row g [iI p.mr,iI p.ma,.slice ad88 (p.ls.length+1) c88,.slice mad2 ms2.length mc2,.map (some gm),iI ((HS p.ds:Nat)+(ys.length:Int))]::(E88++(.obj gm (.map esU cU)::(En++(Em2++(K++L)))))) h⟩

def SumC(m:FuncId)(g:List Ac->List Ac->List Ac):Prop:=∀(w:Wd) (a b:Option Addr) (j k:Nat) (d f:List Ac),Rg w a (CJ d)->Rg w b (CJ f)->d.length<=5000->f.length<=5000 ->
 Cl m #[.slice a d.length j,.slice b f.length k] w λe q=>∃i c M,e=.returned (.slice i (g d f).length c)/\(∀h,(∀x∈M,Ent.holds h x)->Rg h a (CJ d)->Rg h b (CJ f)->Rg h i (CJ (g d f)))/\St Fx w q M
theorem AgA(w:Wd)(a b:Option Addr)(J K:Nat)(d f:List Ac)(u:Rg w a (CJ d))(v:Rg w b (CJ f))(T:d.length<=5000)(X:f.length<=5000):
 Cl 96 #[.slice a d.length J,.slice b f.length K] w λe G=>∃z c E,e=.returned (.slice z (d++f).length c)/\Vec 10 z (d++f).length c (CJ (d++f)) E/\St Fx w G E:=by
 refine en0 func96 U ntmps96 U<|J12 ?_
 refine WL.Mm (m:=0) (c:=d.length+f.length) U U U W W W underlying221 Lc W W BV DY.h U (.none U) U U<|λg B=>?_
 generalize hZ:List.flatten _=Z
 have R:Vec 10 (aG g) 0 (d.length+f.length) [] [.row g Z]:=Vec.row Ec Fw (Lv _)
 refine WL.to (L':=[.row g Z]++[]) (λw O=>by simpa using O)<|J7 ?_
 refine WL.AU U U U underlying221 underlying221 BV Lc DY.h U U R (new:=CJ d) (λS=>by obtain⟨s,x,i,y⟩:=u (by intro h;have:=I3 d;rw[h] at this;simp at this;omega);exact⟨s,x,i,DP (λh=>h) y⟩) (I3 d) (Gm La d) W (.none U) U U ?_
 intro A M H k D
 refine J7 ?_
 refine WL.AU U U U underlying221 underlying221 BV Lc DY.h U U k (new:=CJ f) (λS=>by obtain⟨s,x,i,y⟩:=v (by intro h;have:=I3 f;rw[h] at this;simp at this;omega);exact⟨s,x,i,DP (λh=>h) y⟩) (I3 f) (Gm La f) W (.none U) U U ?_
 intro j t r q F
 refine J4 ?_
 refine eT1 ?_
 have i:(d++f).length=0+d.length+f.length:=Dz
 have N:CJ (d++f)=[]++CJ d++CJ f:=(by show AM acL (d++f)=_;rw[GJ,Aec])
 exact λG h=>⟨j,t,r,by rw[i],by rw[i,N];exact q,by simpa using h⟩
theorem XV:SumC 96 JW:=λw a b e g r s i j h d =>
 (AgA w a b e g r s i j h d).mono λ_ _ ⟨f,c,E,q,m,k⟩=>⟨f,c,E,q,λ_ d _ _=>m.rg d,k⟩
structure Pb(w:Wd)(ad:Option Addr)(xs:List RuL):Prop where
 rd:Rg w ad (BB xs)
 ok:∀r∈xs,Rg w r.ad (CJ r.acts)
structure IK(n:Nat)(xs:List RuL):Prop where
 fit:∀r∈xs,r.d.Fit
 few:∀r∈xs,r.acts.length<=n
theorem RgS{c:vL}(h:∀N,St M H N E->Rg N T c)(j:St M H N E)(f:c≠[]):∃b o,T=some ⟨b,o,none⟩/\∀N,St M H N E->N.rangeAt b o c:=by
 obtain⟨b,o,e,_⟩:=h N j f
 refine⟨b,o,e,λm d=>?_⟩
 obtain⟨q,r,a,k⟩:=h m d f
 rw[e] at a
 injection a with a
 injection a with g i
 subst g i
 exact k
def Wy(a:Option Nat)(b:PlL):List RuD:=match a with|none=>[] | some _=>b.ds
structure ButAt(q:Nat->Prop)(w0:Wd)(L:eL)(bo:Option Nat)(pb:PlL):Prop where
 rd:∀gb,bo=some gb->∀w,St q w0 w L->PlR w gb pb
 ok:∀gb,bo=some gb->pb.Ok/\pb.ms.length<=1000000000
def ptrB(a:Option Nat):Vl:=.pointer (a.map λg=>⟨g,0,none⟩)
theorem WG(c:List RuD)(d:List Ac->List Ac->List Ac)(b:List RuD)(r:RuD)(a:List RuD)(p:PlD):DU c d b (r::a) p=(HH c d r b p).bind (DU c d b a):=by
 rw[DU]
 cases HH c d r b p<;>rfl
structure CrS where
 i:Nat
 p:PlL
 E:eL
 Em:eL
 H:eL
 K:eL
theorem Gr(r:RuL):seg r.cells 0 18=mtL r.m:=Ub _
theorem Aan{L a:eL}(g:Nat)(p:PlL)(G:Option Nat)(pb:PlL)(aa ba:Option Addr)(ac bc:Nat)(xs D:List RuL)(fn:FuncId)(ck_fn:FJ prog fn)(B:List Ac->List Ac->List Ac)(hsum:SumC fn B)(hso:Tg B)(hsl:∀us vs,(B us vs).length<=us.length+vs.length)
 (hA:K9 p E K X a) (T:St M H N (.row g p.cells::(E++(K++(X++(a++L)))))) (hbut:ButAt M H L G pb) (ha:∀N,St M H N L->Pb N aa xs) (hb:∀N,St M H N L->Pb N ba D) (hfa:IK 5000 xs) (hfb:IK 5000 D) (hna:xs.length<=100000000) (hnb:D.length<=100000000) :
 Cl 253 #[pG g,ptrB G,.slice aa xs.length ac,.slice ba D.length bc,.func (.func fn) #[] #[]] N λe w'=>∃(b:Bool) (p':PlL) (E' Em' H' K':eL),e=.returned (.bool b)/\DU (Wy G pb) B (D.map RuL.d) (xs.map RuL.d) p.d=(if b then some p'.d else none)/\(p'.mr=p.mr/\p'.ma=p.ma)/\K9 p' E' Em' H' K'/\St M H w' (.row g p'.cells::(E'++(Em'++(H'++(K'++L))))):=by
 have hS0:St M H N L:=T.AN (.row g p.cells::(E++(K++(X++a))))
 generalize hC:DU (Wy G pb) B (D.map RuL.d) (xs.map RuL.d) p.d=C
 generalize hmr:p.mr=MR
 generalize hma:p.ma=MA
 obtain⟨b41,af⟩:∃b,G.isSome=b:=⟨_,rfl⟩
 refine enter func253 U ntmps253 U T<|J14 ?_
 refine oLp (λx:CrS=>[(19,iI x.i),(18,iI xs.length),(17,.slice aa xs.length ac),(0,pG g),(1,ptrB G),(3,.slice ba D.length bc),(4,.func (.func fn) #[] #[]),(10,.bool false)]) (λx=>.row g x.p.cells::(x.E++(x.Em++(x.H++(x.K++L))))) (λx=>x.i<=xs.length/\DU (Wy G pb) B (D.map RuL.d) ((xs.drop x.i).map RuL.d) x.p.d=C/\(x.p.mr=MR/\x.p.ma=MA)/\K9 x.p x.E x.Em x.H x.K) (λx=>xs.length-x.i) ⟨0,p,E,K,X,a⟩ ⟨Lv _,by dsimp only;rw[AeP];exact hC,⟨hmr,hma⟩,hA⟩ ?_
 rintro⟨i,p1,E1,Em1,H1,K1⟩ ⟨hi,hc,⟨hm1,hm2⟩,hA1⟩
 dsimp only at hi hc hm1 hm2 hA1⊢
 refine J2 ?_
 refine JT (λh20=>?_) λh20=>?_
 refine J6 ?_
 refine WC.cut (λx:CrS=>[(19,iI i),(18,iI xs.length),(17,.slice aa xs.length ac),(0,pG g),(1,ptrB G),(3,.slice ba D.length bc),(4,.func (.func fn) #[] #[]),(10,.bool false)]) (λx=>.row g x.p.cells::(x.E++(x.Em++(x.H++(x.K++L))))) (λx=>DU (Wy G pb) B (D.map RuL.d) ((xs.drop (i+1)).map RuL.d) x.p.d=C/\(x.p.mr=MR/\x.p.ma=MA)/\K9 x.p x.E x.Em x.H x.K) ?_ ?_
 refine J3 ?_
 obtain⟨r,hr⟩:∃x,xs[i]?=some x:=Gx
 have hrm:=Do hr
 have hrf:=hfa.fit r hrm
 have hrn:=hfa.few r hrm
 obtain⟨b1,o1,ea1,r1⟩:=RgS (λN T=>(ha N T).rd) hS0 Dx
 rw[drop_cons hr,Acu,WG] at hc
 refine zV ((AA (b:=b1) (off:=o1) (lo:=i) U Fi U underlying54 BJ U W)) U ?_
 refine zV (AB (cs:=r.cells) U U Ji.h (RuL.len r) λw' Z=>Rg.seg RuL.len (r1 w' (Z.AN (.row g p1.cells::(E1++(Em1++(H1++K1)))))) hr) U<|zy U CZ.h U U<|?_
 intro q hg12
 refine J1 ?_
 refine WL.as (L':=.row q r.cells::.row g p1.cells::(E1++(Em1++(H1++(K1++L))))) U<|J10 ?_
 refine oLp (λx:CrS=>[(25,iI x.i),(24,iI D.length),(23,.slice ba D.length bc),(12,pG q),(19,iI i),(18,iI xs.length),(17,.slice aa xs.length ac),(0,pG g),(1,ptrB G),(3,.slice ba D.length bc),(4,.func (.func fn) #[] #[]),(10,.bool false)]) (λx=>.row q r.cells::.row g x.p.cells::(x.E++(x.Em++(x.H++(x.K++L))))) (λx=>x.i<=D.length/\(HH (Wy G pb) B r.d ((D.drop x.i).map RuL.d) x.p.d).bind (DU (Wy G pb) B (D.map RuL.d) ((xs.drop (i+1)).map RuL.d))=C/\(x.p.mr=MR/\x.p.ma=MA)/\K9 x.p x.E x.Em x.H x.K) (λx=>D.length-x.i) ⟨0,p1,E1,Em1,H1,K1⟩ ⟨Lv _,by dsimp only;rw[AeP];exact hc,⟨hm1,hm2⟩,hA1⟩ ?_
 rintro⟨j,F,E2,u,H2,K2⟩ ⟨hj,A,⟨R,S⟩,y⟩
 dsimp only at hj A R S y⊢
 refine J2 ?_
 refine JT (λh26=>?_) λh26=>?_
 refine J10 ?_
 obtain⟨s,hs⟩:∃x,D[j]?=some x:=Gx
 have hsm:=Do hs
 have hsf:=hfb.fit s hsm
 have hsn:=hfb.few s hsm
 obtain⟨b2,o2,ea2,r2⟩:=RgS (λN T=>(hb N T).rd) hS0 (by intro hh;have:=FM D;rw[hh] at this;simp at this;omega)
 rw[drop_cons hs,Acu,HH] at A
 refine zV ((AA (b:=b2) (off:=o2) (lo:=j) U (by show some (Value.slice ba _ _)=_;rw[ea2]) U underlying54 BJ U W)) U ?_
 refine zV (AB (cs:=s.cells) U U Ji.h (RuL.len s) λw' Z=>Rg.seg RuL.len (r2 w' (Z.AN (.row q r.cells::.row g F.cells::(E2++(u++(H2++K2)))))) hs) U<|zy U CZ.h U U<|?_
 intro t hg14
 refine J1 ?_
 refine WL.as (L':=.row t s.cells::.row q r.cells::.row g F.cells::(E2++(u++(H2++(K2++L))))) U<|J5 ?_
 refine zV (AB U U Ad.h U (AT (g:=q) (m:=18) (new:=mtL r.m) (Gr r))) U<|J1 ?_
 refine zV (AB U U Ad.h U (AT (g:=t) (m:=18) (new:=mtL s.m) (Gr s))) U<|zk CkO U (λN T=>L6 N r.m s.m hrf.isIn.m hsf.isIn.m)<|?_
 refine J3 ?_
 refine zy U FR.h U U<|λw hg15=>J1 ?_
 refine WL.as (L':=.row w (mtL ((r.m.and s.m).getD mt0))::.row t s.cells::.row q r.cells::.row g F.cells::(E2++(u++(H2++(K2++L))))) U<|J3 ?_
 refine WC.cut (λ_:Unit=>[(15,pG w),(14,pG t),(25,iI j),(24,iI D.length),(23,.slice ba D.length bc),(12,pG q),(19,iI i),(18,iI xs.length),(17,.slice aa xs.length ac),(0,pG g),(1,ptrB G),(3,.slice ba D.length bc),(4,.func (.func fn) #[] #[]),(10,.bool false)]) (λ_=>.row w (mtL ((r.m.and s.m).getD mt0))::.row t s.cells::.row q r.cells::.row g F.cells::(E2++(u++(H2++(K2++L))))) (λ_=>∃m,r.m.and s.m=some m/\¬(JH (Wy G pb) m\/JH F.d.out m)) ?_ ?_
 refine J3 ?_
 generalize ae:(r.m.and s.m).isSome=bb
 cases bb
 refine J26 ?_
 have hno:r.d.m.and s.d.m=none:=(by cases h:r.m.and s.m with|none=>exact h|some x=>rw[h] at ae;cases ae)
 rw[hno] at A
 exact WE.next ⟨j+1,F,E2,u,H2,K2⟩ C7 ⟨C7,A,⟨R,S⟩,y⟩ (.int U C7 (.cons U (.cons U (.cons U (.cons U (.cons U (.cons U (.cons U (.cons U (.cons U (.cons U (.cons U .nil)))))))))))) (by repeat (first|exact Aia _|refine List.Sublist.cons _ ?_))
 have J:∃m,r.m.and s.m=some m:=(by cases h:r.m.and s.m with|none=>rw[h] at ae;cases ae|some x=>exact⟨x,rfl⟩)
 obtain⟨m,J⟩:=J
 rw[J]
 obtain⟨hmeet,hmb⟩:=Jb J
 have hmI:m.In:=Ew
 have hmZ:m.Nz:=Ep
 have hmd:r.d.m.and s.d.m=some m:=J
 rw[hmd] at A
 dsimp only [Option.getD] at A ⊢
 refine J3 ?_
 refine zS (Nr b41 U U underlying310 (by rw[<- af];cases G<;>rfl)) U ?_
 cases b41
 refine J9 ?_
 refine zk CkO U (λN T=>LZ N g F m (y.r T C9 (λe he=>by simp[he]) λe he=>by simp[he]) y.ok hmI (by have:=y.room;omega)) ?_
 generalize O:decide (JH F.ds m)=bb
 cases bb
 refine J5 ?_
 refine eM () ⟨m,rfl,λk=>?_⟩
 rcases k with k|k
 .have e:G=none:=(by cases h:G with|none=>rfl|some x=>rw[h] at af;cases af)
  rw[e] at k
  obtain⟨x,hx,_⟩:=k
  cases hx
 .exact Aep O k
 refine J12 ?_
 rw[IR (.inr (Ai8 O))] at A
 exact WE.next ⟨j+1,F,E2,u,H2,K2⟩ C7 ⟨C7,A,⟨R,S⟩,y⟩ (.int U C7 (.cons U (.cons U (.cons U (.cons U (.cons U (.cons U (.cons U (.cons U (.cons U (.cons U (.cons U .nil)))))))))))) (by repeat (first|exact Aia _|refine List.Sublist.cons _ ?_))
 refine J3 ?_
 obtain⟨gb,hgb⟩:=Option.isSome_iff_exists.1 af
 have hbd:Wy G pb=pb.ds:=(by rw[hgb];rfl)
 refine WL.call U U CkO (.some U U U) U U<|λw1 ab=>?_
 have hbo:=hbut.ok gb hgb
 rw[show ptrB G=pG gb by rw[hgb];rfl]
 refine Calls.then (LZ w1 gb pb m (hbut.rd gb hgb w1 (ab.AN (.row w (mtL m)::.row t s.cells::.row q r.cells::.row g F.cells::(E2++(u++(H2++K2)))))) hbo.1 hmI hbo.2) ab ?_
 generalize hb45:decide (JH pb.ds m)=bb
 cases bb
 refine J5 ?_
 refine zk CkO U (λN T=>LZ N g F m (y.r T C9 (λe he=>by simp[he]) λe he=>by simp[he]) y.ok hmI (by have:=y.room;omega)) ?_
 generalize O:decide (JH F.ds m)=bb
 cases bb
 refine J5 ?_
 refine eM () ⟨m,rfl,λk=>?_⟩
 rcases k with k|k
 .rw [hbd] at k
  exact Aep hb45 k
 .exact Aep O k
 refine J12 ?_
 rw[IR (.inr (Ai8 O))] at A
 exact WE.next ⟨j+1,F,E2,u,H2,K2⟩ C7 ⟨C7,A,⟨R,S⟩,y⟩ (.int U C7 (.cons U (.cons U (.cons U (.cons U (.cons U (.cons U (.cons U (.cons U (.cons U (.cons U (.cons U .nil)))))))))))) (by repeat (first|exact Aia _|refine List.Sublist.cons _ ?_))
 refine J18 ?_
 rw[IR (.inl (by rw[hbd];exact Ai8 hb45))] at A
 exact WE.next ⟨j+1,F,E2,u,H2,K2⟩ C7 ⟨C7,A,⟨R,S⟩,y⟩ (.int U C7 (.cons U (.cons U (.cons U (.cons U (.cons U (.cons U (.cons U (.cons U (.cons U (.cons U (.cons U .nil)))))))))))) (by repeat (first|exact Aia _|refine List.Sublist.cons _ ?_))
 rintro _ ⟨m,J,hncov⟩
 rw[J]
 obtain⟨hmeet,hmb⟩:=Jb J
 have hmI:m.In:=Ew
 have hmZ:m.Nz:=Ep
 have hmd:r.d.m.and s.d.m=some m:=J
 rw[hmd] at A
 dsimp only [Option.getD] at A ⊢
 rw[E9 hncov] at A
 refine J2 ?_
 refine WC.held ([.row w (mtL m),.row t s.cells,.row q r.cells]) mixed<|WRH.first (g:=3) [0,1,2,3,4,5,6] C6 C6 kp<|J4 ?_
 refine zj (An U U DV (cellAt (v:=.slice r.ad r.acts.length r.c) (DQ r))) U<|J1 ?_
 refine zj (An U U DV (cellAt (v:=.slice s.ad s.acts.length s.c) (DQ s))) U<|WH.nil<|?_
 refine WRH.one (g:=2) 7 C6<|WL.FQ U U U ck_fn (.none U) U U<|λw1 ab=>?_
 have hSL:=ab.AN (L':=L) (.row w (mtL m)::.row t s.cells::.row q r.cells::.row g F.cells::(E2++(u++(H2++K2))))
 refine(hsum w1 r.ad s.ad r.c s.c r.acts s.acts ((ha w1 hSL).ok r hrm) ((hb w1 hSL).ok s hsm) hrn hsn).mono ?_
 rintro e w' ⟨sad,sc,f,rfl,hrd,Z⟩
 refine⟨_,.row w (mtL m)::.row t s.cells::.row q r.cells::(f++(.row g F.cells::(E2++(u++(H2++(K2++L)))))),rfl,(ab.join Z).AJ,?_⟩
 refine WL.BL kp<|WRH.one (g:=1) 8 C6<|zK CkO U<|λw1 ab=>?_
 have hlen:=hsl r.acts s.acts
 refine(AcJ (L:=f++(.row w (mtL m)::.row t s.cells::.row q r.cells::L)) g F m sad sc (B r.acts s.acts) y ab.AJ hmI hmZ (λw2 hS2=>?_) (AcB hso hrf hsf) W).mono ?_
 .have hSL:=hS2.AN (L':=L) (.row g F.cells::(E2++(u++(H2++(K2++(f++[.row w (mtL m),.row t s.cells,.row q r.cells]))))))
  exact hrd w2 (λx hx=>hS2.holds x (by simp[hx])) ((ha w2 hSL).ok r hrm) ((hb w2 hSL).ok s hsm)
 rintro e w' ⟨b61,p3,E3,Em3,H3,K3,rfl,hyes,hno,z,Z⟩
 refine⟨_,.row w (mtL m)::.row t s.cells::.row q r.cells::.row g p3.cells::(E3++(Em3++(H3++(K3++(f++L))))),rfl,Z.AJ,?_⟩
 skip
 cases b61
 refine WL.BL kp<|WRH.first (g:=0) [9] C6 C6 kp<|J1 ?_
 refine WH.nil<|WRH.done C6<|J18 ?_
 refine eT1 ?_
 obtain⟨hno1,hno2⟩:=hno U
 have hno1:F.d.add m (B r.d.acts s.d.acts)=none:=hno1
 rw[hno1] at A
 dsimp only [Option.bind] at A
 have e1:p3.mr=p.mr/\p3.ma=p.ma:=⟨(If PlD.mr hno2 :).trans (R.trans hmr.symm),(If PlD.ma hno2 :).trans (S.trans hma.symm)⟩
 exact λw' h=>⟨false,p3,E3,Em3,H3,K3,rfl,A.symm,⟨e1.1.trans hmr,e1.2.trans hma⟩,z,h.AN (.row w (mtL m)::.row t s.cells::.row q r.cells::f)⟩
 refine WL.BL kp<|WRH.first (g:=0) [9] C6 C6 kp<|J1 ?_
 refine WH.nil<|WRH.done C6<|J6 ?_
 have hyes1:F.d.add m (B r.d.acts s.d.acts)=some p3.d:=hyes U
 rw[hyes1] at A
 dsimp only at A
 have hq:=PlD.Ij hyes1
 have e1:p3.mr=MR/\p3.ma=MA:=⟨(If PlD.mr hq :).trans R,(If PlD.ma hq :).trans S⟩
 obtain⟨b66,hbe⟩:∃c:Bool,c=true<->mtL m=mtL r.m:=⟨@decide _ (Classical.propDecidable _),@Aim _ (Classical.propDecidable _)⟩
 refine J2 ?_
 refine zV (AB U U Ad.h U (AT (g:=q) (m:=18) (new:=mtL r.m) (Gr r))) U<|zV (GN (b:=b66) U U U UU US U U hbe) U<|?_
 cases b66
 refine J10 ?_
 rw[E9 λk:m.eqv r.d.m=>by have:=hbe.2 (OO.2 k);cases this] at A
 exact WE.to (L':=.row q r.cells::.row g p3.cells::(E3++(Em3++(H3++((f++K3)++L))))) (λN T=>T.AN [.row w (mtL m),.row t s.cells])<|eW ⟨j+1,p3,E3,Em3,H3,f++K3⟩ C7 ⟨C7,A,e1,⟨z.out,z.masks,z.map,λr hr=>(z.own r hr).more,z.ok,z.room⟩⟩
 refine J4 ?_
 refine WE.FI U<|J4 ?_
 rw[IR (show m.eqv r.d.m from OO.1 (hbe.1 U))] at A
 exact WE.to (L':=.row g p3.cells::(E3++(Em3++(H3++((f++K3)++L))))) (λN T=>T.AN [.row w (mtL m),.row t s.cells,.row q r.cells])<|eM ⟨i,p3,E3,Em3,H3,f++K3⟩ ⟨A,e1,⟨z.out,z.masks,z.map,λr hr=>(z.own r hr).more,z.ok,z.room⟩⟩
 refine J9 ?_
 obtain rfl:j=D.length:=W
 rw[Ah9] at A
 exact WE.mid ⟨i,F,E2,u,H2,K2⟩ ⟨A,⟨R,S⟩,y⟩ Km (by repeat (first|exact Aia _|refine List.Sublist.cons _ ?_))
 rintro⟨_,p4,E4,Em4,H4,K4⟩ ⟨hc4,⟨ho1,ho2⟩,hA4⟩
 dsimp only at hc4 ho1 ho2 hA4⊢
 refine J4 ?_
 exact eW ⟨i+1,p4,E4,Em4,H4,K4⟩ C7 ⟨C7,hc4,⟨ho1,ho2⟩,hA4⟩
 refine J15 ?_
 refine eT1 ?_
 obtain rfl:i=xs.length:=W
 rw[Ah9] at hc
 exact λw' h=>⟨true,p1,E1,Em1,H1,K1,rfl,hc.symm,⟨hm1,hm2⟩,hA1,h⟩
theorem Pb.frm{w c:Wd}{a:Option Addr}{d:List RuL}(h:Pb w a d)(b:Frm Fx w c):Pb c a d:=⟨h.rd.frm b λ_ _ _ h=>h,λr e=>(h.ok r e).frm b λ_ _ _ h=>h⟩
def RsC(w g:Wd)(f:List RuD)(e:Ending):Prop:=∃b c E K, ∃a:List RuL,e=.returned (.slice b a.length c)/\a.map RuL.d=f/\Vec 19 b a.length c (BB a) E/\(∀r∈a,DE K r)/\(∀d∈f,d.Fit)/\a.length<=100000000/\St Fx w g (E++K)
theorem RsC.none_(h:St Fx H N []):RsC H N [] (.returned sN):=⟨none,0,[],[],[],rfl,rfl,Vec.nil 19,λr h=>Da,λr h=>Da,Lv _,h⟩
theorem Agj(w:Wd)(y z:Option Addr)(R S:Nat)(m q:List RuL)(s:FuncId)(j:FJ prog s)(g:List Ac->List Ac->List Ac)(r:SumC s g)(O:Tg g)(N:∀T X,(g T X).length<=T.length+X.length)(f a:Int)(J:0<=f/\f<=4194304)(H:0<=a/\a<=16777216)
 (ha:Pb w y m) (hb:Pb w z q) (F:IK 5000 m) (G:IK 5000 q) (K:m.length<=100000000) (M:q.length<=100000000) :
 Cl 169 #[.slice y m.length R,.slice z q.length S,.func (.func s) #[] #[],.agg #[iI f,iI a]] w λe w'=>RsC w w' (outD (DU [] g (q.map RuL.d) (m.map RuL.d) ⟨f,a,[]⟩)) e:=by
 refine en0 func169 U ntmps169 U<|J2 ?_
 refine zx U U U U U<|λA hg7=>J6 ?_
 refine zK CkO U<|λZ E=>(Ux Z f a).mono ?_
 rintro e w' ⟨B,rfl,k⟩
 refine⟨_,.row B (PlL.cells ⟨f,a,none,0,[],none,0,[],none, #[],0⟩)::([]++([]++([]++([]++[Ent.row A [iI f,iI a]])))),rfl,(by simpa using E.join k),?_⟩
 refine J10 ?_
 refine zK CkO U<|λZ E=>(Aan (L:=[.row A [iI f,iI a]]) B ⟨f,a,none,0,[],none,0,[],none, #[],0⟩ none ⟨f,a,none,0,[],none,0,[],none, #[],0⟩ y z R S m q s j g r O N (K9.new f a J H) E ⟨λgb h=>Da,λgb h=>Da⟩ (λw2 D=>ha.frm D.frm) (λw2 D=>hb.frm D.frm) F G K M).mono ?_
 rintro e w' ⟨b,i,E',x,H',K',rfl,u,⟨hq1,hq2⟩,t,k⟩
 have u:DU [] g (q.map RuL.d) (m.map RuL.d) ⟨f,a,[]⟩=(if b then some i.d else none):=u
 refine⟨_,_,rfl,k,?_⟩
 skip
 cases b
 refine J11 ?_
 refine eT1 ?_
 rw[u]
 exact Cg
 refine J11 ?_
 refine zV (An U U S4.h (cellAt (v:=.slice i.ad i.ls.length i.c) U)) U<|J4 ?_
 refine eT1 ?_
 rw[u]
 have hrm:=t.room
 exact λw' h=>⟨i.ad,i.c,E',K',i.ls,rfl,rfl,t.out,t.own,λd hd=>t.ok.fit d hd,W,h.AN (.row B i.cells::(x++(H'++[.row A [iI f,iI a]])))⟩

theorem P0{a:Ac}{m:Mt}{k:Nat}(h:Ah a m k=none):∀j,Ah a m (k+j)=none
 | 0=>h
 | j+1=>by
  show Ah a m (k+j+1)=none
  rw[Ah,P0 h j]
theorem Wi(h:Ah F S.m 9=none):DM F (S::G)=DM F G:=by rw[DM,h]
theorem Wj(h:Ah F S.m 9=some A):DM F (S::G)=⟨A,S.acts.map F.then⟩::DM F G:=by rw[DM,h]
theorem Nl{a:List RuL}(j:Vec 19 T a.length D (BB a) K)(i:∀r∈a,DE X r)(f:St M H N E)(g:∀e∈K,e∈E)(h:∀e∈X,e∈E):Pb N T a :=
 ⟨j.rg λe d=>f.holds e (g e d),λr k=>by obtain⟨m,c,b⟩:=i r k;exact c.rg λe d=>f.holds e (h e (b e d))⟩
structure AhS where
 i:Nat
 ls:List RuL
 ad:Option Addr
 c:Nat
 E:eL
 K:eL
structure AhT where
 j:Nat
 ad:Option Addr
 c:Nat
 E:eL
theorem AgG(w:Wd)(a:Ac)(aI:a.In)(aZ:a.Nz)(aO:a.Ok)(xa:Option Addr)(xc:Nat)(xs:List RuL)(J:Pb w xa xs)(hf:IK 5000 xs)(hn:xs.length<=100000000):
 Cl 255 #[acV a,.slice xa xs.length xc] w λe w'=>RsC w w' (DM a (xs.map RuL.d)) e:=by
 have H:=NJ aI aZ aO (xs.map RuL.d) λr hr=>by obtain⟨y,hy,rfl⟩:=Ab8.1 hr;exact hf.fit y hy
 generalize hC:DM a (xs.map RuL.d)=C
 rw[hC] at H
 refine en0 func255 U ntmps255 U<|J2 ?_
 refine zx U U U U U<|λq hg2=>J3 ?_
 refine WC.scope<|J6 ?_
 refine WC.label<|J10 ?_
 refine oLp (λx:AhS=>[(15,iI x.i),(14,iI xs.length),(13,.slice xa xs.length xc),(2,pG q),(5,.slice x.ad x.ls.length x.c),(4,sN)]) (λx=>x.E++(x.K++[.row q (acL a)])) (λx=>x.i<=xs.length/\x.ls.length<=x.i/\x.ls.map RuL.d++DM a ((xs.drop x.i).map RuL.d)=C/\Vec 19 x.ad x.ls.length x.c (BB x.ls) x.E/\∀r∈x.ls,DE x.K r) (λx=>xs.length-x.i) ⟨0,[],none,0,[],[]⟩ ⟨Lv _,Lv _,by dsimp only;rw[AeP];exact hC,Vec.nil 19,λr h=>Da⟩ ?_
 rintro⟨i,G,ad,c,E,K⟩ ⟨hi,hl,B,hV,hK⟩
 dsimp only at hi hl B hV hK⊢
 refine J2 ?_
 refine JT (λh16=>?_) λh16=>?_
 refine J10 ?_
 obtain⟨r,hr⟩:∃x,xs[i]?=some x:=Gx
 have T:=Do hr
 have S:=hf.fit r T
 have hrn:=hf.few r T
 obtain⟨b1,o1,ea1,r1⟩:=J.rd Dx
 rw[drop_cons hr,Acu] at B
 refine zV ((AA (b:=b1) (off:=o1) (lo:=i) U (by show some (Value.slice xa _ _)=_;rw[ea1]) U underlying54 BJ U W)) U ?_
 refine zV (AB (cs:=r.cells) U U Ji.h (RuL.len r) (DP (λh=>h) (Rg.seg RuL.len r1 hr))) U<|zy U CZ.h U U<|?_
 intro t hg7
 refine J1 ?_
 refine WL.as (L':=.row t r.cells::(E++(K++[.row q (acL a)]))) U<|J5 ?_
 refine zV (AB U U Ad.h U (AT (g:=t) (m:=18) (new:=mtL r.m) (Gr r))) U<|zy U FR.h U U<|?_
 intro A hg8
 refine J1 ?_
 refine WL.as (L':=.row A (mtL r.m)::.row t r.cells::(E++(K++[.row q (acL a)]))) U<|J9 ?_
 refine oLp (λx:Nat×Mt=>[(9,iI x.1),(8,pG A),(7,pG t),(15,iI i),(14,iI xs.length),(13,.slice xa xs.length xc),(2,pG q),(5,.slice ad G.length c),(4,sN)]) (λx=>.row A (mtL x.2)::.row t r.cells::(E++(K++[.row q (acL a)]))) (λx=>x.1<=9/\Ah a r.m x.1=some x.2) (λx=>9-x.1) (0,r.m) ⟨Lv _,rfl⟩ ?_
 rintro⟨k,m⟩ ⟨hk,X⟩
 dsimp only at hk X⊢
 have hmI:=(Ph S.isIn.m S.isIn.nz k m X).1
 refine J4 ?_
 refine JT (λh22=>?_) λh22=>?_
 refine J11 ?_
 refine zV (An U U i3o.h (cellAt (v:=iI a.set) U)) U<|J1 ?_
 refine zV (IP (m:=k) (c:=(2:Int)^k) U U U U F4 U) U ?_
 refine zV (HX U U U (Hy (i:=1) (m:=2) C8 C8 C8)) U<|JT (λF=>?_) (λF=>?_)
 refine J12 ?_
 have hs:¬a.IH k:=(by have h:a.set / 2^k % 2=0:=F;show ¬a.set / 2^k % 2=1;omega)
 exact eW (k+1,m) C7 ⟨C7,by dsimp only;rw[Ah,X];exact E9 hs⟩
 refine J7 ?_
 refine cQ mixed<|J2 ?_
 refine qV (AG (lo:=k) U U U underlying218 CF W W) U<|qV (An U U Gn.h (cellAt (MT a W))) U<|J2 ?_
 refine qV (AG (lo:=k) U U U underlying218 CF W W) U<|qV (An U U Gn.h (cellAt (G4 m W))) U<|qV (HX U U U (IT (aI.val k).1 (aI.val k).2 (hmI.mask k).1 (hmI.mask k).2)) U<|J2 ?_
 refine qV (AG (lo:=k) U U U underlying218 CF W W) U<|qV (An U U Gn.h (cellAt (Ic m W))) U<|JT (λR=>?_) (λR=>?_)
 refine J5 ?_
 refine WE.FI U<|J2 ?_
 refine WE.FI U<|J7 ?_
 have hs:a.IH k:=(by have h:¬a.set / 2^k % 2=0:=F;show a.set / 2^k % 2=1;omega)
 have hno:Ah a r.d.m 9=none:=(by
  have h1:Ah a r.m (k+1)=none:=(by rw[Ah,X];dsimp only;rw[IR hs,IR R])
  have:=P0 h1 (9-(k+1))
  rwa [show k+1+(9-(k+1))=9 by omega] at this)
 rw[Wi hno] at B
 exact WE.next ⟨i+1,G,ad,c,E,K⟩ C7 ⟨C7,C7,B,hV,hK⟩ (.int U C7 (.cons U (.cons U (.cons U (.cons U (.cons U .nil)))))) (by repeat (first|exact Aia _|refine List.Sublist.cons _ ?_))
 refine J8 ?_
 refine zk CkO U (λw s=>Yo w m k W)<|J9 ?_
 have hs:a.IH k:=(by have h:¬a.set / 2^k % 2=0:=F;show a.set / 2^k % 2=1;omega)
 exact eW (k+1,m.I1 k) C7 ⟨C7,by dsimp only;rw[Ah,X];dsimp only;rw[IR hs,E9 R]⟩
 refine J10 ?_
 obtain rfl:k=9:=W
 rw[Wj (show Ah a r.d.m 9=some m from X)] at B
 refine J1 ?_
 refine zV (An U U DV (cellAt (v:=.slice r.ad r.acts.length r.c) (DQ r))) U<|J1 ?_
 refine WL.Mm (m:=0) (c:=r.acts.length) U U U W W W underlying221 Lc W W BV DY.h U (.none U) U U<|λu hg51=>?_
 generalize hZ:List.flatten _=Z
 have hV0:Vec 10 (aG u) 0 r.acts.length [] [.row u Z]:=Vec.row Ec Fw (Lv _)
 refine WL.to (L':=[.row u Z]++(.row A (mtL m)::.row t r.cells::(E++(K++[.row q (acL a)])))) (λw s=>s)<|J7 ?_
 refine zV (An U U DV (cellAt (v:=.slice r.ad r.acts.length r.c) (DQ r))) U<|J5 ?_
 refine oLp (λx:AhT=>[(55,iI x.j),(54,iI r.acts.length),(53,.slice r.ad r.acts.length r.c),(10,.slice x.ad x.j x.c),(8,pG A),(7,pG t),(15,iI i),(14,iI xs.length),(13,.slice xa xs.length xc),(2,pG q),(5,.slice ad G.length c),(4,sN)]) (λx=>x.E++(.row A (mtL m)::.row t r.cells::(E++(K++[.row q (acL a)])))) (λx=>x.j<=r.acts.length/\Vec 10 x.ad x.j x.c (CJ ((r.acts.take x.j).map a.then)) x.E) (λx=>r.acts.length-x.j) ⟨0,aG u,r.acts.length,[.row u Z]⟩ ⟨Lv _,hV0⟩ ?_
 rintro⟨j,f,M,E2⟩ ⟨hj,z⟩
 dsimp only at hj z⊢
 refine J2 ?_
 refine JT (λh56=>?_) λh56=>?_
 refine J10 ?_
 obtain⟨b,hb⟩:∃x,r.acts[j]?=some x:=Gx
 obtain⟨b2,o2,ea2,r2⟩:=(J.ok r T) Dw
 have hbt:=S.three (Do hb)
 refine zV ((AA (b:=b2) (off:=o2) (lo:=j) U D8 U underlying221 BV U W)) U ?_
 refine zV (AB (cs:=acL b) U U Hw.h (CU b) (DP (λh=>h) (Rg.seg CU r2 hb))) U<|zy U DY.h U U<|?_
 intro N hg12
 refine J1 ?_
 refine WL.as (L':=.row N (acL b)::(E2++(.row A (mtL m)::.row t r.cells::(E++(K++[.row q (acL a)]))))) U<|J4 ?_
 refine zV (AB U U Hw.h U (AL (g:=q))) U<|zV (AB U U Hw.h U (AL (g:=N))) U<|zk CkO U (λw s=>Adl w a b aO hbt.2.2)<|?_
 refine zB underlying221 BV DY.h (by show some (AK (List.replicate 1 _).flatten 0 (acL (a.then b)))=some (acL (a.then b));exact If some (AH U)) U ?_
 intro D hg63
 refine WL.to (L':=E2++(.row D (acL (a.then b))::.row A (mtL m)::.row t r.cells::(E++(K++[.row q (acL a)])))) (λw s=>s.AN [.row N (acL b)])<|WL.AU U U U underlying221 underlying221 BV Lc DY.h U U z (new:=acL (a.then b)) (λ_=>⟨D,0,rfl,λw s=>AL (g:=D) w s⟩) U U W (.none U) U U<|λad64 c64 E64 hV64 hr64=>J8 ?_
 exact WE.to (L':=E64++(.row A (mtL m)::.row t r.cells::(E++(K++[.row q (acL a)])))) (λw s=>s.AN [.row D (acL (a.then b))])<|eW ⟨j+1,ad64,c64,E64⟩ C7 ⟨C7,by dsimp only;rw[AhG,hb,Aiw,Ai7,show CJ (List.map a.then (List.take j r.acts)++List.map a.then [b])=CJ (List.map a.then (List.take j r.acts))++acL (a.then b) from AX _ _ _];exact hV64⟩
 refine J10 ?_
 obtain rfl:j=r.acts.length:=W
 rw[Ah6] at z
 have hml:(r.acts.map a.then).length=r.acts.length:=Ri _
 rw[<- hml] at z
 rw[<- hml]
 refine J4 ?_
 refine zB underlying54 BJ CZ.h (by show some (AK (List.replicate 1 _).flatten 0 (RuL.cells ⟨m,f,M,r.acts.map a.then⟩))=some (RuL.cells ⟨m,f,M,r.acts.map a.then⟩);exact If some (AH U)) U ?_
 intro O hg70
 refine WL.to (L':=E++(.row O (RuL.cells ⟨m,f,M,r.acts.map a.then⟩)::((E2++K)++[.row q (acL a)]))) (λw s=>s.AN [.row A (mtL m),.row t r.cells])<|WL.AU U U U underlying54 underlying54 BJ NN CZ.h U U hV (new:=RuL.cells ⟨m,f,M,r.acts.map a.then⟩) (λ_=>⟨O,0,rfl,λw s=>AL (g:=O) w s⟩) U U W (.none U) U U<|λad71 c71 E71 hV71 hr71=>J8 ?_
 exact WE.next ⟨i+1,G++[⟨m,f,M,r.acts.map a.then⟩],ad71,c71,E71,E2++K⟩ C7 ⟨C7,by dsimp only;rw[AC];show G.length+1<=_;omega,by dsimp only;rw[Ai7,Qs];exact B,by dsimp only;rw[AC,show BB (G++[(⟨m,f,M,r.acts.map a.then⟩:RuL)])=BB G++RuL.cells ⟨m,f,M,r.acts.map a.then⟩ from AX _ _ _];exact hV71,λx J=>(by
 rcases LI.1 J with J|J
 .exact (hK x J).more
 .rw [Es.1 J];exact⟨E2,z,λe he=>Ha _ he⟩)⟩ (.int U C7 (.cons U (.cons U (.cons U (.eq U Dc (.cons U .nil)))))) (Acq (.cons _ (.refl _)) _)
 refine J16 ?_
 refine WE.KN<|eT1 ?_
 obtain rfl:i=xs.length:=W
 rw[Ah9] at B
 have B:G.map RuL.d=C:=(by rw[<- B];exact(Acx _).symm)
 exact λw' h=>⟨ad,c,E,K,G,rfl,B,hV,hK,H,W,h.AN [.row q (acL a)]⟩

structure BhR where
 j:Nat
 ls:List RuL
 ad:Option Addr
 c:Nat
 E:eL
 K:eL
theorem UF(b:List RuD)(r:RuD)(a:List RuD)(p:PlD):DS b (r::a) p=(Iw p.mr p.ma p.out b r.acts [⟨r.m,[]⟩]).bind λc=>(HU c p).bind (DS b a):=by
 rw[DS]
 cases Iw p.mr p.ma p.out b r.acts [⟨r.m,[]⟩] with
 | none=>rfl
 | some c=>dsimp only [Option.bind];cases HU c p<;>rfl
theorem Yz(x:RuD)(a:List RuD)(p:PlD):HU (x::a) p=if JH p.out x.m then HU a p else(p.add x.m x.acts).bind (HU a):=by
 rw[HU]
 split
 .rfl
 .cases p.add x.m x.acts<;>rfl
theorem Zm(f e:Int)(d b:List RuD)(a:Ac)(g:List Ac)(c:List RuD):Iw f e d b (a::g) c=(DU d JW (DM a b) c ⟨f,e,[]⟩).bind λq=>if q.out.length=0 then some [] else Iw f e d b g q.out:=by
 rw[Iw]
 cases DU d JW (DM a b) c ⟨f,e,[]⟩<;>rfl
theorem HY{a:List RuL}(h:a.map RuL.d=G)(b:∀d∈G,d.Fit):∀r∈a,r.d.Fit:=λr c=>b _ (by rw[<- h];exact Ab5 c)
theorem VW(w:Wd)(aa ba:Option Addr)(ac bc:Nat)(xs G:List RuL)(t f:Int)(hmr:0<=t/\t<=4194304)(hma:0<=f/\f<=16777216)(ha:Pb w aa xs)(hb:Pb w ba G)(hfa:IK 64 xs)(hfb:IK 64 G)(hna:xs.length<=100000000)(hnb:G.length<=100000000):
 Cl 173 #[.slice aa xs.length ac,.slice ba G.length bc,.agg #[iI t,iI f]] w λe w'=>RsC w w' (outD (DS (G.map RuL.d) (xs.map RuL.d) ⟨t,f,[]⟩)) e:=by
 generalize hC:DS (G.map RuL.d) (xs.map RuL.d) ⟨t,f,[]⟩=C
 refine en0 func173 U ntmps173 U<|J2 ?_
 refine zx U U U U U<|λD hg5=>J6 ?_
 refine zK CkO U<|λw1 J=>(Ux w1 t f).mono ?_
 rintro e w' ⟨A,rfl,B⟩
 refine⟨_,.row A (PlL.cells ⟨t,f,none,0,[],none,0,[],none, #[],0⟩)::([]++([]++([]++([]++[Ent.row D [iI t,iI f]])))),rfl,(by simpa using J.join B),?_⟩
 refine J12 ?_
 refine oLp (λx:CrS=>[(20,iI x.i),(19,iI xs.length),(18,.slice aa xs.length ac),(7,pG A),(5,pG D),(1,.slice ba G.length bc),(6,sN)]) (λx=>.row A x.p.cells::(x.E++(x.Em++(x.H++(x.K++[Ent.row D [iI t,iI f]]))))) (λx=>x.i<=xs.length/\DS (G.map RuL.d) ((xs.drop x.i).map RuL.d) x.p.d=C/\(x.p.mr=t/\x.p.ma=f)/\K9 x.p x.E x.Em x.H x.K) (λx=>xs.length-x.i) ⟨0,⟨t,f,none,0,[],none,0,[],none, #[],0⟩,[],[],[],[]⟩ ⟨Lv _,by dsimp only;rw[AeP];exact hC,⟨rfl,rfl⟩,K9.new t f hmr hma⟩ ?_
 rintro⟨i,p,E,Em,H,K⟩ ⟨hi,S,⟨hm1,hm2⟩,hA⟩
 dsimp only at hi S hm1 hm2 hA⊢
 refine J2 ?_
 refine JT (λh21=>?_) λh21=>?_
 refine J10 ?_
 obtain⟨r,hr⟩:∃x,xs[i]?=some x:=Gx
 have hrm:=Do hr
 have hrf:=hfa.fit r hrm
 have hrn:=hfa.few r hrm
 obtain⟨b1,o1,ea1,r1⟩:=ha.rd Dx
 rw[drop_cons hr,Acu,UF] at S
 generalize hR:Iw p.d.mr p.d.ma p.d.out (G.map RuL.d) r.d.acts [⟨r.d.m,[]⟩]=R at S
 refine zV ((AA (b:=b1) (off:=o1) (lo:=i) U Fi U underlying54 BJ U W)) U ?_
 refine zV (AB (cs:=r.cells) U U Ji.h (RuL.len r) (DP (λh=>h) (Rg.seg RuL.len r1 hr))) U<|zy U CZ.h U U<|?_
 intro g9 hg9
 refine J1 ?_
 refine WL.as (L':=.row g9 r.cells::.row A p.cells::(E++(Em++(H++(K++[Ent.row D [iI t,iI f]]))))) U<|J5 ?_
 refine zV (AB U U Ad.h U (AT (g:=g9) (m:=18) (new:=mtL r.m) (Gr r))) U<|J1 ?_
 refine zB underlying54 BJ CZ.h (by show some (AK (List.replicate 1 _).flatten 0 (RuL.cells ⟨r.m,none,0,[]⟩))=some (RuL.cells ⟨r.m,none,0,[]⟩);exact If some (AH U)) U ?_
 intro g27 hg27
 refine J3 ?_
 refine WC.cut (λx:BhR=>[(10,.slice x.ad x.ls.length x.c),(9,pG g9),(20,iI i),(19,iI xs.length),(18,.slice aa xs.length ac),(7,pG A),(5,pG D),(1,.slice ba G.length bc),(6,sN)]) (λx=>.row A p.cells::(E++(Em++(H++(K++(x.E++(x.K++[Ent.row D [iI t,iI f]]))))))) (λx=>R=some (x.ls.map RuL.d)/\Vec 19 x.ad x.ls.length x.c (BB x.ls) x.E/\(∀y∈x.ls,DE x.K y)/\IK 5000 x.ls/\x.ls.length<=100000000) ?_ ?_
 refine J3 ?_
 refine zV (An U U DV (cellAt (v:=.slice r.ad r.acts.length r.c) (DQ r))) U<|J5 ?_
 refine oLp (λx:BhR=>[(31,iI x.j),(30,iI r.acts.length),(29,.slice r.ad r.acts.length r.c),(10,.slice x.ad x.ls.length x.c),(9,pG g9),(20,iI i),(19,iI xs.length),(18,.slice aa xs.length ac),(7,pG A),(5,pG D),(1,.slice ba G.length bc),(6,sN)]) (λx=>x.E++(x.K++(.row g9 r.cells::.row A p.cells::(E++(Em++(H++(K++[Ent.row D [iI t,iI f]]))))))) (λx=>x.j<=r.acts.length/\Iw t f p.ds (G.map RuL.d) (r.acts.drop x.j) (x.ls.map RuL.d)=R/\Vec 19 x.ad x.ls.length x.c (BB x.ls) x.E/\(∀y∈x.ls,DE x.K y)/\IK (x.j*64) x.ls/\x.ls.length<=100000000) (λx=>r.acts.length-x.j) ⟨0,[⟨r.m,none,0,[]⟩],aG g27,1,[.row g27 (RuL.cells ⟨r.m,none,0,[]⟩)],[]⟩ ⟨Lv _,by dsimp only;rw[AeP, <- hR];show Iw t f p.ds _ _ _=Iw p.mr p.ma p.ds _ _ _;rw[hm1,hm2];rfl,Vec.row U U (M2 _),λy M=>(by rw[Es.1 M];exact⟨[],Vec.nil 10,λe he=>Fy⟩),⟨λy M=>(by rw[Es.1 M];exact⟨⟨hrf.isIn.m,hrf.isIn.nz,λa h=>Da⟩,λa h=>Da⟩),λy M=>(by rw[Es.1 M];exact Lv _)⟩,F8⟩ ?_
 rintro⟨j,ls,ad,c,T,X⟩ ⟨hj,u,hV,hK,hF,hll⟩
 dsimp only at hj u hV hK hF hll⊢
 refine J2 ?_
 refine JT (λh32=>?_) λh32=>?_
 refine J10 ?_
 obtain⟨a,hx⟩:∃x,r.acts[j]?=some x:=Gx
 obtain⟨b2,o2,ea2,r2⟩:=(ha.ok r hrm) Dw
 have hat:=hrf.three (Do hx)
 rw[drop_cons hx,Zm] at u
 refine zV ((AA (b:=b2) (off:=o2) (lo:=j) U D8 U underlying221 BV U W)) U ?_
 refine zV (AB (cs:=acL a) U U Hw.h (CU a) (DP (λh=>h) (Rg.seg CU r2 hx))) U<|zy U DY.h U U<|?_
 intro Z hg12
 refine J1 ?_
 refine WL.as (L':=.row Z (acL a)::(T++(X++(.row g9 r.cells::.row A p.cells::(E++(Em++(H++(K++[Ent.row D [iI t,iI f]])))))))) U<|J5 ?_
 refine zK CkO U<|λw1 J=>(Ux w1 t f).mono ?_
 rintro e w' ⟨gq,rfl,B⟩
 refine⟨_,_,rfl,J.join B,?_⟩
 refine J9 ?_
 refine zV (AB U U Hw.h U (AL (g:=Z))) U<|J1 ?_
 refine zK CkO U<|λw1 J=>(AgG w1 a hat.1 hat.2.1 hat.2.2 ba bc G (hb.frm J.frm) ⟨hfb.fit,λy M=>AcC (hfb.few y M) C8⟩ hnb).mono ?_
 rintro e w' ⟨had,hac,EA,KA,hs,rfl,hhs,hVA,hKA,hFA,hlA,B⟩
 refine⟨_,EA++(KA++(.row gq (PlL.cells ⟨t,f,none,0,[],none,0,[],none, #[],0⟩)::.row Z (acL a)::(T++(X++(.row g9 r.cells::.row A p.cells::(E++(Em++(H++(K++[Ent.row D [iI t,iI f]]))))))))),rfl,(J.join B).AJ,?_⟩
 refine zK CkO U<|λw1 J=>(Aan (L:=EA++(KA++(.row Z (acL a)::(T++(X++(.row g9 r.cells::.row A p.cells::(E++(Em++(H++(K++[Ent.row D [iI t,iI f]]))))))))) ) gq ⟨t,f,none,0,[],none,0,[],none, #[],0⟩ (some A) p ad had c hac ls hs 96 CkO JW XV Aad (λus vs=>by unfold JW;rw[AC];exact M2 _) (K9.new t f hmr hma) J.AJ ⟨λgb hgb w2 h2=>(by cases hgb;exact hA.r h2 (C9) (λe he=>by simp[he]) λe he=>by simp[he]),λgb hgb=>⟨hA.ok,by have:=hA.room;omega⟩⟩ (λw2 h2=>Nl hV hK h2 (λe he=>by simp[he]) λe he=>by simp[he]) (λw2 h2=>Nl hVA hKA h2 (λe he=>by simp[he]) λe he=>by simp[he]) ⟨hF.fit,λy M=>by have:=hF.few y M;omega⟩ ⟨HY hhs hFA,λy M=>?_⟩ hll hlA).mono ?_
 .have h1:=Ja (act:=a) (n:=64) (G.map RuL.d) (λd F=>by obtain⟨z,hz,rfl⟩:=Ab8.1 F;exact hfb.few z hz) y.d (by rw[<- hhs];exact Ab5 M)
  have h1:y.acts.length<=64:=h1
  omega
 rintro e w' ⟨b43,q,Eq,Emq,Hq,Kq,rfl,hq,⟨hq1,hq2⟩,O,B⟩
 have hq:DU p.ds JW (DM a (G.map RuL.d)) (ls.map RuL.d) ⟨t,f,[]⟩=(if b43 then some q.d else none):=(by rw[<- hhs];exact hq)
 rw[hq] at u
 have hqa:b43=true->∀d∈q.ds,d.acts.length<=(j+1)*64:=λhb43=>(by
  rw[IR hb43] at hq
  refine Lf (Q:=λl=>l.length<=(j+1)*64) (ls.map RuL.d) ⟨t,f,[]⟩ q.d (λd F s hs'=>?_) (λx hx=>by cases hx) hq
  obtain⟨z,hz,rfl⟩:=Ab8.1 F
  have h1:=hF.few z hz
  have h2:=Ja (act:=a) (n:=64) (G.map RuL.d) (λd F=>by obtain⟨z,hz,rfl⟩:=Ab8.1 F;exact hfb.few z hz) s hs'
  have h3:=H6 (JW z.d.acts s.acts)
  have h4:(JW z.d.acts s.acts).length=z.acts.length+s.acts.length:=AC
  omega)
 refine⟨_,_,rfl,B,?_⟩
 skip
 cases b43
 refine J21 ?_
 refine eT1 ?_
 have u:R=none:=u.symm
 rw[u] at S
 have S:C=none:=S.symm
 rw[S]
 exact Cg
 refine J11 ?_
 have u:=(show(if q.d.out.length=0 then some [] else Iw t f p.ds (G.map RuL.d) (r.acts.drop (j+1)) q.ds)=R from u)
 have hql:q.d.out.length=q.ls.length:=Ri _
 rw[hql] at u
 have hqr:=O.room
 refine zV (An U U S4.h (cellAt (v:=.slice q.ad q.ls.length q.c) U)) U<|J7 ?_
 refine JT (λh51=>?_) λh51=>?_
 refine J4 ?_
 refine WE.FI U<|J3 ?_
 have h0:q.ls.length=0:=W
 rw[IR h0] at u
 exact WE.to (L':=.row A p.cells::(E++(Em++(H++(K++(Eq++(Kq++[Ent.row D [iI t,iI f]]))))))) (λw J=>J.AN (.row gq q.cells::(Emq++(Hq++(EA++(KA++(.row Z (acL a)::(T++(X++[.row g9 r.cells])))))))) )<|eM ⟨0,q.ls,q.ad,q.c,Eq,Kq⟩ ⟨by dsimp only;rw[AbQ.1 h0];exact u.symm,O.out,O.own,⟨HY U O.ok.fit,λy M=>by have h9:y.acts.length<=(j+1)*64:=hqa U y.d (Ab5 M);omega⟩,C7⟩
 refine J10 ?_
 rw[E9 W] at u
 exact WE.to (L':=Eq++(Kq++(.row g9 r.cells::.row A p.cells::(E++(Em++(H++(K++[Ent.row D [iI t,iI f]]))))))) (λw J=>J.AN (.row gq q.cells::(Emq++(Hq++(EA++(KA++(.row Z (acL a)::(T++X))))))))<|eW ⟨j+1,q.ls,q.ad,q.c,Eq,Kq⟩ C7 ⟨C7,u,O.out,O.own,⟨HY U O.ok.fit,λy M=>hqa U y.d (Ab5 M)⟩,C7⟩
 refine J8 ?_
 obtain rfl:j=r.acts.length:=W
 rw[Ah9] at u
 exact WE.to (L':=.row A p.cells::(E++(Em++(H++(K++(T++(X++[Ent.row D [iI t,iI f]]))))))) (λw J=>J.AN [.row g9 r.cells])<|eM ⟨0,ls,ad,c,T,X⟩ ⟨u.symm,hV,hK,⟨hF.fit,λy M=>by have:=hF.few y M;omega⟩,hll⟩
 rintro⟨_,ls,ad,c,T,X⟩ ⟨hR2,hV,hK,hF,hll⟩
 dsimp only at hR2 hV hK hF hll⊢
 rw[hR2] at S
 have S:(HU (ls.map RuL.d) p.d).bind (DS (G.map RuL.d) ((xs.drop (i+1)).map RuL.d))=C:=S
 refine J8 ?_
 refine oLp (λx:CrS=>[(55,iI x.i),(54,iI ls.length),(53,.slice ad ls.length c),(20,iI i),(19,iI xs.length),(18,.slice aa xs.length ac),(7,pG A),(5,pG D),(1,.slice ba G.length bc),(6,sN)]) (λx=>.row A x.p.cells::(x.E++(x.Em++(x.H++(x.K++(T++(X++[Ent.row D [iI t,iI f]]))))))) (λx=>x.i<=ls.length/\(HU ((ls.drop x.i).map RuL.d) x.p.d).bind (DS (G.map RuL.d) ((xs.drop (i+1)).map RuL.d))=C/\(x.p.mr=t/\x.p.ma=f)/\K9 x.p x.E x.Em x.H x.K) (λx=>ls.length-x.i) ⟨0,p,E,Em,H,K⟩ ⟨Lv _,by dsimp only;rw[AeP];exact S,⟨hm1,hm2⟩,hA⟩ ?_
 rintro⟨k,p2,E3,Em3,H3,K3⟩ ⟨hk,F,⟨hn1,hn2⟩,N⟩
 dsimp only at hk F hn1 hn2 N⊢
 refine J2 ?_
 refine JT (λh56=>?_) λh56=>?_
 refine J10 ?_
 obtain⟨x,hx⟩:∃x,ls[k]?=some x:=Gx
 have hxm:=Do hx
 have hxf:=hF.fit x hxm
 have hxn:=hF.few x hxm
 obtain⟨b3,o3,ea3,r3⟩:=hV.XS (L:=.row A p2.cells::(E3++(Em3++(H3++(K3++(T++(X++[Ent.row D [iI t,iI f]]))))))) (λe he=>by simp[he]) Fv
 rw[drop_cons hx,Acu,Yz] at F
 refine zV ((AA (b:=b3) (off:=o3) (lo:=k) U (by show some (Value.slice ad _ _)=_;rw[ea3]) U underlying54 BJ U W)) U ?_
 refine zV (AB (cs:=x.cells) U U Ji.h (RuL.len x) λw' B=>Rg.seg RuL.len (r3 _ _ w' B) hx) U<|zy U CZ.h U U<|?_
 intro g15 hg15
 refine J1 ?_
 refine WL.as (L':=.row g15 x.cells::.row A p2.cells::(E3++(Em3++(H3++(K3++(T++(X++[Ent.row D [iI t,iI f]]))))))) U<|J6 ?_
 refine zV (AB U U Ad.h U (AT (g:=g15) (m:=18) (new:=mtL x.m) (Gr x))) U<|zk CkO U (λw J=>LZ w A p2 x.m (N.r J C9 (λe he=>by simp[he]) λe he=>by simp[he]) N.ok hxf.isIn.m (by have:=N.room;omega)) ?_
 generalize hb62:decide (JH p2.ds x.m)=bb
 cases bb
 refine J4 ?_
 refine zS (AB U U Ad.h U (AT (g:=g15) (m:=18) (new:=mtL x.m) (Gr x))) U<|J1 ?_
 refine zS (An U U DV (cellAt (v:=.slice x.ad x.acts.length x.c) (DQ x))) U<|WL.call U U CkO (.some U U U) U U<|?_
 intro w1 hS1
 refine(AcJ (L:=.row g15 x.cells::(T++(X++[Ent.row D [iI t,iI f]]))) A p2 x.m x.ad x.c x.acts N hS1.AJ hxf.isIn.m hxf.isIn.nz (λw2 hS2=>?_) (λa h=>hxf.three h) W).mono ?_
 .obtain ⟨Eo,hVo,hEo⟩:=hK x hxm
  exact hVo.rg λe he=>hS2.holds e (by simp[hEo e he])
 rintro e w' ⟨b70,p3,E4,Em4,H4,K4,rfl,hyes,hno,hA3,B⟩
 refine⟨_,.row g15 x.cells::.row A p3.cells::(E4++(Em4++(H4++(K4++(T++(X++[Ent.row D [iI t,iI f]])))))),rfl,B.AJ,?_⟩
 skip
 cases b70
 refine J20 ?_
 refine eT1 ?_
 obtain⟨hno1,hno2⟩:=hno U
 have hno1:p2.d.add x.d.m x.d.acts=none:=hno1
 rw[E9 (Aep hb62:¬JH p2.d.out x.d.m),hno1] at F
 have F:C=none:=F.symm
 rw[F]
 exact Cg
 refine J12 ?_
 have hyes1:p2.d.add x.d.m x.d.acts=some p3.d:=hyes U
 have hq:=PlD.Ij hyes1
 rw[E9 (Aep hb62:¬JH p2.d.out x.d.m),hyes1] at F
 exact eW ⟨k+1,p3,E4,Em4,H4,K4⟩ C7 ⟨C7,F,⟨(If PlD.mr hq :).trans hn1,(If PlD.ma hq :).trans hn2⟩,hA3⟩
 refine J20 ?_
 rw[IR (Ai8 hb62:JH p2.d.out x.d.m)] at F
 exact eW ⟨k+1,p2,E3,Em3,H3,K3⟩ C7 ⟨C7,F,⟨hn1,hn2⟩,N⟩
 refine J14 ?_
 obtain rfl:k=ls.length:=W
 rw[Ah9] at F
 exact WE.to (L':=.row A p2.cells::(E3++(Em3++(H3++(K3++[Ent.row D [iI t,iI f]]))))) (λw J=>J.AN (T++X))<|eW ⟨i+1,p2,E3,Em3,H3,K3⟩ C7 ⟨C7,F,⟨hn1,hn2⟩,N⟩
 refine J14 ?_
 refine zV (An U U S4.h (cellAt (v:=.slice p.ad p.ls.length p.c) U)) U<|J4 ?_
 refine eT1 ?_
 obtain rfl:i=xs.length:=W
 rw[Ah9] at S
 have S:C=some p.d:=S.symm
 rw[S]
 have hrm:=hA.room
 exact λw' h=>⟨p.ad,p.c,E,K,p.ls,rfl,rfl,hA.out,hA.own,λd F=>hA.ok.fit d F,W,h.AN (.row A p.cells::(Em++(H++[Ent.row D [iI t,iI f]])))⟩
end Gq

abbrev idN:Nd:=.mk 12 0 0 0 none 0 []
/-! ### How many nodes there are -/
mutual
def IE:Nd->Int->Int
 | .mk _ _ _ _ _ _ a,b=>Ib a b 1
def Ib:List Nd->Int->Int->Int
 | [],_,a=>a
 | t::c,b,a=>if a > b then a else Ib c b (a+IE t (b-a))
end
theorem Ab3(t:Nd)(a:Int):IE t a=Ib t.kids a 1:=by cases t;rw[IE];rfl
mutual
theorem Tx:∀(t:Nd) (a:Int),0<=a->1<=IE t a/\IE t a<=a+1
 | .mk _ _ _ _ _ _ b,a,h=>by rw[IE];exact RD b a 1 W
theorem RD:∀(c:List Nd) (a b:Int),b<=a+1->b<=Ib c a b/\Ib c a b<=a+1
 | [],a,b,h=>by rw[Ib];omega
 | t::c,a,b,h=>by
  rw[Ib]
  split
  .omega
  .rename_i f
   have d:=Tx t (a-b) W
   have e:=RD c a (b+IE t (a-b)) W
   omega
end
mutual
def KO:Nd->Int
 | .mk _ _ _ _ _ _ a=>1+II a
def II:List Nd->Int
 | []=>0
 | t::a=>KO t+II a
end
theorem XR(t:Nd):KO t=1+II t.kids:=by cases t;rw[KO];rfl
mutual
theorem Ug:∀t:Nd,1<=KO t
 | .mk _ _ _ _ _ _ a=>by rw[KO];have:=LG a;omega
theorem LG:∀a:List Nd,(a.length:Int)<=II a
 | []=>by rw[II];exact AgP _
 | t::a=>by
  rw[II]
  have b:=Ug t
  have c:=LG a
  rw[Acg];omega
end
theorem SE:∀(a:List Nd) (i:Nat) (t:Nd),a[i]?=some t->KO t<=II a
 | [],_,_,h=>by simp at h
 | t::a,0,u,h=>by
  simp only[Ahl,Ahe] at h
  subst h
  rw[II];have:=LG a;omega
 | t::a,i+1,u,h=>by
  rw[Ah7] at h
  have:=SE a i u h
  have:=Ug t
  rw[II];omega
theorem Acz{t u:Nd}(h:t.kids[D]?=some u):KO u<KO t:=by
 have:=SE _ _ _ h
 rw[XR t];omega
theorem Zq(t:Nd):(t.kids.length:Int)<KO t:=by
 have:=LG t.kids
 rw[XR t];omega
end Go.Proofs.YtmhahajadgkolaaGreatDoor
