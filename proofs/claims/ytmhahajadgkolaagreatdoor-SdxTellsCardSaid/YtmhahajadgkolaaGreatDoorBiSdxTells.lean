/- Joined texts. -/
import Derived.Test.YtmhahajadgkolaaGreatDoorBhSdxTells
set_option maxHeartbeats 4000000
namespace Go.Proofs.YtmhahajadgkolaaGreatDoor
open Go.RowKit Tryz
variable{A C:Sv}{B:Nat}{D:List PfL}{E:PfL}{F:Mb}{G J:Wd}{H:Nat->Prop}{K:eL}{L:Vl->Option Vl}{M:Tri}{N:Int}
section Gq
attribute [local irreducible] WL WC WE WQ WP WH WR WM WRH

def Sv.open(v:Sv)(m:Mb)(k:Nat)(Z:eL):eL:=.row m.g m.cells::.row v.s [.slice (aG v.mb) v.ms.length v.mc,pG v.gf]::.row v.mb (v.FL++v.R)::.row v.gf (fiL v.own v.bl)::(m.rib.AE++(.obj m.bm (.map m.bes m.bc)::.obj m.nm (.map m.nes m.nc)::(m.K++(v.rest k++Z))))
theorem Sv.opened(b:A.ms[B]?=some F)(h:St H G J (A.AE++K)):St H G J (A.open F B K):=by
 have a:=h.perm ((Sv.part b).symm.append_right K)
 unfold Sv.head Mb.AE at a
 unfold Sv.open
 exact a.AJ
theorem Sv.closed{m':Mb}{Z:eL}(b:A.ms[B]?=some F)(a:m'.g=F.g)(h:St H G J (A.open m' B Z)):St H G J ((A.put B m').AE++Z):=by
 refine St.perm (L:=A.head++(m'.AE++A.rest B)++Z) ?_ ((Sv.Afb b a).append_right Z)
 unfold Sv.open at h
 unfold Sv.head Mb.AE
 exact h.AJ
theorem Sv.T5(c:A.ms[B]?=some F)(h:St H G J (A.open F B K)):SvH A J:=by
 refine SvH.of λe b=>?_
 have a:St H G J (A.head++(F.AE++A.rest B)++K):=by
  unfold Sv.open at h
  unfold Sv.head Mb.AE
  exact h.AJ
 exact a.holds e (Ha _ ((Sv.part c).mem_iff.1 b))
structure RenP(m m':Mb)(p:PfL)(off:Prop):Prop where
 is_:m'.Is m
 there:m'.there=m.there
 maps:m'.Maps
 else_:∀q,q≠aA p.cells->m'.BM q=m.BM q
 best:off->m'.BM (aA p.cells)≠none
 news:∀q,q≠aA p.cells->m'.NM q≠none->m.NM q≠none
 bm:m'.bm=m.bm/\m'.nm=m.nm
theorem RenP.ins{f:Mb}{c:Prop}(h:RenP F f E c){S:List PfL}(b:F.Ins S)(d:E∈S):f.Ins S :=
 ⟨by rw[h.is_.rib];exact b.rib,λq a=>by
  by_cases e:q=aA E.cells
  .exact ⟨E,d,e⟩
  .rw [h.else_ q e] at a;exact b.best q a,λq a=>by
  by_cases e:q=aA E.cells
  .exact ⟨E,d,e⟩
  .exact b.news q (h.news q e a)⟩
structure RenS where
 es:Array MapEntry
 c:Nat
 M:Vl->Option Vl
 K:eL
theorem Z9(p0:Nat->Prop)(w0 w1:Wd)(v:Sv)(to:Nat)(mt:Mb)(p:PfL)(ad:Option Addr)(c:Nat)(J:List CdL)(E K L:eL)(hO:v.Ok)(d:v.ms[to]?=some mt)(hp:U32 p.addr)(Q:BP p=true)
 (hV:Vec 14 ad J.length c (AM CdL.cells J) E) (hR:∀x∈J,G1 K x.r.a) (D:J.map CdL.key=JS v.ms p) (hS0:St p0 w0 w1 (v.AE++(E++(K++L)))) :
 Cl 112 #[pG v.s,iI to,aA p.cells,.slice ad J.length c] w1 λe T=>∃m':Mb,e=.returned (.tuple #[])/\RenP mt m' p (IF v to mt.sy p)/\St p0 w0 T ((v.put to m').AE++(E++(K++L))):=by
 have hn:=hO.n
 have hk:=(Eu.1 d).1
 have F:=hO.maps (Do d)
 obtain⟨hM,hMs,hMv⟩:=F.best
 obtain⟨hN,hNs,hNv⟩:=F.news
 obtain⟨old,hold,t⟩:∃old:RtL,(mt.BM (aA p.cells)).getD (.agg (RtL.cells ⟨0,⟨0,0⟩,.zero⟩).toArray)=aA old.cells/\((mt.BM (aA p.cells)).isSome=true->G1 mt.K old.a):=by
  cases h:mt.BM (aA p.cells) with
  | none=>exact⟨_,rfl,λh=>by cases h⟩
  | some u=>obtain⟨r,e,hr⟩:=hMv _ _ h;exact⟨r,e,λ_=>hr⟩
 have hxl:J.length<=v.ms.length:=by
  have N:=If List.length D
  rw[Ri] at N
  rw[N];exact List.length_filterMap_le _ _
 have hpeer:∀x∈J, ∃j:Nat,j<16/\x.r.peer=(j:Int):=λx hx=>by
  have N:x.key∈JS v.ms p:=by rw[<- D];exact Ab5 hx
  obtain⟨m,hm,a,hg,e⟩:=No.1 N
  obtain⟨k,hk,rfl⟩:=List.mem_iff_getElem.1 hm
  unfold CdL.key at e
  rw[Prod.mk.injEq] at e
  exact⟨k,W,by rw[e.1,(hO.rib k _ (FS hk)).2]⟩
 obtain⟨G,S⟩:∃G,G=J.filter (goF v to mt.sy):=⟨_,rfl⟩
 have hyl:G.length<=v.ms.length:=by rw[S];exact AcC (List.length_filter_le _ _) hxl
 have hyx:∀y∈G,y∈J:=λy H=>by rw[S] at H;exact(Aig.1 H).1
 have X:G≠[]<->IF v to mt.sy p:=by rw[S];exact AaX hO D
 obtain⟨Z,hZ⟩:∃Z,Z=E++(K++L):=⟨_,rfl⟩
 have hEZ:∀e∈E,e∈Z:=λe he=>by rw[hZ];exact Ha _ he
 have O:∀e∈K,e∈Z:=λe he=>by rw[hZ];exact Mu _ (Ha _ he)
 rw[<- hZ] at hS0 ⊢
 have hS1:St p0 w0 w1 (.row mt.g mt.cells::.row v.s [.slice (aG v.mb) v.ms.length v.mc,pG v.gf]::.row v.mb (v.FL++v.R)::.row v.gf (fiL v.own v.bl)::(mt.rib.AE++(.obj mt.bm (.map mt.bes mt.bc)::.obj mt.nm (.map mt.nes mt.nc)::(mt.K++(v.rest to++Z))))):=Sv.opened d hS0
 refine enter func112 U ntmps112 U hS1<|J2 ?_
 refine zx U U U U U<|λg6 hg6=>J7 ?_
 refine zV (An U U RO.h (cellAt (g:=v.s) (v:=.slice (aG v.mb) v.ms.length v.mc) U)) U<|J1 ?_
 refine zV (AA (lo:=to) U U U underlying145 PL W W) U<|zV (An U U OT (cellAt (cs:=v.FL++v.R) (Sv.Sp d))) U<|J4 ?_
 refine WC.AS mixed<|rF 9 [0,1,2]<|?_
 refine J4 ?_
 refine WR.mix (g:=2) 9 [3,4,5,6,7] [8] U GK.h U U U C6 C6<|zm (An U U OU (cellAt (g:=mt.g) (cs:=mt.cells) U)) U<|zm (AB U U DD.h U AL) U<|?_
 refine zm (ED (z:=.agg (RtL.cells ⟨0,⟨0,0⟩,.zero⟩).toArray) U U U underlying151 DH (KPf.mk Q hp) C6 (C4 (es:=mt.bes) mt.bm (c:=mt.bc) C9) hM) U ?_
 rw[hold]
 generalize hhad:(mt.BM (aA p.cells)).isSome=had at t
 refine zm (DG U U) U<|zm (CB U U U) U<|WM.nil<|?_
 refine J1 ?_
 refine WP.NU<|λg9 hg9=>rO 1 [10]<|J2 ?_
 refine rF 0 [11]<|J9 ?_
 refine zK CkO U<|λw2 f=>(Tc w2 v to mt ad c J (Sv.T5 d (f.sub (.cons _ (.cons _ (.refl _))))) hO d (Ct CdL.BK C8 (CY hV λe he=>f.holds e (by simp[hEZ e he]))) (λx hx=>⟨(hR x hx).1 w2 λe he=>f.holds e (by simp[O e he]),(hR x hx).2⟩) hpeer W).mono ?_
 rw[<- S]
 rintro e T ⟨yad,yc,Ey,rfl,hVy,hS'⟩
 refine⟨_,_,rfl,f.join hS',?_⟩
 refine J6 ?_
 refine zK CkO U<|λw2 f=>(AcM w2 yad yc G (Ct CdL.BK C8 (CY hVy λe he=>f.holds e (Ha _ he))) (λy H=>⟨(hR y (hyx y H)).1 w2 λe he=>f.holds e (by simp[O e he]),(hR y (hyx y H)).2⟩) W).mono ?_
 rintro e T ⟨pl,rfl,hpl,hF⟩
 refine⟨_,_,rfl,f.ext hF,?_⟩
 refine J3 ?_
 refine WC.cut (λ_:RenS=>[(8,pG mt.g),(6,pG g6)]) (λx=>.row g6 p.cells::.row mt.g mt.cells::.row v.s [.slice (aG v.mb) v.ms.length v.mc,pG v.gf]::.row v.mb (v.FL++v.R)::.row v.gf (fiL v.own v.bl)::(mt.rib.AE++(.obj mt.bm (.map x.es x.c)::.obj mt.nm (.map mt.nes mt.nc)::(x.K++(v.rest to++Z))))) (λx=>CP KPf x.es x.M/\MapKept.Stamped x.es x.c/\(∀k u,x.M k=some u->∃r:RtL,u=aA r.cells/\G1 x.K r.a)/\(∀q,q≠aA p.cells->x.M q=mt.BM q)/\(IF v to mt.sy p->x.M (aA p.cells)≠none)) ?_ ?_
 refine J3 ?_
 refine JT (λh37=>?_) λh37=>?_
 refine J7 ?_
 skip
 cases had
 refine J7 ?_
 refine WE.LC (P:=prog) (.inl U) results112  ?_
 exact λT h=>⟨mt,rfl,⟨⟨rfl,rfl,rfl,rfl⟩,rfl,F,λq hq=>rfl,λho=>by
 rcases hpl with⟨h0,_⟩|h0
 .exact absurd (List.eq_nil_of_length_eq_zero h0) (X.2 ho)
 .omega,λ_ _ h=>h,rfl,rfl⟩,Sv.closed d U (h.sub (Adn (.cons _ (.cons _ (.refl _)))))⟩
 refine J6 ?_
 refine WC.AS mixed<|rF 3 [0,1,2]<|?_
 refine J4 ?_
 refine rA 1 [3,4] U<|qV (An U U OU (cellAt (g:=mt.g) (cs:=mt.cells) U)) U<|?_
 refine J2 ?_
 refine rO 0 [5]<|WL.UR U U U underlying151 DH (KPf.mk Q hp) (hM) (.none U) U<|?_
 intro esU hMU hsU hstU
 refine J2 ?_
 exact WE.mid ⟨esU,mt.bc,_,mt.K⟩ ⟨hMU,hstU hMs,λk u b=>by
 have b:CR mt.BM (aA p.cells) none k=some u:=b
 by_cases e:k=aA p.cells
 .subst e;rw[DC] at b;cases b
 .rw [CI _ _ e] at b;exact hMv k u b,λq hq=>CI _ _ hq,λho=>by
 rcases hpl with⟨h0,_⟩|h0
 .exact absurd (List.eq_nil_of_length_eq_zero h0) (X.2 ho)
 .omega⟩ Km (Adn (.cons _ (.refl _)))
 refine J6 ?_
 obtain⟨pn,rfl⟩:∃pn:Nat,pl=(pn:Int):=⟨pl.toNat,W⟩
 have hpn:pn<G.length:=(by rcases hpl with⟨_,h⟩|h<;>omega)
 obtain⟨y,H⟩:∃y,G[pn]?=some y:=Gx
 have hyR:=hR y (hyx y (Do H))
 obtain⟨gy,Ry,rfl,rfl,hycl,hycap⟩:=hVy.split (by intro e;rw[e] at H;cases H)
 simp only[AbT,Aec]
 refine J1 ?_
 refine zV (AA (lo:=pn) U U U underlying252 LJ W W) U<|J1 ?_
 refine WL.val (AB (cs:=y.r.cells) U U P9.h (RtL.BK y.r) (AT (cs:=AM CdL.cells G++Ry) (m:=13) (by
 have N:=DF CdL.BK (R:=Ry) H
 rw[PP]
 exact Abd N (Nat.le_succ 13)))) (.none U) U U ?_
 refine zy U GK.h U U<|λg13 hg13=>J1 ?_
 refine WL.to (L':=.row g13 y.r.cells::.row g6 p.cells::.row mt.g mt.cells::.row g9 old.cells::.row v.s [.slice (aG v.mb) v.ms.length v.mc,pG v.gf]::.row v.mb (v.FL++v.R)::.row v.gf (fiL v.own v.bl)::(mt.rib.AE++(.obj mt.bm (.map mt.bes mt.bc)::.obj mt.nm (.map mt.nes mt.nc)::(mt.K++(v.rest to++Z))))) (λw h=>St.AN (L:=.row g13 y.r.cells::.row gy (AM CdL.cells G++Ry)::.row g9 old.cells::.row g6 p.cells::.row mt.g mt.cells::.row v.s [.slice (aG v.mb) v.ms.length v.mc,pG v.gf]::.row v.mb (v.FL++v.R)::.row v.gf (fiL v.own v.bl)::(mt.rib.AE++(.obj mt.bm (.map mt.bes mt.bc)::.obj mt.nm (.map mt.nes mt.nc)::(mt.K++(v.rest to++Z))))) [.row gy (AM CdL.cells G++Ry)] h)<|J3 ?_
 refine WC.held ([.row g13 y.r.cells,.row g6 p.cells,.row mt.g mt.cells]) mixed<|WRH.first (g:=2) [0,1,2,3,4,5] C6 C6 kp<|J3 ?_
 refine zj (An U U OU (cellAt (g:=mt.g) (cs:=mt.cells) U)) U<|J1 ?_
 refine zj (AB (cs:=y.r.cells) U U P9.h (RtL.BK y.r) λw f=>AL (g:=g13) w f) U<|WH.nil<|?_
 refine WRH.one (g:=1) 6 C6<|zK CkO U<|λw2 f=>(AbG w2 y.r (hyR.1 w2 λe he=>f.holds e (by simp[O e he])) hyR.2).mono ?_
 rintro e T ⟨a',K',rfl,hsay,hRK,hS'⟩
 refine⟨_,.row g13 y.r.cells::.row g6 p.cells::.row mt.g mt.cells::.row g9 old.cells::.row v.s [.slice (aG v.mb) v.ms.length v.mc,pG v.gf]::.row v.mb (v.FL++v.R)::.row v.gf (fiL v.own v.bl)::(mt.rib.AE++(.obj mt.bm (.map mt.bes mt.bc)::.obj mt.nm (.map mt.nes mt.nc)::((K'++mt.K)++(v.rest to++Z)))),rfl,(f.join hS').AJ,?_⟩
 refine WL.BL kp<|WRH.one (g:=0) 7 C6<|WL.EH U U U U underlying151 DH (KPf.mk Q hp) (hM) (.none U) U<|λesU cU hMU hsU hstU=>?_
 have hUv:∀k u,CR mt.BM (aA p.cells) (some (.agg (RtL.cells ⟨y.r.peer,y.r.net,a'⟩).toArray)) k=some u->∃r:RtL,u=aA r.cells/\G1 (K'++mt.K) r.a:=(λk u b=>by
  by_cases e:k=aA p.cells
  .subst e
   rw[DC] at b;cases b
   exact⟨_,rfl,hRK.1.mono λe he=>Ha _ he,hRK.2⟩
  .rw [CI _ _ e] at b
   obtain⟨r,e1,N⟩:=hMv k u b
   exact⟨r,e1,N.1.mono λe he=>Mu _ he,N.2⟩)
 have hUp:CR mt.BM (aA p.cells) (some (.agg (RtL.cells ⟨y.r.peer,y.r.net,a'⟩).toArray)) (aA p.cells)≠none:=(by rw[DC];intro h;cases h)
 refine WL.BL kp<|WRH.done C6<|J4 ?_
 skip
 cases had
 refine J6 ?_
 generalize hb63:decide (old.peer=y.r.peer)=b63
 cases b63
 refine J7 ?_
 generalize C:decide (old.a.say=y.r.a.say)=i
 cases i
 exact Aa
 exact Aa
 refine J7 ?_
 generalize C:decide (old.a.say=y.r.a.say)=i
 cases i
 exact Aa
 exact Aa
 refine J2 ?_
 refine zS (An U U i3o.h (cellAt (g:=g9) (v:=iI old.peer) U)) U<|J1 ?_
 refine zS (An U U i3o.h (cellAt (g:=g13) (v:=iI y.r.peer) U)) U<|zS (Ae U U U) U<|?_
 generalize hb63:decide (old.peer=y.r.peer)=b63
 cases b63
 refine J7 ?_
 generalize C:decide (old.a.say=y.r.a.say)=i
 cases i
 exact Aa
 exact Aa
 refine J3 ?_
 refine zS (AB (cs:=old.a.cells) U U JZ.h U (AT (g:=g9) (m:=10) U)) U<|J1 ?_
 refine zS (AB (cs:=y.r.a.cells) U U JZ.h U (AT (g:=g13) (m:=10) U)) U<|zk CkO U (λw f=>ZU w old.a y.r.a ((t U).1 w λe he=>f.holds e Dd) (hyR.1 w λe he=>f.holds e (by simp[O e he])) (t U).2) ?_
 generalize C:decide (old.a.say=y.r.a.say)=i
 cases i
 exact Aa
 refine J6 ?_
 refine WE.LC (P:=prog) (.inl U) results112  ?_
 refine λT h=>?_
 have h2:St p0 w0 T (.row mt.g mt.cells::.row v.s [.slice (aG v.mb) v.ms.length v.mc,pG v.gf]::.row v.mb (v.FL++v.R)::.row v.gf (fiL v.own v.bl)::(mt.rib.AE++(.obj mt.bm (.map esU cU)::.obj mt.nm (.map mt.nes mt.nc)::((K'++mt.K)++(v.rest to++Z))))):=St.AN [.row g13 y.r.cells,.row g6 p.cells,.row g9 old.cells] h
 exact⟨{ mt with bes:=esU,bc:=cU,BM:=CR mt.BM (aA p.cells) (some (.agg (RtL.cells ⟨y.r.peer,y.r.net,a'⟩).toArray)),K:=K'++mt.K },rfl,⟨⟨rfl,rfl,rfl,rfl⟩,rfl,⟨⟨hMU,hstU hMs,hUv⟩,F.news⟩,λq hq=>CI _ _ hq,λ_=>hUp,λ_ _ h=>h,rfl,rfl⟩,Sv.closed d U h2⟩
 rintro⟨es1,c1,M1,K1⟩ ⟨hM1,A,B,o,l⟩
 dsimp only at hM1 A B o l⊢
 refine J5 ?_
 refine zV (An U U i4o.h (cellAt (g:=mt.g) (v:=.bool mt.there) U)) U ?_
 generalize hb75:mt.there=b75
 cases b75
 refine J4 ?_
 refine WE.LC (P:=prog) (.inr U) results112  ?_
 exact λT h=>⟨{ mt with bes:=es1,bc:=c1,BM:=M1,K:=K1 },rfl,⟨⟨rfl,rfl,rfl,rfl⟩,rfl,⟨⟨hM1,A,B⟩,F.news⟩,o,l,λ_ _ h=>h,rfl,rfl⟩,Sv.closed d U h.tail⟩
 refine J3 ?_
 refine WC.AS mixed<|rF 3 [0,1,2,5]<|?_
 refine J5 ?_
 refine rA 1 [3,4] U<|qV (An U U Nh (cellAt (g:=mt.g) (cs:=mt.cells) U)) U<|?_
 refine J2 ?_
 refine rO 0 [6]<|WL.EH U U U U underlying152 DH (KPf.mk Q hp) (hN) (.none U) U<|?_
 intro esU cU hMU hsU hstU
 refine J2 ?_
 refine WE.LC (P:=prog) (.inr U) results112  ?_
 exact λT h=>⟨{ mt with bes:=es1,bc:=c1,BM:=M1,nes:=esU,nc:=cU,NM:=CR mt.NM (aA p.cells) (some (.agg #[])),K:=K1 },rfl,⟨⟨rfl,rfl,rfl,rfl⟩,rfl,⟨⟨hM1,A,B⟩,hMU,hstU hNs,λk u b=>by
 have b:CR mt.NM (aA p.cells) (some (.agg #[])) k=some u:=b
 by_cases e:k=aA p.cells
 .subst e;rw[DC] at b;cases b;rfl
 .rw [CI _ _ e] at b;exact hNv k u b⟩,o,l,λq hq h=>by
 have h:CR mt.NM (aA p.cells) (some (.agg #[])) q≠none:=h
 rwa [CI _ _ hq] at h,rfl,rfl⟩,Sv.closed d U h.tail⟩

structure FH(v v':Sv):Prop where
 s:v'.s=v.s
 own:v'.own=v.own
 bl:v'.bl=v.bl
 len:v'.ms.length=v.ms.length
 S:v'.S=v.S
 at_:∀(k:Nat) (m:Mb),v.ms[k]?=some m->∃m':Mb,v'.ms[k]?=some m'/\m'.Is m/\m'.there=m.there
theorem Mb.Is.refl(m:Mb):m.Is m:=⟨rfl,rfl,rfl,rfl⟩
theorem Mb.Is.trans{a b c:Mb}(h:a.Is b)(k:b.Is c):a.Is c:=⟨h.g.trans k.g,h.sy.trans k.sy,h.id.trans k.id,h.rib.trans k.rib⟩
theorem FH.refl(v:Sv):FH v v:=⟨rfl,rfl,rfl,rfl,rfl,λ_ m h=>⟨m,h,.refl m,rfl⟩⟩
theorem FH.trans{a b c:Sv}(h:FH a b)(k:FH b c):FH a c :=
 ⟨k.s.trans h.s,k.own.trans h.own,k.bl.trans h.bl,k.len.trans h.len,k.S.trans h.S,λi m g=>by
  obtain⟨o,d,e,f⟩:=h.at_ i m g
  obtain⟨p,j,l,n⟩:=k.at_ i o d
  exact⟨p,j,l.trans e,n.trans f⟩⟩
theorem FH.back(h:FH A C){k:Nat}{a:Mb}(c:C.ms[k]?=some a):∃m,A.ms[k]?=some m/\a.Is m/\a.there=m.there:=by
 have hk:=(Eu.1 c).1
 rw[h.len] at hk
 obtain⟨f,b,d,e⟩:=h.at_ k _ (FS hk)
 rw[c] at b;cases b
 exact⟨_,FS hk,d,e⟩
theorem FH.put{v:Sv}{k:Nat}{m a:Mb}(c:v.ms[k]?=some m)(d:a.Is m)(f:a.there=m.there):FH v (v.put k a) :=
 ⟨rfl,rfl,rfl,Sv.Ie,rfl,λj x b=>by
  by_cases e:j=k
  .subst e;rw[c] at b;cases b
   exact⟨a,Sv.HL c,d,f⟩
  .exact ⟨x,by rw[Sv.HM e];exact b,.refl x,rfl⟩⟩
theorem FH.off(h:FH A C){i:Nat}{g:Int}{p:PfL}:IF C i g p<->IF A i g p:=by
 unfold IF
 rw[h.own,h.bl]
 constructor
 .rintro ⟨k,m,x,a,b,c⟩
  obtain⟨f,d,e,_⟩:=h.back a
  exact⟨k,f,x,d,by rw[<- e.rib];exact b,c⟩
 .rintro ⟨k,m,x,a,b,c⟩
  obtain⟨f,d,e,_⟩:=h.at_ k m a
  exact⟨k,f,x,d,by rw[e.rib];exact b,c⟩
theorem FH.said(h:FH A C)(p:PfL):JS C.ms p=JS A.ms p:=by
 unfold JS
 have:∀(b a:List Mb),b.length=a.length->(∀(k:Nat) (m:Mb),a[k]?=some m->∃c:Mb,b[k]?=some c/\c.Is m)->(b.filterMap λm=>(m.rib.T.get p.bits).map λA=>(m.rib.peer,p,A.say,m.id))=a.filterMap λm=>(m.rib.T.get p.bits).map λA=>(m.rib.peer,p,A.say,m.id):=by
  intro (b:List Mb)
  induction b with
  | nil=>intro a d _;cases a with|nil=>rfl|cons y a=>cases d
  | cons x b j =>
   intro a d hk
   cases a with
   | nil=>cases d
   | cons y a =>
    obtain⟨c,i,g⟩:=hk 0 y U
    cases i
    have e:=j a (by simpa using d) λk m f=>hk (k+1) m f
    rw[List.filterMap_cons,List.filterMap_cons,e,g.rib,g.id]
 exact this _ _ h.len λk m f=>let ⟨c,h1,e,_⟩:=h.at_ k m f; ⟨c,h1,e⟩
def Told(v:Sv)(p:PfL):Prop:=∀(k:Nat) (m:Mb),v.ms[k]?=some m->IF v k m.sy p->m.BM (aA p.cells)≠none
structure Adm(v v':Sv)(ps:List PfL):Prop where
 Hn:FH v v'
 ok:v'.Ok
 told:∀q,(q∈ps\/Told v q)->Told v' q
structure TuA where
 j:Nat
 v:Sv
theorem Yu(p0:Nat->Prop)(w0 w1:Wd)(v:Sv)(ad:Option Addr)(c:Nat)(d:List PfL)(L:eL)(hO:v.Ok)(hps:FP d)(hpS:∀p∈d,p∈v.S)(hpl:d.length<=8589934592)(hr:∀w,St p0 w0 w L->BH w ad 2 PfL.cells d)(O:St p0 w0 w1 (v.AE++L)):
 Cl 109 #[pG v.s,.slice ad d.length c] w1 λe w'=>∃v':Sv,e=.returned (.tuple #[])/\Adm v v' d/\St p0 w0 w' (v'.AE++L):=by
 have hn:=hO.n
 refine enter func109 U ntmps109 U O<|J8 ?_
 refine oLp (λx:TuA=>[(10,iI x.j),(9,iI d.length),(8,.slice ad d.length c),(0,pG v.s)]) (λx=>x.v.AE++L) (λx=>x.j<=d.length/\FH v x.v/\x.v.Ok/\∀q,(q∈d.take x.j\/Told v q)->Told x.v q) (λx=>d.length-x.j) ⟨0,v⟩ ⟨Lv _,.refl v,hO,λq h=>h.elim (λh=>by cases h) id⟩ ?_
 rintro⟨j,l⟩ ⟨hj,f,u,K⟩
 dsimp only at hj f u K⊢
 refine J2 ?_
 refine JT (λh11=>?_) λh11=>?_
 refine J10 ?_
 obtain⟨p,y⟩:∃p,d[j]?=some p:=Gx
 have z:=hps p (Do y)
 have Z:p∈v.S:=hpS p (Do y)
 obtain⟨b1,o1,ea,_⟩:=hr _ (O.sub (Ai9 _ _)) j p y
 have htk:d.take (j+1)=d.take j++[p]:=(by rw[AhG,y];rfl)
 refine zV ((AA (b:=b1) (off:=o1) (lo:=j) U Dk U underlying32 BT U W)) U ?_
 refine WL.val (AB (cs:=p.cells) U U DD.h U (λw C=>by
 obtain⟨b2,o2,N,r2⟩:=hr w (C.sub (Ai9 _ _)) j p y
 rw[ea] at N;cases N;exact r2)) (.none U) U U ?_
 refine zy U FZ.h U U<|λB hg5=>J7 ?_
 refine zK CkO U<|λw2 C=>?_
 have hv1:SvH l w2:=SvH.of λe he=>C.holds e Dd
 have Q:=Yt w2 l p hv1 u z.2 z.1
 rw[f.s] at Q
 refine Q.mono ?_
 rintro e w' ⟨xs,xad,xc,E,F,rfl,hVx,hRx,R,G⟩
 refine⟨_,.row B p.cells::(l.AE++(E++(F++L))),rfl,(C.join G).AJ,?_⟩
 refine J8 ?_
 refine zV (An U U RO.h ((λw C=>by rw[<- f.s];exact(SvH.of (v:=l) (w:=w) λe he=>C.holds e Dd).s.cell U))) U ?_
 refine J5 ?_
 refine oLp (λx:TuA=>[(22,iI x.j),(21,iI l.ms.length),(5,pG B),(6,.slice xad xs.length xc),(10,iI j),(9,iI d.length),(8,.slice ad d.length c),(0,pG v.s)]) (λx=>.row B p.cells::(x.v.AE++(E++(F++L)))) (λx=>x.j<=l.ms.length/\FH l x.v/\x.v.Ok/\(∀q,q≠p->Told l q->Told x.v q)/\∀(k:Nat) (m:Mb),(k<x.j\/Told l p)->x.v.ms[k]?=some m->IF x.v k m.sy p->m.BM (aA p.cells)≠none) (λx=>l.ms.length-x.j) ⟨0,l⟩ ⟨Lv _,.refl l,u,λq _ h=>h,λk m h=>h.elim (λh=>absurd h (Ac5 _)) λh=>h k m⟩ ?_
 rintro⟨k,r⟩ ⟨hk,a,o,A,H⟩
 dsimp only at hk a o A H⊢
 refine J2 ?_
 refine JT (λh23=>?_) λh23=>?_
 refine J10 ?_
 have hl16:=u.n.2
 obtain⟨M,g⟩:∃M,r.ms[k]?=some M:=⟨r.ms[k]'(by rw[a.len];omega),FS _⟩
 refine J9 ?_
 refine zK CkO U<|λw2 C=>?_
 have h1:St p0 w0 w2 (r.AE++(E++(F++(.row B p.cells::L)))):=C.AJ
 have Q:=Z9 p0 w0 w2 r k M p xad xc xs E F (.row B p.cells::L) o g z.2 z.1 hVx hRx (R.trans (a.said p).symm) h1
 rw[a.s,f.s] at Q
 refine Q.mono ?_
 rintro e w' ⟨m',rfl,hren,G⟩
 refine⟨_,.row B p.cells::((r.put k m').AE++(E++(F++L))),rfl,G.AJ,?_⟩
 refine J7 ?_
 have J:FH r (r.put k m'):=.put g hren.is_ hren.there
 exact eW ⟨k+1,r.put k m'⟩ C7 ⟨C7,a.trans J,o.put g (by rw[hren.is_.rib];exact o.rib k M g) hren.maps (hren.ins (o.ins M (Do g)) (by rw[a.S,f.S];exact Z)),λq D hT i x t T=>by
  have ho2:IF r i x.sy _:=J.off.1 T
  rcases Sv.LA t with⟨rfl,rfl⟩|t
  .rw [hren.else_ _ λe=>D (EE e)]
   exact A q D hT i M g Fz
  .exact A q D hT i x t ho2,λi x X t T=>by
  have ho2:IF r i x.sy _:=J.off.1 T
  dsimp only at X
  by_cases e:i=k
  .subst e
   rcases Sv.LA t with⟨_,rfl⟩|hx2
   .exact hren.best Fz
   .rw [Sv.HL g] at t;cases t
    exact hren.best Fz
  .rw [Sv.HM e] at t
   exact H i x (X.imp (λh=>by omega) id) t ho2⟩
 refine J14 ?_
 refine WE.to (L':=r.AE++L) (λw h=>St.AN (L:=.row B p.cells::(r.AE++(E++(F++L)))) (.row B p.cells::(E++F)) h) ?_
 have hkl:k=l.ms.length:=W
 exact eW ⟨j+1,r⟩ C7 ⟨C7,f.trans a,o,λq D=>by
  dsimp only at D ⊢
  by_cases e:q=p
  .subst e
   exact λi x t T=>H i x (.inl (by have:=(Eu.1 t).1;rw[a.len] at this;omega)) t T
  .refine A q e (K q (D.imp (λh=>?_) id))
   rw[htk] at h
   rcases LI.1 h with h|h
   .exact h
   .exact absurd (Es.1 h) e⟩
 refine J8 ?_
 refine WE.LC (P:=prog) (.inr U) results109  ?_
 exact λw' h=>⟨l,rfl,⟨f,u,λq D=>K q (D.imp (λh=>by rw[Aco W];exact h) id)⟩,h⟩

theorem Sc(a:Wd)(v:Sv)(n:Int)(h:SvH v a)(d:v.ms.length<=16)(g:¬(0<=n/\n<(v.ms.length:Int))):
 Cl 107 #[pG v.s,iI n] a λe b=>e=.returned (.pointer none)/\Frm Fx a b :=
 (OM a v n h d).mono (by
  rintro e b ⟨A,rfl,⟨rfl,_⟩|⟨k,m,rfl,f,_⟩,c⟩
  .exact ⟨rfl,c⟩
  .exact absurd ⟨W,by have:=(Eu.1 f).1;omega⟩ g)
theorem Jw(b:Wd)(v:Sv)(k:Nat)(m:Mb)(j:SvH v b)(i:v.ms.length<=16)(c:v.ms[k]?=some m):
 Cl 107 #[pG v.s,iI k] b λe d=>e=.returned (pG m.g)/\Frm Fx b d :=
 (OM b v k j i).mono (by
  rintro e d ⟨A,rfl,⟨rfl,h⟩|⟨l,o,n,a,rfl⟩,f⟩
  .exact absurd ⟨W,by have:=(Eu.1 c).1;omega⟩ h
  .obtain rfl:k=l:=W
   rw[c] at a;cases a
   exact⟨rfl,f⟩)
structure CT(v v':Sv):Prop where
 s:v'.s=v.s
 own:v'.own=v.own
 bl:v'.bl=v.bl
 len:v'.ms.length=v.ms.length
 S:v'.S=v.S
 at_:∀(k:Nat) (m:Mb),v.ms[k]?=some m->∃m':Mb,v'.ms[k]?=some m'/\m'.Is m/\m'.there=m.there/\m'.BM=m.BM/\∀q,m.NM q≠none->m'.NM q≠none
theorem CT.refl(v:Sv):CT v v:=⟨rfl,rfl,rfl,rfl,rfl,λ_ m h=>⟨m,h,.refl m,rfl,rfl,λ_ h=>h⟩⟩
theorem CT.trans{a b c:Sv}(h:CT a b)(k:CT b c):CT a c :=
 ⟨k.s.trans h.s,k.own.trans h.own,k.bl.trans h.bl,k.len.trans h.len,k.S.trans h.S,λi m l=>by
  obtain⟨v,d,e,f,g,j⟩:=h.at_ i m l
  obtain⟨w,o,p,r,t,u⟩:=k.at_ i v d
  exact⟨w,o,p.trans e,r.trans f,t.trans g,λq n=>u q (j q n)⟩⟩
theorem CT.Hn(h:CT A C):FH A C:=⟨h.s,h.own,h.bl,h.len,h.S,λk m a=>let ⟨m',h1,h2,h3,_⟩:=h.at_ k m a; ⟨m',h1,h2,h3⟩⟩
theorem CT.told(h:CT A C){p:PfL}(g:Told A p):Told C p:=λk l a f=>by
 obtain⟨m,c,e,_⟩:=h.Hn.back a
 obtain⟨n,b,i,j,d,_⟩:=h.at_ k m c
 rw[a] at b;cases b
 rw[d]
 exact g k m c (by rw[<- e.sy];exact h.Hn.off.1 f)
theorem CT.put{v:Sv}{k:Nat}{m a:Mb}(c:v.ms[k]?=some m)(f:a.Is m)(i:a.there=m.there)(d:a.BM=m.BM)(g:∀q,m.NM q≠none->a.NM q≠none):CT v (v.put k a) :=
 ⟨rfl,rfl,rfl,Sv.Ie,rfl,λj x b=>by
  by_cases e:j=k
  .subst e;rw[c] at b;cases b
   exact⟨a,Sv.HL c,f,i,d,g⟩
  .exact ⟨x,by rw[Sv.HM e];exact b,.refl x,rfl,rfl,λ_ h=>h⟩⟩
structure MarkP(v v':Sv)(n:Nat)(ps:List PfL):Prop where
 more:CT v v'
 ok:v'.Ok
 new:∀m':Mb,v'.ms[n]?=some m'->m'.there=true->∀p∈ps,m'.NM (aA p.cells)≠none
structure MarkS where
 j:Nat
 es:Array MapEntry
 c:Nat
 M:Vl->Option Vl
theorem Xs(h:∀k u,L k=some u->u=.agg #[]):∀k u,CR L (aA E.cells) (some (.agg #[])) k=some u->u=.agg #[]:=λk u a=>by
 by_cases e:k=aA E.cells
 .subst e;rw[DC] at a;cases a;rfl
 .rw [CI _ _ e] at a;exact h k u a
theorem AaE{u:Vl}(h:∀q,L q≠none->∃E∈D,q=aA E.cells)(b:E∈D):∀q,CR L (aA E.cells) (some u) q≠none->∃E∈D,q=aA E.cells:=λq a=>by
 by_cases e:q=aA E.cells
 .exact ⟨E,b,e⟩
 .rw [CI _ _ e] at a;exact h q a
theorem X4{x u:Vl}{q:Vl}(h:L q≠none):CR L x (some u) q≠none:=by
 by_cases e:q=x
 .subst e;rw[DC];intro h;cases h
 .rw [CI _ _ e];exact h
theorem Uv(B:Nat->Prop)(C w1:Wd)(v:Sv)(n:Nat)(m:Mb)(ad:Option Addr)(c:Nat)(d:List PfL)(L:eL)(E:v.Ok)(a:v.ms[n]?=some m)(hps:FP d)(hpS:∀p∈d,p∈v.S)(hpl:d.length<=8589934592)(hr:∀w,St B C w L->BH w ad 2 PfL.cells d)(T:St B C w1 (v.AE++L)):
 Cl 118 #[pG v.s,iI n,.slice ad d.length c] w1 λe w'=>∃v':Sv,e=.returned (.tuple #[])/\MarkP v v' n d/\St B C w' (v'.AE++L):=by
 have hn:=E.n
 have H:=E.maps (Do a)
 have r:=E.ins m (Do a)
 obtain⟨hN,hNs,hNv⟩:=H.news
 obtain⟨Z,hZ⟩:∃Z,Z=v.rest n++L:=⟨_,rfl⟩
 have hSL:∀(w:Wd) (A:eL),St B C w (A++(m.K++Z))->St B C w L:=λw A h=>h.sub (by rw[hZ];exact Adn (Adn (Ai9 _ _)))
 have hS1:St B C w1 (.row m.g m.cells::.row v.s [.slice (aG v.mb) v.ms.length v.mc,pG v.gf]::.row v.mb (v.FL++v.R)::.row v.gf (fiL v.own v.bl)::(m.rib.AE++(.obj m.bm (.map m.bes m.bc)::.obj m.nm (.map m.nes m.nc)::(m.K++Z)))):=by rw[hZ];exact Sv.opened a T
 have aa:∀(w:Wd) (es:Array MapEntry) (c:Nat) (M:Vl->Option Vl),St B C w (.row m.g m.cells::.row v.s [.slice (aG v.mb) v.ms.length v.mc,pG v.gf]::.row v.mb (v.FL++v.R)::.row v.gf (fiL v.own v.bl)::(m.rib.AE++(.obj m.bm (.map m.bes m.bc)::.obj m.nm (.map es c)::(m.K++Z))))->St B C w ((v.put n { m with nes:=es,nc:=c,NM:=M }).AE++L):=λw es c M h=>by
  rw[hZ] at h
  exact Sv.closed (m':={ m with nes:=es,nc:=c,NM:=M }) a U h
 refine enter func118 U ntmps118 U hS1<|J4 ?_
 refine zk CkO U (λw J=>Jw w v n m (Sv.T5 a (by rw[hZ] at J;exact J)) hn.2 a) ?_
 refine J7 ?_
 refine zV (AI false U U underlying148 U) U<|J4 ?_
 refine zS (An U U i4o.h (cellAt (g:=m.g) (v:=.bool m.there) U)) U ?_
 generalize X:m.there=b18
 cases b18
 refine J7 ?_
 refine WE.LC (P:=prog) (.inl U) results118  ?_
 exact λw' h=>⟨v.put n m,rfl,⟨.put a (.refl m) U U λ_ h=>h,E.put a (E.rib n m a) H r,λm' Q h2=>by rw[Sv.HL a] at Q;cases Q;rw[X] at h2;cases h2⟩,aa w' m.nes m.nc m.NM h⟩
 refine J15 ?_
 refine oLp (λx:MarkS=>[(23,iI x.j),(22,iI d.length),(21,.slice ad d.length c),(6,pG m.g)]) (λx=>.row m.g m.cells::.row v.s [.slice (aG v.mb) v.ms.length v.mc,pG v.gf]::.row v.mb (v.FL++v.R)::.row v.gf (fiL v.own v.bl)::(m.rib.AE++(.obj m.bm (.map m.bes m.bc)::.obj m.nm (.map x.es x.c)::(m.K++Z)))) (λx=>x.j<=d.length/\CP KPf x.es x.M/\MapKept.Stamped x.es x.c/\(∀k u,x.M k=some u->u=.agg #[])/\(∀q,m.NM q≠none->x.M q≠none)/\(∀q,x.M q≠none->∃p∈v.S,q=aA p.cells)/\∀p∈d.take x.j,x.M (aA p.cells)≠none) (λx=>d.length-x.j) ⟨0,m.nes,m.nc,m.NM⟩ ⟨Lv _,hN,hNs,hNv,λ_ h=>h,r.news,λp h=>by cases h⟩ ?_
 rintro⟨j,O,c1,M1⟩ ⟨hj,D,i,l,G,f,F⟩
 dsimp only at hj D i l G f F⊢
 refine J2 ?_
 refine JT (λh24=>?_) λh24=>?_
 refine J10 ?_
 obtain⟨p,o⟩:∃p,d[j]?=some p:=Gx
 have y:=hps p (Do o)
 obtain⟨b1,o1,ea,_⟩:=hr _ (T.sub (Ai9 _ _)) j p o
 have htk:d.take (j+1)=d.take j++[p]:=(by rw[AhG,o];rfl)
 refine zV ((AA (b:=b1) (off:=o1) (lo:=j) U Dk U underlying32 BT U W)) U ?_
 refine WL.val (AB (cs:=p.cells) U U DD.h U (λw J=>by
 obtain⟨b2,o2,N,r2⟩:=hr w (by rw[hZ] at J;exact J.sub (.cons _ (.cons _ (.cons _ (.cons _ (Adn (.cons _ (.cons _ (Adn (Ai9 _ _)))))))))) j p o
 rw[ea] at N;cases N;exact r2)) (.none U) U U ?_
 refine zy U FZ.h U U<|λg8 hg8=>J6 ?_
 refine zk CkO U (λw J=>I8 w p y.2)<|zV ((Ae U U U).t (by rw[IR y.1])) U ?_
 refine J3 ?_
 refine WC.AS mixed<|rF 3 [0,1,2,5]<|?_
 refine J5 ?_
 refine rA 1 [3,4] U<|qV (An U U Nh (cellAt (g:=m.g) (cs:=m.cells) U)) U<|?_
 refine J2 ?_
 refine rO 0 [6]<|WL.EH U U U U underlying152 DH (KPf.mk y.1 y.2) (D) (.none U) U<|?_
 intro esU cU hMU hsU ab
 refine J8 ?_
 exact eW ⟨j+1,esU,cU,CR M1 (aA p.cells) (some (.agg #[]))⟩ C7 ⟨C7,hMU,ab i,Xs l,λq z=>X4 (G q z),AaE f (hpS p (Do o)),λq z=>by
 dsimp only at z ⊢
 rw[htk] at z
 rcases LI.1 z with z|z
 .exact X4 (F q z)
 .rw [Es.1 z,DC];intro h;cases h⟩
 refine J8 ?_
 refine WE.LC (P:=prog) (.inr U) results118  ?_
 exact λw' h=>⟨v.put n { m with nes:=O,nc:=c1,NM:=M1 },rfl,⟨.put a ⟨rfl,rfl,rfl,rfl⟩ U U G,E.put a (E.rib n m a) ⟨H.best,D,i,l⟩ ⟨r.rib,r.best,f⟩,λm' Q h2 p hp=>by rw[Sv.HL a] at Q;cases Q;exact F p (by rw[Aco (W)];exact hp)⟩,aa w' O c1 M1 h⟩

def ClInv(d:Nat)(a:List (PfL×AtL))(X:eL):Prop:=∃(b:Option Addr) (c:Nat) (E:eL),X=.row d [.slice b a.length c]::E/\PfV b c (a.map Prod.fst) E
theorem AcN(f:Nat)(R:eL)(y:Nat->Prop)(z:Wd):ZZ 8589934592 190 #[pG f] G1 R y z (ClInv f):=by
 rintro b X G p a K M B ⟨q,c,E,rfl,n⟩ v D C A i
 unfold PfV at n
 rw[Ri] at n
 simp only[AbT] at i
 refine enter func190 U ntmps190 U i<|J2 ?_
 refine zx U U U U U<|λl s=>zx U U U U U<|λm t=>J7 ?_
 refine zB underlying32 BT FZ.h U U<|λe u=>WL.to (L':=E++(.row e p.cells::.row m a.cells::.row l p.cells::(M++(.row f [.slice q b.length c]::R)))) (λw h=>St.AJ (L:=.row e p.cells::.row m a.cells::.row l p.cells::(M++(.row f [.slice q b.length c]::(E++R)))) h)<|WL.AU U U U underlying32 underlying32 BT P6 FZ.h U U n (new:=p.cells) (λ_=>⟨e,0,rfl,λw r=>AL (g:=e) w r⟩) U (BD PfL.one _) W (.none U) U U<|λd k j o x=>J9 ?_
 refine eT1 ?_
 refine λF h=>⟨rfl,.row f [.slice d (b.length+1) k]::j,⟨d,k,j,by rw[AC];rfl,?_⟩,?_⟩
 .unfold PfV
  rw[Ri,AC,Ai7]
  show Vec 2 d (b.length+1) k (AM PfL.cells (b.map Prod.fst++[p])) j
  rw[AX]
  exact o
 .exact St.AN (L:=j++(.row e p.cells::.row m a.cells::.row l p.cells::(M++(.row f [.slice d (b.length+1) k]::R)))) [.row e p.cells,.row m a.cells,.row l p.cells] h
def Rib.bare(b:Rib)(t:Nat)(m:Int):Rib:={ b with t:=t,m:=m,k:=0,T:=.nil }
theorem Agi(j:Nat->Prop)(l C:Wd)(b:Rib)(L:eL)(s:b.T.Ok G1)(v:St j l C (b.AE++L)):
 Cl 108 #[pG b.r] C λe o=>∃(n:List PfL) (f:Option Addr) (c:Nat) (E:eL) (i:Nat) (M:Int),e=.returned (.slice f n.length c)/\PfV f c n E/\n.length<=8589934592/\FP n/\(∀p,BP p=true->U32 p.addr->(p∈n<->b.T.get p.bits≠none))/\St j l o ((b.bare i M).AE++(E++L)):=by
 have w:St j l C (.row b.r [iI b.peer,iI b.own,iI b.most,pG b.t]::(b.T.all b.t b.m b.k++L)):=v
 refine enter func108 U ntmps108 U w<|J9 ?_
 refine zV (AI false U U underlying149 U) U<|J7 ?_
 refine zy U VT U U<|λd K=>J8 ?_
 refine zV (GO U U U) U<|zK CkO U<|?_
 intro q u
 refine(All_c 190 #[pG d] CkO G1 (b.T.all b.t b.m b.k++(.row b.r [iI b.peer,iI b.own,iI b.most,pG b.t]::L)) j l (ClInv d) (AcN d _ j l) b.t b.m b.k b.T [.row d [sN]] [] q s (λe J=>Ha _ J) ⟨none,0,[],rfl,Vec.nil 2⟩ (by
  show St j l q (.row d [sN]::(b.T.all b.t b.m b.k++(.row b.r [iI b.peer,iI b.own,iI b.most,pG b.t]::L)))
  exact u.AJ)).mono ?_
 rintro e o ⟨rfl,X,⟨f,c,E,rfl,H⟩,g⟩
 refine⟨_,.row d [.slice f (b.T.list ⟨0,0⟩).length c]::.row b.r [iI b.peer,iI b.own,iI b.most,pG b.t]::(E++L),rfl,St.AN (L:=.row d [.slice f (b.T.list ⟨0,0⟩).length c]::(E++(b.T.all b.t b.m b.k++(.row b.r [iI b.peer,iI b.own,iI b.most,pG b.t]::L)))) (b.T.all b.t b.m b.k) g,?_⟩
 refine J9 ?_
 refine zK CkO U<|λq u=>(tnew_c q b.most).mono ?_
 rintro e o ⟨i,B,rfl,g⟩
 refine⟨_,_,rfl,u.join g,?_⟩
 refine J12 ?_
 refine eT1 ?_
 refine λo h=>⟨(b.T.list ⟨0,0⟩).map Prod.fst,f,c,E,i,B,by rw[Ri],H,by rw[Ri];have:=b.T.R6 ⟨0,0⟩ C8 C8;simp at this;omega,?_,?_,?_⟩
 .intro p z
  obtain⟨⟨A,a⟩,x,rfl⟩:=Ab8.1 z
  have:=(b.T.KG A a).1 x
  exact⟨this.1,this.2.1⟩
 .intro p F G
  constructor
  .intro z y
   obtain⟨⟨A,a⟩,x,rfl⟩:=Ab8.1 z
   have:=((b.T.KG A a).1 x).2.2
   rw[y] at this;cases this
  .intro y
   cases D:b.T.get p.bits with
   | none=>exact absurd D y
   | some a=>exact Ab8.2 ⟨(p,a),(b.T.KG p a).2 ⟨F,G,D⟩,rfl⟩
 .exact St.AN [.row d [.slice f (b.T.list ⟨0,0⟩).length c]] (L:=.row i [.pointer none,iI B,iI 0]::.row d [.slice f (b.T.list ⟨0,0⟩).length c]::.row b.r [iI b.peer,iI b.own,iI b.most,pG i]::(E++L)) (L':=.row b.r [iI b.peer,iI b.own,iI b.most,pG i]::.row i [.pointer none,iI B,iI 0]::(E++L)) h

theorem Sv.Jf(h:St H G J (A.AE++K)):SvH A J:=SvH.of λe a=>h.holds e (Ha _ a)
theorem We(b:Nat->Prop)(c d:Wd)(v:Sv)(n:Int)(L:eL)(f:v.Ok)(i:¬(0<=n/\n<(v.ms.length:Int)))(a:St b c d (v.AE++L)):
 Cl 50 #[pG v.s,iI n] d λe w'=>e=.returned (iI 1)/\St b c w' (v.AE++L):=by
 refine enter func50 U ntmps50 U a<|J9 ?_
 refine zk CkO U (λw g=>Sc w v n (Sv.Jf g) f.n.2 i)<|J7 ?_
 refine zV (AI true U U underlying148 U) U<|J10 ?_
 exact Bj
structure AcY(v v':Sv)(n:Nat):Prop where
 s:v'.s=v.s
 own:v'.own=v.own
 bl:v'.bl=v.bl
 len:v'.ms.length=v.ms.length
 S:v'.S=v.S
 ok:v'.Ok
 at_:∀(k:Nat) (m:Mb),v.ms[k]?=some m->∃m':Mb,v'.ms[k]?=some m'/\m'.Is m/\m'.there=(if k=n then true else m.there)/\m'.BM=m.BM
structure JoinS where
 seen:Array Nat
 es:Array MapEntry
 c:Nat
 M:Vl->Option Vl
theorem UA(P:Nat->Prop)(Q w1:Wd)(v:Sv)(n:Nat)(m:Mb)(L:eL)(D:v.Ok)(b:v.ms[n]?=some m)(E:St P Q w1 (v.AE++L)):
 Cl 50 #[pG v.s,iI n] w1 λe T=>(m.there=true/\e=.returned (iI 5)/\St P Q T (v.AE++L))\/(m.there=false/\∃v':Sv,e=.returned (iI 0)/\AcY v v' n/\St P Q T (v'.AE++L)):=by
 have hn:=D.n
 have t:=D.maps (Do b)
 obtain⟨hM,C,hMv⟩:=t.best
 obtain⟨hN,ac,ad⟩:=t.news
 have l:=D.ins m (Do b)
 cases y:m.there with
 | true =>
  have N:∀w,St P Q w (v.AE++L)->Row w m.g m.cells:=λw h=>(Sv.Jf h).ms n m b _ Fr
  refine enter func50 U ntmps50 U E<|J9 ?_
  refine zk CkO U (λw z=>Jw w v n m (Sv.Jf z) hn.2 b)<|J7 ?_
  refine zV (AI false U U underlying148 U) U<|J11 ?_
  refine zV (An U U i4o.h ((λw z=>(N w z).cell (v:=.bool true) (by show some (Value.bool m.there)=_;rw[y])))) U ?_
  refine J10 ?_
  refine eT1 ?_
  exact λT h=>.inl ⟨rfl,rfl,h⟩
 | false =>
  obtain⟨Z,hZ⟩:∃Z,Z=v.rest n++L:=⟨_,rfl⟩
  have F:St P Q w1 (.row m.g [iI m.sy,.int .u32 m.id,.bool m.there,pG m.rib.r,.map (some m.bm),.map (some m.nm)]::.row v.s [.slice (aG v.mb) v.ms.length v.mc,pG v.gf]::.row v.mb (v.FL++v.R)::.row v.gf (fiL v.own v.bl)::(m.rib.AE++(.obj m.bm (.map m.bes m.bc)::.obj m.nm (.map m.nes m.nc)::(m.K++Z)))):=by rw[hZ];exact Sv.opened b E
  rw[y] at F
  refine enter func50 U ntmps50 U F<|J9 ?_
  refine zk CkO U (λw z=>Jw w v n m (Sv.T5 b (by rw[hZ, <- y] at z;exact z)) hn.2 b) ?_
  refine J7 ?_
  refine zV (AI false U U underlying148 U) U<|J11 ?_
  refine zV (An U U i4o.h (cellAt (g:=m.g) (v:=.bool false) U)) U<|J19 ?_
  refine zV (An U U OU (cellAt (g:=m.g) (v:=.map (some m.bm)) U)) U<|WL.range (es:=m.bes) (c:=m.bc) U U underlying151 C9 (.none U) U U<|λB hg23=>J3 ?_
  refine oLp (λx:JoinS=>[(23,pG B),(5,pG m.g)]) (λx=>.obj B (.mapIter (some m.bm) m.bc x.seen m.bc)::.row m.g [iI m.sy,.int .u32 m.id,.bool true,pG m.rib.r,.map (some m.bm),.map (some m.nm)]::.row v.s [.slice (aG v.mb) v.ms.length v.mc,pG v.gf]::.row v.mb (v.FL++v.R)::.row v.gf (fiL v.own v.bl)::(m.rib.AE++(.obj m.bm (.map m.bes m.bc)::.obj m.nm (.map x.es x.c)::(m.K++Z)))) (λx=>CP KPf x.es x.M/\MapKept.Stamped x.es x.c/\(∀k u,x.M k=some u->u=.agg #[])/\∀q,x.M q≠none->∃p∈v.S,q=aA p.cells) (λx=>JD m.bes x.seen) ⟨#[],m.nes,m.nc,m.NM⟩ ⟨hN,ac,ad,l.news⟩ ?_
  rintro⟨seen,A,c1,X⟩ ⟨o,i,j,f⟩
  dsimp only at o i j f⊢
  refine J2 ?_
  refine WL.next U U C9 (C) (.none U) U U (λae=>?_) λd a G=>?_
  refine J16 ?_
  refine eT1 ?_
  refine λT h=>.inr ⟨rfl,v.put n { m with there:=true,nes:=A,nc:=c1,NM:=X },rfl,⟨rfl,rfl,rfl,Sv.Ie,rfl,D.put b (D.rib n m b) ⟨t.best,o,i,j⟩ ⟨l.rib,l.best,f⟩,λk x hx=>?_⟩,Sv.closed (m':={ m with there:=true,nes:=A,nc:=c1,NM:=X }) b U (by rw[hZ] at h;exact h.tail)⟩
  by_cases e:k=n
  .subst e;rw[b] at hx;cases hx
   exact⟨_,Sv.HL b,⟨rfl,rfl,rfl,rfl⟩,by rw[IR U],rfl⟩
  .exact ⟨x,by rw[Sv.HM e];exact hx,.refl x,by rw[E9 e],rfl⟩
  refine J1 ?_
  obtain⟨p,H,J,ag⟩:=hM.keys d a
  have af:p∈v.S:=(by
   obtain⟨p',h1,h2⟩:=l.best d.key (by rw[(hM.get _ _).2 ⟨d,a,rfl,rfl⟩];intro e;cases e)
   rw[H] at h2
   rw[EE h2];exact h1)
  refine J9 ?_
  refine zV ((LL U U (es:=m.bes) (g:=m.bm) (c:=m.bc) (since:=m.bc) (seen:=seen) C9 C9 C a).eq (v:=.tuple #[aA p.cells,d.val]) (by rw[H])) U ?_
  refine J1 ?_
  refine zy U FZ.h U U<|λg6 hg6=>J3 ?_
  refine WC.AS mixed<|rF 3 [0,1,2,5]<|?_
  refine J5 ?_
  refine rA 1 [3,4] U<|qV (An U U Nh (cellAt (g:=m.g) (v:=.map (some m.nm)) U)) U<|?_
  refine J2 ?_
  refine rO 0 [6]<|WL.EH U U U U underlying152 DH (KPf.mk J ag) (o) (.none U) U<|?_
  intro aa cU ab hsU O
  refine J3 ?_
  exact eW ⟨seen.push d.born,aa,cU,CR X (aA p.cells) (some (.agg #[]))⟩ (HA a G) ⟨ab,O i,Xs j,AaE f af⟩

structure GH(v v':Sv)(th:Nat->Bool->Bool):Prop where
 s:v'.s=v.s
 len:v'.ms.length=v.ms.length
 S:v'.S=v.S
 ok:v'.Ok
 told:∀q,BP q=true->U32 q.addr->Told v q->Told v' q
 at_:∀(k:Nat) (m:Mb),v.ms[k]?=some m->∃m':Mb,v'.ms[k]?=some m'/\m'.there=th k m.there
theorem GH.trans{a b c:Sv}{f g:Nat->Bool->Bool}(h:GH a b f)(k:GH b c g):GH a c (λn t=>g n (f n t)) :=
 ⟨k.s.trans h.s,k.len.trans h.len,k.S.trans h.S,k.ok,λq d e j=>k.told q d e (h.told q d e j),λn m i=>by
  obtain⟨p,d,e⟩:=h.at_ n m i
  obtain⟨r,l,o⟩:=k.at_ n p d
  exact⟨r,l,by rw[o,e]⟩⟩
theorem GH.refl(h:A.Ok):GH A A (λ_ t=>t):=⟨rfl,rfl,rfl,h,λ_ _ _ h=>h,λ_ m a=>⟨m,a,rfl⟩⟩
theorem Adm.step(h:Adm A C D):GH A C (λ_ t=>t):=⟨h.Hn.s,h.Hn.len,h.Hn.S,h.ok,λq _ _ b=>h.told q (.inr b),λk m a=>let ⟨m',h1,_,h3⟩:=h.Hn.at_ k m a; ⟨m',h1,h3⟩⟩
theorem Np(l:C.ms.length=A.ms.length)(c:∀(k:Nat) (m:Mb),A.ms[k]?=some m->∃b:Mb,C.ms[k]?=some b/\b.sy=m.sy/\b.BM=m.BM){q:PfL}(n:∀(f:Nat) (e:Int),IF C f e q->IF A f e q)(j:Told A q):Told C q:=λk b a h=>by
 have hk:=(Eu.1 a).1
 rw[l] at hk
 obtain⟨o,d,g,i⟩:=c k _ (FS hk)
 rw[a] at d;cases d
 rw[i]
 rw[g] at h
 exact j k _ (FS hk) (n _ _ h)
theorem AcY.step(h:AcY A C B):GH A C (λk t=>if k=B then true else t) :=
 ⟨h.s,h.len,h.S,h.ok,λq _ _ g=>Np h.len (λk m e=>let ⟨m',b,d,_,h4⟩:=h.at_ k m e; ⟨m',b,d.sy,h4⟩) (λn l=>by
  rintro⟨k,m,a,b,d,c⟩
  have hk:=(Eu.1 b).1
  rw[h.len] at hk
  obtain⟨j,f,i,_⟩:=h.at_ k _ (FS hk)
  rw[b] at f;cases f
  rw[h.own,h.bl] at c
  exact⟨k,_,a,FS hk,by rw[<- i.rib];exact d,c⟩) g,λk m e=>let ⟨m',b,_,c,_⟩:=h.at_ k m e; ⟨m',b,c⟩⟩
theorem Te(b:Nat->Prop)(d f:Wd)(v:Sv)(n:Int)(L:eL)(g:v.Ok)(j:¬(0<=n/\n<(v.ms.length:Int)))(a:St b d f (v.AE++L)):
 Cl 51 #[pG v.s,iI n] f λe c=>e=.returned (.tuple #[sN,iI 1])/\St b d c (v.AE++L):=by
 refine enter func51 U ntmps51 U a<|J10 ?_
 refine zk CkO U (λw i=>Sc w v n (Sv.Jf i) g.n.2 j)<|J7 ?_
 refine zV (AI true U U underlying148 U) U<|J11 ?_
 refine eT2 ?_
 exact λc h=>⟨rfl,h⟩
theorem Q4(l:Nat->Prop)(o w1:Wd)(v:Sv)(n:Nat)(m:Mb)(L:eL)(M:v.Ok)(b:v.ms[n]?=some m)(N:St l o w1 (v.AE++L)):
 Cl 51 #[pG v.s,iI n] w1 λe G=>(m.there=false/\e=.returned (.tuple #[sN,iI 4])/\St l o G (v.AE++L))\/(m.there=true/\∃(v':Sv) (j:List PfL) (ad:Option Addr) (c:Nat) (E:eL),e=.returned (.tuple #[.slice ad j.length c,iI 0])/\PfV ad c j E/\j.length<=8589934592/\FP j/\(∀p∈j,p∈v.S)/\GH v v' (λk t=>if k=n then false else t)/\St l o G (v'.AE++(E++L))):=by
 have hn:=M.n
 have hmp:=M.maps (Do b)
 have J:=M.ins m (Do b)
 cases C:m.there with
 | false =>
  have hrow:∀w,St l o w (v.AE++L)->Row w m.g m.cells:=λw h=>(Sv.Jf h).ms n m b _ Fr
  refine enter func51 U ntmps51 U N<|J10 ?_
  refine zk CkO U (λw f=>Jw w v n m (Sv.Jf f) hn.2 b)<|J7 ?_
  refine zV (AI false U U underlying148 U) U<|J11 ?_
  refine zV (An U U i4o.h ((λw f=>(hrow w f).cell (v:=.bool false) (by show some (Value.bool m.there)=_;rw[C])))) U ?_
  skip
  refine J12 ?_
  refine eT2 ?_
  exact λG h=>.inl ⟨rfl,rfl,h⟩
 | true =>
  have y:=M.rib n m b
  have O:St l o w1 (.row m.g [iI m.sy,.int .u32 m.id,.bool m.there,pG m.rib.r,.map (some m.bm),.map (some m.nm)]::.row v.s [.slice (aG v.mb) v.ms.length v.mc,pG v.gf]::.row v.mb (v.FL++v.R)::.row v.gf (fiL v.own v.bl)::(m.rib.AE++(.obj m.bm (.map m.bes m.bc)::.obj m.nm (.map m.nes m.nc)::(m.K++(v.rest n++L))))):=Sv.opened b N
  rw[C] at O
  refine enter func51 U ntmps51 U O<|J10 ?_
  refine zk CkO U (λw f=>Jw w v n m (Sv.T5 b (by rw[<- C] at f;exact f)) hn.2 b) ?_
  refine J7 ?_
  refine zV (AI false U U underlying148 U) U<|J11 ?_
  refine zV (An U U i4o.h (cellAt (g:=m.g) (v:=.bool true) U)) U ?_
  skip
  refine J19 ?_
  refine zV (An U U Nh (cellAt (g:=m.g) (v:=.map (some m.nm)) U)) U<|WL.WB U U underlying152 (.none U) U<|?_
  refine J7 ?_
  refine zV (An U U W3.h (cellAt (g:=m.g) (v:=pG m.rib.r) U)) U<|zK CkO U<|?_
  intro w2 f
  have H:St l o w2 (m.rib.AE++(.row m.g [iI m.sy,.int .u32 m.id,.bool false,pG m.rib.r,.map (some m.bm),.map (some m.nm)]::.row v.s [.slice (aG v.mb) v.ms.length v.mc,pG v.gf]::.row v.mb (v.FL++v.R)::.row v.gf (fiL v.own v.bl)::.obj m.bm (.map m.bes m.bc)::.obj m.nm (.map #[] m.nc)::(m.K++(v.rest n++L)))):=St.AJ (L:=.row m.g [iI m.sy,.int .u32 m.id,.bool false,pG m.rib.r,.map (some m.bm),.map (some m.nm)]::.row v.s [.slice (aG v.mb) v.ms.length v.mc,pG v.gf]::.row v.mb (v.FL++v.R)::.row v.gf (fiL v.own v.bl)::(m.rib.AE++(.obj m.bm (.map m.bes m.bc)::.obj m.nm (.map #[] m.nc)::(m.K++(v.rest n++L))))) f
  refine(Agi l o w2 m.rib _ y.1 H).mono ?_
  rintro e G ⟨j,Q,hc,Eh,t',m',rfl,P,Z,d,hhm,B⟩
  refine⟨_,(v.put n { m with there:=false,nes:=#[],NM:=λ_=>none,rib:=m.rib.bare t' m' }).AE++(Eh++L),rfl,Sv.closed b U (by
   have z:St l o G (.row m.g [iI m.sy,.int .u32 m.id,.bool false,pG m.rib.r,.map (some m.bm),.map (some m.nm)]::.row v.s [.slice (aG v.mb) v.ms.length v.mc,pG v.gf]::.row v.mb (v.FL++v.R)::.row v.gf (fiL v.own v.bl)::((m.rib.bare t' m').AE++(.obj m.bm (.map m.bes m.bc)::.obj m.nm (.map #[] m.nc)::(m.K++(v.rest n++(Eh++L)))))):=B.AJ
   exact z),?_⟩
  obtain⟨v1,D⟩:∃v1,v1=v.put n { m with there:=false,nes:=#[],NM:=λ_=>none,rib:=m.rib.bare t' m' }:=⟨_,rfl⟩
  have X:∀p∈j,p∈v.S:=λp hp=>J.rib p (d p hp).1 (d p hp).2 ((hhm p (d p hp).1 (d p hp).2).1 hp)
  have A:v1.Ok:=(by rw[D];exact M.put b ⟨trivial,y.2⟩ ⟨hmp.best,CP.empty _,MapKept.stamped_empty _,λk u h=>by cases h⟩ ⟨λp _ _ h=>absurd (Tri.OP _) h,J.best,λq h=>absurd U h⟩)
  have i:GH v v1 (λk t=>if k=n then false else t):=(by
   rw[D] at A ⊢
   refine⟨rfl,Sv.Ie,rfl,A,λq _ _ hq=>Np Sv.Ie (λk x F=>?_) (λto sy=>?_) hq,λk x F=>?_⟩
   .by_cases e:k=n
    .subst e;rw[b] at F;cases F
     exact⟨_,Sv.HL b,rfl,rfl⟩
    .exact ⟨x,by rw[Sv.HM e];exact F,rfl,rfl⟩
   .rintro ⟨k,x,a,H,z,h3⟩
    rcases Sv.LA H with⟨rfl,rfl⟩|H
    .have z:Tri.get .nil q.bits=some a:=z
     rw[Tri.OP] at z;cases z
    .exact ⟨k,x,a,H,z,h3⟩
   .by_cases e:k=n
    .subst e;rw[b] at F;cases F
     exact⟨_,Sv.HL b,by rw[IR U]⟩
    .exact ⟨x,by rw[Sv.HM e];exact F,by rw[E9 e]⟩)
  rw[<- D]
  refine J7 ?_
  refine zK CkO U<|λw2 f=>?_
  have T:=Yu l o w2 v1 Q hc j (Eh++L) A d (by rw[i.S];exact X) Z (λw f=>Ct PfL.BK C8 (CY P λe he=>f.holds e (Ha _ he))) f
  rw[i.s] at T
  refine T.mono ?_
  rintro e G ⟨v2,rfl,ht2,B⟩
  refine⟨_,_,rfl,B,?_⟩
  refine J10 ?_
  refine eT2 ?_
  exact λG h=>.inr ⟨rfl,v2,j,Q,hc,Eh,rfl,P,Z,d,X,i.trans ht2.step,h⟩

structure RtV(peer:Int)(ad:Option Addr)(c:Nat)(rs:List RtL)(E K:eL):Prop where
 vec:Vec 13 ad rs.length c (AM RtL.cells rs) E
 ok:∀r∈rs,G1 K r.a/\r.peer=peer
def RtL.key(r:RtL):PfL×Kf:=(r.net,r.a.say)
def AlInv(a:Int)(f:Nat)(b:List (PfL×AtL))(X:eL):Prop:=∃(d:List RtL) (e:Option Addr) (c:Nat) (E K:eL),X=.row f [.slice e d.length c]::(E++K)/\RtV a e c d E K/\d.map RtL.key=b.map λx=>(x.1,x.2.say)
def Rib.rc(b:Rib):vL:=[iI b.peer,iI b.own,iI b.most,pG b.t]
theorem All1_c(b:Rib)(ga gb:Nat)(L:eL)(H:Nat->Prop)(J:Wd):ZZ 8589934592 122 #[pG ga,pG gb] G1 (b.T.all b.t b.m b.k++(.row b.r b.rc::.row gb [pG b.r]::L)) H J (AlInv b.peer ga):=by
 rintro z X Q p a N M O ⟨rs,l,c,E,K,rfl,x,i⟩ G P hP B u
 have C:rs.length=z.length:=by have:=If List.length i;rwa [Ri,Ri] at this
 have s:=x.vec
 simp only[AbT,Qs] at u
 refine enter func122 U ntmps122 U u<|J2 ?_
 refine zx U U U U U<|λg4 D=>zx U U U U U<|λg5 F=>J4 ?_
 refine WC.held ([.row g5 a.cells,.row g4 p.cells,.row b.r b.rc,.row gb [pG b.r]]) mixed<|WRH.first (g:=6) [1,2,3,4,5,6] C6 C6 kp<|J3 ?_
 refine zj (An U U i3o.h ((cellAt (g:=b.r) (cs:=b.rc) U))) U<|J2 ?_
 refine WH.nil<|WRH.each (g:=5) [0,7] C6 C8<|⟨?_,?_⟩
 refine J1 ?_
 refine WL.BL kp<|WRH.one (g:=4) 7 C6<|zK CkO U<|λv j=>(I2 v a (hP.1 v λe he=>j.holds e (by
  have:=B e he
  simp only[Rl,LI] at this ⊢
  rcases this with h|h|h|h<;>simp[h])) hP.2).mono ?_
 rintro e y ⟨a',E',K',rfl,hsay,A,hAK,q⟩
 refine⟨_,.row g5 a.cells::.row g4 p.cells::(M++(.row ga [.slice l rs.length c]::(E++(K++(b.T.all b.t b.m b.k++(.row b.r b.rc::.row gb [pG b.r]::(L++(E'++K')))))))),rfl,(j.join q).AJ,?_⟩
 refine WL.BL kp<|WRH.first (g:=3) [8] C6 C6 kp<|J1 ?_
 refine WH.nil<|WRH.one (g:=2) 9 C6<|zB underlying170 Ho GK.h U U<|λg16 n=>WL.to (L':=E++(.row g16 (RtL.cells ⟨b.peer,p,a'⟩)::.row g5 a.cells::.row g4 p.cells::(M++(.row ga [.slice l rs.length c]::(K++(b.T.all b.t b.m b.k++(.row b.r b.rc::.row gb [pG b.r]::(L++(E'++K'))))))))) (λw h=>St.AJ (L:=.row g16 (RtL.cells ⟨b.peer,p,a'⟩)::.row g5 a.cells::.row g4 p.cells::(M++(.row ga [.slice l rs.length c]::(E++(K++(b.T.all b.t b.m b.k++(.row b.r b.rc::.row gb [pG b.r]::(L++(E'++K')))))))))  h)<|WL.BL kp<|?_
 refine WRH.one (g:=1) 10 C6<|WL.AU U U U underlying170 underlying170 Ho UK GK.h U U s (new:=RtL.cells ⟨b.peer,p,a'⟩) (λ_=>⟨g16,0,rfl,λw j=>AL (g:=g16) w j⟩) U (BD RtL.one _) W (.none U) U U<|λad17 c17 E17 d o=>WL.BL kp<|WRH.one (g:=0) 11 C6<|J1 ?_
 refine WL.BL kp<|WRH.done C6<|J7 ?_
 refine eT1 ?_
 refine λy h=>⟨rfl,.row ga [.slice ad17 (rs++[(⟨b.peer,p,a'⟩:RtL)]).length c17]::(E17++(K++(E'++K'))),⟨rs++[⟨b.peer,p,a'⟩],ad17,c17,E17,K++(E'++K'),rfl,⟨?_,?_⟩,?_⟩,?_⟩
 .rw [AX,AC];exact d
 .intro r f
  rcases LI.1 f with f|f
  .have:=x.ok r f
   exact Bq
  .rw [Es.1 f]
   exact Bo
 .rw [Ai7,Ai7,i]
  show _++[(p,a'.say)]=_++[(p,a.say)]
  rw[hsay]
 .rw [AC,AbJ]
  exact As
 refine zK CkO U<|λv j=>(I2 v a (hP.1 v λe he=>j.holds e (by
  have:=B e he
  simp only[Rl,LI] at this ⊢
  rcases this with h|h|h|h<;>simp[h])) hP.2).mono ?_
 rintro e y ⟨a',E',K',rfl,hsay,A,hAK,q⟩
 refine⟨_,.row g5 a.cells::.row g4 p.cells::(M++(.row ga [.slice l rs.length c]::(E++(K++(b.T.all b.t b.m b.k++(.row b.r b.rc::.row gb [pG b.r]::(L++(E'++K')))))))),rfl,(j.join q).AJ,?_⟩
 refine WL.BL kp<|WRH.first (g:=4) [8] C6 C6 kp<|J1 ?_
 refine WH.nil<|WRH.each (g:=3) [0,9] C6 C8<|⟨?_,?_⟩
 refine J1 ?_
 refine WL.BL kp<|WRH.one (g:=2) 9 C6<|zB underlying170 Ho GK.h U U<|λg16 n=>WL.to (L':=E++(.row g16 (RtL.cells ⟨b.peer,p,a'⟩)::.row g5 a.cells::.row g4 p.cells::(M++(.row ga [.slice l rs.length c]::(K++(b.T.all b.t b.m b.k++(.row b.r b.rc::.row gb [pG b.r]::(L++(E'++K'))))))))) (λw h=>St.AJ (L:=.row g16 (RtL.cells ⟨b.peer,p,a'⟩)::.row g5 a.cells::.row g4 p.cells::(M++(.row ga [.slice l rs.length c]::(E++(K++(b.T.all b.t b.m b.k++(.row b.r b.rc::.row gb [pG b.r]::(L++(E'++K')))))))))  h)<|WL.BL kp<|?_
 refine WRH.one (g:=1) 10 C6<|WL.AU U U U underlying170 underlying170 Ho UK GK.h U U s (new:=RtL.cells ⟨b.peer,p,a'⟩) (λ_=>⟨g16,0,rfl,λw j=>AL (g:=g16) w j⟩) U (BD RtL.one _) W (.none U) U U<|λad17 c17 E17 d o=>WL.BL kp<|WRH.one (g:=0) 11 C6<|J1 ?_
 refine WL.BL kp<|WRH.done C6<|J7 ?_
 refine eT1 ?_
 refine λy h=>⟨rfl,.row ga [.slice ad17 (rs++[(⟨b.peer,p,a'⟩:RtL)]).length c17]::(E17++(K++(E'++K'))),⟨rs++[⟨b.peer,p,a'⟩],ad17,c17,E17,K++(E'++K'),rfl,⟨?_,?_⟩,?_⟩,?_⟩
 .rw [AX,AC];exact d
 .intro r f
  rcases LI.1 f with f|f
  .have:=x.ok r f
   exact Bq
  .rw [Es.1 f]
   exact Bo
 .rw [Ai7,Ai7,i]
  show _++[(p,a'.say)]=_++[(p,a.say)]
  rw[hsay]
 .rw [AC,AbJ]
  exact As
 refine zB underlying170 Ho GK.h U U<|λg16 n=>WL.to (L':=E++(.row g16 (RtL.cells ⟨b.peer,p,a'⟩)::.row g5 a.cells::.row g4 p.cells::(M++(.row ga [.slice l rs.length c]::(K++(b.T.all b.t b.m b.k++(.row b.r b.rc::.row gb [pG b.r]::(L++(E'++K'))))))))) (λw h=>St.AJ (L:=.row g16 (RtL.cells ⟨b.peer,p,a'⟩)::.row g5 a.cells::.row g4 p.cells::(M++(.row ga [.slice l rs.length c]::(E++(K++(b.T.all b.t b.m b.k++(.row b.r b.rc::.row gb [pG b.r]::(L++(E'++K')))))))))  h)<|WL.BL kp<|?_
 refine WRH.one (g:=2) 0 C6<|J1 ?_
 refine WL.BL kp<|WRH.one (g:=1) 10 C6<|WL.AU U U U underlying170 underlying170 Ho UK GK.h U U s (new:=RtL.cells ⟨b.peer,p,a'⟩) (λ_=>⟨g16,0,rfl,λw j=>AL (g:=g16) w j⟩) U (BD RtL.one _) W (.none U) U U<|λad17 c17 E17 d o=>WL.BL kp<|WRH.one (g:=0) 11 C6<|J1 ?_
 refine WL.BL kp<|WRH.done C6<|J7 ?_
 refine eT1 ?_
 refine λy h=>⟨rfl,.row ga [.slice ad17 (rs++[(⟨b.peer,p,a'⟩:RtL)]).length c17]::(E17++(K++(E'++K'))),⟨rs++[⟨b.peer,p,a'⟩],ad17,c17,E17,K++(E'++K'),rfl,⟨?_,?_⟩,?_⟩,?_⟩
 .rw [AX,AC];exact d
 .intro r f
  rcases LI.1 f with f|f
  .have:=x.ok r f
   exact Bq
  .rw [Es.1 f]
   exact Bo
 .rw [Ai7,Ai7,i]
  show _++[(p,a'.say)]=_++[(p,a.say)]
  rw[hsay]
 .rw [AC,AbJ]
  exact As
def Wa(b:Rib)(a:List RtL):Prop:=a.map RtL.key=(b.T.list ⟨0,0⟩).map λx=>(x.1,x.2.say)
theorem Adf(l:Nat->Prop)(n x:Wd)(b:Rib)(L:eL)(q:b.T.Ok G1)(u:St l n x (b.AE++L)):
 Cl 62 #[pG b.r] x λe w=>∃(a:List RtL) (j:Option Addr) (c:Nat) (E K:eL),e=.returned (.slice j a.length c)/\RtV b.peer j c a E K/\Wa b a/\a.length<=8589934592/\St l n w (E++(K++(b.AE++L))):=by
 have v:St l n x (.row b.r b.rc::(b.T.all b.t b.m b.k++L)):=u
 refine enter func62 U ntmps62 U v<|J2 ?_
 refine zx U U U U U<|λi C=>J7 ?_
 refine zV (AI false U U underlying149 U) U<|J7 ?_
 refine zy U Aga U U<|λd D=>J7 ?_
 refine zV (An U U Qa.h ((cellAt (g:=b.r) (cs:=b.rc) U))) U<|zV (GO U U U) U<|zK CkO U<|?_
 intro y z
 refine(All_c 122 #[pG d,pG i] CkO G1 (b.T.all b.t b.m b.k++(.row b.r b.rc::.row i [pG b.r]::L)) l n (AlInv b.peer d) (All1_c b d i L l n) b.t b.m b.k b.T [.row d [sN]] [] y q (λe B=>Ha _ B) ⟨[],none,0,[],[],rfl,⟨Vec.nil 13,λr F=>by cases F⟩,rfl⟩ (by
  show St l n y (.row d [sN]::(b.T.all b.t b.m b.k++(.row b.r b.rc::.row i [pG b.r]::L)))
  exact St.AJ (L:=.row d [sN]::.row i [pG b.r]::.row b.r b.rc::(b.T.all b.t b.m b.k++L)) z)).mono ?_
 rintro e w ⟨rfl,X,⟨a,j,c,E,K,rfl,A,f⟩,s⟩
 have o:a.length=(b.T.list ⟨0,0⟩).length:=(by have:=If List.length f;rwa [Ri,Ri] at this)
 refine⟨_,.row d [.slice j a.length c]::(E++(K++(.row b.r b.rc::(b.T.all b.t b.m b.k++L)))),rfl,St.AN (L:=.row d [.slice j a.length c]::(E++K)++(b.T.all b.t b.m b.k++(.row b.r b.rc::.row i [pG b.r]::L))) [.row i [pG b.r]] s,?_⟩
 refine J9 ?_
 refine eT1 ?_
 exact λw h=>⟨a,j,c,E,K,rfl,A,f,by rw[o];have:=b.T.R6 ⟨0,0⟩ C8 C8;simp at this;omega,h.tail⟩
theorem Wa.mem{b:Rib}{d:List RtL}(h:Wa b d){r:RtL}(j:r∈d):BP r.net=true/\U32 r.net.addr/\b.T.get r.net.bits≠none:=by
 have g:r.key∈(b.T.list ⟨0,0⟩).map λx=>(x.1,x.2.say):=by rw[<- h];exact Ab5 j
 obtain⟨⟨p,a⟩,i,e⟩:=Ab8.1 g
 have c:=(b.T.KG p a).1 i
 have f:p=r.net:=If Prod.fst e
 subst f
 exact⟨c.1,c.2.1,by rw[c.2.2];intro e;cases e⟩
theorem Wa.all{b:Rib}{c:List RtL}(h:Wa b c){p:PfL}(f:BP p=true)(g:U32 p.addr)(j:b.T.get p.bits≠none):∃r∈c,r.net=p:=by
 cases d:b.T.get p.bits with
 | none=>exact absurd d j
 | some a =>
  have i:(p,a.say)∈c.map RtL.key:=by rw[h];exact Ab8.2 ⟨(p,a),(b.T.KG p a).2 ⟨f,g,d⟩,rfl⟩
  obtain⟨r,k,e⟩:=Ab8.1 i
  exact⟨r,k,If Prod.fst e⟩

def Tri.But(T a:Tri)(b c:List PfL):Prop:=∀p,BP p=true->U32 p.addr->p ∉ b->p ∉ c->a.get p.bits=T.get p.bits
theorem AgN{q:PfL}(c:BP E=true)(a:U32 E.addr)(d:BP q=true)(b:U32 q.addr)(h:E≠q):E.bits≠q.bits:=λe=>h (Wv a c b d e)
theorem Tri.But.drop{b c:Tri}{a:List PfL}{q:PfL}(h:M.But b D a)(hq:BP q=true/\U32 q.addr)(hm:q∈D\/q∈a)(hd:Kg b c q.bits):M.But c D a:=λp h1 h2 h3 h4=>by
 exact By
theorem Tri.But.put{c d:Tri}{b:List PfL}{q:PfL}{a:AtL}(h:M.But c D b)(hq:BP q=true/\U32 q.addr)(hm:q∈D\/q∈b)(hd:PutR c d q.bits a K):M.But d D b:=λp h1 h2 h3 h4=>by
 exact By
def RUpP(b:Rib)(m:MsL)(g:Nat->Prop)(i:Wd)(L:eL)(e:Ending)(h:Wd):Prop :=
 (∃r:Int,r≠0/\e=.returned (.tuple #[sN,iI r])/\St g i h (b.AE++L)) \/
 ∃(d:Tri) (j:Int) (a:List PfL) (f:Option Addr) (c:Nat) (E:eL),e=.returned (.tuple #[.slice f a.length c,iI 0])/\PfV f c a E/\a.length<=m.gone.length+m.nets.length/\FP a/\(∀p∈a,p∈m.gone\/p∈m.nets)/\FP m.gone/\FP m.nets/\d.Ok G1/\b.T.But d m.gone m.nets/\St g i h (({ b with k:=j,T:=d }:Rib).AE++(E++L))
theorem Afk{s t:PsL}(c:Row G B [.slice s.ad s.val.length s.cap,.slice t.ad t.val.length t.cap]):BH G (aG B) 1 PsL.cells [s,t]:=λi x b=>by
 refine⟨B,0,rfl,λj v a=>?_⟩
 match i,b with
 | 0,b =>
  cases b
  match j,a with
  | 0,a=>cases a;exact c.cell rfl
  | j+1,a=>cases a
 | 1,b =>
  cases b
  match j,a with
  | 0,a=>cases a;exact c.cell rfl
  | j+1,a=>cases a
 | i+2,b=>cases b
def PY(m:MsL)(a:List PfL):Prop:=FP a/\∀p∈a,p∈m.gone\/p∈m.nets
theorem PY.nil(m:MsL):PY m []:=⟨λp h=>Da,λp h=>Da⟩
theorem PY.snoc{m:MsL}(h:PY m D)(c:BP E=true/\U32 E.addr)(b:E∈m.gone\/E∈m.nets):PY m (D++[E]):=⟨λp a=>by
 rcases LI.1 a with a|a
 .exact h.1 p a
 .rw [Es.1 a];exact c,λp a=>by
 rcases LI.1 a with a|a
 .exact h.2 p a
 .rw [Es.1 a];exact b⟩
structure UpC where
 ns:List PfL
 ad:Option Addr
 c:Nat
 E:eL
structure UpA where
 j:Nat
 cnt:Int
structure UpB where
 j:Nat
 T:Tri
 k:Int
 ts:List PfL
 ad:Option Addr
 c:Nat
 E:eL
theorem AbN(N:Nat->Prop)(O w1:Wd)(b:Rib)(m:MsL)(L:eL)(hOk:b.T.Ok G1)(hm:Stb N O λw=>m.At w)(hz:m.atr.Zs)(hU:(∀p∈m.gone,U32 p.addr)/\∀p∈m.nets,U32 p.addr)(hn:m.gone.length<=1000/\m.nets.length<=1000)(hS0:St N O w1 (b.AE++L)):
 Cl 110 #[pG b.r,aA m.cells] w1 (RUpP b m N O L):=by
 have hS1:St N O w1 (.row b.r b.rc::(b.T.all b.t b.m b.k++L)):=hS0
 refine enter func110 U ntmps110 U hS1<|J2 ?_
 refine zx U U U U U<|λg3 hg3=>J8 ?_
 refine zV (AI false U U underlying149 U) U<|J2 ?_
 refine zS (An U U i3o.h ((cellAt (v:=iI m.kind) U))) U<|JT (λh28=>?_) (λh28=>?_)
 refine J12 ?_
 refine eT2 ?_
 exact λA h=>.inl ⟨1,C8,rfl,h.tail⟩
 refine J10 ?_
 refine zK CkO U<|λf hS=>(VX f m (hm.st hS) hU ⟨W,W⟩).mono ?_
 rintro e A ⟨r,rfl,R,hF⟩
 refine⟨_,_,rfl,hS.ext hF,?_⟩
 refine J6 ?_
 refine JT (λz=>?_) λz=>?_
 refine J12 ?_
 refine eT2 ?_
 exact λA h=>.inl ⟨_,z,rfl,h.tail⟩
 refine J8 ?_
 refine zV (An U U RP.h ((cellAt (v:=.slice m.gad m.gone.length m.gc) U))) U<|J1 ?_
 refine zV (An U U RP.h ((cellAt (v:=.slice m.nad m.nets.length m.nc) U))) U<|zB underlying399 Qm VT U U<|?_
 intro Q hg39
 refine zK CkO U<|λf hS=>?_
 have hmw:=hm.st hS
 refine(Yj f Q 0 2 [⟨m.gad,m.gc,m.gone⟩,⟨m.nad,m.nc,m.nets⟩] (Afk (hS.row (g:=Q))) (λs hs=>by
  rcases Rl.1 hs with rfl|hs
  .exact Jz PfL.BK C8 hmw.gone
  .rw [Es.1 hs];exact Jz PfL.BK C8 hmw.nets) (by show(m.gone++(m.nets++[])).length<=_;simp;omega) (show 2<=1000 by decide)).mono ?_
 rintro e A ⟨i,u,E40,rfl,aa,d⟩
 refine⟨_,_,rfl,hS.join d,?_⟩
 refine zK CkO U<|λf hS=>?_
 have e1:JG [⟨m.gad,m.gc,m.gone⟩,⟨m.nad,m.nc,m.nets⟩]=m.gone++m.nets:=(by show m.gone++(m.nets++[])=_;rw[Acx])
 rw[e1] at aa ⊢
 refine(Wf N O f _ E40 i u (m.gone++m.nets) aa hS Dz).mono ?_
 rintro e A ⟨said,n,rfl,hVs,hsm,hsl,d⟩
 rw[AC] at hsl
 refine⟨_,.row g3 m.cells::.row b.r b.rc::(b.T.all b.t b.m b.k++(n++L)),rfl,St.AN (L:=n++(.row Q [.slice m.gad m.gone.length m.gc,.slice m.nad m.nets.length m.nc]::.row g3 m.cells::.row b.r b.rc::(b.T.all b.t b.m b.k++L))) [.row Q [.slice m.gad m.gone.length m.gc,.slice m.nad m.nets.length m.nc]] d,?_⟩
 refine J8 ?_
 refine WC.cut (λx:UpC=>[(0,pG b.r),(3,pG g3),(7,.slice i said.length u),(8,.slice x.ad x.ns.length x.c)]) (λx=>.row g3 m.cells::.row b.r b.rc::(b.T.all b.t b.m b.k++(n++(x.E++L)))) (λx=>PfV x.ad x.c x.ns x.E/\(∀p∈x.ns,p∈m.nets)/\x.ns.length<=m.nets.length) ?_ ?_
 refine J1 ?_
 refine cQ mixed<|J1 ?_
 refine qV (AB (cs:=m.atr.cells) U U JZ.h U (AT (m:=10) U)) U<|J3 ?_
 refine qV (An U U i3o.h ((cellAt (g:=b.r) (cs:=b.rc) U))) U<|qC CkO U (λw hS=>V9 w m.atr b.own ((hm.st hS).at_) hz)<|?_
 generalize hb48:NA m.atr b.own=b48
 cases b48
 refine J7 ?_
 refine zK CkO U<|λf hS=>(AcQ f m.nad m.nets.length m.nc (AM PfL.cells m.nets) (AP PfL.BK _) (Jz PfL.BK C8 (hm.st hS).nets) (Gm PfL.one _) W).mono ?_
 rintro e A ⟨S,c52,E52,rfl,hV52,d⟩
 refine⟨_,_,rfl,hS.join d,?_⟩
 refine zK CkO U<|λf hS=>(Wf N O f _ E52 S c52 m.nets hV52 hS W).mono ?_
 rintro e A ⟨l,En,rfl,F,K,ai,d⟩
 refine⟨_,_,rfl,d,?_⟩
 refine J2 ?_
 exact WE.to (L':=.row g3 m.cells::.row b.r b.rc::(b.T.all b.t b.m b.k++(n++(En++L)))) (λw h=>St.AJ (L:=En++(.row g3 m.cells::.row b.r b.rc::(b.T.all b.t b.m b.k++(n++L)))) h)<|eM ⟨l,S,c52,En⟩ ⟨F,λp hp=>(K p).1 hp,ai⟩
 refine J5 ?_
 exact eM ⟨[],none,0,[]⟩ ⟨Vec.nil 2,λp hp=>(by cases hp),Lv _⟩
 rintro⟨l,M,nc,En⟩ ⟨F,K,ai⟩
 dsimp only at F K ai⊢
 have hso:FP said:=λp hp=>(by
  have C:=(hsm p).1 hp
  have X:=R (Acp.1 z)
  rcases LI.1 C with C|C
  .exact X.1 p C
  .exact X.2 p C)
 have hno:FP l:=λp hp=>(R (Acp.1 z)).2 p (K p hp)
 refine J5 ?_
 refine zV (An U U Qa.h ((cellAt (g:=b.r) (cs:=b.rc) U))) U<|zk CkO U (λw hS=>Len_c w b.t b.m b.k b.T λe he=>hS.holds e (EQ _ (EQ _ (Ha _ he))))<|?_
 refine J2 ?_
 refine zV (EW U U U (rfl)) U<|J12 ?_
 refine oLp (λx:UpA=>[(64,iI x.j),(63,iI said.length),(62,.slice i said.length u),(9,iI x.cnt),(0,pG b.r),(3,pG g3),(7,.slice i said.length u),(8,.slice M l.length nc)]) (λ_=>.row g3 m.cells::.row b.r b.rc::(b.T.all b.t b.m b.k++(n++(En++L)))) (λx=>x.j<=said.length) (λx=>said.length-x.j) ⟨0,IntKind.i64.wrap (b.k+l.length)⟩ (Lv _) ?_
 rintro⟨k,cnt⟩ hk
 dsimp only at hk⊢
 refine J2 ?_
 refine JT (λh65=>?_) λh65=>?_
 refine J10 ?_
 obtain⟨x,hx⟩:∃x,said[k]?=some x:=Gx
 have hxo:=hso x (Do hx)
 have J:said≠[]:=F2
 obtain⟨gs,Rs,rfl,rfl,hcl,ac⟩:=hVs.split J
 simp only[AbT,Aec]
 refine zV (AA (lo:=k) U U U underlying32 BT W W) U<|zV (AB (cs:=x.cells) U U DD.h U (AT (m:=2) Fc)) U ?_
 refine zy U FZ.h U U<|λg11 hg11=>J4 ?_
 refine WC.AS mixed<|rF 9 [0,1,2]<|?_
 refine J4 ?_
 refine WR.mix (g:=2) 9 [3,4,5,6,7] [8] U HR U U U C6 C6<|zm (An U U Qa.h ((cellAt (g:=b.r) (cs:=b.rc) U))) U<|zm (AB U U DD.h U AL) U<|?_
 refine WM.call _ U U CkO (.none U) U U (λw hS=>(UC w b.t b.m b.k b.T x hxo.2 hxo.1 λe he=>hS.holds e Dd)) ?_
 refine zm (DG U U) U<|zm (CB U U U) U<|WM.nil<|?_
 refine J1 ?_
 refine WP.NU<|λg12 hg12=>rO 1 [10]<|J2 ?_
 refine rF 0 [11]<|J7 ?_
 generalize hb77:(b.T.get x.bits).isSome=b77
 cases b77
 refine J10 ?_
 exact A9
 refine J5 ?_
 refine zV (GD U U U (rfl)) U<|J8 ?_
 exact A9
 refine J16 ?_
 refine zV (An U U i3o.h ((cellAt (g:=b.r) (cs:=b.rc) U))) U<|JT (λh86=>?_) (λh86=>?_)
 refine J11 ?_
 refine eT2 ?_
 exact λA h=>.inl ⟨32,C8,rfl,St.AN (L:=.row g3 m.cells::.row b.r b.rc::(b.T.all b.t b.m b.k++(n++(En++L)))) (L':=.row b.r b.rc::(b.T.all b.t b.m b.k++L)) (.row g3 m.cells::(n++En)) h⟩
 refine J19 ?_
 refine oLp (λx:UpB=>[(89,iI x.j),(88,iI said.length),(87,.slice i said.length u),(14,.slice x.ad x.ts.length x.c),(0,pG b.r),(3,pG g3),(8,.slice M l.length nc)]) (λx=>.row g3 m.cells::.row b.r b.rc::(x.T.all b.t b.m x.k++(n++(En++(x.E++L))))) (λx=>x.j<=said.length/\PfV x.ad x.c x.ts x.E/\x.ts.length<=x.j/\PY m x.ts/\x.T.Ok G1/\b.T.But x.T m.gone m.nets) (λx=>said.length-x.j) ⟨0,b.T,b.k,[],none,0,[]⟩ ⟨Lv _,Vec.nil 2,M2 _,PY.nil m,hOk,λ_ _ _ _ _=>rfl⟩ ?_
 rintro⟨j,T1,k1,ts,tad,tc,Et⟩ ⟨hj,hVt,htl,hto,q,H⟩
 dsimp only at hj hVt htl hto q H⊢
 refine J2 ?_
 refine JT (λh90=>?_) λh90=>?_
 refine J10 ?_
 obtain⟨x,hx⟩:∃x,said[j]?=some x:=Gx
 have hxo:=hso x (Do hx)
 have J:said≠[]:=F2
 obtain⟨gs,Rs,rfl,rfl,hcl,ac⟩:=hVs.split J
 simp only[AbT,Aec]
 refine zV (AA (lo:=j) U U U underlying32 BT W W) U<|zV (AB (cs:=x.cells) U U DD.h U (AT (m:=2) Fc)) U ?_
 refine zy U FZ.h U U<|λg16 hg16=>J4 ?_
 refine WC.AS mixed<|rF 9 [0,1,2]<|?_
 refine J4 ?_
 refine WR.mix (g:=2) 9 [3,4,5,6,7] [8] U HR U U U C6 C6<|zm (An U U Qa.h ((cellAt (g:=b.r) (cs:=b.rc) U))) U<|zm (AB U U DD.h U AL) U<|?_
 refine WM.call _ U U CkO (.none U) U U (λw hS=>(UC w b.t b.m k1 T1 x hxo.2 hxo.1 λe he=>hS.holds e Dd)) ?_
 refine zm (DG U U) U<|zm (CB U U U) U<|WM.nil<|?_
 refine J1 ?_
 refine WP.NU<|λB hg17=>rO 1 [10]<|J2 ?_
 refine rF 0 [11]<|J8 ?_
 refine zK CkO U<|λf hS=>(Abz f M nc l x (CY F λe he=>hS.holds e Dd) W).mono ?_
 rintro e A ⟨r105,bb,rfl,hF⟩
 refine⟨_,_,rfl,hS.ext hF,?_⟩
 refine J7 ?_
 refine WC.cut (λx:UpC=>[(14,.slice x.ad x.ns.length x.c),(16,pG g16),(89,iI j),(88,iI said.length),(87,.slice (aG gs) said.length u),(0,pG b.r),(3,pG g3),(8,.slice M l.length nc)]) (λy=>.row g16 x.cells::.row g3 m.cells::.row b.r b.rc::(T1.all b.t b.m k1++(.row gs (AM PfL.cells said++Rs)::(En++(y.E++L))))) (λy=>PfV y.ad y.c y.ns y.E/\y.ns.length<=j+1/\PY m y.ns) ?_ ?_
 refine J4 ?_
 refine zV (ZJ U U U underlying4) U ?_
 generalize hb110:decide ((T1.get x.bits).isSome≠bb)=b110
 cases b110
 refine J2 ?_
 generalize G:(T1.get x.bits).isSome=b112
 cases b112
 refine J12 ?_
 exact Ci
 refine J1 ?_
 obtain⟨a,hga⟩:∃a,T1.get x.bits=some a:=(by
  cases hc:T1.get x.bits with
  | none=>rw[hc] at G;cases G
  | some a=>exact⟨a,rfl⟩)
 obtain⟨Ka,hKa,hKm⟩:=T1.got q hga
 rw[hga]
 refine zS (AB (cs:=a.cells) U U JZ.h U λw hS=>AL (g:=B) w hS) U<|J1 ?_
 refine zS (AB (cs:=m.atr.cells) U U JZ.h U (AT (m:=10) U)) U<|zk CkO U (λw hS=>ZU w a m.atr (hKa.1 w λe he=>hS.holds e (by have:=hKm e he;have X:e∈T1.all b.t b.m k1:=EQ _ this;simp[X])) ((hm.st hS).at_) hKa.2) ?_
 generalize hb117:decide (a.say=m.atr.say)=b117
 cases b117
 refine J9 ?_
 refine zB underlying32 BT FZ.h U U<|λg123 ah=>WL.to (L':=Et++(.row g123 x.cells::.row g16 x.cells::.row g3 m.cells::.row b.r b.rc::(T1.all b.t b.m k1++(.row gs (AM PfL.cells said++Rs)::(En++L))))) (λw h=>by
 obtain⟨Z,hZ⟩:∃Z,St N O w (.row g123 x.cells::.row B Z::.row g16 x.cells::.row g3 m.cells::.row b.r b.rc::(T1.all b.t b.m k1++(.row gs (AM PfL.cells said++Rs)::(En++(Et++L))))):=⟨_,h⟩
 exact St.AN [.row B Z] hZ) ?_
 exact Aj
 refine J7 ?_
 exact Ci
 refine J16 ?_
 refine zB underlying32 BT FZ.h U U<|λg123 ah=>WL.to (L':=Et++(.row g123 x.cells::.row g16 x.cells::.row g3 m.cells::.row b.r b.rc::(T1.all b.t b.m k1++(.row gs (AM PfL.cells said++Rs)::(En++L))))) (λw h=>by
 obtain⟨Z,hZ⟩:∃Z,St N O w (.row g123 x.cells::.row B Z::.row g16 x.cells::.row g3 m.cells::.row b.r b.rc::(T1.all b.t b.m k1++(.row gs (AM PfL.cells said++Rs)::(En++(Et++L))))):=⟨_,h⟩
 exact St.AN [.row B Z] hZ) ?_
 exact Aj
 rintro⟨ts2,tad2,tc2,ag⟩ ⟨ab,ae,af⟩
 dsimp only at ab ae af⊢
 refine WC.AS mixed<|rF 3 [0,1,2]<|?_
 refine J4 ?_
 refine rA 1 [3,4] U<|qV (An U U Qa.h ((cellAt (g:=b.r) (cs:=b.rc) U))) U<|?_
 refine J2 ?_
 refine rO 0 [5]<|zK CkO U<|?_
 intro f hS
 have C:St N O f (T1.all b.t b.m k1++(.row g16 x.cells::.row g3 m.cells::.row b.r b.rc::(.row gs (AM PfL.cells said++Rs)::(En++(ag++L))))):=hS.AJ
 refine(Drop_c f b.t b.m k1 T1 x hxo.2 hxo.1 (St.own C)).mono ?_
 rintro e A ⟨T2,k2,bb2,rfl,hdr,X⟩
 refine⟨_,.row g3 m.cells::.row b.r b.rc::(T2.all b.t b.m k2++(.row gs (AM PfL.cells said++Rs)::(En++(ag++L)))),rfl,St.AN [.row g16 x.cells] (St.back C X),?_⟩
 refine J8 ?_
 exact eW ⟨j+1,T2,k2,ts2,tad2,tc2,ag⟩ C7 ⟨C7,ab,ae,af,hdr.ok _ q,H.drop hxo (by have:=(hsm x).1 (Do hx);exact LI.1 this) hdr⟩
 refine J18 ?_
 refine oLp (λx:UpB=>[(134,iI x.j),(133,iI l.length),(132,.slice M l.length nc),(14,.slice tad ts.length tc),(0,pG b.r),(3,pG g3)]) (λx=>.row g3 m.cells::.row b.r b.rc::(x.T.all b.t b.m x.k++(n++(En++(Et++L))))) (λx=>x.j<=l.length/\x.T.Ok G1/\b.T.But x.T m.gone m.nets) (λx=>l.length-x.j) ⟨0,T1,k1,[],none,0,[]⟩ ⟨Lv _,q,H⟩ ?_
 rintro⟨j2,T3,k3,_,_,_,_⟩ ⟨hj2,D,o⟩
 dsimp only at hj2 D o⊢
 refine J2 ?_
 refine JT (λh135=>?_) λh135=>?_
 refine J10 ?_
 obtain⟨x,hx⟩:∃x,l[j2]?=some x:=Gx
 have hxm:=Do hx
 have hxo:=hno x hxm
 have J:l≠[]:=F2
 obtain⟨gn,Rn,rfl,rfl,hcl,ac⟩:=F.split J
 simp only[AbT,Aec]
 refine zV (AA (lo:=j2) U U U underlying32 BT W W) U<|zV (AB (cs:=x.cells) U U DD.h U (AT (m:=2) Fc)) U ?_
 refine zy U FZ.h U U<|λP hg22=>J3 ?_
 refine WC.held ([.row P x.cells,.row g3 m.cells,.row b.r b.rc]) mixed<|WRH.first (g:=2) [0,1,2,3,4,5,6] C6 C6 kp<|J3 ?_
 refine zj (An U U Qa.h ((cellAt (g:=b.r) (cs:=b.rc) U))) U<|J2 ?_
 refine zj (AB (cs:=m.atr.cells) U U JZ.h U (AT (m:=10) U)) U<|WH.nil<|?_
 refine WRH.one (g:=1) 7 C6<|zK CkO U<|λf hS=>(I2 f m.atr ((hm.st hS).at_) hz).mono ?_
 rintro e A ⟨a',E',K',rfl,hsay,hV',hAK,d⟩
 refine⟨_,.row P x.cells::.row g3 m.cells::.row b.r b.rc::(T3.all b.t b.m k3++(n++(.row gn (AM PfL.cells l++Rn)::(Et++(L++(E'++K')))))),rfl,(hS.join d).AJ,?_⟩
 refine WL.BL kp<|WRH.one (g:=0) 8 C6<|zK CkO U<|λf hS=>?_
 have C:St N O f ((T3.all b.t b.m k3++(E'++K'))++(.row P x.cells::.row g3 m.cells::.row b.r b.rc::(n++(.row gn (AM PfL.cells l++Rn)::(Et++L))))):=hS.AJ
 refine(Put_c f b.t b.m k3 T3 x a' (E'++K') hxo.2 hxo.1 (St.own C)).mono ?_
 rintro e A ⟨T4,k4,e4,rfl,hpu,X⟩
 refine⟨_,.row P x.cells::.row g3 m.cells::.row b.r b.rc::(T4.all b.t b.m k4++(n++(.row gn (AM PfL.cells l++Rn)::(Et++L)))),rfl,(St.back C X).AJ,?_⟩
 refine WL.BL kp<|WRH.done C6<|J6 ?_
 exact eW ⟨j2+1,T4,k4,[],none,0,[]⟩ C7 ⟨C7,hpu.ok _ ⟨hAK,UD hsay hz⟩ D,o.put hxo (.inr (K x hxm)) hpu⟩
 refine J17 ?_
 refine eT2 ?_
 exact λA h=>.inr ⟨T3,k3,ts,tad,tc,Et,rfl,hVt,W,hto.1,hto.2,(R (Acp.1 z)).1,(R (Acp.1 z)).2,D,o,St.AN (L:=.row g3 m.cells::.row b.r b.rc::(T3.all b.t b.m k3++(n++(En++(Et++L))))) (L':=.row b.r b.rc::(T3.all b.t b.m k3++(Et++L))) (.row g3 m.cells::(n++En)) h⟩

theorem Yr(l:Nat->Prop)(n s:Wd)(b:Rib)(m:MsL)(L:eL)(i:b.T.Ok G1)(B:Stb l n λw=>m.At w)(G:m.atr.Zs)(z:(∀p∈m.gone,U32 p.addr)/\∀p∈m.nets,U32 p.addr)(C:m.gone.length<=1000/\m.nets.length<=1000)(o:St l n s (b.AE++L)):
 Cl 110 #[pG b.r,aA m.cells] s λe t=>∃(r:Int) (f:Tri) (j:Int) (a:List PfL) (g:Option Addr) (c:Nat) (E:eL),e=.returned (.tuple #[.slice g a.length c,iI r])/\(r≠0->f=b.T/\j=b.k/\a=[]/\g=none/\c=0/\E=[])/\PfV g c a E/\a.length<=2000/\FP a/\(∀p∈a,p∈m.gone\/p∈m.nets)/\(r=0->FP m.gone/\FP m.nets)/\f.Ok G1/\b.T.But f m.gone m.nets/\St l n t (({ b with k:=j,T:=f }:Rib).AE++(E++L)):=by
 refine(AbN l n s b m L i B G z C o).mono ?_
 rintro e t (⟨r,F,rfl,d⟩|⟨f,j,a,g,c,E,rfl,A,H,D,q,u,v,y,x,d⟩)
 .exact ⟨r,b.T,b.k,[],none,0,[],rfl,λ_=>⟨rfl,rfl,rfl,rfl,rfl,rfl⟩,Vec.nil 2,Lv _,λp h=>Da,λp h=>Da,λh=>absurd h F,i,λp _ _ _ _=>rfl,d⟩
 .exact ⟨0,f,j,a,g,c,E,rfl,λh=>absurd U h,A,W,D,q,λ_=>⟨u,v⟩,y,x,d⟩
theorem Q5(c:Nat->Prop)(f g:Wd)(v:Sv)(n:Int)(b:MsL)(L:eL)(i:v.Ok)(l:¬(0<=n/\n<(v.ms.length:Int)))(a:St c f g (v.AE++L)):
 Cl 52 #[pG v.s,iI n,aA b.cells] g λe d=>e=.returned (.tuple #[sN,iI 1])/\St c f d (v.AE++L):=by
 refine enter func52 U ntmps52 U a<|J2 ?_
 refine zx U U U U U<|λm k=>J8 ?_
 refine zk CkO U (λw j=>Sc w v n (Sv.Jf j.tail) i.n.2 l)<|J7 ?_
 refine zV (AI true U U underlying148 U) U<|J11 ?_
 refine eT2 ?_
 exact λd h=>⟨rfl,h.tail⟩
theorem AeY(j:A.ms[B]?=some F){e:Mb}(l:C=A.put B e)(i:e.rib.T.get E.bits=F.rib.T.get E.bits){g:Nat}{f:Int}(h:IF C g f E):IF A g f E:=by
 subst l
 obtain⟨k,x,a,b,c,d⟩:=h
 rcases Sv.LA b with⟨rfl,rfl⟩|b
 .exact ⟨k,F,a,j,by rw[<- i];exact c,d⟩
 .exact ⟨k,x,a,b,c,d⟩
theorem Tf(D:Nat->Prop)(G w1:Wd)(v:Sv)(n:Nat)(m:Mb)(a:MsL)(L:eL)(hO:v.Ok)(l:v.ms[n]?=some m)(hmA:Stb D G λw=>a.At w)(hz:a.atr.Zs)(hU:(∀p∈a.gone,U32 p.addr)/\∀p∈a.nets,U32 p.addr)(hl:a.gone.length<=1000/\a.nets.length<=1000)(hgS:∀p∈a.gone,p∈v.S)(hnS:∀p∈a.nets,p∈v.S)(hS0:St D G w1 (v.AE++L)):
 Cl 52 #[pG v.s,iI n,aA a.cells] w1 λe w'=>∃(r:Int) (v':Sv) (hs:List PfL) (ad:Option Addr) (c:Nat) (E:eL),e=.returned (.tuple #[.slice ad hs.length c,iI r])/\PfV ad c hs E/\hs.length<=8589934592/\FP hs/\(∀p∈hs,p∈v.S)/\GH v v' (λ_ t=>t)/\St D G w' (v'.AE++(E++L)):=by
 have hn:=hO.n
 have hmp:=hO.maps (Do l)
 have O:=hO.rib n m l
 have aa:=hO.ins m (Do l)
 have hS1:St D G w1 (.row m.g m.cells::.row v.s [.slice (aG v.mb) v.ms.length v.mc,pG v.gf]::.row v.mb (v.FL++v.R)::.row v.gf (fiL v.own v.bl)::(m.rib.AE++(.obj m.bm (.map m.bes m.bc)::.obj m.nm (.map m.nes m.nc)::(m.K++(v.rest n++L))))):=Sv.opened l hS0
 have N:v.put n m=v:=by
  have:v.ms.set n m=v.ms:=by
   obtain⟨j,d⟩:=Eu.1 l
   rw[<- d];exact List.set_getElem_self j
  unfold Sv.put;rw[this]
 refine enter func52 U ntmps52 U hS1<|J2 ?_
 refine zx U U U U U<|λu hg5=>J8 ?_
 refine zk CkO U (λw y=>Jw w v n m (Sv.T5 l y.tail) hn.2 l)<|J7 ?_
 refine zV (AI false U U underlying148 U) U<|J11 ?_
 refine zV (An U U i4o.h (cellAt (g:=m.g) (v:=.bool m.there) U)) U ?_
 generalize hb19:m.there=b19
 cases b19
 refine J12 ?_
 refine eT2 ?_
 exact λw' h=>⟨7,v,[],none,0,[],rfl,Vec.nil 2,C8,λp h=>Da,λp h=>Da,.refl hO,by have d:=Sv.closed (m':=m) l U h.tail;rw[N] at d;exact d⟩
 refine J7 ?_
 refine WC.AS mixed<|rF 8 [0,1,2]<|?_
 refine J4 ?_
 refine rA 6 [3,4] U<|qV (An U U W3.h (cellAt (g:=m.g) (v:=pG m.rib.r) U)) U<|?_
 refine J2 ?_
 refine rO 5 [5]<|zK CkO U<|?_
 intro Q y
 have j:St D G Q (m.rib.AE++(.row u a.cells::.row m.g m.cells::.row v.s [.slice (aG v.mb) v.ms.length v.mc,pG v.gf]::.row v.mb (v.FL++v.R)::.row v.gf (fiL v.own v.bl)::.obj m.bm (.map m.bes m.bc)::.obj m.nm (.map m.nes m.nc)::(m.K++(v.rest n++L)))):=y.AJ
 refine(Yr D G Q m.rib a _ O.1 hmA hz hU hl j).mono ?_
 rintro e w' ⟨r,T',k',ts,tad,tc,o,rfl,hr,hVt,htl,hto,htoi,hgo,hT,hB,z⟩
 refine⟨_,.row u a.cells::.row m.g m.cells::.row v.s [.slice (aG v.mb) v.ms.length v.mc,pG v.gf]::.row v.mb (v.FL++v.R)::.row v.gf (fiL v.own v.bl)::(({ m.rib with k:=k',T:=T' }:Rib).AE++(.obj m.bm (.map m.bes m.bc)::.obj m.nm (.map m.nes m.nc)::(m.K++(v.rest n++(o++L))))),rfl,z.AJ,?_⟩
 refine J1 ?_
 refine rF 0 [6,7,8,9,10]<|J12 ?_
 refine JT (λX=>?_) λX=>?_
 refine J12 ?_
 refine eT2 ?_
 obtain⟨rfl,rfl,rfl,rfl,rfl,rfl⟩:=hr X
 exact λw' h=>⟨r,v,[],none,0,[],rfl,Vec.nil 2,C8,λp h=>Da,λp h=>Da,.refl hO,by have d:=Sv.closed (m':=m) l U h.tail;rw[N] at d;exact d⟩
 refine J7 ?_
 have M:=hgo (Acp.1 X)
 obtain⟨F,i⟩:∃F,F=v.put n { m with rib:={ m.rib with k:=k',T:=T' } }:=⟨_,rfl⟩
 have hO1:F.Ok:=(by rw[i];exact hO.put l ⟨hT,O.2⟩ ⟨hmp.best,hmp.news⟩ ⟨λq j d h3=>by
  by_cases e1:q∈a.gone
  .exact hgS q e1
  .by_cases e2:q∈a.nets
   .exact hnS q e2
   .exact aa.rib q j d (by rw[<- hB q j d e1 e2];exact h3),aa.best,aa.news⟩)
 have C:F.s=v.s:=(by rw[i];rfl)
 have B:F.S=v.S:=(by rw[i];rfl)
 have P:F.ms.length=v.ms.length:=(by rw[i];exact Sv.Ie)
 have J:∀(k:Nat) (x:Mb),v.ms[k]?=some x->∃H:Mb,F.ms[k]?=some H/\H.sy=x.sy/\H.BM=x.BM/\H.there=x.there:=(λk x hx=>by
  rw[i]
  by_cases e:k=n
  .subst e;rw[l] at hx;cases hx
   exact⟨_,Sv.HL l,rfl,rfl,rfl⟩
  .exact ⟨x,by rw[Sv.HM e];exact hx,rfl,rfl,rfl⟩)
 have hto1:∀q,BP q=true->U32 q.addr->q ∉ a.gone->q ∉ a.nets->Told v q->Told F q:=(λq j d h3 h4 hq=>Np P (λk x hx=>let ⟨H,e1,e2,e3,_⟩:=J k x hx; ⟨H,e1,e2,e3⟩) (λto sy h=>AeY l i (hB q j d h3 h4) h) hq)
 refine WL.to (L':=.row u a.cells::(F.AE++(o++L))) (λw h=>?_) ?_
 .have h0:St D G w (.row m.g m.cells::.row v.s [.slice (aG v.mb) v.ms.length v.mc,pG v.gf]::.row v.mb (v.FL++v.R)::.row v.gf (fiL v.own v.bl)::(({ m.rib with k:=k',T:=T' }:Rib).AE++(.obj m.bm (.map m.bes m.bc)::.obj m.nm (.map m.nes m.nc)::(m.K++(v.rest n++(o++(L++[.row u a.cells]))))))):=h.AJ
  have d:=Sv.closed (m':={ m with rib:={ m.rib with k:=k',T:=T' } }) (Z:=o++(L++[.row u a.cells])) l U h0
  rw[<- i] at d
  exact d.AJ
 refine J2 ?_
 refine zV (An U U RP.h ((cellAt (v:=.slice a.gad a.gone.length a.gc) U))) U<|zK CkO U<|?_
 intro Q y
 have j:St D G Q (F.AE++(.row u a.cells::(o++L))):=y.AJ
 have A:=Yu D G Q F a.gad a.gc a.gone (.row u a.cells::(o++L)) hO1 M.1 (by rw[B];exact hgS) W (λw y=>(hmA.st y).gone) j
 rw[C] at A
 refine A.mono ?_
 rintro e w' ⟨v2,rfl,b,z⟩
 refine⟨_,.row u a.cells::(v2.AE++(o++L)),rfl,z.AJ,?_⟩
 refine J6 ?_
 refine zV (An U U RP.h ((cellAt (v:=.slice a.nad a.nets.length a.nc) U))) U<|zK CkO U<|?_
 intro Q y
 have j:St D G Q (v2.AE++(.row u a.cells::(o++L))):=y.AJ
 have A:=Yu D G Q v2 a.nad a.nc a.nets (.row u a.cells::(o++L)) b.ok M.2 (by rw[b.Hn.S,B];exact hnS) W (λw y=>(hmA.st y).nets) j
 rw[b.Hn.s,C] at A
 refine A.mono ?_
 rintro e w' ⟨v3,rfl,f,z⟩
 refine⟨_,.row u a.cells::(v3.AE++(o++L)),rfl,z.AJ,?_⟩
 refine J10 ?_
 refine eT2 ?_
 refine λw' h=>⟨0,v3,ts,tad,tc,o,rfl,hVt,W,hto,λp hp=>(htoi p hp).elim (hgS p) (hnS p),⟨by rw[f.Hn.s,b.Hn.s,C],by rw[f.Hn.len,b.Hn.len,P],by rw[f.Hn.S,b.Hn.S,B],f.ok,λq j d hq=>?_,λk x hx=>?_⟩,h.tail⟩
 .by_cases h3:q∈a.nets
  .exact f.told q (.inl h3)
  .refine f.told q (.inr ?_)
   by_cases h4:q∈a.gone
   .exact b.told q (.inl h4)
   .exact b.told q (.inr (hto1 q j d h4 h3 hq))
 .obtain ⟨m1,e1,_,_,e2⟩:=J k x hx
  obtain⟨m2,e3,e4⟩:=b.step.at_ k m1 e1
  obtain⟨m3,e5,e6⟩:=f.step.at_ k m2 e3
  exact⟨m3,e5,by rw[e6,e4,e2]⟩

def Of(bl:List Bool)(i j:Nat)(b:Bool):List Bool:=bl.set (i*16+j) b
theorem Ag2{bl:List Bool}{j:Nat}{b:Bool}:(fiL N bl).set (1+B*16+j*1) (.bool b)=fiL N (Of bl B j b):=by
 rw[show 1+B*16+j*1=(B*16+j)+1 by omega]
 unfold fiL Of
 rw[List.set_cons_succ,List.map_set]
theorem AgO{bl:List Bool}{j k l:Nat}{b:Bool}(a:j<16)(c:l<16)(h:¬(B=k/\j=l)):blk (Of bl B j b) k l=blk bl k l:=by
 unfold blk Of
 rw[Aio,Aio,Adq W]
theorem Agl(d:Nat->Prop)(f g:Wd)(a:Nat)(own:Int)(bl:List Bool)(i j:Nat)(b:Bool)(L:eL)(o:bl.length=256)(m:i<16)(n:j<16)(c:St d f g (.row a (fiL own bl)::L)):
 Cl 111 #[pG a,iI i,iI j,.bool b] g λe w'=>e=.returned (iI 0)/\St d f w' (.row a (fiL own (Of bl i j b))::L):=by
 refine enter func111 U ntmps111 U c<|J9 ?_
 refine zV (AI false U U underlying143 U) U<|J2 ?_
 refine zk CkO U (λw l=>OC w i m)<|J4 ?_
 refine zk CkO U (λw l=>OC w j n)<|J15 ?_
 refine zV (AG (lo:=i) U U U underlying240 AfN W W) U<|zV (AG (lo:=j) U U U underlying239 S8 W W) U<|WL.DX U U U U i4o.h (by show 1+i*16+j*1<(fiL own bl).length;unfold fiL;rw[Acg,Ri];omega) (.none U) U ?_
 refine WL.as (L':=.row a (fiL own (Of bl i j b))::L) (If (λk=>Ent.row a k::L) Ag2)<|J8 ?_
 exact Bj
theorem Td(j:Nat->Prop)(l m:Wd)(v:Sv)(a f:Int)(b:Bool)(L:eL)(g:v.Ok)(o:¬((0<=a/\a<(v.ms.length:Int))/\(0<=f/\f<(v.ms.length:Int))))(d:St j l m (v.AE++L)):
 Cl 53 #[pG v.s,iI a,iI f,.bool b] m λe w'=>e=.returned (iI 1)/\St j l w' (v.AE++L):=by
 by_cases i:0<=a/\a<(v.ms.length:Int)
 .obtain ⟨k,rfl⟩:∃k:Nat,a=(k:Int):=⟨a.toNat,W⟩
  have hk:k<v.ms.length:=W
  refine enter func53 U ntmps53 U d<|J9 ?_
  refine zk CkO U (λw c=>Jw w v k v.ms[k] (Sv.Jf c) g.n.2 (FS hk))<|J7 ?_
  refine zV (AI false U U underlying148 U) U<|J3 ?_
  refine zk CkO U (λw c=>Sc w v f (Sv.Jf c) g.n.2 λh=>o ⟨i,h⟩)<|zS (AI true U U underlying148 U) U<|?_
  refine J11 ?_
  exact Bj
 .refine enter func53 U ntmps53 U d<|J9 ?_
  refine zk CkO U (λw c=>Sc w v a (Sv.Jf c) g.n.2 i)<|J7 ?_
  refine zV (AI true U U underlying148 U) U<|J16 ?_
  exact Bj
structure BlkS where
 j:Nat
 v:Sv
theorem Wc(M:Nat->Prop)(N w1:Wd)(v:Sv)(A u:Nat)(m mt:Mb)(b:Bool)(L:eL)(O:v.Ok)(hm:v.ms[A]?=some m)(hmt:v.ms[u]?=some mt)(hS0:St M N w1 (v.AE++L)):
 Cl 53 #[pG v.s,iI A,iI u,.bool b] w1 λe w'=>∃v':Sv,e=.returned (iI 0)/\GH v v' (λ_ t=>t)/\St M N w' (v'.AE++L):=by
 have hn:=O.n
 have hf16:A<16:=by have:=(Eu.1 hm).1;omega
 have ht16:u<16:=by have:=(Eu.1 hmt).1;omega
 have hrib:=O.rib A m hm
 obtain⟨c,H⟩:∃c:Sv,c = { v with bl:=Of v.bl A u b }:=⟨_,rfl⟩
 have X:c.s=v.s:=by rw[H]
 have l:c.ms=v.ms:=by rw[H]
 have hv1S:c.S=v.S:=by rw[H]
 have hO1:c.Ok:=by rw[H];exact⟨O.few,O.ins,O.n,(AbI ..).trans O.bl,O.rib,O.best,O.news⟩
 have hm1:c.ms[A]?=some m:=by rw[l];exact hm
 have hoff:∀(k:Nat) (sy:Int) (q:PfL),k<16->(k≠u\/m.rib.T.get q.bits=none)->IF c k sy q->IF v k sy q:=by
  rintro k sy q hk E ⟨i,x,a,G,Z,h3⟩
  rw[l] at G
  refine⟨i,x,a,G,Z,?_⟩
  have hne:¬(A=i/\u=k):=by
   rintro⟨rfl,rfl⟩
   rw[hm] at G;cases G
   rcases E with h|h
   .exact h U
   .rw [h] at Z;cases Z
  rw[H] at h3
  have hb:blk (Of v.bl A u b) i k=blk v.bl i k:=AgO ht16 hk hne
  unfold IM at h3 ⊢
  dsimp only at h3
  rw[hb] at h3
  exact h3
 have hS1:St M N w1 (.row v.s [.slice (aG v.mb) v.ms.length v.mc,pG v.gf]::.row v.mb (v.FL++v.R)::.row v.gf (fiL v.own v.bl)::(v.ms.flatMap Mb.AE++L)):=hS0
 refine enter func53 U ntmps53 U hS1<|J9 ?_
 refine zk CkO U (λw z=>Jw w v A m (Sv.Jf z) hn.2 hm)<|J7 ?_
 refine zV (AI false U U underlying148 U) U<|J3 ?_
 refine zk CkO U (λw z=>Jw w v u mt (Sv.Jf z) hn.2 hmt)<|zS (AI false U U underlying148 U) U<|?_
 refine J12 ?_
 refine zV (An U U OS (cellAt (g:=v.s) (v:=pG v.gf) U)) U<|J3 ?_
 refine zK CkO U<|λw2 z=>?_
 have G:St M N w2 (.row v.gf (fiL v.own v.bl)::.row v.s [.slice (aG v.mb) v.ms.length v.mc,pG v.gf]::.row v.mb (v.FL++v.R)::(v.ms.flatMap Mb.AE++L)):=z.AJ
 refine(Agl M N w2 v.gf v.own v.bl A u b _ O.bl hf16 ht16 G).mono ?_
 rintro e w' ⟨rfl,C⟩
 have Z:St M N w' (.row v.s [.slice (aG v.mb) v.ms.length v.mc,pG v.gf]::.row v.mb (v.FL++v.R)::.row v.gf (fiL v.own (Of v.bl A u b))::(v.ms.flatMap Mb.AE++L)):=C.AJ
 refine⟨_,c.AE++L,rfl,(by rw[H];exact Z),?_⟩
 refine J6 ?_
 refine zV ((Gs U U U).f (C8)) U<|J11 ?_
 refine zV (An U U W3.h ((λw z=>((Sv.Jf z).ms A m hm1 _ Fr:Row w m.g m.cells).cell (v:=pG m.rib.r) U))) U<|zK CkO U<|?_
 intro w2 z
 have G:St M N w2 (m.rib.AE++(.row m.g m.cells::.row c.s [.slice (aG c.mb) c.ms.length c.mc,pG c.gf]::.row c.mb (c.FL++c.R)::.row c.gf (fiL c.own c.bl)::(.obj m.bm (.map m.bes m.bc)::.obj m.nm (.map m.nes m.nc)::(m.K++(c.rest A++L))))):=St.AJ (L:=.row m.g m.cells::.row c.s [.slice (aG c.mb) c.ms.length c.mc,pG c.gf]::.row c.mb (c.FL++c.R)::.row c.gf (fiL c.own c.bl)::(m.rib.AE++(.obj m.bm (.map m.bes m.bc)::.obj m.nm (.map m.nes m.nc)::(m.K++(c.rest A++L))))) (Sv.opened hm1 z)
 refine(Adf M N w2 m.rib _ hrib.1 G).mono ?_
 rintro e w' ⟨rs,rad,rc,Er,Kr,rfl,hVr,hall,hrl,C⟩
 have Z:St M N w' (.row m.g m.cells::.row c.s [.slice (aG c.mb) c.ms.length c.mc,pG c.gf]::.row c.mb (c.FL++c.R)::.row c.gf (fiL c.own c.bl)::(m.rib.AE++(.obj m.bm (.map m.bes m.bc)::.obj m.nm (.map m.nes m.nc)::(m.K++(c.rest A++(Er++L)))))):=St.AN Kr C
 refine⟨_,c.AE++(Er++L),rfl,?_,?_⟩
 .have h3:=Sv.closed (m':=m) hm1 U Z
  have hput:c.put A m=c:=(by
   have:c.ms.set A m=c.ms:=(by
    obtain⟨G,Z⟩:=Eu.1 hm1
    rw[<- Z];exact List.set_getElem_self G)
   unfold Sv.put;rw[this])
  rw[hput] at h3
  exact h3
 refine J5 ?_
 refine WC.loop (λx:BlkS=>[(41,iI x.j),(40,iI rs.length),(39,.slice rad rs.length rc),(0,pG v.s),(2,iI u)]) (λx=>x.v.AE++(Er++L)) (λx=>x.j<=rs.length/\FH c x.v/\x.v.Ok/\∀q,BP q=true->U32 q.addr->Told v q->∀(k:Nat) (y:Mb),x.v.ms[k]?=some y->IF x.v k y.sy q->(k≠u\/m.rib.T.get q.bits=none\/∃r∈rs.take x.j,r.net=q)->y.BM (aA q.cells)≠none) (λx=>rs.length-x.j) ⟨0,c⟩ ⟨Lv _,.refl c,hO1,λq G Z hq k y hy ho E=>by
 have hk:k<c.ms.length:=(Eu.1 hy).1
 have hy2:v.ms[k]?=some y:=(by rw[<- l];exact hy)
 refine hq k y hy2 (hoff k y.sy q (by rw[l] at hk;omega) ?_ ho)
 rcases E with h|h|⟨r,hr,_⟩
 .exact .inl h
 .exact .inr h
 .cases hr⟩ Km (.refl _) ?_
 rintro⟨j,J⟩ ⟨hj,o,B,hb2⟩
 dsimp only at hj o B hb2⊢
 refine J2 ?_
 refine JT (λh42=>?_) λh42=>?_
 refine J10 ?_
 obtain⟨r,hrj⟩:∃r,rs[j]?=some r:=Gx
 have hrm:=Do hrj
 obtain⟨hro,hrU,hrg⟩:=hall.mem hrm
 have htk:rs.take (j+1)=rs.take j++[r]:=(by rw[AhG,hrj];rfl)
 have hrows:∀w,St M N w (J.AE++(Er++L))->BH w rad 13 RtL.cells rs:=λw z=>Ct RtL.BK C8 (CY hVr.vec λe he=>z.holds e Dd)
 obtain⟨b1,ea⟩:=hVr.vec.QS W
 obtain⟨mk,D⟩:∃mk,J.ms[u]?=some mk:=⟨J.ms[u]'(by rw[o.len,l];exact(Eu.1 hmt).1),FS _⟩
 refine zV ((AA (b:=b1) (off:=0) (lo:=j) U (by show some (Value.slice rad _ _)=_;rw[ea]) U underlying170 Ho U W)) U ?_
 refine WL.val (AB (cs:=r.cells) U U P9.h (RtL.BK r) (λw z=>by
 obtain⟨b2,o2,ea2,r2⟩:=hrows w z j r hrj
 rw[ea] at ea2;cases ea2;exact r2)) (.none U) U U ?_
 refine zy U GK.h U U<|λF hg12=>J3 ?_
 refine WC.held ([.row F r.cells]) mixed<|WRH.first (g:=2) [0,1,2,3,4,5,6] C6 C6 kp<|J3 ?_
 refine zj (AB (cs:=r.net.cells) U U DD.h U (AT (g:=F) (m:=2) U)) U<|J2 ?_
 refine zj (AB (cs:=r.net.cells) U U DD.h U (AT (g:=F) (m:=2) U)) U<|WH.nil<|?_
 refine WRH.one (g:=1) 7 C6<|zK CkO U<|λw2 z=>?_
 have P:=Yt w2 J r.net (SvH.of λe he=>z.holds e Dd) B hrU hro
 rw[o.s,X] at P
 refine P.mono ?_
 rintro e w' ⟨xs,xad,xc,Ex,Kx,rfl,hVx,hRx,hkey,C⟩
 refine⟨_,.row F r.cells::(J.AE++(Ex++(Kx++(Er++L)))),rfl,(z.join C).AJ,?_⟩
 refine WL.BL kp<|WRH.one (g:=0) 8 C6<|zK CkO U<|λw2 z=>?_
 have G:St M N w2 (J.AE++(Ex++(Kx++(.row F r.cells::(Er++L))))):=z.AJ
 have P:=Z9 M N w2 J u mk r.net xad xc xs Ex Kx _ B D hrU hro hVx hRx hkey G
 rw[o.s,X] at P
 refine P.mono ?_
 rintro e w' ⟨m',rfl,d,C⟩
 refine⟨_,.row F r.cells::((J.put u m').AE++(Er++L)),rfl,St.AN (Ex++Kx) C,?_⟩
 refine WL.BL kp<|WRH.done C6<|J6 ?_
 have hl3:FH J (J.put u m'):=.put D d.is_ d.there
 exact eW ⟨j+1,J.put u m'⟩ C7 ⟨C7,o.trans hl3,B.put D (by rw[d.is_.rib];exact B.rib u mk D) d.maps (d.ins (B.ins mk (Do D)) (by rw[o.S,hv1S];exact(O.ins m (Do hm)).rib r.net hro hrU hrg)),λq q1 q2 hq k y hy ho E=>by
  dsimp only at hy ho E
  have ho2:IF J k y.sy q:=hl3.off.1 ho
  rw[htk] at E
  by_cases e:k=u
  .subst e
   rw[Sv.HL D] at hy;cases hy
   rw[d.is_.sy] at ho2
   by_cases e2:q=r.net
   .subst e2;exact d.best ho2
   .rw [d.else_ _ λe=>e2 (EE e)]
    refine hb2 q q1 q2 hq k mk D ho2 ?_
    rcases E with h|h|⟨r',Q,e3⟩
    .exact .inl h
    .exact .inr (.inl h)
    .rcases LI.1 Q with Q | Q
     .exact .inr (.inr ⟨r',Q,e3⟩)
     .rw [Es.1 Q] at e3;exact absurd e3.symm e2
  .rw [Sv.HM e] at hy
   exact hb2 q q1 q2 hq k y hy ho2 (.inl e)⟩
 refine J15 ?_
 refine eT1 ?_
 refine λw' h=>⟨J,rfl,⟨o.s.trans X,o.len.trans (by rw[l]),o.S.trans hv1S,B,λq q1 q2 hq k y hy ho=>hb2 q q1 q2 hq k y hy ho ?_,λk x hx=>?_⟩,St.AN Er h⟩
 .by_cases hg:m.rib.T.get q.bits=none
  .exact .inr (.inl hg)
  .obtain ⟨r,hr,e⟩:=hall.all q1 q2 hg
   exact .inr (.inr ⟨r,by rw[Aco W];exact hr,e⟩)
 .obtain ⟨m',e1,_,e3⟩:=o.at_ k x (by rw[l];exact hx)
  exact⟨m',e1,e3⟩
end Gq

theorem PC{f:Type}[DecidableEq f]:∀ {xs S:List f},xs.Nodup->(∀x∈xs,x∈S)->xs.length<=S.length
 | [],S,_,_=>Lv _
 | x::xs,S,h,b=>by
  have a:=List.nodup_cons.1 h
  have c:=b x Fr
  have g:=PC (xs:=xs) (S:=S.erase x) a.2 λy d=>(List.mem_erase_of_ne λe=>a.1 (by rw[<- e];exact d)).2 (b y (EQ _ d))
  rw[List.length_erase_of_mem c] at g
  have:=List.length_pos_of_mem c
  rw[Acg];omega
theorem RW{x:PfL}{a:AtL}(e:B<2)(b:BP E=true)(g:U32 E.addr)(h:(x,a)∈(if E.len<32 then M.list (E.half B) else[])):∃s,x.bits=E.bits++B::s:=by
 by_cases c:E.len<32
 .rw [IR c] at h
  have f:=QM e g b c
  obtain⟨_,_,s,d,_⟩:=(M.TV _ f.1 f.2 x a).1 h
  rw[TH e g b c] at d
  exact⟨s,by rw[d];simp⟩
 .rw [E9 c] at h;cases h
theorem Tri.Ahf:∀(T:Tri) (p:PfL),BP p=true->U32 p.addr->((T.list p).map Prod.fst).Nodup:=by
 intro T
 induction T with
 | nil=>exact λp _ _=>List.nodup_nil
 | node g D w K l r ihl q =>
  intro p a j
  have hk:∀(b:Nat) (c:Tri),b<2->(∀(p:PfL),BP p=true->U32 p.addr->((c.list p).map Prod.fst).Nodup)->((if p.len<32 then c.list (p.half b) else[]).map Prod.fst).Nodup:=λb c n F=>by
   by_cases o:p.len<32
   .rw [IR o]
    have v:=QM n j a o
    exact F _ v.1 v.2
   .rw [E9 o];exact List.nodup_nil
  show(((if D=true then[(p,w)] else[])++((if p.len<32 then l.list (p.half 0) else[])++(if p.len<32 then r.list (p.half 1) else[]))).map Prod.fst).Nodup
  rw[Ai7,Ai7,List.nodup_append,List.nodup_append]
  refine⟨?_,⟨hk 0 l C8 ihl,hk 1 r C8 q,?_⟩,?_⟩
  .split
   .exact List.nodup_cons.2 ⟨C9,List.nodup_nil⟩
   .exact List.nodup_nil
  .rintro x f y d rfl
   obtain⟨⟨G,H⟩,B,rfl⟩:=Ab8.1 f
   obtain⟨⟨t,z⟩,m,e⟩:=Ab8.1 d
   obtain rfl:t=G:=e
   obtain⟨J,k⟩:=RW C8 a j B
   obtain⟨L,u⟩:=RW C8 a j m
   rw[k] at u
   have:=List.append_cancel_left u
   cases this
  .rintro x f y d rfl
   have A:x=p:=by
    split at f
    .simpa using f
    .cases f
   have i:∀(b:Nat) (c:Tri),b<2->x∈(if p.len<32 then c.list (p.half b) else[]).map Prod.fst->False:=λb c n E=>by
    obtain⟨⟨t,z⟩,m,e⟩:=Ab8.1 E
    obtain rfl:t=x:=e
    obtain⟨s,k⟩:=RW n a j m
    have C:=If List.length k
    rw[A,AC,Acg] at C
    omega
   rcases LI.1 d with d|d
   .exact i 0 l C8 d
   .exact i 1 r C8 d
instance:DecidableEq PfL:=λa b=>match a,b with
 | ⟨c,d⟩,⟨f,g⟩=>if h:c=f/\d=g then .isTrue (by obtain⟨rfl,rfl⟩:=h;rfl) else .isFalse (λe=>h (by cases e;exact⟨rfl,rfl⟩))
theorem Tri.AeK(h:∀p,BP p=true->U32 p.addr->M.get p.bits≠none->p∈D):(M.list ⟨0,0⟩).length<=D.length:=by
 have b:=PC (M.Ahf ⟨0,0⟩ C8 ⟨C8,C8⟩) (S:=D) λp i=>by
  obtain⟨⟨q,a⟩,g,rfl⟩:=Ab8.1 i
  obtain⟨c,d,f⟩:=(M.KG q a).1 g
  exact h q c d (by rw[f];intro e;cases e)
 rwa [Ri] at b
section Gq
attribute [local irreducible] WL WC WE WQ WP WH WR WM WRH

theorem Sv.Afd(c:A.ms[B]?=some F):A.put B F=A:=by
 have:A.ms.set B F=A.ms:=by
  obtain⟨a,b⟩:=Eu.1 c
  rw[<- b];exact List.set_getElem_self a
 unfold Sv.put;rw[this]
theorem Agv(f:Nat->Prop)(h n:Wd)(v:Sv)(k:Nat)(m:Mb)(Z:eL)(x:v.Ok)(d:v.ms[k]?=some m)(t:St f h n (v.AE++Z)):
 Cl 62 #[pG m.rib.r] n λe w=>∃(b:List RtL) (i:Option Addr) (c:Nat) (E:eL),e=.returned (.slice i b.length c)/\Vec 13 i b.length c (AM RtL.cells b) E/\(∀r∈b,BP r.net=true/\U32 r.net.addr/\m.rib.T.get r.net.bits≠none)/\(∀p,BP p=true->U32 p.addr->m.rib.T.get p.bits≠none->∃r∈b,r.net=p)/\b.length<=v.S.length/\St f h w (v.AE++(E++Z)):=by
 have u:St f h n (m.rib.AE++(.row m.g m.cells::.row v.s [.slice (aG v.mb) v.ms.length v.mc,pG v.gf]::.row v.mb (v.FL++v.R)::.row v.gf (fiL v.own v.bl)::(.obj m.bm (.map m.bes m.bc)::.obj m.nm (.map m.nes m.nc)::(m.K++(v.rest k++Z))))):=St.AJ (L:=.row m.g m.cells::.row v.s [.slice (aG v.mb) v.ms.length v.mc,pG v.gf]::.row v.mb (v.FL++v.R)::.row v.gf (fiL v.own v.bl)::(m.rib.AE++(.obj m.bm (.map m.bes m.bc)::.obj m.nm (.map m.nes m.nc)::(m.K++(v.rest k++Z))))) (Sv.opened d t)
 refine(Adf f h n m.rib _ (x.rib k m d).1 u).mono ?_
 rintro e w ⟨b,i,c,E,K,rfl,y,a,A,q⟩
 refine⟨b,i,c,E,rfl,y.vec,λr z=>a.mem z,λp j o l=>a.all j o l,?_,?_⟩
 .have j:=If List.length a
  rw[Ri,Ri] at j
  rw[j]
  exact Tri.AeK (x.ins m (Do d)).rib
 .have o:St f h w (.row m.g m.cells::.row v.s [.slice (aG v.mb) v.ms.length v.mc,pG v.gf]::.row v.mb (v.FL++v.R)::.row v.gf (fiL v.own v.bl)::(m.rib.AE++(.obj m.bm (.map m.bes m.bc)::.obj m.nm (.map m.nes m.nc)::(m.K++(v.rest k++(E++Z)))))):=St.AN K q
  have l:=Sv.closed (m':=m) d U o
  rw[Sv.Afd d] at l
  exact l
def V1(v:Sv)(p:PfL):Prop:=∃(k:Nat) (m:Mb),v.ms[k]?=some m/\m.rib.T.get p.bits≠none
theorem pfC_cm:Cm pfC:=Cm.lex (Ld.on PfL.addr) (Ld.on PfL.len)
theorem XH(h:D.Pairwise λx y=>¬pfC y x<0):(uniq pfE D).Nodup:=by
 have l:D.Pairwise λa b=>pfC a b<=0:=h.imp λ{a b} c=>by
  have g:=NX b a
  have m:=NX a b
  have n:=Sn a b
  by_cases e:pfC a b<=0
  .exact e
  .exfalso
   have f:¬a=b:=λk=>by have:=n.2 k;omega
   have o:¬(a.addr=b.addr/\a.len=b.len):=λ⟨i,j⟩=>f (by cases a;cases b;dsimp only at i j;subst i j;rfl)
   have r:¬(a.addr<b.addr\/a.addr=b.addr/\a.len<b.len):=λq=>by have:=m.2 q;omega
   exact c (g.2 W)
 have g:=Qp (eq:=pfE) pfC_cm l λx _ y _ d e=>by
  have f:=(Sn y x).1 e
  subst f
  rw[(OV y y).2 U] at d
  cases d
 exact g.imp λ{a b} c e=>by subst e;rw[(Sn a a).2 U] at c;omega
structure NtA where
 k:Nat
 ps:List PfL
 ad:Option Addr
 c:Nat
 E:eL
structure NtB where
 j:Nat
 ps:List PfL
 ad:Option Addr
 c:Nat
 E:eL
theorem QD(D:Nat->Prop)(F w1:Wd)(v:Sv)(L:eL)(hO:v.Ok)(hS0:St D F w1 (v.AE++L)):
 Cl 20 #[pG v.s] w1 λe w'=>∃(o:List PfL) (G:Option Addr) (c:Nat) (E:eL),e=.returned (.slice G o.length c)/\PfV G c o E/\FP o/\(∀p∈o,p∈v.S)/\(∀p,BP p=true->U32 p.addr->(p∈o<->V1 v p))/\o.Nodup/\o.length<=5000/\St D F w' (E++(v.AE++L)):=by
 have hn:=hO.n
 have t:=hO.few
 refine enter func20 U ntmps20 U hS0<|J9 ?_
 refine zV (AI false U U underlying63 U) U<|J16 ?_
 refine zV (An U U RO.h ((λw d=>(Sv.Jf d).s.cell U))) U<|J5 ?_
 refine oLp (λx:NtA=>[(15,iI x.k),(14,iI v.ms.length),(13,.slice (aG v.mb) v.ms.length v.mc),(3,.slice x.ad x.ps.length x.c)]) (λx=>x.E++(v.AE++L)) (λx=>x.k<=v.ms.length/\PfV x.ad x.c x.ps x.E/\x.ps.length<=x.k*v.S.length/\(∀p∈x.ps,(BP p=true/\U32 p.addr)/\V1 v p)/\∀p,BP p=true->U32 p.addr->∀(i:Nat) (m:Mb),i<x.k->v.ms[i]?=some m->m.rib.T.get p.bits≠none->p∈x.ps) (λx=>v.ms.length-x.k) ⟨0,[],none,0,[]⟩ ⟨Lv _,Vec.nil 2,Lv _,λp h=>Da,λp _ _ i m h=>absurd h (Ac5 _)⟩ ?_
 rintro⟨k,o,G,c,E⟩ ⟨hk,hV,hpl,u,J⟩
 dsimp only at hk hV hpl u J⊢
 refine J2 ?_
 refine JT (λh16=>?_) λh16=>?_
 refine J10 ?_
 obtain⟨m,z⟩:∃m,v.ms[k]?=some m:=Gx
 have hvH:∀w,St D F w (E++(v.AE++L))->SvH v w:=λw d=>Sv.Jf (d.sub (Ai9 _ _))
 have hmul:(k+1)*v.S.length=k*v.S.length+v.S.length:=(by rw[Agz,Aii])
 have hbig:(k+1)*v.S.length<=16*5000:=Nat.mul_le_mul W t
 refine zV (AA (lo:=k) U U U underlying145 PL W W) U<|zV (An U U OT ((λw d=>(hvH w d).mb.cell (Sv.Sp z)))) U<|J8 ?_
 refine zV (An U U W3.h ((λw d=>((hvH w d).ms k m z _ Fr:Row w m.g m.cells).cell (v:=pG m.rib.r) U))) U<|zK CkO U<|?_
 intro w2 d
 have B:St D F w2 (v.AE++(E++L)):=d.AJ
 refine(Agv D F w2 v k m (E++L) hO z B).mono ?_
 rintro e w' ⟨C,X,rc,Er,rfl,hVr,hrm,hra,hrl,q⟩
 refine⟨_,E++(Er++(v.AE++L)),rfl,q.AJ,?_⟩
 refine J5 ?_
 refine oLp (λx:NtB=>[(25,iI x.j),(24,iI C.length),(23,.slice X C.length rc),(3,.slice x.ad x.ps.length x.c),(15,iI k),(14,iI v.ms.length),(13,.slice (aG v.mb) v.ms.length v.mc)]) (λx=>x.E++(Er++(v.AE++L))) (λx=>x.j<=C.length/\PfV x.ad x.c x.ps x.E/\x.ps.length=o.length+x.j/\(∀p∈x.ps,(BP p=true/\U32 p.addr)/\V1 v p)/\(∀p∈o,p∈x.ps)/\∀r∈C.take x.j,r.net∈x.ps) (λx=>C.length-x.j) ⟨0,o,G,c,E⟩ ⟨Lv _,hV,rfl,u,λ_ h=>h,λr h=>by cases h⟩ ?_
 rintro⟨j,qs,qad,qc,Eq⟩ ⟨hj,H,hql,K,M,N⟩
 dsimp only at hj H hql K M N⊢
 refine J2 ?_
 refine JT (λh26=>?_) λh26=>?_
 refine J10 ?_
 obtain⟨r,O⟩:∃r,C[j]?=some r:=Gx
 have Q:=hrm r (Do O)
 obtain⟨b1,ea⟩:=hVr.QS W
 have P:∀w,St D F w (Eq++(Er++(v.AE++L)))->BH w X 13 RtL.cells C:=λw d=>Ct RtL.BK C8 (CY hVr λe he=>d.holds e Dd)
 have htk:C.take (j+1)=C.take j++[r]:=(by rw[AhG,O];rfl)
 refine zV ((AA (b:=b1) (off:=0) (lo:=j) U (by show some (Value.slice X _ _)=_;rw[ea]) U underlying170 Ho U W)) U ?_
 refine WL.val (AB (cs:=r.cells) U U P9.h (RtL.BK r) (λw d=>by
 obtain⟨b2,o2,ea2,r2⟩:=P w d j r O
 rw[ea] at ea2;cases ea2;exact r2)) (.none U) U U ?_
 refine zy U GK.h U U<|λg7 hg7=>J6 ?_
 refine zV (AB (cs:=r.net.cells) U U DD.h U (AT (m:=2) U)) U<|zB underlying32 BT FZ.h U U<|?_
 intro A hg32
 refine WL.to (L':=Eq++(.row A r.net.cells::.row g7 r.cells::(Er++(v.AE++L)))) (λw h=>St.AJ (L:=.row A r.net.cells::.row g7 r.cells::(Eq++(Er++(v.AE++L)))) h)<|WL.AU U U U underlying32 underlying32 BT P6 FZ.h U U H (new:=r.net.cells) (λ_=>⟨A,0,rfl,λw d=>AL (g:=A) w d⟩) U (BD PfL.one _) W (.none U) U U<|λad33 c33 E33 hV33 hr33=>J8 ?_
 exact WE.next ⟨j+1,qs++[r.net],ad33,c33,E33⟩ C7 ⟨C7,by dsimp only;unfold PfV;rw[AX,AC];exact hV33,by dsimp only;rw[AC,AbJ];omega,λp f=>by
 rcases LI.1 f with f|f
 .exact K p f
 .rw [Es.1 f];exact⟨⟨Q.1,Q.2.1⟩,k,m,z,Q.2.2⟩,λp f=>Ha _ (M p f),λx R=>by
 dsimp only at R ⊢
 rw[htk] at R
 rcases LI.1 R with R|R
 .exact Ha _ (N x R)
 .rw [Es.1 R];exact Mu _ (Es.2 U)⟩ (.int U C7 (.cons U (.cons U (.eq U Dl (.cons U (.cons U (.cons U .nil))))))) (Acq (.cons _ (.cons _ (.refl _))) _)
 refine J14 ?_
 exact WE.to (L':=Eq++(v.AE++L)) (λw h=>St.AN (L:=Eq++(Er++(v.AE++L))) Er h)<|eW ⟨k+1,qs,qad,qc,Eq⟩ C7 ⟨C7,H,C7,K,λp B h2 i y hi hy Z=>by
  dsimp only at hi ⊢
  by_cases e:i=k
  .subst e;rw[z] at hy;cases hy
   obtain⟨r,hr,e⟩:=hra p B h2 Z
   rw[<- e];exact N r (by rw[Aco (W)];exact hr)
  .exact M p (J p B h2 i y W hy Z)⟩
 refine J12 ?_
 have hbig:o.length<=16*5000:=AcC hpl (Nat.mul_le_mul W t)
 refine zK CkO U<|λw2 d=>(N7 D F w2 (v.AE++L) E G c o hV d W).mono ?_
 rintro e w' ⟨rfl,ys,E1,f,hpw,hV1,q⟩
 refine⟨_,_,rfl,q,?_⟩
 refine J5 ?_
 refine zK CkO U<|λw2 d=>?_
 rw[<- f.length_eq]
 refine(PV D F w2 (v.AE++L) E1 G c ys pfE OV hV1 d (by rw[f.length_eq];omega)).mono ?_
 rintro e w' ⟨E2,rfl,hV2,q⟩
 refine⟨_,_,rfl,q,?_⟩
 refine J4 ?_
 refine eT1 ?_
 refine λw' h=>?_
 have l:∀x,x∈uniq pfE ys<->x∈o:=λx=>by rw[SI λa _ b _ h=>PfL.inj ((OV a b).1 h)];exact f.mem_iff
 have hin:∀p∈uniq pfE ys,p∈v.S:=λp f=>by
  obtain⟨B,i,m,z,Z⟩:=u p ((l p).1 f)
  exact(hO.ins m (Do z)).rib p B.1 B.2 Z
 exact⟨uniq pfE ys,G,c,E2,rfl,hV2,λp f=>(u p ((l p).1 f)).1,hin,λp B h2=>⟨λf=>(u p ((l p).1 f)).2,λ⟨i,m,z,Z⟩=>(l p).2 (J p B h2 i m (by have:=(Eu.1 z).1;omega) z Z)⟩,XH hpw,AcC (PC (XH hpw) hin) t,h⟩

def DelI(f:FuncId)(a:Array Vl)(d:Int->Bool)(p:Nat->Prop)(h:Wd)(g:Nat)(L:eL):Prop :=
 ∀(w:Wd) (b:vL) (M:eL) (x:Int),St p h w (M++(.row g b::L))->Cl f (#[]++[iI x].toArray++a) w λe c=>e=.returned (.bool (d x))/\Frm Fx w c
theorem AaC{a:List Int}{R:vL}(h:a[B]?=some N):(CN a++R)[B]?=some (iI N):=by
 rw[Ae9 (by rw[HJ];exact(Eu.1 h).1)]
 exact Ip h
theorem Aer{a:List Int}{R:vL}(h:B<a.length):(CN a++R).set B (iI N)=CN (a.set B N)++R:=by
 rw[List.set_append_left _ _ (by rw[HJ];exact h)]
 congr 1
 unfold CN
 rw[List.map_set]
theorem RR(a:List Int)(k:Nat)(R:vL)(h:k<=a.length):(CN a++R).take (k*1)=CN (a.take k):=by
 rw[Aed,Aiv (by rw[HJ];exact h)]
 unfold CN
 rw[List.map_take]
theorem IdxI_d(p:Nat->Prop)(q w:Wd)(L:eL)(g c:Nat)(a:List Int)(R:vL)(f:FuncId)(l:Array Vl)(b:FJ prog f)(d:Int->Bool)(z:DelI f l d p q g L)(n:St p q w (.row g (CN a++R)::L))(_:a.length<=c)(C:a.length<=1000000):
 Cl 280 #[.slice (aG g) a.length c,.func (.func f) #[] l] w λe w'=>∃i:Int,e=.returned (iI i)/\Z0 d a i/\St p q w' (.row g (CN a++R)::L):=by
 refine enter func280 U ntmps280 U n<|J14 ?_
 refine oLp (λk:Nat=>[(8,iI k),(7,iI a.length),(0,.slice (aG g) a.length c),(1,.func (.func f) #[] l)]) (λ_=>.row g (CN a++R)::L) (λk=>k<=a.length/\∀(j:Nat) (x:Int),j<k->a[j]?=some x->d x=false) (λk=>a.length-k) 0 ⟨Lv _,λj x h=>absurd h (Ac5 _)⟩ ?_
 rintro k ⟨hk,hne⟩
 refine J2 ?_
 refine JT (λu=>?_) λu=>?_
 refine J10 ?_
 obtain⟨x,hx⟩:∃x,a[k]?=some x:=Gx
 refine J9 ?_
 refine zV (AA (lo:=k) U U U underlying34 AZ W W) U<|zV (An U U i3o.h ((cellAt (by rw[PP,Aed];exact AaC hx)))) U ?_
 refine WL.FQ U U U b (.none U) U U<|λB r=>(z B _ [] x r).mono ?_
 rintro e w' ⟨rfl,v⟩
 refine⟨_,_,rfl,r.ext v,?_⟩
 generalize hb16:d x=m
 cases m
 refine J10 ?_
 exact eW (k+1) W ⟨W,λj y t hy=>by
 by_cases o:j=k
 .subst o;rw[hx] at hy;cases hy;exact hb16
 .exact hne j y W hy⟩
 exact Bv
 refine J15 ?_
 refine eT1 ?_
 exact λw' h=>⟨_,rfl,.inl ⟨rfl,λx A=>by
 obtain⟨j,t,e⟩:=List.mem_iff_getElem.1 A
 exact hne j x W (by rw[<- e];exact FS t)⟩,h⟩
structure DeI where
 i:Nat
 j:Nat
 ys:List Int
theorem DelI_d(p:Nat->Prop)(D w:Wd)(L:eL)(g c:Nat)(a:List Int)(R:vL)(f:FuncId)(B:Array Vl)(m:FJ prog f)(d:Int->Bool)(S:DelI f B d p D g L)(H:St p D w (.row g (CN a++R)::L))(q:a.length<=c)(hcl:(CN a++R).length=c*1)(hn:a.length<=1000000):
 Cl 205 #[.slice (aG g) a.length c,.func (.func f) #[] B] w λe A=>∃P:eL,e=.returned (.slice (aG g) (a.filter λx => !d x).length c)/\Vec 1 (aG g) (a.filter λx => !d x).length c (CN (a.filter λx => !d x)) P/\St p D A (P++L):=by
 have hel:=HJ a
 rw[AC,hel] at hcl
 refine enter func205 U ntmps205 U H<|J9 ?_
 refine zK CkO U<|λO C=>(IdxI_d p D O L g c a R f B m d S C q hn).mono ?_
 rintro e A ⟨i,rfl,y,G⟩
 refine⟨_,_,rfl,G,?_⟩
 refine J7 ?_
 refine JT (λu=>?_) λu=>?_
 refine J11 ?_
 refine eT1 ?_
 have X:a.filter (λx => !d x)=a:=(by
  rcases y with⟨_,h⟩|⟨k,e,_⟩
  .exact filter_none h
  .omega)
 rw[X]
 exact λA h=>⟨[.row g (CN a++R)],rfl,Vec.row (by have:=RR a a.length R (M2 _);rwa [Ah6] at this) Fm q,h⟩
 refine J8 ?_
 obtain⟨k,rfl,hk,v,J⟩:∃k:Nat,i=(k:Int)/\k<a.length/\(∀(j:Nat) (x:Int),j<k->a[j]?=some x->d x=false)/\∀x,a[k]?=some x->d x=true:=(by
 rcases y with⟨e,_⟩|h
 .exact absurd e u
 .exact h)
 refine J6 ?_
 refine oLp (λx:DeI=>[(6,iI x.j),(5,iI x.i),(0,.slice (aG g) a.length c),(1,.func (.func f) #[] B)]) (λx=>.row g (CN x.ys++R)::L) (λx=>x.ys.length=a.length/\x.i<x.j/\x.j<=a.length/\x.ys.take x.i=(a.take x.j).filter (λx => !d x)/\∀t,x.j<=t->x.ys[t]?=a[t]?) (λx=>a.length-x.j) ⟨k,k+1,a⟩ ⟨rfl,Aip _,hk,(Ou hk v J).symm,λ_ _=>rfl⟩ ?_
 rintro⟨i,j,r⟩ ⟨b,K,Z,l,n⟩
 dsimp only at b K Z l n⊢
 have hely:=HJ r
 refine J6 ?_
 refine JT (λF=>?_) λF=>?_
 refine J9 ?_
 obtain⟨x,hx⟩:∃x,a[j]?=some x:=Gx
 have N:r[j]?=some x:=(by rw[n j (M2 _)];exact hx)
 have z:a.take (j+1)=a.take j++[x]:=F1
 refine J2 ?_
 refine zV (AA (lo:=j) U U U underlying34 AZ W W) U<|zV (An U U i3o.h ((cellAt (by rw[PP,Aed];exact AaC N)))) U ?_
 refine J7 ?_
 refine WL.FQ U U U m (.none U) U U<|λO C=>(S O _ [] x C).mono ?_
 rintro e A ⟨rfl,T⟩
 refine⟨_,_,rfl,C.ext T,?_⟩
 generalize o:d x=E
 cases E
 refine J9 ?_
 refine zV (AA (lo:=i) U U U underlying34 AZ W W) U<|WL.DX U U U U i3o.h Eg (.none U) U ?_
 refine WL.as (L':=.row g (CN (r.set i x)++R)::L) (by rw[PP,Aed,Aer (W)]) ?_
 refine J14 ?_
 exact eW ⟨i+1,j+1,r.set i x⟩ C7 ⟨by dsimp only;rw[AbI];exact b,C7,C7,by
 dsimp only
 rw[z,List.filter_append,List.filter_cons_of_pos (by rw[o];rfl),List.filter_nil, <- l,Ahz Dm,List.take_set_of_le (M2 _),List.getElem_set_self],λt M=>by dsimp only at M ⊢;rw[Adq W];exact n t W⟩
 refine J12 ?_
 exact eW ⟨i,j+1,r⟩ C7 ⟨b,C7,C7,by
 dsimp only
 rw[z,List.filter_append,List.filter_cons_of_neg (by rw[o];decide),List.filter_nil,Acx];exact l,λt M=>by dsimp only at M ⊢;exact n t W⟩
 refine J12 ?_
 refine zV (HB (lo:=i) U U U underlying34 AZ W W W) U<|WL.clear (s:=1) U U underlying34 G0 U U Eg (.none U) U ?_
 refine J6 ?_
 refine zV (Hv (hi:=i) U U U underlying34 AZ W W) U<|J4 ?_
 refine eT1 ?_
 obtain rfl:j=a.length:=W
 rw[Ah6] at l
 have Q:(a.filter λx => !d x).length=i:=(by rw[<- l,Ahp];omega)
 refine λA h=>⟨[.row g _],by rw[Q],?_,h⟩
 rw[Q, <- l]
 refine Vec.row ?_ ?_ W
 .rw [PP,JU (by rw[Ii,AC,hely,b];show _+(a.length-i)*1<=_;omega)]
  exact RR r i R W
 .rw [DZ _ _ _ (by rw[Ii,AC,hely,b];show _+(a.length-i)*1<=_;omega),AC,hely,b]
  exact hcl

theorem Agk(d:Wd)(a:Option Addr)(c:Nat)(f:FuncId)(b:Array Vl):
 Cl 205 #[.slice a 0 c,.func (.func f) #[] b] d (RvF (.slice a 0 c) d):=by
 have e:∀w:Wd,Cl 280 #[.slice a 0 c,.func (.func f) #[] b] w (RvF (iI (-1)) w):=λw=>by
  refine en0 func280 U ntmps280 U<|J14 ?_
  refine oLp (λ_:Nat=>[(8,iI 0),(7,iI 0),(0,.slice a 0 c),(1,.func (.func f) #[] b)]) (λ_=>[]) (λ_=>True) (λk=>k) 0 trivial ?_
  rintro k -
  refine J2 ?_
  refine zV ((JF U U U).f W) U<|J15 ?_
  exact Aw
 refine en0 func205 U ntmps205 U<|J9 ?_
 refine zk CkO U (λw g=>e w)<|J7 ?_
 refine zV ((Ae U U U).t (rfl)) U<|J11 ?_
 exact Aw
def VD(own:Int)(x:Int):Bool:=if x / 65536=0 then true else decide (x / 65536=own)
theorem Adj(a:Wd)(g d:Nat)(own:Int)(bl:List Bool)(x:Int)(f:a.cell? ⟨g,0,none⟩=some (pG d))(e:Row a d (fiL own bl)):
 Cl 206 #[iI x,pG g] a (RvF (.bool (VD own x)) a):=by
 refine en0 func206 U ntmps206 U<|J8 ?_
 refine zV (IP (m:=16) (c:=65536) U U U U (by show 16<=64;omega) U) U ?_
 refine JT (λb=>?_) λb=>?_
 refine J13 ?_
 refine eT1 ?_
 exact λi h=>⟨by unfold VD;rw[IR b],h.frm⟩
 refine J2 ?_
 refine zS (IP (m:=16) (c:=65536) U U U U (by show 16<=64;omega) U) U ?_
 refine zS (An U U OS ((BY (λh=>h) f))) U<|J2 ?_
 refine zS (An U U i3o.h ((BO (λh=>h) e U))) U<|zS (Ae U U U) U<|?_
 refine J5 ?_
 refine eT1 ?_
 exact λi h=>⟨by unfold VD;rw[E9 b],h.frm⟩
theorem AbF(n:Wd)(i:Nat)(own:Int)(bl:List Bool)(a:AtL)(A:Row n i (fiL own bl))(P:a.At n)(E:a.Zs):
 Cl 115 #[pG i,aA a.cells] n λe m=>∃b:AtL,e=.returned (aA b.cells)/\Frm Fx n m:=by
 have aa:=E.comms
 refine en0 func115 U ntmps115 U<|J2 ?_
 refine zx U U U U U<|λk T=>zx U U U U U<|λl X=>zy U HR U U<|λt Z=>J5 ?_
 refine zK CkO U<|λq o=>(I2 q a (P.frm (o.rng λ_ h=>h)) E).mono ?_
 rintro e m ⟨b,y,C,rfl,f,R,Q,d⟩
 refine⟨_,_,rfl,o.join d,?_⟩
 refine J1 ?_
 have B:b.comms.length<=1000000:=(by
  unfold AtL.say at f
  rw[Kf.mk.injEq] at f
  rw[f.2.2.2.2.2.2.2.2.1];omega)
 refine WL.to (L':=.row l b.cells::.row k [pG i]::.row t AtL.zero.cells::y) (λw h=>St.AN (L:=(y++C)++[.row t AtL.zero.cells,.row l b.cells,.row k [pG i]]) C h)<|J5 ?_
 refine zV (An U U OS (cellAt (g:=k) (v:=pG i) U)) U<|zV (AI false U U underlying143 U) U<|?_
 refine J8 ?_
 refine zV (An U U S3.h (cellAt (g:=l) (v:=.slice b.cad b.comms.length b.cc) U)) U<|zV (GO U U U) U<|zK CkO U<|?_
 intro q o
 have S:Cl 205 #[.slice b.cad b.comms.length b.cc,.func (.func 206) #[] #[pG k]] q λe m=>∃(u:List Int) (c:Nat),e=.returned (.slice b.cad u.length c)/\St Fx n m [.row l b.cells,.row k [pG i],.row t AtL.zero.cells]:=(by
  by_cases s:b.comms=[]
  .rw [s]
   refine(Agk q b.cad b.cc _ _).mono ?_
   rintro e m ⟨rfl,A⟩
   exact⟨[],b.cc,rfl,(o.sub (Acy [_,_,_] _)).ext A⟩
  .obtain ⟨g,j,G,H,J,K,N⟩:∃g j,b.cad=aG g/\y=[.row g j]/\j.take (b.comms.length*1)=CN b.comms/\j.length=b.cc*1/\b.comms.length<=b.cc:=(by
    rcases R with⟨_,h,_⟩|h
    .exact absurd (List.eq_nil_of_length_eq_zero h) s
    .exact h)
   have D:j=CN b.comms++j.drop (b.comms.length*1):=(by rw[<- J,AeN])
   rw[G]
   have O:St Fx n q (.row g (CN b.comms++j.drop (b.comms.length*1))::[.row l b.cells,.row k [pG i],.row t AtL.zero.cells]):=(by rw[<- D];rw[H] at o;exact o.AJ)
   refine(DelI_d Fx n q _ g b.cc b.comms _ 206 #[pG k] CkO (VD own) (λw j M x r=>Adj w k i own bl x (Row.cell (cs:=[pG i]) (r.holds (.row k [pG i]) C9) U) (A.st r)) O N (by rw[<- D];exact K) B).mono ?_
   rintro e m ⟨E2,rfl,_,d⟩
   exact⟨_,_,rfl,d.sub (Ai9 _ _)⟩)
 refine S.mono ?_
 rintro e m ⟨u,F,rfl,d⟩
 refine⟨_,_,rfl,d,?_⟩
 refine J8 ?_
 refine zV (An U U S3.h (cellAt (g:=l) (v:=.slice b.cad u.length F) U)) U<|J1 ?_
 refine JT (λz=>?_) λz=>?_
 refine J11 ?_
 refine zV (An U U i3o.h (cellAt (g:=l) (v:=iI b.has) U)) U<|zV (HO U U U (rfl)) U<|?_
 refine J13 ?_
 refine zV (An U U i3o.h (cellAt (g:=l) (v:=iI (bits .andNot .i64 b.has 256)) U)) U<|zV (HO U U U (rfl)) U<|?_
 refine J11 ?_
 refine eT1 ?_
 exact λm h=>⟨{ b with has:=bits .andNot .i64 (bits .andNot .i64 b.has 256) 32,loc:=0,cad:=none,cc:=0,comms:=[] },rfl,h.frm⟩
 refine J14 ?_
 refine zV (An U U i3o.h (cellAt (g:=l) (v:=iI b.has) U)) U<|zV (HO U U U (rfl)) U<|?_
 refine J11 ?_
 refine eT1 ?_
 exact λm h=>⟨{ b with has:=bits .andNot .i64 b.has 32,loc:=0,cc:=F,comms:=u },rfl,h.frm⟩
theorem Adh(b:Wd)(v:Sv)(x:RtL)(f:SvH v b)(i:x.a.At b)(n:x.a.Zs):
 Cl 56 #[pG v.s,aA x.cells] b λe d=>∃r:RtL,e=.returned (aA r.cells)/\Frm Fx b d:=by
 refine en0 func56 U ntmps56 U<|J2 ?_
 refine zx U U U U U<|λq k=>zy U GK.h U U<|λt l=>J6 ?_
 refine zV (AI false U U underlying63 U) U<|J6 ?_
 refine WC.AS mixed<|rF 5 [0,1,2,4]<|?_
 refine J5 ?_
 refine rA 3 [3,5] U<|qV (An U U OS ((BO (λh=>h) f.s U))) U<|qV (AB (cs:=x.a.cells) U U JZ.h U (AT (m:=10) U)) U<|?_
 refine J1 ?_
 refine rO 2 [6]<|zK CkO U<|?_
 intro o c
 refine(AbF o v.gf v.own v.bl x.a (f.gf.st c) (i.frm (c.rng λ_ h=>h)) n).mono ?_
 rintro e d ⟨g,rfl,j⟩
 refine⟨_,_,rfl,c.ext j,?_⟩
 refine J1 ?_
 refine rF 1 [7]<|J2 ?_
 refine rO 0 [8]<|WL.FN U U U U JZ.h U Dn (.none U) U ?_
 refine J10 ?_
 refine eT1 ?_
 exact λd h=>⟨⟨x.peer,x.net,g⟩,rfl,h.frm⟩
theorem Aaa(d:Wd)(v:Sv)(n:Nat)(m:Mb)(p:PfL)(q:SvH v d)(E:v.Ok)(i:v.ms[n]?=some m)(S:U32 p.addr)(D:BP p=true):
 Cl 55 #[pG v.s,iI n,aA p.cells] d λe t=>∃(r:RtL) (K:eL),e=.returned (.tuple #[aA r.cells,.bool (m.BM (aA p.cells)).isSome])/\((m.BM (aA p.cells)).isSome=true->G1 K r.a)/\St Fx d t K:=by
 have R:=E.n
 obtain⟨L,M,y⟩:=(E.maps (Do i)).best
 have l:Row d m.g m.cells:=q.ms n m i _ Fr
 have j:d.heap[m.bm]?=some (.map m.bes m.bc):=(q.ms n m i (.obj m.bm (.map m.bes m.bc)) (by unfold Mb.AE;simp)).1
 have x:∀e∈m.K,e.holds d:=λe N=>q.ms n m i e (by unfold Mb.AE;simp[N])
 obtain⟨c,k,b⟩:∃c:RtL,(m.BM (aA p.cells)).getD (.agg (RtL.cells ⟨0,⟨0,0⟩,.zero⟩).toArray)=aA c.cells/\((m.BM (aA p.cells)).isSome=true->G1 m.K c.a):=by
  cases h:m.BM (aA p.cells) with
  | none=>exact⟨_,rfl,λh=>by cases h⟩
  | some u=>obtain⟨r,e,T⟩:=y _ _ h;exact⟨r,e,λ_=>T⟩
 generalize f:(m.BM (aA p.cells)).isSome=C at b ⊢
 refine en0 func55 U ntmps55 U<|J2 ?_
 refine zx U U U U U<|λX O=>zy U GK.h U U<|λZ P=>J7 ?_
 refine zk CkO U (λw o=>Jw w v n m (q.st o) R.2 i)<|J7 ?_
 refine zV (AI false U U underlying148 U) U<|J6 ?_
 refine WC.AS mixed<|rF 9 [0,1,2]<|?_
 refine J4 ?_
 refine WR.mix (g:=2) 9 [3,4,5,6,7] [8] U GK.h U U U C6 C6<|zm (An U U OU ((BO (λh=>h) l U))) U<|zm (AB U U DD.h U AL) U<|?_
 refine zm (ED (z:=.agg (RtL.cells ⟨0,⟨0,0⟩,.zero⟩).toArray) U U U underlying151 DH (KPf.mk D S) C6 (Y1 (λ_ h=>h) (.inr ⟨m.bm,m.bc,rfl,j⟩)) L) U ?_
 rw[k,f]
 refine zm (DG U U) U<|zm (CB U U U) U<|WM.nil<|?_
 refine J1 ?_
 refine WP.NU<|λg9 Q=>rO 1 [10]<|J2 ?_
 refine rF 0 [11]<|J8 ?_
 skip
 cases C
 refine J13 ?_
 refine eT2 ?_
 exact λt h=>⟨⟨0,⟨0,0⟩,.zero⟩,[],rfl,λh=>Da,h.sub (Aix _)⟩
 refine J9 ?_
 refine zK CkO U<|λG o=>(AbG G c ((b U).1 G (JP x o)) (b U).2).mono ?_
 rintro e t ⟨J,H,rfl,F,A,B⟩
 refine⟨_,_,rfl,o.join B,?_⟩
 refine J5 ?_
 refine eT2 ?_
 exact λt h=>⟨⟨c.peer,c.net,J⟩,H,rfl,λ_=>A,h.sub (Acy _ _)⟩

theorem Vg{g j:Type}{f:g->j}:∀ {c:List g},(c.map f).Nodup->∀ {x y:g},x∈c->y∈c->f x=f y->x=y
 | [],_,_,_,h,_,_=>by cases h
 | a::c,i,x,y,hx,b,e=>by
  have d:=List.nodup_cons.1 (show(f a::c.map f).Nodup from i)
  rcases Rl.1 hx with hx|hx<;>rcases Rl.1 b with b|b
  .rw [hx,b]
  .rw [hx] at e;exact absurd (by rw[e];exact Ab5 b) d.1
  .rw [b] at e;exact absurd (by rw[<- e];exact Ab5 hx) d.1
  .exact Vg d.2 hx b e
structure Kj(es:Array MapEntry)(seen:Array Nat)(ps:List PfL):Prop where
 nd:ps.Nodup
 mem:∀p,p∈ps<->∃e∈es.toList,e.key=aA p.cells/\e.born∈seen.toList
theorem Kj.nil(a:Array MapEntry):Kj a #[] []:=⟨List.nodup_nil,λp=>⟨λh=>Da,λ⟨e,_,_,h⟩=>(by simp at h)⟩⟩
theorem Kj.push{g:Array MapEntry}{seen:Array Nat}{r:List PfL}{M:Vl->Option Vl}(h:Kj g seen r)(t:CP KPf g M){c:Nat}(o:MapKept.Stamped g c){e:MapEntry}(l:e∈g.toList)(v:e.born ∉ seen.toList){p:PfL}(n:e.key=aA p.cells):Kj g (seen.push e.born) (r++[p]):=by
 refine⟨?_,λq=>?_⟩
 .rw [List.nodup_append]
  refine⟨h.nd,List.nodup_cons.2 ⟨C9,List.nodup_nil⟩,?_⟩
  rintro a u b j rfl
  rw[Es] at j
  subst j
  obtain⟨f,m,hk,w⟩:=(h.mem a).1 u
  have:=Vg t.nodup m l (hk.trans n.symm)
  subst this
  exact v w
 .rw [LI,Es,Array.toList_push,h.mem q]
  constructor
  .rintro (⟨f,k,i,d⟩|rfl)
   .exact ⟨f,k,i,Ha _ d⟩
   .exact ⟨e,l,n,Mu _ (Es.2 U)⟩
  .rintro ⟨f,k,i,d⟩
   rcases LI.1 d with d|d
   .exact .inl ⟨f,k,i,d⟩
   .have s:f=e:=Vg o.2.1 k l (Es.1 d)
    rw[s] at i
    exact .inr (EE (i.symm.trans n))
theorem Kj.all{d:Array MapEntry}{seen:Array Nat}(h:Kj d seen D)(f:CP KPf d L)(a:∀e∈d.toList,e.born∈seen.toList)(p:PfL):p∈D<->L (aA p.cells)≠none:=by
 rw[h.mem p]
 constructor
 .rintro ⟨e,b,hk,_⟩ c
  rw[(f.get _ _).2 ⟨e,b,hk,rfl⟩] at c;cases c
 .intro c
  cases g:L (aA p.cells) with
  | none=>exact absurd g c
  | some u =>
   obtain⟨e,b,hk,_⟩:=(f.get _ _).1 g
   exact⟨e,b,hk,a e b⟩
structure NwS where
 seen:Array Nat
 ps:List PfL
 ad:Option Addr
 c:Nat
 E:eL
theorem Agw(J:Nat->Prop)(M w1:Wd)(v:Sv)(n:Nat)(m:Mb)(L:eL)(H:v.Ok)(i:v.ms[n]?=some m)(hS0:St J M w1 (v.AE++L)):
 Cl 54 #[pG v.s,iI n] w1 λe w'=>∃(v':Sv) (l:List PfL) (N:Option Addr) (c:Nat) (E:eL),e=.returned (.slice N l.length c)/\PfV N c l E/\FP l/\l.Nodup/\l.length<=5000/\(∀p,p∈l<->m.NM (aA p.cells)≠none)/\GH v v' (λ_ t=>t)/\(∃d,v'.ms[n]?=some d/\d.BM=m.BM/\∀q,d.NM q=none)/\St J M w' (E++(v'.AE++L)):=by
 have hn:=H.n
 have X:=H.few
 have Z:=H.maps (Do i)
 have z:=H.ins m (Do i)
 obtain⟨hN,A,hNv⟩:=Z.news
 have hS1:St J M w1 (.row m.g m.cells::.row v.s [.slice (aG v.mb) v.ms.length v.mc,pG v.gf]::.row v.mb (v.FL++v.R)::.row v.gf (fiL v.own v.bl)::(m.rib.AE++(.obj m.bm (.map m.bes m.bc)::.obj m.nm (.map m.nes m.nc)::(m.K++(v.rest n++L))))):=Sv.opened i hS0
 refine enter func54 U ntmps54 U hS1<|J9 ?_
 refine zk CkO U (λw P=>Jw w v n m (Sv.T5 i P) hn.2 i)<|J7 ?_
 refine zV (AI false U U underlying148 U) U<|J16 ?_
 refine zV (An U U Nh (cellAt (g:=m.g) (v:=.map (some m.nm)) U)) U<|WL.range (es:=m.nes) (c:=m.nc) U U underlying152 C9 (.none U) U U<|λo hg17=>J3 ?_
 refine oLp (λx:NwS=>[(17,pG o),(6,.slice x.ad x.ps.length x.c),(5,pG m.g)]) (λx=>x.E++(.obj o (.mapIter (some m.nm) m.nc x.seen m.nc)::.row m.g m.cells::.row v.s [.slice (aG v.mb) v.ms.length v.mc,pG v.gf]::.row v.mb (v.FL++v.R)::.row v.gf (fiL v.own v.bl)::(m.rib.AE++(.obj m.bm (.map m.bes m.bc)::.obj m.nm (.map m.nes m.nc)::(m.K++(v.rest n++L)))))) (λx=>PfV x.ad x.c x.ps x.E/\Kj m.nes x.seen x.ps/\FP x.ps/\∀p∈x.ps,p∈v.S) (λx=>JD m.nes x.seen) ⟨#[],[],none,0,[]⟩ ⟨Vec.nil 2,Kj.nil _,λp h=>Da,λp h=>Da⟩ ?_
 rintro⟨seen,l,N,c,E⟩ ⟨hV,j,F,C⟩
 dsimp only at hV j F C⊢
 have hpl:l.length<=5000:=AcC (PC j.nd C) X
 refine J2 ?_
 refine WL.next U U C9 (A) (.none U) U U (λB=>?_) λf a y=>?_
 refine J15 ?_
 refine zV (An U U Nh (cellAt (g:=m.g) (v:=.map (some m.nm)) U)) U<|WL.WB U U underlying152 (.none U) U<|?_
 refine J5 ?_
 refine zK CkO U<|λw2 P=>(N7 J M w2 _ E N c l hV P W).mono ?_
 rintro e w' ⟨rfl,ys,E1,hp,hpw,hV1,hS'⟩
 refine⟨_,_,rfl,hS',?_⟩
 refine J9 ?_
 refine eT1 ?_
 refine λw' h=>?_
 have h2:St J M w' (.row m.g m.cells::.row v.s [.slice (aG v.mb) v.ms.length v.mc,pG v.gf]::.row v.mb (v.FL++v.R)::.row v.gf (fiL v.own v.bl)::(m.rib.AE++(.obj m.bm (.map m.bes m.bc)::.obj m.nm (.map #[] m.nc)::(m.K++(v.rest n++(E1++L)))))):=St.AN [.obj o (.mapIter (some m.nm) m.nc seen m.nc)] h
 have h3:=Sv.closed (m':={ m with nes:=#[],NM:=λ_=>none }) i U h2
 have hO2:(v.put n { m with nes:=#[],NM:=λ_=>none }).Ok:=H.put i (H.rib n m i) ⟨Z.best,CP.empty _,MapKept.stamped_empty _,λk u h=>by cases h⟩ ⟨z.rib,z.best,λq h=>absurd U h⟩
 have T:∀(k:Nat) (x:Mb),v.ms[k]?=some x->∃d:Mb,(v.put n { m with nes:=#[],NM:=λ_=>none }).ms[k]?=some d/\d.sy=x.sy/\d.BM=x.BM/\d.there=x.there:=λk x G=>by
  by_cases e:k=n
  .subst e;rw[i] at G;cases G
   exact⟨_,Sv.HL i,rfl,rfl,rfl⟩
  .exact ⟨x,by rw[Sv.HM e];exact G,rfl,rfl,rfl⟩
 exact⟨v.put n { m with nes:=#[],NM:=λ_=>none },ys,N,c,E1,by rw[hp.length_eq],hV1,λq b=>F q (hp.mem_iff.1 b),hp.nodup_iff.2 j.nd,by rw[hp.length_eq];exact hpl,λq=>hp.mem_iff.trans (j.all hN B q),⟨rfl,Sv.Ie,rfl,hO2,λq _ _ b=>Np Sv.Ie (λk x G=>let ⟨d,e1,e2,e3,_⟩:=T k x G; ⟨d,e1,e2,e3⟩) (λto sy h=>(AeZ (m':={ m with nes:=#[],NM:=λ_=>none }) i U).1 h) b,λk x G=>let ⟨d,e1,_,_,e4⟩:=T k x G; ⟨d,e1,e4⟩⟩,⟨_,Sv.HL i,rfl,λ_=>rfl⟩,h3.AJ⟩
 refine J1 ?_
 obtain⟨p,D,hpok,hpU⟩:=hN.keys f a
 refine J9 ?_
 refine zV ((LL U U (es:=m.nes) (g:=m.nm) (c:=m.nc) (since:=m.nc) (seen:=seen) C9 C9 A a).eq (v:=.tuple #[aA p.cells,f.val]) (by rw[D])) U ?_
 refine J1 ?_
 refine zy U FZ.h U U<|λg7 hg7=>J6 ?_
 refine zB underlying32 BT FZ.h U U<|λr hg24=>?_
 obtain⟨T0,hT0⟩:∃T0:eL,T0=.obj o (.mapIter (some m.nm) m.nc (seen.push f.born) m.nc)::.row m.g m.cells::.row v.s [.slice (aG v.mb) v.ms.length v.mc,pG v.gf]::.row v.mb (v.FL++v.R)::.row v.gf (fiL v.own v.bl)::(m.rib.AE++(.obj m.bm (.map m.bes m.bc)::.obj m.nm (.map m.nes m.nc)::(m.K++(v.rest n++L)))):=⟨_,rfl⟩
 refine WL.to (L':=E++(.row r p.cells::T0)) (λw h=>by
  have h1:St J M w (.row r p.cells::.row g7 p.cells::(E++T0)):=Fp
  exact St.AN [.row g7 p.cells] h1) ?_
 refine WL.AU U U U underlying32 underlying32 BT P6 FZ.h U U hV (new:=p.cells) (λ_=>⟨r,0,rfl,λw P=>AL (g:=r) w P⟩) U (BD PfL.one _) W (.none U) U U<|λO c25 E25 Q hr25=>J3 ?_
 exact WE.next ⟨seen.push f.born,l++[p],O,c25,E25⟩ (HA a y) ⟨by dsimp only;unfold PfV;rw[AX,AC];exact Q,j.push hN A a y D,λq b=>by
 rcases LI.1 b with b|b
 .exact F q b
 .rw [Es.1 b];exact⟨hpok,hpU⟩,λq b=>by
 rcases LI.1 b with b|b
 .exact C q b
 .rw [Es.1 b]
  obtain⟨p',h1,h2⟩:=z.news f.key (by rw[(hN.get _ _).2 ⟨f,a,rfl,rfl⟩];intro e;cases e)
  rw[D] at h2
  rw[EE h2];exact h1⟩ (.cons U (.eq U Dl (.cons U .nil))) Dv
end Gq
end Go.Proofs.YtmhahajadgkolaaGreatDoor
