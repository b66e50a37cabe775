/- Joined texts. -/
import Derived.Test.YtmhahajadgkolaaGreatDoorBnSdxTells
set_option maxHeartbeats 4000000
namespace Go.Proofs.YtmhahajadgkolaaGreatDoor
open Go.RowKit Tryz
variable{A:Wd}{B:Nat}{D:Vl}{E:vL}{F:Type}{G:TypeId}{H:Program}{J:Option Addr}
section Gq
attribute [local irreducible] WL WC WE WQ WP WH WR WM WRH

/-! ### An exchange that is none -/
theorem YR(h:GW A):GWv A:=λi v b=>by
 have a:i<9:=(Eu.1 b).1
 have c:=h i a
 have d:some (Value.int .i64 (wdN i))=some v:=by
  rw[<- b]
  match i,a with
  | 0,_|1,_|2,_|3,_|4,_|5,_|6,_|7,_|8,_=>rfl
 rw[c,d]
section
variable {P:Program}{C:Wd->Prop}{n:Nat}{o:Oper}{l:Kn}{x y:Operand}{t yt:TypeId}
end

noncomputable def fitL(y:SdL):List PfL:=@ite _ y.Fit (Classical.propDecidable _) (y.m.gone++y.m.nets) []
theorem WO{y:SdL}(h:y.Fit):fitL y=y.m.gone++y.m.nets:=@IR _ (Classical.propDecidable _) h _ _ _
theorem Aee(y:SdL):(fitL y).length<=24:=by
 by_cases h:y.Fit
 .rw [WO h,AC]
  have:=h.gone
  have:=h.nets
  omega
 .rw [show fitL y=[] from @E9 _ (Classical.propDecidable _) h _ _ _]
  exact Lv _
noncomputable def S6(a:List SdL):List PfL:=(a.take 12).flatMap fitL
theorem Ae6(a:List SdL):(S6 a).length<=5000:=by
 have:∀l:List SdL,(l.flatMap fitL).length<=l.length*24:=λl=>by
  induction l with
  | nil=>exact M2 _
  | cons y l c =>
   rw[List.flatMap_cons,AC,Acg]
   have:=Aee y
   omega
 have b:=this (a.take 12)
 rw[Ahp] at b
 unfold S6
 omega
theorem Ae7{a:List SdL}{y:SdL}(e:a[B]?=some y)(b:B<12)(d:y.Fit):(∀p∈y.m.gone,p∈S6 a)/\∀p∈y.m.nets,p∈S6 a:=by
 have f:y∈a.take 12:=Do (i:=B) (by rw[Agg,IR b];exact e)
 refine⟨λp c=>?_,λp c=>?_⟩<;>unfold S6<;>refine List.mem_flatMap.2 ⟨y,f,?_⟩<;>rw[WO d]
 .exact Ha _ c
 .exact Mu _ c
structure TlS where
 j:Nat
 x:SxL
 v:Sv
theorem Afn{e:Type}{a b:List e}(c:a.Nodup)(d:b.Nodup)(h:∀p,p∈a<->p∈b):a.length=b.length :=
 ((List.perm_ext_iff_of_nodup c d).2 h).length_eq
def Uj(x:SxL)(k:Nat)(p:PfL):Bool:=(x.at_ k (aA p.cells)).isSome
def Rw(f:F->Bool)(l:List F):Nat:=(l.filter f).length
theorem Tw{b:Type}{f:b->Bool}{l:List b}{a:b}(h:l[B]?=some a):Rw f (l.take (B+1))=Rw f (l.take B)+if f a then 1 else 0:=by
 unfold Rw
 rw[AhG,h,Aiw,List.filter_append,AC]
 cases c:f a<;>simp[c]
theorem Aam(f:F->Bool)(l:List F):Rw f l<=l.length:=List.length_filter_le _ _
theorem WD(f:F->Bool)(l:List F):Rw (λa => !f a) l=((l.map f).filter λb => !b).length:=by
 unfold Rw
 rw[List.filter_map,Ri]
 rfl
theorem Zu{x R:SxL}{s:MpL}{E:Mb}{c:List AdL}{f:List PfL}(h:x.sp[B]?=some s)(g:x.v.ms[B]?=some E)(K:AdvP x R B s E c)(L:f.Nodup)
 (i:∀p,BP p=true->U32 p.addr->(p∈f<->V1 x.v p)) (_:FP f) (D:∀q,x.at_ B q≠none->NewP x B q):Rw (λa:AdL => !a.gone) c=Rw (Uj x B) f:=by
 obtain⟨S,r,O,k,j⟩:=K.all_
 rw[WD AdL.gone,show c.map (λa=>a.gone)=_ from j, <- WD]
 refine Afn (r.filter _) (L.filter _) λp=>?_
 rw[Aig,Aig]
 have d:x.at_ B (aA p.cells)=s.M (aA p.cells):=SxL.CM h _
 unfold Uj
 rw[d]
 constructor
 .rintro ⟨_,b⟩
  simp only[Bool.not_not,Hr] at b
  refine⟨?_,b.1⟩
  obtain⟨Q,z,F,G,_⟩:=D (aA p.cells) (by rw[d];intro e;rw[e] at b;cases b.1)
  obtain rfl:=EE F
  exact(i p z.ok z.u).2 G
 .rintro ⟨_,b⟩
  obtain⟨Q,_,_,_,m,A,H,J⟩:=D (aA p.cells) (by rw[d];intro e;rw[e] at b;cases b)
  rw[g] at A
  cases A
  refine⟨(k p).2 H,?_⟩
  simp only[Bool.not_not,Hr]
  exact⟨b,Option.isSome_iff_ne_none.2 J⟩
set_option maxRecDepth 8000 in
theorem UB(F:Wd)(hG:GW F)(n T:Int)(ad:Option Addr)(c:Nat)(J:List SdL)(hR:BH F ad 34 SdL.cells J)(hA:∀y∈J,y.At F)(hI:∀y∈J,y.In)(_:J.length<=9223372036854775807):
 Cl 4 #[iI n,.slice ad J.length c,iI T] F (RvF (.bool true) F):=by
 obtain⟨m,hm⟩:∃m:Nat,n % 2=m:=⟨(n % 2).toNat,W⟩
 have hm1:m<=1:=W
 obtain⟨k,hk⟩:∃k:Nat,T % 8 % ((2+m:Nat):Int)=k:=⟨(T % 8 % ((2+m:Nat):Int)).toNat,(Aiq (Int.emod_nonneg _ W)).symm⟩
 have hkl:k<2+m:=by
  have:=Int.emod_lt_of_pos (T % 8) (show 0<((2+m:Nat):Int) by omega)
  omega
 obtain⟨N,hN,hNn,hrun⟩:=x_new hm1
 obtain⟨vc,Hc,vx,Hx,hc1,hc2,hokX⟩:=AfV hrun
 obtain⟨na,nb,N',hNn',hrun'⟩:=s_new hm1
 obtain⟨vd,Hd,vs,Hs,hd1,hd2,hokS⟩:=AfV hrun'
 have hSl:=Ae6 J
 refine en0 func4 U ntmps4 U<|J8 ?_
 refine zk CkO U (λw r=>Ag4 w (YR (hG.BI (λh=>h) r)))<|J9 ?_
 refine zV (HX U U U (Hy (i:=1) (m:=2) C8 C8 C8)) U<|zV (EW U U U ((show _=((2+m:Nat):Int) from(DK W W).trans W))) U<|J6 ?_
 refine zK CkO U<|λA r=>(hc1 F _ [] [] A _ (sr0 (YR hG)) (VRs.plain U) r).mono ?_
 rintro e R ⟨R1,L1,vc',rfl,_,hR1,hv1,d⟩
 refine⟨_,_,rfl,d,?_⟩
 refine zK CkO U<|λA r=>(hc2 F R1 L1 [] A [vc'] hR1 (.cons hv1 .nil) r).mono ?_
 rintro e R ⟨R2,L2,vx',rfl,_,hR2,hv2,d⟩
 obtain⟨x,rfl,hO,z,E,hSx⟩:=x_fin hN hR2 hv2 hokX d (S6 J) hSl
 refine⟨_,x.all [],rfl,hSx,?_⟩
 refine J10 ?_
 refine zK CkO U<|λA r=>(hd1 F _ [] (x.all []) A _ (sr0 (YR hG)) (VRs.plain U) r).mono ?_
 rintro e R ⟨R3,L3,vd',rfl,_,hR3,hv3,d⟩
 obtain⟨cs,rfl,hcl,sd,hsd,hvsd⟩:=s_side hokS hv3
 refine⟨_,_,rfl,d,?_⟩
 refine zV (MI U U i51_1.h i48o.h hsd) U<|zK CkO U<|?_
 intro A r
 refine(hd2 F R3 L3 (x.all []) A [iI 65000,sd,iI 20] hR3 (.cons (.plain U) (.cons hvsd (.cons (.plain U) .nil))) r).mono ?_
 rintro e R ⟨R4,L4,vs',rfl,_,hR4,hv4,d⟩
 obtain⟨v,rfl,hV,Q,hvn,hSv⟩:=s_fin W hR4 hv4 hokS d (S6 J) hSl
 refine⟨_,x.all (v.AE++[]),rfl,SxL.GI (Z:=v.AE) hSv,?_⟩
 refine J11 ?_
 refine zV ((Gs U U U).f W) U<|J2 ?_
 refine zS ((Gs U U U).f W) U<|J6 ?_
 refine WC.cut (λs:TlS=>[(7,pG s.x.c.gx),(0,iI ((2+m:Nat):Int)),(2,iI T)]) (λs=>s.x.all (s.v.AE++[])) (λs=>CQ s.x/\s.x.v.S=S6 J/\s.x.c.n=2+m) ?_ ?_
 refine J6 ?_
 refine oLp (λs:TlS=>[(11,iI s.j),(7,pG s.x.c.gx),(9,pG s.v.s),(0,iI ((2+m:Nat):Int)),(1,.slice ad J.length c),(2,iI T)]) (λs=>s.x.all (s.v.AE++[])) (λs=>s.j<=J.length/\s.j<=12/\CQ s.x/\s.v.Ok/\s.x.v.S=S6 J/\s.v.S=S6 J/\s.x.c.n=2+m) (λs=>J.length-s.j) ⟨0,x,v⟩ ⟨Lv _,Lv _,hO,hV,z,Q,E.trans hNn⟩ ?_
 rintro⟨j,x,v⟩ ⟨hj,hj12,hO,hV,z,Q,E⟩
 dsimp only at hj hj12 hO hV z Q E⊢
 refine J6 ?_
 refine JT (λh47=>?_) λh47=>?_
 refine J2 ?_
 refine JT (λh50=>?_) λh50=>?_
 refine J12 ?_
 obtain⟨y,hy⟩:∃y,J[j]?=some y:=Gx
 have hym:=Do hy
 obtain⟨b1,o1,ea1,r1⟩:=hR j y hy
 refine zV ((AA (b:=b1) (off:=o1) (lo:=j) U Du U underlying62 AfR U W)) U ?_
 refine zV (AB (cs:=y.cells) U U AaM (SdL.len y) (DW (λh=>h) r1)) U<|zK CkO U<|?_
 intro A r
 refine(bigS_c A y ((hA y hym).st r) (hI y hym) (hG.BI (λh=>h) r)).mono ?_
 rintro e R ⟨⟨bg,rfl,hbig⟩,hF⟩
 refine⟨_,_,rfl,r.ext hF,?_⟩
 skip
 cases bg
 refine J9 ?_
 refine zV ((AA (b:=b1) (off:=o1) (lo:=j) U Du U underlying62 AfR U W)) U ?_
 refine zV (AB (cs:=y.cells) U U AaM (SdL.len y) (DW (λh=>h) r1)) U<|zK CkO U<|?_
 intro A r
 have hFt:=hbig U
 have hpm:=Ae7 hy W hFt
 refine(AhQ F A x v y [] hO hV (hA y hym) (hI y hym) hFt (by rw[z];exact hpm.1) (by rw[z];exact hpm.2) (Q.trans z.symm) hG r).mono ?_
 rintro e R ⟨u,x',v',rfl,hP,d⟩
 refine⟨_,_,rfl,d,?_⟩
 refine J5 ?_
 refine zV (EW U U U ((DK W W))) U<|J2 ?_
 exact eW ⟨j+1,x',v'⟩ C7 ⟨C7,C7,hP.x.ok,hP.v.ok,hP.x.S.trans z,hP.v.S.trans Q,hP.x.n.trans E⟩ (.int U C7 (.cons (by rw[hP.x.gx];rfl) (.cons (by rw[hP.v.s];rfl) (.cons U (.cons U (.cons U .nil))))))
 refine J9 ?_
 refine zV (EW U U U ((DK W W))) U<|J2 ?_
 exact eW ⟨j+1,x,v⟩ C7 ⟨C7,C7,hO,hV,z,Q,E⟩
 refine J8 ?_
 exact eM ⟨j,x,v⟩ ⟨hO,z,E⟩
 refine J11 ?_
 exact eM ⟨j,x,v⟩ ⟨hO,z,E⟩
 rintro⟨_,x,v⟩ ⟨hO,z,E⟩
 dsimp only at hO z E⊢
 generalize hLv:v.AE++[]=G
 obtain⟨mk0,hmk0⟩:∃q,x.sp[k]?=some q:=⟨x.sp[k]'(by have:=hO.n;omega),FS _⟩
 obtain⟨mb0,hmb0⟩:∃q,x.v.ms[k]?=some q:=⟨x.v.ms[k]'(by have:=hO.n;omega),FS _⟩
 refine J3 ?_
 refine zV (HX U U U (Hy (i:=3) (m:=8) C8 C8 C8)) U<|J1 ?_
 refine zV ((v_rem U U U W W).int hk) U<|J7 ?_
 refine zK CkO U<|λA r=>(Pa F A x k mk0 mb0 G hO hmk0 hmb0 r).mono ?_
 rintro e R ⟨x1,ads1,ad1,c1,E1,rfl,_,hP1,d⟩
 refine⟨_,x1.all G,rfl,d.sub (Ai9 _ _),?_⟩
 obtain⟨mb1,hmb1,hnm1⟩:=hP1.told
 have hO1:=hP1.to.ok
 have hn1:=hP1.to.n.trans E
 have hg1:=hP1.to.gx
 obtain⟨mk1,hmk1⟩:∃q,x1.sp[k]?=some q:=⟨x1.sp[k]'(by have:=hO1.n;omega),FS _⟩
 refine J7 ?_
 refine zK CkO U<|λA r=>?_
 have D:=Pa F A x1 k mk1 mb1 G hO1 hmk1 hmb1 r
 rw[hg1] at D
 refine D.mono ?_
 rintro e R ⟨x2,ads2,ad2,c2,E2,rfl,_,hP2,d⟩
 refine⟨_,x2.all G,rfl,d.sub (Ai9 _ _),?_⟩
 have hads2:ads2.length=0:=(by
  obtain⟨ps,_,_,h2,h3⟩:=hP2.all_
  have hps:ps=[]:=List.eq_nil_iff_forall_not_mem.2 λp hp=>(h2 p).1 hp (hnm1 _)
  rw[hps] at h3
  have:=If List.length h3
  rwa [Ri] at this)
 obtain⟨mb2,hmb2,_⟩:=hP2.told
 have hO2:=hP2.to.ok
 have hn2:=hP2.to.n.trans hn1
 have hg2:=hP2.to.gx.trans hg1
 refine J1 ?_
 refine zV ((Gs U U U).f W) U<|J9 ?_
 refine zK CkO U<|λA r=>?_
 have D:=Z1 F A x2 k mb2 G hO2 hmb2 hG r
 rw[hg2] at D
 refine D.mono ?_
 rintro e R ⟨r3,x3,rfl,O,⟨mb3,hmb3,hth3⟩,d⟩
 refine⟨_,_,rfl,d,?_⟩
 have hg3:=O.gx.trans hg2
 refine J7 ?_
 refine zK CkO U<|λA r=>?_
 have D:=AcZ F A x3 k mb3 G O.ok hmb3 hG r
 rw[hg3] at D
 refine D.mono ?_
 rintro e R (⟨h4,_,_⟩|⟨_,r4,B,rfl,hP4,d⟩)
 .rw [hth3] at h4;cases h4
 refine⟨_,B.all G,rfl,d,?_⟩
 have hg4:=hP4.to.gx.trans hg3
 have M:=hP4.to.ok
 have hn4:=hP4.to.n.trans (O.n.trans hn2)
 have hr5:=hP4.r5
 have hspot:∀q,B.at_ k q≠none->NewP B k q:=λq hq=>(hP4.new k q hq).resolve_left λh3=>(by
  cases D:x3.at_ k q with
  | none=>exact h3 D
  | some u =>
   obtain⟨mk3,hmk3⟩:∃q,x3.sp[k]?=some q:=⟨x3.sp[k]'(by have:=O.ok.n;have:=O.n;omega),FS _⟩
   rw[SxL.CM hmk3] at D
   obtain⟨mb,h5,h6⟩:=((O.ok.sp k mk3 hmk3).2 q u D).th
   rw[hmb3] at h5
   cases h5
   rcases h6 with h6|h6
   .exact h6
   .rw [hth3] at h6;cases h6)
 obtain⟨mk4,hmk4⟩:∃q,B.sp[k]?=some q:=⟨B.sp[k]'(by have:=M.n;omega),FS _⟩
 obtain⟨mb4,hmb4⟩:∃q,B.v.ms[k]?=some q:=⟨B.v.ms[k]'(by have:=M.n;omega),FS _⟩
 refine zV ((Ae U U U).f W) U<|J16 ?_
 refine WL.val (An U U Jj.h ((λw r=>by
 have h:=SxL.Am r
 rw[hg4] at h
 exact h.cell (show B.c.cells[0]?=some (pG B.c.gs) from rfl)))) (.none U) U U ?_
 refine zK CkO U<|λA r=>?_
 have D:=QD Fx F A B.v (B.Hz G) M.v (SxL.Gi r)
 rw[M.vs] at D
 refine D.mono ?_
 rintro e R ⟨ps,pa,pc,X,rfl,hPV,hpo,hpS,hpm,hpn,hpl,d⟩
 have hS2:St Fx F R (X++B.all G):=SxL.LK d
 refine⟨_,X++B.all G,rfl,hS2,?_⟩
 refine J5 ?_
 refine oLp (λj:Nat=>[(92,iI j),(91,iI ps.length),(90,.slice pa ps.length pc),(12,iI (Rw (Uj B k) (ps.take j):Nat)),(7,pG x.c.gx),(2,iI k)]) (λ_=>X++B.all G) (λj=>j<=ps.length) (λj=>ps.length-j) 0 (Lv _)<|λj hj=>?_
 have hcn:=AcC (Aam (Uj B k) (ps.take j)) (List.length_take_le _ _)
 refine J2 ?_
 refine JT (λh93=>?_) λh93=>?_
 refine J10 ?_
 obtain⟨p,hp⟩:∃p,ps[j]?=some p:=Gx
 have hpm2:=Do hp
 have hpk:IS p:=⟨(hpo p hpm2).1,(hpo p hpm2).2⟩
 obtain⟨b1,o1,ea1,_⟩:=HN hPV (λe he=>hS2.holds e (Ha _ he)) j p hp
 obtain⟨sb,hsb⟩:∃b,Uj B k p=b:=⟨_,rfl⟩
 refine zV ((AA (b:=b1) (off:=o1) (lo:=j) U D2 U underlying32 BT U W)) U ?_
 refine WL.val (AB (cs:=p.cells) U U DD.h U (λw r=>by
 obtain⟨b2,o2,ea2,r2⟩:=HN hPV (λe he=>r.holds e (Ha _ he)) j p hp
 rw[ea1] at ea2;cases ea2
 exact r2)) (.none U) U U ?_
 refine zy U FZ.h U U<|λK hg14=>J1 ?_
 refine WL.CD (g:=K) (cs':=p.cells) (AH U)<|J6 ?_
 refine zV (AB U U DD.h U (AL (g:=K))) U<|zK CkO U<|?_
 intro A r
 have D:=AgF F A B k p ((.row K p.cells::X)++G) M W hpk (SxL.GI (Z:=.row K p.cells::X) r)
 rw[hg4,show(B.at_ k (aA p.cells)).isSome=sb from hsb] at D
 refine D.mono ?_
 rintro e R ⟨h,rfl,d⟩
 refine⟨_,(.row K p.cells::X)++B.all G,rfl,SxL.MW (Z:=.row K p.cells::X) d,?_⟩
 refine J3 ?_
 skip
 cases sb
 refine zy U i86z.h U U<|λg15 hg15=>J14 ?_
 exact Bb
 refine zy U i86z.h U U<|λg15 hg15=>J12 ?_
 refine zV (EW U U U ((DK W W))) U<|J5 ?_
 exact Bb
 refine J19 ?_
 refine zK CkO U<|λA r=>?_
 have D:=Pa F A B k mk4 mb4 (X++G) M hmk4 hmb4 (SxL.GI (Z:=X) r)
 rw[hg4] at D
 refine D.mono ?_
 rintro e R ⟨x5,H,aa,ac,EA,rfl,hVA,hP5,d⟩
 refine⟨_,EA++x5.all (X++G),rfl,d,?_⟩
 have hcount:=Zu hmk4 hmb4 hP5 hpn hpm hpo hspot
 have hfew:=hP5.few
 refine J5 ?_
 refine WC.loop (λi:Nat=>[(111,iI i),(110,iI H.length),(109,.slice aa H.length ac),(17,iI (Rw (λa:AdL => !a.gone) (H.take i):Nat)),(12,iI (Rw (Uj B k) ps:Nat))]) (λ_=>EA++x5.all (X++G)) (λi=>i<=H.length) (λi=>H.length-i) 0 (Lv _) (.cons U (.cons U (.cons U (.cons U (.int U (by rw[Aco (W)]) .nil))))) (.refl _) ?_
 intro i hi
 have hcn2:=AcC (Aam (λa:AdL => !a.gone) (H.take i)) (List.length_take_le _ _)
 refine J2 ?_
 refine JT (λh112=>?_) λh112=>?_
 refine J10 ?_
 obtain⟨⟨ap,gn,aw⟩,ha⟩:∃a,H[i]?=some a:=Gx
 obtain⟨b1,o1,ea1,r1⟩:=hVA.XS (L:=EA++x5.all (X++G)) (λe he=>Ha _ he) (by rw[AP (k:=13) AdL.BK];omega)
 refine zV ((AA (b:=b1) (off:=o1) (lo:=i) U Fi U underlying68 Abn U W)) U ?_
 refine zV (AB (cs:=AdL.cells ⟨ap,gn,aw⟩) U U i90m.h (AdL.BK _) λw r=>Rg.seg AdL.BK (r1 _ _ w r) ha) U<|zy U O8 U U<|?_
 intro g19 hg19
 refine J6 ?_
 refine zV (An U U i4o.h (cellAt (g:=g19) (v:=.bool gn) U)) U ?_
 skip
 cases gn
 refine J6 ?_
 refine zV (EW U U U ((DK W W))) U<|J5 ?_
 exact Bd
 refine J8 ?_
 exact Bd
 refine J13 ?_
 refine zV ((Ae U U U).t ((by rw[Aco (W)];exact If Nat.cast hcount))) U ?_
 exact Cx
end Gq

theorem LD{s a:Nat}{enc:F->vL}{good:F->Prop}(z:∀e,e.length=s->Tree H A B e->∃x,e=enc x/\good x)(h:N2 H A B s J a):∃k:List F,k.length=a/\BH A J s enc k/\∀x∈k,good x:=by
 by_cases u:0<a
 .obtain ⟨b,f,rfl,m⟩:=h u
  have c:∀i:Fin a, ∃x,A.rangeAt b (f+i.1*s) (enc x)/\good x:=λi=>by
   obtain⟨e,q,v,p⟩:=m i.1 i.2
   obtain⟨x,rfl,r⟩:=z e q p
   exact⟨x,v,r⟩
  refine⟨List.ofFn λi=>Classical.choose (c i),List.length_ofFn,λi x d=>?_,λx j=>?_⟩
  .rw [List.getElem?_ofFn] at d
   split at d
   .rename_i g
    obtain rfl:=Ade d
    exact⟨b,f,rfl,(Classical.choose_spec (c ⟨i,g⟩)).1⟩
   .cases d
  .obtain ⟨i,rfl⟩:=List.mem_ofFn.1 j
   exact(Classical.choose_spec (c i)).2
 .refine ⟨[],by rw[List.length_nil];omega,λi x d=>by simp at d,λx j=>by cases j⟩
theorem AQ.AaW{f:Int->Vl}{d:List Int}(h:BH A J 1 (λx=>[f x]) d):AQ A J (d.map f):=λi=>by
 rw[Ri] at i
 obtain⟨b,o,e,_⟩:=h 0 _ (FS i)
 refine⟨b,o,e,λj v a=>?_⟩
 rw[WF] at a
 cases c:d[j]? with
 | none=>rw[c] at a;cases a
 | some x =>
  rw[c] at a
  obtain rfl:=Ade a
  obtain⟨m,p,g,k⟩:=h j x c
  rw[e] at g
  cases g
  have:=k 0 _ U
  rwa [Aed,Nat.add_zero] at this
theorem N2.u8{w:Wd}{b:Nat}{a:Option Addr}(h:N2 prog w 5 1 a b):∃c:List Int,c.length=b/\AQ w a (u8s c)/\Bys c:=by
 obtain⟨c,i,j,g⟩:=LD (enc:=λx=>[.int .u8 x]) (good:=λx=>0<=x/\x<=255) (λd f e=>by
  match d,f with
  | [x],_ =>
   obtain⟨n,rfl,k⟩:=Tree.int underlying5 e
   exact⟨n,rfl,wf_u8 k⟩) h
 exact⟨c,i,AQ.AaW j,g⟩
theorem N2.i64(h:N2 prog A 3 1 J B):∃a:List Int,a.length=B/\AQ A J (CN a)/\∀x∈a,I64 x:=by
 obtain⟨a,f,g,e⟩:=LD (enc:=λx=>[iI x]) (good:=λx=>I64 x) (λb d c=>by
  match b,d with
  | [x],_ =>
   obtain⟨n,rfl,i⟩:=Tree.int underlying3 c
   exact⟨n,rfl,wf_i64 i⟩) h
 exact⟨a,f,AQ.AaW g,e⟩
theorem Tree.u8sl(h:Tree prog A 109 [D]):∃a b, ∃c:List Int,D=.slice a c.length b/\c.length<=b/\b<=maxLen/\AQ A a (u8s c)/\Bys c:=by
 obtain⟨a,j,b,rfl,d,e,f⟩:=Tree.slice (s:=1) underlying109 C6 C8 h
 obtain⟨c,rfl,i,g⟩:=N2.u8 f
 exact⟨a,b,c,rfl,d,e,i,g⟩
theorem Tree.i64sl(h:Tree prog A 34 [D]):∃a b, ∃c:List Int,D=.slice a c.length b/\c.length<=b/\b<=maxLen/\AQ A a (CN c)/\∀D∈c,I64 D:=by
 obtain⟨a,j,b,rfl,d,e,f⟩:=Tree.slice (s:=1) underlying34 C6 C8 h
 obtain⟨c,rfl,i,g⟩:=N2.i64 f
 exact⟨a,b,c,rfl,d,e,i,g⟩
theorem Tree.WT{ts:List TypeId}(h:Tree H A G E)(F:Nat)(b:RY H F G=true)(a:flat H F G=ts):Leaves H A ts E:=a ▸ Tree.leaves F G E b h
theorem I6:maxLen<=9223372036854775807:=C8
theorem Tree.DT(h:Tree prog A 31 [D]):∃a cap, ∃xs:List Yh,D=.slice a xs.length cap/\xs.length<=9223372036854775807/\BH A a 2 Yh.cells xs/\∀c∈xs,AQ A c.ad (u8s c.val)/\I64 c.code/\c.val.length<=9223372036854775807/\Bys c.val:=by
 obtain⟨a,r,cap,rfl,z,B,e⟩:=Tree.slice (s:=2) underlying31 C6 C8 h
 have F:=I6
 obtain⟨xs,rfl,hr,hg⟩:=LD (enc:=Yh.cells) (good:=λc=>AQ A c.ad (u8s c.val)/\I64 c.code/\c.val.length<=9223372036854775807/\Bys c.val) (λv E g=>by
  have f:=Tree.WT (ts:=[3,109]) g 4 C6 C6
  obtain⟨D,_,rfl,j,y,_,rfl,k,rfl⟩:=f
  obtain⟨n,rfl,i⟩:=Tree.int underlying3 j
  obtain⟨d,b,u,rfl,G,H,m,q⟩:=Tree.u8sl k
  exact⟨⟨n,d,b,u⟩,rfl,m,wf_i64 i,C7,q⟩) e
 exact Bx
theorem Tree.pfs(h:Tree prog A 32 [D]):∃a cap, ∃xs:List PfL,D=.slice a xs.length cap/\xs.length<=9223372036854775807/\BH A a 2 PfL.cells xs/\∀p∈xs,U32 p.addr/\I64 p.len:=by
 obtain⟨a,j,cap,rfl,m,q,c⟩:=Tree.slice (s:=2) underlying32 C6 C8 h
 have u:=I6
 obtain⟨xs,rfl,hr,hg⟩:=LD (enc:=PfL.cells) (good:=λp=>U32 p.addr/\I64 p.len) (λk r e=>by
  have d:=Tree.WT (ts:=[30,3]) e 4 C6 C6
  obtain⟨D,_,rfl,g,y,_,rfl,i,rfl⟩:=d
  obtain⟨n,rfl,f⟩:=Tree.int underlying30 g
  obtain⟨n2,rfl,b⟩:=Tree.int underlying3 i
  exact⟨⟨n,n2⟩,rfl,wf_u32 f,wf_i64 b⟩) c
 exact Bx
theorem Tree.LX(h:Tree prog A 33 [D]):∃a cap, ∃xs:List BR,D=.slice a xs.length cap/\xs.length<=9223372036854775807/\BH A a 2 BR.cells xs/\∀c∈xs,AQ A c.ad (CN c.asl)/\c.asl.length<=9223372036854775807/\∀D∈c.asl,I64 D:=by
 obtain⟨a,q,cap,rfl,v,z,e⟩:=Tree.slice (s:=2) underlying33 C6 C8 h
 have E:=I6
 obtain⟨xs,rfl,hr,hg⟩:=LD (enc:=BR.cells) (good:=λc=>AQ A c.ad (CN c.asl)/\c.asl.length<=9223372036854775807/\∀D∈c.asl,I64 D) (λu B g=>by
  have f:=Tree.WT (ts:=[4,34]) g 4 C6 C6
  obtain⟨D,_,rfl,i,y,_,rfl,j,rfl⟩:=f
  obtain⟨n,rfl⟩:=Tree.bool underlying4 i
  obtain⟨d,b,r,rfl,F,G,k,m⟩:=Tree.i64sl j
  exact⟨⟨n,d,b,r⟩,rfl,k,C7,m⟩) e
 exact Bx
theorem Tree.othsZ(h:Tree prog A 35 [D]):∃a cap, ∃xs:List CS,D=.slice a xs.length cap/\xs.length<=9223372036854775807/\BH A a 2 CS.cells xs/\∀c∈xs,(AQ A c.ad (u8s c.val)/\I64 c.ty/\c.val.length<=9223372036854775807/\Bys c.val)/\c.val.length<=140737488355328:=by
 obtain⟨a,r,cap,rfl,z,B,f⟩:=Tree.slice (s:=2) underlying35 C6 C8 h
 have F:=I6
 obtain⟨xs,rfl,hr,hg⟩:=LD (enc:=CS.cells) (good:=λc=>(AQ A c.ad (u8s c.val)/\I64 c.ty/\c.val.length<=9223372036854775807/\Bys c.val)/\c.val.length<=140737488355328) (λv E i=>by
  have g:=Tree.WT (ts:=[3,109]) i 4 C6 C6
  obtain⟨D,_,rfl,k,y,_,rfl,d,rfl⟩:=g
  obtain⟨n,rfl,j⟩:=Tree.int underlying3 k
  obtain⟨e,b,u,rfl,G,H,m,q⟩:=Tree.u8sl d
  have hr:=Tree.reach underlying109 d
  rw[show prog.bytesOf 5=1 by kernel_rfl] at hr
  unfold reachBytes at hr
  exact⟨⟨n,e,b,u⟩,rfl,⟨m,wf_i64 j,C7,q⟩,C7⟩) f
 exact Bx
theorem Xp(hL:Leaves prog A [3,3,3,30,31,32,3,3,33,30,3,3,3,30,34,35,32,3,3,9] E):∃m:MsL,E=m.cells/\m.At A/\m.In/\∀o∈m.atr.others,o.val.length<=140737488355328:=by
 obtain⟨x0,_,rfl,h0,x1,_,rfl,h1,x2,_,rfl,h2,x3,_,rfl,h3,x4,_,rfl,h4,x5,_,rfl,h5,x6,_,rfl,h6,x7,_,rfl,h7,x8,_,rfl,h8,x9,_,rfl,h9,x10,_,rfl,p,x11,_,rfl,q,x12,_,rfl,r,x13,_,rfl,s,x14,_,rfl,u,x15,_,rfl,v,x16,_,rfl,z,x17,_,rfl,B,x18,_,rfl,D,x19,_,rfl,F,rfl⟩:=hL
 obtain⟨n0,rfl,w0⟩:=Tree.int underlying3 h0
 obtain⟨n1,rfl,w1⟩:=Tree.int underlying3 h1
 obtain⟨n2,rfl,w2⟩:=Tree.int underlying3 h2
 obtain⟨n3,rfl,w3⟩:=Tree.int underlying30 h3
 obtain⟨a4,c4,l4,rfl,k4,r4,g4⟩:=Tree.DT h4
 obtain⟨a5,c5,l5,rfl,k5,r5,g5⟩:=Tree.pfs h5
 obtain⟨n6,rfl,w6⟩:=Tree.int underlying3 h6
 obtain⟨n7,rfl,w7⟩:=Tree.int underlying3 h7
 obtain⟨a8,c8,l8,rfl,k8,r8,g8⟩:=Tree.LX h8
 obtain⟨n9,rfl,w9⟩:=Tree.int underlying30 h9
 obtain⟨M,rfl,aa⟩:=Tree.int underlying3 p
 obtain⟨N,rfl,ab⟩:=Tree.int underlying3 q
 obtain⟨O,rfl,ac⟩:=Tree.int underlying3 r
 obtain⟨Q,rfl,ad⟩:=Tree.int underlying30 s
 obtain⟨d,g,J,rfl,k14,j14,T,j⟩:=Tree.i64sl u
 obtain⟨e,h,K,rfl,G,X,b⟩:=Tree.othsZ v
 obtain⟨f,i,L,rfl,H,Z,k⟩:=Tree.pfs z
 obtain⟨R,rfl,ae⟩:=Tree.int underlying3 B
 obtain⟨S,rfl,af⟩:=Tree.int underlying3 D
 obtain⟨d19,rfl,w19⟩:=Tree.string underlying9 F
 have hm:=I6
 exact⟨⟨n0,n1,n2,n3,a4,c4,l4,a5,c5,l5,⟨n6,n7,a8,c8,l8,n9,M,N,O,Q,d,g,J,e,h,K⟩,f,i,L,R,S,d19⟩,rfl,
  ⟨r4,λc a=>(g4 c a).1,r5,Z,⟨r8,λc a=>(g8 c a).1,T,X,λc a=>(b c a).1.1⟩⟩,
  ⟨wf_i64 w0,wf_i64 w1,wf_i64 w2,wf_u32 w3,wf_i64 ae,wf_i64 af,λc a=>(g4 c a).2,g5,k,
   ⟨wf_i64 w6,wf_i64 w7,wf_u32 w9,wf_i64 aa,wf_i64 ab,wf_i64 ac,wf_u32 ad,λc a=>(g8 c a).2,j,λc a=>(b c a).1.2,k8,C7,G⟩,k4,k5,H,C7⟩,λo ho=>(b o ho).2⟩
variable {P:Program}{w:Wd}

def GX(P:Program)(w:Wd)(M:Nat)(t:TypeId)(b:vL):Prop:=∃(H:Type) (a:TypeId×Vl->H) (m:Nat) (x:DataW H×List MemPlace),m<=M/\DataW.trod a P w 0 (λ_=>true) true m t b=some x/\Kh P t x.1
theorem Tree.some(h:Tree P w G E):∃M,GX P w M G E:=by
 obtain⟨H,a,m,x,b,c⟩:=h
 exact⟨m,H,a,m,x,M2 _,b,c⟩
theorem GX.tree(h:GX P w B G E):Tree P w G E:=by
 obtain⟨H,a,m,x,_,b,c⟩:=h
 exact⟨H,a,m,x,b,c⟩
theorem GX.step(h:GX P w B G E):∃(H:Type) (a:TypeId×Vl->H) (m:Nat) (x:DataW H×List MemPlace),m+1<=B/\DataW.trodStep a P w 0 (λ_=>true) true (DataW.trod a P w 0 (λ_=>true) true m) G E=some x/\Kh P G x.1:=by
 obtain⟨H,a,m,x,c,b,d⟩:=h
 cases m with
 | zero=>simp[DataW.trod] at b
 | succ m=>exact⟨H,a,m,x,c,b,d⟩
def ElemsM(P:Program)(w:Wd)(M:Nat)(e s:Nat)(a:Option Addr)(c:Nat):Prop :=
 0<c->∃b d,a=some ⟨b,d,none⟩/\∀i,i<c->∃f,f.length=s/\w.rangeAt b (d+i*s) f/\GX P w M e f
def IQ(P:Program)(w:Wd)(M:Nat):List TypeId->vL->Prop
 | [],a=>a=[]
 | t::c,a=>∃x b,a=x::b/\GX P w M t [x]/\IQ P w M c b
theorem IQ.append{M:Nat}:∀ {g:List TypeId}{c:vL}{b:List TypeId}{a:vL},IQ P w M g c->IQ P w M b a->IQ P w M (g++b) (c++a)
 | [],c,b,a,h,d=>by
  have:c=[]:=h
  subst this;exact d
 | t::g,c,b,a,⟨x,j,e,i,f⟩,d=>by
  subst e;exact⟨x,j++a,rfl,i,f.append d⟩

theorem GX.leaves{M:Nat}:∀(F:Nat) (t:TypeId) (a:vL),RY P F t=true->GX P w M t a->IQ P w M (flat P F t) a
 | 0,_,_,c,_=>by cases c
 | F+1,t,a,c,h=>by
  obtain⟨H,z,m,x,S,hx,u⟩:=h.step
  cases hu:P.underlying t with
  | none =>
   exact B8
  | some d =>
   by_cases L:∃fs,d=.struct fs
   .obtain ⟨fs,rfl⟩:=L
    simp only[RY,hu,Hr] at c
    simp only[flat,hu]
    unfold DataW.trodStep at hx
    simp only[hu] at hx
    split at hx
    .rename_i A
     simp only[Option.map_eq_some_iff] at hx
     obtain⟨T,G,rfl⟩:=hx
     unfold Kh at u
     simp only[DataW.weights,hu] at u
     have O:∀f∈fs.toList,GX P w M f.type ((a.drop f.offset).take (P.cellsOf f.type)):=λf hf=>by
      obtain⟨i,E⟩:=List.mem_iff_getElem?.1 hf
      obtain⟨y,q,J⟩:=(HK G).2 i f E
      exact⟨H,z,m,y,W,J,Jt u (j:=i) (by rw[WF,E];rfl) (by rw[WF,q];rfl)⟩
     have r:∀(s:List Field) (k:Nat),(∀f∈s,f∈fs.toList)->JL P (P.cellsOf t) k s=true->IQ P w M (s.flatMap λf=>flat P F f.type) (a.drop k):=by
      intro s
      induction s with
      | nil =>
       intro k _ hk
       have R:k=P.cellsOf t:=by simpa [JL] using hk
       show a.drop k=[]
       rw[List.drop_eq_nil_iff];omega
      | cons f s K =>
       intro k b hk
       simp only[JL,Hr,beq_iff_eq] at hk
       have B:=GX.leaves F f.type _ (Acw.1 c.2 f (b f C9)) (O f (b f C9))
       have D:=K (k+P.cellsOf f.type) (λg Q=>b g (by simp[Q])) hk.2
       rw[hk.1] at B
       have:=B.append D
       rw[List.flatMap_cons]
       have e:a.drop k=(a.drop k).take (P.cellsOf f.type)++a.drop (k+P.cellsOf f.type):=by
        rw[<- List.drop_drop,AeN]
       rw[e];exact this
     have:=r fs.toList 0 (λ_ h=>h) c.1
     rwa [AeP] at this
    .cases hx
   .by_cases ha:∃n e,d=.array n e
    .obtain ⟨n,e,rfl⟩:=ha
     simp only[RY,hu,Hr,beq_iff_eq] at c
     simp only[flat,hu]
     unfold DataW.trodStep at hx
     simp only[hu] at hx
     split at hx
     .rename_i A
      simp only[Option.map_eq_some_iff] at hx
      obtain⟨T,G,rfl⟩:=hx
      unfold Kh at u
      simp only[DataW.weights,hu] at u
      have r:∀j i,i+j=n->IQ P w M (List.replicate j (flat P F e)).flatten (a.drop (i*P.cellsOf e)):=by
       intro j
       induction j with
       | zero =>
        intro i E
        have:i=n:=W
        subst this
        show a.drop _=[]
        rw[List.drop_eq_nil_iff];omega
       | succ j K =>
        intro i E
        obtain⟨y,q,J⟩:=(HK G).2 i i (by rw[List.getElem?_range (W)])
        have B:=GX.leaves (M:=M) F e _ c.2 ⟨H,z,m,y,W,J,KC u _ (Ab8.2 ⟨y,Do q,rfl⟩)⟩
        have D:=K (i+1) W
        rw[Agz,Aii] at D
        have:=B.append D
        rw[List.replicate_succ,List.flatten_cons]
        have N:a.drop (i*P.cellsOf e)=(a.drop (i*P.cellsOf e)).take (P.cellsOf e)++a.drop (i*P.cellsOf e+P.cellsOf e):=by
         rw[<- List.drop_drop,AeN]
        rw[N];exact this
      have:=r n 0 W
      rwa [Aiu,AeP] at this
     .cases hx
    .have hs':∀fs,P.underlying t≠some (.struct fs):=λfs he=>L ⟨fs,by rw[hu] at he;exact Ade he⟩
     exact A1

theorem GX.slice{M t e s:Nat}{x:Vl}(z:P.underlying t=some (.slice e))(G:P.cellsOf e=s)(hpos:0<s)(h:GX P w M t [x]):∃a d f,x=.slice a d f/\d<=f/\f<=maxLen/\ElemsM P w (M-1) e s a d:=by
 obtain⟨H,q,m,y,D,g,u⟩:=h.step
 unfold DataW.trodStep at g
 simp only[z] at g
 subst G
 have J:x=sN\/∃a d f,x=.slice (some a) d f:=by
  cases x with
  | slice a d f =>
   cases a with
   | some a=>exact .inr ⟨_,_,_,rfl⟩
   | none =>
    left
    cases d with
    | zero=>cases f with
     | zero=>rfl
     | succ c=>simp at g
    | succ l=>simp at g
  | _=>simp at g
 rcases J with rfl|⟨a,d,f,rfl⟩
 .exact ⟨none,0,0,rfl,M2 _,Lv _,λh=>absurd h W⟩
 .simp only at g
  split at g
  .rename_i v
   refine⟨some a,d,f,rfl,v.2.1,v.2.2,λhl=>?_⟩
   simp only[Option.bind_eq_some_iff] at g
   obtain⟨k,B,j⟩:=g
   simp only[Option.map_eq_some_iff] at j
   obtain⟨A,_,rfl⟩:=j
   unfold Kh at u
   simp only[DataW.weights,z,Rl,LI] at u
   have hE:∀i,i<d->∃cs,w.cells? 0 (a.add (i*P.cellsOf e)) (P.cellsOf e)=some cs/\GX P w (M-1) e cs:=λi hi=>by
    obtain⟨y,r,g⟩:=(HK B).2 i i (by rw[List.getElem?_range hi])
    simp only[Option.bind_eq_some_iff] at g
    obtain⟨cs,hc,F⟩:=g
    exact⟨cs,hc,H,q,m,y,W,F,KC (λn E=>u n (.inr (.inl E))) _ (Ab8.2 ⟨y,Do r,rfl⟩)⟩
   exact A0
  .cases g

def sixOf(a b c d e f:Int)(i:Nat):Int:=[a,b,c,d,e,f].getD i 0

theorem wf_u64{n:Int}(h:(Lit.int .u64 n).wf=true):0<=n/\n<=18446744073709551615:=by
 simp[Lit.wf,IntKind.min,IntKind.max,IntKind.signed,IntKind.bits] at h;exact h

theorem Me{d:Type}{Q:Nat->d->Prop}:∀n:Nat,(∀i,i<n->∃x,Q i x)->∃b:List d,b.length=n/\∀(i:Nat) (x:d),b[i]?=some x->Q i x
 | 0,_=>⟨[],rfl,λi x h=>by simp at h⟩
 | n+1,h=>by
  obtain⟨b,c,g⟩:=Me n λi a=>h i W
  obtain⟨y,j⟩:=h n W
  refine⟨b++[y],by rw[AC,c];rfl,λi x a=>?_⟩
  by_cases e:i<n
  .rw [Ae9 W] at a;exact g i x a
  .by_cases f:i=n
   .subst f
    rw[Ah8 W,c,Nat.sub_self] at a
    simp only[Ahl,Ahe] at a
    subst a;exact j
   .have:=(Eu.1 a).1
    rw[AC,c] at this
    exact absurd this (by show ¬i<n+1;omega)
theorem BU.of{a:List Nd}(h:∀t∈a,t.In):BU a:=by
 induction a with
 | nil=>unfold BU;trivial
 | cons t a c=>unfold BU;exact⟨h t C9,c λu b=>h u (by simp[b])⟩
theorem BA.of{w:Wd}{c:Option Addr}:∀(a:List Nd) (i:Nat),(∀(j:Nat) (t:Nd),a[j]?=some t->(∃b o,c=some ⟨b,o,none⟩/\w.rangeAt b (o+(i+j)*5) (ndL t))/\t.At w)->BA w c i a
 | [],_,_=>by unfold BA;trivial
 | t::a,i,h=>by
  unfold BA
  have d:=h 0 t U
  exact⟨d.1,d.2,BA.of a (i+1) λj u e=>by have:=h (j+1) u e;rwa [show i+(j+1)=i+1+j by omega] at this⟩
theorem nd_lay:RY prog 8 26=true:=C6
theorem Ahq:flat prog 8 26=[3,22,23,23,24]:=C6
theorem GX.agg{t:Nat}(h:GX H A B t E)(F:Nat){a:List TypeId}(c:RY H F t=true)(b:flat H F t=a):IQ H A B a E:=b ▸ GX.leaves F t E c h
theorem GX.nd{w:Wd}:∀(M:Nat) (r:vL),GX prog w M 26 r->∃t:Nd,r=ndL t/\t.In/\t.At w
 | 0,r,h=>by obtain⟨_,_,m,_,hm,_⟩:=h.step;omega
 | M+1,r,h=>by
  have S:=h.agg 8 nd_lay Ahq
  obtain⟨x0,_,rfl,F,x1,_,rfl,G,x2,_,rfl,H,x3,_,rfl,J,x4,_,rfl,K,rfl⟩:=S
  obtain⟨k,rfl,wk⟩:=Tree.int underlying3 F.tree
  obtain⟨f,rfl,wf⟩:=Tree.int underlying22 G.tree
  obtain⟨v,rfl,wv⟩:=Tree.int underlying23 H.tree
  obtain⟨m,rfl,wm⟩:=Tree.int underlying23 J.tree
  obtain⟨a,q,u,rfl,hc,d,N⟩:=K.slice (s:=5) underlying24 C6 C8
  have Z:∀i,i<q->∃t:Nd,((∃b o,a=some ⟨b,o,none⟩/\w.rangeAt b (o+i*5) (ndL t))/\t.At w)/\t.In:=λi A=>by
   obtain⟨b,o,E,T⟩:=N W
   obtain⟨z,_,B,Q⟩:=T i A
   obtain⟨t,rfl,O,L⟩:=GX.nd M z Q
   exact⟨t,⟨⟨b,o,E,B⟩,L⟩,O⟩
  obtain⟨D,c,g⟩:=Me q Z
  refine⟨.mk k f v m a u D,by subst c;rfl,?_,?_⟩
  .unfold Nd.In
   refine⟨wf_i64 wk,wf_i64 wf,wf_u64 wv,wf_u64 wm,by rw[c];unfold maxLen at d;omega,BU.of λt X=>?_⟩
   obtain⟨i,A,e⟩:=List.getElem_of_mem X
   exact(g i t (by rw[FS A,e])).2
  .unfold Nd.At
   exact BA.of D 0 λj t R=>by rw[PP];exact(g j t R).1

theorem Lr{P:Program}{w:Wd}:∀(A:List TypeId){B:List TypeId}{c:vL},Leaves P w (A++B) c->∃b d,c=b++d/\Leaves P w A b/\Leaves P w B d
 | [],B,c,h=>⟨[],c,rfl,rfl,h⟩
 | a::A,B,c,h=>by
  obtain⟨x,r,rfl,i,g⟩:=h
  obtain⟨b,d,rfl,e,f⟩:=Lr A g
  exact⟨x::b,d,rfl,⟨x,b,rfl,i,e⟩,f⟩
theorem AaS(X:Leaves prog A [3,22,23,23,24] E):∃t:Nd,E=ndL t/\t.In/\t.At A:=by
 obtain⟨x0,_,rfl,G,x1,_,rfl,H,x2,_,rfl,J,x3,_,rfl,K,x4,_,rfl,L,rfl⟩:=X
 obtain⟨k,rfl,wk⟩:=Tree.int underlying3 G
 obtain⟨f,rfl,wf⟩:=Tree.int underlying22 H
 obtain⟨v,rfl,wv⟩:=Tree.int underlying23 J
 obtain⟨m,rfl,wm⟩:=Tree.int underlying23 K
 obtain⟨a,q,r,rfl,hc,d,O⟩:=Tree.slice (s:=5) underlying24 C6 C8 L
 have hx:∀i,i<q->∃t:Nd,((∃b o,a=some ⟨b,o,none⟩/\A.rangeAt b (o+i*5) (ndL t))/\t.At A)/\t.In:=λi z=>by
  obtain⟨b,o,F,Z⟩:=O W
  obtain⟨u,_,B,S⟩:=Z i z
  obtain⟨M,R⟩:=S.some
  obtain⟨t,rfl,Q,N⟩:=GX.nd M u R
  exact⟨t,⟨⟨b,o,F,B⟩,N⟩,Q⟩
 obtain⟨D,c,g⟩:=Me q hx
 refine⟨.mk k f v m a r D,by subst c;rfl,?_,?_⟩
 .unfold Nd.In
  refine⟨wf_i64 wk,wf_i64 wf,wf_u64 wv,wf_u64 wm,by rw[c];unfold maxLen at d;omega,BU.of λt ht=>?_⟩
  obtain⟨i,z,e⟩:=List.getElem_of_mem ht
  exact(g i t (by rw[FS z,e])).2
 .unfold Nd.At
  exact BA.of D 0 λj t T=>by rw[PP];exact(g j t T).1
theorem Arg.sdl(h:Arg prog A 62 D):∃a cap, ∃c:List SdL,D=.slice a c.length cap/\c.length<=9223372036854775807/\BH A a 34 SdL.cells c/\∀y∈c,y.At A/\y.In:=by
 obtain⟨a,K,cap,rfl,r,u,B⟩:=h.slice (s:=34) underlying62 C6 C8
 have hm:=I6
 obtain⟨xs,rfl,hr,hg⟩:=LD (enc:=SdL.cells) (good:=λy=>y.At A/\y.In) (λZ hc E=>by
  have b:=Tree.WT (ts:=[3,3,3,4]++([3,3,3,30,31,32,3,3,33,30,3,3,3,30,34,35,32,3,3,9]++([3,22,23,23,24]++[3,22,23,23,24]))) E 10 C6 C6
  obtain⟨R,_,rfl,r,b⟩:=Lr _ b
  obtain⟨S,_,rfl,u,b⟩:=Lr _ b
  obtain⟨T,X,rfl,v,z⟩:=Lr _ b
  obtain⟨x0,_,rfl,F,x1,_,rfl,G,x2,_,rfl,H,x3,_,rfl,J,rfl⟩:=r
  obtain⟨L,rfl,w0⟩:=Tree.int underlying3 F
  obtain⟨M,rfl,O⟩:=Tree.int underlying3 G
  obtain⟨n2,rfl,Q⟩:=Tree.int underlying3 H
  obtain⟨N,rfl⟩:=Tree.bool underlying4 J
  obtain⟨m,rfl,d,e,f⟩:=Xp u
  obtain⟨p,rfl,g,i⟩:=AaS v
  obtain⟨q,rfl,j,k⟩:=AaS z
  exact⟨⟨L,M,n2,N,m,p,q⟩,rfl,⟨d,i,k⟩,⟨wf_i64 O,wf_i64 Q,e,g,j,f⟩⟩) B
 exact Bx
end Go.Proofs.YtmhahajadgkolaaGreatDoor
