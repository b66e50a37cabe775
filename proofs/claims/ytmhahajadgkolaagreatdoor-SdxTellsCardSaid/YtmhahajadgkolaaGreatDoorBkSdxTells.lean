/- Joined texts. -/
import Derived.Test.YtmhahajadgkolaaGreatDoorBjSdxTells
set_option maxHeartbeats 8000000
set_option maxRecDepth 8000
namespace Go.Proofs.YtmhahajadgkolaaGreatDoor
open Go.RowKit Tryz
theorem Ahj.{u_1}:∀ {α:Type u_1} {o:Option α},o.isNone=true<->o=none:=@Option.isNone_iff_eq_none
variable{A F:Nat}{B:Value}{D M:Operand}{G:Array Value}{J O:List Ent}{K:Ent}{N:TypeId}{S:World}
section Gq
attribute [local irreducible] WL WC WE WQ WP WH WR WM WRH

theorem SxL.Wm(x:SxL)(Z L:eL):(Z++x.all L).Perm (x.all (Z++L)):=by
 rw[SxL.all_eq x (Z++L),SxL.all_eq x L]
 exact Aib _ _ _
structure MvS where
 i:Nat
 y:SxL
structure MvT where
 j:Nat
 seen:Array Nat
 b:PoL
 v:Sv
structure MvP(x y:SxL)(ds:List MpL)(i:Nat):Prop where
 wk:Wg y
 v:CT x.v y.v
 vo:y.v.Ok
 b:y.b.Ok
 bp:y.b.p=x.b.p
 c:y.c = { x.c with gm:=y.c.gm }
 rest:y.xs=x.xs/\y.ys=x.ys/\y.PM=x.PM/\y.t=x.t/\y.TE=x.TE/\y.TK=x.TK
 sp:∀j,j<i->y.sp[j]?=ds[j]?
theorem Zt{M:Vl->Option Vl}{v:Sv}(h:∀q u,M q=some u->Pc v Fx A q u)(q:Vl):∃a:SpD,(M q).getD (.agg (SpD.cells ⟨⟨0,0,0⟩,0,0⟩).toArray)=aA a.cells:=by
 cases b:M q with
 | none=>exact⟨_,rfl⟩
 | some u =>
  obtain⟨_,h,_,_,_,rfl,_⟩:=(h _ _ b).is_
  exact⟨h,rfl⟩
theorem move_c(w0 w1:Wd)(x:SxL)(r:List MpL)(a:Nat)(L:eL)(hW:Wg x)(hv:x.v.Ok)(hvs:x.v.s=x.c.gs)(hb:x.b.Ok)(hbp:x.b.p=x.c.gp)(hn16:x.c.n<=16)(hdl:r.length=x.c.n)(hds:∀(j:Nat) (m:MpL),r[j]?=some m->m.Ok KPf/\∀q u,m.M q=some u->Pc x.v Fx j q u)(hS0:St Fx w0 w1 (.row a (AV x.c.n r)::(r.map MpL.ent++x.all L))):
 Cl 105 #[pG x.c.gx,.slice (aG a) x.c.n x.c.n] w1 λe w'=>∃y:SxL,e=.returned (.tuple #[])/\MvP x y r x.c.n/\y.sp=r/\St Fx w0 w' (y.all L):=by
 have hn:=hW.n
 refine enter func105 U ntmps105 U hS0<|J5 ?_
 refine zV (An U U J0.h (cellAt (g:=x.c.gx) (v:=.slice (aG x.c.gsp) x.c.n x.c.sc) U)) U<|J5 ?_
 refine oLp (λz:MvS=>[(16,iI z.i),(15,iI x.c.n),(0,pG x.c.gx),(1,.slice (aG a) x.c.n x.c.n)]) (λz=>.row a (AV x.c.n r)::((r.drop z.i).map MpL.ent++z.y.all L)) (λz=>z.i<=x.c.n/\MvP x z.y r z.i) (λz=>x.c.n-z.i) ⟨0,x⟩ ⟨Lv _,⟨hW,CT.refl _,hv,hb,rfl,rfl,⟨rfl,rfl,rfl,rfl,rfl,rfl⟩,λj h=>absurd h (Ac5 _)⟩⟩ ?_
 rintro⟨i,y⟩ ⟨hi,hP⟩
 dsimp only at hi hP⊢
 have N:y.c.gx=x.c.gx/\y.c.n=x.c.n/\y.c.gsp=x.c.gsp:=Ej
 refine J2 ?_
 refine JT (λh17=>?_) λh17=>?_
 refine J10 ?_
 obtain⟨d,hd⟩:∃d,r[i]?=some d:=Gx
 have hyn:=hP.wk.n
 obtain⟨m,hm⟩:∃m,y.sp[i]?=some m:=Gx
 obtain⟨hmo,hmv⟩:=hP.wk.sp i m hm
 obtain⟨O,hdv0⟩:=hds i d hd
 have hdv:∀q u,d.M q=some u->Pc y.v Fx i q u:=λq u h=>(hdv0 q u h).more hP.v
 refine J8 ?_
 refine zK CkO U<|λw2 hS=>?_
 have h2:St Fx w0 w2 ((.row a (AV x.c.n r)::(r.drop i).map MpL.ent)++y.all L):=hS
 have hcl:=Abx Fx w0 w2 y i m ((.row a (AV x.c.n r)::(r.drop i).map MpL.ent)++L) hP.wk hm (SxL.GI h2)
 rw[N.1] at hcl
 refine hcl.mono ?_
 rintro e w' ⟨ps,pa,pc,E,rfl,hPV,hps,hnd,hpl,hpS,hpm,G⟩
 obtain⟨Z,hZ⟩:∃Z:eL,Z=E++((r.drop (i+1)).map MpL.ent++(.row x.c.gw x.c.sw::.row x.c.gt x.t.cells::(x.TE++(x.TK++(y.spR i++(x.PM++L)))))):=⟨_,rfl⟩
 have hZp:∀e∈E,e∈Z:=λe he=>by rw[hZ];simp[he]
 have h3:St Fx w0 w' (E++((.row a (AV x.c.n r)::(r.drop i).map MpL.ent)++y.op i m L)):=(G.perm ((SxL.Wm y _ L).append_left E)).perm ((((SxL.Hi (x:=y) hm)).append_left _).append_left _)
 refine⟨_,.row a (AV x.c.n r)::.obj d.g (.map d.es d.c)::.obj m.g (.map m.es m.c)::.row x.c.gx y.c.cells::.row x.c.gsp y.c.maps::(y.b.AE++(y.v.AE++Z)),rfl,?_,?_⟩
 .unfold SxL.op at h3
  rw[List.drop_eq_getElem_cons (by omega:i<r.length),(Eu.1 hd).2,hP.rest.2.2.1,hP.rest.2.2.2.1,hP.rest.2.2.2.2.1,hP.rest.2.2.2.2.2] at h3
  rw[hZ]
  have hw:y.c.gw=x.c.gw/\y.c.sw=x.c.sw/\y.c.gt=x.c.gt:=Ej
  rw[hw.1,hw.2.1,hw.2.2,N.1,N.2.2] at h3
  simp only[Acu,MpL.ent,AbT] at h3
  exact h3.AJ
 refine J12 ?_
 refine oLp (λz:MvT=>[(24,iI z.j),(23,iI ps.length),(22,.slice pa ps.length pc),(4,iI i),(16,iI i),(15,iI x.c.n),(0,pG x.c.gx),(1,.slice (aG a) x.c.n x.c.n)]) (λz=>.row a (AV x.c.n r)::.obj d.g (.map d.es d.c)::.obj m.g (.map m.es m.c)::.row x.c.gx y.c.cells::.row x.c.gsp y.c.maps::(z.b.AE++(z.v.AE++Z))) (λz=>z.j<=ps.length/\z.b.Ok/\z.b.p=x.b.p/\CT y.v z.v/\z.v.Ok) (λz=>ps.length-z.j) ⟨0, #[],y.b,y.v⟩ ⟨Lv _,hP.b,hP.bp,CT.refl _,hP.vo⟩ ?_
 rintro⟨j,_,b,v⟩ ⟨hj,hbo,aa,f,F⟩
 dsimp only at hj hbo aa f F⊢
 have hyc:y.c.gs=x.c.gs/\y.c.gp=x.c.gp/\y.c.sc=x.c.sc:=Ej
 refine J2 ?_
 refine JT (λh25=>?_) λh25=>?_
 refine J10 ?_
 obtain⟨p,hp⟩:∃p,ps[j]?=some p:=Gx
 have hpm2:=Do hp
 have A:IS p:=⟨(hps p hpm2).1,(hps p hpm2).2⟩
 obtain⟨b1,o1,ea1,_⟩:=HN hPV (λe he=>G.holds e (Ha _ he)) j p hp
 obtain⟨hd0,hud⟩:=Zt hdv (aA p.cells)
 obtain⟨D,hum⟩:=Zt hmv (aA p.cells)
 obtain⟨mb,hmb⟩:∃mb,v.ms[i]?=some mb:=⟨v.ms[i]'(by rw[f.len,hyn.2,N.2.1];omega),FS _⟩
 refine zV ((AA (b:=b1) (off:=o1) (lo:=j) U D2 U underlying32 BT U W)) U ?_
 refine WL.val (AB (cs:=p.cells) U U DD.h U (λw hS=>by
 obtain⟨b2,o2,ea2,r2⟩:=HN hPV (λe he=>hS.holds e (by simp[hZp e he])) j p hp
 rw[ea1] at ea2;cases ea2
 exact r2)) (.none U) U U ?_
 refine zy U FZ.h U U<|λg7 hg7=>J4 ?_
 refine cQ mixed<|J2 ?_
 refine qV (AA (lo:=i) U U U underlying77 FY W W) U<|qV (An U U EN (cellAt (g:=a) (v:=.map (some d.g)) (OK hd))) U<|qV (AB U U DD.h U (AL (g:=g7))) U<|?_
 refine qV ((HP (z:=.agg (SpD.cells ⟨⟨0,0,0⟩,0,0⟩).toArray) U U U underlying133 DH (KPf.mk A.ok A.u) C6 (C4 (es:=d.es) d.g (c:=d.c) C9) O.im).eq (v:=aA hd0.cells) hud) U<|J3 ?_
 refine qV (An U U J0.h (cellAt (g:=x.c.gx) (v:=.slice (aG x.c.gsp) x.c.n x.c.sc) Fa)) U ?_
 refine J1 ?_
 refine qV (AA (lo:=i) U U U underlying77 FY W W) U<|qV (An U U EN (cellAt (g:=x.c.gsp) (v:=.map (some m.g)) (KF hP.wk hm))) U<|qV (AB U U DD.h U (AL (g:=g7))) U<|?_
 refine qV ((HP (z:=.agg (SpD.cells ⟨⟨0,0,0⟩,0,0⟩).toArray) U U U underlying133 DH (KPf.mk A.ok A.u) C6 (C4 (es:=m.es) m.g (c:=m.c) C9) hmo.im).eq (v:=aA D.cells) hum) U ?_
 obtain⟨b43,hbe⟩:∃c:Bool,c=true<->¬hd0.cells=D.cells:=⟨@decide _ (Classical.propDecidable _),@Aim _ (Classical.propDecidable _)⟩
 refine qV (LN (b:=b43) U U U AgY AgV U U hbe) U ?_
 cases b43
 refine J10 ?_
 exact WE.to (L':=.row a (AV x.c.n r)::.obj d.g (.map d.es d.c)::.obj m.g (.map m.es m.c)::.row x.c.gx y.c.cells::.row x.c.gsp y.c.maps::(b.AE++(v.AE++Z))) (λw h=>h.tail) (eW ⟨j+1, #[],b,v⟩ C7 ⟨C7,hbo,aa,f,F⟩)
 refine J4 ?_
 refine WC.AS mixed<|rF 9 [0,1,2,4,5,6,8]<|?_
 refine J8 ?_
 refine rA 1 [3,7,9,10,11,12,13,14] U<|qV (An U U NV (cellAt (g:=x.c.gx) (v:=pG x.c.gp) Fa)) U ?_
 refine qV (An U U J0.h (cellAt (g:=x.c.gx) (v:=.slice (aG x.c.gsp) x.c.n x.c.sc) Fa)) U ?_
 refine qV (AA (lo:=i) U U U underlying77 FY W W) U<|qV (An U U EN (cellAt (g:=x.c.gsp) (v:=.map (some m.g)) (KF hP.wk hm))) U<|qV (AB U U DD.h U (AL (g:=g7))) U<|?_
 refine qV ((HP (z:=.agg (SpD.cells ⟨⟨0,0,0⟩,0,0⟩).toArray) U U U underlying133 DH (KPf.mk A.ok A.u) C6 (C4 (es:=m.es) m.g (c:=m.c) C9) hmo.im).eq (v:=aA D.cells) hum) U<|qV (SJ U U i160_0.h i86m.h U) U<|qV (MI U U i86_1.h i3o.h U) U<|?_
 refine J1 ?_
 refine rO 0 [15]<|zK CkO U<|?_
 intro w3 hS
 rw[show x.c.gp=b.p from(aa.trans hbp).symm]
 refine(Uw Fx w0 w3 b D.tag (.row g7 p.cells::.row a (AV x.c.n r)::.obj d.g (.map d.es d.c)::.obj m.g (.map m.es m.c)::.row x.c.gx y.c.cells::.row x.c.gsp y.c.maps::(v.AE++Z)) hbo hS.AJ).mono ?_
 rintro e w' ⟨r3,b3,rfl,hb3,hb4,G⟩
 refine⟨_,.row g7 p.cells::.row a (AV x.c.n r)::.obj d.g (.map d.es d.c)::.obj m.g (.map m.es m.c)::.row x.c.gx y.c.cells::.row x.c.gsp y.c.maps::(b3.AE++(v.AE++Z)),rfl,G.AJ,?_⟩
 refine J3 ?_
 refine WC.held ([.row g7 p.cells,.row x.c.gx y.c.cells]) mixed<|WRH.first (g:=2) [0,1,2,3,4,5] C6 C6 kp<|J3 ?_
 refine zj (An U U Jj.h (cellAt (g:=x.c.gx) (v:=pG x.c.gs) Fa)) U ?_
 refine J1 ?_
 refine zj (AB U U DD.h U (AL (g:=g7))) U<|WH.nil<|?_
 refine WRH.one (g:=1) 6 C6<|zB underlying32 BT FZ.h Di U ?_
 intro g66 hg66
 refine WL.BL kp<|WRH.one (g:=0) 7 C6<|zK CkO U<|λw3 hS=>?_
 rw[show x.c.gs=v.s from((f.s.trans hP.v.s).trans hvs).symm]
 refine(Uv Fx w0 w3 v i mb (aG g66) 1 [p] (.row g66 p.cells::.row g7 p.cells::.row a (AV x.c.n r)::.obj d.g (.map d.es d.c)::.obj m.g (.map m.es m.c)::.row x.c.gx y.c.cells::.row x.c.gsp y.c.maps::(b3.AE++Z)) F hmb (λq hq=>by rw[Es.1 hq];exact⟨A.ok,A.u⟩) (λq hq=>by rw[Es.1 hq,f.S];exact hpS p hpm2) Fj (λw h=>QR (AL (g:=g66) w h)) hS.AJ).mono ?_
 rintro e w' ⟨v3,rfl,hmk,G⟩
 refine⟨_,.row g66 p.cells::.row g7 p.cells::.row a (AV x.c.n r)::.obj d.g (.map d.es d.c)::.obj m.g (.map m.es m.c)::.row x.c.gx y.c.cells::.row x.c.gsp y.c.maps::(b3.AE++(v3.AE++Z)),rfl,G.AJ,?_⟩
 refine WL.BL kp<|WRH.done C6<|J6 ?_
 exact WE.to (L':=.row a (AV x.c.n r)::.obj d.g (.map d.es d.c)::.obj m.g (.map m.es m.c)::.row x.c.gx y.c.cells::.row x.c.gsp y.c.maps::(b3.AE++(v3.AE++Z))) (λw h=>h.tail.tail) (eW ⟨j+1, #[],b3,v3⟩ C7 ⟨C7,hb4,hb3.trans aa,f.trans hmk.more,hmk.ok⟩)
 refine J14 ?_
 refine zV (AA (lo:=i) U U U underlying77 FY W W) U<|zV (An U U EN (cellAt (g:=a) (v:=.map (some d.g)) (OK hd))) U<|WL.range (es:=d.es) (c:=d.c) U U underlying133 C9 (.none U) U U<|λK hg73=>J3 ?_
 refine oLp (λz:MvT=>[(73,pG K),(4,iI i),(16,iI i),(15,iI x.c.n),(0,pG x.c.gx),(1,.slice (aG a) x.c.n x.c.n)]) (λz=>.obj K (.mapIter (some d.g) d.c z.seen d.c)::.row a (AV x.c.n r)::.obj d.g (.map d.es d.c)::.obj m.g (.map m.es m.c)::.row x.c.gx y.c.cells::.row x.c.gsp y.c.maps::(b.AE++(z.v.AE++Z))) (λz=>CT y.v z.v/\z.v.Ok) (λz=>JD d.es z.seen) ⟨0, #[],b,v⟩ ⟨f,F⟩ ?_
 rintro⟨_,seen,_,v⟩ ⟨f,F⟩
 dsimp only at f F⊢
 refine J2 ?_
 refine WL.next U U C9 (O.st) (.none U) U U (λhov74=>?_) λB J hb74=>?_
 refine J10 ?_
 refine WC.AS mixed<|rF 4 [0,1,2,4,5,6,7]<|?_
 refine J6 ?_
 refine pV (AA (lo:=i) U U U underlying77 FY W W) U<|J1 ?_
 refine rA 1 [3,8,9] U<|qV (An U U J0.h (cellAt (g:=x.c.gx) (v:=.slice (aG x.c.gsp) x.c.n x.c.sc) Fa)) U ?_
 refine qV (An U U EN (cellAt (g:=a) (v:=.map (some d.g)) (OK hd))) U<|qV (AA (lo:=i) U U U underlying77 FY W W) U<|J1 ?_
 refine rO 0 [10]<|WL.DX U U U U EN (by unfold SxC.maps;rw[Ri, <- hP.wk.gm,Ri];omega) (.none U) U ?_
 obtain⟨c2,hc2⟩:∃c:SxC,c = { y.c with gm:=y.c.gm.set i d.g }:=⟨_,rfl⟩
 refine WL.CD (g:=x.c.gsp) (cs':=c2.maps) (by rw[hc2];unfold SxC.maps;rw[PP,Aed,List.map_set]) ?_
 refine J8 ?_
 subst hc2
 refine WE.to (L':=.row a (AV x.c.n r)::((r.drop (i+1)).map MpL.ent++SxL.all { y with c:={ y.c with gm:=y.c.gm.set i d.g },b:=b,v:=v,sp:=y.sp.set i d } L)) (λw h=>?_) (eW ⟨i+1, { y with c:={ y.c with gm:=y.c.gm.set i d.g },b:=b,v:=v,sp:=y.sp.set i d }⟩ C7 ⟨C7,?_⟩)
 .have hw:y.c.gw=x.c.gw/\y.c.sw=x.c.sw/\y.c.gt=x.c.gt:=Ej
  rw[hZ, <- hP.rest.2.2.1, <- hP.rest.2.2.2.1, <- hP.rest.2.2.2.2.1, <- hP.rest.2.2.2.2.2, <- hw.1, <- hw.2.1, <- hw.2.2, <- N.1, <- N.2.2] at h
  have h4:St Fx w0 w (.obj d.g (.map d.es d.c)::.row y.c.gx y.c.cells::.row y.c.gw y.c.sw::.row y.c.gsp (SxC.maps { y.c with gm:=y.c.gm.set i d.g })::.row y.c.gt y.t.cells::(y.TE++(y.TK++(b.AE++(v.AE++(y.spR i++(y.PM++(.row a (AV x.c.n r)::((r.drop (i+1)).map MpL.ent++L))))))))):=St.AN (.obj K (.mapIter (some d.g) d.c seen d.c)::.obj m.g (.map m.es m.c)::E) h
  exact SxL.MW (Z:=.row a (AV x.c.n r)::(r.drop (i+1)).map MpL.ent) (SxL.closed (x:=y) (x':={ y with c:={ y.c with gm:=y.c.gm.set i d.g },b:=b,v:=v,sp:=y.sp.set i d }) (m':=d) hm U h4)
 .have hil:=(Eu.1 hm).1
  refine⟨⟨by show v.S.length<=5000;rw[f.S];exact hP.wk.few,⟨by dsimp only;rw[AbI];exact hyn.1,f.len.trans hyn.2⟩,?_,λj mj hj=>?_⟩,hP.v.trans f,F,hbo,aa,?_,hP.rest,λj hj=>?_⟩
  .show (y.sp.set i d).map MpL.g=y.c.gm.set i d.g
   rw[List.map_set,hP.wk.gm]
  .have hj:(y.sp.set i d)[j]?=some mj:=hj
   by_cases e:j=i
   .subst e
    rw[AdZ hil] at hj;cases hj
    exact⟨O,λq u hq=>(hdv q u hq).more f⟩
   .rw [Adq λh=>e h.symm] at hj
    exact⟨(hP.wk.sp j mj hj).1,λq u hq=>((hP.wk.sp j mj hj).2 q u hq).more f⟩
  .show ({ y.c with gm:=y.c.gm.set i d.g }:SxC) = { x.c with gm:=y.c.gm.set i d.g }
   rw[hP.c]
  .show (y.sp.set i d)[j]?=r[j]?
   by_cases e:j=i
   .subst e
    rw[AdZ hil,hd]
   .rw [Adq λh=>e h.symm]
    exact hP.sp j (by dsimp only at hj;omega)
 refine J1 ?_
 obtain⟨p,hpe,hpok,hpU⟩:=O.im.keys B J
 have A:IS p:=⟨hpok,hpU⟩
 obtain⟨D,hum⟩:=Zt hmv (aA p.cells)
 have hpS2:p∈y.v.S:=(by
  obtain⟨p',_,h2,_,h1,_⟩:=(hdv B.key B.val ((O.im.get _ _).2 ⟨B,J,rfl,rfl⟩)).is_
  rw[hpe] at h2
  rw[EE h2];exact h1)
 obtain⟨mb,hmb⟩:∃mb,v.ms[i]?=some mb:=⟨v.ms[i]'(by rw[f.len,hyn.2,N.2.1];omega),FS _⟩
 refine J9 ?_
 refine zV ((LL U U (es:=d.es) (g:=d.g) (c:=d.c) (since:=d.c) (seen:=seen) C9 C9 O.st J).eq (v:=.tuple #[aA p.cells,B.val]) (by rw[hpe])) U ?_
 refine J1 ?_
 refine zy U FZ.h U U<|λg8 hg8=>J4 ?_
 refine WC.AS mixed<|rF 11 [0,1,2,4]<|?_
 refine J5 ?_
 refine WR.mix (g:=2) 12 [3,5,6,7,8,9,10] [11] U HQ U U U C6 C6<|zm (An U U J0.h (cellAt (g:=x.c.gx) (v:=.slice (aG x.c.gsp) x.c.n x.c.sc) Fa)) U ?_
 refine zm (AA (lo:=i) U U U underlying77 FY W W) U<|zm (An U U EN (cellAt (g:=x.c.gsp) (v:=.map (some m.g)) (KF hP.wk hm))) U<|zm (AB U U DD.h U (AL (g:=g8))) U<|?_
 refine zm (ED (z:=.agg (SpD.cells ⟨⟨0,0,0⟩,0,0⟩).toArray) U U U underlying133 DH (KPf.mk A.ok A.u) C6 (C4 (es:=m.es) m.g (c:=m.c) C9) hmo.im) U ?_
 rw[hum]
 generalize (m.M (aA p.cells)).isSome=hv2
 refine zm (DG U U) U<|zm (CB U U U) U<|WM.nil<|?_
 refine J1 ?_
 refine WP.NU<|λg9 hg9=>rO 1 [13]<|J1 ?_
 refine WL.CD (g:=g9) (cs':=D.cells) (AH U)<|J1 ?_
 refine rF 0 [14]<|J7 ?_
 skip
 cases hv2
 refine J4 ?_
 refine WC.held ([.row g8 p.cells,.row x.c.gx y.c.cells]) mixed<|WRH.first (g:=2) [0,1,2,3,4,5] C6 C6 kp<|J3 ?_
 refine zj (An U U Jj.h (cellAt (g:=x.c.gx) (v:=pG x.c.gs) Fa)) U ?_
 refine J1 ?_
 refine zj (AB U U DD.h U (AL (g:=g8))) U<|WH.nil<|?_
 refine WRH.one (g:=1) 6 C6<|zB underlying32 BT FZ.h Di U ?_
 intro T hg98
 refine WL.to (L':=.row T p.cells::.row g9 D.cells::.row g8 p.cells::.obj K (.mapIter (some d.g) d.c (seen.push B.born) d.c)::.row a (AV x.c.n r)::.obj d.g (.map d.es d.c)::.obj m.g (.map m.es m.c)::.row x.c.gx y.c.cells::.row x.c.gsp y.c.maps::(b.AE++(v.AE++Z))) (λw h=>h.AJ)<|WL.BL kp<|?_
 refine WRH.one (g:=0) 7 C6<|zK CkO U<|λw3 hS=>?_
 rw[show x.c.gs=v.s from((f.s.trans hP.v.s).trans hvs).symm]
 refine(Uv Fx w0 w3 v i mb (aG T) 1 [p] (.row T p.cells::.row g9 D.cells::.row g8 p.cells::.obj K (.mapIter (some d.g) d.c (seen.push B.born) d.c)::.row a (AV x.c.n r)::.obj d.g (.map d.es d.c)::.obj m.g (.map m.es m.c)::.row x.c.gx y.c.cells::.row x.c.gsp y.c.maps::(b.AE++Z)) F hmb (λq hq=>by rw[Es.1 hq];exact⟨A.ok,A.u⟩) (λq hq=>by rw[Es.1 hq,f.S];exact hpS2) Fj (λw h=>QR (AL (g:=T) w h)) hS.AJ).mono ?_
 rintro e w' ⟨v3,rfl,hmk,G⟩
 refine⟨_,.row T p.cells::.row g9 D.cells::.row g8 p.cells::.obj K (.mapIter (some d.g) d.c (seen.push B.born) d.c)::.row a (AV x.c.n r)::.obj d.g (.map d.es d.c)::.obj m.g (.map m.es m.c)::.row x.c.gx y.c.cells::.row x.c.gsp y.c.maps::(b.AE++(v3.AE++Z)),rfl,G.AJ,?_⟩
 refine WL.BL kp<|WRH.done C6<|J1 ?_
 exact WE.to (L':=.obj K (.mapIter (some d.g) d.c (seen.push B.born) d.c)::.row a (AV x.c.n r)::.obj d.g (.map d.es d.c)::.obj m.g (.map m.es m.c)::.row x.c.gx y.c.cells::.row x.c.gsp y.c.maps::(b.AE++(v3.AE++Z))) (λw h=>h.tail.tail.tail) (eW ⟨0,seen.push B.born,b,v3⟩ (HA J hb74) ⟨f.trans hmk.more,hmk.ok⟩)
 refine J6 ?_
 exact eWx [.row g9 D.cells,.row g8 p.cells] ⟨0,seen.push B.born,b,v⟩ (HA J hb74) ⟨f,F⟩
 refine J8 ?_
 refine WE.LC (P:=prog) (.inr U) results105  ?_
 obtain rfl:i=x.c.n:=W
 refine λw' h=>⟨y,rfl,hP,?_,h.sub (by rw[List.drop_of_length_le (W)];exact Adk _ _)⟩
 apply AhO
 intro j
 by_cases e:j<x.c.n
 .exact hP.sp j e
 .rw [AcL (by have:=hP.wk.n.1;omega),AcL W]

instance SxL.atW{x:SxL}{L:eL}:At (SxL.all x L) x.c.gw x.c.sw:=⟨by unfold SxL.all;simp⟩
def SxL.Aa8(x:SxL)(L:eL):eL:=.row x.c.gx x.c.cells::.row x.c.gw x.c.sw::.row x.c.gsp x.c.maps::.row x.c.gt x.t.cells::(x.TE++(x.TK++(x.v.AE++(x.sp.map MpL.ent++(x.PM++L)))))
theorem SxL.AdC(x:SxL)(L:eL):(x.b.AE++x.Aa8 L).Perm (x.all L):=by
 unfold SxL.Aa8 SxL.all
 refine(Aib x.b.AE [_,_,_,_] _).trans<|List.Perm.append_left [_,_,_,_] ?_
 exact B7
structure LayP(x y:SxL):Prop where
 to:XTo x y
 p:y.c.p=x.c.p
 pl:y.xs=x.xs/\y.ys=x.ys/\y.PM=x.PM
 c:y.c.rules=x.c.rules
structure LaS where
 r:Int
 t:TbL
 TE:eL
 TK:eL
structure LaT where
 j:Nat
 b:PoL
theorem Ab6(n:Nat):(List.replicate n [Value.map none]).flatten=AV n []:=by
 unfold AV
 induction n with
 | zero=>rfl
 | succ n a=>rw[List.replicate_succ,List.flatten_cons,a];rfl
theorem Xg(w0 w1:Wd)(x:SxL)(q:PlN)(qx qy:List RlL)(L:eL)(B:CQ x)(hq:Uz q qx qy)(hqn:q.AY.length=x.c.n)(hqb:∀f∈q.AY,Byt f)(hqr:∀w,(∀e∈x.PM++L,e.holds w)->LV w q.xa qx/\LV w q.ya qy/\Rg w q.za (G3 q.AY))(hG:GW w0)(hS0:St Fx w0 w1 (x.all L)):
 Cl 45 #[pG x.c.gx,aA q.cells] w1 λe w'=>∃(r:Int) (y:SxL),e=.returned (iI r)/\LayP x y/\St Fx w0 w' (y.all L):=by
 have hn:=B.n
 have h16:=B.n16
 have hmost:=B.most
 have htn:=B.tn
 refine enter func45 U ntmps45 U hS0<|J2 ?_
 refine zx U U U U U<|λA hg3=>J8 ?_
 refine zV (An U U NV (cellAt (g:=x.c.gx) (v:=pG x.c.gp) U)) U<|zK CkO U<|?_
 intro w2 hS
 have h2:St Fx w0 w2 (x.b.AE++x.Aa8 (.row A q.cells::L)):=(SxL.GI (Z:=[.row A q.cells]) hS).perm (SxL.AdC x (.row A q.cells::L))
 rw[<- B.bp]
 refine(Ada Fx w0 w2 x.b (x.Aa8 (.row A q.cells::L)) B.b h2).mono ?_
 rintro e w' ⟨r0,b1,rfl,hb1,hb2,N⟩
 refine⟨_,.row A q.cells::SxL.all { x with b:=b1 } L,rfl,SxL.MW (Z:=[.row A q.cells]) (N.perm (SxL.AdC { x with b:=b1 } (.row A q.cells::L)).symm),?_⟩
 have hO1:CQ { x with b:=b1 }:=B.putB hb2 hb1
 refine J7 ?_
 refine zV (An U U J0.h (cellAt (g:=x.c.gx) (v:=.slice (aG x.c.gsp) x.c.n x.c.sc) U)) U<|J1 ?_
 refine WL.Mm (m:=x.c.n) (c:=x.c.n) U U U W W W underlying77 by_133 W W FY Af9 U (.none U) U U<|λi hg19=>WL.CD (g:=i) (cs':=AV x.c.n []) (Ab6 _)<|J1 ?_
 refine zy U i233z.h U U<|λF hg5=>J1 ?_
 refine WL.CD (g:=F) (cs':=[.slice (aG i) x.c.n x.c.n,sN,sN]) (AH U)<|J5 ?_
 refine zV (AB U U RS.h U (AL (g:=A))) U<|zK CkO U<|?_
 intro w2 hS
 have h2:St Fx w0 w2 (.row F [.slice (aG i) x.c.n x.c.n,sN,sN]::.row i (AV x.c.n [])::SxL.all { x with b:=b1 } ([.row A q.cells]++L)):=hS.perm (List.Perm.append_left [_,_] (SxL.Wm { x with b:=b1 } [.row A q.cells] L).symm)
 refine(draw_c w0 w2 { x with b:=b1 } q qx qy F i ([.row A q.cells]++L) hO1 hq hqn hqb (λw h=>hqr w λe he=>h e (by rcases LI.1 he with he|he<;>simp[he])) hG h2).mono ?_
 rintro e w' ⟨r,D,v,rfl,hD,hDl,N⟩
 have hto:∀ {w:Wd},St Fx w0 w (.row F [.slice (aG i) x.c.n x.c.n,.slice v.ia v.ins.length v.ic,.slice v.ta v.tk.length v.tc]::.row i (AV x.c.n D)::(v.ET++(v.EI++(v.KI++(D.map MpL.ent++SxL.all { x with b:=v.b } ([.row A q.cells]++L))))))->St Fx w0 w (.row F [.slice (aG i) x.c.n x.c.n,.slice v.ia v.ins.length v.ic,.slice v.ta v.tk.length v.tc]::.row i (AV x.c.n D)::.row x.c.gx x.c.cells::.row x.c.gw x.c.sw::.row x.c.gsp x.c.maps::.row x.c.gt x.t.cells::(x.TE++(x.TK++(v.EI++(v.KI++(v.ET++(D.map MpL.ent++(v.b.AE++(x.v.AE++(x.sp.map MpL.ent++(x.PM++(.row A q.cells::L)))))))))))):=λh=>(by
  unfold SxL.all at h
  exact h.AJ)
 refine⟨_,.row F [.slice (aG i) x.c.n x.c.n,.slice v.ia v.ins.length v.ic,.slice v.ta v.tk.length v.tc]::.row i (AV x.c.n D)::.row x.c.gx x.c.cells::.row x.c.gw x.c.sw::.row x.c.gsp x.c.maps::.row x.c.gt x.t.cells::(x.TE++(x.TK++(v.EI++(v.KI++(v.ET++(D.map MpL.ent++(v.b.AE++(x.v.AE++(x.sp.map MpL.ent++(x.PM++(.row A q.cells::L))))))))))),rfl,hto N,?_⟩
 refine J3 ?_
 refine WC.cut (λz:LaS=>[(6,iI z.r),(5,pG F),(0,pG x.c.gx)]) (λz=>.row F [.slice (aG i) x.c.n x.c.n,.slice v.ia v.ins.length v.ic,.slice v.ta v.tk.length v.tc]::.row i (AV x.c.n D)::.row x.c.gx x.c.cells::.row x.c.gw x.c.sw::.row x.c.gsp x.c.maps::.row x.c.gt z.t.cells::(z.TE++(z.TK++(v.EI++(v.KI++(v.ET++(D.map MpL.ent++(v.b.AE++(x.v.AE++(x.sp.map MpL.ent++(x.PM++(.row A q.cells::L)))))))))))) (λz=>z.t.most=x.t.most/\Vec 21 z.t.ad z.t.es.length z.t.c (DA z.t.es) z.TE/\I7 z.TK z.t.es/\(z.t.es.length:Int)<=x.t.most/\(z.r≠0->z.t.d=x.t.d)/\(z.r=0->D.length=x.c.n/\z.t.d.Perm ((v.ins.map EnL.d).map EnD.norm))) ?_ ?_
 refine J3 ?_
 refine JT (λh25=>?_) λh25=>?_
 refine J3 ?_
 refine WC.held ([.row F [.slice (aG i) x.c.n x.c.n,.slice v.ia v.ins.length v.ic,.slice v.ta v.tk.length v.tc],.row x.c.gx x.c.cells,.row x.c.gw x.c.sw]) mixed<|WRH.first (g:=3) [0,1,2,3,4,5,6,7,9,10] C6 C6 kp<|J3 ?_
 refine zj (An U U Vr (cellAt (g:=x.c.gx) (v:=pG x.c.gw) U)) U<|J2 ?_
 refine zj (An U U Vp (cellAt (g:=x.c.gw) (v:=pG x.c.gt) U)) U<|J2 ?_
 refine zj (An U U TI.h (cellAt (g:=F) (v:=.slice v.ia v.ins.length v.ic) U)) U<|WH.nil<|?_
 refine WRH.one (g:=2) 8 C6<|zK CkO U<|λw2 hS=>?_
 have hWk:Wg { x with b:=v.b }:=⟨B.v.few,B.n,B.gm,B.sp⟩
 have h2:St Fx w0 w2 (SxL.all { x with b:=v.b } (.row F [.slice (aG i) x.c.n x.c.n,.slice v.ia v.ins.length v.ic,.slice v.ta v.tk.length v.tc]::.row i (AV x.c.n D)::(v.EI++(v.KI++(v.ET++(D.map MpL.ent++(.row A q.cells::L))))))):=by
  unfold SxL.all
  exact hS.AJ
 refine(Ahk w0 w2 { x with b:=v.b } (.row F [.slice (aG i) x.c.n x.c.n,.slice v.ia v.ins.length v.ic,.slice v.ta v.tk.length v.tc]::.row i (AV x.c.n D)::(v.EI++(v.KI++(v.ET++(D.map MpL.ent++(.row A q.cells::L)))))) hWk (by show x.c.n<=16;omega) h2).mono ?_
 rintro e w' ⟨ms,mad,mc,Em,rfl,hVm,hMk,hml,N⟩
 refine⟨_,Em++(.row F [.slice (aG i) x.c.n x.c.n,.slice v.ia v.ins.length v.ic,.slice v.ta v.tk.length v.tc]::.row i (AV x.c.n D)::.row x.c.gx x.c.cells::.row x.c.gw x.c.sw::.row x.c.gsp x.c.maps::.row x.c.gt x.t.cells::(x.TE++(x.TK++(v.EI++(v.KI++(v.ET++(D.map MpL.ent++(v.b.AE++(x.v.AE++(x.sp.map MpL.ent++(x.PM++(.row A q.cells::L)))))))))))),rfl,?_,?_⟩
 .unfold SxL.all at N
  exact N.AJ
 refine WL.BL kp<|WRH.one (g:=1) 11 C6<|zK CkO U<|λw2 hS=>(Ta Fx w0 w2 (Em++(.row F [.slice (aG i) x.c.n x.c.n,.slice v.ia v.ins.length v.ic,.slice v.ta v.tk.length v.tc]::.row i (AV x.c.n D)::.row x.c.gx x.c.cells::.row x.c.gw x.c.sw::.row x.c.gsp x.c.maps::(v.EI++(v.KI++(v.ET++(D.map MpL.ent++(v.b.AE++(x.v.AE++(x.sp.map MpL.ent++(x.PM++(.row A q.cells::L))))))))))) x.TE x.TK x.c.gt x.t mad mc ms v.ia v.ic v.ins (λh=>h) hG B.tv B.tk hS.AJ (λw h=>hVm.rg λe he=>h.holds e Dd) (λw h=>hD.vi.rg λe he=>h.holds e Dd) (λw h=>λe he=>⟨hD.in_ e he,by obtain⟨E',hV',hE'⟩:=hD.own e he;exact hV'.rg λz hz=>h.holds z (by simp[hE' z hz])⟩) hmost W W (by have:=hD.il;omega)).mono ?_
 rintro e w' ⟨O,t2,G,J,rfl,hm2,hWc,hV2,hK2,N⟩
 refine⟨_,.row F [.slice (aG i) x.c.n x.c.n,.slice v.ia v.ins.length v.ic,.slice v.ta v.tk.length v.tc]::.row i (AV x.c.n D)::.row x.c.gx x.c.cells::.row x.c.gw x.c.sw::.row x.c.gsp x.c.maps::.row x.c.gt t2.cells::(G++(J++(v.EI++(v.KI++(v.ET++(D.map MpL.ent++(v.b.AE++(x.v.AE++(x.sp.map MpL.ent++(x.PM++(.row A q.cells::L))))))))))),rfl,N.AN Em,?_⟩
 have hleft:Gp x.t.d ms=[]:=(by
  unfold Gp
  refine List.filter_eq_nil_iff.2 λe he=>?_
  obtain⟨k,p,g1,g2,A,g4⟩:=B.te e he
  obtain⟨mk,hmk⟩:∃mk,x.sp[k]?=some mk:=Gx
  rw[SxL.CM hmk] at A
  cases hc:mk.M (aA p.cells) with
  | none=>exact absurd hc A
  | some u =>
   obtain⟨p',h,e1,_,_,rfl,_,h6⟩:=((B.sp k mk hmk).2 _ _ hc).is_
   have:=hMk k mk g1 hmk _ h hc
   rw[h6, <- EE e1, <- g4.mark] at this
   simpa using this)
 have hln:t2.d.length=t2.es.length:=Ri _
 have hlx:x.t.d.length=x.t.es.length:=Ri _
 have hw2:=hWc.ok
 have hw3:=hWc.bad
 rw[hleft,Aec] at hw2
 refine WL.BL kp<|WRH.first (g:=0) [12] C6 C6 kp<|J1 ?_
 exact WH.nil<|WRH.done C6<|eM ⟨O,t2,G,J⟩ ⟨hm2,hV2,hK2,(by
 dsimp only
 by_cases h0:O=0
 .have:=(hw2 h0).2.1;omega
 .have:=hw3 h0;rw[this] at hln;omega),hw3,λh0=>⟨hDl h25,(hw2 h0).1⟩⟩
 refine J4 ?_
 exact eM ⟨r,x.t,x.TE,x.TK⟩ ⟨rfl,B.tv,B.tk,B.tn,λ_=>rfl,λh=>absurd h h25⟩
 rintro⟨O,t2,G,J⟩ ⟨hm2,hV2,hK2,hl2,hbad,hok⟩
 dsimp only at hm2 hV2 hK2 hl2 hbad hok⊢
 have hDb:v.b.p=x.b.p:=hD.bp.trans hb1
 have htl:=hD.tl
 have hxb:=B.bp
 refine J4 ?_
 refine JT (λh39=>?_) λh39=>?_
 refine J7 ?_
 refine zV (An U U S3.h (cellAt (g:=F) (v:=.slice v.ta v.tk.length v.tc) U)) U<|J5 ?_
 refine oLp (λz:LaT=>[(43,iI z.j),(42,iI v.tk.length),(41,.slice v.ta v.tk.length v.tc),(6,iI O),(0,pG x.c.gx)]) (λz=>.row F [.slice (aG i) x.c.n x.c.n,.slice v.ia v.ins.length v.ic,.slice v.ta v.tk.length v.tc]::.row i (AV x.c.n D)::.row x.c.gx x.c.cells::.row x.c.gw x.c.sw::.row x.c.gsp x.c.maps::.row x.c.gt t2.cells::(G++(J++(v.EI++(v.KI++(v.ET++(D.map MpL.ent++(z.b.AE++(x.v.AE++(x.sp.map MpL.ent++(x.PM++(.row A q.cells::L)))))))))))) (λz=>z.j<=v.tk.length/\z.b.Ok/\z.b.p=x.b.p) (λz=>v.tk.length-z.j) ⟨0,v.b⟩ ⟨Lv _,hD.b,hDb⟩ ?_
 rintro⟨j,b⟩ ⟨hj,hbo,hbq⟩
 dsimp only at hj hbo hbq⊢
 refine J2 ?_
 refine JT (λh44=>?_) λh44=>?_
 refine J10 ?_
 obtain⟨tg,htg⟩:∃tg,v.tk[j]?=some tg:=Gx
 obtain⟨b1,o1,ea1,r1⟩:=hD.vt.XS (L:=.row F [.slice (aG i) x.c.n x.c.n,.slice v.ia v.ins.length v.ic,.slice v.ta v.tk.length v.tc]::.row i (AV x.c.n D)::.row x.c.gx x.c.cells::.row x.c.gw x.c.sw::.row x.c.gsp x.c.maps::.row x.c.gt t2.cells::(G++(J++(v.EI++(v.KI++(v.ET++(D.map MpL.ent++(b.AE++(x.v.AE++(x.sp.map MpL.ent++(x.PM++(.row A q.cells::L)))))))))))) (λe he=>by simp[he]) Dq
 refine zV ((AA (b:=b1) (off:=o1) (lo:=j) U (by show some (Value.slice v.ta _ _)=_;rw[ea1]) U underlying34 AZ U W)) U ?_
 refine zV (An U U i3o.h ((λw hS=>by have:=r1 _ _ w hS j (iI tg) (by rw[WF,htg];rfl);rw[Aed];exact this))) U ?_
 refine J7 ?_
 refine zV (An U U NV (cellAt (g:=x.c.gx) (v:=pG x.c.gp) U)) U<|J1 ?_
 refine zK CkO U<|λw2 hS=>?_
 rw[show x.c.gp=b.p from hxb.symm.trans hbq.symm]
 refine(Uw Fx w0 w2 b tg (.row F [.slice (aG i) x.c.n x.c.n,.slice v.ia v.ins.length v.ic,.slice v.ta v.tk.length v.tc]::.row i (AV x.c.n D)::.row x.c.gx x.c.cells::.row x.c.gw x.c.sw::.row x.c.gsp x.c.maps::.row x.c.gt t2.cells::(G++(J++(v.EI++(v.KI++(v.ET++(D.map MpL.ent++(x.v.AE++(x.sp.map MpL.ent++(x.PM++(.row A q.cells::L))))))))))) hbo hS.AJ).mono ?_
 rintro e w' ⟨r3,b3,rfl,hb3,hb4,N⟩
 refine⟨_,.row F [.slice (aG i) x.c.n x.c.n,.slice v.ia v.ins.length v.ic,.slice v.ta v.tk.length v.tc]::.row i (AV x.c.n D)::.row x.c.gx x.c.cells::.row x.c.gw x.c.sw::.row x.c.gsp x.c.maps::.row x.c.gt t2.cells::(G++(J++(v.EI++(v.KI++(v.ET++(D.map MpL.ent++(b3.AE++(x.v.AE++(x.sp.map MpL.ent++(x.PM++(.row A q.cells::L))))))))))),rfl,N.AJ,?_⟩
 refine J7 ?_
 exact eW ⟨j+1,b3⟩ C7 ⟨C7,hb4,hb3.trans hbq⟩
 refine J17 ?_
 refine eT1 ?_
 refine λw' h=>⟨O, { x with b:=b,t:=t2,TE:=G,TK:=J },rfl,⟨⟨(B.putB hbo hbq).putT hm2 hV2 hK2 hl2 (by rw[hbad h39];exact B.ta) λe he=>by rw[hbad h39] at he;exact he,rfl,rfl,rfl⟩,rfl,⟨rfl,rfl,rfl⟩,rfl⟩,?_⟩
 have h2:St Fx w0 w' (SxL.all { x with b:=b,t:=t2,TE:=G,TK:=J } ((.row F [.slice (aG i) x.c.n x.c.n,.slice v.ia v.ins.length v.ic,.slice v.ta v.tk.length v.tc]::.row i (AV x.c.n D)::(v.EI++(v.KI++(v.ET++(D.map MpL.ent++[.row A q.cells])))))++L)):=by
  unfold SxL.all
  simp only[AbT,Qs,Aec]
  exact h.AJ
 exact SxL.HG h2
 refine J9 ?_
 refine zV (An U U J0.h (cellAt (g:=F) (v:=.slice (aG i) x.c.n x.c.n) U)) U ?_
 obtain rfl:O=0:=W
 obtain⟨hdl,hpm⟩:=hok U
 refine zK CkO U<|λw2 hS=>?_
 have hWk:Wg { x with b:=v.b,t:=t2,TE:=G,TK:=J }:=⟨B.v.few,B.n,B.gm,B.sp⟩
 have h2:St Fx w0 w2 (.row i (AV x.c.n D)::(D.map MpL.ent++SxL.all { x with b:=v.b,t:=t2,TE:=G,TK:=J } ((.row F [.slice (aG i) x.c.n x.c.n,.slice v.ia v.ins.length v.ic,.slice v.ta v.tk.length v.tc]::(v.EI++(v.KI++(v.ET++[.row A q.cells]))))++L))):=by
  unfold SxL.all
  simp only[AbT,Qs,Aec]
  exact hS.AJ
 refine(move_c w0 w2 { x with b:=v.b,t:=t2,TE:=G,TK:=J } D i ((.row F [.slice (aG i) x.c.n x.c.n,.slice v.ia v.ins.length v.ic,.slice v.ta v.tk.length v.tc]::(v.EI++(v.KI++(v.ET++[.row A q.cells]))))++L) hWk B.v B.vs hD.b (hDb.trans hxb) h16.2 hdl hD.mp h2).mono ?_
 rintro e w' ⟨y,rfl,K,hsp,N⟩
 have hyg:y.c.gx=x.c.gx:=(by rw[K.c])
 obtain⟨a,hY⟩:∃a,y.all ((.row F [.slice (aG i) x.c.n x.c.n,.slice v.ia v.ins.length v.ic,.slice v.ta v.tk.length v.tc]::(v.EI++(v.KI++(v.ET++[.row A q.cells]))))++L)=.row x.c.gx y.c.cells::a:=⟨_,by rw[<- hyg];rfl⟩
 refine⟨_,.row x.c.gx y.c.cells::a,rfl,(by rw[<- hY];exact N),?_⟩
 refine J8 ?_
 refine WL.CD (g:=x.c.gx) (cs':=SxC.cells { y.c with fresh:=0 }) U<|J8 ?_
 refine eT1 ?_
 refine λw' h=>⟨0, { y with c:={ y.c with fresh:=0 } },rfl,⟨⟨?_,?_,?_,?_⟩,?_,⟨K.rest.1,K.rest.2.1,K.rest.2.2.1⟩,?_⟩,?_⟩
 .have hyn:=K.wk.n
  have T:y.c.n=x.c.n/\y.c.gs=x.c.gs/\y.c.gp=x.c.gp/\y.c.p=x.c.p/\y.c.rules=x.c.rules:=(by rw[K.c];exact⟨rfl,rfl,rfl,rfl,rfl⟩)
  have hyt:y.t=t2:=K.rest.2.2.2.1
  have hpl:=B.pl
  have hpm2:=B.pm
  refine⟨K.vo,(K.v.s.trans B.vs).trans T.2.1.symm,λp h1 h2=>K.v.told (B.told p h1 h2),hyn,K.wk.gm,?_,?_,?_,?_,K.b,?_,?_,?_,?_,?_,?_,?_,?_,K.wk.sp⟩
  .show Uz y.c.p y.xs y.ys;rw[T.2.2.2.1,K.rest.1,K.rest.2.1];exact hpl
  .show y.c.p.AY.length=y.c.n;rw[T.2.2.2.1,T.1];exact B.pn
  .show PlW y.c.p;rw[T.2.2.2.1];exact B.pi
  .show ∀w,(∀e∈y.PM,e.holds w)->y.c.p.At w/\LV w y.c.p.xa y.xs/\LV w y.c.p.ya y.ys/\Rg w y.c.p.za (G3 y.c.p.AY)
   rw[T.2.2.2.1,K.rest.1,K.rest.2.1,K.rest.2.2.1];exact hpm2
  .show y.b.p=y.c.gp;rw[T.2.2.1];exact K.bp.trans (hDb.trans hxb)
  .show 0<=y.c.rules/\y.c.rules<=4096;rw[T.2.2.2.2];exact B.rules
  .show 0<=y.t.most/\y.t.most<=4096;rw[hyt,hm2];exact hmost
  .show Vec 21 y.t.ad y.t.es.length y.t.c (DA y.t.es) y.TE;rw[hyt,K.rest.2.2.2.2.1];exact hV2
  .show I7 y.TK y.t.es;rw[hyt,K.rest.2.2.2.2.2];exact hK2
  .show (y.t.es.length:Int)<=y.t.most;rw[hyt,hm2];exact hl2
  .show FC y.t.d;rw[hyt];exact FC.perm hpm.symm (Sj hD.ap)
  .show ∀e∈y.t.d,_
   intro e he
   rw[hyt] at he
   obtain⟨e1,he1,rfl⟩:=Ab8.1 (hpm.mem_iff.1 he)
   obtain⟨e2,he2,rfl⟩:=Ab8.1 he1
   obtain⟨j,p,mj,g1,g2,A,g4,F⟩:=hD.en e2 he2
   refine⟨j,p,?_,g2,?_,Vk F⟩
   .show j<y.c.n
    rw[T.1, <- hdl];exact(Eu.1 A).1
   .show (SxL.at_ { y with c:={ y.c with fresh:=0 } } j _)≠none
    unfold SxL.at_
    dsimp only
    rw[hsp,A];exact g4
 .exact hyg
 .show y.c.n=x.c.n;rw[K.c]
 .exact K.v.S
 .show y.c.p=x.c.p;rw[K.c]
 .show y.c.rules=x.c.rules;rw[K.c]
 .have h3:St Fx w0 w' (SxL.all { y with c:={ y.c with fresh:=0 } } ((.row F [.slice (aG i) x.c.n x.c.n,.slice v.ia v.ins.length v.ic,.slice v.ta v.tk.length v.tc]::(v.EI++(v.KI++(v.ET++[.row A q.cells]))))++L)):=by
   have hY2:SxL.all { y with c:={ y.c with fresh:=0 } } ((.row F [.slice (aG i) x.c.n x.c.n,.slice v.ia v.ins.length v.ic,.slice v.ta v.tk.length v.tc]::(v.EI++(v.KI++(v.ET++[.row A q.cells]))))++L)=.row x.c.gx (SxC.cells { y.c with fresh:=0 })::a:=(by
    have h1:a=(y.all ((.row F [.slice (aG i) x.c.n x.c.n,.slice v.ia v.ins.length v.ic,.slice v.ta v.tk.length v.tc]::(v.EI++(v.KI++(v.ET++[.row A q.cells]))))++L)).tail:=(by rw[hY];rfl)
    rw[h1, <- hyg];rfl)
   rw[hY2];exact h
  exact SxL.HG h3
theorem Wb(w0 s:Wd)(x:SxL)(L:eL)(a:CQ x)(hG:GW w0)(i:St Fx w0 s (x.all L)):
 Cl 27 #[pG x.c.gx] s λe j=>Qv w0 j x L e:=by
 refine enter func27 U ntmps27 U i<|J9 ?_
 refine zk CkO U (λw b=>Hl w x.c (SxL.Am b)) ?_
 skip
 refine J11 ?_
 refine zV (AB U U RS.h U (AT (g:=x.c.gx) (m:=6) (new:=x.c.p.cells) U)) U<|zK CkO U<|?_
 intro A b
 refine(Xg w0 A x x.c.p x.xs x.ys L a a.pl a.pn a.pi.AY (λw h=>(a.pm w λe z=>h e (Ha _ z)).2) hG b).mono ?_
 rintro e j ⟨r,y,rfl,u,f⟩
 refine⟨_,_,rfl,f,?_⟩
 refine J4 ?_
 refine eT1 ?_
 exact λj h=>⟨r,y,rfl,u.to,h⟩

def okSd(a:Int×Int):Prop:=(1<=a.1/\a.1<=65535)/\a.2≠0
instance (a:Int×Int):Decidable (okSd a):=by unfold okSd;infer_instance
end Gq

section
variable {P:Program}{C:World->Prop}{ops:Array Oper}{Q:Exit->Act->World->Prop}{n d:Nat}{p:Nat->Prop}{w0:World}{o:Oper}{rest:List Oper}{l:Kn}{L:List Ent}{x:Operand}{t kt et:TypeId}
def Emp(w:World)(g:Nat):Prop:=w.heap[g]?=some (.map #[] 0)
end

/-! ### Values without blocks -/
mutual
def CW:Value->Bool
 | .bool _ | .int _ _ | .string _ | .pointer none | .slice none _ _ | .map none | .nilFunc | .nilIface=>true
 | .iface _ v=>CW v
 | .agg b=>Mx b
 | .tuple e=>Mx e
 | .func _ c a=>Mx c && Mx a
 | _=>false
def Mx:Array Value->Bool
 | ⟨l⟩=>DB l
def DB:List Value->Bool
 | []=>true
 | v::a=>CW v && DB a
end
theorem PH(l:List Value):Mx l.toArray=DB l:=by rw[Mx]
abbrev Rn:=Nat->Option (Nat×Nat)
def Rn.le(R R':Rn):Prop:=∀k x,R k=some x->R' k=some x
theorem Rn.le.refl(R:Rn):R.le R:=λ_ _ h=>h
theorem Rn.le.trans{R R' a:Rn}(h:R.le R')(b:R'.le a):R.le a:=λk x hk=>b k x (h k x hk)
def Rn.set(R:Rn)(n:Nat)(x:Nat×Nat):Rn:=λk=>if k=n then some x else R k
theorem Rn.VA{R:Rn}{x:Nat×Nat}(h:R A=none):R.le (R.set A x):=λk y hk=>by
 unfold Rn.set
 rw[E9 λe=>by rw[e,h] at hk;cases hk]
 exact hk
theorem Rn.BX(R:Rn)(n:Nat)(x:Nat×Nat):R.set n x n=some x:=IR rfl
def DI:Nat:=2305843009213693952
def Jd(q c:Nat):Nat:=if c<1152921504606846976 then c else q-(DI-c)
mutual
inductive VR (R:Rn):Value->Value->Prop
 | plain {v:Value}:CW v=true->VR R v v
 | ptr {k o b q:Nat}:R k=some (b,q)->VR R (.pointer (some ⟨k,o,none⟩)) (.pointer (some ⟨b,o,none⟩))
 | slice {k o b q n c:Nat}:R k=some (b,q)->n<=Jd q c->VR R (.slice (some ⟨k,o,none⟩) n c) (.slice (some ⟨b,o,none⟩) n (Jd q c))
 | empty {a:Addr}{c:Nat}:VR R (.slice (some ⟨0,0,some 0⟩) 0 0) (.slice (some a) 0 c)
 | map {k b q:Nat}:R k=some (b,q)->VR R (.map (some k)) (.map (some b))
 | func {f:Fn}{fi ca fi' ca':List Value}:VRs R fi fi'->VRs R ca ca'->VR R (.func f fi.toArray ca.toArray) (.func f fi'.toArray ca'.toArray)
 | iface {t:TypeId}{v v':Value}:VR R v v'->VR R (.iface t v) (.iface t v')
 | agg {cs cs':List Value}:VRs R cs cs'->VR R (.agg cs.toArray) (.agg cs'.toArray)
 | tuple {cs cs':List Value}:VRs R cs cs'->VR R (.tuple cs.toArray) (.tuple cs'.toArray)
inductive VRs (R:Rn):List Value->List Value->Prop
 | nil:VRs R [] []
 | cons {v v':Value}{vs vs':List Value}:VR R v v'->VRs R vs vs'->VRs R (v::vs) (v'::vs')
end
theorem VRs.plain{R:Rn}:∀ {a:List Value},DB a=true->VRs R a a
 | [],_=>.nil
 | v::a,h=>by
  unfold DB at h
  rw[Hr] at h
  exact .cons (.plain h.1) (VRs.plain h.2)
mutual
theorem VR.mono{R R':Rn}(h:R.le R'):∀ {v c:Value},VR R v c->VR R' v c
 | _,_,.plain e=>.plain e
 | _,_,.ptr e=>.ptr (h _ _ e)
 | _,_,.slice e f=>.slice (h _ _ e) f
 | _,_,.empty=>.empty
 | _,_,.map e=>.map (h _ _ e)
 | _,_,.func a b=>.func (VRs.mono h a) (VRs.mono h b)
 | _,_,.iface a=>.iface (VR.mono h a)
 | _,_,.agg a=>.agg (VRs.mono h a)
 | _,_,.tuple a=>.tuple (VRs.mono h a)
theorem VRs.mono{R R':Rn}(h:R.le R'):∀ {v c:List Value},VRs R v c->VRs R' v c
 | _,_,.nil=>.nil
 | _,_,.cons a b=>.cons (VR.mono h a) (VRs.mono h b)
end
mutual
theorem VR.same{R:Rn}:∀ {v c:Value},VR R v c->CW v=true->c=v
 | _,_,.plain _,_=>rfl
 | _,_,.ptr _,h=>by cases h
 | _,_,.slice _ _,h=>by cases h
 | _,_,.empty,h=>by cases h
 | _,_,.map _,h=>by cases h
 | _,_,.func a b,h=>by
  simp only[CW,PH,Hr] at h
  rw[VRs.same a h.1,VRs.same b h.2]
 | _,_,.iface a,h=>by rw[VR.same a (by simpa only [CW] using h)]
 | _,_,.agg a,h=>by rw[VRs.same a (by simpa only [CW,PH] using h)]
 | _,_,.tuple a,h=>by rw[VRs.same a (by simpa only [CW,PH] using h)]
theorem VRs.same{R:Rn}:∀ {v c:List Value},VRs R v c->DB v=true->c=v
 | _,_,.nil,_=>rfl
 | _,_,.cons a b,h=>by
  simp only[DB,Hr] at h
  rw[VR.same a h.1,VRs.same b h.2]
end
theorem VRs.length{R:Rn}:∀ {b a:List Value},VRs R b a->a.length=b.length
 | _,_,.nil=>rfl
 | _,_,.cons _ h=>by rw[Acg,Acg,VRs.length h]
theorem VRs.get{R:Rn}:∀ {f e:List Value}{i:Nat}{v:Value},VRs R f e->f[i]?=some v->∃c,e[i]?=some c/\VR R v c
 | _,_,_,_,.nil,h=>by cases h
 | _,_,0,_,.cons (v':=c) a _,h=>by
  rw[Ahl] at h
  injection h with h
  subst h
  exact⟨c,rfl,a⟩
 | _,_,i+1,_,.cons _ b,h=>by
  rw[Ah7] at h
  obtain⟨c,j,m⟩:=VRs.get b h
  exact⟨c,by rw[Ah7];exact j,m⟩
theorem VRs.app{R:Rn}:∀ {a c b e:List Value},VRs R a c->VRs R b e->VRs R (a++b) (c++e)
 | _,_,_,_,.nil,h=>h
 | _,_,_,_,.cons x h,f=>.cons x (VRs.app h f)
theorem VRs.drop{R:Rn}:∀ {a b:List Value}(k:Nat),VRs R a b->VRs R (a.drop k) (b.drop k)
 | _,_,0,h=>h
 | _,_,_+1,.nil=>.nil
 | _,_,k+1,.cons _ h=>VRs.drop k h
theorem VRs.take{R:Rn}:∀ {a b:List Value}(k:Nat),VRs R a b->VRs R (a.take k) (b.take k)
 | _,_,0,_=>.nil
 | _,_,_+1,.nil=>.nil
 | _,_,k+1,.cons x h=>.cons x (VRs.take k h)
theorem VRs.set{R:Rn}:∀ {a b:List Value}(k:Nat){v c:Value},VRs R a b->VR R v c->VRs R (a.set k v) (b.set k c)
 | _,_,_,_,_,.nil,_=>.nil
 | _,_,0,_,_,.cons _ h,x=>.cons x h
 | _,_,k+1,_,_,.cons y h,x=>.cons y (VRs.set k h x)
theorem VRs.AK{R:Rn}:∀ {a c:List Value}(k:Nat){v e:List Value},VRs R a c->VRs R v e->VRs R (AK a k v) (AK c k e)
 | _,_,k,_,_,.nil,.nil=>by cases k<;>exact .nil
 | _,_,k,_,_,.nil,.cons x h=>by cases k<;>exact .nil
 | _,_,k,_,_,.cons y h,.nil=>by rw[H9,H9];exact .cons y h
 | _,_,0,_,_,.cons _ h,.cons x b=>.cons x (VRs.AK 0 h b)
 | _,_,k+1,_,_,.cons y h,.cons x b=>.cons y (VRs.AK k h (.cons x b))
/-! ### What a value is, taken apart -/
section
variable {R:Rn}
theorem VR.Lo{k:IntKind}{n:Int}(h:VR R (.int k n) B):B=.int k n:=by cases h;rfl
theorem VR.Og{b:Bool}(h:VR R (.bool b) B):B=.bool b:=by cases h;rfl
theorem VR.IZ{a:Addr}(h:VR R (.pointer (some a)) B):∃b q,a.spot=none/\R a.block=some (b,q)/\B=.pointer (some ⟨b,a.off,none⟩):=by
 cases h with
 | plain e=>cases e
 | ptr e=>exact⟨_,_,rfl,e,rfl⟩
theorem VR.Gw{a:Addr}(f:a.spot=none)(h:VR R (.slice (some a) A F) B):∃b q,a.spot=none/\R a.block=some (b,q)/\A<=Jd q F/\B=.slice (some ⟨b,a.off,none⟩) A (Jd q F):=by
 cases h with
 | plain e=>cases e
 | slice e c=>exact⟨_,_,rfl,e,c,rfl⟩
 | empty=>cases f
theorem VR.Uh{a:Option Addr}(h:VR R (.slice a A F) B):∃b c,B=.slice b A c/\(b=none<->a=none):=by
 cases h with
 | plain e=>exact⟨_,_,rfl,Iff.rfl⟩
 | slice e f=>exact⟨_,_,rfl,C9⟩
 | empty=>exact⟨_,_,rfl,C9⟩
theorem VR.KP(h:VR R (.slice none A F) B):B=.slice none A F:=by cases h;rfl
theorem VR.OJ(h:VR R (.map (some A)) B):∃b q,R A=some (b,q)/\B=.map (some b):=by
 cases h with
 | plain e=>cases e
 | map e=>exact⟨_,_,e,rfl⟩
theorem VR.Sf(h:VR R (.map none) B):B=.map none:=by cases h;rfl
theorem G8(h:Mx G=true):DB G.toList=true:=by cases G;exact h
theorem VR.Aab(h:VR R (.agg G) B):∃a,B=.agg a.toArray/\VRs R G.toList a:=by
 cases h with
 | plain e=>exact⟨G.toList,C9,VRs.plain (G8 (by simpa [CW] using e))⟩
 | agg e=>exact⟨_,rfl,e⟩
theorem VR.AcD(h:VR R (.tuple G) B):∃a,B=.tuple a.toArray/\VRs R G.toList a:=by
 cases h with
 | plain e=>exact⟨G.toList,C9,VRs.plain (G8 (by simpa [CW] using e))⟩
 | tuple e=>exact⟨_,rfl,e⟩
theorem VR.Aeg{f:Fn}{j:Array Value}(h:VR R (.func f G j) B):∃i c,B=.func f (List.toArray i) (List.toArray c)/\VRs R G.toList i/\VRs R j.toList c:=by
 cases h with
 | plain e =>
  simp only[CW,Hr] at e
  exact⟨G.toList,j.toList,C9,VRs.plain (G8 e.1),VRs.plain (G8 e.2)⟩
 | func a b=>exact⟨_,_,rfl,a,b⟩
end
/-! ### Pure runs -/
def Aa4{b:Type}(P:Program):Sem b->Option b
 | .pure a=>some a
 | .program k=>Aa4 P (k P)
 | .mark _ k=>Aa4 P k
 | _=>none
theorem PI{b:Type}{P:Program}{w:World}:∀ {t:Sem b}{a:b},Aa4 P t=some a->t.run P w=.ok a w
 | .pure _,_,h=>by cases h;rfl
 | .program k,_,h=>PI (t:=k P) h
 | .mark _ k,_,h=>PI (t:=k) h
 | .load ..,_,h=>by cases h
 | .store ..,_,h=>by cases h
 | .new ..,_,h=>by cases h
 | .shape ..,_,h=>by cases h
 | .freeze ..,_,h=>by cases h
 | .frozen ..,_,h=>by cases h
 | .getObj ..,_,h=>by cases h
 | .setObj ..,_,h=>by cases h
 | .choose ..,_,h=>by cases h
 | .sys ..,_,h=>by cases h
 | .halt ..,_,h=>by cases h

inductive VO where
 | row (cs:List Value) (op:Option Nat)
 | map (kt:Nat) (es:List (Value×Value)) (it:Option (Nat×Bool))
 | iter (m:Option Nat)
inductive Tr where
 | e
 | l (v:VO)
 | n (a b:Tr)
def Tr.get:Nat->Tr->Nat->Option VO
 | _,.e,_=>none
 | 0,.l v,_=>some v
 | d+1,.n a b,k=>cond (Nat.beq (k % 2) 0) (Tr.get d a (k / 2)) (Tr.get d b (k / 2))
 | _,_,_=>none
def Tr.put:Nat->Tr->Nat->Option VO->Tr
 | 0,_,_,v=>match v with|some v=>.l v|none=>.e
 | d+1,.n a b,k,v=>cond (Nat.beq (k % 2) 0) (.n (Tr.put d a (k / 2) v) b) (.n a (Tr.put d b (k / 2) v))
 | d+1,_,k,v=>cond (Nat.beq (k % 2) 0) (.n (Tr.put d .e (k / 2) v) .e) (.n .e (Tr.put d .e (k / 2) v))
theorem Tr.Aeh(d k:Nat):Tr.get d .e k=none:=by cases d<;>rfl
theorem Tr.FD:∀(d:Nat) (t:Tr) (k:Nat) (v:Option VO),Tr.get d (Tr.put d t k v) k=v
 | 0,t,k,v=>by cases v<;>rfl
 | d+1,t,k,v=>by
  cases t with
  | n a b =>
   unfold Tr.put
   cases h:Nat.beq (k % 2) 0
   .simp only [cond_false,Tr.get,h];exact Tr.FD d b (k / 2) v
   .simp only [Aih,Tr.get,h];exact Tr.FD d a (k / 2) v
  | e =>
   unfold Tr.put
   cases h:Nat.beq (k % 2) 0
   .simp only [cond_false,Tr.get,h];exact Tr.FD d .e (k / 2) v
   .simp only [Aih,Tr.get,h];exact Tr.FD d .e (k / 2) v
  | l u =>
   unfold Tr.put
   cases h:Nat.beq (k % 2) 0
   .simp only [cond_false,Tr.get,h];exact Tr.FD d .e (k / 2) v
   .simp only [Aih,Tr.get,h];exact Tr.FD d .e (k / 2) v
theorem Tr.BF:∀(d:Nat) (t:Tr) (j k:Nat) (v:Option VO),j≠k->j<2^d->k<2^d->Tr.get d (Tr.put d t k v) j=Tr.get d t j
 | 0,t,j,k,v,h,s,hk=>by simp at s hk;omega
 | d+1,t,j,k,v,h,s,hk=>by
  have c:j / 2<2^d:=by rw[Nat.pow_succ] at s;omega
  have f:k / 2<2^d:=by rw[Nat.pow_succ] at hk;omega
  have i:∀(a b:Tr),Tr.get (d+1) (cond (Nat.beq (k % 2) 0) (.n (Tr.put d a (k / 2) v) b) (.n a (Tr.put d b (k / 2) v))) j=Tr.get (d+1) (.n a b) j:=λa b=>by
   cases r:Nat.beq (k % 2) 0<;>cases m:Nat.beq (j % 2) 0<;>simp only[cond_false,Aih,Tr.get,m]
   .have y:k % 2≠0:=λe=>by rw[e] at r;cases r
    have z:j % 2≠0:=λe=>by rw[e] at m;cases m
    exact Tr.BF d b _ _ v W c f
   .have y:=NE r
    have z:=NE m
    exact Tr.BF d a _ _ v W c f
  have w:Tr.get (d+1) (cond (Nat.beq (k % 2) 0) (.n (Tr.put d .e (k / 2) v) .e) (.n .e (Tr.put d .e (k / 2) v))) j=none:=by
   rw[i]
   simp only[Tr.get,Tr.Aeh]
   cases Nat.beq (j % 2) 0<;>rfl
  cases t with
  | n a b=>exact i a b
  | e=>exact w.trans (Tr.Aeh _ _).symm
  | l u=>exact w
structure Hp where
 n:Nat
 t:Tr
def hpD:Nat:=14
def hpM:Nat:=16384
def Hp.get(H:Hp)(k:Nat):Option VO:=cond (Nat.blt k hpM) (Tr.get hpD H.t k) none
def Hp.put(H:Hp)(k:Nat)(v:Option VO):Hp:=⟨H.n,Tr.put hpD H.t k v⟩
def Hp.new(H:Hp)(v:VO):Hp:=⟨H.n+1,Tr.put hpD H.t H.n (some v)⟩
theorem Hp.YP{H:Hp}{v:VO}(h:H.get A=some v):A<hpM:=by
 unfold Hp.get at h
 cases a:Nat.blt A hpM
 .rw [a] at h;cases h
 .simpa using a
theorem Hp.FD{H:Hp}{k:Nat}(hk:k<hpM)(v:Option VO):(H.put k v).get k=v:=by
 unfold Hp.get Hp.put
 rw[show Nat.blt k hpM=true by simpa using hk]
 exact Tr.FD ..
theorem Hp.BF{H:Hp}{j k:Nat}(hk:k<hpM)(h:j≠k)(v:Option VO):(H.put k v).get j=H.get j:=by
 unfold Hp.get Hp.put
 cases a:Nat.blt j hpM
 .rfl
 .exact Tr.BF _ _ _ _ _ h (show j<hpM by simpa using a) hk
theorem Hp.Aav{H:Hp}(hk:H.n<hpM)(v:VO):(H.new v).get H.n=some v:=Hp.FD (H:=H) hk (some v)
theorem Hp.NS{H:Hp}(hk:H.n<hpM)(h:A≠H.n)(v:VO):(H.new v).get A=H.get A:=Hp.BF (H:=H) hk h (some v)

structure Ev where
 base:Nat
 gl:List (Nat×Nat)
 keys:List (Nat×(Value->Bool))
noncomputable section
def lget{b:Type}(l:List b)(i:Nat):Option b:=List.rec (motive:=λ_=>Nat->Option b) (λ_=>none) (λa _ c n=>Nat.rec (motive:=λ_=>Option b) (some a) (λm _=>c m) n) l i
theorem QO{a:Type}:∀(l:List a) (i:Nat),lget l i=l[i]?
 | [],_=>rfl
 | _::_,0=>rfl
 | _::r,i+1=>QO r i
end
def Ow:List (Nat×Nat)->Nat->Option Nat
 | [],_=>none
 | (g,k)::r,x=>cond (Nat.beq g x) (some k) (Ow r x)
def Jl:List (Nat×(Value->Bool))->Nat->Option (Value->Bool)
 | [],_=>none
 | (g,k)::r,x=>cond (Nat.beq g x) (some k) (Jl r x)
abbrev Lk:=Nat->Option Value
def Lk.put(kn:Lk)(d:Nat)(v:Value):Lk:=λt=>cond (Nat.beq d t) (some v) (kn t)
theorem Ju(kn:Kn)(d:Nat)(v:Value):look ((d,v)::kn)=Lk.put (look kn) d v:=by
 funext t
 rfl
def evE(E:Ev)(kn:Lk):Operand->Option Value
 | .tmp t=>kn t
 | .const v=>cond (CW v) (some v) none
 | .global g=>match Ow E.gl g with|some k=>some (.pointer (some ⟨k,0,none⟩))|none=>none
 | .func f=>some (.func (.func f) #[] #[])
def evsE(E:Ev)(kn:Lk):List Operand->Option (List Value)
 | []=>some []
 | x::b=>match evE E kn x with
  | some v=>match evsE E kn b with|some a=>some (v::a)|none=>none
  | none=>none
def evpE(E:Ev)(kn:Lk):List (Nat×Operand)->Option (List (Nat×Value))
 | []=>some []
 | (i,x)::b=>match evE E kn x with
  | some v=>match evpE E kn b with|some a=>some ((i,v)::a)|none=>none
  | none=>none
/-! ### Equality of values -/
mutual
def eqV:Value->Value->Bool
 | .bool a,.bool b=>a == b
 | .int k a,.int h b=>decide (k=h) && decide (a=b)
 | .string a,.string b=>decide (a.data.toList=b.data.toList)
 | .pointer none,.pointer none=>true
 | .pointer (some a),.pointer (some b)=>Nat.beq a.block b.block && Nat.beq a.off b.off && a.spot.isNone && b.spot.isNone
 | .slice none n c,.slice none f e=>Nat.beq n f && Nat.beq c e
 | .slice (some a) n c,.slice (some b) f e=>Nat.beq a.block b.block && Nat.beq a.off b.off && a.spot.isNone && b.spot.isNone && Nat.beq n f && Nat.beq c e
 | .map none,.map none=>true
 | .map (some a),.map (some b)=>Nat.beq a b
 | .nilFunc,.nilFunc=>true
 | .nilIface,.nilIface=>true
 | .agg a,.agg b=>eqA a b
 | .tuple a,.tuple b=>eqA a b
 | _,_=>false
def eqA:Array Value->Array Value->Bool
 | ⟨a⟩,⟨b⟩=>eqL a b
def eqL:List Value->List Value->Bool
 | [],[]=>true
 | a::c,b::e=>eqV a b && eqL c e
 | _,_=>false
end
def Ap:List (Value×Value)->Value->Option Value
 | [],_=>none
 | (k,v)::r,a=>cond (eqV k a) (some v) (Ap r a)
def SB:List (Value×Value)->Value->Value->List (Value×Value)
 | [],a,v=>[(a,v)]
 | (k,u)::r,a,v=>cond (eqV k a) ((k,v)::r) ((k,u)::SB r a v)
def QY(R:Rn)(c:Value->Bool)(b:List (Value×Value))(m:Value->Option Value):Prop :=
 (∀a,c a=true->∀v,Ap b a=some v->∃e,m a=some e/\VR R v e)/\∀a,c a=true->Ap b a=none->m a=none
theorem QY.mono{R R':Rn}(h:R.le R'){e:Value->Bool}{b:List (Value×Value)}{m:Value->Option Value}(c:QY R e b m):QY R' e b m :=
 ⟨λa j v r=>by obtain⟨s,f,i⟩:=c.1 a j v r;exact⟨s,f,i.mono h⟩,c.2⟩
structure Uu(E:Ev)(R:Rn)(kt:Nat)(es:List (Value×Value))(es':Array MapEntry)(c:Nat)(kb:Value->Bool)(m:Value->Option Value):Prop where
 key:Jl E.keys kt=some kb
 map:CP (λv=>kb v=true) es' m
 st:MapKept.Stamped es' c
 size:es'.size=es.length
 kbs:∀p∈es,kb p.1=true
 assoc:QY R kb es m
theorem Uu.mono{E:Ev}{R R':Rn}(h:R.le R'){kt:Nat}{e:List (Value×Value)}{b:Array MapEntry}{c:Nat}{f:Value->Bool}{m:Value->Option Value}(a:Uu E R kt e b c f m):Uu E R' kt e b c f m :=
 ⟨a.key,a.map,a.st,a.size,a.kbs,a.assoc.mono h⟩
def ER(E:Ev)(R:Rn)(k:Nat)(L:List Ent):VO->Prop
 | .row y w=>∃b q a t,R k=some (b,q)/\VRs R y a/\.row b (a++t)∈L/\(w=none->t=[])/\∀s,w=some s->(a++t).length=q*s
 | .map kt u z=>∃b q f c A m,R k=some (b,q)/\.obj b (.map f c)∈L/\Uu E R kt u f c A m /\
  ∀i h,z=some (i,h)->∃r B seen,R i=some (r,B)/\.obj r (.mapIter (some b) c seen c)∈L/\u.length<=1/\(h=false->seen = #[])/\(h=true->∃e∈f.toList,seen = #[].push e.born)
 | .iter m=>∃b q j,R k=some (b,q)/\.obj b j∈L/\Obj.Vj j/\(m=none->j=.mapIter none 0 #[] 0)
theorem ER.mono{E:Ev}{R R':Rn}(h:R.le R'){k:Nat}{L z:List Ent}(s:∀e∈L,e∈z){o:VO}(y:ER E R k L o):ER E R' k z o:=by
 cases o with
 | row N T=>obtain⟨b,q,u,t,a,f,j,r⟩:=y;exact⟨b,q,u,t,h _ _ a,f.mono h,s _ j,r⟩
 | map kt O S =>
  obtain⟨b,q,w,c,J,m,a,f,j,r⟩:=y
  refine⟨b,q,w,c,J,m,h _ _ a,s _ f,j.mono h,λi B e=>?_⟩
  obtain⟨A,M,seen,D,F,G⟩:=r i B e
  exact⟨A,M,seen,h _ _ D,s _ F,G⟩
 | iter m=>obtain⟨b,q,K,a,f,j,r⟩:=y;exact⟨b,q,K,h _ _ a,s _ f,j,r⟩
structure SR(E:Ev)(w0:World)(R:Rn)(H:Hp)(L:List Ent):Prop where
 lim:H.n<=hpM
 new:∀k,H.n<=k->R k=none
 gl:∀g k,Ow E.gl g=some k->∃q,R k=some (g,q)
 own:∀k o,H.get k=some o->E.base<=k->ER E R k L o
 inj:∀j k b q r,(∃o,H.get j=some o)->(∃o,H.get k=some o)->E.base<=j->E.base<=k->R j=some (b,q)->R k=some (b,r)->j=k
 old:∀k o,H.get k=some o->k<E.base->∃cs b q cs',o=.row cs none/\R k=some (b,q)/\VRs R cs cs'/\w0.rangeAt b 0 cs'
def Rn.ext(H a:Hp)(R R':Rn):Prop:=R.le R'/\H.n<=a.n/\∀k,k<H.n->R' k=R k
theorem Rn.ext.le{H a:Hp}{R R':Rn}(h:Rn.ext H a R R'):R.le R':=h.1
theorem Rn.ext.same{H a:Hp}{R:Rn}(h:H.n=a.n):Rn.ext H a R R:=⟨Rn.le.refl R,Nat.le_of_eq h,λ_ _=>rfl⟩
theorem Rn.ext.trans{H b c:Hp}{R R' e:Rn}(h:Rn.ext H b R R')(a:Rn.ext b c R' e):Rn.ext H c R e :=
 ⟨h.1.trans a.1,AcC h.2.1 a.2.1,λk hk=>(a.2.2 k (Ain hk h.2.1)).trans (h.2.2 k hk)⟩
def KR(R:Rn)(kn:Lk)(l:Kn):Prop:=∀t v,kn t=some v->∃a,look l t=some a/\VR R v a
section
variable {E:Ev}{w0:World}{R R':Rn}{H:Hp}{L X:List Ent}{kn:Lk}{l:Kn}
theorem KR.mono(h:KR R kn l)(c:R.le R'):KR R' kn l:=λt v e=>by
 obtain⟨f,a,b⟩:=h t v e
 exact⟨f,a,b.mono c⟩
theorem KR.put(h:KR R kn l){d:Nat}{v b:Value}(e:VR R v b):KR R (kn.put d v) ((d,b)::l):=λt u a=>by
 unfold look
 unfold Lk.put at a
 cases c:Nat.beq d t
 .rw [c] at a;exact h t u a
 .rw [c] at a
  cases a
  exact⟨b,rfl,e⟩
theorem KR.ev(h:KR R kn l)(hG:∀g k,Ow E.gl g=some k->∃q,R k=some (g,q)){x:Operand}{v:Value}(a:evE E kn x=some v):∃c,ev l x=some c/\VR R v c:=by
 cases x with
 | tmp t=>exact h t v a
 | const u =>
  replace a:cond (CW u) (some u) none=some v:=a
  cases b:CW u
  .rw [b] at a;cases a
  .rw [b] at a;cases a;exact⟨_,rfl,.plain b⟩
 | global g =>
  replace a:(match Ow E.gl g with|some k=>some (Value.pointer (some ⟨k,0,none⟩))|none=>none)=some v:=a
  split at a
  .rename_i k hk
   cases a
   obtain⟨q,e⟩:=hG g k hk
   exact⟨_,rfl,.ptr e⟩
  .cases a
 | func f =>
  cases a
  exact⟨_,rfl,.plain U⟩
theorem KR.evs(h:KR R kn l)(hG:∀g k,Ow E.gl g=some k->∃q,R k=some (g,q)):∀ {i:List Operand}{f:List Value},evsE E kn i=some f->∃b,evs l i=some b/\VRs R f b
 | [],_,a=>by cases a;exact⟨[],rfl,.nil⟩
 | x::i,f,a=>by
  unfold evsE at a
  split at a
  .rename_i v u
   split at a
   .rename_i y c
    cases a
    obtain⟨w,j,m⟩:=h.ev hG u
    obtain⟨e,r,s⟩:=h.evs hG c
    exact⟨w::e,by unfold YtmhahajadgkolaaGreatDoor.evs;rw[j,r],.cons m s⟩
   .cases a
  .cases a
inductive VRp (R:Rn):List (Nat×Value)->List (Nat×Value)->Prop
 | nil:VRp R [] []
 | cons {i:Nat}{v v':Value}{vs vs':List (Nat×Value)}:VR R v v'->VRp R vs vs'->VRp R ((i,v)::vs) ((i,v')::vs')
theorem KR.evp(h:KR R kn l)(hG:∀g k,Ow E.gl g=some k->∃q,R k=some (g,q)):∀ {j:List (Nat×Operand)}{f:List (Nat×Value)},evpE E kn j=some f->∃b,evp l j=some b/\VRp R f b
 | [],_,a=>by cases a;exact⟨[],rfl,.nil⟩
 | (i,x)::j,f,a=>by
  unfold evpE at a
  split at a
  .rename_i v w
   split at a
   .rename_i z c
    cases a
    obtain⟨y,m,r⟩:=h.ev hG w
    obtain⟨e,s,u⟩:=h.evp hG c
    exact⟨(i,y)::e,by unfold YtmhahajadgkolaaGreatDoor.evp;rw[m,s],.cons r u⟩
   .cases a
  .cases a
theorem VR.cells{v f:Value}(h:VR R v f):VRs R v.cells.toList f.cells.toList:=by
 cases h with
 | agg a=>simpa [Value.cells] using a
 | plain e =>
  cases v with
  | agg i =>
   have c:Mx i=true:=by simpa only [CW] using e
   exact VRs.plain (G8 c)
  | _=>exact .cons (.plain e) .nil
 | ptr e=>exact .cons (.ptr e) .nil
 | slice e c=>exact .cons (.slice e c) .nil
 | empty=>exact .cons .empty .nil
 | map e=>exact .cons (.map e) .nil
 | func a b=>exact .cons (.func a b) .nil
 | iface a=>exact .cons (.iface a) .nil
 | tuple a=>exact .cons (.tuple a) .nil
theorem Oq{u:Nat->Option (Nat×Nat)}:∀ {D s:List (Nat×Value)}{m c j:List Value},VRp R D s->VRs R m c->JM u m D=some j->∃f,JM u c s=some f/\VRs R j f
 | _,_,_,c,_,.nil,h,e=>by cases e;exact⟨c,rfl,h⟩
 | _,_,m,c,j,.cons (i:=i) (v:=v) (v':=B) a b,h,e=>by
  unfold JM at e ⊢
  have y:=a.cells
  have F:B.cells.toList.length=v.cells.toList.length:=y.length
  have G:c.length=m.length:=h.length
  rw[F,G]
  cases z:u i with
  | none=>rw[z] at e;cases e
  | some x =>
   obtain⟨r,A⟩:=x
   rw[z] at e
   dsimp only at e ⊢
   cases w:(Nat.beq v.cells.toList.length A && Nat.ble (r+A) m.length)
   .rw [w] at e;cases e
   .rw [w] at e
    exact Oq b (VRs.AK r h y) e
theorem SR.cells(h:SR E w0 R H L){k:Nat}{s:List Value}{z:Option Nat}(hk:H.get k=some (.row s z)):∃b q a,R k=some (b,q)/\VRs R s a/\∀w,St Fx w0 w (L++X)->w.rangeAt b 0 a:=by
 by_cases y:k<E.base
 .obtain ⟨u,b,q,a,e,f,i,m⟩:=h.old k _ hk y
  cases e
  exact⟨b,q,a,f,i,λw r j v c=>r.old (λh=>h) (m j v c)⟩
 .obtain ⟨b,q,a,t,f,i,m,_⟩:=h.own k _ hk W
  refine⟨b,q,a,f,i,λw r j v c=>?_⟩
  rw[PP]
  exact Row.cell (r.holds _ (Ha _ m)) (by rw[Ae9 (Eu.1 c).1];exact c)
end

noncomputable section
variable (P:Program) (E:Ev) (H:Hp) (kn:Lk)
def Afu(t:TypeId):Option Nat:=(P.info? t).map (·.size)
def Mj(t:TypeId):Option TypeInfo:=match lget P.types.toList t with
 | some i=>some i
 | none=>P.info? t
def GB(t:TypeId):Option TypeDesc:=match Mj P t with
 | some { desc:=.named _ u, .. }=>(Mj P u).map (·.desc)
 | some i=>some i.desc
 | none=>none
def HW(t:TypeId):Option Nat:=(Mj P t).map (·.size)
theorem Iq:Mj P=P.info?:=by
 funext t
 unfold Mj
 rw[QO,Ahu]
 split
 .rename_i i h
  unfold Tables.info?
  rw[IR (AbY.1 h).1,h]
 .rfl
theorem CX:GB P=P.underlying:=by
 funext t
 unfold GB Program.underlying
 rw[Iq]
 rfl
theorem FX:HW P=Afu P:=by
 funext t
 unfold HW Afu
 rw[Iq]
def Aa1(c x y:Operand):Option Value:=match evE E kn c with
 | some (.bool true)=>evE E kn x
 | some (.bool false)=>evE E kn y
 | _=>none
def Om(x:Operand)(i:Nat):Option Value:=match evE E kn x with
 | some (.tuple a)=>a.toList[i]?
 | _=>none
def UZ(s:TypeId)(i:Nat):Option (Nat×TypeId):=match GB P s with
 | some (.struct a)=>match a[i]? with
  | some f=>match HW P f.type with
   | some (_+1)=>some (f.offset,f.type)
   | _=>none
  | none=>none
 | _=>none
def Lj(s:TypeId)(x:Operand)(i:Nat):Option Value:=match evE E kn x,UZ P s i with
 | some (.pointer (some a)),some (k,_)=>some (.pointer (some ⟨a.block,a.off+k,none⟩))
 | _,_=>none
def cutE(t:TypeId)(a:List Value)(o:Nat):Option Value:=match GB P t,HW P t with
 | some d,some m=>match d.isRow with
  | true=>cond (Nat.ble (o+m) a.length) (some (.agg (seg a o m).toArray)) none
  | false=>cond (Nat.beq m 1) a[o]? none
 | _,_=>none
def AaK(t:TypeId)(x:Operand):Option Value:=match evE E kn x with
 | some (.pointer (some a))=>match H.get a.block with
  | some (.row b _)=>cutE P t b a.off
  | _=>none
 | _=>none
def Oo(s:TypeId)(x:Operand)(i:Nat):Option Value:=match evE E kn x,UZ P s i with
 | some (.agg a),some (k,b)=>cutE P b a.toList k
 | _,_=>none
def Ln(t:TypeId)(x i:Operand):Option Value:=match evE E kn x,evE E kn i with
 | some (.slice (some a) n _),some (.int _ (.ofNat j))=>match GB P t with
  | some (.slice e)=>match HW P e with
   | some s=>cond (Nat.blt j n && a.spot.isNone) (some (.pointer (some ⟨a.block,a.off+j*s,none⟩))) none
   | none=>none
  | _=>none
 | some (.pointer (some a)),some (.int _ (.ofNat j))=>match GB P t with
  | some (.array m e)=>match HW P e with
   | some s=>cond (Nat.blt j m) (some (.pointer (some ⟨a.block,a.off+j*s,none⟩))) none
   | none=>none
  | _=>none
 | _,_=>none
def Ng(x:Operand):Option Value:=match evE E kn x with
 | some (.pointer (some a))=>some (.pointer (some a))
 | _=>none
def natE(x:Operand):Option Nat:=match evE E kn x with
 | some (.int _ (.ofNat j))=>some j
 | _=>none
def VC(t:TypeId)(x:Operand)(i f:Option Operand):Option Value:=match evE E kn x,GB P t with
 | some (.slice (some a) c b),some (.slice e)=>match HW P e,(match i with|some y=>natE E kn y|none=>some 0),(match f with|some y=>natE E kn y|none=>some c) with
  | some s,some l,some h=>cond (Nat.ble l h && (i.isSome || f.isSome) && a.spot.isNone) (cond (Nat.blt b 1152921504606846976)
   (cond (Nat.ble h b) (some (.slice (some ⟨a.block,IN a.off l b s,none⟩) (h-l) (b-l))) none)
   (cond (Nat.ble h c && (Nat.blt l c || Nat.beq l 0) && Nat.ble b DI && Nat.ble 1152921504606846976 (b-l)) (some (.slice (some ⟨a.block,a.off+l*s,none⟩) (h-l) (b-l))) (cond (Nat.ble h c && Nat.ble c l) (some (.slice (some ⟨0,0,some 0⟩) 0 0)) none))) none
  | _,_,_=>none
 | some (.pointer (some a)),some (.array m e)=>match i,f,HW P e with
  | none,none,some _=>cond (Nat.blt m 1152921504606846976) (some (.slice (some ⟨a.block,a.off,none⟩) m m)) none
  | _,_,_=>none
 | _,_=>none
def rho(x:Operand):Value:=match evE E kn x with|some v=>v|none=>undef
def plE(x:Operand):Bool:=match evE E kn x with|some v=>CW v|none=>false
def XJ:Op->Option (List Operand)
 | .binOp _ _ x y _=>some [x,y]
 | .unOp _ _ x=>some [x]
 | .convert _ _ x=>some [x]
 | .index _ x i=>some [x,i]
 | .call { callee:=.builtin _,args, .. }=>some args.toList
 | .slice _ x b a c=>some (x::(b.toList++(a.toList++c.toList)))
 | _=>none
def H7(o:Oper):Option Value:=match XJ o.op with
 | some a=>cond (a.all (plE E kn)) (match Aa4 P (execOp (rho E kn) o) with
  | some (.value v)=>cond (CW v) (some v) none
  | _=>none) none
 | none=>none
def Vi(a:BinOp)(t:TypeId)(x y:Operand):Option Value:=match y with
 | .const v=>match evE E kn x,GB P t with
  | some u,some d=>match LR d u v with
   | some b=>match a with
    | .eql=>some (.bool b)
    | .neq=>some (.bool (!b))
    | _=>none
   | none=>none
  | _,_=>none
 | _=>none
end
section
variable {P:Program}{E:Ev}{w0:World}{R:Rn}{H:Hp}{L X:List Ent}{kn:Lk}{l:Kn}{o:Oper}{n:Nat}{v:Value}{C:World->Prop}
variable (hK:KR R kn l) (hG:∀g k,Ow E.gl g=some k->∃q,R k=some (g,q))
include hK hG
theorem AaO(a:o.op=.move D\/o.op=.assign D)(h:evE E kn D=some v):∃b,VR R v b/\Val P C n l o b:=by
 obtain⟨b,c,e⟩:=hK.ev hG h
 rcases a with a|a
 .exact ⟨b,e,DG a c⟩
 .exact ⟨b,e,MG a c⟩
theorem AhB{y:Operand}(j:o.op=.pick D M y)(h:Aa1 E kn D M y=some v):∃a,VR R v a/\Val P C n l o a:=by
 unfold Aa1 at h
 split at h
 .rename_i i
  obtain⟨m,b,c⟩:=hK.ev hG i
  obtain rfl:=c.Og
  obtain⟨a,e,f⟩:=hK.ev hG h
  exact⟨a,f,Ya j b e⟩
 .rename_i i
  obtain⟨m,b,c⟩:=hK.ev hG i
  obtain rfl:=c.Og
  obtain⟨a,e,f⟩:=hK.ev hG h
  exact⟨a,f,X9 j b e⟩
 .cases h
theorem YL(m:o.op=.extract D A)(h:Om E kn D A=some v):∃a,VR R v a/\Val P C n l o a:=by
 unfold Om at h
 split at h
 .rename_i s r
  obtain⟨u,c,e⟩:=hK.ev hG r
  obtain⟨b,rfl,f⟩:=e.AcD
  obtain⟨a,i,j⟩:=f.get h
  exact⟨a,j,CB m c i⟩
 .cases h
omit hK hG in
theorem Pv{k a:Nat}(h:UZ P A F=some (k,a)):AF P A F k a:=by
 unfold UZ at h
 try simp only[CX,FX] at h
 split at h
 .rename_i i e
  split at h
  .rename_i f b
   split at h
   .rename_i m c
    cases h
    exact AF.mk e b U U c
   .cases h
  .cases h
 .cases h
theorem UY(m:o.op=.fieldAddr A D F)(h:Lj P E kn A D F=some v):∃c,VR R v c/\Val P C n l o c:=by
 unfold Lj at h
 split at h
 .rename_i a k s r j
  cases h
  obtain⟨u,e,f⟩:=hK.ev hG r
  obtain⟨b,q,w,i,rfl⟩:=f.IZ
  exact⟨_,.ptr i,MJ m e (Pv j)⟩
 .cases h
omit hK hG in
theorem VRs.seg{b a:List Value}(h:VRs R b a)(k m:Nat):VRs R (seg b k m) (seg a k m):=(h.drop k).take m
omit hK hG in
theorem YH{e a:List Value}(f:VRs R e a)(h:cutE P N e A=some v):
 ∃c,VR R v c/\((One P N/\a[A]?=some c)\/∃m,FU P N m/\c=.agg (YtmhahajadgkolaaGreatDoor.seg a A m).toArray/\(YtmhahajadgkolaaGreatDoor.seg a A m).length=m):=by
 unfold cutE at h
 try simp only[CX,FX] at h
 split at h
 .rename_i d m r j
  split at h
  .rename_i i
   cases b:Nat.ble (A+m) e.length
   .rw [b] at h;cases h
   .rw [b] at h
    cases h
    have w:=Ai6 b
    have y:=f.length
    exact⟨_,.agg (f.seg A m),.inr ⟨m,FU.mk r i j,rfl,by unfold YtmhahajadgkolaaGreatDoor.seg;rw[Ahp,List.length_drop];omega⟩⟩
  .rename_i i
   cases b:Nat.beq m 1
   .rw [b] at h;cases h
   .rw [b] at h
    obtain rfl:=NE b
    obtain⟨c,s,u⟩:=f.get h
    exact⟨c,u,.inl ⟨One.mk r i j,s⟩⟩
 .cases h
theorem Ahi(K:SR E w0 R H L){t:TypeId}{x:Operand}(z:o.op=.load t x)(h:AaK P E H kn t x=some v):∃f,VR R v f/\Val P (λw=>St Fx w0 w (L++X)) n l o f:=by
 unfold AaK at h
 split at h
 .rename_i a O
  split at h
  .rename_i T op hk
   obtain⟨u,r,B⟩:=hK.ev hG O
   obtain⟨b,q,Z,D,rfl⟩:=B.IZ
   obtain⟨S,q',A,s,F,y⟩:=K.cells (X:=X) hk
   rw[D] at s
   cases s
   obtain⟨f,G,J⟩:=YH F h
   refine⟨f,G,?_⟩
   rcases J with⟨i,N⟩|⟨m,i,rfl,M⟩
   .exact An z r i λw c=>by have:=y w c _ _ N;rwa [PP] at this
   .refine AB z r i M λw c j u e=>?_
    unfold YtmhahajadgkolaaGreatDoor.seg at e
    rw[Agg] at e
    split at e
    .rw [Aic] at e
     have:=y w c _ _ e
     rwa [PP] at this
    .cases e
  .cases h
 .cases h
theorem YM(f:o.op=.field A D F)(h:Oo P E kn A D F=some v):∃a,VR R v a/\Val P C n l o a:=by
 unfold Oo at h
 split at h
 .rename_i B k G z e
  obtain⟨u,c,j⟩:=hK.ev hG z
  obtain⟨i,rfl,r⟩:=j.Aab
  obtain⟨a,s,w⟩:=YH r h
  refine⟨a,s,?_⟩
  rcases w with⟨b,y⟩|⟨m,b,rfl,J⟩
  .exact MI f c (Pv e) b y
  .exact SJ f c (Pv e) b U
 .cases h
theorem U6(O:o.op=.indexAddr A D M)(h:Ln P E kn A D M=some v):∃S,VR R v S/\Val P C n l o S:=by
 unfold Ln at h
 try simp only[CX,FX] at h
 split at h
 .rename_i a N c Z j K B
  split at h
  .rename_i e J
   split at h
   .rename_i s F
    cases f:(Nat.blt j N && a.spot.isNone)
    .rw [f] at h;cases h
    .rw [f] at h
     cases h
     rw[Hr] at f
     obtain⟨f,G⟩:=f
     obtain⟨u,i,r⟩:=hK.ev hG K
     obtain⟨b,q,T,w,_,rfl⟩:=r.Gw (Ahj.1 G)
     obtain⟨u2,y,z⟩:=hK.ev hG B
     obtain rfl:=z.Lo
     exact⟨_,.ptr w,AA (lo:=j) O i y J F U (by simpa using f)⟩
   .cases h
  .cases h
 .rename_i a Z j K B
  split at h
  .rename_i m e J
   split at h
   .rename_i s F
    cases f:Nat.blt j m
    .rw [f] at h;cases h
    .rw [f] at h
     cases h
     obtain⟨u,i,r⟩:=hK.ev hG K
     obtain⟨b,q,T,w,rfl⟩:=r.IZ
     obtain⟨u2,y,z⟩:=hK.ev hG B
     obtain rfl:=z.Lo
     exact⟨_,.ptr w,AG (lo:=j) O i y J F U (by simpa using f)⟩
   .cases h
  .cases h
 .cases h
omit hK hG in
theorem AaQ(hK:KR R kn l)(hG:∀g k,Ow E.gl g=some k->∃q,R k=some (g,q)){x:Operand}{j:Nat}(h:natE E kn x=some j):∃k,ev l x=some (.int k j):=by
 unfold natE at h
 split at h
 .rename_i k e c
  cases h
  obtain⟨u,a,b⟩:=hK.ev hG c
  obtain rfl:=b.Lo
  exact⟨k,a⟩
 .cases h
def QC(l:Kn)(a:Option Operand)(v d:Nat):Prop:=match a with|some y=>∃k,ev l y=some (.int k v)|none=>v=d
omit hK hG in
theorem MK{s h a b c i j:Nat}{w u:Option Operand}(G:o.op=.slice A D w u none)(f:(w.isSome || u.isSome)=true)(M:ev l D=some (.slice (some ⟨b,c,none⟩) h a))(K:P.underlying A=some (.slice F))(J:(P.info? F).map (·.size)=some s)
 (N:QC l w i 0) (B:QC l u j h) (r:i<=j) (e:j<=a) :
 Val P C n l o (.slice (some ⟨b,IN c i a s,none⟩) (j-i) (a-i)):=by
 cases w with
 | none =>
  cases u with
  | none=>cases f
  | some y =>
   obtain⟨k,hk⟩:=B
   obtain rfl:i=0:=N
   have:=Hv (C:=C) (n:=n) G M hk K J U e
   rwa [show IN c 0 a s=c by unfold IN;split<;>omega]
 | some z =>
  obtain⟨O,m⟩:=N
  cases u with
  | none =>
   obtain rfl:j=h:=B
   exact LO G M m K J U r
  | some y =>
   obtain⟨k,hk⟩:=B
   exact ZL G M m hk K J U U r e
theorem Afv{lo S:Option Operand}(ho:o.op=.slice A D lo S none)(h:VC P E kn A D lo S=some v):∃v',VR R v v'/\Val P C n l o v':=by
 unfold VC at h
 try simp only[CX,FX] at h
 split at h
 .rename_i a w c e hx hu
  split at h
  .rename_i s f r Z T O
   obtain⟨u,M,h2⟩:=hK.ev hG hx
   have hl:QC l lo f 0:=by
    cases lo with
    | none=>cases T;rfl
    | some y=>exact AaQ hK hG T
   have hh:QC l S r w:=by
    cases S with
    | none=>cases O;rfl
    | some y=>exact AaQ hK hG O
   cases B:(Nat.ble f r && (lo.isSome || S.isSome) && a.spot.isNone)
   .rw [B] at h;cases h
   .rw [B] at h
    simp only[Hr] at B
    obtain⟨B,hsp⟩:=B
    obtain⟨b,q,h3,h4,h5,rfl⟩:=h2.Gw (Ahj.1 hsp)
    have J:=Ai6 B.1
    dsimp only [cond_true] at h
    cases F:Nat.blt c 1152921504606846976
    .rw [F] at h
     dsimp only [cond_false] at h
     cases G:(Nat.ble r w && (Nat.blt f w || Nat.beq f 0) && Nat.ble c DI && Nat.ble 1152921504606846976 (c-f))
     .rw [G] at h
      dsimp only [cond_false] at h
      cases N:(Nat.ble r w && Nat.ble w f)
      .rw [N] at h;cases h
      .rw [N] at h
       cases h
       rw[Hr] at N
       have e1:=Ai6 N.1
       have e2:=Ai6 N.2
       have:=MK (C:=C) (n:=n) ho B.2 M hu Z hl hh J W
       rw[show r - f=0 by omega] at this
       exact⟨_,.empty,this⟩
     .rw [G] at h
      cases h
      simp only[Hr,Ait] at G
      obtain⟨⟨⟨d1,d2⟩,d3⟩,d4⟩:=G
      have d1':=Ai6 d1
      have d3':=Ai6 d3
      have d4':=Ai6 d4
      have z:¬c<1152921504606846976:=λh=>by
       have:Nat.blt c 1152921504606846976=true:=by simpa using h
       rw[F] at this;cases this
      have j:Jd q c=q-(DI-c):=E9 z
      have i:Jd q (c-f)=Jd q c-f:=by
       rw[j]
       unfold Jd
       rw[E9 W]
       unfold DI at *
       omega
      have K:IN a.off f (Jd q c) s=a.off+f*s:=by
       unfold IN
       split
       .rename_i e1
        have:f=0:=by
         rcases d2 with d2|d2
         .have:f < w:=by simpa using d2
          omega
         .exact NE d2
        subst this;omega
       .rfl
      refine⟨_,.slice h4 (by rw[i];omega),?_⟩
      have:=MK (C:=C) (n:=n) ho B.2 M hu Z hl hh J W
      rw[K, <- i] at this
      exact this
    .rw [F] at h
     dsimp only [cond_true] at h
     have z:c<1152921504606846976:=by simpa using F
     have j:Jd q c=c:=IR z
     cases G:Nat.ble r c
     .rw [G] at h;cases h
     .rw [G] at h
      cases h
      have d1':=Ai6 G
      have i:Jd q (c-f)=c-f:=IR W
      refine⟨_,.slice h4 (by rw[i];omega),?_⟩
      have:=MK (C:=C) (n:=n) ho B.2 M hu Z hl hh J (by rw[j];omega)
      rw[j] at this
      rw[i]
      exact this
  .cases h
 .rename_i a m e hx hu
  split at h
  .rename_i s Z
   cases F:Nat.blt m 1152921504606846976
   .rw [F] at h;cases h
   .rw [F] at h
    cases h
    obtain⟨u,M,h2⟩:=hK.ev hG hx
    obtain⟨b,q,h3,h4,rfl⟩:=h2.IZ
    have z:m<1152921504606846976:=by simpa using F
    have e1:Jd q m=m:=IR z
    refine⟨_,.slice h4 (by rw[e1];exact M2 _),?_⟩
    rw[e1]
    exact ML ho M hu Z
  .cases h
 .cases h
theorem Xu(r:o.op=.nilCheck D)(h:Ng E kn D=some v):∃c,VR R v c/\Val P C n l o c:=by
 unfold Ng at h
 split at h
 .rename_i a s
  cases h
  obtain⟨u,f,i⟩:=hK.ev hG s
  obtain⟨b,q,j,m,rfl⟩:=i.IZ
  obtain⟨w,y,e⟩:=a
  cases j
  exact⟨_,.ptr m,GP r f⟩
 .cases h
theorem plE_ok(h:plE E kn D=true):ev l D=some (rho E kn D):=by
 unfold plE at h
 unfold rho
 split at h
 .rename_i v c
  obtain⟨e,a,b⟩:=hK.ev hG c
  rw[b.same h] at a
  exact a
 .cases h
omit hK hG in
theorem PF{a b:Type}{f g:a->b}:∀(m:Option a),(∀x∈m.toList,f x=g x)->m.map f=m.map g
 | none,_=>rfl
 | some y,h=>If some (h y C9)
theorem My(h:H7 P E kn o=some v):∃s,VR R v s/\Val P C n l o s:=by
 unfold H7 at h
 split at h
 .rename_i y b
  cases c:y.all (plE E kn)
  .rw [c] at h;cases h
  .rw [c] at h
   dsimp only [cond_true] at h
   split at h
   .rename_i u B
    cases m:CW u
    .rw [m] at h;cases h
    .rw [m] at h
     cases h
     refine⟨_,.plain m,λa w z _=>?_⟩
     have i:∀x∈y,a.eval x=rho E kn x:=λx e=>z.ev (plE_ok hK hG (Acw.1 c x e))
     have r:execOp a.eval o=execOp (rho E kn) o:=by
      unfold execOp
      unfold XJ at b
      split at b
      all_goals first
       | (cases b;done)
       | (rename_i j;cases b;rw[j];simp only[i _ (Fr ..),i _ (EQ _ (Fr ..))];done)
       | (rename_i j;cases b;rw[j];simp only[i _ (Fr ..)];done)
       | (rename_i D A F j;cases b;rw[j];simp only[i _ (Fr ..),PF (f:=a.eval) (g:=rho E kn) D λx e=>i x (by simp[e]),PF (f:=a.eval) (g:=rho E kn) A λx e=>i x (by simp[e]),PF (f:=a.eval) (g:=rho E kn) F λx e=>i x (by simp[e])];done)
       | (rename_i j;cases b;rw[j];simp only[resolve];rw[show Array.map a.eval _=Array.map (rho E kn) _ from Array.map_congr_left λx e=>i x (by simpa using e)])
     rw[r]
     exact PI B
   .cases h
 .cases h
omit hK hG in
theorem Xv{d:TypeDesc}{c v:Value}(h:VR R B c){b:Bool}(a:LR d B v=some b):LR d c v=some b:=by
 unfold LR at a
 split at a
 .cases h with
  | plain e=>exact a
  | ptr e=>exact a
 .cases h with
  | plain e=>exact a
  | slice e _=>exact a
  | empty=>exact a
 .cases h with
  | plain e=>exact a
  | map e=>exact a
 .cases h;exact a
 .cases h<;>exact a
 .cases a
theorem AeS{m:BinOp}{w:TypeId}(i:o.op=.binOp m N D M w)(h:Vi P E kn m N D M=some v):∃r,VR R v r/\Val P C n l o r:=by
 unfold Vi at h
 try simp only[CX] at h
 split at h
 .rename_i c
  split at h
  .rename_i u d s j
   split at h
   .rename_i b f
    obtain⟨y,a,e⟩:=hK.ev hG s
    split at h
    .cases h;exact⟨_,.plain rfl,AI b i a j (Xv e f)⟩
    .cases h;exact⟨_,.plain rfl,Nr (!b) i a j (by rw[Bool.not_not];exact Xv e f)⟩
    .cases h
   .cases h
  .cases h
 .cases h
end

theorem ER.main{E:Ev}{R:Rn}{o:VO}(h:ER E R A J o):∃e b q,R A=some (b,q)/\e.at=b/\e∈J:=by
 cases o with
 | row s B=>obtain⟨b,q,i,t,a,_,r,_⟩:=h;exact⟨_,b,q,a,rfl,r⟩
 | map kt u w=>obtain⟨b,q,j,c,y,m,a,f,_⟩:=h;exact⟨_,b,q,a,rfl,f⟩
 | iter m=>obtain⟨b,q,z,a,f,_⟩:=h;exact⟨_,b,q,a,rfl,f⟩
def Lx:Ent->Prop | .obj _ (.mapIter ..)=>False|_=>True
theorem ER.less{E:Ev}{R:Rn}{o:VO}(h:ER E R A (J++K::O) o)(r:∀b q,R A=some (b,q)->K.at≠b)(D:Lx K):ER E R A (J++O) o:=by
 have e:∀d,d∈J++K::O->d≠K->d∈J++O:=λd a B=>by
  rcases LI.1 a with a|a
  .exact Ha _ a
  .rcases Rl.1 a with a|a
   .exact absurd a B
   .exact Mu _ a
 cases o with
 | row cs op=>obtain⟨b,q,w,t,f,s,u,z⟩:=h;exact⟨b,q,w,t,f,s,e _ u λj=>r b q f (by rw[<- j];rfl),z⟩
 | map kt es it =>
  obtain⟨b,q,y,c,Z,m,f,s,u,z⟩:=h
  refine⟨b,q,y,c,Z,m,f,e _ s λj=>r b q f (by rw[<- j];rfl),u,λi G M=>?_⟩
  obtain⟨F,qi,seen,N,S,T⟩:=z i G M
  exact⟨F,qi,seen,N,e _ S λj=>by rw[<- j] at D;exact D,T⟩
 | iter m=>obtain⟨b,q,ob,f,s,u⟩:=h;exact⟨b,q,ob,f,e _ s λj=>r b q f (by rw[<- j];rfl),u⟩
section
variable {E:Ev}{w0:World}{R:Rn}{H:Hp}{L:List Ent}
theorem SR.Tj(h:SR E w0 R H L){D:Hp}{m:Nat}{o:VO}{e:Ent}{g q:Nat}(h0:R m=none)(hb:E.base<=m)(N:D.get m=some o)(f:∀j,j≠m->D.get j=H.get j)(hn:H.n<=D.n)(hk0:m<D.n)(O:D.n<=hpM)
 (S:∀d∈L,d.at≠g) (he:ER E (R.set m (g,q)) m (e::L) o):R.le (R.set m (g,q))/\SR E w0 (R.set m (g,q)) D (e::L):=by
 have u:R.le (R.set m (g,q)):=Rn.VA h0
 refine⟨u,O,λk hk=>?_,λg k hk=>?_,λk w hk s=>?_,λj k b T r hj hk F s z A=>?_,λk w hk s=>?_⟩
 .unfold Rn.set
  rw[E9 W]
  exact h.new k W
 .obtain ⟨q,hq⟩:=h.gl g k hk
  exact⟨q,u _ _ hq⟩
 .by_cases e1:k=m
  .subst e1
   rw[N] at hk
   cases hk
   exact he
  .rw [f k e1] at hk
   exact(h.own k w hk s).mono u λd hd=>EQ _ hd
 .have a:∀i c y,i≠m->(∃w,D.get i=Option.some w)->E.base<=i->R.set m (g,q) i=Option.some (c,y)->R i=Option.some (c,y)/\c≠g:=λi c y hi ⟨w,B⟩ ab Z=>by
   unfold Rn.set at Z
   rw[E9 hi] at Z
   rw[f i hi] at B
   obtain⟨d,b',q',z,A,hd⟩:=(h.own i w B ab).main
   rw[Z] at z
   cases z
   exact⟨Z,λec=>S d hd (A.trans ec)⟩
  by_cases M:j=m
  .by_cases K:k=m
   .rw [M,K]
   .exfalso
    have J:=a k b r K hk s A
    rw[M,Rn.BX] at z
    cases z
    exact J.2 U
  .by_cases K:k=m
   .exfalso
    have G:=a j b T M hj F z
    rw[K,Rn.BX] at A
    cases A
    exact G.2 U
   .have G:=a j b T M hj F z
    have J:=a k b r K hk s A
    refine h.inj j k b T r ?_ ?_ F s G.1 J.1
    .obtain ⟨w,B⟩:=hj;exact⟨w,by rw[f j M] at B;exact B⟩
    .obtain ⟨w,B⟩:=hk;exact⟨w,by rw[f k K] at B;exact B⟩
 .rw [f k W] at hk
  obtain⟨cs,b,T,aa,z,A,h3,h4⟩:=h.old k w hk s
  exact⟨cs,b,T,aa,z,u _ _ A,h3.mono u,h4⟩
theorem SR.add(h:SR E w0 R H L)(b:H.n<hpM)(i:E.base<=H.n){o:VO}{e:Ent}{g q:Nat}(a:∀d∈L,d.at≠g)(m:ER E (R.set H.n (g,q)) H.n (e::L) o):Rn.ext H (H.new o) R (R.set H.n (g,q))/\SR E w0 (R.set H.n (g,q)) (H.new o) (e::L):=by
 obtain⟨c,f⟩:=h.Tj (h.new _ (M2 _)) i (Hp.Aav b o) (λj r=>Hp.NS b r o) (Nat.le_succ _) (Aip _) b a m
 exact⟨⟨c,Nat.le_succ _,λk hk=>E9 (Nat.ne_of_lt hk)⟩,f⟩
theorem SR.split(h:SR E w0 R H L){k:Nat}{e:List Value}{c:Option Nat}(hk:H.get k=some (.row e c))(r:E.base<=k):∃A B b q a t,L=A++.row b (a++t)::B/\R k=some (b,q)/\VRs R e a/\(c=none->t=[])/\∀s,c=some s->(a++t).length=q*s:=by
 obtain⟨b,q,a,t,f,i,j,m⟩:=h.own k _ hk r
 obtain⟨A,B,rfl⟩:=List.append_of_mem j
 exact⟨A,B,b,q,a,t,rfl,f,i,m⟩
theorem SR.others(h:SR E w0 R H L){k:Nat}(hk:∃o,H.get k=some o)(z:E.base<=k){A B:List Ent}{e:Ent}{b q:Nat}(w:L=A++e::B)(y:R k=some (b,q))(F:e.at=b)(G:Lx e):∀j f,H.get j=some f->j≠k->E.base<=j->ER E R j (A++B) f:=λj f s i a=>by
 have m:=h.own j f s a
 rw[w] at m
 exact m.less (λc r D u=>i (h.inj j k b r q ⟨_,s⟩ hk a z (by rw[D, <- u,F]) y)) G
theorem SR.put(h:SR E w0 R H L){k:Nat}{o':VO}(hk:∃o,H.get k=some o)(O:E.base<=k){A B:List Ent}{e e':Ent}{b q:Nat}(M:L=A++e::B)(N:R k=some (b,q))(S:e.at=b)(z:Lx e)(w:ER E R k (A++e'::B) o'):SR E w0 R (H.put k (some o')) (A++e'::B):=by
 have f:k<hpM:=by obtain⟨o,D⟩:=hk;exact Hp.YP D
 have D:=h.others hk O M N S z
 refine⟨h.lim,h.new,h.gl,λj u c a=>?_,λi j b q r z c y a J K=>?_,λj u c a=>?_⟩
 .by_cases s:j=k
  .subst s
   rw[Hp.FD f] at c
   cases c
   exact w
  .rw [Hp.BF f s] at c
   exact(D j u c s a).mono (Rn.le.refl R) λd hd=>by rcases LI.1 hd with hd|hd<;>simp[hd]
 .have m:∀i,(∃u,(H.put k (some o')).get i=some u)->∃u,H.get i=some u:=λi ⟨u,G⟩=>by
   by_cases F:i=k
   .subst F;exact hk
   .rw [Hp.BF f F] at G;exact⟨u,G⟩
  exact h.inj i j b q r (m i z) (m j c) y a J K
 .rw [Hp.BF f W] at c
  exact h.old j u c a
theorem SR.kill(h:SR E w0 R H L){k:Nat}(hk:∃o,H.get k=some o)(N:E.base<=k){A B:List Ent}{e:Ent}{b q:Nat}(K:L=A++e::B)(M:R k=some (b,q))(O:e.at=b)(w:Lx e):SR E w0 R (H.put k none) (A++B):=by
 have c:k<hpM:=by obtain⟨o,F⟩:=hk;exact Hp.YP F
 have F:=h.others hk N K M O w
 have y:∀i,(∃u,(H.put k none).get i=some u)->i≠k:=λi ⟨u,m⟩ z=>by
  subst z;rw[Hp.FD c] at m;cases m
 refine⟨h.lim,h.new,h.gl,λj u f a=>?_,λi j b q r w f D a G J=>?_,λj u f a=>?_⟩
 .have s:=y j ⟨u,f⟩
  rw[Hp.BF c s] at f
  exact F j u f s a
 .have z:=y i w
  have s:=y j f
  refine h.inj i j b q r ?_ ?_ D a G J
  .obtain ⟨u,m⟩:=w;rw[Hp.BF c z] at m;exact⟨u,m⟩
  .obtain ⟨u,m⟩:=f;rw[Hp.BF c s] at m;exact⟨u,m⟩
 .rw [Hp.BF c (y j ⟨u,f⟩)] at f
  exact h.old j u f a
end
noncomputable section
variable (P:Program) (E:Ev) (H:Hp) (kn:Lk)
def Aby(t:TypeId):Option (List Value):=match (P.info? t).bind (·.zero) with
 | some z=>cond (DB z.cells.toList) (some z.cells.toList) none
 | none=>none
def O7(t:TypeId):Option (List Value):=match (Mj P t).bind (·.zero) with
 | some z=>cond (DB z.cells.toList) (some z.cells.toList) none
 | none=>none
theorem MN:O7 P=Aby P:=by
 funext t
 unfold O7 Aby
 rw[Iq]
def R8:Op->Option (VO×(Nat->Value))
 | .alloc t=>match O7 P t with
  | some f=>some (.row f none,λn=>.pointer (some ⟨n,0,none⟩))
  | none=>none
 | .box _ x=>match evE E kn x with
  | some v=>some (.row v.cells.toList none,λn=>.pointer (some ⟨n,0,none⟩))
  | none=>none
 | .buildSlice t a parts=>match GB P t,evpE E kn parts.toList with
  | some (.slice e),some j=>match O7 P e,HW P e with
   | some f,some s=>cond (Nat.beq f.length s && Nat.ble (a*s) 16777216 && Nat.blt a 1152921504606846976) (match JM (λi=>some (i*s,s)) (List.replicate a f).flatten j with
    | some h=>some (.row h none,λn=>.slice (some ⟨n,0,none⟩) a a)
    | none=>none) none
   | _,_=>none
  | _,_=>none
 | .makeSlice t x y=>match evE E kn x,evE E kn y,GB P t with
  | some (.int _ (.ofNat m)),some (.int _ (.ofNat c)),some (.slice e)=>match O7 P e,HW P e,(Mj P e).map (·.bytes) with
   | some f,some s,some b=>cond (Nat.ble m c && Nat.beq f.length s && Nat.ble (b*c) 281474976710656 && Nat.blt c 1152921504606846976) (some (.row (List.replicate c f).flatten none,λn=>.slice (some ⟨n,0,none⟩) m c)) none
   | _,_,_=>none
  | _,_,_=>none
 | .makeMap t r=>match GB P t,(match r with|none=>true|some x=>match evE E kn x with|some (.int _ _)=>true|_=>false) with
  | some (.map kt _),true=>cond (Jl E.keys kt).isSome (some (.map kt [] none,λn=>.map (some n))) none
  | _,_=>none
 | _=>none
def SG(t:TypeId)(x y:Operand):Option Hp:=match evE E kn x,evE E kn y with
 | some (.pointer (some a)),some v=>match H.get a.block with
  | some (.row c e)=>match GB P t,HW P t with
   | some d,some m=>match d.isRow with
    | true=>match v with
     | .agg b=>cond (Nat.ble E.base a.block && Nat.beq b.toList.length m && Nat.ble (a.off+m) c.length && b.toList.all one) (some (H.put a.block (some (.row (AK c a.off b.toList) e)))) none
     | _=>none
    | false=>cond (Nat.ble E.base a.block && Nat.beq m 1 && Nat.blt a.off c.length && one v) (some (H.put a.block (some (.row (c.set a.off v) e)))) none
   | _,_=>none
  | _=>none
 | _,_=>none
end
theorem T7:∀ {a b:List Value},DB a=true->DB b=true->DB (a++b)=true
 | [],_,_,h=>h
 | v::a,b,h,c=>by
  simp only[DB,Hr] at h
  rw[AbT]
  simp only[DB,Hr]
  exact⟨h.1,T7 h.2 c⟩
theorem Nj{a:List Value}(h:DB a=true):∀k,DB (List.replicate k a).flatten=true
 | 0=>rfl
 | k+1=>by rw[List.replicate_succ,List.flatten_cons];exact T7 h (Nj h k)
theorem VR.one{R:Rn}{v b:Value}(h:VR R v b)(a:YtmhahajadgkolaaGreatDoor.one v=true):YtmhahajadgkolaaGreatDoor.one b=true:=by
 cases h<;>first|exact a|rfl|cases a
theorem VRs.one{R:Rn}:∀ {e c:List Value},VRs R e c->e.all YtmhahajadgkolaaGreatDoor.one=true->c.all YtmhahajadgkolaaGreatDoor.one=true
 | _,_,.nil,_=>rfl
 | _,_,.cons a b,h=>by
  rw[List.all_cons,Hr] at h ⊢
  exact⟨a.one h.1,VRs.one b h.2⟩
theorem MD:∀(b c:List Value) (k:Nat) (a:List Value),k+a.length<=b.length->AK (b++c) k a=AK b k a++c:=λb c k a h=>by
 rw[FB _ _ _ Dz,FB _ _ _ h,Aiv W,List.drop_append_of_le_length W]
 simp only[Qs]
section
variable {P:Program}{ops:Array Oper}{Q:Exit->Act->World->Prop}{n d:Nat}{E:Ev}{w0:World}{R:Rn}{H:Hp}{L X:List Ent}{kn:Lk}{l:Kn}{o:Oper}{rest:List Oper}
abbrev F0:Nat->Prop:=λ_=>False
theorem WL.KK(h:∀w,St F0 w0 w L->WL P ops Q n F0 w0 rest l L):WL P ops Q n F0 w0 rest l L:=λa w c b=>h w b a w c b
theorem Kb(a:St F0 w0 S (K::(L++X))):∀d∈L,d.at≠K.at:=λd b c=>by
 have h:=a.dist
 rw[Acu,List.nodup_cons] at h
 exact h.1 (by rw[<- c];exact Ab5 (Ha _ b))
theorem Iz{b:List Value}(h:Aby P N=some b):Zero P N b/\DB b=true:=by
 unfold Aby at h
 split at h
 .rename_i z c
  cases a:DB z.cells.toList
  .rw [a] at h;cases h
  .rw [a] at h;cases h;exact⟨Zero.mk c U,a⟩
 .cases h
theorem Hm(h:F<1152921504606846976):Jd A F=F:=IR h
theorem AaL(Z:SR E w0 R H L)(hK:KR R kn l){vo:VO}{f:Nat->Value}(h:R8 P E kn o.op=some (vo,f)){H2:Hp}{T:Nat}(h0:R T=none)(hb:E.base<=T)(D:H2.get T=some vo)(G:∀j,j≠T->H2.get j=H.get j)(hn:H.n<=H2.n)(O:T<H2.n)(F:H2.n<=hpM)
 (hg:On ops o l) (hd:o.dst=some d) (K:Nat.blt d n=true)
 (hc:∀R' L' v',(R.le R'/\∀k,k≠T->R' k=R k)->SR E w0 R' H2 L'->VR R' (f T) v'->WL P ops Q n F0 w0 rest ((d,v')::l) (L'++X)):WL P ops Q n F0 w0 (o::rest) l (L++X):=by
 unfold R8 at h
 try simp only[CX,Iq,FX,MN] at h
 split at h
 .rename_i t ho
  split at h
  .rename_i zs S
   cases h
   obtain⟨S,hp⟩:=Iz S
   refine WL.alloc ho S hg hd K λg _=>WL.KK λw z=>?_
   obtain⟨M,N⟩:=Z.Tj (e:=.row g zs) (q:=0) h0 hb D G hn O F (Kb z) ⟨g,0,zs,[],Rn.BX ..,VRs.plain hp,C9,λ_=>rfl,λs e=>by cases e⟩
   exact hc _ (.row g zs::L) _ ⟨M,λk hk=>E9 hk⟩ N (.ptr (Rn.BX ..))
  .cases h
 .rename_i t x ho
  split at h
  .rename_i v hx
   cases h
   obtain⟨v',M,N⟩:=hK.ev Z.gl hx
   refine WL.box ho M (cs:=v'.cells.toList) C9 hg hd K λg _=>WL.KK λw z=>?_
   obtain⟨h3,h4⟩:=Z.Tj (e:=.row g v'.cells.toList) (q:=0) h0 hb D G hn O F (Kb z) ⟨g,0,_,[],Rn.BX ..,N.cells.mono (Rn.VA h0),C9,λ_=>rfl,λs e=>by cases e⟩
   exact hc _ (.row g v'.cells.toList::L) _ ⟨h3,λk hk=>E9 hk⟩ h4 (.ptr (Rn.BX ..))
  .cases h
 .rename_i t J parts ho
  split at h
  .rename_i e vs hu hx
   split at h
   .rename_i zs s S hs
    cases B:(Nat.beq zs.length s && Nat.ble (J*s) 16777216 && Nat.blt J 1152921504606846976)
    .rw [B] at h;cases h
    .rw [B] at h
     simp only[Hr] at B
     obtain⟨⟨e1,e2⟩,e3⟩:=B
     dsimp only [cond_true] at h
     split at h
     .rename_i out hf
      cases h
      obtain⟨S,hp⟩:=Iz S
      obtain⟨vs',M,N⟩:=hK.evp Z.gl hx
      have hrep:DB (List.replicate J zs).flatten=true:=Nj hp J
      obtain⟨out',h3,h4⟩:=Oq N (VRs.plain hrep) hf
      have ho':o.op=.buildSlice t J parts.toList.toArray:=by rw[ho]
      refine WL.buildSlice ho' M hu hs S (NE e1) (Ai6 e2) h3 hg hd K λg _=>WL.KK λw z=>?_
      obtain⟨h5,h6⟩:=Z.Tj (e:=.row g out') (q:=0) h0 hb D G hn O F (Kb z) ⟨g,0,_,[],Rn.BX ..,h4.mono (Rn.VA h0),C9,λ_=>rfl,λs e=>by cases e⟩
      refine hc _ (.row g out'::L) _ ⟨h5,λk hk=>E9 hk⟩ h6 ?_
      have e3':J<1152921504606846976:=by simpa using e3
      have:=VR.slice (R:=R.set T (g,0)) (o:=0) (n:=J) (c:=J) (Rn.BX R T (g,0)) (by rw[Hm e3'];exact M2 _)
      rwa [Hm e3'] at this
     .cases h
   .cases h
  .cases h
 .rename_i t x y ho
  split at h
  .rename_i k1 m k2 c e hx hy hu
   split at h
   .rename_i zs s b S hs hby
    cases B:(Nat.ble m c && Nat.beq zs.length s && Nat.ble (b*c) 281474976710656 && Nat.blt c 1152921504606846976)
    .rw [B] at h;cases h
    .rw [B] at h
     cases h
     simp only[Hr] at B
     obtain⟨⟨⟨e1,e2⟩,e3⟩,e4⟩:=B
     obtain⟨S,hp⟩:=Iz S
     obtain⟨u,M,N⟩:=hK.ev Z.gl hx
     obtain rfl:=N.Lo
     obtain⟨u2,h3,h4⟩:=hK.ev Z.gl hy
     obtain rfl:=h4.Lo
     have e4':c<1152921504606846976:=by simpa using e4
     refine WL.Mm ho M h3 U U (Ai6 e1) hu hby (Ai6 e3) W hs S (NE e2) hg hd K λg _=>WL.KK λw z=>?_
     obtain⟨h5,h6⟩:=Z.Tj (e:=.row g (List.replicate c zs).flatten) (q:=0) h0 hb D G hn O F (Kb z) ⟨g,0,_,[],Rn.BX ..,VRs.plain (Nj hp c),C9,λ_=>rfl,λs e=>by cases e⟩
     refine hc _ (.row g (List.replicate c zs).flatten::L) _ ⟨h5,λk hk=>E9 hk⟩ h6 ?_
     have:=VR.slice (R:=R.set T (g,0)) (o:=0) (n:=m) (c:=c) (Rn.BX R T (g,0)) (by rw[Hm e4'];exact Ai6 e1)
     rwa [Hm e4'] at this
   .cases h
  .cases h
 .rename_i t r ho
  split at h
  .rename_i kt et hu hr
   cases hkk:Jl E.keys kt with
   | none=>rw[hkk] at h;cases h
   | some kb =>
    rw[hkk] at h
    cases h
    have mk:∀g w,St F0 w0 w (.obj g (.map #[] 0)::(L++X))->WL P ops Q n F0 w0 rest ((d,.map (some g))::l) (.obj g (.map #[] 0)::(L++X)):=λg w z=>by
     obtain⟨M,N⟩:=Z.Tj (e:=.obj g (.map #[] 0)) (q:=0) h0 hb D G hn O F (Kb z) ⟨g,0, #[],0,kb,λ_=>none,Rn.BX ..,Fr ..,⟨hkk,CP.empty _,MapKept.stamped_empty 0,rfl,(λp hp=>by cases hp),⟨λa _ v hv=>(by cases hv),λ_ _ _=>rfl⟩⟩,λi dn e=>by cases e⟩
     exact hc _ (.obj g (.map #[] 0)::L) _ ⟨M,λk hk=>E9 hk⟩ N (.map (Rn.BX ..))
    cases r with
    | none=>exact WL.makeMap ho hg hd K λg _=>WL.KK λw z=>mk g w z
    | some x =>
     dsimp only at hr
     split at hr
     .rename_i ki A hx
      obtain⟨u,M,N⟩:=hK.ev Z.gl hx
      obtain rfl:=N.Lo
      exact WL.Xj ho M hu hg hd K λg _=>WL.KK λw z=>mk g w z
     .cases hr
  .cases h
 .cases h
theorem AfA(G:SR E w0 R H L)(hK:KR R kn l){t:TypeId}{x y:Operand}{H2:Hp}(ho:o.op=.store t x y)(h:SG P E H kn t x y=some H2)(hg:On ops o l)(hd:o.dst=none)
 (hc:∀L',SR E w0 R H2 L'->WL P ops Q n F0 w0 rest l (L'++X)):WL P ops Q n F0 w0 (o::rest) l (L++X):=by
 unfold SG at h
 try simp only[CX,FX] at h
 split at h
 .rename_i a v hx hy
  split at h
  .rename_i J op hk
   obtain⟨u,h1,h2⟩:=hK.ev G.gl hx
   obtain⟨b,q,h3,F,rfl⟩:=h2.IZ
   obtain⟨N,h5,h6⟩:=hK.ev G.gl hy
   split at h
   .rename_i dd m hu hs
    split at h
    .rename_i hr
     split at h
     .rename_i D
      cases f:(Nat.ble E.base a.block && Nat.beq D.toList.length m && Nat.ble (a.off+m) J.length && D.toList.all one)
      .rw [f] at h;cases h
      .rw [f] at h
       cases h
       simp only[Hr] at f
       obtain⟨⟨⟨O,S⟩,Z⟩,e4⟩:=f
       have j:=Ai6 O
       obtain⟨e,rfl,h7⟩:=h6.Aab
       obtain⟨A,B,b',q',c,i,r,K,M,g3,g4⟩:=G.split hk j
       rw[F] at K
       cases K
       have hl2:=h7.length
       have T:=NE S
       have aa:=Ai6 Z
       have hll:=M.length
       have z:AK (c++i) a.off e=AK c a.off e++i:=MD _ _ _ _ W
       have w:=G.put (o':=.row (AK J a.off D.toList) op) (e':=.row b (AK c a.off e++i)) ⟨_,hk⟩ j r F U trivial ⟨b,q,_,i,F,VRs.AK _ M h7,C9,g3,λs es=>by rw[AC,DZ _ _ _ W];have:=g4 s es;rwa [AC] at this⟩
       haveI:At (L++X) b (c++i):=⟨by rw[r];simp⟩
       haveI:Put (L++X) b (.row b (AK (c++i) a.off e)) ((A++.row b (AK (c++i) a.off e)::B)++X):=⟨λ_=>⟨A,B++X,.row b (c++i),by rw[r];simp,C9,rfl⟩⟩
       refine WL.FN ho h1 h5 (VRs.one h7 e4) (FU.mk hu hr (show Afu P t=some e.length by rw[hs, <- T, <- hl2])) U Dz hg hd ?_
       rw[z]
       exact hc _ w
     .cases h
    .rename_i hr
     cases f:(Nat.ble E.base a.block && Nat.beq m 1 && Nat.blt a.off J.length && one v)
     .rw [f] at h;cases h
     .rw [f] at h
      cases h
      simp only[Hr] at f
      obtain⟨⟨⟨O,S⟩,Z⟩,e4⟩:=f
      obtain rfl:=NE S
      have j:=Ai6 O
      obtain⟨A,B,b',q',c,i,r,K,M,g3,g4⟩:=G.split hk j
      rw[F] at K
      cases K
      have aa:a.off<J.length:=by simpa using Z
      have hll:=M.length
      have z:(c++i).set a.off N=c.set a.off N++i:=List.set_append_left _ _ W
      have w:=G.put (o':=.row (J.set a.off v) op) (e':=.row b (c.set a.off N++i)) ⟨_,hk⟩ j r F U trivial ⟨b,q,_,i,F,VRs.set _ M h6,C9,g3,λs es=>by rw[AC,AbI];have:=g4 s es;rwa [AC] at this⟩
      haveI:At (L++X) b (c++i):=⟨by rw[r];simp⟩
      haveI:Put (L++X) b (.row b ((c++i).set a.off N)) ((A++.row b ((c++i).set a.off N)::B)++X):=⟨λ_=>⟨A,B++X,.row b (c++i),by rw[r];simp,C9,rfl⟩⟩
      refine WL.DX ho h1 h5 (VR.one h6 e4) (One.mk hu hr hs) Dz hg hd ?_
      rw[z]
      exact hc _ w
   .cases h
  .cases h
 .cases h
end

noncomputable section
variable (P:Program) (E:Ev) (H:Hp) (kn:Lk)
def Nf(s:Nat)(y:Operand):Option (Nat×List Value):=match evE E kn y with
 | some (.slice none m _)=>cond (Nat.beq m 0) (some (0,[])) none
 | some (.slice (some a) m _)=>match H.get a.block with
  | some (.row b _)=>cond (Nat.ble (a.off+m*s) b.length && (seg b a.off (m*s)).all one && a.spot.isNone) (some (m,seg b a.off (m*s))) none
  | _=>none
 | _=>none
def Aek(s k c:Nat)(a:Addr)(b:List Value):Option Nat->Bool
 | none=>Nat.beq a.off 0 && Nat.beq b.length (c*s) && Nat.ble E.base a.block && Nat.blt c 1152921504606846976 && Nat.ble k c
 | some e=>Nat.beq a.off 0 && Nat.beq e s && Nat.ble (k*s) b.length && Nat.ble E.base a.block && Nat.beq c DI
def appE(t r:TypeId)(x y:Operand):Option (Value×Hp):=match GB P t,GB P r,evE E kn x with
 | some (.slice e),some (.slice _),some (.slice j k c)=>match HW P e,O7 P e,(Mj P e).map (·.bytes) with
  | some s,some u,some f=>match Nf E H kn s y with
   | some (m,b)=>cond (Nat.beq u.length s && Nat.blt 0 f && Nat.ble ((3*(k+m)+1200)*f) 281474976710656 && Nat.blt 0 m && Nat.blt H.n hpM && Nat.ble E.base H.n)
    (match j with
    | none=>cond (Nat.beq k 0 && Nat.beq c 0) (some (.slice (some ⟨H.n,0,none⟩) (k+m) DI,H.new (.row b (some s)))) none
    | some a=>match H.get a.block with
     | some (.row h i)=>cond (Nat.ble (a.off+k*s) h.length && a.spot.isNone)
      (cond (Option.isNone i && Nat.blt c 1152921504606846976 && Nat.blt c (k+m))
       (some (.slice (some ⟨H.n,0,none⟩) (k+m) DI,H.new (.row (seg h a.off (k*s)++b) (some s))))
       (cond (Aek E s k c a h i) (some (.slice (some ⟨H.n,0,none⟩) (k+m) DI,(H.put a.block none).new (.row (seg h a.off (k*s)++b) (some s)))) none)) none
     | _=>none) none
   | none=>none
  | _,_,_=>none
 | _,_,_=>none
def Ady(t b:TypeId)(x y:Operand):Option (Value×Hp):=match GB P t,GB P b,evE E kn x,evE E kn y with
 | some (.slice e),some (.int _),some (.slice none 0 0),some (.int .i64 (.ofNat (m+1)))=>match HW P e,O7 P e,(Mj P e).map (·.bytes) with
  | some s,some c,some a=>cond (Nat.beq c.length s && Nat.blt 0 s && Nat.blt 0 a && Nat.ble (m+1) 1000000 && Nat.ble a 1000 && Nat.blt H.n hpM && Nat.ble E.base H.n) (some (.slice (some ⟨H.n,0,none⟩) (m+1) DI,H.new (.row [] (some s)))) none
  | _,_,_=>none
 | _,_,_,_=>none
end
section
variable {P:Program}{ops:Array Oper}{Q:Exit->Act->World->Prop}{n d:Nat}{E:Ev}{w0:World}{R:Rn}{H:Hp}{L X:List Ent}{kn:Lk}{l:Kn}{o:Oper}{rest:List Oper}
theorem Qe(D:SR E w0 R H L)(hK:KR R kn l){s m:Nat}{y:Operand}{f:List Value}(h:Nf E H kn s y=some (m,f)):
 ∃O mc e,ev l y=some (.slice O m mc)/\VRs R f e/\f.length=m*s/\e.all one=true/\(0<m->∃b S,O=some ⟨b,S,none⟩/\∀w,St F0 w0 w (L++X)->w.rangeAt b S e):=by
 unfold Nf at h
 split at h
 .rename_i r J G
  cases c:Nat.beq r 0
  .rw [c] at h;cases h
  .rw [c] at h
   cases h
   obtain rfl:=NE c
   obtain⟨u,A,B⟩:=hK.ev D.gl G
   obtain rfl:=B.KP
   exact⟨none,J,[],A,.nil,C9,rfl,λh=>absurd h (Nat.lt_irrefl 0)⟩
 .rename_i a r J G
  split at h
  .rename_i K op hk
   cases c:(Nat.ble (a.off+r*s) K.length && (seg K a.off (r*s)).all one && a.spot.isNone)
   .rw [c] at h;cases h
   .rw [c] at h
    cases h
    simp only[Hr] at c
    obtain⟨c,F⟩:=c
    have aa:=Ai6 c.1
    obtain⟨u,A,B⟩:=hK.ev D.gl G
    obtain⟨b,q,h3,T,h5,rfl⟩:=B.Gw (Ahj.1 F)
    obtain⟨b',q',z,M,N,Z⟩:=D.cells (X:=X) hk
    rw[T] at M
    cases M
    refine⟨_,_,seg z a.off (m*s),A,N.seg _ _,by unfold seg;rw[Ahp,List.length_drop];omega,VRs.one (N.seg _ _) c.2,λ_=>⟨b,a.off,rfl,λw hw j v i=>?_⟩⟩
    unfold YtmhahajadgkolaaGreatDoor.seg at i
    rw[Agg] at i
    split at i
    .rw [Aic] at i
     have:=Z w hw _ _ i
     rwa [PP] at this
    .cases i
  .cases h
 .cases h
theorem GM(c:Nat):Jd c DI=c:=by
 unfold Jd
 rw[E9 (by unfold DI;omega)]
 omega
theorem RL(u:SR E w0 R H L)(J:H.n<hpM)(F:E.base<=H.n){s k f:Nat}{h:Option Addr}{i b:List Value}{j:List Ent}(M:VRs R i b)(B:Vec s h k f b j)(hk:0<k){w:World}(D:St F0 w0 w (j++(L++X))):
 ∃R' e,j=[e]/\Rn.ext H (H.new (.row i (some s))) R R'/\SR E w0 R' (H.new (.row i (some s))) (e::L)/\VR R' (.slice (some ⟨H.n,0,none⟩) k DI) (.slice h k f):=by
 rcases B with⟨_,N,_⟩|⟨g,a,rfl,rfl,K,G,m⟩
 .omega
 .have r:a=b++a.drop (k*s):=by rw[<- K,AeN]
  obtain⟨z,A⟩:=u.add (e:=.row g a) (q:=f) (o:=.row i (some s)) J F (Kb D) ⟨g,f,b,a.drop (k*s),Rn.BX ..,M.mono (Rn.VA (u.new _ (M2 _))),by rw[<- r];exact Fr ..,(λe=>by cases e),λO y=>by cases y;rw[<- r];exact G⟩
  refine⟨_,_,rfl,z,A,?_⟩
  have:=VR.slice (R:=R.set H.n (g,f)) (o:=0) (n:=k) (c:=DI) (Rn.BX R H.n (g,f)) (by rw[GM];exact m)
  rwa [GM] at this
theorem Zf{X:List Ent}(a:St F0 w0 S ((J++K::O)++X)):St F0 w0 S ([K]++((J++O)++X)):=a.perm (by
 show List.Perm (K::((J++O)++X)) ((J++K::O)++X)
 rw[Qs,Qs]
 exact List.perm_middle.symm)
theorem Acs{X:List Ent}(a:St F0 w0 S ([K]++((J++O)++X))):St F0 w0 S ((J++K::O)++X):=a.perm (by
 show List.Perm ((J++K::O)++X) (K::((J++O)++X))
 rw[Qs,Qs]
 exact List.perm_middle)
theorem app_ok(hS:SR E w0 R H L)(hK:KR R kn l){t tx:TypeId}{x y:Operand}{v:Value}{H2:Hp}(ho:o.op=.call { callee:=.builtin .append,args:=#[x,y],argTypes:=#[t,tx] })(h:appE P E H kn t tx x y=some (v,H2))
 (hg:On ops o l) (hd:o.dst=some d) (hdn:Nat.blt d n=true)
 (hc:∀R' L' v',Rn.ext H H2 R R'->SR E w0 R' H2 L'->VR R' v v'->WL P ops Q n F0 w0 rest ((d,v')::l) (L'++X)):WL P ops Q n F0 w0 (o::rest) l (L++X):=by
 unfold appE at h
 try simp only[CX,Iq,FX,MN] at h
 split at h
 .rename_i e e' ax k c hu hux hx
  split at h
  .rename_i s zs by_ hs hz hby
   split at h
   .rename_i m new hnew
    cases i:(Nat.beq zs.length s && Nat.blt 0 by_ && Nat.ble ((3*(k+m)+1200)*by_) 281474976710656 && Nat.blt 0 m && Nat.blt H.n hpM && Nat.ble E.base H.n)
    .rw [i] at h;cases h
    .rw [i] at h
     simp only[Hr] at i
     obtain⟨⟨⟨⟨⟨b1,b2⟩,b3⟩,b4⟩,b5⟩,b6⟩:=i
     have b4':0<m:=by simpa using b4
     have S:H.n<hpM:=by simpa using b5
     have T:=Ai6 b6
     obtain⟨hz',hzp⟩:=Iz hz
     obtain⟨sa,mc,O,hy,M,hnl,hno,J⟩:=Qe (X:=X) hS hK hnew
     have G:O.length=m*s:=by rw[M.length];exact hnl
     obtain⟨u,h1,h2⟩:=hK.ev hS.gl hx
     dsimp only [cond_true] at h
     split at h
     .obtain rfl:=h2.KP
      cases i:(Nat.beq k 0 && Nat.beq c 0)
      .rw [i] at h;cases h
      .rw [i] at h
       cases h
       rw[Hr] at i
       obtain rfl:=NE i.1
       obtain rfl:=NE i.2
       refine WL.AU (E:=[]) (L0:=L++X) ho h1 hy hu hux hs hby hz' (NE b1) b2 (Vec.nil s) J G hno (Ai6 b3) hg hd hdn<|λad' c' E' hV _=>WL.KK λw F=>?_
       obtain⟨R',e2,rfl,hR,D,hv⟩:=RL hS S T (by simpa using M) hV W F
       exact hc R' (e2::L) _ hR D hv
     .rename_i a
      split at h
      .rename_i cs op hk
       cases i:(Nat.ble (a.off+k*s) cs.length && a.spot.isNone)
       .rw [i] at h;cases h
       .rw [i] at h
        rw[Hr] at i
        obtain⟨i,hsp⟩:=i
        obtain⟨b,q,h3,h4,h5,rfl⟩:=h2.Gw (Ahj.1 hsp)
        have hle:=Ai6 i
        dsimp only [cond_true] at h
        obtain⟨b',q',Z,h6,h7,h8⟩:=hS.cells (X:=X) hk
        rw[h4] at h6
        cases h6
        have hxs:VRs R (seg cs a.off (k*s)) (seg Z a.off (k*s)):=h7.seg _ _
        have hxl:(seg Z a.off (k*s)).length=k*s:=by
         have:=h7.length
         unfold seg;rw[Ahp,List.length_drop];omega
        cases K:(Option.isNone op && Nat.blt c 1152921504606846976 && Nat.blt c (k+m))
        .rw [K] at h
         dsimp only [cond_false] at h
         cases r:Aek E s k c a cs op
         .rw [r] at h;cases h
         .rw [r] at h
          cases h
          have key:Nat.ble E.base a.block=true/\a.off=0/\∀f N:List Value,f.length=cs.length->(op=none->N=[])->(∀s',op=some s'->(f++N).length=q*s')->Vec s (some ⟨b,0,none⟩) k (Jd q c) (seg f a.off (k*s)) [.row b (f++N)]:=by
           unfold Aek at r
           split at r
           .simp only [Hr] at r
            obtain⟨⟨⟨⟨g1,g2⟩,g3⟩,g4⟩,g5⟩:=r
            have z:=NE g1
            refine⟨g3,z,λf N m1 m2 _=>?_⟩
            obtain rfl:=m2 U
            have g4':c<1152921504606846976:=by simpa using g4
            rw[Hm g4',Acx]
            refine Vec.row ?_ ?_ (Ai6 g5)
            .unfold seg;rw[z,AeP]
            .rw [m1];exact NE g2
           .rename_i s'
            simp only[Hr] at r
            obtain⟨⟨⟨⟨g1,g2⟩,g3⟩,g4⟩,g5⟩:=r
            have z:=NE g1
            have g2':=NE g2
            have g3':=Ai6 g3
            obtain rfl:=NE g5
            refine⟨g4,z,λf N m1 _ m3=>?_⟩
            rw[GM] at h5 ⊢
            refine Vec.row ?_ (by rw[<- g2'];exact m3 s' U) h5
            unfold seg
            rw[z,AeP,Aiv W]
          obtain⟨kb,ka,kV⟩:=key
          have kb':=Ai6 kb
          obtain⟨A,B,b4,q4,f,N,hL,m1,m2,m3,m4⟩:=hS.split hk kb'
          rw[h4] at m1
          cases m1
          have hS1:=hS.kill ⟨_,hk⟩ kb' hL h4 U trivial
          have hV2:=kV f N m2.length m3 m4
          subst hL
          refine WL.to (L':=[.row b (f++N)]++((A++B)++X)) (λw F=>Zf F) ?_
          rw[ka] at h1
          refine WL.AU (E:=[.row b (f++N)]) (L0:=(A++B)++X) ho h1 hy hu hux hs hby hz' (NE b1) b2 hV2 (λhm=>?_) G hno (Ai6 b3) hg hd hdn ?_
          .obtain ⟨b3,so,r1,r2⟩:=J hm
           exact⟨b3,so,r1,λw F=>r2 w (Acs F)⟩
          intro ad' c' E' hV _
          refine WL.KK λw F=>?_
          obtain⟨R',e3,rfl,hR,D,hv⟩:=RL (X:=X) hS1 S T ((m2.seg _ _).app M) hV W F
          exact hc R' (e3::(A++B)) _ hR D hv
        .rw [K] at h
         cases h
         simp only[Hr] at K
         obtain⟨⟨_,c1⟩,c2⟩:=K
         have c1':c<1152921504606846976:=by simpa using c1
         have c2':c<k+m:=by simpa using c2
         rw[Hm c1'] at h1
         refine WL.AgK (xs:=seg Z a.off (k*s)) (new:=O) ho h1 hy hu hux hs hby hz' (NE b1) b2 W (λhk0=>⟨b,a.off,rfl,λw F j v hj=>?_⟩) hxl J G (Ai6 b3) hg hd hdn ?_
         .unfold YtmhahajadgkolaaGreatDoor.seg at hj
          rw[Agg] at hj
          split at hj
          .rw [Aic] at hj
           have:=h8 w F _ _ hj
           rwa [PP] at this
          .cases hj
         intro ad' c' E' hV
         refine WL.KK λw F=>?_
         obtain⟨R',e3,rfl,hR,D,hv⟩:=RL (X:=X) hS S T (hxs.app M) hV W F
         exact hc R' (e3::L) _ hR D hv
      .cases h
   .cases h
  .cases h
 .cases h
end
noncomputable section

inductive Xt where
 | normal
 | ret
 | exit (id:Nat)
inductive Job where
 | call (f:FuncId) (vs:List Value) (H:Hp)
 | loop (n:Nat) (c:Code) (kn:Kn) (H:Hp)
inductive Er (α:Type) where
 | ok (a:α)
 | bad (s:List String)
inductive Res where
 | val (v:Value) (H:Hp)
 | at_ (x:Xt) (kn:Kn) (H:Hp)
section
variable (P:Program) (E:Ev)
def UL:List Value->Option (List Int)
 | []=>some []
 | .int .u8 x::r=>match UL r with|some a=>some (x::a)|none=>none
 | _=>none
def QQ:List Field->Option (List (Nat×Nat))
 | []=>some []
 | f::a=>match HW P f.type,QQ a with
  | some m,some r=>some ((f.offset,m)::r)
  | _,_=>none
def ZD(kn:Lk)(t:TypeId)(parts:Array (Nat×Operand)):Option Value:=match GB P t,O7 P t,evpE E kn parts.toList with
 | some (.struct f),some c,some b=>match QQ P f.toList with
  | some h=>match JM (λi=>h[i]?) c b with
   | some a=>some (.agg a.toArray)
   | none=>none
  | none=>none
 | some (.array _ e),some c,some b=>match HW P e with
  | some s=>match JM (λi=>some (i*s,s)) c b with
   | some a=>some (.agg a.toArray)
   | none=>none
  | none=>none
 | _,_,_=>none
def Af1(kn:Lk)(f:Fn)(e c:Array Operand):Option Value:=match evsE E kn e.toList,evsE E kn c.toList with
 | some a,some b=>some (.func f a.toArray b.toArray)
 | _,_=>none
def ZF(kn:Lk)(t:TypeId)(x:Operand):Option Value:=match evE E kn x,GB P t with
 | some v,some d=>cond (isIf d) none (some (.iface t v))
 | _,_=>none
def VJ(kn:Lk)(t:TypeId)(x:Operand):Option Value:=match evE E kn x,GB P t with
 | some (.slice (some a) k _),some (.array m _)=>cond (Nat.ble m k && a.spot.isNone) (some (.pointer (some a))) none
 | _,_=>none
def VK(H:Hp)(kn:Lk)(t:TypeId)(x i:Operand)(f:Bool):Option Value:=match evE E kn x,evE E kn i,GB P t with
 | some (.map m),some a,some (.map kt et)=>match (Mj P et).bind (·.zero),(match m with|some k=>(match H.get k with|some (.map c b _)=>cond (Nat.beq c kt && Nat.ble E.base k) (some b) none|_=>none)|none=>some []),Jl E.keys kt with
  | some z,some b,some e=>cond (e a && CW z) (cond f (some (.tuple #[(Ap b a).getD z,.bool (Ap b a).isSome])) (some ((Ap b a).getD z))) none
  | _,_,_=>none
 | _,_,_=>none
def ZE(H:Hp)(kn:Lk)(x:Operand):Option Value:=match evE E kn x with
 | some (.pointer (some a))=>match H.get a.block with
  | some (.iter (some b))=>match H.get b with
   | some (.map _ [(c,u)] (some (i,true)))=>cond (Nat.beq i a.block && Nat.beq a.off 0 && Nat.ble E.base b) (some (.tuple #[c,u])) none
   | _=>none
  | _=>none
 | _=>none
def vLen(H:Hp)(kn:Lk)(o:Oper)(b:Array Operand)(a:Array TypeId):Option Value:=match b.toList,a.toList with
 | [x],[t]=>match evE E kn x,GB P t with
  | some (.slice _ n _),some (.slice _)=>some (.int .i64 n)
  | some (.map none),some (.map _ _)=>some (.int .i64 0)
  | some (.map (some k)),some (.map _ _)=>match H.get k with
   | some (.map _ c _)=>cond (Nat.ble E.base k) (some (.int .i64 c.length)) none
   | _=>none
  | _,_=>H7 P E kn o
 | _,_=>none
def vCap(kn:Lk)(_:Oper)(e:Array Operand)(b:Array TypeId):Option Value:=match e.toList,b.toList with
 | [x],[t]=>match evE E kn x,GB P t with
  | some (.slice none _ c),some (.slice _)=>some (.int .i64 c)
  | some (.slice (some a) _ c),some (.slice _)=>cond (Nat.blt c 1152921504606846976 && a.spot.isNone) (some (.int .i64 c)) none
  | _,_=>none
 | _,_=>none
def Af0(H:Hp)(kn:Lk)(o:Oper)(s d:TypeId)(x:Operand):Option Value:=match evE E kn x,GB P d,GB P s with
 | some (.slice none n _),some .string,some (.slice e)=>match GB P e with
  | some (.int .u8)=>cond (Nat.beq n 0) (some (.string ⟨#[]⟩)) none
  | _=>none
 | some (.slice (some a) n _),some .string,some (.slice e)=>match H.get a.block,GB P e with
  | some (.row c _),some (.int .u8)=>match UL (seg c a.off n) with
   | some b=>cond (Nat.beq b.length n && a.spot.isNone) (some (.string (strOfNums b))) none
   | none=>none
  | _,_=>none
 | _,_,_=>H7 P E kn o
def vOr(a b:Option Value):Option Value:=match a with
 | some v=>some v
 | none=>b
def CO(H:Hp)(kn:Lk)(o:Oper):Option Value:=match o.op with
 | .move x=>evE E kn x
 | .assign x=>evE E kn x
 | .pick c x y=>Aa1 E kn c x y
 | .extract x i=>Om E kn x i
 | .fieldAddr s x i=>Lj P E kn s x i
 | .load t x=>AaK P E H kn t x
 | .field s x i=>Oo P E kn s x i
 | .indexAddr t x i=>Ln P E kn t x i
 | .nilCheck x=>Ng E kn x
 | .slice t x h f none=>vOr (VC P E kn t x h f) (H7 P E kn o)
 | .binOp m t x y _=>vOr (Vi P E kn m t x y) (H7 P E kn o)
 | .build t parts=>ZD P E kn t parts
 | .makeFunc e b a=>Af1 E kn e b a
 | .makeInterface t x=>ZF P E kn t x
 | .sliceToArrayPointer t x=>VJ P E kn t x
 | .lookup t x i j=>VK P E H kn t x i j
 | .entry x=>ZE E H kn x
 | .call { callee:=.builtin .len,args,argTypes }=>vLen P E H kn o args argTypes
 | .call { callee:=.builtin .cap,args,argTypes }=>vCap P E kn o args argTypes
 | .convert s d x=>Af0 P E H kn o s d x
 | _=>H7 P E kn o
def vSlice(kn:Lk)(o:Oper)(t:TypeId)(x:Operand)(b a c:Option Operand):Option Value:=match c with
 | none=>vOr (VC P E kn t x b a) (H7 P E kn o)
 | some _=>H7 P E kn o
def AfZ(kn:Lk)(H:Hp)(o:Oper)(b:Builtin)(a:Array Operand)(c:Array TypeId):Option Value:=match b with
 | .len=>vLen P E H kn o a c
 | .cap=>vCap P E kn o a c
 | _=>H7 P E kn o
def vCall(kn:Lk)(H:Hp)(o:Oper)(c:Callee)(a:Array Operand)(e:Array TypeId):Option Value:=match c with
 | .builtin b=>AfZ P E kn H o b a e
 | _=>none
def VL(H:Hp)(kn:Lk)(o:Oper):Option Value:=Op.rec (motive:=λ_=>Option Value)
 (λx=>evE E kn x)
 (λx=>evE E kn x)
 (λc x y=>Aa1 E kn c x y)
 (λ_=>none)
 (λ_ _=>none)
 (λt parts=>ZD P E kn t parts)
 (λ_ _ _=>none)
 (λ_ _ _ _=>none)
 (λt x=>AaK P E H kn t x)
 (λ_ _ _=>none)
 (λ_=>none)
 (λ_=>none)
 (λx=>Ng E kn x)
 (λr t x y _=>vOr (Vi P E kn r t x y) (H7 P E kn o))
 (λ_ _ _=>H7 P E kn o)
 (λs d x=>Af0 P E H kn o s d x)
 (λt x=>VJ P E kn t x)
 (λt x=>ZF P E kn t x)
 (λe b a=>Af1 E kn e b a)
 (λ_ _=>none)
 (λ_ _=>none)
 (λ_ _ _=>none)
 (λt x h f j=>vSlice P E kn o t x h f j)
 (λs x i=>Lj P E kn s x i)
 (λs x i=>Oo P E kn s x i)
 (λt x i=>Ln P E kn t x i)
 (λ_ _ _=>H7 P E kn o)
 (λt x i m=>VK P E H kn t x i m)
 (λ_ _ _ _=>none)
 (λ_ _ _=>none)
 (λ_ _ _ _=>none)
 (λ_ _=>none)
 (λ_ _=>none)
 (λx=>ZE E H kn x)
 (λ_ _ _ _=>none)
 (λx i=>Om E kn x i)
 (λc=>vCall P E kn H o c.callee c.args c.argTypes)
 (λ_=>none)
 (λ_=>none)
 (λ_=>none)
 (λ_ _=>none)
 (λ_ _ _=>none)
 (λ_ _=>none)
 o.op
theorem PR(H:Hp)(kn:Lk)(o:Oper):VL P E H kn o=CO P E H kn o:=by
 obtain⟨i,m,w,r,e,guard⟩:=o
 cases m with
 | slice t x u s j=>cases j<;>rfl
 | call c =>
  obtain⟨a,f,h⟩:=c
  cases a with
  | builtin b=>cases b<;>rfl
  | _=>rfl
 | _=>rfl
variable (rec:Job->Er Res)
def valR:Er Res->Er (Value×Hp)
 | .ok (.val v H)=>.ok (v,H)
 | .ok _=>.bad ["valR"]
 | .bad s=>.bad s
def mapE(H:Hp)(b:Nat):Option (Nat×List (Value×Value)):=match H.get b with
 | some (.map kt a none)=>cond (Nat.ble E.base b) (some (kt,a)) none
 | _=>none
def setE(H:Hp)(kn:Lk)(t:TypeId)(m k v:Operand):Option Hp:=match evE E kn m,evE E kn k,evE E kn v,GB P t with
 | some (.map (some b)),some a,some u,some (.map kt _)=>match mapE E H b,Jl E.keys kt with
  | some (c,e),some f=>cond (f a && Nat.beq c kt) (some (H.put b (some (.map kt (SB e a u) none)))) none
  | _,_=>none
 | _,_,_,_=>none
def Rv(H:Hp)(kn:Lk)(x:Operand)(t:TypeId):Option Hp:=match evE E kn x with
 | some (.map (some b))=>match mapE E H b,GB P t with
  | some (kt,_),some _=>some (H.put b (some (.map kt [] none)))
  | _,_=>none
 | some (.slice (some a) k _)=>match GB P t,H.get a.block with
  | some (.slice e),some (.row f h)=>match O7 P e,HW P e with
   | some c,some s=>cond (Nat.beq c.length s && Nat.ble (a.off+k*s) f.length && c.all one && Nat.ble E.base a.block && a.spot.isNone) (some (H.put a.block (some (.row (AK f a.off (zrs c k)) h)))) none
   | _,_=>none
  | _,_=>none
 | _=>none
def AdY(H:Hp)(kn:Lk)(x y:Operand)(t h:TypeId):Option (Value×Hp):=match evE E kn x,GB P t,GB P h with
 | some (.slice (some a) k _),some (.slice e),some (.slice _)=>match HW P e,Nf E H kn 1 y,H.get a.block with
  | some 1,some (m,b),some (.row c f)=>cond (Nat.ble E.base a.block && Nat.ble (a.off+min m k) c.length && a.spot.isNone && Nat.blt 0 (min m k)) (some (.int .i64 (min m k:Nat),H.put a.block (some (.row (AK c a.off (b.take (min m k))) f)))) none
  | _,_,_=>none
 | _,_,_=>none
def PK(H:Hp)(kn:Lk)(d:TypeId)(x:Operand):Option (Value×Hp):=match evE E kn x,GB P d with
 | some (.string a),some (.slice e)=>match GB P e with
  | some (.int .u8)=>cond (Nat.blt H.n hpM && Nat.ble E.base H.n) (some (.slice (some ⟨H.n,0,none⟩) a.data.toList.length DI,H.new (.row (a.data.toList.map Nx) (some 1)))) none
  | _=>none
 | _,_=>none
def Zj(H:Hp)(kn:Lk)(t:TypeId)(x:Operand):Option (Value×Hp):=match evE E kn x,GB P t with
 | some (.map none),some (.map _ _)=>cond (Nat.blt H.n hpM && Nat.ble E.base H.n) (some (.pointer (some ⟨H.n,0,none⟩),H.new (.iter none))) none
 | some (.map (some b)),some (.map _ _)=>match mapE E H b with
  | some (kt,a)=>cond (Nat.ble a.length 1 && Nat.blt H.n hpM && Nat.ble E.base H.n) (some (.pointer (some ⟨H.n,0,none⟩),(H.new (.iter (some b))).put b (some (.map kt a (some (H.n,false)))))) none
  | none=>none
 | _,_=>none
def AeR(H:Hp)(kn:Lk)(x:Operand):Option (Value×Hp):=match evE E kn x with
 | some (.pointer (some a))=>match H.get a.block with
  | some (.iter none)=>cond (Nat.beq a.off 0 && Nat.ble E.base a.block) (some (.tuple #[.bool false],H)) none
  | some (.iter (some b))=>match H.get b with
   | some (.map kt c (some (i,e)))=>cond (Nat.beq i a.block && Nat.beq a.off 0 && Nat.ble E.base a.block && Nat.ble E.base b) (match c,e with
    | [(f,u)],false=>some (.tuple #[.bool true,f,u],H.put b (some (.map kt c (some (i,true)))))
    | _,_=>some (.tuple #[.bool false],H.put b (some (.map kt c none)))) none
   | _=>none
  | _=>none
 | _=>none
def Adx(H:Hp)(kn:Lk)(t b:TypeId)(x y:Operand):Option (Value×Hp):=match evE E kn x,evE E kn y,GB P t,GB P b with
 | some (.slice a k c),some (.slice _ 0 _),some (.slice e),some (.slice _)=>match HW P e,(Mj P e).map (·.bytes) with
  | some _,some _=>cond (match a with|none=>Nat.beq k 0 && Nat.beq c 0|some a=>a.spot.isNone) (some (.slice a k c,H)) none
  | _,_=>none
 | _,_,_,_=>none
def Ul(o:Oper)(H:Option Hp):Er (Value×Hp):=match o.dst,H with
 | none,some H=>.ok (undef,H)
 | _,_=>.bad [o.pos]
def WI(o:Oper)(r:Option (Value×Hp)):Er (Value×Hp):=match o.dst,r with
 | some _,some r=>.ok r
 | _,_=>.bad [o.pos]
def actE(H:Hp)(kn:Lk)(o:Oper):Er (Value×Hp):=match o.op with
 | .store t x y=>Ul o (SG P E H kn t x y)
 | .mapUpdate t m k v=>Ul o (setE P E H kn t m k v)
 | .insert t m k v=>Ul o (setE P E H kn t m k v)
 | .call { callee:=.value x,args, .. }=>match o.dst,evE E kn x,evsE E kn args.toList with
  | some _,some (.func (.func f) c b),some i=>valR (rec (.call f (c.toList++i++b.toList) H))
  | _,_,_=>.bad [o.pos]
 | .call { callee:=.builtin .append,args,argTypes }=>WI o (match args.toList,argTypes.toList with
  | [x,y],[t,a]=>match Adx P E H kn t a x y with
   | some r=>some r
   | none=>match appE P E H kn t a x y with
    | some r=>some r
    | none=>Ady P E H kn t a x y
  | _,_=>none)
 | .call { callee:=.builtin .clear,args,argTypes }=>Ul o (match args.toList,argTypes.toList with
  | [x],[t]=>Rv P E H kn x t
  | _,_=>none)
 | .call { callee:=.builtin .copy,args,argTypes }=>WI o (match args.toList,argTypes.toList with
  | [x,y],[t,e]=>AdY P E H kn x y t e
  | _,_=>none)
 | .convert s d x=>WI o (match GB P s with|some _=>PK P E H kn d x|none=>none)
 | .range t x=>WI o (Zj P E H kn t x)
 | .next x false=>WI o (AeR E H kn x)
 | _=>WI o (match R8 P E kn o.op with
  | some (h,f)=>cond (Nat.blt H.n hpM && Nat.ble E.base H.n) (some (f H.n,H.new h)) none
  | none=>none)
def opE(H:Hp)(kn:Lk)(o:Oper):Er (Value×Hp):=match VL P E H kn o with
 | some v=>.ok (v,H)
 | none=>actE P E rec H kn o
def BE(l:List Nat)(i:Nat):Nat:=List.rec (motive:=λ_=>Nat->Nat) (λ_=>0) (λa _ b n=>Nat.rec (motive:=λ_=>Nat) a (λm _=>b m) n) l i
def OH(kn:Kn):Lk:=λt=>List.rec (motive:=λ_=>Option Value) none (λp _ a=>Bool.rec (motive:=λ_=>Option Value) a (some p.2) (Nat.beq p.1 t)) kn
theorem KD:∀kn:Kn,OH kn=look kn
 | []=>rfl
 | (d,v)::r=>by
  rw[Ju, <- KD r]
  funext t
  show Bool.rec (motive:=λ_=>Option Value) (OH r t) (some v) (Nat.beq d t)=cond (Nat.beq d t) (some v) (OH r t)
  cases Nat.beq d t<;>rfl
def Lm(ops:Array Oper)(kn:Lk)(o:Oper):Option Bool:=match o.guard with
 | none=>some true
 | some (j,a)=>match (lget ops.toList j).bind (·.dst) with
  | some b=>match kn b with
   | some v=>some (isB v a)
   | none=>none
  | none=>none
def putE(n:Nat)(o:Oper)(v:Value)(kn:Kn):Option Kn:=match o.dst with
 | some d=>cond (Nat.blt d n) (some ((d,v)::kn)) none
 | none=>some kn
def opsE(n:Nat)(ops:Array Oper):List Oper->Kn->Hp->Er (Kn×Hp)
 | [],kn,H=>.ok (kn,H)
 | o::rest,kn,H=>match Lm ops (OH kn) o with
  | some true=>match opE P E rec H (OH kn) o with
   | .ok (v,b)=>match putE n o v kn with
    | some a=>opsE n ops rest a b
    | none=>.bad [o.pos]
   | .bad s=>.bad s
  | some false=>match putE n o undef kn with
   | some a=>opsE n ops rest a H
   | none=>.bad [o.pos]
  | none=>.bad [o.pos]
/-! A region that draws its order. Of each operation (in the text's order) what it yields is written down; each sees what comes ahead of it in every order. -/
structure Dr where
 rk:List (Nat×Nat×Value)
 H:Hp
 pend:List (Nat×Nat×VO)
 ws:List (Nat×Hp)
 rs:List (Nat×Oper×Value)
def GZ:Op->Bool
 | .alloc _ | .box .. | .buildSlice .. | .makeSlice .. | .makeMap .. => true
 | _=>false
def Zk:Op->Bool
 | .load .. | .lookup .. | .convert .. | .call _ | .entry _=>true
 | _=>false
def Mf(a:List Nat)(i t:Nat):Nat->List Oper->Bool
 | _,[]=>true
 | j,o::r=>(match o.dst with|some d => !(Nat.beq d t) || (BE a j).testBit i|none=>true) && Mf a i t (j+1) r
def Sr(a:Nat):List (Nat×Nat×Value)->Nat->Option Value
 | [],_=>none
 | (j,d,v)::r,t=>cond (Nat.beq d t && a.testBit j) (some v) (Sr a r t)
def befR:List Oper->Nat->List Nat->List Nat
 | [],_,a=>a
 | o::r,i,a=>befR r (Nat.succ i) (List.rec (motive:=λ_=>Nat) 0 (λe _ s=>Bool.rec (motive:=λ_=>Nat) s (Nat.lor (Nat.lor s (Nat.pow 2 e.on)) (BE a (Nat.sub i (Nat.succ e.on)))) (Region.binds .any e)) o.after.toList::a)
def befE(ops:List Oper):List Nat:=(befR ops 0 []).reverse
def knI(ops:Array Oper)(a:List Nat)(b:Kn)(c:List (Nat×Nat×Value))(i:Nat):Lk:=λt=>match Sr (BE a i) c t with
 | some v=>some v
 | none=>cond (Mf a i t 0 ops.toList) (OH b t) none
def CH(a:Nat):List (Nat×Nat×VO)->Hp->Hp
 | [],H=>H
 | (i,id,b)::r,H=>cond (a.testBit i) ((CH a r H).put id (some b)) (CH a r H)
def EG(a:Nat):List (Nat×Nat×VO)->List (Nat×Nat×VO)
 | []=>[]
 | (i,id,b)::r=>cond (a.testBit i) (EG a r) ((i,id,b)::EG a r)
def Abc(kn:Lk)(H:Hp)(o:Oper)(v:Value):Bool:=match VL P E H kn o with|some u=>eqV u v|none=>false
def JA(kn:Lk)(o:Oper)(v:Value)(b:Nat)(a:List (Nat×Nat×VO)):List (Nat×Hp)->Bool
 | []=>true
 | (j,c)::r=>(b.testBit j || Abc P E kn (CH b a c) o v) && JA kn o v b a r
def Nk(ops:Array Oper)(b:List Nat)(c:Kn)(f:List (Nat×Nat×Value))(H:Hp)(e:Nat)(a:List (Nat×Nat×VO)):List (Nat×Oper×Value)->Bool
 | []=>true
 | (i,o,v)::r=>(e.testBit i || Abc P E (knI ops b c f i) (CH (BE b i) a H) o v) && Nk ops b c f H e a r
def Dr.note(D:Dr)(n i:Nat)(o:Oper)(v:Value):Option (List (Nat×Nat×Value)):=match o.dst with
 | some d=>cond (Nat.blt d n) (some ((i,d,v)::D.rk)) none
 | none=>some D.rk
def M7(a b:Nat)(H:Hp):Nat->List Oper->Bool
 | _,[]=>true
 | j,o::r=>(!GZ o.op || b.testBit j || (H.get (a+j)).isNone) && M7 a b H (j+1) r
def Aem(a:Nat):List (Nat×Hp)->Bool
 | []=>true
 | (j,_)::_=>a.testBit j
def Je(n:Nat)(ops:Array Oper)(b:Kn)(c:Nat)(a:List Nat)(i:Nat)(o:Oper)(D:Dr):Er Dr:=match Lm ops (knI ops a b D.rk i) o with
 | none=>.bad [o.pos]
 | some false=>match D.note n i o undef with
  | some rk=>.ok { D with rk:=rk }
  | none=>.bad [o.pos]
 | some true=>match GZ o.op with
  | true=>match R8 P E (knI ops a b D.rk i) o.op with
   | some (h,f)=>match D.note n i o (f (c+i)),o.dst with
    | some rk,some _=>.ok { D with rk:=rk,pend:=(i,c+i,h)::D.pend }
    | _,_=>.bad [o.pos]
   | none=>.bad [o.pos]
  | false=>match VL P E (CH (BE a i) D.pend D.H) (knI ops a b D.rk i) o with
   | some v=>match Zk o.op with
    | true=>cond (JA P E (knI ops a b D.rk i) o v (BE a i) D.pend D.ws) (match D.note n i o v with
     | some rk=>.ok { D with rk:=rk,rs:=(i,o,v)::D.rs }
     | none=>.bad [o.pos]) (.bad ["stages",o.pos])
    | false=>match D.note n i o v with
     | some rk=>.ok { D with rk:=rk }
     | none=>.bad [o.pos]
   | none=>cond (Aem (BE a i) D.ws) (match actE P E rec (CH (BE a i) D.pend D.H) (knI ops a b D.rk i) o with
    | .ok (v,e)=>match D.note n i o v with
     | some rk=>cond (M7 c (BE a i) e 0 ops.toList && Nk P E ops a b D.rk e (BE a i) (EG (BE a i) D.pend) D.rs) (.ok ⟨rk,e,EG (BE a i) D.pend,(i,D.H)::D.ws,D.rs⟩) (.bad ["reads",o.pos])
     | none=>.bad [o.pos]
    | .bad s=>.bad s) (.bad ["acts",o.pos])
def QI(n:Nat)(ops:Array Oper)(c:Kn)(b:Nat)(a:List Nat):Nat->List Oper->Dr->Er Dr
 | _,[],D=>.ok D
 | i,o::rest,D=>match Je P E rec n ops c b a i o D with
  | .ok e=>QI n ops c b a (i+1) rest e
  | .bad s=>.bad s
def rkKn(a:List (Nat×Nat×Value))(kn:Kn):Kn:=match a with
 | []=>kn
 | (_,d,v)::r=>(d,v)::rkKn r kn
def Jp:List (Nat×Nat×VO)->Hp->Hp
 | [],H=>H
 | (_,id,a)::r,H=>(Jp r H).put id (some a)
def Re(a:List Nat)(i:Nat)(o:Oper):Bool :=
 o.after.toList.all (λe => !Region.binds .any e || Nat.blt e.on i) &&
 (List.range i).all (λj => !((BE a i).testBit j) || o.after.toList.any λe=>Region.binds .any e && (Nat.beq e.on j || (BE a e.on).testBit j)) &&
 Nat.blt (BE a i) (2^i)
def Tq(a:List Nat):Nat->List Oper->Bool
 | _,[]=>true
 | i,o::r=>Re a i o && Tq a (i+1) r
def Pr:List Nat->List Oper->Bool
 | _,[]=>true
 | a,o::r=>match o.dst with
  | some d => !(a.contains d) && Pr (d::a) r
  | none=>Pr a r
def Aao(n:Nat)(ops:Array Oper)(kn:Kn)(H:Hp):Er (Kn×Hp) :=
 cond (Tq (befE ops.toList) 0 ops.toList && Pr [] ops.toList && Nat.ble (H.n+ops.size) hpM && Nat.ble E.base H.n)
 (match QI P E rec n ops kn H.n (befE ops.toList) 0 ops.toList ⟨[],cond (ops.any λo=>GZ o.op) ⟨H.n+ops.size,H.t⟩ H,[],[],[]⟩ with
 | .ok D=>.ok (rkKn D.rk kn,Jp D.pend D.H)
 | .bad s=>.bad s) (.bad ["static"])
def norE:Er (Kn×Hp)->Er (Xt×Kn×Hp)
 | .ok (kn,H)=>.ok (.normal,kn,H)
 | .bad s=>.bad s
def JK(n:Nat):Code->Kn->Hp->Er (Xt×Kn×Hp)
 | .skip,kn,H=>.ok (.normal,kn,H)
 | .label _,kn,H=>.ok (.normal,kn,H)
 | .exit id,kn,H=>.ok (.exit id,kn,H)
 | .ret,kn,H=>.ok (.ret,kn,H)
 | .region _ ops false,kn,H=>norE (opsE P E rec n ops ops.toList kn H)
 | .region _ ops true,kn,H=>norE (Aao P E rec n ops kn H)
 | .seq a b,kn,H=>match JK n a kn H with
  | .ok (.normal,e,f)=>JK n b e f
  | r=>r
 | .cond c a b,kn,H=>match evE E (OH kn) c with
  | some (.bool true)=>JK n a kn H
  | some (.bool false)=>JK n b kn H
  | _=>.bad ["cond"]
 | .block id c,kn,H=>match JK n c kn H with
  | .ok (.exit j,e,f)=>cond (Nat.beq j id) (.ok (.normal,e,f)) (.ok (.exit j,e,f))
  | r=>r
 | .scope c,kn,H=>JK n c kn H
 | .loop c,kn,H=>match rec (.loop n c kn H) with
  | .ok (.at_ x e f)=>.ok (x,e,f)
  | .ok _=>.bad ["loop"]
  | .bad s=>.bad s
 | _,_,_=>.bad ["code"]
def resE(kn:Kn)(H:Hp):ResultVar->Option Value
 | .tmp t=>OH kn t
 | .cell a t=>match OH kn a with
  | some (.pointer (some a))=>match H.get a.block with
   | some (.row b _)=>cutE P t b a.off
   | _=>none
  | _=>none
def Aa7(kn:Kn)(H:Hp):List ResultVar->Option (List Value)
 | []=>some []
 | r::a=>match resE P kn H r with
  | some v=>match Aa7 kn H a with|some b=>some (v::b)|none=>none
  | none=>none
def Abi:Job->Er Res
 | .call f h H=>match lget P.funcs.toList f with
  | some a=>match a.body with
   | some c=>cond (!(a.name == "runtime.NumGoroutine") && Nat.ble h.length a.ntmps) (match JK P E rec a.ntmps c (Kl 0 h) H with
    | .ok (.exit _,_,_)=>.bad ["exit"]
    | .ok (_,kn,b)=>match Aa7 P kn b a.results.toList with
     | some [v]=>.ok (.val v b)
     | some i=>.ok (.val (.tuple i.toArray) b)
     | none=>.bad ["results",a.name]
    | .bad s=>.bad (a.name::s)) (.bad [a.name])
   | none=>.bad ["no body",a.name]
  | none=>.bad ["no function"]
 | .loop n c kn H=>match JK P E rec n c kn H with
  | .ok (.normal,e,b)=>rec (.loop n c e b)
  | .ok (x,e,b)=>.ok (.at_ x e b)
  | .bad s=>.bad s
end
def runE(P:Program)(E:Ev):Nat->Job->Er Res
 | 0,_=>.bad ["fuel"]
 | n+1,j=>Abi P E (runE P E n) j
end
end Go.Proofs.YtmhahajadgkolaaGreatDoor
