/- Joined texts. -/
import Derived.Shelf.SlSortCmp.InsertionK
import Derived.Shelf.SlLaysF0
import Derived.Shelf.SlSortCmp.WholeK
import Derived.Lib.MakeNoZero
import Derived.Shelf.SlSortCmp.NoneTotal
import Derived.Test.YtmhahajadgkolaaGreatDoorBbSdxTells
set_option maxHeartbeats 4000000
namespace Go.Proofs.YtmhahajadgkolaaGreatDoor
open Go.RowKit Tryz
theorem Ai8:∀ {p:Prop} [Decidable p],decide p=true->p:=@of_decide_eq_true
theorem Ac5:∀(n:Nat),¬n < 0:=@Nat.not_lt_zero
theorem Aec.{u}:∀ {α:Type u} («as»:List α),[]++«as»=«as»:=@List.nil_append
theorem Aep:∀ {p:Prop} [Decidable p],decide p=false->¬p:=@of_decide_eq_false
theorem AeP.{u}:∀ {α:Type u} {l:List α},List.drop 0 l=l:=@List.drop_zero
theorem Ago:∀ {p:Prop},(¬p->False)->p:=@Classical.byContradiction
theorem AgP:∀(a:Int),a<=a:=@Int.le_refl
theorem Ahu.{u}:∀ {α:Type u} {xs:Array α} {i:Nat},xs.toList[i]?=xs[i]?:=@Array.getElem?_toList
theorem Ahz.{u_1}:∀ {α:Type u_1} {i:Nat} {l:List α} (_:i < l.length),List.take (i + 1) l=List.take i l++[l[i]]:=@List.take_succ_eq_append_getElem
theorem Ah9.{u_1}:∀ {α:Type u_1} {l:List α},List.drop l.length l=[]:=@List.drop_length
theorem Aiw.{u_1}:∀ {α:Type u_1} (a:α),(some a).toList=[a]:=@Option.toList_some
variable{A D:Nat}{B H:Wd}{E:Nat->Prop}{F:eL}{G:Int}
section Gq
attribute [local irreducible] WL WC WE WQ WP WH WR WM WRH

structure Ac where
 set:Int
 val:Nat->Int
def ucs(f:Nat->Int)(n:Nat):vL:=(List.range n).map λi=>.int .u64 (f i)
theorem DJ(f:Nat->Int)(n:Nat):(ucs f n).length=n:=by simp[ucs]
theorem Hk(f:Nat->Int){n i:Nat}(h:i<n):(ucs f n)[i]?=some (.int .u64 (f i)):=by simp[ucs,h]
theorem QU{f:Nat->Int}(h:D<A):(ucs f A).set D (.int .u64 G)=ucs (λi=>if i=D then G else f i) A:=by
 apply AhO
 intro i
 rw[List.getElem?_set,DJ]
 by_cases a:D=i
 .subst a;rw[IR rfl,IR h,Hk _ h,IR rfl]
 .rw [E9 a]
  by_cases b:i<A
  .rw [Hk _ b,Hk _ b,E9 W]
  .rw [AcL F3,AcL F3]
theorem KQ{f g:Nat->Int}(h:∀i,i<A->f i=g i):ucs f A=ucs g A:=by
 unfold ucs
 apply List.map_congr_left
 intro i a
 rw[h i (Aij.1 a)]
def acL(a:Ac):vL:=iI a.set::ucs a.val 9
def acV(a:Ac):Vl:=.agg (acL a).toArray
theorem MT(a:Ac){k:Nat}(h:k<9):(acL a)[1+k*1]?=some (.int .u64 (a.val k)):=by
 rw[show 1+k*1=k+1 by omega];exact Hk _ h
structure Ac.In(a:Ac):Prop where
 set : -9223372036854775808<=a.set/\a.set<=9223372036854775807
 val:∀k,0<=a.val k/\a.val k<=18446744073709551615
def Ac.IH(a:Ac)(k:Nat):Prop:=a.set / 2^k % 2=1
instance (a:Ac) (k:Nat):Decidable (a.IH k):=by unfold Ac.IH;infer_instance
def Ac.Ok(a:Ac):Prop:=(0<=a.set/\a.set<=511)/\∀k,k<9->a.val k<=BG k/\(a.val k≠0->a.IH k)
instance (a:Ac):Decidable a.Ok:=by unfold Ac.Ok;infer_instance
theorem Afs(w:Wd)(a:Ac)(k:Nat)(hk:k<9):
 Cl 338 #[acV a,iI k] w (RvF (.bool (decide (a.IH k))) w):=by
 refine en0 func338 U ntmps338 U<|J2 ?_
 refine zx U U U U U<|λf b=>J8 ?_
 refine zV (IP (m:=k) (c:=(2:Int)^k) U U U U F4 U) U ?_
 refine zV (HX U U U (Hy (i:=1) (m:=2) C8 C8 C8)) U<|zV (Ae U U U) U ?_
 exact Cx
theorem AcH(w:Wd)(a:Ac)(B:GW w):
 Cl 326 #[acV a] w (RvF (iI (if a.Ok then 0 else 1)) w):=by
 refine en0 func326 U ntmps326 U<|J2 ?_
 refine zx U U U U U<|λz D=>J8 ?_
 refine JT (λA=>?_) λA=>?_
 refine J15 ?_
 exact Cs
 refine J3 ?_
 refine JT (λi=>?_) λi=>?_
 refine J11 ?_
 exact Cs
 refine J13 ?_
 refine oLp (λk:Nat=>[(12,iI k),(1,pG z)]) (λ_=>[.row z (acL a)]) (λk=>k<=9/\∀j,j<k->a.val j<=BG j/\(a.val j≠0->a.IH j)) (λk=>9-k) 0 ⟨Lv _,λj h=>absurd h W⟩ ?_
 rintro k ⟨hk,g⟩
 refine J2 ?_
 refine JT (λr=>?_) λr=>?_
 refine J15 ?_
 refine cQ mixed<|J2 ?_
 refine qV (AG (lo:=k) U U U underlying218 CF W W) U<|qV (An U U Gn.h (cellAt (MT a W))) U<|J1 ?_
 refine qC CkO U (λw v=>QZ w k W (B.BI (λh=>h) v))<|JT (λu=>?_) (λu=>?_)
 refine J27 ?_
 refine eT1 ?_
 exact λw' h=>⟨by rw[E9 λq=>by have:=(q.2 k W).1;omega],h.frm⟩
 refine J3 ?_
 refine WQ.val (AG (lo:=k) U U U underlying218 CF W W) (.some U U U) U U<|WQ.val (An U U Gn.h (cellAt (MT a W))) (.some U U U) U U<|JT (λb=>?_) (λb=>?_)
 refine J3 ?_
 refine WQ.call _ U U CkO (.some U U U) U U (λw v=>Calls.still (Afs w a k W) v)<|WQ.val (Af4 U U) (.some U U U) U U<|J4 ?_
 refine WC.Le U (λf=>?_) λf=>?_
 refine J11 ?_
 refine eT1 ?_
 exact λw' h=>⟨by rw[E9 λq=>f ((q.2 k W).2 b)],h.frm⟩
 refine J7 ?_
 exact eW (k+1) W ⟨W,λj E=>by
 by_cases e:j=k
 .subst e;exact⟨W,λ_=>Acp.1 f⟩
 .exact g j W⟩
 refine J17 ?_
 exact eW (k+1) W ⟨W,λj E=>by
 by_cases e:j=k
 .subst e;exact⟨W,λh=>absurd h b⟩
 .exact g j W⟩
 refine J15 ?_
 refine eT1 ?_
 obtain rfl:k=9:=W
 exact λw' h=>⟨by rw[IR ⟨W,g⟩],h.frm⟩
def appK(a:Ac)(H:Hd):Nat->Hd|0=>H|k+1=>if a.IH k then wthF k (a.val k) (appK a H k) else appK a H k
def Ac.then(a b:Ac):Ac:=⟨orN a.set b.set,λk=>if b.IH k then b.val k else a.val k⟩
def LS(a b:Ac)(k i:Nat):Int:=if i<k/\b.IH i then b.val i else a.val i
theorem Adl(w:Wd)(a b:Ac)(E:a.Ok)(F:b.Ok):
 Cl 320 #[acV a,acV b] w (RvF (acV (a.then b)) w):=by
 have A:=E.1
 have B:=F.1
 refine en0 func320 U ntmps320 U<|J2 ?_
 refine zx U U U U U<|λj G=>zx U U U U U<|λr H=>zy U DY.h U U<|λu J=>J9 ?_
 refine oLp (λk:Nat=>[(6,iI k),(2,pG j),(3,pG r),(4,pG u)]) (λk=>[.row u (acL ⟨0,λ_=>0⟩),.row r (acL b),.row j (acL ⟨a.set,LS a b k⟩)]) (λk=>k<=9) (λk=>9-k) 0 (Lv _)<|λk hk=>J2 ?_
 refine JT (λD=>?_) λD=>?_
 refine J18 ?_
 refine zk CkO U (λw K=>Afs w b k W)<|J2 ?_
 refine WC.Le U (λg=>?_) λg=>?_
 refine J4 ?_
 refine zV (AG (lo:=k) U U U underlying218 CF W W) U<|zV (An U U Gn.h (cellAt (MT b W))) U<|J1 ?_
 refine zV (AG (lo:=k) U U U underlying218 CF W W) U<|WL.DX U U U U Gn.h (by show 1+k*1<(acL _).length;unfold acL;rw[Acg,DJ];omega) (.none U) U ?_
 refine J7 ?_
 refine WE.as (L':=[.row u (acL ⟨0,λ_=>0⟩),.row r (acL b),.row j (acL ⟨a.set,LS a b (k+1)⟩)]) ?_ (eW (k+1) W W)
 have e:(acL ⟨a.set,LS a b k⟩).set (1+k*1) (.int .u64 (b.val k))=acL ⟨a.set,LS a b (k+1)⟩:=(by
  rw[show 1+k*1=k+1 by omega]
  unfold acL
  rw[List.set_cons_succ,QU W]
  congr 1
  refine KQ λi v=>?_
  dsimp only
  unfold LS
  by_cases e:i=k
  .subst e;rw[IR rfl,IR ⟨W,g⟩]
  .rw [E9 e]
   by_cases f:i<k/\b.IH i
   .rw [IR f,IR ⟨W,f.2⟩]
   .rw [E9 f,E9 λq=>f ⟨W,q.2⟩])
 rw[e]
 refine J7 ?_
 refine WE.as (L':=[.row u (acL ⟨0,λ_=>0⟩),.row r (acL b),.row j (acL ⟨a.set,LS a b (k+1)⟩)]) ?_ (eW (k+1) W W)
 have e:acL ⟨a.set,LS a b k⟩=acL ⟨a.set,LS a b (k+1)⟩:=(by
  unfold acL
  congr 1
  refine KQ λi v=>?_
  dsimp only
  unfold LS
  by_cases f:i<k/\b.IH i
  .rw [IR f,IR ⟨W,f.2⟩]
  .rw [E9 f,E9 (λq=>by
    by_cases e:i=k
    .subst e;exact g q.2
    .exact f ⟨W,q.2⟩)])
 rw[e]
 refine J15 ?_
 refine zV (S9 U U U (Im (x:=a.set) (y:=b.set) A.1 W B.1 W)) U<|J2 ?_
 have z:(acL ⟨a.set,LS a b k⟩).set 0 (iI (orN a.set b.set))=acL (a.then b):=(by
  obtain rfl:k=9:=W
  show _::_=_::_
  congr 1
  refine KQ λi v=>?_
  show LS a b 9 i=(if b.IH i then _ else _)
  unfold LS
  by_cases f:b.IH i
  .rw [IR f,IR ⟨v,f⟩]
  .rw [E9 f,E9 λq=>f q.2])
 refine WL.as (L':=[.row u (acL ⟨0,λ_=>0⟩),.row r (acL b),.row j (acL (a.then b))]) (by rw[<- z]) ?_
 refine J9 ?_
 exact Aw

theorem Xc(w:Wd)(x:Int):Cl 223 #[iI x] w (RvF (.bool false) w):=by
 refine en0 func223 U ntmps223 U ?_
 exact C3
theorem LY(w:Wd)(x y:Int):Cl 128 #[iI x,iI y] w (RvF (iI (EF x y)) w):=by
 refine en0 func128 U ntmps128 U<|J8 ?_
 refine zk CkO U (λw a=>Xc w x)<|J6 ?_
 refine zk CkO U (λw a=>Xc w y) ?_
 exact Ao
def Ml(f g:Nat->Int):Nat->Int|0=>0|k+1=>if Ml f g k≠0 then Ml f g k else EF (f k) (g k)
theorem RZ{f g:Nat->Int}{k:Nat}(h:Ml f g k≠0):∀j,Ml f g (k+j)=Ml f g k
 | 0=>rfl
 | j+1=>by
  have:=RZ h j
  show(if Ml f g (k+j)≠0 then Ml f g (k+j) else _)=_
  rw[this,IR h]
theorem SCmp_c(w:Wd)(b j o r:Nat)(f g:Nat->Int)(A:∀i,i<9->w.cell? ⟨b,o+i*1,none⟩=some (.int .u64 (f i)))(B:∀i,i<9->w.cell? ⟨j,r+i*1,none⟩=some (.int .u64 (g i))):
 Cl 318 #[.slice (some ⟨b,o,none⟩) 9 9,.slice (some ⟨j,r,none⟩) 9 9] w (RvF (iI (Ml f g 9)) w):=by
 refine en0 func318 U ntmps318 U<|J14 ?_
 refine oLp (λk:Nat=>[(11,iI k),(10,iI 9),(9,.slice (some ⟨b,o,none⟩) 9 9),(1,.slice (some ⟨j,r,none⟩) 9 9),(0,.slice (some ⟨b,o,none⟩) 9 9)]) (λ_=>[]) (λk=>k<=9/\Ml f g k=0) (λk=>9-k) 0 ⟨Lv _,rfl⟩ ?_
 rintro k ⟨hk,z⟩
 refine J2 ?_
 refine JT (λq=>?_) λq=>?_
 refine J11 ?_
 refine zV (AA (lo:=k) U U U underlying450 CF W W) U<|zV (An U U Gn.h (BY (λh=>h) (A k W))) U<|J10 ?_
 refine zV ((SK U U U).f W) U<|J9 ?_
 refine zV (AA (lo:=k) U U U underlying450 CF W W) U<|zV (An U U Gn.h (BY (λh=>h) (B k W))) U<|J7 ?_
 refine zk CkO U (λw E=>Yi w (f k) (g k))<|J6 ?_
 refine JT (λa=>?_) λa=>?_
 refine J15 ?_
 refine eT1 ?_
 have u:Ml f g (k+1)=EF (f k) (g k):=(by show(if _ then _ else _)=_;rw[E9 (W)])
 have v:=RZ (f:=f) (g:=g) (k:=k+1) (by rw[u];exact a) (8-k)
 rw[show k+1+(8-k)=9 by omega] at v
 exact λD h=>⟨by rw[v,u],h.frm⟩
 refine J10 ?_
 exact eW (k+1) W ⟨W,by show(if _ then _ else _)=_;rw[E9 W];exact Acp.1 a⟩
 refine J16 ?_
 refine zV ((JF U U U).f W) U<|J11 ?_
 refine eT1 ?_
 obtain rfl:k=9:=W
 exact λD h=>⟨by rw[z],h.frm⟩
theorem Or_c(w:Wd)(b:Nat)(x y:Int)(v:w.cell? ⟨b,0,none⟩=some (iI x))(z:w.cell? ⟨b,1,none⟩=some (iI y)):
 Cl 126 #[.slice (aG b) 2 2] w (RvF (iI (if x≠0 then x else y)) w):=by
 refine en0 func126 U ntmps126 U<|J19 ?_
 refine oLp (λk:Nat=>[(8,iI k),(7,iI 2),(6,.slice (aG b) 2 2),(3,iI 0)]) (λ_=>[]) (λk=>k<=2/\(1<=k->x=0)/\(2<=k->y=0)) (λk=>2-k) 0 ⟨Lv _,W,W⟩ ?_
 rintro k ⟨hk,f,i⟩
 have A:∀j,j<2->w.cell? ⟨b,0+j*1,none⟩=some (iI (if j=0 then x else y)):=(by
  intro j u
  match j,u with
  | 0,_=>exact v
  | 1,_=>exact z)
 refine J2 ?_
 refine JT (λr=>?_) λr=>?_
 refine J10 ?_
 refine zV (AA (lo:=k) U U U underlying34 AZ W W) U<|zV (An U U i3o.h (BY (λh=>h) (A k W))) U<|J7 ?_
 refine JT (λa=>?_) λa=>?_
 refine J15 ?_
 refine eT1 ?_
 have g:(if x≠0 then x else y)=(if k=0 then x else y):=(by
  by_cases e:k=0
  .rw [IR e] at a ⊢;rw[IR a]
  .rw [E9 e,E9 λq=>q (f W)])
 exact λB h=>⟨by rw[g],h.frm⟩
 refine J10 ?_
 exact eW (k+1) W ⟨W,λ_=>by by_cases e:k=0; (rw[IR e] at a;exact Acp.1 a);exact f W,λ_=>by rw[E9 W] at a;exact Acp.1 a⟩
 refine J16 ?_
 refine eT1 ?_
 exact λB h=>⟨by rw[f W,i W];rfl,h.frm⟩
def Pe(a b:Ac):Int:=if EF a.set b.set≠0 then EF a.set b.set else Ml a.val b.val 9
theorem ACmp_c(w:Wd)(a b:Ac):
 Cl 249 #[acV a,acV b] w (RvF (iI (Pe a b)) w):=by
 refine en0 func249 U ntmps249 U<|J2 ?_
 refine zx U U U U U<|λq g=>zx U U U U U<|λr j=>J4 ?_
 refine WC.AS mixed<|rF 7 [0,2,5,6,7,8]<|?_
 refine J3 ?_
 refine pV (ML U U underlying218 CF) U<|J1 ?_
 refine pV (ML U U underlying218 CF) U<|J1 ?_
 refine rA 3 [1,3,4,9] U<|J2 ?_
 refine qC CkO U (λw hS=>LY w a.set b.set)<|qC CkO U (λw hS=>SCmp_c w _ _ _ _ a.val b.val (λi f=>hS.cell (MT a f)) λi f=>hS.cell (MT b f))<|?_
 exact Gg

theorem Ah1{x y:Int}(a:x<=18446744073709551615)(b:y<=18446744073709551615):0<=QB x y/\QB x y<=18446744073709551615:=by
 unfold QB
 have h:=Nat.xor_lt_two_pow (x:=x.toNat) (y:=y.toNat) (n:=64) W W
 omega
structure Mt where
 val:Nat->Int
 mask:Nat->Int
def mtL(m:Mt):vL:=ucs m.val 9++ucs m.mask 9
def mtV(m:Mt):Vl:=.agg (mtL m).toArray
structure Mt.In(m:Mt):Prop where
 val:∀k,0<=m.val k/\m.val k<=18446744073709551615
 mask:∀k,0<=m.mask k/\m.mask k<=18446744073709551615
theorem Ic(m:Mt){k:Nat}(h:k<9):(mtL m)[0+k*1]?=some (.int .u64 (m.val k)):=by
 unfold mtL
 rw[show 0+k*1=k by omega,Ae9 (by rw[DJ];exact h),Hk _ h]
theorem G4(m:Mt){k:Nat}(h:k<9):(mtL m)[9+k*1]?=some (.int .u64 (m.mask k)):=by
 unfold mtL
 rw[show 9+k*1=9+k by omega,Ah8 F3,DJ,show 9+k-9=k by omega,Hk _ h]
theorem Lw{m:Mt}{x:Int}(h:A<9):(mtL m).set (0+A*1) (.int .u64 x)=mtL ⟨λi=>if i=A then x else m.val i,m.mask⟩:=by
 unfold mtL
 rw[show 0+A*1=A by omega,List.set_append_left _ _ (by rw[DJ];exact h),QU h]
theorem Mp{m:Mt}(h:A<9):(mtL m).set (9+A*1) (.int .u64 G)=mtL ⟨m.val,λi=>if i=A then G else m.mask i⟩:=by
 unfold mtL
 rw[show 9+A*1=9+A by omega,List.set_append_right _ _ F3,DJ,show 9+A-9=A by omega,QU h]
theorem IX(m:Mt):(mtL m).length=18:=by simp[mtL,DJ]
def Vf(k:Nat)(b a:Int):Prop:=FT a (BG k)=0/\FT b a=0
instance (k:Nat) (v m:Int):Decidable (Vf k v m):=by unfold Vf;infer_instance
theorem HZ(k:Nat):0<=BG k/\BG k<=18446744073709551615:=by have:=pow_wd k;unfold BG;omega
theorem V7(w:Wd)(k:Nat)(hk:k<9)(b a:Int)(r:0<=b/\b<=18446744073709551615)(i:0<=a/\a<=18446744073709551615)(v:GW w):
 Cl 252 #[iI k,.int .u64 b,.int .u64 a] w (RvF (.bool (decide (Vf k b a))) w):=by
 have j:=HZ k
 refine en0 func252 U ntmps252 U<|J9 ?_
 refine zk CkO U (λw z=>QZ w k hk (v.BI (λh=>h) z))<|zV (HO U U U (Gl i.1 i.2 j.1 j.2)) U<|?_
 refine JT (λf=>?_) λf=>?_
 refine J3 ?_
 refine zS (HO U U U (Gl r.1 r.2 i.1 i.2)) U<|JT (λg=>?_) (λg=>?_)
 refine J5 ?_
 refine eT1 ?_
 exact λu h=>⟨by rw[UV ⟨f,g⟩],h.frm⟩
 refine J5 ?_
 refine eT1 ?_
 exact λu h=>⟨by rw[Ro λq=>g q.2],h.frm⟩
 refine J10 ?_
 refine eT1 ?_
 exact λu h=>⟨by rw[Ro λq=>f q.1],h.frm⟩
theorem V6(w:Wd)(k:Nat)(hk:k<9):
 Cl 251 #[iI k] w (RvF (.bool true) w):=by
 refine en0 func251 U ntmps251 U ?_
 exact Cz
def Mt.one(k:Nat)(b a:Int):Mt:=⟨λi=>if i=k then b else 0,λi=>if i=k then a else 0⟩
theorem Ac2(w:Wd)(k:Nat)(hk:k<9)(b a:Int)(B:0<=b/\b<=18446744073709551615)(A:0<=a/\a<=18446744073709551615)(j:Vf k b a)(r:GW w):
 Cl 168 #[iI k,.int .u64 b,.int .u64 a] w (RvF (.tuple #[mtV (Mt.one k b a),iI 0]) w):=by
 refine en0 func168 U ntmps168 U<|J2 ?_
 refine zy U FR.h U U<|λf u=>J7 ?_
 refine zk CkO U (λw q=>V6 w k hk)<|J5 ?_
 refine zk CkO U (λw q=>(V7 w k hk b a B A (r.BI (λh=>h) q)).mono λ_ _ h=>⟨by rw[h.1,UV j],h.2⟩)<|J9 ?_
 refine zy U FR.h U U<|λg v=>J7 ?_
 refine zV (AG (lo:=k) U U U underlying218 CF W W) U<|WL.DX U U U U Gn.h (by show 0+k*1<18;omega) (.none U) U ?_
 refine WL.as (L':=[.row g (mtL ⟨λi=>if i=k then b else 0,λ_=>0⟩),.row f (mtL ⟨λ_=>0,λ_=>0⟩)]) (by
 have e:=Lw (m:=⟨λ_=>0,λ_=>0⟩) (x:=b) hk
 exact If (λz=>[Ent.row g z,Ent.row f (mtL ⟨λ_=>0,λ_=>0⟩)]) e) ?_
 refine J7 ?_
 refine zV (AG (lo:=k) U U U underlying218 CF W W) U<|WL.DX U U U U Gn.h Ek (.none U) U ?_
 refine WL.as (L':=[.row g (mtL (Mt.one k b a)),.row f (mtL ⟨λ_=>0,λ_=>0⟩)]) (by rw[Mp hk];rfl) ?_
 refine J10 ?_
 refine eT2 ?_
 exact fR
theorem N4(w:Wd)(k:Nat)(hk:k<9)(a:Int)(j:0<=a/\a<=18446744073709551615)(f:Vf k a (BG k))(g:GW w):
 Cl 322 #[iI k,.int .u64 a] w (RvF (.tuple #[mtV (Mt.one k a (BG k)),iI 0]) w):=by
 refine en0 func322 U ntmps322 U<|J2 ?_
 refine zy U FR.h U U<|λq i=>J8 ?_
 refine zk CkO U (λw b=>QZ w k hk (g.BI (λh=>h) b))<|zk CkO U (λw b=>Ac2 w k hk a (BG k) j (HZ k) f (g.BI (λh=>h) b))<|?_
 refine J7 ?_
 refine eT2 ?_
 exact fR
def Mt.RM(m:Mt)(H:Hd):Prop:=∀k,k<9->IB (QB (getF H k) (m.val k)) (m.mask k)=0
instance (m:Mt) (H:Hd):Decidable (m.RM H):=by unfold Mt.RM;infer_instance
def Ac.one(k:Nat)(a:Int):Ac:=⟨(2:Int)^k,λi=>if i=k then a else 0⟩
theorem AcI(w:Wd)(k:Nat)(hk:k<9)(a:Int)(_:0<=a)(v:a<=BG k)(j:GW w):
 Cl 97 #[iI k,.int .u64 a] w (RvF (.tuple #[acV (Ac.one k a),iI 0]) w):=by
 have z:(1:Int)<=2^k/\(2:Int)^k<=256:=by
  match k,hk with
  | 0,_|1,_|2,_|3,_|4,_|5,_|6,_|7,_|8,_=>decide
 refine en0 func97 U ntmps97 U<|J2 ?_
 refine zy U DY.h U U<|λb r=>J7 ?_
 refine zV ((JF U U U).f W) U<|J2 ?_
 refine zS ((SK U U U).f W) U<|J4 ?_
 refine zk CkO U (λw q=>QZ w k hk (j.BI (λh=>h) q))<|zS ((Abr U U U).f W) U<|J9 ?_
 refine zV (ND (m:=k) (c:=(2:Int)^k) U U U U F4 U ((If _ (Int.one_mul _)).trans (DK W W))) U ?_
 refine J1 ?_
 refine zy U DY.h U U<|λg u=>J1 ?_
 refine WL.as (L':=[.row g (acL ⟨(2:Int)^k,λ_=>0⟩),.row b (acL ⟨0,λ_=>0⟩)]) U<|J7 ?_
 refine zV (AG (lo:=k) U U U underlying218 CF W W) U<|WL.DX U U U U Gn.h (by show 1+k*1<(acL _).length;unfold acL;rw[Acg,DJ];omega) (.none U) U ?_
 refine WL.as (L':=[.row g (acL (Ac.one k a)),.row b (acL ⟨0,λ_=>0⟩)]) (by
 rw[show 1+k*1=k+1 by omega]
 unfold acL
 rw[List.set_cons_succ,QU hk]
 rfl) ?_
 refine J10 ?_
 refine eT2 ?_
 exact fR

inductive Nd where
 | mk (kind f val mask:Int) (ad:Option Addr) (cap:Nat) (kids:List Nd)
def Nd.kind:Nd->Int | .mk k _ _ _ _ _ _=>k
def Nd.f:Nd->Int | .mk _ f _ _ _ _ _=>f
def Nd.val:Nd->Int | .mk _ _ v _ _ _ _=>v
def Nd.mask:Nd->Int | .mk _ _ _ m _ _ _=>m
def Nd.ad:Nd->Option Addr | .mk _ _ _ _ a _ _=>a
def Nd.cap:Nd->Nat | .mk _ _ _ _ _ c _=>c
def Nd.kids:Nd->List Nd | .mk _ _ _ _ _ _ a=>a
def ndL(t:Nd):vL:=[iI t.kind,iI t.f,.int .u64 t.val,.int .u64 t.mask,.slice t.ad t.kids.length t.cap]
def ndV(t:Nd):Vl:=.agg (ndL t).toArray
mutual
def Nd.At(w:Wd):Nd->Prop
 | .mk _ _ _ _ ad _ a=>BA w ad 0 a
def BA(w:Wd)(ad:Option Addr):Nat->List Nd->Prop
 | _,[]=>True
 | i,t::a=>(∃b o,ad=some ⟨b,o,none⟩/\w.rangeAt b (o+i*5) (ndL t))/\t.At w/\BA w ad (i+1) a
end
mutual
def Nd.In:Nd->Prop
 | .mk k f v m _ _ a=>(-9223372036854775808<=k/\k<=9223372036854775807)/\(-9223372036854775808<=f/\f<=9223372036854775807)/\(0<=v/\v<=18446744073709551615)/\(0<=m/\m<=18446744073709551615)/\a.length<=9223372036854775807/\BU a
def BU:List Nd->Prop
 | []=>True
 | t::a=>t.In/\BU a
end
theorem BA.get{w:Wd}{ad:Option Addr}:∀(f:List Nd) (i j:Nat) (t:Nd),BA w ad i f->f[j]?=some t->(∃b o,ad=some ⟨b,o,none⟩/\w.rangeAt b (o+(i+j)*5) (ndL t))/\t.At w
 | [],_,_,_,_,h=>by simp at h
 | t::f,i,0,g,h,a=>by
  simp only[Ahl,Ahe] at a
  subst a
  unfold BA at h
  exact⟨h.1,h.2.1⟩
 | t::f,i,j+1,g,h,a=>by
  unfold BA at h
  rw[Ah7] at a
  have:=BA.get f (i+1) j g h.2.2 a
  rwa [show i+1+j=i+(j+1) by omega] at this
theorem BU.get:∀(b:List Nd) (j:Nat) (t:Nd),BU b->b[j]?=some t->t.In
 | [],_,_,_,h=>by simp at h
 | t::b,0,f,h,a=>by
  simp only[Ahl,Ahe] at a
  subst a
  unfold BU at h
  exact h.1
 | t::b,j+1,f,h,a=>by
  unfold BU at h
  rw[Ah7] at a
  exact BU.get b j f h.2 a
mutual
theorem Nd.At.BI{w g:Wd}(i:∀b o f,w.rangeAt b o f->g.rangeAt b o f):∀t:Nd,t.At w->t.At g
 | .mk _ _ _ _ ad _ a,h=>by unfold Nd.At at h ⊢;exact BA.BI i ad 0 a h
theorem BA.BI{w j:Wd}(f:∀b o g,w.rangeAt b o g->j.rangeAt b o g)(ad:Option Addr):∀(i:Nat) (a:List Nd),BA w ad i a->BA j ad i a
 | _,[],_=>by unfold BA;trivial
 | i,t::a,h=>by
  unfold BA at h ⊢
  obtain⟨⟨b,o,e,u⟩,q,r⟩:=h
  exact⟨⟨b,o,e,f _ _ _ u⟩,Nd.At.BI f t q,BA.BI f ad (i+1) a r⟩
end
theorem Nd.At.kids{w:Wd}{t:Nd}(h:t.At w):BA w t.ad 0 t.kids:=by cases t;unfold Nd.At at h;exact h
theorem Nd.In.kids{t:Nd}(h:t.In):BU t.kids:=by cases t;unfold Nd.In at h;exact h.2.2.2.2.2
theorem Nd.In.Nv{t:Nd}(h:t.In):(-9223372036854775808<=t.kind/\t.kind<=9223372036854775807)/\(-9223372036854775808<=t.f/\t.f<=9223372036854775807)/\(0<=t.val/\t.val<=18446744073709551615)/\(0<=t.mask/\t.mask<=18446744073709551615)/\t.kids.length<=9223372036854775807:=by
 cases t;unfold Nd.In at h;exact⟨h.1,h.2.1,h.2.2.1,h.2.2.2.1,h.2.2.2.2.1⟩
theorem Nd.At.kid{t u:Nd}(h:t.At B)(a:t.kids[A]?=some u):(∃b o,t.ad=some ⟨b,o,none⟩/\B.rangeAt b (o+A*5) (ndL u))/\u.At B:=by
 have:=h.kids.get _ 0 A u a
 rwa [PP] at this
/-! ### What is wrong with a node by itself -/
def Jk(f:Int):Prop:=0<=f/\f<9
instance (f:Int):Decidable (Jk f):=by unfold Jk;infer_instance
def P7(k:Int)(a:Bool):Bool:=if a then decide (1<=k/\k<=6) else decide (11<=k/\k<=17)
def IC(t:Nd):Int :=
 if t.kind=3 then(if ¬Jk t.f\/FT t.mask (BG t.f.toNat)≠0\/FT t.val t.mask≠0 then 1 else 0)
 else if t.kind=14 then(if ¬Jk t.f\/t.f=3\/t.f=6\/t.val > BG t.f.toNat then 1 else 0) else 0
def Lp(k:Int):Int:=if k=4\/k=13 then 1 else if k=17 then 3 else 0
def ON(k:Int):Int:=if k=4\/k=13 then 1 else if k=17 then 3 else if k=5\/k=6\/k=15\/k=16 then 64 else 0
def Kv(t:Nd):Int:=if (t.kids.length:Int)<Lp t.kind\/ON t.kind<t.kids.length then 2 else 0
def G9(k:Int)(a:Nat):Bool:=decide (k=4\/k=5\/k=6\/k=13\/k=17/\a=0)
theorem V8(w:Wd)(f:Int):
 Cl 316 #[iI f] w (RvF (.bool (decide (Jk f))) w):=by
 refine en0 func316 U ntmps316 U<|J8 ?_
 refine JT (λa=>?_) λa=>?_
 refine J2 ?_
 refine JT (λb=>?_) λb=>?_
 refine J5 ?_
 refine eT1 ?_
 exact λg h=>⟨by rw[UV (p:=Jk f) ⟨a,b⟩],h.frm⟩
 refine J5 ?_
 refine eT1 ?_
 exact λg h=>⟨by rw[Ro λq:Jk f=>b q.2],h.frm⟩
 refine J8 ?_
 refine eT1 ?_
 exact λg h=>⟨by rw[Ro λq:Jk f=>a q.1],h.frm⟩
theorem Fits_c(w:Wd)(k:Int)(a:Bool):
 Cl 242 #[iI k,.bool a] w (RvF (.bool (P7 k a)) w):=by
 refine en0 func242 U ntmps242 U<|J9 ?_
 cases a
 refine J8 ?_
 refine JT (λf=>?_) λf=>?_
 refine J2 ?_
 refine JT (λg=>?_) λg=>?_
 refine J5 ?_
 exact Ai
 refine J5 ?_
 exact Ai
 refine J8 ?_
 exact Ai
 refine J6 ?_
 refine JT (λi=>?_) λi=>?_
 refine J2 ?_
 refine JT (λb=>?_) λb=>?_
 refine J6 ?_
 exact Ai
 refine J6 ?_
 exact Ai
 refine J9 ?_
 exact Ai
theorem AbM(w:Wd)(t:Nd)(a:Nat):
 Cl 245 #[ndV t,iI a] w (RvF (.bool (G9 t.kind a)) w):=by
 refine en0 func245 U ntmps245 U<|J2 ?_
 refine zx U U U U U<|λu r=>J14 ?_
 refine JT (λj=>?_) λj=>?_
 refine J15 ?_
 exact Aq
 refine J6 ?_
 refine JT (λq=>?_) λq=>?_
 refine J15 ?_
 exact Aq
 refine J6 ?_
 refine JT (λb=>?_) λb=>?_
 refine J15 ?_
 exact Aq
 refine J5 ?_
 refine JT (λf=>?_) λf=>?_
 refine J12 ?_
 exact Aq
 refine J6 ?_
 refine JT (λg=>?_) λg=>?_
 refine J7 ?_
 refine JT (λi=>?_) λi=>?_
 refine J6 ?_
 exact Aq
 refine J6 ?_
 exact Aq
 refine J13 ?_
 exact Aq

theorem Form_c(w:Wd)(t:Nd)(D:t.In):
 Cl 244 #[ndV t] w (RvF (iI (Kv t)) w):=by
 have E:=D.Nv.2.2.2.2
 refine en0 func244 U ntmps244 U<|J2 ?_
 refine zx U U U U U<|λr B=>J9 ?_
 refine WC.cut (λx:Int×Int=>[(3,iI x.1),(4,iI x.2),(1,pG r)]) (λ_=>[.row r (ndL t)]) (λx=>x.1=Lp t.kind/\x.2=ON t.kind) ?_ ?_
 refine J10 ?_
 refine JT (λz=>?_) λz=>?_
 refine J12 ?_
 exact Ch
 refine J5 ?_
 refine JT (λA=>?_) λA=>?_
 refine J9 ?_
 exact Ch
 refine J6 ?_
 refine JT (λa=>?_) λa=>?_
 refine J9 ?_
 exact eM (3,3) ⟨by unfold Lp;rw[E9 W,IR W],by unfold ON;rw[E9 W,IR W]⟩
 refine J7 ?_
 refine JT (λb=>?_) λb=>?_
 refine J11 ?_
 exact Az
 refine J6 ?_
 refine JT (λf=>?_) λf=>?_
 refine J11 ?_
 exact Az
 refine J6 ?_
 refine JT (λg=>?_) λg=>?_
 refine J11 ?_
 exact Az
 refine J5 ?_
 refine JT (λi=>?_) λi=>?_
 refine J8 ?_
 exact Az
 refine J6 ?_
 exact eM (0,0) ⟨by unfold Lp;rw[E9 W,E9 W],by unfold ON;rw[E9 W,E9 W,E9 W]⟩
 rintro⟨F,G⟩ ⟨u,v⟩
 dsimp only at u v⊢
 refine J7 ?_
 refine JT (λj=>?_) λj=>?_
 refine J17 ?_
 exact Be
 refine J5 ?_
 refine JT (λq=>?_) λq=>?_
 refine J11 ?_
 exact Be
 refine J12 ?_
 exact Be
theorem Jk.nat(h:Jk G):∃k:Nat,G=k/\k<9/\G.toNat=k:=⟨G.toNat,by have:=h.1;omega,by have:=h.2;omega,rfl⟩
theorem Argu_c(w:Wd)(t:Nd)(N:t.In)(F:GW w):
 Cl 243 #[ndV t] w (RvF (iI (IC t)) w):=by
 obtain⟨_,_,J,G,_⟩:=N.Nv
 have E:=HZ t.f.toNat
 have r:∀w,GW w->Jk t.f->Cl 171 #[iI t.f] w (RvF (.int .u64 (BG t.f.toNat)) w):=λw F h=>by
  obtain⟨k,e,hk,K⟩:=h.nat
  rw[K,e]
  exact QZ w k hk F
 refine en0 func243 U ntmps243 U<|J2 ?_
 refine zx U U U U U<|λO M=>J13 ?_
 refine JT (λg=>?_) λg=>?_
 refine J5 ?_
 refine cQ mixed<|J2 ?_
 refine qC CkO U (λw u=>V8 w t.f) ?_
 generalize i:decide (Jk t.f)=H
 cases H
 refine J29 ?_
 refine eT1 ?_
 exact λj h=>⟨by unfold IC;rw[IR g,IR (.inl (Aep i))],h.frm⟩
 refine J6 ?_
 refine WQ.call _ U U CkO (.some U U U) U U (λw u=>Calls.still (r w (F.BI (λh=>h) u) (Ai8 i)) u)<|WQ.val (HO U U U (Gl G.1 G.2 E.1 E.2)) (.some U U U) U U<|?_
 refine JT (λv=>?_) λv=>?_
 refine J20 ?_
 refine eT1 ?_
 exact λj h=>⟨by unfold IC;rw[IR g,IR (.inr (.inl v))],h.frm⟩
 refine J6 ?_
 refine WQ.val (HO U U U (Gl J.1 J.2 G.1 G.2)) (.some U U U) U U<|JT (λz=>?_) (λz=>?_)
 refine J12 ?_
 refine eT1 ?_
 exact λj h=>⟨by unfold IC;rw[IR g,IR (.inr (.inr z))],h.frm⟩
 refine J13 ?_
 refine eT1 ?_
 have i:=Ai8 i
 exact λj h=>⟨by unfold IC;rw[IR g,E9 λq=>by rcases q with q|q|q<;>contradiction],h.frm⟩
 refine J6 ?_
 refine JT (λa=>?_) λa=>?_
 refine J5 ?_
 refine cQ mixed<|J2 ?_
 refine qC CkO U (λw u=>V8 w t.f) ?_
 generalize b:decide (Jk t.f)=H
 cases H
 refine J30 ?_
 refine eT1 ?_
 exact λj h=>⟨by unfold IC;rw[E9 g,IR a,IR (.inl (Aep b))],h.frm⟩
 refine J4 ?_
 refine JT (λA=>?_) λA=>?_
 refine J25 ?_
 refine eT1 ?_
 exact λj h=>⟨by unfold IC;rw[E9 g,IR a,IR (.inr (.inl A))],h.frm⟩
 refine J4 ?_
 refine JT (λB=>?_) λB=>?_
 refine J20 ?_
 refine eT1 ?_
 exact λj h=>⟨by unfold IC;rw[E9 g,IR a,IR (.inr (.inr (.inl B)))],h.frm⟩
 refine J6 ?_
 refine WQ.call _ U U CkO (.some U U U) U U (λw u=>Calls.still (r w (F.BI (λh=>h) u) (Ai8 b)) u)<|JT (λD=>?_) (λD=>?_)
 refine J12 ?_
 refine eT1 ?_
 exact λj h=>⟨by unfold IC;rw[E9 g,IR a,IR (.inr (.inr (.inr D)))],h.frm⟩
 refine J13 ?_
 refine eT1 ?_
 have b:=Ai8 b
 exact λj h=>⟨by unfold IC;rw[E9 g,IR a,E9 λq=>by rcases q with q|q|q|q<;>contradiction],h.frm⟩
 refine J13 ?_
 refine eT1 ?_
 exact λj h=>⟨by unfold IC;rw[E9 g,E9 a],h.frm⟩

mutual
def CL:Nd->Int->Bool->Int->Int×Int
 | .mk k f v m a c b,g,h,n =>
  if 16<g\/64<n+1 then(34,n+1)
  else if P7 k h=false then(12,n+1)
  else if IC (.mk k f v m a c b)≠0 then(IC (.mk k f v m a c b),n+1)
  else if Kv (.mk k f v m a c b)≠0 then(Kv (.mk k f v m a c b),n+1)
  else DN k 0 b (g+1) (n+1)
def DN(k:Int):Nat->List Nd->Int->Int->Int×Int
 | _,[],_,n=>(0,n)
 | i,t::b,a,n=>if (CL t a (G9 k i) n).1≠0 then CL t a (G9 k i) n else DN k (i+1) b a (CL t a (G9 k i) n).2
end
theorem Gt(t:Nd)(a:Int)(b:Bool)(n:Int):CL t a b n =
 if 16<a\/64<n+1 then(34,n+1) else if P7 t.kind b=false then(12,n+1) else if IC t≠0 then(IC t,n+1) else if Kv t≠0 then(Kv t,n+1) else DN t.kind 0 t.kids (a+1) (n+1):=by
 cases t;rw[CL];rfl
mutual
theorem SP:∀(t:Nd) (b:Int) (g:Bool) (n:Int),0<=n->(CL t b g n).1=0->n<=(CL t b g n).2/\(CL t b g n).2<=64
 | .mk k f v m a c j,b,g,n,z,i=>by
  rw[CL] at i ⊢
  split at i
  .cases i
  .split at i
   .cases i
   .split at i
    .rename_i h;exact absurd i h
    .split at i
     .rename_i h;exact absurd i h
     .rename_i q r u w
      rw[E9 q,E9 r,E9 u,E9 w]
      have:=Un k 0 j (b+1) (n+1) W W i
      omega
theorem Un(k:Int):∀(i:Nat) (g:List Nd) (f n:Int),0<=n->n<=64->(DN k i g f n).1=0->n<=(DN k i g f n).2/\(DN k i g f n).2<=64
 | _,[],_,n,_,q,_=>by rw[DN];exact⟨AgP _,q⟩
 | i,t::g,f,n,r,q,j=>by
  rw[DN] at j ⊢
  split at j
  .rename_i h;exact absurd j h
  .rename_i h
   rw[E9 h]
   have a:=SP t f (G9 k i) n r (Acp.1 h)
   have b:=Un k (i+1) g f _ W a.2 j
   omega
end
theorem Nd.Xe{t u:Nd}(h:t.kids[A]?=some u):SizeOf.sizeOf u<SizeOf.sizeOf t:=by
 cases t with
 | mk k f v m a c b =>
  have g:=List.sizeOf_lt_of_mem (Do h)
  show SizeOf.sizeOf u<SizeOf.sizeOf (Nd.mk k f v m a c b)
  simp only[Nd.mk.sizeOf_spec]
  have:SizeOf.sizeOf (Nd.mk k f v m a c b).kids=SizeOf.sizeOf b:=rfl
  omega
theorem Nd.At.Kz{t u:Nd}{o:Nat}(h:t.At B)(i:t.kids[A]?=some u)(e:t.ad=some ⟨D,o,none⟩):B.rangeAt D (o+A*5) (ndL u):=by
 obtain⟨⟨j,q,a,g⟩,_⟩:=h.kid i
 rw[e] at a
 injection a with a
 injection a with b f
 subst b f
 exact g
theorem St.AfB{a b c d:Ent}(h:St E B H (a::b::c::d::F)):St E B H (c::d::a::b::F) :=
 h.perm ((List.perm_append_comm (l₁:=[c,d]) (l₂:=[a,b])).append_right F)
def ckF(a b:Nat):Vl:=.func (.func 241) #[] #[pG a,pG b]
theorem Chk1_c(p:Nat->Prop)(hp:∀b, ¬p b)(w0:Wd)(hG:GW w0)(v z:Nat):∀(N:Nat) (t:Nd),SizeOf.sizeOf t<=N->∀(L:eL) (w:Wd) (a:Int) (f:Bool) (n:Int),t.In->(∀w,St p w0 w L->t.At w)->0<=n->n<=64->1<=a->a<=17 ->
 St p w0 w (.row v [iI n]::.row z [ckF v z]::L) ->
 Cl 241 #[ndV t,iI a,.bool f,pG v,pG z] w
  λe w'=>e=.returned (iI (CL t a f n).1)/\St p w0 w' (.row v [iI (CL t a f n).2]::.row z [ckF v z]::L):=by
 intro N
 induction N with
 | zero=>intro t Z;cases t;simp only[Nd.mk.sizeOf_spec] at Z;omega
 | succ N ih =>
  intro t Z L w a f n M r hn0 hn1 hd0 hd1 B
  have ab:=M.Nv.2.2.2.2
  refine enter func241 U ntmps241 U B<|J2 ?_
  refine zx U U U U U<|λR hg5=>J14 ?_
  refine JT (λE=>?_) λE=>?_
  refine J14 ?_
  refine eT1 ?_
  exact λw' h=>⟨by rw[Gt,IR (.inl E)],by rw[Gt,IR (.inl E)];exact h.tail⟩
  refine J2 ?_
  refine JT (λF=>?_) λF=>?_
  refine J11 ?_
  refine eT1 ?_
  exact λw' h=>⟨by rw[Gt,IR (.inr F)],by rw[Gt,IR (.inr F)];exact h.tail⟩
  refine J12 ?_
  refine zk CkO U (λw B=>Fits_c w t.kind f) ?_
  generalize hb25:P7 t.kind f=bb
  cases bb
  refine J11 ?_
  refine eT1 ?_
  have e:=Gt t a f n
  rw[E9 W,IR hb25] at e
  exact Bs
  refine J10 ?_
  refine zk CkO U (λw B=>Argu_c w t M (hG.BI (hp _) B))<|J6 ?_
  refine JT (λg=>?_) λg=>?_
  refine J11 ?_
  refine eT1 ?_
  have e:=Gt t a f n
  rw[E9 W,E9 F6,IR g] at e
  exact Bs
  refine J9 ?_
  refine zk CkO U (λw B=>Form_c w t M)<|J6 ?_
  refine JT (λj=>?_) λj=>?_
  refine J11 ?_
  refine eT1 ?_
  have e:=Gt t a f n
  rw[E9 W,E9 F6,E9 g,IR j] at e
  exact Bs
  refine J15 ?_
  refine oLp (λx:Nat×Int=>[(40,iI x.1),(39,iI t.kids.length),(38,.slice t.ad t.kids.length t.cap),(1,iI a),(3,pG v),(4,pG z),(5,pG R)]) (λx=>.row R (ndL t)::.row v [iI x.2]::.row z [ckF v z]::L) (λx=>x.1<=t.kids.length/\DN t.kind x.1 (t.kids.drop x.1) (a+1) x.2=DN t.kind 0 t.kids (a+1) (n+1)/\0<=x.2/\x.2<=64) (λx=>t.kids.length-x.1) (0,n+1) ⟨Lv _,rfl,C7,C7⟩ ?_
  rintro⟨k,c⟩ ⟨hk,D,H,K⟩
  dsimp only at hk D H K⊢
  refine J2 ?_
  refine JT (λS=>?_) λS=>?_
  refine J11 ?_
  obtain⟨u,J⟩:∃u,t.kids[k]?=some u:=Gx
  obtain⟨b,o,ea,_⟩:=((by first|exact r _ B.tail.tail.tail|exact r _ B.tail.tail:t.At _).kid J).1
  have X:t.kids.drop k=u::t.kids.drop (k+1):=(by
   rw[List.drop_eq_getElem_cons (show k<t.kids.length by omega)]
   congr 1
   rw[FS (show k<t.kids.length by omega)] at J
   exact Ade J)
  rw[X,DN] at D
  refine zV (AA (b:=b) (off:=o) (lo:=k) U Db U underlying24 FF U W) U ?_
  refine zV (AB (cs:=ndL u) U U H5.h U λw' i=>(r w' i.tail.tail.tail).Kz J ea) U<|zy U Nu.h U U<|?_
  intro O aa
  refine J5 ?_
  refine WC.AS mixed<|rF 6 [2,3,5]<|?_
  refine J4 ?_
  refine rA 2 [0,1,4,6] U<|J3 ?_
  refine qC CkO U (λw B=>AbM w t k)<|J1 ?_
  refine rO 1 [7]<|WL.FQ U U U CkO (.none U) U U<|?_
  intro w1 T
  refine(ih u (by have:=Nd.Xe J;omega) (.row O (ndL u)::.row R (ndL t)::L) w1 (a+1) (G9 t.kind k) c (M.kids.get _ _ _ J) (λw' i=>((r w' i.tail.tail).kid J).2) H K W W T.AfB).mono ?_
  rintro e w' ⟨rfl,i⟩
  refine⟨_,_,rfl,i.AfB,?_⟩
  refine J1 ?_
  refine rF 0 [8]<|J7 ?_
  refine JT (λG=>?_) λG=>?_
  refine J15 ?_
  refine eT1 ?_
  have e:=Gt t a f n
  rw[IR G] at D
  rw[E9 W,E9 F6,E9 g,E9 j, <- D] at e
  exact λw' h=>⟨by rw[e],by rw[e];exact h.tail.tail⟩
  refine J10 ?_
  have A:=Acp.1 G
  rw[E9 λq=>q A] at D
  have hle:=SP u (a+1) (G9 t.kind k) c H A
  exact eW (k+1,(CL u (a+1) (G9 t.kind k) c).2) C7 ⟨C7,D,C7,C7⟩
  refine J15 ?_
  refine eT1 ?_
  obtain rfl:k=t.kids.length:=W
  have e:=Gt t a f n
  rw[Ah9,DN] at D
  rw[E9 W,E9 F6,E9 g,E9 j, <- D] at e
  exact Bs

theorem St.range(i:∀b, ¬E b)(f:St E B H F)(b o:Nat)(a:vL)(h:B.rangeAt b o a):H.rangeAt b o a:=λj v g=>f.old (i b) (h j v g)
theorem Nd.At.st{t:Nd}(f:∀b, ¬E b)(h:t.At B)(a:St E B H F):t.At H:=Nd.At.BI (a.range f) t h
theorem AgQ(w:Wd)(t:Nd)(a:Bool)(u:t.In)(q:t.At w)(r:GW w):
 Cl 163 #[ndV t,.bool a] w (RvF (iI (CL t 1 a 0).1) w):=by
 refine en0 func163 U ntmps163 U<|J2 ?_
 refine zx U U U U U<|λg v=>J5 ?_
 refine zy U G0 U U<|λi z=>J5 ?_
 refine zy U Agb U U<|λj A=>J4 ?_
 refine zV (GO U U U) U<|J8 ?_
 refine WL.FQ U U U CkO (.none U) U U<|λD f=>(Chk1_c Fx (λ_ h=>h) w r i j _ t (M2 _) [.row g (ndL t)] D 1 a 0 u (λB b=>q.st (λ_ h=>h) b) W W W W (f.perm (List.Perm.swap _ _ _))).mono ?_
 rintro e B ⟨rfl,b⟩
 refine⟨_,_,rfl,b,?_⟩
 exact Cx
theorem Agh(w:Wd)(t:Nd)(g:t.In)(b:t.At w)(f:GW w):
 Cl 86 #[ndV t] w (RvF (iI (CL t 1 false 0).1) w):=by
 refine en0 func86 U ntmps86 U<|J2 ?_
 refine zx U U U U U<|λj i=>J6 ?_
 refine zk CkO U (λw a=>AgQ w t false g (b.st (λ_ h=>h) a) (f.BI (λh=>h) a)) ?_
 exact Cx

theorem DW{a:vL}(g:¬E A)(h:B.rangeAt A D a):∀w,St E B w F->w.rangeAt A D a:=λ_ b j v f=>b.old g (h j v f)
structure Ru where
 m:Mt
 ad:Option Addr
 n:Nat
 c:Nat
def ruL(r:Ru):vL:=mtL r.m++[.slice r.ad r.n r.c]
theorem Afl(r:Ru):(ruL r)[18]?=some (.slice r.ad r.n r.c):=by
 unfold ruL
 rw[Ah8 Ek,IX];rfl
theorem Ub(r:Ru):seg (ruL r) 0 18=mtL r.m:=by
 unfold seg ruL
 rw[AeP,List.take_left' (IX _)]
theorem AhP(r:Ru):(ruL r).length=19:=by simp[ruL,IX]
/-! ### A sort of one at most, and what stands beside it -/

mutual
def okT:Bool->Nd->Prop
 | g,.mk k f v m a c b=>P7 k g=true/\IC (.mk k f v m a c b)=0/\Kv (.mk k f v m a c b)=0/\Sl k 0 b
def Sl(k:Int):Nat->List Nd->Prop
 | _,[]=>True
 | i,t::a=>okT (G9 k i) t/\Sl k (i+1) a
end
theorem okT.parts{t:Nd}{a:Bool}(h:okT a t):P7 t.kind a=true/\IC t=0/\Kv t=0/\Sl t.kind 0 t.kids:=by
 cases t;unfold okT at h;exact h
theorem Sl.get{k:Int}:∀(b:List Nd) (i j:Nat) (t:Nd),Sl k i b->b[j]?=some t->okT (G9 k (i+j)) t
 | [],_,_,_,_,h=>by simp at h
 | t::b,i,0,f,h,a=>by
  simp only[Ahl,Ahe] at a
  subst a
  unfold Sl at h
  exact h.1
 | t::b,i,j+1,f,h,a=>by
  unfold Sl at h
  rw[Ah7] at a
  have:=Sl.get b (i+1) j f h.2 a
  rwa [show i+1+j=i+(j+1) by omega] at this
theorem okT.kid{t u:Nd}{a:Bool}(h:okT a t)(b:t.kids[A]?=some u):okT (G9 t.kind A) u:=by
 have:=h.parts.2.2.2.get _ 0 A u b
 rwa [PP] at this
mutual
theorem MM:∀(t:Nd) (b:Int) (g:Bool) (n:Int),(CL t b g n).1=0->okT g t
 | .mk k f v m a c j,b,g,n,i=>by
  rw[CL] at i
  split at i
  .cases i
  .split at i
   .cases i
   .split at i
    .rename_i h;exact absurd i h
    .split at i
     .rename_i h;exact absurd i h
     .rename_i w q r u
      unfold okT
      exact⟨by simpa using q,Acp.1 r,Acp.1 u,Uo k 0 j (b+1) (n+1) i⟩
theorem Uo(k:Int):∀(i:Nat) (f:List Nd) (a n:Int),(DN k i f a n).1=0->Sl k i f
 | _,[],_,_,_=>by unfold Sl;trivial
 | i,t::f,a,n,b=>by
  rw[DN] at b
  split at b
  .rename_i h;exact absurd b h
  .rename_i h
   unfold Sl
   exact⟨MM t a (G9 k i) n (Acp.1 h),Uo k (i+1) f a _ b⟩
end
mutual
def holdsT(H:Hd):Nd->Bool
 | .mk k f v m _ _ a=>if k=1 then true else if k=3 then decide (IB (QB (getF H f.toNat) v) m=0) else if k=4 then !(M9 H a).getD 0 false else if k=5 then(M9 H a).all id else if k=6 then(M9 H a).any id else false
def M9(H:Hd):List Nd->List Bool
 | []=>[]
 | t::a=>holdsT H t::M9 H a
end

theorem Frm.range{w f:Wd}(g:Frm Fx w f)(b o:Nat)(a:vL)(h:w.rangeAt b o a):f.rangeAt b o a:=((St.start Fx w).ext g).range (λ_ h=>h) b o a h
theorem WW{t:Nd}(h:Kv t=0):Lp t.kind<=t.kids.length/\(t.kids.length:Int)<=ON t.kind:=by
 unfold Kv at h
 split at h
 .cases h
 .omega

def hdsL(a:List Hd):vL:=a.flatMap hdL
def outs(a:Nat->Ac)(H:Hd)(k:Nat):List Hd:=(List.range k).map λi=>appK (a i) H 9
def mt0:Mt:=⟨λ_=>0,λ_=>0⟩
def h80:Hd:={ Hd.zero with dp:=80 }
theorem Hd.QW:Hd.zero.In:=by constructor<;>(try intro k)<;>first|decide|exact⟨AgP _,(by decide:(0:Int)<=255)⟩

def Hd.same(A B:Hd):Prop:=A.port=B.port/\(∀i,i<6->A.src i=B.src i)/\(∀i,i<6->A.dst i=B.dst i)/\A.ty=B.ty/\A.sip=B.sip/\A.dip=B.dip/\A.OX=B.OX/\A.sp=B.sp/\A.dp=B.dp
instance (A B:Hd):Decidable (A.same B):=by unfold Hd.same;infer_instance
theorem hdL_len(H:Hd):(hdL H).length=19:=rfl
def HdsAt(w:Wd)(ad:Option Addr)(a:List Hd):Prop:=∀(i:Nat) (H:Hd),a[i]?=some H->∃b o,ad=some ⟨b,o,none⟩/\w.rangeAt b (o+i*19) (hdL H)
def inHs(a:List Hd)(H:Hd):Bool:=a.any λx=>decide (H.same x)
def QL(a:List Hd):List Hd->Option (List Hd)
 | []=>some a
 | h::b=>if inHs a h then QL a b else if a.length=64 then none else QL (a++[h]) b

def HdsPost(p:Nat->Prop)(w0:Wd)(L:eL)(o:Option (List Hd))(e:Ending)(f:Wd):Prop :=
 ∃a ad c E b,e=.returned (.tuple #[.slice ad (List.length a) c,.bool b])/\Vec 19 ad (List.length a) c (hdsL a) E/\St p w0 f (E++L)/\((b=true/\o=some a)\/(b=false/\o=none/\a=[]/\ad=none/\c=0))
end Gq

/-! ### Two acts as one -/
/-! ### The order of acts -/

def Abe(f:Hd->Option (List Hd)):List Hd->List Hd->Option (List Hd)
 | [],a=>some a
 | g::i,a=>(f g).bind λh=>(QL a h).bind λb=>Abe f i b
mutual
def runT:Nd->Hd->Option (List Hd)
 | .mk k f v _ _ _ a,H =>
  if k=12 then some [H]
  else if k=13 then(if (M9 H a).getD 0 false then some [H] else some [])
  else if k=14 then some [wthF f.toNat v H]
  else if k=15 then parKs a H []
  else if k=16 then seqKs a [H]
  else if k=17 then(if (M9 H a).getD 0 false then AeX a 1 H else AeX a 2 H)
  else some []
def parKs:List Nd->Hd->List Hd->Option (List Hd)
 | [],_,a=>some a
 | t::g,H,a=>(runT t H).bind λf=>(QL a f).bind λb=>parKs g H b
def seqKs:List Nd->List Hd->Option (List Hd)
 | [],a=>some a
 | t::b,a=>(Abe (λg=>runT t g) a []).bind λnext=>seqKs b next
def AeX:List Nd->Nat->Hd->Option (List Hd)
 | [],_,_=>none
 | t::_,0,H=>runT t H
 | _::a,i+1,H=>AeX a i H
end
structure Good(Rs:List Hd):Prop where
 len:Rs.length<=64
 all:∀x∈Rs,x.In
theorem Adz{t:Nd}(h:IC t=0)(hk:t.kind=14):∃q:Nat,t.f=q/\q<9/\t.f.toNat=q/\t.val<=BG q:=by
 unfold IC at h
 rw[E9 W,IR hk] at h
 split at h
 .cases h
 .rename_i b
  obtain⟨q,e,g,a⟩:=Jk.nat (Acp.1 λk=>b (.inl k))
  refine⟨q,e,g,a,?_⟩
  rw[<- a]
  exact Int.not_lt.1 λk=>b (.inr (.inr (.inr k)))
section Gq
attribute [local irreducible] WL WC WE WQ WP WH WR WM WRH

theorem Nd.Jm{t u:Nd}(a:SizeOf.sizeOf t<=D+1)(h:t.kids[A]?=some u):SizeOf.sizeOf u<=D:=by
 have:=Nd.Xe h;omega
theorem drop_cons{α:Type}{a:List α}{u:α}(b:a[A]?=some u):a.drop A=u::a.drop (A+1):=by
 obtain⟨hk,e⟩:=Eu.1 b
 rw[List.drop_eq_getElem_cons hk,e]

end Gq
end Go.Proofs.YtmhahajadgkolaaGreatDoor
namespace Go.Proofs.YtmhahajadgkolaaGreatDoor
open Go.RowKit Go.Sort Tryz

/-! ### The order -/
abbrev HdI:={ H:Hd // H.In }
instance:Inhabited HdI:=⟨⟨Hd.zero,Hd.QW⟩⟩
/-! ### Worlds -/
end Go.Proofs.YtmhahajadgkolaaGreatDoor
namespace Go.Proofs.YtmhahajadgkolaaGreatDoor
open Go.RowKit Go.Shelf Tryz

end Go.Proofs.YtmhahajadgkolaaGreatDoor
namespace Go.Proofs.YtmhahajadgkolaaGreatDoor
open Go.RowKit Go.Sort Tryz

def Asc(a:List Hd):Prop:=∀(i j:Nat) (A B:Hd),a[i]?=some A->a[j]?=some B->i<j->¬Aay B A 9<0
end Go.Proofs.YtmhahajadgkolaaGreatDoor
namespace Go.Proofs.YtmhahajadgkolaaGreatDoor
open Go.RowKit Tryz
variable{A E:Nat}{B:Option Addr}{D:World}
section Gq
attribute [local irreducible] WL WC WE WQ WP WH WR WM WRH

def RunIs(t:Nd)(H:Hd)(a:List Hd)(er:Int):Prop :=
 if (CL t 1 false 0).1≠0 then er=(CL t 1 false 0).1/\a=[]
 else if H.okB=false then er=1/\a=[]
 else match runT t H with
  | none=>er=34/\a=[]
  | some b=>er=0/\a.Perm b/\Asc a
end Gq

theorem Nd.In_mk{k f v m:Int}{a:List Nd}(hk : -9223372036854775808<=k/\k<=9223372036854775807)(g : -9223372036854775808<=f/\f<=9223372036854775807)(j:0<=v/\v<=18446744073709551615)(i:0<=m/\m<=18446744073709551615)(h:a.length<=9223372036854775807)(b:BU a):(Nd.mk k f v m B A a).In:=by
 unfold Nd.In;exact⟨hk,g,j,i,h,b⟩
theorem BU.nil:BU []:=by unfold BU;trivial

abbrev Ky:=Nat->Int
mutual
def holdsG(h:Ky):Nd->Bool
 | .mk k f v m _ _ a=>if k=1 then true else if k=3 then decide (IB (QB (h f.toNat) v) m=0) else if k=4 then !(M8 h a).getD 0 false else if k=5 then(M8 h a).all id else if k=6 then(M8 h a).any id else false
def M8(h:Ky):List Nd->List Bool
 | []=>[]
 | t::a=>holdsG h t::M8 h a
end
def updK(k:Nat)(v:Int)(h:Ky):Ky:=λj=>if j=k then v else h j
mutual
def OutT:Nd->Ky->Ky->Prop
 | .mk k f v _ _ _ a,h,g =>
  if k=12 then g=h
  else if k=13 then(M8 h a).getD 0 false=true/\g=h
  else if k=14 then g=updK f.toNat v h
  else if k=15 then Ac8 a h g
  else if k=16 then Ac9 a h g
  else if k=17 then(if (M8 h a).getD 0 false then Yq a 1 h g else Yq a 2 h g)
  else False
def Ac8:List Nd->Ky->Ky->Prop
 | [],_,_=>False
 | t::a,h,g=>OutT t h g\/Ac8 a h g
def Ac9:List Nd->Ky->Ky->Prop
 | [],h,g=>g=h
 | t::a,h,g=>∃m,OutT t h m/\Ac9 a m g
def Yq:List Nd->Nat->Ky->Ky->Prop
 | [],_,_,_=>False
 | t::_,0,h,g=>OutT t h g
 | _::a,i+1,h,g=>Yq a i h g
end
/-! ### Headers that are right -/
structure Hd.Rt(H:Hd):Prop where
 isIn:H.In
 ok:H.okB=true
/-! ### Lists of headers -/
def inK(a:List Hd)(g:Ky):Prop:=∃x∈a,getF x=g
structure Once(Rs:List Hd):Prop where
 all:∀x∈Rs,x.Rt
 nd:(Rs.map getF).Nodup
/-! ### Sorted lists -/
def ltK(f g:Ky):Prop:=Ml f g 9<0

structure Cm{α:Type}(c:α->α->Int):Prop where
 refl:∀a,c a a=0
 sgn:∀a b,0<c a b<->c b a<0
 tr:∀a b d,c a b<=0->c b d<=0->c a d<=0
section
variable {α β:Type}{c d:α->α->Int}
theorem Cm.zero(h:Cm c){a b:α}(e:c a b=0):c b a=0:=by have:=h.sgn a b;have:=h.sgn b a;omega
theorem Cm.AeL(h:Cm c){a b e:α}(g:c a b<0)(f:c b e<=0):c a e<0:=by
 have:=h.tr a b e W f
 have:=h.sgn b a;have:=h.sgn e a;have:=h.sgn a e
 have:c e a<=0->c b a<=0:=h.tr b e a f
 omega
theorem Cm.AeD(h:Cm c){a b e:α}(f:c a b<=0)(g:c b e<0):c a e<0:=by
 have:=h.tr a b e f W
 have:=h.sgn e b;have:=h.sgn e a;have:=h.sgn a e
 have:c e a<=0->c e b<=0:=λk=>h.tr e a b k f
 omega
theorem Cm.lex(f:Cm c)(j:Cm d):Cm (λa b=>if c a b≠0 then c a b else d a b):=by
 refine⟨λa=>by rw[E9 (by rw[f.refl];omega),j.refl],λa b=>?_,λa b e g i=>?_⟩
 .have u:=f.sgn a b;have F:=f.sgn b a;have v:=j.sgn a b
  by_cases h:c a b=0
  .rw [E9 W,E9 W];exact v
  .rw [IR h,IR W];exact u
 .have q:c a b<=0:=by split at g<;>omega
  have r:c b e<=0:=by split at i<;>omega
  by_cases w:c a b=0
  .by_cases z:c b e=0
   .rw [E9 W] at g i
    have A:=f.tr a b e q r
    have B:=f.tr e b a (by have:=f.zero z;omega) (by have:=f.zero w;omega)
    have D:=f.sgn a e;have E:=f.sgn e a
    rw[E9 W]
    exact j.tr a b e g i
   .have:=f.AeD q (show c b e<0 by omega)
    rw[IR W];omega
  .have:=f.AeL (show c a b<0 by omega) r
   rw[IR W];omega
theorem Cm.on(f:β->α)(h:Cm c):Cm (λa b=>c (f a) (f b)):=⟨λ_=>h.refl _,λ_ _=>h.sgn _ _,λ_ _ _=>h.tr _ _ _⟩
theorem Cm.flip(h:Cm c):Cm (λa b=>c b a):=⟨λ_=>h.refl _,λ_ _=>h.sgn _ _,λ_ _ _ f g=>h.tr _ _ _ g f⟩
theorem Cm.triv:Cm (λ(_ _:α)=>0):=⟨λ_=>rfl,λ_ _=>by omega,λ_ _ _ _ _=>by omega⟩
theorem Qk(h:Cm c):∀(l m:List α),l.Pairwise (λa b=>c a b<0)->m.Pairwise (λa b=>c a b<0)->(∀x,x∈l<->x∈m)->l=m
 | [],[],_,_,_=>rfl
 | [],y::m,_,_,f=>absurd ((f y).2 (Fr ..)) C9
 | x::l,[],_,_,f=>absurd ((f x).1 (Fr ..)) C9
 | x::l,y::m,q,r,f=>by
  rw[List.pairwise_cons] at q r
  have j:∀z, ¬c z z<0:=λz=>by have:=h.refl z;omega
  have e:x=y:=by
   rcases Rl.1 ((f x).1 (Fr ..)) with e|u
   .exact e
   .rcases Rl.1 ((f y).2 (Fr ..)) with e|v
    .exact e.symm
    .have w:=r.1 x u;have A:=q.1 y v;have:=h.sgn x y;omega
  subst e
  refine If (x :: ·) (Qk h l m q.2 r.2 λz=>⟨λi=>?_,λi=>?_⟩)
  .rcases Rl.1 ((f z).1 (EQ _ i)) with e|g
   .subst e;exact absurd (q.1 z i) (j z)
   .exact g
  .rcases Rl.1 ((f z).2 (EQ _ i)) with e|g
   .subst e;exact absurd (r.1 z i) (j z)
   .exact g
end
def uq{α:Type}(eq:α->α->Bool):α->List α->List α
 | _,[]=>[]
 | p,x::l=>if eq x p then uq eq x l else x::uq eq x l
def uniq{α:Type}(eq:α->α->Bool):List α->List α
 | []=>[]
 | x::l=>x::uq eq x l
section
variable {α:Type}{eq:α->α->Bool}
theorem Abq(b:α):∀(l:List α) (p:α),uq eq p (l++[b])=uq eq p l++if eq b ((p::l).getLast (List.cons_ne_nil _ _)) then[] else[b]
 | [],p=>by
  show(if eq b p then[] else[b])=[]++_
  rw[Aec];rfl
 | x::l,p=>by
  show(if eq x p then uq eq x (l++[b]) else x::uq eq x (l++[b]))=(if eq x p then uq eq x l else x::uq eq x l)++_
  rw[Abq b l x]
  have e:(p::x::l).getLast (List.cons_ne_nil _ _)=(x::l).getLast (List.cons_ne_nil _ _):=rfl
  rw[e]
  split<;>rfl
theorem AfX:∀(l:List α) (p:α),(uq eq p l).length<=l.length
 | [],_=>M2 _
 | x::l,p=>by
  show(if eq x p then uq eq x l else x::uq eq x l).length<=l.length+1
  have:=AfX l x
  split
  .omega
  .rw [Acg];omega
theorem X3(l:List α):(uniq eq l).length<=l.length:=by
 cases l with
 | nil=>exact M2 _
 | cons x l=>show(uq eq x l).length+1<=l.length+1;have:=AfX (eq:=eq) l x;omega
theorem ZC:∀(l:List α) (p:α),(uq eq p l).Sublist l
 | [],_=>.refl _
 | x::l,p=>by
  show(if eq x p then uq eq x l else x::uq eq x l).Sublist (x::l)
  split
  .exact .cons _ (ZC l x)
  .exact (ZC l x).cons_cons _
theorem AfW(l:List α):(uniq eq l).Sublist l:=by
 cases l with
 | nil=>exact .refl _
 | cons x l=>exact(ZC l x).cons_cons _
theorem Nq{l:List α}{a b:α}(h:l[A]?=some a)(i:l[A+1]?=some b):uniq eq (l.take (A+2))=uniq eq (l.take (A+1))++if eq b a then[] else[b]:=by
 have u:=(Eu.1 i).1
 have v:l.take (A+2)=l.take (A+1)++[b]:=by
  rw[Ahz u]
  congr 2
  exact Ade ((FS u).symm.trans i)
 have g:l.take (A+1)=l.take A++[a]:=by
  have j:=(Eu.1 h).1
  rw[Ahz j]
  congr 2
  exact Ade ((FS j).symm.trans h)
 rw[v]
 cases f:l.take (A+1) with
 | nil=>rw[g] at f;simp at f
 | cons x r =>
  show x::uq eq x (r++[b])=x::uq eq x r++_
  rw[Abq b r x]
  have w:(x::r).getLast (List.cons_ne_nil _ _)=a:=by
   have:∀(q:List α) (f:q≠[]),q=l.take A++[a]->q.getLast f=a:=λq z e=>by subst e;simp
   exact this _ _ (f ▸ g)
  rw[w]
  rfl
theorem Um{c:α->α->Int}(j:Cm c):∀(l:List α) (p:α),(p::l).Pairwise (λa b=>c a b<=0)->(∀x∈l, ∀y∈p::l,eq x y=false->c y x≠0)->(∀y∈uq eq p l,c p y<0)/\(uq eq p l).Pairwise λa b=>c a b<0
 | [],_,_,_=>⟨λy h=>Da,List.Pairwise.nil⟩
 | x::l,p,h,q=>by
  rw[List.pairwise_cons] at h
  have i:=Um j l x h.2 λz u y f=>q z (EQ _ u) y (EQ _ f)
  have g:=h.1 x (Fr ..)
  show(∀y∈(if eq x p then uq eq x l else x::uq eq x l),c p y<0)/\(if eq x p then uq eq x l else x::uq eq x l).Pairwise _
  split
  .exact ⟨λy f=>j.AeD g (i.1 y f),i.2⟩
  .rename_i r
   have v:=q x (Fr ..) p (Fr ..) (by simpa using r)
   refine⟨λy f=>?_,List.pairwise_cons.2 ⟨i.1,i.2⟩⟩
   rcases Rl.1 f with rfl|f
   .omega
   .exact j.AeD g (i.1 y f)
theorem Qp{c:α->α->Int}(f:Cm c){l:List α}(h:l.Pairwise λa b=>c a b<=0)(g:∀x∈l, ∀y∈l,eq x y=false->c y x≠0):(uniq eq l).Pairwise λa b=>c a b<0:=by
 cases l with
 | nil=>exact List.Pairwise.nil
 | cons x l =>
  have:=Um f l x h λz j y i=>g z (EQ _ j) y i
  exact List.pairwise_cons.2 this
theorem AfY:∀(l:List α) (p:α),(∀x∈l, ∀y∈p::l,eq x y=true->x=y)->∀x∈l,x∈p::uq eq p l
 | [],_,_,x,h=>by cases h
 | z::l,p,b,x,a=>by
  have i:=AfY l z λx a y g=>b x (EQ _ a) y (EQ _ g)
  have f:x∈z::uq eq z l:=by
   rcases Rl.1 a with rfl|a
   .exact Fr ..
   .exact i x a
  show x∈p::(if eq z p then uq eq z l else z::uq eq z l)
  split
  .rename_i e
   have:=b z (Fr ..) p (Fr ..) e
   subst this;exact f
  .exact EQ _ f
theorem SI{l:List α}(a:∀x∈l, ∀y∈l,eq x y=true->x=y)(x:α):x∈uniq eq l<->x∈l:=by
 refine⟨λh=>(AfW l).subset h,λh=>?_⟩
 cases l with
 | nil=>cases h
 | cons z l =>
  rcases Rl.1 h with rfl|h
  .exact Fr ..
  .exact AfY l z (λx b y f=>a x (EQ _ b) y f) x h
end

theorem St.join{p:Nat->Prop}{q j:World}{L M:List Ent}(g:St p D q L)(h:St (λ_=>False) q j M):St p D j (M++L):=by
 refine⟨g.frm.trans (h.frm.mono λ_ h=>h.elim),?_,?_,?_⟩
 .intro e f
  rcases LI.1 f with f|f
  .exact h.holds e f
  .exact Ent.BI (g.holds e f) (h.frm.block _ (Ent.lt (g.holds e f)) λh=>h)
 .rw [Ai7,List.nodup_append]
  refine⟨h.dist,g.dist,?_⟩
  rintro a u b v rfl
  obtain⟨e,f,w⟩:=Ab8.1 u
  obtain⟨r,i,z⟩:=Ab8.1 v
  have A:=(h.mine e f).resolve_left λh=>h
  have B:=Ent.lt (g.holds r i)
  omega
 .intro e f
  rcases LI.1 f with f|f
  .exact .inr (AcC g.frm.size ((h.mine e f).resolve_left λh=>h))
  .exact g.mine e f
theorem DP{p:Nat->Prop}{L:List Ent}{a:List Value}(g:¬p A)(h:D.rangeAt A E a):∀w,St p D w L->w.rangeAt A E a:=λ_ b j v f=>b.old g (h j v f)
section
variable {P:Program}{C:World->Prop}{ops:Array Oper}{Q:Exit->Act->World->Prop}{n:Nat}{p:Nat->Prop}{w0:World}{o:Oper}{rest:List Oper}{l:Kn}{L:List Ent}
theorem YC{e s by_ k c m:Nat}{xs new zs:List Value}{b:List Ent}{y:Value}{ty:TypeId}{O:TypeId}
 (hu:P.underlying A=some (.slice e)) (hux:P.underlying E=some (.slice O)) (hs:(P.info? e).map (·.size)=some s) (K:(P.info? e).map (·.bytes)=some by_) (hz:Zero P e zs) (F:zs.length=s)
 (S:0<by_) (hroom:¬k+m<=c) (w:xs.length=k*s) (hold:∀a,St p w0 a b->(Builtin.firstCells s k (.slice B k c)).run P a=.ok xs.toArray a) (R:St p w0 D b) (hlen:(Builtin.lenOf y).run P D=.ok m D)
 (hfc:∀a,St p w0 a b->(Builtin.firstCells s m y).run P a=.ok new.toArray a) (u:new.length=m*s) (M:(3*(k+m)+1200)*by_<=281474976710656) :
 ∃f J H a,(Builtin.append_ #[A,E] ty #[.slice B k c,y]).run P D=.ok (.slice f (k+m) J) a/\Vec s f (k+m) J (xs++new) H/\St p w0 a (H++b):=by
 have j:∃i,P.info? e=some i/\i.bytes=by_:=by
  cases j:P.info? e with
  | none=>simp[j] at K
  | some i=>exact⟨i,rfl,by simpa [j] using K⟩
 obtain⟨T,hi,hib⟩:=j
 have hask:∀(k:Nat) (D:World),(askRoom k).run P D=.ok () D:=λk D=>by
  unfold askRoom
  by_cases h:k > roomBytes
  .rw [IR h];rfl
  .rw [E9 h];rfl
 have q:=nextslicecap_le (k+m) c W
 have N:Builtin.nextslicecap (k+m) c*by_<=(3*(k+m)+1200)*by_:=AhN by_ q
 have hcap:¬(Builtin.nextslicecap (k+m) c*by_ > 2^48):=W
 obtain⟨z,hz,G⟩:=hz
 have hzc:z.cells=zs.toArray:=by rw[<- G]
 have hd:=R.drew
 let nc:=(Question.appendCap (k+m) c e).cut (D.tape D.drawn (.appendCap (k+m) c e))
 have r:k+m<=nc:=by show k+m<=(k+m)+_;omega
 let rs:=(Builtin.zeroCells zs.toArray (nc-(k+m))).toList
 have v:rs.length=(nc-(k+m))*s:=by rw[KT];simp[F]
 have g:St p w0 (D.drew.alloc (.cells (xs++new++rs).toArray e)) (.row D.drew.heap.size (xs++new++rs)::b):=St.new hd
 refine⟨some ⟨D.drew.heap.size,0,none⟩,nc,[.row D.drew.heap.size (xs++new++rs)],_,?_,Vec.row ?_ ?_ r,g⟩
 .have hcut:(choose (.appendCap (k+m) c e)).run P D=.ok nc D.drew:=rfl
  exact Ar
 .rw [Agz,Qs, <- Qs,Aiv Ed,Aco Ed]
 .simp only [AC,w,u,v]
  rw[<- Agz, <- Agz]
  congr 1
  omega
section
variable {t tx e s by_ k d m:Nat}{ad:Option Addr}{xs new zs:List Value}{x y:Operand}
theorem WL.AgK(ho:o.op=.call { callee:=.builtin .append,args:=#[x,y],argTypes:=#[t,tx] })(hx:ev l x=some (.slice ad k E))(hy:ev l y=some (.slice B m A))
 (hu:P.underlying t=some (.slice e)){Z:TypeId}(R:P.underlying tx=some (.slice Z)) (hs:(P.info? e).map (·.size)=some s) (hb:(P.info? e).map (·.bytes)=some by_) (hz:Zero P e zs) (T:zs.length=s) (K:Nat.blt 0 by_=true)
 (u:¬k+m<=E) (N:0<k->∃b r,ad=some ⟨b,r,none⟩/\∀w,St p w0 w L->w.rangeAt b r xs) (G:xs.length=k*s) (hc:0<m->∃b r,B=some ⟨b,r,none⟩/\∀w,St p w0 w L->w.rangeAt b r new) (F:new.length=m*s) (z:(3*(k+m)+1200)*by_<=281474976710656)
 (hg:On ops o l) (hd:o.dst=some d) (hn:Nat.blt d n=true)
 (h:∀i J v,Vec s i (k+m) J (xs++new) v->WL P ops Q n p w0 rest ((d,.slice i (k+m) J)::l) (v++L)):WL P ops Q n p w0 (o::rest) l L:=by
 refine WL.op hg hd hn λa w ha hS=>?_
 have S:evs l [x,y]=some [.slice ad k E,.slice B m A]:=by simp[evs,hx,hy]
 obtain⟨cc,hr⟩:=BQ (P:=P) (w:=w) (xs:=[x,y]) ho S ha
 have first:∀ {q:Option Addr}{j X:Nat}{H:List Value},H.length=j*s->(0<j->∃b r,q=some ⟨b,r,none⟩/\∀w,St p w0 w L->w.rangeAt b r H)->∀g,St p w0 g L->(Builtin.firstCells s j (.slice q j X)).run P g=.ok H.toArray g:=λ{q j X H} hl M g f=>by
  by_cases hm:0<j
  .obtain ⟨b,r,eq,D⟩:=M hm
   rw[eq]
   exact Ig (P:=P) hl (D g f)
  .obtain rfl:j=0:=W
   have O:H=[]:=AbQ.1 W
   subst O
   cases q with
   | none=>rfl
   | some q=>simp[Builtin.firstCells,loadCells,loadCellsFrom]
 obtain⟨i,J,v,g,h1,h2,h3⟩:=YC (P:=P) (ty:=o.type) (y:=.slice B m A) hu R hs hb hz T (by simpa using K) u G (λg f=>first G N g f) hS (by simp[Builtin.lenOf]) (λg f=>first F hc g f) F z
 refine⟨_,g,v++L,?_,h3,h i J v h2⟩
 rw[hr]
 simp[builtin,h1]
end
end
end Go.Proofs.YtmhahajadgkolaaGreatDoor
namespace Go.Proofs.YtmhahajadgkolaaGreatDoor
open Go.RowKit Go.Sort Go.Shelf Tryz
variable{A:Wd}

theorem gs_ext:∀a b:Wd,a.heap=b.heap->a.tape=b.tape->a.drawn=b.drawn->a.os=b.os->a.output=b.output->a=b:=by
 rintro⟨⟩ ⟨⟩ f g h i j
 dsimp only at f g h i j
 subst f g h i j
 rfl
theorem Frm.grows{a:Wd}(h:Frm Fx A a):∃q b,a=Go.Sort.grow (A.drewN q) b:=by
 refine⟨a.drawn-A.drawn,(a.heap.toList.drop A.heap.size).toArray,?_⟩
 have g:=h.drawn
 have f:a.heap=A.heap++(a.heap.toList.drop A.heap.size).toArray:=by
  apply Array.ext_getElem?
  intro k
  rw[Array.getElem?_append]
  split
  .rename_i hk;exact h.block k hk λh=>h
  .rename_i hk
   simp only[List.getElem?_toArray,Aic,Ahu]
   rw[show A.heap.size+(k-A.heap.size)=k by omega]
 exact gs_ext _ _ f h.tape (by show a.drawn=A.drawn+(a.drawn-A.drawn);omega) h.os h.output
def AM{α:Type}(enc:α->vL):List α->vL
 | []=>[]
 | x::xs=>enc x++AM enc xs
theorem AP{α:Type}{enc:α->vL}{k:Nat}(hk:∀x,(enc x).length=k):∀xs:List α,(AM enc xs).length=xs.length*k
 | []=>by simp[AM]
 | x::xs=>by
  show(enc x++AM enc xs).length=_
  rw[AC,AP hk xs,hk,Acg,Agz,Aii];omega
theorem RG{α:Type}{enc:α->vL}{k:Nat}(hk:∀x,(enc x).length=k):∀(xs:List α) (i:Nat) (x:α),xs[i]?=some x->((AM enc xs).drop (i*k)).take k=enc x
 | [],_,_,h=>by simp at h
 | y::xs,0,x,h=>by
  simp only[Ahl,Ahe] at h
  subst h
  show((enc y++AM enc xs).drop (0*k)).take k=_
  rw[Aiu,AeP,List.take_left' (hk y)]
 | y::xs,i+1,x,h=>by
  rw[Ah7] at h
  show((enc y++AM enc xs).drop ((i+1)*k)).take k=_
  rw[Agz,Aii,Nat.add_comm, <- List.drop_drop,List.drop_left' (hk y)]
  exact RG hk xs i x h
section
variable {α:Type} [Inhabited α]{enc:α->vL}{k:Nat}
theorem Aaw(w:Wd)(blk a m:Nat)(d:Array α)(g:Array Obj):Frm (λb=>b=blk) w (sortWorldK enc k w blk a m d g):=by
 have f:(putRowK enc k (Go.Sort.ahead w m) blk a d).heap.size=w.heap.size:=by unfold putRowK;rw[Go.Sort.size_putRow];rfl
 refine⟨rfl,rfl,rfl,?_,?_,Nat.le_add_right _ _⟩
 .show w.heap.size<=((putRowK enc k (Go.Sort.ahead w m) blk a d).heap++g).size
  rw[Array.size_append,f];omega
 .intro j h i
  show((putRowK enc k (Go.Sort.ahead w m) blk a d).heap++g)[j]?=_
  rw[Array.getElem?_append_left (by rw[f];exact h)]
  show(w.heap.modify blk _)[j]?=_
  rw[Array.getElem?_modify,E9 λe=>i e.symm]
def gsL(enc:α->vL)(k:Nat)(d:Array α)(a:vL):vL:=(Go.Sort.putCells id 0 (flatK enc k d) a.toArray).toList
theorem U3(d:Array α)(a:vL):(gsL enc k d a).length=a.length:=by simp[gsL,Go.Sort.putCells]
theorem RF(hk:∀x,(enc x).length=k)(a:0<k)(d:Array α){t:Nat}(j:t<d.size*k):(AM enc d.toList)[t]?=some ((enc d[t / k]!)[t % k]!):=by
 have b:t / k<d.size:=(Nat.div_lt_iff_lt_mul a).2 j
 have f:t % k<k:=Nat.mod_lt _ a
 have g:d.toList[t / k]?=some d[t / k]! := by
  rw[Ahu,Array.getElem?_eq_getElem b,getElem!_pos d (t / k) b]
 have h:=RG hk _ _ _ g
 have i:(enc d[t / k]!)[t % k]?=(AM enc d.toList)[t]?:=by
  rw[<- h,Agg,IR f,Aic]
  congr 1
  exact Nat.div_add_mod' t k
 rw[<- i,getElem!_pos (enc d[t / k]!) (t % k) (by rw[hk];exact f)]
 exact FS _
theorem W0(hk:∀x,(enc x).length=k)(b:0<k)(d:Array α)(a:vL)(h:d.size*k<=a.length):(gsL enc k d a).take (d.size*k)=AM enc d.toList:=by
 have i:(AM enc d.toList).length=d.size*k:=by rw[AP hk,Array.length_toList]
 apply AhO
 intro t
 by_cases f:t<d.size*k
 .rw [Agg,IR f]
  have g:(gsL enc k d a)[t]?=some ((enc d[t / k]!)[t % k]!):=by
   unfold gsL Go.Sort.putCells
   rw[Ahu,Array.getElem?_mapIdx,show a.toArray[t]?=some (a[t]' W) by rw[List.getElem?_toArray];exact FS _]
   simp only[Option.map_some,size_flatK]
   rw[IR W,Nat.sub_zero,get_flatK _ _ _ _ f]
   rfl
  rw[g,RF hk b d f]
 .rw [AcL F5,AcL (by rw[i];omega)]
theorem Ag3{blk m:Nat}{f:vL}{d:Array α}{g:Array Obj}(h:Row A blk f):Row (sortWorldK enc k A blk 0 m d g) blk (gsL enc k d f):=by
 have a:=h.lt
 obtain⟨T,r,q,i,j⟩:=h
 refine⟨T,r,q,?_,by rw[U3];exact j⟩
 have b:(putRowK enc k (Go.Sort.ahead A m) blk 0 d).heap.size=A.heap.size:=by unfold putRowK;rw[Go.Sort.size_putRow];rfl
 show((putRowK enc k (Go.Sort.ahead A m) blk 0 d).heap++g)[blk]?=_
 rw[Array.getElem?_append_left (by rw[b];exact a)]
 show(A.heap.modify blk _)[blk]?=_
 rw[Array.getElem?_modify,IR U,i]
 rfl
theorem Ael{p:Nat->Prop}{w:Wd}{blk m:Nat}{g:vL}{d:Array α}{B:Array Obj}{L:eL}(a:St p A w (.row blk g::L)):St p A (sortWorldK enc k w blk 0 m d B) (.row blk (gsL enc k d g)::L):=by
 have f:=Aaw (enc:=enc) (k:=k) w blk 0 m d B
 have E:Row w blk g:=a.holds (.row blk g) C9
 have v:=a.mine (.row blk g) C9
 refine⟨⟨f.os.trans a.frm.os,f.tape.trans a.frm.tape,f.output.trans a.frm.output,AcC a.frm.size f.size,λj i z=>?_,AcC a.frm.drawn f.drawn⟩,?_,a.dist,?_⟩
 .have q:¬j=blk:=λe=>by
   subst e
   rcases v with h|h
   .exact z h
   .exact absurd i (by show ¬j<A.heap.size;have:A.heap.size<=j:=h;omega)
  exact(f.block j (Ain i a.frm.size) q).trans (a.frm.block j i z)
 .intro e b
  rcases Rl.1 b with rfl|b
  .exact Ag3 E
  .have u:=a.holds e (EQ _ b)
   refine Ent.BI u (f.block _ (Ent.lt u) λD=>?_)
   have r:=a.dist
   simp only[Acu,List.nodup_cons] at r
   exact r.1 (Ab8.2 ⟨e,b,D⟩)
 .intro e b
  rcases Rl.1 b with rfl|b
  .exact v
  .exact a.mine e (EQ _ b)
def AscBy(b:α->α->Int)(a:List α):Prop:=∀(i j:Nat) (x y:α),a[i]?=some x->a[j]?=some y->i<j->¬b y x<0
theorem Aax{P:Program}{ρ:Go.Shelf.Ren}(Ly:SlLaysF0.n6 P ρ)(O:0<k)(aE:∀w,(isAgg (ρ.t 24)).run P w=.ok true w)(zE:∀w,(Go.sizeOf (ρ.t 24)).run P w=.ok k w)(hk:∀x,(enc x).length=k)(h1:∀x, ∀v∈enc x,v.oneCell'=true)
 (K:α->α->Int) (hO:SWO (ltOf K)) (g:Nat) (cb:Array Vl) (eg:∀F w,(callFunc g F).run P w=.ok (.enter g F) w) (p:Nat->Prop) (w0 w:Wd) (L E:eL) (ad:Option Addr) (c:Nat) (xs:List α)
 (N:∀q a,St p w0 w (.row q a::L)->∀G,Frm (λb=>b=q) w G->∀x y,Calls P g (#[.agg (enc x).toArray,.agg (enc y).toArray]++cb) G λe w''=>e=.returned (iI (K x y))/\Frm Fx G w'')
 (hV:Vec k ad xs.length c (AM enc xs) E) (hS:St p w0 w (E++L)) (S:xs.length<4611686018427387904) :
 Calls P (ρ.f 6) #[.slice ad xs.length c,.func (.func g) #[] cb] w λe G =>
  e=.returned (.tuple #[])/\∃ys E',ys.Perm xs/\AscBy K ys/\Vec k ad xs.length c (AM enc ys) E'/\St p w0 G (E'++L):=by
 rcases hV with⟨ha,hn,hc,hx,hE⟩|⟨q,a,rfl,rfl,hx,M,R⟩
 .have e0:xs=[]:=AbQ.1 hn
  subst e0
  refine(Go.Proofs.AnyF.slices_SortFunc_none Ly ad c _ w).mono λe G h=>⟨h.1,[],E,.refl _,λi j A B h=>by simp at h,.inl ⟨ha,hn,hc,hx,hE⟩,by rw[h.2];exact hS⟩
 .have H:St p w0 w (.row q a::L):=hS
  have hR:Row w q a:=H.holds (.row q a) C9
  have hcs:xs.length*k<=a.length:=by rw[M];exact AhN k R
  have r:xs.toArray.size=xs.length:=C9
  have hcm:CmpLays P g cb enc k K q 0 xs.toArray.size w:=λm os dk hs x y =>
   (N q a H _ (Aaw w q 0 m dk os) x y).mono λe G ⟨he,hF⟩=>⟨he,hF.grows⟩
  have hH:HoldsK enc k w q 0 xs.toArray:=λt X=>by
   rw[size_flatK] at X
   have ht2:t<a.length:=by rw[r] at X;omega
   rw[PP]
   refine⟨hR.cell ?_,hR.frozen ht2⟩
   show a[t]?=some ((flatK enc k xs.toArray)[t]!)
   rw[get_flatK _ _ _ _ X, <- RF hk O _ X]
   show a[t]?=(AM enc xs)[t]?
   rw[<- hx,Agg,IR (by rw[<- r];exact X)]
  have Z:=Go.Proofs.AnyQ.slices_SortFunc Ly k aE zE enc hk h1 K hO g cb q 0 c xs.toArray w eg hcm hH hR.lt (by rw[r];exact S)
  rw[r] at Z
  refine Z.mono ?_
  rintro e G ⟨he,z,n,os,⟨hs1,_,u⟩,J,rfl⟩
  have D:z.size=xs.length:=by rw[hs1,r]
  have f1:z.extract 0 xs.length=z:=by rw[<- D];simp
  have f2:xs.toArray.extract 0 xs.length=xs.toArray:=by rw[<- r];exact Array.extract_size
  rw[f1,f2] at u
  have T:=W0 hk O z a (by rw[D];exact hcs)
  refine⟨he,z.toList,[.row q (gsL enc k z a)],?_,?_,?_,Ael H⟩
  .exact u
  .intro i j A B hi hj hij
   have li:=(Eu.1 hi).1
   have lj:=(Eu.1 hj).1
   rw[Array.length_toList] at li lj
   have h:=J i j (Lv _) hij (by rw[<- D];exact lj)
   rw[Ahu,Array.getElem?_eq_getElem li] at hi
   rw[Ahu,Array.getElem?_eq_getElem lj] at hj
   rw[getElem!_pos z i li,getElem!_pos z j lj] at h
   have ea:=Ade hi
   have eb:=Ade hj
   subst ea eb
   exact Aep h
  .exact .inr ⟨q,gsL enc k z a,rfl,rfl,by rw[<- D,T],by rw[U3];exact M,R⟩
end
end Go.Proofs.YtmhahajadgkolaaGreatDoor
namespace Go.Proofs.YtmhahajadgkolaaGreatDoor
open Go.RowKit Tryz
variable{A D E:Nat}{B:List Value}{F J:Operand}{G:Type}{H:Nat->Prop}{K:Int}

theorem St.AJ{w0 w:World}{L L':List Ent}(i:St H w0 w L)(h:∀(c:Ent->List Ent->Nat) (k:Ent->Ent->Nat),(∀e a l,c e (a::l)=c e l+k e a)->(∀e l r,c e (l++r)=c e l+c e r)->(∀e,c e []=0)->∀e,c e L=c e L':=by intro c k b f g e;simp only[b,f,g,pG,aG,iI,aA,sN]<;>omega):St H w0 w L':=i.perm (by
 classical
 exact Ai3.2 λe=>(h (λe l=>l.count e) (λe a=>if a == e then 1 else 0) (λ_ _ _=>List.count_cons) (λ_ _ _=>List.count_append) (λ_=>List.count_nil) e).symm)
theorem St.AN{w0 w:World}{L L':List Ent}(Z:List Ent)(i:St H w0 w L)(h:∀(c:Ent->List Ent->Nat) (k:Ent->Ent->Nat),(∀e a l,c e (a::l)=c e l+k e a)->(∀e l r,c e (l++r)=c e l+c e r)->(∀e,c e []=0)->∀e,c e L=c e (L'++Z):=by intro c k b f g e;simp only[b,f,g,pG,aG,iI,aA,sN]<;>omega):St H w0 w L' :=
 (i.AJ (L':=L'++Z) h).sub (Acy _ _)
section
variable {P:Program}{ops:Array Oper}{Q:Exit->Act->World->Prop}{n:Nat}{p:Nat->Prop}{w0:World}{o:Oper}{rest:List Oper}{l:Kn}{L:List Ent}
theorem WL.Mm{m c by_ s:Nat}{k k':IntKind}{b:Int}(ho:o.op=.makeSlice A F J)(hx:ev l F=some (.int k K))(hy:ev l J=some (.int k' b))(hA:K=(m:Int))(hB:b=(c:Int))(hmc:m<=c)
 (hu:P.underlying A=some (.slice D)) (hb:(P.info? D).map (·.bytes)=some by_) (q:by_*c<=281474976710656) (hc63:c<2^62) (hs:(P.info? D).map (·.size)=some s) (hz:Zero P D B) (z:B.length=s) (hg:On ops o l) (hd:o.dst=some E) (hn:Nat.blt E n=true)
 (h:∀g,w0.heap.size<=g->WL P ops Q n p w0 rest ((E,.slice (some ⟨g,0,none⟩) m c)::l) (.row g (List.replicate c B).flatten::L)):WL P ops Q n p w0 (o::rest) l L:=by
 refine WL.op hg hd hn λa w ha hS=>?_
 have h1:=ha.ev hx
 have h2:=ha.ev hy
 subst hA hB
 obtain⟨zz,hz,hzz⟩:=hz
 refine⟨_,_,_,?_,St.new (cs:=(List.replicate c B).flatten) (T:=D) hS,h _ hS.frm.size⟩
 have hzc:zz.cells=B.toArray:=by rw[<- hzz]
 have Z:IntKind.i64.wrap (m:Int)=m:=DK W W
 have X:IntKind.i64.wrap (c:Int)=c:=DK W W
 have v:=run_sizeOf (P:=P) hs
 have G:∃i,P.info? D=some i/\i.bytes=by_:=by
  cases G:P.info? D with
  | none=>simp[G] at hb
  | some i=>exact⟨i,rfl,by simpa [G] using hb⟩
 obtain⟨i,hi,N⟩:=G
 have O:¬((by_:Int)*(c:Int) > 2^48):=by
  have h:=Int.ofNat_le.2 q
  rw[Int.natCast_mul] at h
  omega
 have j:∀(k:Nat) (w:World),(askRoom k).run P w=.ok () w:=λk w=>by
  unfold askRoom
  by_cases h:k > roomBytes
  .rw [IR h];rfl
  .rw [E9 h];rfl
 have u:=SY z c
 unfold execOp
 simp only[ho,h1,h2,Instr.makeSlice,Ah5,Rr hu,Result.andThen,asInt,asIntOf,Sem.run_pure,typeInfo,program,Sem.run,hi,N,Z,X]
 have S:(decide ((c:Int)<0) || decide ((by_:Int)*(c:Int) > 2^48) || decide ((m:Int)<0) || decide ((m:Int) > (c:Int)))=false:=by
  simp only[Bool.or_eq_false_iff,decide_eq_false_iff_not]
  exact⟨⟨⟨W,O⟩,W⟩,W⟩
 simp only[S,Ai5,if_false,Int.toNat_natCast]
 by_cases H:c*s=0
 .have r:(List.replicate c B).flatten=[]:=AbQ.1 (by rw[Ku z];exact H)
  have M:∀f:Nat->Value,Array.map f (Array.range 0) = #[]:=λf=>Array.ext C9 λi h=>by simp at h
  rw[r]
  simp[j,v,newRow,newObj,Sem.run,H,M]
 .have R:Array.map (λF=>B[F % B.length]?.getD default) (Array.range (c*s))=((List.replicate c B).flatten).toArray:=by
   rw[<- u];simp
  simp[j,v,H,CE hz,hzc,R,newRow,newObj,Sem.run]
theorem WL.Xj{f:Nat}{k:IntKind}(v:o.op=.makeMap A (some F))(B:ev l F=some (.int k K))(z:P.underlying A=some (.map E f))(r:On ops o l)(q:o.dst=some D)(u:Nat.blt D n=true)
 (h:∀g,w0.heap.size<=g->WL P ops Q n p w0 rest ((D,.map (some g))::l) (.obj g (.map #[] 0)::L)):WL P ops Q n p w0 (o::rest) l L:=by
 refine WL.op r q u λa w j b=>?_
 have i:=j.ev B
 refine⟨_,_,_,?_,St.newObj (ob:=.map #[] 0) b trivial,h _ b.frm.size⟩
 unfold execOp
 simp[v,i,Instr.makeMap,Rr z,asInt,asIntOf,newObj,Sem.run]
theorem Vec.made(a:B.length=A):Vec A (some ⟨D,0,none⟩) 0 E [] [.row D (List.replicate E B).flatten]:=Vec.row Ec (Ku a E) (Lv _)
def zrs(zs:List Value)(k:Nat):List Value:=(List.replicate k zs).flatten
theorem Ii(zs:List Value)(k:Nat):(zrs zs k).length=k*zs.length:=by unfold zrs;simp
theorem Ah4(h:B.all one=true)(k:Nat):(zrs B k).all one=true:=by
 unfold zrs
 rw[Acw] at h ⊢
 intro v a
 obtain⟨l,b,a⟩:=List.mem_flatten.1 a
 rw[List.eq_of_mem_replicate b] at a
 exact h v a
theorem WL.clear{t e g b k c s:Nat}{x:Operand}{zs f:List Value}{j:List Ent}(X:o.op=.call { callee:=.builtin .clear,args:=#[x],argTypes:=#[t] })(Z:ev l x=some (.slice (some ⟨g,b,none⟩) k c))
 (J:P.underlying t=some (.slice e)) (B:Zero P e zs) (E:zs.length=s) (i:zs.all one=true) [At L g f] (u:b+k*s<=f.length) [Put L g (.row g (AK f b (zrs zs k))) j] (S:On ops o l) (R:o.dst=none)
 (h:WL P ops Q n p w0 rest l j):WL P ops Q n p w0 (o::rest) l L:=by
 refine WL.act S R λa w O q=>?_
 have A:evs l [x]=some [.slice (some ⟨g,b,none⟩) k c]:=by simp[evs,Z]
 obtain⟨cc,H⟩:=BQ (P:=P) (w:=w) (xs:=[x]) X A O
 obtain⟨z,B,G⟩:=B
 have D:z.cells=zs.toArray:=by rw[<- G]
 have T:b+(zrs zs k).length<=f.length:=by rw[Ii,E];exact u
 obtain⟨w',v,r,N⟩:=EJ (P:=P) (zrs zs k) 0 b f w (q.row (g:=g)) (by simpa using T) (Ah4 i k)
 have F:Builtin.zeroCells zs.toArray k=(zrs zs k).toArray:=by
  have:=SY (zs:=zs) U k
  unfold Builtin.zeroCells zrs
  rw[<- this]
  simp
 by_cases M:k=0
 .subst M
  have K:AK f b (zrs zs 0)=f:=H9 f b
  refine⟨w,j,.inr ⟨.tuple #[],?_⟩,q.put (g:=g) (e:=.row g (AK f b (zrs zs 0))) U (Frm.refl _ _) (by rw[K];exact q.row (g:=g)),h⟩
  rw[H]
  simp[builtin,Builtin.clear_,Rr J]
 .refine ⟨w',j,.inr ⟨.tuple #[],?_⟩,q.put (g:=g) (e:=.row g (AK f b (zrs zs k))) U N (show Row _ _ _ by simpa using r),h⟩
  obtain⟨m,rfl⟩:∃m,k=m+1:=⟨k-1,W⟩
  rw[H]
  simp[builtin,Builtin.clear_,Rr J,CE B,D,F,v]
section
variable {C:World->Prop}
theorem LN{t z:TypeId}{f:List Value}{a:List CK}{b:Bool}(u:o.op=.binOp .neq t F J z)(v:ev l F=some (.agg B.toArray))(w:ev l J=some (.agg f.toArray))(j:EqK P 10000 t true a)(r:P.eqGuardType P.depth t=false)
 (g:AR a B=true) (i:AR a f=true) (q:b=true<->¬B=f):Val P C n l o (.bool b):=by
 cases b with
 | true=>exact SN u v w j r g i (q.1 rfl)
 | false=>exact SM u v w j r g i (Ago λh=>by have:=q.2 h;cases this)
theorem GN{t w:TypeId}{ys:List Value}{a:List CK}{b:Bool}(r:o.op=.binOp .eql t F J w)(u:ev l F=some (.agg B.toArray))(v:ev l J=some (.agg ys.toArray))(i:EqK P 10000 t true a)(q:P.eqGuardType P.depth t=false)
 (f:AR a B=true) (g:AR a ys=true) (j:b=true<->B=ys):Val P C n l o (.bool b):=by
 cases b with
 | false=>exact ZG r u v i q f g λh=>by have:=j.2 h;cases this
 | true=>exact ZH r u v i q f g (j.1 rfl)
end
theorem JU{new:List Value}(h:A+new.length<=B.length):(AK B A new).take A=B.take A:=by
 rw[FB _ _ _ h,Qs,List.take_left' F5]
end
/-! ### Elements in a block -/
section
variable {α:Type}{enc:α->List Value}{s:Nat}(hk:∀x,(enc x).length=s)
include hk
theorem GR:∀(a:List α) (k:Nat) (R:List Value),k<=a.length->(AM enc a++R).take (k*s)=AM enc (a.take k)
 | a,0,R,_=>by rw[Aiu];cases a<;>rfl
 | [],k+1,R,h=>by simp at h
 | y::a,k+1,R,h=>by
  show((enc y++AM enc a)++R).take ((k+1)*s)=enc y++AM enc (a.take k)
  rw[Qs,Agz,Aii,Nat.add_comm, <- hk y,List.take_length_add_append,hk y,GR a k R (by simp at h;omega)]
theorem Pt:∀(a:List α) (k:Nat) (R:List Value),k<=a.length->(AM enc a++R).drop (k*s)=AM enc (a.drop k)++R
 | a,0,R,_=>by rw[Aiu];cases a<;>rfl
 | [],k+1,R,h=>by simp at h
 | y::a,k+1,R,h=>by
  show((enc y++AM enc a)++R).drop ((k+1)*s)=AM enc (a.drop k)++R
  rw[Qs,Agz,Aii,Nat.add_comm, <- List.drop_drop,List.drop_left' (hk y),Pt a k R (by simp at h;omega)]
theorem Jg(b:List α)(i:Nat)(x:α)(R:List Value)(h:i<b.length):AK (AM enc b++R) (i*s) (enc x)=AM enc (b.set i x)++R:=by
 have j:=AP hk b
 have g:i*s+s<=b.length*s:=by rw[<- Nat.succ_mul];exact AhN _ h
 rw[FB _ _ _ (by rw[hk,AC];omega),hk,GR hk b i R W,show i*s+s=(i+1)*s by rw[Nat.succ_mul],Pt hk b (i+1) R h]
 have e:b.set i x=b.take i++x::b.drop (i+1):=by
  rw[List.set_eq_take_append_cons_drop,IR h]
 rw[e]
 have:∀(xs zs:List α),AM enc (xs++zs)=AM enc xs++AM enc zs:=λxs zs=>by
  induction xs with
  | nil=>rfl
  | cons a xs f=>show enc a++AM enc (xs++zs)=(enc a++AM enc xs)++AM enc zs;rw[f,Qs]
 rw[this]
 show _=(_++(enc x++_))++R
 simp only[Qs]
theorem DF{a:List α}{x:α}{R:List Value}(h:a[A]?=some x):seg (AM enc a++R) (A*s) s=enc x:=by
 have b:=(Eu.1 h).1
 unfold seg
 rw[Pt hk a A R W]
 have e:a.drop A=x::a.drop (A+1):=by
  rw[List.drop_eq_getElem_cons b]
  congr 1
  exact Ade ((FS b).symm.trans h)
 rw[e]
 show((enc x++AM enc (a.drop (A+1)))++R).take s=enc x
 rw[Qs,List.take_left' (hk x)]
omit hk in
theorem Vec.split{ad:Option Addr}{xs:List α}{E:List Ent}(f:Vec s ad xs.length A (AM enc xs) E)(h:xs≠[]):∃g R,ad=some ⟨g,0,none⟩/\E=[.row g (AM enc xs++R)]/\(AM enc xs++R).length=A*s/\xs.length<=A:=by
 rcases f with⟨_,q,_⟩|⟨g,b,rfl,rfl,a,j,i⟩
 .exact absurd (AbQ.1 q) h
 .refine ⟨g,b.drop (xs.length*s),rfl,?_,?_,i⟩
  .rw [<- a,AeN]
  .rw [<- a,AeN];exact j
end

section
variable {Q:Exit->Act->World->Prop}{n:Nat}{p:Nat->Prop}{w0:World}{l:Kn}{L:List Ent}
theorem eMx{g:G->Kn}{f:G->List Ent}{b:G->Prop}(Z:List Ent)(i:G)(z:b i)(A:Sub l (g i):=by exact Kt)(h:∀(c:Ent->List Ent->Nat) (j:Ent->Ent->Nat),(∀e a l,c e (a::l)=c e l+j e a)->(∀e l r,c e (l++r)=c e l+c e r)->(∀e,c e []=0)->∀e,c e L=c e (f i++Z):=by intro c j q u v e;simp only[q,u,v,pG,aG,iI,aA,sN]<;>omega):WE (Exit.then (Mid g f b n p w0) Q) .normal n p w0 l L:=WE.to (L':=f i) (λ_ w=>w.AN Z h) (WE.mid i z A (.refl _))
theorem eWx{g:G->Kn}{f:G->List Ent}{b:G->Prop}{m:G->Nat}(Z:List Ent)(i:G)(D:m i<A)(z:b i)(B:Sub l (g i):=by exact Kt)(h:∀(c:Ent->List Ent->Nat) (j:Ent->Ent->Nat),(∀e a l,c e (a::l)=c e l+j e a)->(∀e l r,c e (l++r)=c e l+c e r)->(∀e,c e []=0)->∀e,c e L=c e (f i++Z):=by intro c j q u v e;simp only[q,u,v,pG,aG,iI,aA,sN]<;>omega):WE (Exit.then (Next g f b m A n p w0) Q) .normal n p w0 l L:=WE.to (L':=f i) (λ_ w=>w.AN Z h) (WE.next i D z B (.refl _))
end

theorem Ld:Cm EF:=by
 refine⟨λa=>?_,λa b=>?_,λa b c f g=>?_⟩<;>unfold EF at *<;>(repeat' (split at *))<;>omega
theorem Ko{y:Int}:EF K y=0<->K=y:=by unfold EF;split<;>(try split)<;>omega
theorem AaJ{α:Type}(f:α->Nat->Int):∀k,Cm (λa b=>Ml (f a) (f b) k)
 | 0=>Cm.triv
 | k+1=>Cm.lex (AaJ f k) (Ld.on λa=>f a k)
theorem TO{f g:Nat->Int}:∀ {k},Ml f g k=0->∀i,i<k->f i=g i
 | 0,_,i,a=>absurd a (Ac5 i)
 | k+1,h,i,a=>by
  have h:(if Ml f g k≠0 then Ml f g k else EF (f k) (g k))=0:=h
  by_cases e:Ml f g k=0
  .rw [E9 λq=>q e] at h
   by_cases b:i=k
   .subst b;exact Ko.1 h
   .exact TO e i W
  .rw [IR e] at h;exact absurd h e
theorem MU:Cm Pe:=Cm.lex (Ld.on Ac.set) (AaJ Ac.val 9)
def Ac.Nz(a:Ac):Prop:=∀k,9<=k->a.val k=0
def Mt.Nz(m:Mt):Prop:=∀k,9<=k->m.val k=0/\m.mask k=0
theorem Ac.ext'{a b:Ac}(i:a.Nz)(j:b.Nz)(f:a.set=b.set)(g:∀k,k<9->a.val k=b.val k):a=b:=by
 cases a;cases b
 dsimp only at f g
 subst f
 congr 1
 funext k
 by_cases hk:k<9
 .exact g k hk
 .exact (i k W).trans (j k W).symm
theorem Ti{a b:Ac}(f:a.Nz)(g:b.Nz)(h:Pe a b=0):a=b:=by
 unfold Pe at h
 split at h
 .rename_i q;exact absurd h q
 .rename_i q;exact Ac.ext' f g (Ko.1 W) (TO h)
def HV(m n:Mt):Nat->Int
 | 0=>0
 | k+1=>if HV m n k≠0 then HV m n k else(if EF (m.mask k) (n.mask k)≠0 then EF (m.mask k) (n.mask k) else EF (m.val k) (n.val k))
theorem AaN:∀k,Cm (λa b=>HV a b k)
 | 0=>Cm.triv
 | k+1=>Cm.lex (AaN k) (Cm.lex (Ld.on λm:Mt=>m.mask k) (Ld.on λm:Mt=>m.val k))
theorem TS{m n:Mt}:∀ {k},HV m n k=0->∀i,i<k->m.mask i=n.mask i/\m.val i=n.val i
 | 0,_,i,b=>absurd b (Ac5 i)
 | k+1,h,i,b=>by
  have h:(if HV m n k≠0 then HV m n k else(if EF (m.mask k) (n.mask k)≠0 then EF (m.mask k) (n.mask k) else EF (m.val k) (n.val k)))=0:=h
  by_cases e:HV m n k=0
  .rw [E9 λq=>q e] at h
   by_cases f:i=k
   .subst f
    by_cases a:EF (m.mask i) (n.mask i)=0
    .rw [E9 λq=>q a] at h;exact⟨Ko.1 a,Ko.1 h⟩
    .rw [IR a] at h;exact absurd h a
   .exact TS e i W
  .rw [IR e] at h;exact absurd h e

/-! ### Rules -/
structure RuD where
 m:Mt
 acts:List Ac
structure RuL where
 m:Mt
 ad:Option Addr
 c:Nat
 acts:List Ac
def RuL.d(r:RuL):RuD:=⟨r.m,r.acts⟩
def RuL.ru(r:RuL):Ru:=⟨r.m,r.ad,r.acts.length,r.c⟩
def RuL.cells(r:RuL):vL:=ruL r.ru
theorem RuL.len(r:RuL):r.cells.length=19:=AhP _
abbrev CJ(xs:List Ac):vL:=AM acL xs
abbrev BB(a:List RuL):vL:=AM RuL.cells a
theorem CU(a:Ac):(acL a).length=10:=by show(_::ucs a.val 9).length=10;rw[Acg,DJ]
theorem I3(xs:List Ac):(CJ xs).length=xs.length*10:=AP CU xs
theorem FM(a:List RuL):(BB a).length=a.length*19:=AP RuL.len a
theorem GJ{α:Type}(enc:α->vL):∀xs a:List α,AM enc (xs++a)=AM enc xs++AM enc a
 | [],_=>rfl
 | x::xs,a=>by show enc x++AM enc (xs++a)=(enc x++AM enc xs)++AM enc a;rw[GJ enc xs a,Qs]
theorem AX(enc:G->vL)(xs:List G)(x:G):AM enc (xs++[x])=AM enc xs++enc x:=by rw[GJ];show _++(enc x++[])=_;rw[Acx]
def Rg(w:Wd)(ad:Option Addr)(a:vL):Prop:=a≠[]->∃b o,ad=some ⟨b,o,none⟩/\w.rangeAt b o a
theorem Rg.seg{w:Wd}{enc:G->vL}(hk:∀x,(enc x).length=E){xs:List G}{i:Nat}{x:G}(h:w.rangeAt A D (AM enc xs))(b:xs[i]?=some x):w.rangeAt A (D+i*E) (enc x):=λj v a=>by
 have:=RG hk xs i x b
 rw[<- this] at a
 rw[Agg] at a
 split at a
 .rw [Aic] at a
  have:=h _ _ a
  rwa [Nat.add_assoc]
 .cases a
theorem Rg.frm{w a:Wd}{ad:Option Addr}{f:vL}(g:Frm H w a)(h:Rg w ad f)(j:∀b o,ad=some ⟨b,o,none⟩->¬H b):Rg a ad f:=λi=>by
 obtain⟨b,o,e,q⟩:=h i
 exact⟨b,o,e,DP (p:=H) (L:=[]) (j b o e) q a ⟨g,(λ_ h=>by cases h),C9,(λ_ h=>by cases h)⟩⟩
def L9(xs:List Ac):Int:=if xs.length > 64 then 34 else if ∀a∈xs,a.Ok then 0 else 1
def Mt.Okk(m:Mt):Prop:=∀k,k<9->Vf k (m.val k) (m.mask k)
instance (m:Mt):Decidable m.Okk:=by unfold Mt.Okk;infer_instance
def RuD.err(r:RuD):Int:=if r.m.Okk then L9 r.acts else 1
def Gz{α:Type}(f:α->Int):List α->Int
 | []=>0
 | x::xs=>if f x≠0 then f x else Gz f xs
theorem M5{α:Type}{f:α->Int}:∀ {xs:List α},Gz f xs=0<->∀x∈xs,f x=0
 | []=>⟨λ_ _ h=>Da,λ_=>rfl⟩
 | x::xs=>by
  show(if f x≠0 then f x else Gz f xs)=0<->_
  by_cases h:f x=0
  .rw [E9 λq=>q h,M5]
   exact⟨λk y a=>(by rcases Rl.1 a with e|a; (rw[e];exact h);exact k y a),λk y a=>k y (EQ _ a)⟩
  .rw [IR h]
   exact⟨λk=>absurd k h,λk=>k x (Fr ..)⟩
/-! ### Entries -/
structure EnD where
 prio:Int
 mark:Int
 r:RuD
structure EnL where
 prio:Int
 mark:Int
 r:RuL
def EnL.d(e:EnL):EnD:=⟨e.prio,e.mark,e.r.d⟩
def EnL.cells(e:EnL):vL:=iI e.prio::iI e.mark::e.r.cells
theorem EnL.len(e:EnL):e.cells.length=21:=by show(_::_::e.r.cells).length=21;rw[Acg,Acg,RuL.len]
abbrev DA(a:List EnL):vL:=AM EnL.cells a
theorem DO(a:List EnL):(DA a).length=a.length*21:=AP EnL.len a
structure RuD.In(r:RuD):Prop where
 m:r.m.In
 nz:r.m.Nz
 act:∀a∈r.acts,a.In/\a.Nz
structure EnD.In(e:EnD):Prop where
 prio : -9223372036854775808<=e.prio/\e.prio<=9223372036854775807
 mark : -9223372036854775808<=e.mark/\e.mark<=9223372036854775807
 r:e.r.In
def EnD.err(e:EnD):Int:=if 0<=e.prio/\e.prio<=1073741824 then e.r.err else 1
def PG(a b:EnD):Int:=if EF b.prio a.prio≠0 then EF b.prio a.prio else HV a.r.m b.r.m 9
theorem AaZ:Cm PG:=Cm.lex (Ld.on EnD.prio).flip ((AaN 9).on λe:EnD=>e.r.m)
def N5(xs f:List Ac):Prop:=f.Pairwise (λa b=>Pe a b<0)/\∀x,x∈f<->x∈xs
theorem N5.one{xs a zs:List Ac}(b:N5 xs a)(f:N5 xs zs):a=zs:=Qk MU a zs b.1 f.1 λx=>(b.2 x).trans (f.2 x).symm
section Gq
attribute [local irreducible] WL WC WE WQ WP WH WR WM WRH

theorem AH{a new:vL}(h:new.length=a.length):AK a 0 new=new:=by
 rw[FB _ _ _ W,List.take_zero,Aec,List.drop_eq_nil_of_le W,Acx]
theorem OE{c:Prop}[Decidable c](h:¬(if c then(0:Int) else 1)≠0):c:=by
 by_cases k:c
 .exact k
 .exact absurd (by rw[E9 k];decide) h
theorem Na{c:Prop}[Decidable c](h:(if c then(0:Int) else 1)≠0):¬c:=λk=>h (IR k)
theorem Sb{m n:Mt}{k:Nat}(h:HV m n k≠0):∀j,HV m n (k+j)=HV m n k
 | 0=>rfl
 | j+1=>by
  have:=Sb h j
  show(if HV m n (k+j)≠0 then HV m n (k+j) else _)=_
  rw[this,IR h]
theorem Ac1(w:Wd)(m:Mt)(g:m.In)(r:GW w):
 Cl 325 #[mtV m] w (RvF (iI (if m.Okk then 0 else 1)) w):=by
 refine en0 func325 U ntmps325 U<|J2 ?_
 refine zx U U U U U<|λf v=>J10 ?_
 refine oLp (λk:Nat=>[(4,iI k),(1,pG f)]) (λ_=>[.row f (mtL m)]) (λk=>k<=9/\∀j,j<k->Vf j (m.val j) (m.mask j)) (λk=>9-k) 0 ⟨Lv _,λj h=>absurd h W⟩ ?_
 rintro k ⟨hk,b⟩
 refine J2 ?_
 refine JT (λi=>?_) λi=>?_
 refine J15 ?_
 refine cQ mixed<|J3 ?_
 refine qV (AG (lo:=k) U U U underlying218 CF W W) U<|qV (An U U Gn.h (cellAt (Ic m W))) U<|J2 ?_
 refine qV (AG (lo:=k) U U U underlying218 CF W W) U<|qV (An U U Gn.h (cellAt (G4 m W))) U<|qC CkO U (λw u=>V7 w k W (m.val k) (m.mask k) (g.val k) (g.mask k) (r.BI (λh=>h) u))<|qV (Af4 U U) U<|J2 ?_
 refine WC.Le U (λa=>?_) λa=>?_
 refine J11 ?_
 refine eT1 ?_
 exact λz h=>⟨by rw[E9 λq=>a (q k W)],h.frm⟩
 refine J7 ?_
 exact eW (k+1) W ⟨W,λj A=>by
 by_cases e:j=k
 .subst e;exact Acp.1 a
 .exact b j W⟩
 refine J15 ?_
 refine eT1 ?_
 obtain rfl:k=9:=W
 exact λz h=>⟨by rw[IR (c:=m.Okk) b],h.frm⟩
theorem Yy{xs:List Ac}{a:Ac}(b:¬xs.length > 64)(f:xs[A]?=some a)(h:¬a.Ok):L9 xs=1:=by
 unfold L9
 rw[E9 b,E9 λq=>h (q a (Do f))]
theorem AbU{xs:List Ac}(b:¬xs.length > 64)(h:∀j a,j<xs.length->xs[j]?=some a->a.Ok):L9 xs=0:=by
 unfold L9
 rw[E9 b,IR (λa g=>by
  obtain⟨i,f,e⟩:=List.mem_iff_getElem.1 g
  exact h i a f (by rw[FS f,e]))]
theorem Ua(r:RuL):seg r.cells 0 18=mtL r.m:=Ub _
theorem DQ(r:RuL):r.cells[18]?=some (.slice r.ad r.acts.length r.c):=Afl _
theorem AbO(w:Wd)(b c:Nat)(r:RuL)(R:r.d.In)(T:w.rangeAt b 0 r.cells)(S:Rg w r.ad (CJ r.acts))(K:GW w):
 Cl 262 #[.slice (aG b) 1 c] w (RvF (iI r.d.err) w):=by
 refine en0 func262 U ntmps262 U<|J10 ?_
 refine zV ((Abr U U U).f W) U<|J14 ?_
 refine oLp (λk:Nat=>[(14,iI k),(13,iI 1),(12,.slice (aG b) 1 c)]) (λ_=>[]) (λk=>k<=1/\(k=1->r.d.err=0)) (λk=>1-k) 0 ⟨Lv _,λh=>absurd h W⟩ ?_
 rintro k ⟨hk,H⟩
 refine J2 ?_
 refine JT (λE=>?_) λE=>?_
 refine J10 ?_
 refine zV (AA (lo:=0) U U U underlying54 BJ W W) U<|zV (AB (cs:=r.cells) U U Ji.h (RuL.len r) (DP (λh=>h) T)) U<|zy U CZ.h U U<|?_
 intro O X
 refine J1 ?_
 refine WL.as (L':=[.row O r.cells]) U<|J6 ?_
 refine zV (AB U U Ad.h U (AT (m:=18) (Ua r))) U<|zk CkO U (λw G=>Ac1 w r.m R.m (K.BI (λh=>h) G))<|?_
 refine J6 ?_
 refine JT (λg=>?_) λg=>?_
 refine J16 ?_
 refine eT1 ?_
 exact λJ h=>⟨by unfold RuD.err;rw[E9 (show ¬r.m.Okk from Na g),E9 (show ¬(RuL.d r).m.Okk from Na g)],h.frm⟩
 refine J9 ?_
 refine zV (An U U DV (cellAt (DQ r))) U<|J1 ?_
 refine JT (λv=>?_) λv=>?_
 refine J15 ?_
 refine eT1 ?_
 exact λJ h=>⟨by unfold RuD.err L9;rw[IR (show(RuL.d r).m.Okk from OE g),IR D4],h.frm⟩
 refine J8 ?_
 refine zV (An U U DV (cellAt (DQ r))) U<|J5 ?_
 refine oLp (λj:Nat=>[(31,iI j),(30,iI r.acts.length),(29,.slice r.ad r.acts.length r.c),(14,iI k),(13,iI 1),(12,.slice (aG b) 1 c)]) (λ_=>[]) (λj=>j<=r.acts.length/\∀i a,i<j->r.acts[i]?=some a->a.Ok) (λj=>r.acts.length-j) 0 ⟨Lv _,λi a h=>absurd h W⟩ ?_
 rintro j ⟨hj,B⟩
 refine J2 ?_
 refine JT (λF=>?_) λF=>?_
 refine J10 ?_
 obtain⟨a,A⟩:∃a,r.acts[j]?=some a:=Gx
 obtain⟨N,o1,D,r1⟩:=S (by intro hn;have:=I3 r.acts;rw[hn] at this;simp at this;omega)
 refine zV ((AA (b:=N) (off:=o1) (lo:=j) U (by show some (Value.slice r.ad _ _)=_;rw[D]) U underlying221 BV U W)) U ?_
 refine zV (AB (cs:=acL a) U U Hw.h (CU a) (DP (λh=>h) (Rg.seg CU r1 A))) U<|zy U DY.h U U<|?_
 intro g7 Z
 refine J6 ?_
 refine zk CkO U (λw G=>AcH w a (K.BI (λh=>h) G))<|J6 ?_
 refine JT (λu=>?_) λu=>?_
 refine J19 ?_
 refine eT1 ?_
 exact λJ h=>⟨by unfold RuD.err;rw[E9 (Na u),IR (show(RuL.d r).m.Okk from OE g),Yy (xs:=(RuL.d r).acts) (λq=>v D4) A (Na u)],h.frm⟩
 refine J10 ?_
 exact eW (j+1) W ⟨W,λi M hi z=>by
 by_cases e:i=j
 .subst e;rw[A] at z;cases z;exact OE u
 .exact B i M W z⟩
 refine J14 ?_
 exact eW (k+1) W ⟨W,λ_=>by unfold RuD.err;rw[IR (show(RuL.d r).m.Okk from OE g)];exact AbU (λq=>v D4) λi a hi=>B i a D4⟩
 refine J15 ?_
 refine eT1 ?_
 obtain rfl:k=1:=W
 exact λJ h=>⟨by rw[H U],h.frm⟩
theorem MCmp_c(w:Wd)(m n:Mt):
 Cl 264 #[mtV m,mtV n] w (RvF (iI (HV m n 9)) w):=by
 refine en0 func264 U ntmps264 U<|J2 ?_
 refine zx U U U U U<|λj A=>zx U U U U U<|λr B=>J10 ?_
 refine oLp (λk:Nat=>[(7,iI k),(2,pG j),(3,pG r)]) (λ_=>[.row r (mtL n),.row j (mtL m)]) (λk=>k<=9/\HV m n k=0) (λk=>9-k) 0 ⟨Lv _,rfl⟩ ?_
 rintro k ⟨hk,f⟩
 refine J2 ?_
 refine JT (λz=>?_) λz=>?_
 refine J15 ?_
 refine WC.AS mixed<|rF 9 [0,1,2,4,5,6,9,10,11,13,14,15]<|?_
 refine J2 ?_
 refine pV (AG (lo:=k) U U U underlying218 CF W W) U<|J2 ?_
 refine pV (AG (lo:=k) U U U underlying218 CF W W) U<|J2 ?_
 refine pV (AG (lo:=k) U U U underlying218 CF W W) U<|J2 ?_
 refine pV (AG (lo:=k) U U U underlying218 CF W W) U<|J1 ?_
 refine rA 3 [3,7,8,12,16,17] U<|qV (An U U Gn.h (cellAt (G4 m W))) U<|qV (An U U Gn.h (cellAt (G4 n W))) U<|qC CkO U (λw b=>Yi w (m.mask k) (n.mask k))<|qV (An U U Gn.h (cellAt (Ic m W))) U<|qV (An U U Gn.h (cellAt (Ic n W))) U<|qC CkO U (λw b=>Yi w (m.val k) (n.val k))<|J1 ?_
 refine rO 2 [18]<|zB underlying34 AZ G0 U U<|?_
 intro v u
 refine J1 ?_
 refine rA 0 [19,20] U<|qC CkO U (λw b=>Or_c w _ _ _ (b.cell U) (b.cell U))<|?_
 refine J7 ?_
 refine JT (λa=>?_) λa=>?_
 refine J15 ?_
 refine eT1 ?_
 have g:HV m n (k+1)=(if EF (m.mask k) (n.mask k)≠0 then EF (m.mask k) (n.mask k) else EF (m.val k) (n.val k)):=(by show(if HV m n k≠0 then HV m n k else _)=_;rw[E9 λq=>q f])
 have i:=Sb (m:=m) (n:=n) (k:=k+1) (by rw[g];exact a) (8-k)
 rw[show k+1+(8-k)=9 by omega] at i
 exact λD h=>⟨by rw[i,g],h.frm⟩
 refine J10 ?_
 exact eW (k+1) W ⟨W,by show(if _ then _ else _)=_;rw[E9 λq=>q f];exact Acp.1 a⟩
 refine J15 ?_
 refine eT1 ?_
 obtain rfl:k=9:=W
 exact λD h=>⟨by rw[f],h.frm⟩
theorem Ty(e:EnL):seg e.cells 2 18=mtL e.r.m:=by
 unfold seg EnL.cells
 exact(If (List.take 18) (show List.drop 2 (iI e.prio::iI e.mark::e.r.cells)=List.drop 0 e.r.cells from rfl)).trans (Ua e.r)
theorem Ad3(e:EnL):seg e.cells 2 19=e.r.cells:=by
 unfold seg EnL.cells
 show List.take 19 e.r.cells=_
 exact Aco (by rw[RuL.len];omega)
theorem Ni(w:Wd)(x y:EnL):
 Cl 188 #[aA x.cells,aA y.cells] w (RvF (iI (PG x.d y.d)) w):=by
 refine en0 func188 U ntmps188 U<|J2 ?_
 refine zx U U U U U<|λj g=>zx U U U U U<|λq i=>J4 ?_
 refine WC.AS mixed<|rF 9 [0,2,5,6,8,9]<|?_
 refine J7 ?_
 refine rA 3 [1,3,4,7,10,11] U<|qV (An U U i3o.h (cellAt (v:=iI y.prio) U)) U<|qV (An U U i3o.h (cellAt (v:=iI x.prio) U)) U<|qC CkO U (λw a=>LY w y.prio x.prio)<|qV (AB U U Ad.h U (AT (m:=18) (Ty x))) U<|qV (AB U U Ad.h U (AT (m:=18) (Ty y))) U<|qC CkO U (λw a=>MCmp_c w x.r.m y.r.m)<|?_
 refine J1 ?_
 refine rO 2 [12]<|zB underlying34 AZ G0 U U<|?_
 intro f b
 refine J1 ?_
 refine rA 0 [13,14] U<|qC CkO U (λw a=>Or_c w _ _ _ (a.cell U) (a.cell U))<|?_
 refine J5 ?_
 exact Aw
theorem AbE(w:Wd)(x:EnL)(u:x.d.In)(z:Rg w x.r.ad (CJ x.r.acts))(q:GW w):
 Cl 185 #[aA x.cells] w (RvF (iI x.d.err) w):=by
 refine en0 func185 U ntmps185 U<|J2 ?_
 refine zx U U U U U<|λB A=>J7 ?_
 refine zV (An U U i3o.h (cellAt (v:=iI x.prio) U)) U<|JT (λi=>?_) (λi=>?_)
 refine J15 ?_
 exact B0
 refine J2 ?_
 refine zS (An U U i3o.h (cellAt (v:=iI x.prio) U)) U<|JT (λj=>?_) (λj=>?_)
 refine J11 ?_
 exact B0
 refine J9 ?_
 refine zV (AB U U Ji.h U (AT (m:=19) (Ad3 x))) U<|zB underlying54 BJ CZ.h (by show some (AK (List.replicate 1 _).flatten 0 (x.r.cells))=some x.r.cells;rw[AH (by rw[RuL.len];rfl)]) U ?_
 intro a f
 refine zk CkO U (λw b=>AbO w _ 1 x.r u.r (AL (g:=a) w b) (z.frm b.frm λ_ _ _ h=>h) (q.BI (λh=>h) b))<|J4 ?_
 refine eT1 ?_
 exact λw' h=>⟨by unfold EnD.err;rw[IR (by show 0<=x.prio/\x.prio<=1073741824;omega)];rfl,h.frm⟩

theorem AbC(w:Wd)(ad:Option Addr)(c:Nat)(xs:List Ac)(u:Rg w ad (AM acL xs))(g:(AM acL xs).all one=true)(i:xs.length<=100000):
 Cl 247 #[.slice ad xs.length c] w λe w'=>∃f r E,e=.returned (.slice f xs.length r)/\Vec 10 f xs.length r (AM acL xs) E/\St Fx w w' E:=by
 cases ad with
 | none =>
  obtain rfl:xs=[]:=Ago λh=>by
   obtain⟨b,o,e,_⟩:=u λi=>h (AbQ.1 (by have:=AP CU xs;rw[i] at this;simp at this;omega))
   cases e
  refine en0 func247 U ntmps247 U<|J9 ?_
  refine zV (AI true U U underlying221 U) U<|J10 ?_
  refine eT1 ?_
  exact λw' h=>⟨none,0,[],rfl,Vec.nil 10,h⟩
 | some a =>
  have j:=AP CU xs
  refine en0 func247 U ntmps247 U<|J9 ?_
  refine zV (AI false U U underlying221 U) U<|J7 ?_
  refine zB underlying221 BV DY.h U U<|λA B=>J1 ?_
  refine WL.AU U U U underlying221 underlying221 BV Lc DY.h U U (E:=[.row A []]) (Vec.row (k:=0) (s:=10) (c:=0) U U W) (new:=AM acL xs) (λh=>by obtain⟨v,D,z,q⟩:=u (λi=>by rw[i] at j;simp at j;omega);exact⟨v,D,z,DP (λh=>h) q⟩) j g W (.none U) U U ?_
  exact Al
structure CsAc where
 k:Nat
 j:Nat
 ys:List Ac
theorem V0(p:Nat->Prop)(w0 w:Wd)(L E:eL)(ad:Option Addr)(c:Nat)(xs:List Ac)(eq:Ac->Ac->Bool)(O:∀x y,eq x y=true<->acL x=acL y)(hV:Vec 10 ad xs.length c (AM acL xs) E)(hS:St p w0 w (E++L))(hn:xs.length<=100000):
 Cl 250 #[.slice ad xs.length c] w λe w'=>∃E',e=.returned (.slice ad (uniq eq xs).length c)/\Vec 10 ad (uniq eq xs).length c (AM acL (uniq eq xs)) E'/\St p w0 w' (E'++L):=by
 by_cases T:xs.length<2
 .have e0:uniq eq xs=xs:=(match xs,T with | [],_=>rfl | [x],_=>rfl|_::_::_,h=>absurd h C9)
  rw[e0]
  refine enter func250 U ntmps250 U hS ?_
  exact Bz
 have hlen:=@CU
 obtain⟨g,R,rfl,rfl,hcl,hcap⟩:=hV.split λe=>T (by rw[e];exact Nat.zero_lt_two)
 have hel:=AP hlen xs
 rw[AC,hel] at hcl
 refine enter func250 U ntmps250 U hS<|J10 ?_
 refine zV ((JF U U U).f W) U<|J12 ?_
 refine oLp (λk:Nat=>[(3,iI k),(0,.slice (aG g) xs.length c)]) (λ_=>.row g (AM acL xs++R)::L) (λk=>1<=k/\k<=xs.length/\uniq eq (xs.take k)=xs.take k) (λk=>xs.length-k) 1 ⟨M2 _,W,by match xs,T with|x::l,_=>rfl⟩ ?_
 rintro k ⟨hk1,hk,hu⟩
 refine J6 ?_
 refine JT (λS=>?_) λS=>?_
 refine J8 ?_
 refine cQ mixed<|J2 ?_
 obtain⟨m,rfl⟩:∃m,k=m+1:=⟨k-1,W⟩
 obtain⟨a,ha⟩:∃a,xs[m]?=some a:=Gx
 obtain⟨b,Z⟩:∃b,xs[m+1]?=some b:=Gx
 obtain⟨H,hb25⟩:∃q,q=eq b a:=⟨_,rfl⟩
 have aa:H=true<->acL b=acL a:=(by rw[hb25];exact O b a)
 have hut:=Nq (eq:=eq) ha Z
 have htk:xs.take (m+1)++[b]=xs.take (m+2):=(by rw[show m+2=(m+1)+1 from rfl,Ahz (show m+1<xs.length by omega)];exact If (λz=>xs.take (m+1)++[z]) (Ade (Z.symm.trans (FS _))))
 refine qV (AA (lo:=m+1) U U U underlying221 BV W W) U<|qV (AB (cs:=acL b) U U Hw.h (CU b) (AT (m:=10) (by rw[PP];exact DF hlen Z))) U ?_
 refine J3 ?_
 refine qV (AA (lo:=m) U U U underlying221 BV W W) U<|qV (AB (cs:=acL a) U U Hw.h (CU a) (AT (m:=10) (by rw[PP];exact DF hlen ha))) U ?_
 refine qV (GN (b:=H) U U U Aaq Aap U U aa) U ?_
 cases H
 exact B6
 refine J7 ?_
 refine zV (HB (lo:=m+1) U U U underlying221 BV W W W) U<|J10 ?_
 refine WC.loop (λx:CsAc=>[(3,iI x.k),(5,iI x.j),(4,.slice (some ⟨g,0+(m+1)*10,none⟩) (xs.length-(m+1)) (c-(m+1))),(0,.slice (aG g) xs.length c)]) (λx=>.row g (AM acL x.ys++R)::L) (λx=>x.ys.length=xs.length/\1<=x.j/\m+1+x.j<=xs.length/\x.k<=m+x.j/\x.ys.take x.k=uniq eq (xs.take (m+1+x.j))/\∀i,m+x.j<=i->x.ys[i]?=xs[i]?) (λx=>xs.length-x.j) ⟨m+1,1,xs⟩ ⟨rfl,M2 _,C7,M2 _,by dsimp only;rw[show m+1+1=m+2 from rfl,hut, <- hb25,IR rfl,hu,Acx],λi _=>rfl⟩ (.int rfl (by first|rfl|(dsimp only;omega)) (.int rfl rfl (.cons rfl (.cons rfl .nil)))) (.refl _) ?_
 rintro⟨k,j,G⟩ ⟨hyl,ab,hj,ac,r,A⟩
 dsimp only at hyl ab hj ac r A⊢
 refine J6 ?_
 refine JT (λX=>?_) λX=>?_
 refine J8 ?_
 refine cQ mixed<|J2 ?_
 obtain⟨i,rfl⟩:∃i,j=i+1:=⟨j-1,W⟩
 obtain⟨J,K⟩:∃a,xs[m+1+i]?=some a:=Gx
 obtain⟨u,M⟩:∃b,xs[m+1+i+1]?=some b:=Gx
 obtain⟨B,D⟩:∃q,q = !eq u J:=⟨_,rfl⟩
 have N:B=true<->¬acL u=acL J:=(by rw[D, <- O];simp)
 have v:eq u J = !B:=(by rw[D];simp)
 have F:=Nq (eq:=eq) K M
 have ya:G[m+1+i]?=some J:=(by rw[A _ (W)];exact K)
 have yb:G[m+1+i+1]?=some u:=(by rw[A _ (W)];exact M)
 refine qV (AA (lo:=i+1) U U U underlying221 BV W W) U<|qV (AB (cs:=acL u) U U Hw.h (CU u) (AT (m:=10) (by rw[show 0+(m+1)*10+(i+1)*10=(m+1+i+1)*10 by omega];exact DF hlen yb))) U ?_
 refine J3 ?_
 refine qV (AA (lo:=i) U U U underlying221 BV W W) U<|qV (AB (cs:=acL J) U U Hw.h (CU J) (AT (m:=10) (by rw[show 0+(m+1)*10+i*10=(m+1+i)*10 by omega];exact DF hlen ya))) U ?_
 refine qV (LN (b:=B) U U U Aaq Aap U U N) U ?_
 cases B
 refine J11 ?_
 exact eW ⟨k,i+2,G⟩ C7 ⟨hyl,C7,C7,C7,by
 dsimp only
 rw[show m+1+(i+2)=m+1+i+2 by omega,F,v,IR (show(!false)=true from rfl),Acx,show m+1+i+1=m+1+(i+1) by omega];exact r,λq hq=>by dsimp only at hq ⊢;exact A q W⟩ (.int U U (.int U C7 (.cons U (.cons U .nil))))
 refine J9 ?_
 refine zV (AA (lo:=i+1) U U U underlying221 BV W W) U<|zV (AB (cs:=acL u) U U Hw.h (CU u) (AT (m:=10) (by rw[show 0+(m+1)*10+(i+1)*10=(m+1+i+1)*10 by omega];exact DF hlen yb))) U ?_
 refine zV (AA (lo:=k) U U U underlying221 BV W W) U<|WL.FN U U U U Hw.h U D6 (.none U) U ?_
 refine WL.as (L':=.row g (AM acL (G.set k u)++R)::L) (by rw[PP,Jg hlen G k u R (W)]) ?_
 refine J14 ?_
 exact eW ⟨k+1,i+2,G.set k u⟩ C7 ⟨by dsimp only;rw[AbI];exact hyl,C7,C7,C7,by
 dsimp only
 rw[show m+1+(i+2)=m+1+i+2 by omega,F,v,E9 (show ¬(!true)=true by decide),show m+1+i+1=m+1+(i+1) by omega, <- r,Ahz Dm,List.take_set_of_le (M2 _),List.getElem_set_self],λq hq=>by dsimp only at hq ⊢;rw[Adq W];exact A q W⟩
 refine J12 ?_
 refine zV (HB (lo:=k) U U U underlying221 BV W W W) U<|WL.clear (s:=10) U U underlying221 DY.h U U D6 (.none U) U ?_
 refine J6 ?_
 refine zV (Hv (hi:=k) U U U underlying221 BV W W) U<|J9 ?_
 refine eT1 ?_
 obtain rfl:j=xs.length-(m+1):=W
 have e1:uniq eq xs=G.take k:=(by rw[r,show m+1+(xs.length-(m+1))=xs.length by omega,Ah6])
 have e2:(uniq eq xs).length=k:=(by rw[e1,Ahp];omega)
 refine λw' h=>⟨[.row g _],by rw[e2],?_,h⟩
 rw[e2,e1]
 refine Vec.row ?_ ?_ W
 .rw [PP,JU (by rw[Ii,AC,AP hlen,hyl];show _+(xs.length-k)*10<=_;omega)]
  exact GR hlen G k R W
 .rw [DZ _ _ _ (by rw[Ii,AC,AP hlen,hyl];show _+(xs.length-k)*10<=_;omega),AC,AP hlen,hyl]
  exact hcl
 exact A6
end Gq
end Go.Proofs.YtmhahajadgkolaaGreatDoor
namespace Go.Proofs.YtmhahajadgkolaaGreatDoor
open Go.RowKit Go.Shelf Tryz

def ren248:Ren:=⟨λn=>match n with|6=>248|14=>317|15=>125|20=>349|21=>350|22=>351|23=>352|24=>353|25=>354|26=>355|27=>356|28=>220|29=>221|46=>365|47=>283|48=>284|49=>366|50=>367|57=>372|n=>n,λn=>match n with|0=>0|3=>3|4=>4|5=>5|9=>9|22=>221|24=>225|25=>377|39=>182|45=>354|46=>355|50=>119|53=>29|55=>23|66=>424|70=>428|76=>467|77=>202|n=>n,λn=>n⟩
set_option maxRecDepth 100000 in
theorem Ahc:SlLaysF0.n6 prog ren248 where
 mixed:=mixed
 f6:=⟨f248.name,C8,func248.trans (If some C6)⟩
 f14:=⟨f317.name,C8,func317.trans (If some C6)⟩
 f15:=func125.trans (If some C6)
 f20:=⟨f349.name,C8,func349.trans (If some C6)⟩
 f21:=⟨f350.name,C8,func350.trans (If some C6)⟩
 f22:=⟨f351.name,C8,func351.trans (If some C6)⟩
 f23:=⟨f352.name,C8,func352.trans (If some C6)⟩
 f24:=⟨f353.name,C8,func353.trans (If some C6)⟩
 f25:=⟨f354.name,C8,func354.trans (If some C6)⟩
 f26:=⟨f355.name,C8,func355.trans (If some C6)⟩
 f27:=⟨f356.name,C8,func356.trans (If some C6)⟩
 f28:=func220.trans (If some C6)
 f29:=func221.trans (If some C6)
 f46:=⟨f365.name,C8,func365.trans (If some C6)⟩
 f47:=func283.trans (If some C6)
 f48:=func284.trans (If some C6)
 f49:=⟨f366.name,C8,func366.trans (If some C6)⟩
 f50:=⟨f367.name,C8,func367.trans (If some C6)⟩
 f57:=⟨f372.name,C8,func372.trans (If some C6)⟩
 t0:=underlying0
 a0:=isAgg0
 z0:=sizeOf0
 v0:=zeroValue0
 t3:=underlying3
 a3:=isAgg3
 z3:=sizeOf3
 v3:=zeroValue3
 t4:=underlying4
 a4:=isAgg4
 z4:=sizeOf4
 v4:=zeroValue4
 t5:=underlying5
 a5:=isAgg5
 z5:=sizeOf5
 v5:=zeroValue5
 t9:=underlying9
 a9:=isAgg9
 z9:=sizeOf9
 v9:=zeroValue9
 t22:=underlying221
 a22:=isAgg221
 z22:=sizeOf221
 v22:=zeroValue221
 t25:=underlying377
 a25:=isAgg377
 z25:=sizeOf377
 v25:=zeroValue377
 t39:=underlying182
 a39:=isAgg182
 z39:=sizeOf182
 v39:=zeroValue182
 t45:=underlying354
 a45:=isAgg354
 z45:=sizeOf354
 v45:=zeroValue354
 t46:=underlying355
 a46:=isAgg355
 z46:=sizeOf355
 v46:=zeroValue355
 t50:=underlying119
 a50:=isAgg119
 z50:=sizeOf119
 v50:=zeroValue119
 t53:=underlying29
 a53:=isAgg29
 z53:=sizeOf29
 v53:=zeroValue29
 t55:=underlying23
 a55:=isAgg23
 z55:=sizeOf23
 v55:=zeroValue23
 t66:=underlying424
 a66:=isAgg424
 z66:=sizeOf424
 v66:=zeroValue424
 t70:=underlying428
 a70:=isAgg428
 z70:=sizeOf428
 v70:=zeroValue428
 t76:=underlying467
 a76:=isAgg467
 z76:=sizeOf467
 v76:=zeroValue467
 t77:=underlying202
 a77:=isAgg202
 z77:=sizeOf202
 v77:=zeroValue202
end Go.Proofs.YtmhahajadgkolaaGreatDoor
namespace Go.Proofs.YtmhahajadgkolaaGreatDoor
open Go.RowKit Go.Sort Tryz
section Gq
attribute [local irreducible] WL WC WE WQ WP WH WR WM WRH

theorem AfC{α:Type}{c:α->α->Int}(h:Cm c):Go.Sort.SWO (ltOf c):=by
 constructor
 .intro x;unfold ltOf;exact Ro (by have:=h.refl x;omega)
 .intro x y z f g;unfold ltOf at *;have a:=Ai8 f;have b:=Ai8 g;exact UV (h.AeL a W)
 .intro x y z f g
  unfold ltOf at *
  have a:=Aep f;have b:=Aep g
  refine Ro λk=>?_
  have i:=h.sgn x y;have j:=h.sgn y x;have q:=h.sgn z y;have r:=h.sgn y z;have u:=h.sgn x z;have v:=h.sgn z x
  have t1:c y x<=0:=W
  have t2:c z y<=0:=W
  have:=h.tr z y x t2 t1
  omega
theorem asc_le{α:Type}{c:α->α->Int}(h:Cm c){f:List α}(q:AscBy c f):f.Pairwise λa b=>c a b<=0:=by
 rw[List.pairwise_iff_getElem]
 intro i j r u g
 have:=q i j _ _ (FS r) (FS u) g
 have s:=h.sgn f[i] f[j]
 omega
instance:Inhabited Ac:=⟨⟨0,λ_=>0⟩⟩
theorem La(a:Ac):∀v∈acL a,v.oneCell'=true:=λv b=>by
 rcases Rl.1 b with rfl|b
 .rfl
 .obtain ⟨i,_,rfl⟩:=Ab8.1 b;rfl
theorem Ae1{v:Vl}(h:v.oneCell'=true):one v=true:=by cases v<;>first|rfl|(simp[Value.oneCell'] at h)
theorem Gm{α:Type}{enc:α->vL}(h:∀x, ∀v∈enc x,v.oneCell'=true):∀xs:List α,(AM enc xs).all one=true
 | []=>rfl
 | x::xs=>by
  show(enc x++AM enc xs).all one=true
  rw[List.all_append,Gm h xs,Bool.and_true]
  exact Acw.2 λv a=>Ae1 (h x v a)
theorem BD{α:Type}{enc:α->vL}(h:∀x, ∀v∈enc x,v.oneCell'=true)(x:α):(enc x).all one=true:=Acw.2 λv a=>Ae1 (h x v a)
theorem Ahn(m:Mt):∀v∈mtL m,v.oneCell'=true:=λv hv=>by
 rcases LI.1 hv with hv|hv<;>(obtain⟨i,_,rfl⟩:=Ab8.1 hv;rfl)
theorem Nn(r:RuL):∀v∈r.cells,v.oneCell'=true:=λv a=>by
 rcases LI.1 a with a|a
 .exact Ahn _ v a
 .rw [Es.1 a];rfl
theorem IU(e:EnL):∀v∈e.cells,v.oneCell'=true:=λv a=>by
 rcases Rl.1 a with rfl|a
 .rfl
 rcases Rl.1 a with rfl|a
 .rfl
 .exact Nn _ v a
theorem Adi(p:Nat->Prop)(w0 w:Wd)(L E:eL)(ad:Option Addr)(c:Nat)(xs:List Ac)(v:Vec 10 ad xs.length c (CJ xs) E)(u:St p w0 w (E++L))(r:xs.length<1000000):
 Cl 248 #[.slice ad xs.length c,.func (.func 249) #[] #[]] w λe i =>
  e=.returned (.tuple #[])/\∃f g,f.Perm xs/\(f.Pairwise λa b=>Pe a b<=0)/\Vec 10 ad xs.length c (CJ f) g/\St p w0 i (g++L):=by
 refine(Aax (P:=prog) Ahc W isAgg225 sizeOf225 CU La Pe (AfC MU) 249 #[] CkO p w0 w L E ad c xs (λF D _ i _ x y=>ACmp_c i x y) v u W).mono ?_
 rintro e i ⟨A,f,g,B,z,q,j⟩
 exact⟨A,f,g,B,asc_le MU z,q,j⟩
open Classical in
noncomputable def acEq(a b:Ac):Bool:=decide (acL a=acL b)
theorem Q7(a b:Ac):acEq a b=true<->acL a=acL b:=by unfold acEq;simp
theorem Adp{a b:Ac}(i:a.Nz)(j:b.Nz)(h:acL a=acL b):a=b:=by
 have f:(Value.int .i64 a.set)=iI b.set:=(List.cons.inj h).1
 have g:ucs a.val 9=ucs b.val 9:=(List.cons.inj h).2
 refine Ac.ext' i j (by injection f) λk hk=>?_
 have this:(ucs a.val 9)[k]?=(ucs b.val 9)[k]?:=If (λz:vL=>z[k]?) g
 rw[Hk _ hk,Hk _ hk] at this
 injection this with this
 injection this
theorem Yx{a b:Ac}(h:acL a≠acL b)(f:a.Nz)(g:b.Nz):Pe a b≠0:=λe=>h (by rw[Ti f g e])
theorem Y7{xs h:List Ac}(j:h.Perm xs)(r:h.Pairwise λa b=>Pe a b<=0)(q:∀x∈xs,x.Nz):N5 xs (uniq acEq h):=by
 have f:∀x∈h,x.Nz:=λx g=>q x (j.mem_iff.1 g)
 refine⟨Qp MU r λx g y i e=>?_,λx=>(SI (λx g y i e=>Adp (f x g) (f y i) ((Q7 x y).1 e)) x).trans j.mem_iff⟩
 exact Yx (λk=>by rw[(Q7 x y).2 k.symm] at e;cases e) (f y i) (f x g)
def NormC(w g:Wd)(xs:List Ac)(e:Ending):Prop:=∃a f E b,e=.returned (.slice a b.length f)/\N5 xs b/\b.length<=xs.length/\Vec 10 a b.length f (CJ b) E/\St Fx w g E
theorem Yp(w:Wd)(ad:Option Addr)(c:Nat)(xs:List Ac)(H:Rg w ad (CJ xs))(F:∀x∈xs,x.Nz)(A:xs.length<=100000):
 Cl 167 #[.slice ad xs.length c] w λe j=>NormC w j xs e:=by
 refine en0 func167 U ntmps167 U<|J8 ?_
 refine zK CkO U<|λq f=>(AbC q ad c xs (H.frm f.frm λ_ _ _ h=>h) (Gm La xs) A).mono ?_
 rintro e j ⟨b,r,B,rfl,u,a⟩
 refine⟨_,_,rfl,f.join a,?_⟩
 refine J6 ?_
 refine zK CkO U<|λq f=>(Adi Fx _ q [] B b r xs u f W).mono ?_
 rintro e j ⟨rfl,z,D,i,G,g,a⟩
 refine⟨_,_,rfl,a,?_⟩
 refine J5 ?_
 refine zK CkO U<|λq f=>?_
 rw[<- i.length_eq] at g
 rw[<- i.length_eq]
 refine(V0 Fx _ q [] D b r z acEq Q7 g f (by rw[i.length_eq];exact A)).mono ?_
 rintro e j ⟨E,rfl,v,a⟩
 refine⟨_,_,rfl,a,?_⟩
 refine J4 ?_
 refine eT1 ?_
 exact λj h=>⟨b,r,E,uniq acEq z,rfl,Y7 i G F,by have:=X3 (eq:=acEq) z;rw[i.length_eq] at this;exact this,v,by simpa using h⟩

end Gq
end Go.Proofs.YtmhahajadgkolaaGreatDoor
namespace Go.Proofs.YtmhahajadgkolaaGreatDoor
open Go.RowKit Go.Sort Go.Shelf Tryz

end Go.Proofs.YtmhahajadgkolaaGreatDoor
namespace Go.Proofs.YtmhahajadgkolaaGreatDoor
open Go.RowKit Tryz

def RT(x:Ac):List Ac->List Ac
 | []=>[x]
 | y::l=>if Pe x y<0 then x::y::l else if Pe x y=0 then y::l else y::RT x l
def GL:List Ac->List Ac
 | []=>[]
 | x::l=>RT x (GL l)
theorem OB(x z:Ac):∀l:List Ac,z∈RT x l->z=x\/z∈l
 | [],h=>.inl (Es.1 h)
 | y::l,h=>by
  unfold RT at h
  split at h
  .exact Rl.1 h
  split at h
  .exact .inr h
  .rcases Rl.1 h with rfl|h
   .exact .inr (Fr ..)
   .exact (OB x z l h).imp id (EQ _)
theorem W9(x:Ac):∀l:List Ac,(RT x l).length<=l.length+1
 | []=>M2 _
 | y::l=>by
  unfold RT
  split
  .exact M2 _
  split
  .exact Nat.le_succ _
  .exact Nat.succ_le_succ (W9 x l)
theorem Xa{x:Ac}(b:x.Nz):∀ {l:List Ac},(∀y∈l,y.Nz)->∀z,z∈RT x l<->z=x\/z∈l
 | [],_,z=>by unfold RT;simp
 | y::l,a,z=>by
  refine⟨OB x z _,λh=>?_⟩
  unfold RT
  split
  .exact Rl.2 h
  split
  .rename_i g
   have e:=Ti b (a y (Fr ..)) g
   subst e
   rcases h with rfl|h
   .exact Fr ..
   .exact h
  .have f:=Xa b (l:=l) (λy i=>a y (EQ _ i)) z
   rcases h with rfl|h
   .exact EQ _ (f.2 (.inl U))
   .rcases Rl.1 h with rfl|h
    .exact Fr ..
    .exact EQ _ (f.2 (.inr h))
theorem Qb(x:Ac):∀ {l:List Ac},l.Pairwise (λa b=>Pe a b<0)->(RT x l).Pairwise λa b=>Pe a b<0
 | [],_=>List.pairwise_singleton _ _
 | y::l,h=>by
  have g:=List.pairwise_cons.1 h
  unfold RT
  split
  .rename_i i
   refine List.pairwise_cons.2 ⟨λz f=>?_,h⟩
   rcases Rl.1 f with rfl|f
   .exact i
   .have:=g.1 z f;exact MU.AeL i W
  split
  .exact h
  .rename_i i j
   refine List.pairwise_cons.2 ⟨λz f=>?_,Qb x g.2⟩
   rcases OB x z l f with rfl|f
   .have:=MU.sgn z y;omega
   .exact g.1 z f
theorem KJ:∀ {xs:List Ac}{z:Ac},z∈GL xs->z∈xs
 | [],_,h=>by cases h
 | x::l,z,h=>by
  rcases OB x z _ h with rfl|h
  .exact Fr ..
  .exact EQ _ (KJ h)
theorem H6:∀xs:List Ac,(GL xs).length<=xs.length
 | []=>M2 _
 | x::l=>AcC (W9 x _) (Nat.succ_le_succ (H6 l))
theorem AaV:∀ {xs:List Ac},(∀x∈xs,x.Nz)->N5 xs (GL xs)
 | [],_=>⟨List.Pairwise.nil,λ_=>Iff.rfl⟩
 | x::l,h=>by
  have b:=AaV (xs:=l) λy a=>h y (EQ _ a)
  refine⟨Qb x b.1,λz=>(Xa (h x (Fr ..)) (λy a=>h y (EQ _ (KJ a))) z).trans ?_⟩
  rw[b.2,Rl]
theorem Si{xs a:List Ac}(b:∀x∈xs,x.Nz)(h:N5 xs a):GL xs=a:=N5.one (AaV b) h
def EnD.norm(e:EnD):EnD:=⟨e.prio,e.mark,e.r.m,GL e.r.acts⟩
def Strict(T:List EnD):Prop:=T.Pairwise λa b=>PG a b<0
def FC(T:List EnD):Prop:=T.Pairwise λa b=>PG a b≠0
def Gp(T:List EnD)(outs:List Int):List EnD:=T.filter λe=>decide (e.mark ∉ outs)
structure ChangeP(most:Int)(T:List EnD)(outs:List Int)(ins:List EnD)(code:Int)(T':List EnD):Prop where
 err:Gz EnD.err ins≠0->code=Gz EnD.err ins
 full:Gz EnD.err ins=0->(ins.length:Int) > most-(Gp T outs).length->code=30
 have_:Gz EnD.err ins=0->(ins.length:Int)<=most-(Gp T outs).length->¬FC (Gp T outs++ins.map EnD.norm)->code=5
 ok:Gz EnD.err ins=0->(ins.length:Int)<=most-(Gp T outs).length->FC (Gp T outs++ins.map EnD.norm)->code=0
 not:code≠0->T'=T
 yes:code=0->Strict T'/\T'.Perm (Gp T outs++ins.map EnD.norm)
theorem FC.perm{A B:List EnD}(h:A.Perm B)(b:FC A):FC B:=(List.Perm.pairwise_iff (λa e=>a (AaZ.zero e)) h).1 b
section Gq
attribute [local irreducible] WL WC WE WQ WP WH WR WM WRH

structure TbL where
 most:Int
 ad:Option Addr
 c:Nat
 es:List EnL
def TbL.cells(t:TbL):vL:=[iI t.most,.slice t.ad t.es.length t.c]
def TbL.d(t:TbL):List EnD:=t.es.map EnL.d
def DE(K:eL)(r:RuL):Prop:=∃E,Vec 10 r.ad r.acts.length r.c (CJ r.acts) E/\∀x∈E,x∈K
def I7(K:eL)(a:List EnL):Prop:=∀e∈a,DE K e.r
theorem DE.sub{K a:eL}{r:RuL}(h:DE K r)(b:∀x∈K,x∈a):DE a r:=let ⟨E,h1,h2⟩:=h; ⟨E,h1,λx f=>b x (h2 x f)⟩
theorem Vec.rg{s:Nat}{ad:Option Addr}{k c:Nat}{xs:vL}{E:eL}{w:Wd}(i:Vec s ad k c xs E)(r:∀e∈E,e.holds w):Rg w ad xs:=λq=>by
 rcases i with⟨_,_,_,h,_⟩|⟨g,b,rfl,rfl,u,z,hk⟩
 .exact absurd h q
 .refine ⟨g,0,rfl,λj v a=>?_⟩
  have f:Row w g b:=r (.row g b) (Es.2 U)
  rw[PP]
  refine f.cell ?_
  rw[<- u,Agg] at a
  split at a
  .exact a
  .cases a
theorem Pw{α:Type}(q:α->Bool)(xs:List α){k:Nat}(h:k<xs.length):(xs.take (k+1)).filter q=(xs.take k).filter q++(if q xs[k] then[xs[k]] else[]):=by
 rw[Ahz h,List.filter_append]
 congr 1
 by_cases a:q xs[k]=true
 .rw [IR a,List.filter_cons_of_pos a];rfl
 .rw [E9 a,List.filter_cons_of_neg a];rfl
def JQ(outs:List Int)(e:EnL):Bool:=decide (e.mark ∉ outs)
structure WoS where
 k:Nat
 es:Array MapEntry
 c:Nat
 m:Vl->Option Vl
structure WpS where
 k:Nat
 ls:List EnL
 ad:Option Addr
 c:Nat
 E:eL
theorem Ad2(e:EnL):e.cells[1]?=some (iI e.mark):=rfl
set_option maxRecDepth 8000 in
theorem Th(w:Wd)(g:Nat)(t:TbL)(oa:Option Addr)(oc:Nat)(outs:List Int)(hg:w.cell? ⟨g,1,none⟩=some (.slice t.ad t.es.length t.c))(hes:Rg w t.ad (DA t.es))(ho:Rg w oa (outs.map (Value.int .i64)))(hn:t.es.length<=100000)(hon:outs.length<=100000):
 Cl 186 #[pG g,.slice oa outs.length oc] w λe w'=>∃ad c E,e=.returned (.slice ad (t.es.filter (JQ outs)).length c)/\Vec 21 ad (t.es.filter (JQ outs)).length c (DA (t.es.filter (JQ outs))) E/\St Fx w w' E:=by
 refine en0 func186 U ntmps186 U<|J9 ?_
 refine WL.Xj U U underlying396 (.none U) U U<|λi hg15=>J12 ?_
 refine oLp (λx:WoS=>[(18,iI x.k),(17,iI outs.length),(16,.slice oa outs.length oc),(5,.map (some i)),(0,pG g)]) (λx=>[.obj i (.map x.es x.c)]) (λx=>x.k<=outs.length/\CP (K7 .i64) x.es x.m/\(∀q:Int,(x.m (iI q)).isSome=true<->q∈outs.take x.k)/\∀a v,x.m a=some v->v=.agg #[]) (λx=>outs.length-x.k) ⟨0, #[],0,λ_=>none⟩ ⟨Lv _,CP.empty _,λq=>by simp,λa v h=>by cases h⟩ ?_
 rintro⟨k,S,mc,m⟩ ⟨hk,hM,X,G⟩
 dsimp only at hk hM X G⊢
 refine J2 ?_
 refine JT (λB=>?_) λB=>?_
 refine J10 ?_
 obtain⟨y,hy⟩:∃y,outs[k]?=some y:=Gx
 obtain⟨b1,o1,ea1,r1⟩:=ho (by intro hh;have:=If List.length hh;simp at this;rw[this] at B;simp at B;omega)
 refine zV ((AA (b:=b1) (off:=o1) (lo:=k) U (by show some (Value.slice oa _ _)=_;rw[ea1]) U underlying34 AZ U W)) U ?_
 refine zV (An U U i3o.h (BY (λh=>h) (r1 _ (iI y) (by rw[Aed,WF,hy];rfl)))) U ?_
 refine J7 ?_
 refine WL.mapUpdate U U U U underlying396 (OF underlying3) (K7.mk _ _) (hM) (.none U) U<|λesU cU hMU hsU=>J7 ?_
 refine eW ⟨k+1,esU,cU,CR m (iI y) (some (.agg #[]))⟩ C7 ⟨C7,hMU,λq=>?_,λa v h=>?_⟩
 .show (CR m (iI y) (some (.agg #[])) (iI q)).isSome=true<->q∈outs.take (k+1)
  rw[AhG,hy,Aiw,LI,Es, <- X q]
  by_cases e:q=y
  .subst e;rw[DC];simp
  .rw [CI _ _ λh=>e (by injection h)];simp[e]
 .have h:CR m (iI y) (some (.agg #[])) a=some v:=h
  by_cases e:a=iI y
  .subst e;rw[DC] at h;cases h;rfl
  .rw [CI _ _ e] at h;exact G a v h
 refine J14 ?_
 refine zV (An U U TI.h (BY (λh=>h) hg)) U<|J1 ?_
 refine WL.Mm (m:=0) (c:=t.es.length) U U U W W W underlying231 ID W W BC CG U (.none U) U U<|λr hg31=>?_
 generalize hZ:List.flatten _=Z
 have hV0:Vec 21 (aG r) 0 t.es.length [] [.row r Z]:=E8
 refine J9 ?_
 refine zV (An U U TI.h (BY (λh=>h) hg)) U<|J5 ?_
 refine oLp (λx:WpS=>[(37,iI x.k),(36,iI t.es.length),(35,.slice t.ad t.es.length t.c),(8,.slice x.ad x.ls.length x.c),(5,.map (some i))]) (λx=>x.E++[.obj i (.map S mc)]) (λx=>x.k<=t.es.length/\x.ls=(t.es.take x.k).filter (JQ outs)/\Vec 21 x.ad x.ls.length x.c (DA x.ls) x.E) (λx=>t.es.length-x.k) ⟨0,[],aG r,t.es.length,[.row r Z]⟩ ⟨Lv _,rfl,hV0⟩ ?_
 rintro⟨z,H,ad,c,E⟩ ⟨hk2,j,T⟩
 dsimp only at hk2 j T⊢
 have hfl:H.length<=100000:=(by rw[j];exact AcC (List.length_filter_le _ _) (by rw[Ahp];omega))
 refine J2 ?_
 refine JT (λh38=>?_) λh38=>?_
 refine J10 ?_
 obtain⟨b2,o2,ea2,r2⟩:=hes (by intro hh;have:=DO t.es;rw[hh] at this;simp at this;omega)
 have hx:t.es[z]?=some (t.es[z]' W):=FS _
 have D:=Pw (JQ outs) t.es (show z<t.es.length by omega)
 generalize t.es[z]' W=x at hx D
 refine zV ((AA (b:=b2) (off:=o2) (lo:=z) U (by show some (Value.slice t.ad _ _)=_;rw[ea2]) U underlying231 BC U W)) U ?_
 refine zV (AB (cs:=x.cells) U U FV.h (EnL.len x) (DP (λh=>h) (Rg.seg EnL.len r2 hx))) U<|zy U CG U U<|?_
 intro g10 hg10
 refine J7 ?_
 refine zV (An U U i3o.h (cellAt (Ad2 x))) U<|zV (ED U U U underlying396 (OF underlying3) (K7.mk _ _) U (C4 (es:=S) (c:=mc) i C9) (hM)) U ?_
 have R:(m (iI x.mark)).getD (.agg #[])=.agg #[]:=(by cases hq:m (iI x.mark) with|none=>rfl|some v=>exact G _ v hq)
 rw[R]
 refine J3 ?_
 generalize hb:(m (iI x.mark)).isSome=bb
 cases bb
 refine zy U Aaz.h U U<|λM O=>J14 ?_
 refine zB underlying231 BC CG (by show some (AK (List.replicate 1 _).flatten 0 x.cells)=some x.cells;rw[AH (by rw[EnL.len];rfl)]) U ?_
 intro A hg52
 refine WL.to (L':=E++[.row A x.cells,.obj i (.map S mc)]) (λw hS=>hS.AN [.row M [],.row g10 x.cells])<|WL.AU U U U underlying231 underlying231 BC ID CG U U T (new:=x.cells) (λ_=>⟨A,0,rfl,λw hS=>AL (g:=A) w hS⟩) (EnL.len x) (BD IU x) W (.none U) U U<|λu K J N hr53=>?_
 have f:JQ outs x=true:=(by
 refine UV λF=>?_
 have:=(X x.mark).2 (by rw[Aco (W)];exact F)
 rw[hb] at this;cases this)
 refine J8 ?_
 exact WE.next ⟨z+1,H++[x],u,K,J⟩ C7 ⟨C7,by dsimp only;rw[D,f,j];simp,by dsimp only;rw[AC];show Vec 21 u (H.length+1) K (DA (H++[x])) J;rw[show DA (H++[x])=DA H++x.cells from AX _ _ _];exact N⟩ (.int U C7 (.cons U (.cons U (.eq U Dc (.cons U .nil))))) (Acq (.cons _ (.refl _)) _)
 refine zy U Aaz.h U U<|λM O=>J18 ?_
 have f:JQ outs x=false:=(by
  refine Ro λF=>F ?_
  have:=(X x.mark).1 hb
  exact List.mem_of_mem_take this)
 exact eW ⟨z+1,H,ad,c,E⟩ C7 ⟨C7,by dsimp only;rw[D,f,j];simp,T⟩
 refine J16 ?_
 refine eT1 ?_
 obtain rfl:z=t.es.length:=W
 rw[Ah6] at j
 subst j
 exact λw' h=>⟨ad,c,E,rfl,T,h.sub (Acy _ _)⟩
end Gq
end Go.Proofs.YtmhahajadgkolaaGreatDoor
