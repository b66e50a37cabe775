/- Joined texts. -/
import Derived.Test.YtmhahajadgkolaaGreatDoorBdSdxTells
set_option maxHeartbeats 8000000
set_option maxRecDepth 8000
namespace Go.Proofs.YtmhahajadgkolaaGreatDoor
open Go.RowKit Tryz
theorem AhH:∀ {p:Prop} [Decidable p],¬¬p->p:=@Decidable.of_not_not
theorem Aie:∀ {p:Prop} [Decidable p],(¬p->False)->p:=@Decidable.byContradiction
theorem Aik.{u_1}:∀ {α:Type u_1} {l:List α} {i:Nat} {a b:α},a∈l.set i b->a∈l\/a=b:=@List.mem_or_eq_of_mem_set
variable{D:Nat}{E J:Int}{F:Nd}{G H:Wd}{K:eL}{L O:List RuD}{M:List Nd}{N:Option Addr}{P:List Ac}{Q:Bool}{R:Nat->Prop}

def tms(a b:Int):Int:=min (a*b) 4097
theorem Y3(a:0<=E)(b:1<=J):E<=E*J:=by
 have:=Int.mul_le_mul_of_nonneg_left b a
 rwa [Int.mul_one] at this
theorem Aho(a:1<=E)(b:0<=J):J<=E*J:=by rw[Int.mul_comm];exact Y3 b a
theorem IJ{a:Int}(c:1<=a)(b:1<=E):1<=tms a E/\tms a E<=4097:=by
 unfold tms
 have:=Y3 (by omega:0<=a) b
 omega
theorem O3{a:Int}(b:0<=a)(c:0<=E):0<=tms a E/\tms a E<=4097:=by
 unfold tms
 have:=Int.mul_nonneg b c
 omega
theorem JC{a:Int}(b:0<=a)(h:a<=4097)(c:1<=E):a<=tms a E:=by
 unfold tms
 have:=Y3 b c
 omega
theorem Gy{a:Int}(b:1<=a)(c:0<=E)(h:E<=4097):E<=tms a E:=by
 unfold tms
 have:=Aho b c
 omega
theorem PO{a b:Int}(h:tms a b<=4096):tms a b=a*b:=by unfold tms at *;omega
def pwr(x:Int):Nat->Int
 | 0=>1
 | n+1=>tms (pwr x n) x
theorem Kc{x:Int}(a:1<=x):∀n,1<=pwr x n/\pwr x n<=4097
 | 0=>by show(1:Int)<=1/\(1:Int)<=4097;omega
 | n+1=>IJ (Kc a n).1 a
theorem XK{x:Int}(b:1<=x){n:Nat}(h:4097<=pwr x n):∀j,pwr x (n+j)=4097
 | 0=>by have:=(Kc b n).2;show pwr x n=_;omega
 | j+1=>by
  show tms (pwr x (n+j)) x=4097
  rw[XK b h j]
  have:=JC (a:=4097) W W b
  have:=(IJ (a:=4097) W b).2
  omega
theorem Aa6:∀n,pwr 1 n=1
 | 0=>rfl
 | n+1=>by show tms (pwr 1 n) 1=1;rw[Aa6 n];rfl
theorem XL(a:1<=E)(n:Nat):pwr E n<=pwr E (n+1):=JC (by have:=(Kc a n).1;omega) (Kc a n).2 a
theorem Vv{x:Int}(a:1<=x)(h:x<=4097):∀n,1<=n->x<=pwr x n
 | 1,_=>by show x<=tms 1 x;exact Gy W W h
 | n+2,_=>Int.le_trans (Vv a h (n+1) W) (XL a (n+1))
theorem Afe{x:Int}(a:1<=x):∀n,pwr x n<=4096->pwr x n=x^n
 | 0,_=>by rw[Int.pow_zero];rfl
 | n+1,h=>by
  have b:tms (pwr x n) x<=4096:=h
  rw[Int.pow_succ, <- Afe a n (by have:=XL a n;omega)]
  exact PO b
def Ix:List (Int×Int)->Int×Int->Int×Int
 | [],s=>s
 | x::a,s=>Ix a (tms s.1 x.1,min (s.2+x.2) 4097)
def Hf:List (Int×Int)->Int×Int×Int->Int×Int
 | [],s=>(s.1,s.2.2)
 | x::a,s=>Hf a (tms s.1 (pwr x.1 s.2.1.toNat),tms s.2.1 x.2,max s.2.2 (tms s.2.1 x.2))
def Nw(l:List (Int×Int))(i:Nat):Int×Int:=l.getD i (1,1)
mutual
def AD:Nd->Int×Int
 | .mk k _ _ _ _ _ a =>
  if k=3 then(2,1)
  else if k=4\/k=13 then((Nw (DL a) 0).1,1)
  else if k=5\/k=6 then((Ix (DL a) (1,0)).1,1)
  else if k=11 then(1,0)
  else if k=15 then Ix (DL a) (1,0)
  else if k=16 then(if a.length=0 then(1,1) else Hf (DL a) (1,1,0))
  else if k=17 then(tms (Nw (DL a) 0).1 (max (Nw (DL a) 1).1 (Nw (DL a) 2).1),max (Nw (DL a) 1).2 (Nw (DL a) 2).2)
  else(1,1)
def DL:List Nd->List (Int×Int)
 | []=>[]
 | t::a=>AD t::DL a
end
theorem Iy:∀a:List Nd,DL a=a.map AD
 | []=>by rw[DL];rfl
 | t::a=>by rw[DL,Iy a];rfl
theorem HC(t:Nd):AD t =
 if t.kind=3 then(2,1)
 else if t.kind=4\/t.kind=13 then((Nw (t.kids.map AD) 0).1,1)
 else if t.kind=5\/t.kind=6 then((Ix (t.kids.map AD) (1,0)).1,1)
 else if t.kind=11 then(1,0)
 else if t.kind=15 then Ix (t.kids.map AD) (1,0)
 else if t.kind=16 then(if t.kids.length=0 then(1,1) else Hf (t.kids.map AD) (1,1,0))
 else if t.kind=17 then(tms (Nw (t.kids.map AD) 0).1 (max (Nw (t.kids.map AD) 1).1 (Nw (t.kids.map AD) 2).1),max (Nw (t.kids.map AD) 1).2 (Nw (t.kids.map AD) 2).2)
 else(1,1):=by
 cases t;rw[AD,Iy];rfl
structure WOk(x:Int×Int):Prop where
 r:1<=x.1/\x.1<=4097
 a:0<=x.2/\x.2<=4097
theorem I0:∀(b:List (Int×Int)) (s:Int×Int),(∀x∈b,WOk x)->WOk s->WOk (Ix b s)/\s.1<=(Ix b s).1/\s.2<=(Ix b s).2/\∀x∈b,x.1<=(Ix b s).1/\x.2<=(Ix b s).2
 | [],s,_,d=>⟨d,AgP _,AgP _,λx h=>by cases h⟩
 | x::b,s,g,d=>by
  have h:=g x (Fr ..)
  have e:=h.r
  have o:=h.a
  have f:=d.r
  have q:=d.a
  have i:=IJ f.1 e.1
  have t:=JC W f.2 e.1
  have u:=Gy f.1 W e.2
  have n:=I0 b (tms s.1 x.1,min (s.2+x.2) 4097) (λy c=>g y (EQ _ c)) ⟨i,C7⟩
  obtain⟨j,k,l,m⟩:=n
  dsimp only at k l
  show WOk (Ix b _)/\s.1<=(Ix b _).1/\s.2<=(Ix b _).2/\∀y∈x::b,y.1<=(Ix b _).1/\y.2<=(Ix b _).2
  refine⟨j,W,W,λy c=>?_⟩
  rcases Rl.1 c with rfl|c
  .omega
  .exact m y c
theorem O6:∀(b:List (Int×Int)) (r a m:Int),(∀x∈b,WOk x)->1<=r/\r<=4097->0<=a/\a<=4097->0<=m/\m<=4097->WOk (Hf b (r,a,m))/\r<=(Hf b (r,a,m)).1/\m<=(Hf b (r,a,m)).2
 | [],r,a,m,_,c,_,e=>⟨⟨c,e⟩,AgP _,AgP _⟩
 | x::b,r,a,m,f,c,l,e=>by
  have h:=f x (Fr ..)
  have g:=h.r
  have i:=h.a
  have d:=Kc g.1 a.toNat
  have j:=IJ c.1 d.1
  have s:=JC W c.2 d.1
  have k:=O3 l.1 i.1
  have q:=O6 b (tms r (pwr x.1 a.toNat)) (tms a x.2) (max m (tms a x.2)) (λy n=>f y (EQ _ n)) j k W
  show WOk (Hf b _)/\r<=(Hf b _).1/\m<=(Hf b _).2
  obtain⟨o,t,u⟩:=q
  exact⟨o,by show r<=(Hf b (tms r (pwr x.1 a.toNat),tms a x.2,max m (tms a x.2))).1;omega,by show m<=(Hf b (tms r (pwr x.1 a.toNat),tms a x.2,max m (tms a x.2))).2;omega⟩
theorem QV{l:List (Int×Int)}(h:∀x∈l,WOk x)(i:Nat):WOk (Nw l i):=by
 unfold Nw
 rw[Aio]
 cases a:l[i]? with
 | none=>exact⟨C8,C8⟩
 | some x=>exact h x (Do a)
mutual
theorem BZ:∀t:Nd,WOk (AD t)
 | .mk k f v m a c b=>by
  have hk:=N1 b
  rw[AD]
  split
  .exact ⟨C8,C8⟩
  split
  .exact ⟨(QV hk 0).r,C7⟩
  split
  .exact ⟨(I0 _ (1,0) hk ⟨C8,C8⟩).1.r,C7⟩
  split
  .exact ⟨C8,C8⟩
  split
  .exact (I0 _ (1,0) hk ⟨C8,C8⟩).1
  split
  .split
   .exact ⟨C8,C8⟩
   .exact (O6 _ 1 1 0 hk C8 C8 C8).1
  split
  .have g:=QV hk 0
   have d:=QV hk 1
   have e:=QV hk 2
   have:=d.r
   have:=e.r
   have:=d.a
   have:=e.a
   exact⟨IJ g.r.1 W,C7⟩
  .exact ⟨C8,C8⟩
theorem N1:∀a:List Nd, ∀x∈DL a,WOk x
 | [],x,h=>by rw[DL] at h;cases h
 | t::a,x,h=>by
  rw[DL] at h
  rcases Rl.1 h with rfl|h
  .exact BZ t
  .exact N1 a x h
end
theorem GV(a:List Nd):∀x∈a.map AD,WOk x:=by rw[<- Iy];exact N1 a
/-! ### The rules -/
def ac0:Ac:=⟨0,λ_=>0⟩
def GQ(a:List Ac):List RuD:=[⟨mt0,GL a⟩]
def MF(f:Nat)(v m:Int):List RuD:=if (Mt.one f v m).eqv mt0 then[⟨Mt.one f v m,[ac0]⟩] else[⟨Mt.one f v m,[ac0]⟩,⟨mt0,[]⟩]
def XA(r:RuD):RuD:=⟨r.m,if 0<r.acts.length then[] else[ac0]⟩
def pl0:PlD:=⟨4194304,16777216,[]⟩
def JX(c:List Ac->List Ac->List Ac)(a b:List RuD):List RuD:=outD (DU [] c b a pl0)
def Au(a b:List RuD):List RuD:=outD (DS b a pl0)
def JN(a:List Ac->List Ac->List Ac):List (List RuD)->List RuD->List RuD
 | [],l=>l
 | x::b,l=>JN a b (JX a l x)
def Ih(l:List RuD):Prop:=∀r∈l, ¬0<r.acts.length
instance (l:List RuD):Decidable (Ih l):=by unfold Ih;infer_instance
def MB:List (List RuD)->List RuD->List RuD
 | [],l=>l
 | x::a,l=>if Ih l then l else MB a (Au l x)
def ifI(r:RuD):List RuD->PlD->PlD
 | [],p=>p
 | s::part,p=>match r.m.and s.m with
  | none=>ifI r part p
  | some m=>if JH p.out m then ifI r part p else ifI r part ((p.add m s.acts).getD p)
def ifD(a b:List RuD):List RuD->PlD->PlD
 | [],p=>p
 | r::l,p=>ifD a b l (ifI r (if 0<r.acts.length then a else b) p)
def OR(l:List (List RuD))(i:Nat):List RuD:=l.getD i []
mutual
def AO:Nd->List RuD
 | .mk k f v m _ _ a =>
  if k=2\/k=11 then GQ []
  else if k=3 then MF f.toNat v m
  else if k=4 then(OR (Hg a) 0).map XA
  else if k=5 then JN IL (Hg a) (GQ [ac0])
  else if k=6\/k=15 then JN JW (Hg a) (GQ [])
  else if k=13 then OR (Hg a) 0
  else if k=14 then GQ [Ac.one f.toNat v]
  else if k=16 then MB (Hg a) (GQ [ac0])
  else if k=17 then(ifD (OR (Hg a) 1) (OR (Hg a) 2) (OR (Hg a) 0) pl0).out
  else GQ [ac0]
def Hg:List Nd->List (List RuD)
 | []=>[]
 | t::a=>AO t::Hg a
end
theorem P5:∀a:List Nd,Hg a=a.map AO
 | []=>by rw[Hg];rfl
 | t::a=>by rw[Hg,P5 a];rfl
theorem MY(t:Nd):AO t =
 if t.kind=2\/t.kind=11 then GQ []
 else if t.kind=3 then MF t.f.toNat t.val t.mask
 else if t.kind=4 then(OR (t.kids.map AO) 0).map XA
 else if t.kind=5 then JN IL (t.kids.map AO) (GQ [ac0])
 else if t.kind=6\/t.kind=15 then JN JW (t.kids.map AO) (GQ [])
 else if t.kind=13 then OR (t.kids.map AO) 0
 else if t.kind=14 then GQ [Ac.one t.f.toNat t.val]
 else if t.kind=16 then MB (t.kids.map AO) (GQ [ac0])
 else if t.kind=17 then(ifD (OR (t.kids.map AO) 1) (OR (t.kids.map AO) 2) (OR (t.kids.map AO) 0) pl0).out
 else GQ [ac0]:=by
 cases t;rw[AO,P5];rfl
/-! ### How many rules and acts there are -/
theorem YG(c:List Ac->List Ac->List Ac)(a b:List RuD):(JX c a b).length<=a.length*b.length:=by
 unfold JX
 cases h:DU [] c b a pl0 with
 | none=>exact Lv _
 | some q=>have:=(NO a pl0 q h).1;show q.out.length<=_;have e:pl0.out.length=0:=rfl;omega
theorem NQ{Q:List Ac->Prop}{a:List Ac->List Ac->List Ac}(c:∀r∈L, ∀s∈O,Q (GL (a r.acts s.acts))):∀x∈JX a L O,Q x.acts:=by
 unfold JX
 cases h:DU [] a O L pl0 with
 | none=>exact λx b=>by cases b
 | some q=>exact Lf L pl0 q c (λx b=>by cases b) h
theorem RJ{c:List Ac->List Ac->List Ac}:∀(b:List Nd) (l:List RuD) (s:Int×Int),WOk s->(∀u∈b,((AO u).length:Int)<=(AD u).1)->(l.length:Int)<=s.1->(Ix (b.map AD) s).1<=300->((JN c (b.map AO) l).length:Int)<=(Ix (b.map AD) s).1
 | [],l,s,_,_,e,_=>e
 | u::b,l,s,g,i,e,h=>by
  have j:=BZ u
  have k:=j.r
  have q:=j.a
  have m:=g.r
  have t:=g.a
  have d:WOk (tms s.1 (AD u).1,min (s.2+(AD u).2) 4097):=⟨IJ m.1 k.1,C7⟩
  have f:=(I0 (b.map AD) _ (GV b) d).2.1
  have h:(Ix (b.map AD) (tms s.1 (AD u).1,min (s.2+(AD u).2) 4097)).1<=300:=h
  refine RJ b (JX c l (AO u)) _ d (λy o=>i y (EQ _ o)) ?_ h
  dsimp only at f ⊢
  rw[PO W]
  have v:=YG c l (AO u)
  have n:=i u (Fr ..)
  have w:((l.length*(AO u).length:Nat):Int)<=s.1*(AD u).1:=by
   rw[Int.natCast_mul]
   exact Int.mul_le_mul e n W W
  omega
theorem TF:∀(b:List Nd) (l:List RuD) (s:Int×Int),WOk s->(∀u∈b, ∀r∈AO u,(r.acts.length:Int)<=(AD u).2)->(∀r∈l,(r.acts.length:Int)<=s.2)->(Ix (b.map AD) s).2<=64->∀r∈JN JW (b.map AO) l,(r.acts.length:Int)<=(Ix (b.map AD) s).2
 | [],l,s,_,_,d,_=>d
 | u::b,l,s,f,g,d,h=>by
  have i:=BZ u
  have j:=i.r
  have q:=i.a
  have k:=f.r
  have t:=f.a
  have c:WOk (tms s.1 (AD u).1,min (s.2+(AD u).2) 4097):=⟨IJ k.1 j.1,C7⟩
  have e:=(I0 (b.map AD) _ (GV b) c).2.2.1
  have h:(Ix (b.map AD) (tms s.1 (AD u).1,min (s.2+(AD u).2) 4097)).2<=64:=h
  refine TF b (JX JW l (AO u)) _ c (λy o=>g y (EQ _ o)) ?_ h
  dsimp only at e ⊢
  refine NQ (Q:=λp=>(p.length:Int)<=min (s.2+(AD u).2) 4097) λr m x n=>?_
  have v:=H6 (JW r.acts x.acts)
  have w:=d r m
  have z:=g u (Fr ..) x n
  have D:(JW r.acts x.acts).length=r.acts.length+x.acts.length:=AC
  omega
def Yn(a:List Ac):Prop:=a=[]\/a=[ac0]
theorem Ah2{b:List Ac}(c:Yn P)(_:Yn b):Yn (GL (IL P b)):=by
 unfold IL
 split
 .exact .inl U
 .rcases c with rfl|rfl
  .exact .inl U
  .exact .inr U
theorem yn_app{b:List Ac}(a:Yn P)(c:Yn b):Yn (GL (JW P b)):=by
 rcases a with rfl|rfl<;>rcases c with rfl|rfl
 .exact .inl U
 .exact .inr U
 .exact .inr U
 .exact .inr U
theorem Aau{c:List Ac->List Ac->List Ac}(f:∀a b,Yn a->Yn b->Yn (GL (c a b))):∀(d:List Nd) (l:List RuD),(∀u∈d, ∀r∈AO u,Yn r.acts)->(∀r∈l,Yn r.acts)->∀r∈JN c (d.map AO) l,Yn r.acts
 | [],_,_,e=>e
 | u::d,l,g,e=>Aau f d (JX c l (AO u)) (λy j=>g y (EQ _ j)) (NQ λr h x i=>f _ _ (e r h) (g u (Fr ..) x i))
structure Yg(pred:Bool)(t:Nd):Prop where
 len:((AO t).length:Int)<=(AD t).1
 acts:∀r∈AO t,(r.acts.length:Int)<=(AD t).2
 yn:pred=true->∀r∈AO t,Yn r.acts
theorem VS(h:Yn P):P.length<=1:=by rcases h with rfl|rfl<;>decide
theorem Aa9:∀(d:List Nd) (l:List RuD) (r a m:Int),1<=r/\r<=4097->0<=a/\a<=4097->a<=m/\m<=4097->(∀u∈d,(AD u).1<=300->(AD u).2<=64->Yg false u)->(l.length:Int)<=r->(∀x∈l,(x.acts.length:Int)<=a)->(Hf (d.map AD) (r,a,m)).1<=300->(Hf (d.map AD) (r,a,m)).2<=64 ->
 ((MB (d.map AO) l).length:Int)<=(Hf (d.map AD) (r,a,m)).1/\∀x∈MB (d.map AO) l,(x.acts.length:Int)<=(Hf (d.map AD) (r,a,m)).2
 | [],l,r,a,m,_,_,Q,_,k,g,_,_=>⟨k,λx c=>by have:=g x c;show _<=m;omega⟩
 | u::d,l,r,a,m,o,M,Q,F,k,g,w,z=>by
  have G:=BZ u
  have i:=G.r
  have s:=G.a
  have t:=Kc i.1 a.toNat
  have H:=IJ o.1 t.1
  have k5:=JC W o.2 t.1
  have J:=O3 M.1 s.1
  have hk:=O6 (d.map AD) (tms r (pwr (AD u).1 a.toNat)) (tms a (AD u).2) (max m (tms a (AD u).2)) (GV d) H J W
  have e:Hf ((u::d).map AD) (r,a,m)=Hf (d.map AD) (tms r (pwr (AD u).1 a.toNat),tms a (AD u).2,max m (tms a (AD u).2)):=rfl
  rw[e] at w z ⊢
  obtain⟨Z,i2,i3⟩:=hk
  show((if Ih l then l else MB (d.map AO) (Au l (AO u))).length:Int)<=_/\∀x∈(if Ih l then l else MB (d.map AO) (Au l (AO u))),_
  split
  .rename_i f
   exact⟨W,λx c=>by have:=f x c;omega⟩
  .rename_i f
   have j:1<=a:=Aie λX=>f λx c=>by have:=g x c;omega
   have k7:=Vv i.1 i.2 a.toNat W
   have k8:=Gy o.1 W t.2
   have k9:=Gy j s.1 s.2
   have D:=F u (Fr ..) W W
   have N:=D.len
   have K:=PO (a:=r) (b:=pwr (AD u).1 a.toNat) W
   have v:=Afe i.1 a.toNat W
   have L:=PO (a:=a) (b:=(AD u).2) W
   have E:((Au l (AO u)).length:Int)<=tms r (pwr (AD u).1 a.toNat)/\∀x∈Au l (AO u),(x.acts.length:Int)<=tms a (AD u).2:=by
    unfold Au
    cases O:DS (AO u) l pl0 with
    | none=>exact⟨by show(0:Int)<=_;omega,λx c=>by cases c⟩
    | some q =>
     have P:=JJ (kr:=(AD u).1.toNat) (ka:=(AD u).2.toNat) (n:=a.toNat) W W (λx c=>by have:=D.acts x c;omega) l pl0 q (λx c=>by have:=g x c;omega) (λx c=>by cases c) O
     obtain⟨S,T, -⟩:=P
     refine⟨?_,λx c=>?_⟩
     .have j3:q.out.length<=0+l.length*(AD u).1.toNat^a.toNat:=S
      rw[K,v]
      have j4:((l.length*(AD u).1.toNat^a.toNat:Nat):Int)<=r*(AD u).1^a.toNat:=by
       rw[Int.natCast_mul,Int.natCast_pow,Aiq W]
       exact Int.mul_le_mul_of_nonneg_right k (by rw[<- v];omega)
      show(q.out.length:Int)<=_
      omega
     .have j5:=T x c
      rw[L]
      have j6:((a.toNat*(AD u).2.toNat:Nat):Int)=a*(AD u).2:=by rw[Int.natCast_mul,Aiq W,Aiq W]
      omega
   exact Aa9 d (Au l (AO u)) _ _ _ H J W (λy R=>F y (EQ _ R)) E.1 E.2 w z
theorem Oz{r:RuD}{n:Nat}:∀(part:List RuD) (p:PlD),(∀s∈part,s.acts.length<=n)->(∀x∈p.out,x.acts.length<=n)->(ifI r part p).out.length<=p.out.length+part.length/\∀x∈(ifI r part p).out,x.acts.length<=n
 | [],p,_,b=>⟨M2 _,b⟩
 | s::part,p,d,b=>by
  have a:∀s∈part,s.acts.length<=n:=λy h=>d y (EQ _ h)
  rw[ifI,Acg]
  split
  .have:=Oz (r:=r) part p a b;exact⟨W,this.2⟩
  split
  .have:=Oz (r:=r) part p a b;exact⟨W,this.2⟩
  rename_i m _ _
  cases f:p.add m s.acts with
  | none=>have:=Oz (r:=r) part p a b;exact⟨by show(ifI r part p).out.length<=_;omega,this.2⟩
  | some q =>
   have e:=PlD.Ij f
   have g:(∀x∈q.out,x.acts.length<=n)/\q.out.length=p.out.length+1:=by
    subst e
    refine⟨λx c=>?_,by dsimp only;rw[AC];rfl⟩
    rcases LI.1 c with c|c
    .exact b x c
    .rw [Es.1 c];exact AcC (H6 _) (d s (Fr ..))
   have:=Oz (r:=r) part q a g.1
   exact⟨by show(ifI r part q).out.length<=_;omega,this.2⟩
theorem AaD{yes no:List RuD}{n k:Nat}(g:yes.length<=k)(f:no.length<=k)(d:∀s∈yes,s.acts.length<=n)(e:∀s∈no,s.acts.length<=n):∀(l:List RuD) (p:PlD),(∀x∈p.out,x.acts.length<=n)->(ifD yes no l p).out.length<=p.out.length+l.length*k/\∀x∈(ifD yes no l p).out,x.acts.length<=n
 | [],p,a=>⟨by show p.out.length<=_;omega,a⟩
 | r::l,p,a=>by
  have b:=Oz (r:=r) (n:=n) (if 0<r.acts.length then yes else no) p (by split<;>assumption) a
  have c:=AaD g f d e l (ifI r (if 0<r.acts.length then yes else no) p) b.2
  have h:(if 0<r.acts.length then yes else no).length<=k:=by split<;>assumption
  rw[Acg,Agz,Aii]
  exact⟨by show(ifD yes no l (ifI r (if 0<r.acts.length then yes else no) p)).out.length<=_;omega,c.2⟩
theorem G6(h:M[D]?=some F):OR (M.map AO) D=AO F:=by unfold OR;rw[Aio,WF,h];rfl
theorem DR(h:M[D]?=some F):Nw (M.map AD) D=AD F:=by unfold Nw;rw[Aio,WF,h];rfl
theorem M6(h:P7 E true=true):1<=E/\E<=6:=Ai8 (show decide (1<=E/\E<=6)=true from h)
theorem Jo(hk:okT Q F){i:Nat}(a:(i:Int)<Lp F.kind):∃u,F.kids[i]?=some u:=by
 have:=(WW hk.parts.2.2.1).1
 exact Gx
theorem Gj(h:okT true F):(AD F).2=1:=by
 have hk:=M6 h.parts.1
 rw[HC]
 by_cases a:F.kind=3
 .rw [IR a]
 rw[E9 a]
 by_cases b:F.kind=4\/F.kind=13
 .rw [IR b]
 rw[E9 b]
 by_cases c:F.kind=5\/F.kind=6
 .rw [IR c]
 rw[E9 c,E9 W,E9 W,E9 W,E9 W]
theorem okT.mem{u:Nd}(h:okT Q F)(b:u∈F.kids):∃j,F.kids[j]?=some u/\okT (G9 F.kind j) u:=by
 obtain⟨j,a⟩:=List.mem_iff_getElem?.1 b
 exact⟨j,a,h.kid a⟩
theorem MZ:∀(N:Nat) (t:Nd),SizeOf.sizeOf t<=N->∀o,okT o t->(AD t).1<=300->(AD t).2<=64->Yg o t
 | 0,t,hN=>by cases t;simp only[Nd.mk.sizeOf_spec] at hN;omega
 | N+1,t,hN=>by
  intro o hk w M
  have T:∀u∈t.kids, ∀pr,okT pr u->(AD u).1<=300->(AD u).2<=64->Yg pr u:=λu c=>by
   obtain⟨j,F⟩:=List.mem_iff_getElem?.1 c
   exact MZ N u (Nd.Jm hN F)
  have hform:=hk.parts.2.2.1
  have d:∀L:List Ac, ∀r∈GQ L,r.acts=GL L:=λL r hr=>by rw[Es.1 hr]
  have bl:=MY t
  have wt:=HC t
  by_cases k2:t.kind=2\/t.kind=11
  .rw [IR k2] at bl
   have hw:(AD t).1=1/\0<=(AD t).2:=⟨by rcases k2 with k|k<;>(rw[k] at wt;rw[wt];rfl),(BZ t).a.1⟩
   exact⟨by rw[bl,hw.1];exact AgP _,λr hr=>by rw[bl] at hr;rw[d _ r hr];exact hw.2,λ_ r hr=>by rw[bl] at hr;exact .inl (d _ r hr)⟩
  rw[E9 k2] at bl
  by_cases k3:t.kind=3
  .rw [IR k3] at bl wt
   have v:∀r∈MF t.f.toNat t.val t.mask,Yn r.acts:=by
    unfold MF
    split
    .intro r hr;rw[Es.1 hr];exact .inr U
    .intro r hr
     rcases Rl.1 hr with rfl|hr
     .exact .inr U
     .rw [Es.1 hr];exact .inl U
   refine⟨?_,λr hr=>?_,λ_ r hr=>v r Fs⟩
   .rw [bl,wt]
    unfold MF
    split
    .show ((1:Nat):Int)<=2;omega
    .show ((2:Nat):Int)<=2;omega
   .rw [bl] at hr
    rw[wt]
    have:=VS (v r hr)
    exact Cr
  rw[E9 k3] at bl wt
  by_cases k4:t.kind=4
  .rw [IR k4] at bl
   rw[IR (.inl k4)] at wt
   obtain⟨u,c⟩:=Jo hk (i:=0) (by rw[k4];decide)
   have z:=hk.kid c
   rw[k4] at z
   have D:=T u (Do c) true z (by rw[wt,DR c] at w;exact w) (by rw[Gj z];decide)
   rw[G6 c] at bl
   rw[DR c] at wt
   have v:∀r∈(AO u).map XA,Yn r.acts:=λr hr=>by
    obtain⟨y,_,rfl⟩:=Ab8.1 hr
    show Yn (if 0<y.acts.length then[] else[ac0])
    split
    .exact .inl U
    .exact .inr U
   refine⟨by rw[bl,wt,Ri];exact D.len,λr hr=>?_,λ_ r hr=>v r Fs⟩
   rw[bl] at hr
   rw[wt]
   have:=VS (v r hr)
   exact Cr
  rw[E9 k4] at bl
  by_cases k5:t.kind=5\/t.kind=6
  .rw [E9 W,IR k5] at wt
   have S:∀u∈t.kids,okT true u:=λu c=>by
    obtain⟨j,_,F⟩:=hk.mem c
    rcases k5 with k|k<;>(rw[k] at F;exact F)
   have R:=I0 (t.kids.map AD) (1,0) (GV _) ⟨C8,C8⟩
   rw[wt] at w
   have D:∀u∈t.kids,Yg true u:=λu c=>T u c true (S u c) (by have:=(R.2.2.2 _ (Ab5 c)).1;omega) (by rw[Gj (S u c)];decide)
   have v:∃sum l,AO t=JN sum (t.kids.map AO) l/\l.length=1/\(∀r∈l,Yn r.acts)/\∀a b,Yn a->Yn b->Yn (GL (sum a b)):=by
    by_cases k:t.kind=5
    .rw [IR k] at bl
     exact⟨IL,GQ [ac0],bl,rfl,λr hr=>by rw[d _ r hr];exact .inr U,λ_ _=>Ah2⟩
    .rw [E9 k,IR W] at bl
     exact⟨JW,GQ [],bl,rfl,λr hr=>by rw[d _ r hr];exact .inl U,λ_ _=>yn_app⟩
   obtain⟨sum,l,bl,hl,hly,hsum⟩:=v
   have hyn:=Aau hsum t.kids l (λu c=>(D u c).yn U) hly
   refine⟨?_,λr hr=>?_,λ_ r hr=>hyn r Fs⟩
   .rw [bl,wt]
    exact RJ t.kids l (1,0) ⟨C8,C8⟩ (λu c=>(D u c).len) (by rw[hl];exact AgP _) w
   .rw [bl] at hr
    rw[wt]
    have:=VS (hyn r hr)
    exact Cr
  rw[E9 W] at bl
  by_cases X:t.kind=15
  .rw [IR (.inr X)] at bl
   rw[E9 W,E9 W,E9 W,IR X] at wt
   rw[wt] at w M
   have S:∀u∈t.kids,okT false u:=λu c=>by
    obtain⟨j,_,F⟩:=hk.mem c
    rw[X] at F
    have e:G9 15 j=false:=by unfold G9;exact Ro W
    rw[e] at F
    exact F
   have R:=I0 (t.kids.map AD) (1,0) (GV _) ⟨C8,C8⟩
   have D:∀u∈t.kids,Yg false u:=λu c=>T u c false (S u c) (by have:=(R.2.2.2 _ (Ab5 c)).1;omega) (by have:=(R.2.2.2 _ (Ab5 c)).2;omega)
   have G:o=false:=by
    cases o with
    | false=>rfl
    | true=>have:=M6 hk.parts.1;omega
   refine⟨?_,λr hr=>?_,λe=>by rw[G] at e;cases e⟩
   .rw [bl,wt]
    exact RJ t.kids (GQ []) (1,0) ⟨C8,C8⟩ (λu c=>(D u c).len) (AgP _) w
   .rw [bl] at hr
    rw[wt]
    exact TF t.kids (GQ []) (1,0) ⟨C8,C8⟩ (λu c=>(D u c).acts) (λr hr=>by rw[d _ r hr];exact AgP _) M r hr
  rw[E9 W] at bl
  rw[E9 (by omega:¬t.kind=15)] at wt
  by_cases H:t.kind=13
  .rw [IR H] at bl
   rw[IR (.inr H)] at wt
   obtain⟨u,c⟩:=Jo hk (i:=0) (by rw[H];decide)
   have z:=hk.kid c
   rw[H] at z
   have D:=T u (Do c) true z (by rw[wt,DR c] at w;exact w) (by rw[Gj z];decide)
   rw[G6 c] at bl
   rw[DR c] at wt
   refine⟨by rw[bl,wt];exact D.len,λr hr=>?_,λ_ r hr=>D.yn U r Fs⟩
   rw[bl] at hr
   rw[wt]
   have:=VS (D.yn U r hr)
   exact Cr
  rw[E9 H] at bl
  rw[E9 W,E9 W,E9 W] at wt
  have G:t.kind=14\/t.kind=16\/t.kind=17->o=false:=λhh=>by
   cases o with
   | false=>rfl
   | true=>have:=M6 hk.parts.1;omega
  by_cases k14:t.kind=14
  .rw [IR k14] at bl
   rw[E9 W,E9 W] at wt
   exact⟨by rw[bl,wt];exact AgP _,λr hr=>by rw[bl] at hr;rw[d _ r hr,wt];exact AgP _,λe=>by rw[G W] at e;cases e⟩
  rw[E9 k14] at bl
  by_cases Z:t.kind=16
  .rw [IR Z] at bl wt
   rw[wt] at w M
   have hf:=G W
   by_cases h0:t.kids.length=0
   .rw [AbQ.1 h0] at bl
    rw[IR h0] at wt
    refine⟨by rw[bl,wt];exact AgP _,λr hr=>?_,λe=>by rw[hf] at e;cases e⟩
    rw[bl] at hr
    rw[wt,d [ac0] r hr]
    exact AgP _
   .rw [E9 h0] at wt w M
    obtain⟨g,L,hus⟩:=List.exists_cons_of_ne_nil (λe=>h0 (by rw[e];rfl):t.kids≠[])
    have S:∀u∈t.kids,(AD u).1<=300->(AD u).2<=64->Yg false u:=λu c=>by
     obtain⟨j,_,F⟩:=hk.mem c
     rw[Z] at F
     have e:G9 16 j=false:=by unfold G9;exact Ro W
     rw[e] at F
     exact T u c false F
    -- the first one: an act is there
    have hrow:∀m,0<=m->m<=1->True:=λ_ _ _=>trivial
    have key:((MB (t.kids.map AO) (GQ [ac0])).length:Int)<=(Hf (t.kids.map AD) (1,1,0)).1/\∀x∈MB (t.kids.map AO) (GQ [ac0]),(x.acts.length:Int)<=(Hf (t.kids.map AD) (1,1,0)).2:=by
     rw[hus] at S w M ⊢
     have hw:=BZ g
     have k1:=hw.r
     have k2:=hw.a
     have e:Hf ((g::L).map AD) (1,1,0)=Hf (L.map AD) (tms 1 (pwr (AD g).1 1),tms 1 (AD g).2,max 0 (tms 1 (AD g).2)):=rfl
     have q3:=Kc k1.1 1
     have q4:=IJ (a:=1) C8 q3.1
     have q6:=O3 (a:=1) C8 k2.1
     have q7:=O6 (L.map AD) (tms 1 (pwr (AD g).1 1)) (tms 1 (AD g).2) (max 0 (tms 1 (AD g).2)) (GV L) q4 q6 W
     have q8:=Vv k1.1 k1.2 1 C8
     have q9:=Gy (a:=1) C8 W q3.2
     have q10:=Gy (a:=1) C8 k2.1 k2.2
     rw[e] at w M ⊢
     have D:=S g (Fr ..) W W
     have hns:¬Ih (GQ [ac0]):=C8
     have er:MB ((g::L).map AO) (GQ [ac0])=MB (L.map AO) (Au (GQ [ac0]) (AO g)):=by
      show(if Ih (GQ [ac0]) then _ else _)=_
      rw[E9 hns]
     rw[er]
     have hbl:=D.len
     have hq:((Au (GQ [ac0]) (AO g)).length:Int)<=tms 1 (pwr (AD g).1 1)/\∀x∈Au (GQ [ac0]) (AO g),(x.acts.length:Int)<=tms 1 (AD g).2:=by
      unfold Au
      cases hc:DS (AO g) (GQ [ac0]) pl0 with
      | none=>exact⟨by show(0:Int)<=_;omega,λx v=>by cases v⟩
      | some q =>
       have hh:=JJ (kr:=(AD g).1.toNat) (ka:=(AD g).2.toNat) (n:=1) W W (λx v=>by have:=D.acts x v;omega) (GQ [ac0]) pl0 q (λx v=>by rw[d _ x v];decide) (λx v=>by cases v) hc
       obtain⟨j1,j2, -⟩:=hh
       refine⟨?_,λx v=>?_⟩
       .have j3:q.out.length<=0+1*(AD g).1.toNat^1:=j1
        rw[Nat.pow_one] at j3
        show(q.out.length:Int)<=_
        omega
       .have j5:=j2 x v
        omega
     exact Aa9 L (Au (GQ [ac0]) (AO g)) _ _ _ q4 q6 W (λy hy=>S y (EQ _ hy)) hq.1 hq.2 w M
    exact⟨by rw[bl,wt];exact key.1,λr hr=>by rw[bl] at hr;rw[wt];exact key.2 r hr,λe=>by rw[hf] at e;cases e⟩
  rw[E9 Z] at bl wt
  by_cases E:t.kind=17
  .rw [IR E] at bl wt
   obtain⟨g,O⟩:=Jo hk (i:=0) (by rw[E];decide)
   obtain⟨J,P⟩:=Jo hk (i:=1) (by rw[E];decide)
   obtain⟨K,Q⟩:=Jo hk (i:=2) (by rw[E];decide)
   have o0:=hk.kid O
   have o1:=hk.kid P
   have o2:=hk.kid Q
   rw[E] at o0 o1 o2
   rw[G6 O,G6 P,G6 Q] at bl
   rw[DR O,DR P,DR Q] at wt
   rw[wt] at w M
   dsimp only at w M
   have w0:=BZ g
   have w1:=BZ J
   have w2:=BZ K
   have a0:=w0.r
   have a1:=w1.r
   have a2:=w2.r
   have hm:1<=max (AD J).1 (AD K).1/\max (AD J).1 (AD K).1<=4097:=W
   have t1:=JC W a0.2 hm.1
   have t2:=Gy a0.1 W hm.2
   have b0:=T g (Do O) true o0 W (by rw[Gj o0];decide)
   have b1:=T J (Do P) false o1 W W
   have b2:=T K (Do Q) false o2 W W
   have l0:=b0.len
   have l1:=b1.len
   have l2:=b2.len
   have v:=AaD (yes:=AO J) (no:=AO K) (n:=(max (AD J).2 (AD K).2).toNat) (k:=(max (AD J).1 (AD K).1).toNat) W W (λs hs=>by have:=b1.acts s hs;omega) (λs hs=>by have:=b2.acts s hs;omega) (AO g) pl0 λx v=>by cases v
   have ha1:=w1.a
   have ha2:=w2.a
   refine⟨?_,λr hr=>?_,λe=>by rw[G W] at e;cases e⟩
   .rw [bl,wt]
    show _<=tms (AD g).1 (max (AD J).1 (AD K).1)
    rw[PO W]
    have h3:=v.1
    have e0:pl0.out.length=0:=rfl
    have h4:(((AO g).length*(max (AD J).1 (AD K).1).toNat:Nat):Int)<=(AD g).1*max (AD J).1 (AD K).1:=by
     rw[Int.natCast_mul,Aiq W]
     exact Int.mul_le_mul_of_nonneg_right l0 W
    omega
   .rw [bl] at hr
    rw[wt]
    have:=v.2 r hr
    show(r.acts.length:Int)<=max (AD J).2 (AD K).2
    omega
  rw[E9 E] at bl wt
  exact⟨by rw[bl,wt];exact AgP _,λr hr=>by rw[bl] at hr;rw[d _ r hr,wt];exact AgP _,λ_ r hr=>by rw[bl] at hr;rw[d _ r hr];exact .inr U⟩
section Gq
attribute [local irreducible] WL WC WE WQ WP WH WR WM WRH

theorem mul_in(b:0<=E/\E<=4097)(a:0<=J/\J<=4097):0<=E*J/\E*J<=16785409:=by
 have c:=Int.mul_nonneg b.1 a.1
 have d:=Int.mul_le_mul b.2 a.2 a.1 W
 omega
theorem O2(w:Wd)(a b:Int)(c:0<=a/\a<=4097)(d:0<=b/\b<=4097):Cl 166 #[iI a,iI b] w (RvF (iI (tms a b)) w):=by
 have e:=mul_in c d
 refine en0 func166 U ntmps166 U<|J9 ?_
 refine zV (SL U U U (DK W W)) U<|zV (Abs U U U) U ?_
 exact Cx
theorem AhF(w:Wd)(b:Int)(n:Nat)(d:1<=b/\b<=4097)(k:n<=4097):Cl 246 #[iI b,iI n] w (RvF (iI (pwr b n)) w):=by
 refine en0 func246 U ntmps246 U<|J14 ?_
 refine JT (λe=>?_) λe=>?_
 refine J11 ?_
 refine eT1 ?_
 obtain rfl:b=1:=W
 exact λf h=>⟨by rw[Aa6],h.frm⟩
 refine J12 ?_
 refine oLp (λi:Nat=>[(6,iI i),(5,iI (pwr b i)),(0,iI b),(1,iI n)]) (λ_=>[]) (λi=>i<=n) (λi=>n-i) 0 (Lv _)<|λi j=>?_
 have l:=Kc d.1 i
 refine J5 ?_
 refine JT (λa=>?_) λa=>?_
 refine J2 ?_
 refine JT (λc=>?_) λc=>?_
 refine J11 ?_
 refine zk CkO U (λw g=>O2 w (pwr b i) b W W)<|J9 ?_
 exact eW (i+1) W W
 refine J16 ?_
 refine eT1 ?_
 have:=XK d.1 (n:=i) W (n-i)
 rw[show i+(n-i)=n by omega] at this
 exact λf h=>⟨by rw[this,show pwr b i=4097 by omega],h.frm⟩
 refine J19 ?_
 refine eT1 ?_
 obtain rfl:i=n:=W
 exact fR
def WgTo(N:Nat):Prop:=∀(t:Nd),SizeOf.sizeOf t<=N->∀(w:Wd) (a:Bool),okT a t->t.In->t.At w ->
 Cl 87 #[ndV t] w λe b=>e=.returned (.tuple #[iI (AD t).1,iI (AD t).2])/\Frm Fx w b
theorem SS(N:Nat)(G:WgTo N)(t:Nd)(D:SizeOf.sizeOf t<=N+1)(w:Wd)(g:Bool)(hk:okT g t)(q:t.In)(j:t.At w):
 Cl 164 #[.slice t.ad t.kids.length t.cap] w (RvF (.tuple #[iI (Ix (t.kids.map AD) (1,0)).1,iI (Ix (t.kids.map AD) (1,0)).2]) w):=by
 have v:=q.Nv.2.2.2.2
 generalize z:Ix (t.kids.map AD) (1,0)=C
 refine en0 func164 U ntmps164 U<|J21 ?_
 refine oLp (λx:Nat×Int×Int=>[(12,iI x.1),(11,iI t.kids.length),(10,.slice t.ad t.kids.length t.cap),(4,iI x.2.1),(5,iI x.2.2)]) (λ_=>[]) (λx=>x.1<=t.kids.length/\WOk x.2/\Ix ((t.kids.drop x.1).map AD) x.2=C) (λx=>t.kids.length-x.1) (0,1,0) ⟨Lv _,⟨C8,C8⟩,by dsimp only;rw[AeP];exact z⟩ ?_
 rintro⟨k,r,a⟩ ⟨l,y,d⟩
 dsimp only at l d⊢
 have f:=y.r
 have n:=y.a
 dsimp only at f n
 refine J2 ?_
 refine JT (λi=>?_) λi=>?_
 refine J10 ?_
 obtain⟨u,c⟩:∃u,t.kids[k]?=some u:=Gx
 obtain⟨b,o,ea,_⟩:=(j.kid c).1
 have e:=BZ u
 have m:=e.r
 have F:=e.a
 rw[drop_cons c,Acu,Ix] at d
 refine zV (AA (b:=b) (off:=o) (lo:=k) U Db U underlying24 FF U W) U ?_
 refine zV (AB (cs:=ndL u) U U H5.h U (DW (λh=>h) (j.Kz c ea))) U<|zy U Nu.h U U<|?_
 intro H E
 refine J6 ?_
 refine zk CkO U (λw s=>G u (Nd.Jm D c) w _ (hk.kid c) (q.kids.get _ _ _ c) ((j.kid c).2.st (λ_ h=>h) s))<|J11 ?_
 refine zk CkO U (λw s=>O2 w r (AD u).1 W W)<|J7 ?_
 refine zV (Abs U U U) U<|J8 ?_
 exact eW (k+1,tms r (AD u).1,min (a+(AD u).2) 4097) C7 ⟨C7,⟨IJ f.1 m.1,C7⟩,d⟩
 refine J18 ?_
 refine eT2 ?_
 obtain rfl:k=t.kids.length:=W
 rw[Ah9] at d
 exact λJ h=>⟨by rw[<- d];rfl,h.frm⟩
theorem ZN(N:Nat)(J:WgTo N)(t:Nd)(G:SizeOf.sizeOf t<=N+1)(w:Wd)(j:Bool)(hk:okT j t)(D:t.In)(s:t.At w):
 Cl 165 #[.slice t.ad t.kids.length t.cap] w (RvF (.tuple #[iI (if t.kids.length=0 then(1,1) else Hf (t.kids.map AD) (1,1,0)).1,iI (if t.kids.length=0 then(1,1) else Hf (t.kids.map AD) (1,1,0)).2]) w):=by
 have E:=D.Nv.2.2.2.2
 generalize F:Hf (t.kids.map AD) (1,1,0)=C
 refine en0 func165 U ntmps165 U<|J11 ?_
 refine JT (λn=>?_) λn=>?_
 refine J11 ?_
 refine eT2 ?_
 exact λK h=>⟨by rw[IR W],h.frm⟩
 refine J21 ?_
 refine oLp (λx:Nat×Int×Int×Int=>[(16,iI x.1),(15,iI t.kids.length),(14,.slice t.ad t.kids.length t.cap),(4,iI x.2.1),(5,iI x.2.2.1),(6,iI x.2.2.2)]) (λ_=>[]) (λx=>x.1<=t.kids.length/\(1<=x.2.1/\x.2.1<=4097)/\(0<=x.2.2.1/\x.2.2.1<=4097)/\Hf ((t.kids.drop x.1).map AD) x.2=C) (λx=>t.kids.length-x.1) (0,1,1,0) ⟨Lv _,C8,C8,by dsimp only;rw[AeP];exact F⟩ ?_
 rintro⟨k,r,a,m⟩ ⟨v,i,d,e⟩
 dsimp only at v i d e⊢
 refine J2 ?_
 refine JT (λq=>?_) λq=>?_
 refine J10 ?_
 obtain⟨u,c⟩:∃u,t.kids[k]?=some u:=Gx
 obtain⟨b,o,ea,_⟩:=(s.kid c).1
 have f:=BZ u
 have g:=f.r
 have z:=f.a
 have y:=Kc g.1 a.toNat
 rw[drop_cons c,Acu,Hf] at e
 refine zV (AA (b:=b) (off:=o) (lo:=k) U Db U underlying24 FF U W) U ?_
 refine zV (AB (cs:=ndL u) U U H5.h U (DW (λh=>h) (s.Kz c ea))) U<|zy U Nu.h U U<|?_
 intro L H
 refine J6 ?_
 refine zk CkO U (λw l=>J u (Nd.Jm G c) w _ (hk.kid c) (D.kids.get _ _ _ c) ((s.kid c).2.st (λ_ h=>h) l))<|J12 ?_
 refine zk CkO U (λw l=>(by have:=AhF w (AD u).1 a.toNat g (W);rwa [Aiq d.1] at this)) ?_
 refine zk CkO U (λw l=>O2 w r (pwr (AD u).1 a.toNat) W W)<|J7 ?_
 refine zk CkO U (λw l=>O2 w a (AD u).2 W W)<|J6 ?_
 refine zV (X8 U U U) U<|J8 ?_
 exact eW (k+1,tms r (pwr (AD u).1 a.toNat),tms a (AD u).2,max m (tms a (AD u).2)) C7 ⟨C7,IJ i.1 y.1,O3 d.1 z.1,e⟩
 refine J18 ?_
 refine eT2 ?_
 obtain rfl:k=t.kids.length:=W
 rw[Ah9] at e
 exact λK h=>⟨by rw[E9 W, <- e];rfl,h.frm⟩
theorem ZO(N:Nat)(ih:WgTo N):WgTo (N+1):=by
 intro t hN w pred hk hI hA
 have G:=hI.Nv.2.2.2.2
 have hw:=HC t
 have kid:∀i:Nat,(i:Int)<Lp t.kind->∃u b o,t.kids[i]?=some u/\t.ad=some ⟨b,o,none⟩/\w.rangeAt b (o+i*5) (ndL u):=λi L=>by
  obtain⟨u,hu⟩:=Jo hk L
  obtain⟨b,o,ea,hr⟩:=(hA.kid hu).1
  exact⟨u,b,o,hu,ea,hr⟩
 refine en0 func87 U ntmps87 U<|J2 ?_
 refine zx U U U U U<|λQ K=>J14 ?_
 refine JT (λg=>?_) λg=>?_
 refine J13 ?_
 refine eT2 ?_
 rw[IR g] at hw
 exact A7
 refine J7 ?_
 refine JT (λe=>?_) λe=>?_
 refine J11 ?_
 obtain⟨u,b,o,hu,ea,hr⟩:=kid 0 (by first|(rw[show t.kind=4 from e];decide)|(rw[show t.kind=13 from f];decide))
 have z:=(Eu.1 hu).1
 exact Ay
 refine J5 ?_
 refine JT (λf=>?_) λf=>?_
 refine J8 ?_
 obtain⟨u,b,o,hu,ea,hr⟩:=kid 0 (by first|(rw[show t.kind=4 from e];decide)|(rw[show t.kind=13 from f];decide))
 have z:=(Eu.1 hu).1
 exact Ay
 refine J7 ?_
 refine JT (λx=>?_) λx=>?_
 refine J11 ?_
 exact Cy
 refine J5 ?_
 refine JT (λy=>?_) λy=>?_
 refine J8 ?_
 exact Cy
 refine J6 ?_
 refine JT (λj=>?_) λj=>?_
 refine J13 ?_
 refine eT2 ?_
 rw[E9 W,E9 W,E9 W,IR j] at hw
 exact A7
 refine J6 ?_
 refine JT (λk=>?_) λk=>?_
 refine J8 ?_
 rw[E9 W,E9 W,E9 W,E9 W,IR k] at hw
 refine zk CkO U (λw hS=>SS N ih t hN w pred hk hI (hA.st (λ_ h=>h) hS))<|J9 ?_
 refine eT2 ?_
 exact A7
 refine J6 ?_
 refine JT (λl=>?_) λl=>?_
 refine J8 ?_
 rw[E9 W,E9 W,E9 W,E9 W,E9 W,IR l] at hw
 refine zk CkO U (λw hS=>ZN N ih t hN w pred hk hI (hA.st (λ_ h=>h) hS))<|J9 ?_
 refine eT2 ?_
 exact A7
 refine J6 ?_
 refine JT (λh57=>?_) λh57=>?_
 refine J8 ?_
 obtain⟨m,b,o,c,ea,D⟩:=kid 0 Fq
 obtain⟨n,H,O,d,s,E⟩:=kid 1 Fq
 obtain⟨q,J,P,a,v,F⟩:=kid 2 Fq
 have M:=(Eu.1 a).1
 rw[E9 W,E9 W,E9 W,E9 W,E9 W,E9 W,IR h57,DR c,DR d,DR a] at hw
 have R:=(BZ m).r
 have S:=(BZ n).r
 have T:=(BZ q).r
 refine zV (AA (b:=b) (off:=o) (lo:=0) U Db U underlying24 FF U W) U ?_
 refine zV (AB (cs:=ndL m) U U H5.h U (DW (λh=>h) D)) U<|zk CkO U (λw hS=>ih m (Nd.Jm hN c) w _ (hk.kid c) (hI.kids.get _ _ _ c) ((hA.kid c).2.st (λ_ h=>h) hS))<|?_
 refine J11 ?_
 refine zV (AA (b:=H) (off:=O) (lo:=1) U (by show some (Value.slice t.ad _ _)=_;rw[s]) U underlying24 FF U W) U ?_
 refine zV (AB (cs:=ndL n) U U H5.h U (DW (λh=>h) E)) U<|zk CkO U (λw hS=>ih n (Nd.Jm hN d) w _ (hk.kid d) (hI.kids.get _ _ _ d) ((hA.kid d).2.st (λ_ h=>h) hS))<|?_
 refine J11 ?_
 refine zV (AA (b:=J) (off:=P) (lo:=2) U (by show some (Value.slice t.ad _ _)=_;rw[v]) U underlying24 FF U W) U ?_
 refine zV (AB (cs:=ndL q) U U H5.h U (DW (λh=>h) F)) U<|zk CkO U (λw hS=>ih q (Nd.Jm hN a) w _ (hk.kid a) (hI.kids.get _ _ _ a) ((hA.kid a).2.st (λ_ h=>h) hS))<|?_
 refine J12 ?_
 refine zV (X8 U U U) U<|zk CkO U (λw hS=>O2 w (AD m).1 (max (AD n).1 (AD q).1) W W)<|J2 ?_
 refine zV (X8 U U U) U<|J7 ?_
 refine eT2 ?_
 exact A7
 refine J14 ?_
 refine eT2 ?_
 rw[E9 W,E9 W,E9 W,E9 W,E9 W,E9 W,E9 W] at hw
 exact A7
theorem Abu:∀N,WgTo N
 | 0=>λt a=>by cases t;simp only[Nd.mk.sizeOf_spec] at a;omega
 | N+1=>ZO N (Abu N)
theorem Q6(w:Wd)(t:Nd)(e:t.In)(d:t.At w)(f:GW w):Cl 35 #[ndV t] w (RvF (.tuple #[iI (if (CL t 1 false 0).1=0 then(AD t).1 else 0),iI (if (CL t 1 false 0).1=0 then(AD t).2 else 0),iI (CL t 1 false 0).1]) w):=by
 refine en0 func35 U ntmps35 U<|J2 ?_
 refine zx U U U U U<|λj g=>J9 ?_
 refine zk CkO U (λw b=>Agh w t e (d.st (λ_ h=>h) b) (f.BI (λh=>h) b))<|J6 ?_
 refine JT (λa=>?_) λa=>?_
 refine J13 ?_
 refine eT3 ?_
 exact λi h=>⟨by rw[E9 a,E9 a],h.frm⟩
 refine J8 ?_
 refine zk CkO U (λw b=>Abu _ t (M2 _) w false (MM t 1 false 0 (AhH a)) e (d.st (λ_ h=>h) b))<|J17 ?_
 refine eT3 ?_
 have c:(CL t 1 false 0).1=0:=AhH a
 exact λi h=>⟨by rw[IR c,IR c,c],h.frm⟩

theorem AcA:SumC 95 IL:=λw a b i k c f _ _ l g=>by
 refine en0 func95 U ntmps95 U<|J10 ?_
 refine JT (λj=>?_) λj=>?_
 refine J15 ?_
 refine eT1 ?_
 have e:IL c f=[]:=(by unfold IL;exact IR (.inl (W)))
 exact Cf
 refine J3 ?_
 refine JT (λd=>?_) λd=>?_
 refine J11 ?_
 refine eT1 ?_
 have e:IL c f=[]:=(by unfold IL;exact IR (.inr (W)))
 exact Cf
 refine J13 ?_
 refine eT1 ?_
 have e:IL c f=c:=(by unfold IL;exact E9 (W))
 exact λw' h=>⟨a,i,[],by rw[e],λw2 _ g _=>by rw[e];exact g,h⟩
theorem Sg:mt0.In:=⟨λ_=>⟨AgP _,(by decide:(0:Int)<=18446744073709551615)⟩,λ_=>⟨AgP _,(by decide:(0:Int)<=18446744073709551615)⟩⟩
theorem Ve:mt0.Nz:=λ_ _=>⟨rfl,rfl⟩
theorem Za(b:0<=E/\E<=18446744073709551615)(a:0<=J/\J<=18446744073709551615):(Mt.one D E J).In :=
 ⟨λi=>by show 0<=(if i=D then E else 0)/\(if i=D then E else 0)<=_;split;exact b;exact⟨AgP _,C8⟩,λi=>by show 0<=(if i=D then J else 0)/\(if i=D then J else 0)<=_;split;exact a;exact⟨AgP _,C8⟩⟩
theorem Zb(hk:D<9):(Mt.one D E J).Nz:=λi a=>⟨E9 W,E9 W⟩
theorem Gu:ac0.In/\ac0.Nz/\ac0.Ok:=⟨⟨C8,λ_=>⟨AgP _,(by decide:(0:Int)<=18446744073709551615)⟩⟩,λ_ _=>rfl,C8⟩
theorem NK{k:Nat}(hk:k<9){v:Int}(c:0<=v)(a:v<=BG k):(Ac.one k v).In/\(Ac.one k v).Nz/\(Ac.one k v).Ok:=by
 have d:=HZ k
 have f:(1:Int)<=2^k/\(2:Int)^k<=256:=by
  match k,hk with
  | 0,_|1,_|2,_|3,_|4,_|5,_|6,_|7,_|8,_=>decide
 refine⟨⟨by show _<=(2:Int)^k/\(2:Int)^k<=_;omega,λi=>?_⟩,λi b=>E9 W,⟨by show 0<=(2:Int)^k/\(2:Int)^k<=511;omega,λi b=>?_⟩⟩
 .show 0<=(if i=k then v else 0)/\(if i=k then v else 0)<=_
  split
  .omega
  .exact ⟨AgP _,C8⟩
 .show (if i=k then v else 0)<=BG i/\((if i=k then v else 0)≠0->(2:Int)^k / 2^i % 2=1)
  by_cases e:i=k
  .subst e
   rw[IR U]
   exact⟨a,λ_=>by rw[Int.ediv_self W];rfl⟩
  .rw [E9 e]
   exact⟨(HZ i).1,λh=>absurd U h⟩
theorem Wl(w:Wd)(j:Option Addr)(c:Nat)(f:List Ac)(n:Rg w j (CJ f))(o:∀a∈f,a.In/\a.Nz/\a.Ok)(E:f.length<=100000):
 Cl 92 #[.slice j f.length c] w λe s=>RsC w s (GQ f) e:=by
 refine en0 func92 U ntmps92 U<|J8 ?_
 refine zK CkO U<|λG v=>(Yp G j c f (n.frm v.frm λ_ _ _ h=>h) (λa m=>(o a m).2.1) E).mono ?_
 rintro e s ⟨b,i,t,g,rfl,x,F,l,k⟩
 have q:GL f=g:=Si (λa m=>(o a m).2.1) x
 refine⟨_,_,rfl,v.join k,?_⟩
 refine J1 ?_
 refine zB underlying54 BJ CZ.h (by show some (AK (List.replicate 1 _).flatten 0 (RuL.cells ⟨mt0,b,i,g⟩))=some (RuL.cells ⟨mt0,b,i,g⟩);exact If some (AH U)) U ?_
 intro u D
 refine J4 ?_
 refine eT1 ?_
 exact λs h=>⟨aG u,1,[.row u (RuL.cells ⟨mt0,b,i,g⟩)],t,[⟨mt0,b,i,g⟩],rfl,by unfold GQ;rw[q];rfl,Vec.row U U (M2 _),λr n=>(by rw[Es.1 n];exact⟨t,l,λe z=>z⟩),λd y=>(by rw[Es.1 y];exact Aat Sg Ve o),F8,by simpa using h⟩
theorem Adt(w:Wd):Cl 92 #[sN] w λe c=>RsC w c (GQ []) e :=
 Wl w none 0 [] (λb=>absurd U b) (λa h=>Da) (Lv _)
theorem UJ(w:Wd):Cl 170 #[] w (RvF (.agg #[iI 4194304,iI 16777216]) w):=by
 refine en0 func170 U ntmps170 U<|J2 ?_
 refine zy U i305z.h U U<|λb a=>J9 ?_
 exact Aw
theorem Aft(w:Wd)(ad:Option Addr)(c:Nat)(xs:List RuL)(u:Rg w ad (BB xs))(G:xs.length<=100000000):
 Cl 172 #[.slice ad xs.length c] w (RvF (.bool (decide (Ih (xs.map RuL.d)))) w):=by
 refine en0 func172 U ntmps172 U<|J14 ?_
 refine oLp (λi:Nat=>[(7,iI i),(6,iI xs.length),(5,.slice ad xs.length c),(2,.bool false)]) (λ_=>[]) (λi=>i<=xs.length/\∀j r,j<i->xs[j]?=some r->¬0<r.acts.length) (λi=>xs.length-i) 0 ⟨Lv _,λj r h=>absurd h (Ac5 _)⟩ ?_
 rintro i ⟨F,a⟩
 refine J2 ?_
 refine JT (λo=>?_) λo=>?_
 refine J10 ?_
 obtain⟨r,f⟩:∃x,xs[i]?=some x:=Gx
 obtain⟨m,z,ea1,D⟩:=u Dx
 refine zV ((AA (b:=m) (off:=z) (lo:=i) U Du U underlying54 BJ U W)) U ?_
 refine zV (AB (cs:=r.cells) U U Ji.h (RuL.len r) (DP (λh=>h) (Rg.seg RuL.len D f))) U<|zy U CZ.h U U<|?_
 intro n t
 refine J1 ?_
 refine WL.as (L':=[.row n r.cells]) U<|J5 ?_
 refine zV (An U U DV (cellAt (v:=.slice r.ad r.acts.length r.c) (DQ r))) U<|J1 ?_
 refine JT (λg=>?_) λg=>?_
 refine J14 ?_
 refine eT1 ?_
 exact λE h=>⟨by rw[Ro λq:Ih (xs.map RuL.d)=>q r.d (Ab5 (Do f)) (by show 0<r.acts.length;omega)],h.frm⟩
 refine J10 ?_
 exact eW (i+1) W ⟨W,λj y k l=>by
 by_cases e:j=i
 .subst e
  rw[f] at l
  cases l
  omega
 .exact a j y W l⟩
 refine J15 ?_
 refine eT1 ?_
 exact λE h=>⟨by
 rw[UV]
 intro d s
 obtain⟨r,f,rfl⟩:=Ab8.1 s
 obtain⟨j,k⟩:=List.mem_iff_getElem?.1 f
 exact a j r (by have:=(Eu.1 k).1;omega) k,h.frm⟩
theorem AbW(h:IC F=0)(hk:F.kind=3):∃q:Nat,F.f=q/\q<9/\F.f.toNat=q/\Vf q F.val F.mask:=by
 unfold IC at h
 rw[IR hk] at h
 split at h
 .cases h
 .rename_i a
  obtain⟨q,e,c,b⟩:=Jk.nat (Acp.1 λk=>a (.inl k))
  refine⟨q,e,c,b,?_,?_⟩
  .rw [<- b];exact Acp.1 λk=>a (.inr (.inl k))
  .exact Acp.1 λk=>a (.inr (.inr k))
theorem Ww(w:Wd)(t:Nd)(z:Bool)(hk:okT z t)(R:t.kind=3)(K:t.In)(S:GW w):
 Cl 93 #[ndV t] w λe J=>RsC w J (MF t.f.toNat t.val t.mask) e:=by
 obtain⟨q,X,P,F,G⟩:=AbW hk.parts.2.1 R
 have Q:=K.Nv.2.2.1
 have O:=K.Nv.2.2.2.1
 have x:(Mt.one q t.val t.mask).In:=Za Q O
 have i:∀H:List Ac,H=[ac0]->(⟨Mt.one q t.val t.mask,H⟩:RuD).Fit:=λH e=>⟨⟨x,Zb P,λa u=>by rw[e] at u;rw[Es.1 u];exact⟨Gu.1,Gu.2.1⟩⟩,λa u=>by rw[e] at u;rw[Es.1 u];exact Gu.2.2⟩
 have n:(⟨mt0,[]⟩:RuD).Fit:=⟨⟨Sg,Ve,λa h=>Da⟩,λa h=>Da⟩
 obtain⟨o,l⟩:∃c:Bool,c=true<->mtL (Mt.one q t.val t.mask)=mtL mt0:=⟨@decide _ (Classical.propDecidable _),@Aim _ (Classical.propDecidable _)⟩
 rw[F]
 refine en0 func93 U ntmps93 U<|J2 ?_
 refine zx U U U U U<|λD Z=>J6 ?_
 refine zV (An U U i22o.h (cellAt (v:=iI (q:Int)) (by show some (Value.int .i64 t.f)=_;rw[X]))) U ?_
 refine J1 ?_
 refine zV (An U U Gn.h (cellAt (v:=.int .u64 t.val) U)) U<|J1 ?_
 refine zV (An U U Gn.h (cellAt (v:=.int .u64 t.mask) U)) U<|zk CkO U (λw T=>Ac2 w q P t.val t.mask Q O G (S.BI (λh=>h) T))<|?_
 refine J3 ?_
 refine zy U FR.h U U<|λE aa=>J1 ?_
 refine WL.as (L':=[.row E (mtL (Mt.one q t.val t.mask)),.row D (ndL t)]) U<|J7 ?_
 refine zV ((Gs U U U).f W) U<|J8 ?_
 refine zB underlying221 BV DY.h De U ?_
 intro g L
 refine J8 ?_
 refine zV (GN (b:=o) (ys:=mtL mt0) U U U UU US U U l) U ?_
 cases o
 refine J11 ?_
 refine zB underlying54 BJ CZ.h U U<|λj N=>WL.as (L':=[.row j (BB [⟨Mt.one q t.val t.mask,aG g,1,[ac0]⟩,⟨mt0,none,0,[]⟩]),.row g (acL ac0),.row E (mtL (Mt.one q t.val t.mask)),.row D (ndL t)]) U<|J4 ?_
 refine eT1 ?_
 have e:MF q t.val t.mask=[⟨Mt.one q t.val t.mask,[ac0]⟩,⟨mt0,[]⟩]:=(by unfold MF;exact E9 λk=>by have:=l.2 (OO.2 k);cases this)
 exact λJ h=>⟨aG j,2,[.row j (BB [⟨Mt.one q t.val t.mask,aG g,1,[ac0]⟩,⟨mt0,none,0,[]⟩])],[.row g (acL ac0)],[⟨Mt.one q t.val t.mask,aG g,1,[ac0]⟩,⟨mt0,none,0,[]⟩],rfl,e.symm,Vec.row U U (M2 _),λr y=>(by
  rcases Rl.1 y with rfl|y
  .exact ⟨[.row g (acL ac0)],Vec.row U U (M2 _),λe he=>he⟩
  .rw [Es.1 y];exact⟨[],Vec.nil 10,λe he=>Fy⟩),λd m=>(by
  rw[e] at m
  rcases Rl.1 m with rfl|m
  .exact i _ U
  .rw [Es.1 m];exact n),(by show 2<=100000000;decide),h.AN [.row E (mtL (Mt.one q t.val t.mask)),.row D (ndL t)]⟩
 refine J8 ?_
 refine zB underlying54 BJ CZ.h (by show some (AK (List.replicate 1 _).flatten 0 (RuL.cells ⟨Mt.one q t.val t.mask,aG g,1,[ac0]⟩))=some (RuL.cells ⟨Mt.one q t.val t.mask,aG g,1,[ac0]⟩);exact If some (AH U)) U ?_
 intro s M
 refine J5 ?_
 refine eT1 ?_
 have e:MF q t.val t.mask=[⟨Mt.one q t.val t.mask,[ac0]⟩]:=(by unfold MF;exact IR (OO.1 (l.1 U)))
 exact λJ h=>⟨aG s,1,[.row s (RuL.cells ⟨Mt.one q t.val t.mask,aG g,1,[ac0]⟩)],[.row g (acL ac0)],[⟨Mt.one q t.val t.mask,aG g,1,[ac0]⟩],rfl,e.symm,Vec.row U U (M2 _),λr y=>(by rw[Es.1 y];exact⟨[.row g (acL ac0)],Vec.row U U (M2 _),λe he=>he⟩),λd m=>(by rw[e] at m;rw[Es.1 m];exact i _ U),F8,h.AN [.row E (mtL (Mt.one q t.val t.mask)),.row D (ndL t)]⟩

def RsS(h g:Wd)(L:eL)(f:List RuD)(e:Ending):Prop:=∃b c E K, ∃a:List RuL,e=.returned (.slice b a.length c)/\a.map RuL.d=f/\Vec 19 b a.length c (BB a) E/\(∀r∈a,DE K r)/\(∀d∈f,d.Fit)/\a.length<=100000000/\St Fx h g (E++(K++L))
def Jq(N:Nat):Prop:=∀(t:Nd),SizeOf.sizeOf t<=N->∀(w:Wd) (a:Bool),okT a t->t.In->t.At w->GW w->(AD t).1<=300->(AD t).2<=64 ->
 Cl 42 #[ndV t] w λe b=>RsC w b (AO t) e
theorem Li{a:List RuL}(h:a.map RuL.d=L)(b:∀d∈L,d.acts.length<=D):∀r∈a,r.acts.length<=D:=λr c=>b r.d (by rw[<- h];exact Ab5 c)
theorem Nb(c:SizeOf.sizeOf F<=D)(hk:okT Q F)(a:(AD F).1<=300)(b:(AD F).2<=64):∀d∈AO F,d.acts.length<=64:=λd e=>by
 have:=(MZ D F c Q hk a b).acts d e
 omega
structure BaS where
 i:Nat
 ls:List RuL
 ad:Option Addr
 c:Nat
 E:eL
 K:eL
theorem Rp{L K0:eL}(N:Nat)(ih:Jq N)(t:Nd)(hN:SizeOf.sizeOf t<=N+1)(X:Bool)(hk:okT X t)(hI:t.In)(hA:t.At G)(hG:GW G)(hks:∀u∈t.kids,(AD u).1<=300/\(AD u).2<=64)
 (F:FuncId) (v:FJ prog F) (f:List Ac->List Ac->List Ac) (S:SumC F f) (hso:Tg f) (R:∀Z vs,(f Z vs).length<=Z.length+vs.length)
 (a0:Option Addr) (c0:Nat) (n:List RuL) (hV0:Vec 19 a0 n.length c0 (BB n) K) (hK0:∀r∈n,DE K0 r) (J:IK 64 n) (hl0:n.length<=100000000) (j:St Fx G H (K++(K0++L))) :
 Cl 94 #[.slice t.ad t.kids.length t.cap,.slice a0 n.length c0,.func (.func F) #[] #[]] H λe w'=>RsS G w' L (JN f (t.kids.map AO) (n.map RuL.d)) e:=by
 have hlen:=hI.Nv.2.2.2.2
 have h64:t.kids.length<=64:=by
  have:=(WW hk.parts.2.2.1).2
  have:ON t.kind<=64:=by unfold ON;split;decide;split;decide;split<;>decide
  omega
 generalize hC:JN f (t.kids.map AO) (n.map RuL.d)=C
 refine enter func94 U ntmps94 U j<|J14 ?_
 refine oLp (λx:BaS=>[(11,iI x.i),(10,iI t.kids.length),(9,.slice t.ad t.kids.length t.cap),(1,.slice x.ad x.ls.length x.c),(2,.func (.func F) #[] #[])]) (λx=>x.E++(x.K++L)) (λx=>x.i<=t.kids.length/\JN f ((t.kids.drop x.i).map AO) (x.ls.map RuL.d)=C/\Vec 19 x.ad x.ls.length x.c (BB x.ls) x.E/\(∀r∈x.ls,DE x.K r)/\IK ((x.i+1)*64) x.ls/\x.ls.length<=100000000) (λx=>t.kids.length-x.i) ⟨0,n,a0,c0,K,K0⟩ ⟨Lv _,by dsimp only;rw[AeP];exact hC,hV0,hK0,⟨J.fit,λr P=>by have:=J.few r P;omega⟩,hl0⟩ ?_
 rintro⟨i,T,ad,c,E,a⟩ ⟨hi,hc,hV,hK,hF,hl⟩
 dsimp only at hi hc hV hK hF hl⊢
 refine J2 ?_
 refine JT (λh12=>?_) λh12=>?_
 refine J10 ?_
 obtain⟨u,k⟩:∃u,t.kids[i]?=some u:=Gx
 obtain⟨b,o,ea,_⟩:=(hA.kid k).1
 have m:=hks u (Do k)
 have O:=hk.kid k
 have q:=Nb (Nd.Jm hN k) O m.1 m.2
 rw[drop_cons k,Acu,JN] at hc
 refine zV (AA (b:=b) (off:=o) (lo:=i) U Db U underlying24 FF U W) U ?_
 refine zV (AB (cs:=ndL u) U U H5.h U (DW (λh=>h) (hA.Kz k ea))) U<|zy U Nu.h U U<|?_
 intro g8 hg8
 refine J1 ?_
 refine WL.as (L':=.row g8 (ndL u)::(E++(a++L))) U<|J5 ?_
 refine zK CkO U<|λw1 j=>(ih u (Nd.Jm hN k) w1 _ O (hI.kids.get _ _ _ k) ((hA.kid k).2.st (λ_ h=>h) j) (hG.BI (λh=>h) j) m.1 m.2).mono ?_
 rintro e w' ⟨uad,uc,EU,KU,Z,rfl,D,hVU,hKU,hFU,hlU,w⟩
 refine⟨_,_,rfl,j.join w,?_⟩
 refine J1 ?_
 refine zk CkO U (λH j=>UJ H)<|zK CkO U<|?_
 intro w1 j
 have hF5:IK 5000 T:=⟨hF.fit,λr P=>by have:=hF.few r P;omega⟩
 refine(Agj w1 ad uad c uc T Z F v f S hso R 4194304 16777216 C8 C8 (Nl hV hK j (λe y=>by simp[y]) λe y=>by simp[y]) (Nl hVU hKU j (λe y=>by simp[y]) λe y=>by simp[y]) hF5 ⟨HY D hFU,λr P=>by have:=Li D q r P;omega⟩ hl hlU).mono ?_
 rintro e w' ⟨xad,xc,EX,KX,xs,rfl,g,hVX,hKX,M,hlX,w⟩
 rw[<- g] at M
 have g:xs.map RuL.d=JX f (T.map RuL.d) (AO u):=(by rw[g,D];rfl)
 rw[<- g] at hc
 have hXf:∀r∈xs,r.acts.length<=(i+1+1)*64:=Li g (NQ (Q:=λl=>l.length<=(i+1+1)*64) λd hd s hs=>by
  obtain⟨z,hz,rfl⟩:=Ab8.1 hd
  have h1:=hF.few z hz
  have h2:=q s hs
  have h3:=H6 (f z.d.acts s.acts)
  have h4:=R z.d.acts s.acts
  have h5:z.d.acts.length<=(i+1)*64:=h1
  omega)
 refine⟨_,EX++(KX++L),rfl,(j.join w).AN (EU++(KU++(.row g8 (ndL u)::(E++a)))),?_⟩
 refine J8 ?_
 exact eW ⟨i+1,xs,xad,xc,EX,KX⟩ C7 ⟨C7,hc,hVX,hKX,⟨HY U M,hXf⟩,hlX⟩
 refine J16 ?_
 refine eT1 ?_
 obtain rfl:i=t.kids.length:=W
 rw[Ah9] at hc
 have hc:T.map RuL.d=C:=hc
 exact λw' h=>⟨ad,c,E,a,T,rfl,hc,hV,hK,λd hd=>D5,hl,h⟩
theorem Wt(b:∀x∈L,x.acts.length<=D)(c:Yg false F):∀x∈Au L (AO F),x.acts.length<=D*(AD F).2.toNat:=by
 have d:=BZ F
 have g:=d.r
 have i:=d.a
 have e:=c.len
 unfold Au
 cases f:DS (AO F) L pl0 with
 | none=>exact λx a=>by cases a
 | some q=>exact(JJ (kr:=(AD F).1.toNat) (ka:=(AD F).2.toNat) (n:=D) W W (λx a=>by have:=c.acts x a;omega) L pl0 q b (λx a=>by cases a) f).2.1
structure BrS where
 i:Nat
 ls:List RuL
 ad:Option Addr
 c:Nat
 E:eL
 K:eL
 r:Int
 a:Nat
 m:Int
theorem YD(w:Wd)(N:Nat)(ih:Jq N)(t:Nd)(hN:SizeOf.sizeOf t<=N+1)(hk:okT false t)(Q:t.kind=16)(hI:t.In)(hA:t.At w)(hG:GW w)(h1:(AD t).1<=300)(h2:(AD t).2<=64):
 Cl 98 #[.slice t.ad t.kids.length t.cap] w λe P=>RsC w P (MB (t.kids.map AO) (GQ [ac0])) e:=by
 have hlen:=hI.Nv.2.2.2.2
 have J:=HC t
 rw[E9 W,E9 W,E9 W,E9 W,E9 W,IR Q] at J
 have T:t.kids.length≠0->(Hf (t.kids.map AD) (1,1,0)).1<=300/\(Hf (t.kids.map AD) (1,1,0)).2<=64:=λh=>by
  rw[E9 h] at J
  rw[<- J]
  exact⟨h1,h2⟩
 generalize hC:MB (t.kids.map AO) (GQ [ac0])=C
 generalize hW:Hf (t.kids.map AD) (1,1,0)=f at T
 refine en0 func98 U ntmps98 U<|J8 ?_
 refine zB underlying221 BV DY.h De U ?_
 intro O hg7
 refine zK CkO U<|λM k=>?_
 have hr0:Rg M (aG O) (CJ [ac0]):=λ_=>⟨O,0,rfl,λj v hj=>by rw[PP];exact(show Row M O (acL ac0) from k.holds (.row O (acL ac0)) C9).cell Fu⟩
 refine(Wl M (aG O) 1 [ac0] hr0 (λa h=>by rw[Es.1 h];exact Gu) C8).mono ?_
 rintro e P ⟨ad0,c0,E0,K0,l0,rfl,y,hV0,hK0,hF0,hl0,l⟩
 refine⟨_,E0++(K0++[]),rfl,(k.join l).AN [.row O (acL ac0)],?_⟩
 refine J12 ?_
 refine oLp (λx:BrS=>[(11,iI x.i),(10,iI t.kids.length),(9,.slice t.ad t.kids.length t.cap),(3,.slice x.ad x.ls.length x.c)]) (λx=>x.E++(x.K++[])) (λx=>x.i<=t.kids.length/\MB ((t.kids.drop x.i).map AO) (x.ls.map RuL.d)=C/\Vec 19 x.ad x.ls.length x.c (BB x.ls) x.E/\(∀r∈x.ls,DE x.K r)/\IK x.a x.ls/\x.a<=64/\x.ls.length<=100000000/\Hf ((t.kids.drop x.i).map AD) (x.r,x.a,x.m)=f/\(1<=x.r/\x.r<=4097)/\(0<=x.m/\x.m<=4097)) (λx=>t.kids.length-x.i) ⟨0,l0,ad0,c0,E0,K0,1,1,0⟩ ⟨Lv _,by dsimp only;rw[AeP,y];exact hC,hV0,hK0,⟨HY y hF0,Li y λd hd=>by rw[Es.1 hd];show 1<=1;decide⟩,by dsimp only;decide,hl0,by dsimp only;rw[AeP];exact hW,by dsimp only;decide,by dsimp only;decide⟩ ?_
 rintro⟨i,L,ad,c,E,K,r,a,m⟩ ⟨hi,hc,S,hK,hF,ha,X,H,hr,hm⟩
 dsimp only at hi hc S hK hF ha X H hr hm⊢
 refine J2 ?_
 refine JT (λh12=>?_) λh12=>?_
 refine J10 ?_
 obtain⟨u,q⟩:∃u,t.kids[i]?=some u:=Gx
 obtain⟨b,o,ea,_⟩:=(hA.kid q).1
 have g:=hk.kid q
 rw[Q] at g
 have g:okT false u:=(by rw[show G9 16 i=false by unfold G9;exact Ro (W)] at g;exact g)
 have hwu:=BZ u
 have k1:=hwu.r
 have k2:=hwu.a
 have k3:=Kc k1.1 a
 have k4:=IJ hr.1 k3.1
 have k6:=O3 (a:=(a:Int)) W k2.1
 rw[drop_cons q,Acu,MB] at hc
 rw[drop_cons q,Acu,Hf] at H
 have H:Hf ((t.kids.drop (i+1)).map AD) (tms r (pwr (AD u).1 a),tms (a:Int) (AD u).2,max m (tms (a:Int) (AD u).2))=f:=(by rw[<- H,Int.toNat_natCast])
 have hle:=O6 ((t.kids.drop (i+1)).map AD) (tms r (pwr (AD u).1 a)) (tms (a:Int) (AD u).2) (max m (tms (a:Int) (AD u).2)) (GV _) k4 k6 W
 rw[H] at hle
 have hWle:=T W
 refine zV (AA (b:=b) (off:=o) (lo:=i) U Db U underlying24 FF U W) U ?_
 refine zV (AB (cs:=ndL u) U U H5.h U (DW (λh=>h) (hA.Kz q ea))) U<|zy U Nu.h U U<|?_
 intro g5 hg5
 refine J1 ?_
 refine WL.as (L':=.row g5 (ndL u)::(E++(K++[]))) U<|J6 ?_
 refine zk CkO U (λw k=>Aft w ad c L (S.rg λe he=>k.holds e Dd) X) ?_
 generalize s:decide (Ih (L.map RuL.d))=bb
 cases bb
 refine J6 ?_
 have Z:=Aep s
 rw[E9 Z] at hc
 have ha1:1<=a:=Aie λhn=>Z λx hx=>by
  obtain⟨z,hz,rfl⟩:=Ab8.1 hx
  have h9:z.d.acts.length<=a:=hF.few z hz
  omega
 have k7:=Vv k1.1 k1.2 a ha1
 have k8:=Gy hr.1 W k3.2
 have k9:=Gy (a:=(a:Int)) W k2.1 k2.2
 have D:(AD u).1<=300:=W
 have F:(AD u).2<=64:=W
 have hbl:=MZ N u (Nd.Jm hN q) false g D F
 have e3:=PO (a:=(a:Int)) (b:=(AD u).2) W
 refine J2 ?_
 refine zK CkO U<|λM k=>(ih u (Nd.Jm hN q) M false g (hI.kids.get _ _ _ q) ((hA.kid q).2.st (λ_ h=>h) k) (hG.BI (λh=>h) k) D F).mono ?_
 rintro e P ⟨uad,uc,EU,KU,us,rfl,G,hVU,hKU,hFU,hlU,l⟩
 refine⟨_,_,rfl,k.join l,?_⟩
 refine zk CkO U (λw k=>UJ w)<|zK CkO U<|?_
 intro M k
 refine(VW M ad uad c uc L us 4194304 16777216 C8 C8 (Nl S hK k (λe he=>by simp[he]) λe he=>by simp[he]) (Nl hVU hKU k (λe he=>by simp[he]) λe he=>by simp[he]) ⟨hF.fit,λr hr=>AcC (hF.few r hr) ha⟩ ⟨HY G hFU,Li G (Nb (Nd.Jm hN q) g D F)⟩ X hlU).mono ?_
 rintro e P ⟨xad,xc,EX,KX,xs,rfl,n,hVX,hKX,R,hlX,l⟩
 rw[<- n] at R
 have n:xs.map RuL.d=Au (L.map RuL.d) (AO u):=(by rw[n,G];rfl)
 rw[<- n] at hc
 have e4:((a*(AD u).2.toNat:Nat):Int)=tms (a:Int) (AD u).2:=(by rw[e3,Int.natCast_mul,Aiq k2.1])
 have hXf:∀r∈xs,r.acts.length<=a*(AD u).2.toNat:=Li n (Wt (λx hx=>by obtain⟨z,hz,rfl⟩:=Ab8.1 hx;exact hF.few z hz) hbl)
 rw[<- e4] at H
 refine⟨_,EX++(KX++[]),rfl,(k.join l).AN (EU++(KU++(.row g5 (ndL u)::(E++K)))),?_⟩
 refine J8 ?_
 exact eW ⟨i+1,xs,xad,xc,EX,KX,tms r (pwr (AD u).1 a),a*(AD u).2.toNat,max m ((a*(AD u).2.toNat:Nat):Int)⟩ C7 ⟨C7,hc,hVX,hKX,⟨HY U R,hXf⟩,C7,hlX,H,k4,C7⟩
 refine J16 ?_
 refine eT1 ?_
 rw[IR (Ai8 s)] at hc
 exact λP h=>⟨ad,c,E,K,L,rfl,hc,S,hK,λd hd=>D5,X,h.AN [.row g5 (ndL u)]⟩
 refine J16 ?_
 refine eT1 ?_
 obtain rfl:i=t.kids.length:=W
 rw[Ah9] at hc
 have hc:L.map RuL.d=C:=hc
 exact λP h=>⟨ad,c,E,K,L,rfl,hc,S,hK,λd hd=>D5,X,by simpa using h⟩

theorem Agt(w:Wd)(g:Nat)(p:PlL)(a:w.rangeAt g 0 p.cells):Cl 178 #[pG g] w (RvF (.slice p.ad p.ls.length p.c) w):=by
 refine en0 func178 U ntmps178 U<|J10 ?_
 refine zV (An U U S4.h (BY (λh=>h) (a 2 _ U))) U ?_
 exact Cx
structure IfS where
 i:Nat
 p:PlL
 E:eL
 Em:eL
 H:eL
 K:eL
structure IfT where
 ls:List RuL
 ad:Option Addr
 c:Nat
 E:eL
 K:eL
theorem Ab0(w:Wd)(N:Nat)(ih:Jq N)(t:Nd)(hN:SizeOf.sizeOf t<=N+1)(hk:okT false t)(P:t.kind=17)(hI:t.In)(hA:t.At w)(hG:GW w)(h1:(AD t).1<=300)(h2:(AD t).2<=64):
 Cl 99 #[ndV t] w λe X=>RsC w X (AO t) e:=by
 have hlen:=hI.Nv.2.2.2.2
 have bl:=MY t
 have wt:=HC t
 rw[E9 W,E9 W,E9 W,E9 W,E9 W,E9 W,E9 W,E9 W,IR P] at bl
 rw[E9 W,E9 W,E9 W,E9 W,E9 W,E9 W,IR P] at wt
 obtain⟨u0,F⟩:=Jo hk (i:=0) (by rw[P];decide)
 obtain⟨Z,G⟩:=Jo hk (i:=1) (by rw[P];decide)
 obtain⟨u2,u⟩:=Jo hk (i:=2) (by rw[P];decide)
 have hl2:=(Eu.1 u).1
 have o0:=hk.kid F
 have o1:=hk.kid G
 have o2:=hk.kid u
 rw[P] at o0 o1 o2
 have o0:okT true u0:=o0
 have o1:okT false Z:=o1
 have o2:okT false u2:=o2
 rw[G6 F,G6 G,G6 u] at bl
 rw[DR F,DR G,DR u] at wt
 rw[wt] at h1 h2
 dsimp only at h1 h2
 have w0:=BZ u0
 have w1:=BZ Z
 have w2:=BZ u2
 have a0:=w0.r
 have a1:=w1.r
 have a2:=w2.r
 have hm:1<=max (AD Z).1 (AD u2).1/\max (AD Z).1 (AD u2).1<=4097:=W
 have t1:=JC W a0.2 hm.1
 have t2:=Gy a0.1 W hm.2
 have p0:=Gj o0
 obtain⟨b,o,ea,hr0⟩:=(hA.kid F).1
 have hr1:=hA.Kz G ea
 have hr2:=hA.Kz u ea
 have few0:=Nb (Nd.Jm hN F) o0 W W
 have few1:=Nb (Nd.Jm hN G) o1 W W
 have few2:=Nb (Nd.Jm hN u) o2 W W
 rw[bl]
 generalize hD:ifD (AO Z) (AO u2) (AO u0) pl0=D
 refine en0 func99 U ntmps99 U<|J2 ?_
 refine zx U U U U U<|λg1 hg1=>J4 ?_
 refine WC.held ([.row g1 (ndL t)]) mixed<|WRH.first (g:=4) [0,1,2,3,5,6,7,8] C6 C6 kp<|J1 ?_
 refine zj (An U U Nt.h (cellAt (v:=.slice t.ad t.kids.length t.cap) U)) U<|zj (AA (b:=b) (off:=o) (lo:=1) U Db U underlying24 FF U W) U ?_
 refine zj (AB (cs:=ndL Z) U U H5.h U (DW (λh=>h) hr1)) U<|J1 ?_
 refine zj (An U U Nt.h (cellAt (v:=.slice t.ad t.kids.length t.cap) U)) U<|zj (AA (b:=b) (off:=o) (lo:=2) U Db U underlying24 FF U W) U ?_
 refine zj (AB (cs:=ndL u2) U U H5.h U (DW (λh=>h) hr2)) U<|WH.nil<|?_
 refine WRH.one (g:=3) 4 C6<|zK CkO U<|λw1 q=>(ih Z (Nd.Jm hN G) w1 false o1 (hI.kids.get _ _ _ G) ((hA.kid G).2.st (λ_ h=>h) q) (hG.BI (λh=>h) q) W W).mono ?_
 rintro e X ⟨ad1,c1,E1,K1,ls1,rfl,hd1,hV1,hK1,hF1,hl1,f⟩
 refine⟨_,.row g1 (ndL t)::(E1++K1),rfl,(q.join f).AJ,?_⟩
 refine WL.BL kp<|WRH.one (g:=2) 9 C6<|zK CkO U<|λw1 q=>(ih u2 (Nd.Jm hN u) w1 false o2 (hI.kids.get _ _ _ u) ((hA.kid u).2.st (λ_ h=>h) q) (hG.BI (λh=>h) q) W W).mono ?_
 rintro e X ⟨ad2,c2,E2,K2,ls2,rfl,hd2,hV2,hK2,hF2,hl2',f⟩
 refine⟨_,.row g1 (ndL t)::(E1++(K1++(E2++K2))),rfl,(q.join f).AJ,?_⟩
 refine WL.BL kp<|WRH.first (g:=0) [10,11] C6 C6 kp<|J2 ?_
 refine WH.nil<|WRH.done C6<|J3 ?_
 refine zk CkO U (λw q=>UJ w)<|zK CkO U<|?_
 intro w1 q
 refine(Ux w1 4194304 16777216).mono ?_
 rintro e X ⟨n,rfl,f⟩
 refine⟨_,_,rfl,q.join f,?_⟩
 refine J7 ?_
 refine zV (An U U Nt.h (cellAt (v:=.slice t.ad t.kids.length t.cap) U)) U<|zV (AA (b:=b) (off:=o) (lo:=0) U Db U underlying24 FF U W) U ?_
 refine zV (AB (cs:=ndL u0) U U H5.h U (DW (λh=>h) hr0)) U<|zK CkO U<|?_
 intro w1 q
 refine(ih u0 (Nd.Jm hN F) w1 true o0 (hI.kids.get _ _ _ F) ((hA.kid F).2.st (λ_ h=>h) q) (hG.BI (λh=>h) q) W W).mono ?_
 rintro e X ⟨ad0,c0,E0,K0,k,rfl,hd0,hV0,hK0,hF0,hl0,f⟩
 generalize hB:E0++(K0++(E1++(K1++(E2++(K2++[Ent.row g1 (ndL t)])))))=B
 have mE0:∀e∈E0,e∈B:=λe l=>by rw[<- hB];simp[l]
 have mK0:∀e∈K0,e∈B:=λe l=>by rw[<- hB];simp[l]
 have mE1:∀e∈E1,e∈B:=λe l=>by rw[<- hB];simp[l]
 have mK1:∀e∈K1,e∈B:=λe l=>by rw[<- hB];simp[l]
 have mE2:∀e∈E2,e∈B:=λe l=>by rw[<- hB];simp[l]
 have mK2:∀e∈K2,e∈B:=λe l=>by rw[<- hB];simp[l]
 refine⟨_,.row n (PlL.cells ⟨4194304,16777216,none,0,[],none,0,[],none, #[],0⟩)::([]++([]++([]++([]++B)))),rfl,(by rw[<- hB];exact(q.join f).AJ),?_⟩
 refine J5 ?_
 refine oLp (λx:IfS=>[(31,iI x.i),(30,iI k.length),(29,.slice ad0 k.length c0),(3,.slice ad1 ls1.length c1),(4,.slice ad2 ls2.length c2),(5,pG n)]) (λx=>.row n x.p.cells::(x.E++(x.Em++(x.H++(x.K++B))))) (λx=>x.i<=k.length/\ifD (AO Z) (AO u2) ((k.drop x.i).map RuL.d) x.p.d=D/\K9 x.p x.E x.Em x.H x.K) (λx=>k.length-x.i) ⟨0,⟨4194304,16777216,none,0,[],none,0,[],none, #[],0⟩,[],[],[],[]⟩ ⟨Lv _,by dsimp only;rw[AeP,hd0];exact hD,K9.new 4194304 16777216 C8 C8⟩ ?_
 rintro⟨i,p,E,Em,H,K⟩ ⟨hi,hc,hP⟩
 dsimp only at hi hc hP⊢
 refine J2 ?_
 refine JT (λh32=>?_) λh32=>?_
 refine J10 ?_
 obtain⟨r,hr⟩:∃x,k[i]?=some x:=Gx
 have hrm:=Do hr
 have hrf:=HY hd0 hF0 r hrm
 obtain⟨b1,o1,ea1,q1⟩:=hV0.XS (L:=.row n p.cells::(E++(Em++(H++(K++B))))) (λe l=>by simp[mE0 e l]) Fv
 rw[drop_cons hr,Acu,ifD] at hc
 refine zV ((AA (b:=b1) (off:=o1) (lo:=i) U (by show some (Value.slice ad0 _ _)=_;rw[ea1]) U underlying54 BJ U W)) U ?_
 refine zV (AB (cs:=r.cells) U U Ji.h (RuL.len r) λX f=>Rg.seg RuL.len (q1 _ _ X f) hr) U<|zy U CZ.h U U<|?_
 intro S hg7
 refine J1 ?_
 refine WL.as (L':=.row S r.cells::.row n p.cells::(E++(Em++(H++(K++B))))) U<|J8 ?_
 refine WC.cut (λx:IfT=>[(8,.slice x.ad x.ls.length x.c),(7,pG S),(31,iI i),(30,iI k.length),(29,.slice ad0 k.length c0),(3,.slice ad1 ls1.length c1),(4,.slice ad2 ls2.length c2),(5,pG n)]) (λ_=>.row S r.cells::.row n p.cells::(E++(Em++(H++(K++B))))) (λx=>x.ls.map RuL.d=(if 0<r.d.acts.length then AO Z else AO u2)/\Vec 19 x.ad x.ls.length x.c (BB x.ls) x.E/\(∀y∈x.ls,DE x.K y)/\(∀e∈x.E,e∈B)/\(∀e∈x.K,e∈B)/\IK 64 x.ls/\x.ls.length<=100000000) ?_ ?_
 refine J3 ?_
 refine zV (An U U DV (cellAt (v:=.slice r.ad r.acts.length r.c) (DQ r))) U<|J1 ?_
 refine JT (λh39=>?_) λh39=>?_
 refine J7 ?_
 exact eM ⟨ls1,ad1,c1,E1,K1⟩ ⟨by rw[IR (by show 0<r.acts.length;omega)];exact hd1,hV1,hK1,mE1,mK1,⟨HY hd1 hF1,Li hd1 few1⟩,hl1⟩
 refine J4 ?_
 exact eM ⟨ls2,ad2,c2,E2,K2⟩ ⟨by rw[E9 (by show ¬0<r.acts.length;omega)];exact hd2,hV2,hK2,mE2,mK2,⟨HY hd2 hF2,Li hd2 few2⟩,hl2'⟩
 rintro⟨ys,ya,yc,EY,KY⟩ ⟨hyd,hVY,hKY,mEY,mKY,hFY,hly⟩
 dsimp only at hyd hVY hKY mEY mKY hFY hly⊢
 rw[<- hyd] at hc
 refine J8 ?_
 refine oLp (λx:IfS=>[(43,iI x.i),(42,iI ys.length),(41,.slice ya ys.length yc),(7,pG S),(31,iI i),(30,iI k.length),(29,.slice ad0 k.length c0),(3,.slice ad1 ls1.length c1),(4,.slice ad2 ls2.length c2),(5,pG n)]) (λx=>.row S r.cells::.row n x.p.cells::(x.E++(x.Em++(x.H++(x.K++B))))) (λx=>x.i<=ys.length/\ifD (AO Z) (AO u2) ((k.drop (i+1)).map RuL.d) (ifI r.d ((ys.drop x.i).map RuL.d) x.p.d)=D/\K9 x.p x.E x.Em x.H x.K) (λx=>ys.length-x.i) ⟨0,p,E,Em,H,K⟩ ⟨Lv _,by dsimp only;rw[AeP];exact hc,hP⟩ ?_
 rintro⟨j,Q,E3,O,H3,K3⟩ ⟨hj,J,z⟩
 dsimp only at hj J z⊢
 refine J2 ?_
 refine JT (λh44=>?_) λh44=>?_
 refine J10 ?_
 obtain⟨s,hs⟩:∃x,ys[j]?=some x:=Gx
 have hsm:=Do hs
 have hsf:=hFY.fit s hsm
 have hsn:=hFY.few s hsm
 obtain⟨b2,o2,ea2,q2⟩:=hVY.XS (L:=.row S r.cells::.row n Q.cells::(E3++(O++(H3++(K3++B))))) (λe l=>by simp[mEY e l]) Fv
 rw[drop_cons hs,Acu,ifI] at J
 refine zV ((AA (b:=b2) (off:=o2) (lo:=j) U (by show some (Value.slice ya _ _)=_;rw[ea2]) U underlying54 BJ U W)) U ?_
 refine zV (AB (cs:=s.cells) U U Ji.h (RuL.len s) λX f=>Rg.seg RuL.len (q2 _ _ X f) hs) U<|zy U CZ.h U U<|?_
 intro R hg10
 refine J1 ?_
 refine WL.as (L':=.row R s.cells::.row S r.cells::.row n Q.cells::(E3++(O++(H3++(K3++B))))) U<|J5 ?_
 refine zV (AB U U Ad.h U (AT (g:=S) (m:=18) (new:=mtL r.m) (Gr r))) U<|J1 ?_
 refine zV (AB U U Ad.h U (AT (g:=R) (m:=18) (new:=mtL s.m) (Gr s))) U<|zk CkO U (λw q=>L6 w r.m s.m hrf.isIn.m hsf.isIn.m)<|?_
 refine J3 ?_
 refine zy U FR.h U U<|λg11 hg11=>J1 ?_
 refine WL.as (L':=.row g11 (mtL ((r.m.and s.m).getD mt0))::.row R s.cells::.row S r.cells::.row n Q.cells::(E3++(O++(H3++(K3++B))))) U<|J6 ?_
 generalize M:(r.m.and s.m).isSome=bb
 cases bb
 refine J16 ?_
 have hno:r.d.m.and s.d.m=none:=(by cases h:r.m.and s.m with|none=>exact h|some x=>rw[h] at M;cases M)
 rw[hno] at J
 exact WE.next ⟨j+1,Q,E3,O,H3,K3⟩ C7 ⟨C7,J,z⟩ (.int U C7 (.cons U (.cons U (.cons U (.cons U (.cons U (.cons U (.cons U (.cons U (.cons U .nil)))))))))) (by repeat (first|exact Aia _|refine List.Sublist.cons _ ?_))
 have T:∃m,r.m.and s.m=some m:=(by cases h:r.m.and s.m with|none=>rw[h] at M;cases M|some x=>exact⟨x,rfl⟩)
 obtain⟨m,T⟩:=T
 rw[T]
 obtain⟨hmeet,hmb⟩:=Jb T
 have hmI:m.In:=Ew
 have hmZ:m.Nz:=Ep
 have hmd:r.d.m.and s.d.m=some m:=T
 rw[hmd] at J
 dsimp only at J
 dsimp only [Option.getD]
 refine J3 ?_
 refine zk CkO U (λw q=>LZ w n Q m (z.r q C9 (λe l=>by simp[l]) λe l=>by simp[l]) z.ok hmI (by have:=z.room;omega)) ?_
 generalize hb59:decide (JH Q.ds m)=bb
 cases bb
 refine J9 ?_
 refine zV (An U U DV (cellAt (v:=.slice s.ad s.acts.length s.c) (DQ s))) U<|zK CkO U<|?_
 intro w1 hS1
 refine(AcJ (L:=.row g11 (mtL m)::.row R s.cells::.row S r.cells::B) n Q m s.ad s.c s.acts z hS1.AJ hmI hmZ (λw2 hS2=>?_) (λa h=>hsf.three h) W).mono ?_
 .obtain ⟨Eo,hVo,hEo⟩:=hKY s hsm
  exact hVo.rg λe l=>hS2.holds e (by simp[mKY e (hEo e l)])
 rintro e X ⟨b66,p3,E4,Em4,H4,K4,rfl,hyes,hno,hP3,f⟩
 rw[E9 (Aep hb59:¬JH Q.d.out m)] at J
 have hp3:(Q.d.add m s.d.acts).getD Q.d=p3.d:=(by
  have e:s.d.acts=s.acts:=rfl
  rw[e]
  cases b66 with
  | true=>rw[hyes rfl];rfl
  | false=>rw[(hno rfl).1,(hno rfl).2];rfl)
 rw[hp3] at J
 refine⟨_,.row S r.cells::.row n p3.cells::(E4++(Em4++(H4++(K4++B)))),rfl,f.AN [.row g11 (mtL m),.row R s.cells],?_⟩
 refine J7 ?_
 exact eW ⟨j+1,p3,E4,Em4,H4,K4⟩ C7 ⟨C7,J,hP3⟩
 refine J12 ?_
 rw[IR (Ai8 hb59:JH Q.d.out m)] at J
 exact WE.next ⟨j+1,Q,E3,O,H3,K3⟩ C7 ⟨C7,J,z⟩ (.int U C7 (.cons U (.cons U (.cons U (.cons U (.cons U (.cons U (.cons U (.cons U (.cons U .nil)))))))))) (by repeat (first|exact Aia _|refine List.Sublist.cons _ ?_))
 refine J14 ?_
 obtain rfl:j=ys.length:=W
 rw[Ah9] at J
 exact eW ⟨i+1,Q,E3,O,H3,K3⟩ C7 ⟨C7,J,z⟩
 refine J12 ?_
 refine zk CkO U (λw q=>Agt w n p λj v hj=>by rw[PP];exact(show Row w n p.cells from q.holds (.row n p.cells) C9).cell hj)<|J4 ?_
 refine eT1 ?_
 obtain rfl:i=k.length:=W
 rw[Ah9] at hc
 have hc:p.d=D:=hc
 have hrm:=hP.room
 exact λX h=>⟨p.ad,p.c,E,K,p.ls,rfl,(by rw[<- hc];rfl),hP.out,hP.own,λd J=>(by rw[<- hc] at J;exact hP.ok.fit d J),W,h.AN (.row n p.cells::(Em++(H++B)))⟩
/-! ### Not: acts turned over, in place -/
theorem Tz{e:Type}{a:e->vL}{s:Nat}(c:∀x,(a x).length=s)(R:vL):∀(b:List e) (i t:Nat) (y:e),b[i]?=some y->t<s->(AM a b++R)[i*s+t]?=(a y)[t]?
 | [],_,_,_,h,_=>by simp at h
 | x::b,0,t,y,h,d=>by
  simp only[Ahl,Ahe] at h
  subst h
  show((a x++AM a b)++R)[0*s+t]?=_
  rw[Aiu,PP,Qs,Ae9 (by rw[c];exact d)]
 | x::b,i+1,t,y,h,d=>by
  rw[Ah7] at h
  show((a x++AM a b)++R)[(i+1)*s+t]?=_
  rw[Qs,Ah8 (by rw[c,Agz];omega),c,show(i+1)*s+t-s=i*s+t by rw[Agz];omega]
  exact Tz c R b i t y h d
theorem Pu{f:Type}{a:f->vL}{s:Nat}(c:∀x,(a x).length=s)(R:vL):∀(b:List f) (i t:Nat) (y x:f) (v:Vl),b[i]?=some y->t<s->(a y).set t v=a x->(AM a b++R).set (i*s+t) v=AM a (b.set i x)++R
 | [],_,_,_,_,_,h,_,_=>by simp at h
 | z::b,0,t,y,x,v,h,e,d=>by
  simp only[Ahl,Ahe] at h
  subst h
  show((a z++AM a b)++R).set (0*s+t) v=(a x++AM a b)++R
  rw[Aiu,PP,Qs,List.set_append_left _ _ (by rw[c];exact e),d,Qs]
 | z::b,i+1,t,y,x,v,h,e,d=>by
  rw[Ah7] at h
  show((a z++AM a b)++R).set ((i+1)*s+t) v=(a z++AM a (b.set i x))++R
  rw[Qs,List.set_append_right _ _ (by rw[c,Agz];omega),c,show(i+1)*s+t-s=i*s+t by rw[Agz];omega,Pu c R b i t y x v h e d,Qs]
theorem Abb(r:RuL)(a:Option Addr)(c:Nat)(b:List Ac):r.cells.set 18 (.slice a b.length c)=RuL.cells ⟨r.m,a,c,b⟩:=by
 show(mtL r.m++[_]).set 18 _=mtL r.m++[_]
 rw[List.set_append_right _ _ (by rw[IX];exact M2 _),IX]
 rfl
def NotI(a b:List RuD)(i:Nat):Prop:=∀k,b[k]?=if k<i then(a[k]?).map XA else a[k]?
theorem NotI.step{b:List RuL}{r x:RuL}(h:NotI L (b.map RuL.d) D)(g:b[D]?=some r)(i:x.d=XA r.d):NotI L ((b.set D x).map RuL.d) (D+1):=λk=>by
 have a:=(Eu.1 g).1
 have f:=h D
 rw[E9 W,WF,g] at f
 have hk:=h k
 rw[List.map_set,List.getElem?_set]
 by_cases e:D=k
 .subst e
  rw[IR U,IR (by rw[Ri];exact a),IR W, <- f,i]
  rfl
 .rw [E9 e,hk]
  by_cases c:k<D
  .rw [IR c,IR W]
  .rw [E9 c,E9 W]
theorem NotI.done(h:NotI L O D)(b:O.length<=D)(a:L.length=O.length):O=L.map XA:=by
 apply AhO
 intro k
 rw[h k,WF]
 by_cases e:k<D
 .rw [IR e]
 .rw [E9 e,AcL W]
  rfl
theorem AeW{r:RuD}(h:r.Fit):(XA r).Fit:=by
 unfold XA
 split
 .exact ⟨⟨h.isIn.m,h.isIn.nz,λa h=>Da⟩,λa h=>Da⟩
 .exact ⟨⟨h.isIn.m,h.isIn.nz,λa b=>by rw[Es.1 b];exact⟨Gu.1,Gu.2.1⟩⟩,λa b=>by rw[Es.1 b];exact Gu.2.2⟩
structure NoS where
 i:Nat
 xs:List RuL
 E:eL
 K:eL

theorem YE(N:Nat)(ih:Jq N):Jq (N+1):=by
 intro t hN w pred hk hI hA hG h1 h2
 have hlen:=hI.Nv.2.2.2.2
 have bd:=MY t
 have wt:=HC t
 have pf:11<=t.kind->pred=false:=λh=>by
  cases pred with
  | false=>rfl
  | true=>have:=M6 hk.parts.1;omega
 refine en0 func42 U ntmps42 U<|J2 ?_
 refine zx U U U U U<|λg1 hg1=>J14 ?_
 refine JT (λh10=>?_) λh10=>?_
 refine J9 ?_
 exact Gh
 refine J5 ?_
 refine JT (λh11=>?_) λh11=>?_
 refine J6 ?_
 exact Gh
 refine J6 ?_
 refine JT (λab=>?_) λab=>?_
 refine J7 ?_
 refine zK CkO U<|λw1 hS=>?_
 rw[E9 W,IR W] at bd
 refine(Ww w1 t pred hk ab hI (hG.BI (λh=>h) hS)).mono ?_
 exact Cu
 refine J6 ?_
 refine JT (λP=>?_) λP=>?_
 refine J6 ?_
 obtain⟨u,hu⟩:=Jo hk (i:=0) (by rw[show t.kind=4 from P];decide)
 have hlt:=(Eu.1 hu).1
 obtain⟨b,o,ea,F⟩:=(hA.kid hu).1
 have M:=hk.kid hu
 rw[show t.kind=4 from P] at M
 have M:okT true u:=M
 rw[E9 W,E9 W,IR W,G6 hu] at bd
 rw[E9 W,IR W,DR hu] at wt
 rw[wt] at h1
 have p0:=Gj M
 refine J1 ?_
 refine zV (An U U Nt.h (cellAt (v:=.slice t.ad t.kids.length t.cap) U)) U<|zV (AA (b:=b) (off:=o) (lo:=0) U Db U underlying24 FF U W) U ?_
 refine zV (AB (cs:=ndL u) U U H5.h U (DW (λh=>h) (hA.Kz hu ea))) U<|zK CkO U<|?_
 intro w1 hS
 refine(ih u (Nd.Jm hN hu) w1 true M (hI.kids.get _ _ _ hu) ((hA.kid hu).2.st (λ_ h=>h) hS) (hG.BI (λh=>h) hS) h1 W).mono ?_
 rintro e w' ⟨ad,c,E0,K0,ls,rfl,hd,hV0,hK0,hF,hl,hS'⟩
 refine⟨_,E0++(K0++[Ent.row g1 (ndL t)]),rfl,(hS.join hS').AJ,?_⟩
 refine J12 ?_
 refine oLp (λx:NoS=>[(26,iI x.i),(25,iI ls.length),(3,.slice ad ls.length c)]) (λx=>x.E++(x.K++[Ent.row g1 (ndL t)])) (λx=>x.i<=ls.length/\x.xs.length=ls.length/\NotI (ls.map RuL.d) (x.xs.map RuL.d) x.i/\Vec 19 ad ls.length c (BB x.xs) x.E/\∀r∈x.xs,DE x.K r) (λx=>ls.length-x.i) ⟨0,ls,E0,K0⟩ ⟨Lv _,rfl,λk=>(E9 (Ac5 _)).symm,hV0,hK0⟩ ?_
 rintro⟨i,s,E,K⟩ ⟨hi,l,hn,hV,hK⟩
 dsimp only at hi l hn hV hK⊢
 refine J2 ?_
 refine JT (λh27=>?_) λh27=>?_
 refine J16 ?_
 obtain⟨r,T⟩:∃x,s[i]?=some x:=Gx
 obtain⟨O,R,ead,eE,ah,hlc⟩:=Vec.split (by rw[l];exact hV:Vec 19 ad s.length c (AM RuL.cells s) E) λe=>by rw[e] at T;simp at T
 rw[eE]
 refine WL.as (L':=.row O (AM RuL.cells s++R)::(K++[Ent.row g1 (ndL t)])) U ?_
 have hrc:(AM RuL.cells s++R)[0+i*19+18]?=some (.slice r.ad r.acts.length r.c):=(by rw[show 0+i*19+18=i*19+18 by omega,Tz RuL.len R s i 18 r T (W)];exact DQ r)
 have ai:0+i*19+18<(AM RuL.cells s++R).length:=(by rw[AC,AP RuL.len];omega)
 refine J2 ?_
 refine zV (AA (b:=O) (off:=0) (lo:=i) U Fh U underlying54 BJ U W) U ?_
 refine J1 ?_
 refine zV (An U U DV (cellAt (v:=.slice r.ad r.acts.length r.c) hrc)) U<|J1 ?_
 refine JT (λh35=>?_) λh35=>?_
 refine J6 ?_
 refine zV (AA (b:=O) (off:=0) (lo:=i) U Fh U underlying54 BJ U W) U ?_
 refine J1 ?_
 refine WL.DX U U U U DV ai (.none U) U<|J7 ?_
 have Z:(AM RuL.cells s++R).set (0+i*19+18) sN=BB (s.set i ⟨r.m,none,0,[]⟩)++R:=(by rw[show 0+i*19+18=i*19+18 by omega];exact Pu RuL.len R s i 18 r _ _ T (W) (Abb r none 0 []))
 refine WE.as (L':=[Ent.row O (BB (s.set i ⟨r.m,none,0,[]⟩)++R)]++(K++[Ent.row g1 (ndL t)])) (by rw[<- Z]<;>rfl) ?_
 exact eW ⟨i+1,s.set i ⟨r.m,none,0,[]⟩,[Ent.row O (BB (s.set i ⟨r.m,none,0,[]⟩)++R)],K⟩ C7 ⟨C7,by dsimp only;rw[AbI];exact l,hn.step T (by show(⟨r.m,[]⟩:RuD)=⟨r.m,if 0<r.acts.length then[] else[ac0]⟩;rw[IR (W)]),by
  rw[ead]
  exact Vec.row (by rw[Aiv (by rw[FM,AbI,l];exact M2 _),Aco (by rw[FM,AbI,l];exact M2 _)]) (by rw[<- Z,AbI];exact ah) W,λy X=>(by
  rcases Aik X with X|rfl
  .exact hK y X
  .exact ⟨[],Vec.nil 10,λe he=>Fy⟩)⟩
 refine J7 ?_
 refine zB underlying221 BV DY.h De U ?_
 intro n hg43
 refine zV (AA (b:=O) (off:=0) (lo:=i) U Fh U underlying54 BJ U W) U ?_
 refine J1 ?_
 refine WL.DX U U U U DV ai (.none U) U<|J7 ?_
 have Z:(AM RuL.cells s++R).set (0+i*19+18) (.slice (aG n) 1 1)=BB (s.set i ⟨r.m,aG n,1,[ac0]⟩)++R:=(by rw[show 0+i*19+18=i*19+18 by omega];exact Pu RuL.len R s i 18 r _ _ T (W) (Abb r (aG n) 1 [ac0]))
 refine WE.as (L':=.row n (acL ac0)::([Ent.row O (BB (s.set i ⟨r.m,aG n,1,[ac0]⟩)++R)]++(K++[Ent.row g1 (ndL t)]))) (by rw[<- Z]<;>rfl) ?_
 exact WE.to (L':=[Ent.row O (BB (s.set i ⟨r.m,aG n,1,[ac0]⟩)++R)]++(([Ent.row n (acL ac0)]++K)++[Ent.row g1 (ndL t)])) (λw hS=>hS.AJ)<|eW ⟨i+1,s.set i ⟨r.m,aG n,1,[ac0]⟩,[Ent.row O (BB (s.set i ⟨r.m,aG n,1,[ac0]⟩)++R)],[Ent.row n (acL ac0)]++K⟩ C7 ⟨C7,by dsimp only;rw[AbI];exact l,hn.step T (by show(⟨r.m,[ac0]⟩:RuD)=⟨r.m,if 0<r.acts.length then[] else[ac0]⟩;rw[E9 (W)]),by
  rw[ead]
  exact Vec.row (by rw[Aiv (by rw[FM,AbI,l];exact M2 _),Aco (by rw[FM,AbI,l];exact M2 _)]) (by rw[<- Z,AbI];exact ah) W,λy X=>(by
  rcases Aik X with X|rfl
  .exact (hK y X).more
  .exact ⟨[Ent.row n (acL ac0)],Vec.row U U (M2 _),λe he=>Ha _ he⟩)⟩
 refine J18 ?_
 refine eT1 ?_
 obtain rfl:i=ls.length:=W
 have J:=hn.done (by rw[Ri,l];exact M2 _) (by rw[Ri,Ri,l])
 rw[hd] at J
 exact λw' h=>⟨ad,c,E,K,s,by rw[l],J.trans bd.symm,by rw[l];exact hV,hK,λd hq=>(by rw[bd] at hq;obtain⟨z,hz,rfl⟩:=Ab8.1 hq;exact AeW (hF z hz)),W,h.AN [Ent.row g1 (ndL t)]⟩
 refine J6 ?_
 refine JT (λac=>?_) λac=>?_
 refine J5 ?_
 refine WC.held ([.row g1 (ndL t)]) mixed<|WRH.first (g:=4) [0,1,2] C6 C6 kp ?_
 have hp:∀u∈t.kids,okT true u:=λu hu=>(by
  obtain⟨j,_,hj⟩:=hk.mem hu
  rw[show t.kind=5 from ac] at hj
  exact hj)
 have hw1:=I0 (t.kids.map AD) (1,0) (GV _) ⟨C8,C8⟩
 rw[E9 W,E9 W,IR W] at wt
 rw[E9 W,E9 W,E9 W,IR W] at bd
 rw[wt] at h1
 have hks:∀u∈t.kids,(AD u).1<=300/\(AD u).2<=64:=λu hu=>⟨by have:=(hw1.2.2.2 _ (Ab5 hu)).1;omega,by rw[Gj (hp u hu)];decide⟩
 refine J1 ?_
 refine zj (An U U Nt.h (cellAt (v:=.slice t.ad t.kids.length t.cap) U)) U<|J1 ?_
 refine WH.nil<|WRH.one (g:=3) 3 C6<|zB underlying221 BV DY.h De U ?_
 intro D hg53
 refine WL.to (L':=[.row g1 (ndL t),.row D (acL ac0)]) (λw hS=>hS.AJ)<|WL.BL kp<|?_
 refine WRH.one (g:=2) 4 C6<|zK CkO U<|λw1 hS=>?_
 have F:Rg w1 (aG D) (CJ [ac0]):=λ_=>⟨D,0,rfl,λj v hj=>by rw[PP];exact(show Row w1 D (acL ac0) from hS.holds (.row D (acL ac0)) C9).cell Fu⟩
 refine(Wl w1 (aG D) 1 [ac0] F (λa h=>by rw[Es.1 h];exact Gu) C8).mono ?_
 rintro e w' ⟨ad0,c0,E0,K0,l0,rfl,hd0,hV0,hK0,hF0,hl0,hS'⟩
 refine⟨_,.row g1 (ndL t)::(E0++K0),rfl,(hS.join hS').AN [.row D (acL ac0)],?_⟩
 refine WL.BL kp<|WRH.one (g:=1) 5 C6<|zK CkO U<|λw1 hS=>(Rp (L:=[.row g1 (ndL t)]) N ih t hN pred hk hI hA hG hks 95 CkO IL AcA AdN (λus vs=>by unfold IL;split;exact Lv _;exact Nat.le_add_right _ _) ad0 c0 l0 hV0 hK0 ⟨HY hd0 hF0,Li hd0 λd hd=>by rw[Es.1 hd];show 1<=64;decide⟩ hl0 hS.AJ).mono ?_
 rintro e w' ⟨ad,c,E,K,ls,rfl,hd,hV,hK,hF,hl,hS'⟩
 rw[hd0] at hd hF
 refine⟨_,_,rfl,hS'.AJ (L':=.row g1 (ndL t)::(E++K)),?_⟩
 refine WL.BL kp<|WRH.first (g:=0) [6] C6 C6 kp<|J1 ?_
 refine WH.nil<|WRH.done C6<|J4 ?_
 exact Ag
 refine J7 ?_
 refine JT (λh57=>?_) λh57=>?_
 refine J8 ?_
 exact F9
 refine J5 ?_
 refine JT (λh58=>?_) λh58=>?_
 refine J5 ?_
 exact F9
 refine J6 ?_
 refine JT (λQ=>?_) λQ=>?_
 refine J6 ?_
 obtain⟨u,hu⟩:=Jo hk (i:=0) (by rw[show t.kind=13 from Q];decide)
 have hlt:=(Eu.1 hu).1
 obtain⟨b,o,ea,F⟩:=(hA.kid hu).1
 have M:=hk.kid hu
 rw[show t.kind=13 from Q] at M
 have M:okT true u:=M
 rw[E9 W,E9 W,E9 W,E9 W,E9 W,IR W,G6 hu] at bd
 rw[E9 W,IR W,DR hu] at wt
 rw[wt] at h1
 have p0:=Gj M
 refine J1 ?_
 refine zV (An U U Nt.h (cellAt (v:=.slice t.ad t.kids.length t.cap) U)) U<|zV (AA (b:=b) (off:=o) (lo:=0) U Db U underlying24 FF U W) U ?_
 refine zV (AB (cs:=ndL u) U U H5.h U (DW (λh=>h) (hA.Kz hu ea))) U<|zK CkO U<|?_
 intro w1 hS
 refine(ih u (Nd.Jm hN hu) w1 true M (hI.kids.get _ _ _ hu) ((hA.kid hu).2.st (λ_ h=>h) hS) (hG.BI (λh=>h) hS) h1 W).mono ?_
 exact Cu
 refine J6 ?_
 refine JT (λae=>?_) λae=>?_
 refine J6 ?_
 obtain⟨q,hf,hq,hfn,hv⟩:=Adz hk.parts.2.1 ae
 have aa:=hI.Nv.2.2.1
 rw[E9 W,E9 W,E9 W,E9 W,E9 W,E9 W,IR W,hfn] at bd
 refine J1 ?_
 refine zV (An U U i22o.h (cellAt (v:=iI (q:Int)) (by show some (Value.int .i64 t.f)=_;rw[hf]))) U ?_
 refine J1 ?_
 refine zV (An U U Gn.h (cellAt (v:=.int .u64 t.val) U)) U<|zk CkO U (λw hS=>AcI w q hq t.val aa.1 hv (hG.BI (λh=>h) hS))<|?_
 refine J3 ?_
 refine zy U DY.h U U<|λg5 hg5=>J1 ?_
 refine WL.as (L':=[.row g5 (acL (Ac.one q t.val)),.row g1 (ndL t)]) U<|J7 ?_
 refine zV ((Gs U U U).f W) U<|J8 ?_
 refine zB underlying221 BV DY.h (by show some (AK (List.replicate 1 _).flatten 0 (acL (Ac.one q t.val)))=some (acL (Ac.one q t.val));exact If some (AH U)) U ?_
 intro G hg84
 refine zK CkO U<|λw1 hS=>?_
 have F:Rg w1 (aG G) (CJ [Ac.one q t.val]):=λ_=>⟨G,0,rfl,λj v hj=>by rw[PP];exact(show Row w1 G (acL (Ac.one q t.val)) from hS.holds (.row G (acL (Ac.one q t.val))) C9).cell Fu⟩
 refine(Wl w1 (aG G) 1 [Ac.one q t.val] F (λa h=>by rw[Es.1 h];exact NK hq aa.1 hv) (by show 1<=100000;decide)).mono ?_
 rintro e w' ⟨ad,c,E,K,ls,rfl,hd,hV,hK,hF,hl,hS'⟩
 refine⟨_,.row g1 (ndL t)::(E++K),rfl,(hS.join hS').AN [.row G (acL (Ac.one q t.val)),.row g5 (acL (Ac.one q t.val))],?_⟩
 refine J6 ?_
 exact Ag
 refine J6 ?_
 refine JT (λaf=>?_) λaf=>?_
 refine J6 ?_
 have S:=pf W
 subst S
 rw[E9 W,E9 W,E9 W,E9 W,E9 W,E9 W,E9 W,IR W] at bd
 refine J1 ?_
 refine zV (An U U Nt.h (cellAt (v:=.slice t.ad t.kids.length t.cap) U)) U<|zK CkO U<|?_
 intro w1 hS
 refine(YD w1 N ih t hN hk af hI (hA.st (λ_ h=>h) hS) (hG.BI (λh=>h) hS) h1 h2).mono ?_
 exact Cu
 refine J6 ?_
 refine JT (λag=>?_) λag=>?_
 refine J6 ?_
 have S:=pf W
 subst S
 refine J1 ?_
 refine zK CkO U<|λw1 hS=>(Ab0 w1 N ih t hN hk ag hI (hA.st (λ_ h=>h) hS) (hG.BI (λh=>h) hS) h1 h2).mono ?_
 rintro e w' ⟨ad,c,E,K,ls,rfl,hd,hV,hK,hF,hl,hS'⟩
 have bd:AO t=AO t:=rfl
 refine⟨_,_,rfl,hS.join hS',?_⟩
 refine J6 ?_
 exact Ag
 refine J9 ?_
 rw[E9 W,E9 W,E9 W,E9 W,E9 W,E9 W,E9 W,E9 W,E9 W] at bd
 refine J1 ?_
 refine zB underlying221 BV DY.h De U ?_
 intro H hg96
 refine zK CkO U<|λw1 hS=>?_
 have F:Rg w1 (aG H) (CJ [ac0]):=λ_=>⟨H,0,rfl,λj v hj=>by rw[PP];exact(show Row w1 H (acL ac0) from hS.holds (.row H (acL ac0)) C9).cell Fu⟩
 refine(Wl w1 (aG H) 1 [ac0] F (λa h=>by rw[Es.1 h];exact Gu) C8).mono ?_
 rintro e w' ⟨ad,c,E,K,ls,rfl,hd,hV,hK,hF,hl,hS'⟩
 refine⟨_,.row g1 (ndL t)::(E++K),rfl,(hS.join hS').AN [.row H (acL ac0)],?_⟩
 refine J4 ?_
 exact Ag
theorem Aak:∀N,Jq N
 | 0=>λt a=>by cases t;simp only[Nd.mk.sizeOf_spec] at a;omega
 | N+1=>YE N (Aak N)

def BN(t:Nd):Int:=if (CL t 1 false 0).1≠0 then(CL t 1 false 0).1 else if (AD t).2 > 64 then 34 else if (AD t).1 > 4096 then 3 else 0
def VZ(w f:Wd)(t:Nd)(e:Ending):Prop:=∃b c E K, ∃a:List RuL,e=.returned (.tuple #[.slice b a.length c,iI (BN t)])/\a.map RuL.d=(if BN t=0 then AO t else[])/\Vec 19 b a.length c (BB a) E/\(∀r∈a,DE K r)/\(∀d∈a.map RuL.d,d.Fit)/\a.length<=100000000/\St Fx w f (E++K)
theorem VZ.none_(h:St Fx G H [])(a:BN F≠0):VZ G H F (.returned (.tuple #[sN,iI (BN F)])) :=
 ⟨none,0,[],[],[],rfl,(by rw[E9 a];rfl),Vec.nil 19,λr h=>Da,λr h=>Da,Lv _,h⟩
theorem AbD(w:Wd)(t:Nd)(m:t.In)(j:t.At w)(l:GW w)(v:(CL t 1 false 0).1=0->(AD t).2<=64->(AD t).1<=4096->(AD t).1<=300):
 Cl 11 #[ndV t] w λe w'=>VZ w w' t e:=by
 refine en0 func11 U ntmps11 U<|J2 ?_
 refine zx U U U U U<|λq x=>J7 ?_
 refine zk CkO U (λw g=>Q6 w t m (j.st (λ_ h=>h) g) (l.BI (λh=>h) g))<|J13 ?_
 refine JT (λa=>?_) λa=>?_
 refine J12 ?_
 refine eT2 ?_
 have e:BN t=(CL t 1 false 0).1:=(by unfold BN;exact IR a)
 rw[<- e]
 exact λw' h=>VZ.none_ (h.sub (Aix _)) (by rw[e];exact a)
 refine J8 ?_
 have d:(CL t 1 false 0).1=0:=AhH a
 rw[IR d,IR d]
 refine J1 ?_
 refine JT (λb=>?_) λb=>?_
 refine J11 ?_
 refine eT2 ?_
 have e:BN t=34:=(by unfold BN;rw[E9 λk=>k d,IR b])
 exact Co
 refine J9 ?_
 refine JT (λf=>?_) λf=>?_
 refine J11 ?_
 refine eT2 ?_
 have e:BN t=3:=(by unfold BN;rw[E9 λk=>k d,E9 b,IR f])
 exact Co
 refine J8 ?_
 refine zK CkO U<|λD g=>(Aak _ t (M2 _) D false (MM t 1 false 0 d) m (j.st (λ_ h=>h) g) (l.BI (λh=>h) g) (v d W W) W).mono ?_
 rintro e w' ⟨o,c,E,K,z,rfl,n,u,s,r,y,i⟩
 refine⟨_,_,rfl,g.join i,?_⟩
 refine J5 ?_
 refine eT2 ?_
 have e:BN t=0:=(by unfold BN;rw[E9 λk=>k d,E9 b,E9 f])
 exact λw' h=>⟨o,c,E,K,z,by rw[e],by rw[IR e];exact n,u,s,by rw[n];exact r,y,h.AN [.row q (ndL t)]⟩
end Gq



def Mt.Vm(m:Mt):Prop:=∀k,k<9->∀i,BW (m.val k) i=true->BW (m.mask k) i=true
theorem P3(x y:Int)(i:Nat):BW (FT x y) i=(BW x i && !BW y i):=by
 unfold BW FT
 rw[Int.toNat_natCast,Nat.testBit_xor,Nat.testBit_and]
 cases x.toNat.testBit i<;>cases y.toNat.testBit i<;>rfl
theorem Od(x y:Int)(i:Nat):BW (IB x y) i=(BW x i && BW y i):=by
 unfold BW IB
 rw[Int.toNat_natCast,Nat.testBit_and]
theorem AdH(x y:Int)(i:Nat):BW (QB x y) i=(BW x i ^^ BW y i):=by
 unfold BW QB
 rw[Int.toNat_natCast,Nat.testBit_xor]
theorem Gv(i:Nat):BW 0 i=false:=by unfold BW;exact Nat.zero_testBit i
theorem QF(a:0<=E)(b:0<=J)(h:∀i,BW E i=BW J i):E=J:=by
 have:E.toNat=J.toNat:=Nat.eq_of_testBit_eq h
 omega
theorem vm_of(h:FT E J=0)(i:Nat)(b:BW E i=true):BW J i=true:=by
 have a:=P3 E J i
 rw[h,Gv,b] at a
 cases c:BW J i with
 | true=>rfl
 | false=>rw[c] at a;cases a
theorem Mt.Vm.both{a b:Mt}(d:a.Vm)(e:b.Vm):(a.both b).Vm:=λk hk i c=>by
 have c:BW (orN (a.val k) (b.val k)) i=true:=c
 show BW (orN (a.mask k) (b.mask k)) i=true
 rw[QG,Ait] at c ⊢
 exact c.imp (d k hk i) (e k hk i)
theorem Mt.Vm.and{a b m:Mt}(c:a.Vm)(d:b.Vm)(h:a.and b=some m):m.Vm:=by
 unfold Mt.and at h
 split at h
 .cases h;exact c.both d
 .cases h
theorem Mt.Vm.I1{a:Mt}(c:a.Vm)(f:Nat):(a.I1 f).Vm:=λk hk i b=>by
 have b:BW (if k=f then 0 else a.val k) i=true:=b
 show BW (if k=f then 0 else a.mask k) i=true
 split at b
 .rw [Gv] at b;cases b
 .rename_i e;rw[E9 e];exact c k hk i b
theorem Mt.Vm.zero:Mt.Vm mt0:=λk _ i a=>by
 have a:BW 0 i=true:=a
 rw[Gv] at a;cases a
theorem Mt.Vm.one{f:Nat}{v m:Int}(h:FT v m=0):(Mt.one f v m).Vm:=λk _ i a=>by
 have a:BW (if k=f then v else 0) i=true:=a
 show BW (if k=f then m else 0) i=true
 split at a
 .rename_i e;rw[IR e];exact vm_of h i a
 .rw [Gv] at a;cases a
theorem Mt.Vm.ahead{a:Ac}{m:Mt}(c:m.Vm):∀(k:Nat){n:Mt},Ah a m k=some n->n.Vm
 | 0,n,h=>by cases h;exact c
 | k+1,n,h=>by
  rw[Ah] at h
  split at h
  .cases h
  .rename_i e d
   have b:=Mt.Vm.ahead c k d
   split at h
   .split at h
    .cases h
    .cases h;exact b.I1 k
   .cases h;exact b
def VmL(l:List RuD):Prop:=∀r∈l,r.m.Vm
theorem VmL.nil:VmL []:=λr h=>by cases h
theorem VmL.add{p q:PlD}{m:Mt}{d:List Ac}(c:VmL p.out)(b:m.Vm)(h:p.add m d=some q):VmL q.out:=by
 rw[PlD.Ij h]
 intro r a
 rcases LI.1 a with a|a
 .exact c r a
 .rw [Es.1 a];exact b
theorem M3{e:List RuD}{i:List Ac->List Ac->List Ac}{r:RuD}(d:r.m.Vm):∀(b:List RuD) (p q:PlD),VmL b->VmL p.out->HH e i r b p=some q->VmL q.out
 | [],p,q,_,c,h=>by cases h;exact c
 | s::b,p,q,k,c,h=>by
  have a:VmL b:=λx n=>k x (EQ _ n)
  rw[HH] at h
  split at h
  .exact M3 d b p q a c h
  .rename_i m l
   have f:=d.and (k s Fr) l
   split at h
   .exact M3 d b p q a c h
   split at h
   .cases h
   rename_i o g
   have j:=c.add f g
   split at h
   .cases h;exact j
   .exact M3 d b o q a j h
theorem Pq{c:List RuD}{f:List Ac->List Ac->List Ac}{b:List RuD}(i:VmL b):∀(a:List RuD) (p q:PlD),VmL a->VmL p.out->DU c f b a p=some q->VmL q.out
 | [],p,q,_,d,h=>by cases h;exact d
 | r::a,p,q,g,d,h=>by
  rw[DU] at h
  split at h
  .cases h
  rename_i j e
  exact Pq i a j q (λx k=>g x (EQ _ k)) (M3 (g r Fr) b p j i d e) h
theorem Tk{act:Ac}:∀(l:List RuD),VmL l->VmL (DM act l)
 | [],_=>VmL.nil
 | r::l,h=>by
  have b:=Tk (act:=act) l λx a=>h x (EQ _ a)
  rw[DM]
  split
  .exact b
  .rename_i m c
   intro x a
   rcases Rl.1 a with rfl|a
   .exact (h r Fr).ahead 9 c
   .exact b x a
theorem XM{m l:Int}{e b:List RuD}(i:VmL b):∀(g:List Ac) (c d:List RuD),VmL c->Iw m l e b g c=some d->VmL d
 | [],c,d,f,h=>by rw[Iw] at h;cases h;exact f
 | a::g,c,d,f,h=>by
  rw[Iw] at h
  split at h
  .cases h
  rename_i q k
  have j:=Pq (Tk (act:=a) b i) c _ q f VmL.nil k
  split at h
  .cases h;exact VmL.nil
  .exact XM i g q.out d j h
theorem Q9:∀(a:List RuD) (p q:PlD),VmL a->VmL p.out->HU a p=some q->VmL q.out
 | [],p,q,_,c,h=>by rw[HU] at h;cases h;exact c
 | x::a,p,q,e,c,h=>by
  have b:VmL a:=λy f=>e y (EQ _ f)
  rw[HU] at h
  split at h
  .exact Q9 a p q b c h
  split at h
  .cases h
  rename_i g d
  exact Q9 a g q b (c.add (e x Fr) d) h
theorem Rf{b:List RuD}(j:VmL b):∀(a:List RuD) (p q:PlD),VmL a->VmL p.out->DS b a p=some q->VmL q.out
 | [],p,q,_,e,h=>by rw[DS] at h;cases h;exact e
 | r::a,p,q,i,e,h=>by
  rw[DS] at h
  split at h
  .cases h
  rename_i c d
  split at h
  .cases h
  rename_i k f
  have l:=XM j r.acts [⟨r.m,[]⟩] c (λx g=>by rw[Es.1 g];exact i r Fr) d
  exact Rf j a k q (λx g=>i x (EQ _ g)) (Q9 c p k l e f) h
theorem Aa0{o:Option PlD}(h:∀q,o=some q->VmL q.out):VmL (outD o):=by
 cases o with
 | none=>exact VmL.nil
 | some p=>exact h p rfl
theorem Rh{mr ma:Int}(a:VmL L)(b:VmL O):VmL (outD (DS O L ⟨mr,ma,[]⟩)):=Aa0 λq c=>Rf b L _ q a VmL.nil c
theorem U1{a:List Ac->List Ac->List Ac}:∀(b:List (List RuD)) (l:List RuD),(∀x∈b,VmL x)->VmL l->VmL (JN a b l)
 | [],_,_,c=>c
 | x::b,l,d,c=>U1 b (JX a l x) (λy f=>d y (EQ _ f)) (Aa0 λq e=>Pq (d x Fr) _ _ q (c:VmL l) VmL.nil e)
theorem Afj:∀(b:List (List RuD)) (l:List RuD),(∀x∈b,VmL x)->VmL l->VmL (MB b l)
 | [],_,_,a=>a
 | x::b,l,c,a=>by
  rw[MB]
  split
  .exact a
  .exact Afj b _ (λy d=>c y (EQ _ d)) (Rh a (c x Fr))
theorem U5{r:RuD}(c:r.m.Vm):∀(part:List RuD) (p:PlD),VmL part->VmL p.out->VmL (ifI r part p).out
 | [],p,_,b=>b
 | s::part,p,d,b=>by
  have a:VmL part:=λx g=>d x (EQ _ g)
  rw[ifI]
  split
  .exact U5 c part p a b
  .rename_i m f
   split
   .exact U5 c part p a b
   .refine U5 c part _ a ?_
    cases e:p.add m s.acts with
    | none=>exact b
    | some q=>exact b.add (c.and (d s Fr) f) e
theorem Aeu{a d:List RuD}(g:VmL a)(e:VmL d):∀(l:List RuD) (p:PlD),VmL l->VmL p.out->VmL (ifD a d l p).out
 | [],p,_,b=>b
 | r::l,p,c,b=>by
  rw[ifD]
  exact Aeu g e l _ (λx f=>c x (EQ _ f)) (U5 (c r Fr) _ p (by split<;>assumption) b)
theorem Sk{a:List (List RuD)}(h:∀x∈a,VmL x)(i:Nat):VmL (OR a i):=by
 unfold OR
 rw[Aio]
 cases e:a[i]? with
 | none=>exact VmL.nil
 | some x=>exact h x (Do e)
theorem Wx:∀(N:Nat) (t:Nd),SizeOf.sizeOf t<=N->∀d,okT d t->VmL (AO t)
 | 0,t,f=>by cases t;simp only[Nd.mk.sizeOf_spec] at f;omega
 | N+1,t,f=>by
  intro d hk
  have c:∀x∈t.kids.map AO,VmL x:=λx o=>by
   obtain⟨u,n,rfl⟩:=Ab8.1 o
   obtain⟨j,l,g⟩:=hk.mem n
   exact Wx N u (Nd.Jm f l) _ g
  have a:∀i:List Ac,VmL (GQ i):=λi r b=>by rw[Es.1 b];exact Mt.Vm.zero
  rw[MY]
  split
  .exact a _
  split
  .rename_i p
   have e:=hk.parts.2.1
   have h:FT t.val t.mask=0:=by
    unfold IC at e
    rw[IR p] at e
    exact Aie λm=>by rw[IR (.inr (.inr m))] at e;cases e
   unfold MF
   split
   .intro r b;rw[Es.1 b];exact Mt.Vm.one h
   .intro r b
    rcases Rl.1 b with rfl|b
    .exact Mt.Vm.one h
    .rw [Es.1 b];exact Mt.Vm.zero
  split
  .intro r b
   obtain⟨q,k,rfl⟩:=Ab8.1 b
   exact Sk c 0 q k
  split
  .exact U1 _ _ c (a _)
  split
  .exact U1 _ _ c (a _)
  split
  .exact Sk c 0
  split
  .exact a _
  split
  .exact Afj _ _ c (a _)
  split
  .exact Aeu (Sk c 1) (Sk c 2) _ _ (Sk c 0) VmL.nil
  .exact a _
theorem Ab1(h:BN F=0):VmL (AO F):=Wx _ F (M2 _) _ (MM _ _ _ _ (Aie λk=>by
 unfold BN at h
 rw[IR k] at h
 exact k h))

/-! ### The pieces -/
structure IsT(R:Ky->Ky->Prop)(t:Nd)(w:Wd):Prop where
 isIn:t.In
 at_:t.At w
 rel:∀h g,OutT t h g<->R h g
structure IsQ(x:Nd×Nd)(w:Wd):Prop where
 in1:x.1.In
 in2:x.2.In
 at1:x.1.At w
 at2:x.2.At w
 rel:∀h g,OutT x.1 h g<->OutT x.2 h g
section
variable {A B C:Ky->Ky->Prop}
end

inductive Pn where
 | mk (kind f val mask:Int) (kids:List Pn)
mutual
def er:Nd->Pn
 | .mk k f v m _ _ a=>.mk k f v m (JY a)
def JY:List Nd->List Pn
 | []=>[]
 | t::a=>er t::JY a
end
mutual
def erD:Nd->Nat->Pn
 | .mk k f v m _ _ a,d=>.mk k f v m (match d with|0=>[] | d+1=>Qw a d)
def Qw:List Nd->Nat->List Pn
 | [],_=>[]
 | t::a,d=>erD t d::Qw a d
end
theorem Io:∀a:List Nd,JY a=a.map er
 | []=>by rw[JY];rfl
 | t::a=>by rw[JY,Io a];rfl
theorem WN(d:Nat):∀a:List Nd,Qw a d=a.map (λt=>erD t d)
 | []=>by rw[Qw];rfl
 | t::a=>by rw[Qw,WN d a];rfl
theorem Aas(t:Nd):er t=.mk t.kind t.f t.val t.mask (t.kids.map er):=by cases t;rw[er,Io];rfl
theorem AbV{t:Nd}(a:F.kind=t.kind)(b:F.f=t.f)(c:F.val=t.val)(d:F.mask=t.mask):IC F=IC t:=by unfold IC;rw[a,b,c,d]
theorem YO{t:Nd}(a:F.kind=t.kind)(b:F.kids.length=t.kids.length):Kv F=Kv t:=by unfold Kv;rw[a,b]
mutual
theorem Yb:∀(t u:Nd) (d:Nat) (b:Int) (g:Bool) (n:Int),er u=erD t d->17<=b+d->CL u b g n=CL t b g n
 | .mk k f v m a c e,u,d,b,g,n,o,x=>by
  rw[Gt u,Gt (.mk k f v m a c e)]
  by_cases i:16<b
  .rw [IR (.inl i),IR (.inl i)]
  .match d with
   | 0=>omega
   | d+1 =>
    rw[Aas,erD] at o
    injection o with j q r s l
    have w:u.kids.length=e.length:=by
     have:=If List.length l
     rwa [Ri,WN,Ri] at this
    rw[AbV (t:=.mk k f v m a c e) j q r s,YO (t:=.mk k f v m a c e) j w,j]
    have:=Up k e u.kids d (b+1) (n+1) 0 (by rw[<- l,Io]) W
    rw[this]
    rfl
theorem Up(k:Int):∀(e c:List Nd) (d:Nat) (a:Int) (n:Int) (i:Nat),JY c=Qw e d->17<=a+d->DN k i c a n=DN k i e a n
 | [],c,d,a,n,i,b,f=>by
  rw[Qw,Io] at b
  rw[List.map_eq_nil_iff.1 b]
 | t::e,c,d,a,n,i,b,f=>by
  match c with
  | []=>rw[JY,Qw] at b;cases b
  | u::c =>
   rw[JY,Qw] at b
   injection b with g h
   rw[DN,DN,Yb t u d a _ n g f]
   split
   .rfl
   .exact Up k e c d a _ (i+1) h f
end
mutual
theorem Ad9:∀(t:Nd) (d:Nat) (b:Int) (i:Bool) (n:Int),(CL t b i n).1=0->16<=b+d->erD t d=er t
 | .mk k f v m a c g,d,b,i,n,h,j=>by
  rw[CL] at h
  split at h
  .cases h
  .split at h
   .cases h
   .split at h
    .rename_i q;exact absurd h q
    .split at h
     .rename_i q;exact absurd h q
     .match d with
      | 0 =>
       match g with
       | []=>rw[erD,er,JY]
       | t::l =>
        exfalso
        rw[DN] at h
        have e:CL t (b+1) (G9 k 0) (n+1)=(34,n+1+1):=by rw[Gt,IR (.inl W)]
        rw[e] at h
        rw[IR (show(34:Int)≠0 by decide)] at h
        cases h
      | d+1 =>
       rw[erD,er,Aar k g d (b+1) (n+1) 0 h W]
theorem Aar(k:Int):∀(b:List Nd) (d:Nat) (a:Int) (n:Int) (i:Nat),(DN k i b a n).1=0->16<=a+d->Qw b d=JY b
 | [],d,a,n,i,_,_=>by rw[Qw,JY]
 | t::b,d,a,n,i,h,c=>by
  rw[DN] at h
  split at h
  .rename_i q;exact absurd h q
  .rename_i q
   rw[Qw,JY,Ad9 t d a _ n (Acp.1 q) c,Aar k b d a _ (i+1) h c]
end
/-! ### How many nodes a right tree has -/
mutual
theorem SQ:∀(t:Nd) (b:Int) (d:Bool) (n:Int),(CL t b d n).1=0->(CL t b d n).2=n+KO t
 | .mk k f v m a c e,b,d,n,h=>by
  rw[CL] at h ⊢
  split at h
  .cases h
  .split at h
   .cases h
   .split at h
    .rename_i q;exact absurd h q
    .split at h
     .rename_i q;exact absurd h q
     .rename_i g i j l
      rw[E9 g,E9 i,E9 j,E9 l,Qt k e (b+1) (n+1) 0 h,KO]
      omega
theorem Qt(k:Int):∀(b:List Nd) (a:Int) (n:Int) (i:Nat),(DN k i b a n).1=0->(DN k i b a n).2=n+II b
 | [],a,n,i,_=>by rw[DN,II];exact(Int.add_zero n).symm
 | t::b,a,n,i,h=>by
  rw[DN] at h ⊢
  split at h
  .rename_i q;exact absurd h q
  .rename_i q
   rw[E9 q,Qt k b a _ (i+1) h,SQ t a _ n (Acp.1 q),II]
   omega
end
/-! ### Nodes as cells -/
def CV:List Nd->vL
 | []=>[]
 | t::a=>ndL t++CV a
theorem Jy:∀a:List Nd,(CV a).length=a.length*5
 | []=>rfl
 | t::a=>by
  show(ndL t++CV a).length=_
  rw[AC,Jy a,Acg]
  show 5+a.length*5=_
  omega
theorem PD:∀(a:List Nd) (t:Nd),CV a++ndL t=CV (a++[t])
 | [],t=>by show[]++ndL t=ndL t++[];simp
 | u::a,t=>by
  show(ndL u++CV a)++ndL t=ndL u++CV (a++[t])
  rw[Qs,PD a t]
theorem Xr:∀(a:List Nd) (k:Nat) (t:Nd),a[k]?=some t->((CV a).drop (k*5)).take 5=ndL t
 | [],_,_,h=>by simp at h
 | u::a,0,t,h=>by
  simp only[Ahl,Ahe] at h
  subst h
  show((ndL u++CV a).drop (0*5)).take 5=_
  rw[Aiu,AeP,List.take_left' (show(ndL u).length=5 from rfl)]
 | u::a,k+1,t,h=>by
  rw[Ah7] at h
  show((ndL u++CV a).drop ((k+1)*5)).take 5=_
  rw[show(k+1)*5=5+k*5 by omega, <- List.drop_drop,List.drop_left' (show(ndL u).length=5 from rfl)]
  exact Xr a k t h
theorem BA.of'{w:Wd}{c:Option Addr}:∀(a:List Nd) (i:Nat),(∀(j:Nat) (t:Nd),a[j]?=some t->(∃b o,c=some ⟨b,o,none⟩/\w.rangeAt b (o+(i+j)*5) (ndL t))/\t.At w)->BA w c i a
 | [],_,_=>by unfold BA;trivial
 | t::a,i,h=>by
  unfold BA
  have d:=h 0 t U
  exact⟨d.1,d.2,BA.of' a (i+1) λj u e=>by have:=h (j+1) u e;rwa [show i+(j+1)=i+1+j by omega] at this⟩
theorem Vec.nodes{k f v m:Int}(n:Vec 5 N M.length D (CV M) K)(d:∀e∈K,e.holds G)(s:∀u∈M,u.At G):(Nd.mk k f v m N D M).At G:=by
 unfold Nd.At
 refine BA.of' M 0 λj u b=>⟨?_,s u (Do b)⟩
 have q:j<M.length:=(Eu.1 b).1
 rcases n with⟨_,h,_⟩|⟨g,c,rfl,rfl,t,o,hk⟩
 .omega
 .refine ⟨g,0,rfl,λi x a=>?_⟩
  have l:Row G g c:=d (.row g c) C9
  refine l.cell ?_
  have r:=Xr M j u b
  rw[<- r,Agg] at a
  split at a
  .rename_i w
   rw[Aic, <- t,Agg] at a
   split at a
   .rw [PP,PP];exact a
   .cases a
  .cases a
section Gq
attribute [local irreducible] WL WC WE WQ WP WH WR WM WRH

theorem St.pull{a b:Ent}{E c:eL}(h:St R G H (a::(K++(b::(E++c))))):St R G H (E++(a::(K++(b::c)))):=h.perm (by
 have:=Aib (a::(K++[b])) E c
 simpa [Qs] using this.symm)
structure Own(u:Nd)(E M:eL):Prop where
 isIn:u.In
 at_:∀w,(∀e∈E++M,e.holds w)->u.At w
 vec:Vec 5 u.ad u.kids.length u.cap (CV u.kids) E
theorem BU.of'(h:∀t∈M,t.In):BU M:=by
 induction M with
 | nil=>unfold BU;trivial
 | cons t M b=>unfold BU;exact⟨h t C9,b λu a=>h u (by simp[a])⟩
theorem Xl{b j:Type}{f g:b->j}{d a:List b}{u t:b}(h:d.map f=(a.take D).map g)(c:a[D]?=some t)(i:f u=g t):(d++[u]).map f=(a.take (D+1)).map g:=by
 obtain⟨hk,e⟩:=Eu.1 c
 rw[Ai7,h,AhG,c]
 simp[i]
theorem ZX:∀(N:Nat) (t:Nd),SizeOf.sizeOf t<=N->∀(J:Wd),t.In->t.At J->KO t<=1000000 ->
 Cl 46 #[ndV t] J λe w'=>∃u E M,e=.returned (ndV u)/\er u=er t/\Own u E M/\St Fx J w' (E++M)
 | 0=>λt T=>by cases t;simp only[Nd.mk.sizeOf_spec] at T;omega
 | N+1=>by
  intro t T J S R hsz
  have hlen:=S.Nv.2.2.2.2
  have hks:=Zq t
  have a:=S.Nv
  refine en0 func46 U ntmps46 U<|J2 ?_
  refine zx U U U U U<|λF hg1=>zy U Nu.h U U<|λG hg2=>J17 ?_
  refine oLp (λx:Nat×List Nd×Option Addr×Nat×eL×eL=>[(9,iI x.1),(8,iI t.kids.length),(7,.slice t.ad t.kids.length t.cap),(3,.slice x.2.2.1 x.2.1.length x.2.2.2.1),(1,pG F),(2,pG G)]) (λx=>x.2.2.2.2.1++(x.2.2.2.2.2++[.row G (ndL (.mk 0 0 0 0 none 0 [])),.row F (ndL t)])) (λx=>x.1<=t.kids.length/\x.2.1.length=x.1/\x.2.1.map er=(t.kids.take x.1).map er/\(∀u∈x.2.1,u.In)/\Vec 5 x.2.2.1 x.2.1.length x.2.2.2.1 (CV x.2.1) x.2.2.2.2.1/\∀w,(∀e∈x.2.2.2.2.2,e.holds w)->∀u∈x.2.1,u.At w) (λx=>t.kids.length-x.1) (0,[],none,0,[],[]) ⟨Lv _,rfl,C9,C9,Vec.nil 5,λ_ _ u h=>by cases h⟩ ?_
  rintro⟨k,D,ad,c,E,M⟩ ⟨hk,aa,d,l,H,i⟩
  dsimp only at hk aa d l H i⊢
  refine J2 ?_
  refine JT (λQ=>?_) λQ=>?_
  refine J10 ?_
  obtain⟨u,n⟩:∃u,t.kids[k]?=some u:=Gx
  obtain⟨b,o,ea,_⟩:=(R.kid n).1
  have hus:=Acz n
  refine zV (AA (b:=b) (off:=o) (lo:=k) U Db U underlying24 FF U W) U ?_
  refine zV (AB (cs:=ndL u) U U H5.h U (DW (λh=>h) (R.Kz n ea))) U<|zy U Nu.h U U<|?_
  intro g5 hg5
  refine J6 ?_
  refine zK CkO U<|λw1 q=>(ZX N u (Nd.Jm T n) w1 (S.kids.get _ _ _ n) ((R.kid n).2.st (λ_ h=>h) q) W).mono ?_
  rintro e w' ⟨z,L,O,rfl,Z,hO,X⟩
  refine⟨_,_,rfl,q.join X,?_⟩
  refine zB underlying24 FF Nu.h U U<|λj hg16=>WL.as (L':=.row j (ndL z)::((L++O)++(.row g5 (ndL u)::(E++(M++[.row G (ndL (.mk 0 0 0 0 none 0 [])),.row F (ndL t)]))))) U<|WL.to (L':=E++(.row j (ndL z)::((L++O)++(.row g5 (ndL u)::(M++[.row G (ndL (.mk 0 0 0 0 none 0 [])),.row F (ndL t)]))))) (λw q=>q.pull)<|?_
  refine WL.AU U U U underlying24 underlying24 FF Aal Nu.h U U H (new:=ndL z) (λ_=>⟨j,0,rfl,λw q=>AL (g:=j) w q⟩) U U W (.none U) U U<|λr P K s hr17=>J8 ?_
  have v:(D++[z]).length=D.length+1:=Dl
  exact WE.next (k+1,D++[z],r,P,K,(L++O)++M) C7 ⟨C7,C7,Xl d n Z,(λx hx=>by
   rcases LI.1 hx with h|h
   .exact l x h
   .rw [Es.1 h];exact hO.isIn),by dsimp only;rw[v, <- PD];exact s,λw y x hx=>by
   rcases LI.1 hx with h|h
   .exact i w (λe m=>y e (Mu _ m)) x h
   .rw [Es.1 h];exact hO.at_ w λe m=>y e (Ha _ m)⟩ (.int U C7 (.cons U (.cons U (.eq U (by dsimp only;rw[v]) (.cons U (.cons U .nil)))))) (Acq (.cons _ (by rw[Qs];exact Acq (.cons _ (.refl _)) _)) _)
  refine J23 ?_
  refine eT1 ?_
  obtain rfl:k=t.kids.length:=W
  rw[Ah6] at d
  exact λw' h=>⟨.mk t.kind t.f t.val t.mask ad c D,E,M,rfl,by rw[Aas,Aas t];show Pn.mk _ _ _ _ (D.map er)=_;rw[d];rfl,⟨Nd.In_mk a.1 a.2.1 a.2.2.1 a.2.2.2.1 W (BU.of' l),λw y=>H.nodes (λe m=>y e (Ha _ m)) (i w λe m=>y e (Mu _ m)),H⟩,h.sub (by rw[<- Qs];exact Acy _ _)⟩
end Gq

def macN(n:Int):Nat->Int:=λi=>if i=0 then 4 else if i=5 then n % 256 else 0
theorem AeM(n:Int):Byt (macN n):=λi=>by
 unfold macN
 split
 .exact ⟨C8,C8⟩
 .split
  .omega
  .exact ⟨C8,C8⟩
abbrev mcL(f:Nat->Int):vL:=bcs f 6
theorem Vd(f:Nat->Int):(mcL f).length=6:=Oc f 6
abbrev G3(a:List (Nat->Int)):vL:=AM mcL a
theorem PA(a:List (Nat->Int)):(G3 a).length=a.length*6:=AP Vd a
theorem Ahm(f:Nat->Int):∀v∈mcL f,v.oneCell'=true:=λv a=>by
 obtain⟨i,_,rfl⟩:=Ab8.1 a
 rfl
/-! ### Plans -/
structure PlN where
 oa:Option Addr
 oc:Nat
 outs:List Nd
 ia:Option Addr
 ic:Nat
 ins:List Nd
 ma:Option Addr
 mc:Nat
 AY:List (Nat->Int)
 xa:Option Addr
 xn:Nat
 xc:Nat
 ya:Option Addr
 yn:Nat
 yc:Nat
 za:Option Addr
 zn:Nat
 zc:Nat
def PlN.cells(p:PlN):vL:=[.slice p.oa p.outs.length p.oc,.slice p.ia p.ins.length p.ic,.slice p.ma p.AY.length p.mc,.slice p.xa p.xn p.xc,.slice p.ya p.yn p.yc,.slice p.za p.zn p.zc]
structure PlN.At(w:Wd)(p:PlN):Prop where
 outs:BA w p.oa 0 p.outs
 ins:BA w p.ia 0 p.ins
 AY:Rg w p.ma (G3 p.AY)
structure PlN.In(p:PlN):Prop where
 outs:BU p.outs
 ins:BU p.ins
 AY:∀f∈p.AY,Byt f
 few:p.outs.length<=1000/\p.ins.length<=1000/\p.AY.length<=1000
theorem BA.frm(h:BA G N 0 M)(a:Frm Fx G H):BA H N 0 M:=BA.BI (Frm.range a) N 0 M h
theorem BA.Kz{b o:Nat}(h:BA G N 0 M)(g:M[D]?=some F)(e:N=some ⟨b,o,none⟩):G.rangeAt b (o+D*5) (ndL F):=by
 obtain⟨⟨i,j,a,f⟩,_⟩:=h.get M 0 D F g
 rw[e] at a
 injection a with a
 injection a with c d
 subst c d
 rwa [PP] at f
theorem Vec.RX{c:Nat}{us:List Nd}(b:Vec 5 N us.length c (CV us) K)(a:∀e∈K,e.holds G)(d:∀u∈us,u.At G):BA G N 0 us:=by
 have:=Vec.nodes (k:=0) (f:=0) (v:=0) (m:=0) b a d
 unfold Nd.At at this
 exact this
def wishL(x:Nd×Nd):vL:=ndL x.1++ndL x.2
structure WshAt(w:Wd)(ad:Option Addr)(Ps:List (Nd×Nd)):Prop where
 rd:Rg w ad (AM wishL Ps)
 at_:∀x∈Ps,x.1.At w/\x.2.At w
section Gq
attribute [local irreducible] WL WC WE WQ WP WH WR WM WRH

def Lt(t:Nd):Prop:=(CL t 1 false 0).1=0->(AD t).2<=64->(AD t).1<=4096->(AD t).1<=300
theorem I5(h:BN F=0):(CL F 1 false 0).1=0:=Aie λk=>by
 unfold BN at h
 rw[IR k] at h
 exact k h
theorem VB(h:(CL F 1 false 0).1=0):KO F<=64:=by
 have a:=SQ F 1 false 0 h
 have b:=SP F 1 false 0 W h
 omega
end Gq

theorem KZ(w:World)(i:Option Addr)(c:Nat)(d:List (Nat->Int))(t:Rg w i (G3 d))(g:d.length<=100000):
 Calls prog 89 #[.slice i d.length c] w λe q=>∃f r E,e=.returned (.slice f d.length r)/\Vec 6 f d.length r (G3 d) E/\St (λ_=>False) w q E:=by
 cases i with
 | none =>
  obtain rfl:d=[]:=Ago λh=>by
   obtain⟨b,o,e,_⟩:=t λg=>h (AbQ.1 (by have:=PA d;rw[g] at this;simp at this;omega))
   cases e
  refine enter func89 U ntmps89 U (St.start (λ_=>False) w)<|cR<|zA U<|zN<|cS<|cR<|zM U<|zV (AI true U U underlying49 U) U<|zN<|cT U<|cR<|zA U<|?_
  refine zN<|cE<|eR<|tR results89 U<|?_
  exact λq h=>⟨none,0,[],rfl,Vec.nil 6,h⟩
 | some a =>
  have m:=PA d
  refine enter func89 U ntmps89 U (St.start (λ_=>False) w)<|cR<|zA U<|zN<|cS<|cR<|zM U<|zV (AI false U U underlying49 U) U<|zN<|cF U<|cK<|eN<|cS<|?_
  refine WC.region<|zB underlying49 Abo O9 U U<|?_
  intro z D
  refine zM U<|WL.AU U U U underlying49 underlying49 Abo by_93 O9 U U (E:=[.row z []]) (Vec.row (k:=0) (s:=6) (c:=0) U U W) (new:=G3 d) (λh=>by obtain⟨v,G,y,n⟩:=t (λg=>by rw[g] at m;simp at m;omega);exact⟨v,G,y,DP (λh=>h) n⟩) m (Gm Ahm d) W (.none U) U U<|λj x u l F=>zA U<|zN<|cE<|tR results89 U<|?_
  exact λq h=>⟨j,x,u,by rw[PP],by simpa using l,h.sub (Acy _ _)⟩
theorem WL.CD{P:Program}{f:Array Oper}{Q:Exit->Act->World->Prop}{o:World}{c:List Oper}{l:Kn}{L k:List Ent}{g:Nat}{m cs':List Value}[s:At L g m][u:Put L g (.row g cs') k](e:m=cs')
 (h:WL P f Q D R o c l k):WL P f Q D R o c l L:=λa w r i=>h a w r (by
 have n:=s.mem
 rw[e] at n
 obtain⟨A,B,v,j,p,q⟩:=u.ok U
 rw[p]
 have t:(A++Ent.row g cs'::B).map Ent.at=L.map Ent.at:=by
  rw[j,Ai7,Ai7,Acu,Acu,q]
  rfl
 have d:∀x∈A++Ent.row g cs'::B,x∈L:=λx b=>by
  rcases LI.1 b with b|b
  .rw [j];exact Ha _ b
  .rcases Rl.1 b with rfl|b
   .exact n
   .rw [j];exact Mu _ (EQ _ b)
 exact⟨i.frm,λx b=>i.holds x (d x b),by rw[t];exact i.dist,λx b=>i.mine x (d x b)⟩)
def OI(p:PlN):Prop:=p.AY.length=0\/16<p.AY.length\/p.outs.length≠p.AY.length\/p.ins.length≠p.AY.length
instance (p:PlN):Decidable (OI p):=by unfold OI;infer_instance
def KE(p:PlN):Int:=if OI p then 1 else if Gz BN p.outs≠0 then Gz BN p.outs else Gz BN p.ins
def plZ:PlN:=⟨none,0,[],none,0,[],none,0,[],none,0,0,none,0,0,none,0,0⟩
theorem plZ_at(w:World):plZ.At w:=⟨by unfold BA;trivial,by unfold BA;trivial,λh=>absurd rfl h⟩
theorem Zh:plZ.In:=⟨BU.nil,BU.nil,λf h=>Da,C8⟩
structure MkS where
 za:Option Addr
 zc:Nat
 Z:List Ent
 ma:Option Addr
 mc:Nat
 E:List Ent
 g:Nat
section Gq
attribute [local irreducible] WL WC WE WQ WP WH WR WM WRH

structure Ky3 where
 from_:Int
 best:Int
 may:Int
def Ky3.cells(k:Ky3):vL:=[iI k.from_,iI k.best,iI k.may]
def UN(b a:Int):Prop:=0<=a/\a<16/\b / 2^a.toNat % 2=1
instance (b a:Int):Decidable (UN b a):=by unfold UN;infer_instance
def hasF(p:PlN)(n:Int):Prop:=0<=n/\n<p.AY.length/\n<p.outs.length/\n<p.ins.length
instance (p:PlN) (n:Int):Decidable (hasF p n):=by unfold hasF;infer_instance
def Lz(k:Ky3)(a:Int):Prop:=a≠k.from_/\UN k.may a
instance (k:Ky3) (a:Int):Decidable (Lz k a):=by unfold Lz;infer_instance
theorem Can_c(w:Wd)(k:Ky3)(a:Int):Cl 231 #[aA k.cells,iI a] w (RvF (.bool (decide (UN k.may a))) w):=by
 refine en0 func231 U ntmps231 U<|J2 ?_
 refine zx U U U U U<|λo n=>J6 ?_
 refine JT (λf=>?_) λf=>?_
 refine J2 ?_
 refine JT (λg=>?_) λg=>?_
 refine J2 ?_
 obtain⟨d,j⟩:∃d:Nat,a=d:=⟨a.toNat,W⟩
 have e:a.toNat=d:=W
 refine J1 ?_
 refine zS (An U U i3o.h (cellAt (v:=iI k.may) U)) U<|J1 ?_
 refine zS (IP (m:=d) (c:=(2:Int)^d) U U U j (by show d<=64;omega) U) U ?_
 refine zS (HX U U U (Hy (i:=1) (m:=2) C8 C8 C8)) U<|JT (λb=>?_) (λb=>?_)
 refine J5 ?_
 refine eT1 ?_
 exact λl h=>⟨by rw[UV (p:=UN k.may a) ⟨f,g,by rw[e];exact b⟩],h.frm⟩
 refine J5 ?_
 refine eT1 ?_
 exact λl h=>⟨by rw[Ro λq:UN k.may a=>b (by have:=q.2.2;rw[e] at this;exact this)],h.frm⟩
 refine J13 ?_
 refine eT1 ?_
 exact λl h=>⟨by rw[Ro λq:UN k.may a=>g q.2.1],h.frm⟩
 refine J16 ?_
 refine eT1 ?_
 exact λl h=>⟨by rw[Ro λq:UN k.may a=>f q.1],h.frm⟩
theorem AhC(w:Wd)(k:Ky3)(a:Int):Cl 146 #[aA k.cells,iI a] w (RvF (.bool (decide (Lz k a))) w):=by
 refine en0 func146 U ntmps146 U<|J2 ?_
 refine zx U U U U U<|λf d=>J7 ?_
 refine zV (An U U i3o.h (cellAt (v:=iI k.from_) U)) U<|JT (λc=>?_) (λc=>?_)
 refine J3 ?_
 refine zk CkO U (λw g=>Can_c w k a)<|J5 ?_
 refine eT1 ?_
 exact λe h=>⟨by
 by_cases b:UN k.may a
 .rw [UV b,UV (p:=Lz k a) ⟨c,b⟩]
 .rw [Ro b,Ro λq:Lz k a=>b q.2],h.frm⟩
 refine J9 ?_
 refine eT1 ?_
 exact λe h=>⟨by rw[Ro λq:Lz k a=>c q.1],h.frm⟩
def stayF(p:PlN)(k:Ky3)(a:Int):Prop:=hasF p a/\Lz k a
instance (p:PlN) (k:Ky3) (a:Int):Decidable (stayF p k a):=by unfold stayF;infer_instance
end Gq

def All255(a:vL)(k:Nat):Prop:=∀i,i<k->a[i]?=some (.int .u8 255)
def hiB(n:Int):Int:=n / 256 % 256
def n2(m:Int):vL:=[.int .u8 (hiB m),.int .u8 (m % 256)]


section Gq
attribute [local irreducible] WL WC WE WQ WP WH WR WM WRH

end Gq

def u8s(a:List Int):vL:=a.map λx=>.int .u8 x
def CN(a:List Int):vL:=a.map λx=>iI x
theorem VI(a:List Int):(u8s a).length=a.length:=by simp[u8s]
theorem HJ(a:List Int):(CN a).length=a.length:=by simp[CN]
theorem Aeq(a b:List Int):CN (a++b)=CN a++CN b:=by simp[CN]
theorem AhZ(c:List Int):(u8s c).all one=true:=Acw.2 λv a=>by obtain⟨b,_,rfl⟩:=Ab8.1 a;rfl
theorem W8(c:List Int):(CN c).all one=true:=Acw.2 λv a=>by obtain⟨b,_,rfl⟩:=Ab8.1 a;rfl
theorem Abp{a:List Int}(h:a[D]?=some E):(u8s a)[D]?=some (.int .u8 E):=by unfold u8s;rw[WF,h];rfl
theorem Ip{a:List Int}(h:a[D]?=some E):(CN a)[D]?=some (iI E):=by unfold CN;rw[WF,h];rfl
def Bys(a:List Int):Prop:=∀x∈a,0<=x/\x<=255
def BH(w:Wd)(d:Option Addr)(s:Nat){c:Type}(a:c->vL)(e:List c):Prop:=∀(i:Nat) (x:c),e[i]?=some x->∃b o,d=some ⟨b,o,none⟩/\w.rangeAt b (o+i*s) (a x)
theorem BH.frm{f:Type}{a:f->vL}{d:List f}(h:BH G N D a d)(k:∀b o c,G.rangeAt b o c->H.rangeAt b o c):BH H N D a d:=λi x g=>by
 obtain⟨b,o,e,j⟩:=h i x g
 exact⟨b,o,e,k _ _ _ j⟩
theorem BH.get{o s:Nat}{c:Type}{a:c->vL}{d:List c}{i:Nat}{x:c}(h:BH G (some ⟨D,o,none⟩) s a d)(g:d[i]?=some x):G.rangeAt D (o+i*s) (a x):=by
 obtain⟨k,l,b,j⟩:=h i x g
 injection b with b
 injection b with e f
 subst e f
 exact j
def AQ(w:Wd)(c:Option Addr)(a:vL):Prop:=0<a.length->∃b o,c=some ⟨b,o,none⟩/\w.rangeAt b o a
theorem AQ.frm{a:vL}(h:AQ G N a)(f:∀b o a,G.rangeAt b o a->H.rangeAt b o a):AQ H N a:=λc=>by
 obtain⟨b,o,e,d⟩:=h c
 exact⟨b,o,e,f _ _ _ d⟩
structure Yh where
 code:Int
 ad:Option Addr
 cap:Nat
 val:List Int
def Yh.cells(c:Yh):vL:=[iI c.code,.slice c.ad c.val.length c.cap]
structure PfL where
 addr:Int
 len:Int
def PfL.cells(p:PfL):vL:=[.int .u32 p.addr,iI p.len]
structure BR where
 set:Bool
 ad:Option Addr
 cap:Nat
 asl:List Int
def BR.cells(s:BR):vL:=[.bool s.set,.slice s.ad s.asl.length s.cap]
structure CS where
 ty:Int
 ad:Option Addr
 cap:Nat
 val:List Int
def CS.cells(o:CS):vL:=[iI o.ty,.slice o.ad o.val.length o.cap]
structure AtL where
 has:Int
 origin:Int
 pad:Option Addr
 pc:Nat
 path:List BR
 hop:Int
 med:Int
 loc:Int
 aas:Int
 aid:Int
 cad:Option Addr
 cc:Nat
 comms:List Int
 oad:Option Addr
 oc:Nat
 others:List CS
def AtL.cells(a:AtL):vL:=[iI a.has,iI a.origin,.slice a.pad a.path.length a.pc,.int .u32 a.hop,iI a.med,iI a.loc,iI a.aas,.int .u32 a.aid,.slice a.cad a.comms.length a.cc,.slice a.oad a.others.length a.oc]
structure MsL where
 kind:Int
 asn:Int
 hold:Int
 id:Int
 kad:Option Addr
 kc:Nat
 DT:List Yh
 gad:Option Addr
 gc:Nat
 gone:List PfL
 atr:AtL
 nad:Option Addr
 nc:Nat
 nets:List PfL
 fc:Int
 fs:Int
 fd:ByteArray
def MsL.cells(m:MsL):vL:=[iI m.kind,iI m.asn,iI m.hold,.int .u32 m.id,.slice m.kad m.DT.length m.kc,.slice m.gad m.gone.length m.gc,iI m.atr.has,iI m.atr.origin,.slice m.atr.pad m.atr.path.length m.atr.pc,.int .u32 m.atr.hop,iI m.atr.med,iI m.atr.loc,iI m.atr.aas,.int .u32 m.atr.aid,.slice m.atr.cad m.atr.comms.length m.atr.cc,.slice m.atr.oad m.atr.others.length m.atr.oc,.slice m.nad m.nets.length m.nc,iI m.fc,iI m.fs,.string m.fd]
def AtL.zero:AtL:=⟨0,0,none,0,[],0,0,0,0,0,none,0,[],none,0,[]⟩
def MsL.zero(k:Int):MsL:=⟨k,0,0,0,none,0,[],none,0,[],.zero,none,0,[],0,0,⟨#[]⟩⟩
structure AtL.At(w:Wd)(a:AtL):Prop where
 path:BH w a.pad 2 BR.cells a.path
 LX:∀s∈a.path,AQ w s.ad (CN s.asl)
 comms:AQ w a.cad (CN a.comms)
 oths:BH w a.oad 2 CS.cells a.others
 vals:∀o∈a.others,AQ w o.ad (u8s o.val)
structure MsL.At(w:Wd)(m:MsL):Prop where
 DT:BH w m.kad 2 Yh.cells m.DT
 vals:∀c∈m.DT,AQ w c.ad (u8s c.val)
 gone:BH w m.gad 2 PfL.cells m.gone
 nets:BH w m.nad 2 PfL.cells m.nets
 at_:m.atr.At w
theorem AtL.At.frm{w f:Wd}{a:AtL}(h:a.At w)(c:∀b o e,w.rangeAt b o e->f.rangeAt b o e):a.At f:=⟨h.path.frm c,λs d=>(h.LX s d).frm c,h.comms.frm c,h.oths.frm c,λs d=>(h.vals s d).frm c⟩
theorem MsL.At.frm{w d:Wd}{m:MsL}(h:m.At w)(a:∀b o c,w.rangeAt b o c->d.rangeAt b o c):m.At d:=⟨h.DT.frm a,λs e=>(h.vals s e).frm a,h.gone.frm a,h.nets.frm a,h.at_.frm a⟩
theorem St.rng(e:∀b, ¬R b)(c:St R G H K)(b o:Nat)(a:vL)(h:G.rangeAt b o a):H.rangeAt b o a:=λj v d=>c.old (e b) (h j v d)
theorem MsL.At.st{m:MsL}(h:m.At G)(a:St Fx G H K):m.At H:=h.frm (a.rng λ_ h=>h)
theorem AtL.At.st{a:AtL}(h:a.At G)(b:St Fx G H K):a.At H:=h.frm (b.rng λ_ h=>h)
def I64(x:Int):Prop := -9223372036854775808<=x/\x<=9223372036854775807
def U32(x:Int):Prop:=0<=x/\x<=4294967295
structure AtL.In(a:AtL):Prop where
 has:I64 a.has
 origin:I64 a.origin
 hop:U32 a.hop
 med:I64 a.med
 loc:I64 a.loc
 aas:I64 a.aas
 aid:U32 a.aid
 LX:∀s∈a.path,s.asl.length<=9223372036854775807/\∀x∈s.asl,I64 x
 comms:∀x∈a.comms,I64 x
 oths:∀o∈a.others,I64 o.ty/\o.val.length<=9223372036854775807/\Bys o.val
 lens:a.path.length<=9223372036854775807/\a.comms.length<=9223372036854775807/\a.others.length<=9223372036854775807
structure MsL.In(m:MsL):Prop where
 kind:I64 m.kind
 asn:I64 m.asn
 hold:I64 m.hold
 id:U32 m.id
 fc:I64 m.fc
 fs:I64 m.fs
 DT:∀c∈m.DT,I64 c.code/\c.val.length<=9223372036854775807/\Bys c.val
 gone:∀p∈m.gone,U32 p.addr/\I64 p.len
 nets:∀p∈m.nets,U32 p.addr/\I64 p.len
 at_:m.atr.In
 lens:m.DT.length<=9223372036854775807/\m.gone.length<=9223372036854775807/\m.nets.length<=9223372036854775807/\m.fd.size<=9223372036854775807
end Go.Proofs.YtmhahajadgkolaaGreatDoor
