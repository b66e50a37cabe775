/- Joined texts. -/
import Derived.DeepKeys3
import Derived.Test.YtmhahajadgkolaaGreatDoorProg
import Derived.ProofKit
import Derived.SizedLaws
import Derived.Test.YtmhahajadgkolaaGreatDoorBlSdxTells
set_option maxHeartbeats 4000000
set_option maxRecDepth 8000
namespace Go.Proofs.YtmhahajadgkolaaGreatDoor
open Go.RowKit Tryz
variable{A D:Nat}{B G:Wd}{C Q:eL}{F:vL}{J:Program}{K:Int}{M N:Nd}{O:Rn}{S:List (Nat×VO)}{T:SxL}{Z:Ent}{a:Option Addr}{b:Vl}{c:Hp}{d:Type}

section
variable {P:Program}{E:Ev}{w0:World}{rec:Job->Er Res}
theorem TQ{t:Nat}{v:Value}:∀ {k:List (Nat×Nat×Value)}{c:Kn},look (rkKn k c) t=some v->(∃j,(j,t,v)∈k)\/((∀j u,(j,t,u) ∉ k)/\look c t=some v)
 | [],c,h=>.inr ⟨λj u b=>(by cases b),h⟩
 | (j,d,u)::r,c,h=>by
  unfold rkKn at h
  rw[Ju] at h
  unfold Lk.put at h
  cases a:Nat.beq d t
  .rw [a,cond_false] at h
   rcases TQ h with⟨i,g⟩|⟨g,l⟩
   .exact .inl ⟨i,EQ _ g⟩
   .refine .inr ⟨λi u' b=>?_,l⟩
    rcases Rl.1 b with e|b
    .cases e;rw[Nat.beq_refl] at a;cases a
    .exact g i u' b
  .rw [a,Aih] at h
   cases h
   obtain rfl:=NE a
   exact .inl ⟨j,Fr ..⟩
theorem Trk.rk_has{b:Array Oper}{n:Kn}{i:List Nat}{g:Nat->Dr}(T:Trk P E rec A b n D i g){j d:Nat}{o:Oper}(s:b[j]?=some o)(r:o.dst=some d):∃v,(j,d,v)∈(g b.size).rk:=by
 have l:=Mv s
 have y:∃v,(j,d,v)∈(g (j+1)).rk:=by
  have a:∀u t,(j,d,u)∈Iv j o u t:=λu t=>by
   unfold Iv
   rw[r]
   exact Fr ..
  cases T.step j o s with
  | skip _ e=>exact⟨_,by rw[e];exact a _ _⟩
  | val v _ _ _ e=>exact⟨_,by rw[e];exact a _ _⟩
  | read v _ _ _ e=>exact⟨_,by rw[e];exact a _ _⟩
  | act v B _ _ _ _ _ e=>exact⟨_,by rw[e];exact a _ _⟩
  | made F f d2 _ _ _ c e =>
   rw[r] at c
   cases c
   exact⟨_,by rw[e];exact Fr ..⟩
 obtain⟨v,z⟩:=y
 obtain⟨k,hk⟩:=Nat.le.dest (show j+1<=b.size from l)
 obtain⟨C,q,_⟩:=T.KL (m:=j+1) k W
 rw[hk] at q
 exact⟨v,by rw[q];exact Mu _ z⟩
theorem AgU(hmix:P.follows .mixedOrders=true)(hKs:GG P E)(hrec:L8 P E w0 rec):Us P E w0 rec:=by
 intro n id g kn H kn' H' h
 unfold Aao at h
 generalize hB:(Tq (befE g.toList) 0 g.toList && Pr [] g.toList && Nat.ble (H.n+g.size) hpM && Nat.ble E.base H.n)=B at h
 cases B
 .cases h
 rw[Aih] at h
 simp only[Hr] at hB
 obtain⟨⟨⟨hB1,hB2⟩,z⟩,J⟩:=hB
 have z:=Ai6 z
 have J:=Ai6 J
 split at h
 .rename_i Df hdr
  cases h
  obtain⟨i,d1,d2,d3⟩:=XZ _ _ _ _ hdr
  rw[Array.length_toList] at d2
  have step:∀(m:Nat) (o:Oper),g[m]?=some o->Je P E rec n g kn H.n (befE g.toList) m o (i m)=.ok (i (m+1)):=λm o K=>by
   have:=d3 m o (by rw[Ahu];exact K)
   rwa [PP] at this
  have T:Trk P E rec n g kn H.n (befE g.toList) i :=
   ⟨by rw[d1],by rw[d1],by rw[d1],by rw[d1],λm o K=>(XT (step m o K)).1,λm o K=>(XT (step m o K)).2,AdF hB1,
    λm m' o o' d K hm'=>(Mc g.toList [] hB2).2 m m' o o' d (by rw[Ahu];exact K) (by rw[Ahu];exact hm')⟩
  intro R l L X Q C hK hc a w ha hW
  refine wp_region_any hmix ?_
  have A:(i 0).H=cond (g.any λo=>GZ o.op) ⟨H.n+g.size,H.t⟩ H:=by rw[d1]
  have s:∀k,(i 0).H.get k=H.get k:=λk=>by rw[A];cases (g.any λo=>GZ o.op)<;>rfl
  have hn0:H.n<=(i 0).H.n:=by rw[A];cases (g.any λo=>GZ o.op)<;>simp
  have hlim:(i 0).H.n<=hpM:=by
   rw[A]
   cases (g.any λo=>GZ o.op)
   .exact C.lim
   .exact z
  have hmn:∀(j:Nat) (o:Oper),g[j]?=some o->GZ o.op=true->H.n+g.size<=(i 0).H.n:=λj o y hmd=>by
   have:(g.any λo=>GZ o.op)=true:=Array.any_eq_true'.2 ⟨o,Array.mem_of_getElem? y,hmd⟩
   rw[A,this]
   exact M2 _
  have h0:∀j,j<g.size->(i 0).H.get (H.n+j)=none:=λj _=>by
   rw[s]
   cases hg:H.get (H.n+j) with
   | none=>rfl
   | some o =>
    obtain⟨e,b,q,N,_,_⟩:=(C.own _ o hg W).main
    rw[C.new _ W] at N
    cases N
  have hS0:SR E w0 R (i 0).H L:=by
   refine⟨hlim,λk hk=>C.new k W,C.gl,λk o hk=>C.own k o (by rw[<- s];exact hk),λj k b q r y hk=>?_,λk o hk=>C.old k o (by rw[<- s];exact hk)⟩
   rw[s] at y hk
   exact C.inj j k b q r y hk
  obtain⟨c,_,c2,c3,c4⟩:=Vh (EO i) g.size g.size 0 W
  have Z:(i c).H=(i 0).H:=T.Ut (Lv _) c2 c4
  have F:∀j,(Array.replicate g.size false).getD j false=false:=getD_replicate_false _
  have M:∀ {j}{p:Prop},(Array.replicate g.size false).getD j false=true->p:=λh=>by rw[F] at h;cases h
  have S0:Rt P E w0 g kn H.n (befE g.toList) i R H (Array.replicate g.size false) l R (i 0).H L c :=
   ⟨λj oj _ hl=>M hl,C9,c2,c3,λa ha hA=>absurd hA (c4 a (Lv _) ha),λa _ _ _=>F a,by rw[Z],λj G _ _ hl=>M hl,λk _=>by rw[Z],hS0,Rn.le.refl R,λ_ _=>rfl,M2 _,
    λj o _ _ _=>C.new _ W,λj d v _ hl=>M hl,λt _ v hv=>hK t v hv⟩
  refine T.any_ok hKs hrec (R0:=R) (H0:=H) h0 z J (M2 _) hn0 hmn (λlisted l2 R2 Mem L2 S D=>?_) g.size _ l R (i 0).H L c S0 ⟨List.range g.size,C9,λj y _=>Aij.2 y⟩ a _ ha (hW.drew)
  rw[<- d2] at hc
  have hpd:∀x∈(i g.size).pend,x.2.1<hpM:=λx hx=>by
   obtain⟨j,i2,G⟩:=x
   obtain⟨N,_,g3,_⟩:=(T.GS g.size (M2 _) j i2 G).1 hx
   dsimp only
   omega
  have hn:(Jp (i g.size).pend (i g.size).H).n=Mem.n:=by rw[Mk,S.memn]
  refine hc R2 l2 L2 ⟨S.rle,?_,S.req⟩ (S.sr.congr hn λk=>?_) λt v hv=>?_
  .have:=S.nle
   show H.n<=(Jp (i g.size).pend (i g.size).H).n
   omega
  .rcases AbH (i g.size).pend (i g.size).H k hpd with⟨h1,O⟩|⟨x,hx,O,h3⟩
   .rw [h1]
    refine(S.core k λj G a1 a2 a3 a4 e=>?_).symm
    exact O (j,H.n+j,G) ((T.GS g.size (M2 _) j _ G).2 ⟨a1,a2,rfl,a4⟩) e.symm
   .obtain ⟨j,i2,G⟩:=x
    obtain⟨N,g2,g3,g4⟩:=(T.GS g.size (M2 _) j i2 G).1 hx
    have:=S.item j G N g2 (D j N) g4
    dsimp only at O h3
    rw[h3, <- O,g3,this]
  .rcases TQ hv with⟨j,y⟩|⟨h1,O⟩
   .exact S.fr1 j t v y (D j (T.Afi y).1)
   .refine S.fr2 t (λj o y _ hd=>?_) v O
    obtain⟨u,hu⟩:=T.rk_has y hd
    exact h1 j u hu
 .cases h
theorem Aeb(b:P.follows .mixedOrders=true)(a:GG P E)(k:Nat):L8 P E w0 (runE P E k) :=
 Zo a (λ_ c=>AgU b a c) k
end

def kbP(P:Program)(a:Nat):Value->Bool:=λv=>(keyOf P a v).isSome && (eqV v v && CW v)
def KDeep(P:Program)(a:Nat):Value->Prop:=λv=>∃l,keyOf P a v=some l
theorem HD.sub{K d:Value->Prop}(h:HD J A K)(a:∀v,d v->K v):HD J A d :=
 ⟨λb w v c=>h.check b w v (a v c),λw x g k i=>h.find w x g (a x k) λe j=>a _ (i e j),λw v c=>h.stays w v (a v c)⟩
theorem Aha(L:WideMaps.KeyLaw J A):HD J A (λv=>kbP J A v=true) :=
 HD.sub (K:=KDeep J A) ⟨λb w v ⟨l,h⟩=>L.check w b h,λw x c ⟨l,h⟩ d=>L.find w h c d,λw v ⟨l,h⟩=>L.stays w h⟩ λv a=>by
  unfold kbP at a
  rw[Hr] at a
  cases hk:keyOf J A v with
  | none=>rw[hk] at a;cases a.1
  | some l=>exact⟨l,hk⟩
structure K8(P:Program)(kt:Nat)(kb:Value->Bool):Prop where
 key:HD P kt λv=>kb v=true
 plain:∀v,kb v=true->CW v=true
 eq:∀a b,kb a=true->kb b=true->(eqV a b=true<->a=b)
theorem YW(L:WideMaps.KeyLaw J A):K8 J A (kbP J A) where
 key:=Aha L
 plain v hv:=by
  unfold kbP at hv
  simp only[Hr] at hv
  exact hv.2.2
 eq a b ha hb:=by
  unfold kbP at ha
  simp only[Hr] at ha
  exact⟨NR a b,λe=>e ▸ ha.2.1⟩
def kbI(k:IntKind):Value->Bool
 | .int a _=>decide (a=k)
 | _=>false
theorem QN{k:IntKind}{v:Value}(h:kbI k v=true):∃x,v=.int k x:=by
 unfold kbI at h
 split at h
 .rename_i a x;exact⟨x,by rw[Ai8 h]⟩
 .cases h
theorem Aey{k:IntKind}(h:J.underlying A=some (.int k)):K8 J A (kbI k) where
 key:=HD.sub (OF h) λv c=>QN c
 plain v c:=by obtain⟨x,rfl⟩:=QN c;rfl
 eq a b ha hb:=by
  obtain⟨x,rfl⟩:=QN ha
  obtain⟨y,rfl⟩:=QN hb
  exact⟨NR _ _,λe=>by cases e;simp[eqV]⟩
def AllK(P:Program):List (Nat×(Value->Bool))->Prop
 | []=>True
 | (g,k)::r=>K8 P g k/\AllK P r
theorem N8{P:Program}:∀ {e:List (Nat×(Value->Bool))},AllK P e->∀a b,Jl e a=some b->K8 P a b
 | [],_,a,b,h=>by cases h
 | (g,k)::r,d,a,b,h=>by
  unfold Jl at h
  cases c:Nat.beq g a
  .rw [c,cond_false] at h
   exact N8 d.2 a b h
  .rw [c,Aih] at h
   cases h
   rw[<- NE c]
   exact d.1
theorem Aci{E:Ev}(h:AllK J E.keys):GG J E where
 key kt kb hk:=(N8 h kt kb hk).key
 plain kt kb v hk hv:=(N8 h kt kb hk).plain v hv
 eq kt kb a b hk ha hb:=(N8 h kt kb hk).eq a b ha hb
theorem k1_84:K8 prog 84 (kbP prog 84):=YW (deep_law (m:=4) C8 C6 C6 C6)
theorem k1_82:K8 prog 82 (kbP prog 82):=YW (deep_law (m:=4) C8 C6 C6 C6)
theorem k1_220:K8 prog 220 (kbP prog 220):=YW (deep_law (m:=4) C8 C6 C6 C6)
theorem k1_3:K8 prog 3 (kbI .i64):=Aey underlying3
theorem k1_30:K8 prog 30 (kbI .u32):=Aey underlying30
noncomputable def EK:List (Nat×(Value->Bool)):=[(84,kbP prog 84),(82,kbP prog 82),(3,kbI .i64),(30,kbI .u32),(220,kbP prog 220)]
theorem Va{a:List (Nat×Nat)}:GG prog ⟨A,a,EK⟩ :=
 Aci ⟨k1_84,k1_82,k1_3,k1_30,k1_220,trivial⟩

noncomputable def Ez:Ev:=⟨0,[],EK⟩

section Gq
attribute [local irreducible] WL WC WE WQ WP WH WR WM WRH

structure SpRd(w:Wd)(gx gsp:Nat)(n c:Nat)(bs:List Nat):Prop where
 cell:w.cell? ⟨gx,11,none⟩=some (.slice (aG gsp) n c)
 len:bs.length=n
 rd:w.rangeAt gsp 0 (bs.map λb=>.map (some b))
 emp:∀b∈bs,Emp w b

/-! ### A change of an empty table by nothing -/

structure SxN where
 gx:Nat
 gS:Nat
 gW:Nat
 gT:Nat
 gP:Nat
 gh:Nat
 gA:Nat
 gsp:Nat
 rules:Int
 most:Int
 p:PlN
 n:Nat
 bs:List Nat
 ta:Option Addr
 tc:Nat
 fresh:Int
def SxN.cells(x:SxN):vL:=[pG x.gS,pG x.gW,iI x.rules]++(x.p.cells++[pG x.gP,pG x.gA,.slice (aG x.gsp) x.n x.n,iI x.fresh])
def mapsL(a:List Nat):vL:=a.map λb=>.map (some b)
abbrev SxN.L(x:SxN)(L:eL):eL:=.row x.gx x.cells::.row x.gsp (mapsL x.bs)::.row x.gT [iI x.most,.slice x.ta 0 x.tc]::L
/-! ### Whether there is an exchange, and a participant -/

theorem Ag6:idN.In:=Nd.In_mk W W W W (by show 0<=_;omega) BU.nil
theorem id_lt':Lt idN:=λ_ _ _=>by
 have:(AD idN).1=1:=C6
 omega
theorem Aet:BN idN=0:=C6
abbrev JI(n:Nat):List Nd:=List.replicate n idN

theorem Pp:∀(N:Nat) (t:Nd),SizeOf.sizeOf t<=N->∀(w:Wd) (a:Int),t.In->t.At w->0<=a->a<=1000000 ->
 Cl 14 #[ndV t,iI a] w λe r=>e=.returned (iI (IE t a))/\Frm Fx w r
 | 0=>λt m=>by cases t;simp only[Nd.mk.sizeOf_spec] at m;omega
 | N+1=>by
  intro t m w a s l G J
  have y:=s.Nv.2.2.2.2
  refine en0 func14 U ntmps14 U<|J2 ?_
  refine zx U U U U U<|λD B=>J18 ?_
  refine oLp (λx:Nat×Int=>[(11,iI x.1),(10,iI t.kids.length),(9,.slice t.ad t.kids.length t.cap),(5,iI x.2),(1,iI a)]) (λ_=>[]) (λx=>x.1<=t.kids.length/\1<=x.2/\x.2<=a+1/\Ib (t.kids.drop x.1) a x.2=IE t a) (λx=>t.kids.length-x.1) (0,1) ⟨Lv _,C7,C7,(Ab3 t a).symm⟩ ?_
  rintro⟨k,c⟩ ⟨hk,n,q,d⟩
  dsimp only at hk n q d⊢
  refine J2 ?_
  refine JT (λi=>?_) λi=>?_
  refine J10 ?_
  obtain⟨u,g⟩:∃u,t.kids[k]?=some u:=Gx
  obtain⟨b,o,ea,_⟩:=(l.kid g).1
  rw[drop_cons g,Ib] at d
  refine zV (AA (b:=b) (off:=o) (lo:=k) U Db U underlying24 FF U W) U ?_
  refine zV (AB (cs:=ndL u) U U H5.h U (DW (λh=>h) (l.Kz g ea))) U<|zy U Nu.h U U<|?_
  intro F C
  refine J8 ?_
  refine JT (λj=>?_) λj=>?_
  refine J16 ?_
  refine eT1 ?_
  rw[IR W] at d
  exact λr h=>⟨by rw[<- d],h.frm⟩
  refine J6 ?_
  have A:=Tx u (a-c) W
  refine J5 ?_
  refine zk CkO U (λw z=>Pp N u (Nd.Jm m g) w (a-c) (s.kids.get _ _ _ g) ((l.kid g).2.st (λ_ h=>h) z) W W)<|J9 ?_
  rw[E9 W] at d
  exact eW (k+1,c+IE u (a-c)) C7 ⟨C7,C7,C7,d⟩
  refine J16 ?_
  refine eT1 ?_
  obtain rfl:k=t.kids.length:=W
  rw[Ah9,Ib] at d
  exact λr h=>⟨by rw[<- d],h.frm⟩
/-! ### Whether trees are too big for the law -/
def Y8(a b:Nd):Prop:=IE a 30<=30/\IE b 30<=30/\((CL a 1 false 0).1=0->(AD a).1<=12)/\((CL b 1 false 0).1=0->(AD b).1<=6)

def Cw(n:Nat):List (Nat->Int):=(List.range n).map λi:Nat=>macN (i:Int)
theorem FK(n:Nat):(Cw n).length=n:=by unfold Cw;rw[Ri,List.length_range]
theorem TN{w:Wd}{b o:Nat}:∀(d:List Nd) (i:Nat),BA w (some ⟨b,o,none⟩) i d->w.rangeAt b (o+i*5) (CV d)
 | [],_,_=>λj v a=>by cases a
 | t::d,i,h=>λj v a=>by
  unfold BA at h
  obtain⟨⟨k,l,e,g⟩,_,hk⟩:=h
  cases e
  have a:(ndL t++CV d)[j]?=some v:=a
  by_cases c:j<5
  .rw [Ae9 (show j<(ndL t).length from c)] at a
   exact g j v a
  .rw [Ah8 (show(ndL t).length<=j from Nat.le_of_not_lt c)] at a
   have:=TN d (i+1) hk (j-5) v a
   rwa [show o+(i+1)*5+(j-5)=o+i*5+j by omega] at this
theorem kidsRg{c:List Nd}(h:BA B a 0 c)(d:0<c.length):∃b o,a=some ⟨b,o,none⟩/\B.rangeAt b o (CV c):=by
 obtain⟨t,e⟩:∃t,c[0]?=some t:=⟨_,FS d⟩
 obtain⟨⟨b,o,rfl,_⟩,_⟩:=h.get c 0 0 t e
 refine⟨b,o,rfl,?_⟩
 have:=TN c 0 h
 rwa [Aiu,Nat.add_zero] at this
theorem Xq:∀a:List Nd,(CV a).all one=true
 | []=>rfl
 | t::a=>by
  show(ndL t++CV a).all one=true
  rw[List.all_append,Xq a]
  rfl
theorem K5(w:Wd)(i:Option Addr)(c:Nat)(d:List Nd)(m:BA w i 0 d)(C:d.length<=1000):
 Cl 44 #[.slice i d.length c] w λe w'=>∃g l E,e=.returned (.slice g d.length l)/\Vec 5 g d.length l (CV d) E/\St Fx w w' E:=by
 cases i with
 | none =>
  obtain rfl:d=[]:=Ago λh=>by
   obtain⟨t,A⟩:∃t,d[0]?=some t:=⟨_,FS (List.length_pos_iff.2 h)⟩
   obtain⟨⟨b,o,e,_⟩,_⟩:=m.get d 0 0 t A
   cases e
  refine en0 func44 U ntmps44 U<|J9 ?_
  refine zV (AI true U U underlying24 U) U<|J10 ?_
  refine eT1 ?_
  exact λw' h=>⟨none,0,[],rfl,Vec.nil 5,h⟩
 | some a =>
  have z:=Jy d
  refine en0 func44 U ntmps44 U<|J9 ?_
  refine zV (AI false U U underlying24 U) U<|J7 ?_
  refine zB underlying24 FF Nu.h U U<|λr y=>J1 ?_
  refine WL.AU U U U underlying24 underlying24 FF Aal Nu.h U U (E:=[.row r []]) (Vec.row (k:=0) (s:=5) (c:=0) U U W) (new:=CV d) (λh=>by obtain⟨n,B,q,j⟩:=kidsRg m W;exact⟨n,B,q,DW (λh=>h) j⟩) z (Xq d) W (.none U) U U ?_
  exact Al

end Gq

structure PlnR(q:PlN)(Ps:List (Nd×Nd)):Prop where
 outs:q.outs.map er=Ps.map λx=>er x.1
 ins:q.ins.map er=Ps.map λx=>er x.2
 AY:q.AY=(List.range Ps.length).map λi:Nat=>macN (i:Int)
def stayN(n:Nat)(k:Ky3)(a:Int):Prop:=(0<=a/\a<n)/\Lz k a
instance (n:Nat) (k:Ky3) (a:Int):Decidable (stayN n k a):=by unfold stayN;infer_instance

def hX(d:Int):Hd:={ Hd.zero with ty:=2048,dp:=d }
abbrev hY:Hd:={ hX 80 with port:=2 }
abbrev hZ:Hd:={ hX 81 with port:=1 }

mutual
theorem PT:∀(t u:Nd),er u=er t->AD u=AD t
 | .mk k f v m a c b,u,g=>by
  rw[Aas u,er] at g
  injection g with h l n o i
  have d:JY u.kids=JY b:=by rw[<- i,Io]
  have e:=SU b u.kids d
  rw[Iy,Iy] at e
  have j:u.kids.length=b.length:=by
   have:=If List.length d
   rwa [Io,Io,Ri,Ri] at this
  rw[HC u,HC (.mk k f v m a c b),h,e,j]
  rfl
theorem SU:∀(c b:List Nd),JY b=JY c->DL b=DL c
 | [],b,a=>by
  rw[JY,Io] at a
  rw[List.map_eq_nil_iff.1 a]
 | t::c,b,a=>by
  match b with
  | []=>rw[JY,JY] at a;cases a
  | u::b =>
   rw[JY,JY] at a
   injection a with d e
   rw[DL,DL,PT t u d,SU c b e]
end
theorem AdX(h:er N=er M)(a:BN M=0):BN N=0:=by
 have b:=I5 a
 have c:(CL N 1 false 0).1=0:=by
  rw[Yb M N 16 1 false 0 (by rw[h,Ad9 M 16 1 false 0 b (W)]) W]
  exact b
 unfold BN at a ⊢
 rw[E9 λk=>k b] at a
 rw[E9 λk=>k c,PT M N h]
 exact a
theorem lt_er(h:er N=er M)(a:BN M=0)(c:Lt M):Lt N:=by
 have b:=I5 a
 unfold BN at a
 rw[E9 λk=>k b] at a
 intro _ _ _
 rw[PT M N h]
 refine c b ?_ ?_
 .by_cases k:(AD M).2 > 64
  .rw [IR k] at a;cases a
  .omega
 .by_cases k:(AD M).2 > 64
  .rw [IR k] at a;cases a
  .rw [E9 k] at a
   by_cases d:(AD M).1 > 4096
   .rw [IR d] at a;cases a
   .omega
section Gq
attribute [local irreducible] WL WC WE WQ WP WH WR WM WRH

theorem Jx:∀a:List Nd,CV a=AM ndL a
 | []=>rfl
 | t::a=>by
  show ndL t++CV a=ndL t++AM ndL a
  rw[Jx a]
theorem AaR(t:Nd):(ndL t).length=5:=rfl
theorem Vec.Afw{b:List Nd}(c:Vec 5 a b.length A (CV b) C)(h:b≠[]):∃g R,a=aG g/\C=[.row g (CV b++R)]/\(CV b++R).length=A*5/\b.length<=A:=by
 rw[Jx] at c
 obtain⟨g,R,d,e,i,j⟩:=Vec.split (enc:=ndL) c h
 exact⟨g,R,d,by rw[Jx];exact e,by rw[Jx];exact i,j⟩
theorem AaT(a:List Nd)(k:Nat)(u:Nd)(R:vL)(h:k<a.length):AK (CV a++R) (0+k*5) (ndL u)=CV (a.set k u)++R:=by
 rw[PP,Jx,Jx]
 exact Jg AaR a k u R h
structure PcS where
 oa:Option Addr
 oc:Nat
 Eo:eL
 ia:Option Addr
 ic:Nat
 Ei:eL
 g:Nat

theorem rowAll(h:(Ent.row A F).holds B):B.rangeAt A 0 F:=λj v a=>by
 rw[PP]
 exact Row.cell h a
theorem AbL(w0 w1:Wd)(x:SxL)(k:Int)(a b:Nd)(L:eL)(i:CQ x)(hk:¬(0<=k/\k<(x.c.n:Int)))(d:St Fx w0 w1 (x.all L)):
 Cl 12 #[pG x.c.gx,iI k,ndV a,ndV b] w1 λe g=>Qv w0 g x L e:=by
 refine enter func12 U ntmps12 U d<|J2 ?_
 refine zx U U U U U<|λo l=>zx U U U U U<|λp m=>J8 ?_
 refine zk CkO U (λw j=>SX w x.c k (SxL.Am j.tail.tail)) ?_
 rw[Ro hk]
 refine J11 ?_
 refine eT1 ?_
 exact λg h=>⟨1,x,rfl,XTo.refl i,h.tail.tail⟩
theorem Adc(w0 w:Wd)(x:SxL)(k:Nat)(a b:Nd)(L:eL)(hO:CQ x)(hk:k<x.c.n)(iA:a.In)(iB:b.In)(hA:a.At w0)(hB:b.At w0)(lA:Lt a)(lB:Lt b)(hG:GW w0)(hS0:St Fx w0 w (x.all L)):
 Cl 12 #[pG x.c.gx,iI k,ndV a,ndV b] w λe w'=>Qv w0 w' x L e:=by
 have hn:=hO.n
 have hn16:=hO.n16
 have hml:=hO.pn
 have hol:=hO.pi.o.1
 have hil:=hO.pi.i.1
 have lo:=hO.pi.o.2
 have li:=hO.pi.i.2
 obtain⟨f1,f2,f3⟩:=hO.pi.in_.few
 obtain⟨d,hY⟩:∃d,x.all L=.row x.c.gx x.c.cells::d:=⟨_,rfl⟩
 have hYp:∀e∈x.PM,e∈d:=λe he=>by
  have A:d=(x.all L).tail:=by rw[hY];rfl
  rw[A];unfold SxL.all;simp[he]
 have hS1:St Fx w0 w (.row x.c.gx x.c.cells::d):=by rw[<- hY];exact hS0
 refine enter func12 U ntmps12 U hS1<|J2 ?_
 refine zx U U U U U<|λG hg6=>zx U U U U U<|λJ hg7=>WL.as (L':=.row J (ndL b)::.row G (ndL a)::.row x.c.gx x.c.cells::d) U<|J8 ?_
 refine zk CkO U (λw hS=>SX w x.c k (hS.row (g:=x.c.gx))) ?_
 rw[UV (⟨Int.natCast_nonneg k,Int.ofNat_lt.2 hk⟩:(0:Int)<=(k:Int)/\(k:Int)<(x.c.n:Int))]
 refine J6 ?_
 refine WC.cut (λs:PcS=>[(9,pG s.g),(0,pG x.c.gx),(1,iI k),(6,pG G),(7,pG J)]) (λs=>.row s.g [.slice s.oa x.c.p.outs.length s.oc,.slice s.ia x.c.p.ins.length s.ic,.slice x.c.p.ma x.c.p.AY.length x.c.p.mc,sN,sN,sN]::(s.Eo++(s.Ei++(.row J (ndL b)::.row G (ndL a)::.row x.c.gx x.c.cells::d)))) (λs=>Vec 5 s.oa x.c.p.outs.length s.oc (CV x.c.p.outs) s.Eo/\Vec 5 s.ia x.c.p.ins.length s.ic (CV x.c.p.ins) s.Ei) ?_ ?_
 refine WC.heldT 19 ([.row x.c.gx x.c.cells]) mixed<|WRT.first (g:=5) [0,1,2,3,4,6,7,8,9,10,12,13,14,15,16] C6 C6 C6 kp<|J4 ?_
 refine zj (An U U Nt.h (cellAt (v:=.slice x.c.p.oa x.c.p.outs.length x.c.p.oc) U)) U<|J4 ?_
 refine zj (An U U Nt.h (cellAt (v:=.slice x.c.p.ia x.c.p.ins.length x.c.p.ic) U)) U<|J4 ?_
 refine zj (An U U i49o.h (cellAt (v:=.slice x.c.p.ma x.c.p.AY.length x.c.p.mc) U)) U<|WH.PE<|?_
 refine WRT.each (g:=4) [5,18] C6 C8<|⟨?_,?_⟩
 refine zK CkO U<|λw1 hS=>(K5 w1 x.c.p.oa x.c.p.oc x.c.p.outs (hO.pm w1 λe he=>hS.holds e Ft).1.outs W).mono ?_
 rintro e w' ⟨oa,oc,Eo,rfl,hVo,hS'⟩
 refine⟨_,_,rfl,hS.join hS',?_⟩
 refine WL.PE kp<|WRT.each (g:=3) [11,18] C6 C8<|⟨?_,?_⟩
 refine zK CkO U<|λw1 hS=>(K5 w1 x.c.p.ia x.c.p.ic x.c.p.ins (hO.pm w1 λe he=>hS.holds e Ft).1.ins W).mono ?_
 rintro e w' ⟨ia,ic,Ei,rfl,hVi,hS'⟩
 refine⟨_,_,rfl,hS.join hS',?_⟩
 refine WL.PE kp<|WRT.first (g:=2) [17] C6 C6 C6 kp<|J1 ?_
 refine WH.PE<|WRT.one (g:=1) 18 C6<|zy U YS.h U U<|λg9 Z=>WL.PE kp<|WRT.one (g:=0) 19 C6<|J1 ?_
 refine WL.CD (g:=g9) (cs':=[.slice oa x.c.p.outs.length oc,.slice ia x.c.p.ins.length ic,.slice x.c.p.ma x.c.p.AY.length x.c.p.mc,sN,sN,sN]) U<|WL.Xw U<|?_
 exact WRT.done C6<|eMx [] ⟨oa,oc,Eo,ia,ic,Ei,g9⟩ ⟨hVo,hVi⟩
 refine zy U YS.h U U<|λg9 Z=>?_
 exact Gc
 refine zy U YS.h U U<|λg9 Z=>WL.PE kp<|WRT.one (g:=3) 5 C6<|zK CkO U<|λw1 hS=>(K5 w1 x.c.p.oa x.c.p.oc x.c.p.outs (hO.pm w1 λe he=>hS.holds e Ft).1.outs W).mono ?_
 rintro e w' ⟨oa,oc,Eo,rfl,hVo,hS'⟩
 refine⟨_,_,rfl,hS.join hS',?_⟩
 exact Gc
 rintro⟨oa,oc,Eo,ia,ic,Ei,g9⟩ ⟨hVo,hVi⟩
 dsimp only at hVo hVi⊢
 obtain⟨D,N,rfl,rfl,hRo,hRo2⟩:=Vec.Afw hVo λh=>by rw[h] at hol;simp at hol;omega
 obtain⟨C,M,rfl,rfl,hRi,hRi2⟩:=Vec.Afw hVi λh=>by rw[h] at hil;simp at hil;omega
 refine WC.to (L':=.row g9 [.slice (aG D) x.c.p.outs.length oc,.slice (aG C) x.c.p.ins.length ic,.slice x.c.p.ma x.c.p.AY.length x.c.p.mc,sN,sN,sN]::.row D (CV x.c.p.outs++N)::.row C (CV x.c.p.ins++M)::.row J (ndL b)::.row G (ndL a)::.row x.c.gx x.c.cells::d) (λw hS=>hS)<|J1 ?_
 refine WC.held ([.row g9 [.slice (aG D) x.c.p.outs.length oc,.slice (aG C) x.c.p.ins.length ic,.slice x.c.p.ma x.c.p.AY.length x.c.p.mc,sN,sN,sN],.row J (ndL b),.row G (ndL a)]) mixed<|WRH.first (g:=3) [0,1,2,3,4,5,6,7,8] C6 C6 kp<|J1 ?_
 refine zj (An U U Nt.h (cellAt (v:=.slice (aG D) x.c.p.outs.length oc) U)) U<|J2 ?_
 refine zj (An U U Nt.h (cellAt (v:=.slice (aG C) x.c.p.ins.length ic) U)) U<|J1 ?_
 refine zj (AB U U H5.h U (AT (g:=G) (m:=5) (new:=ndL a) U)) U<|zj (AB U U H5.h U (AT (g:=J) (m:=5) (new:=ndL b) U)) U<|?_
 refine zj (AA (lo:=k) U U U underlying24 FF W W) U<|WH.nil<|WRH.one (g:=2) 9 C6<|WL.FN U U U U H5.h U (by rw[hRo];show 0+k*5+5<=_;omega) (.none U) U ?_
 refine WL.CD (g:=D) (cs':=CV (x.c.p.outs.set k a)++N) (AaT _ _ _ _ W)<|WL.BL kp<|WRH.first (g:=1) [10] C6 C6 kp<|zj (AA (lo:=k) U U U underlying24 FF W W) U<|WH.nil<|WRH.one (g:=0) 11 C6<|WL.FN U U U U H5.h U (by rw[hRi];show 0+k*5+5<=_;omega) (.none U) U ?_
 refine WL.CD (g:=C) (cs':=CV (x.c.p.ins.set k b)++M) (AaT _ _ _ _ W)<|WL.BL kp<|WRH.done C6<|J3 ?_
 obtain⟨K,l⟩:∃p:PlN,p=⟨aG D,oc,x.c.p.outs.set k a,aG C,ic,x.c.p.ins.set k b,x.c.p.ma,x.c.p.mc,x.c.p.AY,none,0,0,none,0,0,none,0,0⟩:=⟨_,rfl⟩
 have hpc:K.cells=[.slice (aG D) x.c.p.outs.length oc,.slice (aG C) x.c.p.ins.length ic,.slice x.c.p.ma x.c.p.AY.length x.c.p.mc,sN,sN,sN]:=(by rw[l];unfold PlN.cells;dsimp only;rw[AbI,AbI])
 refine WL.CD (g:=g9) (cs':=K.cells) hpc.symm<|zV (AB U U RS.h U (AT (g:=g9) (m:=6) (new:=K.cells) U)) U<|zK CkO U<|?_
 intro w1 hS
 have hRw:=(hO.pm w1 λe he=>hS.holds e Ft).1
 have tk:∀(T:List Nd) (R:vL),(CV T++R).take (T.length*5)=CV T:=λT R=>List.take_left' (Jy T)
 have hAt:K.At w1:=(by
  rw[l]
  exact⟨Vec.RX (Vec.row (tk _ N) (by rw[AC,Jy,AbI, <- hRo,AC,Jy]) (by rw[AbI];exact hRo2)) (λe he=>by rw[Es.1 he];exact hS.holds _ (.tail _ (.head _))) (λu hu=>by
   rcases Aik hu with h|rfl
   .obtain ⟨i,hi,e⟩:=List.getElem_of_mem h
    exact(hRw.outs.get _ 0 i u (by rw[FS hi,e])).2
   .exact hA.st (λ_ h=>h) hS),Vec.RX (Vec.row (tk _ M) (by rw[AC,Jy,AbI, <- hRi,AC,Jy]) (by rw[AbI];exact hRi2)) (λe he=>by rw[Es.1 he];exact hS.holds _ (.tail _ (.tail _ (.head _)))) (λu hu=>by
   rcases Aik hu with h|rfl
   .obtain ⟨i,hi,e⟩:=List.getElem_of_mem h
    exact(hRw.ins.get _ 0 i u (by rw[FS hi,e])).2
   .exact hB.st (λ_ h=>h) hS),hRw.AY⟩)
 have hIn:K.In:=(by
  rw[l]
  refine⟨BU.of' λu hu=>?_,BU.of' λu hu=>?_,hO.pi.in_.AY,by dsimp only;rw[AbI,AbI];omega⟩
  .rcases Aik hu with h|rfl
   .obtain ⟨i,hi,e⟩:=List.getElem_of_mem h
    exact hO.pi.in_.outs.get _ i u (by rw[FS hi,e])
   .exact iA
  .rcases Aik hu with h|rfl
   .obtain ⟨i,hi,e⟩:=List.getElem_of_mem h
    exact hO.pi.in_.ins.get _ i u (by rw[FS hi,e])
   .exact iB)
 have hF:¬OI K:=(by
  rw[l]
  unfold OI
  dsimp only
  rw[AbI,AbI]
  omega)
 refine(Agp w1 K hAt hIn (hG.BI (λh=>h) hS) (by
  rw[l]
  intro t ht
  rcases Aik ht with h|rfl
  .exact (lo t h).2
  .exact lA) (by
  rw[l]
  intro t ht
  rcases Aik ht with h|rfl
  .exact (li t h).2
  .exact lB)).mono ?_
 rintro e w' ⟨q,qx,qy,MQ,rfl,hq1,hqA,hqI,hS'⟩
 refine⟨_,_,rfl,hS.join hS',?_⟩
 refine J3 ?_
 refine WL.FN U U U U RS.h U Dn (.none U) U ?_
 skip
 refine WL.as (L':=MQ++(.row g9 (AK K.cells 0 q.cells)::.row D (CV (x.c.p.outs.set k a)++N)::.row C (CV (x.c.p.ins.set k b)++M)::.row J (ndL b)::.row G (ndL a)::.row x.c.gx x.c.cells::d)) U<|WL.CD (g:=g9) (cs':=q.cells) (AH U)<|?_
 refine J7 ?_
 refine JT (λh50=>?_) λh50=>?_
 refine J11 ?_
 refine eT1 ?_
 refine λw' h=>⟨_,x,rfl,XTo.refl hO,?_⟩
 rw[hY]
 exact h.sub (by refine Adn ?_;repeat (first|exact Aia _|refine List.Sublist.cons _ ?_))
 refine J9 ?_
 refine zV (AB U U RS.h U (AT (g:=g9) (m:=6) (new:=q.cells) U)) U<|zK CkO U<|?_
 intro w1 hS
 have z:KE K=0:=AhH h50
 obtain⟨hqo,hqi,Q,hqR⟩:=hq1 z
 have B:K.AY=x.c.p.AY:=(by rw[l])
 have hz:St Fx w0 w1 ((MQ++[.row g9 q.cells,.row D (CV (x.c.p.outs.set k a)++N),.row C (CV (x.c.p.ins.set k b)++M),.row J (ndL b),.row G (ndL a)])++x.all L):=(by rw[hY];simpa only [Qs,AbT,Aec] using hS)
 refine(Xg w0 w1 x q qx qy ((MQ++[.row g9 q.cells,.row D (CV (x.c.p.outs.set k a)++N),.row C (CV (x.c.p.ins.set k b)++M),.row J (ndL b),.row G (ndL a)])++L) hO hqR (by rw[Q,B];exact hO.pn) hqI.AY (λw2 h=>(hqA w2 λe he=>h e Dd).2) hG (SxL.GI hz)).mono ?_
 rintro e w' ⟨r,y,rfl,F,hS'⟩
 have hyg:=F.to.gx
 obtain⟨Y2,O⟩:∃Y2,y.all ((MQ++[.row g9 q.cells,.row D (CV (x.c.p.outs.set k a)++N),.row C (CV (x.c.p.ins.set k b)++M),.row J (ndL b),.row G (ndL a)])++L)=.row x.c.gx y.c.cells::Y2:=⟨_,by rw[<- hyg];rfl⟩
 have Z:Ent.row g9 q.cells∈Y2:=(by
  have A:Ent.row g9 q.cells∈y.all ((MQ++[.row g9 q.cells,.row D (CV (x.c.p.outs.set k a)++N),.row C (CV (x.c.p.ins.set k b)++M),.row J (ndL b),.row G (ndL a)])++L):=(by rw[SxL.all_eq];simp)
  rw[O] at A
  rcases Rl.1 A with A|A
  .have h2:=hS'.dist
   exfalso
   rw[O] at hS' h2
   injection A with e1
   have h3:=hS.dist
   have h4:g9≠x.c.gx:=(by
    intro e
    rw[e] at h3
    simp[List.nodup_append,Ent.at] at h3)
   exact h4 e1
  .exact A)
 refine⟨_,.row x.c.gx y.c.cells::Y2,rfl,(by rw[<- O];exact hS'),?_⟩
 refine J6 ?_
 refine JT (λh56=>?_) λh56=>?_
 refine J11 ?_
 refine eT1 ?_
 exact λw' h=>⟨r,y,rfl,F.to,SxL.HG (by rw[O];exact h)⟩
 refine J8 ?_
 refine zV (AB (cs:=q.cells) U U RS.h U λw hS=>rowAll (hS.holds _ (EQ _ Z))) U<|J2 ?_
 refine WL.FN U U U U RS.h U Dn (.none U) U ?_
 refine WL.CD (g:=x.c.gx) (cs':=SxC.cells { y.c with p:=q }) U<|J8 ?_
 refine eT1 ?_
 have hyc:y.c.p=x.c.p/\y.c.n=x.c.n:=⟨F.p,F.to.n⟩
 have j:=F.to.ok
 have z:KE K=0:=AhH h50
 obtain⟨hqo,hqi,Q,hqR⟩:=hq1 z
 have B:K.AY=x.c.p.AY:=(by rw[l])
 have hcd:∀(T us:List Nd) (u:Nd),us.map er=(T.set k u).map er->(∀t∈T,BN t=0/\Lt t)->BN u=0->Lt u->∀t∈us,BN t=0/\Lt t:=λT us u he hts hu lu t ht=>(by
  have A:er t∈(T.set k u).map er:=by rw[<- he];exact Ab5 ht
  obtain⟨t2,h2,h3⟩:=Ab8.1 A
  have h4:BN t2=0/\Lt t2:=by
   rcases Aik h2 with h|rfl
   .exact hts t2 h
   .exact ⟨hu,lu⟩
  exact⟨AdX h3.symm h4.1,lt_er h3.symm h4.1 h4.2⟩)
 have hea:BN a=0/\BN b=0:=(by
  unfold KE at z
  rw[E9 hF] at z
  by_cases A:Gz BN K.outs=0
  .rw [E9 λh=>h A] at z
   rw[l] at A z
   exact⟨M5.1 A a (List.mem_iff_getElem.2 ⟨k,by rw[AbI];omega,C9⟩),M5.1 z b (List.mem_iff_getElem.2 ⟨k,by rw[AbI];omega,C9⟩)⟩
  .rw [IR A] at z;exact absurd z A)
 have hlo:q.outs.length=x.c.p.outs.length:=(by have:=If List.length hqo;rw[Ri,Ri,l] at this;dsimp only at this;rwa [AbI] at this)
 have hli:q.ins.length=x.c.p.ins.length:=(by have:=If List.length hqi;rw[Ri,Ri,l] at this;dsimp only at this;rwa [AbI] at this)
 refine λw' h=>⟨0, { y with c:={ y.c with p:=q },xs:=qx,ys:=qy,PM:=MQ },rfl,⟨⟨j.v,j.vs,j.told,j.n,j.gm,hqR,?_,⟨hqI,⟨?_,?_⟩,⟨?_,?_⟩⟩,hqA,j.b,j.bp,j.rules,j.most,j.tv,j.tk,j.tn,j.ta,j.te,j.sp⟩,hyg,F.to.n,F.to.S⟩,?_⟩
 .show q.AY.length=y.c.n
  rw[Q,B,hyc.2];exact hO.pn
 .show q.outs.length=q.AY.length
  rw[hlo,Q,B];exact hO.pi.o.1
 .exact hcd x.c.p.outs q.outs a (by rw[hqo,l]) hO.pi.o.2 hea.1 lA
 .show q.ins.length=q.AY.length
  rw[hli,Q,B];exact hO.pi.i.1
 .exact hcd x.c.p.ins q.ins b (by rw[hqi,l]) hO.pi.i.2 hea.2 lB
 .have hY3:SxL.all { y with c:={ y.c with p:=q } } ((MQ++[.row g9 q.cells,.row D (CV (x.c.p.outs.set k a)++N),.row C (CV (x.c.p.ins.set k b)++M),.row J (ndL b),.row G (ndL a)])++L)=.row x.c.gx (SxC.cells { y.c with p:=q })::Y2:=(by
   have A:Y2=(y.all ((MQ++[.row g9 q.cells,.row D (CV (x.c.p.outs.set k a)++N),.row C (CV (x.c.p.ins.set k b)++M),.row J (ndL b),.row G (ndL a)])++L)).tail:=(by rw[O];rfl)
   rw[A, <- hyg];rfl)
  rw[<- hY3] at h
  unfold SxL.all at h ⊢
  simp only[AbT,Qs,Aec] at h
  exact h.AN (y.PM++[.row g9 q.cells,.row D (CV (x.c.p.outs.set k a)++N),.row C (CV (x.c.p.ins.set k b)++M),.row J (ndL b),.row G (ndL a)])
end Gq

def wdL:List Value:=[.int .i64 8,.int .i64 48,.int .i64 48,.int .i64 16,.int .i64 32,.int .i64 32,.int .i64 8,.int .i64 16,.int .i64 16]
def GWv(w:World):Prop:=∀i v,wdL[i]?=some v->w.cell? ⟨0,i,none⟩=some v
noncomputable def E0:Ev:=⟨1,[(0,0)],EK⟩
def H0:Hp:=⟨1,Tr.put hpD .e 0 (some (.row wdL none))⟩
theorem Yl(k:Nat):H0.get k=if k=0 then some (.row wdL none) else none:=by
 have h:H0=(Hp.mk 1 .e).put 0 (some (.row wdL none)):=rfl
 rw[h]
 by_cases hk:k=0
 .subst hk
  rw[Hp.FD C8,IR U]
 .rw [Hp.BF C8 hk,E9 hk]
  unfold Hp.get
  rw[Tr.Aeh]
  cases Nat.blt k hpM<;>rfl
theorem sr0{w:World}(h:GWv w):SR E0 w (λk=>if k=0 then some (0,0) else none) H0 []:=by
 refine⟨C8,λk hk=>E9 (by have:H0.n=1:=rfl;omega),λg k a=>?_,λk o hk c=>?_,λj k b q r d hk i l _ _=>?_,λk o hk c=>?_⟩
 .replace a:cond (Nat.beq 0 g) (some 0) none=some k:=a
  cases c:Nat.beq 0 g
  .rw [c] at a;cases a
  .rw [c] at a
   cases a
   rw[<- NE c]
   exact⟨0,rfl⟩
 .rw [Yl,E9 (by have:E0.base=1:=rfl;omega)] at hk
  cases hk
 .obtain ⟨o,e⟩:=d
  rw[Yl,E9 (by have:E0.base=1:=rfl;omega)] at e
  cases e
 .have:k=0:=by have:E0.base=1:=rfl;omega
  subst this
  rw[Yl,IR U] at hk
  cases hk
  refine⟨wdL,0,0,wdL,rfl,rfl,VRs.plain U,λj v d=>?_⟩
  rw[PP]
  exact h j v d

def nmA(R:Rn)(k:Nat):Nat:=((R k).getD (0,0)).1
def nmQ(R:Rn)(k:Nat):Nat:=((R k).getD (0,0)).2
def ren(R:Rn):Vl->Vl
 | .pointer (some ⟨k,o,none⟩)=>.pointer (some ⟨nmA R k,o,none⟩)
 | .slice (some ⟨k,o,none⟩) n c=>.slice (some ⟨nmA R k,o,none⟩) n (Jd (nmQ R k) c)
 | .map (some k)=>.map (some (nmA R k))
 | v=>v
def WU:Vl->Bool
 | .pointer (some ⟨_,_,none⟩)=>true
 | .slice (some ⟨_,_,none⟩) _ _=>true
 | .map (some _)=>true
 | v=>CW v
theorem VR.renE{j:Vl}(h:VR O b j)(d:WU b=true):j=ren O b:=by
 have g:∀b:Vl,CW b=true->ren O b=b:=λb i=>by
  unfold ren
  split
  .cases i
  .cases i
  .cases i
  .rfl
 cases h with
 | plain e=>exact(g _ e).symm
 | ptr e=>show _=Value.pointer (some ⟨nmA O _,_,none⟩);unfold nmA;rw[e];rfl
 | slice e _=>show _=Value.slice (some ⟨nmA O _,_,none⟩) _ (Jd (nmQ O _) _);unfold nmA nmQ;rw[e];rfl
 | empty=>cases d
 | map e=>show _=Value.map (some (nmA O _));unfold nmA;rw[e];rfl
 | func a c=>exact(VR.same (.func a c) d).trans (g _ d).symm
 | iface a=>exact(VR.same (.iface a) d).trans (g _ d).symm
 | agg a=>exact(VR.same (.agg a) d).trans (g _ d).symm
 | tuple a=>exact(VR.same (.tuple a) d).trans (g _ d).symm
theorem VRs.renE{R:Rn}:∀ {d c:vL},VRs R d c->d.all WU=true->c=d.map (ren R)
 | _,_,.nil,_=>rfl
 | _,_,.cons a b,h=>by
  rw[List.all_cons,Hr] at h
  rw[Acu, <- a.renE h.1, <- VRs.renE b h.2]
def optN:Option Nat->Option Nat->Bool
 | none,none=>true
 | some a,some b=>Nat.beq a b
 | _,_=>false
def rowIs(a:vL)(c:Option Nat):VO->Bool
 | .row b d=>eqL a b && optN c d
 | _=>false
def mapIs:VO->Bool
 | .map _ [] none=>true
 | _=>false
def isE(H:Hp)(p:Nat×VO):Bool:=Nat.ble 1 p.1 && match H.get p.1 with
 | none=>false
 | some o=>match p.2 with
  | .row a b=>rowIs a b o && a.all WU
  | _=>mapIs o
def GY(R:Rn)(f:Nat->Nat)(tl:Nat->vL)(p:Nat×VO):Ent:=match p.2 with
 | .row a none=>.row (nmA R p.1) (a.map (ren R))
 | .row a (some _)=>.row (nmA R p.1) (a.map (ren R)++tl p.1)
 | _=>.obj (nmA R p.1) (.map #[] (f p.1))
def Xx:List Nat->Bool
 | []=>true
 | k::a=>a.all (λj => !Nat.beq j k) && Xx a
theorem Xy:∀ {a:List Nat},Xx a=true->a.Nodup
 | [],_=>.nil
 | k::a,h=>by
  unfold Xx at h
  rw[Hr,Acw] at h
  refine List.nodup_cons.2 ⟨λb=>?_,Xy h.2⟩
  have:=h.1 k b
  rw[Nat.beq_refl] at this;cases this
theorem Ahw{a b:Option Nat}(h:optN a b=true):a=b:=by
 cases a<;>cases b
 .rfl
 .cases h
 .cases h
 .exact If some (NE h)
theorem U8{d:Option Nat}(h:isE c (A,.row F d)=true):1<=A/\c.get A=some (.row F d)/\F.all WU=true:=by
 unfold isE at h
 rw[Hr] at h
 obtain⟨e,a⟩:=h
 refine⟨Ai6 e,?_⟩
 split at a
 .cases a
 .rename_i o b
  dsimp only at a b
  rw[Hr] at a
  obtain⟨a,g⟩:=a
  refine⟨?_,g⟩
  unfold rowIs at a
  split at a
  .rw [Hr] at a
   rw[b,YK _ _ a.1,Ahw a.2]
  .cases a
theorem AaF{e:List (Vl×Vl)}{i:Option (Nat×Bool)}(h:isE c (A,.map D e i)=true):1<=A/\∃b,c.get A=some (.map b [] none):=by
 unfold isE at h
 rw[Hr] at h
 obtain⟨g,a⟩:=h
 refine⟨Ai6 g,?_⟩
 split at a
 .cases a
 .rename_i o d
  dsimp only at a d
  unfold mapIs at a
  split at a
  .exact ⟨_,d⟩
  .cases a
def VO.AeU:VO->Bool
 | .iter _=>false
 | _=>true
structure Ym(R:Rn)(f:Nat->Nat)(tl:Nat->vL)(P:List (Nat×VO))(L:eL):Prop where
 own:∀p∈P,GY R f tl p∈L
 len:∀k cs s,(k,VO.row cs (some s))∈P->(cs.map (ren R)++tl k).length=nmQ R k*s
 st:∀k,MapKept.Stamped #[] (f k)
 nd:(P.map λp=>nmA R p.1).Nodup
theorem SR.lain(h:SR E0 B O c C){P:List (Nat×VO)}(z:P.all (isE c)=true)(Q:P.all (λp=>p.2.AeU)=true)(hN:Xx (P.map Prod.fst)=true):∃f tl,Ym O f tl P C:=by
 rw[Acw] at z Q
 have T:E0.base=1:=rfl
 have hm:∀k, ∃d,MapKept.Stamped #[] d/\∀y n r,(k,VO.map y n r)∈P->Ent.obj (nmA O k) (.map #[] d)∈C:=λk=>by
  by_cases hk:∃y n r,(k,VO.map y n r)∈P
  .obtain ⟨y,n,r,hk⟩:=hk
   obtain⟨J,kt',F⟩:=AaF (z _ hk)
   obtain⟨b,q,N,d,kb,m,l,G,M,_⟩:=h.own k _ F W
   have hs:N = #[]:=Array.eq_empty_of_size_eq_zero M.size
   subst hs
   refine⟨d,M.st,λ_ _ _ _=>?_⟩
   unfold nmA;rw[l];exact G
  .exact ⟨0,by unfold MapKept.Stamped;simp,λy n r D=>absurd ⟨y,n,r,D⟩ hk⟩
 have hr:∀k, ∃t:vL, ∀i j,(k,VO.row i j)∈P->Ent.row (nmA O k) (i.map (ren O)++t)∈C/\(j=none->t=[])/\∀s,j=some s->(i.map (ren O)++t).length=nmQ O k*s:=λk=>by
  by_cases hk:∃i j,(k,VO.row i j)∈P
  .obtain ⟨i,j,hk⟩:=hk
   obtain⟨J,F,h3⟩:=U8 (z _ hk)
   obtain⟨b,q,cs',t,l,G,M,g4,g5⟩:=h.own k _ F W
   obtain rfl:=G.renE h3
   refine⟨t,λcs2 op2 aa=>?_⟩
   obtain⟨_,K,_⟩:=U8 (z _ aa)
   rw[F] at K
   injection K with K
   injection K with e3 e4
   subst e3 e4
   unfold nmA nmQ;rw[l]
   exact⟨M,g4,g5⟩
  .exact ⟨[],λi j D=>absurd ⟨i,j,D⟩ hk⟩
 obtain⟨f,hf⟩:=Classical.axiomOfChoice hm
 obtain⟨tl,ht⟩:=Classical.axiomOfChoice hr
 refine⟨f,tl,⟨λp g=>?_,λk i s g=>(ht k i _ g).2.2 s U,λk=>(hf k).1,?_⟩⟩
 .obtain ⟨k,o⟩:=p
  unfold GY
  cases o with
  | row i j =>
   obtain⟨l,G,_⟩:=ht k i j g
   cases j with
   | none=>rw[G rfl,Acx] at l;exact l
   | some s=>exact l
  | map y n r=>exact(hf k).2 _ _ _ g
  | iter m=>have:=Q _ g;cases this
 .have D:∀p∈P, ∃o,c.get p.1=some o:=λp g=>by
   obtain⟨k,o⟩:=p
   cases o with
   | row i j=>exact⟨_,(U8 (z _ g)).2.1⟩
   | map y n r=>obtain⟨_,_,F⟩:=AaF (z _ g);exact⟨_,F⟩
   | iter m=>have:=Q _ g;cases this
  have J:∀p∈P,1<=p.1:=λp g=>by
   have:=z p g
   unfold isE at this
   rw[Hr] at this
   exact Ai6 this.1
  have hR:∀p∈P, ∃b q,O p.1=some (b,q):=λp g=>by
   obtain⟨o,ho⟩:=D p g
   obtain⟨e,b,q,l,_⟩:=(h.own p.1 o ho (by rw[T];exact J p g)).main
   exact⟨b,q,l⟩
  have hn:=Xy hN
  rw[List.nodup_iff_pairwise_ne,List.pairwise_map] at hn ⊢
  refine hn.imp_of_mem λ{a b} S A ab=>λZ=>ab ?_
  obtain⟨b1,q1,r1⟩:=hR a S
  obtain⟨b2,q2,r2⟩:=hR b A
  unfold nmA at Z
  rw[r1,r2] at Z
  obtain rfl:b1=b2:=Z
  exact h.inj a.1 b.1 b1 q1 q2 (D a S) (D b A) (by rw[T];exact J a S) (by rw[T];exact J b A) r1 r2
theorem Ad4{f:Nat->Nat}{tl:Nat->vL}(p:Nat×VO):(GY O f tl p).at=nmA O p.1:=by
 obtain⟨k,o⟩:=p
 unfold GY
 cases o with
 | row b a=>cases a<;>rfl
 | map e c d=>rfl
 | iter m=>rfl
theorem St.pick{f:Nat->Nat}{tl:Nat->vL}(h:St Fx B G (C++Q))(i:Ym O f tl S C):St Fx B G (S.map (GY O f tl)++Q):=by
 have g:∀e∈S.map (GY O f tl),e∈C:=λe c=>by
  obtain⟨p,l,rfl⟩:=Ab8.1 c
  exact i.own p l
 have d:=h.dist
 rw[Ai7,List.nodup_append] at d
 refine⟨h.frm,λe c=>?_,?_,λe c=>?_⟩
 .rcases LI.1 c with c|c
  .exact h.holds e (Ha _ (g e c))
  .exact h.holds e (Mu _ c)
 .rw [Ai7,List.nodup_append]
  refine⟨?_,d.2.1,λa j b k=>?_⟩
  .rw [List.map_map]
   have:(Ent.at ∘ GY O f tl)=λp=>nmA O p.1:=funext λp=>Ad4 p
   rw[this];exact i.nd
  .obtain ⟨e,c,rfl⟩:=Ab8.1 j
   exact d.2.2 _ (Ab5 (g e c)) b k
 .rcases LI.1 c with c|c
  .exact h.mine e (Ha _ (g e c))
  .exact h.mine e (Mu _ c)
noncomputable def X2(f g:Nat)(a:vL)(b:Vl->vL)(c:Vl->Vl->Hp->Bool):Bool:=match runE prog E0 3000 (.call f a H0) with
 | .ok (.val v H)=>(match runE prog E0 3000 (.call g (b v) H) with
  | .ok (.val u d)=>c v u d
  | _=>false)
 | _=>false
theorem AfV{b:Vl->vL}{a:Vl->Vl->Hp->Bool}(h:X2 A D F b a=true):
 ∃v H u c,(∀w0,Ur prog E0 w0 A F H0 v H)/\(∀w0,Ur prog E0 w0 D (b v) H u c)/\a v u c=true:=by
 unfold X2 at h
 split at h
 .rename_i v H d
  split at h
  .rename_i u c e
   exact⟨v,H,u,c,λw0=>((Aeb (w0:=w0) mixed Va 3000).call _ _ _ _ _ d).2,λw0=>((Aeb (w0:=w0) mixed Va 3000).call _ _ _ _ _ e).2,h⟩
  .cases h
 .cases h

structure NmM where
 g:Nat
 r:Nat
 t:Nat
 b:Nat
 n:Nat
structure NmS where
 s:Nat
 mb:Nat
 gf:Nat
 ms:List NmM
structure NmX where
 gx:Nat
 gw:Nat
 gt:Nat
 gp:Nat
 gsp:Nat
 ar:Nat
 pt:Nat
 ph:Nat
 po:Nat
 pi:Nat
 pm:Nat
 px:Nat
 py:Nat
 pz:Nat
 xs:List (Nat×Nat)
 ys:List (Nat×Nat)
 sp:List Nat
 sv:NmS
def NmX.n(N:NmX):Nat:=N.sv.ms.length
def ptV(k:Nat):Vl:=pG k
def slV(k n:Nat):Vl:=.slice (aG k) n DI
def mbX(i:Nat)(m:NmM):List (Nat×VO) :=
 [(m.g,.row [iI (65001+(i:Int)),.int .u32 ((i:Int)+1),.bool false,ptV m.r,.map (some m.b),.map (some m.n)] none),
  (m.r,.row [iI (i:Int),iI 65000,iI 20,ptV m.t] none),(m.t,.row [.pointer none,iI 20,iI 0] none),(m.b,.map 0 [] none),(m.n,.map 0 [] none)]
def mbsX:Nat->List NmM->List (Nat×VO)
 | _,[]=>[]
 | i,m::a=>mbX i m++mbsX (i+1) a
def NmS.X(N:NmS):List (Nat×VO):=(N.s,.row [slV N.mb N.ms.length,ptV N.gf] none)::(N.mb,.row (N.ms.map λm=>ptV m.g) (some 1))::(N.gf,.row (fiL 65000 (List.replicate 256 false)) none)::mbsX 0 N.ms
def ruX(a:List (Nat×Nat)):List (Nat×VO):=a.flatMap λp=>[(p.1,.row (mtL mt0++[slV p.2 1]) none),(p.2,.row (acL ac0) (some 10))]
def rlX(a:List (Nat×Nat)):vL:=a.map λp=>.slice (aG p.1) 1 1
def NmX.PX(N:NmX):List (Nat×VO) :=
 (N.po,.row (CV (JI N.n)) (some 5))::(N.pi,.row (CV (JI N.n)) (some 5))::(N.pm,.row (G3 (Cw N.n)) (some 6))::(N.px,.row (rlX N.xs) (some 1))::(N.py,.row (rlX N.ys) (some 1))::(N.pz,.row (G3 (Cw N.n)) (some 6))::(ruX N.xs++ruX N.ys)
def wlX(n:Nat):vL:=[iI 0,iI 0,iI 0,iI 0,iI (n:Int)]
def NmX.X(N:NmX):List (Nat×VO) :=
 (N.gx,.row [ptV N.sv.s,ptV N.gw,iI 4096,slV N.po N.n,slV N.pi N.n,slV N.pm N.n,slV N.px N.n,slV N.py N.n,slV N.pz N.n,ptV N.gp,ptV N.ar,.slice (aG N.gsp) N.n N.n,iI 0] none)::(N.gw,.row (ptV N.gt::wlX N.n) none)::(N.gsp,.row (N.sp.map λk=>.map (some k)) none)::(N.gt,.row [iI 4096,sN] none) ::
  (N.gp,.row [iI 256,.map (some N.pt),.map (some N.ph)] none)::(N.pt,.map 0 [] none)::(N.ph,.map 0 [] none)::(N.sv.X++(N.sp.map (λk=>(k,.map 0 [] none))++N.PX))
section
variable (R:Rn) (f:Nat->Nat) (tl:Nat->vL)
def Mb.ini(i:Nat)(m:NmM):Mb:=⟨nmA R m.g,65001+(i:Int),(i:Int)+1,false,⟨nmA R m.r,nmA R m.t,(i:Int),65000,20,20,0,.nil⟩,nmA R m.b, #[],f m.b,λ_=>none,nmA R m.n, #[],f m.n,λ_=>none,[]⟩
def Qy:Nat->List NmM->List Mb
 | _,[]=>[]
 | i,m::a=>Mb.ini R f i m::Qy (i+1) a
def Sv.ini(N:NmS)(S:List PfL):Sv:=⟨nmA R N.s,nmA R N.mb,nmQ R N.mb,tl N.mb,nmA R N.gf,65000,List.replicate 256 false,Qy R f 0 N.ms,S⟩
def rlI(p:Nat×Nat):RlL:=⟨some ⟨nmA R p.1,0,none⟩,1,[⟨mt0,some ⟨nmA R p.2,0,none⟩,nmQ R p.2,[ac0]⟩]⟩
def adI(k:Nat):Option Addr:=some ⟨nmA R k,0,none⟩
def mpI(k:Nat):MpL:=⟨nmA R k, #[],f k,λ_=>none⟩
def PlN.ini(N:NmX):PlN:=⟨adI R N.po,nmQ R N.po,JI N.n,adI R N.pi,nmQ R N.pi,JI N.n,adI R N.pm,nmQ R N.pm,Cw N.n,adI R N.px,N.n,nmQ R N.px,adI R N.py,N.n,nmQ R N.py,adI R N.pz,N.n,nmQ R N.pz⟩
def SxL.ini(N:NmX)(S:List PfL):SxL :=
 ⟨⟨nmA R N.gx,nmA R N.gw,nmA R N.gt,nmA R N.sv.s,nmA R N.gp,nmA R N.gsp,N.n,N.n,wlX N.n,4096,PlN.ini R N,.pointer (adI R N.ar),0,N.sp.map (nmA R)⟩,
  N.xs.map (rlI R),N.ys.map (rlI R),N.PX.map (GY R f tl),⟨4096,none,0,[]⟩,[],[],⟨nmA R N.gp,256,mpI R f N.pt,mpI R f N.ph⟩,Sv.ini R f tl N.sv S,N.sp.map (mpI R f)⟩
end
section
variable {R:Rn}{f:Nat->Nat}{tl:Nat->vL}{L:eL}
theorem Mo:∀(i:Nat) (a:List NmM),(Qy R f i a).length=a.length
 | _,[]=>rfl
 | i,_::a=>If Nat.succ (Mo (i+1) a)
theorem OL:∀ {i:Nat}{ms:List NmM}{k:Nat}{m:Mb},(Qy R f i ms)[k]?=some m->∃x∈ms,m=Mb.ini R f (i+k) x
 | _,[],_,_,h=>by cases h
 | i,x::ms,0,m,h=>⟨x,Fr,(Ade h).symm⟩
 | i,x::ms,k+1,m,h=>by
  obtain⟨y,a,e⟩:=OL (i:=i+1) (ms:=ms) (k:=k) h
  exact⟨y,EQ _ a,by rw[e];congr 1;omega⟩
theorem Mz(k n:Nat):ren R (slV k n)=.slice (adI R k) n (nmQ R k):=by
 show Value.slice (some ⟨nmA R k,0,none⟩) n (Jd (nmQ R k) DI)=_
 unfold Jd DI
 rw[E9 C8,Nat.sub_self,Nat.sub_zero];rfl
theorem EC:∀ {a:vL},DB a=true->a.map (ren R)=a
 | [],_=>rfl
 | v::c,h=>by
  unfold DB at h
  rw[Hr] at h
  have b:=(VR.plain (R:=R) h.1).renE (by unfold WU;split<;>first|rfl|exact h.1)
  rw[Acu,EC h.2, <- b]
theorem Xo:∀(i:Nat) (a:List NmM),(mbsX i a).map (GY R f tl)=(Qy R f i a).flatMap Mb.AE
 | _,[]=>rfl
 | i,m::a=>by
  unfold mbsX Qy
  rw[Ai7,Xo (i+1) a,List.flatMap_cons]
  rfl
theorem Sv.OA(N:NmS)(S:List PfL):N.X.map (GY R f tl)=(Sv.ini R f tl N S).AE:=by
 have c:(fiL 65000 (List.replicate 256 false)).map (ren R)=fiL 65000 (List.replicate 256 false):=EC (by decide +kernel)
 have d:∀(i:Nat) (a:List NmM),(a.map λm=>ptV m.g).map (ren R)=(Qy R f i a).map λm=>pG m.g:=λi a=>by
  induction a generalizing i with
  | nil=>rfl
  | cons m a e=>unfold Qy;rw[Acu,Acu,Acu,e (i+1)];rfl
 have b:GY R f tl (N.s,.row [slV N.mb N.ms.length,ptV N.gf] none)=.row (nmA R N.s) [.slice (some ⟨nmA R N.mb,0,none⟩) (Qy R f 0 N.ms).length (nmQ R N.mb),.pointer (some ⟨nmA R N.gf,0,none⟩)]:=by
  unfold GY
  show Ent.row _ [ren R (slV N.mb N.ms.length),_]=_
  rw[Mz,Mo];rfl
 unfold NmS.X Sv.AE Sv.head
 rw[Acu,Acu,Acu,Xo,b]
 unfold GY
 dsimp only
 rw[c,d 0]
 rfl
theorem Tri.WY(q:List Nat):Tri.get .nil q=none:=by cases q<;>rfl
theorem Xz{p:Prop}(h:(none:Option Vl)=some b):p:=Da
theorem Sv.U7(d:Ym R f tl S L)(N:NmS)(a:List PfL)(g:a.length<=5000)(i:0<N.ms.length/\N.ms.length<=16):(Sv.ini R f tl N a).Ok:=by
 have c:∀m∈Qy R f 0 N.ms, ∃k x,m=Mb.ini R f k x:=λm b=>by
  obtain⟨k,hk⟩:=List.mem_iff_getElem?.1 b
  obtain⟨x,_,e⟩:=OL hk
  exact⟨_,x,e⟩
 refine⟨g,λm b=>?_,?_,Ai2,λk m b=>?_,λm b=>?_,λm b=>?_⟩
 .obtain ⟨k,x,rfl⟩:=c m b
  exact⟨λp _ _ h=>absurd (Tri.WY _) h,λq h=>absurd U h,λq h=>absurd U h⟩
 .show 0<(Qy R f 0 N.ms).length/\(Qy R f 0 N.ms).length<=16
  rw[Mo];exact i
 .obtain ⟨x,_,rfl⟩:=OL b
  refine⟨trivial,?_⟩
  show((0+k:Nat):Int)=(k:Int)
  rw[PP]
 .obtain ⟨k,x,rfl⟩:=c m b
  exact⟨CP.empty _,d.st _,λk u h=>Xz h⟩
 .obtain ⟨k,x,rfl⟩:=c m b
  exact⟨CP.empty _,d.st _,λk u h=>Xz h⟩
theorem Sv.Aev(N:NmS)(S:List PfL)(q:PfL):Told (Sv.ini R f tl N S) q:=λk m e d=>by
 obtain⟨j,y,a,c,b,_⟩:=d
 obtain⟨x,_,rfl⟩:=OL c
 exact absurd ((Tri.WY _).symm.trans b) λh=>by cases h
structure NmX.Ok(N:NmX):Prop where
 n:N.n=2\/N.n=3
 sp:N.sp.length=N.n
 xs:N.xs.length=N.n
 ys:N.ys.length=N.n
theorem NmX.Ok.plain{N:NmX}(h:N.Ok):DB (CV (JI N.n))=true/\DB (G3 (Cw N.n))=true:=by
 rcases h.n with e|e<;>rw[e]<;>exact⟨C8,C8⟩
theorem SxL.OA(N:NmX)(h:N.Ok)(S:List PfL)(X:eL):N.X.map (GY R f tl)++X=(SxL.ini R f tl N S).all X:=by
 have i:Jd (nmQ R N.gsp) N.n=N.n:=by
  unfold Jd
  rw[IR (by rcases h.n with e|e<;>rw[e]<;>decide)]
 have a:GY R f tl (N.gx,.row [ptV N.sv.s,ptV N.gw,iI 4096,slV N.po N.n,slV N.pi N.n,slV N.pm N.n,slV N.px N.n,slV N.py N.n,slV N.pz N.n,ptV N.gp,ptV N.ar,.slice (aG N.gsp) N.n N.n,iI 0] none)=.row (nmA R N.gx) (SxL.ini R f tl N S).c.cells:=by
  unfold GY
  show Ent.row _ [_,_,_,ren R (slV N.po N.n),ren R (slV N.pi N.n),ren R (slV N.pm N.n),ren R (slV N.px N.n),ren R (slV N.py N.n),ren R (slV N.pz N.n),_,_,.slice _ _ (Jd (nmQ R N.gsp) N.n),_]=_
  rw[Mz,Mz,Mz,Mz,Mz,Mz,i]
  unfold SxC.cells
  show _=Ent.row _ [_,_,_,.slice _ (JI N.n).length _,.slice _ (JI N.n).length _,.slice _ (Cw N.n).length _,_,_,_,_,_,_,_]
  rw[FK,show(JI N.n).length=N.n from Ai2]
  rfl
 have b:GY R f tl (N.gsp,.row (N.sp.map λk=>.map (some k)) none)=.row (nmA R N.gsp) (SxL.ini R f tl N S).c.maps:=by
  unfold GY SxC.maps
  show Ent.row _ ((N.sp.map λk=>.map (some k)).map (ren R))=Ent.row _ ((N.sp.map (nmA R)).map λg=>.map (some g))
  rw[List.map_map,List.map_map]
  rfl
 have d:(N.sp.map λk=>(k,VO.map 0 [] none)).map (GY R f tl)=(SxL.ini R f tl N S).sp.map MpL.ent:=by
  show _=(N.sp.map (mpI R f)).map MpL.ent
  rw[List.map_map,List.map_map]
  rfl
 unfold NmX.X SxL.all
 rw[Acu,Acu,Acu,Acu,Acu,Acu,Acu,Ai7,Ai7,a,b,d,Sv.OA N.sv S]
 simp only[AbT,Qs]
 rfl
theorem Ym.vec(h:Ym R f tl S L){k s n:Nat}{a:vL}(i:(k,VO.row a (some s))∈S)(j:0<s)(d:a.length=n*s){ds:vL}(g:a.map (ren R)=ds):Vec s (adI R k) n (nmQ R k) ds [.row (nmA R k) (ds++tl k)]:=by
 have b:=h.len _ _ _ i
 rw[g] at b
 have e:ds.length=n*s:=by rw[<- g,Ri,d]
 refine Vec.row (by rw[<- e];exact List.take_left' U) b ?_
 rw[AC,e] at b
 refine Nat.le_of_mul_le_mul_right (c:=s) ?_ j
 omega
theorem SxL.U7{N:NmX}(F:N.Ok)(y:Ym R f tl N.X L)(S:List PfL)(hS:S.length<=5000):CQ (SxL.ini R f tl N S):=by
 obtain⟨A,B⟩:=F.plain
 have K:0<N.n/\N.n<=16:=by rcases F.n with e|e<;>omega
 have J:∀p∈N.PX,p∈N.X:=λp z=>by unfold NmX.X;simp[z]
 have d:∀ {w:Wd}{k:Nat}{cs ds:vL}{s:Nat},(∀e∈N.PX.map (GY R f tl),e.holds w)->(k,VO.row cs (some s))∈N.PX->cs.map (ren R)=ds->∀e∈[Ent.row (nmA R k) (ds++tl k)],e.holds w:=λl z hd e he=>by
  rw[Es.1 he, <- hd]
  exact l _ (Ab8.2 ⟨_,z,rfl⟩)
 have M:∀(w:Wd), ∀u∈JI N.n,u.At w:=λw u hu=>by rw[List.eq_of_mem_replicate hu];unfold idN Nd.At BA;trivial
 have Q:(CV (JI N.n)).length=N.n*5:=by rw[Jx,AP (k:=5) AaR];unfold JI;rw[Ai2]
 have O:(G3 (Cw N.n)).length=N.n*6:=by
  show(AM mcL (Cw N.n)).length=_
  rw[AP (k:=6) λf=>rfl,FK]
 have o:(JI N.n).length=N.n:=Ai2
 have Z:∀(b:List (Nat×Nat)),(rlX b).map (ren R)=AM RlL.cells (b.map (rlI R)):=λb=>by
  induction b with
  | nil=>rfl
  | cons p b ih=>show ren R _::(rlX b).map (ren R)=_;rw[ih];rfl
 have T:∀(w:Wd) (k:Nat) (b:List (Nat×Nat)),(∀e∈N.PX.map (GY R f tl),e.holds w)->(k,VO.row (rlX b) (some 1))∈N.PX->(∀p∈ruX b,p∈N.PX)->LV w (adI R k) (b.map (rlI R)):=λw k b l hk hx=>by
  refine⟨(y.vec (n:=b.length) (J _ hk) C8 (by unfold rlX;rw[Ri,Aed]) (Z b)).rg (d l hk (Z b)),λx hx2=>?_⟩
  obtain⟨p,z,rfl⟩:=Ab8.1 hx2
  have m1:(p.1,VO.row (mtL mt0++[slV p.2 1]) none)∈N.PX:=hx _ (List.mem_flatMap.2 ⟨p,z,Fr⟩)
  have m2:(p.2,VO.row (acL ac0) (some 10))∈N.PX:=hx _ (List.mem_flatMap.2 ⟨p,z,EQ _ Fr⟩)
  refine⟨λ_=>⟨_,0,rfl,λj v hj=>?_⟩,λr G=>?_⟩
  .have h1:=l _ (Ab8.2 ⟨_,m1,rfl⟩)
   have h2:(mtL mt0++[slV p.2 1]).map (ren R)=BB (rlI R p).ls:=by
    rw[Ai7,Acu,Mz,EC C8];rfl
   rw[PP]
   refine Row.cell (cs:=BB (rlI R p).ls) ?_ hj
   rw[<- h2];exact h1
  .obtain rfl:=Es.1 G
   exact(y.vec (n:=1) (J _ m2) C8 U (ds:=acL ac0) (EC C8)).rg (d l m2 (EC C8))
 have aa:∀b:List (Nat×Nat), ∀x∈b.map (rlI R),x.Ok:=λb x hx=>by
  obtain⟨p,_,rfl⟩:=Ab8.1 hx
  refine⟨⟨λr G=>?_,λr G=>?_⟩,λr G=>?_,by show 1<=5000;decide⟩
  .obtain rfl:=Es.1 G
   exact Vy Sg Ve λa ha=>by rw[Es.1 ha];exact Gu
  .obtain rfl:=Es.1 G
   show 1<=64;decide
  .obtain ⟨r',hr',rfl⟩:=Ab8.1 G
   obtain rfl:=Es.1 hr'
   exact Mt.Vm.zero
 have D:∀t∈JI N.n,BN t=0/\Lt t:=λt ht=>by rw[List.eq_of_mem_replicate ht];exact⟨Aet,id_lt'⟩
 have C:BU (JI N.n):=BU.of' λu hu=>(by rw[List.eq_of_mem_replicate hu];exact Ag6)
 refine⟨Sv.U7 y N.sv S hS K,rfl,λq _ _=>Sv.Aev N.sv S q,⟨?_,Mo _ _⟩,?_,⟨⟨?_,?_⟩,⟨?_,?_⟩,?_,?_,aa _,aa _⟩,FK _,⟨⟨C,C,?_,?_⟩,⟨?_,D⟩,⟨?_,D⟩⟩,?_,?_,rfl,?_,?_,Vec.nil _,λe he=>Fy,?_,?_,λe he=>Fy,?_⟩
 .show (N.sp.map (mpI R f)).length=N.n;rw[Ri];exact F.sp
 .show (N.sp.map (mpI R f)).map MpL.g=N.sp.map (nmA R);rw[List.map_map];rfl
 .show N.n=(N.xs.map (rlI R)).length;rw[Ri,F.xs]
 .show (N.xs.map (rlI R)).length=(Cw N.n).length;rw[Ri,F.xs,FK]
 .show N.n=(N.ys.map (rlI R)).length;rw[Ri,F.ys]
 .show (N.ys.map (rlI R)).length=(Cw N.n).length;rw[Ri,F.ys,FK]
 .show N.n=(Cw N.n).length;rw[FK]
 .show 0<(Cw N.n).length/\(Cw N.n).length<=16;rw[FK];exact K
 .intro g hg
  obtain⟨i,_,rfl⟩:=Ab8.1 hg
  exact AeM _
 .show (JI N.n).length<=1000/\(JI N.n).length<=1000/\(Cw N.n).length<=1000
  rw[o,FK];omega
 .show (JI N.n).length=(Cw N.n).length;rw[o,FK]
 .show (JI N.n).length=(Cw N.n).length;rw[o,FK]
 .intro w l
  have g1:(N.po,VO.row (CV (JI N.n)) (some 5))∈N.PX:=by unfold NmX.PX;simp
  have g2:(N.pi,VO.row (CV (JI N.n)) (some 5))∈N.PX:=by unfold NmX.PX;simp
  have g3:(N.pm,VO.row (G3 (Cw N.n)) (some 6))∈N.PX:=by unfold NmX.PX;simp
  have g4:(N.pz,VO.row (G3 (Cw N.n)) (some 6))∈N.PX:=by unfold NmX.PX;simp
  have g5:(N.px,VO.row (rlX N.xs) (some 1))∈N.PX:=by unfold NmX.PX;simp
  have g6:(N.py,VO.row (rlX N.ys) (some 1))∈N.PX:=by unfold NmX.PX;simp
  refine⟨⟨?_,?_,?_⟩,T w _ _ l g5 λp z=>by unfold NmX.PX;simp[z],T w _ _ l g6 λp z=>by unfold NmX.PX;simp[z],?_⟩
  .exact Vec.RX (us:=JI N.n) (c:=nmQ R N.po) (by rw[o];exact y.vec (J _ g1) (C8) Q (EC A)) (d l g1 (EC A)) (M w)
  .exact Vec.RX (us:=JI N.n) (c:=nmQ R N.pi) (by rw[o];exact y.vec (J _ g2) (C8) Q (EC A)) (d l g2 (EC A)) (M w)
  .exact (y.vec (J _ g3) C8 O (EC B)).rg (d l g3 (EC B))
  .exact (y.vec (J _ g4) C8 O (EC B)).rg (d l g4 (EC B))
 .exact ⟨by show(0:Int)<=256/\(256:Int)<=65536;omega,⟨CP.empty _,y.st _⟩,λk u h=>Xz h,⟨CP.empty _,y.st _⟩,λk u h=>Xz h⟩
 .show (0:Int)<=4096/\(4096:Int)<=4096;omega
 .show (0:Int)<=4096/\(4096:Int)<=4096;omega
 .show ((0:Nat):Int)<=4096;omega
 .exact List.Pairwise.nil
 .intro k m hm
  have:m∈N.sp.map (mpI R f):=Do hm
  obtain⟨j,_,rfl⟩:=Ab8.1 this
  exact⟨⟨CP.empty _,y.st _⟩,λq u h=>Xz h⟩
end

def nmX2:NmX:=⟨206,77,76,80,204,210,78,79,148,194,102,150,196,104,[(122,121),(144,143)],[(168,167),(190,189)],[208,209],⟨29,75,28,[⟨44,51,50,41,42⟩,⟨67,74,73,64,65⟩]⟩⟩
def nmX3:NmX:=⟨289,112,111,115,287,294,113,114,209,277,141,211,279,143,[(161,160),(183,182),(205,204)],[(229,228),(251,250),(273,272)],[291,292,293],⟨41,110,40,[⟨56,63,62,53,54⟩,⟨79,86,85,76,77⟩,⟨102,109,108,99,100⟩]⟩⟩
def nmS2:NmS:=⟨28,74,27,[⟨43,50,49,40,41⟩,⟨66,73,72,63,64⟩]⟩
def nmS3:NmS:=⟨40,109,39,[⟨55,62,61,52,53⟩,⟨78,85,84,75,76⟩,⟨101,108,107,98,99⟩]⟩
def AaH(g:Nat)(X:List (Nat×VO))(u:Vl)(H:Hp):Bool:=eqV u (.tuple #[ptV g,iI 0]) && (X.all (isE H) && (X.all (λp=>p.2.AeU) && Xx (X.map Prod.fst)))
def cf25(a b n:Nat):Vl:=.agg #[iI 65000,slV a n,slV b n,iI 20,iI 0,iI 0]
def okX(N:NmX)(_ u:Vl)(H:Hp):Bool:=AaH N.gx N.X u H
def okS(a b:Nat)(N:NmS)(v u:Vl)(H:Hp):Bool:=eqV v (cf25 a b N.ms.length) && AaH N.s N.X u H
def Abf:Vl->Vl
 | .agg a=>a.toList.getD 1 (.bool false)
 | v=>v
theorem run_x2:X2 10 9 [iI (2:Nat),iI 4096,iI 256] (λv=>[v]) (okX nmX2)=true:=by decide +kernel
theorem run_x3:X2 10 9 [iI (3:Nat),iI 4096,iI 256] (λv=>[v]) (okX nmX3)=true:=by decide +kernel
theorem run_s2:X2 10 15 [iI (2:Nat),iI 0,iI 0] (λv=>[iI 65000,Abf v,iI 20]) (okS 16 26 nmS2)=true:=by decide +kernel
theorem run_s3:X2 10 15 [iI (3:Nat),iI 0,iI 0] (λv=>[iI 65000,Abf v,iI 20]) (okS 28 38 nmS3)=true:=by decide +kernel
theorem x_new(h:A<=1):∃N:NmX,N.Ok/\N.n=2+A/\X2 10 9 [iI ((2+A:Nat):Int),iI 4096,iI 256] (λv=>[v]) (okX N)=true :=
 match A,h with
 | 0,_=>⟨nmX2,⟨.inl rfl,rfl,rfl,rfl⟩,rfl,run_x2⟩
 | 1,_=>⟨nmX3,⟨.inr rfl,rfl,rfl,rfl⟩,rfl,run_x3⟩
theorem s_new(h:A<=1):∃(a b:Nat) (N:NmS),N.ms.length=2+A/\X2 10 15 [iI ((2+A:Nat):Int),iI 0,iI 0] (λv=>[iI 65000,Abf v,iI 20]) (okS a b N)=true :=
 match A,h with
 | 0,_=>⟨16,26,nmS2,rfl,run_s2⟩
 | 1,_=>⟨28,38,nmS3,rfl,run_s3⟩
section
variable {R:Rn}{H:Hp}{L X:eL}{w0 w:Wd}{u u':Vl}
theorem VR.two(h:VR R (.tuple #[ptV A,iI 0]) u'):u'=.tuple #[.pointer (some ⟨nmA R A,0,none⟩),iI 0]:=by
 generalize b:Value.tuple #[ptV A,iI 0]=x at h
 cases h with
 | tuple a =>
  injection b with b
  obtain rfl:=If Array.toList b
  rw[a.renE U];rfl
 | plain c=>subst b;cases c
 | _=>cases b
theorem AaI(g:SR E0 w0 R H L)(j:VR R u u')(h:AaH A S u H=true)(i:St Fx w0 w (L++X)):
 u'=.tuple #[.pointer (some ⟨nmA R A,0,none⟩),iI 0]/\∃f tl,Ym R f tl S L/\St Fx w0 w (S.map (GY R f tl)++X):=by
 unfold AaH at h
 simp only[Hr] at h
 obtain⟨b,c,d,e⟩:=h
 obtain rfl:=NR _ _ b
 obtain⟨f,tl,a⟩:=g.lain c d e
 exact⟨j.two,f,tl,a,i.pick a⟩
theorem x_fin{N:NmX}(b:N.Ok)(g:SR E0 w0 R H L)(k:VR R u u'){v:Vl}(h:okX N v u H=true)(i:St Fx w0 w (L++X))(S:List PfL)(j:S.length<=5000):
 ∃x:SxL,u'=.tuple #[pG x.c.gx,iI 0]/\CQ x/\x.v.S=S/\x.c.n=N.n/\St Fx w0 w (x.all X):=by
 obtain⟨e,f,tl,d,a⟩:=AaI g k h i
 refine⟨SxL.ini R f tl N S,e,SxL.U7 b d S j,rfl,rfl,?_⟩
 rw[<- SxL.OA N b S X];exact a
theorem s_fin{N:NmS}(i:0<N.ms.length/\N.ms.length<=16)(c:SR E0 w0 R H L)(j:VR R u u'){v:Vl}(h:okS A D N v u H=true)(d:St Fx w0 w (L++X))(S:List PfL)(g:S.length<=5000):
 ∃x:Sv,u'=.tuple #[pG x.s,iI 0]/\x.Ok/\x.S=S/\x.ms.length=N.ms.length/\St Fx w0 w (x.AE++X):=by
 unfold okS at h
 rw[Hr] at h
 obtain⟨e,f,tl,b,a⟩:=AaI c j h.2 d
 refine⟨Sv.ini R f tl N S,e,Sv.U7 b N S g i,rfl,Mo _ _,?_⟩
 rw[<- Sv.OA N S];exact a
theorem s_side{N:NmS}{g:Vl}(h:okS A D N b u H=true)(e:VR R b g):∃d:vL,g=aA d/\d.length=6/\∃s,d[1]?=some s/\VR R (Abf b) s:=by
 unfold okS at h
 rw[Hr] at h
 obtain rfl:=NR _ _ h.1
 generalize a:cf25 A D N.ms.length=x at e
 cases e with
 | agg c =>
  unfold cf25 at a
  injection a with a
  obtain rfl:=If Array.toList a
  obtain⟨s,j,k⟩:=c.get (i:=1) U
  exact⟨_,rfl,c.length,s,j,k⟩
 | plain l=>subst a;cases l
 | _=>cases a
end
section Gq
attribute [local irreducible] WL WC WE WQ WP WH WR WM WRH

theorem Ui:∀n:Nat,n<511->((n ^^^ (n &&& 510))=0<->n % 2=0):=by
 set_option maxRecDepth 4000 in decide
theorem N9(l:I64 K):bits .andNot .i64 K 510=0<->0<=K/\K<=510/\K % 2=0:=by
 have e:bits .andNot .i64 K 510=IntKind.i64.wrap ((BitVec.ofInt 64 K &&& ~~~ BitVec.ofInt 64 510).toNat:Int):=rfl
 unfold I64 at l
 have k:BitVec.ofInt 64 K=BitVec.ofNat 64 (K % 18446744073709551616).toNat:=by
  apply BitVec.eq_of_toNat_eq
  rw[BitVec.toNat_ofInt,Ags]
  omega
 have j:(BitVec.ofInt 64 K &&& ~~~ BitVec.ofInt 64 510).toNat=(K % 18446744073709551616).toNat ^^^ ((K % 18446744073709551616).toNat &&& 510):=by
  rw[k]
  exact Sh (b:=510) W C8
 have a:(BitVec.ofInt 64 K &&& ~~~ BitVec.ofInt 64 510).toNat<2^64:=BitVec.isLt _
 rw[e,IntKind.wrap_i64]
 rw[j] at a ⊢
 generalize m:(K % 18446744073709551616).toNat=n at a ⊢
 have d:(n ^^^ (n &&& 510))=0<->n<=510/\n % 2=0:=by
  constructor
  .intro h
   have g:=VQ.1 h
   have c:n<=510:=by rw[g];exact Nat.and_le_right
   exact⟨c,(Ui n W).1 h⟩
  .rintro ⟨c,i⟩
   exact(Ui n W).2 i
 constructor
 .intro h
  have:=d.1 W
  omega
 .rintro ⟨g,c,i⟩
  have:=d.2 W
  omega
def YY(a:Int):Bool:=decide (0<=a/\a<=510/\a % 2=0)
def Ol(a:AtL)(k:Nat):Bool:=if hasB a.has k then LQ a k else KS a k
def XD:Int->List CS->Bool
 | _,[]=>true
 | a,o::b=>decide (a<o.ty/\o.ty<=255) && XD o.ty b
def S2(a:AtL):Bool:=YY a.has && ((List.range' 1 8).all (Ol a)) && XD 8 a.others
theorem IsT_c(w:Wd)(a:AtL)(k:Nat)(hk:k<=60)(h:hasB a.has k=true):Cl 83 #[aA a.cells,iI k] w (RvF (.bool true) w):=by
 rw[<- h];exact Is_c w a k hk
theorem IsF_c(w:Wd)(a:AtL)(k:Nat)(hk:k<=60)(h:hasB a.has k=false):Cl 83 #[aA a.cells,iI k] w (RvF (.bool false) w):=by
 rw[<- h];exact Is_c w a k hk
theorem WA{a:AtL}{k:Nat}(b:1<=k)(c:k<=8)(h:Ol a k=false):S2 a=false:=by
 unfold S2
 rw[OQ (xs:=List.range' 1 8) (j:=k-1) (x:=k) (by rw[List.getElem?_range' (W)];congr 1;omega) h,Bool.and_false,Bool.false_and]
theorem Agf(w:Wd)(a:AtL)(J:a.At w)(t:a.In):Cl 34 #[aA a.cells] w (RvF (iI (if S2 a then 0 else 1)) w):=by
 refine en0 func34 U ntmps34 U<|J2 ?_
 refine zx U U U U U<|λG hg1=>J8 ?_
 refine zV (HO U U U (show _=bits .andNot .i64 a.has 510 from rfl)) U<|JT (λg=>?_) (λg=>?_)
 refine J10 ?_
 refine eT1 ?_
 exact λr h=>⟨by
 have hk:YY a.has=false:=Ro λh=>g ((N9 t.has).2 h)
 unfold S2;rw[hk,Bool.false_and,Bool.false_and];rfl,h.frm⟩
 refine J12 ?_
 refine oLp (λk:Nat=>[(3,iI k),(1,pG G)]) (λ_=>[.row G a.cells]) (λk=>1<=k/\k<=9/\∀j,1<=j->j<k->Ol a j=true) (λk=>9-k) 1 ⟨M2 _,W,λj s z=>absurd z W⟩ ?_
 rintro k ⟨hk1,hk9,d⟩
 refine J4 ?_
 refine JT (λy=>?_) λy=>?_
 refine J11 ?_
 refine zk CkO U (λw n=>Is_c w a k W) ?_
 generalize m:hasB a.has k=S
 cases S
 refine J9 ?_
 refine zk CkO U (λw n=>IsF_c w a k W m)<|J4 ?_
 refine zk CkO U (λw n=>zero_c w a k) ?_
 generalize O:KS a k=Z
 cases Z
 refine J17 ?_
 refine eT1 ?_
 exact λr h=>⟨by rw[WA (k:=k) W W (by unfold Ol;rw[m];exact O)];rfl,h.frm⟩
 refine J14 ?_
 exact eW (k+1) W ⟨W,W,λj s z=>by
 by_cases e:j=k
 .subst e;unfold Ol;rw[m];exact O
 .exact d j s W⟩
 refine J3 ?_
 refine zk CkO U (λw n=>good_c w a k (J.st n) t) ?_
 generalize K:LQ a k=T
 cases T
 refine J28 ?_
 refine eT1 ?_
 exact λr h=>⟨by rw[WA (k:=k) W W (by unfold Ol;rw[m];exact K)];rfl,h.frm⟩
 refine J5 ?_
 refine zk CkO U (λw n=>IsT_c w a k W m)<|J19 ?_
 exact eW (k+1) W ⟨W,W,λj s z=>by
 by_cases e:j=k
 .subst e;unfold Ol;rw[m];exact K
 .exact d j s W⟩
 refine J23 ?_
 refine oLp (λx:Nat×Int=>[(39,iI x.1),(38,iI a.others.length),(37,.slice a.oad a.others.length a.oc),(4,iI x.2)]) (λ_=>[]) (λx=>x.1<=a.others.length/\XD 8 a.others=XD x.2 (a.others.drop x.1)) (λx=>a.others.length-x.1) (0,8) ⟨Lv _,rfl⟩ ?_
 rintro⟨i,Q⟩ ⟨hi,F⟩
 dsimp only at hi F⊢
 have c:S2 a=XD 8 a.others:=by
  have e1:YY a.has=true:=UV ((N9 t.has).1 (Decidable.not_not.1 g))
  have e2:(List.range' 1 8).all (Ol a)=true:=Acw.2 λx hx=>by
   have:=List.mem_range'_1.1 hx
   exact d x W W
  unfold S2;rw[e1,e2];rfl
 rw[F] at c
 refine J2 ?_
 refine JT (λA=>?_) λA=>?_
 refine J10 ?_
 obtain⟨o,N⟩:∃o,a.others[i]?=some o:=Gx
 obtain⟨b,q,ea,hr⟩:=J.oths i o N
 have l:a.others.drop i=o::a.others.drop (i+1):=by
  obtain⟨D,e⟩:=Eu.1 N
  rw[<- e];exact List.drop_eq_getElem_cons D
 have M:=t.lens.2.2
 refine zV ((AA (b:=b) (off:=q) (lo:=i) U (by show some (Value.slice a.oad _ _)=_;rw[ea]) U underlying35 ME U W)) U ?_
 refine zV ((AB (cs:=o.cells) U U Aen.h U (DP (λh=>h) hr))) U<|zy U MO U U<|?_
 intro g6 hg6
 refine J9 ?_
 refine JT (λB=>?_) λB=>?_
 refine J20 ?_
 refine eT1 ?_
 exact λr h=>⟨by
 rw[c,l]
 show _=Ending.returned (iI (if (decide _ && XD o.ty _)=true then 0 else 1))
 rw[Ro W,Bool.false_and];rfl,h.frm⟩
 refine J3 ?_
 refine JT (λC=>?_) λC=>?_
 refine J16 ?_
 refine eT1 ?_
 exact λr h=>⟨by
 rw[c,l]
 show _=Ending.returned (iI (if (decide _ && XD o.ty _)=true then 0 else 1))
 rw[Ro W,Bool.false_and];rfl,h.frm⟩
 refine J17 ?_
 exact eW (i+1,o.ty) C7 ⟨C7,by
 dsimp only
 rw[F,l]
 show(decide _ && XD o.ty _)=_
 rw[UV ⟨W,W⟩,Bool.true_and]⟩
 refine J15 ?_
 refine eT1 ?_
 exact λr h=>⟨by
 obtain rfl:i=a.others.length:=W
 rw[c,Ah9];rfl,h.frm⟩

structure SdL where
 k:Int
 n:Int
 to:Int
 on:Bool
 m:MsL
 a:Nd
 b:Nd
def SdL.tail(y:SdL):vL:=y.m.cells++(ndL y.a++ndL y.b)
def SdL.cells(y:SdL):vL:=iI y.k::iI y.n::iI y.to::.bool y.on::y.tail
theorem SdL.len(y:SdL):y.cells.length=34:=rfl
structure SdL.At(w:Wd)(y:SdL):Prop where
 m:y.m.At w
 a:y.a.At w
 b:y.b.At w
structure SdL.In(y:SdL):Prop where
 n:I64 y.n
 to:I64 y.to
 m:y.m.In
 a:y.a.In
 b:y.b.In
 vals:∀o∈y.m.atr.others,o.val.length<=140737488355328
theorem SdL.At.st{w d:Wd}{L:eL}{y:SdL}(h:y.At w)(c:St Fx w d L):y.At d:=⟨h.m.st c,h.a.st (λ_ h=>h) c,h.b.st (λ_ h=>h) c⟩
structure SdL.Fit(y:SdL):Prop where
 nb:Y8 y.a y.b
 gone:y.m.gone.length<=12
 nets:y.m.nets.length<=12
 zs:y.m.atr.Zs
theorem AdR{a:AtL}(h:S2 a=true):∀s∈a.path,s.asl.length<=255:=λs d=>by
 unfold S2 at h
 rw[Hr,Hr,Acw] at h
 have b:=h.1.2 2 C8
 unfold Ol at b
 split at b
 .have c:a.path.all XN=true:=b
  rw[Acw] at c
  have:=c s d
  unfold XN at this
  simp at this
  omega
 .have c:decide ((a.path.length:Int)=0)=true:=b
  have:=Ai8 c
  have e:=List.length_pos_of_mem d
  omega
theorem bigS_c(w:Wd)(y:SdL)(q:y.At w)(j:y.In)(G:GW w):Cl 8 #[aA y.cells] w λe w'=>(∃c:Bool,e=.returned (.bool c)/\(c=false->y.Fit))/\Frm Fx w w':=by
 obtain⟨O,Q,S⟩:=j.m.at_.lens
 obtain⟨T,Z,l6,_⟩:=j.m.lens
 refine en0 func8 U ntmps8 U<|J2 ?_
 refine zx U U U U U<|λo K=>J6 ?_
 refine zV (AB U U i41m.h U (AT (g:=o) (m:=20) (new:=y.m.cells) U)) U<|zy U i41z.h U U<|?_
 intro n M
 refine J7 ?_
 refine zV (An U U RP.h (cellAt (g:=n) (v:=.slice y.m.gad y.m.gone.length y.m.gc) U)) U<|J1 ?_
 refine JT (λr=>?_) λr=>?_
 refine J30 ?_
 refine J25 ?_
 exact Ax
 refine J2 ?_
 refine zS (An U U RP.h (cellAt (g:=n) (v:=.slice y.m.nad y.m.nets.length y.m.nc) U)) U<|J1 ?_
 refine JT (λt=>?_) λt=>?_
 refine J30 ?_
 refine J20 ?_
 exact Ax
 refine J4 ?_
 refine zS (An U U i33o.h (cellAt (g:=n) (v:=.slice y.m.atr.pad y.m.atr.path.length y.m.atr.pc) U)) U<|J1 ?_
 refine JT (λz=>?_) λz=>?_
 refine J30 ?_
 refine J13 ?_
 exact Ax
 refine J4 ?_
 refine zS (An U U S3.h (cellAt (g:=n) (v:=.slice y.m.atr.cad y.m.atr.comms.length y.m.atr.cc) U)) U<|J1 ?_
 refine JT (λA=>?_) λA=>?_
 refine J30 ?_
 refine J6 ?_
 exact Ax
 refine J4 ?_
 refine zS (An U U i35o.h (cellAt (g:=n) (v:=.slice y.m.atr.oad y.m.atr.others.length y.m.atr.oc) U)) U<|J1 ?_
 refine JT (λB=>?_) λB=>?_
 refine J29 ?_
 exact Ax
 refine J3 ?_
 refine zS (AB U U JZ.h U (AT (g:=n) (m:=10) (new:=y.m.atr.cells) U)) U<|zk CkO U (λw i=>Agf w y.m.atr (q.m.at_.st i) j.m.at_)<|?_
 refine JT (λl=>?_) λl=>?_
 refine J23 ?_
 exact Ax
 refine J3 ?_
 refine zS (AB U U H5.h U (AT (g:=o) (m:=5) (new:=ndL y.a) U)) U<|zk CkO U (λw i=>Pp _ y.a (M2 _) w 30 j.a (q.a.st (λ_ h=>h) i) W W)<|JT (λC=>?_) (λC=>?_)
 refine J17 ?_
 exact Ax
 refine J3 ?_
 refine zS (AB U U H5.h U (AT (g:=o) (m:=5) (new:=ndL y.b) U)) U<|zk CkO U (λw i=>Pp _ y.b (M2 _) w 30 j.b (q.b.st (λ_ h=>h) i) W W)<|JT (λD=>?_) (λD=>?_)
 refine J11 ?_
 exact Ax
 refine J9 ?_
 refine zV (AB U U H5.h U (AT (g:=o) (m:=5) (new:=ndL y.a) U)) U ?_
 have F:S2 y.m.atr=true:=(by
  cases J:S2 y.m.atr
  .rw [J] at l;exact absurd l C8
  .rfl)
 have d:y.m.atr.Zs:=⟨W,W,W,λs N=>by have:=AdR F s N;omega,j.vals⟩
 refine zk CkO U (λw i=>Q6 w y.a j.a (q.a.st (λ_ h=>h) i) (G.BI (λh=>h) i))<|J12 ?_
 refine zV (AB U U H5.h U (AT (g:=o) (m:=5) (new:=ndL y.b) U)) U<|zk CkO U (λw i=>Q6 w y.b j.b (q.b.st (λ_ h=>h) i) (G.BI (λh=>h) i))<|?_
 refine J12 ?_
 refine JT (λh76=>?_) λh76=>?_
 refine J2 ?_
 refine JT (λh79=>?_) λh79=>?_
 refine J13 ?_
 refine eT1 ?_
 first|exact λw' h=>⟨⟨true,rfl,λk=>Eb⟩,h.frm⟩|exact λw' h=>⟨⟨false,rfl,λ_=>⟨⟨W,W,λk=>Dh,λk=>Dg⟩,W,W,d⟩⟩,h.frm⟩
 refine J3 ?_
 refine JT (λh83=>?_) λh83=>?_
 refine J2 ?_
 refine JT (λh86=>?_) λh86=>?_
 refine J6 ?_
 refine eT1 ?_
 first|exact λw' h=>⟨⟨true,rfl,λk=>Eb⟩,h.frm⟩|exact λw' h=>⟨⟨false,rfl,λ_=>⟨⟨W,W,λk=>Dh,λk=>Dg⟩,W,W,d⟩⟩,h.frm⟩
 refine J6 ?_
 refine eT1 ?_
 first|exact λw' h=>⟨⟨true,rfl,λk=>Eb⟩,h.frm⟩|exact λw' h=>⟨⟨false,rfl,λ_=>⟨⟨W,W,λk=>Dh,λk=>Dg⟩,W,W,d⟩⟩,h.frm⟩
 refine J9 ?_
 refine eT1 ?_
 first|exact λw' h=>⟨⟨true,rfl,λk=>Eb⟩,h.frm⟩|exact λw' h=>⟨⟨false,rfl,λ_=>⟨⟨W,W,λk=>Dh,λk=>Dg⟩,W,W,d⟩⟩,h.frm⟩
 refine J6 ?_
 refine JT (λh83=>?_) λh83=>?_
 refine J2 ?_
 refine JT (λh86=>?_) λh86=>?_
 refine J6 ?_
 refine eT1 ?_
 first|exact λw' h=>⟨⟨true,rfl,λk=>Eb⟩,h.frm⟩|exact λw' h=>⟨⟨false,rfl,λ_=>⟨⟨W,W,λk=>Dh,λk=>Dg⟩,W,W,d⟩⟩,h.frm⟩
 refine J6 ?_
 refine eT1 ?_
 first|exact λw' h=>⟨⟨true,rfl,λk=>Eb⟩,h.frm⟩|exact λw' h=>⟨⟨false,rfl,λ_=>⟨⟨W,W,λk=>Dh,λk=>Dg⟩,W,W,d⟩⟩,h.frm⟩
 refine J9 ?_
 refine eT1 ?_
 first|exact λw' h=>⟨⟨true,rfl,λk=>Eb⟩,h.frm⟩|exact λw' h=>⟨⟨false,rfl,λ_=>⟨⟨W,W,λk=>Dh,λk=>Dg⟩,W,W,d⟩⟩,h.frm⟩

structure SvTo(v v':Sv):Prop where
 ok:v'.Ok
 s:v'.s=v.s
 n:v'.ms.length=v.ms.length
 S:v'.S=v.S
def StpS(w0 b:Wd)(v:Sv)(L:eL)(e:Ending):Prop:=∃(r:Int) (a:Sv),e=.returned (iI r)/\SvTo v a/\St Fx w0 b (a.AE++L)
def StpT(w0 b:Wd)(v:Sv)(L:eL)(e:Ending):Prop:=∃(u:Vl) (r:Int) (a:Sv),e=.returned (.tuple #[u,iI r])/\SvTo v a/\St Fx w0 b (a.AE++L)
theorem SvTo.refl{v:Sv}(h:v.Ok):SvTo v v:=⟨h,rfl,rfl,rfl⟩
theorem GH.to{v a:Sv}{f:Nat->Bool->Bool}(h:GH v a f):SvTo v a:=⟨h.ok,h.s,h.len,h.S⟩
theorem St.dropM{L:eL}(h:St Fx B G (C++(Q++L))):St Fx B G (C++L):=h.sub ((Ai9 Q L).append_left C)
section
variable {w0 w1:Wd}{v:Sv}{x:SxL}{L:eL}
theorem TU{l:List d}(h:0<=K/\K<(l.length:Int)):∃(n:Nat) (m:d),K=(n:Int)/\l[n]?=some m :=
 ⟨K.toNat,l[K.toNat]' W,W,FS _⟩
theorem Ag8(b:v.Ok)(k:Int)(d:St Fx w0 w1 (v.AE++L)):Cl 50 #[pG v.s,iI k] w1 λe c=>StpS w0 c v L e:=by
 by_cases hk:0<=k/\k<(v.ms.length:Int)
 .obtain ⟨n,m,rfl,g⟩:=TU hk
  refine(UA _ w0 w1 v n m L b g d).mono ?_
  rintro e c (⟨_,rfl,h⟩|⟨_,i,rfl,a,h⟩)
  .exact ⟨5,v,rfl,.refl b,h⟩
  .exact ⟨0,i,rfl,⟨a.ok,a.s,a.len,a.S⟩,h⟩
 .refine (We _ w0 w1 v k L b hk d).mono ?_
  rintro e c ⟨rfl,h⟩
  exact⟨1,v,rfl,.refl b,h⟩
theorem AeF(a:v.Ok)(k:Int)(d:St Fx w0 w1 (v.AE++L)):Cl 51 #[pG v.s,iI k] w1 λe b=>StpT w0 b v L e:=by
 by_cases hk:0<=k/\k<(v.ms.length:Int)
 .obtain ⟨n,m,rfl,i⟩:=TU hk
  refine(Q4 _ w0 w1 v n m L a i d).mono ?_
  rintro e b (⟨_,rfl,h⟩|⟨_,j,o,l,c,E,rfl,_,_,_,_,g,h⟩)
  .exact ⟨_,4,v,rfl,.refl a,h⟩
  .exact ⟨_,0,j,rfl,g.to,h.dropM⟩
 .refine (Te _ w0 w1 v k L a hk d).mono ?_
  rintro e b ⟨rfl,h⟩
  exact⟨_,1,v,rfl,.refl a,h⟩
theorem AdK(a:v.Ok)(f t:Int)(b:Bool)(g:St Fx w0 w1 (v.AE++L)):Cl 53 #[pG v.s,iI f,iI t,.bool b] w1 λe d=>StpS w0 d v L e:=by
 by_cases hk:(0<=f/\f<(v.ms.length:Int))/\(0<=t/\t<(v.ms.length:Int))
 .obtain ⟨n,m,rfl,j⟩:=TU hk.1
  obtain⟨n2,k,rfl,c⟩:=TU hk.2
  refine(Wc _ w0 w1 v n n2 m k b L a j c g).mono ?_
  rintro e d ⟨l,rfl,i,h⟩
  exact⟨0,l,rfl,i.to,h⟩
 .refine (Td _ w0 w1 v f t b L a hk g).mono ?_
  rintro e d ⟨rfl,h⟩
  exact⟨1,v,rfl,.refl a,h⟩
theorem Afx{y:MsL}(h:y.At w0):Stb Fx w0 (λw=>y.At w):=λ_ c=>h.frm λb o a d=>Frm.range c b o a d
structure MsIn(S:List PfL)(m:MsL):Prop where
 zs:m.atr.Zs
 u:(∀p∈m.gone,U32 p.addr)/\∀p∈m.nets,U32 p.addr
 len:m.gone.length<=1000/\m.nets.length<=1000
 gone:∀p∈m.gone,p∈S
 nets:∀p∈m.nets,p∈S
theorem AcE(b:v.Ok)(k:Int)(m:MsL)(j:m.At w0)(a:MsIn v.S m)(i:St Fx w0 w1 (v.AE++L)):Cl 52 #[pG v.s,iI k,aA m.cells] w1 λe g=>StpT w0 g v L e:=by
 by_cases hk:0<=k/\k<(v.ms.length:Int)
 .obtain ⟨n,o,rfl,d⟩:=TU hk
  refine(Tf _ w0 w1 v n o m L b d (Afx j) a.zs a.u a.len a.gone a.nets i).mono ?_
  rintro e g ⟨r,p,t,q,c,E,rfl,_,_,_,_,l,h⟩
  exact⟨_,r,p,rfl,l.to,h.dropM⟩
 .refine (Q5 _ w0 w1 v k m L b hk i).mono ?_
  rintro e g ⟨rfl,h⟩
  exact⟨_,1,v,rfl,.refl b,h⟩
theorem mbAt(a:CQ x){k:Int}(h:0<=k/\k<(x.c.n:Int)):∃(n:Nat) (m:Mb),k=(n:Int)/\x.v.ms[n]?=some m:=TU (by rw[a.n.2];exact h)
theorem Ag9(a:CQ x)(g:GW w0)(k:Int)(d:St Fx w0 w1 (x.all L)):Cl 19 #[pG x.c.gx,iI k] w1 λe b=>Qv w0 b x L e:=by
 by_cases hk:0<=k/\k<(x.c.n:Int)
 .obtain ⟨n,m,rfl,j⟩:=mbAt a hk
  refine(AcZ w0 w1 x n m L a j g d).mono ?_
  rintro e b (⟨_,rfl,h⟩|⟨_,r,l,rfl,i,h⟩)
  .exact ⟨5,x,rfl,.refl a,h⟩
  .exact ⟨r,l,rfl,i.to,h⟩
 .refine (Agn w0 w1 x k L a hk d).mono ?_
  rintro e b ⟨rfl,h⟩
  exact⟨1,x,rfl,.refl a,h⟩
theorem AeG(a:CQ x)(g:GW w0)(k:Int)(d:St Fx w0 w1 (x.all L)):Cl 18 #[pG x.c.gx,iI k] w1 λe b=>Qv w0 b x L e:=by
 by_cases hk:0<=k/\k<(x.c.n:Int)
 .obtain ⟨n,m,rfl,j⟩:=mbAt a hk
  refine(Z1 w0 w1 x n m L a j g d).mono ?_
  rintro e b ⟨r,l,rfl,i,_,h⟩
  exact⟨r,l,rfl,i,h⟩
 .refine (Ac0 w0 w1 x k L a hk d).mono ?_
  rintro e b ⟨rfl,h⟩
  exact⟨1,x,rfl,.refl a,h⟩
theorem AdM(a:CQ x)(h:GW w0)(f t:Int)(b:Bool)(g:St Fx w0 w1 (x.all L)):Cl 26 #[pG x.c.gx,iI f,iI t,.bool b] w1 λe k=>Qv w0 k x L e:=by
 by_cases hk:(0<=f/\f<(x.c.n:Int))/\(0<=t/\t<(x.c.n:Int))
 .obtain ⟨n,m,rfl,i⟩:=mbAt a hk.1
  obtain⟨n2,j,rfl,d⟩:=mbAt a hk.2
  exact Ado w0 w1 x n n2 m j b L a i d h g
 .exact AbR w0 w1 x f t b L a hk g
theorem AcF(b:CQ x)(i:GW w0)(k:Int)(m:MsL)(h:m.At w0)(a:MsIn x.v.S m)(g:St Fx w0 w1 (x.all L)):Cl 25 #[pG x.c.gx,iI k,aA m.cells] w1 λe l=>Qv w0 l x L e:=by
 by_cases hk:0<=k/\k<(x.c.n:Int)
 .obtain ⟨n,j,rfl,d⟩:=mbAt b hk
  exact AbS w0 w1 x n j m L b d (Afx h) a.zs a.u a.len a.gone a.nets i g
 .exact Yw w0 w1 x k m L b hk g
theorem polX_c(d:CQ x)(l:GW w0)(k:Int)(a b:Nd)(m:a.In)(o:b.In)(i:a.At w0)(j:b.At w0)(q:Lt a)(r:Lt b)(g:St Fx w0 w1 (x.all L)):Cl 12 #[pG x.c.gx,iI k,ndV a,ndV b] w1 λe s=>Qv w0 s x L e:=by
 by_cases hk:0<=k/\k<(x.c.n:Int)
 .obtain ⟨n,rfl⟩:∃n:Nat,k=(n:Int):=⟨k.toNat,W⟩
  exact Adc w0 w1 x n a b L d W m o i j q r l g
 .exact AbL w0 w1 x k a b L d hk g
theorem lta(h:Y8 M N):Lt M:=λk _ _=>by have:=h.2.2.1 k;omega
theorem ltb(h:Y8 M N):Lt N:=λk _ _=>by have:=h.2.2.2 k;omega
theorem SdL.Fit.ms{y:SdL}(h:y.Fit)(b:y.In){S:List PfL}(c:∀p∈y.m.gone,p∈S)(d:∀p∈y.m.nets,p∈S):MsIn S y.m :=
 ⟨h.zs,⟨λp a=>(b.m.gone p a).1,λp a=>(b.m.nets p a).1⟩,⟨by have:=h.gone;omega,by have:=h.nets;omega⟩,c,d⟩
end
theorem SxL.sw(h:St Fx B G (Z::T.all (C++Q))):St Fx B G (C++(Z::T.all Q)):=by
 rw[SxL.all_eq] at h ⊢
 exact h.AJ
theorem SxL.ws(h:St Fx B G (C++(Z::T.all Q))):St Fx B G (Z::T.all (C++Q)):=by
 rw[SxL.all_eq] at h ⊢
 exact h.AJ
theorem SxL.in1{w0 w:Wd}{x:SxL}{e:Ent}{L:eL}(h:St Fx w0 w (e::x.all L)):St Fx w0 w (x.all (e::L)):=SxL.GI (Z:=[e]) h
theorem SxL.out1{w0 w:Wd}{x:SxL}{e:Ent}{L:eL}(h:St Fx w0 w (x.all (e::L))):St Fx w0 w (e::x.all L):=SxL.MW (Z:=[e]) h
structure RunP(x x':SxL)(v v':Sv):Prop where
 x:XTo x x'
 v:SvTo v v'
theorem AhQ(w0 w1:Wd)(x:SxL)(v:Sv)(y:SdL)(L:eL)(j:CQ x)(hV:v.Ok)(q:y.At w0)(F:y.In)(D:y.Fit)(M:∀p∈y.m.gone,p∈x.v.S)(N:∀p∈y.m.nets,p∈x.v.S)(K:v.S=x.v.S)(l:GW w0)(G:St Fx w0 w1 (x.all (v.AE++L))):
 Cl 16 #[pG x.c.gx,pG v.s,aA y.cells] w1 λe w'=>∃(u:Vl) (x':SxL) (v':Sv),e=.returned u/\RunP x x' v v'/\St Fx w0 w' (x'.all (v'.AE++L)):=by
 have o:MsIn x.v.S y.m:=D.ms F M N
 have J:MsIn v.S y.m:=by rw[K];exact o
 refine enter func16 U ntmps16 U G<|J2 ?_
 refine zx U U U U U<|λg5 O=>J8 ?_
 refine zV (An U U i3o.h (cellAt (g:=g5) (v:=iI y.k) U)) U<|J5 ?_
 refine zV (Ae U U U) U<|J3 ?_
 refine WC.Le U (λr=>?_) λr=>?_
 refine J1 ?_
 refine WC.held ([.row g5 y.cells]) mixed<|WRH.first (g:=4) [0,1,2,4,5,6] C6 C6 kp<|J6 ?_
 refine WH.nil<|WRH.one (g:=3) 3 C6<|zK CkO U<|λi d=>(Ag9 j l y.n (L:=.row g5 y.cells::(v.AE++L)) (SxL.in1 d)).mono ?_
 rintro e w' ⟨Q,x',rfl,hX,hS'⟩
 refine⟨_,.row g5 y.cells::x'.all (v.AE++L),rfl,SxL.out1 hS',?_⟩
 refine WL.BL kp<|WRH.one (g:=2) 7 C6<|zK CkO U<|λi d=>(Ag8 hV y.n (L:=.row g5 y.cells::x'.all L) (SxL.sw d)).mono ?_
 rintro e w' ⟨T,v',rfl,hY,hS'⟩
 refine⟨_,.row g5 y.cells::x'.all (v'.AE++L),rfl,SxL.ws hS',?_⟩
 refine WL.BL kp<|WRH.first (g:=0) [8,9] C6 C6 kp ?_
 exact C2
 refine J2 ?_
 refine zV (Ae U U U) U<|J3 ?_
 refine WC.Le U (λt=>?_) λt=>?_
 refine J5 ?_
 refine zK CkO U<|λi d=>(AeF hV y.n (L:=.row g5 y.cells::x.all L) (SxL.sw d)).mono ?_
 rintro e w' ⟨u,Z,v',rfl,hY,hS'⟩
 refine⟨_,.row g5 y.cells::x.all (v'.AE++L),rfl,SxL.ws hS',?_⟩
 refine J12 ?_
 refine zK CkO U<|λi d=>(AeG j l y.n (L:=.row g5 y.cells::(v'.AE++L)) (SxL.in1 d)).mono ?_
 rintro e w' ⟨aa,x',rfl,hX,hS'⟩
 exact C0
 refine J2 ?_
 refine zV (Ae U U U) U<|J3 ?_
 refine WC.Le U (λz=>?_) λz=>?_
 refine J6 ?_
 refine zV (AB U U i41m.h U (AT (g:=g5) (m:=20) (new:=y.m.cells) U)) U<|zK CkO U<|?_
 intro i d
 refine(AcE hV y.n y.m q.m J (L:=.row g5 y.cells::x.all L) (SxL.sw d)).mono ?_
 rintro e w' ⟨u,ab,v',rfl,hY,hS'⟩
 refine⟨_,.row g5 y.cells::x.all (v'.AE++L),rfl,SxL.ws hS',?_⟩
 refine J13 ?_
 refine zV (AB U U i41m.h U (AT (g:=g5) (m:=20) (new:=y.m.cells) U)) U<|zK CkO U<|?_
 intro i d
 refine(AcF j l y.n y.m q.m o (L:=.row g5 y.cells::(v'.AE++L)) (SxL.in1 d)).mono ?_
 rintro e w' ⟨ac,x',rfl,hX,hS'⟩
 exact C0
 refine J2 ?_
 refine zV (Ae U U U) U<|J3 ?_
 refine WC.Le U (λA=>?_) λA=>?_
 refine J1 ?_
 refine WC.held ([.row g5 y.cells]) mixed<|WRH.first (g:=4) [0,1,2,3,4,5,6,8,9,10,11,12,13,14] C6 C6 kp<|J14 ?_
 refine WH.nil<|WRH.one (g:=3) 7 C6<|zK CkO U<|λi d=>(AdM j l y.n y.to y.on (L:=.row g5 y.cells::(v.AE++L)) (SxL.in1 d)).mono ?_
 rintro e w' ⟨ad,x',rfl,hX,hS'⟩
 refine⟨_,.row g5 y.cells::x'.all (v.AE++L),rfl,SxL.out1 hS',?_⟩
 refine WL.BL kp<|WRH.one (g:=2) 15 C6<|zK CkO U<|λi d=>(AdK hV y.n y.to y.on (L:=.row g5 y.cells::x'.all L) (SxL.sw d)).mono ?_
 rintro e w' ⟨ae,v',rfl,hY,hS'⟩
 refine⟨_,.row g5 y.cells::x'.all (v'.AE++L),rfl,SxL.ws hS',?_⟩
 refine WL.BL kp<|WRH.first (g:=0) [16,17] C6 C6 kp ?_
 exact C2
 refine J2 ?_
 refine zV (Ae U U U) U<|J3 ?_
 refine WC.Le U (λB=>?_) λB=>?_
 refine J6 ?_
 refine zV (AB U U H5.h U (AT (g:=g5) (m:=5) (new:=ndL y.a) U)) U<|J1 ?_
 refine zV (AB U U H5.h U (AT (g:=g5) (m:=5) (new:=ndL y.b) U)) U<|zK CkO U<|?_
 intro i d
 refine(polX_c j l y.n y.a y.b F.a F.b q.a q.b (lta D.nb) (ltb D.nb) (L:=.row g5 y.cells::(v.AE++L)) (SxL.in1 d)).mono ?_
 rintro e w' ⟨af,x',rfl,hX,hS'⟩
 exact Bp
 refine J2 ?_
 refine zV (Ae U U U) U<|J3 ?_
 refine WC.Le U (λC=>?_) λC=>?_
 refine J3 ?_
 refine zK CkO U<|λi d=>(Wb w0 i x (.row g5 y.cells::(v.AE++L)) j l (SxL.in1 d)).mono ?_
 rintro e w' ⟨ag,x',rfl,hX,hS'⟩
 exact Bp
 refine J10 ?_
 refine eT2 ?_
 exact λw' h=>⟨_,x,v,rfl,⟨.refl j,.refl hV⟩,h.tail⟩

def ihl(f:Nat->Int):Int:=f 14 % 16*4

end Gq

def hk(x y:Int)(i:Nat):Int:=if i=12 then x else if i=13 then y else 0
section Gq
attribute [local irreducible] WL WC WE WQ WP WH WR WM WRH

structure Ak where
 ans:Bool
 mac:Nat->Int
 ip:Int
 tmac:Nat->Int
 tip:Int
def akCells(A:Ak):vL:=[.bool A.ans,.int .u8 (A.mac 0),.int .u8 (A.mac 1),.int .u8 (A.mac 2),.int .u8 (A.mac 3),.int .u8 (A.mac 4),.int .u8 (A.mac 5),.int .u32 A.ip,
 .int .u8 (A.tmac 0),.int .u8 (A.tmac 1),.int .u8 (A.tmac 2),.int .u8 (A.tmac 3),.int .u8 (A.tmac 4),.int .u8 (A.tmac 5),.int .u32 A.tip]
def Ak.zero:Ak:=⟨false,λ_=>0,0,λ_=>0,0⟩
def akOf(f:Nat->Int):Ak:=⟨decide (f 21=2),λi=>f (22+i),four f 28,λi=>f (32+i),four f 38⟩
def AdA(f:Nat->Int):Prop:=(str (λi=>f (14+i)) 7).toList=(ByteArray.mk #[0,1,8,0,6,4,0]).toList
def ArpR(f:Nat->Int)(n:Nat)(b:Int)(A:Ak)(a:Int):Prop :=
 (b≠2054/\a=12/\A=Ak.zero)\/(b=2054/\n<42/\a=10/\A=Ak.zero) \/
 (b=2054/\42<=n/\(¬AdA f\/(f 21≠1/\f 21≠2))/\a=2/\A=Ak.zero)\/(b=2054/\42<=n/\AdA f/\(f 21=1\/f 21=2)/\a=0/\A=akOf f)

def AgL(f:Nat->Int):Bool:=decide ((str (λi=>f (14+i)) 7).toList=(ByteArray.mk #[0,1,8,0,6,4,0]).toList)
def arpErr(f:Nat->Int)(n:Nat)(a:Int):Int:=if a≠2054 then 12 else if n<42 then 10 else if AgL f=false\/(f 21≠1/\f 21≠2) then 2 else 0

/-! ### Bytes that read as a function says, of which some are written anew -/

end Gq

section
variable {P:Program}{w:Wd}

def Kh(P:Program)(t:TypeId)(a:DataW d):Prop:=∀n∈a.weights P t,n<=reachBytes
def Tree(P:Program)(w:Wd)(t:TypeId)(b:vL):Prop:=∃(H:Type) (a:TypeId×Vl->H) (m:Nat) (x:DataW H×List MemPlace),DataW.trod a P w 0 (λ_=>true) true m t b=some x/\Kh P t x.1
def Arg(P:Program)(w:Wd)(t:TypeId)(v:Vl):Prop:=(∃a,Value.okWide P w .any a t v)/\Tree P w t v.cells.toList

theorem Tree.step{t:TypeId}(h:Tree P w t F):∃(H:Type) (a:TypeId×Vl->H) (m:Nat) (x:DataW H×List MemPlace),DataW.trodStep a P w 0 (λ_=>true) true (DataW.trod a P w 0 (λ_=>true) true m) t F=some x/\Kh P t x.1:=by
 obtain⟨H,a,m,x,b,c⟩:=h
 cases m with
 | zero=>simp[DataW.trod] at b
 | succ m=>exact⟨H,a,m,x,b,c⟩
theorem Tree.int{t:TypeId}{k:IntKind}{x:Vl}(c:P.underlying t=some (.int k))(h:Tree P w t [x]):∃n,x=.int k n/\(Lit.int k n).wf=true:=by
 obtain⟨H,b,m,y,a,e⟩:=h.step
 unfold DataW.trodStep at a
 simp only[c] at a
 cases x<;>simp at a
 obtain⟨⟨rfl,d⟩,_⟩:=a
 exact⟨_,rfl,d⟩
theorem Tree.bool{t:TypeId}{x:Vl}(d:P.underlying t=some .bool)(h:Tree P w t [x]):∃b,x=.bool b:=by
 obtain⟨H,c,m,y,a,e⟩:=h.step
 unfold DataW.trodStep at a
 simp only[d] at a
 cases x<;>simp at a
 exact⟨_,rfl⟩
theorem Tree.string{t:TypeId}{x:Vl}(c:P.underlying t=some .string)(h:Tree P w t [x]):∃s,x=.string s/\s.size<=maxLen:=by
 obtain⟨H,b,m,y,a,d⟩:=h.step
 unfold DataW.trodStep at a
 simp only[c] at a
 cases x<;>simp at a
 exact⟨_,rfl,a.1⟩

theorem HK{g j:Type}{f:g->Option j}:∀ {l:List g}{r:List j},l.mapM f=some r->r.length=l.length/\∀(i:Nat) (x:g),l[i]?=some x->∃y,r[i]?=some y/\f x=some y
 | [],r,h=>by
  have:r=[]:=by simpa using h.symm
  subst this;exact⟨rfl,λi x c=>by simp at c⟩
 | a::l,r,h=>by
  rw[List.mapM_cons] at h
  cases b:f a with
  | none=>simp[b] at h
  | some y =>
   cases d:l.mapM f with
   | none=>simp[b,d] at h
   | some n =>
    have e:r=y::n:=by simpa [b,d] using h.symm
    subst e
    obtain⟨k,m⟩:=HK d
    refine⟨by simp[k],λi x c=>?_⟩
    cases i with
    | zero =>
     have:a=x:=by simpa using c
     subst this;exact⟨y,rfl,b⟩
    | succ i=>simpa using m i x (by simpa using c)
theorem Jt{c:List TypeId}{b:List (DataW d)}(h:∀n∈DataW.weightsEach P c b,n<=reachBytes){j:Nat}{t:TypeId}{a:DataW d}(i:c[j]?=some t)(e:b[j]?=some a):Kh P t a :=
 λn g=>h n (DataW.weights_mem_each i e n g)
theorem KC{H:Type}{e:TypeId}:∀ {b:List (DataW H)},(∀n∈DataW.weightsAll P e b,n<=reachBytes)->∀d∈b,Kh P e d
 | [],_,d,a=>by cases a
 | d0::b,h,d,a=>by
  simp only[DataW.weightsAll,LI] at h
  rcases Rl.1 a with rfl|a
  .exact λn c=>h n (.inl c)
  .exact KC (λn c=>h n (.inr c)) d a
def Leaves(P:Program)(w:Wd):List TypeId->vL->Prop
 | [],a=>a=[]
 | t::c,a=>∃x b,a=x::b/\Tree P w t [x]/\Leaves P w c b
theorem Leaves.append:∀ {i:List TypeId}{c:vL}{b:List TypeId}{a:vL},Leaves P w i c->Leaves P w b a->Leaves P w (i++b) (c++a)
 | [],c,b,a,h,d=>by
  have:c=[]:=h
  subst this;exact d
 | t::i,c,b,a,⟨x,k,e,j,g⟩,d=>by
  subst e;exact⟨x,k++a,rfl,j,g.append d⟩

def flat(P:Program):Nat->TypeId->List TypeId
 | 0,t=>[t]
 | n+1,t=>match P.underlying t with
  | some (.struct a)=>a.toList.flatMap λf=>flat P n f.type
  | some (.array m e)=>(List.replicate m (flat P n e)).flatten
  | _=>[t]
def JL(P:Program)(total:Nat):Nat->List Field->Bool
 | k,[]=>k == total
 | k,f::a=>f.offset == k && JL P total (k+P.cellsOf f.type) a
def RY(P:Program):Nat->TypeId->Bool
 | 0,_=>false
 | n+1,t=>match P.underlying t with
  | some (.struct a)=>JL P (P.cellsOf t) 0 a.toList && a.toList.all λf=>RY P n f.type
  | some (.array m e)=>m*P.cellsOf e == P.cellsOf t && RY P n e
  | _=>true

theorem MC{H:Type}{a:TypeId×Vl->H}{r:TypeId->vL->Option (DataW H×List MemPlace)}{t:TypeId}{x:DataW H×List MemPlace}(g:∀c,P.underlying t≠some (.struct c))(d:∀n e,P.underlying t≠some (.array n e))
 (h:DataW.trodStep a P w 0 (λ_=>true) true r t F=some x):∃v,F=[v]:=by
 unfold DataW.trodStep at h
 split at h<;>first|exact⟨_,rfl⟩|(rename_i b;exact absurd b (g _))|(rename_i b;exact absurd b (d _ _))|cases h

theorem Tree.leaves:∀(F:Nat) (t:TypeId) (a:vL),RY P F t=true->Tree P w t a->Leaves P w (flat P F t) a
 | 0,_,_,c,_=>by cases c
 | F+1,t,a,c,h=>by
  obtain⟨H,s,m,x,hx,r⟩:=h.step
  cases hu:P.underlying t with
  | none =>
   exact B8
  | some d =>
   by_cases K:∃fs,d=.struct fs
   .obtain ⟨fs,rfl⟩:=K
    simp only[RY,hu,Hr] at c
    simp only[flat,hu]
    unfold DataW.trodStep at hx
    simp only[hu] at hx
    split at hx
    .rename_i z
     simp only[Option.map_eq_some_iff] at hx
     obtain⟨S,D,rfl⟩:=hx
     unfold Kh at r
     simp only[DataW.weights,hu] at r
     have N:∀f∈fs.toList,Tree P w f.type ((a.drop f.offset).take (P.cellsOf f.type)):=λf hf=>by
      obtain⟨i,C⟩:=List.mem_iff_getElem?.1 hf
      obtain⟨y,l,G⟩:=(HK D).2 i f C
      exact⟨H,s,m,y,G,Jt r (j:=i) (by rw[WF,C];rfl) (by rw[WF,l];rfl)⟩
     have o:∀(q:List Field) (k:Nat),(∀f∈q,f∈fs.toList)->JL P (P.cellsOf t) k q=true->Leaves P w (q.flatMap λf=>flat P F f.type) (a.drop k):=by
      intro q
      induction q with
      | nil =>
       intro k _ hk
       have Q:k=P.cellsOf t:=by simpa [JL] using hk
       show a.drop k=[]
       rw[List.drop_eq_nil_iff];omega
      | cons f q J =>
       intro k b hk
       simp only[JL,Hr,beq_iff_eq] at hk
       have A:=Tree.leaves F f.type _ (Acw.1 c.2 f (b f C9)) (N f (b f C9))
       have B:=J (k+P.cellsOf f.type) (λg O=>b g (by simp[O])) hk.2
       rw[hk.1] at A
       have:=A.append B
       rw[List.flatMap_cons]
       have e:a.drop k=(a.drop k).take (P.cellsOf f.type)++a.drop (k+P.cellsOf f.type):=by
        rw[<- List.drop_drop,AeN]
       rw[e];exact this
     have:=o fs.toList 0 (λ_ h=>h) c.1
     rwa [AeP] at this
    .cases hx
   .by_cases ha:∃n e,d=.array n e
    .obtain ⟨n,e,rfl⟩:=ha
     simp only[RY,hu,Hr,beq_iff_eq] at c
     simp only[flat,hu]
     unfold DataW.trodStep at hx
     simp only[hu] at hx
     split at hx
     .rename_i z
      simp only[Option.map_eq_some_iff] at hx
      obtain⟨S,D,rfl⟩:=hx
      unfold Kh at r
      simp only[DataW.weights,hu] at r
      have o:∀j i,i+j=n->Leaves P w (List.replicate j (flat P F e)).flatten (a.drop (i*P.cellsOf e)):=by
       intro j
       induction j with
       | zero =>
        intro i C
        have:i=n:=W
        subst this
        show a.drop _=[]
        rw[List.drop_eq_nil_iff];omega
       | succ j J =>
        intro i C
        obtain⟨y,l,G⟩:=(HK D).2 i i (by rw[List.getElem?_range (W)])
        have A:=Tree.leaves F e _ c.2 ⟨H,s,m,y,G,KC r _ (Ab8.2 ⟨y,Do l,rfl⟩)⟩
        have B:=J (i+1) W
        rw[Agz,Aii] at B
        have:=A.append B
        rw[List.replicate_succ,List.flatten_cons]
        have M:a.drop (i*P.cellsOf e)=(a.drop (i*P.cellsOf e)).take (P.cellsOf e)++a.drop (i*P.cellsOf e+P.cellsOf e):=by
         rw[<- List.drop_drop,AeN]
        rw[M];exact this
      have:=o n 0 W
      rwa [Aiu,AeP] at this
     .cases hx
    .have hs':∀fs,P.underlying t≠some (.struct fs):=λfs he=>K ⟨fs,by rw[hu] at he;exact Ade he⟩
     exact A1

/-! ### Arguments -/
theorem Arg.int{t:TypeId}{k:IntKind}{v:Vl}(b:P.underlying t=some (.int k))(h:Arg P w t v):∃n,v=.int k n/\(Lit.int k n).wf=true:=by
 obtain⟨⟨a,d⟩,c⟩:=h
 obtain⟨n,rfl⟩:=WideShapes.okWide_int b d
 exact Tree.int b c
theorem Rq{a:Addr}(h:w.cells? 0 a A=some F):F.length=A/\(0<A->a.spot=none)/\w.rangeAt a.block a.off F:=by
 unfold World.cells? at h
 rw[IR (Lv _)] at h
 obtain⟨g,j⟩:=HK h
 rw[List.length_range] at g
 have k:0<A->a.spot=none:=λo=>by
  obtain⟨y,_,d⟩:=j 0 0 (by rw[List.getElem?_range o])
  simp only[Addr.add,if_true,World.cell?] at d
  split at d
  .cases c:a.spot with
   | none=>rfl
   | some s=>simp[c] at d
  .cases d
 refine⟨g,k,λi v l=>?_⟩
 have n:i<A:=by have:=(Eu.1 l).1;omega
 obtain⟨y,d,e⟩:=j i i (by rw[List.getElem?_range n])
 rw[l] at d
 cases d
 have c:=k W
 unfold Addr.add at e
 split at e
 .rename_i m
  subst m
  obtain⟨b,q,r⟩:=a
  simp only at c;subst c;exact e
 .exact e
def N2(P:Program)(w:Wd)(e s:Nat)(a:Option Addr)(c:Nat):Prop :=
 0<c->∃b d,a=some ⟨b,d,none⟩/\∀i,i<c->∃g,g.length=s/\w.rangeAt b (d+i*s) g/\Tree P w e g
theorem Tree.slice{t e s:Nat}{x:Vl}(B:P.underlying t=some (.slice e))(J:P.cellsOf e=s)(hpos:0<s)(h:Tree P w t [x]):∃a d g,x=.slice a d g/\d<=g/\g<=maxLen/\N2 P w e s a d:=by
 obtain⟨H,q,m,y,j,z⟩:=h.step
 unfold DataW.trodStep at j
 simp only[B] at j
 subst J
 have K:x=sN\/∃a d g,x=.slice (some a) d g:=by
  cases x with
  | slice a d g =>
   cases a with
   | some a=>exact .inr ⟨_,_,_,rfl⟩
   | none =>
    left
    cases d with
    | zero=>cases g with
     | zero=>rfl
     | succ c=>simp at j
    | succ l=>simp at j
  | _=>simp at j
 rcases K with rfl|⟨a,d,g,rfl⟩
 .exact ⟨none,0,0,rfl,M2 _,Lv _,λh=>absurd h W⟩
 .simp only at j
  split at j
  .rename_i A
   refine⟨some a,d,g,rfl,A.2.1,A.2.2,λhl=>?_⟩
   simp only[Option.bind_eq_some_iff] at j
   obtain⟨o,D,k⟩:=j
   simp only[Option.map_eq_some_iff] at k
   obtain⟨C,_,rfl⟩:=k
   unfold Kh at z
   simp only[DataW.weights,B,Rl,LI] at z
   have hE:∀i,i<d->∃cs,w.cells? 0 (a.add (i*P.cellsOf e)) (P.cellsOf e)=some cs/\Tree P w e cs:=λi hi=>by
    obtain⟨y,r,j⟩:=(HK D).2 i i (by rw[List.getElem?_range hi])
    simp only[Option.bind_eq_some_iff] at j
    obtain⟨cs,hc,G⟩:=j
    exact⟨cs,hc,H,q,m,y,G,KC (λn F=>z n (.inr (.inl F))) _ (Ab8.2 ⟨y,Do r,rfl⟩)⟩
   exact A0
  .cases j
theorem Tree.reach{c e:Nat}(k:P.underlying A=some (.slice D))(h:Tree P w A [.slice a c e]):c*P.bytesOf D<=reachBytes:=by
 obtain⟨H,o,m,y,b,i⟩:=h.step
 unfold DataW.trodStep at b
 simp only[k] at b
 cases a with
 | none =>
  cases c with
  | zero=>rw[Aiu];exact Lv _
  | succ l=>simp at b
 | some a =>
  simp only at b
  split at b
  .simp only [Option.bind_eq_some_iff] at b
   obtain⟨g,q,d⟩:=b
   simp only[Option.map_eq_some_iff] at d
   obtain⟨n,_,rfl⟩:=d
   unfold Kh at i
   simp only[DataW.weights,k,Rl] at i
   have j:=i _ (.inl U)
   have p:=(HK q).1
   rw[Ri,Ri,p,List.length_range] at j
   exact AcC (AhN _ (Nat.le_add_right _ _)) j
  .cases b
theorem Arg.slice{t e s:Nat}{v:Vl}(i:P.underlying t=some (.slice e))(l:P.cellsOf e=s)(d:0<s)(h:Arg P w t v):∃a c b,v=.slice a c b/\c<=b/\b<=maxLen/\N2 P w e s a c:=by
 obtain⟨⟨g,k⟩,j⟩:=h
 obtain⟨a,c,b,rfl⟩:=WideShapes.okWide_slice i k
 exact Tree.slice i l d j
theorem wf_u8(h:(Lit.int .u8 K).wf=true):0<=K/\K<=255:=by
 simp[Lit.wf,IntKind.min,IntKind.max,IntKind.signed,IntKind.bits] at h;exact h
theorem wf_u32(h:(Lit.int .u32 K).wf=true):0<=K/\K<=4294967295:=by
 simp[Lit.wf,IntKind.min,IntKind.max,IntKind.signed,IntKind.bits] at h;exact h
theorem wf_i64(h:(Lit.int .i64 K).wf=true): -9223372036854775808<=K/\K<=9223372036854775807:=by
 simp[Lit.wf,IntKind.min,IntKind.max,IntKind.signed,IntKind.bits] at h;exact h
end

structure Ak.Fits(A:Ak):Prop where
 mac:Byt A.mac
 tmac:Byt A.tmac
 ip:0<=A.ip/\A.ip<=4294967295
 tip:0<=A.tip/\A.tip<=4294967295
def nth6(a b c d e f:Int)(i:Nat):Int:=[a,b,c,d,e,f].getD i 0
section Gq
attribute [local irreducible] WL WC WE WQ WP WH WR WM WRH

/-! ### Frames -/
end Gq
end Go.Proofs.YtmhahajadgkolaaGreatDoor
