/- Joined texts. -/
import Derived.LoopN
import Derived.StillTail
import Derived.Test.YtmhahajadgkolaaGreatDoorBkSdxTells
set_option maxHeartbeats 1000000
namespace Go.Proofs.YtmhahajadgkolaaGreatDoor
open Go.RowKit Tryz
variable{A:Nat}{B:Operand}

structure GG(P:Program)(E:Ev):Prop where
 key:∀kt kb,Jl E.keys kt=some kb->HD P kt λv=>kb v=true
 plain:∀kt kb v,Jl E.keys kt=some kb->kb v=true->CW v=true
 eq:∀kt kb a b,Jl E.keys kt=some kb->kb a=true->kb b=true->(eqV a b=true<->a=b)
theorem Uu.AE{P:Program}{E:Ev}(hKs:GG P E){R:Rn}{t:Nat}{g:List (Value×Value)}{b:Array MapEntry}{c:Nat}{q:Value->Bool}{m:Value->Option Value}(h:Uu E R t g b c q m)(e:MapEntry)(i:e∈b.toList)(p:g.length<=1):∃a v,g=[(a,v)]/\e.key=a/\VR R v e.val:=by
 have s:=h.size
 match g,p with
 | [],_=>have:b.toList=[]:=AbQ.1 (by simpa using s);rw[this] at i;cases i
 | [(a,v)],_ =>
  have f:q a=true:=h.kbs (a,v) (Fr ..)
  have k:eqV a a=true:=(hKs.eq t q a a h.key f f).2 U
  obtain⟨B,y,z⟩:=h.assoc.1 a f v (by unfold Ap;rw[k];rfl)
  obtain⟨C,r,u,w⟩:=(h.map.get a B).1 y
  have j:b.toList.length=1:=by simpa using s
  obtain⟨x,A⟩:=List.length_eq_one_iff.1 j
  rw[A] at i r
  obtain rfl:=Es.1 i
  obtain rfl:=Es.1 r
  exact⟨a,v,rfl,u,by rw[w];exact z⟩
 | _::_::_,p=>simp at p
/-! ### Many at once -/
theorem S7{e:Type}:∀t:Sem e,Sem.bind t Sem.pure=t:=by
 intro t
 induction t with
 | pure a=>rfl
 | load m a k b=>simp only[Sem.bind];congr 1;funext v;exact b v
 | store m a v k b=>simp only[Sem.bind];congr 1
 | new o k b=>simp only[Sem.bind];congr 1;funext v;exact b v
 | shape r k b=>simp only[Sem.bind];congr 1;funext v;exact b v
 | freeze a n k b=>simp only[Sem.bind];congr 1
 | frozen a k b=>simp only[Sem.bind];congr 1;funext v;exact b v
 | getObj r k b=>simp only[Sem.bind];congr 1;funext v;exact b v
 | setObj r o k b=>simp only[Sem.bind];congr 1
 | choose q k b=>simp only[Sem.bind];congr 1;funext v;exact b v
 | sys c k b=>simp only[Sem.bind];congr 1;funext v;exact b v
 | program k b=>simp only[Sem.bind];congr 1;funext v;exact b v
 | mark m k b=>simp only[Sem.bind];congr 1
 | halt h=>rfl
theorem SA{e i j:Type}(f:e->Sem i)(g:i->Sem j):∀t:Sem e,Sem.bind (Sem.bind t f) g=Sem.bind t λa=>Sem.bind (f a) g:=by
 intro t
 induction t with
 | pure a=>rfl
 | load m a k b=>simp only[Sem.bind];congr 1;funext v;exact b v
 | store m a v k b=>simp only[Sem.bind];congr 1
 | new o k b=>simp only[Sem.bind];congr 1;funext v;exact b v
 | shape r k b=>simp only[Sem.bind];congr 1;funext v;exact b v
 | freeze a n k b=>simp only[Sem.bind];congr 1
 | frozen a k b=>simp only[Sem.bind];congr 1;funext v;exact b v
 | getObj r k b=>simp only[Sem.bind];congr 1;funext v;exact b v
 | setObj r o k b=>simp only[Sem.bind];congr 1
 | choose q k b=>simp only[Sem.bind];congr 1;funext v;exact b v
 | sys c k b=>simp only[Sem.bind];congr 1;funext v;exact b v
 | program k b=>simp only[Sem.bind];congr 1;funext v;exact b v
 | mark m k b=>simp only[Sem.bind];congr 1
 | halt h=>rfl
instance:LawfulMonad Sem:=LawfulMonad.mk' Sem (id_map:=λx=>S7 x) (pure_bind:=λ_ _=>rfl) (bind_assoc:=λt f g=>SA f g t)
inductive Ys {α β:Type}(P:Program) (F:α->Sem β) (w:World):List α->List β->Prop
 | nil:Ys P F w [] []
 | cons {a:α}{b:β}{as_:List α}{bs:List β}:(F a).run P w=.ok b w->Ys P F w as_ bs->Ys P F w (a::as_) (b::bs)
theorem Ue{b e:Type}{P:Program}{F:b->Sem e}{w:World}:∀ {l:List b}{a:List e},Ys P F w l a->(l.mapM F).run P w=.ok a w
 | _,_,.nil=>rfl
 | _,_,.cons h f=>by
  rw[List.mapM_cons,Ah5,h,Aes,Ah5,Ue f,Aes]
  rfl
theorem NY{b f:Type}{P:Program}{F:b->Sem f}{w:World}{l:Array b}{a:List f}(h:Ys P F w l.toList a):(l.mapM F).run P w=.ok a.toArray w:=by
 have e:l.mapM F=List.toArray <$> l.toList.mapM F:=by
  rw[<- List.mapM_toArray]
 rw[e,map_eq_pure_bind,Ah5,Ue h,Aes]
 rfl
section
variable {P:Program}{E:Ev}{w0:World}{R:Rn}{H:Hp}{L X:List Ent}{kn:Lk}{l:Kn}{o:Oper}{n:Nat}{v:Value}
theorem T6:∀ {a:List Field}{b:List (Nat×Nat)},QQ P a=some b->∀w,Ys P (λf=>do pure (f.offset, <- sizeOf f.type):Field->Sem (Nat×Nat)) w a b
 | [],_,h,w=>by cases h;exact .nil
 | f::a,b,h,w=>by
  unfold QQ at h
  try simp only[FX] at h
  split at h
  .rename_i m r e g
   cases h
   exact .cons (by rw[Ah5,run_sizeOf e,Aes];rfl) (T6 g w)
  .cases h
theorem Wz:∀ {b:List Value}{a:List Int},UL b=some a->a.length=b.length/\DB b=true/\∀i,i<a.length->b[i]?=some (.int .u8 (a.getD i 0))
 | [],_,h=>by cases h;exact⟨rfl,rfl,λi f=>absurd f (Ac5 _)⟩
 | c::b,a,h=>by
  unfold UL at h
  split at h
  .rename_i e;cases e
  .rename_i x r e
   cases e
   split at h
   .rename_i g p
    cases h
    obtain⟨j,k,m⟩:=Wz p
    refine⟨by simp[j],by simp[DB,CW,k],λi f=>?_⟩
    match i with
    | 0=>rfl
    | i+1 =>
     have:=m i (by simpa using f)
     simpa using this
   .cases h
  .cases h
theorem SR.mapOf(h:SR E w0 R H L){k r:Nat}{g:List (Value×Value)}{p:Option (Nat×Bool)}(hk:H.get k=some (.map r g p))(s:E.base<=k):∃b q a c t m,R k=some (b,q)/\.obj b (.map a c)∈L/\Uu E R r g a c t m /\
 ∀i f,p=some (i,f)->∃j u seen,R i=some (j,u)/\.obj j (.mapIter (some b) c seen c)∈L/\g.length<=1/\(f=false->seen = #[])/\(f=true->∃e∈a.toList,seen = #[].push e.born):=h.own k _ hk s
variable (hKs:GG P E) (hS:SR E w0 R H L) (hK:KR R kn l)
include hKs hS hK
theorem Acj{i:Operand}{ok:Bool}(J:o.op=.lookup A B i ok)(h:CO P E H kn o=some v):∃v',VR R v v'/\Val P (λw=>St F0 w0 w (L++X)) n l o v':=by
 unfold CO at h
 rw[J] at h
 dsimp only at h
 unfold VK at h
 try simp only[CX,Iq] at h
 split at h
 .rename_i m a F et hx hi hu
  split at h
  .rename_i z D x hz s p
   cases f:(x a && CW z)
   .rw [f] at h;cases h
   .rw [f] at h
    dsimp only [cond_true] at h
    rw[Hr] at f
    obtain⟨u,S,Z⟩:=hK.ev hS.gl hx
    obtain⟨y,h3,h4⟩:=hK.ev hS.gl hi
    obtain rfl:=h4.same (hKs.plain F x _ p f.1)
    have M:∃r g t,u=.map r/\(∀w,St F0 w0 w (L++X)->SZ w r g)/\CP (λv=>x v=true) g t/\QY R x D t:=by
     split at s
     .rename_i k
      split at s
      .rename_i N es2 it hk
       cases C:(Nat.beq N F && Nat.ble E.base k)
       .rw [C] at s;cases s
       .rw [C] at s
        cases s
        rw[Hr] at C
        obtain rfl:=NE C.1
        obtain⟨b,q,g,c,kb',t,g1,g2,G,_⟩:=hS.mapOf hk (Ai6 C.2)
        obtain⟨b',q',O,rfl⟩:=Z.OJ
        rw[g1] at O
        cases O
        have e:=G.key
        rw[p] at e
        cases e
        exact⟨some b,g,t,rfl,λw hw=>.inr ⟨b,c,rfl,(hw.holds _ (Ha _ g2)).1⟩,G.map,G.assoc⟩
      .cases s
     .cases s
      obtain rfl:=Z.Sf
      exact⟨none, #[],λ_=>none,rfl,λw hw=>.inl ⟨rfl,rfl⟩,CP.empty _,⟨λa _ v hv=>(by cases hv),λ_ _ _=>rfl⟩⟩
    obtain⟨r,g,t,rfl,hV,hM,hA⟩:=M
    have K:CW z=true:=f.2
    have j:VR R ((Ap D y).getD z) ((t y).getD z)/\(Ap D y).isSome=(t y).isSome:=by
     cases ha:Ap D y with
     | none=>rw[hA.2 _ f.1 ha];exact⟨.plain K,rfl⟩
     | some u =>
      obtain⟨u',e1,e2⟩:=hA.1 _ f.1 _ ha
      rw[e1];exact⟨e2,rfl⟩
    cases ok with
    | false =>
     cases h
     exact⟨_,j.1,HP J S h3 hu (hKs.key F x p) f.1 hz hV hM⟩
    | true =>
     cases h
     refine⟨_,?_,ED J S h3 hu (hKs.key F x p) f.1 hz hV hM⟩
     rw[j.2]
     exact VR.tuple (.cons j.1 (.cons (.plain U) .nil))
  .cases h
 .cases h
omit hKs in
theorem len_ok{args:Array Operand}{C:Array TypeId}(A:o.op=.call { callee:=.builtin .len,args:=args,argTypes:=C })(h:CO P E H kn o=some v):∃D,VR R v D/\Val P (λw=>St F0 w0 w (L++X)) n l o D:=by
 unfold CO at h
 rw[A] at h
 dsimp only at h
 unfold vLen at h
 try simp only[CX] at h
 split at h
 .rename_i x t M N
  have f:o.op=.call { callee:=.builtin .len,args:=#[x],argTypes:=#[t] }:=by
   rw[A,show args = #[x] from Aif.1 M,show C = #[t] from Aif.1 N]
  split at h
  .rename_i a m c e p j
   cases h
   obtain⟨u,g,i⟩:=hK.ev hS.gl p
   obtain⟨a',c',rfl,_⟩:=i.Uh
   exact⟨_,.plain U,Qr f g j⟩
  .rename_i S F p j
   cases h
   obtain⟨u,g,i⟩:=hK.ev hS.gl p
   obtain rfl:=i.Sf
   exact⟨_,.plain U,PQ (es:=#[]) f g j λw B=>.inl ⟨rfl,rfl⟩⟩
  .rename_i k S F p j
   split at h
   .rename_i Z y it hk
    cases s:Nat.ble E.base k
    .rw [s] at h;cases h
    .rw [s] at h
     cases h
     obtain⟨u,g,i⟩:=hK.ev hS.gl p
     obtain⟨b,q,r,c,O,mm,G,J,K,_⟩:=hS.mapOf hk (Ai6 s)
     obtain⟨b',q',z,rfl⟩:=i.OJ
     rw[G] at z
     cases z
     refine⟨_,.plain U,?_⟩
     rw[<- K.size]
     exact PQ (es:=r) f g j λw B=>.inr ⟨b,c,rfl,(B.holds _ (Ha _ J)).1⟩
   .cases h
  .exact My hK hS.gl h
 .cases h
omit hKs in
theorem cap_ok{args:Array Operand}{D:Array TypeId}(C:o.op=.call { callee:=.builtin .cap,args:=args,argTypes:=D })(h:CO P E H kn o=some v):∃F,VR R v F/\Val P (λw=>St F0 w0 w (L++X)) n l o F:=by
 unfold CO at h
 rw[C] at h
 dsimp only at h
 unfold vCap at h
 try simp only[CX] at h
 split at h
 .rename_i x t z J
  have A:o.op=.call { callee:=.builtin .cap,args:=#[x],argTypes:=#[t] }:=by
   rw[C,show args = #[x] from Aif.1 z,show D = #[t] from Aif.1 J]
  have p:∀ {r:Option Addr}{g f e:Nat},ev l x=some (.slice r g f)->P.underlying t=some (.slice e)->Val P (λw=>St F0 w0 w (L++X)) n l o (.int .i64 f):=λ{r g f e} k j a w z _=>by
   have B:evs l [x]=some [.slice r g f]:=by simp[YtmhahajadgkolaaGreatDoor.evs,k]
   obtain⟨K,G⟩:=BQ (P:=P) (w:=w) (xs:=[x]) A B z
   rw[G]
   simp[builtin,Builtin.cap_,Rr j,goInt]
  split at h
  .rename_i m c e k j
   cases h
   obtain⟨u,s,y⟩:=hK.ev hS.gl k
   obtain rfl:=y.KP
   exact⟨_,.plain U,p s j⟩
  .rename_i a m c e k j
   cases i:(Nat.blt c 1152921504606846976 && a.spot.isNone)
   .rw [i] at h;cases h
   .rw [i] at h
    cases h
    rw[Hr] at i
    obtain⟨u,s,y⟩:=hK.ev hS.gl k
    obtain⟨b,q,M,N,O,rfl⟩:=y.Gw (Ahj.1 i.2)
    refine⟨_,.plain U,?_⟩
    have:=p s j
    rwa [Hm (by simpa using i.1)] at this
  .cases h
 .cases h
omit hKs in
theorem AgR{d:Nat}(D:o.op=.convert A d B)(h:CO P E H kn o=some v):∃N,VR R v N/\Val P (λw=>St F0 w0 w (L++X)) n l o N:=by
 unfold CO at h
 rw[D] at h
 dsimp only at h
 unfold Af0 at h
 try simp only[CX] at h
 split at h
 .rename_i m c e G z F
  split at h
  .rename_i C
   cases f:Nat.beq m 0
   .rw [f] at h;cases h
   .rw [f] at h
    cases h
    obtain rfl:=NE f
    obtain⟨u,t,x⟩:=hK.ev hS.gl G
    obtain rfl:=x.KP
    exact⟨_,.plain U,X6 (λ_=>0) D t F C z λw M J=>absurd J (Nat.lt_irrefl 0)⟩
  .cases h
 .rename_i a m c e G z F
  split at h
  .rename_i cs op hk C
   split at h
   .rename_i j y
    cases f:(Nat.beq j.length m && a.spot.isNone)
    .rw [f] at h;cases h
    .rw [f] at h
     cases h
     rw[Hr] at f
     obtain rfl:=NE f.1
     obtain⟨u,t,x⟩:=hK.ev hS.gl G
     obtain⟨b,q,h3,h4,h5,rfl⟩:=x.Gw (Ahj.1 f.2)
     obtain⟨b',q',O,K,h7,h8⟩:=hS.cells (X:=X) hk
     rw[h4] at K
     cases K
     obtain⟨g1,S,Z⟩:=Wz y
     have g:=(h7.seg a.off j.length).same S
     refine⟨_,.plain U,?_⟩
     have r:strOfNums j=str (λi=>j.getD i 0) j.length:=by
      unfold str
      congr 1
      unfold bl
      refine AhO λi=>?_
      rw[WF]
      by_cases k:i<j.length
      .rw [List.getElem?_range k];simp[k]
      .rw [AcL W,AcL (by simpa using k)];rfl
     rw[r]
     refine X6 _ D t F C z λw M J=>⟨b,a.off,rfl,λi k=>?_⟩
     have s:=Z i k
     rw[<- g] at s
     unfold YtmhahajadgkolaaGreatDoor.seg at s
     rw[Agg,IR k,Aic] at s
     have:=h8 w M _ _ s
     rwa [PP] at this
   .cases h
  .cases h
 .exact My hK hS.gl h
end

section
variable {P:Program}{E:Ev}{w0:World}{R:Rn}{H:Hp}{L X:List Ent}{kn:Lk}{l:Kn}{o:Oper}{n:Nat}{v:Value}
variable (hS:SR E w0 R H L) (hK:KR R kn l)
include hS hK
theorem AdO{parts:Array (Nat×Operand)}(z:o.op=.build A parts)(h:CO P E H kn o=some v):∃B,VR R v B/\Val P (λw=>St F0 w0 w (L++X)) n l o B:=by
 unfold CO at h
 rw[z] at h
 dsimp only at h
 unfold ZD at h
 try simp only[CX,FX,MN] at h
 have f:o.op=.build A parts.toList.toArray:=by rw[z]
 split at h
 .rename_i C G F t a u
  split at h
  .rename_i J r
   split at h
   .rename_i x q
    cases h
    obtain⟨a,b⟩:=Iz a
    obtain⟨y,i,j⟩:=hK.evp hS.gl u
    obtain⟨g,k,p⟩:=Oq j (VRs.plain b) q
    exact⟨_,.agg p,GC f i a ⟨C,t,λw=>NY (T6 r w)⟩ k⟩
   .cases h
  .cases h
 .rename_i m e G F t a u
  split at h
  .rename_i s D
   split at h
   .rename_i x q
    cases h
    obtain⟨a,b⟩:=Iz a
    obtain⟨y,i,j⟩:=hK.evp hS.gl u
    obtain⟨g,k,p⟩:=Oq j (VRs.plain b) q
    exact⟨_,.agg p,Af2 f i a t D k⟩
   .cases h
  .cases h
 .cases h
theorem Xi{i:Fn}{g f:Array Operand}(j:o.op=.makeFunc i g f)(h:CO P E H kn o=some v):∃k,VR R v k/\Val P (λw=>St F0 w0 w (L++X)) n l o k:=by
 unfold CO at h
 rw[j] at h
 dsimp only at h
 unfold Af1 at h
 have e:o.op=.makeFunc i g.toList.toArray f.toList.toArray:=by rw[j]
 split at h
 .rename_i a b s t
  cases h
  obtain⟨u,m,p⟩:=hK.evs hS.gl s
  obtain⟨x,q,r⟩:=hK.evs hS.gl t
  exact⟨_,.func p r,GO e m q⟩
 .cases h
theorem Vb(b:o.op=.makeInterface A B)(h:CO P E H kn o=some v):∃e,VR R v e/\Val P (λw=>St F0 w0 w (L++X)) n l o e:=by
 unfold CO at h
 rw[b] at h
 dsimp only at h
 unfold ZF at h
 try simp only[CX] at h
 split at h
 .rename_i u d j i
  cases a:isIf d
  .rw [a] at h
   cases h
   obtain⟨k,f,g⟩:=hK.ev hS.gl j
   refine⟨_,.iface g,QA b f i ?_⟩
   cases d<;>first|rfl|cases a
  .rw [a] at h;cases h
 .cases h
theorem AbX(i:o.op=.sliceToArrayPointer A B)(h:CO P E H kn o=some v):∃j,VR R v j/\Val P (λw=>St F0 w0 w (L++X)) n l o j:=by
 unfold CO at h
 rw[i] at h
 dsimp only at h
 unfold VJ at h
 try simp only[CX] at h
 split at h
 .rename_i a k c m e y x
  cases f:(Nat.ble m k && a.spot.isNone)
  .rw [f] at h;cases h
  .rw [f] at h
   cases h
   rw[Hr] at f
   obtain⟨u,r,s⟩:=hK.ev hS.gl y
   have g:=Ahj.1 f.2
   obtain⟨b,q,D,t,F,rfl⟩:=s.Gw g
   obtain⟨z,C,p⟩:=a
   cases g
   exact⟨_,.ptr t,AcG i r x (Ai6 f.1)⟩
 .cases h
theorem Ad5(hKs:GG P E){x:Operand}(y:o.op=.entry x)(h:CO P E H kn o=some v):∃A,VR R v A/\Val P (λw=>St F0 w0 w (L++X)) n l o A:=by
 unfold CO at h
 rw[y] at h
 dsimp only at h
 unfold ZE at h
 split at h
 .rename_i a hx
  split at h
  .rename_i b hi
   split at h
   .rename_i kt z u i hm
    cases j:(Nat.beq i a.block && Nat.beq a.off 0 && Nat.ble E.base b)
    .rw [j] at h;cases h
    .rw [j] at h
     cases h
     simp only[Hr] at j
     obtain⟨⟨B,C⟩,D⟩:=j
     have k:=NE B
     have p:=NE C
     obtain⟨u',s,h2⟩:=hK.ev hS.gl hx
     obtain⟨bb,q,h3,h4,rfl⟩:=h2.IZ
     obtain⟨g,q',K,c,kb,m,g1,M,f,N⟩:=hS.mapOf hm (Ai6 D)
     obtain⟨bi,qi,seen,r,O,S,_,Z⟩:=N i true U
     rw[k,h4] at r
     cases r
     obtain⟨e,t,rfl⟩:=Z U
     obtain⟨ka',u2,F,G,J⟩:=f.AE hKs e t S
     cases F
     rw[p] at s
     refine⟨_,?_,LL y s (Ha _ O) (Ha _ M) f.st t⟩
     rw[G]
     exact .tuple (.cons (.plain (by
      have:=f.kbs (z,u) (Fr ..)
      exact hKs.plain kt kb z f.key this)) (.cons J .nil))
   .cases h
  .cases h
 .cases h
end
section
variable {P:Program}{E:Ev}{w0:World}{R:Rn}{H:Hp}{L X:List Ent}{kn:Lk}{l:Kn}{o:Oper}{n:Nat}{v:Value}
theorem SO(hKs:GG P E)(hS:SR E w0 R H L)(hK:KR R kn l)(h:CO P E H kn o=some v):∃f,VR R v f/\Val P (λw=>St F0 w0 w (L++X)) n l o f:=by
 have b:=h
 unfold CO at h
 split at h
 .rename_i a;exact AaO hK hS.gl (.inl a) h
 .rename_i a;exact AaO hK hS.gl (.inr a) h
 .rename_i a;exact AhB hK hS.gl a h
 .rename_i a;exact YL hK hS.gl a h
 .rename_i a;exact UY hK hS.gl a h
 .rename_i a;exact Ahi hK hS.gl hS a h
 .rename_i a;exact YM hK hS.gl a h
 .rename_i a;exact U6 hK hS.gl a h
 .rename_i a;exact Xu hK hS.gl a h
 .rename_i a
  unfold vOr at h
  split at h
  .rename_i e;cases h;exact Afv hK hS.gl a e
  .exact My hK hS.gl h
 .rename_i a
  unfold vOr at h
  split at h
  .rename_i e;cases h;exact AeS hK hS.gl a e
  .exact My hK hS.gl h
 .rename_i a;exact AdO hS hK a b
 .rename_i a;exact Xi hS hK a b
 .rename_i a;exact Vb hS hK a b
 .rename_i a;exact AbX hS hK a b
 .rename_i a;exact Acj hKs hS hK a b
 .rename_i a;exact Ad5 hS hK hKs a b
 .rename_i a;exact len_ok hS hK a b
 .rename_i a;exact cap_ok hS hK a b
 .rename_i a;exact AgR hS hK a b
 .exact My hK hS.gl h
end
end Go.Proofs.YtmhahajadgkolaaGreatDoor
namespace Go.Proofs.YtmhahajadgkolaaGreatDoor
open Go.RowKit Tryz
variable{A C J:Nat}{B F:Operand}{D:List Ent}{G:Hp}

section
variable {P:Program}{ops:Array Oper}{Q:Exit->Act->World->Prop}{n d:Nat}{E:Ev}{w0:World}{R:Rn}{H:Hp}{L X:List Ent}{kn:Lk}{l:Kn}{o:Oper}{rest:List Oper}{v:Value}
theorem WL.Ahr{p:Nat->Prop}(m:o.op=.next B false)(q:ev l B=some (.pointer (some ⟨A,0,none⟩)))(j:Ent.obj A (.mapIter none 0 #[] 0)∈D)(g:On ops o l)(f:o.dst=some d)(k:Nat.blt d n=true)
 (h:WL P ops Q n p w0 rest ((d,.tuple #[.bool false])::l) D):WL P ops Q n p w0 (o::rest) l D:=by
 refine WL.op g f k λa w e hS=>⟨_,w,D,?_,hS,h⟩
 have b:=e.ev q
 have i:=(hS.holds _ j).1
 unfold execOp
 simp only[m,b,Instr.next,Ah5]
 rw[show(getObj A).run P w=.ok (.mapIter none 0 #[] 0) w by simp[getObj,Sem.run,i]]
 rfl
theorem WL.Ab2{p:Nat->Prop}{b:List Ent}{q:Array MapEntry}(u:o.op=.call { callee:=.builtin .clear,args:=#[B],argTypes:=#[A] })(y:ev l B=some (.map (some C)))(j:∃m,P.underlying A=some m)(t:On ops o l)(s:o.dst=none)
 (h:WL P ops Q n p w0 rest l (D++.obj C (.map #[] J)::b)):WL P ops Q n p w0 (o::rest) l (D++.obj C (.map q J)::b):=by
 refine WL.act t s λa w r hS=>?_
 have k:evs l [B]=some [.map (some C)]:=by simp[YtmhahajadgkolaaGreatDoor.evs,y]
 obtain⟨z,x⟩:=BQ (P:=P) (w:=w) (xs:=[B]) u k r
 have f:=(hS.holds (.obj C (.map q J)) C9).1
 obtain⟨m,j⟩:=j
 have g:(Builtin.clear_ #[A] o.type #[.map (some C)]).run P w=.ok (.tuple #[]) { w with heap:=w.heap.setIfInBounds C (.map #[] J) }:=by
  simp[Builtin.clear_,Rr j,Ail f,MapKept.run_setObj_map _ f,Result.andThen]
 refine⟨{ w with heap:=w.heap.setIfInBounds C (.map #[] J) },D++.obj C (.map #[] J)::b,.inr ⟨.tuple #[],?_⟩,?_,h⟩
 .rw [x];simp[builtin,g]
 .exact hS.put (g:=C) (e:=.obj C (.map #[] J)) (hp:=⟨λ_=>⟨D,b,_,rfl,rfl,rfl⟩⟩) U Frm.setObj ⟨by
   have i:=(AbY.1 f).1
   simp[i],trivial⟩
theorem WL.Aae{p:Nat->Prop}{u s g k c j:Nat}{e f:Option Addr}(K:o.op=.call { callee:=.builtin .append,args:=#[B,F],argTypes:=#[A,C] })(N:ev l B=some (.slice e k c))(O:ev l F=some (.slice f 0 j))
 (t:P.underlying A=some (.slice J)) (b:P.underlying C=some (.slice u)) (r:(P.info? J).map (·.size)=some s) (_:(P.info? J).map (·.bytes)=some g) (hk:k<=c)
 (z:On ops o l) (y:o.dst=some d) (G:Nat.blt d n=true) (h:WL P ops Q n p w0 rest ((d,.slice e k c)::l) D):WL P ops Q n p w0 (o::rest) l D:=by
 refine WL.op z y G λa w x hS=>⟨_,w,D,?_,hS,h⟩
 have i:evs l [B,F]=some [.slice e k c,.slice f 0 j]:=by simp[YtmhahajadgkolaaGreatDoor.evs,N,O]
 obtain⟨S,M⟩:=BQ (P:=P) (w:=w) (xs:=[B,F]) K i x
 have m:(Builtin.firstCells s 0 (.slice f 0 j)).run P w=.ok #[] w:=by
  cases f with
  | none=>rfl
  | some q=>simp[Builtin.firstCells,loadCells,loadCellsFrom]
 rw[M]
 cases e with
 | none=>simp[builtin,Builtin.append_,Rr t,Rr b,run_sizeOf r,Builtin.lenOf,m,hk]
 | some q=>simp[builtin,Builtin.append_,Rr t,Rr b,run_sizeOf r,Builtin.lenOf,m,hk,storeCells]
def Kont(P:Program)(E:Ev)(ops:Array Oper)(Q:Exit->Act->World->Prop)(n:Nat)(w0:World)(rest:List Oper)(l:Kn)(X:List Ent)(o:Oper)(R:Rn)(v:Value)(H b:Hp):Prop :=
 ∀a e f,Rn.ext H b R a->SR E w0 a b e->VR a v f->WL P ops Q n F0 w0 rest (match o.dst with|some d=>(d,f)::l|none=>l) (e++X)
theorem Kont.some{f:Hp}(h:Kont P E ops Q n w0 rest l X o R v H f)(k:o.dst=some d):∀a b e,Rn.ext H f R a->SR E w0 a f b->VR a v e->WL P ops Q n F0 w0 rest ((d,e)::l) (b++X):=λa b e g i j=>by
 have:=h a b e g i j
 rw[k] at this
 exact this
theorem Kont.none{b:Hp}(g:H.n=b.n)(h:Kont P E ops Q n w0 rest l X o R undef H b)(f:o.dst=Option.none):∀a,SR E w0 R b a->WL P ops Q n F0 w0 rest l (a++X):=λa e=>by
 have:=h R a undef (Rn.ext.same g) e (.plain U)
 rw[f] at this
 exact this
theorem XP{g:Value->Bool}(f:∀a b,g a=true->g b=true->(eqV a b=true<->a=b)):∀(e:List (Value×Value)) (a v:Value),(SB e a v).length=if (Ap e a).isSome then e.length else e.length+1
 | [],a,v=>rfl
 | (k,u)::r,a,v=>by
  unfold SB Ap
  cases eqV k a with
  | true=>rfl
  | false =>
   dsimp only [cond_false]
   rw[Acg,XP f r a v]
   split<;>simp
theorem XO{f:Value->Bool}:∀(g:List (Value×Value)) (a v:Value),f a=true->(∀p∈g,f p.1=true)->∀p∈SB g a v,f p.1=true
 | [],a,v,e,_,p,b=>by obtain rfl:=Es.1 b;exact e
 | (k,u)::r,a,v,e,h,p,b=>by
  unfold SB at b
  cases hk:eqV k a with
  | true =>
   rw[hk] at b
   rcases Rl.1 b with rfl|b
   .exact h (k,u) (Fr ..)
   .exact h p (EQ _ b)
  | false =>
   rw[hk] at b
   rcases Rl.1 b with rfl|b
   .exact h _ (Fr ..)
   .exact XO r a v e (λp b=>h p (EQ _ b)) p b
open Classical in
theorem NL{m:Value->Bool}(f:∀a b,m a=true->m b=true->(eqV a b=true<->a=b)):∀(s:List (Value×Value)) (a v x:Value),m a=true->m x=true->(∀p∈s,m p.1=true)->Ap (SB s a v) x=if x=a then some v else Ap s x
 | [],a,v,x,q,j,_=>by
  unfold SB Ap
  by_cases e:x=a
  .subst e;rw[(f x x j j).2 rfl,IR rfl];rfl
  .rw [E9 e]
   cases h:eqV a x with
   | true=>exact absurd ((f a x q j).1 h).symm e
   | false=>rfl
 | (k,u)::r,a,v,x,q,j,h=>by
  have hk:m k=true:=h (k,u) (Fr ..)
  have w:=NL f r a v x q j λp t=>h p (EQ _ t)
  unfold SB
  cases g:eqV k a with
  | true =>
   obtain rfl:=(f k a hk q).1 g
   dsimp only [cond_true]
   unfold Ap
   by_cases e:x=k
   .subst e;rw[(f x x j j).2 rfl,IR rfl];rfl
   .rw [E9 e]
    cases i:eqV k x with
    | true=>exact absurd ((f k x hk j).1 i).symm e
    | false=>rfl
  | false =>
   dsimp only [cond_false]
   unfold Ap
   cases i:eqV k x with
   | true =>
    obtain rfl:=(f k x hk j).1 i
    dsimp only [cond_true]
    rw[E9 λe=>by rw[<- e] at g;rw[i] at g;cases g]
   | false=>exact w
theorem Qf:∀a:List UInt8,DB (a.map Nx)=true
 | []=>rfl
 | b::a=>by rw[Acu];simp only[DB,Nx,CW,Bool.true_and];exact Qf a
theorem WL.Ag7{p:Nat->Prop}{L:List Ent}{t B G g c:Nat}{K:Value->Prop}{A v:Value}{i:Array MapEntry}{m:Value->Option Value}{x C D:Operand}{F:Ent->List Ent}(ho:o.op=.insert t x C D)(hx:ev l x=some (.map (some g)))(hi:ev l C=some A)(hv:ev l D=some v)(hu:P.underlying t=some (.map B G))(hk:HD P B K)(O:K A)
 [S:Loc L g (.obj g (.map i c)) F] (Z:CP K i m) (hg:On ops o l) (hd:o.dst=none)
 (h:∀b f,CP K b (CR m A (some v))->b.size=(if (m A).isSome then i.size else i.size+1)->(MapKept.Stamped i c->MapKept.Stamped b f)->WL P ops Q n p w0 rest l (F (.obj g (.map b f)))):WL P ops Q n p w0 (o::rest) l L:=by
 refine WL.act hg hd λa w q hS=>?_
 obtain⟨y,z,rfl,rfl⟩:=S.ok
 have j:=(hS.holds (.obj g (.map i c)) C9).1
 obtain⟨b,f,hr,k,u,s⟩:=Kd (P:=P) (A:=A) (v:=v) (w:=w) hu hk O j Z
 refine⟨{ w with heap:=w.heap.setIfInBounds g (.map b f) },y++.obj g (.map b f)::z,.inl ?_,?_,h b f k u s⟩
 .have J:=q.ev hx;have M:=q.ev hi;have N:=q.ev hv
  unfold execOp
  simp[ho,J,M,N,hr]
 .exact hS.put (g:=g) (e:=.obj g (.map b f)) (hp:=⟨λ_=>⟨y,z,_,rfl,rfl,rfl⟩⟩) U Frm.setObj ⟨by
   have r:=(AbY.1 j).1
   simp[r],trivial⟩
variable (hKs:GG P E) (hS:SR E w0 R H L) (hK:KR R kn l)
include hS hK
omit hS hK in
theorem Vc{b:List (Value×Value)}(h:mapE E H A=some (C,b)):H.get A=some (.map C b none)/\E.base<=A:=by
 unfold mapE at h
 split at h
 .rename_i hk
  cases a:Nat.ble E.base A
  .rw [a] at h;cases h
  .rw [a] at h;cases h;exact⟨hk,Ai6 a⟩
 .cases h
include hKs
theorem Afr{t:Nat}{m k x:Operand}{H2:Hp}(ho:o.op=.mapUpdate t m k x\/o.op=.insert t m k x)(h:setE P E H kn t m k x=some H2)(hg:On ops o l)(hd:o.dst=none)(hc:∀L',SR E w0 R H2 L'->WL P ops Q n F0 w0 rest l (L'++X)):WL P ops Q n F0 w0 (o::rest) l (L++X):=by
 unfold setE at h
 try simp only[CX] at h
 split at h
 .rename_i b a u kt et hm hk hx hu
  split at h
  .rename_i S M K hmm p
   cases j:(K a && Nat.beq S kt)
   .rw [j] at h;cases h
   .rw [j] at h
    cases h
    rw[Hr] at j
    obtain rfl:=NE j.2
    obtain⟨J,z⟩:=Vc hmm
    obtain⟨g,q,D,c,kb',mm,g1,g2,r,_⟩:=hS.mapOf J z
    have e:=r.key
    rw[p] at e
    cases e
    obtain⟨m',h1,h2⟩:=hK.ev hS.gl hm
    obtain⟨b',q',g4,rfl⟩:=h2.OJ
    rw[g1] at g4
    cases g4
    obtain⟨s,h3,h4⟩:=hK.ev hS.gl hk
    obtain rfl:=h4.same (hKs.plain _ K _ p j.1)
    obtain⟨u',h5,h6⟩:=hK.ev hS.gl hx
    obtain⟨A,B,hL⟩:=List.append_of_mem g2
    have N:=λa b=>hKs.eq _ K a b p
    haveI:Loc (L++X) g (.obj g (.map D c)) (λy=>A++y::(B++X)):=⟨⟨A,B++X,by rw[hL];simp,rfl⟩⟩
    have Z:∀(f:Array MapEntry) (C:Nat),CP (λv=>K v=true) f (CR mm s (some u'))->f.size=(if (mm s).isSome then D.size else D.size+1)->(MapKept.Stamped D c->MapKept.Stamped f C)->WL P ops Q n F0 w0 rest l (A++.obj g (.map f C)::(B++X)):=λf C q1 q2 q3=>by
     have O:(mm s).isSome=(Ap M s).isSome:=by
      cases ha:Ap M s with
      | none=>rw[r.assoc.2 _ j.1 ha]
      | some w=>obtain⟨w',e1,_⟩:=r.assoc.1 _ j.1 _ ha;rw[e1];rfl
     have hM:Uu E R S (SB M s u) f C K (CR mm s (some u')):=⟨p,q1,q3 r.st,by rw[q2,XP N,O,r.size],XO M s u j.1 r.kbs,⟨λy hy w G=>by
      rw[NL N M s u y j.1 hy r.kbs] at G
      unfold CR
      split at G
      .rename_i e;cases G;rw[IR e];exact⟨u',rfl,h6⟩
      .rename_i e;rw[E9 e];exact r.assoc.1 y hy w G,λy hy G=>by
      rw[NL N M s u y j.1 hy r.kbs] at G
      unfold CR
      split at G
      .cases G
      .rename_i e;rw[E9 e];exact r.assoc.2 y hy G⟩⟩
     have hSR:=hS.put (o':=.map S (SB M s u) none) (e':=.obj g (.map f C)) ⟨_,J⟩ z hL g1 U trivial ⟨g,q,f,C,K,_,g1,C9,hM,λi dn e=>by cases e⟩
     have:=hc _ hSR
     rwa [Qs] at this
    rcases ho with ho|ho
    .exact WL.EH (F:=λy=>A++y::(B++X)) ho h1 h3 h5 hu (hKs.key _ K p) j.1 r.map hg hd λf C q1 q2 q3=>Z f C q1 q2 q3
    .exact WL.Ag7 (F:=λy=>A++y::(B++X)) ho h1 h3 h5 hu (hKs.key _ K p) j.1 r.map hg hd λf C q1 q2 q3=>Z f C q1 q2 q3
  .cases h
 .cases h
omit hKs in
theorem AdW(ho:o.op=.call { callee:=.builtin .clear,args:=#[B],argTypes:=#[A] })(h:Rv P E H kn B A=some G)(hg:On ops o l)(hd:o.dst=none)(hc:∀L',SR E w0 R G L'->WL P ops Q n F0 w0 rest l (L'++X)):WL P ops Q n F0 w0 (o::rest) l (L++X):=by
 unfold Rv at h
 try simp only[CX,FX,MN] at h
 split at h
 .rename_i b hx
  split at h
  .rename_i kt es ds aa ac
   cases h
   obtain⟨w,r⟩:=Vc aa
   obtain⟨g,q,es',c,kb,mm,z,J,N,_⟩:=hS.mapOf w r
   obtain⟨m',O,S⟩:=hK.ev hS.gl hx
   obtain⟨b',q',K,rfl⟩:=S.OJ
   rw[z] at K
   cases K
   obtain⟨f,j,F⟩:=List.append_of_mem J
   subst F
   have y:=hS.put (o':=.map kt [] none) (e':=.obj g (.map #[] c)) ⟨_,w⟩ r U z U trivial ⟨g,q, #[],c,kb,λ_=>none,z,C9,⟨N.key,CP.empty _,MapKept.stamped_empty c,rfl,(λp hp=>by cases hp),⟨λa _ v hv=>(by cases hv),λ_ _ _=>rfl⟩⟩,λi dn e=>by cases e⟩
   rw[Qs]
   refine WL.Ab2 ho O ⟨ds,ac⟩ hg hd ?_
   have:=hc _ y
   rwa [Qs] at this
  .cases h
 .rename_i a k c hx
  split at h
  .rename_i e cs op hu hk
   split at h
   .rename_i t s hz hs
    cases M:(Nat.beq t.length s && Nat.ble (a.off+k*s) cs.length && t.all one && Nat.ble E.base a.block && a.spot.isNone)
    .rw [M] at h;cases h
    .rw [M] at h
     cases h
     simp only[Hr] at M
     obtain⟨⟨⟨⟨b1,b2⟩,b3⟩,b4⟩,b5⟩:=M
     have C:=NE b1
     have b2':=Ai6 b2
     have D:=Ai6 b4
     obtain⟨hz',hzp⟩:=Iz hz
     obtain⟨u,O,S⟩:=hK.ev hS.gl hx
     obtain⟨b,q,h3,Z,h5,rfl⟩:=S.Gw (Ahj.1 b5)
     obtain⟨f,j,b',q',m,x,F,z,J,N,K⟩:=hS.split hk D
     rw[Z] at z
     cases z
     have hll:=J.length
     have hzl:(zrs t k).length=k*s:=by rw[Ii,C]
     have ab:AK (m++x) a.off (zrs t k)=AK m a.off (zrs t k)++x:=MD _ _ _ _ W
     have y:=hS.put (o':=.row (AK cs a.off (zrs t k)) op) (e':=.row b (AK m a.off (zrs t k)++x)) ⟨_,hk⟩ D F Z U trivial ⟨b,q,_,x,Z,VRs.AK _ J (VRs.plain (Nj hzp k)),C9,N,λs' es=>by rw[AC,DZ _ _ _ W];have:=K s' es;rwa [AC] at this⟩
     haveI:At (L++X) b (m++x):=⟨by rw[F];simp⟩
     haveI:Put (L++X) b (.row b (AK (m++x) a.off (zrs t k))) ((f++.row b (AK (m++x) a.off (zrs t k))::j)++X):=⟨λ_=>⟨f,j++X,.row b (m++x),by rw[F];simp,C9,rfl⟩⟩
     refine WL.clear ho O hu hz' C b3 Dz hg hd ?_
     rw[ab]
     exact hc _ y
   .cases h
  .cases h
 .cases h
omit hKs in
theorem AgS(ho:o.op=.call { callee:=.builtin .copy,args:=#[B,F],argTypes:=#[A,C] })(h:AdY P E H kn B F A C=some (v,G))(hg:On ops o l)(hd:o.dst=some d)(ab:Nat.blt d n=true)
 (hc:∀O L' v',Rn.ext H G R O->SR E w0 O G L'->VR O v v'->WL P ops Q n F0 w0 rest ((d,v')::l) (L'++X)):WL P ops Q n F0 w0 (o::rest) l (L++X):=by
 unfold AdY at h
 try simp only[CX,FX] at h
 split at h
 .rename_i a k c e e' hx hu hut
  split at h
  .rename_i m K cs op hs D hk
   cases M:(Nat.ble E.base a.block && Nat.ble (a.off+min m k) cs.length && a.spot.isNone && Nat.blt 0 (min m k))
   .rw [M] at h;cases h
   .rw [M] at h
    cases h
    simp only[Hr] at M
    obtain⟨⟨⟨b1,b2⟩,b3⟩,b4⟩:=M
    have y:=Ai6 b1
    have b2':=Ai6 b2
    have b4':0<min m k:=by simpa using b4
    obtain⟨u,h1,h2⟩:=hK.ev hS.gl hx
    obtain⟨b,q,h3,S,h5,rfl⟩:=h2.Gw (Ahj.1 b3)
    obtain⟨sa,mc,i,hy,z,hnl,ac,J⟩:=Qe (X:=X) hS hK D
    obtain⟨sb,so,rfl,x⟩:=J W
    obtain⟨f,g,b',q',r,t,Z,g1,g2,g3,g4⟩:=hS.split hk y
    rw[S] at g1
    cases g1
    have hll:=g2.length
    have hnl':=z.length
    have s:(i.take (min m k)).length=min m k:=by rw[Ahp];omega
    have ad:AK (r++t) a.off (i.take (min m k))=AK r a.off (i.take (min m k))++t:=MD _ _ _ _ W
    have aa:=hS.put (o':=.row (AK cs a.off (K.take (min m k))) op) (e':=.row b (AK r a.off (i.take (min m k))++t)) ⟨_,hk⟩ y Z S U trivial ⟨b,q,_,t,S,VRs.AK _ g2 (z.take _),C9,g3,λs' es=>by rw[AC,DZ _ _ _ W];have:=g4 s' es;rwa [AC] at this⟩
    haveI:At (L++X) b (r++t):=⟨by rw[Z];simp⟩
    haveI:Put (L++X) b (.row b (AK (r++t) a.off (i.take (min m k)))) ((f++.row b (AK (r++t) a.off (i.take (min m k)))::g)++X):=⟨λ_=>⟨f,g++X,.row b (r++t),by rw[Z];simp,C9,rfl⟩⟩
    refine WL.copyL (new:=i.take (min m k)) ho h1 hy hu hs s (λw hw j u N=>x w hw j u (by
     rw[Agg] at N
     split at N
     .exact N
     .cases N)) (Acw.2 λu hu=>Acw.1 ac u (List.mem_of_mem_take hu)) Dz hg hd ab ?_
    rw[ad,s]
    exact hc R _ _ (Rn.ext.same U) aa (.plain U)
  .cases h
 .cases h
omit hKs in
theorem XU(S:o.op=.convert A C B)(b:∃r,P.underlying A=some r)(h:PK P E H kn C B=some (v,G))(N:On ops o l)(K:o.dst=some d)(j:Nat.blt d n=true)
 (J:∀i p s,Rn.ext H G R i->SR E w0 i G p->VR i v s->WL P ops Q n F0 w0 rest ((d,s)::l) (p++X)):WL P ops Q n F0 w0 (o::rest) l (L++X):=by
 unfold PK at h
 try simp only[CX] at h
 split at h
 .rename_i a e hx Z
  split at h
  .rename_i M
   cases f:(Nat.blt H.n hpM && Nat.ble E.base H.n)
   .rw [f] at h;cases h
   .rw [f] at h
    cases h
    rw[Hr] at f
    have t:H.n<hpM:=by simpa using f.1
    have x:=Ai6 f.2
    obtain⟨u,z,D⟩:=hK.ev hS.gl hx
    obtain rfl:=D.same U
    obtain⟨r,b⟩:=b
    refine WL.convSB (m:=a.data.toList.length) (cs0:=a.data.toList.map Nx) S z U U b Z M N K j λg c _ k=>WL.KK λw F=>?_
    have O:(a.data.toList.map Nx++List.replicate (c-a.data.toList.length) (Value.int .u8 0)).length=c*1:=by rw[AC,Ri,Ai2];omega
    obtain⟨q1,q2⟩:=hS.add (e:=.row g (a.data.toList.map Nx++List.replicate (c-a.data.toList.length) (.int .u8 0))) (q:=c) (o:=.row (a.data.toList.map Nx) (some 1)) t x (Kb F) ⟨g,c,a.data.toList.map Nx,List.replicate (c-a.data.toList.length) (.int .u8 0),Rn.BX ..,VRs.plain (Qf _),Fr ..,(λe=>by cases e),λs' y=>by cases y;exact O⟩
    refine J _ (.row g _::L) _ q1 q2 ?_
    have:=VR.slice (R:=R.set H.n (g,c)) (o:=0) (n:=a.data.toList.length) (c:=DI) (Rn.BX R H.n (g,c)) (by rw[GM];exact k)
    rwa [GM] at this
  .cases h
 .cases h
end
end Go.Proofs.YtmhahajadgkolaaGreatDoor
namespace Go.Proofs.YtmhahajadgkolaaGreatDoor
open Go.RowKit Tryz
variable{A:Hp}{B D:Nat}{C F:Operand}{G:Kn}{J:Bool}{K:TypeId}{M:List Ent}

section
variable {P:Program}{ops:Array Oper}{Q:Exit->Act->World->Prop}{n d:Nat}{E:Ev}{w0:World}{R:Rn}{H:Hp}{L X:List Ent}{kn:Lk}{l:Kn}{o:Oper}{rest:List Oper}{v:Value}
variable (hS:SR E w0 R H L) (hK:KR R kn l)
include hS hK
theorem Afg(ho:o.op=.range B C)(h:Zj P E H kn B C=some (v,A))(hg:On ops o l)(hd:o.dst=some d)(y:Nat.blt d n=true)
 (hc:∀F L' v',Rn.ext H A R F->SR E w0 F A L'->VR F v v'->WL P ops Q n F0 w0 rest ((d,v')::l) (L'++X)):WL P ops Q n F0 w0 (o::rest) l (L++X):=by
 unfold Zj at h
 try simp only[CX] at h
 split at h
 .rename_i kt et hx hu
  cases k:(Nat.blt H.n hpM && Nat.ble E.base H.n)
  .rw [k] at h;cases h
  .rw [k] at h
   cases h
   rw[Hr] at k
   have G:H.n<hpM:=by simpa using k.1
   obtain⟨u,K,M⟩:=hK.ev hS.gl hx
   obtain rfl:=M.Sf
   refine WL.Aff ho K hu hg hd y λr _=>WL.KK λw O=>?_
   obtain⟨s,q2⟩:=hS.add (e:=.obj r (.mapIter none 0 #[] 0)) (q:=0) (o:=.iter none) G (Ai6 k.2) (Kb O) ⟨r,0,_,Rn.BX ..,Fr ..,trivial,λ_=>rfl⟩
   exact hc _ (.obj r (.mapIter none 0 #[] 0)::L) _ s q2 (.ptr (Rn.BX ..))
 .rename_i b kt et hx hu
  split at h
  .rename_i z J S
   cases k:(Nat.ble J.length 1 && Nat.blt H.n hpM && Nat.ble E.base H.n)
   .rw [k] at h;cases h
   .rw [k] at h
    cases h
    simp only[Hr] at k
    obtain⟨⟨b0,G⟩,b2⟩:=k
    have t:H.n<hpM:=by simpa using G
    obtain⟨m,j⟩:=Vc S
    obtain⟨g,q,x,c,kb,mm,D,g2,g3,_⟩:=hS.mapOf m j
    obtain⟨u,K,M⟩:=hK.ev hS.gl hx
    obtain⟨b',q',g4,rfl⟩:=M.OJ
    rw[D] at g4
    cases g4
    refine WL.range ho K hu (Ha _ g2) hg hd y λr _=>WL.KK λw O=>?_
    obtain⟨s,q2⟩:=hS.add (e:=.obj r (.mapIter (some g) c #[] c)) (q:=0) (o:=.iter (some b)) t (Ai6 b2) (Kb O) ⟨r,0,_,Rn.BX ..,Fr ..,trivial,λe=>by cases e⟩
    have Z:b≠H.n:=λe=>by
     have:=hS.new H.n (M2 _)
     rw[<- e,D] at this;cases this
    have p:(H.new (.iter (some b))).get b=some (.map z J none):=by rw[Hp.NS t Z];exact m
    obtain⟨a,f,N⟩:=List.append_of_mem (EQ (.obj r (.mapIter (some g) c #[] c)) g2)
    have q3:=q2.put (o':=.map z J (some (H.n,false))) (e':=.obj g (.map x c)) ⟨_,p⟩ j N (s.le _ _ D) U trivial ⟨g,q,x,c,kb,mm,s.le _ _ D,C9,g3.mono s.le,λi dn e=>by
     cases e
     exact⟨r,0, #[],Rn.BX ..,by rw[<- N];exact Fr ..,Ai6 b0,λ_=>rfl,λe=>by cases e⟩⟩
    rw[<- N] at q3
    exact hc _ (.obj r (.mapIter (some g) c #[] c)::L) _ s q3 (.ptr (Rn.BX ..))
  .cases h
 .cases h
theorem SR.flag{kt:Nat}{es:List (Value×Value)}(b:H.get B=some (.map kt es (some (D,J))))(G:H.get D=some (.iter (some B)))(hb:E.base<=B)(hi:E.base<=D){g q C qi c:Nat}{w:Array MapEntry}{seen seen':Array Nat}{kb:Value->Bool}{mm:Value->Option Value}{it:Option (Nat×Bool)}
 (g1:R B=some (g,q)) (g2:Ent.obj g (.map w c)∈L) (g3:Uu E R kt es w c kb mm) (g5:R D=some (C,qi)){A a:List Ent}(hL:L=A++.obj C (.mapIter (some g) c seen c)::a)
 (hit:∀j f,it=some (j,f)->j=D/\es.length<=1/\(f=false->seen' = #[])/\(f=true->∃e∈w.toList,seen' = #[].push e.born)):SR E w0 R (H.put B (some (.map kt es it))) (A++.obj C (.mapIter (some g) c seen' c)::a):=by
 have _:=hK
 have x:=Hp.YP b
 have hbi:B≠D:=λe=>by rw[e,G] at b;cases b
 have m:∀d,d∈L->d≠.obj C (.mapIter (some g) c seen c)->d∈A++.obj C (.mapIter (some g) c seen' c)::a:=λd s hde=>by
  rw[hL] at s
  rcases LI.1 s with s|s
  .exact Ha _ s
  .rcases Rl.1 s with s|s
   .exact absurd s hde
   .exact Mu _ (EQ _ s)
 have z:∀K,(∃u,(H.put B (some (.map kt es it))).get K=some u)->∃u,H.get K=some u:=λK ⟨u,hu⟩=>by
  by_cases Z:K=B
  .subst Z;exact⟨_,b⟩
  .rw [Hp.BF x Z] at hu;exact⟨u,hu⟩
 refine⟨hS.lim,hS.new,hS.gl,λj u k i=>?_,λK j b' q' r hi' k hbi' i h1 h2=>hS.inj K j b' q' r (z K hi') (z j k) hbi' i h1 h2,λj u k i=>?_⟩
 .by_cases ej:j=B
  .subst ej
   rw[Hp.FD x] at k
   cases k
   refine⟨g,q,w,c,kb,mm,g1,m _ g2 (λe=>by cases e),g3,λj' f e=>?_⟩
   obtain⟨rfl,e1,e2,F⟩:=hit j' f e
   exact⟨C,qi,seen',g5,C9,e1,e2,F⟩
  .rw [Hp.BF x ej] at k
   have hE:=hS.own j u k i
   by_cases Z:j=D
   .subst Z
    rw[G] at k
    cases k
    exact⟨C,qi,.mapIter (some g) c seen' c,g5,C9,trivial,λe=>by cases e⟩
   .have ne:∀c' r',R j=some (c',r')->c'≠C:=λc' r' hc' e=>Z (hS.inj j D c' r' qi ⟨_,k⟩ ⟨_,G⟩ i hi hc' (by rw[e];exact g5))
    cases u with
    | row cs op=>obtain⟨y,N,cs',t,S,m2,m3,m4⟩:=hE;exact⟨y,N,cs',t,S,m2,m _ m3 (λe=>by cases e),m4⟩
    | map kt2 es2 it2 =>
     obtain⟨y,N,es2',c2,kb2,m2,k1,k2,k3,k4⟩:=hE
     refine⟨y,N,es2',c2,kb2,m2,k1,m _ k2 (λe=>by cases e),k3,λj' f e=>?_⟩
     obtain⟨bi2,qi2,O,S,M,m3⟩:=k4 j' f e
     refine⟨bi2,qi2,O,S,m _ M λe2=>?_,m3⟩
     have F:y=g:=by injection e2 with _ F;injection F with F;injection F
     exact ej (hS.inj j B y N q ⟨_,k⟩ ⟨_,b⟩ i hb k1 (by rw[F];exact g1))
    | iter m2 =>
     obtain⟨y,N,ob,S,M,m3⟩:=hE
     exact⟨y,N,ob,S,m _ M λe=>ne y N S (by injection e),m3⟩
 .rw [Hp.BF x W] at k
  exact hS.old j u k i
theorem Ahs(hKs:GG P E){x:Operand}{D:Hp}(ho:o.op=.next x false)(h:AeR E H kn x=some (v,D))(hg:On ops o l)(hd:o.dst=some d)(M:Nat.blt d n=true)
 (hc:∀R' L' v',Rn.ext H D R R'->SR E w0 R' D L'->VR R' v v'->WL P ops Q n F0 w0 rest ((d,v')::l) (L'++X)):WL P ops Q n F0 w0 (o::rest) l (L++X):=by
 unfold AeR at h
 split at h
 .rename_i a hx
  obtain⟨u,Z,h2⟩:=hK.ev hS.gl hx
  obtain⟨bb,qq,h3,h4,rfl⟩:=h2.IZ
  split at h
  .rename_i hi
   cases t:(Nat.beq a.off 0 && Nat.ble E.base a.block)
   .rw [t] at h;cases h
   .rw [t] at h
    cases h
    rw[Hr] at t
    obtain⟨b1,q1,ob,m1,m2,_,m3⟩:=hS.own _ _ hi (Ai6 t.2)
    rw[h4] at m1
    cases m1
    obtain rfl:=m3 U
    rw[NE t.1] at Z
    exact WL.Ahr ho Z (Ha _ m2) hg hd M (hc R L _ (Rn.ext.same U) hS (.plain U))
  .rename_i b hi
   split at h
   .rename_i kt es i dn hm
    cases t:(Nat.beq i a.block && Nat.beq a.off 0 && Nat.ble E.base a.block && Nat.ble E.base b)
    .rw [t] at h;cases h
    .rw [t] at h
     dsimp only [cond_true] at h
     simp only[Hr] at t
     obtain⟨⟨⟨b1,b2⟩,b3⟩,b4⟩:=t
     have b1':=NE b1
     subst b1'
     rw[NE b2] at Z
     have k:=Ai6 b4
     obtain⟨g,q,J,c,kb,mm,g1,g2,w,g4⟩:=hS.mapOf hm k
     obtain⟨bi,qi,seen,g5,g6,g7,g8,g9⟩:=g4 _ dn U
     rw[h4] at g5
     cases g5
     obtain⟨A,B,hL⟩:=List.append_of_mem g6
     haveI:Loc (L++X) bb (.obj bb (.mapIter (some g) c seen c)) (λy=>A++y::(B++X)):=⟨⟨A,B++X,by rw[hL];simp,rfl⟩⟩
     have C:=λ(it:Option (Nat×Bool)) (m:Array Nat) hit=>SR.flag (it:=it) (seen':=m) hS hK hm hi k (Ai6 b3) g1 g2 w h4 hL hit
     refine WL.next (F:=λy=>A++y::(B++X)) ho Z (Ha _ g2) w.st hg hd M (λK=>?_) λe N hne=>?_
     .have hov:v=.tuple #[.bool false]/\D=H.put b (some (.map kt es none)):=by
       split at h
       .rename_i f s
        exfalso
        obtain rfl:=g8 U
        have hsz:=w.size
        cases S:J.toList with
        | nil=>have:=If List.length S;simp at this;simp[this] at hsz
        | cons e r=>exact absurd (K e (by rw[S];exact Fr ..)) C9
       .cases h;exact⟨rfl,rfl⟩
      obtain⟨rfl,rfl⟩:=hov
      have z:=C none seen λj dn' e=>by cases e
      rw[<- hL] at z
      exact hc R L _ (Rn.ext.same U) z (.plain U)
     .have hnx:∃f s,es=[(f,s)]/\v=.tuple #[.bool true,f,s]/\D=H.put b (some (.map kt es (some (a.block,true))))/\seen = #[]:=by
       split at h
       .rename_i f s
        cases h
        exact⟨f,s,rfl,rfl,rfl,g8 U⟩
       .rename_i hno
        exfalso
        obtain⟨f,s,G,_⟩:=w.AE hKs e N g7
        cases dn with
        | false=>exact hno f s G rfl
        | true =>
         obtain⟨e2,O,rfl⟩:=g9 U
         have h1':J.toList.length=1:=by rw[G] at w;simpa using w.size
         obtain⟨y,hy⟩:=List.length_eq_one_iff.1 h1'
         rw[hy] at N O
         obtain rfl:=Es.1 N
         obtain rfl:=Es.1 O
         exact hne C9
      obtain⟨f,s,G,rfl,rfl,rfl⟩:=hnx
      obtain⟨ka',u3,e2,e3,e4⟩:=w.AE hKs e N g7
      rw[G] at e2
      cases e2
      have z:=C (some (a.block,true)) (#[].push e.born) λj dn' ee=>by cases ee;exact⟨rfl,g7,(λh=>by cases h),λ_=>⟨e,N,rfl⟩⟩
      have hpk:CW f=true:=hKs.plain kt kb f w.key (w.kbs (f,s) (by rw[G];exact Fr ..))
      have hv2:VR R (.tuple #[.bool true,f,s]) (.tuple #[.bool true,e.key,e.val]):=by
       rw[e3]
       exact VR.tuple (cs:=[.bool true,f,s]) (cs':=[.bool true,f,e.val]) (.cons (.plain U) (.cons (.plain hpk) (.cons e4 .nil)))
      have:=hc R _ _ (Rn.ext.same U) z hv2
      rwa [Qs] at this
   .cases h
  .cases h
 .cases h
theorem AgH(G:o.op=.call { callee:=.builtin .append,args:=#[C,F],argTypes:=#[B,D] })(h:Adx P E H kn B D C F=some (v,A))(z:On ops o l)(y:o.dst=some d)(i:Nat.blt d n=true)
 (x:∀p r M,Rn.ext H A R p->SR E w0 p A r->VR p v M->WL P ops Q n F0 w0 rest ((d,M)::l) (r++X)):WL P ops Q n F0 w0 (o::rest) l (L++X):=by
 unfold Adx at h
 try simp only[CX,Iq,FX] at h
 split at h
 .rename_i a k c sa mc e e' Z hy K j
  split at h
  .rename_i s N J g
   obtain⟨u,t,m⟩:=hK.ev hS.gl Z
   obtain⟨u2,w,S⟩:=hK.ev hS.gl hy
   obtain⟨sa',mc',rfl,_⟩:=S.Uh
   split at h
   .cases f:(Nat.beq k 0 && Nat.beq c 0)
    .rw [f] at h;cases h
    .rw [f] at h
     cases h
     rw[Hr] at f
     obtain rfl:=NE f.1
     obtain rfl:=m.KP
     exact WL.Aae G t w K j J g (Lv _) z y i (x R L _ (Rn.ext.same U) hS m)
   .rename_i a
    cases f:a.spot.isNone
    .rw [f] at h;cases h
    .rw [f] at h
     cases h
     obtain⟨b,q,g1,g2,O,rfl⟩:=m.Gw (Ahj.1 f)
     exact WL.Aae G t w K j J g O z y i (x R L _ (Rn.ext.same U) hS m)
  .cases h
 .cases h
theorem AgJ(ho:o.op=.call { callee:=.builtin .append,args:=#[C,F],argTypes:=#[B,D] })(h:Ady P E H kn B D C F=some (v,A))(hg:On ops o l)(hd:o.dst=some d)(t:Nat.blt d n=true)
 (hc:∀i G J,Rn.ext H A R i->SR E w0 i A G->VR i v J->WL P ops Q n F0 w0 rest ((d,J)::l) (G++X)):WL P ops Q n F0 w0 (o::rest) l (L++X):=by
 unfold Ady at h
 try simp only[CX,Iq,FX,MN] at h
 split at h
 .rename_i e kk m hu y hx hy
  split at h
  .rename_i s zs a hs hz p
   cases f:(Nat.beq zs.length s && Nat.blt 0 s && Nat.blt 0 a && Nat.ble (m+1) 1000000 && Nat.ble a 1000 && Nat.blt H.n hpM && Nat.ble E.base H.n)
   .rw [f] at h;cases h
   .rw [f] at h
    cases h
    simp only[Hr] at f
    obtain⟨⟨⟨⟨⟨⟨K,M⟩,N⟩,O⟩,S⟩,Z⟩,b7⟩:=f
    have j:H.n<hpM:=by simpa using Z
    obtain⟨z,hzp⟩:=Iz hz
    obtain⟨u,h1,h2⟩:=hK.ev hS.gl hx
    obtain rfl:=h2.KP
    obtain⟨u2,h3,h4⟩:=hK.ev hS.gl hy
    obtain rfl:=h4.Lo
    refine WL.Aaf (m:=m+1) ho h1 h3 hu y hs p z (NE K) M N (Nat.succ_pos _) (Ai6 O) S hg hd t λg b k x r=>WL.KK λw hW=>?_
    obtain⟨q1,q2⟩:=hS.add (e:=.row g k) (q:=b) (o:=.row [] (some s)) j (Ai6 b7) (Kb hW) ⟨g,b,[],k,Rn.BX ..,.nil,Fr ..,(λe=>by cases e),λs' es=>by cases es;exact r⟩
    refine hc _ (.row g k::L) _ q1 q2 ?_
    have:=VR.slice (R:=R.set H.n (g,b)) (o:=0) (n:=m+1) (c:=DI) (Rn.BX R H.n (g,b)) (by rw[GM];exact x)
    rwa [GM] at this
  .cases h
 .cases h
end

def Xt.ex:Xt->Exit
 | .normal=>.normal
 | .ret=>.ret
 | .exit id=>.exit id
def Ur(P:Program)(E:Ev)(w0:World)(f:FuncId)(j:List Value)(H:Hp)(v:Value)(g:Hp):Prop :=
 ∀R L X w a,SR E w0 R H L->VRs R j a->St F0 w0 w (L++X)->Calls P f a.toArray w λe k=>∃b h i,e=.returned i/\Rn.ext H g R b/\SR E w0 b g h/\VR b v i/\St F0 w0 k (h++X)
def LoopOk(P:Program)(E:Ev)(w0:World)(n:Nat)(c:Code)(kn:Kn)(H:Hp)(x:Xt)(e:Kn)(f:Hp):Prop :=
 ∃k, ∀R l L X Q,SR E w0 R H L->KR R (look kn) l->(∀b h g,Rn.ext H f R b->SR E w0 b f g->KR b (look e) h->WE Q x.ex n F0 w0 h (g++X))->∀a w,Has n a l->St F0 w0 w (L++X)->Code.rounds P c Q k a w
structure L8(P:Program)(E:Ev)(w0:World)(rec:Job->Er Res):Prop where
 call:∀f vs H v H',rec (.call f vs H)=.ok (.val v H')->FJ P f/\Ur P E w0 f vs H v H'
 loop:∀n c kn H x kn' H',rec (.loop n c kn H)=.ok (.at_ x kn' H')->LoopOk P E w0 n c kn H x kn' H'
section
variable {P:Program}{ops:Array Oper}{Q:Exit->Act->World->Prop}{n:Nat}{E:Ev}{w0:World}{R:Rn}{H:Hp}{L X:List Ent}{kn:Lk}{l:Kn}{o:Oper}{rest:List Oper}{v:Value}{rec:Job->Er Res}
theorem O5{a:Option Hp}(h:Ul o a=.ok (v,A)):o.dst=none/\v=undef/\a=some A:=by
 unfold Ul at h
 split at h
 .rename_i b;cases h;exact⟨b,rfl,rfl⟩
 .cases h
theorem M4{r:Option (Value×Hp)}{x:Value×Hp}(h:WI o r=.ok x):(∃d,o.dst=some d)/\r=some x:=by
 unfold WI at h
 split at h
 .rename_i d _ a;cases h;exact⟨⟨d,a⟩,rfl⟩
 .cases h
theorem Po{a:Hp}(h:cond J (some A) none=some a):A=a:=by
 cases J
 .cases h
 .cases h;rfl
theorem Afy(h:SG P E H kn K C F=some A):H.n=A.n:=by
 unfold SG at h
 repeat' split at h
 all_goals first|(cases h;done)|(have:=Po h;subst this;rfl)|(cases h;rfl)
theorem Afq{v:Operand}(h:setE P E H kn K C F v=some A):H.n=A.n:=by
 unfold setE at h
 repeat' split at h
 all_goals first|(cases h;done)|(have:=Po h;subst this;rfl)|(cases h;rfl)
theorem AdV(h:Rv P E H kn C K=some A):H.n=A.n:=by
 unfold Rv at h
 repeat' split at h
 all_goals first|(cases h;done)|(have:=Po h;subst this;rfl)|(cases h;rfl)
theorem Adr(hKs:GG P E)(N:L8 P E w0 rec)(hS:SR E w0 R H L)(hK:KR R kn l){H2:Hp}(h:actE P E rec H kn o=.ok (v,H2))(A:On ops o l)(g:∀d,o.dst=some d->Nat.blt d n=true)
 (z:Kont P E ops Q n w0 rest l X o R v H H2):WL P ops Q n F0 w0 (o::rest) l (L++X):=by
 unfold actE at h
 try simp only[CX] at h
 split at h
 .rename_i t x y i
  obtain⟨a,rfl,b⟩:=O5 h
  exact AfA hS hK i b A a (z.none (Afy b) a)
 .rename_i t m k x i
  obtain⟨a,rfl,b⟩:=O5 h
  exact Afr hKs hS hK (.inl i) b A a (z.none (Afq b) a)
 .rename_i t m k x i
  obtain⟨a,rfl,b⟩:=O5 h
  exact Afr hKs hS hK (.inr i) b A a (z.none (Afq b) a)
 .rename_i x args G i
  split at h
  .rename_i d f fi ca vs a hx hvs
   have M:∃v2 Z,rec (.call f (fi.toList++vs++ca.toList) H)=.ok (.val v2 Z)/\v=v2/\H2=Z:=by
    unfold valR at h
    split at h
    .rename_i v2 Z M;cases h;exact⟨_,_,M,rfl,rfl⟩
    .cases h
    .cases h
   obtain⟨v2,Z,M,rfl,rfl⟩:=M
   obtain⟨hok,F⟩:=N.call _ _ _ _ _ M
   obtain⟨u,h1,h2⟩:=hK.ev hS.gl hx
   obtain⟨C,B,rfl,h3,h4⟩:=h2.Aeg
   obtain⟨J,h5,h6⟩:=hK.evs hS.gl hvs
   have p:o.op=.call { callee:=.value x,args:=args.toList.toArray,argTypes:=G }:=by rw[i]
   refine WL.FQ p h1 h5 hok A a (g d a) λw hW=>?_
   have D:C.toArray++J.toArray++B.toArray=(C++J++B).toArray:=C9
   rw[D]
   refine(F R L X w (C++J++B) hS ((h3.app h6).app h4) hW).mono ?_
   rintro e w' ⟨R',L',v',rfl,q1,q2,q3,q4⟩
   exact⟨v',L'++X,rfl,q4,z.some a R' L' v' q1 q2 q3⟩
  .cases h
 .rename_i args G i
  obtain⟨⟨d,a⟩,b⟩:=M4 h
  split at b
  .rename_i x y t S D O
   have p:o.op=.call { callee:=.builtin .append,args:=#[x,y],argTypes:=#[t,S] }:=by
    rw[i,show args = #[x,y] from Aif.1 D,show G = #[t,S] from Aif.1 O]
   split at b
   .rename_i r h0;cases b;exact AgH hS hK p h0 A a (g d a) (z.some a)
   .split at b
    .rename_i r h0;cases b;exact app_ok hS hK p h0 A a (g d a) (z.some a)
    .exact AgJ hS hK p b A a (g d a) (z.some a)
  .cases b
 .rename_i args G i
  obtain⟨a,rfl,b⟩:=O5 h
  split at b
  .rename_i x t D O
   have p:o.op=.call { callee:=.builtin .clear,args:=#[x],argTypes:=#[t] }:=by
    rw[i,show args = #[x] from Aif.1 D,show G = #[t] from Aif.1 O]
   exact AdW hS hK p b A a (z.none (AdV b) a)
  .cases b
 .rename_i args G i
  obtain⟨⟨d,a⟩,b⟩:=M4 h
  split at b
  .rename_i x y t S D O
   have p:o.op=.call { callee:=.builtin .copy,args:=#[x,y],argTypes:=#[t,S] }:=by
    rw[i,show args = #[x,y] from Aif.1 D,show G = #[t,S] from Aif.1 O]
   exact AgS hS hK p b A a (g d a) (z.some a)
  .cases b
 .rename_i s d0 x i
  obtain⟨⟨d,a⟩,b⟩:=M4 h
  split at b
  .rename_i ds hus;exact XU hS hK i ⟨ds,hus⟩ b A a (g d a) (z.some a)
  .cases b
 .rename_i t x i
  obtain⟨⟨d,a⟩,b⟩:=M4 h
  exact Afg hS hK i b A a (g d a) (z.some a)
 .rename_i x i
  obtain⟨⟨d,a⟩,b⟩:=M4 h
  exact Ahs hS hK hKs i b A a (g d a) (z.some a)
 .obtain ⟨⟨d,a⟩,b⟩:=M4 h
  split at b
  .rename_i vo f hm
   cases K:(Nat.blt H.n hpM && Nat.ble E.base H.n)
   .rw [K] at b;cases b
   .rw [K] at b
    cases b
    rw[Hr] at K
    have b1:H.n<hpM:=by simpa using K.1
    exact AaL hS hK hm (hS.new _ (M2 _)) (Ai6 K.2) (Hp.Aav b1 vo) (λj hj=>Hp.NS b1 hj vo) (Nat.le_succ _) (Aip _) b1 A a (g d a) λR' L' v' q=>z.some a R' L' v' ⟨q.1,Nat.le_succ _,λk hk=>q.2 k (Nat.ne_of_lt hk)⟩
  .cases b
theorem op_ok(hKs:GG P E)(f:L8 P E w0 rec)(hS:SR E w0 R H L)(hK:KR R kn l){k:Hp}(h:opE P E rec H kn o=.ok (v,k))(i:On ops o l)(e:∀d,o.dst=some d->Nat.blt d n=true)
 (g:Kont P E ops Q n w0 rest l X o R v H k):WL P ops Q n F0 w0 (o::rest) l (L++X):=by
 unfold opE at h
 rw[PR] at h
 split at h
 .rename_i u s
  cases h
  obtain⟨j,m,p⟩:=SO (X:=X) hKs hS hK s
  cases b:o.dst with
  | some d=>exact WL.val p i b (e d b) (g.some b R L j (Rn.ext.same rfl) hS m)
  | none =>
   refine WL.act i b λa w r q=>⟨w,L++X,.inr ⟨j,p a w r q⟩,q,?_⟩
   have:=g R L j (Rn.ext.same U) hS m
   rw[b] at this
   exact this
 .exact Adr hKs f hS hK h i e g
theorem Aew{v a:Value}(h:VR R v a)(b:Bool):isB a b=isB v b:=by
 cases h<;>rfl
theorem Jh(hK:KR R kn l){b:Bool}(h:Lm ops kn o=some b):(b=true->On ops o l)/\(b=false->∃j f a q,o.guard=some (j,a)/\(ops[j]?).bind (·.dst)=some f/\look l f=some q/\isB q a=false):=by
 unfold Lm at h
 split at h
 .rename_i g
  cases h
  exact⟨λ_=>.none g,λe=>by cases e⟩
 .rename_i j a g
  rw[QO,Ahu] at h
  split at h
  .rename_i f p
   split at h
   .rename_i u r
    cases h
    obtain⟨k,i,m⟩:=hK f u r
    refine⟨λe=>?_,λe=>⟨j,f,a,k,g,p,i,by rw[Aew m];exact e⟩⟩
    rw[<- Aew m] at e
    have:k=.bool a:=by
     cases k<;>first|(cases e;done)|(rename_i c;unfold isB at e;simp at e;rw[e])
    rw[this] at i
    exact .some g p i
   .cases h
  .cases h
theorem Aa5{b:Kn}(h:putE n o v G=some b):(∀d,o.dst=some d->Nat.blt d n=true)/\b=(match o.dst with|some d=>(d,v)::G|none=>G):=by
 unfold putE at h
 split at h
 .rename_i d a
  cases f:Nat.blt d n
  .rw [f] at h;cases h
  .rw [f] at h;cases h
   exact⟨λg e=>by rw[a] at e;cases e;exact f,by first|rw[a] | rfl⟩
 .rename_i a
  cases h
  exact⟨λg e=>(by rw[a] at e;cases e),by first|rw[a] | rfl⟩
theorem WL.Abh{v:Value}{p:Nat->Prop}(hg:o.guard=some (B,J))(hj:(ops[B]?).bind (·.dst)=some D)(hl:look l D=some v)(hv:isB v J=false)(e:∀d,o.dst=some d->Nat.blt d n=true)
 (h:WL P ops Q n p w0 rest (match o.dst with|some d=>(d,undef)::l|none=>l) M):WL P ops Q n p w0 (o::rest) l M:=by
 cases b:o.dst with
 | some d =>
  rw[b] at h
  exact WL.skip hg hj hl hv b (e d b) h
 | none =>
  rw[b] at h
  intro a w ha hS
  unfold wpList
  rw[E9 Fl]
  exact h _ _ (by rw[b];exact ha) hS
theorem Zc(hKs:GG P E)(b:L8 P E w0 rec):∀(u:List Oper) (R:Rn) (H:Hp) (L:List Ent) (kn l:Kn) (a:Kn) (e:Hp),SR E w0 R H L->KR R (look kn) l->opsE P E rec n ops u kn H=.ok (a,e) ->
 (∀i t k,Rn.ext H e R i->SR E w0 i e k->KR i (look a) t->WE Q .normal n F0 w0 t (k++X))->WL P ops Q n F0 w0 u l (L++X)
 | [],R,H,L,kn,l,a,e,hS,hK,h,m=>by
  cases h
  exact WL.nil (m R l L (Rn.ext.same U) hS hK)
 | o::rest,R,H,L,kn,l,a,e,hS,hK,h,m=>by
  unfold opsE at h
  rw[KD] at h
  split at h
  .rename_i g
   split at h
   .rename_i v x p
    split at h
    .rename_i r q
     obtain⟨f,rfl⟩:=Aa5 q
     refine op_ok hKs b hS hK p ((Jh hK g).1 U) f λi k O s M N=>?_
     refine Zc hKs b rest i x k _ _ a e M ?_ h λz F y G J K=>m z F y (s.trans G) J K
     cases o.dst with
     | some d=>rw[Ju];exact(hK.mono s.le).put N
     | none=>exact hK.mono s.le
    .cases h
   .cases h
  .rename_i g
   split at h
   .rename_i r q
    obtain⟨f,rfl⟩:=Aa5 q
    obtain⟨j,S,w,O,A,B,C,D⟩:=(Jh hK g).2 U
    refine WL.Abh A B C D f<|Zc hKs b rest R H L _ _ a e hS ?_ h m
    cases o.dst with
    | some d=>rw[Ju];exact hK.put (.plain rfl)
    | none=>exact hK
   .cases h
  .cases h
end

section
variable {P:Program}{E:Ev}{w0:World}{rec:Job->Er Res}
def AcU(P:Program)(E:Ev)(w0:World)(n:Nat)(c:Code)(kn:Kn)(H:Hp)(x:Xt)(b:Kn)(e:Hp):Prop :=
 ∀R l L X Q,SR E w0 R H L->KR R (look kn) l->(∀a g f,Rn.ext H e R a->SR E w0 a e f->KR a (look b) g->WE Q x.ex n F0 w0 g (f++X))->WC P c Q n F0 w0 l (L++X)
def Us(P:Program)(E:Ev)(w0:World)(rec:Job->Er Res):Prop :=
 ∀n id ops kn H a b,Aao P E rec n ops kn H=.ok (a,b)->AcU P E w0 n (.region id ops true) kn H .normal a b
theorem WE.pass{Q:Exit->Act->World->Prop}{K:Act->World->Prop}{x:Xt}(a:x≠.normal)(h:WE Q x.ex B F0 w0 G M):WE (Exit.then K Q) x.ex B F0 w0 G M:=by
 cases x with
 | normal=>exact absurd rfl a
 | ret=>exact WE.XY h
 | exit id=>exact WE.Uk h
theorem AaU{r:Er (Kn×Hp)}{x:Xt}(h:norE r=.ok (x,G,A)):x=.normal/\r=.ok (G,A):=by
 unfold norE at h
 split at h
 .cases h;exact⟨rfl,rfl⟩
 .cases h
theorem UP(hKs:GG P E)(D:L8 P E w0 rec)(G:Us P E w0 rec)(n:Nat):∀(c:Code) (kn:Kn) (H:Hp) (x:Xt) (g:Kn) (p:Hp),JK P E rec n c kn H=.ok (x,g,p)->AcU P E w0 n c kn H x g p:=by
 intro c
 induction c with
 | skip=>intro kn H x g p h R l L X Q hS hK m;cases h;exact WC.skip (m R l L (Rn.ext.same rfl) hS hK)
 | label i=>intro kn H x g p h R l L X Q hS hK m;cases h;exact WC.label (m R l L (Rn.ext.same rfl) hS hK)
 | exit id=>intro kn H x g p h R l L X Q hS hK m;cases h;exact WC.exit (m R l L (Rn.ext.same rfl) hS hK)
 | ret=>intro kn H x g p h R l L X Q hS hK m;cases h;exact WC.ret (m R l L (Rn.ext.same rfl) hS hK)
 | region id ops M =>
  intro kn H x g p h
  cases M with
  | false =>
   obtain⟨rfl,S⟩:=AaU (show norE (opsE P E rec n ops ops.toList kn H)=_ from h)
   intro R l L X Q hS hK m
   have e:(Code.region id ops false)=.region id ops.toList.toArray false:=by rw[Array.toArray_toList]
   rw[e]
   refine WC.region ?_
   rw[Array.toArray_toList]
   exact Zc hKs D ops.toList R H L kn l g p hS hK S m
  | true =>
   obtain⟨rfl,S⟩:=AaU (show norE (Aao P E rec n ops kn H)=_ from h)
   exact G n id ops kn H g p S
 | seq a b B C =>
  intro kn H x g p h R l L X Q hS hK m
  unfold JK at h
  refine cS ?_
  split at h
  .rename_i kn1 H1 J
   exact B _ _ _ _ _ J R l L X _ hS hK λs t q y z A=>WE.Zz (C _ _ _ _ _ h s t q X Q z A λR2 l2 L2 p1 p2 p3=>m R2 l2 L2 (y.trans p1) p2 p3)
  .rename_i r N
   refine B _ _ _ _ _ h R l L X _ hS hK λs t q y z A=>WE.pass (λe=>?_) (m s t q y z A)
   subst e
   exact N _ _ h
 | cond c a b B C =>
  intro kn H x g p h R l L X Q hS hK m
  unfold JK at h
  rw[KD] at h
  split at h
  .rename_i F
   obtain⟨u,Z,h2⟩:=hK.ev hS.gl F
   obtain rfl:=h2.Og
   exact WC.RC Z (B _ _ _ _ _ h R l L X Q hS hK m)
  .rename_i F
   obtain⟨u,Z,h2⟩:=hK.ev hS.gl F
   obtain rfl:=h2.Og
   exact WC.RA Z (C _ _ _ _ _ h R l L X Q hS hK m)
  .cases h
 | block id c K =>
  intro kn H x g p h R l L X Q hS hK m
  unfold JK at h
  refine cB ?_
  split at h
  .rename_i j kn1 H1 J
   cases O:Nat.beq j id
   .rw [O] at h
    cases h
    exact K _ _ _ _ _ J R l L X _ hS hK λs t q y z A=>WE.FI O (m s t q y z A)
   .rw [O] at h
    cases h
    obtain rfl:=NE O
    exact K _ _ _ _ _ J R l L X _ hS hK λs t q y z A=>WE.Pl (m s t q y z A)
  .rename_i r N
   refine K _ _ _ _ _ h R l L X _ hS hK λs t q y z A=>?_
   cases x with
   | normal=>exact WE.Aai (m s t q y z A)
   | ret=>exact WE.Ts (m s t q y z A)
   | exit j=>exact absurd h (N _ _ _)
 | loop c K =>
  intro kn H x g p h R l L X Q hS hK m
  unfold JK at h
  split at h
  .rename_i x2 kn2 H2 N
   cases h
   obtain⟨k,hk⟩:=D.loop _ _ _ _ _ _ _ N
   exact λa w J hW=>wp_loop_rounds k (hk R l L X Q hS hK m a w J hW)
  .cases h
  .cases h
 | rangeFunc f ps a b B C=>intro kn H x g p h;cases h
 | scope c K =>
  intro kn H x g p h R l L X Q hS hK m
  unfold JK at h
  refine WC.scope (K _ _ _ _ _ h R l L X _ hS hK λs t q y z A=>?_)
  have:=m s t q y z A
  cases x with
  | normal=>exact WE.AhR this
  | ret=>exact WE.KN this
  | exit j=>exact WE.Zp this
 | goto i=>intro kn H x g p h;cases h
 | refuse w=>intro kn H x g p h;cases h
/-! ### Results -/
theorem res_ok{R:Rn}{X:List Ent}{l:Kn}(hS:SR E w0 R A M)(hK:KR R (look G) l){r:ResultVar}{v:Value}(h:resE P G A r=some v):∃g,VR R v g/\HT P (λw=>St F0 w0 w (M++X)) l r g:=by
 cases r with
 | tmp t=>obtain⟨g,k,e⟩:=hK t v (by rw[<- KD];exact h);exact⟨g,e,k⟩
 | cell t B =>
  unfold resE at h
  dsimp only at h
  rw[KD] at h
  split at h
  .rename_i a O
   split at h
   .rename_i cs op hk
    obtain⟨u,k,e⟩:=hK t _ O
    obtain⟨b,q,h3,D,rfl⟩:=e.IZ
    obtain⟨b',q',i,x,F,y⟩:=hS.cells (X:=X) hk
    rw[D] at x
    cases x
    obtain⟨g,J,K⟩:=YH F h
    refine⟨g,J,_,k,λw z=>?_⟩
    rcases K with⟨s,hv⟩|⟨m,s,rfl,S⟩
    .have e:=y w z _ _ hv
     rw[PP] at e
     simp[loadVar,s.agg,load,Sem.run,e]
    .obtain ⟨⟨C,Z,N⟩,p⟩:=s
     replace p:(P.info? B).map (·.size)=some (YtmhahajadgkolaaGreatDoor.seg i a.off m).length:=by rw[S];exact p
     refine run_loadVar_mid (P:=P) w b a.off B _ C (λj u f=>?_) Z N p
     unfold YtmhahajadgkolaaGreatDoor.seg at f
     rw[Agg] at f
     split at f
     .rw [Aic] at f
      have:=y w z _ _ f
      rwa [PP] at this
     .cases f
   .cases h
  .cases h
theorem Vw{R:Rn}{H:Hp}{L X:List Ent}{kn l:Kn}{n:Nat}(hS:SR E w0 R H L)(hK:KR R (look kn) l):∀ {f:List ResultVar}{i:List Value},Aa7 P kn H f=some i->∃b,VRs R i b/\∀a w,Has n a l->St F0 w0 w (L++X)->Ys P (Zl P a.tmps) w f b
 | [],_,h=>by cases h;exact⟨[],.nil,λ_ _ _ _=>.nil⟩
 | r::f,i,h=>by
  unfold Aa7 at h
  split at h
  .rename_i v t
   split at h
   .rename_i x e
    cases h
    obtain⟨u,m,p⟩:=res_ok (X:=X) hS hK t
    obtain⟨g,q,s⟩:=Vw (X:=X) (n:=n) hS hK e
    exact⟨u::g,.cons m q,λa w k j=>.cons (p.run k j) (s a w k j)⟩
   .cases h
  .cases h
theorem Wq{R:Rn}:∀ {f e:List Value}(k:Nat),VRs R f e->KR R (look (Kl k f)) (Kl k e)
 | _,_,k,.nil=>λt v g=>by simp[Kl,look] at g
 | _,_,k,.cons a b=>by
  unfold Kl
  rw[Ju]
  exact(Wq (k+1) b).put a
theorem AhW(hKs:GG P E)(p:L8 P E w0 rec)(m:Us P E w0 rec):L8 P E w0 (Abi P E rec):=by
 constructor
 .intro f vs H v H' h
  unfold Abi at h
  dsimp only at h
  rw[QO,Ahu] at h
  split at h
  .rename_i B hf
   split at h
   .rename_i c hb
    cases q:(!(B.name == "runtime.NumGoroutine") && Nat.ble vs.length B.ntmps)
    .rw [q] at h;cases h
    .rw [q] at h
     dsimp only [cond_true] at h
     rw[Hr] at q
     have t:(B.name == "runtime.NumGoroutine")=false:=by simpa using q.1
     refine⟨Tt hf t hb,λR L X w vs' hS G i=>?_⟩
     split at h
     .cases h
     .rename_i x kn H1 hx g
      have O:KR R (look (Kl 0 vs)) (Kl 0 vs'):=Wq 0 G
      refine enter hf hb U (by rw[G.length];exact q.2) i ?_
      refine UP hKs p m B.ntmps c _ _ _ _ _ g R _ L X _ hS O λA M z D s F=>?_
      have J:x.ex=.ret\/x.ex=.normal:=by
       cases x with
       | normal=>exact .inr rfl
       | ret=>exact .inl rfl
       | exit j=>exact absurd rfl (hx j)
      split at h
      .rename_i u hr
       cases h
       obtain⟨y,K,N⟩:=Vw (X:=X) (n:=B.ntmps) s F hr
       cases K with
       | cons a b =>
        cases b
        rename_i u'
        refine WE.fin (v:=u') J (λa w r i=>?_) λw i=>⟨A,z,u',rfl,D,s,a,i⟩
        rw[H8 (P:=P),Ah5,NY (N a w r i),Aes]
        rfl
      .rename_i us aa hr
       cases h
       obtain⟨y,K,N⟩:=Vw (X:=X) (n:=B.ntmps) s F hr
       refine WE.fin (v:=.tuple y.toArray) J (λa w r i=>?_) λw i=>⟨A,z,_,rfl,D,s,.tuple K,i⟩
       rw[H8 (P:=P),Ah5,NY (N a w r i),Aes]
       have Z:¬y.toArray.size=1:=λe=>by
        have C:=K.length
        match us,C with
        | [],C=>rw[List.size_toArray,C] at e;simp at e
        | [u],C=>exact aa u rfl
        | _::_::_,C=>rw[List.size_toArray,C] at e;simp at e
       rw[dif_neg Z]
       rfl
      .cases h
     .cases h
   .cases h
  .cases h
 .intro n c kn H x kn' H' h
  unfold Abi at h
  dsimp only at h
  split at h
  .rename_i kn1 H1 g
   obtain⟨k,hk⟩:=p.loop _ _ _ _ _ _ _ h
   refine⟨k+1,λR l L X Q hS hK S a w r i=>?_⟩
   rw[rounds_succ]
   exact UP hKs p m n c _ _ _ _ _ g R l L X _ hS hK (λA M z D s F=>λa w r i=>hk A M z X Q s F (λR2 l2 L2 p1 p2 p3=>S R2 l2 L2 (D.trans p1) p2 p3) a w r i) a w r i
  .rename_i x1 kn1 H1 hx g
   cases h
   refine⟨1,λR l L X Q hS hK S a w r i=>?_⟩
   rw[rounds_succ]
   exact UP hKs p m n c _ _ _ _ _ g R l L X _ hS hK (λA M z D s F=>WE.pass (λe=>hx e) (S A M z D s F)) a w r i
  .cases h
theorem Zo(hKs:GG P E)(a:∀rec,L8 P E w0 rec->Us P E w0 rec):∀k,L8 P E w0 (runE P E k)
 | 0=>⟨λf g H v b h=>Da,λn c kn H x e b h=>Da⟩
 | k+1=>AhW hKs (Zo hKs a k) (a _ (Zo hKs a k))
end
end Go.Proofs.YtmhahajadgkolaaGreatDoor
namespace Go.Proofs.YtmhahajadgkolaaGreatDoor
open Go.RowKit Tryz
variable{A:Ev}{B:Rn}{C:List Ent}{D:World}{F G:Hp}

/-! ### Values that are equal -/
mutual
theorem NR:∀(a b:Value),eqV a b=true->a=b
 | .agg a,b,h=>by
  cases b<;>first|(simp only[eqV] at h;rw[Ad6 a _ h])|(simp[eqV] at h;done)
 | .tuple a,b,h=>by
  cases b<;>first|(simp only[eqV] at h;rw[Ad6 a _ h])|(simp[eqV] at h;done)
 | .bool a,b,h=>by
  cases b<;>first|(simp[eqV] at h;done)|(simp[eqV] at h;rw[h])
 | .int k a,b,h=>by
  cases b<;>first|(simp[eqV] at h;done)|(simp[eqV] at h;rw[h.1,h.2])
 | .string a,b,h=>by
  cases b with
  | string c =>
   simp only[eqV,decide_eq_true_eq] at h
   obtain⟨⟨a⟩⟩:=a
   obtain⟨⟨c⟩⟩:=c
   simp at h
   rw[h]
  | _=>simp[eqV] at h
 | .pointer a,b,h=>by
  cases b with
  | pointer c =>
   cases a<;>cases c<;>first|rfl|(simp[eqV] at h;done)|skip
   rename_i a c
   obtain⟨j,m,p⟩:=a
   obtain⟨q,r,s⟩:=c
   simp only[eqV,Hr,Ahj] at h
   obtain⟨⟨⟨e,f⟩,g⟩,i⟩:=h
   rw[NE e,NE f,g,i]
  | _=>cases a<;>simp[eqV] at h
 | .slice a n k,b,h=>by
  cases b with
  | slice c x w =>
   cases a<;>cases c<;>first|(simp[eqV] at h;done)|(simp[eqV] at h;rw[h.1,h.2];done)|skip
   rename_i a c
   obtain⟨j,m,p⟩:=a
   obtain⟨q,r,s⟩:=c
   simp only[eqV,Hr,Ahj] at h
   obtain⟨⟨⟨⟨⟨e,f⟩,g⟩,i⟩,t⟩,u⟩:=h
   rw[NE e,NE f,g,i,NE t,NE u]
  | _=>cases a<;>simp[eqV] at h
 | .map a,b,h=>by
  cases b with
  | map c=>cases a<;>cases c<;>first|rfl|(simp[eqV] at h;done)|(simp[eqV] at h;rw[h])
  | _=>cases a<;>simp[eqV] at h
 | .nilFunc,b,h=>by cases b<;>first|rfl|(simp[eqV] at h;done)
 | .nilIface,b,h=>by cases b<;>first|rfl|(simp[eqV] at h;done)
 | .float ..,b,h=>by simp[eqV] at h
 | .complex ..,b,h=>by simp[eqV] at h
 | .chan ..,b,h=>by simp[eqV] at h
 | .func ..,b,h=>by simp[eqV] at h
 | .iface ..,b,h=>by simp[eqV] at h
theorem Ad6:∀(a b:Array Value),eqA a b=true->a=b
 | ⟨a⟩,⟨b⟩,h=>by rw[YK a b (by simpa only [eqA] using h)]
theorem YK:∀(a b:List Value),eqL a b=true->a=b
 | [],[],_=>rfl
 | [],_::_,h=>by simp[eqL] at h
 | _::_,[],h=>by simp[eqL] at h
 | a::e,b::f,h=>by
  simp only[eqL,Hr] at h
  rw[NR a b h.1,YK e f h.2]
end
/-! ### What does not look at the memory -/
theorem VM{P:Program}{kn:Lk}{o:Oper}(a:Zk o.op=false)(H e:Hp):CO P A H kn o=CO P A e kn o:=by
 obtain⟨f,h,q,j,b,guard⟩:=o
 cases h with
 | slice t x m k g=>cases g<;>rfl
 | load t x=>cases a
 | lookup t x i p=>cases a
 | convert s d x=>cases a
 | call c=>cases a
 | entry x=>cases a
 | _=>rfl
/-! ### Parts of the memory -/
theorem SR.congr(h:SR A D B F C)(f:G.n=F.n)(a:∀k,G.get k=F.get k):SR A D B G C:=by
 refine⟨by rw[f];exact h.lim,λk hk=>h.new k (by rw[<- f];exact hk),h.gl,λk o hk=>h.own k o (by rw[<- a];exact hk),λj k b q r e hk=>?_,λk o hk=>h.old k o (by rw[<- a];exact hk)⟩
 rw[a] at e hk
 exact h.inj j k b q r e hk
def R7:VO->Prop
 | .row _ _=>True
 | .map _ _ none=>True
 | _=>False
theorem ER.pick{k:Nat}{r:List Ent}{o:VO}(h:ER A B k C o)(u:R7 o)(s:∀e∈C,(∃q,B k=some (e.at,q))->Lx e->e∈r):ER A B k r o:=by
 cases o with
 | row D K =>
  obtain⟨b,q,f,t,a,j,p,w⟩:=h
  exact⟨b,q,f,t,a,j,s _ p ⟨q,a⟩ trivial,w⟩
 | map J G y =>
  cases y with
  | none =>
   obtain⟨b,q,g,c,z,m,a,j,p,_⟩:=h
   exact⟨b,q,g,c,z,m,a,s _ j ⟨q,a⟩ trivial,p,λi F e=>by cases e⟩
  | some x=>exact u.elim
 | iter m=>exact u.elim
open Classical in
theorem SR.take(h:SR A D B F C)(hn:G.n=F.n)(a:∀k o,G.get k=some o->F.get k=some o)(s:∀k o,F.get k=some o->G.get k=none->A.base<=k/\R7 o):
 ∃L1 M,C.Perm (L1++M)/\SR A D B G L1/\∀k o,F.get k=some o->G.get k=none->ER A B k M o:=by
 let p:Ent->Bool:=λe=>decide (Lx e/\∃k o q,F.get k=some o/\G.get k=none/\A.base<=k/\B k=some (e.at,q))
 have hp:∀e,p e=true<->Lx e/\∃k o q,F.get k=some o/\G.get k=none/\A.base<=k/\B k=some (e.at,q):=λe=>Aim
 refine⟨C.filter λe => !p e,C.filter p,((List.filter_append_perm p C).symm.trans List.perm_append_comm),⟨by rw[hn];exact h.lim,λk hk=>h.new k (by rw[<- hn];exact hk),h.gl,λk o hk g=>?_,λj k b q r hj hk O S=>?_,λk o hk g=>h.old k o (a k o hk) g⟩,λk o hk hr=>?_⟩
 .have K:=h.own k o (a k o hk) g
  have y:∀e∈C, ∀q,B k=some (e.at,q)->e∈C.filter λe => !p e:=λe Z q hq=>Aig.2 ⟨Z,by
   cases u:p e with
   | false=>rfl
   | true =>
    obtain⟨_,k',o',q',a1,a2,a3,a4⟩:=(hp e).1 u
    have:=h.inj k k' e.at q q' ⟨_,a k o hk⟩ ⟨_,a1⟩ g a3 hq a4
    rw[this,a2] at hk
    cases hk⟩
  cases o with
  | row cs op =>
   obtain⟨b,q,z,t,f,w,x,N⟩:=K
   exact⟨b,q,z,t,f,w,y _ x q f,N⟩
  | map kt es it =>
   obtain⟨b,q,J,c,kb,m,f,w,x,N⟩:=K
   refine⟨b,q,J,c,kb,m,f,y _ w q f,x,λi dn e=>?_⟩
   obtain⟨bi,qi,seen,g1,g2,g3⟩:=N i dn e
   exact⟨bi,qi,seen,g1,Aig.2 ⟨g2,by
    cases u:p (.obj bi (.mapIter (some b) c seen c)) with
    | false=>rfl
    | true=>exact((hp _).1 u).1.elim⟩,g3⟩
  | iter m =>
   obtain⟨b,q,ob,f,w,x⟩:=K
   exact⟨b,q,ob,f,y _ w q f,x⟩
 .exact h.inj j k b q r (by obtain⟨o,ho⟩:=hj;exact⟨o,a j o ho⟩) (by obtain⟨o,ho⟩:=hk;exact⟨o,a k o ho⟩) O S
 .obtain ⟨g,hl⟩:=s k o hk hr
  exact(h.own k o hk g).pick hl λe Z ⟨q,hq⟩ hi=>Aig.2 ⟨Z,(hp e).2 ⟨hi,k,o,q,hk,hr,g,hq⟩⟩
theorem SR.give{M X:List Ent}{w:World}(h:SR A D B F C)(hW:St F0 D w (C++(M++X)))(hn:G.n=F.n)
 (g:∀k o,G.get k=some o->F.get k=some o\/(A.base<=k/\R7 o/\ER A B k M o))
 (z:∀j k o o' b q r,G.get j=some o->F.get j≠some o->G.get k=some o'->F.get k≠some o'->B j=some (b,q)->B k=some (b,r)->j=k):SR A D B G (C++M):=by
 have f:∀d∈C, ∀e∈M,d.at≠e.at:=λd hd e y=>by
  have:=hW.dist
  rw[Ai7,List.nodup_append] at this
  exact this.2.2 _ (Ab5 hd) _ (Ab5 (Ha _ y))
 refine⟨by rw[hn];exact h.lim,λk hk=>h.new k (by rw[<- hn];exact hk),h.gl,λk o hk J=>?_,λj k b q r K hk u x N O=>?_,λk o hk J=>?_⟩
 .rcases g k o hk with a|⟨_,_,a⟩
  .exact (h.own k o a J).mono (Rn.le.refl B) λe y=>Ha _ y
  .exact a.mono (Rn.le.refl B) λe y=>Mu _ y
 .obtain ⟨oj,K⟩:=K
  obtain⟨S,hk⟩:=hk
  have nw:∀ {i o},G.get i=some o->F.get i≠some o->ER A B i M o:=λ{i o} hi hni=>by
   rcases g i o hi with a|⟨_,_,a⟩
   .exact absurd a hni
   .exact a
  by_cases a:F.get j=some oj
  .by_cases m:F.get k=some S
   .exact h.inj j k b q r ⟨_,a⟩ ⟨_,m⟩ u x N O
   .obtain ⟨d,b1,q1,s,e2,e3⟩:=(h.own j oj a u).main
    obtain⟨Z,b2,q2,t,g2,g3⟩:=(nw hk m).main
    rw[N] at s;cases s
    rw[O] at t;cases t
    exact absurd (e2.trans g2.symm) (f d e3 Z g3)
  .by_cases m:F.get k=some S
   .obtain ⟨d,b1,q1,s,e2,e3⟩:=(h.own k S m x).main
    obtain⟨Z,b2,q2,t,g2,g3⟩:=(nw K a).main
    rw[O] at s;cases s
    rw[N] at t;cases t
    exact absurd (e2.trans g2.symm) (f d e3 Z g3)
   .exact z j k oj S b q r K a hk m N O
 .rcases g k o hk with a|⟨m,_,_⟩
  .exact h.old k o a J
  .exact absurd J W
/-! ### What waits to be laid -/
theorem Py(a:Nat):∀(b:List (Nat×Nat×VO)) (H:Hp),(CH a b H).n=H.n
 | [],H=>rfl
 | (i,id,e)::r,H=>by
  unfold CH
  cases a.testBit i
  .exact Py a r H
  .exact Py a r H
theorem JR(g:Nat):∀(m:List (Nat×Nat×VO)) (H:Hp) (k:Nat),(∀x∈m,x.2.1<hpM) ->
 ((CH g m H).get k=H.get k/\∀x∈m,g.testBit x.1=true->x.2.1≠k)\/∃x∈m,g.testBit x.1=true/\x.2.1=k/\(CH g m H).get k=some x.2.2
 | [],H,k,_=>.inl ⟨rfl,λx a=>by cases a⟩
 | (i,id,t)::r,H,k,j=>by
  have s:=JR g r H k λx a=>j x (EQ _ a)
  have h:id<hpM:=j _ (Fr ..)
  unfold CH
  cases q:g.testBit i
  .rcases s with⟨f,p⟩|⟨x,a,f⟩
   .exact .inl ⟨f,λx a b=>by
     rcases Rl.1 a with rfl|a
     .rw [q] at b;cases b
     .exact p x a b⟩
   .exact .inr ⟨x,EQ _ a,f⟩
  .by_cases hk:k=id
   .subst hk
    exact .inr ⟨_,Fr ..,q,rfl,Hp.FD h _⟩
   .dsimp only [cond_true]
    rw[Hp.BF h hk]
    rcases s with⟨f,p⟩|⟨x,a,f⟩
    .exact .inl ⟨f,λx a b=>by
      rcases Rl.1 a with rfl|a
      .exact λe=>hk e.symm
      .exact p x a b⟩
    .exact .inr ⟨x,EQ _ a,f⟩
theorem Mk:∀(a:List (Nat×Nat×VO)) (H:Hp),(Jp a H).n=H.n
 | [],_=>rfl
 | (_,_,_)::r,H=>Mk r H
theorem AbH:∀(g:List (Nat×Nat×VO)) (H:Hp) (k:Nat),(∀x∈g,x.2.1<hpM) ->
 ((Jp g H).get k=H.get k/\∀x∈g,x.2.1≠k)\/∃x∈g,x.2.1=k/\(Jp g H).get k=some x.2.2
 | [],H,k,_=>.inl ⟨rfl,λx a=>by cases a⟩
 | (i,id,p)::r,H,k,f=>by
  have m:=AbH r H k λx a=>f x (EQ _ a)
  have b:id<hpM:=f _ (Fr ..)
  unfold Jp
  by_cases hk:k=id
  .subst hk
   exact .inr ⟨_,Fr ..,rfl,Hp.FD b _⟩
  .rw [Hp.BF b hk]
   rcases m with⟨h,j⟩|⟨x,a,h⟩
   .exact .inl ⟨h,λx a=>by
     rcases Rl.1 a with rfl|a
     .exact λe=>hk e.symm
     .exact j x a⟩
   .exact .inr ⟨x,EQ _ a,h⟩
theorem IW(e:Nat):∀(h:List (Nat×Nat×VO)) (x:Nat×Nat×VO),x∈EG e h<->x∈h/\e.testBit x.1=false
 | [],x=>by simp[EG]
 | (i,id,j)::r,x=>by
  have g:=IW e r x
  unfold EG
  cases f:e.testBit i
  .rw [cond_false,Rl,Rl,g]
   constructor
   .rintro (rfl|⟨b,a⟩)
    .exact ⟨.inl U,f⟩
    .exact ⟨.inr b,a⟩
   .rintro ⟨rfl|b,a⟩
    .exact .inl U
    .exact .inr ⟨b,a⟩
  .rw [Aih,Rl,g]
   constructor
   .rintro ⟨b,a⟩;exact⟨.inr b,a⟩
   .rintro ⟨rfl|b,a⟩
    .rw [f] at a;cases a
    .exact ⟨b,a⟩
theorem RB{e:Type}{b:Bool}{a:Option e}{r:e}(h:cond b a none=some r):a=some r:=by
 cases b
 .cases h
 .exact h
theorem Y0{P:Program}{kn:Lk}{e:Op}{b:VO}{f:Nat->Value}(h:R8 P A kn e=some (b,f)):R7 b:=by
 unfold R8 at h
 split at h
 .split at h
  .cases h;trivial
  .cases h
 .split at h
  .cases h;trivial
  .cases h
 .split at h
  .split at h
   .have a:=RB h
    split at a
    .cases a;trivial
    .cases a
   .cases h
  .cases h
 .split at h
  .split at h
   .have a:=RB h
    cases a;trivial
   .cases h
  .cases h
 .split at h
  .have a:=RB h
   cases a;trivial
  .cases h
 .cases h
end Go.Proofs.YtmhahajadgkolaaGreatDoor
namespace Go.Proofs.YtmhahajadgkolaaGreatDoor
open Go.RowKit Tryz
variable{A C:Nat}{B:Oper}{D:Value}{F:Array Oper}{G:Program}{J:World}{K:Exit->Act->World->Prop}

section
variable {P:Program}{E:Ev}{rec:Job->Er Res}{n:Nat}{ops:Array Oper}{kn0:Kn}{id0:Nat}{bef:List Nat}
def Iv(m:Nat)(o:Oper)(v:Value)(a:List (Nat×Nat×Value)):List (Nat×Nat×Value):=match o.dst with
 | some d=>(m,d,v)::a
 | none=>a
theorem Mq{a:Dr}{g:List (Nat×Nat×Value)}(h:a.note n A B D=some g):g=Iv A B D a.rk/\∀d,B.dst=some d->Nat.blt d n=true:=by
 unfold Dr.note at h
 unfold Iv
 split at h
 .rename_i d f
  rw[f]
  cases b:Nat.blt d n
  .rw [b] at h;cases h
  .rw [b] at h;cases h
   exact⟨rfl,λi e=>by cases e;exact b⟩
 .rename_i f
  rw[f]
  cases h
  exact⟨rfl,λd e=>by cases e⟩
inductive NH (P:Program) (E:Ev) (rec:Job->Er Res) (ops:Array Oper) (kn0:Kn) (id0:Nat) (bef:List Nat) (m:Nat) (o:Oper) (D D':Dr):Prop
 | skip:Lm ops (knI ops bef kn0 D.rk m) o=some false->D'=⟨Iv m o undef D.rk,D.H,D.pend,D.ws,D.rs⟩->NH P E rec ops kn0 id0 bef m o D D'
 | made (vo:VO) (f:Nat->Value) (d:Nat):Lm ops (knI ops bef kn0 D.rk m) o=some true->GZ o.op=true->R8 P E (knI ops bef kn0 D.rk m) o.op=some (vo,f)->o.dst=some d ->
  D'=⟨(m,d,f (id0+m))::D.rk,D.H,(m,id0+m,vo)::D.pend,D.ws,D.rs⟩->NH P E rec ops kn0 id0 bef m o D D'
 | val (v:Value):Lm ops (knI ops bef kn0 D.rk m) o=some true->Zk o.op=false->CO P E (CH (BE bef m) D.pend D.H) (knI ops bef kn0 D.rk m) o=some v ->
  D'=⟨Iv m o v D.rk,D.H,D.pend,D.ws,D.rs⟩->NH P E rec ops kn0 id0 bef m o D D'
 | read (v:Value):Lm ops (knI ops bef kn0 D.rk m) o=some true->CO P E (CH (BE bef m) D.pend D.H) (knI ops bef kn0 D.rk m) o=some v ->
  JA P E (knI ops bef kn0 D.rk m) o v (BE bef m) D.pend D.ws=true ->
  D'=⟨Iv m o v D.rk,D.H,D.pend,D.ws,(m,o,v)::D.rs⟩->NH P E rec ops kn0 id0 bef m o D D'
 | act (v:Value) (H2:Hp):Lm ops (knI ops bef kn0 D.rk m) o=some true->actE P E rec (CH (BE bef m) D.pend D.H) (knI ops bef kn0 D.rk m) o=.ok (v,H2) ->
  (∀j Hb r,D.ws=(j,Hb)::r->(BE bef m).testBit j=true)->M7 id0 (BE bef m) H2 0 ops.toList=true ->
  Nk P E ops bef kn0 D.rk H2 (BE bef m) (EG (BE bef m) D.pend) D.rs=true ->
  D'=⟨Iv m o v D.rk,H2,EG (BE bef m) D.pend,(m,D.H)::D.ws,D.rs⟩->NH P E rec ops kn0 id0 bef m o D D'
theorem XT{D u:Dr}(h:Je P E rec n ops kn0 id0 bef A B D=.ok u):(∀d,B.dst=some d->Nat.blt d n=true)/\NH P E rec ops kn0 id0 bef A B D u:=by
 unfold Je at h
 rw[PR] at h
 split at h
 .cases h
 .rename_i i
  split at h
  .rename_i k g
   cases h
   obtain⟨rfl,b⟩:=Mq g
   exact⟨b,.skip i U⟩
  .cases h
 .rename_i i
  split at h
  .rename_i t
   split at h
   .rename_i G f F
    split at h
    .rename_i k d g b
     cases h
     obtain⟨rfl,s⟩:=Mq g
     refine⟨s,.made G f d i t F b ?_⟩
     unfold Iv
     rw[b]
    .cases h
   .cases h
  .split at h
   .rename_i v y
    split at h
    .rename_i x
     cases q:JA P E (knI ops bef kn0 D.rk A) B v (BE bef A) D.pend D.ws
     .rw [q] at h;cases h
     .rw [q,Aih] at h
      split at h
      .rename_i k g
       cases h
       obtain⟨rfl,b⟩:=Mq g
       exact⟨b,.read v i y q U⟩
      .cases h
    .rename_i x
     split at h
     .rename_i k g
      cases h
      obtain⟨rfl,b⟩:=Mq g
      exact⟨b,.val v i x y U⟩
     .cases h
   .generalize w:Aem (BE bef A) D.ws=a at h
    cases a
    .cases h
    .rw [Aih] at h
     split at h
     .rename_i v m z
      split at h
      .rename_i k g
       generalize p:(M7 id0 (BE bef A) m 0 ops.toList && Nk P E ops bef kn0 D.rk m (BE bef A) (EG (BE bef A) D.pend) D.rs)=C at h
       cases C
       .cases h
       .cases h
        rw[Hr] at p
        obtain⟨rfl,b⟩:=Mq g
        exact⟨b,.act v m i z (λj J r e=>by rw[e] at w;exact w) p.1 p.2 U⟩
      .cases h
     .cases h
theorem XZ:∀(b:List Oper) (i:Nat) (D a:Dr),QI P E rec n ops kn0 id0 bef i b D=.ok a->∃Ds:Nat->Dr,Ds 0=D/\Ds b.length=a/\∀m o,b[m]?=some o->Je P E rec n ops kn0 id0 bef (i+m) o (Ds m)=.ok (Ds (m+1))
 | [],i,D,a,h=>by cases h;exact⟨λ_=>D,rfl,rfl,λm o hm=>by simp at hm⟩
 | o::rest,i,D,a,h=>by
  unfold QI at h
  split at h
  .rename_i f r
   obtain⟨Ds,g,j,q⟩:=XZ rest (i+1) f a h
   refine⟨λk=>match k with|0=>D|k+1=>Ds k,rfl,j,λm e hm=>?_⟩
   cases m with
   | zero =>
    simp at hm
    subst hm
    show Je P E rec n ops kn0 id0 bef (i+0) o D=.ok (Ds 0)
    rw[g]
    exact r
   | succ m =>
    have:=q m e D9
    show Je P E rec n ops kn0 id0 bef (i+(m+1)) e (Ds m)=.ok (Ds (m+1))
    rw[show i+(m+1)=i+1+m by omega]
    exact this
  .cases h
end
/-! ### The marks -/
theorem Ws{bef:List Nat}:∀(b:List Oper) (i:Nat),Tq bef i b=true->∀m o,b[m]?=some o->Re bef (i+m) o=true
 | [],i,_,m,o,hm=>by simp at hm
 | a::r,i,h,m,o,hm=>by
  unfold Tq at h
  rw[Hr] at h
  cases m with
  | zero=>simp at hm;subst hm;exact h.1
  | succ m =>
   rw[show i+(m+1)=i+1+m by omega]
   exact Ws r (i+1) h.2 m o D9
structure VV(bef:List Nat)(ops:Array Oper):Prop where
 edge:∀i o,ops[i]?=some o->∀e∈o.after,Region.binds .any e=true->e.on<i
 why:∀i o,ops[i]?=some o->∀j,(BE bef i).testBit j=true->j<i/\∃e∈o.after,Region.binds .any e=true/\(e.on=j\/(BE bef e.on).testBit j=true)
theorem AdF{bef:List Nat}(h:Tq bef 0 F.toList=true):VV bef F:=by
 have k:∀i o,F[i]?=some o->Re bef i o=true:=λi o f=>by
  have:=Ws F.toList 0 h i o (by rw[Ahu];exact f)
  rwa [PP] at this
 constructor
 .intro i o f e q m
  have a:=k i o f
  unfold Re at a
  rw[Hr,Hr] at a
  have:=Acw.1 a.1.1 e (by simpa using q)
  rw[m] at this
  simpa using this
 .intro i o f j r
  have a:=k i o f
  unfold Re at a
  rw[Hr,Hr] at a
  have s:BE bef i<2^i:=by simpa using a.2
  have g:j<i:=by
   rcases Ai0 j i with b|b
   .exact b
   .rw [Nat.testBit_lt_two_pow (Ain s (Aiy W b))] at r
    cases r
  refine⟨g,?_⟩
  have:=Acw.1 a.1.2 j (Aij.2 g)
  rw[r] at this
  simp only[Bool.not_true,Bool.false_or,List.any_eq_true,Hr,Ait] at this
  obtain⟨e,q,m,b⟩:=this
  exact⟨e,by simpa using q,m,by simpa using b⟩
theorem VV.closed{bef:List Nat}(s:VV bef F){listed:Array Bool}(x:K6 .any F listed):∀(i:Nat) (o:Oper),F[i]?=some o->(∀e∈o.after,Region.binds .any e=true->listed.getD e.on false=true)->∀j,(BE bef i).testBit j=true->listed.getD j false=true:=by
 intro i
 induction i using Nat.strongRecOn with
 | ind i B =>
  intro o q a j y
  obtain⟨z,e,u,t,g⟩:=s.why i o q j y
  have f:=a e u t
  rcases g with rfl|g
  .exact f
  .have r:=s.edge i o q e u t
   have A:i<F.size:=(AbY.1 q).1
   have b:F[e.on]?=some F[e.on]:=Array.getElem?_eq_getElem W
   exact B e.on r _ b (λw m k=>x e.on _ b f w m k) j g
/-! ### Slots -/
theorem Mc:∀(t:List Oper) (q:List Nat),Pr q t=true->(∀(m:Nat) o d,t[m]?=some o->o.dst=some d->d ∉ q)/\∀(m j:Nat) (o k:Oper) (d:Nat),t[m]?=some o->t[j]?=some k->o.dst=some d->k.dst=some d->m=j
 | [],q,_=>⟨λm o d hm=>by simp at hm,λm j o k d hm=>by simp at hm⟩
 | a::r,q,h=>by
  unfold Pr at h
  split at h
  .rename_i d0 i
   rw[Hr] at h
   obtain⟨s,u⟩:=Mc r (d0::q) h.2
   have w:d0 ∉ q:=by simpa using h.1
   refine⟨λm o d hm g=>?_,λm j o k d hm f g b=>?_⟩
   .cases m with
    | zero=>simp at hm;subst hm;rw[i] at g;cases g;exact w
    | succ m=>exact λe=>s m o d D9 g (EQ _ e)
   .cases m with
    | zero =>
     simp at hm;subst hm;rw[i] at g;cases g
     cases j with
     | zero=>rfl
     | succ j=>exact absurd (Fr ..) (s j k d0 (by simpa using f) b)
    | succ m =>
     cases j with
     | zero=>simp at f;subst f;rw[i] at b;cases b;exact absurd (Fr ..) (s m o d0 D9 g)
     | succ j=>rw[u m j o k d D9 (by simpa using f) g b]
  .rename_i i
   obtain⟨s,u⟩:=Mc r q h
   refine⟨λm o d hm g=>?_,λm j o k d hm f g b=>?_⟩
   .cases m with
    | zero=>simp at hm;subst hm;rw[i] at g;cases g
    | succ m=>exact s m o d D9 g
   .cases m with
    | zero=>simp at hm;subst hm;rw[i] at g;cases g
    | succ m =>
     cases j with
     | zero=>simp at f;subst f;rw[i] at b;cases b
     | succ j=>rw[u m j o k d D9 (by simpa using f) g b]

structure Trk(P:Program)(E:Ev)(rec:Job->Er Res)(n:Nat)(ops:Array Oper)(kn0:Kn)(id0:Nat)(bef:List Nat)(Ds:Nat->Dr):Prop where
 rk0:(Ds 0).rk=[]
 pend0:(Ds 0).pend=[]
 ws0:(Ds 0).ws=[]
 rs0:(Ds 0).rs=[]
 dn:∀(m:Nat) (o:Oper),ops[m]?=some o->∀d,o.dst=some d->Nat.blt d n=true
 step:∀(m:Nat) (o:Oper),ops[m]?=some o->NH P E rec ops kn0 id0 bef m o (Ds m) (Ds (m+1))
 bef:VV bef ops
 dst:∀(m m':Nat) (o o':Oper) (d:Nat),ops[m]?=some o->ops[m']?=some o'->o.dst=some d->o'.dst=some d->m=m'
def EO(Ds:Nat->Dr)(m:Nat):Prop:=(Ds (m+1)).ws=(m,(Ds m).H)::(Ds m).ws
def Item(Ds:Nat->Dr)(id0 j:Nat)(a:VO):Prop:=(Ds (j+1)).pend=(j,id0+j,a)::(Ds j).pend
def I9(Ds:Nat->Dr)(bef:List Nat)(c j:Nat):Prop:=∀a,a<c->EO Ds a->(BE bef a).testBit j=false
section
variable {P:Program}{E:Ev}{rec:Job->Er Res}{n:Nat}{ops:Array Oper}{kn0:Kn}{id0:Nat}{bef:List Nat}{Ds:Nat->Dr}
theorem G7(h:A<ops.size):ops[A]?=some ops[A]:=Array.getElem?_eq_getElem h
theorem Mv(h:ops[A]?=some B):A<ops.size:=(AbY.1 h).1
variable (T:Trk P E rec n ops kn0 id0 bef Ds)
include T
theorem Trk.Ads{m:Nat}(b:m<ops.size):EO Ds m\/(¬EO Ds m/\(Ds (m+1)).ws=(Ds m).ws/\(Ds (m+1)).H=(Ds m).H):=by
 have a:(Ds (m+1)).ws=(Ds m).ws->¬EO Ds m:=λh h'=>by
  unfold EO at h'
  exact Bl
 cases T.step m _ (G7 b) with
 | skip _ e=>rw[e] at a ⊢;exact .inr ⟨a rfl,rfl,rfl⟩
 | made i f d _ _ _ _ e=>rw[e] at a ⊢;exact .inr ⟨a rfl,rfl,rfl⟩
 | val v _ _ _ e=>rw[e] at a ⊢;exact .inr ⟨a rfl,rfl,rfl⟩
 | read v _ _ _ e=>rw[e] at a ⊢;exact .inr ⟨a rfl,rfl,rfl⟩
 | act v g _ _ _ _ _ e=>left;unfold EO;rw[e]
theorem Trk.Abw:∀m,m<=ops.size->∀j f,(j,f)∈(Ds m).ws<->j<m/\EO Ds j/\f=(Ds j).H
 | 0,_,j,f=>by rw[T.ws0];simp
 | m+1,u,j,f=>by
  have s:=Trk.Abw m W j f
  rcases T.Ads (m:=m) W with r|⟨q,t,_⟩
  .have g:=r
   unfold EO at g
   rw[g,Rl,s]
   constructor
   .rintro (h|⟨i,a,b⟩)
    .cases h;exact⟨Aip _,r,rfl⟩
    .exact ⟨W,a,b⟩
   .rintro ⟨i,a,b⟩
    by_cases k:j=m
    .subst k;subst b;exact .inl rfl
    .exact .inr ⟨W,a,b⟩
  .rw [t,s]
   constructor
   .rintro ⟨i,a,b⟩;exact⟨W,a,b⟩
   .rintro ⟨i,a,b⟩
    have:j≠m:=λe=>q (e ▸ a)
    exact⟨W,a,b⟩
theorem Trk.same{m:Nat}:∀k,m+k<=ops.size->(∀a,m<=a->a<m+k->¬EO Ds a)->(Ds (m+k)).H=(Ds m).H/\(Ds (m+k)).ws=(Ds m).ws
 | 0,_,_=>⟨rfl,rfl⟩
 | k+1,hk,h=>by
  obtain⟨e,f⟩:=Trk.same k W λa b j=>h a b W
  rcases T.Ads (m:=m+k) W with b|⟨_,i,g⟩
  .exact absurd b (h _ W W)
  .rw [<- Nat.add_assoc]
   exact⟨g.trans e,i.trans f⟩
theorem Trk.Ut(h:A<=C)(e:C<=ops.size)(b:∀a,A<=a->a<C->¬EO Ds a):(Ds C).H=(Ds A).H:=by
 obtain⟨k,rfl⟩:=Nat.le.dest h
 exact(T.same k e b).1
theorem Trk.chain(s:A<ops.size)(g:EO Ds A)(q:EO Ds C)(i:C<A)(j:∀a,C<a->a<A->¬EO Ds a):(BE bef A).testBit C=true:=by
 obtain⟨k,hk⟩:=Nat.le.dest (show C+1<=A from i)
 have m:=(T.same (m:=C+1) k W λa u w=>j a W W).2
 rw[hk] at m
 unfold EO at q
 rw[q] at m
 have b:(Ds (A+1)).ws=(Ds A).ws->False:=λh=>by
  unfold EO at g
  rw[h] at g
  exact absurd (If List.length g) C9
 cases T.step A _ (G7 s) with
 | skip _ e=>exact(b Dj).elim
 | made x f d _ _ _ _ e=>exact(b Dj).elim
 | val v _ _ _ e=>exact(b Dj).elim
 | read v _ _ _ e=>exact(b Dj).elim
 | act v t _ _ r _ _ e=>exact r C _ _ m
theorem Trk.Ae8(a:A<ops.size)(h:(BE bef A).testBit C=true):C<A:=(T.bef.why A _ (G7 a) C h).1
theorem Trk.GS:∀m,m<=ops.size->∀j id t,(j,id,t)∈(Ds m).pend<->j<m/\Item Ds id0 j t/\id=id0+j/\I9 Ds bef m j
 | 0,_,j,id,t=>by rw[T.pend0];simp
 | m+1,M,j,id,t=>by
  have B:=Trk.GS m W
  have C:=B j id t
  have w:∀a,a<m+1->EO Ds a->(BE bef a).testBit m=false:=λa x _=>by
   cases J:(BE bef a).testBit m with
   | false=>rfl
   | true=>exact absurd (T.Ae8 W J) W
  have k:¬EO Ds m->(Ds (m+1)).pend=(Ds m).pend->((j,id,t)∈(Ds (m+1)).pend<->j<m+1/\Item Ds id0 j t/\id=id0+j/\I9 Ds bef (m+1) j):=λu s=>by
   rw[s,C]
   constructor
   .rintro ⟨y,b,q,r⟩
    exact⟨W,b,q,λa x i=>by
     by_cases e:a=m
     .exact absurd (e ▸ i) u
     .exact r a W i⟩
   .rintro ⟨y,b,q,r⟩
    have:j≠m:=λe=>by
     subst e
     unfold Item at b
     rw[s] at b
     exact absurd (If List.length b) C9
    exact⟨W,b,q,λa x=>r a W⟩
  have g:(Ds (m+1)).ws=(Ds m).ws->¬EO Ds m:=λh h'=>by
   unfold EO at h'
   exact Bl
  cases T.step m _ (G7 (show m<ops.size by omega)) with
  | skip _ e=>exact k (g Dj) Dj
  | val v _ _ _ e=>exact k (g Dj) Dj
  | read v _ _ _ e=>exact k (g Dj) Dj
  | made D f d _ _ _ _ e =>
   have u:=g Dj
   have s:(Ds (m+1)).pend=(m,id0+m,D)::(Ds m).pend:=by rw[e]
   rw[s,Rl,C]
   constructor
   .rintro (h|⟨y,b,q,r⟩)
    .cases h;exact⟨Aip _,s,rfl,w⟩
    .exact ⟨W,b,q,λa x i=>by
      by_cases e:a=m
      .exact absurd (e ▸ i) u
      .exact r a W i⟩
   .rintro ⟨y,b,q,r⟩
    by_cases e:j=m
    .subst e
     unfold Item at b
     rw[s] at b
     left
     rw[q]
     exact(List.cons.inj b).1.symm
    .exact .inr ⟨W,b,q,λa x=>r a W⟩
  | act v K _ _ _ _ _ e =>
   have z:EO Ds m:=by unfold EO;rw[e]
   have s:(Ds (m+1)).pend=EG (BE bef m) (Ds m).pend:=by rw[e]
   rw[s,IW,C]
   constructor
   .rintro ⟨⟨y,b,q,r⟩,G⟩
    exact⟨W,b,q,λa x i=>by
     by_cases e:a=m
     .subst e;exact G
     .exact r a W i⟩
   .rintro ⟨y,b,q,r⟩
    have:j≠m:=λF=>by
     subst F
     unfold Item at b
     rw[s] at b
     have A:(j,id0+j,t)∈EG (BE bef j) (Ds j).pend:=by rw[b];exact Fr ..
     rw[IW] at A
     have:=((B j (id0+j) t).1 A.1).1
     omega
    exact⟨⟨W,b,q,λa x=>r a W⟩,r m W z⟩
/-! ### What is written down of the frame -/
theorem Trk.KL{m:Nat}:∀k,m+k<=ops.size->∃g,(Ds (m+k)).rk=g++(Ds m).rk/\∀x∈g,m<=x.1/\x.1<m+k
 | 0,_=>⟨[],rfl,λx b=>by cases b⟩
 | k+1,hk=>by
  obtain⟨g,j,q⟩:=Trk.KL (m:=m) k W
  have a:∀v, ∃i,Iv (m+k) ops[m+k] v (Ds (m+k)).rk=i++(Ds m).rk/\∀x∈i,m<=x.1/\x.1<m+(k+1):=λv=>by
   unfold Iv
   split
   .rename_i d _
    refine⟨(m+k,d,v)::g,by rw[j];rfl,λx b=>?_⟩
    rcases Rl.1 b with rfl|b
    .exact ⟨Nat.le_add_right ..,Aip _⟩
    .have:=q x b;omega
   .exact ⟨g,j,λx b=>by have:=q x b;omega⟩
  rw[<- Nat.add_assoc]
  cases T.step (m+k) _ (G7 (show m+k<ops.size by omega)) with
  | skip _ e=>rw[e];exact a _
  | val v _ _ _ e=>rw[e];exact a _
  | read v _ _ _ e=>rw[e];exact a _
  | act v s _ _ _ _ _ e=>rw[e];exact a _
  | made t f d _ _ _ r e =>
   have:=a (f (id0+(m+k)))
   unfold Iv at this
   rw[r] at this
   rw[e]
   exact this
omit T in
theorem Qg(a:Nat):∀(e b:List (Nat×Nat×Value)) (t:Nat),(∀x∈e,a.testBit x.1=false)->Sr a (e++b) t=Sr a b t
 | [],b,t,_=>rfl
 | (j,d,v)::e,b,t,h=>by
  rw[AbT]
  show cond (Nat.beq d t && a.testBit j) (some v) (Sr a (e++b) t)=_
  rw[h (j,d,v) (Fr ..),Bool.and_false,cond_false]
  exact Qg a e b t λx f=>h x (EQ _ f)
theorem Trk.AeC(a:A<=C)(h:C<=ops.size)(g:A<ops.size):knI ops bef kn0 (Ds C).rk A=knI ops bef kn0 (Ds A).rk A:=by
 obtain⟨k,rfl⟩:=Nat.le.dest a
 obtain⟨j,b,e⟩:=T.KL k h
 funext t
 unfold knI
 rw[b,Qg]
 intro x i
 cases f:(BE bef A).testBit x.1 with
 | false=>rfl
 | true =>
  have:=T.Ae8 g f
  have:=e x i
  omega
omit T in
theorem Ov{id0 f:Nat}{H:Hp}:∀(g:List Oper) (i:Nat),M7 id0 f H i g=true->∀(m:Nat) (o:Oper),g[m]?=some o->GZ o.op=true->f.testBit (i+m)=false->H.get (id0+(i+m))=none
 | [],i,_,m,o,hm,_,_=>by simp at hm
 | a::r,i,h,m,o,hm,b,e=>by
  unfold M7 at h
  rw[Hr] at h
  cases m with
  | zero =>
   simp at hm
   subst hm
   rw[Nat.add_zero] at e ⊢
   have:=h.1
   rw[b,e] at this
   simpa using this
  | succ m =>
   rw[show i+(m+1)=i+1+m by omega] at e ⊢
   exact Ov r (i+1) h.2 m o D9 b e
theorem Trk.free(q:∀j,j<ops.size->(Ds 0).H.get (id0+j)=none):∀m,m<=ops.size->∀j o,ops[j]?=some o->GZ o.op=true->I9 Ds bef m j->(Ds m).H.get (id0+j)=none
 | 0,_,j,o,i,_,_=>q j (Mv i)
 | m+1,x,j,o,i,g,r=>by
  have k:=Trk.free q m W j o i g λa u=>r a W
  cases T.step m _ (G7 (show m<ops.size by omega)) with
  | skip _ e=>rw[e];exact k
  | val v _ _ _ e=>rw[e];exact k
  | read v _ _ _ e=>rw[e];exact k
  | made y f d _ _ _ w e=>rw[e];exact k
  | act v t _ _ _ s _ e =>
   have b:EO Ds m:=by unfold EO;rw[e]
   have:=Ov ops.toList 0 s j o (by rw[Ahu];exact i) g (by rw[PP];exact r m (W) b)
   rw[PP] at this
   rw[e]
   exact this
end

section
variable {P:Program}{E:Ev}{rec:Job->Er Res}{n:Nat}{ops:Array Oper}{kn0:Kn}{id0:Nat}{bef:List Nat}{Ds:Nat->Dr}
theorem Uf{kn:Lk}{H:Hp}(h:Abc P E kn H B D=true):CO P E H kn B=some D:=by
 unfold Abc at h
 rw[PR] at h
 split at h
 .rename_i u a;rw[a,NR u D h]
 .cases h
theorem NC{kn:Lk}{o:Oper}{v:Value}{g:Nat}{b:List (Nat×Nat×VO)}:∀ {k:List (Nat×Hp)},JA P E kn o v g b k=true->∀j f,(j,f)∈k->g.testBit j=true\/CO P E (CH g b f) kn o=some v
 | [],_,j,f,h=>by cases h
 | (a,m)::r,h,j,f,i=>by
  unfold JA at h
  rw[Hr,Ait] at h
  rcases Rl.1 i with e|i
  .cases e;exact h.1.imp id Uf
  .exact NC h.2 j f i
theorem OY{j:List (Nat×Nat×Value)}{H:Hp}{g:Nat}{b:List (Nat×Nat×VO)}:∀ {k:List (Nat×Oper×Value)},Nk P E ops bef kn0 j H g b k=true->∀i o v,(i,o,v)∈k->g.testBit i=true\/CO P E (CH (BE bef i) b H) (knI ops bef kn0 j i) o=some v
 | [],_,i,o,v,h=>by cases h
 | (a,m,p)::r,h,i,o,v,f=>by
  unfold Nk at h
  rw[Hr,Ait] at h
  rcases Rl.1 f with e|f
  .cases e;exact h.1.imp id Uf
  .exact OY h.2 i o v f
theorem AaG{p:Nat->Prop}{i:Nat}:∀c,(∃a,i<a/\a<c/\p a)->∃a,i<a/\a<c/\p a/\∀b,a<b->b<c->¬p b
 | 0,⟨a,_,h,_⟩=>absurd h (Ac5 _)
 | c+1,⟨a,r,y,j⟩=>by
  by_cases f:p c/\i<c
  .exact ⟨c,f.2,Aip _,f.1,λb z g=>absurd g W⟩
  .have:a<c:=by
    rcases Ai0 a c with h|h
    .exact h
    .exact absurd ⟨by have:a=c:=W;rw[<- this];exact j,W⟩ f
   obtain⟨b,k,w,m,q⟩:=AaG c ⟨a,r,this,j⟩
   refine⟨b,k,W,m,λx t u=>?_⟩
   by_cases e:x=c
   .subst e;exact λs=>f ⟨s,W⟩
   .exact q x t W
variable (T:Trk P E rec n ops kn0 id0 bef Ds)
include T
theorem Trk.Aba{m:Nat}{x:Nat×Oper×Value}(b:x∈(Ds m).rs):∀k,m+k<=ops.size->x∈(Ds (m+k)).rs
 | 0,_=>b
 | k+1,hk=>by
  have a:=Trk.Aba b k W
  rw[<- Nat.add_assoc]
  cases T.step (m+k) _ (G7 (show m+k<ops.size by omega)) with
  | skip _ e=>rw[e];exact a
  | val v _ _ _ e=>rw[e];exact a
  | read v _ _ _ e=>rw[e];exact EQ _ a
  | act v g _ _ _ _ _ e=>rw[e];exact a
  | made j f d _ _ _ i e=>rw[e];exact a
theorem Trk.AhK{listed:Array Bool}(hi:ops[A]?=some B)(hv:CO P E (CH (BE bef A) (Ds A).pend (Ds A).H) (knI ops bef kn0 (Ds A).rk A) B=some D)
 (hst:JA P E (knI ops bef kn0 (Ds A).rk A) B D (BE bef A) (Ds A).pend (Ds A).ws=true) (hrs:(A,B,D)∈(Ds (A+1)).rs) (hna:¬EO Ds A)
 (J:K6 .any ops listed) (hc:C<=ops.size) (hca:C<ops.size->EO Ds C) (hbe:∀a,a<C->EO Ds a->listed.getD a false=true) (haf:∀a,C<=a->a<ops.size->EO Ds a->listed.getD a false=false)
 (hnl:listed.getD A false=false) (M:∀j,(BE bef A).testBit j=true->listed.getD j false=true) :
 ∃pd:List (Nat×Nat×VO),CO P E (CH (BE bef A) pd (Ds C).H) (knI ops bef kn0 (Ds A).rk A) B=some D/\∀x∈pd,x.1<ops.size/\x.2.1=id0+x.1/\Item Ds id0 x.1 x.2.2/\I9 Ds bef C x.1:=by
 have q:=Mv hi
 by_cases h1:∃a,A<a/\a<C/\EO Ds a
 .obtain ⟨a,z,ha2,i,F⟩:=AaG C h1
  have m:a<ops.size:=W
  have N:(A,B,D)∈(Ds a).rs:=by
   obtain⟨k,hk⟩:=Nat.le.dest (show A+1<=a from z)
   have:=T.Aba hrs k W
   rwa [hk] at this
  have hH:(Ds C).H=(Ds (a+1)).H:=T.Ut W hc λb r hb'=>F b W hb'
  have S:(Ds (a+1)).ws=(Ds a).ws->False:=λh=>by
   unfold EO at i
   rw[h] at i
   exact absurd (If List.length i) C9
  cases T.step a _ (G7 m) with
  | skip _ e=>exact(S Dj).elim
  | made t f d _ _ _ _ e=>exact(S Dj).elim
  | val D _ _ _ e=>exact(S Dj).elim
  | read D _ _ _ e=>exact(S Dj).elim
  | act v2 H2 _ _ _ _ hr e =>
   rcases OY hr A B D N with s|s
   .have hal:listed.getD a false=true:=hbe a ha2 i
    have:=T.bef.closed J a _ (G7 m) (λe he r=>J a _ (G7 m) hal e he r) A s
    rw[hnl] at this
    cases this
   .rw [T.AeC (Nat.le_of_lt z) (Nat.le_of_lt m) q] at s
    have hp:(Ds (a+1)).pend=EG (BE bef a) (Ds a).pend:=by rw[e]
    have hH2:(Ds (a+1)).H=H2:=by rw[e]
    refine⟨(Ds (a+1)).pend,by rw[hp,hH,hH2];exact s,λx O=>?_⟩
    obtain⟨j,id,t⟩:=x
    obtain⟨g1,u,w,y⟩:=(T.GS (a+1) W j id t).1 O
    exact⟨C7,w,u,λb r g=>by
     by_cases e:b<a+1
     .exact y b e g
     .exact absurd g (F b W r)⟩
 .by_cases s:C<A
  .have G:=hca W
   have hw:=(T.Abw A (Nat.le_of_lt q) C (Ds C).H).2 ⟨s,G,rfl⟩
   rcases NC hst C _ hw with Z|Z
   .have:=M C Z
    rw[haf C (M2 _) W G] at this
    cases this
   .refine ⟨(Ds A).pend,Z,λx O=>?_⟩
    obtain⟨j,id,t⟩:=x
    obtain⟨g1,u,w,y⟩:=(T.GS A (Nat.le_of_lt q) j id t).1 O
    exact⟨C7,w,u,λb r g=>y b W g⟩
  .have K:∀a,A<=a->a<C->¬EO Ds a:=λa ha hac hA=>by
    by_cases e:a=A
    .exact hna (e ▸ hA)
    .exact h1 ⟨a,W,hac,hA⟩
   have hH:(Ds C).H=(Ds A).H:=T.Ut W hc K
   refine⟨(Ds A).pend,by rw[hH];exact hv,λx O=>?_⟩
   obtain⟨j,id,t⟩:=x
   obtain⟨g1,u,w,y⟩:=(T.GS A (Nat.le_of_lt q) j id t).1 O
   exact⟨C7,w,u,λb r g=>by
    by_cases e:b<A
    .exact y b e g
    .exact absurd g (K b W r)⟩
theorem Trk.Kw{j:Nat}{vo:VO}(hj:j<ops.size)(h:Item Ds id0 j vo):GZ ops[j].op=true/\R7 vo:=by
 have b:(Ds (j+1)).pend=(Ds j).pend->False:=λe=>by
  unfold Item at h
  rw[e] at h
  exact absurd (If List.length h) C9
 cases T.step j _ (G7 hj) with
 | skip _ e=>exact(b Dj).elim
 | val v _ _ _ e=>exact(b Dj).elim
 | read v _ _ _ e=>exact(b Dj).elim
 | made i f d _ a g _ e =>
  unfold Item at h
  rw[e] at h
  have:=(List.cons.inj h).1
  cases this
  exact⟨a,Y0 g⟩
 | act v k _ _ _ _ _ e =>
  exact A5
theorem Trk.RU{e a:VO}(h:Item Ds id0 A e)(b:Item Ds id0 A a):e=a:=by
 have _:=T
 unfold Item at h b
 rw[h] at b
 have:=(List.cons.inj b).1
 cases this
 rfl
end

theorem T8{b t:Nat}{v:Value}:∀ {e:List (Nat×Nat×Value)},Sr b e t=some v->∃j,(j,t,v)∈e/\b.testBit j=true
 | [],h=>by cases h
 | (j,d,u)::r,h=>by
  unfold Sr at h
  cases a:(Nat.beq d t && b.testBit j)
  .rw [a,cond_false] at h
   obtain⟨i,f,g⟩:=T8 h
   exact⟨i,EQ _ f,g⟩
  .rw [a,Aih] at h
   cases h
   rw[Hr] at a
   obtain rfl:=NE a.1
   exact⟨j,Fr ..,a.2⟩
theorem Ny{bef:List Nat}{i t:Nat}:∀(f:List Oper) (k:Nat),Mf bef i t k f=true->∀(m:Nat) (o:Oper),f[m]?=some o->o.dst=some t->(BE bef (k+m)).testBit i=true
 | [],k,_,m,o,hm,_=>by simp at hm
 | a::r,k,h,m,o,hm,e=>by
  unfold Mf at h
  rw[Hr] at h
  cases m with
  | zero =>
   simp at hm
   subst hm
   have b:=h.1
   rw[e] at b
   simpa using b
  | succ m =>
   rw[show k+(m+1)=k+1+m by omega]
   exact Ny r (k+1) h.2 m o D9 e
structure Rt(P:Program)(E:Ev)(w0:World)(ops:Array Oper)(kn0:Kn)(id0:Nat)(bef:List Nat)(Ds:Nat->Dr)(R0:Rn)(H0:Hp)(listed:Array Bool)(l:Kn)(R:Rn)(Mem:Hp)(L:List Ent)(c:Nat):Prop where
 closed:K6 .any ops listed
 size:listed.size=ops.size
 cN:c<=ops.size
 cAct:c<ops.size->EO Ds c
 before:∀a,a<c->EO Ds a->listed.getD a false=true
 after:∀a,c<=a->a<ops.size->EO Ds a->listed.getD a false=false
 memn:Mem.n=(Ds c).H.n
 item:∀j vo,j<ops.size->Item Ds id0 j vo->listed.getD j false=true->I9 Ds bef c j->Mem.get (id0+j)=some vo
 core:∀k,(∀j vo,j<ops.size->Item Ds id0 j vo->listed.getD j false=true->I9 Ds bef c j->k≠id0+j)->Mem.get k=(Ds c).H.get k
 sr:SR E w0 R Mem L
 rle:R0.le R
 req:∀k,k<H0.n->R k=R0 k
 nle:(Ds 0).H.n<=Mem.n
 res:∀(j:Nat) (o:Oper),ops[j]?=some o->GZ o.op=true->listed.getD j false=false->R (id0+j)=none
 fr1:∀j d v,(j,d,v)∈(Ds ops.size).rk->listed.getD j false=true->∃v',look l d=some v'/\VR R v v'
 fr2:∀t,(∀(j:Nat) (o:Oper),ops[j]?=some o->listed.getD j false=true->o.dst≠some t)->∀v,look kn0 t=some v->∃v',look l t=some v'/\VR R v v'
section
variable {P:Program}{E:Ev}{w0:World}{rec:Job->Er Res}{n:Nat}{ops:Array Oper}{kn0:Kn}{id0:Nat}{bef:List Nat}{Ds:Nat->Dr}{R0:Rn}{H0:Hp}{listed:Array Bool}{l:Kn}{R:Rn}{Mem:Hp}{L:List Ent}{c:Nat}
variable (T:Trk P E rec n ops kn0 id0 bef Ds)
include T
theorem Trk.Afi(h:(A,C,D)∈(Ds ops.size).rk):A<ops.size/\(A,C,D)∈(Ds (A+1)).rk/\(A,C,D) ∉ (Ds A).rk:=by
 obtain⟨t,e,s⟩:=T.KL (m:=0) ops.size W
 rw[PP,T.rk0,Acx] at e
 have g:A<ops.size:=by
  rw[e] at h
  have:=(s _ h).2
  rwa [PP] at this
 obtain⟨k,hk⟩:=Nat.le.dest (show A+1<=ops.size from g)
 obtain⟨j,b,r⟩:=T.KL (m:=A+1) k W
 rw[hk] at b
 obtain⟨q,a,i⟩:=T.KL (m:=0) A W
 rw[PP,T.rk0,Acx] at a
 refine⟨g,?_,λf=>?_⟩
 .rw [b] at h
  rcases LI.1 h with h|h
  .have:=(r _ h).1
   dsimp only at this
   omega
  .exact h
 .rw [a] at f
  have:=(i _ f).2
  dsimp only at this
  omega
theorem Trk.rk_dst(h:(A,C,D)∈(Ds ops.size).rk):∃o,ops[A]?=some o/\o.dst=some C:=by
 obtain⟨k,a,i⟩:=T.Afi h
 have b:∀u,(A,C,D)∈Iv A ops[A] u (Ds A).rk->ops[A].dst=some C:=λu g=>by
  unfold Iv at g
  split at g
  .rename_i r j
   rcases Rl.1 g with e|g
   .cases e;exact j
   .exact absurd g i
  .exact absurd g i
 refine⟨_,G7 k,?_⟩
 cases T.step A _ (G7 k) with
 | skip _ e=>rw[e] at a;exact b _ a
 | val D _ _ _ e=>rw[e] at a;exact b _ a
 | read D _ _ _ e=>rw[e] at a;exact b _ a
 | act D q _ _ _ _ _ e=>rw[e] at a;exact b _ a
 | made s f d2 _ _ _ p e =>
  rw[e] at a
  rcases Rl.1 a with m|a
  .cases m;exact p
  .exact absurd a i
theorem Rt.kr(S:Rt P E w0 ops kn0 id0 bef Ds R0 H0 listed l R Mem L c){i:Nat}{o:Oper}(p:ops[i]?=some o)(k:listed.getD i false=false)(b:∀e∈o.after,Region.binds .any e=true->listed.getD e.on false=true):KR R (knI ops bef kn0 (Ds i).rk i) l:=λt v a=>by
 have f:=Mv p
 rw[<- T.AeC (Nat.le_of_lt f) (M2 _) f] at a
 unfold knI at a
 split at a
 .rename_i u q
  cases a
  obtain⟨j,r,s⟩:=T8 q
  exact S.fr1 j t v r (T.bef.closed S.closed i o p b j s)
 .rename_i q
  cases g:Mf bef i t 0 ops.toList
  .rw [g] at a;cases a
  .rw [g,Aih,KD] at a
   refine S.fr2 t (λj m h z x=>?_) v a
   have:=Ny ops.toList 0 g j m (by rw[Ahu];exact h) x
   rw[PP] at this
   have:=T.bef.closed S.closed j m h (λe y w=>S.closed j m h z e y w) i this
   rw[k] at this
   cases this
theorem Rt.frame(S:Rt P E w0 ops kn0 id0 bef Ds R0 H0 listed l R Mem L c){i:Nat}{o:Oper}(s:ops[i]?=some o){r:Rn}(p:R.le r){y:Value}(K:∀d v,(i,d,v)∈(Ds ops.size).rk->VR r v y):
 (∀j d v,(j,d,v)∈(Ds ops.size).rk->(listed.setIfInBounds i true).getD j false=true->∃a,look (match o.dst with|some d=>(d,y)::l|none=>l) d=some a/\VR r v a) /\
 (∀t,(∀(j:Nat) (x:Oper),ops[j]?=some x->(listed.setIfInBounds i true).getD j false=true->x.dst≠some t)->∀v,look kn0 t=some v->∃a,look (match o.dst with|some d=>(d,y)::l|none=>l) t=some a/\VR r v a):=by
 have k:(listed.setIfInBounds i true).getD i false=true:=by
  have:i<listed.size:=by rw[S.size];exact Mv s
  simp[this]
 have q:∀ {j},listed.getD j false=true->(listed.setIfInBounds i true).getD j false=true:=λh=>Air h
 constructor
 .intro j d v C w
  obtain⟨J,u,F⟩:=T.rk_dst C
  by_cases e:j=i
  .subst e
   have:J=o:=Ade (u.symm.trans s)
   subst this
   rw[F]
   refine⟨y,?_,K d v C⟩
   unfold look
   rw[show Nat.beq d d=true from Nat.beq_refl d]
   rfl
  .rw [Aiz false (Ai4 e)] at w
   obtain⟨a,m,A⟩:=S.fr1 j d v C w
   refine⟨a,?_,A.mono p⟩
   split
   .rename_i b f
    have g:b≠d:=λz=>e (T.dst j i J o d u s F (by rw[f,z]))
    rw[Ju]
    unfold Lk.put
    rw[show Nat.beq b d=false by cases B:Nat.beq b d with|false=>rfl|true=>exact absurd (NE B) g]
    exact m
   .exact m
 .intro t G v D
  obtain⟨a,m,A⟩:=S.fr2 t (λj x u w=>G j x u (q w)) v D
  refine⟨a,?_,A.mono p⟩
  split
  .rename_i b f
   have g:b≠t:=λz=>G i o s k (by rw[f,z])
   rw[Ju]
   unfold Lk.put
   rw[show Nat.beq b t=false by cases B:Nat.beq b t with|false=>rfl|true=>exact absurd (NE B) g]
   exact m
  .exact m
theorem Rt.sub(S:Rt P E w0 ops kn0 id0 bef Ds R0 H0 listed l R Mem L c)(M:∀j,j<ops.size->(Ds 0).H.get (id0+j)=none)(Z:id0+ops.size<=hpM){i:Nat}(m:∀j,(BE bef i).testBit j=true->listed.getD j false=true)
 {a:List (Nat×Nat×VO)}(h:∀x∈a,x.1<ops.size/\x.2.1=id0+x.1/\Item Ds id0 x.1 x.2.2/\I9 Ds bef c x.1) :
 (CH (BE bef i) a (Ds c).H).n=Mem.n/\(∀k o,(CH (BE bef i) a (Ds c).H).get k=some o->Mem.get k=some o) /\
 ∀k o,Mem.get k=some o->(CH (BE bef i) a (Ds c).H).get k=none->∃j,j<ops.size/\k=id0+j/\Item Ds id0 j o/\listed.getD j false=true/\I9 Ds bef c j:=by
 have g:∀x∈a,x.2.1<hpM:=λx u=>by
  obtain⟨t,w,_⟩:=h x u
  omega
 refine⟨by rw[Py,S.memn],λk o hk=>?_,λk o hk z=>?_⟩
 .rcases JR (BE bef i) a (Ds c).H k g with⟨t,_⟩|⟨x,u,w,B,y⟩
  .rw [t] at hk
   rw[S.core k λj b C N hl O e=>?_]
   .exact hk
   .have:=T.free M c S.cN j _ (G7 C) (T.Kw C N).1 O
    rw[<- e,hk] at this
    cases this
  .obtain ⟨p,q,r,s⟩:=h x u
   rw[y] at hk
   cases hk
   have:=S.item x.1 x.2.2 p r (m _ w) s
   rwa [<- q,B] at this
 .rcases JR (BE bef i) a (Ds c).H k g with⟨t,_⟩|⟨x,u,w,B,y⟩
  .by_cases f:∃j b,j<ops.size/\Item Ds id0 j b/\listed.getD j false=true/\I9 Ds bef c j/\k=id0+j
   .obtain ⟨j,b,p,q,r,s,A⟩:=f
    have:=S.item j b p q r s
    rw[<- A,hk] at this
    cases this
    exact⟨j,p,A,q,r,s⟩
   .have:=S.core k λj b D F G J K=>f ⟨j,b,D,F,G,J,K⟩
    rw[this, <- t,z] at hk
    cases hk
  .rw [y] at z
   cases z
end

def QK(K:Act->World->Prop)(Q:Exit->Act->World->Prop):Exit->Act->World->Prop
 | .normal=>K
 | e=>Q e
theorem Oper.wp_QK{a:Act}{b N:Act->World->Prop}(h:B.wp G a J N (QK b K)):B.wp G a J N K:=by
 unfold Oper.wp at *
 generalize (execOp a.eval B).run G J=r at *
 cases r with
 | ok x e=>cases x<;>exact h
 | halt x e=>cases x<;>exact h
theorem Ah0{l:Kn}{L:List Ent}{b:Act->World->Prop}(k:F[C]?=some B)(h:WL G F (QK b K) A F0 J [B] l L):∀a w,Has A a l->St F0 J w L->wpOp G F K C b a w:=λa w j i=>by
 have e:=h a w j i
 unfold wpList at e
 unfold wpOp
 rw[k]
 dsimp only
 split at e
 .rename_i f
  rw[IR f]
  rcases e with e|⟨e,g⟩
  .exact .inl (Oper.wp_QK e)
  .exact .inr ⟨e,g⟩
 .rename_i f
  rw[E9 f]
  exact e
theorem Af5{l:Kn}{L:List Ent}{rest:List Oper}(g:Val G (λw=>St F0 J w L) A l B D)(i:On F B l)(f:∀d,B.dst=some d->Nat.blt d A=true)
 (e:WL G F K A F0 J rest (match B.dst with|some d=>(d,D)::l|none=>l) L):WL G F K A F0 J (B::rest) l L:=by
 cases b:B.dst with
 | some d=>rw[b] at e;exact WL.val g i b (f d b) e
 | none =>
  rw[b] at e
  exact WL.act i b λa w j h=>⟨w,L,.inr ⟨D,g a w j h⟩,h,e⟩
theorem Vh(p:Nat->Prop)(N:Nat):∀k m,m+k=N->∃c,m<=c/\c<=N/\(c<N->p c)/\∀a,m<=a->a<c->¬p a
 | 0,m,h=>⟨m,M2 _,W,λr=>by omega,λa f b=>by omega⟩
 | k+1,m,h=>by
  by_cases g:p m
  .exact ⟨m,M2 _,W,λ_=>g,λa f b=>by omega⟩
  .obtain ⟨c,f,b,i,j⟩:=Vh p N k (m+1) W
   exact⟨c,W,b,i,λa s q=>by
    by_cases e:a=m
    .exact e ▸ g
    .exact j a W q⟩
theorem Xf{p:Nat->Prop}:∀c,(∃a,a<c/\p a)->∃a,a<c/\p a/\∀b,a<b->b<c->¬p b
 | 0,⟨a,h,_⟩=>absurd h (Ac5 _)
 | c+1,⟨a,t,g⟩=>by
  by_cases f:p c
  .exact ⟨c,Aip _,f,λb u m=>by omega⟩
  .have k:a≠c:=λe=>f (e ▸ g)
   obtain⟨b,s,i,j⟩:=Xf c ⟨a,W,g⟩
   refine⟨b,W,i,λx q r=>?_⟩
   by_cases e:x=c
   .exact e ▸ f
   .exact j x q W
section
variable {P:Program}{E:Ev}{w0:World}{rec:Job->Er Res}{n:Nat}{ops:Array Oper}{kn0:Kn}{id0:Nat}{bef:List Nat}{Ds:Nat->Dr}{R0:Rn}{H0:Hp}{listed:Array Bool}{l:Kn}{R:Rn}{Mem:Hp}{L:List Ent}{c:Nat}
variable (T:Trk P E rec n ops kn0 id0 bef Ds)
include T
theorem Rt.self(S:Rt P E w0 ops kn0 id0 bef Ds R0 H0 listed l R Mem L c){i:Nat}(a:i<ops.size):(listed.setIfInBounds i true).getD i false=true:=by
 have _:=T
 have:i<listed.size:=by rw[S.size];exact a
 simp[this]
theorem Rt.quiet(S:Rt P E w0 ops kn0 id0 bef Ds R0 H0 listed l R Mem L c){i:Nat}{o:Oper}(D:ops[i]?=some o)(F:i∈Region.ready .any ops listed)(u:¬EO Ds i)(w:∀b, ¬Item Ds id0 i b){y:Value}(J:∀d v,(i,d,v)∈(Ds ops.size).rk->VR R v y):
 Rt P E w0 ops kn0 id0 bef Ds R0 H0 (listed.setIfInBounds i true) (match o.dst with|some d=>(d,y)::l|none=>l) R Mem L c:=by
 obtain⟨f1,f2⟩:=S.frame T D (Rn.le.refl R) J
 have f:∀ {j},j≠i->(listed.setIfInBounds i true).getD j false=true->listed.getD j false=true:=λs h=>by rwa [Aiz false (Ai4 s)] at h
 refine⟨S.closed.set F,by simp[S.size],S.cN,S.cAct,λa p g=>Air (S.before a p g),λa p q g=>?_,S.memn,λj b r x m G=>?_,λk hk=>S.core k λj b z A B C=>hk j b z A (Air B) C,S.sr,S.rle,S.req,S.nle,λj K r t m=>?_,f1,f2⟩
 .have:a≠i:=λe=>u (e ▸ g)
  rw[Aiz false (Ai4 this)]
  exact S.after a p q g
 .have:j≠i:=λe=>w b (e ▸ x)
  exact S.item j b r x (f this m) G
 .refine S.res j K r t ?_
  cases h:listed.getD j false with
  | false=>rfl
  | true=>rw[Air h] at m;cases m
theorem Rt.madeS(S:Rt P E w0 ops kn0 id0 bef Ds R0 H0 listed l R Mem L c)(hM:id0+ops.size<=hpM)(hid:H0.n<=id0){i:Nat}{o:Oper}(hi:ops[i]?=some o)(hr:i∈Region.ready .any ops listed)(J:¬EO Ds i){s:VO}(Z:Item Ds id0 i s){t:Rn}{O:List Ent}{v':Value}
 (z:R.le t) (f:∀k,k≠id0+i->t k=R k) (A:SR E w0 t (Mem.put (id0+i) (some s)) O) (hv:∀d v,(i,d,v)∈(Ds ops.size).rk->VR t v v') :
 Rt P E w0 ops kn0 id0 bef Ds R0 H0 (listed.setIfInBounds i true) (match o.dst with|some d=>(d,v')::l|none=>l) t (Mem.put (id0+i) (some s)) O c:=by
 have g:=Mv hi
 have m:id0+i<hpM:=W
 obtain⟨f1,f2⟩:=S.frame T hi z hv
 have M:=getD_both (mem_ready.1 hr).1
 have u:∀ {j},j≠i->(listed.setIfInBounds i true).getD j false=true->listed.getD j false=true:=λy h=>by rwa [Aiz false (Ai4 y)] at h
 have hu:I9 Ds bef c i:=λa x q=>by
  cases C:(BE bef a).testBit i with
  | false=>rfl
  | true =>
   have B:=S.before a x q
   have b:a<ops.size:=by have:=S.cN;omega
   have:=T.bef.closed S.closed a _ (G7 b) (λe he C=>S.closed a _ (G7 b) B e he C) i C
   rw[M] at this
   cases this
 refine⟨S.closed.set hr,by simp[S.size],S.cN,S.cAct,λa x q=>Air (S.before a x q),λa x b q=>?_,S.memn,λj N D w r K=>?_,λk hk=>?_,A,S.rle.trans z,λk hk=>?_,S.nle,λj oj D G r=>?_,f1,f2⟩
 .have:a≠i:=λe=>J (e ▸ q)
  rw[Aiz false (Ai4 this)]
  exact S.after a x b q
 .by_cases e:j=i
  .subst e
   rw[Hp.FD m,T.RU Z w]
  .rw [Hp.BF m W]
   exact S.item j N D w (u e r) K
 .have F:k≠id0+i:=hk i s g Z (S.self T g) hu
  rw[Hp.BF m F]
  exact S.core k λj s a1 a2 a3 a4=>hk j s a1 a2 (Air a3) a4
 .rw [f k W];exact S.req k hk
 .have y:j≠i:=λe=>by subst e;rw[S.self T g] at r;cases r
  rw[f _ W]
  refine S.res j oj D G ?_
  cases h:listed.getD j false with
  | false=>rfl
  | true=>rw[Air h] at r;cases r
theorem Trk.YV{j:Nat}{vo:VO}(hj:j<ops.size)(h:Item Ds id0 j vo):¬EO Ds j:=λb=>by
 have a:(Ds (j+1)).ws=(Ds j).ws->False:=λe=>by
  unfold EO at b
  rw[e] at b
  exact absurd (If List.length b) C9
 cases T.step j _ (G7 hj) with
 | skip _ e=>exact a Dj
 | val v _ _ _ e=>exact a Dj
 | read v _ _ _ e=>exact a Dj
 | made i f d _ g m _ e=>exact a Dj
 | act v k _ _ _ _ _ e =>
  exact A5
theorem Rt.act_is(S:Rt P E w0 ops kn0 id0 bef Ds R0 H0 listed l R Mem L c){i:Nat}{o:Oper}(t:ops[i]?=some o)(s:EO Ds i)(m:listed.getD i false=false)(f:∀e∈o.after,Region.binds .any e=true->listed.getD e.on false=true):i=c:=by
 have k:=Mv t
 have B:c<=i:=by
  rcases Ai0 i c with h|h
  .have:=S.before i h s;rw[m] at this;cases this
  .exact h
 rcases Ai0 c i with r|r
 .exfalso
  have j:=S.cAct W
  obtain⟨a,u,⟨w,q⟩,x⟩:=Xf (p:=λa=>c<=a/\EO Ds a) i ⟨c,r,M2 _,j⟩
  have A:=T.chain k s q u λb z g y=>x b z g ⟨W,y⟩
  have:=T.bef.closed S.closed i o t f a A
  rw[S.after a w W q] at this
  cases this
 .omega
end
end Go.Proofs.YtmhahajadgkolaaGreatDoor
namespace Go.Proofs.YtmhahajadgkolaaGreatDoor
open Go.RowKit Tryz

section
variable {P:Program}{E:Ev}{w0:World}{rec:Job->Er Res}{n:Nat}{ops:Array Oper}{kn0:Kn}{id0:Nat}{bef:List Nat}{Ds:Nat->Dr}{R0:Rn}{H0:Hp}{listed:Array Bool}{l:Kn}{R:Rn}{Mem:Hp}{L:List Ent}{c:Nat}
variable (T:Trk P E rec n ops kn0 id0 bef Ds)
include T
open Classical in
theorem Trk.left(h:Nat->Prop):∃p:List (Nat×Nat×VO), ∀x,x∈p<->x.1<ops.size/\h x.1/\x.2.1=id0+x.1/\Item Ds id0 x.1 x.2.2:=by
 refine⟨(List.range ops.size).filterMap λj=>if a:h j/\∃b,Item Ds id0 j b then some (j,id0+j,a.2.choose) else none,λx=>?_⟩
 rw[List.mem_filterMap]
 constructor
 .rintro ⟨j,m,f⟩
  split at f
  .rename_i a
   cases f
   exact⟨Aij.1 m,a.1,rfl,a.2.choose_spec⟩
  .cases f
 .rintro ⟨g,i,k,e⟩
  obtain⟨j,id,b⟩:=x
  dsimp only at g i k e
  refine⟨j,Aij.2 g,?_⟩
  have a:h j/\∃b,Item Ds id0 j b:=⟨i,b,e⟩
  rw[dif_pos a,T.RU a.2.choose_spec e,k]
theorem Rt.actS(S:Rt P E w0 ops kn0 id0 bef Ds R0 H0 listed l R Mem L c)(h0:∀j,j<ops.size->(Ds 0).H.get (id0+j)=none)(hM:id0+ops.size<=hpM)(hb:E.base<=id0)(_:H0.n<=id0)(h0n:H0.n<=(Ds 0).H.n)
 (hmn:∀(j:Nat) (o:Oper),ops[j]?=some o->GZ o.op=true->id0+ops.size<=(Ds 0).H.n){o:Oper}(hi:ops[c]?=some o) (hr:c∈Region.ready .any ops listed) (hA:EO Ds c){s:Hp}(hH2:(Ds (c+1)).H=s) :
 ∃L1 M O,L.Perm (L1++M)/\SR E w0 R (CH (BE bef c) (Ds c).pend (Ds c).H) L1/\∀N L' X v' w,Rn.ext (CH (BE bef c) (Ds c).pend (Ds c).H) s R N->SR E w0 N s L'->(∀d v,(c,d,v)∈(Ds ops.size).rk->VR N v v')->St F0 w0 w (L'++(M++X)) ->
  ∃Mem',Rt P E w0 ops kn0 id0 bef Ds R0 H0 (listed.setIfInBounds c true) (match o.dst with|some d=>(d,v')::l|none=>l) N Mem' (L'++M) O:=by
 have hcn:=Mv hi
 obtain⟨_,o',ho',hall⟩:=mem_ready.1 hr
 have:o'=o:=Ade (ho'.symm.trans hi)
 subst this
 have hpre:=T.bef.closed S.closed c _ hi hall
 have hpd:∀x∈(Ds c).pend,x.1<ops.size/\x.2.1=id0+x.1/\Item Ds id0 x.1 x.2.2/\I9 Ds bef c x.1:=λx m=>by
  obtain⟨j,id,K⟩:=x
  obtain⟨g1,g2,g3,g4⟩:=(T.GS c S.cN j id K).1 m
  exact⟨C7,g3,g2,g4⟩
 obtain⟨s1,s2,s3⟩:=S.sub T h0 hM hpre hpd
 obtain⟨L1,M,hperm,hSR,hER⟩:=S.sr.take s1 s2 λk g hk hn=>by
  obtain⟨j,g1,g2,g3,_⟩:=s3 k g hk hn
  exact⟨W,(T.Kw g1 g3).2⟩
 obtain⟨O,c1,c2,c3,c4⟩:=Vh (EO Ds) ops.size (ops.size-(c+1)) (c+1) W
 refine⟨L1,M,O,hperm,hSR,λN L' X v' w q1 q2 q3 hW=>?_⟩
 obtain⟨J,i⟩:=T.left (id0:=id0) λj=>(listed.setIfInBounds c true).getD j false=true/\I9 Ds bef O j
 have z:=S.self T hcn
 have back:∀ {j},j≠c->(listed.setIfInBounds c true).getD j false=true->listed.getD j false=true:=λhji h=>by rwa [Aiz false (Ai4 hji)] at h
 have hHc:(Ds O).H=s:=by rw[<- hH2];exact T.Ut c1 c2 c4
 -- what lies beside
 have f:∀j K,j<ops.size->Item Ds id0 j K->(listed.setIfInBounds c true).getD j false=true->I9 Ds bef O j->Mem.get (id0+j)=some K/\(CH (BE bef c) (Ds c).pend (Ds c).H).get (id0+j)=none:=λj K u hI hl hu=>by
  have Z:j≠c:=λe=>by subst e;exact T.YV u hI hA
  have hu':I9 Ds bef c j:=λa ha=>hu a W
  refine⟨S.item j K u hI (back Z hl) hu',?_⟩
  rcases JR (BE bef c) (Ds c).pend (Ds c).H (id0+j) (λx m=>by obtain⟨t,A,_⟩:=hpd x m;omega) with⟨h1,_⟩|⟨x,m,C,h3,h4⟩
  .rw [h1]
   exact T.free h0 c S.cN j _ (G7 u) (T.Kw u hI).1 hu'
  .obtain ⟨t,A,_⟩:=hpd x m
   have:x.1=j:=W
   rw[this,hu c W hA] at C
   cases C
 have hlt:∀x∈J,x.2.1<hpM:=λx m=>by obtain⟨t,_,A,_⟩:=(i x).1 m;omega
 have y:∀k g,(Jp J s).get k=some g->s.get k=some g\/∃j,j<ops.size/\k=id0+j/\Item Ds id0 j g/\(listed.setIfInBounds c true).getD j false=true/\I9 Ds bef O j:=λk g hk=>by
  rcases AbH J s k hlt with⟨h1,_⟩|⟨x,m,C,h3⟩
  .rw [h1] at hk;exact .inl hk
  .rw [h3] at hk
   cases hk
   obtain⟨t,⟨A,F⟩,G,B⟩:=(i x).1 m
   exact .inr ⟨x.1,t,C.symm.trans G,B,A,F⟩
 have hRk:∀k g b q,Mem.get k=some g->E.base<=k->N k=some (b,q)->R k=some (b,q):=λk g b q hk hbk hq=>by
  obtain⟨d,b2,q2,g1,_,_⟩:=(S.sr.own k g hk hbk).main
  have:=q1.le _ _ g1
  rw[hq] at this
  rw[g1, <- this]
 have hG:SR E w0 N (Jp J s) (L'++M):=by
  refine q2.give hW (Mk J s) (λk g hk=>?_) λj k g ov' b q r u nj hk nk hqj hqk=>?_
  .rcases y k g hk with h|⟨j,t,A,F,G,B⟩
   .exact .inl h
   .obtain ⟨b1,b2⟩:=f j g t F G B
    rw[<- A] at b1 b2
    exact .inr ⟨W,(T.Kw t F).2,(hER k g b1 b2).mono q1.le λe he=>he⟩
  .rcases y j g u with h|⟨j1,t,A,F,G,B⟩
   .exact absurd h nj
   .rcases y k ov' hk with h|⟨k1,b1,b2,b3,b4,b5⟩
    .exact absurd h nk
    .have e1:=(f j1 g t F G B).1
     have e2:=(f k1 ov' b1 b3 b4 b5).1
     rw[<- A] at e1
     rw[<- b2] at e2
     exact S.sr.inj j k b q r ⟨_,e1⟩ ⟨_,e2⟩ W W (hRk j g b q e1 W hqj) (hRk k ov' b r e2 W hqk)
 obtain⟨f1,f2⟩:=S.frame T hi q1.le q3
 have hn1:(CH (BE bef c) (Ds c).pend (Ds c).H).n=Mem.n:=s1
 refine⟨Jp J s,S.closed.set hr,by simp[S.size],c2,c3,λa ha D=>?_,λa ha han D=>?_,by rw[Mk,hHc],λj K u hI hl hu=>?_,λk hk=>?_,hG,S.rle.trans q1.le,λk hk=>?_,?_,λj oj u hmd hl=>?_,f1,f2⟩
 .by_cases e:a=c
  .subst e;exact z
  .rcases Ai0 a c with h|h
   .exact Air (S.before a h D)
   .exact absurd D (c4 a W ha)
 .have:a≠c:=W
  rw[Aiz false (Ai4 this)]
  exact S.after a W han D
 .rcases AbH J s (id0+j) hlt with⟨_,C⟩|⟨x,m,C,h3⟩
  .exact absurd U (C (j,id0+j,K) ((i _).2 ⟨u,⟨hl,hu⟩,rfl,hI⟩))
  .obtain ⟨t,_,G,B⟩:=(i x).1 m
   have hx1:x.1=j:=W
   rw[hx1] at B
   rw[h3,T.RU B hI]
 .rcases AbH J s k hlt with⟨h1,_⟩|⟨x,m,C,h3⟩
  .rw [h1,hHc]
  .obtain ⟨t,⟨A,F⟩,G,B⟩:=(i x).1 m
   exact absurd (C.symm.trans G) (hk x.1 x.2.2 t B A F)
 .have:=S.nle
  rw[q1.2.2 k W]
  exact S.req k hk
 .have:=S.nle
  have:=q1.2.1
  rw[Mk]
  omega
 .have Z:j≠c:=λe=>by subst e;rw[z] at hl;cases hl
  have h1:=hmn j oj u hmd
  have:=S.nle
  have:=Mv u
  rw[q1.2.2 _ W]
  refine S.res j oj u hmd ?_
  rwa [Aiz false (Ai4 Z)] at hl
end
end Go.Proofs.YtmhahajadgkolaaGreatDoor
namespace Go.Proofs.YtmhahajadgkolaaGreatDoor
open Go.RowKit Tryz

section
variable {P:Program}{E:Ev}{w0:World}{rec:Job->Er Res}{n:Nat}{ops:Array Oper}{kn0:Kn}{id0:Nat}{bef:List Nat}{Ds:Nat->Dr}{R0:Rn}{H0:Hp}
theorem Adu(b:VV bef ops){listed:Array Bool}(m:listed.size=ops.size)(h:Region.ready .any ops listed=[]):∀j,j<ops.size->listed.getD j false=true:=by
 intro j
 induction j using Nat.strongRecOn with
 | ind j p =>
  intro a
  cases i:listed.getD j false with
  | true=>rfl
  | false =>
   exfalso
   have k:j∈Region.ready .any ops listed:=mem_ready.2 ⟨by
    have:j<listed.size:=by rw[m];exact a
    simp[this] at i ⊢
    exact i,_,G7 a,λe g f=>p e.on (b.edge j _ (G7 a) e g f) (by have:=b.edge j _ (G7 a) e g f;omega)⟩
   rw[h] at k
   cases k
variable (T:Trk P E rec n ops kn0 id0 bef Ds)
include T
theorem Trk.Mr{i d:Nat}{o:Oper}{v u:Value}(_:ops[i]?=some o)(b:(Ds (i+1)).rk=Iv i o u (Ds i).rk)(h:(i,d,v)∈(Ds ops.size).rk):v=u:=by
 obtain⟨_,a,f⟩:=T.Afi h
 rw[b] at a
 unfold Iv at a
 split at a
 .rcases Rl.1 a with e|a
  .cases e;rfl
  .exact absurd a f
 .exact absurd a f
theorem Trk.any_ok(hKs:GG P E)(hrec:L8 P E w0 rec){Q:Exit->Act->World->Prop}{X:List Ent}(h0:∀j,j<ops.size->(Ds 0).H.get (id0+j)=none)(hM:id0+ops.size<=hpM)(hb:E.base<=id0)(hid:H0.n<=id0)(h0n:H0.n<=(Ds 0).H.n)
 (hmn:∀(j:Nat) (o:Oper),ops[j]?=some o->GZ o.op=true->id0+ops.size<=(Ds 0).H.n)
 (hend:∀listed l R Mem L,Rt P E w0 ops kn0 id0 bef Ds R0 H0 listed l R Mem L ops.size->(∀j,j<ops.size->listed.getD j false=true)->WE Q .normal n F0 w0 l (L++X)) :
 ∀(g:Nat) (listed:Array Bool) (l:Kn) (R:Rn) (Mem:Hp) (L:List Ent) (c:Nat),Rt P E w0 ops kn0 id0 bef Ds R0 H0 listed l R Mem L c->(∃b:List Nat,b.length<=g/\∀j,j<ops.size->listed.getD j false=false->j∈b) ->
  ∀a w,Has n a l->St F0 w0 w (L++X)->wpAny P .any ops Q g listed a w:=by
 have aa:∀(listed:Array Bool) (l:Kn) (R:Rn) (Mem:Hp) (L:List Ent) (c:Nat),Rt P E w0 ops kn0 id0 bef Ds R0 H0 listed l R Mem L c->Region.ready .any ops listed=[]->∀a w,Has n a l->St F0 w0 w (L++X)->Q .normal a w:=λlisted l R Mem L c S z a w r m=>by
  have s:=Adu T.bef S.size z
  have hc:c=ops.size:=by
   rcases Ai0 c ops.size with h|h
   .have:=S.after c (M2 _) h (S.cAct h)
    rw[s c h] at this
    cases this
   .have:=S.cN;omega
  subst hc
  exact hend listed l R Mem L S s a w r m
 intro g
 induction g with
 | zero =>
  intro listed l R Mem L c S hU a w r m
  obtain⟨b,hU1,D⟩:=hU
  have hU0:b=[]:=AbQ.1 W
  have z:Region.ready .any ops listed=[]:=List.eq_nil_iff_forall_not_mem.2 λi q=>by
   obtain⟨Z,o,h2,_⟩:=mem_ready.1 q
   have:=D i (Mv h2) (getD_both Z)
   rw[hU0] at this
   cases this
  exact⟨z,aa listed l R Mem L c S z a w r m⟩
 | succ g ih =>
  intro listed l R Mem L c S hU a w r m
  refine⟨λz=>aa listed l R Mem L c S z a w r m,λi z=>?_⟩
  obtain⟨hun0,o,q,s⟩:=mem_ready.1 z
  have C:=getD_both hun0
  have hin:=Mv q
  have A:∃b:List Nat,b.length<=g/\∀j,j<ops.size->(listed.setIfInBounds i true).getD j false=false->j∈b:=by
   obtain⟨b,hU1,D⟩:=hU
   have hiU:=D i hin C
   refine⟨b.erase i,by rw[List.length_erase_of_mem hiU];omega,λj hj hl=>?_⟩
   have hji:j≠i:=λe=>by subst e;rw[S.self T hin] at hl;cases hl
   rw[Aiz false (Ai4 hji)] at hl
   exact(List.mem_erase_of_ne hji).2 (D j hj hl)
  have hK:=S.kr T q C s
  have G:=T.bef.closed S.closed i o q s
  have B:=T.dn i o q
  have t:(Ds (i+1)).ws=(Ds i).ws->¬EO Ds i:=λh h'=>by
   unfold EO at h'
   exact Bl
  have x:(Ds (i+1)).pend=(Ds i).pend->∀vo, ¬Item Ds id0 i vo:=λh vo h'=>by
   unfold Item at h'
   exact Bl
  refine Ah0 q ?_ a w r m
  have hst:=T.step i o q
  cases hst with
  | skip F e =>
   obtain⟨j,dj,want,u,e1,e2,e3,e4⟩:=(Jh hK F).2 U
   refine WL.Abh e1 e2 e3 e4 B λa w r m=>?_
   exact ih _ _ _ _ _ _ (S.quiet T q z (t Dj) (x Dj) λd v J=>by
    rw[T.Mr q Dj J];exact .plain U) A a w r m
  | made vo f d F hmd hm hd e =>
   have hI:Item Ds id0 i vo:=by unfold Item;rw[e]
   have hlt:id0+i<hpM:=W
   have Z:=hmn i o q hmd
   have:=S.nle
   refine AaL S.sr hK hm (S.res i o q hmd C) W (Hp.FD (H:=Mem) hlt (some vo)) (λj hj=>Hp.BF hlt hj _) (M2 _) (show id0+i<Mem.n by omega) S.sr.lim ((Jh hK F).1 U) hd (B d hd) λR' L' O q1 q2 q3=>?_
   intro a w r m
   have hS:=S.madeS T hM hid q z (t Dj) hI (v':=O) q1.1 q1.2 q2 λd' v J=>by
    rw[T.Mr (u:=f (id0+i)) q (by rw[e];unfold Iv;rw[hd]) J];exact q3
   rw[hd] at hS
   exact ih _ _ _ _ _ _ hS A a w r m
  | val v F hrd J e =>
   rw[VM hrd _ Mem] at J
   obtain⟨O,Z,h2⟩:=SO (X:=X) hKs S.sr hK J
   refine Af5 h2 ((Jh hK F).1 U) B λa w r m=>?_
   exact ih _ _ _ _ _ _ (S.quiet T q z (t Dj) (x Dj) λd u hu=>by
    rw[T.Mr q Dj hu];exact Z) A a w r m
  | read v F J hstg e =>
   have hna:=t Dj
   obtain⟨pd,hv2,hpd⟩:=T.AhK q J hstg (by rw[e];exact Fr ..) hna S.closed S.cN S.cAct S.before S.after C G
   obtain⟨s1,s2,s3⟩:=S.sub T h0 hM G hpd
   obtain⟨L1,M,y,K,_⟩:=S.sr.take s1 s2 λk ov hk hn=>by
    obtain⟨j,g1,g2,g3,_⟩:=s3 k ov hk hn
    exact⟨W,(T.Kw g1 g3).2⟩
   obtain⟨O,Z,h2⟩:=SO (X:=M++X) hKs K hK hv2
   have h3:Val P (λw=>St F0 w0 w (L++X)) n l o O:=λa w r m=>h2 a w r (m.perm (by
    rw[<- Qs]
    exact(y.append_right X).symm))
   refine Af5 h3 ((Jh hK F).1 U) B λa w r m=>?_
   exact ih _ _ _ _ _ _ (S.quiet T q z hna (x Dj) λd u hu=>by
    rw[T.Mr q Dj hu];exact Z) A a w r m
  | act v H2 F hact hh hf hrd e =>
   have hA:EO Ds i:=by unfold EO;rw[e]
   obtain rfl:=S.act_is T q hA C s
   obtain⟨L1,M,c',y,K,N⟩:=S.actS T h0 hM hb hid h0n hmn q z hA (show(Ds (i+1)).H=H2 by rw[e])
   have hW1:∀w,St F0 w0 w (L++X)->St F0 w0 w (L1++(M++X)):=λw m=>m.perm (by
    rw[<- Qs]
    exact(y.append_right X).symm)
   have hWL:WL P ops (QK (wpAny P .any ops Q g (listed.setIfInBounds i true)) Q) n F0 w0 [o] l (L1++(M++X)):=by
    refine Adr hKs hrec K hK hact ((Jh hK F).1 U) B λR' L' O q1 q2 q3=>?_
    intro a w r m
    obtain⟨Mem',S'⟩:=N R' L' X O w q1 q2 (λd u hu=>by
     rw[T.Mr q Dj hu];exact q3) m
    exact ih _ _ _ _ _ _ S' A a w r (by rw[Qs];exact m)
   exact λa w r m=>hWL a w r (hW1 w m)
end
end Go.Proofs.YtmhahajadgkolaaGreatDoor
