/- Joined texts. -/
import Derived.OrdersHeld
import Derived.Test.YtmhahajadgkolaaGreatDoorProg
import Derived.Test.YtmhahajadgkolaaGreatDoorBaSdxTells
set_option maxHeartbeats 1000000
namespace Go.Proofs.YtmhahajadgkolaaGreatDoor
open Go.RowKit Tryz
theorem Lv:∀(n:Nat),0<=n:=@Nat.zero_le
theorem Acw.{u_1}:∀ {α:Type u_1} {p:α->Bool} {l:List α},l.all p=true<->∀(x:α),x∈l->p x=true:=@List.all_eq_true
theorem Adn.{u_1}:∀ {α:Type u_1} {l l₂ l₁:List α},l.Sublist l₂->l.Sublist (l₁++l₂):=@List.sublist_append_of_sublist_right
theorem Aed:∀(n:Nat),n * 1=n:=@Nat.mul_one
theorem Aia.{u_1}:∀ {α:Type u_1} (l:List α),l.Sublist l:=@List.Sublist.refl
theorem Aig.{u_1}:∀ {α:Type u_1} {p:α->Bool} {«as»:List α} {x:α},x∈List.filter p «as»<->x∈«as»/\p x=true:=@List.mem_filter
theorem Aij:∀ {m n:Nat},m∈List.range n<->m < n:=@List.mem_range
theorem Aio.{u_1}:∀ {α:Type u_1} {l:List α} {i:Nat} {a:α},l.getD i a=l[i]?.getD a:=@List.getD_eq_getElem?_getD
theorem Air:∀ {listed:Array Bool} {i j:Nat},listed.getD j false=true->(listed.setIfInBounds i true).getD j false=true:=@Go.getD_set_true
theorem Ait:∀(a b:Bool),((a || b)=true)=(a=true\/b=true):=@Bool.or_eq_true
theorem Aiz:∀ {listed:Array Bool} {i j:Nat} (d:Bool),i≠j->(listed.setIfInBounds i true).getD j d=listed.getD j d:=@Go.getD_set_ne
theorem Ai0:∀(n m:Nat),n < m\/n ≥ m:=@Nat.lt_or_ge
variable{B H X q:Nat}{D E:Prop}{F:Array Bool}{G:Value}{J:Operand}{M:List Value}{N:Act->World->Prop}{O r:Code}{S Z:Int}{T:Exit->Act->World->Prop}{a:Oper}{b:World}{c:List Oper}{e:List Nat}{f:FuncId}{g:Act}{h:List Operand}{i:Array TypeId}{j:Array Bool->Act->Prop}{k:Bool}{s:List Ent}{u:Type}{w:TypeId}

section
variable {P:Program}{ops:Array Oper}{md:Region.Mode}{C:World->Prop}

/-! ### The orders: what waits for what -/
def PS(md:Region.Mode)(ops:Array Oper)(h:Nat):Nat->Nat->Bool
 | 0,_=>false
 | f+1,t=>Region.waitsFor md ops t h || (match ops[t]? with
  | some a=>a.after.any λe=>Region.binds md e && PS md ops h f e.on
  | none=>false)
def K6(md:Region.Mode)(ops:Array Oper)(a:Array Bool):Prop :=
 ∀j b,ops[j]?=some b->a.getD j false=true->∀e∈b.after,Region.binds md e=true->a.getD e.on false=true
def QH(md:Region.Mode)(ops:Array Oper)(a:Array Bool):Bool :=
 (List.range ops.size).all λj => !a.getD j false || (match ops[j]? with
  | some b=>b.after.all λe => !Region.binds md e || a.getD e.on false
  | none=>true)
theorem Oj(h:QH md ops F=true):K6 md ops F:=λj k c i e g f=>by
 have a:=Acw.1 h j (Aij.2 (AbY.1 c).1)
 rw[i,c] at a
 simp only[Bool.not_true,Bool.false_or] at a
 have b:=Array.all_eq_true'.1 a e g
 rw[f] at b
 simpa using b
theorem K6.set(q:K6 md ops F)(r:B∈Region.ready md ops F):K6 md ops (F.setIfInBounds B true):=λj k h i e g f=>by
 obtain⟨_,s,c,a⟩:=mem_ready.1 r
 by_cases b:B=j
 .subst b
  have:k=s:=Ade (h.symm.trans c)
  subst this
  exact Air (a e g f)
 .rw [Aiz false b] at i
  exact Air (q j k h i e g f)
theorem LP{a:Array Bool}{h:Nat}(w:K6 md ops a)(r:a.getD h false=false):∀(f t:Nat),PS md ops h f t=true->a.getD t false=false/\t ∉ Region.ready md ops a
 | 0,_,c=>by cases c
 | f+1,t,c=>by
  simp only[PS,Ait] at c
  have u:∃i,ops[t]?=some i/\∃e∈i.after,Region.binds md e=true/\a.getD e.on false=false:=by
   rcases c with c|c
   .obtain ⟨i,b,e,k,j,g⟩:=Region.waitsFor_spec c
    exact⟨i,b,e,k,j,by rw[g];exact r⟩
   .split at c
    .rename_i i b
     obtain⟨e,k,j⟩:=Array.any_eq_true'.1 c
     simp only[Hr] at j
     exact⟨i,b,e,k,j.1,(LP w r f e.on j.2).1⟩
    .cases c
  obtain⟨i,b,e,k,j,g⟩:=u
  refine⟨?_,λz=>?_⟩
  .cases y:a.getD t false with
   | false=>rfl
   | true=>have:=w t i b y e k j;rw[g] at this;cases this
  .obtain ⟨_,B,s,q⟩:=mem_ready.1 z
   have:B=i:=Ade (s.symm.trans b)
   subst this
   have:=q e k j
   rw[g] at this;cases this

/-! ### What only reads, in an order of one's own -/
def V3(P:Program)(md:Region.Mode)(ops:Array Oper)(C:World->Prop)(c:Array Bool->Act->Prop):Nat->Array Bool->Act->Prop
 | 0,b,a=>c b a
 | f+1,b,a=>Region.ready md ops b≠[]/\∀i∈Region.ready md ops b,qOp P ops C i (V3 P md ops C c f (b.setIfInBounds i true)) a
theorem Ob{g:Nat}{j:Array Bool->Act->Prop}{k:Exit->Act->World->Prop}(q:∀b a w,C w->j b a->wpAny P md ops k g b a w):
 ∀(f:Nat) (b:Array Bool) (a:Act) (w:World),C w->V3 P md ops C j f b a->wpAny P md ops k (f+g) b a w
 | 0,b,a,w,c,h=>by rw[PP];exact q _ _ _ c h
 | f+1,b,a,w,c,h=>by
  rw[show f+1+g=(f+g)+1 by omega]
  exact⟨λu=>absurd u h.1,λi y=>wpOp_of_qOp c (λr z e s=>Ob q f _ r z e s) (h.2 i y)⟩
def O0(md:Region.Mode)(ops:Array Oper)(b:List Nat)(a:Array Bool):Bool :=
 (List.range ops.size).all λt=>a.getD t false || b.contains t || b.all λh=>PS md ops h ops.size t
structure Inv(md:Region.Mode)(ops:Array Oper)(hs:List Nat)(listed0 listed:Array Bool):Prop where
 closed:K6 md ops listed
 only:∀j,listed.getD j false=true->listed0.getD j false=true\/j∈hs
 size:listed.size=ops.size
theorem Inv.set{f:List Nat}{b a:Array Bool}{i:Nat}(c:Inv md ops f b a)(k:i∈Region.ready md ops a)(h:i∈f):Inv md ops f b (a.setIfInBounds i true) :=
 ⟨c.closed.set k,λj g=>by
  by_cases e:i=j
  .subst e;exact .inr h
  .rw [Aiz false e] at g;exact c.only j g,by simp[c.size]⟩
theorem Inv.ready{f:List Nat}{b a:Array Bool}{i:Nat}(s:Inv md ops f b a)(e:∀j,b.getD j false=true->a.getD j false=true)
 (q:O0 md ops f b=true) (w:i∈f) (r:a.getD i false=false):∀j∈Region.ready md ops a,j∈f:=λj u=>by
 obtain⟨g,y,k,_⟩:=mem_ready.1 u
 have h:=(AbY.1 k).1
 have c:=Acw.1 q j (Aij.2 h)
 simp only[Ait] at c
 rcases c with(c|c)|c
 .have:=e j c
  rw[getD_both g] at this;cases this
 .simpa using c
 .exact absurd u (LP s.closed r _ _ (Acw.1 c i w)).2

theorem V4{hs:List Nat}{listed0:Array Bool}(hi:ops[B]?=some a)(D:∀(g:Nat) (o:Oper) S b,ops[g]?=some o->o.op≠.select S b)
 (aa:O0 md ops hs listed0=true) (hh:B∈hs) (F:∀i c,j i c->∀g∈hs,i.getD g false=true) :
 ∀(f:Nat) (i:Array Bool) (c:Act),Inv md ops hs listed0 i->(∀g,listed0.getD g false=true->i.getD g false=true) ->
  (∀g O,ops[g]?=some O->g≠B->i.getD g true=false->(∀e∈O.after,Region.binds md e=true->e.on≠B)->a.apart ops O=true) ->
  B∈Region.ready md ops i->YieldsIn P ops C a G c ->
  V3 P md ops C j f (i.setIfInBounds B true) (c.put a.dst G)->V3 P md ops C j (f+1) i c:=by
 intro f
 induction f with
 | zero =>
  intro i c w hm _ z hy H
  have r:=getD_both (mem_ready.1 z).1
  refine⟨λh=>(by rw[h] at z;cases z),λg J=>?_⟩
  have M:=w.ready hm aa hh r g J
  by_cases q:g=B
  .subst q;exact hy.qOp hi H
  .have E:=F _ _ H g M
   rw[Aiz false (Ai4 q)] at E
   have:=getD_both (mem_ready.1 J).1
   rw[E] at this;cases this
 | succ f ih =>
  intro i c w hm s z hy H
  have r:=getD_both (mem_ready.1 z).1
  refine⟨λh=>(by rw[h] at z;cases z),λg J=>?_⟩
  have M:=w.ready hm aa hh r g J
  by_cases q:g=B
  .subst q;exact hy.qOp hi H
  .have E:=H.2 g (ready_mono J q)
   obtain⟨y,O,N,T⟩:=mem_ready.1 J
   have Z:∀e∈O.after,Region.binds md e=true->e.on≠B:=λe he hb heq=>by
    have E:=T e he hb
    rw[heq,r] at E
    cases E
   have h2:=qOp_put N (s g O N q y Z) (λS b=>D B a S b hi) (λS b=>D g O S b N) hy E
   have u:∀k ok,ops[k]?=some ok->k≠B->(i.setIfInBounds g true).getD k true=false ->
    (∀e∈ok.after,Region.binds md e=true->e.on≠B)->a.apart ops ok=true:=λk ok hk hki r hno=>by
    refine s k ok hk hki ?_ hno
    by_cases X:g=k
    .subst X;exact y
    .rw [Aiz true X] at r;exact r
   refine qOp_mono (λa' h3=>ih (i.setIfInBounds g true) a' (w.set J M) (λk hk=>Air (hm k hk)) u (ready_mono z (Ai4 q)) h3.1 ?_) h2
   rw[Array.setIfInBounds_comm _ _ q]
   exact h3.2

def marks(a:Array Bool):List Nat->Array Bool
 | []=>a
 | i::is=>marks (a.setIfInBounds i true) is
def GA(md:Region.Mode)(ops:Array Oper):List Nat->Array Bool->Bool
 | [],_=>true
 | i::is,a=>(Region.ready md ops a).contains i && Region.free md ops a i && GA md ops is (a.setIfInBounds i true)
def XC(md:Region.Mode)(ops:Array Oper):List Nat->Array Bool->Bool
 | [],_=>true
 | i::is,a=>decide (Region.ready md ops a=[i]) && XC md ops is (a.setIfInBounds i true)
def at_(os:List Oper)(i:Nat):Oper:=os.getD i { op:=.assign (.const .nilIface),dst:=none,guard:=none,after:=#[],type:=0,pos := "" }
theorem CM{i:Nat}{listed:Array Bool}(h:i∈Region.ready md c.toArray listed):c.toArray[i]?=some (at_ c i):=by
 obtain⟨_,o,a,_⟩:=mem_ready.1 h
 rw[a]
 have b:c[i]?=some o:=by simpa using a
 unfold at_
 rw[Aio,b];rfl

theorem R9:∀(b:List Nat) (a:Array Bool),(marks a b).size=a.size
 | [],_=>rfl
 | i::is,a=>by rw[marks,R9 is];simp

def PU(P:Program)(ops:Array Oper)(K:Act->Prop):List Oper->Act->Prop
 | [],a=>K a
 | o::rest,a=>∃v,Yields P ops o v a/\PU P ops K rest (a.put o.dst v)
def NP(Q:Exit->Act->World->Prop):Exit->Act->World->Prop
 | .panic _,_,_=>False
 | e,a,w=>Q e a w
theorem NP.imp :∀(e:Exit) (a:Act) (w:World),NP T e a w->T e a w:=λe a w h=>by
 cases e<;>first|exact h|exact(h:False).elim
def RQ(K:Act->World->Prop)(Q:Exit->Act->World->Prop):Exit->Act->World->Prop
 | .normal,a,w=>K a w
 | e,a,w=>Q e a w
theorem RQ.out(h:LetsOut (RQ N T)):LetsOut T:=h
theorem wpRQ{c:Act->World->Prop}(h:a.wp P g b c (RQ N T)):a.wp P g b c T:=by
 unfold Oper.wp at *
 generalize (execOp g.eval a).run P b=r at *
 cases r with
 | ok n i =>
  cases n<;>simp only[Oper.upon] at h ⊢ <;>
   first
    | exact h
    | exact Calls.mono h (λe j f=>by cases e<;>first|exact f|exact RQ.out f)
 | halt x i=>cases x<;>simp only[Oper.upon] at h ⊢<;>exact h
theorem P2{Q:Exit->Act->World->Prop}{os:List Oper}{K:Act->Prop}{w:World}{g:Nat}(e:Region.noSelect os.toArray=true):∀(f:List Nat) (b:Array Bool) (a:Act),GA .any os.toArray f b=true ->
 PU P os.toArray K (f.map (at_ os)) a->(∀a,K a->wpAny P .any os.toArray (NP Q) g (marks b f) a w)->wpAny P .any os.toArray (NP Q) (f.length+g) b a w
 | [],b,a,_,h,k=>by simpa [marks] using k a h
 | i::is,b,a,r,h,k=>by
  simp only[GA,Hr] at r
  obtain⟨⟨s,y⟩,j⟩:=r
  obtain⟨v,B,u⟩:=h
  have q:i∈Region.ready .any os.toArray b:=by simpa using s
  rw[Acg,show is.length+1+g=(is.length+g)+1 by omega]
  exact wpAny_take (CM q) e y s (λc a w z=>z) B (P2 e is _ _ j u k)
theorem P1{Q:Exit->Act->World->Prop}{os:List Oper}{K:Act->World->Prop}{g:Nat}:∀(k:List Nat) (b:Array Bool) (a:Act) (w:World),XC .any os.toArray k b=true ->
 wpList P os.toArray (RQ K Q) (k.map (at_ os)) a w->(∀a w,K a w->wpAny P .any os.toArray Q g (marks b k) a w)->wpAny P .any os.toArray Q (k.length+g) b a w
 | [],b,a,w,_,h,q=>by simpa [marks] using q a w h
 | i::is,b,a,w,f,h,q=>by
  simp only[XC,Hr,decide_eq_true_eq] at f
  rw[Acg,show is.length+1+g=(is.length+g)+1 by omega]
  refine⟨λu=>(by rw[f.1] at u;cases u),λj r=>?_⟩
  have B:=CM r
  rw[f.1] at r
  have s:j=i:=by simpa using r
  subst s
  have D:wpOp P os.toArray Q j (wpList P os.toArray (RQ K Q) (is.map (at_ os))) a w:=by
   unfold wpOp
   simp only[B]
   have e:wpList P os.toArray (RQ K Q) (at_ os j::is.map (at_ os)) a w:=h
   unfold wpList at e
   split
   .rename_i c
    rw[IR c] at e
    exact e.imp wpRQ λh=>⟨h.1,RQ.out h.2⟩
   .rename_i c
    rw[E9 c] at e
    exact e
  exact wpOp_mono (λy E z=>P1 is _ y E f.2 z q) D
theorem Q2{os:List Oper}{C:World->Prop}{k:List Nat}{c:Array Bool}{D:Act->Prop}(q:Region.noSelect os.toArray=true)(w:O0 .any os.toArray k c=true):
 ∀(y:List Nat) (b:Array Bool) (a:Act),(∀j∈y,j∈k)->Inv .any os.toArray k c b->(∀j,c.getD j false=true->b.getD j false=true)->(∀j∈k,j∈y\/b.getD j false=true) ->
 GA .any os.toArray y b=true->wpQuiet P os.toArray C D (y.map (at_ os)) a ->
 V3 P .any os.toArray C (λe N=>(∀j∈k,e.getD j false=true)/\Inv .any os.toArray k c e/\(∀j,c.getD j false=true->e.getD j false=true)/\D N) y.length b a
 | [],b,a,_,g,B,G,_,h=>⟨λj r=>(G j r).resolve_left C9,g,B,h⟩
 | i::is,b,a,r,g,B,G,M,h=>by
  simp only[GA,Hr] at M
  obtain⟨⟨T,S⟩,F⟩:=M
  have f:i∈Region.ready .any os.toArray b:=by simpa using T
  have z:=CM f
  have J:qOp P os.toArray C i (wpQuiet P os.toArray C D (is.map (at_ os))) a:=by unfold qOp;simp only[z];exact h
  obtain⟨v,X,O⟩:=yieldsIn_of_qOp z J
  have u:=r i C9
  refine V4 (hs:=k) (listed0:=c) z (Region.noSelect_spec q) w u (λ_ _ h j r=>h.1 j r) is.length b a g B (Region.free_spec z S) f X ?_
  have:=Q2 q w is (b.setIfInBounds i true) (a.put (at_ os i).dst v) (λj h=>r j (by simp[h])) (g.set f u) (λj h=>Air (B j h)) (λj h=>by
   rcases G j h with s|s
   .rcases Rl.1 s with rfl|s
    .right
     have H:j<b.size:=by
      have:=(mem_ready.1 f).1
      rcases Ai0 j b.size with E | E
      .exact E
      .simp [Array.getElem?_eq_none E] at this
     simp[H]
    .exact .inl s
   .exact .inr (Air s)) F O
  exact this
theorem TR:∀(g:List Nat) (a:Array Bool) (j:Nat),(marks a g).getD j false=true<->a.getD j false=true\/(j∈g/\j<a.size)
 | [],a,j=>by simp[marks]
 | i::is,a,j=>by
  rw[marks,TR is]
  have f:(a.setIfInBounds i true).size=a.size:=C9
  rw[f]
  by_cases b:i=j
  .subst b
   by_cases c:i<a.size
   .simp [c]
   .simp [c]
  .rw [Aiz false b]
   have:j≠i:=λe=>b e.symm
   simp[this]
theorem Xn{b:Array Bool}(h:∀j,b.getD j false=true<->F.getD j false=true\/(j∈e/\j<F.size))(c:b.size=F.size):b=marks F e:=by
 apply Array.ext
 .rw [c,R9]
 .intro j f g
  have a:=(h j).trans (TR e F j).symm
  rw[Ai1,Ai1,Array.getElem?_eq_getElem f,Array.getElem?_eq_getElem g] at a
  simp only[Option.getD_some] at a
  cases i:b[j]<;>cases k:(marks F e)[j]<;>simp_all

/-! ### The steps -/
variable {Q:Exit->Act->World->Prop}{n:Nat}{p:Nat->Prop}{w0:World}{o:Oper}{rest os:List Oper}{l:Kn}{L:List Ent}{K:Act->World->Prop}
def WR(P:Program)(os:List Oper)(Q:Exit->Act->World->Prop)(n:Nat)(p:Nat->Prop)(w0:World)(g:Nat)(b:Array Bool)(l:Kn)(L:List Ent):Prop :=
 ∀a w,Has n a l->St p w0 w L->wpAny P .any os.toArray (NP Q) g b a w
def WP(P:Program)(ops:Array Oper)(K:Act->World->Prop)(n:Nat)(p:Nat->Prop)(w0:World)(rest:List Oper)(l:Kn)(L:List Ent):Prop :=
 ∀a,Has n a l->PU P ops (λb=>∀w,St p w0 w L->K b w) rest a
theorem WC.AS(e:P.follows .mixedOrders=true)(h:WR P os Q n p w0 os.length (Array.replicate os.length false) l L):WC P (.region B os.toArray true) Q n p w0 l L:=λa w c b =>
 Code.wp_mono NP.imp (wp_region_any e (by simpa using h a w.drew c b.drew))
def Rest(P:Program)(os:List Oper)(Q:Exit->Act->World->Prop)(g:Nat)(b:Array Bool):Act->World->Prop:=λa w=>wpAny P .any os.toArray (NP Q) g b a w
theorem WR.first{g:Nat}(b:List Nat)(c:Region.noSelect os.toArray=true)(f:GA .any os.toArray b F=true)(h:WP P os.toArray (Rest P os Q g (marks F b)) n p w0 (b.map (at_ os)) l L):WR P os Q n p w0 (b.length+g) F l L:=λa w j i =>
 P2 (K:=λe=>∀w,St p w0 w L->Rest P os Q g (marks F b) e w) c b F a f (h a j) λ_ h=>h w i
theorem WR.read(f:List Nat)(k:Region.noSelect os.toArray=true)(z:GA .any os.toArray f F=true)(M:QH .any os.toArray F=true)(r:O0 .any os.toArray f F=true)(s:F.size=os.length)
 (h:WQ P os.toArray (Rest P os Q B (marks F f)) n p w0 (f.map (at_ os)) l L):WR P os Q n p w0 (f.length+B) F l L:=λa w J G=>by
 have c:F.size=os.toArray.size:=by simpa using s
 have H:=Q2 (P:=P) (C:=λw=>St p w0 w L) k r f F a (λ_ h=>h) ⟨Oj M,λ_ h=>.inl h,c⟩ (λ_ h=>h) (λ_ h=>.inl h) z (h a J)
 refine Ob (g:=B) ?_ f.length F a w G H
 rintro b S O D ⟨y,i,N,E⟩
 have e:b=marks F f:=Xn (λj=>by
  constructor
  .intro u
   rcases i.only j u with g|g
   .exact .inl g
   .refine .inr ⟨g,?_⟩
    rcases Ai0 j b.size with q | q
    .rw [i.size, <- c] at q;exact q
    .simp [Array.getElem?_eq_none q] at u
  .rintro (g|⟨g,_⟩)
   .exact N j g
   .exact y j g) (i.size.trans c.symm)
 rw[e]
 exact E O D
theorem WR.ones(b:List Nat)(c:XC .any os.toArray b F=true)(h:WL P os.toArray (RQ (Rest P os Q B (marks F b)) (NP Q)) n p w0 (b.map (at_ os)) l L):WR P os Q n p w0 (b.length+B) F l L:=λa w f e =>
 P1 b F a w c (h a w f e) λ_ _ h=>h
theorem WR.done(b:Region.ready .any os.toArray F=[])(h:WE Q .normal n p w0 l L):WR P os Q n p w0 0 F l L:=λa w e c=>⟨b,h a w e c⟩
theorem WP.nil(h:WR P os Q n p w0 B F l L):WP P os.toArray (Rest P os Q B F) n p w0 [] l L:=λa c w b=>h a w c b
theorem WQ.Y6(h:WR P os Q n p w0 B F l L):WQ P os.toArray (Rest P os Q B F) n p w0 [] l L:=λa c w b=>h a w c b
theorem WL.Y6(h:WR P os Q n p w0 B F l L):WL P os.toArray (RQ (Rest P os Q B F) (NP Q)) n p w0 [] l L:=λa w c b=>h a w c b
theorem WP.val(g:Val P (λ_=>True) n l o G)(e:On ops o l)(c:o.dst=some B)(f:Nat.blt B n=true)
 (h:WP P ops K n p w0 rest ((B,G)::l) L):WP P ops K n p w0 (o::rest) l L:=λa b =>
 ⟨G,.inl ⟨e.ok b,λw=>g a w b trivial⟩,h _ (b.GU c f G)⟩
theorem WP.skip(e:o.guard=some (B,k))(f:(ops[B]?).bind (·.dst)=some H)(g:look l H=some G)(j:isB G k=false)(c:o.dst=some X)(i:Nat.blt X n=true)
 (h:WP P ops K n p w0 rest ((X,undef)::l) L):WP P ops K n p w0 (o::rest) l L:=λa b =>
 ⟨undef,.inr ⟨by rw[N0 e f b g j],rfl⟩,h _ (b.GU c i _)⟩
theorem WP.test  [Decidable D]{d:Nat}(f:Val P (λ_=>True) n l o (.bool (decide D))) (c:On ops o l) (b:o.dst=some d) (e:Nat.blt d n=true)
 (h:D->WP P ops K n p w0 rest ((d,.bool true)::l) L) (g:¬D->WP P ops K n p w0 rest ((d,.bool false)::l) L):WP P ops K n p w0 (o::rest) l L:=by
 by_cases a:D
 .exact WP.val f c b e (by rw[UV a];exact h a)
 .exact WP.val f c b e (by rw[Ro a];exact g a)
theorem WL.as{L':List Ent}(e:L=L')(h:WL P ops T n p w0 rest l L'):WL P ops T n p w0 rest l L:=e ▸ h
theorem WE.as{L':List Ent}{e:Exit}(a:L=L')(h:WE Q e n p w0 l L'):WE Q e n p w0 l L:=a ▸ h
end
section
variable {P:Program}{ops:Array Oper}{Q:Exit->Act->World->Prop}{n:Nat}{p:Nat->Prop}{w0:World}{o:Oper}{rest:List Oper}{l:Kn}{L:List Ent}
theorem zM(e:(o.op,ev l J,o.guard,o.dst,Nat.blt B n)=(.move J,some G,none,some B,true))(h:WL P ops Q n p w0 rest ((B,G)::l) L):WL P ops Q n p w0 (o::rest) l L:=WL.val (DG (If (λJ=>J.1) e) (If (λJ=>J.2.1) e)) (.none (If (λJ=>J.2.2.1) e)) (If (λJ=>J.2.2.2.1) e) (If (λJ=>J.2.2.2.2) e) h
theorem zA(e:(o.op,ev l J,o.guard,o.dst,Nat.blt B n)=(.assign J,some G,none,some B,true))(h:WL P ops Q n p w0 rest ((B,G)::l) L):WL P ops Q n p w0 (o::rest) l L:=WL.val (MG (If (λJ=>J.1) e) (If (λJ=>J.2.1) e)) (.none (If (λJ=>J.2.2.1) e)) (If (λJ=>J.2.2.2.1) e) (If (λJ=>J.2.2.2.2) e) h
theorem zX(e:(o.op,ev l J,M[B]?,o.guard,o.dst,Nat.blt H n)=(.extract J B,some (.tuple M.toArray),some G,none,some H,true))(h:WL P ops Q n p w0 rest ((H,G)::l) L):WL P ops Q n p w0 (o::rest) l L:=WL.val (CB (If (λJ=>J.1) e) (If (λJ=>J.2.1) e) (If (λJ=>J.2.2.1) e)) (.none (If (λJ=>J.2.2.2.1) e)) (If (λJ=>J.2.2.2.2.1) e) (If (λJ=>J.2.2.2.2.2) e) h
theorem zC{a:Addr}(e:(o.op,ev l J,o.guard,o.dst,Nat.blt B n)=(.nilCheck J,some (.pointer (some a)),none,some B,true))(h:WL P ops Q n p w0 rest ((B,.pointer (some a))::l) L):WL P ops Q n p w0 (o::rest) l L:=WL.val (GP (If (λJ=>J.1) e) (If (λJ=>J.2.1) e)) (.none (If (λJ=>J.2.2.1) e)) (If (λJ=>J.2.2.2.1) e) (If (λJ=>J.2.2.2.2) e) h
theorem zF{a d:Nat}(e:(o.op,ev l J,o.guard,o.dst,Nat.blt d n)=(.fieldAddr B J H,some (.pointer (some ⟨X,0,none⟩)),none,some d,true))(b:AF P B H q a)(h:WL P ops Q n p w0 rest ((d,.pointer (some ⟨X,q,none⟩))::l) L):WL P ops Q n p w0 (o::rest) l L:=WL.val (FG (If (λJ=>J.1) e) (If (λJ=>J.2.1) e) b) (.none (If (λJ=>J.2.2.1) e)) (If (λJ=>J.2.2.2.1) e) (If (λJ=>J.2.2.2.2) e) h
theorem zV(a:Val P (λw=>St p w0 w L) n l o G)(e:(o.guard,o.dst,Nat.blt B n)=(none,some B,true))(h:WL P ops Q n p w0 rest ((B,G)::l) L):WL P ops Q n p w0 (o::rest) l L:=WL.val a (.none (If (λx=>x.1) e)) (If (λx=>x.2.1) e) (If (λx=>x.2.2) e) h
theorem qV(a:Val P (λw=>St p w0 w L) n l o G)(e:(o.guard,o.dst,Nat.blt B n)=(none,some B,true))(h:WQ P ops N n p w0 rest ((B,G)::l) L):WQ P ops N n p w0 (o::rest) l L:=WQ.val a (.none (If (λx=>x.1) e)) (If (λx=>x.2.1) e) (If (λx=>x.2.2) e) h
theorem pV(a:Val P (λ_=>True) n l o G)(e:(o.guard,o.dst,Nat.blt B n)=(none,some B,true))(h:WP P ops N n p w0 rest ((B,G)::l) L):WP P ops N n p w0 (o::rest) l L:=WP.val a (.none (If (λx=>x.1) e)) (If (λx=>x.2.1) e) (If (λx=>x.2.2) e) h
theorem zT  [Decidable D]{d:Nat}(c:Val P (λw=>St p w0 w L) n l o (.bool (decide D))) (e:(o.guard,o.dst,Nat.blt d n)=(none,some d,true)) (b:D->WL P ops Q n p w0 rest ((d,.bool true)::l) L) (a:¬D->WL P ops Q n p w0 rest ((d,.bool false)::l) L):WL P ops Q n p w0 (o::rest) l L:=WL.test c (.none (If (λx=>x.1) e)) (If (λx=>x.2.1) e) (If (λx=>x.2.2) e) b a
theorem pT  [Decidable D]{d:Nat}(c:Val P (λ_=>True) n l o (.bool (decide D))) (e:(o.guard,o.dst,Nat.blt d n)=(none,some d,true)) (b:D->WP P ops N n p w0 rest ((d,.bool true)::l) L) (a:¬D->WP P ops N n p w0 rest ((d,.bool false)::l) L):WP P ops N n p w0 (o::rest) l L:=WP.test c (.none (If (λx=>x.1) e)) (If (λx=>x.2.1) e) (If (λx=>x.2.2) e) b a
theorem zS(a:Val P (λw=>St p w0 w L) n l o G)(e:(o.guard,(ops[B]?).bind (·.dst),look l H,o.dst,Nat.blt X n)=(some (B,k),some H,some (.bool k),some X,true))(h:WL P ops Q n p w0 rest ((X,G)::l) L):WL P ops Q n p w0 (o::rest) l L:=WL.val a (.some (If (λx=>x.1) e) (If (λx=>x.2.1) e) (If (λx=>x.2.2.1) e)) (If (λx=>x.2.2.2.1) e) (If (λx=>x.2.2.2.2) e) h
theorem zK(c:FJ P f)(e:(o.op,evs l h,o.guard,o.dst,Nat.blt B n)=(.call { callee:=.value (.func f),args:=h.toArray,argTypes:=i },some M,none,some B,true))(a:∀w,St p w0 w L->Calls P f M.toArray w λe g=>∃v b,e=.returned v/\St p w0 g b/\WL P ops Q n p w0 rest ((B,v)::l) b):WL P ops Q n p w0 (o::rest) l L:=WL.call (If (λx=>x.1) e) (If (λx=>x.2.1) e) c (.none (If (λx=>x.2.2.1) e)) (If (λx=>x.2.2.2.1) e) (If (λx=>x.2.2.2.2) e) a
theorem zB{d:Nat}{parts:List (Nat×Operand)}{b:List (Nat×Value)}{a:List Value}(j:P.underlying B=some (.slice H))(f:(P.info? H).map (·.size)=some X)(k:Zero P H M)(c:JM (λi=>some (i*X,X)) ((List.replicate q M).flatten) b=some a)(e:(o.op,evp l parts,M.length,Nat.ble (q*X) 16777216,o.guard,o.dst,Nat.blt d n)=(.buildSlice B q parts.toArray,some b,X,true,none,some d,true))(h:∀g,w0.heap.size<=g->WL P ops Q n p w0 rest ((d,.slice (some ⟨g,0,none⟩) q q)::l) (.row g a::L)):WL P ops Q n p w0 (o::rest) l L:=WL.buildSlice (If (λx=>x.1) e) (If (λx=>x.2.1) e) j f k (If (λx=>x.2.2.1) e) (Ai6 (If (λx=>x.2.2.2.1) e)) c (.none (If (λx=>x.2.2.2.2.1) e)) (If (λx=>x.2.2.2.2.2.1) e) (If (λx=>x.2.2.2.2.2.2) e) h
theorem cR(h:WL P c.toArray (Exit.then (O.wp P Q) Q) n p w0 c l L):WC P (.seq (.region B c.toArray false) O) Q n p w0 l L:=WC.seq (WC.region h)
theorem zR(h:WL P c.toArray (Exit.then (O.wp P Q) Q) n p w0 c l L):WL P ops (Exit.then ((Code.seq (.region B c.toArray false) O).wp P Q) Q) n p w0 [] l L:=WL.nt (cR h)
theorem cQ(b:P.follows .mixedOrders=true)(h:WQ P c.toArray (Q .normal) n p w0 c l L)(a:Region.lexB .any c.toArray=true:=by kernel_rfl):WC P (.region B c.toArray true) Q n p w0 l L:=WC.quiet b a h
end
section
variable {P:Program}{os:List Oper}{Q:Exit->Act->World->Prop}{n:Nat}{p:Nat->Prop}{w0:World}{l:Kn}{L:List Ent}
theorem rD(h:WE Q .normal n p w0 l L)(a:Region.ready .any os.toArray F=[]:=by kernel_rfl):WR P os Q n p w0 0 F l L:=WR.done a h
theorem rO(g:Nat)(a:List Nat)(h:WL P os.toArray (RQ (Rest P os Q g (marks F a)) (NP Q)) n p w0 (a.map (at_ os)) l L)(b:XC .any os.toArray a F=true:=by kernel_rfl):WR P os Q n p w0 (a.length+g) F l L:=WR.ones a b h
theorem rF(g:Nat)(b:List Nat)(h:WP P os.toArray (Rest P os Q g (marks F b)) n p w0 (b.map (at_ os)) l L)(a:Region.noSelect os.toArray=true:=by kernel_rfl)(c:GA .any os.toArray b F=true:=by kernel_rfl):WR P os Q n p w0 (b.length+g) F l L:=WR.first b a c h
theorem rA(g:Nat)(a:List Nat)(e:F.size=os.length)(h:WQ P os.toArray (Rest P os Q g (marks F a)) n p w0 (a.map (at_ os)) l L)(b:Region.noSelect os.toArray=true:=by kernel_rfl)(f:GA .any os.toArray a F=true:=by kernel_rfl)(i:QH .any os.toArray F=true:=by kernel_rfl)(c:O0 .any os.toArray a F=true:=by kernel_rfl):WR P os Q n p w0 (a.length+g) F l L:=WR.read a b f i c e h
end
section
variable {fn:Func}{R:Ending->World->Prop}{n:Nat}{p:Nat->Prop}{w0:World}{l:Kn}{L:List Ent}{r1:ResultVar}{v1:Value}
theorem tR(b:fn.results = #[r1])(a:HT prog (λw=>St p w0 w L) l r1 v1)(h:∀w,St p w0 w L->R (.returned v1) w):WE (bodyPost prog fn R) .ret n p w0 l L:=WE.ret1 (.inl rfl) b a h
end
section
variable {P:Program}{Q:Exit->Act->World->Prop}{n:Nat}{p:Nat->Prop}{w0:World}{l:Kn}{L:List Ent}
theorem cF(a:ev l J=some (.bool false))(h:WC P r Q n p w0 l L):WC P (.cond J O r) Q n p w0 l L:=WC.RA a h
theorem cT(a:ev l J=some (.bool true))(h:WC P O Q n p w0 l L):WC P (.cond J O r) Q n p w0 l L:=WC.RC a h
theorem cS(h:WC P O (Exit.then (r.wp P Q) Q) n p w0 l L):WC P (.seq O r) Q n p w0 l L:=WC.seq h
theorem zN{ops:Array Oper}(h:WC P O Q n p w0 l L):WL P ops (Exit.then (O.wp P Q) Q) n p w0 [] l L:=WL.nt h
theorem eN(h:WC P O Q n p w0 l L):WE (Exit.then (O.wp P Q) Q) .normal n p w0 l L:=h
theorem eR(h:WE Q .ret n p w0 l L):WE (Exit.then N Q) .ret n p w0 l L:=h
theorem eX(h:WE Q (.exit B) n p w0 l L):WE (Exit.then N Q) (.exit B) n p w0 l L:=h
theorem cE(h:WE Q .ret n p w0 l L):WC P .ret Q n p w0 l L:=WC.ret h
theorem cK(h:WE Q .normal n p w0 l L):WC P .skip Q n p w0 l L:=WC.skip h
theorem eB(h:WE Q .ret n p w0 l L):WE (Exit.inBlock B Q) .ret n p w0 l L:=h
theorem eY(h:WE Q .normal n p w0 l L):WE (Exit.inBlock B Q) .normal n p w0 l L:=h
theorem cB(h:WC P O (Exit.inBlock B Q) n p w0 l L):WC P (.block B O) Q n p w0 l L:=WC.block h
theorem cX(h:WE Q (.exit B) n p w0 l L):WC P (.exit B) Q n p w0 l L:=WC.exit h
theorem eH(h:WE Q .normal n p w0 l L):WE (Exit.inBlock B Q) (.exit B) n p w0 l L:=WE.Pl h
theorem zH(h:WR P c Q n p w0 B F l L):WL P c.toArray (RQ (Rest P c Q B F) (NP Q)) n p w0 [] l L:=WL.Y6 h
end

section
variable {P:Program}{C:World->Prop}{ops:Array Oper}{Q:Exit->Act->World->Prop}{n:Nat}{p:Nat->Prop}{w0:World}{o:Oper}{rest:List Oper}{l:Kn}{L:List Ent}
variable {t kt et d:Nat}{x xi:Operand}{K:Value->Prop}{A:Value}{es:Array MapEntry}{m:Value->Option Value}

theorem WL.EH{F:Ent->List Ent}(X:o.op=.mapUpdate t x xi J)(hx:ev l x=some (.map (some B)))(T:ev l xi=some A)(hv:ev l J=some G)(hu:P.underlying t=some (.map kt et))(hk:HD P kt K)(E:K A)
 [M:Loc L B (.obj B (.map es H)) F] (N:CP K es m) (S:On ops o l) (O:o.dst=none)
 (h:∀b c,CP K b (CR m A (some G))->b.size=(if (m A).isSome then es.size else es.size+1)->(MapKept.Stamped es H->MapKept.Stamped b c)->WL P ops Q n p w0 rest l (F (.obj B (.map b c)))):WL P ops Q n p w0 (o::rest) l L:=by
 refine WL.act S O λa w i u=>?_
 obtain⟨r,s,rfl,rfl⟩:=M.ok
 have f:=(u.holds (.obj B (.map es H)) C9).1
 obtain⟨b,c,Z,g,q,k⟩:=Kd (P:=P) (A:=A) (v:=G) (w:=w) hu hk E f N
 refine⟨{ w with heap:=w.heap.setIfInBounds B (.map b c) },r++.obj B (.map b c)::s,.inl ?_,?_,h b c g q k⟩
 .have y:=i.ev hx;have z:=i.ev T;have D:=i.ev hv
  unfold execOp
  simp[X,y,z,D,Z]
 .exact u.put (g:=B) (e:=.obj B (.map b c)) (hp:=⟨λ_=>⟨r,s,_,rfl,rfl,rfl⟩⟩) U Frm.setObj ⟨by
   have j:=(AbY.1 f).1
   simp[j],trivial⟩

theorem WL.range{g c:Nat}(u:o.op=.range t x)(z:ev l x=some (.map (some g)))(y:P.underlying t=some (.map kt et))(q:Ent.obj g (.map es c)∈L)(k:On ops o l)(j:o.dst=some d)(s:Nat.blt d n=true)
 (h:∀r,w0.heap.size<=r->WL P ops Q n p w0 rest ((d,.pointer (some ⟨r,0,none⟩))::l) (.obj r (.mapIter (some g) c #[] c)::L)):WL P ops Q n p w0 (o::rest) l L:=by
 refine WL.op k j s λa w i b=>?_
 have e:=(b.holds _ q).1
 refine⟨_,_,_,?_,St.newObj (ob:=.mapIter (some g) c #[] c) b trivial,h _ b.frm.size⟩
 have f:=i.ev z
 unfold execOp
 simp[u,f,Instr.range,Rr y,Ail e,newObj,Sem.run,Result.andThen]
theorem WL.Aff(j:o.op=.range t x)(q:ev l x=some (.map none))(k:P.underlying t=some (.map kt et))(g:On ops o l)(f:o.dst=some d)(i:Nat.blt d n=true)
 (h:∀r,w0.heap.size<=r->WL P ops Q n p w0 rest ((d,.pointer (some ⟨r,0,none⟩))::l) (.obj r (.mapIter none 0 #[] 0)::L)):WL P ops Q n p w0 (o::rest) l L:=by
 refine WL.op g f i λa w e b=>?_
 refine⟨_,_,_,?_,St.newObj (ob:=.mapIter none 0 #[] 0) b trivial,h _ b.frm.size⟩
 have c:=e.ev q
 unfold execOp
 simp[j,c,Instr.range,Rr k,newObj,Sem.run,Result.andThen]

theorem Qz(k:Nat)(hk:0<k)(w:World):∃i a,(choose (.mapNext k)).run P w=.ok i a/\i<k/\(a=w\/a=w.drew):=by
 rw[run_choose_drew]
 by_cases h:k<=1
 .exact ⟨0,w,by simp[Question.forced,h],hk,.inl U⟩
 .exact ⟨_,w.drew,by simp only[Question.forced,decide_eq_true_eq,h,if_false];rfl,Nat.mod_lt _ hk,.inr U⟩
theorem Afm{ty:Nat}{seen:Array Nat}(O:b.heap[B]?=some (.mapIter (some H) X seen X))(hm:b.heap[H]?=some (.map es X))(y:MapKept.Stamped es X):
 ((∀e∈es.toList,e.born∈seen.toList)/\∃j,(j=b\/j=b.drew)/\(Instr.next (.pointer (some ⟨B,0,none⟩)) false ty).run P b=.ok (.tuple #[.bool false]) j) \/
 ∃e j,e∈es.toList/\e.born ∉ seen.toList/\(j=b\/j=b.drew)/\(Instr.next (.pointer (some ⟨B,0,none⟩)) false ty).run P b=.ok (.tuple #[.bool true,e.key,e.val]) { j with heap:=j.heap.setIfInBounds B (.mapIter (some H) X (seen.push e.born) X) }:=by
 have G:(!seen.isEmpty && !es.isEmpty && es.all λe=>decide (e.born >= X))=false:=by
  cases D:es.isEmpty with
  | true=>simp
  | false =>
   have g:es.toList≠[]:=by
    intro e
    have:es = #[]:=by simpa using e
    rw[this] at D;simp at D
   obtain⟨e,c⟩:=List.exists_mem_of_ne_nil _ g
   have hlt:=y.1 e c
   have:(es.all λe=>decide (e.born >= X))=false:=by
    cases h:es.all λe=>decide (e.born >= X) with
    | false=>rfl
    | true =>
     have:=Array.all_eq_true'.1 h e (by simpa using c)
     simp only[ge_iff_le,decide_eq_true_eq] at this;omega
   rw[this];simp
 have u:((es.filter λe => !seen.contains e.born).filter λe=>decide (e.born<X))=es.filter λe => !seen.contains e.born:=by
  apply Aif.1
  rw[Array.toList_filter]
  refine List.filter_eq_self.2 λe c=>?_
  have:e∈es.toList:=by
   rw[Array.toList_filter] at c
   exact(Aig.1 c).1
  simpa using y.1 e this
 have s:((es.filter λe => !seen.contains e.born).filter λe=>decide (e.born >= X)) = #[]:=by
  apply Aif.1
  rw[Array.toList_filter]
  refine List.filter_eq_nil_iff.2 λe c=>?_
  have:e∈es.toList:=by
   rw[Array.toList_filter] at c
   exact(Aig.1 c).1
  have:=y.1 e this
  simp;omega
 by_cases f:∀e∈es.toList,e.born∈seen.toList
 .left
  refine⟨f,?_⟩
  have q:(es.filter λe => !seen.contains e.born) = #[]:=by
   apply Aif.1
   rw[Array.toList_filter]
   refine List.filter_eq_nil_iff.2 λe c=>?_
   have:=f e c
   simpa using this
  refine⟨b,.inl U,?_⟩
  rw[q] at u s
  simp only[Instr.next,Ah5]
  rw[show(getObj B).run P b=.ok (.mapIter (some H) X seen X) b by simp[getObj,Sem.run,O]]
  simp only[Aes,Ah5,Ail hm,G,q,Ai5,if_false]
  simp[choose,Sem.run,Question.forced]
 .right
  have g:(es.filter λe => !seen.contains e.born).isEmpty=false:=by
   cases h:(es.filter λe => !seen.contains e.born).isEmpty with
   | false=>rfl
   | true =>
    exfalso
    apply f
    intro e c
    have h0:es.filter (λe => !seen.contains e.born) = #[]:=by simpa using h
    have:e ∉ (es.filter λe => !seen.contains e.born).toList:=by rw[h0];simp
    rw[Array.toList_filter,Aig] at this
    by_cases hb:e.born∈seen.toList
    .exact hb
    .exact absurd ⟨c,by simpa using hb⟩ this
  generalize z:(es.filter λe => !seen.contains e.born)=a at *
  have J:0<a.size:=by
   cases Z:a.size with
   | zero=>have:=Array.eq_empty_of_size_eq_zero Z;rw[this] at g;simp at g
   | succ k=>omega
  have w:((if a.isEmpty=true then #[none] else #[])++(a++#[]).map some:Array (Option MapEntry))=a.map some:=by rw[g];simp
  obtain⟨i,j,N,T,M⟩:=Qz (P:=P) (a.map some).size (by simpa using J) b
  have F:i<a.size:=by simpa using T
  have E:(a.map some)[i]?=some (some a[i]):=by simp[F]
  have r:a[i]∈es.toList/\a[i].born ∉ seen.toList:=by
   have h1:a[i]∈(es.filter λe => !seen.contains e.born).toList:=by rw[z];simp
   rw[Array.toList_filter] at h1
   have h2:=Aig.1 h1
   exact⟨h2.1,by simpa using h2.2⟩
  refine⟨a[i],j,r.1,r.2,M,?_⟩
  have S:j.heap[B]?=some (.mapIter (some H) X seen X):=by rcases M with rfl|rfl<;>exact O
  simp only[Instr.next,Ah5]
  rw[show(getObj B).run P b=.ok (.mapIter (some H) X seen X) b by simp[getObj,Sem.run,O]]
  simp only[Aes,Ah5,Ail hm,G,z,u,s,Ai5,if_false,w,N,E]
  simp[setObj,Sem.run,S]

theorem WL.next{r g c:Nat}{seen:Array Nat}{F:Ent->List Ent}(H:o.op=.next x false)(hx:ev l x=some (.pointer (some ⟨r,0,none⟩)))[J:Loc L r (.obj r (.mapIter (some g) c seen c)) F](Z:Ent.obj g (.map es c)∈L)(B:MapKept.Stamped es c)
 (T:On ops o l) (O:o.dst=some d) (hn:Nat.blt d n=true)
 (f:(∀e∈es.toList,e.born∈seen.toList)->WL P ops Q n p w0 rest ((d,.tuple #[.bool false])::l) L)
 (b:∀e∈es.toList,e.born ∉ seen.toList->WL P ops Q n p w0 rest ((d,.tuple #[.bool true,e.key,e.val])::l) (F (.obj r (.mapIter (some g) c (seen.push e.born) c)))):WL P ops Q n p w0 (o::rest) l L:=by
 refine WL.op T O hn λa w M j=>?_
 obtain⟨D,E,rfl,rfl⟩:=J.ok
 have G:=M.ev hx
 have X:=(j.holds (.obj r (.mapIter (some g) c seen c)) C9).1
 have y:=(j.holds _ Z).1
 rcases Afm (P:=P) (ty:=o.type) X y B with⟨q,s,i,z⟩|⟨e,s,S,N,i,z⟩
 .refine ⟨_,s,_,?_,?_,f q⟩
  .unfold execOp;simp[H,G,z]
  .rcases i with rfl|rfl
   .exact j
   .exact j.drew
 .have k:St p w0 s (D++.obj r (.mapIter (some g) c seen c)::E):=by
   rcases i with rfl|rfl
   .exact j
   .exact j.drew
  refine⟨_, { s with heap:=s.heap.setIfInBounds r (.mapIter (some g) c (seen.push e.born) c) },_,?_,?_,b e S N⟩
  .unfold execOp;simp[H,G,z]
  .exact k.put (g:=r) (e:=.obj r (.mapIter (some g) c (seen.push e.born) c)) (hp:=⟨λ_=>⟨D,E,_,rfl,rfl,rfl⟩⟩) U Frm.setObj ⟨by
    have u:=(AbY.1 (k.holds (.obj r (.mapIter (some g) c seen c)) C9).1).1
    simp[u],trivial⟩
theorem find_born{es:Array MapEntry}(f:MapKept.Stamped es B){e:MapEntry}(g:e∈es.toList):es.find? (λx=>x.born == e.born)=some e:=by
 cases h:es.find? (λx=>x.born == e.born) with
 | none =>
  have:=Array.find?_eq_none.1 h e (by simpa using g)
  simp at this
 | some y =>
  have q:y∈es.toList:=by simpa using Array.mem_of_find?_eq_some h
  have r:y.born=e.born:=by simpa using Array.find?_some h
  obtain⟨i,k⟩:=List.mem_iff_getElem?.1 q
  obtain⟨j,b⟩:=List.mem_iff_getElem?.1 g
  have a:(es.toList.map (·.born))[i]?=some e.born:=by rw[WF,k];simp[r]
  have c:(es.toList.map (·.born))[j]?=some e.born:=by rw[WF,b];rfl
  have:i=j:=(List.getElem?_inj (Eu.1 a).1 f.2.1).1 (by rw[a,c])
  subst this
  rw[k] at b;exact b
theorem LL{g c since:Nat}{seen:Array Nat}{e:MapEntry}(u:o.op=.entry x)(y:ev l x=some (.pointer (some ⟨B,0,none⟩)))(r:Ent.obj B (.mapIter (some g) since (seen.push e.born) c)∈L)(s:Ent.obj g (.map es c)∈L)(h:MapKept.Stamped es c)(q:e∈es.toList):
 Val P (λw=>St p w0 w L) n l o (.tuple #[e.key,e.val]):=λa w k i=>by
 have j:=k.ev y
 have b:=(i.holds _ r).1
 have f:=(i.holds _ s).1
 unfold execOp
 simp only[u,j,Instr.entry,Ah5]
 rw[show(getObj B).run P w=.ok (.mapIter (some g) since (seen.push e.born) c) w by simp[getObj,Sem.run,b]]
 simp[Ail f,find_born h q,Result.andThen]
def JD(es:Array MapEntry)(seen:Array Nat):Nat:=(es.toList.filter λe => !seen.toList.contains e.born).length
theorem HA{es:Array MapEntry}{seen:Array Nat}{e:MapEntry}(c:e∈es.toList)(g:e.born ∉ seen.toList):JD es (seen.push e.born)<JD es seen:=by
 unfold JD
 have a:(es.toList.filter λx => !(seen.push e.born).toList.contains x.born)=(es.toList.filter λx => !seen.toList.contains x.born).filter λx => !(x.born == e.born):=by
  rw[List.filter_filter]
  apply List.filter_congr
  intro x _
  by_cases h:x.born=e.born<;>by_cases i:x.born∈seen.toList<;>simp_all
 rw[a]
 refine Nat.lt_of_le_of_ne (List.length_filter_le _ _) λb=>?_
 have f:e∈es.toList.filter λx => !seen.toList.contains x.born:=Aig.2 ⟨c,by simpa using g⟩
 have:=List.length_filter_eq_length_iff.1 b e f
 simp at this
theorem WE.to{e:Exit}{L':List Ent}(f:∀w,St p w0 w L->St p w0 w L')(h:WE T e n p w0 l L'):WE T e n p w0 l L:=λa w c b=>h a w c (f w b)
theorem WC.to{L':List Ent}(e:∀w,St p w0 w L->St p w0 w L')(h:WC P O Q n p w0 l L'):WC P O Q n p w0 l L:=λa w c b=>h a w c (e w b)
theorem WL.to{L':List Ent}(e:∀w,St p w0 w L->St p w0 w L')(h:WL P ops Q n p w0 rest l L'):WL P ops Q n p w0 rest l L:=λa w c b=>h a w c (e w b)
end

section
variable {P:Program}{ops:Array Oper}{md:Region.Mode}{I:World->Prop}{R:World->World->Prop}

def MS(P:Program)(ops:Array Oper)(I:World->Prop)(R:World->World->Prop)(o:Oper)(v:Value)(a:Act):Prop :=
 (Region.wanted o (yielded ops a.tmps)=true/\∀w,I w->o.quietAt P a (R w) w v)\/(Region.wanted o (yielded ops a.tmps)=false/\v=undef)
theorem MS.of_same{b:Act}(f:MS P ops I R a G g)(c:execOp b.eval a=execOp g.eval a)
 (e:Region.wanted a (yielded ops b.tmps)=Region.wanted a (yielded ops g.tmps)):MS P ops I R a G b:=by
 unfold MS Oper.quietAt at *
 rw[c,e]
 exact f
def Yv(P:Program)(ops:Array Oper)(I:World->Prop)(R:World->World->Prop)(b:List Nat)(i:Nat)(o:Oper)(v:Value)(a:Act):Prop :=
 if i∈b then Yields P ops o v a else MS P ops I R o v a
theorem Yv.put{j:List Nat}{i:Nat}{o:Oper}{v u:Value}{a:Act}{c:Option Tmp}(q:∀k b,o.op≠.select k b)(g:∀d,c=some d->d ∉ o.looksAt ops):
 Yv P ops I R j i o v (a.put c u)<->Yv P ops I R j i o v a:=by
 have e:=execOp_put o q a c u g
 have f:=wanted_put (ops:=ops) o a c u g
 unfold Yv
 split
 .exact ⟨λh=>h.of_same e.symm f.symm,λh=>h.of_same e f⟩
 .exact ⟨λh=>h.of_same e.symm f.symm,λh=>h.of_same e f⟩
theorem SV(z:ops[B]?=some a)(s:Yv P ops I R e B a G g)(D:I b)
 (j:∀q,q=b\/R b q->N (g.put a.dst G) q):wpOp P ops T B N g b:=by
 unfold Yv at s
 split at s
 .exact s.wpOp z (j b (.inl U))
 .unfold wpOp
  simp only[z]
  rcases s with⟨y,H⟩|⟨y,rfl⟩
  .simp only [y,if_true]
   refine .inl ?_
   have h:=H b D
   unfold Oper.quietAt at h
   unfold Oper.wp
   generalize (execOp g.eval a).run P b=r at *
   cases r with
   | ok n q =>
    cases n<;>simp only[Oper.quietUpon] at h<;>simp only[Oper.upon]
    case value u =>
     obtain⟨i,w⟩:=h
     rw[i,w]
     exact j _ (.inl U)
    case skip =>
     obtain⟨i,w⟩:=h
     rw[i, <- w]
     exact j _ (.inl U)
    case enter f args =>
     obtain⟨i,E⟩:=h
     rw[i]
     exact E.mono λc J ⟨F,k⟩=>by subst F;exact j _ (.inr k)
   | halt x q=>simp only[Oper.quietUpon] at h
  .simp only [y,Ai5,if_false];exact j b (.inl U)

def PW(P:Program)(md:Region.Mode)(ops:Array Oper)(I:World->Prop)(R:World->World->Prop)(c g:List Nat)(e:Array Bool->Act->Prop):Nat->Array Bool->Act->Prop
 | 0,b,a=>e b a
 | f+1,b,a=>(∃i∈Region.ready md ops b,i∈c)/\∀i∈Region.ready md ops b,i∈c->∃o v,ops[i]?=some o/\Yv P ops I R g i o v a/\PW P md ops I R c g e f (b.setIfInBounds i true) (a.put o.dst v)
theorem V2{ps:List Nat}(hi:ops[B]?=some a)(E:∀(h:Nat) (o:Oper) N b,ops[h]?=some o->o.op≠.select N b)
 (hh:B∈e) (J:∀i c,j i c->∀h∈e,i.getD h false=true) :
 ∀(f:Nat) (i:Array Bool) (c:Act),
  (∀h oj,ops[h]?=some oj->h≠B->i.getD h true=false->(∀g∈oj.after,Region.binds md g=true->g.on≠B)->a.apart ops oj=true) ->
  B∈Region.ready md ops i->Yv P ops I R ps B a G c ->
  PW P md ops I R e ps j f (i.setIfInBounds B true) (c.put a.dst G)->PW P md ops I R e ps j (f+1) i c:=by
 intro f
 induction f with
 | zero =>
  intro i c _ Z hy H
  refine⟨⟨B,Z,hh⟩,λh hj M=>?_⟩
  by_cases q:h=B
  .subst q;exact⟨a,G,hi,hy,H⟩
  .have F:=J _ _ H h M
   rw[Aiz false (Ai4 q)] at F
   have:=getD_both (mem_ready.1 hj).1
   rw[F] at this;cases this
 | succ f ih =>
  intro i c r Z hy H
  have z:=getD_both (mem_ready.1 Z).1
  refine⟨⟨B,Z,hh⟩,λh hj M=>?_⟩
  by_cases q:h=B
  .subst q;exact⟨a,G,hi,hy,H⟩
  .obtain ⟨s,u,X,hyj,Hj⟩:=H.2 h (ready_mono hj q) M
   obtain⟨D,oj,y,O⟩:=mem_ready.1 hj
   obtain rfl:s=oj:=Ade (X.symm.trans y)
   have T:∀g∈s.after,Region.binds md g=true->g.on≠B:=λg he hb heq=>by
    have F:=O g he hb
    rw[heq,z] at F
    cases F
   obtain⟨F,h2,h3⟩:=Oper.apart_spec (r h s y q D T)
   have w:∀k ok,ops[k]?=some ok->k≠B->(i.setIfInBounds h true).getD k true=false ->
    (∀g∈ok.after,Region.binds md g=true->g.on≠B)->a.apart ops ok=true:=λk ok hk hki z hno=>by
    refine r k ok hk hki ?_ hno
    by_cases S:h=k
    .subst S;exact D
    .rw [Aiz true S] at z;exact z
   refine⟨s,u,y,(Yv.put (λN b=>E h s N b y) F).1 hyj,ih _ _ w (ready_mono Z (Ai4 q)) ((Yv.put (λN b=>E B a N b hi) h3).2 hy) ?_⟩
   rw[Array.setIfInBounds_comm _ _ q, <- Act.put_comm c G u h2]
   exact Hj
theorem Q1{B S:List Nat}{k d:Nat}{u:Value}{F s:Array Bool->Act->Prop}(h:∀(j:Nat) (o:Oper) D b,ops[j]?=some o->o.op≠.select D b)(hk:k ∉ B)
 (q:∀i∈B, ∀o,ops[i]?=some o->d ∉ o.looksAt ops/\o.dst≠some d/\∀e∈o.after,Region.binds md e=true->e.on≠k)
 (J:∀c a,F c a->s (c.setIfInBounds k true) (a.put (some d) u)) :
 ∀(f:Nat) (c:Array Bool) (a:Act),PW P md ops I R B S F f c a->PW P md ops I R B S s f (c.setIfInBounds k true) (a.put (some d) u)
 | 0,c,a,H=>J _ _ H
 | f+1,c,a,⟨⟨i,hr,O⟩,H⟩=>by
  refine⟨⟨i,ready_mono hr λe=>hk (e ▸ O),O⟩,λj X g=>?_⟩
  have z:k≠j:=λe=>hk (e ▸ g)
  have E:j∈Region.ready md ops c:=by
   obtain⟨G,o,r,w⟩:=mem_ready.1 X
   refine mem_ready.2 ⟨by rw[Aiz true z] at G;exact G,o,r,λe N M=>?_⟩
   have:=w e N M
   rw[Aiz false (Ai4 ((q j g o r).2.2 e N M))] at this
   exact this
  obtain⟨o,v,r,hy,Z⟩:=H j E g
  obtain⟨n1,n2,_⟩:=q j g o r
  refine⟨o,v,r,(Yv.put (λD b=>h j o D b r) λT e=>by cases e;exact n1).2 hy,?_⟩
  have:=Q1 h hk q J f _ _ Z
  rw[Array.setIfInBounds_comm _ _ z,Act.put_comm a (x:=some d) (y:=o.dst) u v λT e=>by cases e;exact n2]
  exact this

theorem Has.AhI(h:Has B g [])(a:Option Nat)(v:Value):Has B (g.put a v) []:=by
 cases a with
 | none=>exact h
 | some d=>exact⟨by simp[Act.put,h.size],h.defers,λt v b=>by cases b⟩

/-! ### The checks -/
def Abg(md:Region.Mode)(ops:Array Oper)(b:List Nat)(k:Nat)(a:Array Bool):Bool :=
 (List.range ops.size).all λt=>a.getD t false || b.contains t || t == k || PS md ops k ops.size t
def SD(md:Region.Mode)(ops:Array Oper)(c b:List Nat)(a:Array Bool):Bool :=
 (List.range ops.size).all λt=>a.getD t false || c.contains t || b.all λh=>PS md ops h ops.size t
def Ae5(md:Region.Mode)(ops:Array Oper)(a:List Nat)(k d:Nat):Bool :=
 a.all λi=>i != k && match ops[i]? with
  | some o => !(o.looksAt ops).contains d && o.dst != some d && o.after.all λe => !Region.binds md e || e.on != k
  | none=>true
theorem Ze(h:Ae5 md ops e B H=true):B ∉ e/\∀i∈e, ∀o,ops[i]?=some o->H ∉ o.looksAt ops/\o.dst≠some H/\∀a∈o.after,Region.binds md a=true->a.on≠B:=by
 have b:=Acw.1 h
 refine⟨λhk=>?_,λi j o k=>?_⟩
 .have:=b B hk
  simp at this
 .have:=b i j
  simp only[k,Hr,Bool.not_eq_true',bne_iff_ne,ne_eq] at this
  refine⟨by simpa using this.2.1.1,this.2.1.2,λa g f=>?_⟩
  have c:=Array.all_eq_true'.1 this.2.2 a g
  rw[f] at c
  simpa using c
def Aef(md:Region.Mode)(ops:Array Oper)(b g:List Nat)(a:Array Bool):Bool :=
 g.all λi=>match ops[i]? with
  | some f=>(List.range ops.size).all λj=>j == i || a.getD j false || b.contains j || match ops[j]? with
   | some c=>(c.after.any λe=>Region.binds md e && e.on == i) || f.apart ops c
   | none=>true
  | none=>true

/-! ### The allocation is done -/
theorem Rc{q M:List Nat}{k:Array Bool}{D:World->Prop}{g:Nat}{Q:Exit->Act->World->Prop}{Lq:Array Bool->Act->Prop}(z:Region.noSelect ops=true)(N:∀w,D w->I w)(O:∀w w',D w->R w w'->D w')
 (Z:SD md ops (q++M) q k=true) (S:Aef md ops q M k=true)
 (y:∀b a w,Inv md ops (q++M) k b->(∀j,k.getD j false=true->b.getD j false=true)->Lq b a->D w->wpAny P md ops (NP Q) g b a w) :
 ∀(f:Nat) (b:Array Bool) (a:Act) (w:World),Inv md ops (q++M) k b->(∀j,k.getD j false=true->b.getD j false=true)->D w->PW P md ops I R (q++M) M Lq f b a->wpAny P md ops (NP Q) (f+g) b a w
 | 0,b,a,w,B,hm,hD,H=>by rw[PP];exact y _ _ _ B hm H hD
 | f+1,b,a,w,B,hm,hD,⟨⟨i0,s,T⟩,H⟩=>by
  rw[show f+1+g=(f+g)+1 by omega]
  by_cases G:∃h∈q,b.getD h false=false
  .obtain ⟨h,hh1,G⟩:=G
   refine⟨λh0=>(by rw[h0] at s;cases s),λi hi=>?_⟩
   have hih:i∈q++M:=by
    obtain⟨E,oj,F,_⟩:=mem_ready.1 hi
    have X:=(AbY.1 F).1
    have u:=Acw.1 Z i (Aij.2 X)
    simp only[Ait] at u
    rcases u with(u|u)|u
    .have:=hm i u
     rw[getD_both E] at this;cases this
    .simpa using u
    .exact absurd hi (LP B.closed G _ _ (Acw.1 u h hh1)).2
   obtain⟨o,v,ho,hy,hn⟩:=H i hi hih
   refine SV ho hy (N w hD) λw' aa=>Rc z N O Z S y f _ _ w' (B.set hi hih) (λj hj=>Air (hm j hj)) ?_ hn
   rcases aa with rfl|aa
   .exact hD
   .exact O _ _ hD aa
  .have J:∀h∈q,b.getD h false=true:=λh hh=>by
    cases e:b.getD h false with
    | true=>rfl
    | false=>exact absurd ⟨h,hh,e⟩ G
   have hu0:=getD_both (mem_ready.1 s).1
   have hp:i0∈M:=by
    rcases LI.1 T with h|h
    .rw [J i0 h] at hu0;cases hu0
    .exact h
   obtain⟨o,v,ho,hy,hn⟩:=H i0 s T
   unfold Yv at hy
   rw[IR hp] at hy
   refine wpAny_first ho (Region.noSelect_spec z) (λc a w hh=>hh) (f+g) b a w ?_ s hy (Rc z N O Z S y f _ _ w (B.set s T) (λj hj=>Air (hm j hj)) hD hn)
   intro j oj F hji E hno
   have X:=(AbY.1 F).1
   have u:=Acw.1 S i0 hp
   simp only[ho] at u
   have r:=Acw.1 u j (Aij.2 X)
   simp only[F,Ait,beq_iff_eq] at r
   rcases r with((r|r)|r)|r
   .exact absurd r hji
   .have:=hm j r
    rw[getD_both E] at this;cases this
   .have:=J j (by simpa using r)
    rw[getD_both E] at this;cases this
   .rcases r with r|r
    .obtain ⟨e,he,hb⟩:=Array.any_eq_true'.1 r
     simp only[Hr,beq_iff_eq] at hb
     exact absurd hb.2 (hno e he hb.1)
    .exact r
/-! ### The allocation is still to come -/
theorem Adw{E:List Nat}{D:Nat->World->Prop}{Lq':Nat->Array Bool->Act->Prop}
 (Z:Region.noSelect ops=true) (hsz0:F.size=ops.size) (hI:∀w w',I w->R w w'->I w') (hDI:∀x w,D x w->I w) (hDR:∀x w w',D x w->R w w'->D x w')
 (hok:ops[B]?=some a) (hov:Ae5 md ops (e++E) B H=true) (hsa:Abg md ops (e++E) B F=true)
 (hsk:SD md ops (e++E) e (F.setIfInBounds B true)=true) (hfr:Aef md ops e E (F.setIfInBounds B true)=true)
 (hal:∀(c:Act) (w:World) (K:Act->World->Prop),Has X c []->I w->(∀x w1,D x w1->K (c.put (some H) (.pointer (some ⟨x,0,none⟩))) w1)->wpOp P ops (NP T) B K c w)
 (aa:∀r c,j r c->∀k∈e++E,r.getD k false=true)
 (hL:∀x r c,j r c->Lq' x (r.setIfInBounds B true) (c.put (some H) (.pointer (some ⟨x,0,none⟩))))
 (S:∀x r c w,Inv md ops (e++E) (F.setIfInBounds B true) r->(∀k,(F.setIfInBounds B true).getD k false=true->r.getD k false=true)->Lq' x r c->D x w->wpAny P md ops (NP T) q r c w) :
 ∀(f:Nat) (r:Array Bool) (c:Act) (w:World),Inv md ops (e++E) F r->(∀k,F.getD k false=true->r.getD k false=true)->B∈Region.ready md ops r->Has X c []->I w->PW P md ops I R (e++E) E j f r c->wpAny P md ops (NP T) (f+1+q) r c w:=by
 obtain⟨hk,hno⟩:=Ze hov
 have only:∀r:Array Bool,Inv md ops (e++E) F r->(∀k,F.getD k false=true->r.getD k false=true)->B∈Region.ready md ops r->∀i∈Region.ready md ops r,i∈e++E\/i=B:=λr u J s i N=>by
  obtain⟨hju,oj,hoj,_⟩:=mem_ready.1 N
  have O:=(AbY.1 hoj).1
  have G:=Acw.1 hsa i (Aij.2 O)
  simp only[Ait,beq_iff_eq] at G
  rcases G with((G|G)|G)|G
  .have:=J i G
   rw[getD_both hju] at this;cases this
  .exact .inl (by simpa using G)
  .exact .inr G
  .exact absurd N (LP u.closed (getD_both (mem_ready.1 s).1) _ _ G).2
 have y:∀r:Array Bool,Inv md ops (e++E) F r->B∈Region.ready md ops r->(∀k,F.getD k false=true->r.getD k false=true)->Inv md ops (e++E) (F.setIfInBounds B true) (r.setIfInBounds B true)/\(∀k,(F.setIfInBounds B true).getD k false=true->(r.setIfInBounds B true).getD k false=true):=λr u s J=>by
  have O:B<r.size:=by
   have:=(mem_ready.1 s).1
   rcases Ai0 B r.size with h' | h'
   .exact h'
   .simp [Array.getElem?_eq_none h'] at this
  have hlt0:B<F.size:=by rw[hsz0, <- u.size];exact O
  have hset:∀k,(F.setIfInBounds B true).getD k false=true->(r.setIfInBounds B true).getD k false=true:=λk hj=>by
   by_cases M:B=k
   .subst M;simp[O]
   .rw [Aiz false M] at hj ⊢;exact J k hj
  refine⟨⟨u.closed.set s,λk hj=>?_,by simp[u.size]⟩,hset⟩
  by_cases M:B=k
  .subst M;exact .inl (by simp[hlt0])
  .rw [Aiz false M] at hj
   rcases u.only k hj with h2|h2
   .exact .inl (Air h2)
   .exact .inr h2
 intro f
 induction f with
 | zero =>
  intro r c w u J s ha z b
  rw[show 0+1+q=q+1 by omega]
  refine⟨λh0=>(by rw[h0] at s;cases s),λi N=>?_⟩
  rcases only r u J s i N with h|rfl
  .have G:=aa _ _ b i h
   have:=getD_both (mem_ready.1 N).1
   rw[G] at this;cases this
  .exact hal c w _ ha z λx w1 hD=>S x _ _ _ (y r u s J).1 (y r u s J).2 (hL x _ _ b) hD
 | succ f ih =>
  intro r c w u J s ha z b
  rw[show f+1+1+q=(f+1+q)+1 by omega]
  refine⟨λh0=>(by rw[h0] at s;cases s),λi N=>?_⟩
  rcases only r u J s i N with h|rfl
  .obtain ⟨o,v,ho,hy,hn⟩:=b.2 i N h
   refine SV ho hy z λw' hw'=>ih _ _ w' (u.set N h) (λk hj=>Air (J k hj)) (ready_mono s λg=>hk (g ▸ h)) (ha.AhI _ _) ?_ hn
   rcases hw' with rfl|hw'
   .exact z
   .exact hI _ _ z hw'
  .refine hal c w _ ha z λx w1 hD=>?_
   exact Rc Z (hDI x) (hDR x) hsk hfr (S x) (f+1) _ _ w1 (y r u s J).1 (y r u s J).2 hD (Q1 (Region.noSelect_spec Z) hk hno (λl c h=>hL x l c h) (f+1) _ _ b)

/-! ### From a list, and the steps -/
def S5(P:Program)(I:World->Prop)(R:World->World->Prop)(b:List Nat)(os:List Oper)(K:Act->Prop):List Nat->Act->Prop
 | [],a=>K a
 | i::is,a=>∃v,Yv P os.toArray I R b i (at_ os i) v a/\S5 P I R b os K is (a.put (at_ os i).dst v)
theorem Qd{e:List Nat}{os:List Oper}{K:Act->Prop}{c:List Nat}:∀(b:List Nat) (a:Act),S5 P I R e os (S5 P I R e os K c) b a->S5 P I R e os K (b++c) a
 | [],_,h=>h
 | _::is,_,⟨v,f,h⟩=>⟨v,f,Qd is _ h⟩
theorem Q0{os:List Oper}{r D:List Nat}{K:Act->Prop}(e:Region.noSelect os.toArray=true):
 ∀(q:List Nat) (b:Array Bool) (a:Act),(∀j∈q,j∈r)->(∀j∈r,j∈q\/b.getD j false=true)->GA .any os.toArray q b=true->S5 P I R D os K q a ->
 PW P .any os.toArray I R r D (λc E=>(∀j∈r,c.getD j false=true)/\K E) q.length b a
 | [],b,a,_,w,_,h=>⟨λj g=>(w j g).resolve_left C9,h⟩
 | i::is,b,a,g,w,B,h=>by
  simp only[GA,Hr] at B
  obtain⟨⟨H,G⟩,u⟩:=B
  have f:i∈Region.ready .any os.toArray b:=by simpa using H
  have z:=CM f
  obtain⟨v,J,F⟩:=h
  exact V2 z (Region.noSelect_spec e) (g i C9) (λ_ _ h j g=>h.1 j g) is.length b a (Region.free_spec z G) f J<|Q0 e is _ _ (λj h=>g j (by simp[h])) (λj h=>by
   rcases w j h with k|k
   .rcases Rl.1 k with rfl|k
    .right
     have y:j<b.size:=by
      have:=(mem_ready.1 f).1
      rcases Ai0 j b.size with s | s
      .exact s
      .simp [Array.getElem?_eq_none s] at this
     simp[y]
    .exact .inl k
   .exact .inr (Air k)) u F
def Su(P:Program)(ops:Array Oper)(I:World->Prop)(R:World->World->Prop)(K:Act->Prop):List Oper->Act->Prop
 | [],a=>K a
 | o::rest,a=>∃v,MS P ops I R o v a/\Su P ops I R K rest (a.put o.dst v)
theorem Se{e:List Nat}{os:List Oper}{K:Act->Prop}:∀(c:List Nat) (a:Act),(c.all λj => !e.contains j)=true->Su P os.toArray I R K (c.map (at_ os)) a->S5 P I R e os K c a
 | [],_,_,h=>h
 | i::is,a,b,⟨v,g,h⟩=>by
  simp only[List.all_cons,Hr,Bool.not_eq_true'] at b
  have f:i ∉ e:=by simpa using b.1
  exact⟨v,by unfold Yv;rw[E9 f];exact g,Se is _ b.2 h⟩
theorem TZ{e:List Nat}{os:List Oper}{K:Act->Prop}:∀(b:List Nat) (a:Act),(∀j∈b,j∈e)->PU P os.toArray K (b.map (at_ os)) a->S5 P I R e os K b a
 | [],_,_,h=>h
 | i::is,a,c,⟨v,g,h⟩=>⟨v,by unfold Yv;rw[IR (c i C9)];exact g,TZ is _ (λj f=>c j (by simp[f])) h⟩
theorem TY{f:List Nat}{os:List Oper}{K b:Act->Prop}(c:∀a,K a->b a):∀(e:List Nat) (a:Act),S5 P I R f os K e a->S5 P I R f os b e a
 | [],_,h=>c _ h
 | _::is,_,⟨v,g,h⟩=>⟨v,g,TY c is _ h⟩

variable {Q:Exit->Act->World->Prop}{n:Nat}{p:Nat->Prop}{w0:World}{o:Oper}{rest os:List Oper}{l:Kn}{L:List Ent}{K:Act->Prop}
def WM(P:Program)(ops:Array Oper)(K:Act->Prop)(n:Nat)(p:Nat->Prop)(w0:World)(rest:List Oper)(l:Kn)(L:List Ent):Prop :=
 ∀a,Has n a l->Su P ops (λw=>St p w0 w L) (Frm λ_=>False) K rest a
theorem WM.val(i:Val P (λw=>St p w0 w L) n l o G)(f:On ops o l)(e:o.dst=some B)(g:Nat.blt B n=true)
 (h:WM P ops K n p w0 rest ((B,G)::l) L):WM P ops K n p w0 (o::rest) l L:=λa b =>
 ⟨G,.inl ⟨f.ok b,λw c=>by unfold Oper.quietAt;rw[i a w b c];exact⟨rfl,rfl⟩⟩,h _ (b.GU e g G)⟩
theorem WM.FQ{k c:Array Value}(v:Value)(D:o.op=.call { callee:=.value J,args:=h.toArray,argTypes:=i })
 (j:ev l J=some (.func (.func f) k c)) (E:evs l h=some M) (u:FJ P f) (y:On ops o l) (s:o.dst=some B) (z:Nat.blt B n=true)
 (r:∀w,St p w0 w L->Calls P f (k++M.toArray++c) w λe F=>e=.returned v/\Frm (λ_=>False) w F) (b:WM P ops K n p w0 rest ((B,v)::l) L):WM P ops K n p w0 (o::rest) l L:=λa g =>
 ⟨v,.inl ⟨y.ok g,λw q=>by unfold Oper.quietAt;rw[Sw D j E u g];exact⟨rfl,r w q⟩⟩,b _ (g.GU s z v)⟩
theorem WM.call{f:FuncId}{b:List Operand}{u:Array TypeId}{a:List Value}{d:Nat}(v:Value)(r:o.op=.call { callee:=.value (.func f),args:=b.toArray,argTypes:=u })
 (s:evs l b=some a) (j:FJ P f) (k:On ops o l) (i:o.dst=some d) (q:Nat.blt d n=true)
 (g:∀w,St p w0 w L->Calls P f a.toArray w λe y=>e=.returned v/\Frm (λ_=>False) w y) (h:WM P ops K n p w0 rest ((d,v)::l) L):WM P ops K n p w0 (o::rest) l L :=
 WM.FQ (l:=l) v r U s j k i q (λw c=>by simpa using g w c) h
theorem WM.nil(h:WP P ops N n p w0 rest l L):WM P ops (PU P ops (λa=>∀w,St p w0 w L->N a w) rest) n p w0 [] l L:=h
def KM(P:Program)(os:List Oper)(Q:Exit->Act->World->Prop)(n:Nat)(p:Nat->Prop)(w0:World)(g d:Nat)(e:List Value)(b:Array Bool)(L:List Ent)(a:Act):Prop :=
 ∃c,Has n a c/\∀x,w0.heap.size<=x->WR P os Q n p w0 g b ((d,.pointer (some ⟨x,0,none⟩))::c) (.row x e::L)
theorem WP.NU(h:∀x,w0.heap.size<=x->WR P os Q n p w0 B F ((H,.pointer (some ⟨x,0,none⟩))::l) (.row x M::L)):
 WP P os.toArray (λa _=>KM P os Q n p w0 B H M F L a) n p w0 [] l L:=λ_ b _ _=>⟨l,b,h⟩
def mixB(os:List Oper)(k d:Nat)(b c:List Nat)(a:Array Bool):Bool :=
 Region.noSelect os.toArray && QH .any os.toArray a && GA .any os.toArray (b++c) a && (Region.ready .any os.toArray a).contains k && Ae5 .any os.toArray (b++c) k d &&
 Abg .any os.toArray (b++c) k a && SD .any os.toArray (b++c) b (a.setIfInBounds k true) && Aef .any os.toArray b c (a.setIfInBounds k true) && b.all λj => !c.contains j
theorem WR.mix{g:Nat}(k:Nat)(s q:List Nat)(ho:(at_ os k).op=.alloc B)(hz:Zero P B M)(hg:(at_ os k).guard=none)(hd:(at_ os k).dst=some H)(hn:Nat.blt H n=true)
 (hsz:F.size=os.length) (hB:mixB os k H s q F=true)
 (h:WM P os.toArray (PU P os.toArray (λy=>∀w,St p w0 w L->KM P os Q n p w0 g H M (marks (F.setIfInBounds k true) (s++q)) L y) (q.map (at_ os))) n p w0 (s.map (at_ os)) l L) :
 WR P os Q n p w0 ((s++q).length+1+g) F l L:=λa w ha O=>by
 simp only[mixB,Hr] at hB
 obtain⟨⟨⟨⟨⟨⟨⟨⟨G,hcl⟩,htk⟩,hkr⟩,hov⟩,hsa⟩,hsk⟩,hfr⟩,hps⟩:=hB
 have i:F.size=os.toArray.size:=by simpa using hsz
 have E:k∈Region.ready .any os.toArray F:=by simpa using hkr
 have S:=CM E
 have H0:S5 P (λw=>St p w0 w L) (Frm λ_=>False) q os (λy=>KM P os Q n p w0 g H M (marks (F.setIfInBounds k true) (s++q)) L y) (s++q) a:=by
  refine Qd s a (Se s a hps ?_)
  have u:=h a ha
  have Z:∀(K1 K2:Act->Prop) (hK:∀a,K1 a->K2 a) (r:List Oper) (a:Act),Su P os.toArray (λw=>St p w0 w L) (Frm λ_=>False) K1 r a->Su P os.toArray (λw=>St p w0 w L) (Frm λ_=>False) K2 r a:=by
   intro K1 K2 hK r
   induction r with
   | nil=>exact λa h=>hK a h
   | cons o r ih=>exact λa ⟨v,hy,h⟩=>⟨v,hy,ih _ h⟩
  exact Z _ _ (λa h=>TY (λa h=>h w O) q a (TZ q a (λ_ h=>h) h)) _ _ u
 have b:=Q0 (P:=P) G (s++q) F a (λ_ h=>h) (λ_ h=>.inl h) htk H0
 refine Adw (D:=λx w=>St p w0 w (.row x M::L)/\w0.heap.size<=x) (Lq':=λx c y=>(∀j∈s++q,c.getD j false=true)/\∃X,Has n y ((H,.pointer (some ⟨x,0,none⟩))::X)/\∀x,w0.heap.size<=x->WR P os Q n p w0 g (marks (F.setIfInBounds k true) (s++q)) ((H,.pointer (some ⟨x,0,none⟩))::X) (.row x M::L))
  G i (λw w' u f=>u.ext f) (λx w h=>h.1.tail) (λx w w' u f=>⟨u.1.ext f,u.2⟩) S hov hsa hsk hfr ?_ (λ_ _ h=>h.1) ?_ ?_ (s++q).length F a w ⟨Oj hcl,λ_ h=>.inl h,i⟩ (λ_ h=>h) E (ha.sub Sub.nil) O b
 .intro a w K ha O hK
  unfold wpOp
  simp only[S]
  rw[IR (by simp[Region.wanted,hg])]
  refine .inl ?_
  have hz':=hz
  obtain⟨z,hz,rfl⟩:=hz
  unfold Oper.wp
  have e:(execOp a.eval (at_ os k)).run P w=.ok (.value (.pointer (some ⟨w.heap.size,0,none⟩))) (w.alloc (.cells z.cells.toList.toArray B)):=by
   unfold execOp
   simp[ho,Instr.alloc,CE hz,newVar,newRow,newObj,Sem.run]
  rw[e]
  simp only[Oper.upon,hd]
  exact hK _ _ ⟨St.new (T:=B) O,O.frm.size⟩
 .rintro x c y ⟨u,X,J,f⟩
  exact⟨λj hj=>Air (u j hj),X,J.put hn _,f⟩
 .rintro x c y w' N hm ⟨u,X,J,f⟩ ⟨hS',hx⟩
  have e:c=marks (F.setIfInBounds k true) (s++q):=Xn (λj=>by
   constructor
   .intro hj
    rcases N.only j hj with f|f
    .exact .inl f
    .refine .inr ⟨f,?_⟩
     rcases Ai0 j c.size with h' | h'
     .rw [N.size, <- i] at h';simpa using h'
     .simp [Array.getElem?_eq_none h'] at hj
   .rintro (f|⟨f,_⟩)
    .exact hm j f
    .exact u j f) (by rw[N.size, <- i];simp)
  rw[e]
  exact f x hx y w' J hS'
def QX(K:Nat->Prop):List Nat->Prop
 | []=>True
 | [i]=>K i
 | i::j::is=>K i/\QX K (j::is)
theorem QX.get{K:Nat->Prop}:∀ {b:List Nat},QX K b->∀i∈b,K i
 | [],_,i,h=>by cases h
 | [j],h,i,a=>by rw[Es.1 a];exact h
 | j::k::is,h,i,a=>by
  rcases Rl.1 a with rfl|a
  .exact h.1
  .exact QX.get h.2 i a
theorem WR.each{g:Nat}(f:List Nat)(k:Region.ready .any os.toArray F=f)(e:f≠[])
 (h:QX (λi=>WL P os.toArray (RQ (Rest P os Q g (F.setIfInBounds i true)) (NP Q)) n p w0 [at_ os i] l L) f):WR P os Q n p w0 (g+1) F l L:=λa w r q=>by
 refine wpAny_all k e λi j=>?_
 have s:=CM (listed:=F) (i:=i) (by rw[k];exact j)
 have c:wpList P os.toArray (RQ (Rest P os Q g (F.setIfInBounds i true)) (NP Q)) [at_ os i] a w:=h.get i j a w r q
 unfold wpOp
 simp only[s]
 unfold wpList at c
 split
 .rename_i b
  rw[IR b] at c
  exact(c.imp wpRQ λh=>⟨h.1,RQ.out h.2⟩).imp (Oper.wp_mono λ_ _ h=>h) id
 .rename_i b
  rw[E9 b] at c
  exact c
end

structure SpT where
 S:Value->World->Prop
 st:∀v w w',S v w->Frm (λ_=>False) w w'->S v w'
def spec(a:List SpT)(i:Nat)(v:Value)(w:World):Prop:=match a[i]? with|some s=>s.S v w|none=>True
def Given(a:List SpT)(b:World)(G:Kn->Prop):List (Nat×Nat)->Kn->Prop
 | [],l=>G l
 | x::c,l=>∀v,spec a x.1 v b->Given a b G c ((x.2,v)::l)
abbrev Tb:=Nat×Nat×List (Nat×Nat)
section
variable {P:Program}{os:List Oper}{Q:Exit->Act->World->Prop}{n:Nat}{p:Nat->Prop}{w0:World}{l:Kn}{L:List Ent}
def FreeK(b:List SpT)(i d:Nat)(f:World)(n:Nat)(e:Kn):Act->World->Prop:=λc a=>Frm (λ_=>False) f a/\∃v,spec b i v a/\Has n c ((d,v)::e)
def FreeStep(P:Program)(os:List Oper)(Q:Exit->Act->World->Prop)(n:Nat)(p:Nat->Prop)(w0:World)(b:List SpT)(l:Kn)(L:List Ent)(x:Tb):Prop :=
 ∀a,St p w0 a L->∀e:Kn,Given b a (λc=>WL P os.toArray (RQ (FreeK b x.1 x.2.1 a n c) (NP Q)) n (λ_=>False) a [at_ os x.1] c []) x.2.2 (l++e)
/-! ### The checks -/
def Aaj(o:Oper)(j:Nat):Bool:=o.after.toList.any λe=>Region.binds .any e && Nat.beq e.on j
def Zr(os:List Oper)(j d:Nat):Bool:=match os[j]? with|some o=>(match o.dst with|some e=>Nat.beq e d|none=>false)|none=>false
def frB1(os:List Oper)(a:List Nat)(n:Nat)(k:Nat)(x:Tb):Bool :=
 Nat.beq x.1 k && Zr os k x.2.1 && Nat.blt x.2.1 n && !(a.contains x.2.1) &&
 (match os[k]? with
  | some o=>o.after.toList.all (λe=>Nat.blt e.on k) && x.2.2.all (λy=>Aaj o y.1 && Zr os y.1 y.2)
  | none=>false)
def frB(os:List Oper)(b:List Nat)(n:Nat):Nat->List Tb->List Nat->Bool
 | k,[],_=>Nat.beq k os.length
 | k,x::X,a=>frB1 os b n k x && !(a.contains x.2.1) && frB os b n (k+1) X (x.2.1::a)
structure FreeOk(os:List Oper)(ks:List Nat)(n:Nat)(X:List Tb):Prop where
 len:X.length=os.length
 one:∀(k:Nat) (x:Tb),X[k]?=some x->frB1 os ks n k x=true
 dif:∀(j k:Nat) (x y:Tb),X[j]?=some x->X[k]?=some y->j≠k->x.2.1≠y.2.1
def seen(os:List Oper)(b:Array Bool)(a:Act):Nat->Kn
 | 0=>[]
 | k+1=>match os[k]? with
  | some o=>(match o.dst with|some d=>if b.getD k false=true then(d,a.tmps.getD d undef)::seen os b a k else seen os b a k|none=>seen os b a k)
  | none=>seen os b a k
structure FreeInv(os:List Oper)(n:Nat)(p:Nat->Prop)(w0:World)(Ss:List SpT)(l:Kn)(L:List Ent)(listed:Array Bool)(a:Act)(w:World):Prop where
 size:listed.size=os.length
 has:Has n a l
 st:St p w0 w L
 sp:∀j o d,os[j]?=some o->o.dst=some d->listed.getD j false=true->spec Ss j (a.tmps.getD d undef) w
def left(os:List Oper)(a:Array Bool):Nat:=((List.range os.length).filter λj => !a.getD j false).length
def outsB(os:List Oper)(outs:List (Nat×Nat)):Bool:=outs.all λy=>Zr os y.1 y.2
end

section
variable {P:Program}{ops:Array Oper}{Q:Exit->Act->World->Prop}{n:Nat}{p:Nat->Prop}{w0:World}{o:Oper}{rest os:List Oper}{l:Kn}{L L0:List Ent}{K:Act->World->Prop}
def N6(P:Program)(os:List Oper)(Q:Exit->Act->World->Prop)(p:Nat->Prop)(w0:World)(L0:List Ent)(g:Nat)(b:Array Bool):Act->World->Prop:=λa w=>wpAnyH P .any os.toArray (NP Q) (λw=>St p w0 w L0) g b a w
def WRH(P:Program)(os:List Oper)(Q:Exit->Act->World->Prop)(n:Nat)(p:Nat->Prop)(w0:World)(L0:List Ent)(g:Nat)(b:Array Bool)(l:Kn)(L:List Ent):Prop :=
 ∀a w,Has n a l->St p w0 w L->N6 P os Q p w0 L0 g b a w
theorem WC.held(L0:List Ent)(f:P.follows .mixedOrders=true)(h:WRH P os Q n p w0 L0 os.length (Array.replicate os.length false) l L):WC P (.region B os.toArray true) Q n p w0 l L:=λa w e c =>
 Code.wp_mono NP.imp (wp_region_held (S:=λw=>St p w0 w L0) f (by have b:=h a w.drew e c.drew;unfold N6 at b;simpa using b))
def VP(P:Program)(ops:Array Oper)(S:World->Prop)(K:Act->Prop):List Oper->Act->Prop
 | [],a=>K a
 | o::rest,a=>∃v,YieldsIf P ops S o v a/\VP P ops S K rest (a.put o.dst v)
def WH(P:Program)(ops:Array Oper)(K:Act->World->Prop)(n:Nat)(p:Nat->Prop)(w0:World)(L0:List Ent)(rest:List Oper)(l:Kn)(L:List Ent):Prop :=
 ∀a,Has n a l->VP P ops (λw=>St p w0 w L0) (λb=>∀w,St p w0 w L->K b w) rest a
theorem Oa{K:Act->Prop}{S:World->Prop}{w:World}{g:Nat}(e:Region.noSelect os.toArray=true)(u:S w):∀(f:List Nat) (b:Array Bool) (a:Act),GA .any os.toArray f b=true ->
 VP P os.toArray S K (f.map (at_ os)) a->(∀a,K a->wpAnyH P .any os.toArray (NP Q) S g (marks b f) a w)->wpAnyH P .any os.toArray (NP Q) S (f.length+g) b a w
 | [],b,a,_,h,k=>by simpa [marks] using k a h
 | i::is,b,a,r,h,k=>by
  simp only[GA,Hr] at r
  obtain⟨⟨s,z⟩,j⟩:=r
  obtain⟨v,D,y⟩:=h
  have q:i∈Region.ready .any os.toArray b:=by simpa using s
  rw[Acg,show is.length+1+g=(is.length+g)+1 by omega]
  exact wpAnyH_take (CM q) e z s (λc a w B=>B) D u (Oa e u is _ _ j y k)
theorem WRH.first{g:Nat}(b:List Nat)(c:Region.noSelect os.toArray=true)(j:GA .any os.toArray b F=true)(f:∀w,St p w0 w L->St p w0 w L0)
 (h:WH P os.toArray (N6 P os Q p w0 L0 g (marks F b)) n p w0 L0 (b.map (at_ os)) l L):WRH P os Q n p w0 L0 (b.length+g) F l L:=λa w k e =>
 Oa (K:=λi=>∀w,St p w0 w L->N6 P os Q p w0 L0 g (marks F b) i w) c (f w e) b F a j (h a k) λ_ h=>h w e
theorem WRH.each{g:Nat}(c:List Nat)(f:Region.ready .any os.toArray F=c)(b:c≠[])
 (h:QX (λi=>WL P os.toArray (RQ (λa' w'=>St p w0 w' L0/\N6 P os Q p w0 L0 g (F.setIfInBounds i true) a' w') (NP Q)) n p w0 [at_ os i] l L) c):WRH P os Q n p w0 L0 (g+1) F l L:=λa w k j=>by
 refine wpAnyH_all f b λi e=>?_
 have q:=CM (listed:=F) (i:=i) (by rw[f];exact e)
 have h':wpList P os.toArray (RQ (λa' w'=>St p w0 w' L0/\N6 P os Q p w0 L0 g (F.setIfInBounds i true) a' w') (NP Q)) [at_ os i] a w:=h.get i e a w k j
 unfold wpOp
 simp only[q]
 unfold wpList at h'
 split
 .rename_i hwd
  exact Ca
 .rename_i hwd
  rw[E9 hwd] at h'
  exact h'
theorem WRH.one{g:Nat}(i:Nat)(c:Region.ready .any os.toArray F=[i])
 (h:WL P os.toArray (RQ (λb a=>St p w0 a L0/\N6 P os Q p w0 L0 g (F.setIfInBounds i true) b a) (NP Q)) n p w0 [at_ os i] l L):WRH P os Q n p w0 L0 (g+1) F l L :=
 WRH.each [i] c C9 h
theorem WRH.done(b:Region.ready .any os.toArray F=[])(h:WE Q .normal n p w0 l L):WRH P os Q n p w0 L0 0 F l L:=λa w e c=>⟨b,h a w e c⟩
theorem WH.nil(h:WRH P os Q n p w0 L0 B F l L):WH P os.toArray (N6 P os Q p w0 L0 B F) n p w0 L0 [] l L:=λa c w b=>h a w c b
theorem WL.BL(e:∀w,St p w0 w L->St p w0 w L0)(h:WRH P os Q n p w0 L0 B F l L):WL P os.toArray (RQ (λf c=>St p w0 c L0/\N6 P os Q p w0 L0 B F f c) (NP Q)) n p w0 [] l L:=λa w g b=>⟨e w b,h a w g b⟩
theorem WH.val(g:Val P (λw=>St p w0 w L0) n l o G)(e:On ops o l)(c:o.dst=some B)(f:Nat.blt B n=true)
 (h:WH P ops K n p w0 L0 rest ((B,G)::l) L):WH P ops K n p w0 L0 (o::rest) l L:=λa b =>
 ⟨G,.inl ⟨e.ok b,λw i=>g a w b i⟩,h _ (b.GU c f G)⟩
theorem WH.skip(e:o.guard=some (B,k))(f:(ops[B]?).bind (·.dst)=some H)(g:look l H=some G)(j:isB G k=false)(c:o.dst=some X)(i:Nat.blt X n=true)
 (h:WH P ops K n p w0 L0 rest ((X,undef)::l) L):WH P ops K n p w0 L0 (o::rest) l L:=λa b =>
 ⟨undef,.inr ⟨by rw[N0 e f b g j],rfl⟩,h _ (b.GU c i _)⟩
end

class AW(P:Program)(s i:Nat)(k ft:outParam Nat):Prop where h:AF P s i k ft
class HE(P:Program)(t:Nat):Prop where h:One P t
class FO(P:Program)(t:Nat)(m:outParam Nat):Prop where h:FU P t m
class IA(P:Program)(t:Nat)(e:outParam Nat):Prop where h:P.underlying t=some (.slice e)
class HF(P:Program)(t:Nat)(zs:outParam (List Value)):Prop where h:Zero P t zs
class L7(P:Program)(t:Nat)(pl:outParam (List (Nat×Nat))):Prop where h:NG P t pl
theorem Jv (s:D:=by
 first
 | exact DG rfl rfl
 | exact MG rfl rfl
 | exact X9 rfl rfl rfl
 | exact Ya rfl rfl rfl
 | exact FG rfl rfl AW.h
 | exact An rfl rfl HE.h (cellAt rfl)
 | exact AB rfl rfl FO.h rfl AL
 | exact CB rfl rfl rfl
 | exact GP rfl rfl
 | exact Qr rfl rfl IA.h
 | exact Abt rfl rfl rfl
 | exact GC rfl rfl HF.h L7.h rfl
 | exact EW rfl rfl rfl (DK W W)
 | exact GD rfl rfl rfl (DK W W)
 | exact MJ rfl rfl AW.h):D:=s
theorem Jn(s:D:=by first|exact .none rfl|exact .some rfl rfl rfl):D:=s
theorem Js (s:D->E:=by
 first
 | exact WE.Zz
 | exact WC.seq
 | exact WC.region
 | exact WL.Y6
 | exact WL.nil
 | exact WL.val Jv Jn rfl rfl
 | exact WL.skip rfl rfl rfl rfl rfl rfl
 | exact WC.RC rfl
 | exact WC.RA rfl
 | exact WE.XY
 | exact WC.ret
 | exact WC.skip
 | exact WE.Ts
 | exact WE.Aai
 | exact WC.block
 | exact WE.Uk
 | exact WC.exit
 | exact WE.Pl
 | exact WL.Afz rfl rfl rfl rfl FO.h rfl rfl Jn rfl
 | exact WL.DX rfl rfl rfl rfl HE.h (Ai6 rfl) Jn rfl
 | exact WQ.val Jv Jn rfl rfl
 | exact WQ.skip rfl rfl rfl rfl rfl rfl
 | exact WQ.Y6
 | exact WQ.nil
 | exact WP.val Jv Jn rfl rfl
 | exact WP.skip rfl rfl rfl rfl rfl rfl
 | exact WP.nil
 | exact WR.done C6
 | exact WH.val Jv Jn rfl rfl
 | exact WH.skip rfl rfl rfl rfl rfl rfl):D->E:=s
theorem Jc{G:Prop}(f:E->G)(g:D->E):D->G:=λh=>f (g h)
theorem Jqx(s:D->E:=by exact Jc Js (Jc Js (Jc Js (Jc Js Js)))):D->E:=s
theorem J1(h:D)(s:D->E:=by exact Js):E:=s h
theorem J2(h:D)(s:D->E:=by exact Jc Js Js):E:=s h
theorem J3(h:D)(s:D->E:=by exact Jc Js (Jc Js Js)):E:=s h
theorem J4(h:D)(s:D->E:=by exact Jc Js (Jc Js (Jc Js Js))):E:=s h
theorem J5(h:D)(s:D->E:=by exact Jqx):E:=s h
theorem J6(h:D)(s:D->E:=by exact Jc Js Jqx):E:=s h
theorem J7(h:D)(s:D->E:=by exact Jc Js (Jc Js Jqx)):E:=s h
theorem J8(h:D)(s:D->E:=by exact Jc Js (Jc Js (Jc Js Jqx))):E:=s h
theorem J9(h:D)(s:D->E:=by exact Jc Js (Jc Js (Jc Js (Jc Js Jqx)))):E:=s h
theorem J10(h:D)(s:D->E:=by exact Jc Jqx Jqx):E:=s h
theorem J11(h:D)(s:D->E:=by exact Jc Js (Jc Jqx Jqx)):E:=s h
theorem J12(h:D)(s:D->E:=by exact Jc Js (Jc Js (Jc Jqx Jqx))):E:=s h
theorem J13(h:D)(s:D->E:=by exact Jc Js (Jc Js (Jc Js (Jc Jqx Jqx)))):E:=s h
theorem J14(h:D)(s:D->E:=by exact Jc Js (Jc Js (Jc Js (Jc Js (Jc Jqx Jqx))))):E:=s h
theorem J15(h:D)(s:D->E:=by exact Jc Jqx (Jc Jqx Jqx)):E:=s h
theorem J16(h:D)(s:D->E:=by exact Jc Js (Jc Jqx (Jc Jqx Jqx))):E:=s h
theorem J17(h:D)(s:D->E:=by exact Jc Js (Jc Js (Jc Jqx (Jc Jqx Jqx)))):E:=s h
theorem J18(h:D)(s:D->E:=by exact Jc Js (Jc Js (Jc Js (Jc Jqx (Jc Jqx Jqx))))):E:=s h
theorem J19(h:D)(s:D->E:=by exact Jc Js (Jc Js (Jc Js (Jc Js (Jc Jqx (Jc Jqx Jqx)))))):E:=s h
theorem J20(h:D)(s:D->E:=by exact Jc Jqx (Jc Jqx (Jc Jqx Jqx))):E:=s h
theorem J21(h:D)(s:D->E:=by exact Jc Js (Jc Jqx (Jc Jqx (Jc Jqx Jqx)))):E:=s h
theorem J22(h:D)(s:D->E:=by exact Jc Js (Jc Js (Jc Jqx (Jc Jqx (Jc Jqx Jqx))))):E:=s h
theorem J23(h:D)(s:D->E:=by exact Jc Js (Jc Js (Jc Js (Jc Jqx (Jc Jqx (Jc Jqx Jqx)))))):E:=s h
theorem J25(h:D)(s:D->E:=by exact Jc Jqx (Jc Jqx (Jc Jqx (Jc Jqx Jqx)))):E:=s h
theorem J26(h:D)(s:D->E:=by exact Jc Js (Jc Jqx (Jc Jqx (Jc Jqx (Jc Jqx Jqx))))):E:=s h
theorem J27(h:D)(s:D->E:=by exact Jc Js (Jc Js (Jc Jqx (Jc Jqx (Jc Jqx (Jc Jqx Jqx)))))):E:=s h
theorem J28(h:D)(s:D->E:=by exact Jc Js (Jc Js (Jc Js (Jc Jqx (Jc Jqx (Jc Jqx (Jc Jqx Jqx))))))):E:=s h
theorem J29(h:D)(s:D->E:=by exact Jc Js (Jc Js (Jc Js (Jc Js (Jc Jqx (Jc Jqx (Jc Jqx (Jc Jqx Jqx)))))))):E:=s h
theorem J30(h:D)(s:D->E:=by exact Jc Jqx (Jc Jqx (Jc Jqx (Jc Jqx (Jc Jqx Jqx))))):E:=s h
theorem JT {a G:Prop}(t:D->E) (f:¬D->a) (s:(D->E)->(¬D->a)->G:=by
 intro t f
 first
 | exact WL.test (Ae rfl rfl rfl) Jn rfl rfl t f
 | exact WL.test (JF rfl rfl rfl) Jn rfl rfl t f
 | exact WL.test (Abr rfl rfl rfl) Jn rfl rfl t f
 | exact WL.test (Gs rfl rfl rfl) Jn rfl rfl t f
 | exact WL.test (v_leq rfl rfl rfl) Jn rfl rfl t f
 | exact WL.test (SK rfl rfl rfl) Jn rfl rfl t f
 | exact WQ.test (Ae rfl rfl rfl) Jn rfl rfl t f
 | exact WQ.test (JF rfl rfl rfl) Jn rfl rfl t f
 | exact WQ.test (Abr rfl rfl rfl) Jn rfl rfl t f
 | exact WQ.test (Gs rfl rfl rfl) Jn rfl rfl t f
 | exact WQ.test (v_leq rfl rfl rfl) Jn rfl rfl t f
 | exact WQ.test (SK rfl rfl rfl) Jn rfl rfl t f):G:=s t f
theorem Km{l a:Kn}(e:a.map (λp=>look l p.1)=a.map (λp=>some p.2):=by rfl):Sub l a:=by
 induction a with
 | nil=>exact .nil
 | cons x c b =>
  simp only[Acu,List.cons.injEq] at e
  exact .cons e.1 (b e.2)
theorem Kt{l a:Kn}(h:Sub l a:=by first|exact Km|(repeat (first|exact Sub.nil|refine Sub.cons rfl ?_|refine Sub.int rfl W ?_|refine Sub.int rfl C7 ?_))):Sub l a:=h
theorem Ls{a:List Ent}(h:a.Sublist s:=by first|exact Aia _|(repeat (first|exact Aia _|exact Aix _|refine List.Sublist.cons_cons _ ?_|refine List.Sublist.cons _ ?_|refine Adn ?_))):a.Sublist s:=h
theorem kp{p:Nat->Prop}{a:List Ent}(h:a.Sublist s:=by repeat (first|exact Aia _|exact Aix _|refine List.Sublist.cons_cons _ ?_|refine List.Sublist.cons _ ?_|refine Adn ?_)):∀w,St p b w s->St p b w a:=λ_ c=>c.sub h
section
variable {Q:Exit->Act->World->Prop}{n:Nat}{p:Nat->Prop}{w0:World}{l:Kn}{L:List Ent}
theorem eM{c:u->Kn}{b:u->List Ent}{a:u->Prop}(i:u)(f:a i)(g:Sub l (c i):=by exact Kt)(e:(b i).Sublist L:=by exact Ls):WE (Exit.then (Mid c b a n p w0) Q) .normal n p w0 l L:=WE.mid i f g e
theorem eW{c:u->Kn}{b:u->List Ent}{a:u->Prop}{m:u->Nat}(i:u)(h:m i<B)(f:a i)(g:Sub l (c i):=by exact Kt)(e:(b i).Sublist L:=by exact Ls):WE (Exit.then (Next c b a m B n p w0) Q) .normal n p w0 l L:=WE.next i h f g e
end
section
variable {fn:Func}{R:Ending->World->Prop}{n:Nat}{p:Nat->Prop}{w0:World}{l:Kn}{L:List Ent}{r1 r2 r3:ResultVar}{v1 v2 v3:Value}
theorem Jr(s:D:=by first|rfl|exact resRow rfl FO.h rfl|exact AhM rfl HE.h rfl):D:=s
theorem eT1(h:∀w,St p w0 w L->R (.returned v1) w)(b:fn.results = #[r1]:=by rfl)(a:HT prog (λw=>St p w0 w L) l r1 v1:=by exact Jr):WE (bodyPost prog fn R) .ret n p w0 l L:=WE.ret1 (.inl rfl) b a h
theorem eT2(h:∀w,St p w0 w L->R (.returned (.tuple #[v1,v2])) w)(c:fn.results = #[r1,r2]:=by rfl)(a:HT prog (λw=>St p w0 w L) l r1 v1:=by exact Jr)(b:HT prog (λw=>St p w0 w L) l r2 v2:=by exact Jr):WE (bodyPost prog fn R) .ret n p w0 l L:=WE.ret2 (.inl rfl) c a b h
theorem eT3(h:∀w,St p w0 w L->R (.returned (.tuple #[v1,v2,v3])) w)(e:fn.results = #[r1,r2,r3]:=by rfl)(a:HT prog (λw=>St p w0 w L) l r1 v1:=by exact Jr)(b:HT prog (λw=>St p w0 w L) l r2 v2:=by exact Jr)(c:HT prog (λw=>St p w0 w L) l r3 v3:=by exact Jr):WE (bodyPost prog fn R) .ret n p w0 l L:=WE.ret3 (.inl rfl) e a b c h
end
theorem fR :∀a,St (λ_=>False) b a s->Ending.returned G=.returned G/\Frm (λ_=>False) b a:=λ_ h=>⟨rfl,h.frm⟩
section
variable {P:Program}{ops:Array Oper}{Q:Exit->Act->World->Prop}{n:Nat}{p:Nat->Prop}{w0:World}{o:Oper}{rest:List Oper}{l:Kn}{L:List Ent}
theorem zk(g:FJ P f)(e:(o.op,evs l h,o.dst,Nat.blt B n)=(.call { callee:=.value (.func f),args:=h.toArray,argTypes:=i },some M,some B,true))(c:∀w,St p w0 w L->Calls P f M.toArray w λe k=>e=.returned G/\Frm (λ_=>False) w k)(a:WL P ops Q n p w0 rest ((B,G)::l) L)(j:On ops o l:=by exact Jn):WL P ops Q n p w0 (o::rest) l L:=WL.call (If Prod.fst e) (If (λx=>x.2.1) e) g j (If (λx=>x.2.2.1) e) (If (λx=>x.2.2.2) e) λw b=>Calls.then (c w b) b a
end
/-! ### Short forms -/
theorem Gx{a:Type}{l:List a}(h:B<l.length:=by omega):∃x,l[B]?=some x:=⟨l[B],FS h⟩
abbrev Fx:Nat->Prop:=λ_=>False
abbrev aG(g:Nat):Option Addr:=some ⟨g,0,none⟩
abbrev pG(g:Nat):Value:=.pointer (some ⟨g,0,none⟩)
abbrev iI(x:Int):Value:=.int .i64 x
abbrev aA(l:List Value):Value:=.agg l.toArray
abbrev sN:Value:=.slice none 0 0
abbrev Wd:=World
abbrev Vl:=Value
abbrev eL:=List Ent
abbrev vL:=List Value
abbrev RvF(v:Value)(w:World)(e:Ending)(a:World):Prop:=e=.returned v/\Frm Fx w a
abbrev Cl:FuncId->Array Value->World->(Ending->World->Prop)->Prop:=Calls prog
theorem en0{fn:Func}{R:Ending->World->Prop}(e:prog.funcs[f]?=some fn)(c:fn.body=some O)(g:fn.ntmps=B)(a:Nat.ble M.length B=true)(h:WC prog O (bodyPost prog fn R) B Fx b (Kl 0 M) []):Calls prog f M.toArray b R:=enter e c g a (St.start _ b) h
section
variable {P:Program}{Q:Exit->Act->World->Prop}{n:Nat}{p:Nat->Prop}{w0:World}{l:Kn}{L:List Ent}
theorem oLp(g:u->Kn)(e:u->List Ent)(a:u->Prop)(m:u->Nat){c:Code}(f:u)(h:a f)(b:∀i,a i->WC P c (Exit.then (Next g e a m (m i) n p w0) Q) n p w0 (g i) (e i))(k:Sub l (g f):=by exact Kt)(j:(e f).Sublist L:=by exact Ls):WC P (.loop c) Q n p w0 l L:=WC.loop g e a m f h k j b
variable {ops:Array Oper}{o:Oper}{rest:List Oper}{d:Nat}
theorem zx(c:o.op=.box B J)(f:ev l J=some G)(a:G.cells=M.toArray)(b:o.guard=none)(e:(o.dst,Nat.blt d n)=(some d,true))(h:∀g,w0.heap.size<=g->WL P ops Q n p w0 rest ((d,.pointer (some ⟨g,0,none⟩))::l) (.row g M::L)):WL P ops Q n p w0 (o::rest) l L:=WL.box c f a (.none b) (If Prod.fst e) (If Prod.snd e) h
theorem zy(b:o.op=.alloc B)(c:Zero P B M)(a:o.guard=none)(e:(o.dst,Nat.blt d n)=(some d,true))(h:∀g,w0.heap.size<=g->WL P ops Q n p w0 rest ((d,.pointer (some ⟨g,0,none⟩))::l) (.row g M::L)):WL P ops Q n p w0 (o::rest) l L:=WL.alloc b c (.none a) (If Prod.fst e) (If Prod.snd e) h
end
section
variable {P:Program}{ops:Array Oper}{n:Nat}{p:Nat->Prop}{w0:World}{o:Oper}{rest:List Oper}{l:Kn}{L L0:List Ent}{d:Nat}{v:Value}
theorem zm{K:Act->Prop}(a:Val P (λw=>St p w0 w L) n l o v)(e:(o.guard,o.dst,Nat.blt d n)=(none,some d,true))(h:WM P ops K n p w0 rest ((d,v)::l) L):WM P ops K n p w0 (o::rest) l L:=WM.val a (.none (If Prod.fst e)) (If (λx=>x.2.1) e) (If (λx=>x.2.2) e) h
theorem zj(a:Val P (λw=>St p w0 w L0) n l o v)(e:(o.guard,o.dst,Nat.blt d n)=(none,some d,true))(h:WH P ops N n p w0 L0 rest ((d,v)::l) L):WH P ops N n p w0 L0 (o::rest) l L:=WH.val a (.none (If Prod.fst e)) (If (λx=>x.2.1) e) (If (λx=>x.2.2) e) h
theorem qC(g:FJ P f)(e:(o.op,evs l h,o.guard,o.dst,Nat.blt d n)=(.call { callee:=.value (.func f),args:=h.toArray,argTypes:=i },some M,none,some d,true))(c:∀w,St p w0 w L->Calls P f M.toArray w λe j=>e=.returned v/\Frm Fx w j)(a:WQ P ops N n p w0 rest ((d,v)::l) L):WQ P ops N n p w0 (o::rest) l L:=WQ.call _ (If Prod.fst e) (If (λx=>x.2.1) e) g (.none (If (λx=>x.2.2.1) e)) (If (λx=>x.2.2.2.1) e) (If (λx=>x.2.2.2.2) e) (λw b=>Calls.still (c w b) b) a
end
theorem Zg(h:(prog.info? w).bind (·.zero)=some (.agg M.toArray):=by kernel_rfl):Zero prog w M:=⟨_,h,rfl⟩
noncomputable def okB(f:Nat):Bool:=match prog.funcs[f]? with|some fn => !(fn.name == "runtime.NumGoroutine") && fn.body.isSome|none=>false
theorem CkO(h:okB B=true:=by kernel_rfl):FJ prog B:=by
 unfold okB at h
 split at h
 .rename_i fn b
  rw[Hr] at h
  obtain⟨c,a⟩:=Option.isSome_iff_exists.1 h.2
  exact Tt b (by simpa using h.1) a
 .cases h
theorem mixed:prog.follows .mixedOrders=true:=C6
theorem AZ:(prog.info? 3).map (·.size)=some 1:=C6
theorem by_3:(prog.info? 3).map (·.bytes)=some 8:=C6
instance i3o:HE prog 3:=⟨One.mk underlying3 rfl AZ⟩
theorem G0:Zero prog 3 [.int .i64 0]:=Zero.mk (z:=.int .i64 0) C6 rfl
theorem S8:(prog.info? 4).map (·.size)=some 1:=C6
instance i4o:HE prog 4:=⟨One.mk underlying4 rfl S8⟩
theorem sz_5:(prog.info? 5).map (·.size)=some 1:=C6
theorem by_5:(prog.info? 5).map (·.bytes)=some 1:=C6
instance i5o:HE prog 5:=⟨One.mk underlying5 rfl sz_5⟩
theorem Agd:Zero prog 5 [.int .u8 0]:=Zero.mk (z:=.int .u8 0) C6 rfl
theorem sz_22:(prog.info? 22).map (·.size)=some 1:=C6
instance i22o:HE prog 22:=⟨One.mk underlying22 rfl sz_22⟩
theorem CF:(prog.info? 23).map (·.size)=some 1:=C6
instance Gn:HE prog 23:=⟨One.mk underlying23 rfl CF⟩
theorem XW:(prog.info? 24).map (·.size)=some 1:=C6
instance Nt:HE prog 24:=⟨One.mk underlying24 rfl XW⟩
theorem FF:(prog.info? 26).map (·.size)=some 5:=C6
theorem Aal:(prog.info? 26).map (·.bytes)=some 56:=C6
instance H5:FO prog 26 5:=⟨FU.mk underlying26 rfl FF⟩
instance Nu:HF prog 26 [.int .i64 0,.int .i64 0,.int .u64 0,.int .u64 0,.slice none 0 0]:=⟨Zg⟩
theorem JV:(prog.info? 30).map (·.size)=some 1:=C6
instance W6:HE prog 30:=⟨One.mk underlying30 rfl JV⟩
theorem Qm:(prog.info? 32).map (·.size)=some 1:=C6
instance RP:HE prog 32:=⟨One.mk underlying32 rfl Qm⟩
theorem VT:Zero prog 32 [.slice none 0 0]:=Zero.mk (z:=.slice none 0 0) C6 rfl
theorem sz_33:(prog.info? 33).map (·.size)=some 1:=C6
instance i33o:HE prog 33:=⟨One.mk underlying33 rfl sz_33⟩
theorem XX:(prog.info? 34).map (·.size)=some 1:=C6
instance S3:HE prog 34:=⟨One.mk underlying34 rfl XX⟩
theorem sz_35:(prog.info? 35).map (·.size)=some 1:=C6
instance i35o:HE prog 35:=⟨One.mk underlying35 rfl sz_35⟩
theorem Qn:(prog.info? 37).map (·.size)=some 10:=C6
instance JZ:FO prog 37 10:=⟨FU.mk underlying37 rfl Qn⟩
theorem HR:Zero prog 37 [.int .i64 0,.int .i64 0,.slice none 0 0,.int .u32 0,.int .i64 0,.int .i64 0,.int .i64 0,.int .u32 0,.slice none 0 0,.slice none 0 0]:=Zg
theorem sz_41:(prog.info? 41).map (·.size)=some 20:=C6
instance i41m:FO prog 41 20:=⟨FU.mk underlying41 rfl sz_41⟩
instance i41z:HF prog 41 [.int .i64 0,.int .i64 0,.int .i64 0,.int .u32 0,.slice none 0 0,.slice none 0 0,.int .i64 0,.int .i64 0,.slice none 0 0,.int .u32 0,.int .i64 0,.int .i64 0,.int .i64 0,.int .u32 0,.slice none 0 0,.slice none 0 0,.slice none 0 0,.int .i64 0,.int .i64 0,.string ⟨#[]⟩]:=⟨Zg⟩
theorem AfR:(prog.info? 43).map (·.size)=some 34:=C6
theorem AaM:FU prog 43 34:=FU.mk underlying43 rfl AfR
theorem AfS:(prog.info? 45).map (·.size)=some 1:=C6
theorem one_45:One prog 45:=One.mk underlying45 rfl AfS
theorem Ah3:Zero prog 45 [.int .i64 0]:=Zero.mk (z:=.int .i64 0) C6 rfl
theorem sz_48:(prog.info? 48).map (·.size)=some 1:=C6
instance i48o:HE prog 48:=⟨One.mk underlying48 rfl sz_48⟩
theorem Abj:(prog.info? 49).map (·.size)=some 1:=C6
instance i49o:HE prog 49:=⟨One.mk underlying49 rfl Abj⟩
theorem Qo:(prog.info? 54).map (·.size)=some 1:=C6
theorem by_54:(prog.info? 54).map (·.bytes)=some 24:=C6
instance S4:HE prog 54:=⟨One.mk underlying54 rfl Qo⟩
theorem VU:Zero prog 54 [.slice none 0 0]:=Zero.mk (z:=.slice none 0 0) C6 rfl
theorem sz_63:(prog.info? 63).map (·.size)=some 1:=C6
instance Jj:HE prog 63:=⟨One.mk underlying63 rfl sz_63⟩
theorem sz_71:(prog.info? 71).map (·.size)=some 1:=C6
theorem Vr:One prog 71:=One.mk underlying71 rfl sz_71
theorem Abk:(prog.info? 72).map (·.size)=some 1:=C6
instance i72o:HE prog 72:=⟨One.mk underlying72 rfl Abk⟩
theorem sz_74:(prog.info? 74).map (·.size)=some 6:=C6
instance RS:FO prog 74 6:=⟨FU.mk underlying74 rfl sz_74⟩
instance YS:HF prog 74 [.slice none 0 0,.slice none 0 0,.slice none 0 0,.slice none 0 0,.slice none 0 0,.slice none 0 0]:=⟨Zg⟩
theorem sz_75:(prog.info? 75).map (·.size)=some 1:=C6
theorem NV:One prog 75:=One.mk underlying75 rfl sz_75
theorem Abl:(prog.info? 77).map (·.size)=some 1:=C6
instance J0:HE prog 77:=⟨One.mk underlying77 rfl Abl⟩
theorem BT:(prog.info? 82).map (·.size)=some 2:=C6
theorem P6:(prog.info? 82).map (·.bytes)=some 16:=C6
instance DD:FO prog 82 2:=⟨FU.mk underlying82 rfl BT⟩
instance FZ:HF prog 82 [.int .u32 0,.int .i64 0]:=⟨Zg⟩
theorem SH:(prog.info? 84).map (·.size)=some 3:=C6
instance Mi:FO prog 84 3:=⟨FU.mk underlying84 rfl SH⟩
instance i84z:HF prog 84 [.int .i64 0,.int .i64 0,.int .i64 0]:=⟨Zg⟩
theorem Abm:(prog.info? 86).map (·.size)=some 4:=C6
instance i86m:FO prog 86 4:=⟨FU.mk underlying86 rfl Abm⟩
instance i86z:HF prog 86 [.int .i64 0,.int .i64 0,.int .i64 0,.int .i64 0]:=⟨Zg⟩
theorem Abn:(prog.info? 90).map (·.size)=some 13:=C6
theorem by_90:(prog.info? 90).map (·.bytes)=some 152:=C6
instance i90m:FO prog 90 13:=⟨FU.mk underlying90 rfl Abn⟩
theorem O8:Zero prog 90 [.int .u32 0,.int .i64 0,.bool false,.int .i64 0,.int .i64 0,.slice none 0 0,.int .u32 0,.int .i64 0,.int .i64 0,.int .i64 0,.int .u32 0,.slice none 0 0,.slice none 0 0]:=Zg
theorem Abo:(prog.info? 93).map (·.size)=some 6:=C6
theorem by_93:(prog.info? 93).map (·.bytes)=some 6:=C6
instance i93m:FO prog 93 6:=⟨FU.mk underlying93 rfl Abo⟩
theorem O9:Zero prog 93 [.int .u8 0,.int .u8 0,.int .u8 0,.int .u8 0,.int .u8 0,.int .u8 0]:=Zg
theorem AfD:(prog.info? 109).map (·.size)=some 1:=C6
instance i109o:HE prog 109:=⟨One.mk underlying109 rfl AfD⟩
theorem Ia:(prog.info? 118).map (·.size)=some 2:=C6
theorem by_118:(prog.info? 118).map (·.bytes)=some 32:=C6
instance W2:FO prog 118 2:=⟨FU.mk underlying118 rfl Ia⟩
theorem KV:Zero prog 118 [.bool false,.slice none 0 0]:=Zg
theorem FY:(prog.info? 133).map (·.size)=some 1:=C6
theorem by_133:(prog.info? 133).map (·.bytes)=some 8:=C6
theorem EN:One prog 133:=One.mk underlying133 rfl FY
theorem Af9:Zero prog 133 [.map none]:=Zero.mk (z:=.map none) C6 rfl
theorem sz_137:(prog.info? 137).map (·.size)=some 2:=C6
theorem AfE:(prog.info? 143).map (·.size)=some 1:=C6
theorem OS:One prog 143:=One.mk underlying143 rfl AfE
theorem AfF:(prog.info? 145).map (·.size)=some 1:=C6
instance RO:HE prog 145:=⟨One.mk underlying145 rfl AfF⟩
theorem PL:(prog.info? 148).map (·.size)=some 1:=C6
theorem OT:One prog 148:=One.mk underlying148 rfl PL
theorem AfG:(prog.info? 149).map (·.size)=some 1:=C6
instance W3:HE prog 149:=⟨One.mk underlying149 rfl AfG⟩
theorem AfH:(prog.info? 151).map (·.size)=some 1:=C6
theorem OU:One prog 151:=One.mk underlying151 rfl AfH
theorem AfI:(prog.info? 152).map (·.size)=some 1:=C6
theorem Nh:One prog 152:=One.mk underlying152 rfl AfI
theorem AfJ:(prog.info? 160).map (·.size)=some 5:=C6
instance i160m:FO prog 160 5:=⟨FU.mk underlying160 rfl AfJ⟩
theorem HQ:Zero prog 160 [.int .i64 0,.int .i64 0,.int .i64 0,.int .i64 0,.int .i64 0]:=Zg
theorem Ho:(prog.info? 163).map (·.size)=some 13:=C6
theorem UK:(prog.info? 163).map (·.bytes)=some 152:=C6
instance P9:FO prog 163 13:=⟨FU.mk underlying163 rfl Ho⟩
instance GK:HF prog 163 [.int .i64 0,.int .u32 0,.int .i64 0,.int .i64 0,.int .i64 0,.slice none 0 0,.int .u32 0,.int .i64 0,.int .i64 0,.int .i64 0,.int .u32 0,.slice none 0 0,.slice none 0 0]:=⟨Zg⟩
theorem sz_170:(prog.info? 170).map (·.size)=some 1:=C6
instance i170o:HE prog 170:=⟨One.mk underlying170 rfl sz_170⟩
theorem Aga:Zero prog 170 [.slice none 0 0]:=Zero.mk (z:=.slice none 0 0) C6 rfl
theorem AfK:(prog.info? 183).map (·.size)=some 1:=C6
theorem Vp:One prog 183:=One.mk underlying183 rfl AfK
theorem ME:(prog.info? 201).map (·.size)=some 2:=C6
theorem by_201:(prog.info? 201).map (·.bytes)=some 32:=C6
instance Aen:FO prog 201 2:=⟨FU.mk underlying201 rfl ME⟩
theorem MO:Zero prog 201 [.int .i64 0,.slice none 0 0]:=Zg
theorem AfL:(prog.info? 206).map (·.size)=some 1:=C6
theorem Vq:One prog 206:=One.mk underlying206 rfl AfL
theorem AfM:(prog.info? 207).map (·.size)=some 1:=C6
theorem IY:One prog 207:=One.mk underlying207 rfl AfM
theorem Ht:(prog.info? 218).map (·.size)=some 9:=C6
theorem by_218:(prog.info? 218).map (·.bytes)=some 72:=C6
instance W4:FO prog 218 9:=⟨FU.mk underlying218 rfl Ht⟩
theorem MP:Zero prog 218 [.int .u64 0,.int .u64 0,.int .u64 0,.int .u64 0,.int .u64 0,.int .u64 0,.int .u64 0,.int .u64 0,.int .u64 0]:=Zg
theorem VG:(prog.info? 220).map (·.size)=some 18:=C6
instance Ad:FO prog 220 18:=⟨FU.mk underlying220 rfl VG⟩
instance FR:HF prog 220 [.int .u64 0,.int .u64 0,.int .u64 0,.int .u64 0,.int .u64 0,.int .u64 0,.int .u64 0,.int .u64 0,.int .u64 0,.int .u64 0,.int .u64 0,.int .u64 0,.int .u64 0,.int .u64 0,.int .u64 0,.int .u64 0,.int .u64 0,.int .u64 0]:=⟨Zg⟩
theorem Zv:(prog.info? 221).map (·.size)=some 1:=C6
theorem DV:One prog 221:=One.mk underlying221 rfl Zv
theorem BJ:(prog.info? 223).map (·.size)=some 19:=C6
theorem NN:(prog.info? 223).map (·.bytes)=some 168:=C6
instance Ji:FO prog 223 19:=⟨FU.mk underlying223 rfl BJ⟩
instance CZ:HF prog 223 [.int .u64 0,.int .u64 0,.int .u64 0,.int .u64 0,.int .u64 0,.int .u64 0,.int .u64 0,.int .u64 0,.int .u64 0,.int .u64 0,.int .u64 0,.int .u64 0,.int .u64 0,.int .u64 0,.int .u64 0,.int .u64 0,.int .u64 0,.int .u64 0,.slice none 0 0]:=⟨Zg⟩
theorem BV:(prog.info? 225).map (·.size)=some 10:=C6
theorem Lc:(prog.info? 225).map (·.bytes)=some 80:=C6
instance Hw:FO prog 225 10:=⟨FU.mk underlying225 rfl BV⟩
instance DY:HF prog 225 [.int .i64 0,.int .u64 0,.int .u64 0,.int .u64 0,.int .u64 0,.int .u64 0,.int .u64 0,.int .u64 0,.int .u64 0,.int .u64 0]:=⟨Zg⟩
theorem VH:(prog.info? 231).map (·.size)=some 1:=C6
instance TI:HE prog 231:=⟨One.mk underlying231 rfl VH⟩
theorem sz_233:(prog.info? 233).map (·.size)=some 3:=C6
instance i233m:FO prog 233 3:=⟨FU.mk underlying233 rfl sz_233⟩
instance i233z:HF prog 233 [.slice none 0 0,.slice none 0 0,.slice none 0 0]:=⟨Zg⟩
theorem AfN:(prog.info? 239).map (·.size)=some 16:=C6
theorem sz_240:(prog.info? 240).map (·.size)=some 256:=C6
theorem AfO:(prog.info? 243).map (·.size)=some 1:=C6
instance Qa:HE prog 243:=⟨One.mk underlying243 rfl AfO⟩
theorem sz_248:(prog.info? 248).map (·.size)=some 0:=C6
instance i248m:FO prog 248 0:=⟨FU.mk underlying248 rfl sz_248⟩
instance Aaz:HF prog 248 []:=⟨Zg⟩
theorem sz_299:(prog.info? 299).map (·.size)=some 4:=C6
instance i299m:FO prog 299 4:=⟨FU.mk underlying299 rfl sz_299⟩
theorem KW:Zero prog 299 [.int .i64 0,.int .i64 0,.int .i64 0,.int .i64 0]:=Zg
theorem Zw:(prog.info? 305).map (·.size)=some 2:=C6
instance i305m:FO prog 305 2:=⟨FU.mk underlying305 rfl Zw⟩
instance i305z:HF prog 305 [.int .i64 0,.int .i64 0]:=⟨Zg⟩
theorem BC:(prog.info? 326).map (·.size)=some 21:=C6
theorem ID:(prog.info? 326).map (·.bytes)=some 184:=C6
instance FV:FO prog 326 21:=⟨FU.mk underlying326 rfl BC⟩
theorem CG:Zero prog 326 [.int .i64 0,.int .i64 0,.int .u64 0,.int .u64 0,.int .u64 0,.int .u64 0,.int .u64 0,.int .u64 0,.int .u64 0,.int .u64 0,.int .u64 0,.int .u64 0,.int .u64 0,.int .u64 0,.int .u64 0,.int .u64 0,.int .u64 0,.int .u64 0,.int .u64 0,.int .u64 0,.slice none 0 0]:=Zg
theorem LH:(prog.info? 331).map (·.size)=some 1:=C6
theorem Hh:One prog 331:=One.mk underlying331 rfl LH
instance i333z:HF prog 333 [.pointer none,.int .i64 0,.int .i64 0]:=⟨Zg⟩
theorem LJ:(prog.info? 345).map (·.size)=some 14:=C6
theorem AdP:(prog.info? 345).map (·.bytes)=some 160:=C6
instance i345m:FO prog 345 14:=⟨FU.mk underlying345 rfl LJ⟩
instance TJ:HF prog 345 [.int .i64 0,.int .u32 0,.int .i64 0,.int .i64 0,.int .i64 0,.slice none 0 0,.int .u32 0,.int .i64 0,.int .i64 0,.int .i64 0,.int .u32 0,.slice none 0 0,.slice none 0 0,.int .u32 0]:=⟨Zg⟩
theorem sz_374:(prog.info? 374).map (·.size)=some 1:=C6
instance i374o:HE prog 374:=⟨One.mk underlying374 rfl sz_374⟩
theorem Agb:Zero prog 374 [.nilFunc]:=Zero.mk (z:=.nilFunc) C6 rfl
theorem Zx:(prog.info? 382).map (·.size)=some 1:=C6
instance W7:HE prog 382:=⟨One.mk underlying382 rfl Zx⟩
theorem Zy:(prog.info? 383).map (·.size)=some 1:=C6
instance AaA:HE prog 383:=⟨One.mk underlying383 rfl Zy⟩
instance i385z:HF prog 385 [.int .i64 0,.int .i64 0,.slice none 0 0,.slice none 0 0,.map none,.int .i64 0]:=⟨Zg⟩
theorem AfP:(prog.info? 404).map (·.size)=some 2:=C6
instance i406z:HF prog 406 [.pointer none,.pointer none,.bool false,.int .i64 0,.int .i64 0,.slice none 0 0,.int .u32 0,.int .i64 0,.int .i64 0,.int .i64 0,.int .u32 0,.slice none 0 0,.slice none 0 0]:=⟨Zg⟩
theorem AfQ:(prog.info? 408).map (·.size)=some 7:=C6
instance i408m:FO prog 408 7:=⟨FU.mk underlying408 rfl AfQ⟩
instance i408z:HF prog 408 [.int .i64 0,.int .i64 0,.int .i64 0,.int .i64 0,.int .i64 0,.int .u32 0,.int .u32 0]:=⟨Zg⟩
theorem PN:(prog.info? 415).map (·.size)=some 1:=C6
instance AaB:HE prog 415:=⟨One.mk underlying415 rfl PN⟩
theorem Agc:Zero prog 416 [.pointer none,.pointer none,.pointer none,.pointer none,.pointer none,.pointer none,.pointer none,.pointer none,.pointer none,.pointer none,.pointer none,.pointer none,.pointer none,.pointer none,.pointer none,.pointer none,.pointer none,.pointer none,.pointer none,.pointer none,.pointer none,.pointer none,.pointer none,.pointer none,.pointer none,.pointer none,.pointer none,.pointer none,.pointer none,.pointer none,.pointer none,.pointer none,.pointer none]:=Zg
theorem Hu:(prog.info? 418).map (·.size)=some 8:=C6
theorem AdQ:(prog.info? 418).map (·.bytes)=some 64:=C6
instance Oy:FO prog 418 8:=⟨FU.mk underlying418 rfl Hu⟩
theorem EL:Zero prog 418 [.int .i64 0,.int .i64 0,.int .i64 0,.int .i64 0,.int .i64 0,.int .i64 0,.int .u32 0,.int .i64 0]:=Zg
instance i26_0:AW prog 26 0 0 3:=⟨AF.mk underlying26 rfl rfl rfl AZ⟩
instance i26_1:AW prog 26 1 1 22:=⟨AF.mk underlying26 rfl rfl rfl sz_22⟩
instance i26_2:AW prog 26 2 2 23:=⟨AF.mk underlying26 rfl rfl rfl CF⟩
instance i26_3:AW prog 26 3 3 23:=⟨AF.mk underlying26 rfl rfl rfl CF⟩
instance i26_4:AW prog 26 4 4 24:=⟨AF.mk underlying26 rfl rfl rfl XW⟩
instance i37_0:AW prog 37 0 0 3:=⟨AF.mk underlying37 rfl rfl rfl AZ⟩
instance i37_1:AW prog 37 1 1 3:=⟨AF.mk underlying37 rfl rfl rfl AZ⟩
instance i37_2:AW prog 37 2 2 33:=⟨AF.mk underlying37 rfl rfl rfl sz_33⟩
instance i37_3:AW prog 37 3 3 30:=⟨AF.mk underlying37 rfl rfl rfl JV⟩
instance i37_4:AW prog 37 4 4 3:=⟨AF.mk underlying37 rfl rfl rfl AZ⟩
instance i37_5:AW prog 37 5 5 3:=⟨AF.mk underlying37 rfl rfl rfl AZ⟩
instance i37_6:AW prog 37 6 6 3:=⟨AF.mk underlying37 rfl rfl rfl AZ⟩
instance i37_7:AW prog 37 7 7 30:=⟨AF.mk underlying37 rfl rfl rfl JV⟩
instance i37_8:AW prog 37 8 8 34:=⟨AF.mk underlying37 rfl rfl rfl XX⟩
instance i37_9:AW prog 37 9 9 35:=⟨AF.mk underlying37 rfl rfl rfl sz_35⟩
instance i41_0:AW prog 41 0 0 3:=⟨AF.mk underlying41 rfl rfl rfl AZ⟩
instance i41_5:AW prog 41 5 5 32:=⟨AF.mk underlying41 rfl rfl rfl Qm⟩
instance i41_6:AW prog 41 6 6 37:=⟨AF.mk underlying41 rfl rfl rfl Qn⟩
instance i41_7:AW prog 41 7 16 32:=⟨AF.mk underlying41 rfl rfl rfl Qm⟩
instance i43_0:AW prog 43 0 0 3:=⟨AF.mk underlying43 rfl rfl rfl AZ⟩
instance i43_1:AW prog 43 1 1 3:=⟨AF.mk underlying43 rfl rfl rfl AZ⟩
instance i43_2:AW prog 43 2 2 3:=⟨AF.mk underlying43 rfl rfl rfl AZ⟩
instance i43_3:AW prog 43 3 3 4:=⟨AF.mk underlying43 rfl rfl rfl S8⟩
instance i43_4:AW prog 43 4 4 41:=⟨AF.mk underlying43 rfl rfl rfl sz_41⟩
instance i43_5:AW prog 43 5 24 26:=⟨AF.mk underlying43 rfl rfl rfl FF⟩
instance i43_6:AW prog 43 6 29 26:=⟨AF.mk underlying43 rfl rfl rfl FF⟩
instance i51_1:AW prog 51 1 1 48:=⟨AF.mk underlying51 rfl rfl rfl sz_48⟩
instance i74_0:AW prog 74 0 0 24:=⟨AF.mk underlying74 rfl rfl rfl XW⟩
instance i74_1:AW prog 74 1 1 24:=⟨AF.mk underlying74 rfl rfl rfl XW⟩
instance i74_2:AW prog 74 2 2 49:=⟨AF.mk underlying74 rfl rfl rfl Abj⟩
instance i74_3:AW prog 74 3 3 72:=⟨AF.mk underlying74 rfl rfl rfl Abk⟩
instance i74_4:AW prog 74 4 4 72:=⟨AF.mk underlying74 rfl rfl rfl Abk⟩
instance i74_5:AW prog 74 5 5 49:=⟨AF.mk underlying74 rfl rfl rfl Abj⟩
instance i79_0:AW prog 79 0 0 63:=⟨AF.mk underlying79 rfl rfl rfl sz_63⟩
instance i79_1:AW prog 79 1 1 71:=⟨AF.mk underlying79 rfl rfl rfl sz_71⟩
instance i79_2:AW prog 79 2 2 3:=⟨AF.mk underlying79 rfl rfl rfl AZ⟩
instance i79_3:AW prog 79 3 3 74:=⟨AF.mk underlying79 rfl rfl rfl sz_74⟩
instance i79_4:AW prog 79 4 9 75:=⟨AF.mk underlying79 rfl rfl rfl sz_75⟩
instance i79_6:AW prog 79 6 11 77:=⟨AF.mk underlying79 rfl rfl rfl Abl⟩
instance i79_7:AW prog 79 7 12 3:=⟨AF.mk underlying79 rfl rfl rfl AZ⟩
instance i82_0:AW prog 82 0 0 30:=⟨AF.mk underlying82 rfl rfl rfl JV⟩
instance i82_1:AW prog 82 1 1 3:=⟨AF.mk underlying82 rfl rfl rfl AZ⟩
instance i84_0:AW prog 84 0 0 3:=⟨AF.mk underlying84 rfl rfl rfl AZ⟩
instance i84_1:AW prog 84 1 1 3:=⟨AF.mk underlying84 rfl rfl rfl AZ⟩
instance i84_2:AW prog 84 2 2 3:=⟨AF.mk underlying84 rfl rfl rfl AZ⟩
instance i86_0:AW prog 86 0 0 84:=⟨AF.mk underlying86 rfl rfl rfl SH⟩
instance i86_1:AW prog 86 1 3 3:=⟨AF.mk underlying86 rfl rfl rfl AZ⟩
instance i90_1:AW prog 90 1 2 4:=⟨AF.mk underlying90 rfl rfl rfl S8⟩
instance i90_2:AW prog 90 2 3 37:=⟨AF.mk underlying90 rfl rfl rfl Qn⟩
instance i118_0:AW prog 118 0 0 4:=⟨AF.mk underlying118 rfl rfl rfl S8⟩
instance i118_1:AW prog 118 1 1 34:=⟨AF.mk underlying118 rfl rfl rfl XX⟩
instance i137_0:AW prog 137 0 0 3:=⟨AF.mk underlying137 rfl rfl rfl AZ⟩
instance i137_1:AW prog 137 1 1 30:=⟨AF.mk underlying137 rfl rfl rfl JV⟩
instance i147_0:AW prog 147 0 0 145:=⟨AF.mk underlying147 rfl rfl rfl AfF⟩
instance i147_1:AW prog 147 1 1 143:=⟨AF.mk underlying147 rfl rfl rfl AfE⟩
instance i154_0:AW prog 154 0 0 137:=⟨AF.mk underlying154 rfl rfl rfl sz_137⟩
instance i154_1:AW prog 154 1 2 4:=⟨AF.mk underlying154 rfl rfl rfl S8⟩
instance i154_2:AW prog 154 2 3 149:=⟨AF.mk underlying154 rfl rfl rfl AfG⟩
instance i154_3:AW prog 154 3 4 151:=⟨AF.mk underlying154 rfl rfl rfl AfH⟩
instance i154_4:AW prog 154 4 5 152:=⟨AF.mk underlying154 rfl rfl rfl AfI⟩
instance i160_0:AW prog 160 0 0 86:=⟨AF.mk underlying160 rfl rfl rfl Abm⟩
instance i160_1:AW prog 160 1 4 3:=⟨AF.mk underlying160 rfl rfl rfl AZ⟩
instance i163_0:AW prog 163 0 0 3:=⟨AF.mk underlying163 rfl rfl rfl AZ⟩
instance i163_1:AW prog 163 1 1 82:=⟨AF.mk underlying163 rfl rfl rfl BT⟩
instance i163_2:AW prog 163 2 3 37:=⟨AF.mk underlying163 rfl rfl rfl Qn⟩
instance i187_0:AW prog 187 0 0 183:=⟨AF.mk underlying187 rfl rfl rfl AfK⟩
instance i201_0:AW prog 201 0 0 3:=⟨AF.mk underlying201 rfl rfl rfl AZ⟩
instance i201_1:AW prog 201 1 1 109:=⟨AF.mk underlying201 rfl rfl rfl AfD⟩
theorem Ab7:AF prog 209 0 0 3:=AF.mk underlying209 rfl rfl rfl AZ
instance Aeo:AW prog 209 1 1 206:=⟨AF.mk underlying209 rfl rfl rfl AfL⟩
instance U4:AW prog 209 2 2 207:=⟨AF.mk underlying209 rfl rfl rfl AfM⟩
instance i220_0:AW prog 220 0 0 218:=⟨AF.mk underlying220 rfl rfl rfl Ht⟩
instance i220_1:AW prog 220 1 9 218:=⟨AF.mk underlying220 rfl rfl rfl Ht⟩
instance i223_0:AW prog 223 0 0 220:=⟨AF.mk underlying223 rfl rfl rfl VG⟩
instance i223_1:AW prog 223 1 18 221:=⟨AF.mk underlying223 rfl rfl rfl Zv⟩
instance i225_0:AW prog 225 0 0 3:=⟨AF.mk underlying225 rfl rfl rfl AZ⟩
instance i225_1:AW prog 225 1 1 218:=⟨AF.mk underlying225 rfl rfl rfl Ht⟩
instance i233_0:AW prog 233 0 0 77:=⟨AF.mk underlying233 rfl rfl rfl Abl⟩
instance i233_1:AW prog 233 1 1 231:=⟨AF.mk underlying233 rfl rfl rfl VH⟩
instance i233_2:AW prog 233 2 2 34:=⟨AF.mk underlying233 rfl rfl rfl XX⟩
instance i242_0:AW prog 242 0 0 3:=⟨AF.mk underlying242 rfl rfl rfl AZ⟩
instance i242_1:AW prog 242 1 1 240:=⟨AF.mk underlying242 rfl rfl rfl sz_240⟩
instance i246_0:AW prog 246 0 0 3:=⟨AF.mk underlying246 rfl rfl rfl AZ⟩
instance i246_1:AW prog 246 1 1 3:=⟨AF.mk underlying246 rfl rfl rfl AZ⟩
instance i246_2:AW prog 246 2 2 3:=⟨AF.mk underlying246 rfl rfl rfl AZ⟩
instance i246_3:AW prog 246 3 3 243:=⟨AF.mk underlying246 rfl rfl rfl AfO⟩
instance i279_0:AW prog 279 0 0 3:=⟨AF.mk underlying279 rfl rfl rfl AZ⟩
instance i279_1:AW prog 279 1 1 231:=⟨AF.mk underlying279 rfl rfl rfl VH⟩
instance i299_0:AW prog 299 0 0 84:=⟨AF.mk underlying299 rfl rfl rfl SH⟩
instance i299_1:AW prog 299 1 3 3:=⟨AF.mk underlying299 rfl rfl rfl AZ⟩
instance i305_0:AW prog 305 0 0 3:=⟨AF.mk underlying305 rfl rfl rfl AZ⟩
instance i305_1:AW prog 305 1 1 3:=⟨AF.mk underlying305 rfl rfl rfl AZ⟩
instance i326_0:AW prog 326 0 0 3:=⟨AF.mk underlying326 rfl rfl rfl AZ⟩
instance i326_1:AW prog 326 1 1 3:=⟨AF.mk underlying326 rfl rfl rfl AZ⟩
instance i326_2:AW prog 326 2 2 223:=⟨AF.mk underlying326 rfl rfl rfl BJ⟩
instance i333_0:AW prog 333 0 0 331:=⟨AF.mk underlying333 rfl rfl rfl LH⟩
instance i333_1:AW prog 333 1 1 3:=⟨AF.mk underlying333 rfl rfl rfl AZ⟩
instance i333_2:AW prog 333 2 2 3:=⟨AF.mk underlying333 rfl rfl rfl AZ⟩
instance i345_0:AW prog 345 0 0 163:=⟨AF.mk underlying345 rfl rfl rfl Ho⟩
instance i345_1:AW prog 345 1 13 30:=⟨AF.mk underlying345 rfl rfl rfl JV⟩
instance i385_0:AW prog 385 0 0 305:=⟨AF.mk underlying385 rfl rfl rfl Zw⟩
instance i385_1:AW prog 385 1 2 54:=⟨AF.mk underlying385 rfl rfl rfl Qo⟩
instance i385_2:AW prog 385 2 3 382:=⟨AF.mk underlying385 rfl rfl rfl Zx⟩
instance i385_3:AW prog 385 3 4 383:=⟨AF.mk underlying385 rfl rfl rfl Zy⟩
instance i385_4:AW prog 385 4 5 3:=⟨AF.mk underlying385 rfl rfl rfl AZ⟩
instance i406_0:AW prog 406 0 0 404:=⟨AF.mk underlying406 rfl rfl rfl AfP⟩
instance i406_1:AW prog 406 1 2 4:=⟨AF.mk underlying406 rfl rfl rfl S8⟩
instance i406_2:AW prog 406 2 3 37:=⟨AF.mk underlying406 rfl rfl rfl Qn⟩
instance i418_0:AW prog 418 0 0 3:=⟨AF.mk underlying418 rfl rfl rfl AZ⟩
instance i418_1:AW prog 418 1 1 3:=⟨AF.mk underlying418 rfl rfl rfl AZ⟩
instance i418_2:AW prog 418 2 2 3:=⟨AF.mk underlying418 rfl rfl rfl AZ⟩
instance i418_3:AW prog 418 3 3 3:=⟨AF.mk underlying418 rfl rfl rfl AZ⟩
instance i418_4:AW prog 418 4 4 3:=⟨AF.mk underlying418 rfl rfl rfl AZ⟩
instance i418_5:AW prog 418 5 5 3:=⟨AF.mk underlying418 rfl rfl rfl AZ⟩
instance i418_6:AW prog 418 6 6 30:=⟨AF.mk underlying418 rfl rfl rfl JV⟩
instance i418_7:AW prog 418 7 7 3:=⟨AF.mk underlying418 rfl rfl rfl AZ⟩
instance i74p:L7 prog 74 [(0,1),(1,1),(2,1),(3,1),(4,1),(5,1)]:=⟨⟨_,underlying74,λw=>by simp[run_sizeOf XW,run_sizeOf Abj,run_sizeOf Abk]⟩⟩
instance i82p:L7 prog 82 [(0,1),(1,1)]:=⟨⟨_,underlying82,λw=>by simp[run_sizeOf JV,run_sizeOf AZ]⟩⟩
instance i84p:L7 prog 84 [(0,1),(1,1),(2,1)]:=⟨⟨_,underlying84,λw=>by simp[run_sizeOf AZ]⟩⟩
instance i86p:L7 prog 86 [(0,3),(3,1)]:=⟨⟨_,underlying86,λw=>by simp[run_sizeOf SH,run_sizeOf AZ]⟩⟩
theorem plc_90:NG prog 90 [(0,2),(2,1),(3,10)]:=⟨_,underlying90,λw=>by simp[run_sizeOf BT,run_sizeOf S8,run_sizeOf Qn]⟩
theorem Aa2:NG prog 160 [(0,4),(4,1)]:=⟨_,underlying160,λw=>by simp[run_sizeOf Abm,run_sizeOf AZ]⟩
instance i163p:L7 prog 163 [(0,1),(1,2),(3,10)]:=⟨⟨_,underlying163,λw=>by simp[run_sizeOf AZ,run_sizeOf BT,run_sizeOf Qn]⟩⟩
instance i220p:L7 prog 220 [(0,9),(9,9)]:=⟨⟨_,underlying220,λw=>by simp[run_sizeOf Ht]⟩⟩
instance W5:L7 prog 223 [(0,18),(18,1)]:=⟨⟨_,underlying223,λw=>by simp[run_sizeOf VG,run_sizeOf Zv]⟩⟩
instance i225p:L7 prog 225 [(0,1),(1,9)]:=⟨⟨_,underlying225,λw=>by simp[run_sizeOf AZ,run_sizeOf Ht]⟩⟩
instance i233p:L7 prog 233 [(0,1),(1,1),(2,1)]:=⟨⟨_,underlying233,λw=>by simp[run_sizeOf Abl,run_sizeOf VH,run_sizeOf XX]⟩⟩
instance i248p:L7 prog 248 []:=⟨⟨_,underlying248,λw=>by simp[]⟩⟩
theorem Aa3:NG prog 299 [(0,3),(3,1)]:=⟨_,underlying299,λw=>by simp[run_sizeOf SH,run_sizeOf AZ]⟩
instance i305p:L7 prog 305 [(0,1),(1,1)]:=⟨⟨_,underlying305,λw=>by simp[run_sizeOf AZ]⟩⟩
theorem AhD:NG prog 326 [(0,1),(1,1),(2,19)]:=⟨_,underlying326,λw=>by simp[run_sizeOf AZ,run_sizeOf BJ]⟩
instance i333p:L7 prog 333 [(0,1),(1,1),(2,1)]:=⟨⟨_,underlying333,λw=>by simp[run_sizeOf LH,run_sizeOf AZ]⟩⟩
instance i345p:L7 prog 345 [(0,13),(13,1)]:=⟨⟨_,underlying345,λw=>by simp[run_sizeOf Ho,run_sizeOf JV]⟩⟩
instance i385p:L7 prog 385 [(0,2),(2,1),(3,1),(4,1),(5,1)]:=⟨⟨_,underlying385,λw=>by simp[run_sizeOf Zw,run_sizeOf Qo,run_sizeOf Zx,run_sizeOf Zy,run_sizeOf AZ]⟩⟩
instance i406p:L7 prog 406 [(0,2),(2,1),(3,10)]:=⟨⟨_,underlying406,λw=>by simp[run_sizeOf AfP,run_sizeOf S8,run_sizeOf Qn]⟩⟩
instance i408p:L7 prog 408 [(0,1),(1,1),(2,1),(3,1),(4,1),(5,1),(6,1)]:=⟨⟨_,underlying408,λw=>by simp[run_sizeOf AZ,run_sizeOf JV]⟩⟩
theorem AhE:NG prog 418 [(0,1),(1,1),(2,1),(3,1),(4,1),(5,1),(6,1),(7,1)]:=⟨_,underlying418,λw=>by simp[run_sizeOf AZ,run_sizeOf JV]⟩
theorem UW:EqK prog 10000 82 true [.i .u32,.i .i64]:=(EqK.struct underlying82 C6 BT (.cons (off:=0) (k1:=[.i .u32]) (k2:=[.i .i64]) C6 rfl (EqK.int underlying30 JV) (.cons (off:=1) (k1:=[.i .i64]) (k2:=[]) C6 rfl (EqK.int underlying3 AZ) .nil)))
theorem UT:prog.eqGuardType prog.depth 82=false:=C6
theorem Ad8:EqK prog 10000 84 true [.i .i64,.i .i64,.i .i64]:=(EqK.struct underlying84 C6 SH (.cons (off:=0) (k1:=[.i .i64]) (k2:=[.i .i64,.i .i64]) C6 rfl (EqK.int underlying3 AZ) (.cons (off:=1) (k1:=[.i .i64]) (k2:=[.i .i64]) C6 rfl (EqK.int underlying3 AZ) (.cons (off:=2) (k1:=[.i .i64]) (k2:=[]) C6 rfl (EqK.int underlying3 AZ) .nil))))
theorem Ad7:prog.eqGuardType prog.depth 84=false:=C6
theorem AgY:EqK prog 10000 160 true [.i .i64,.i .i64,.i .i64,.i .i64,.i .i64]:=(EqK.struct underlying160 C6 AfJ (.cons (off:=0) (k1:=[.i .i64,.i .i64,.i .i64,.i .i64]) (k2:=[.i .i64]) C6 rfl (EqK.struct underlying86 C6 Abm (.cons (off:=0) (k1:=[.i .i64,.i .i64,.i .i64]) (k2:=[.i .i64]) C6 rfl (EqK.struct underlying84 C6 SH (.cons (off:=0) (k1:=[.i .i64]) (k2:=[.i .i64,.i .i64]) C6 rfl (EqK.int underlying3 AZ) (.cons (off:=1) (k1:=[.i .i64]) (k2:=[.i .i64]) C6 rfl (EqK.int underlying3 AZ) (.cons (off:=2) (k1:=[.i .i64]) (k2:=[]) C6 rfl (EqK.int underlying3 AZ) .nil)))) (.cons (off:=3) (k1:=[.i .i64]) (k2:=[]) C6 rfl (EqK.int underlying3 AZ) .nil))) (.cons (off:=4) (k1:=[.i .i64]) (k2:=[]) C6 rfl (EqK.int underlying3 AZ) .nil)))
theorem AgV:prog.eqGuardType prog.depth 160=false:=C6
theorem AgZ:EqK prog 10000 218 true [.i .u64,.i .u64,.i .u64,.i .u64,.i .u64,.i .u64,.i .u64,.i .u64,.i .u64]:=(EqK.array underlying218 Ht (EqK.int underlying23 CF) rfl)
theorem AgW:prog.eqGuardType prog.depth 218=false:=C6
theorem UU:EqK prog 10000 220 true [.i .u64,.i .u64,.i .u64,.i .u64,.i .u64,.i .u64,.i .u64,.i .u64,.i .u64,.i .u64,.i .u64,.i .u64,.i .u64,.i .u64,.i .u64,.i .u64,.i .u64,.i .u64]:=(EqK.struct underlying220 C6 VG (.cons (off:=0) (k1:=[.i .u64,.i .u64,.i .u64,.i .u64,.i .u64,.i .u64,.i .u64,.i .u64,.i .u64]) (k2:=[.i .u64,.i .u64,.i .u64,.i .u64,.i .u64,.i .u64,.i .u64,.i .u64,.i .u64]) C6 rfl (EqK.array underlying218 Ht (EqK.int underlying23 CF) rfl) (.cons (off:=9) (k1:=[.i .u64,.i .u64,.i .u64,.i .u64,.i .u64,.i .u64,.i .u64,.i .u64,.i .u64]) (k2:=[]) C6 rfl (EqK.array underlying218 Ht (EqK.int underlying23 CF) rfl) .nil)))
theorem US:prog.eqGuardType prog.depth 220=false:=C6
theorem Aaq:EqK prog 10000 225 true [.i .i64,.i .u64,.i .u64,.i .u64,.i .u64,.i .u64,.i .u64,.i .u64,.i .u64,.i .u64]:=(EqK.struct underlying225 C6 BV (.cons (off:=0) (k1:=[.i .i64]) (k2:=[.i .u64,.i .u64,.i .u64,.i .u64,.i .u64,.i .u64,.i .u64,.i .u64,.i .u64]) C6 rfl (EqK.int underlying3 AZ) (.cons (off:=1) (k1:=[.i .u64,.i .u64,.i .u64,.i .u64,.i .u64,.i .u64,.i .u64,.i .u64,.i .u64]) (k2:=[]) C6 rfl (EqK.array underlying218 Ht (EqK.int underlying23 CF) rfl) .nil)))
theorem Aap:prog.eqGuardType prog.depth 225=false:=C6
theorem Ag0:EqK prog 10000 408 true [.i .i64,.i .i64,.i .i64,.i .i64,.i .i64,.i .u32,.i .u32]:=(EqK.struct underlying408 C6 AfQ (.cons (off:=0) (k1:=[.i .i64]) (k2:=[.i .i64,.i .i64,.i .i64,.i .i64,.i .u32,.i .u32]) C6 rfl (EqK.int underlying3 AZ) (.cons (off:=1) (k1:=[.i .i64]) (k2:=[.i .i64,.i .i64,.i .i64,.i .u32,.i .u32]) C6 rfl (EqK.int underlying3 AZ) (.cons (off:=2) (k1:=[.i .i64]) (k2:=[.i .i64,.i .i64,.i .u32,.i .u32]) C6 rfl (EqK.int underlying3 AZ) (.cons (off:=3) (k1:=[.i .i64]) (k2:=[.i .i64,.i .u32,.i .u32]) C6 rfl (EqK.int underlying3 AZ) (.cons (off:=4) (k1:=[.i .i64]) (k2:=[.i .u32,.i .u32]) C6 rfl (EqK.int underlying3 AZ) (.cons (off:=5) (k1:=[.i .u32]) (k2:=[.i .u32]) C6 rfl (EqK.int underlying30 JV) (.cons (off:=6) (k1:=[.i .u32]) (k2:=[]) C6 rfl (EqK.int underlying30 JV) .nil))))))))
theorem AgX:prog.eqGuardType prog.depth 408=false:=C6
instance i24s:IA prog 24 26:=⟨underlying24⟩
instance i32s:IA prog 32 82:=⟨underlying32⟩
instance i33s:IA prog 33 118:=⟨underlying33⟩
instance i34s:IA prog 34 3:=⟨underlying34⟩
instance i35s:IA prog 35 201:=⟨underlying35⟩
instance i48s:IA prog 48 137:=⟨underlying48⟩
instance i49s:IA prog 49 93:=⟨underlying49⟩
instance i54s:IA prog 54 223:=⟨underlying54⟩
instance i62s:IA prog 62 43:=⟨underlying62⟩
instance i68s:IA prog 68 90:=⟨underlying68⟩
instance i72s:IA prog 72 54:=⟨underlying72⟩
instance i77s:IA prog 77 133:=⟨underlying77⟩
instance i105s:IA prog 105 108:=⟨underlying105⟩
instance i109s:IA prog 109 5:=⟨underlying109⟩
instance i145s:IA prog 145 148:=⟨underlying145⟩
instance i170s:IA prog 170 163:=⟨underlying170⟩
instance i221s:IA prog 221 225:=⟨underlying221⟩
instance i231s:IA prog 231 326:=⟨underlying231⟩
instance i252s:IA prog 252 345:=⟨underlying252⟩
instance i347s:IA prog 347 45:=⟨underlying347⟩
instance i382s:IA prog 382 218:=⟨underlying382⟩
instance i399s:IA prog 399 32:=⟨underlying399⟩
instance i420s:IA prog 420 418:=⟨underlying420⟩
instance i450s:IA prog 450 23:=⟨underlying450⟩

structure Hd where
 port:Int
 src:Nat->Int
 dst:Nat->Int
 ty:Int
 sip:Int
 dip:Int
 OX:Int
 sp:Int
 dp:Int
def Hd.zero:Hd:=⟨0,λ_=>0,λ_=>0,0,0,0,0,0,0⟩
def hdL(H:Hd):vL:=[
 iI H.port,.int .u8 (H.src 0),.int .u8 (H.src 1),.int .u8 (H.src 2),.int .u8 (H.src 3),.int .u8 (H.src 4),.int .u8 (H.src 5),
 .int .u8 (H.dst 0),.int .u8 (H.dst 1),.int .u8 (H.dst 2),.int .u8 (H.dst 3),.int .u8 (H.dst 4),.int .u8 (H.dst 5),
 iI H.ty,.int .u32 H.sip,.int .u32 H.dip,iI H.OX,iI H.sp,iI H.dp]
def hdCells(H:Hd):Array Vl:=(hdL H).toArray
section Gq
attribute [local irreducible] WL WC WE WQ WP WH WR WM WRH

def wdN(i:Nat):Nat:=[8,48,48,16,32,32,8,16,16].getD i 0
def GW(w:Wd):Prop:=∀i,i<9->w.cell? ⟨0,i,none⟩=some (iI (wdN i))
theorem GW.BI{p:Nat->Prop}{w0 w:Wd}{L:eL}(c:¬p 0)(h:GW w0)(a:St p w0 w L):GW w:=λi b=>a.old c (h i b)
theorem Af8(i:Nat):wdN i<=48:=by
 match i with
 | 0|1|2|3|4|5|6|7|8=>decide
 | _+9=>exact Lv _
def BG(i:Nat):Int:=2^wdN i-1
theorem AgE(w:Wd)(i:Nat)(b:i<9)(a:GW w):
 Cl 254 #[iI i] w (RvF (iI (wdN i)) w):=by
 refine en0 func254 U ntmps254 U<|J9 ?_
 refine zV ((JF U U U).f W) U<|J2 ?_
 refine zS ((SK U U U).f W) U<|J9 ?_
 refine zV (AG (lo:=i) U U U underlying451 AZ W W) U<|zV (An U U i3o.h (BY (λh=>h) (by rw[PP,Aed];exact a i b))) U ?_
 exact Cx
theorem QZ(w:Wd)(i:Nat)(f:i<9)(b:GW w):
 Cl 171 #[iI i] w (RvF (.int .u64 (BG i)) w):=by
 have g:=Af8 i
 have a:(2:Int)^wdN i=((2^wdN i:Nat):Int):=C9
 have k:2^wdN i<=2^48:=Aiy C8 g
 have q:0<2^wdN i:=Aid _
 have j:1<=(2:Int)^wdN i/\(2:Int)^wdN i<=281474976710656:=W
 refine en0 func171 U ntmps171 U<|J8 ?_
 refine zk CkO U (λw e=>AgE w i f (b.BI (λh=>h) e))<|zV (ND (m:=wdN i) (c:=(2:Int)^wdN i) U U U U (by show wdN i<=64;omega) U (LU W W)) U ?_
 refine zV (GD U U U (LU W W)) U<|J4 ?_
 refine eT1 ?_
 exact λr h=>⟨by rw[Int.one_mul];rfl,h.frm⟩
def WS(i:Nat)(n:Int):Bool:=decide (0<=n/\n<=BG i)
def Hd.okB(H:Hd):Bool:=WS 0 H.port && WS 3 H.ty && WS 6 H.OX && WS 7 H.sp && WS 8 H.dp
structure Hd.In(H:Hd):Prop where
 port : -9223372036854775808<=H.port/\H.port<=9223372036854775807
 ty : -9223372036854775808<=H.ty/\H.ty<=9223372036854775807
 OX : -9223372036854775808<=H.OX/\H.OX<=9223372036854775807
 sp : -9223372036854775808<=H.sp/\H.sp<=9223372036854775807
 dp : -9223372036854775808<=H.dp/\H.dp<=9223372036854775807
 sip:0<=H.sip/\H.sip<=4294967295
 dip:0<=H.dip/\H.dip<=4294967295
 src:Byt H.src
 dst:Byt H.dst
end Gq

section
variable {P:Program}{C:World->Prop}{ops:Array Oper}{Q:Exit->Act->World->Prop}{n:Nat}{p:Nat->Prop}{w0:World}{o:Oper}{rest:List Oper}{l:Kn}{L:List Ent}

def Meth(P:Program)(C:World->Prop)(t:TypeId)(v:Value)(a:String)(f:FuncId)(b:Value):Prop:=∀w,C w->(method (P.types.size+Made.depth) t v a).run P w=.ok (f,b) w
def isIf:TypeDesc->Bool | .interface _=>true|_=>false
theorem X8{q:TypeId}{y:Operand}{k:IntKind}(g:o.op=.call { callee:=.builtin .max,args:=#[J,y],argTypes:=#[w,q] })(i:ev l J=some (.int k S))(j:ev l y=some (.int k Z)):Val P C n l o (.int k (max S Z)):=λa b f _=>by
 have c:evs l [J,y]=some [.int k S,.int k Z]:=by simp[evs,i,j]
 obtain⟨r,h⟩:=BQ (P:=P) (w:=b) (xs:=[J,y]) g c f
 rw[h]
 have e:(if Z > S then Z else S)=max S Z:=W
 simp[builtin,Builtin.max_,Builtin.max2,e]
theorem Abs{q:TypeId}{y:Operand}{k:IntKind}(g:o.op=.call { callee:=.builtin .min,args:=#[J,y],argTypes:=#[w,q] })(i:ev l J=some (.int k S))(j:ev l y=some (.int k Z)):Val P C n l o (.int k (min S Z)):=λa b f _=>by
 have c:evs l [J,y]=some [.int k S,.int k Z]:=by simp[evs,i,j]
 obtain⟨r,h⟩:=BQ (P:=P) (w:=b) (xs:=[J,y]) g c f
 rw[h]
 have e:(if Z<S then Z else S)=min S Z:=W
 simp[builtin,Builtin.min_,Builtin.min2,e]
end

def IB(x y:Int):Int:=((x.toNat &&& y.toNat:Nat):Int)
def orN(x y:Int):Int:=((x.toNat ||| y.toNat:Nat):Int)
def QB(x y:Int):Int:=((x.toNat ^^^ y.toNat:Nat):Int)
def FT(x y:Int):Int:=((x.toNat ^^^ (x.toNat &&& y.toNat):Nat):Int)
theorem IT(c:0<=S)(e:S<=18446744073709551615)(f:0<=Z)(g:Z<=18446744073709551615):bits .and .u64 S Z=IB S Z:=by
 obtain⟨a,rfl⟩:=Int.eq_ofNat_of_zero_le c
 obtain⟨b,rfl⟩:=Int.eq_ofNat_of_zero_le f
 show IntKind.u64.wrap ((BitVec.ofInt 64 (a:Int) &&& BitVec.ofInt 64 (b:Int)).toNat:Int)=_
 rw[Ag5,Ag5,BitVec.toNat_and,Ags,Ags,AgI W,AgI W]
 have:a &&& b<=a:=Nat.and_le_left
 exact LU W W
theorem P4(c:0<=S)(e:S<=18446744073709551615)(f:0<=Z)(g:Z<=18446744073709551615):bits .or .u64 S Z=orN S Z:=by
 obtain⟨a,rfl⟩:=Int.eq_ofNat_of_zero_le c
 obtain⟨b,rfl⟩:=Int.eq_ofNat_of_zero_le f
 show IntKind.u64.wrap ((BitVec.ofInt 64 (a:Int) ||| BitVec.ofInt 64 (b:Int)).toNat:Int)=_
 rw[Ag5,Ag5,BitVec.toNat_or,Ags,Ags,AgI W,AgI W]
 have:a ||| b<2^64:=Nat.or_lt_two_pow W W
 exact LU W W
theorem UI(c:0<=S)(e:S<=18446744073709551615)(f:0<=Z)(g:Z<=18446744073709551615):bits .xor .u64 S Z=QB S Z:=by
 obtain⟨a,rfl⟩:=Int.eq_ofNat_of_zero_le c
 obtain⟨b,rfl⟩:=Int.eq_ofNat_of_zero_le f
 show IntKind.u64.wrap ((BitVec.ofInt 64 (a:Int) ^^^ BitVec.ofInt 64 (b:Int)).toNat:Int)=_
 rw[Ag5,Ag5,BitVec.toNat_xor,Ags,Ags,AgI W,AgI W]
 have:a ^^^ b<2^64:=Nat.xor_lt_two_pow W W
 exact LU W W
theorem Sh{b:Nat}(a:H<2^B)(f:b<2^B):(BitVec.ofNat B H &&& ~~~ BitVec.ofNat B b).toNat=H ^^^ (H &&& b):=by
 have e:BitVec.ofNat B H &&& ~~~ BitVec.ofNat B b=BitVec.ofNat B H ^^^ (BitVec.ofNat B H &&& BitVec.ofNat B b):=by
  apply BitVec.eq_of_getLsbD_eq
  intro i g
  simp only[BitVec.getLsbD_and,BitVec.getLsbD_not,BitVec.getLsbD_xor,g,decide_true,Bool.true_and]
  cases (BitVec.ofNat B H).getLsbD i<;>cases (BitVec.ofNat B b).getLsbD i<;>rfl
 have c:(BitVec.ofNat B H &&& BitVec.ofNat B b).toNat=H &&& b:=by
  rw[BitVec.toNat_and,Ags,Ags,AgI a,AgI f]
 rw[e,BitVec.toNat_xor,c,Ags,AgI a]
theorem VQ :B ^^^ H=0<->B=H:=by
 constructor
 .intro h
  apply Nat.eq_of_testBit_eq
  intro i
  have:=If (λx=>x.testBit i) h
  simp only[Nat.testBit_xor,Nat.zero_testBit] at this
  cases a:B.testBit i<;>cases b:H.testBit i<;>simp_all
 .rintro rfl;exact Nat.xor_self B
theorem Gl(c:0<=S)(e:S<=18446744073709551615)(f:0<=Z)(g:Z<=18446744073709551615):bits .andNot .u64 S Z=FT S Z:=by
 obtain⟨a,rfl⟩:=Int.eq_ofNat_of_zero_le c
 obtain⟨b,rfl⟩:=Int.eq_ofNat_of_zero_le f
 show IntKind.u64.wrap ((BitVec.ofInt 64 (a:Int) &&& ~~~ BitVec.ofInt 64 (b:Int)).toNat:Int)=_
 rw[Ag5,Ag5,Sh W W]
 have i:a &&& b<=a:=Nat.and_le_left
 have:a ^^^ (a &&& b)<2^64:=Nat.xor_lt_two_pow W W
 exact LU W W
theorem Im{x y:Int}(c:0<=x)(e:x<=9223372036854775807)(f:0<=y)(g:y<=9223372036854775807):bits .or .i64 x y=orN x y:=by
 obtain⟨a,rfl⟩:=Int.eq_ofNat_of_zero_le c
 obtain⟨b,rfl⟩:=Int.eq_ofNat_of_zero_le f
 show IntKind.i64.wrap ((BitVec.ofInt 64 (a:Int) ||| BitVec.ofInt 64 (b:Int)).toNat:Int)=_
 rw[Ag5,Ag5,BitVec.toNat_or,Ags,Ags,AgI W,AgI W]
 have:a ||| b<2^63:=Nat.or_lt_two_pow W W
 exact DK W W
def BW(x:Int)(i:Nat):Bool:=x.toNat.testBit i
theorem QG(x y:Int)(i:Nat):BW (orN x y) i=(BW x i || BW y i):=by
 unfold BW orN;rw[Int.toNat_natCast,Nat.testBit_or]
section Gq
attribute [local irreducible] WL WC WE WQ WP WH WR WM WRH

theorem AhY(e:0<=S)(a:S<=1099511627775)(b:0<=Z)(c:Z<=255):bits .or .u64 (S*256) Z=S*256+Z :=
 bits_join .u64 64 C8 ZT 8 (S*256) Z W W W b W W
def Ms(m:Nat->Int):Nat->Int|0=>0|k+1=>Ms m k*256+m k
theorem AbA{m:Nat->Int}(a:Byt m){k:Nat}(hk:k<=6):0<=Ms m k/\(k<=5->Ms m k<=1099511627775)/\Ms m k<=281474976710655:=by
 have b:=a 0;have c:=a 1;have e:=a 2;have f:=a 3;have g:=a 4;have h:=a 5
 match k,hk with
 | 0,_|1,_|2,_|3,_|4,_|5,_|6,_=>simp only[Ms];omega
theorem Num_c(w:Wd)(m:Nat->Int)(a:Byt m):
 Cl 314 #[.agg (bcs m 6).toArray] w (RvF (.int .u64 (Ms m 6)) w):=by
 refine en0 func314 U ntmps314 U<|J2 ?_
 refine zx U U U U U<|λf e=>J16 ?_
 refine oLp (λk:Nat=>[(7,iI k),(6,.agg (bcs m 6).toArray),(3,.int .u64 (Ms m k))]) (λ_=>[]) (λk=>k<=6) (λk=>6-k) 0 (Lv _)<|λk hk=>?_
 have g:=AbA a hk
 have i:=a k
 refine J2 ?_
 refine JT (λb=>?_) λb=>?_
 refine J10 ?_
 refine zV (X7 (lo:=k) U U U underlying93 i5o.h W W (QE m 6 k W)) U<|J5 ?_
 refine zV (ND (m:=8) (c:=256) U U U U C8 C8 (LU W W)) U<|J1 ?_
 refine zV (FA U U underlying23 underlying5 D3) U ?_
 refine zV (S9 U U U (AhY W W W W)) U<|J8 ?_
 exact eW (k+1) W W
 refine J16 ?_
 refine eT1 ?_
 obtain rfl:k=6:=W
 exact fR
def ofB(n:Int)(i:Nat):Int:=n / 256^(5-i) % 256
theorem Ahv(n:Int):Byt (ofB n):=λi=>by unfold ofB;omega
def ofJ(n:Int)(j i:Nat):Int:=if 6-j<=i/\i<6 then ofB n i else 0
theorem AdE{f:Nat->Int}(h:H<B):(bcs f B).set H (.int .u8 S)=bcs (λi=>if i=H then S else f i) B:=by
 apply AhO
 intro i
 rw[List.getElem?_set,Oc]
 by_cases a:H=i
 .subst a;rw[IR rfl,IR h,QE _ _ _ h,IR rfl]
 .rw [E9 a]
  by_cases b:i<B
  .rw [QE _ _ _ b,QE _ _ _ b,E9 W]
  .rw [AcL (by rw[Oc];omega),AcL (by rw[Oc];omega)]
theorem Tp{f g:Nat->Int}(h:∀i,i<B->f i=g i):bcs f B=bcs g B:=by
 unfold bcs
 apply List.map_congr_left
 intro i a
 rw[h i (Aij.1 a)]
theorem Of_c(w:Wd)(n:Int)(k:0<=n)(_:n<=18446744073709551615):
 Cl 82 #[.int .u64 n] w (RvF (.agg (bcs (ofB n) 6).toArray) w):=by
 refine en0 func82 U ntmps82 U<|J2 ?_
 refine zy U O9 U U<|λa s=>J4 ?_
 refine zy U O9 U U<|λb u=>J9 ?_
 refine WC.loop (λj:Nat=>[(4,iI (5-j)),(0,.int .u64 (n / 256^j)),(3,pG b),(2,pG a)]) (λj=>[.row b (bcs (ofJ n j) 6),.row a (bcs (λ_=>0) 6)]) (λj=>j<=6) (λj=>6-j) 0 (Lv _) (.int U U (.int U (by rw[Int.pow_zero,Int.ediv_one]) (.cons U (.cons U .nil)))) (.refl _) ?_
 intro j D
 have E:0<=n / 256^j:=Int.ediv_nonneg k (Int.pow_nonneg W)
 have z:n / 256^j<=n:=Int.ediv_le_self _ k
 refine J4 ?_
 refine JT (λr=>?_) λr=>?_
 refine J11 ?_
 refine zV (FA U U underlying5 underlying23 (by first|exact w_u8 (W) (W)|exact w_u8m _)) U ?_
 refine zV (AG (lo:=5-j) U U U underlying93 sz_5 W W) U<|WL.DX U U U U i5o.h (by rw[Oc];omega) (.none U) U ?_
 refine WL.as (L':=[.row b (bcs (ofJ n (j+1)) 6),.row a (bcs (λ_=>0) 6)]) (by
 rw[PP,Aed,AdE W]
 congr 2
 refine Tp λi y=>?_
 unfold ofJ ofB
 by_cases e:i=5-j
 .rw [IR e,IR W,e,show 5-(5-j)=j by omega]
 .rw [E9 e]
  by_cases B:6-j<=i
  .rw [IR W,IR W]
  .rw [E9 W,E9 W]) ?_
 refine J4 ?_
 refine zV (IP (m:=8) (c:=256) U U U U C8 C8) U<|J9 ?_
 exact eW (j+1) W W (.int U W (.int U (by rw[Int.pow_succ,Int.ediv_ediv_of_nonneg (Int.pow_nonneg (W))]) (.cons U (.cons U .nil))))
 refine J15 ?_
 refine eT1 ?_
 obtain rfl:j=6:=W
 exact λF h=>⟨by rw[Tp (f:=ofJ n 6) (g:=ofB n) λi y=>by unfold ofJ;rw[IR W]],h.frm⟩
def rawF(H:Hd):Nat->Int
 | 0=>H.port % 18446744073709551616|1=>Ms H.src 6|2=>Ms H.dst 6|3=>H.ty % 18446744073709551616|4=>H.sip|5=>H.dip
 | 6=>H.OX % 18446744073709551616|7=>H.sp % 18446744073709551616|8=>H.dp % 18446744073709551616|_+9=>0
def getF(H:Hd)(k:Nat):Int:=rawF H k % 2^wdN k
theorem pow_wd(k:Nat):1<=(2:Int)^wdN k/\(2:Int)^wdN k<=281474976710656:=by
 have b:=Af8 k
 have a:(2:Int)^wdN k=((2^wdN k:Nat):Int):=C9
 have c:2^wdN k<=2^48:=Aiy C8 b
 have e:0<2^wdN k:=Aid _
 omega
def wthF(k:Nat)(n:Int)(H:Hd):Hd:=match k with
 | 0=>{ H with port:=n } | 1=>{ H with src:=ofB n } | 2=>{ H with dst:=ofB n } | 3=>{ H with ty:=n } | 4=>{ H with sip:=n } | 5=>{ H with dip:=n }
 | 6=>{ H with OX:=n } | 7=>{ H with sp:=n } | 8=>{ H with dp:=n } | _+9=>H
def EF(x y:Int):Int:=if x<y then -1 else if y<x then 1 else 0
theorem Xd(w:Wd)(x:Int):Cl 313 #[.int .u64 x] w (RvF (.bool false) w):=by
 refine en0 func313 U ntmps313 U ?_
 exact C3
theorem Yi(w:Wd)(x y:Int):Cl 233 #[.int .u64 x,.int .u64 y] w (RvF (iI (EF x y)) w):=by
 refine en0 func233 U ntmps233 U<|J8 ?_
 refine zk CkO U (λw a=>Xd w x)<|J6 ?_
 refine zk CkO U (λw a=>Xd w y) ?_
 exact Ao
def Aay(A B:Hd):Nat->Int|0=>0|k+1=>if Aay A B k≠0 then Aay A B k else EF (getF A k) (getF B k)
end Gq
end Go.Proofs.YtmhahajadgkolaaGreatDoor
