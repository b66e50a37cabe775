/- Joined texts. -/
import Derived.Test.YtmhahajadgkolaaGreatDoorBfSdxTells
set_option maxHeartbeats 2000000
namespace Go.Proofs.YtmhahajadgkolaaGreatDoor
open Go.RowKit Tryz
theorem Aip:∀(n:Nat),n < n.succ:=@Nat.lt_succ_self
variable{A B:Nat}{C:Tri}{D:vL}{E:Type}{F H:AtL}{G:List Nat}
section Gq
attribute [local irreducible] WL WC WE WQ WP WH WR WM WRH

theorem Tri.R5:∀(q r:List Nat) (T S:Tri) (z:Nat×Nat),T.on (q++r)->(T.BS (q++r) S).link q z=T.link q z
 | [],_,_,_,_,_=>rfl
 | c::q,r,.nil,S,z,h=>h.elim
 | c::q,r,.node g h a K l e,S,z,b=>by
  simp only[AbT,Tri.on,Tri.BS] at b ⊢
  by_cases d:c=0
  .simp only [IR d] at b ⊢;simp only[Tri.link,IR d];exact R5 q r l S _ b
  .simp only [E9 d] at b ⊢;simp only[Tri.link,E9 d];exact R5 q r e S _ b
theorem Tri.Vn:∀(q r:List Nat) (T:Tri),T.on (q++r)->r≠[]->T.on q/\T.sub q≠.nil
 | [],[],T,_,h=>absurd rfl h
 | [],b::r,.nil,h,_=>h.elim
 | [],b::r,.node g h a K l j,_,_=>⟨trivial,by intro e;cases e⟩
 | c::q,r,.nil,h,_=>h.elim
 | c::q,r,.node g h a K l j,d,i=>by
  simp only[AbT,Tri.on,Tri.sub] at d ⊢
  by_cases f:c=0
  .simp only [IR f] at d ⊢;exact Vn q r l d i
  .simp only [E9 f] at d ⊢;exact Vn q r j d i
theorem Tri.AhX(q:List Nat)(b:Nat)(T S:Tri)(h:T.on (q++[b])):(T.BS (q++[b]) S).sub q≠.nil:=by
 obtain⟨c,d⟩:=Tri.Vn q [b] T h C9
 rw[Tri.Sq _ _ _ _ c,Tri.JB _ _ _ c]
 cases f:T.sub q with
 | nil=>exact absurd f d
 | node g h a K l r=>simp only[Tri.BS];split<;>(intro e;cases e)
theorem Tri.AdD(g:Nat)(a:AtL)(K:eL)(s:List Nat):(Tri.node g false a K .nil .nil).get s=none:=by
 rw[EM]
 cases s with
 | nil=>rfl
 | cons b s =>
  simp only[Tri.sub]
  split<;>rw[Tri.QT]<;>rfl
theorem Tri.AeJ(t:Nat)(m k:Int)(h:C.on G):∃a:vL,.row (C.link G (t,0)).1 a∈C.all t m k/\a[(C.link G (t,0)).2]?=some (.pointer (C.sub G).ptr):=by
 obtain⟨A,B,c,d,e⟩:=C.YN t m k G h
 have b:=(e (C.sub G)).symm.subset (Mu _ (Mu _ Fr))
 rw[Tri.He _ _ h] at b
 exact⟨_,b,AdZ d⟩
structure Kg(T T':Tri)(q:List Nat):Prop where
 at_:T'.get q=none
 else_:∀r,Bin r->r≠q->T'.get r=T.get r
 ok:∀P:eL->AtL->Prop,T.Ok P->T'.Ok P
theorem Kg.same(h:C.get G=none):Kg C C G:=⟨h,λ_ _ _=>rfl,λ_ h=>h⟩
theorem Kg.node{T:Tri}{q:List Nat}{g:Nat}{h:Bool}{m a:AtL}{k K:eL}{l r:Tri}(t:Bin q)(hs:T.sub q=.node g h m k l r):Kg T (T.BS q (.node g false a K l r)) q:=by
 have d:T.on q:=Tri.FW _ _ Fo
 refine⟨?_,λs o f=>?_,λP i=>?_⟩
 .rw [Tri.EM,Tri.JB _ _ _ d];rfl
 .obtain ⟨n,c⟩:=Tri.Mg q T (.node g false a K l r) s t o d
  by_cases j:∃u,s=q++u
  .obtain ⟨u,rfl⟩:=j
   rw[c u U,Tri.U2,hs]
   cases u with
   | nil=>exact absurd (Acx q) f
   | cons b u=>rw[Tri.EM,Tri.EM];rfl
  .exact n λu e=>j ⟨u,e⟩
 .have c:=Tri.Ok.sub (q:=q) i
  rw[hs] at c
  exact Tri.Ok.BS (S:=.node g false a K l r) ⟨λh=>Da,c.2.1,c.2.2⟩ i
theorem Kg.Hn{T a b:Tri}{q:List Nat}(i:Bin q)(h:Kg T a q)(e:b.Hn a)(d:∀P,a.Ok P->b.Ok P):Kg T b q :=
 ⟨(e q i).trans h.at_,λr f c=>(e r f).trans (h.else_ r f c),λP g=>d P (h.ok P g)⟩
theorem ix1{v:Vl}(h:D[A]?=some v):D[0+A*1]?=some v:=by rw[PP,Aed];exact h
structure DrpS where
 i:Nat
 ws:vL
structure DrT where
 j:Nat
 T:Tri
def Tri.Way(T:Tri)(t:Nat)(q:List Nat)(a:vL)(j:Nat):Prop:=∀i,i<j->a[i]?=some (.pointer (some ⟨(T.link (q.take i) (t,0)).1,(T.link (q.take i) (t,0)).2,none⟩))
theorem Drop_c(w0:Wd)(t:Nat)(m k:Int)(T:Tri)(p:PfL)(hp:U32 p.addr)(hok:BP p=true)(hS0:St (Ids (T.all t m k)) w0 w0 (T.all t m k)):
 Cl 200 #[.pointer (some ⟨t,0,none⟩),aA p.cells] w0 λe w'=>∃(T':Tri) (k':Int) (b:Bool),e=.returned (.bool b)/\Kg T T' p.bits/\St (Ids (T.all t m k)) w0 w' (T'.all t m k'):=by
 have hl:=IG hok
 have hbl:=p.Il
 have hbin:=p.Ma
 have hS1:St (Ids (T.all t m k)) w0 w0 (.row t [.pointer T.ptr,iI m,iI k]::T.AE):=hS0
 refine enter func200 U ntmps200 U hS1<|J2 ?_
 refine zx U U U U U<|λu hg3=>J7 ?_
 refine zk CkO U (λw hS=>U0 w t m k T p hp hok λe he=>hS.holds e (EQ _ he))<|J7 ?_
 refine zT (LM U U underlying331) U (λX=>?_) λX=>?_
 refine J17 ?_
 refine eT1 ?_
 exact λw' h=>⟨T,k,_,rfl,Kg.same (Tri.get_nil (Tri.Px λhn=>hn X)),h.tail⟩
 refine J2 ?_
 obtain⟨g,D,a1,Q,l,r,hs⟩:=Tri.OD X
 haveI:At (.row u p.cells::.row t [.pointer T.ptr,iI m,iI k]::T.AE) g (Tri.cells D a1 l r):=⟨EQ _ (EQ _ (T.mem p.bits g D a1 Q l r hs _ Fr))⟩
 rw[hs]
 refine J3 ?_
 skip
 cases D
 refine J12 ?_
 refine eT1 ?_
 exact λw' h=>⟨T,k,_,rfl,Kg.same (Tri.get_f hs),h.tail⟩
 refine J9 ?_
 obtain⟨d,hYm,hY⟩:=Tri.Ae3 hs
 have ab:T.BS p.bits (.node g true a1 Q l r)=T:=(by rw[<- hs];exact Tri.He _ _ (Tri.FW _ _ (by rw[hs];intro e;cases e)))
 refine WL.to (L':=.row u p.cells::.row t [.pointer T.ptr,iI m,iI k]::.row g (Tri.cells true a1 l r)::(Q++(d++[]))) (λw h=>(hY true a1 Q t m k [.row u p.cells] [] _ _ w).1 (by rw[ab,Acx];exact h)) ?_
 refine zy U HR U U<|λg6 hg6=>J2 ?_
 refine WC.cut (λ_:Unit=>[(0,.pointer (some ⟨t,0,none⟩)),(3,.pointer (some ⟨u,0,none⟩))]) (λ_=>.row u p.cells::.row t [.pointer T.ptr,iI m,iI k]::.row g (Tri.cells false .zero l r)::(Q++(d++[]))) (λ_=>True) ?_ ?_
 refine WC.AS mixed<|rF 5 [0,1,3,4]<|?_
 refine J5 ?_
 refine WR.each (g:=4) [2,5] C6 C8<|⟨?_,?_⟩
 refine J2 ?_
 refine rO 3 [5]<|J2 ?_
 refine rF 1 [6,7]<|J3 ?_
 exact Bf
 refine J2 ?_
 refine rA 1 [2,6,7] U<|J4 ?_
 exact Bf
 rintro - -
 refine J6 ?_
 refine zV (GD U U U (rfl)) U<|J7 ?_
 refine zy U Agc U U<|λz hg7=>J7 ?_
 refine zV (AG (lo:=0) U U U underlying416 PN U W) U<|J7 ?_
 have L:T.on p.bits:=Tri.FW _ _ Fo
 obtain⟨q,G⟩:∃q,q=T.BS p.bits (.node g false .zero Q l r):=⟨_,rfl⟩
 have M:q.on p.bits:=(by rw[G];exact Tri.Vo _ _ _ L)
 have hd1:Kg T q p.bits:=(by rw[G];exact Kg.node hbin hs)
 have ac:q.sub p.bits≠.nil:=(by rw[G,Tri.JB _ _ _ L];intro e;cases e)
 obtain⟨k1,hk1⟩:∃k1,k1=IntKind.i64.wrap (k-1):=⟨_,rfl⟩
 refine WL.to (L':=q.all t m k1++[.row z (.pointer (some ⟨t,0,none⟩)::List.replicate 32 (.pointer none)),.row u p.cells]) (λw h=>by
  have R:=(hY false .zero Q t m k1 [.row z (.pointer (some ⟨t,0,none⟩)::List.replicate 32 (.pointer none)),.row u p.cells] [] _ _ w).2 (by rw[hk1];exact h)
  rw[<- G,Acx] at R
  exact R.AJ) ?_
 refine J5 ?_
 refine oLp (λx:DrpS=>[(43,iI x.i),(42,iI p.len),(7,.pointer (some ⟨z,0,none⟩)),(3,.pointer (some ⟨u,0,none⟩))]) (λx=>q.all t m k1++[.row z x.ws,.row u p.cells]) (λx=>x.i<=p.len.toNat/\x.ws.length=33/\q.Way t p.bits x.ws (x.i+1)) (λx=>p.len.toNat-x.i) ⟨0,(.pointer (some ⟨t,0,none⟩)::List.replicate 32 (.pointer none))⟩ ⟨Lv _,rfl,λi hi=>by obtain rfl:i=0:=(by dsimp only at hi;omega);rfl⟩ ?_
 rintro⟨i,O⟩ ⟨hi,hw,y⟩
 dsimp only at hi hw y⊢
 have hbi:=Oe p.addr i
 refine J2 ?_
 refine JT (λh44=>?_) λh44=>?_
 refine J14 ?_
 refine WC.AS mixed<|rF 10 [0,1,2,3,7,9]<|?_
 obtain⟨honi,hni⟩:=Tri.Vn (p.bits.take i) (p.bits.drop i) q (by rw[AeN];exact M) (by intro e;have:=If List.length e;rw[List.length_drop,hbl] at this;simp at this;omega)
 obtain⟨F,hhi,E,Ki,li,ri,v⟩:∃g h a K l r,q.sub (p.bits.take i)=.node g h a K l r:=(by
  cases e:q.sub (p.bits.take i) with
  | nil=>exact absurd e hni
  | node g D a K l r=>exact⟨g,D,a,K,l,r,rfl⟩)
 obtain⟨J,Z,C⟩:=Tri.AeJ t m k1 honi
 rw[v] at C
 haveI:At (q.all t m k1++[.row z O,.row u p.cells]) (q.link (p.bits.take i) (t,0)).1 J:=⟨Ha _ Z⟩
 refine J3 ?_
 refine pV (AG (lo:=i) U U U underlying416 PN W W) U<|J3 ?_
 refine rA 1 [4,5,6,8,10,11,12,13,14] U<|qV (An U U AaB.h ((cellAt (ix1 (y i W))))) U<|J1 ?_
 refine qV (An U U Hh ((cellAt C))) U<|J1 ?_
 refine qC CkO U (λw hS=>AcK w p.addr i hp W)<|J2 ?_
 refine qV (AG (lo:=LW p.addr i) U U U underlying404 LH W W) U<|qV (AG (lo:=i+1) U U U underlying416 PN W W) U<|J1 ?_
 refine rO 0 [15]<|WL.DX U U U U AaB.h W (.none U) U<|J8 ?_
 exact WE.next ⟨i+1,O.set (i+1) (.pointer (some ⟨F,LW p.addr i,none⟩))⟩ C7 ⟨C7,by dsimp only;rw[AbI];exact hw,λj hj=>by
 dsimp only at hj ⊢
 by_cases hji:j=i+1
 .subst hji
  rw[AdZ W,p.I4 W,Tri.OG _ _ _ _ _ _ _ _ _ _ v]
  have:(if LW p.addr i=0 then 0 else 1)=LW p.addr i:=(by split<;>omega)
  rw[this]
 .rw [Adq W];exact y j W⟩ (.int U C7 (.cons U (.cons U (.cons U .nil)))) (by first|exact .refl _|(simp only[PP,Aed];exact .refl _))
 refine J18 ?_
 refine oLp (λx:DrT=>[(9,iI ((x.j:Int)-1)),(7,.pointer (some ⟨z,0,none⟩))]) (λx=>x.T.all t m k1++[.row z O,.row u p.cells]) (λx=>x.j<=p.len.toNat+1/\(0<x.j->x.T.on (p.bits.take (x.j-1))/\x.T.sub (p.bits.take (x.j-1))≠.nil)/\x.T.Way t p.bits O x.j/\x.T.Hn q/\∀P,q.Ok P->x.T.Ok P) (λx=>x.j) ⟨p.len.toNat+1,q⟩ ⟨M2 _,λ_=>(by dsimp only;rw[Nat.add_sub_cancel,Aco (W)];exact⟨M,ac⟩),λN h'=>y N (by dsimp only at h';omega),λ_ _=>rfl,λ_ h=>h⟩ ?_
 rintro⟨j,T2⟩ ⟨hj,aa,o,hlk2,hok2⟩
 dsimp only at hj aa o hlk2 hok2⊢
 refine J4 ?_
 refine JT (λh65=>?_) λh65=>?_
 refine J9 ?_
 obtain⟨n,rfl⟩:∃n,j=n+1:=⟨j-1,W⟩
 rw[Nat.add_sub_cancel] at aa
 obtain⟨f,hni2⟩:=aa W
 obtain⟨F,D,E,Ki,li,ri,v⟩:∃g h a K l r,T2.sub (p.bits.take n)=.node g h a K l r:=(by
  cases e:T2.sub (p.bits.take n) with
  | nil=>exact absurd e hni2
  | node g D a K l r=>exact⟨g,D,a,K,l,r,rfl⟩)
 obtain⟨J,Z,C⟩:=Tri.AeJ t m k1 f
 rw[v] at C
 haveI hA1:At (T2.all t m k1++[.row z O,.row u p.cells]) (T2.link (p.bits.take n) (t,0)).1 J:=⟨Ha _ Z⟩
 haveI hA2:At (T2.all t m k1++[.row z O,.row u p.cells]) F (Tri.cells D E li ri):=⟨Ha _ (EQ _ (T2.mem _ _ _ _ _ _ _ v _ Fr))⟩
 refine J1 ?_
 refine zV (AG (lo:=n) U U U underlying416 PN W W) U<|zV (An U U AaB.h ((cellAt (ix1 (o n W))))) U<|J1 ?_
 refine zV (An U U Hh ((cellAt (cs:=J) C))) U<|J9 ?_
 refine zV (An U U i4o.h ((cellAt (cs:=Tri.cells D E li ri) U))) U ?_
 skip
 cases D
 refine J4 ?_
 refine zS (AG (lo:=0) U U U underlying404 LH U W) U<|zS (An U U Hh ((cellAt (cs:=Tri.cells _ E li ri) U))) U<|WL.test (NZ U U underlying331) (.some U U U) U U (λh83=>?_) (λh83=>?_)
 refine J14 ?_
 exact C1
 refine J5 ?_
 refine zS (AG (lo:=1) U U U underlying404 LH U W) U<|zS (An U U Hh ((cellAt (cs:=Tri.cells _ E li ri) U))) U<|WL.test (NZ U U underlying331) (.some U U U) U U (λh91=>?_) (λh91=>?_)
 refine J6 ?_
 exact C1
 refine J7 ?_
 obtain rfl:=Tri.Px h83
 obtain rfl:=Tri.Px h91
 obtain⟨A,B,c,hc,hpm⟩:=T2.YN t m k1 (p.bits.take n) f
 have H:T2.BS (p.bits.take n) (.node F false E Ki .nil .nil)=T2:=(by rw[<- v];exact Tri.He _ _ f)
 refine WL.to (L':=(Tri.node F false E Ki .nil .nil).AE++(A++(.row (T2.link (p.bits.take n) (t,0)).1 (c.set (T2.link (p.bits.take n) (t,0)).2 (.pointer (some ⟨F,0,none⟩)))::(B++[.row z O,.row u p.cells])))) (λw h=>h.perm (by
  have R:=hpm (.node F false E Ki .nil .nil)
  rw[H] at R
  classical
  refine Ai3.2 λe=>?_
  have h2:=Ai3.1 R e
  rw[show(Tri.node F false E Ki .nil .nil).ptr=some ⟨F,0,none⟩ from rfl] at h2
  simp only[List.count_append,List.count_cons] at h2 ⊢
  omega)) ?_
 refine J1 ?_
 refine zV (AG (lo:=n) U U U underlying416 PN W W) U<|zV (An U U AaB.h ((cellAt (ix1 (o n W))))) U<|J1 ?_
 refine WL.DX U U U U Hh (by rw[AbI];exact hc) (.none U) U ?_
 refine J8 ?_
 refine WE.to (L':=(T2.BS (p.bits.take n) .nil).all t m k1++[.row z O,.row u p.cells]) (λw h=>(h.sub (Ai9 _ _)).perm (by
  have R:=hpm .nil
  rw[List.set_set]
  classical
  refine Ai3.2 λe=>?_
  have h2:=Ai3.1 R e
  rw[show Tri.nil.ptr=none from rfl] at h2
  simp only[List.count_append,List.count_cons,Tri.AE,List.count_nil] at h2 ⊢
  omega)) ?_
 refine eW ⟨n,T2.BS (p.bits.take n) .nil⟩ C7 ⟨C7,λh0=>?_,λN h'=>?_,?_,λP hP=>Tri.Ok.BS (S:=.nil) trivial (hok2 P hP)⟩
 .dsimp only at h0 ⊢
  obtain⟨i3,rfl⟩:∃i3,n=i3+1:=⟨n-1,W⟩
  rw[Nat.add_sub_cancel]
  rw[p.I4 W] at f ⊢
  have h9:=Tri.AhX _ _ _ .nil f
  exact⟨Tri.FW _ _ h9,h9⟩
 .dsimp only at h' ⊢
  have e1:p.bits.take n=p.bits.take N++(p.bits.take n).drop N:=(by have h:=(AeN N (p.bits.take n)).symm;rwa [List.take_take,Nat.min_eq_left (W)] at h)
  have e2:(T2.BS (p.bits.take n) .nil).link (p.bits.take N) (t,0)=T2.link (p.bits.take N) (t,0):=(by rw[e1];exact Tri.R5 _ _ _ _ _ (by rw[<- e1];exact f))
  rw[e2]
  exact o N W
 .exact (Tri.TP (hbin.take _) f λs _=>by rw[Tri.OP,v,Tri.AdD]).trans hlk2
 refine J21 ?_
 exact C1
 refine J14 ?_
 exact A4

def PfL.half(p:PfL)(b:Nat):PfL:=⟨p.addr+(b:Int)*((2^(31-p.len.toNat):Nat):Int),p.len+1⟩
def Tri.list:Tri->PfL->List (PfL×AtL)
 | .nil,_=>[]
 | .node _ h a _ l r,p=>(if h=true then[(p,a)] else[])++((if p.len<32 then l.list (p.half 0) else[])++(if p.len<32 then r.list (p.half 1) else[]))
theorem OW{p:PfL}(f:U32 p.addr)(b:BP p=true):∃(n q:Nat),n<=32/\p.len=(n:Int)/\p.addr=((q*2^(32-n):Nat):Int)/\q*2^(32-n)<2^32:=by
 have k:=IG b
 obtain⟨n,e⟩:=Int.eq_ofNat_of_zero_le k.1
 obtain⟨a,d⟩:=Int.eq_ofNat_of_zero_le f.1
 have c:=(Ai8 b).1
 have j:inI p.len=p.len:=by unfold inI;omega
 unfold UQ at c
 rw[j,e,d,show(32-(n:Int)).toNat=32-n by omega] at c
 have i:((2^(32-n):Nat):Int) ∣ (a:Int):=Int.dvd_of_emod_eq_zero W
 obtain⟨q,g⟩:=Int.ofNat_dvd.1 i
 have l:=f.2
 refine⟨n,q,W,e,by rw[d,g,Ais],?_⟩
 rw[Ais, <- g]
 omega
theorem pf_of(b:A<=32)(h:B*2^(32-A)<2^32):BP ⟨((B*2^(32-A):Nat):Int),(A:Int)⟩=true/\U32 ((B*2^(32-A):Nat):Int):=by
 refine⟨UV ⟨?_,?_⟩,?_⟩
 .have a:inI (A:Int)=(A:Int):=by unfold inI;omega
  show _=UQ _ (A:Int)
  unfold UQ
  rw[a,show(32-(A:Int)).toNat=32-A by omega,Int.natCast_mul,Int.mul_emod_left,Int.sub_zero]
 .show (A:Int)=inI (A:Int)
  unfold inI;omega
 .exact ⟨W,W⟩
theorem QM{p:PfL}{b:Nat}(m:b<2)(j:U32 p.addr)(a:BP p=true)(o:p.len<32):BP (p.half b)=true/\U32 (p.half b).addr:=by
 obtain⟨n,q,r,d,e,h⟩:=OW j a
 have i:n<32:=W
 have c:2^(32-n)=2*2^(31-n):=by rw[show 32-n=(31-n)+1 by omega,Nat.pow_succ,Ais]
 have f:p.half b=⟨(((2*q+b)*2^(32-(n+1)):Nat):Int),((n+1:Nat):Int)⟩:=by
  unfold PfL.half
  rw[d,e,c,show 32-(n+1)=31-n by omega]
  congr 1
  rw[Int.toNat_natCast, <- Int.natCast_mul, <- Int.natCast_add]
  congr 1
  rw[Agz,Ais 2 q,Nat.mul_assoc]
 rw[f]
 refine pf_of W ?_
 have k:(q+1)*2^(32-n)<=2^32:=by
  have g:2^32=2^n*2^(32-n):=by rw[<- Nat.pow_add];congr 1;omega
  rw[g] at h ⊢
  exact AhN _ (Nat.lt_of_mul_lt_mul_right h)
 rw[show 32-(n+1)=31-n by omega]
 have l:(2*q+b)*2^(31-n)<(q+1)*2^(32-n):=by
  rw[c, <- Nat.mul_assoc]
  exact Nat.mul_lt_mul_of_pos_right W (Aid _)
 omega
theorem or_u32(h:B<32)(c:A*2^(32-B)<2^32):bits .or .u32 ((A*2^(32-B):Nat):Int) ((2^(31-B):Nat):Int)=((A*2^(32-B)+2^(31-B):Nat):Int):=by
 have d:2^(31-B)<2^(32-B):=Nat.pow_lt_pow_right C8 W
 have a:2^(31-B)<2^32:=Nat.pow_lt_pow_right C8 W
 have b:(A*2^(32-B)) ||| 2^(31-B)=A*2^(32-B)+2^(31-B):=by
  rw[<- Nat.shiftLeft_eq,Nat.shiftLeft_add_eq_or_of_lt d]
 have e:A*2^(32-B) ||| 2^(31-B)<2^32:=Nat.or_lt_two_pow c a
 show IntKind.u32.wrap ((BitVec.ofInt 32 _ ||| BitVec.ofInt 32 _).toNat:Int)=_
 rw[Ag5,Ag5,BitVec.toNat_or,Ags,Ags,AgI c,AgI a,b,IntKind.wrap_u32]
 rw[b] at e
 omega
theorem Half_c(w:Wd)(p:PfL)(b:Nat)(A:b<2)(l:U32 p.addr)(hok:BP p=true):Cl 334 #[aA p.cells,iI b] w (RvF (.tuple #[.agg (PfL.cells (if p.len<32 then p.half b else⟨0,0⟩)).toArray,iI (if p.len<32 then 0 else 1)]) w):=by
 obtain⟨n,q,B,j,k,h⟩:=OW l hok
 have g:2^(31-n)<2^32:=Nat.pow_lt_pow_right C8 W
 have i:IntKind.u32.wrap (1*((2^(31-n):Nat):Int))=((2^(31-n):Nat):Int):=by
  generalize 2^(31-n)=z at g
  rw[Int.one_mul,IntKind.wrap_u32];omega
 refine en0 func334 U ntmps334 U<|J2 ?_
 refine zx U U U U U<|λu o=>zy U FZ.h U U<|λv s=>J7 ?_
 refine zk CkO U (λw y=>(I8 w p l).mono Ea) ?_
 refine zV ((Gs U U U).f W) U<|J3 ?_
 refine JT (λa=>?_) λa=>?_
 refine J13 ?_
 refine eT2 ?_
 exact λw' h=>⟨by rw[E9 W,E9 W];rfl,h.frm⟩
 refine J12 ?_
 refine zV (EW U U U (show _=p.len+1 from DK W W)) U<|J1 ?_
 refine zy U FZ.h U U<|λx t=>J7 ?_
 refine JT (λd=>?_) λd=>?_
 refine J3 ?_
 refine WC.AS mixed<|rF 7 [0,2]<|?_
 refine J3 ?_
 refine rA 1 [1,3,4,5,6,7] U<|J2 ?_
 refine qV (GD U U U (show _=((31-n:Nat):Int) by rw[j,DK W W];omega)) U<|qV (ND (m:=31-n) (c:=((2^(31-n):Nat):Int)) (r:=((2^(31-n):Nat):Int)) U U U U (by show 31-n<=32;omega) (by rw[Int.natCast_pow];rfl) i) U ?_
 refine qV (S9 U U U (show _=((q*2^(32-n)+2^(31-n):Nat):Int) by rw[k];exact or_u32 W h)) U<|J2 ?_
 refine rO 0 [8]<|J12 ?_
 refine eT2 ?_
 exact λw' h'=>⟨by
 rw[IR W,IR W]
 obtain rfl:b=1:=W
 rw[show p.half 1=⟨((q*2^(32-n)+2^(31-n):Nat):Int),p.len+1⟩ by unfold PfL.half;rw[k,j,Int.toNat_natCast];simp]
 rfl,h'.frm⟩
 refine J13 ?_
 refine eT2 ?_
 exact λw' h'=>⟨by
 rw[IR W,IR W]
 obtain rfl:b=0:=W
 rw[show p.half 0=⟨p.addr,p.len+1⟩ by unfold PfL.half;simp]
 rfl,h'.frm⟩

def wkL(H a b:List E)(k:Nat):List E:=if k=0 then H else if k=1 then H++a else H++(a++b)
structure WkS where
 k:Nat
 X:eL
def ZZ(N:Nat)(f:FuncId)(i:Array Vl)(j:eL->AtL->Prop)(R:eL)(d:Nat->Prop)(g:Wd)(Inv:List (PfL×AtL)->eL->Prop):Prop :=
 ∀(b:List (PfL×AtL)) (X:eL) (h:Wd) (p:PfL) (a:AtL) (K M:eL),b.length<N->Inv b X->BP p=true->U32 p.addr->j K a->(∀e∈K,e∈R)->St d g h (M++(X++R)) ->
  Cl f (#[]++[aA p.cells,aA a.cells].toArray++i) h λe k=>e=.returned (.bool true)/\∃c,Inv (b++[(p,a)]) c/\St d g k (M++(c++R))
theorem walk_c(N:Nat)(f:FuncId)(P:Array Vl)(C:FJ prog f)(Pk:eL->AtL->Prop)(R:eL)(p0:Nat->Prop)(w0:Wd)(Inv:List (PfL×AtL)->eL->Prop)(hE:ZZ N f P Pk R p0 w0 Inv):
 ∀(T:Tri) (p:PfL) (c:List (PfL×AtL)) (X M:eL) (s:Wd),c.length+(T.list p).length<=N->T.Ok Pk->(∀e∈T.AE,e∈R)->BP p=true->U32 p.addr->Inv c X->St p0 w0 s (M++(X++R)) ->
 Cl 281 #[.pointer T.ptr,aA p.cells,.func (.func f) #[] P] s λe L=>e=.returned (.bool true)/\∃d,Inv (c++T.list p) d/\St p0 w0 L (M++(d++R)):=by
 intro T
 induction T with
 | nil =>
  intro p c X M s _ _ _ q hp D G
  refine enter func281 U ntmps281 U G<|J2 ?_
  refine zx U U U U U<|λB hg4=>J7 ?_
  refine zV (AI true U U underlying331 U) U<|J10 ?_
  refine eT1 ?_
  exact λL h=>⟨rfl,X,by show Inv (c++[]) X;rw[Acx];exact D,h.tail⟩
 | node g J a K l r ihl ihr =>
  intro p c X M s O hOk hR q hp D G
  obtain⟨hPa,hOl,hOr⟩:=hOk
  have hlr:=IG q
  haveI hA:∀X:eL,At (M++(X++R)) g (Tri.cells J a l r):=λX=>⟨Mu _ (Mu _ (hR _ Fr))⟩
  have hRl:∀e∈l.AE,e∈R:=λe S=>hR e (EQ _ (Mu _ (Ha _ S)))
  have hRr:∀e∈r.AE,e∈R:=λe S=>hR e (EQ _ (Mu _ (Mu _ S)))
  have hRK:∀e∈K,e∈R:=λe S=>hR e (EQ _ (Ha _ S))
  refine enter func281 U ntmps281 U G<|J2 ?_
  refine zx U U U U U<|λB hg4=>J7 ?_
  refine zV (AI false U U underlying331 U) U<|J5 ?_
  refine WC.cut (λd:eL=>[(0,.pointer (some ⟨g,0,none⟩)),(2,.func (.func f) #[] P),(4,.pointer (some ⟨B,0,none⟩))]) (λd=>.row B p.cells::(M++(d++R))) (λd=>Inv (c++(if J=true then[(p,a)] else[])) d) ?_ ?_
  refine J1 ?_
  refine WC.AS mixed<|rF 11 [0,1,2]<|?_
  refine J4 ?_
  refine rA 3 [3,4,5,6,7,8,9,10] U<|qV (An U U i4o.h ((cellAt (cs:=Tri.cells J a l r) U))) U<|?_
  skip
  cases J
  refine J8 ?_
  refine rO 2 [11]<|J1 ?_
  skip
  refine J1 ?_
  refine rF 0 [12,13]<|J7 ?_
  exact eM X (by rw[E9 (C8),Acx];exact D)
  refine J6 ?_
  refine WQ.val (AB U U JZ.h U (AT (m:=10) U)) (.some U U U) U U<|J1 ?_
  refine rO 2 [11]<|WL.FQ U U U C (.some U U U) U U<|?_
  intro w2 E
  refine(hE c X w2 p a K (.row B p.cells::M) (by
   have h1:0<((Tri.node g true a K l r).list p).length:=(by show 0<([(p,a)]++(_++_)).length;rw[AC];exact Ain Nat.zero_lt_one (Nat.le_add_right _ _))
   omega) D q hp (hPa U) hRK E).mono ?_
  rintro e L ⟨rfl,d,v,F⟩
  refine⟨_,.row B p.cells::(M++(d++R)),rfl,F,?_⟩
  skip
  refine J1 ?_
  refine rF 0 [12,13]<|J7 ?_
  exact eM d (by rw[IR U];exact v)
  intro X0 Q
  generalize hH:(if J=true then[(p,a)] else[])=H at Q
  generalize i:(if p.len<32 then l.list (p.half 0) else[])=t
  generalize j:(if p.len<32 then r.list (p.half 1) else[])=A
  have n:(Tri.node g J a K l r).list p=H++(t++A):=(by rw[<- hH, <- i, <- j];rfl)
  refine J7 ?_
  refine WC.loop (λx:WkS=>[(26,iI x.k),(0,.pointer (some ⟨g,0,none⟩)),(2,.func (.func f) #[] P),(4,.pointer (some ⟨B,0,none⟩))]) (λx=>.row B p.cells::(M++(x.X++R))) (λx=>x.k<=2/\Inv (c++wkL H t A x.k) x.X) (λx=>2-x.k) ⟨0,X0⟩ ⟨Lv _,Q⟩ (.int U U (.cons U (.cons U (.cons U .nil)))) (.refl _) ?_
  rintro⟨k,X1⟩ ⟨hk,y⟩
  dsimp only at hk y⊢
  refine J2 ?_
  refine JT (λh27=>?_) λh27=>?_
  refine J18 ?_
  refine zk CkO U (λw E=>Half_c w p k W hp q)<|J3 ?_
  refine zy U FZ.h U U<|λg8 hg8=>J5 ?_
  refine WC.AS mixed<|rF 5 [0,1,2,3,4,5,6,7,10]<|?_
  refine J1 ?_
  refine pT (Ae U U U) U (λu=>?_) λu=>?_
  refine J5 ?_
  refine WP.val (AG (lo:=k) U U U underlying404 LH W W) (.some U U U) U U<|J2 ?_
  refine rA 3 [8,9] U<|WQ.val (An U U Hh ((cellAt (cs:=Tri.cells J a l r) (by rw[PP,Aed];exact Tri.Tv (W))))) (.some U U U) U U ?_
  refine J2 ?_
  refine rO 2 [11]<|WL.call U U CkO (.some U U U) U U<|?_
  intro w2 E
  have o:p.len<32:=(by
   by_cases hc:p.len<32
   .exact hc
   .rw [E9 hc] at u;exact absurd u C8)
  rw[IR o]
  have z:=QM (b:=k) W hp q o
  have ih:∀(X:eL) (s:Wd) (M:eL) (c:List (PfL×AtL)),c.length+((if k=0 then l else r).list (p.half k)).length<=N->Inv c X->St p0 w0 s (M++(X++R))->Cl 281 #[.pointer (if k=0 then l else r).ptr,.agg (p.half k).cells.toArray,.func (.func f) #[] P] s λe L=>e=.returned (.bool true)/\∃d,Inv (c++(if k=0 then l else r).list (p.half k)) d/\St p0 w0 L (M++(d++R)):=(by
   intro X s M c O D E
   by_cases Z:k=0
   .simp only [IR Z] at O ⊢;exact ihl _ c X M s O hOl hRl z.1 z.2 D E
   .simp only [E9 Z] at O ⊢;exact ihr _ c X M s O hOr hRr z.1 z.2 D E)
  have e1:wkL H t A k++(if k=0 then l else r).list (p.half k)=wkL H t A (k+1):=(by
   rw[IR o] at i j
   unfold wkL
   match k,(show k<2 by omega) with
   | 0,_=>rw[<- i];rfl
   | 1,_=>rw[<- j];show(H++t)++_=_;rw[Qs];rfl)
  have hwk:(wkL H t A (k+1)).length<=(H++(t++A)).length:=(by
   unfold wkL
   simp only[AC]
   split
   .omega
   .split<;>(simp only[AC];omega))
  refine(ih X1 w2 (_::.row B p.cells::M) _ (by
   have h2:=If List.length e1
   rw[AC] at h2
   rw[n] at O
   rw[AC]
   omega) y E).mono ?_
  rintro e L ⟨rfl,d,v,F⟩
  refine⟨_,_,rfl,F,?_⟩
  skip
  refine J1 ?_
  refine rF 0 [12,13]<|J13 ?_
  exact WE.next ⟨k+1,d⟩ C7 ⟨C7,by
  dsimp only
  rw[Qs] at v
  rwa [e1] at v⟩ (.int U C7 (.cons U (.cons U (.cons U .nil)))) (Adk _ _)
  refine J8 ?_
  refine rA 3 [8,9] U<|J3 ?_
  refine rO 2 [11]<|J1 ?_
  skip
  refine J1 ?_
  refine rF 0 [12,13]<|J13 ?_
  exact WE.next ⟨k+1,X1⟩ C7 ⟨C7,by
  dsimp only
  have o:¬p.len<32:=λhc=>u (by rw[IR hc])
  have e1:wkL H t A k=wkL H t A (k+1):=(by
   rw[E9 o] at i j
   subst i j
   unfold wkL
   match k,(show k<2 by omega) with
   | 0,_=>simp
   | 1,_=>simp)
  rwa [e1] at y⟩ (.int U C7 (.cons U (.cons U (.cons U .nil)))) (Adk _ _)
  refine J15 ?_
  refine eT1 ?_
  exact λL h=>⟨rfl,X1,by rw[n];have e:k=2:=W;subst e;exact y,h.tail⟩

theorem Tri.R6:∀(T:Tri) (p:PfL),0<=p.len->p.len<=32->(T.list p).length+1<=2^(33-p.len.toNat):=by
 intro T
 induction T with
 | nil=>exact λp _ _=>Nat.succ_le_of_lt (Aid _)
 | node g i a K l r ihl f =>
  intro p m n
  show((if i=true then[(p,a)] else[])++((if p.len<32 then l.list (p.half 0) else[])++(if p.len<32 then r.list (p.half 1) else[]))).length+1<=_
  rw[AC,AC]
  have o:(if i=true then[(p,a)] else[]).length<=1:=by split<;>simp
  by_cases b:p.len<32
  .rw [IR b,IR b]
   have c:(p.half 0).len=p.len+1:=rfl
   have d:(p.half 1).len=p.len+1:=rfl
   have j:=ihl (p.half 0) (by rw[c];omega) (by rw[c];omega)
   have k:=f (p.half 1) (by rw[d];omega) (by rw[d];omega)
   rw[c] at j
   rw[d] at k
   have e:33-p.len.toNat=(33-(p.len+1).toNat)+1:=W
   rw[e,Nat.pow_succ]
   omega
  .rw [E9 b,E9 b]
   have e:33-p.len.toNat=1:=W
   rw[e]
   simp only[List.length_nil]
   omega
theorem All_c(f:FuncId)(o:Array Vl)(s:FJ prog f)(q:eL->AtL->Prop)(R:eL)(i:Nat->Prop)(j:Wd)(Inv:List (PfL×AtL)->eL->Prop)(z:ZZ 8589934592 f o q R i j Inv)
 (t:Nat) (m k:Int) (T:Tri) (X M:eL) (l:Wd) (r:T.Ok q) (x:∀e∈T.all t m k,e∈R) (A:Inv [] X) (d:St i j l (M++(X++R))) :
 Cl 121 #[.pointer (some ⟨t,0,none⟩),.func (.func f) #[] o] l λe g=>e=.returned (.tuple #[])/\∃a,Inv (T.list ⟨0,0⟩) a/\St i j g (M++(a++R)):=by
 have y:∀(M:eL) (l:Wd),St i j l (M++(X++R))->Cl 207 #[.pointer (some ⟨t,0,none⟩),.agg #[.int .u32 0,iI 0],.func (.func f) #[] o] l λe g=>e=.returned (.tuple #[])/\∃a,Inv (T.list ⟨0,0⟩) a/\St i j g (M++(a++R)):=by
  intro M l d
  refine enter func207 U ntmps207 U d<|J2 ?_
  refine zx U U U U U<|λC B=>J5 ?_
  refine zV (Nr true U U underlying261 U) U<|J3 ?_
  refine WC.AS mixed<|rF 4 [0,4]<|?_
  refine J3 ?_
  refine rA 1 [1,2,3] U<|J1 ?_
  refine qC CkO U (λw n=>U0 w t m k T ⟨0,0⟩ ⟨C8,C8⟩ C8 λe u=>n.holds e (EQ _ (Mu _ (Mu _ (x e u)))))<|J2 ?_
  refine rO 0 [5]<|zK CkO U<|?_
  intro v n
  refine(walk_c _ f o s q R i j Inv z T ⟨0,0⟩ [] X (_::M) v (by have:=T.R6 ⟨0,0⟩ (C8) (C8);simp at this ⊢;omega) r (λe u=>x e (EQ _ u)) C8 ⟨C8,C8⟩ A n).mono ?_
  rintro e g ⟨rfl,a,b,c⟩
  refine⟨_,_,rfl,c,?_⟩
  refine J2 ?_
  refine WE.LC (P:=prog) (.inr U) results207  ?_
  exact λg h=>⟨rfl,a,b,h.tail⟩
 refine enter func121 U ntmps121 U d<|J4 ?_
 refine zK CkO U<|λv n=>(y M v n).mono ?_
 rintro e g ⟨rfl,a,b,c⟩
 refine⟨_,_,rfl,c,?_⟩
 refine J1 ?_
 refine WE.LC (P:=prog) (.inr U) results121  ?_
 exact λg h=>⟨rfl,a,b,h⟩
theorem Len_c(b:Wd)(t:Nat)(m k:Int)(T:Tri)(c:∀e∈T.all t m k,e.holds b):
 Cl 196 #[.pointer (some ⟨t,0,none⟩)] b (RvF (iI k) b):=by
 have a:Row b t [.pointer T.ptr,iI m,iI k]:=c _ Fr
 refine en0 func196 U ntmps196 U<|J9 ?_
 refine zV (AI false U U underlying243 U) U<|J10 ?_
 refine zV (An U U i3o.h ((BO (λh=>h) a U))) U ?_
 exact Cx
def numB:List Nat->Nat->Nat
 | [],x=>x
 | b::q,x=>numB q (2*x+b)
theorem XB:∀(q:List Nat) (b x:Nat),numB (q++[b]) x=2*numB q x+b
 | [],_,_=>rfl
 | _::q,b,_=>XB q b _
theorem Rm{p:PfL}{a:Nat}(b:p.addr=(a:Int))(h:a<2^32):∀i,i<=p.len.toNat->i<=32->numB (p.bits.take i) 0=a / 2^(32-i)
 | 0,_,_=>by rw[Nat.div_eq_of_lt h];rfl
 | i+1,f,e=>by
  rw[p.I4 W,XB,Rm b h i W W]
  have c:32-i=(32-(i+1))+1:=W
  have d:LW p.addr i=a / 2^(32-(i+1)) % 2:=by
   unfold LW
   rw[b,show 31-i=32-(i+1) by omega]
   have:((a:Int) / (2:Int)^(32-(i+1)) % 2)=((a / 2^(32-(i+1)) % 2:Nat):Int):=by
    rw[Int.natCast_emod,Int.natCast_ediv,Int.natCast_pow];rfl
   rw[this,Int.toNat_natCast]
  rw[d,c,Nat.pow_succ, <- Nat.div_div_eq_div_mul]
  omega
theorem Wv{p d:PfL}(t:U32 p.addr)(i:BP p=true)(j:U32 d.addr)(c:BP d=true)(h:p.bits=d.bits):p=d:=by
 obtain⟨n,q,l,e,f,m⟩:=OW t i
 obtain⟨u,v,s,a,b,g⟩:=OW j c
 have r:n=u:=by
  have:=If List.length h
  rw[PfL.Il,PfL.Il,e,a] at this
  simpa using this
 subst r
 have k:=Rm f m n (by rw[e];simp) l
 have o:=Rm b g n (by rw[a];simp) l
 rw[h,o,Nat.mul_div_cancel _ (Aid _),Nat.mul_div_cancel _ (Aid _)] at k
 subst k
 cases p;cases d
 dsimp only at e f a b
 rw[e,f,a,b]
theorem TH{p:PfL}(t:A<2)(s:U32 p.addr)(d:BP p=true)(u:p.len<32):(p.half A).bits=p.bits++[A]:=by
 obtain⟨n,q,v,b,f,h⟩:=OW s d
 have r:n<32:=W
 have g:2^(32-n)=2*2^(31-n):=by rw[show 32-n=(31-n)+1 by omega,Nat.pow_succ,Ais]
 have j:(p.half A).addr=(((2*q+A)*2^(31-n):Nat):Int):=by
  unfold PfL.half
  rw[b,f,g]
  dsimp only
  rw[Int.toNat_natCast, <- Int.natCast_mul, <- Int.natCast_add]
  congr 1
  rw[Agz,Ais 2 q,Nat.mul_assoc]
 have k:(p.half A).len.toNat=n+1:=by unfold PfL.half;rw[b];dsimp only;omega
 have a:∀(x i:Nat),LW (x:Int) i=x / 2^(31-i) % 2:=λx i=>by
  unfold LW
  have:((x:Int) / (2:Int)^(31-i) % 2)=((x / 2^(31-i) % 2:Nat):Int):=by
   rw[Int.natCast_emod,Int.natCast_ediv,Int.natCast_pow];rfl
  rw[this,Int.toNat_natCast]
 unfold PfL.bits
 rw[k,List.range_succ,Ai7,List.map_singleton,b,Int.toNat_natCast]
 congr 1
 .refine List.map_congr_left λi m=>?_
  have o:=Aij.1 m
  rw[j,f,a,a,g]
  have l:31-i=(31-n)+((n-1-i)+1):=W
  have e:∀c:Nat,c*2^(31-n) / 2^(31-i)=c / 2 / 2^(n-1-i):=λc=>by
   rw[l,Nat.pow_add, <- Nat.div_div_eq_div_mul,Nat.mul_div_cancel _ (Aid _),Nat.pow_succ,Ais (2^(n-1-i)) 2, <- Nat.div_div_eq_div_mul]
  rw[e,show q*(2*2^(31-n))=(2*q)*2^(31-n) by rw[Ais 2 q,Nat.mul_assoc],e,show(2*q+A) / 2=2*q / 2 by omega]
 .rw [j,a,Nat.mul_div_cancel _ (Aid _)]
  congr 1
  omega
theorem Tri.TV:∀(T:Tri) (p:PfL),BP p=true->U32 p.addr->∀(d:PfL) (a:AtL),(d,a)∈T.list p<->BP d=true/\U32 d.addr/\∃s,d.bits=p.bits++s/\T.get s=some a:=by
 intro T
 induction T with
 | nil=>exact λp _ _ d a=>⟨λh=>Da,λ⟨_,_,s,_,h⟩=>(by rw[Tri.OP] at h;cases h)⟩
 | node g o x K l r ihl w =>
  intro p i t d a
  have m:∀(b:Nat) (c:Tri),b<2->(∀(p:PfL),BP p=true->U32 p.addr->∀(d:PfL) (a:AtL),(d,a)∈c.list p<->BP d=true/\U32 d.addr/\∃s,d.bits=p.bits++s/\c.get s=some a) ->
   ((d,a)∈(if p.len<32 then c.list (p.half b) else[])<->BP d=true/\U32 d.addr/\∃s,d.bits=p.bits++b::s/\c.get s=some a):=by
   intro b c u z
   by_cases q:p.len<32
   .rw [IR q]
    have y:=QM u t i q
    rw[z _ y.1 y.2,TH u t i q]
    simp only[Qs,List.singleton_append]
   .rw [E9 q]
    refine⟨λh=>Da,λ⟨j,k,s,f,_⟩=>?_⟩
    have e:=If List.length f
    have A:=IG j
    have B:=IG i
    rw[AC,PfL.Il,PfL.Il,Acg] at e
    omega
  have v:∀(b:Nat) (s:List Nat),(Tri.node g o x K l r).get (b::s)=if b=0 then l.get s else r.get s:=λb s=>by
   rw[Tri.EM]
   simp only[Tri.sub]
   split<;>rw[Tri.EM]
  show(d,a)∈(if o=true then[(p,x)] else[])++(_++_)<->_
  rw[LI,LI,m 0 l C8 ihl,m 1 r C8 w]
  constructor
  .rintro (h|⟨j,k,s,f,e⟩|⟨j,k,s,f,e⟩)
   .cases o with
    | false=>cases h
    | true =>
     rw[IR U,Es] at h
     cases h
     exact⟨i,t,[],C9,rfl⟩
   .exact ⟨j,k,_,f,by rw[v,IR U];exact e⟩
   .exact ⟨j,k,_,f,by rw[v,E9 C8];exact e⟩
  .rintro ⟨j,k,s,f,e⟩
   cases s with
   | nil =>
    refine .inl ?_
    rw[Acx] at f
    obtain rfl:=Wv k j t i f
    cases o with
    | false=>cases e
    | true=>cases e;exact Es.2 rfl
   | cons b s =>
    have u:b<2:=d.Ma b (by rw[f];exact Mu _ Fr)
    rw[v] at e
    by_cases n:b=0
    .subst n;rw[IR rfl] at e;exact .inr (.inl ⟨j,k,s,f,e⟩)
    .obtain rfl:b=1:=W
     rw[E9 n] at e;exact .inr (.inr ⟨j,k,s,f,e⟩)
theorem Tri.KG(T:Tri)(b:PfL)(a:AtL):(b,a)∈T.list ⟨0,0⟩<->BP b=true/\U32 b.addr/\T.get b.bits=some a:=by
 rw[T.TV ⟨0,0⟩ C8 ⟨C8,C8⟩]
 refine⟨λ⟨c,d,s,e,f⟩=>⟨c,d,by rw[e];exact f⟩,λ⟨c,d,e⟩=>⟨c,d,_,rfl,e⟩⟩

def G1(K:eL)(a:AtL):Prop:=AtK K a/\a.Zs
structure Rib where
 r:Nat
 t:Nat
 peer:Int
 own:Int
 most:Int
 m:Int
 k:Int
 T:Tri
def Rib.row(b:Rib):Ent:=.row b.r [iI b.peer,iI b.own,iI b.most,pG b.t]
def Rib.AE(b:Rib):eL:=b.row::b.T.all b.t b.m b.k
theorem Tri.Aei(h:C.get G=some F):∃g K l r,C.sub G=.node g true F K l r:=by
 rw[Tri.EM] at h
 cases e:C.sub G with
 | nil=>rw[e] at h;cases h
 | node g a b K l r =>
  rw[e] at h
  cases a with
  | false=>cases h
  | true=>cases h;exact⟨g,K,l,r,rfl⟩
theorem Tri.got{P:eL->AtL->Prop}(b:C.Ok P){q:List Nat}{a:AtL}(h:C.get q=some a):∃K,P K a/\∀e∈K,e∈C.AE:=by
 obtain⟨g,K,l,r,d⟩:=Tri.Aei h
 have c:=Tri.Ok.sub (q:=q) b
 rw[d] at c
 exact⟨K,c.1 U,λe f=>C.mem q g true a K l r d e (EQ _ (Ha _ f))⟩
structure RtL where
 peer:Int
 net:PfL
 a:AtL
def RtL.cells(x:RtL):vL:=iI x.peer::(x.net.cells++x.a.cells)
theorem RtL.BK(x:RtL):x.cells.length=13:=rfl
theorem RtL.one(x:RtL):∀v∈x.cells,v.oneCell'=true:=λv a=>by
 unfold RtL.cells PfL.cells AtL.cells at a
 simp only[Rl,AbT,Aec,List.not_mem_nil,or_false] at a
 rcases a with h|h|h|h|h|h|h|h|h|h|h|h|h<;>(subst h;rfl)
theorem AtL.BK(a:AtL):a.cells.length=10:=rfl
theorem AgB(a:Wd)(t:Nat)(m k:Int)(T:Tri)(p:PfL)(h:U32 p.addr)(b:BP p=true)(f:∀e∈T.all t m k,e.holds a)(g:T.get p.bits=none):
 Cl 197 #[pG t,aA p.cells] a λe c=>e=.returned (.tuple #[aA AtL.zero.cells,.bool false])/\Frm Fx a c :=
 (UC a t m k T p h b f).mono (by rintro e c ⟨rfl,d⟩;exact⟨by rw[g];rfl,d⟩)
theorem AgC(b:Wd)(t:Nat)(m k:Int)(T:Tri)(p:PfL)(a:AtL)(i:U32 p.addr)(c:BP p=true)(g:∀e∈T.all t m k,e.holds b)(h:T.get p.bits=some a):
 Cl 197 #[pG t,aA p.cells] b λe d=>e=.returned (.tuple #[aA a.cells,.bool true])/\Frm Fx b d :=
 (UC b t m k T p i c g).mono (by rintro e d ⟨rfl,f⟩;exact⟨by rw[h];rfl,f⟩)
def RGetP(b:Rib)(p:PfL)(f:Wd)(e:Ending)(d:Wd):Prop :=
 (b.T.get p.bits=none/\e=.returned (.tuple #[.agg (RtL.cells ⟨0,⟨0,0⟩,.zero⟩).toArray,.bool false])/\Frm Fx f d) \/
 ∃(a c:AtL) (K:eL),b.T.get p.bits=some a/\c.say=a.say/\G1 K c/\e=.returned (.tuple #[.agg (RtL.cells ⟨b.peer,p,c⟩).toArray,.bool true])/\St Fx f d K
theorem UD(h:F.say=H.say)(c:H.Zs):F.Zs:=by
 unfold AtL.say at h
 rw[Kf.mk.injEq] at h
 obtain⟨_,_,i,_,_,_,_,_,k,b⟩:=h
 have j:=If List.length i
 have d:=If List.length b
 rw[Ri,Ri] at j d
 refine⟨by rw[j];exact c.path,by rw[k];exact c.comms,by rw[d];exact c.oths,λs m=>?_,λo l=>?_⟩
 .have g:s.say∈H.path.map BR.say:=by rw[<- i];exact Ab5 m
  obtain⟨f,a,e⟩:=Ab8.1 g
  have:f.asl=s.asl:=If Prod.snd e
  rw[<- this];exact c.LX f a
 .have g:o.say∈H.others.map CS.say:=by rw[<- b];exact Ab5 l
  obtain⟨f,a,e⟩:=Ab8.1 g
  have:f.val=o.val:=If Prod.snd e
  rw[<- this];exact c.vals f a
theorem RGet_c(j:Wd)(b:Rib)(p:PfL)(F:U32 p.addr)(n:BP p=true)(v:b.T.Ok G1)(E:∀e∈b.AE,e.holds j):
 Cl 154 #[pG b.r,aA p.cells] j (RGetP b p j):=by
 have d:Row j b.r [iI b.peer,iI b.own,iI b.most,pG b.t]:=E _ Fr
 have c:∀e∈b.T.all b.t b.m b.k,e.holds j:=λe y=>E e (EQ _ y)
 cases l:b.T.get p.bits with
 | none =>
  refine en0 func154 U ntmps154 U<|J2 ?_
  refine zx U U U U U<|λC z=>zy U GK.h U U<|λN A=>J7 ?_
  refine zV (AI false U U underlying149 U) U<|J6 ?_
  refine WC.AS mixed<|rF 9 [0,1,2]<|?_
  refine J4 ?_
  refine WR.mix (g:=2) 9 [3,4,5,6,7] [8] U HR U U U C6 C6<|zm (An U U Qa.h ((BO (λh=>h) d U))) U<|zm (AB U U DD.h U AL) U<|WM.call _ U U CkO (.none U) U U (λw i=>(AgB w b.t b.m b.k b.T p F n (JP c i) l))<|zm (DG U U) U<|zm (CB U U U) U<|WM.nil<|?_
  refine J1 ?_
  refine WP.NU<|λD B=>rO 1 [10]<|J2 ?_
  refine rF 0 [11]<|J21 ?_
  refine eT2 ?_
  exact λG h=>.inl ⟨l,rfl,h.frm⟩
 | some a =>
  obtain⟨K,q,u⟩:=b.T.got v l
  have s:∀e∈K,e.holds j:=λe y=>c e (EQ _ (u e y))
  refine en0 func154 U ntmps154 U<|J2 ?_
  refine zx U U U U U<|λC z=>zy U GK.h U U<|λN A=>J7 ?_
  refine zV (AI false U U underlying149 U) U<|J6 ?_
  refine WC.AS mixed<|rF 9 [0,1,2]<|?_
  refine J4 ?_
  refine WR.mix (g:=2) 9 [3,4,5,6,7] [8] U HR U U U C6 C6<|zm (An U U Qa.h ((BO (λh=>h) d U))) U<|zm (AB U U DD.h U AL) U<|WM.call _ U U CkO (.none U) U U (λw i=>(AgC w b.t b.m b.k b.T p a F n (JP c i) l))<|zm (DG U U) U<|zm (CB U U U) U<|WM.nil<|?_
  refine J1 ?_
  refine WP.NU<|λD B=>rO 1 [10]<|J2 ?_
  refine rF 0 [11]<|J15 ?_
  refine WC.held ([.row D a.cells,.row C p.cells]) mixed<|WRH.first (g:=4) [0,1,2,3,4,5] C6 C6 kp<|J3 ?_
  refine zj (An U U i3o.h ((BO (λh=>h) d U))) U<|J2 ?_
  refine WH.nil<|WRH.one (g:=3) 6 C6<|zK CkO U<|λH i=>(I2 H a (q.1 H (JP s i)) q.2).mono ?_
  rintro e G ⟨M,J,L,rfl,f,O,o,x⟩
  refine⟨_,_,rfl,i.join x,?_⟩
  refine WL.BL kp<|WRH.first (g:=2) [7] C6 C6 kp<|J1 ?_
  refine WH.nil<|WRH.one (g:=1) 8 C6<|J1 ?_
  refine WL.BL kp<|WRH.first (g:=0) [9] C6 C6 kp<|J1 ?_
  refine WH.nil<|WRH.done C6<|J2 ?_
  refine eT2 ?_
  exact λG h=>.inr ⟨a,M,J++L,l,f,⟨o,UD f q.2⟩,rfl,h.sub (Acy _ _)⟩

theorem UG(x:Int):bits .and .i64 x 1=x % 2:=by
 show IntKind.i64.wrap ((BitVec.ofInt 64 x &&& BitVec.ofInt 64 1).toNat:Int)=_
 rw[BitVec.toNat_and,BitVec.toNat_ofInt,show(BitVec.ofInt 64 1).toNat=2^1-1 by decide,Nat.and_two_pow_sub_one_eq_mod,IntKind.wrap_i64]
 omega
def hasB(a:Int)(k:Nat):Bool:=decide (1<=k/\k<=8/\a / 2^k % 2=1)
def wiB(n a:Int):Bool:=decide (0<=n/\n<=a)
def hopB(a:Int):Bool:=decide (a / 16777216≠0/\a / 16777216≠127/\a / 16777216<224)
def XN(s:BR):Bool:=decide (1<=s.asl.length/\s.asl.length<=255) && s.asl.all λx=>decide (1<=x/\x<=65535)
def Rx(a:List Int):Bool:=(a.all λx=>wiB x 4294967295) && decide (a.length<=256)
theorem TM(w:Wd)(t:Int):Cl 158 #[iI t] w (RvF (.bool (decide (1<=t/\t<=8))) w):=by
 refine en0 func158 U ntmps158 U<|J8 ?_
 refine JT (λb=>?_) λb=>?_
 refine J2 ?_
 refine JT (λc=>?_) λc=>?_
 refine J5 ?_
 refine eT1 ?_
 exact λa h=>⟨by rw[UV W],h.frm⟩
 refine J5 ?_
 refine eT1 ?_
 exact λa h=>⟨by rw[Ro W],h.frm⟩
 refine J8 ?_
 refine eT1 ?_
 exact λa h=>⟨by rw[Ro W],h.frm⟩
theorem YU(w:Wd)(t:Int)(h:1<=t/\t<=8):Cl 158 #[iI t] w λe a=>e=.returned (.bool true)/\Frm Fx w a :=
 (TM w t).mono (by rintro e a ⟨rfl,b⟩;exact⟨by rw[UV h],b⟩)
theorem YT(w:Wd)(t:Int)(h:¬(1<=t/\t<=8)):Cl 158 #[iI t] w λe a=>e=.returned (.bool false)/\Frm Fx w a :=
 (TM w t).mono (by rintro e a ⟨rfl,b⟩;exact⟨by rw[Ro h],b⟩)
theorem Is_c(w:Wd)(a:AtL)(k:Nat)(hk:k<=60):Cl 83 #[aA a.cells,iI k] w (RvF (.bool (hasB a.has k)) w):=by
 by_cases g:1<=k/\k<=8
 .refine en0 func83 U ntmps83 U<|J2 ?_
  refine zx U U U U U<|λe d=>J6 ?_
  refine zk CkO U (λw f=>YU w k W)<|J4 ?_
  refine zS ((IP (m:=k) (c:=(2:Int)^k) U U U U F4 U)) U ?_
  refine zS (HX U U U (UG _)) U<|JT (λb=>?_) (λb=>?_)
  refine J5 ?_
  refine eT1 ?_
  exact λw' h=>⟨by unfold hasB;rw[UV W],h.frm⟩
  refine J5 ?_
  exact Ck
 .refine en0 func83 U ntmps83 U<|J2 ?_
  refine zx U U U U U<|λe d=>J6 ?_
  refine zk CkO U (λw f=>YT w k W)<|J12 ?_
  exact Ck
theorem Ke(w:Wd)(n a:Int):Cl 159 #[iI n,iI a] w (RvF (.bool (wiB n a)) w):=by
 refine en0 func159 U ntmps159 U<|J8 ?_
 refine JT (λc=>?_) λc=>?_
 refine J3 ?_
 refine JT (λb=>?_) λb=>?_
 refine J5 ?_
 refine eT1 ?_
 exact λw' h=>⟨by unfold wiB;rw[UV W],h.frm⟩
 refine J5 ?_
 exact Cn
 refine J9 ?_
 exact Cn
theorem Ab9(w:Wd)(a:Int):Cl 161 #[.int .u32 a] w (RvF (.bool (hopB a)) w):=by
 refine en0 func161 U ntmps161 U<|J8 ?_
 refine zV (IP (m:=24) (c:=16777216) U U U U C8 C8) U<|J6 ?_
 refine JT (λe=>?_) λe=>?_
 refine J2 ?_
 refine JT (λb=>?_) λb=>?_
 refine J3 ?_
 refine JT (λd=>?_) λd=>?_
 refine J5 ?_
 refine eT1 ?_
 exact λw' h=>⟨by unfold hopB;rw[UV W],h.frm⟩
 refine J5 ?_
 exact Bk
 refine J9 ?_
 exact Bk
 refine J12 ?_
 exact Bk

theorem YA{c:Type}{p:c->Bool}{a:List c}(h:∀j x,j<a.length->a[j]?=some x->p x=true):a.all p=true:=Acw.2 λx d=>by
 obtain⟨j,b,e⟩:=List.getElem_of_mem d
 exact h j x b (by rw[FS b,e])
theorem OQ{a:Type}{p:a->Bool}{xs:List a}{j:Nat}{x:a}(h:xs[j]?=some x)(b:p x=false):xs.all p=false:=by
 cases e:xs.all p with
 | false=>rfl
 | true=>exact absurd (Acw.1 e x (Do h)) (by rw[b];decide)
theorem YQ(w:Wd)(ad:Option Addr)(c:Nat)(a:List BR)(F:BH w ad 2 BR.cells a)(D:∀s∈a,AQ w s.ad (CN s.asl))(N:a.length<=9223372036854775807)(E:∀s∈a,s.asl.length<=9223372036854775807/\∀x∈s.asl,I64 x):
 Cl 160 #[.slice ad a.length c] w (RvF (.bool (a.all XN)) w):=by
 refine en0 func160 U ntmps160 U<|J14 ?_
 refine oLp (λk:Nat=>[(9,iI k),(8,iI a.length),(7,.slice ad a.length c)]) (λ_=>[]) (λk=>k<=a.length/\∀j x,j<k->a[j]?=some x->XN x=true) (λk=>a.length-k) 0 ⟨Lv _,λj _ h=>absurd h W⟩ ?_
 rintro k ⟨hk,d⟩
 refine J2 ?_
 refine JT (λn=>?_) λn=>?_
 refine J10 ?_
 obtain⟨s,hs⟩:∃s,a[k]?=some s:=Gx
 obtain⟨b,o,ea,H⟩:=F k s hs
 have l:=Do hs
 have J:=E s l
 refine zV ((AA (b:=b) (off:=o) (lo:=k) U Dk U underlying33 Ia U W)) U ?_
 refine zV ((AB (cs:=s.cells) U U W2.h U (DP (λh=>h) H))) U<|zy U KV U U<|?_
 intro L G
 refine J9 ?_
 refine JT (λq=>?_) λq=>?_
 refine J21 ?_
 exact B1
 refine J4 ?_
 refine JT (λr=>?_) λr=>?_
 refine J16 ?_
 exact B1
 refine J15 ?_
 refine oLp (λi:Nat=>[(26,iI i),(25,iI s.asl.length),(24,.slice s.ad s.asl.length s.cap),(9,iI k),(8,iI a.length),(7,.slice ad a.length c)]) (λ_=>[]) (λi=>i<=s.asl.length/\∀j x,j<i->s.asl[j]?=some x->decide (1<=x/\x<=65535)=true) (λi=>s.asl.length-i) 0 ⟨Lv _,λj _ h=>absurd h W⟩ ?_
 rintro i ⟨M,g⟩
 refine J2 ?_
 refine JT (λt=>?_) λt=>?_
 refine J10 ?_
 obtain⟨x,hx⟩:∃x,s.asl[i]?=some x:=Gx
 obtain⟨C,K,m,B⟩:=D s l Fg
 refine zV ((AA (b:=C) (off:=K) (lo:=i) U (by show some (Value.slice s.ad _ _)=_;rw[m]) U underlying34 AZ U W)) U ?_
 refine zV (An U U i3o.h (BY (v:=iI x) (λh=>h) (by rw[Aed];exact B i _ (Ip hx)))) U ?_
 refine J6 ?_
 refine JT (λu=>?_) λu=>?_
 refine J22 ?_
 exact Bt
 refine J2 ?_
 refine JT (λz=>?_) λz=>?_
 refine J19 ?_
 exact Bt
 refine J11 ?_
 exact eW (i+1) W ⟨W,λj y A f=>by
 by_cases e:j=i
 .subst e;rw[hx] at f;obtain rfl:=Ade f;exact UV ⟨W,W⟩
 .exact g j y W f⟩
 refine J14 ?_
 exact eW (k+1) W ⟨W,λj y A f=>by
 by_cases e:j=k
 .subst e;rw[hs] at f;obtain rfl:=Ade f
  unfold XN
  rw[UV ⟨W,W⟩,Bool.true_and]
  exact YA λj x A hx=>g j x W hx
 .exact d j y W f⟩
 refine J15 ?_
 refine eT1 ?_
 exact λw' h=>⟨by rw[YA λj x A hx=>d j x W hx],h.frm⟩
theorem WZ(w:Wd)(ad:Option Addr)(c:Nat)(a:List Int)(r:AQ w ad (CN a))(z:a.length<=9223372036854775807)(_:∀x∈a,I64 x):
 Cl 162 #[.slice ad a.length c] w (RvF (.bool (Rx a)) w):=by
 refine en0 func162 U ntmps162 U<|J14 ?_
 refine oLp (λk:Nat=>[(7,iI k),(6,iI a.length),(5,.slice ad a.length c),(0,.slice ad a.length c)]) (λ_=>[]) (λk=>k<=a.length/\∀j x,j<k->a[j]?=some x->wiB x 4294967295=true) (λk=>a.length-k) 0 ⟨Lv _,λj _ h=>absurd h W⟩ ?_
 rintro k ⟨hk,d⟩
 refine J2 ?_
 refine JT (λq=>?_) λq=>?_
 refine J10 ?_
 obtain⟨x,f⟩:∃x,a[k]?=some x:=Gx
 obtain⟨b,o,ea,t⟩:=r Fg
 refine zV ((AA (b:=b) (off:=o) (lo:=k) U Dk U underlying34 AZ U W)) U ?_
 refine zV (An U U i3o.h (BY (v:=iI x) (λh=>h) (by rw[Aed];exact t k _ (Ip f)))) U ?_
 refine J6 ?_
 refine zk CkO U (λw u=>Ke w x 4294967295) ?_
 generalize l:wiB x 4294967295=n
 cases n
 refine J15 ?_
 refine eT1 ?_
 exact λm h=>⟨by unfold Rx;rw[OQ f l,Bool.false_and],h.frm⟩
 refine J11 ?_
 exact eW (k+1) W ⟨W,λj y s i=>by
 by_cases e:j=k
 .subst e;rw[f] at i;obtain rfl:=Ade i;exact l
 .exact d j y W i⟩
 refine J13 ?_
 refine JT (λg=>?_) λg=>?_
 refine J4 ?_
 refine eT1 ?_
 exact λm h=>⟨by unfold Rx;rw[YA λj x s f=>d j x W f,UV W];rfl,h.frm⟩
 refine J4 ?_
 refine eT1 ?_
 exact λm h=>⟨by unfold Rx;rw[Ro W,Bool.and_false],h.frm⟩

def LQ(a:AtL)(k:Nat):Bool :=
 if k=1 then wiB a.origin 2 else if k=2 then a.path.all XN else if k=3 then hopB a.hop else if k=4 then wiB a.med 4294967295
 else if k=5 then wiB a.loc 4294967295 else if k=7 then wiB a.aas 65535 else if k=8 then Rx a.comms else true
def KS(a:AtL)(k:Nat):Bool :=
 if k=1 then decide (a.origin=0) else if k=2 then decide ((a.path.length:Int)=0) else if k=3 then decide (a.hop=0) else if k=4 then decide (a.med=0)
 else if k=5 then decide (a.loc=0) else if k=7 then decide (a.aas=0/\a.aid=0) else if k=8 then decide ((a.comms.length:Int)=0) else true
theorem good_g(w:Wd)(a:AtL)(k:Nat)(m:BH w a.pad 2 BR.cells a.path/\(∀s∈a.path,AQ w s.ad (CN s.asl))/\AQ w a.cad (CN a.comms))(d:(∀s∈a.path,s.asl.length<=9223372036854775807/\∀x∈s.asl,I64 x)/\(∀x∈a.comms,I64 x)/\a.path.length<=9223372036854775807/\a.comms.length<=9223372036854775807):Cl 84 #[aA a.cells,iI k] w (RvF (.bool (LQ a k)) w):=by
 refine en0 func84 U ntmps84 U<|J2 ?_
 refine zx U U U U U<|λr o=>J12 ?_
 refine JT (λn=>?_) λn=>?_
 refine J8 ?_
 refine zk CkO U (λw b=>Ke w a.origin 2)<|J6 ?_
 refine eT1 ?_
 exact λc h=>⟨by unfold LQ;rw[IR W],h.frm⟩
 refine J6 ?_
 refine JT (λe=>?_) λe=>?_
 refine J8 ?_
 refine zk CkO U (λw b=>YQ w a.pad a.pc a.path (m.1.frm (b.rng λ_ h=>h)) (λs q=>(m.2.1 s q).frm (b.rng λ_ h=>h)) d.2.2.1 d.1)<|J6 ?_
 refine eT1 ?_
 exact λc h=>⟨by unfold LQ;rw[E9 W,IR W],h.frm⟩
 refine J6 ?_
 refine JT (λf=>?_) λf=>?_
 refine J8 ?_
 refine zk CkO U (λw b=>Ab9 w a.hop)<|J6 ?_
 refine eT1 ?_
 exact λc h=>⟨by unfold LQ;rw[E9 W,E9 W,IR W],h.frm⟩
 refine J6 ?_
 refine JT (λg=>?_) λg=>?_
 refine J8 ?_
 refine zk CkO U (λw b=>Ke w a.med 4294967295)<|J6 ?_
 refine eT1 ?_
 exact λc h=>⟨by unfold LQ;rw[E9 W,E9 W,E9 W,IR W],h.frm⟩
 refine J6 ?_
 refine JT (λi=>?_) λi=>?_
 refine J8 ?_
 refine zk CkO U (λw b=>Ke w a.loc 4294967295)<|J6 ?_
 refine eT1 ?_
 exact λc h=>⟨by unfold LQ;rw[E9 W,E9 W,E9 W,E9 W,IR W],h.frm⟩
 refine J6 ?_
 refine JT (λj=>?_) λj=>?_
 refine J8 ?_
 refine zk CkO U (λw b=>Ke w a.aas 65535)<|J6 ?_
 refine eT1 ?_
 exact λc h=>⟨by unfold LQ;rw[E9 W,E9 W,E9 W,E9 W,E9 W,IR W],h.frm⟩
 refine J6 ?_
 refine JT (λl=>?_) λl=>?_
 refine J8 ?_
 refine zk CkO U (λw b=>WZ w a.cad a.cc a.comms (m.2.2.frm (b.rng λ_ h=>h)) d.2.2.2 d.2.1)<|J6 ?_
 refine eT1 ?_
 exact λc h=>⟨by unfold LQ;rw[E9 W,E9 W,E9 W,E9 W,E9 W,E9 W,IR W],h.frm⟩
 refine J13 ?_
 refine eT1 ?_
 exact λc h=>⟨by unfold LQ;rw[E9 W,E9 W,E9 W,E9 W,E9 W,E9 W,E9 W],h.frm⟩
theorem good_c(w:Wd)(a:AtL)(k:Nat)(c:a.At w)(b:a.In):Cl 84 #[aA a.cells,iI k] w λe d=>e=.returned (.bool (LQ a k))/\Frm Fx w d :=
 good_g w a k ⟨c.path,c.LX,c.comms⟩ ⟨b.LX,b.comms,b.lens.1,b.lens.2.1⟩
theorem zero_c(w:Wd)(a:AtL)(k:Nat):Cl 85 #[aA a.cells,iI k] w (RvF (.bool (KS a k)) w):=by
 refine en0 func85 U ntmps85 U<|J2 ?_
 refine zx U U U U U<|λq o=>J12 ?_
 refine JT (λn=>?_) λn=>?_
 refine J8 ?_
 refine zV (Ae U U U) U<|J6 ?_
 refine eT1 ?_
 exact λb h=>⟨by unfold KS;rw[IR W],h.frm⟩
 refine J6 ?_
 refine JT (λf=>?_) λf=>?_
 refine J9 ?_
 refine zV (Ae U U U) U<|J6 ?_
 refine eT1 ?_
 exact λb h=>⟨by unfold KS;rw[E9 W,IR W],h.frm⟩
 refine J6 ?_
 refine JT (λg=>?_) λg=>?_
 refine J8 ?_
 refine zV (Ae U U U) U<|J6 ?_
 refine eT1 ?_
 exact λb h=>⟨by unfold KS;rw[E9 W,E9 W,IR W],h.frm⟩
 refine J6 ?_
 refine JT (λi=>?_) λi=>?_
 refine J8 ?_
 refine zV (Ae U U U) U<|J6 ?_
 refine eT1 ?_
 exact λb h=>⟨by unfold KS;rw[E9 W,E9 W,E9 W,IR W],h.frm⟩
 refine J6 ?_
 refine JT (λj=>?_) λj=>?_
 refine J8 ?_
 refine zV (Ae U U U) U<|J6 ?_
 refine eT1 ?_
 exact λb h=>⟨by unfold KS;rw[E9 W,E9 W,E9 W,E9 W,IR W],h.frm⟩
 refine J6 ?_
 refine JT (λl=>?_) λl=>?_
 refine J8 ?_
 refine JT (λc=>?_) λc=>?_
 refine J3 ?_
 refine JT (λd=>?_) λd=>?_
 refine J7 ?_
 refine eT1 ?_
 exact λb h=>⟨by unfold KS;rw[E9 W,E9 W,E9 W,E9 W,E9 W,IR W,UV ⟨c,d⟩],h.frm⟩
 refine J7 ?_
 refine eT1 ?_
 exact λb h=>⟨by unfold KS;rw[E9 W,E9 W,E9 W,E9 W,E9 W,IR W,Ro λe=>d e.2],h.frm⟩
 refine J11 ?_
 refine eT1 ?_
 exact λb h=>⟨by unfold KS;rw[E9 W,E9 W,E9 W,E9 W,E9 W,IR W,Ro λe=>c e.1],h.frm⟩
 refine J6 ?_
 refine JT (λm=>?_) λm=>?_
 refine J9 ?_
 refine zV (Ae U U U) U<|J6 ?_
 refine eT1 ?_
 exact λb h=>⟨by unfold KS;rw[E9 W,E9 W,E9 W,E9 W,E9 W,E9 W,IR W],h.frm⟩
 refine J13 ?_
 refine eT1 ?_
 exact λb h=>⟨by unfold KS;rw[E9 W,E9 W,E9 W,E9 W,E9 W,E9 W,E9 W],h.frm⟩

theorem cellOf{p:Nat->Prop}{a:Wd}{L:eL}{k:Nat}{v:Vl}(b:¬p A)(c:a.rangeAt A B D)(d:D[k]?=some v):∀w,St p a w L->w.cell? ⟨A,B+k*1,none⟩=some v:=by
 rw[Aed]
 exact BY b (c k v d)
theorem AcW(n:Wd)(f:Option Addr)(c:Nat)(a:List Int)(v:Int)(t:AQ n f (CN a))(z:a.length<=1000000):
 Cl 315 #[.slice f a.length c,iI v] n λe m=>∃r:Int,e=.returned (iI r)/\(0<=r<->v∈a)/\Frm Fx n m:=by
 refine en0 func315 U ntmps315 U<|J14 ?_
 refine oLp (λk:Nat=>[(8,iI k),(7,iI a.length),(0,.slice f a.length c),(1,iI v)]) (λ_=>[]) (λk=>k<=a.length/\∀j x,j<k->a[j]?=some x->v≠x) (λk=>a.length-k) 0 ⟨Lv _,λj x h=>absurd h (Ac5 _)⟩ ?_
 rintro k ⟨hk,d⟩
 refine J2 ?_
 refine JT (λq=>?_) λq=>?_
 refine J10 ?_
 obtain⟨x,i⟩:∃x,a[k]?=some x:=Gx
 obtain⟨w,A,rfl,u⟩:=t Fg
 refine J9 ?_
 refine zV (AA (lo:=k) U U U underlying34 AZ W W) U<|zV (An U U i3o.h ((cellOf (λh=>h) u (Ip i)))) U<|JT (λb=>?_) (λb=>?_)
 refine J15 ?_
 refine eT1 ?_
 exact λm h=>⟨_,rfl,⟨λ_=>by rw[b];exact Do i,λ_=>by omega⟩,h.frm⟩
 refine J10 ?_
 exact eW (k+1) W ⟨W,λj y o l=>by
 by_cases g:j=k
 .subst g;rw[i] at l;cases l;exact b
 .exact d j y W l⟩
 refine J15 ?_
 refine eT1 ?_
 exact λm h=>⟨_,rfl,⟨λh=>absurd h C8,λs=>by
 obtain⟨j,o,e⟩:=List.mem_iff_getElem.1 s
 exact absurd e.symm (d j _ W (FS o))⟩,h.frm⟩
theorem ZY(g:Wd)(d:Option Addr)(c:Nat)(b:List Int)(v:Int)(n:AQ g d (CN b))(m:b.length<=1000000):
 Cl 238 #[.slice d b.length c,iI v] g (RvF (.bool (decide (v∈b))) g):=by
 refine en0 func238 U ntmps238 U<|J9 ?_
 refine zK CkO U<|λo i=>(AcW o d c b v (n.frm (i.rng λ_ h=>h)) m).mono ?_
 rintro e j ⟨r,rfl,a,k⟩
 refine⟨_,_,rfl,i.ext k,?_⟩
 refine JT (λf=>?_) λf=>?_
 refine J4 ?_
 refine eT1 ?_
 exact λj h=>⟨by rw[UV (a.1 f)],h.frm⟩
 refine J4 ?_
 refine eT1 ?_
 exact λj h=>⟨by rw[Ro λl=>f (a.2 l)],h.frm⟩
def NA(a:AtL)(v:Int):Bool:=decide (∃s∈a.path,v∈s.asl)
theorem AbK(a:Wd)(g:Nat)(s:BR)(v:Int)(f:a.cell? ⟨g,0,none⟩=some (iI v))(e:AQ a s.ad (CN s.asl))(d:s.asl.length<=1000000):
 Cl 267 #[aA s.cells,pG g] a (RvF (.bool (decide (v∈s.asl))) a):=by
 refine en0 func267 U ntmps267 U<|J2 ?_
 refine zx U U U U U<|λi c=>J7 ?_
 refine zV (An U U i3o.h ((BY (λh=>h) f))) U<|zk CkO U (λw b=>ZY w s.ad s.cap s.asl v (e.frm (b.rng λ_ h=>h)) d)<|?_
 exact Cx
theorem V5(i:Wd)(a:AtL)(g:Nat)(v:Int)(o:i.cell? ⟨g,0,none⟩=some (iI v))(z:a.At i)(B:a.Zs):
 Cl 329 #[.slice a.pad a.path.length a.pc,.func (.func 267) #[] #[pG g]] i λe u=>∃r:Int,e=.returned (iI r)/\(0<=r<->∃s∈a.path,v∈s.asl)/\Frm Fx i u:=by
 have F:=B.path
 refine en0 func329 U ntmps329 U<|J14 ?_
 refine oLp (λk:Nat=>[(8,iI k),(7,iI a.path.length),(0,.slice a.pad a.path.length a.pc),(1,.func (.func 267) #[] #[pG g])]) (λ_=>[]) (λk=>k<=a.path.length/\∀j s,j<k->a.path[j]?=some s->v ∉ s.asl) (λk=>a.path.length-k) 0 ⟨Lv _,λj x h=>absurd h (Ac5 _)⟩ ?_
 rintro k ⟨hk,f⟩
 refine J2 ?_
 refine JT (λD=>?_) λD=>?_
 refine J10 ?_
 obtain⟨s,q⟩:∃x,a.path[k]?=some x:=Gx
 obtain⟨C,G,ea,H⟩:=z.path k s q
 have d:=Do q
 refine J9 ?_
 refine zV ((AA (b:=C) (off:=G) (lo:=k) U D0 U underlying33 Ia U W)) U ?_
 refine zV (AB (cs:=s.cells) U U W2.h U (DP (λh=>h) H)) U<|WL.FQ U U U CkO (.none U) U U<|?_
 intro w m
 refine Calls.then (AbK w g s v (m.old (λh=>h) o) ((z.frm (m.rng λ_ h=>h)).LX s d) (B.LX s d)) m ?_
 generalize c:decide (v∈s.asl)=l
 cases l
 refine J10 ?_
 exact eW (k+1) W ⟨W,λj y A t=>by
 by_cases n:j=k
 .subst n;rw[q] at t;cases t;exact Aep c
 .exact f j y W t⟩
 refine J15 ?_
 refine eT1 ?_
 exact λu h=>⟨_,rfl,⟨λ_=>⟨s,d,Ai8 c⟩,λ_=>by omega⟩,h.frm⟩
 refine J15 ?_
 refine eT1 ?_
 exact λu h=>⟨_,rfl,⟨λh=>absurd h C8,λ⟨s,E,o⟩=>by
 obtain⟨j,A,rfl⟩:=List.mem_iff_getElem.1 E
 exact absurd o (f j _ W (FS A))⟩,h.frm⟩
theorem Yk(c:Wd)(a:AtL)(g:Nat)(v:Int)(m:c.cell? ⟨g,0,none⟩=some (iI v))(j:a.At c)(n:a.Zs):
 Cl 266 #[.slice a.pad a.path.length a.pc,.func (.func 267) #[] #[pG g]] c (RvF (.bool (NA a v)) c):=by
 refine en0 func266 U ntmps266 U<|J9 ?_
 refine zK CkO U<|λo f=>(V5 o a g v (f.old (λh=>h) m) (j.frm (f.rng λ_ h=>h)) n).mono ?_
 rintro e i ⟨r,rfl,b,k⟩
 refine⟨_,_,rfl,f.ext k,?_⟩
 refine JT (λd=>?_) λd=>?_
 refine J4 ?_
 refine eT1 ?_
 exact λi h=>⟨by unfold NA;rw[UV (b.1 d)],h.frm⟩
 refine J4 ?_
 refine eT1 ?_
 exact λi h=>⟨by unfold NA;rw[Ro λl=>d (b.2 l)],h.frm⟩
theorem V9(b:Wd)(a:AtL)(v:Int)(e:a.At b)(j:a.Zs):Cl 194 #[aA a.cells,iI v] b (RvF (.bool (NA a v)) b):=by
 refine en0 func194 U ntmps194 U<|J2 ?_
 refine zx U U U U U<|λk f=>zx U U U U U<|λc i=>J7 ?_
 refine zV (GO U U U) U<|zk CkO U (λw d=>Yk w a c v (d.cell (g:=c) U) (e.frm (d.rng λ_ h=>h)) j)<|?_
 exact Cx

def BR.NT(s:BR):Nat:=if s.set=true then 1 else s.asl.length
def Mh(a:List BR):Nat:=(a.map BR.NT).sum
theorem RN(a:List BR)(s:BR):Mh (a++[s])=Mh a+s.NT:=by unfold Mh;rw[Ai7,List.sum_append];simp
theorem W1:∀(a:List BR),(∀s∈a,s.asl.length<=1000000)->Mh a<=a.length*1000000
 | [],_=>M2 _
 | s::a,h=>by
  have d:=W1 a λs c=>h s (EQ _ c)
  have e:=h s Fr
  have b:Mh (s::a)=s.NT+Mh a:=by unfold Mh;simp
  have f:s.NT<=1000000:=by unfold BR.NT;split<;>omega
  rw[b,Acg,Agz];omega
theorem Hops_c(m:Wd)(a:AtL)(r:a.At m)(j:a.Zs):Cl 359 #[aA a.cells] m (RvF (iI (Mh a.path)) m):=by
 have w:=j.path
 refine en0 func359 U ntmps359 U<|J2 ?_
 refine zx U U U U U<|λA t=>J18 ?_
 refine oLp (λk:Nat=>[(9,iI k),(8,iI a.path.length),(7,.slice a.pad a.path.length a.pc),(3,iI (Mh (a.path.take k)))]) (λ_=>[]) (λk=>k<=a.path.length) (λk=>a.path.length-k) 0 (Lv _) ?_
 rintro k hk
 refine J2 ?_
 refine JT (λf=>?_) λf=>?_
 refine J10 ?_
 obtain⟨s,hx⟩:∃x,a.path[k]?=some x:=Gx
 obtain⟨o,y,ea,z⟩:=r.path k s hx
 have i:=Do hx
 have g:=j.LX s i
 have n:a.path.take (k+1)=a.path.take k++[s]:=F1
 have q:=W1 (a.path.take k) λs v=>j.LX s (List.mem_of_mem_take v)
 rw[Ahp] at q
 have C:min k a.path.length*1000000<=100000000000:=(by have:min k a.path.length<=100000:=(W);exact AhN 1000000 this)
 obtain⟨d,l,e,c⟩:=s
 refine zV ((AA (b:=o) (off:=y) (lo:=k) U D0 U underlying33 Ia U W)) U ?_
 refine zV (AB (cs:=BR.cells ⟨d,l,e,c⟩) U U W2.h U (DP (λh=>h) z)) U<|zy U KV U U<|?_
 intro B u
 refine J7 ?_
 skip
 cases d
 refine J8 ?_
 refine zV (EW U U U (show IntKind.i64.wrap (((Mh (a.path.take k):Nat):Int)+((c.length:Nat):Int))=((Mh (a.path.take k)+c.length:Nat):Int) by dsimp only at g;rw[DK W W];omega)) U<|J8 ?_
 exact eW (k+1) W W (.int U W (.cons U (.cons U (.int U (by rw[n,RN];rfl) .nil))))
 refine J14 ?_
 exact eW (k+1) W W (.int U W (.cons U (.cons U (.int U (by rw[n,RN];show _=((_+1:Nat):Int);omega) .nil))))
 refine J16 ?_
 refine eT1 ?_
 exact λD h=>⟨by rw[Aco W],h.frm⟩
def RI(a:AtL):Int :=
 match a.path with
 | []=>0
 | s::_=>if s.set=true then 0 else match s.asl with | []=>0|x::_=>x
theorem Agm(i:Wd)(a:AtL)(w:a.At i):Cl 360 #[aA a.cells] i (RvF (iI (RI a)) i):=by
 cases c:a.path with
 | nil =>
  refine en0 func360 U ntmps360 U<|J2 ?_
  refine zx U U U U U<|λA u=>J9 ?_
  refine zV ((Ae U U U).t ((by rw[c];rfl))) U ?_
  refine J26 ?_
  refine eT1 ?_
  exact λv h=>⟨by unfold RI;rw[c],h.frm⟩
 | cons s y =>
  obtain⟨j,m,ea,z⟩:=w.path 0 s (by rw[c];rfl)
  have e:=w.LX s (by rw[c];exact Fr)
  have B:0<a.path.length:=by rw[c];exact Nat.succ_pos _
  obtain⟨g,n,o,d⟩:=s
  have r:i.cell? ⟨j,m+0,none⟩=some (.bool g):=z 0 _ U
  have l:i.cell? ⟨j,m+1,none⟩=some (.slice n d.length o):=z 1 _ U
  have e:AQ i n (CN d):=e
  refine en0 func360 U ntmps360 U<|J2 ?_
  refine zx U U U U U<|λA u=>J9 ?_
  refine zV ((Ae U U U).f W) U<|J3 ?_
  refine zS ((AA (b:=j) (off:=m) (lo:=0) U D0 U underlying33 Ia U W)) U ?_
  refine J1 ?_
  refine zS (An U U i4o.h ((BY (λh=>h) r))) U ?_
  skip
  cases g
  refine J4 ?_
  refine zS ((AA (b:=j) (off:=m) (lo:=0) U D0 U underlying33 Ia U W)) U ?_
  refine J1 ?_
  refine zS (An U U S3.h ((BY (λh=>h) l))) U<|J1 ?_
  refine JT (λk=>?_) λk=>?_
  refine J11 ?_
  refine eT1 ?_
  exact λv h=>⟨by
  obtain rfl:d=[]:=AbQ.1 W
  unfold RI;rw[c];rfl,h.frm⟩
  refine J10 ?_
  refine zV ((AA (b:=j) (off:=m) (lo:=0) U D0 U underlying33 Ia U W)) U ?_
  refine J1 ?_
  refine zV (An U U S3.h ((BY (λh=>h) l))) U ?_
  obtain⟨x,q,rfl⟩:∃x q,d=x::q:=(by
   cases d with
   | nil=>exact absurd rfl k
   | cons x q=>exact⟨x,q,rfl⟩)
  obtain⟨D,E,rfl,C⟩:=e (Nat.succ_pos _)
  refine zV (AA (lo:=0) U U U underlying34 AZ U W) U<|zV (An U U i3o.h ((BY (λh=>h) (C 0 _ U)))) U<|J4 ?_
  refine eT1 ?_
  exact λv h=>⟨by unfold RI;rw[c];rfl,h.frm⟩
  refine J20 ?_
  refine eT1 ?_
  exact λv h=>⟨by unfold RI;rw[c];rfl,h.frm⟩

def orL:List Int->Int
 | []=>0
 | x::a=>if x≠0 then x else orL a
theorem Sm:∀(a:List Int) (k:Nat),(∀j x,j<k->a[j]?=some x->x=0)->orL a=orL (a.drop k)
 | a,0,_=>by rw[AeP]
 | [],k+1,_=>by rw[List.drop_nil]
 | x::a,k+1,h=>by
  have b:x=0:=h 0 x (Nat.succ_pos _) U
  show(if x≠0 then x else orL a)=orL (a.drop k)
  rw[E9 λc=>c b]
  exact Sm a k λj y e d=>h (j+1) y W d
theorem OrL_c(i:Wd)(g n:Nat)(a:List Int)(o:i.rangeAt g 0 (CN a))(m:n=a.length)(s:a.length<=1000):Cl 126 #[.slice (aG g) n n] i (RvF (iI (orL a)) i):=by
 subst m
 refine en0 func126 U ntmps126 U<|J19 ?_
 refine oLp (λk:Nat=>[(8,iI k),(7,iI a.length),(6,.slice (aG g) a.length a.length),(3,iI 0)]) (λ_=>[]) (λk=>k<=a.length/\∀j x,j<k->a[j]?=some x->x=0) (λk=>a.length-k) 0 ⟨Lv _,λj x h=>absurd h (Ac5 _)⟩ ?_
 rintro k ⟨hk,c⟩
 refine J2 ?_
 refine JT (λl=>?_) λl=>?_
 refine J10 ?_
 obtain⟨x,e⟩:∃x,a[k]?=some x:=Gx
 refine zV (AA (lo:=k) U U U underlying34 AZ W W) U<|zV (An U U i3o.h ((cellOf (λh=>h) o (Ip e)))) U<|J7 ?_
 refine JT (λb=>?_) λb=>?_
 refine J15 ?_
 refine eT1 ?_
 exact λq h=>⟨by
 rw[Sm a k c,show a.drop k=x::a.drop (k+1) by
  rw[List.drop_eq_getElem_cons (show k<a.length by omega)]
  congr 1
  exact Ade ((FS _).symm.trans e)]
 show _=Ending.returned (iI (if x≠0 then x else _))
 rw[IR b],h.frm⟩
 refine J10 ?_
 exact eW (k+1) W ⟨W,λj y r f=>by
 by_cases d:j=k
 .subst d;rw[e] at f;cases f;exact Acp.1 b
 .exact c j y W f⟩
 refine J16 ?_
 refine eT1 ?_
 exact λq h=>⟨by rw[Sm a k c,List.drop_of_length_le W];rfl,h.frm⟩
structure Rk where
 place:Int
 lcl:Int
 NT:Int
 origin:Int
 first:Int
 med:Int
 id:Int
 peer:Int
def Rk.cells(r:Rk):vL:=[iI r.place,iI r.lcl,iI r.NT,iI r.origin,iI r.first,iI r.med,.int .u32 r.id,iI r.peer]
theorem Rk.BK(r:Rk):r.cells.length=8:=rfl
theorem Rk.one(r:Rk):∀v∈r.cells,v.oneCell'=true:=λv a=>by
 unfold Rk.cells at a
 simp only[Rl,List.not_mem_nil,or_false] at a
 rcases a with h|h|h|h|h|h|h|h<;>(subst h;rfl)
def Lb(a b:Rk):Int:=orL [EF b.lcl a.lcl,EF a.NT b.NT,EF a.origin b.origin]
def Aah(a b:Rk):Int:=orL [EF a.id b.id,EF a.peer b.peer,EF a.place b.place]
theorem Pm(x:Int):EF x x=0:=by unfold EF;rw[E9 (Int.lt_irrefl x),E9 (Int.lt_irrefl x)]
theorem Wk(a:Rk):Lb a a=0:=by unfold Lb orL orL orL orL;rw[Pm,Pm,Pm];rfl
theorem Uq(w:Wd)(a b:Rk):Cl 331 #[aA a.cells,aA b.cells] w (RvF (iI (Lb a b)) w):=by
 refine en0 func331 U ntmps331 U<|J2 ?_
 refine zx U U U U U<|λj f=>zx U U U U U<|λk i=>J4 ?_
 refine WC.AS mixed<|rF 12 [0,2,5,7,10,12]<|?_
 refine J7 ?_
 refine rA 3 [1,3,4,6,8,9,11,13,14] U<|qV (An U U i3o.h (cellAt (v:=iI b.lcl) U)) U<|qV (An U U i3o.h (cellAt (v:=iI a.lcl) U)) U<|qC CkO U (λw d=>LY w b.lcl a.lcl)<|qV (An U U i3o.h (cellAt (v:=iI a.NT) U)) U<|qV (An U U i3o.h (cellAt (v:=iI b.NT) U)) U<|qC CkO U (λw d=>LY w a.NT b.NT)<|qV (An U U i3o.h (cellAt (v:=iI a.origin) U)) U<|qV (An U U i3o.h (cellAt (v:=iI b.origin) U)) U<|qC CkO U (λw d=>LY w a.origin b.origin)<|?_
 refine J1 ?_
 refine rO 2 [15]<|zB underlying34 AZ G0 U U<|?_
 intro c e
 refine J1 ?_
 refine rA 0 [16,17] U<|qC CkO U (λw d=>OrL_c w c 3 [EF b.lcl a.lcl,EF a.NT b.NT,EF a.origin b.origin] (Vx (m:=3) (d.row (g:=c)) U) U (show 3<=1000 by decide))<|J5 ?_
 exact Aw
theorem AbB(w:Wd)(a b:Rk):Cl 332 #[aA a.cells,aA b.cells] w (RvF (iI (Aah a b)) w):=by
 refine en0 func332 U ntmps332 U<|J2 ?_
 refine zx U U U U U<|λj f=>zx U U U U U<|λk i=>J4 ?_
 refine WC.AS mixed<|rF 12 [0,2,5,7,10,12]<|?_
 refine J7 ?_
 refine rA 3 [1,3,4,6,8,9,11,13,14] U<|qV (An U U W6.h (cellAt (v:=.int .u32 a.id) U)) U<|qV (An U U W6.h (cellAt (v:=.int .u32 b.id) U)) U<|qC CkO U (λw d=>AcT w a.id b.id)<|qV (An U U i3o.h (cellAt (v:=iI a.peer) U)) U<|qV (An U U i3o.h (cellAt (v:=iI b.peer) U)) U<|qC CkO U (λw d=>LY w a.peer b.peer)<|qV (An U U i3o.h (cellAt (v:=iI a.place) U)) U<|qV (An U U i3o.h (cellAt (v:=iI b.place) U)) U<|qC CkO U (λw d=>LY w a.place b.place)<|?_
 refine J1 ?_
 refine rO 2 [15]<|zB underlying34 AZ G0 U U<|?_
 intro c e
 refine J1 ?_
 refine rA 0 [16,17] U<|qC CkO U (λw d=>OrL_c w c 3 [EF a.id b.id,EF a.peer b.peer,EF a.place b.place] (Vx (m:=3) (d.row (g:=c)) U) U (show 3<=1000 by decide))<|J5 ?_
 exact Aw
def CmpR(f:FuncId)(c:Rk->Rk->Int):Prop:=∀(w:Wd) (a b:Rk),Cl f (#[]++[aA a.cells,aA b.cells].toArray++#[]) w λe d=>e=.returned (iI (c a b))/\Frm Fx w d
structure MiS where
 k:Nat
 m:Rk
theorem Ac4(s:Wd)(t:Option Addr)(c:Nat)(a:List Rk)(f:FuncId)(B:Rk->Rk->Int)(d:FJ prog f)(E:CmpR f B)(H:AQ s t (AM Rk.cells a))(n:a≠[])(K:a.length<=1000000):
 Cl 330 #[.slice t a.length c,.func (.func f) #[] #[]] s λe y=>∃r∈a,e=.returned (.agg (Rk.cells r).toArray)/\Frm Fx s y:=by
 have D:=AP Rk.BK a
 have b:0<a.length:=List.length_pos_iff.2 n
 obtain⟨A,J,rfl,q⟩:=H W
 obtain⟨z,g⟩:∃x,a[0]?=some x:=⟨a[0]'b,FS _⟩
 refine en0 func330 U ntmps330 U<|J2 ?_
 refine zy U EL U U<|λu F=>J7 ?_
 refine zV ((JF U U U).f W) U<|J8 ?_
 refine zV (AA (lo:=0) U U U underlying420 Hu U W) U<|zV (AB (cs:=z.cells) U U Oy.h U (DP (λh=>h) (by have:=Rg.seg Rk.BK q g;exact this))) U ?_
 refine zy U EL U U<|λv G=>J10 ?_
 refine oLp (λx:MiS=>[(6,iI x.k),(0,.slice (some ⟨A,J,none⟩) a.length c),(1,.func (.func f) #[] #[]),(5,pG v),(4,pG u)]) (λx=>[.row v x.m.cells,.row u (Rk.cells ⟨0,0,0,0,0,0,0,0⟩)]) (λx=>x.k<=a.length/\x.m∈a) (λx=>a.length-x.k) ⟨1,z⟩ ⟨b,Do g⟩ ?_
 rintro⟨k,m⟩ ⟨hk,l⟩
 dsimp only at hk l⊢
 refine J6 ?_
 refine JT (λi=>?_) λi=>?_
 refine J8 ?_
 refine cQ mixed ?_
 obtain⟨x,o⟩:∃x,a[k]?=some x:=Gx
 refine J3 ?_
 refine qV (AA (lo:=k) U U U underlying420 Hu W W) U<|qV (AB (cs:=x.cells) U U Oy.h U (DP (λh=>h) (Rg.seg Rk.BK q o))) U<|J1 ?_
 refine WQ.FQ _ U U U d (.none U) U U (λw C=>Calls.still (E w x m) C)<|JT (λj=>?_) (λj=>?_)
 refine J6 ?_
 refine zV (AA (lo:=k) U U U underlying420 Hu W W) U<|zV (AB (cs:=x.cells) U U Oy.h U (DP (λh=>h) (Rg.seg Rk.BK q o))) U<|J9 ?_
 exact eW ⟨k+1,x⟩ C7 ⟨C7,Do o⟩
 refine J11 ?_
 exact eW ⟨k+1,m⟩ C7 ⟨C7,l⟩
 refine J15 ?_
 refine eT1 ?_
 exact λy h=>⟨m,l,rfl,h.frm⟩

structure CdL where
 r:RtL
 id:Int
def CdL.cells(x:CdL):vL:=x.r.cells++[.int .u32 x.id]
theorem CdL.BK(x:CdL):x.cells.length=14:=rfl
theorem CdL.one(x:CdL):∀v∈x.cells,v.oneCell'=true:=λv a=>by
 rcases LI.1 a with a|a
 .exact RtL.one x.r v a
 .rw [Es.1 a];rfl
theorem Adg(k:Wd)(i:Int)(x:CdL)(l:x.r.a.At k)(u:x.r.a.Zs):
 Cl 333 #[iI i,aA x.cells] k λe f=>∃r:Rk,e=.returned (aA r.cells)/\r.place=i/\Frm Fx k f:=by
 refine en0 func333 U ntmps333 U<|J2 ?_
 refine zx U U U U U<|λy o=>zy U EL U U<|λz q=>J6 ?_
 refine zV (AB (cs:=x.r.a.cells) U U JZ.h U (AT (m:=10) U)) U<|zy U HR U U<|?_
 intro A s
 refine J4 ?_
 refine WC.AS mixed<|rF 10 [0,3,7,9,10]<|?_
 refine J6 ?_
 refine WR.mix (g:=1) 13 [1,2,4,5,6,8,11,12] [] U EL U U U C6 C6<|zm (AB U U JZ.h U AL) U<|WM.call _ U U CkO (.none U) U U (λw c=>(Hops_c w x.r.a (l.frm (c.rng λ_ h=>h)) u))<|zm (An U U i3o.h (cellAt (v:=iI x.r.a.origin) U)) U<|zm (AB U U JZ.h U AL) U<|WM.call _ U U CkO (.none U) U U (λw c=>(Agm w x.r.a (l.frm (c.rng λ_ h=>h))))<|zm (An U U W6.h (cellAt (v:=.int .u32 x.id) U)) U<|zm (An U U i3o.h (cellAt (v:=iI x.r.peer) U)) U<|zm (GC U U EL AhE U) U<|WM.nil<|WP.NU<|?_
 intro B t
 refine rO 0 [14]<|J8 ?_
 refine zk CkO U (λw c=>Is_c w x.r.a 5 C8) ?_
 generalize n:hasB x.r.a.has 5=j
 cases j
 refine J9 ?_
 refine zk CkO U (λw c=>Is_c w x.r.a 4 C8) ?_
 generalize d:hasB x.r.a.has 4=b
 cases b
 refine J12 ?_
 refine eT1 ?_
 exact λf h=>⟨⟨i,100,_,_,_,0,_,_⟩,rfl,rfl,h.frm⟩
 refine J5 ?_
 refine zV (An U U i3o.h (cellAt (v:=iI x.r.a.med) U)) U<|J11 ?_
 refine eT1 ?_
 exact λf h=>⟨⟨i,100,_,_,_,x.r.a.med,_,_⟩,rfl,rfl,h.frm⟩
 refine J5 ?_
 refine zV (An U U i3o.h (cellAt (v:=iI x.r.a.loc) U)) U<|J8 ?_
 refine zk CkO U (λw c=>Is_c w x.r.a 4 C8) ?_
 generalize d:hasB x.r.a.has 4=b
 cases b
 refine J12 ?_
 refine eT1 ?_
 exact λf h=>⟨⟨i,x.r.a.loc,_,_,_,0,_,_⟩,rfl,rfl,h.frm⟩
 refine J5 ?_
 refine zV (An U U i3o.h (cellAt (v:=iI x.r.a.med) U)) U<|J11 ?_
 refine eT1 ?_
 exact λf h=>⟨⟨i,x.r.a.loc,_,_,_,x.r.a.med,_,_⟩,rfl,rfl,h.frm⟩
instance:Inhabited Rk:=⟨⟨0,0,0,0,0,0,0,0⟩⟩
theorem Age:∀n:Nat,(List.replicate n (Rk.cells ⟨0,0,0,0,0,0,0,0⟩)).flatten=AM Rk.cells (List.replicate n ⟨0,0,0,0,0,0,0,0⟩)
 | 0=>rfl
 | n+1=>by rw[List.replicate_succ,List.replicate_succ,List.flatten_cons,Age n];rfl
structure RnS where
 k:Nat
 rs:List Rk
def Ranked(a:List Rk)(n:Nat):Prop:=a.length=n/\∀(i:Nat) (r:Rk),a[i]?=some r->r.place=(i:Int)
theorem Z8(v:Wd)(ad:Option Addr)(c:Nat)(d:List CdL)(N:BH v ad 14 CdL.cells d)(O:∀x∈d,x.r.a.At v/\x.r.a.Zs)(S:d.length<=100000):
 Cl 279 #[.slice ad d.length c] v λe B=>∃(g:List Rk) (o:Option Addr) (C:Nat) (E:eL),e=.returned (.slice o g.length C)/\Vec 8 o g.length C (AM Rk.cells g) E/\Ranked g d.length/\St Fx v B E:=by
 refine en0 func279 U ntmps279 U<|J9 ?_
 refine WL.Mm (m:=d.length) (c:=d.length) U U U W W W underlying420 AdQ (W) W Hu EL U (.none U) U U<|λl L=>WL.as (If (λz=>[Ent.row l z]) (Age d.length))<|J12 ?_
 refine oLp (λx:RnS=>[(11,iI x.k),(10,iI d.length),(9,.slice ad d.length c),(3,.slice (aG l) d.length d.length)]) (λx=>[.row l (AM Rk.cells x.rs)]) (λx=>x.k<=d.length/\x.rs.length=d.length/\∀(i:Nat) (r:Rk),i<x.k->x.rs[i]?=some r->r.place=(i:Int)) (λx=>d.length-x.k) ⟨0,List.replicate d.length ⟨0,0,0,0,0,0,0,0⟩⟩ ⟨Lv _,Ai2,λi r h=>absurd h (Ac5 _)⟩ ?_
 rintro⟨k,g⟩ ⟨hk,f,n⟩
 dsimp only at hk f n⊢
 refine J2 ?_
 refine JT (λw=>?_) λw=>?_
 refine J11 ?_
 obtain⟨x,t⟩:∃x,d[k]?=some x:=Gx
 obtain⟨H,P,ea,Q⟩:=N k x t
 have u:=O x (Do t)
 have y:=AP Rk.BK g
 refine zV ((AA (b:=H) (off:=P) (lo:=k) U Dk U underlying252 LJ U W)) U ?_
 refine zV (AB (cs:=x.cells) U U i345m.h U (DP (λh=>h) Q)) U<|zy U TJ.h U U<|?_
 intro D K
 refine J9 ?_
 refine zK CkO U<|λR G=>(Adg R k x (u.1.frm (G.rng λ_ h=>h)) u.2).mono ?_
 rintro e B ⟨r,rfl,A,J⟩
 refine⟨_,_,rfl,G.ext J,?_⟩
 refine zV (AA (lo:=k) U U U underlying420 Hu W W) U<|WL.FN U U U U Oy.h U (by rw[y,f];show 0+k*8+8<=_;omega) (.none U) U ?_
 refine WL.as (L':=.row D x.cells::.row l (AM Rk.cells (g.set k r))::[]) (by
 have F:=Jg Rk.BK g k r [] W
 rw[Acx,Acx] at F
 rw[PP]
 exact If (λz=>[Ent.row D x.cells,Ent.row l z]) F) ?_
 refine J7 ?_
 exact WE.next ⟨k+1,g.set k r⟩ C7 ⟨C7,by dsimp only;rw[AbI];exact f,λi q M j=>by
 dsimp only at M j
 by_cases s:i=k
 .subst s
  rw[AdZ W] at j
  cases j;exact A
 .rw [Adq (Ai4 s)] at j
  exact n i q W j⟩ (.int U C7 (.cons U (.cons U (.cons U .nil)))) (Adk _ _)
 refine J16 ?_
 refine eT1 ?_
 refine λB h=>⟨g,aG l,d.length,[.row l (AM Rk.cells g)],by rw[f],Vec.row (by rw[<- AP Rk.BK g,Ah6]) (by rw[AP Rk.BK g,f]) W,⟨f,λi q j=>n i q (by have:=(Eu.1 j).1;omega) j⟩,h⟩

structure NF(rs:List Rk)(top:Rk)(k:Nat)(M:Vl->Option Vl):Prop where
 some_:∀(f:Int) (u:Vl),M (iI f)=some u->∃(j:Nat) (r:Rk),j<k/\rs[j]?=some r/\Lb r top=0/\r.first=f/\u=iI r.med
 have_:∀(j:Nat) (r:Rk),j<k->rs[j]?=some r->Lb r top=0->M (iI r.first)≠none
theorem NF.BI{d:List Rk}{a x:Rk}{M:Vl->Option Vl}(h:NF d a A M)(k:d[A]?=some x)(hk:Lb x a=0->M (iI x.first)≠none):NF d a (A+1) M :=
 ⟨λf u i=>by obtain⟨j,r,l,g⟩:=h.some_ f u i;exact⟨j,r,W,g⟩,λj r m c e=>by
  by_cases b:j=A
  .subst b;rw[k] at c;cases c;exact hk e
  .exact h.have_ j r W c e⟩
theorem NF.put{k:List Rk}{a x:Rk}{M:Vl->Option Vl}(h:NF k a A M)(l:k[A]?=some x)(n:Lb x a=0):NF k a (A+1) (CR M (iI x.first) (some (iI x.med))) :=
 ⟨λf u c=>by
  by_cases b:f=x.first
  .subst b
   rw[DC] at c
   cases c
   exact⟨A,x,W,l,n,rfl,rfl⟩
  .rw [CI _ _ (by intro e;injection e with _ e;exact b e)] at c
   obtain⟨j,r,o,m⟩:=h.some_ f u c;exact⟨j,r,W,m⟩,λj r q g i=>by
  by_cases b:r.first=x.first
  .rw [b,DC];intro e;cases e
  .rw [CI _ _ (by intro e;injection e with _ e;exact b e)]
   by_cases d:j=A
   .subst d;rw[l] at g;cases g;exact absurd rfl b
   .exact h.have_ j r W g i⟩
structure BeS where
 k:Nat
 es:Array MapEntry
 c:Nat
 M:Vl->Option Vl
structure BfS where
 k:Nat
 ls:List Rk
 ad:Option Addr
 c:Nat
 E:eL
theorem ZV(w0:Wd)(ad:Option Addr)(c:Nat)(d:List Rk)(C:AQ w0 ad (AM Rk.cells d))(T:d≠[])(hn:d.length<=100000):
 Cl 278 #[.slice ad d.length c] w0 λe w'=>∃r∈d,e=.returned (.agg (Rk.cells r).toArray)/\Frm Fx w0 w':=by
 have hel:=AP Rk.BK d
 have hpos:0<d.length:=List.length_pos_iff.2 T
 obtain⟨b1,o1,rfl,r1⟩:=C W
 refine en0 func278 U ntmps278 U<|J2 ?_
 refine zy U EL U U<|λO hg2=>J5 ?_
 refine zK CkO U<|λw1 s=>(Ac4 w1 (some ⟨b1,o1,none⟩) c d 331 Lb CkO (λw a b=>Uq w a b) (C.frm (s.rng λ_ h=>h)) T W).mono ?_
 rintro e w' ⟨i,htm,rfl,hF⟩
 refine⟨_,_,rfl,s.ext hF,?_⟩
 refine zy U EL U U<|λP hg3=>J5 ?_
 refine WL.makeMap U (.none U) U U<|λl hg14=>J12 ?_
 refine oLp (λx:BeS=>[(17,iI x.k),(16,iI d.length),(15,.slice (some ⟨b1,o1,none⟩) d.length c),(4,.map (some l)),(3,pG P),(2,pG O),(0,.slice (some ⟨b1,o1,none⟩) d.length c)]) (λx=>[.obj l (.map x.es x.c),.row P i.cells,.row O (Rk.cells ⟨0,0,0,0,0,0,0,0⟩)]) (λx=>x.k<=d.length/\CP (K7 .i64) x.es x.M/\NF d i x.k x.M) (λx=>d.length-x.k) ⟨0, #[],0,λ_=>none⟩ ⟨Lv _,CP.empty _,⟨λf u h=>Da,λj r h=>absurd h (Ac5 _)⟩⟩ ?_
 rintro⟨k,y,J,M⟩ ⟨hk,hM,hL⟩
 dsimp only at hk hM hL⊢
 refine J2 ?_
 refine JT (λh18=>?_) λh18=>?_
 refine J10 ?_
 obtain⟨x,hx⟩:∃x,d[k]?=some x:=Gx
 refine zV (AA (lo:=k) U U U underlying420 Hu W W) U<|zV (AB (cs:=x.cells) U U Oy.h U (DP (λh=>h) (Rg.seg Rk.BK r1 hx))) U<|zy U EL U U<|?_
 intro g6 hg6
 refine J8 ?_
 refine zk CkO U (λw s=>Uq w x i)<|JT (λh24=>?_) (λh24=>?_)
 refine J11 ?_
 exact WE.next ⟨k+1,y,J,M⟩ C7 ⟨C7,hM,hL.BI hx λh=>absurd h h24⟩ (.int U C7 (.cons U (.cons U (.cons U (.cons U (.cons U (.cons U .nil))))))) (Adk _ _)
 refine J9 ?_
 refine zV (An U U i3o.h (cellAt (v:=iI x.first) U)) U<|zV (ED (z:=iI 0) U U U underlying463 (OF underlying3) (K7.mk _ _) C6 (C4 (es:=y) l (c:=J) (EQ _ Fr)) hM) U<|J10 ?_
 generalize A:(M (iI x.first)).isSome=b31
 cases b31
 refine J13 ?_
 exact Ge
 refine J2 ?_
 obtain⟨v29,D⟩:∃v:Int,M (iI x.first)=some (iI v):=(by
  cases B:M (iI x.first) with
  | none=>rw[B] at A;cases A
  | some u=>obtain⟨j,r,_,_,_,_,e⟩:=hL.some_ _ _ B;exact⟨r.med,by rw[e]⟩)
 rw[D]
 refine J1 ?_
 refine zS (An U U i3o.h (cellAt (v:=iI x.med) U)) U<|J1 ?_
 refine JT (λh38=>?_) λh38=>?_
 refine J7 ?_
 exact Ge
 refine J11 ?_
 exact WE.next ⟨k+1,y,J,M⟩ C7 ⟨C7,hM,hL.BI hx λ_=>by rw[D];intro e;cases e⟩ (.int U C7 (.cons U (.cons U (.cons U (.cons U (.cons U (.cons U .nil))))))) (Adk _ _)
 refine J17 ?_
 obtain⟨j0,x0,hj0,X,ha0,hm0⟩:∃(j:Nat) (r:Rk),j<d.length/\d[j]?=some r/\Lb r i=0/\M (iI r.first)=some (iI r.med):=(by
 obtain⟨jt,hjt,hte⟩:=List.mem_iff_getElem.1 htm
 have h1:=hL.have_ jt i W (by rw[<- hte];exact FS hjt) (Wk i)
 cases B:M (iI i.first) with
 | none=>exact absurd B h1
 | some u =>
  obtain⟨j,r,h2,h3,h4,h5,h6⟩:=hL.some_ _ _ B
  exact⟨j,r,W,h3,h4,by rw[h5,B,h6]⟩)
 refine J6 ?_
 refine oLp (λx:BfS=>[(48,iI x.k),(47,iI d.length),(46,.slice (some ⟨b1,o1,none⟩) d.length c),(9,.slice x.ad x.ls.length x.c),(4,.map (some l)),(3,pG P),(2,pG O)]) (λx=>x.E++[.obj l (.map y J),.row P i.cells,.row O (Rk.cells ⟨0,0,0,0,0,0,0,0⟩)]) (λx=>x.k<=d.length/\x.ls.length<=x.k/\Vec 8 x.ad x.ls.length x.c (AM Rk.cells x.ls) x.E/\(∀r∈x.ls,r∈d)/\(j0<x.k->x.ls≠[])) (λx=>d.length-x.k) ⟨0,[],none,0,[]⟩ ⟨Lv _,M2 _,Vec.nil 8,λr h=>Da,λh=>absurd h (Ac5 _)⟩ ?_
 rintro⟨G,ls,H,lc,Z⟩ ⟨hk2,hll,m,n,t⟩
 dsimp only at hk2 hll m n t⊢
 refine J2 ?_
 refine JT (λh49=>?_) λh49=>?_
 refine J10 ?_
 obtain⟨x,hx⟩:∃x,d[G]?=some x:=Gx
 refine zV (AA (lo:=G) U U U underlying420 Hu W W) U<|zV (AB (cs:=x.cells) U U Oy.h U (DP (λh=>h) (Rg.seg Rk.BK r1 hx))) U<|zy U EL U U<|?_
 intro N hg11
 refine J7 ?_
 refine zk CkO U (λw s=>Uq w x i)<|JT (λQ=>?_) (λQ=>?_)
 refine J2 ?_
 refine zS (An U U i3o.h (cellAt (v:=iI x.med) U)) U<|J2 ?_
 refine zS (An U U i3o.h (cellAt (v:=iI x.first) U)) U<|zS (HP (z:=iI 0) U U U underlying463 (OF underlying3) (K7.mk _ _) C6 (C4 (es:=y) l (c:=J) (EQ _ (Mu _ Fr))) hM) U ?_
 obtain⟨v62,o⟩:∃v:Int,(M (iI x.first)).getD (iI 0)=iI v:=(by
  cases B:M (iI x.first) with
  | none=>exact⟨0,rfl⟩
  | some u=>obtain⟨j,r,_,_,_,_,e⟩:=hL.some_ _ _ B;exact⟨r.med,e⟩)
 rw[o]
 refine JT (λR=>?_) λR=>?_
 refine J7 ?_
 refine zB underlying420 Hu EL U U<|λq hg67=>?_
 obtain⟨T0,hT0⟩:∃T0:eL,T0=[.obj l (.map y J),.row P i.cells,.row O (Rk.cells ⟨0,0,0,0,0,0,0,0⟩)]:=⟨_,rfl⟩
 refine WL.to (L':=Z++(.row q x.cells::.row N x.cells::T0)) (λw h=>St.AJ (L:=.row q x.cells::.row N x.cells::(Z++T0)) Fp) ?_
 refine WL.AU U U U underlying420 underlying420 Hu AdQ EL U U m (new:=x.cells) (λ_=>⟨q,0,rfl,λw s=>AL (g:=q) w s⟩) U (BD Rk.one _) W (.none U) U U<|λK c68 E68 S hr68=>J8 ?_
 exact WE.next ⟨G+1,ls++[x],K,c68,E68⟩ C7 ⟨C7,by dsimp only;rw[AC,AbJ];omega,by dsimp only;rw[AX,AC];exact S,λr C=>by
 rcases LI.1 C with C|C
 .exact n r C
 .rw [Es.1 C];exact Do hx,λ_=>by simp⟩ (.int U C7 (.cons U (.cons U (.eq U Dl (.cons U (.cons U (.cons U .nil))))))) (by rw[hT0];exact Acq (.cons _ (.cons _ (.refl _))) _)
 refine J11 ?_
 exact WE.next ⟨G+1,ls,H,lc,Z⟩ C7 ⟨C7,C7,m,n,λh=>by
 dsimp only at h
 by_cases F:j0=G
 .subst F
  rw[X] at hx;cases hx
  rw[hm0] at o
  cases o
  exact absurd U R
 .exact t W⟩ (.int U C7 (.cons U (.cons U (.cons U (.cons U (.cons U (.cons U .nil))))))) (Adk _ _)
 refine J19 ?_
 exact WE.next ⟨G+1,ls,H,lc,Z⟩ C7 ⟨C7,C7,m,n,λh=>by
 dsimp only at h
 by_cases F:j0=G
 .subst F
  rw[X] at hx;cases hx
  exact absurd ha0 Q
 .exact t W⟩ (.int U C7 (.cons U (.cons U (.cons U (.cons U (.cons U (.cons U .nil))))))) (Adk _ _)
 refine J12 ?_
 refine zK CkO U<|λw1 s=>(Ac4 w1 H lc ls 332 Aah CkO (λw a b=>AbB w a b) (CY m λe he=>s.holds e (Ha _ he)) (t W) W).mono ?_
 rintro e w' ⟨r,hrm,rfl,hF⟩
 refine⟨_,_,rfl,s.ext hF,?_⟩
 refine J4 ?_
 refine eT1 ?_
 exact λw' h=>⟨r,n r hrm,rfl,h.frm⟩
def Agu(n:Nat)(i:Int):Prop:=(n=0/\i = -1)\/(0<=i/\i<(n:Int))
theorem AcM(l:Wd)(m:Option Addr)(c:Nat)(f:List CdL)(B:BH l m 14 CdL.cells f)(u:∀x∈f,x.r.a.At l/\x.r.a.Zs)(t:f.length<=100000):
 Cl 204 #[.slice m f.length c] l λe k=>∃i:Int,e=.returned (iI i)/\Agu f.length i/\Frm Fx l k:=by
 refine en0 func204 U ntmps204 U<|J10 ?_
 refine JT (λw=>?_) λw=>?_
 refine J10 ?_
 refine eT1 ?_
 exact λk h=>⟨-1,rfl,.inl ⟨W,rfl⟩,h.frm⟩
 refine J8 ?_
 refine zK CkO U<|λs d=>(Z8 s m c f (B.frm (d.rng λ_ h=>h)) (λx g=>⟨(u x g).1.frm (d.rng λ_ h=>h),(u x g).2⟩) t).mono ?_
 rintro e k ⟨C,n,v,D,rfl,p,b,o⟩
 refine⟨_,_,rfl,d.join o,?_⟩
 refine zK CkO U<|λs d=>(ZV s n v C (CY p λe z=>d.holds e (Ha _ z)) (by intro e;have:=b.1;rw[e] at this;simp at this;omega) (by rw[b.1];exact t)).mono ?_
 rintro e k ⟨r,q,rfl,y⟩
 refine⟨_,_,rfl,d.ext y,?_⟩
 refine zV (MI U U i418_0.h i3o.h U) U<|J4 ?_
 refine eT1 ?_
 refine λk h=>⟨r.place,rfl,.inr ?_,h.frm⟩
 obtain⟨j,A,e⟩:=List.mem_iff_getElem.1 q
 have E:=b.2 j r (by rw[<- e];exact FS A)
 have F:=b.1
 omega

def DelR(a:E->vL)(f:FuncId)(b:Array Vl)(d:E->Bool)(p:Nat->Prop)(i:Wd)(g:Nat)(L:eL):Prop :=
 ∀(w:Wd) (c:vL) (M:eL) (x:E),St p i w (M++(.row g c::L))->Cl f (#[]++[.agg (a x).toArray].toArray++b) w λe h=>e=.returned (.bool (d x))/\Frm Fx w h
def Z0(d:E->Bool)(a:List E)(i:Int):Prop:=(i = -1/\∀x∈a,d x=false)\/∃k:Nat,i=(k:Int)/\k<a.length/\(∀(j:Nat) (x:E),j<k->a[j]?=some x->d x=false)/\∀x,a[k]?=some x->d x=true
theorem IdxR_c(p:Nat->Prop)(r w:Wd)(L:eL)(g c:Nat)(a:List Rk)(R:vL)(f:FuncId)(l:Array Vl)(b:FJ prog f)(d:Rk->Bool)(A:DelR Rk.cells f l d p r g L)(o:St p r w (.row g (AM Rk.cells a++R)::L))(_:a.length<=c)(D:a.length<=1000000):
 Cl 373 #[.slice (aG g) a.length c,.func (.func f) #[] l] w λe w'=>∃i:Int,e=.returned (iI i)/\Z0 d a i/\St p r w' (.row g (AM Rk.cells a++R)::L):=by
 refine enter func373 U ntmps373 U o<|J14 ?_
 refine oLp (λk:Nat=>[(8,iI k),(7,iI a.length),(0,.slice (aG g) a.length c),(1,.func (.func f) #[] l)]) (λ_=>.row g (AM Rk.cells a++R)::L) (λk=>k<=a.length/\∀(j:Nat) (x:Rk),j<k->a[j]?=some x->d x=false) (λk=>a.length-k) 0 ⟨Lv _,λj x h=>absurd h (Ac5 _)⟩ ?_
 rintro k ⟨hk,hne⟩
 refine J2 ?_
 refine JT (λv=>?_) λv=>?_
 refine J10 ?_
 obtain⟨x,hx⟩:∃x,a[k]?=some x:=Gx
 refine J9 ?_
 refine zV (AA (lo:=k) U U U underlying420 Hu W W) U<|zV (AB (cs:=x.cells) U U Oy.h U (AT (m:=8) (by rw[PP];exact DF Rk.BK hx))) U ?_
 refine WL.FQ U U U b (.none U) U U<|λC s=>(A C _ [] x s).mono ?_
 rintro e w' ⟨rfl,z⟩
 refine⟨_,_,rfl,s.ext z,?_⟩
 generalize hb16:d x=n
 cases n
 refine J10 ?_
 exact eW (k+1) W ⟨W,λj y u hy=>by
 by_cases q:j=k
 .subst q;rw[hx] at hy;cases hy;exact hb16
 .exact hne j y W hy⟩
 exact Bv
 refine J15 ?_
 refine eT1 ?_
 exact λw' h=>⟨_,rfl,.inl ⟨rfl,λx B=>by
 obtain⟨j,u,e⟩:=List.mem_iff_getElem.1 B
 exact hne j x W (by rw[<- e];exact FS u)⟩,h⟩
theorem Ou{d:E->Bool}{a:List E}(hk:A<a.length)(h:∀(j:Nat) (x:E),j<A->a[j]?=some x->d x=false)(f:∀x,a[A]?=some x->d x=true):(a.take (A+1)).filter (λx => !d x)=a.take A:=by
 have b:a[A]?=some a[A]:=FS hk
 rw[AhG,b,Aiw,List.filter_append]
 have c:[a[A]].filter (λx => !d x)=[]:=by
  rw[List.filter_cons_of_neg (by rw[f _ b];decide)];rfl
 rw[c,Acx]
 refine List.filter_eq_self.2 λx i=>?_
 obtain⟨j,g,e⟩:=List.mem_iff_getElem.1 i
 rw[Ahp] at g
 rw[List.getElem_take] at e
 rw[h j x W (by rw[<- e];exact FS _)];rfl
theorem filter_none{b:Type}{d:b->Bool}{a:List b}(h:∀x∈a,d x=false):a.filter (λx => !d x)=a:=List.filter_eq_self.2 λx c=>by rw[h x c];rfl
structure DeS where
 i:Nat
 j:Nat
 ys:List Rk
theorem DelR_c(p:Nat->Prop)(E w:Wd)(L:eL)(g c:Nat)(a:List Rk)(R:vL)(f:FuncId)(C:Array Vl)(n:FJ prog f)(d:Rk->Bool)(X:DelR Rk.cells f C d p E g L)(J:St p E w (.row g (AM Rk.cells a++R)::L))(r:a.length<=c)(hcl:(AM Rk.cells a++R).length=c*8)(hn:a.length<=1000000):
 Cl 368 #[.slice (aG g) a.length c,.func (.func f) #[] C] w λe B=>∃Q:eL,e=.returned (.slice (aG g) (a.filter λx => !d x).length c)/\Vec 8 (aG g) (a.filter λx => !d x).length c (AM Rk.cells (a.filter λx => !d x)) Q/\St p E B (Q++L):=by
 have hel:=AP Rk.BK a
 rw[AC,hel] at hcl
 refine enter func368 U ntmps368 U J<|J9 ?_
 refine zK CkO U<|λP D=>(IdxR_c p E P L g c a R f C n d X D r hn).mono ?_
 rintro e B ⟨i,rfl,z,H⟩
 refine⟨_,_,rfl,H,?_⟩
 refine J7 ?_
 refine JT (λv=>?_) λv=>?_
 refine J11 ?_
 refine eT1 ?_
 have hf:a.filter (λx => !d x)=a:=(by
  rcases z with⟨_,h⟩|⟨k,e,_⟩
  .exact filter_none h
  .omega)
 rw[hf]
 exact λB h=>⟨[.row g (AM Rk.cells a++R)],rfl,Vec.row (by have:=GR Rk.BK a a.length R (M2 _);rwa [Ah6] at this) Fm r,h⟩
 refine J8 ?_
 obtain⟨k,rfl,hk,y,K⟩:∃k:Nat,i=(k:Int)/\k<a.length/\(∀(j:Nat) (x:Rk),j<k->a[j]?=some x->d x=false)/\∀x,a[k]?=some x->d x=true:=(by
 rcases z with⟨e,_⟩|h
 .exact absurd e v
 .exact h)
 refine J6 ?_
 refine oLp (λx:DeS=>[(6,iI x.j),(5,iI x.i),(0,.slice (aG g) a.length c),(1,.func (.func f) #[] C)]) (λx=>.row g (AM Rk.cells x.ys++R)::L) (λx=>x.ys.length=a.length/\x.i<x.j/\x.j<=a.length/\x.ys.take x.i=(a.take x.j).filter (λx => !d x)/\∀t,x.j<=t->x.ys[t]?=a[t]?) (λx=>a.length-x.j) ⟨k,k+1,a⟩ ⟨rfl,Aip _,hk,(Ou hk y K).symm,λ_ _=>rfl⟩ ?_
 rintro⟨i,j,u⟩ ⟨b,M,hj,l,o⟩
 dsimp only at b M hj l o⊢
 have hely:=AP Rk.BK u
 refine J6 ?_
 refine JT (λG=>?_) λG=>?_
 refine J9 ?_
 obtain⟨x,hx⟩:∃x,a[j]?=some x:=Gx
 have O:u[j]?=some x:=(by rw[o j (M2 _)];exact hx)
 have A:a.take (j+1)=a.take j++[x]:=F1
 refine J2 ?_
 refine zV (AA (lo:=j) U U U underlying420 Hu W W) U<|zV (AB (cs:=x.cells) U U Oy.h U (AT (m:=8) (by rw[PP];exact DF Rk.BK O))) U ?_
 refine zy U EL U U<|λT hg7=>J7 ?_
 refine WL.FQ U U U n (.none U) U U<|λP D=>(X P _ [.row T x.cells] x D).mono ?_
 rintro e B ⟨rfl,Z⟩
 refine⟨_,_,rfl,D.ext Z,?_⟩
 generalize q:d x=F
 cases F
 refine J9 ?_
 refine zV (AA (lo:=i) U U U underlying420 Hu W W) U<|WL.FN U U U U Oy.h U Eg (.none U) U ?_
 refine WL.as (L':=.row T x.cells::.row g (AM Rk.cells (u.set i x)++R)::L) (by rw[PP,Jg Rk.BK u i x R (W)]) ?_
 refine J14 ?_
 exact WE.next ⟨i+1,j+1,u.set i x⟩ C7 ⟨by dsimp only;rw[AbI];exact b,C7,C7,by
 dsimp only
 rw[A,List.filter_append,List.filter_cons_of_pos (by rw[q];rfl),List.filter_nil, <- l,Ahz Dm,List.take_set_of_le (M2 _),List.getElem_set_self],λt N=>by dsimp only at N ⊢;rw[Adq W];exact o t W⟩ (.int U C7 (.int U C7 (.cons U (.cons U .nil)))) (Adk _ _)
 refine J12 ?_
 exact WE.next ⟨i,j+1,u⟩ C7 ⟨b,C7,C7,by
 dsimp only
 rw[A,List.filter_append,List.filter_cons_of_neg (by rw[q];decide),List.filter_nil,Acx];exact l,λt N=>by dsimp only at N ⊢;exact o t W⟩ (.int U C7 (.cons U (.cons U (.cons U .nil)))) (Adk _ _)
 refine J12 ?_
 refine zV (HB (lo:=i) U U U underlying420 Hu W W W) U<|WL.clear (s:=8) U U underlying420 EL U U Eg (.none U) U ?_
 refine J6 ?_
 refine zV (Hv (hi:=i) U U U underlying420 Hu W W) U<|J4 ?_
 refine eT1 ?_
 obtain rfl:j=a.length:=W
 rw[Ah6] at l
 have S:(a.filter λx => !d x).length=i:=(by rw[<- l,Ahp];omega)
 refine λB h=>⟨[.row g _],by rw[S],?_,h⟩
 rw[S, <- l]
 refine Vec.row ?_ ?_ W
 .rw [PP,JU (by rw[Ii,AC,hely,b];show _+(a.length-i)*8<=_;omega)]
  exact GR Rk.BK u i R W
 .rw [DZ _ _ _ (by rw[Ii,AC,hely,b];show _+(a.length-i)*8<=_;omega),AC,hely,b]
  exact hcl

theorem Ord1_c(a:Wd)(x:Rk)(g:Nat)(v:Int)(c:a.cell? ⟨g,0,none⟩=some (iI v)):
 Cl 369 #[aA x.cells,pG g] a (RvF (.bool (decide (x.place=v))) a):=by
 refine en0 func369 U ntmps369 U<|J2 ?_
 refine zx U U U U U<|λd b=>J6 ?_
 refine zV (An U U i3o.h (cellAt (v:=iI x.place) U)) U<|J1 ?_
 refine zV (An U U i3o.h ((BY (λh=>h) c))) U<|zV (Ae U U U) U<|?_
 exact Cx
structure OrS where
 ls:List Rk
 ad:Option Addr
 c:Nat
 E:eL
 os:List Int
 oad:Option Addr
 oc:Nat
 Eo:eL
theorem Ach(a:List Int)(x:Int):CN (a++[x])=CN a++[iI x]:=by rw[Aeq];rfl
theorem Agr(C:Wd)(ad:Option Addr)(c:Nat)(f:List CdL)(hr:BH C ad 14 CdL.cells f)(hx:∀x∈f,x.r.a.At C/\x.r.a.Zs)(hn:f.length<=100000):
 Cl 357 #[.slice ad f.length c] C λe T=>∃(n:List Int) (G:Option Addr) (c':Nat) (E:eL),e=.returned (.slice G n.length c')/\Vec 1 G n.length c' (CN n) E/\(∀o∈n,0<=o/\o<(f.length:Int))/\(f≠[]->n≠[])/\n.length<=f.length/\St Fx C T E:=by
 refine en0 func357 U ntmps357 U<|J8 ?_
 refine zK CkO U<|λD k=>(Z8 D ad c f (hr.frm (k.rng λ_ h=>h)) (λx S=>⟨(hx x S).1.frm (k.rng λ_ h=>h),(hx x S).2⟩) hn).mono ?_
 rintro e T ⟨rs,ad7,c7,E7,rfl,hV7,m,t⟩
 refine⟨_,_,rfl,k.join t,?_⟩
 refine J10 ?_
 refine WC.loop (λx:OrS=>[(3,.slice x.ad x.ls.length x.c),(4,.slice x.oad x.os.length x.oc)]) (λx=>x.E++(x.Eo++[])) (λx=>Vec 8 x.ad x.ls.length x.c (AM Rk.cells x.ls) x.E/\Vec 1 x.oad x.os.length x.oc (CN x.os) x.Eo/\(∀r∈x.ls,0<=r.place/\r.place<(f.length:Int))/\(∀o∈x.os,0<=o/\o<(f.length:Int))/\(x.ls.length<f.length->x.os≠[])/\x.os.length+x.ls.length<=f.length) (λx=>x.ls.length) ⟨rs,ad7,c7,E7,[],none,0,[]⟩ ⟨hV7,Vec.nil 1,λr hr=>by
 obtain⟨j,hj,e⟩:=List.mem_iff_getElem.1 hr
 have h1:=m.2 j r (by rw[<- e];exact FS hj)
 have h2:=m.1
 dsimp only at hj
 omega,λo h=>Da,λh=>absurd h (by dsimp only;rw[m.1];exact Nat.lt_irrefl _),by dsimp only;rw[m.1];show 0+_<=_;omega⟩ Km (.refl _) ?_
 rintro⟨l,lad,lc,El,n,oad,oc,X⟩ ⟨u,y,z,A,P,N⟩
 dsimp only at u y z A P N⊢
 refine J5 ?_
 refine JT (λs=>?_) λs=>?_
 refine J8 ?_
 have O:l≠[]:=(by intro e;rw[e] at s;simp at s)
 obtain⟨B,F,rfl,rfl,hcl,K⟩:=u.split O
 simp only[AbT,Aec,Acx]
 refine J1 ?_
 refine zK CkO U<|λD k=>(ZV D (aG B) lc l (CY u λe he=>k.holds e (by rw[Es.1 he];exact Fr)) O W).mono ?_
 rintro e T ⟨r,R,rfl,hF⟩
 refine⟨_,_,rfl,k.ext hF,?_⟩
 refine zy U EL U U<|λi hg5=>J7 ?_
 refine zV (An U U i3o.h (cellAt (v:=iI r.place) U)) U<|zB underlying34 AZ G0 U U<|?_
 intro d hg16
 refine WL.to (L':=X++(.row d [iI r.place]::.row i r.cells::.row B (AM Rk.cells l++F)::[])) (λw h=>St.AJ (L:=.row d [iI r.place]::.row i r.cells::.row B (AM Rk.cells l++F)::X) h)<|WL.AU U U U underlying34 underlying34 AZ by_3 G0 U U y (new:=[iI r.place]) (λ_=>⟨d,0,rfl,λw k=>AL (g:=d) w k⟩) U U W (.none U) U U<|λH c17 b J hr17=>J5 ?_
 refine zV (GO U U U) U<|zK CkO U<|?_
 intro D k
 have h1:St Fx C D (.row B (AM Rk.cells l++F)::(.row i r.cells::b)):=St.AN (L:=b++(.row d [iI r.place]::.row i r.cells::.row B (AM Rk.cells l++F)::[])) [.row d [iI r.place]] k
 refine(DelR_c Fx C D (.row i r.cells::b) B lc l F 369 #[pG i] CkO (λx=>decide (x.place=r.place)) (λw cs M x hSd=>Ord1_c w x i r.place (Row.cell (cs:=r.cells) (hSd.holds (.row i r.cells) (Mu _ (EQ _ Fr))) U)) h1 K hcl W).mono ?_
 rintro e T ⟨Z,rfl,hV',t⟩
 refine⟨_,_,rfl,t,?_⟩
 refine J3 ?_
 have hlt:(l.filter λx => !decide (x.place=r.place)).length<l.length:=List.length_filter_lt_length_iff_exists.2 ⟨r,R,C9⟩
 exact WE.to (L':=Z++b) (λw h=>St.AN (L:=Z++(.row i r.cells::b)) [.row i r.cells] h)<|eW ⟨l.filter λx => !decide (x.place=r.place),_,lc,Z,n++[r.place],H,c17,b⟩ hlt ⟨hV',by dsimp only;rw[Ach,AC];exact J,λq hq=>z q (Aig.1 hq).1,λo Q=>by
  rcases LI.1 Q with Q|Q
  .exact A o Q
  .rw [Es.1 Q];exact z r R,λ_=>by simp,by dsimp only;rw[AC,AbJ];omega⟩ (.cons U (.eq U Dl .nil))
 refine J15 ?_
 refine eT1 ?_
 exact λT h=>⟨n,oad,oc,X,rfl,y,A,λhxs=>P (by have:=List.length_pos_iff.2 hxs;omega),W,St.AN (L:=El++(X++[])) El h⟩

theorem tnew_c(w:Wd)(q:Int):Cl 106 #[iI q] w λe a=>∃g, ∃c:Int,e=.returned (pG g)/\St Fx w a [.row g [.pointer none,iI c,iI 0]]:=by
 refine en0 func106 U ntmps106 U<|J8 ?_
 refine zV (X8 U U U) U<|zV (Abs U U U) U<|?_
 refine J1 ?_
 refine zx U U U U U<|λd b=>J4 ?_
 refine eT1 ?_
 exact λa h=>⟨_,_,rfl,h⟩

def fiL(own:Int)(bl:List Bool):vL:=iI own::bl.map .bool
def blk(bl:List Bool)(i j:Nat):Bool:=bl.getD (i*16+j) false
theorem fiL_at{own:Int}{bl:List Bool}(d:bl.length=256)(b:A<16)(c:B<16):(fiL own bl)[1+A*16+B*1]?=some (.bool (blk bl A B)):=by
 have a:A*16+B<bl.length:=W
 rw[show 1+A*16+B*1=(A*16+B)+1 by omega]
 show(bl.map Value.bool)[A*16+B]?=_
 rw[WF,FS a]
 unfold blk
 rw[Aio,FS a];rfl
theorem OC(w:Wd)(n:Nat)(h:n<16):Cl 202 #[iI n] w (RvF (.bool true) w):=by
 refine en0 func202 U ntmps202 U ?_
 exact Cz
def ofI(h l:Int):Int:=bits .or .i64 (IntKind.i64.wrap (bits .and .i64 h 65535*65536)) (bits .and .i64 l 65535)
theorem Ac6(w:Wd)(h l:Int):Cl 239 #[iI h,iI l] w (RvF (iI (ofI h l)) w):=by
 refine en0 func239 U ntmps239 U<|J8 ?_
 refine zV (HX U U U (rfl)) U<|zV (ND (m:=16) (c:=65536) U U U U (by show 16<=64;omega) U U) U ?_
 refine J1 ?_
 refine zV (HX U U U (rfl)) U<|zV (S9 U U U (rfl)) U<|?_
 exact Cx
def Qx(a:AtL)(v:Int):Bool:=decide (v∈a.comms)
theorem L5(b:Wd)(g:Nat)(a:AtL)(v:Int)(e:b.cell? ⟨g,8,none⟩=some (.slice a.cad a.comms.length a.cc))(c:a.At b)(f:a.Zs):Cl 237 #[iI v,pG g] b (RvF (.bool (Qx a v)) b):=by
 have i:=f.comms
 refine en0 func237 U ntmps237 U<|J8 ?_
 refine zV (An U U S3.h ((BY (λh=>h) e))) U<|J1 ?_
 refine zk CkO U (λw d=>ZY w a.cad a.cc a.comms v ((c.frm (d.rng λ_ h=>h)).comms) W) ?_
 exact Cx
def IM(own:Int)(bl:List Bool)(a:AtL)(c d:Nat)(b:Int):Bool :=
 if c=d then false else if NA a b=true then false else if blk bl c d=true then false else if Qx a 4294967042=true then false else if Qx a 4294967041=true then false
 else if Qx a (ofI own b)=true then true else !Qx a (ofI 0 b) && !Qx a (ofI 0 own)
theorem Acr(h:F.say=H.say)(v:Int):NA F v=NA H v:=by
 unfold AtL.say at h
 rw[Kf.mk.injEq] at h
 have b:=h.2.2.1
 unfold NA
 refine decide_eq_decide.2 ⟨?_,?_⟩
 .rintro ⟨s,a,hv⟩
  have h1:s.say∈H.path.map BR.say:=by rw[<- b];exact Ab5 a
  exact B4
 .rintro ⟨s,a,hv⟩
  have h1:s.say∈F.path.map BR.say:=by rw[b];exact Ab5 a
  exact B4
theorem TG(h:F.say=H.say)(own:Int)(bl:List Bool)(a c:Nat)(b:Int):IM own bl F a c b=IM own bl H a c b:=by
 have d:F.comms=H.comms:=by
  unfold AtL.say at h
  rw[Kf.mk.injEq] at h
  exact h.2.2.2.2.2.2.2.2.1
 unfold IM Qx
 rw[Acr h,d]
theorem Goes_c(m:Wd)(y:Nat)(own:Int)(bl:List Bool)(a:AtL)(e j:Nat)(d:Int)(x:Row m y (fiL own bl))(A:bl.length=256)(f:a.At m)(i:a.Zs)(k:e<16)(l:j<16):
 Cl 155 #[pG y,aA a.cells,iI e,iI j,iI d] m (RvF (.bool (IM own bl a e j d)) m):=by
 refine en0 func155 U ntmps155 U<|J2 ?_
 refine zx U U U U U<|λc z=>J7 ?_
 refine zV (AI false U U underlying143 U) U<|J3 ?_
 refine JT (λv=>?_) λv=>?_
 refine J16 ?_
 refine eT1 ?_
 exact λw' h=>⟨by unfold IM;rw[IR W],h.frm⟩
 refine J4 ?_
 refine zk CkO U (λw b=>V9 w a d (f.frm (b.rng λ_ h=>h)) i) ?_
 generalize hb22:NA a d=n
 cases n
 refine J10 ?_
 refine zk CkO U (λw b=>OC w e k)<|J2 ?_
 refine zk CkO U (λw b=>OC w j l)<|J7 ?_
 refine zS (AG (lo:=e) U U U underlying240 AfN W W) U<|zS (AG (lo:=j) U U U underlying239 S8 W W) U<|zS (An U U i4o.h ((BO (λh=>h) x (fiL_at A k l)))) U ?_
 generalize hb38:blk bl e j=o
 cases o
 refine J8 ?_
 refine zV (GO U U U) U<|J9 ?_
 refine WL.FQ U U U CkO (.none U) U U<|λw b=>Calls.then (L5 w c a 4294967042 (b.cell (g:=c) U) (f.frm (b.rng λ_ h=>h)) i) b ?_
 generalize hb43:Qx a 4294967042=q
 cases q
 refine J6 ?_
 refine WL.FQ U U U CkO (.none U) U U<|λw b=>Calls.then (L5 w c a 4294967041 (b.cell (g:=c) U) (f.frm (b.rng λ_ h=>h)) i) b ?_
 generalize hb45:Qx a 4294967041=r
 cases r
 refine J10 ?_
 refine zV (An U U i3o.h ((BO (λh=>h) x U))) U<|J1 ?_
 refine zk CkO U (λw b=>Ac6 w own d)<|WL.FQ U U U CkO (.none U) U U<|?_
 intro w b
 refine Calls.then (L5 w c a (ofI own d) (b.cell (g:=c) U) (f.frm (b.rng λ_ h=>h)) i) b ?_
 generalize hb54:Qx a (ofI own d)=s
 cases s
 refine J11 ?_
 refine zk CkO U (λw b=>Ac6 w 0 d)<|WL.FQ U U U CkO (.none U) U U<|?_
 intro w b
 refine Calls.then (L5 w c a (ofI 0 d) (b.cell (g:=c) U) (f.frm (b.rng λ_ h=>h)) i) b ?_
 generalize hb58:Qx a (ofI 0 d)=t
 cases t
 refine J6 ?_
 refine zS (An U U i3o.h ((BO (λh=>h) x U))) U<|zk CkO U (λw b=>Ac6 w 0 own)<|WL.FQ U U U CkO (.some U U U) U U<|?_
 intro w b
 refine Calls.then (L5 w c a (ofI 0 own) (b.cell (g:=c) U) (f.frm (b.rng λ_ h=>h)) i) b ?_
 generalize hb67:Qx a (ofI 0 own)=u
 cases u
 exact Bc
 exact Bc
 refine J15 ?_
 refine eT1 ?_
 exact λw' h=>⟨by unfold IM;rw[E9 W,hb22,E9 C8,hb38,E9 C8,hb43,E9 C8,hb45,E9 C8,hb54,E9 C8,hb58];rfl,h.frm⟩
 refine J12 ?_
 refine eT1 ?_
 exact λw' h=>⟨by unfold IM;rw[E9 W,hb22,E9 C8,hb38,E9 C8,hb43,E9 C8,hb45,E9 C8,IR hb54],h.frm⟩
 refine J12 ?_
 refine eT1 ?_
 exact λw' h=>⟨by unfold IM;rw[E9 W,hb22,E9 C8,hb38,E9 C8,hb43,E9 C8,IR hb45],h.frm⟩
 refine J15 ?_
 refine eT1 ?_
 exact λw' h=>⟨by unfold IM;rw[E9 W,hb22,E9 C8,hb38,E9 C8,IR hb43],h.frm⟩
 refine J11 ?_
 refine eT1 ?_
 exact λw' h=>⟨by unfold IM;rw[E9 W,hb22,E9 C8,IR hb38],h.frm⟩
 refine J11 ?_
 refine eT1 ?_
 exact λw' h=>⟨by unfold IM;rw[E9 W,IR hb22],h.frm⟩

structure Mb where
 g:Nat
 sy:Int
 id:Int
 there:Bool
 rib:Rib
 bm:Nat
 bes:Array MapEntry
 bc:Nat
 BM:Vl->Option Vl
 nm:Nat
 nes:Array MapEntry
 nc:Nat
 NM:Vl->Option Vl
 K:eL
def Mb.cells(m:Mb):vL:=[iI m.sy,.int .u32 m.id,.bool m.there,pG m.rib.r,.map (some m.bm),.map (some m.nm)]
def Mb.AE(m:Mb):eL:=.row m.g m.cells::(m.rib.AE++(.obj m.bm (.map m.bes m.bc)::.obj m.nm (.map m.nes m.nc)::m.K))
structure Sv where
 s:Nat
 mb:Nat
 mc:Nat
 R:vL
 gf:Nat
 own:Int
 bl:List Bool
 ms:List Mb
 S:List PfL
def Sv.FL(v:Sv):vL:=v.ms.map λm=>pG m.g
def Sv.head(v:Sv):eL:=[.row v.s [.slice (aG v.mb) v.ms.length v.mc,pG v.gf],.row v.mb (v.FL++v.R),.row v.gf (fiL v.own v.bl)]
def Sv.AE(v:Sv):eL:=v.head++v.ms.flatMap Mb.AE
theorem Sv.mem{v:Sv}{m:Mb}(h:v.ms[A]?=some m):∀e∈m.AE,e∈v.AE:=λ_ a=>Mu _ (List.mem_flatMap.2 ⟨m,Do h,a⟩)
theorem Sv.Sp{v:Sv}{m:Mb}(h:v.ms[A]?=some m):(v.FL++v.R)[0+A*1]?=some (pG m.g):=by
 have a:=(Eu.1 h).1
 rw[PP,Aed,Ae9 (by unfold Sv.FL;rw[Ri];exact a)]
 unfold Sv.FL
 rw[WF,h];rfl
structure SvH(v:Sv)(w:Wd):Prop where
 s:Row w v.s [.slice (aG v.mb) v.ms.length v.mc,pG v.gf]
 mb:Row w v.mb (v.FL++v.R)
 gf:Row w v.gf (fiL v.own v.bl)
 ms:∀(k:Nat) (m:Mb),v.ms[k]?=some m->∀e∈m.AE,e.holds w
theorem SvH.of{v:Sv}{w:Wd}(h:∀e∈v.AE,e.holds w):SvH v w :=
 ⟨h _ Fr,h _ (EQ _ Fr),h _ (EQ _ (EQ _ Fr)),λ_ _ b e a=>h e (Sv.mem b e a)⟩
theorem Row.st{a w:Wd}{L:eL}(h:Row a A D)(b:St Fx a w L):Row w A D:=b.Ae0 (λh=>h) h
theorem SvH.st{v:Sv}{b w:Wd}{L:eL}(h:SvH v b)(a:St Fx b w L):SvH v w :=
 ⟨h.s.st a,h.mb.st a,h.gf.st a,λk m c=>JP (h.ms k m c) a⟩
structure Mb.Ins(S:List PfL)(m:Mb):Prop where
 rib:∀p,BP p=true->U32 p.addr->m.rib.T.get p.bits≠none->p∈S
 best:∀q,m.BM q≠none->∃p∈S,q=aA p.cells
 news:∀q,m.NM q≠none->∃p∈S,q=aA p.cells
structure Sv.Ok(v:Sv):Prop where
 few:v.S.length<=5000
 ins:∀m∈v.ms,m.Ins v.S
 n:0<v.ms.length/\v.ms.length<=16
 bl:v.bl.length=256
 rib:∀(k:Nat) (m:Mb),v.ms[k]?=some m->m.rib.T.Ok G1/\m.rib.peer=(k:Int)
 best:∀m∈v.ms,CP KPf m.bes m.BM/\MapKept.Stamped m.bes m.bc/\∀k u,m.BM k=some u->∃r:RtL,u=aA r.cells/\G1 m.K r.a
 news:∀m∈v.ms,CP KPf m.nes m.NM/\MapKept.Stamped m.nes m.nc/\∀k u,m.NM k=some u->u=.agg #[]
theorem OM(d:Wd)(v:Sv)(n:Int)(c:SvH v d)(_:v.ms.length<=16):
 Cl 107 #[pG v.s,iI n] d λe a=>∃A:Option Addr,e=.returned (.pointer A)/\((A=none/\¬(0<=n/\n<(v.ms.length:Int)))\/∃(k:Nat) (m:Mb),n=(k:Int)/\v.ms[k]?=some m/\A=aG m.g)/\Frm Fx d a:=by
 refine en0 func107 U ntmps107 U<|J9 ?_
 refine zV (AI false U U underlying63 U) U<|J2 ?_
 refine JT (λi=>?_) λi=>?_
 refine J20 ?_
 refine eT1 ?_
 exact λa h=>⟨none,rfl,.inl ⟨rfl,W⟩,h.frm⟩
 refine J6 ?_
 refine zS (An U U RO.h ((BO (λh=>h) c.s U))) U<|J1 ?_
 refine JT (λb=>?_) λb=>?_
 refine J11 ?_
 refine eT1 ?_
 exact λa h=>⟨none,rfl,.inl ⟨rfl,W⟩,h.frm⟩
 refine J11 ?_
 refine zV (An U U RO.h ((BO (λh=>h) c.s U))) U<|J1 ?_
 obtain⟨k,rfl⟩:∃k:Nat,n=(k:Int):=⟨n.toNat,W⟩
 obtain⟨m,f⟩:∃m,v.ms[k]?=some m:=Gx
 refine zV (AA (lo:=k) U U U underlying145 PL W W) U<|zV (An U U OT ((BO (λh=>h) c.mb (Sv.Sp f)))) U<|J4 ?_
 refine eT1 ?_
 exact λa h=>⟨_,rfl,.inr ⟨k,m,rfl,f,rfl⟩,h.frm⟩
theorem Z7(f:Wd)(b:Rib)(p:PfL)(q:U32 p.addr)(k:BP p=true)(g:b.T.Ok G1)(o:∀e∈b.AE,e.holds f):
 Cl 154 #[pG b.r,aA p.cells] f λe l=>∃(r:RtL) (K:eL),e=.returned (.tuple #[aA r.cells,.bool (b.T.get p.bits).isSome])/\St Fx f l K/\∀a,b.T.get p.bits=some a->r.peer=b.peer/\r.net=p/\r.a.say=a.say/\G1 K r.a:=by
 refine(RGet_c f b p q k g o).mono ?_
 rintro e l (⟨c,rfl,n⟩|⟨a,m,K,c,d,i,rfl,j⟩)
 .exact ⟨_,[],by rw[c];rfl,(St.start _ _).ext n,λa h=>by rw[c] at h;cases h⟩
 .refine ⟨⟨b.peer,p,m⟩,K,by rw[c];rfl,j,λs h=>?_⟩
  rw[c] at h;cases h
  exact⟨rfl,rfl,d,i⟩
def CdL.key(x:CdL):Int×PfL×Kf×Int:=(x.r.peer,x.r.net,x.r.a.say,x.id)
def JS(b:List Mb)(p:PfL):List (Int×PfL×Kf×Int):=b.filterMap λm=>(m.rib.T.get p.bits).map λa=>(m.rib.peer,p,a.say,m.id)
structure SaR where
 r:RtL
 K:eL
 g:Nat
structure SaS where
 k:Nat
 xs:List CdL
 ad:Option Addr
 c:Nat
 E:eL
 K:eL
theorem Yt(O:Wd)(v:Sv)(p:PfL)(Q:SvH v O)(hO:v.Ok)(hp:U32 p.addr)(J:BP p=true):
 Cl 113 #[pG v.s,aA p.cells] O λe R=>∃(j:List CdL) (z:Option Addr) (c:Nat) (E K:eL),e=.returned (.slice z j.length c)/\Vec 14 z j.length c (AM CdL.cells j) E/\(∀x∈j,G1 K x.r.a)/\j.map CdL.key=JS v.ms p/\St Fx O R (E++K):=by
 have hn:=hO.n
 refine en0 func113 U ntmps113 U<|J2 ?_
 refine zx U U U U U<|λg3 hg3=>J14 ?_
 refine zV (An U U RO.h ((BO (λh=>h) Q.s U))) U<|J5 ?_
 refine oLp (λx:SaS=>[(15,iI x.k),(14,iI v.ms.length),(13,.slice (aG v.mb) v.ms.length v.mc),(5,.slice x.ad x.xs.length x.c),(3,pG g3)]) (λx=>.row g3 p.cells::(x.E++x.K)) (λx=>x.k<=v.ms.length/\x.xs.length<=x.k/\Vec 14 x.ad x.xs.length x.c (AM CdL.cells x.xs) x.E/\(∀y∈x.xs,G1 x.K y.r.a)/\x.xs.map CdL.key=JS (v.ms.take x.k) p) (λx=>v.ms.length-x.k) ⟨0,[],none,0,[],[]⟩ ⟨Lv _,M2 _,Vec.nil 14,λy h=>Da,rfl⟩ ?_
 rintro⟨k,j,z,c,E,K⟩ ⟨hk,hxl,P,i,b⟩
 dsimp only at hk hxl P i b⊢
 refine J2 ?_
 refine JT (λZ=>?_) λZ=>?_
 refine J10 ?_
 obtain⟨m,G⟩:∃m,v.ms[k]?=some m:=Gx
 have q:Row O m.g m.cells:=Q.ms k m G _ Fr
 have o:=hO.rib k m G
 have H:∀e∈m.rib.AE,e.holds O:=λe D=>Q.ms k m G e (EQ _ (Ha _ D))
 have N:v.ms.take (k+1)=v.ms.take k++[m]:=(by rw[AhG,G];rfl)
 refine zV (AA (lo:=k) U U U underlying145 PL W W) U<|zV (An U U OT ((BO (λh=>h) Q.mb (Sv.Sp G)))) U<|J3 ?_
 refine WC.cut (λx:SaR=>[(8,pG x.g),(9,.bool (m.rib.T.get p.bits).isSome),(7,pG m.g),(15,iI k),(14,iI v.ms.length),(13,.slice (aG v.mb) v.ms.length v.mc),(5,.slice z j.length c),(3,pG g3)]) (λx=>.row x.g x.r.cells::(x.K++(.row g3 p.cells::(E++K)))) (λx=>∀a,m.rib.T.get p.bits=some a->x.r.peer=m.rib.peer/\x.r.net=p/\x.r.a.say=a.say/\G1 x.K x.r.a) ?_ ?_
 refine WC.held ([.row g3 p.cells]) mixed<|WRH.first (g:=7) [0,1,2,3,4] C6 C6 kp<|J3 ?_
 refine zj (An U U W3.h ((BO (λh=>h) q U))) U<|J1 ?_
 refine WH.nil<|WRH.each (g:=6) [5,9] C6 C8<|⟨?_,?_⟩
 refine zK CkO U<|λw2 l=>(Z7 w2 m.rib p hp J o.1 (JP H l)).mono ?_
 rintro e R ⟨r,K',rfl,u,hgot⟩
 refine⟨_,_,rfl,l.join u,?_⟩
 refine WL.BL kp<|WRH.first (g:=3) [6,7,8] C6 C6 kp<|J3 ?_
 refine WH.nil<|WRH.one (g:=2) 9 C6<|zy U GK.h U U<|λg8 hg8=>WL.BL kp ?_
 exact A3
 refine zy U GK.h U U<|λg8 hg8=>WL.BL kp<|WRH.one (g:=5) 5 C6<|zK CkO U<|λw2 l=>(Z7 w2 m.rib p hp J o.1 (JP H l)).mono ?_
 rintro e R ⟨r,K',rfl,u,hgot⟩
 refine⟨_,_,rfl,l.join u,?_⟩
 refine WL.BL kp<|WRH.first (g:=2) [6,7,8] C6 C6 kp<|J3 ?_
 refine WH.nil ?_
 exact A3
 rintro⟨r,K',g8⟩ hgot
 dsimp only at hgot⊢
 refine J3 ?_
 generalize d:(m.rib.T.get p.bits).isSome=S
 cases S
 refine J10 ?_
 exact WE.to (L':=.row g3 p.cells::(E++K)) (λw h=>St.AN (L:=.row g8 r.cells::(K'++(.row g3 p.cells::(E++K)))) (.row g8 r.cells::K') h)<|eW ⟨k+1,j,z,c,E,K⟩ C7 ⟨C7,C7,P,i,by
  dsimp only
  rw[N]
  unfold JS at b ⊢
  rw[List.filterMap_append, <- b]
  have hg:m.rib.T.get p.bits=none:=(by cases hc:m.rib.T.get p.bits with|none=>rfl|some a=>rw[hc] at d;cases d)
  simp[hg]⟩
 refine J3 ?_
 refine WC.AS mixed<|rF 6 [0,2,3,4,5]<|?_
 refine J6 ?_
 refine rA 3 [1,6,7] U<|qV (AB (cs:=r.cells) U U P9.h (RtL.BK r) λw l=>AL (g:=g8) w l) U<|qV (An U U W6.h ((BO (λh=>h) q U))) U<|?_
 refine J2 ?_
 refine rO 1 [8,9]<|zB underlying252 LJ TJ.h U U<|?_
 intro f hg37
 refine WL.to (L':=E++(.row f (CdL.cells ⟨r,m.id⟩)::.row g3 p.cells::(K'++K))) (λw h=>St.AN (L:=.row f (CdL.cells ⟨r,m.id⟩)::.row g8 r.cells::(K'++(.row g3 p.cells::(E++K)))) [.row g8 r.cells] h)<|WL.AU U U U underlying252 underlying252 LJ AdP TJ.h U U P (new:=CdL.cells ⟨r,m.id⟩) (λ_=>⟨f,0,rfl,λw l=>AL (g:=f) w l⟩) U (BD CdL.one _) W (.none U) U U<|λB X t C hr38=>J1 ?_
 refine rF 0 [10]<|J9 ?_
 obtain⟨a,F⟩:∃a,m.rib.T.get p.bits=some a:=(by cases hc:m.rib.T.get p.bits with|none=>(rw[hc] at d;cases d)|some a=>exact⟨a,rfl⟩)
 obtain⟨hr1,hr2,hr3,M⟩:=hgot a F
 exact WE.to (L':=.row g3 p.cells::(t++(K'++K))) (λw h=>St.AN (L:=t++(.row f (CdL.cells ⟨r,m.id⟩)::.row g3 p.cells::(K'++K))) [.row f (CdL.cells ⟨r,m.id⟩)] h)<|eW ⟨k+1,j++[⟨r,m.id⟩],B,X,t,K'++K⟩ C7 ⟨C7,by dsimp only;rw[AC,AbJ];omega,by dsimp only;rw[AX,AC];exact C,λy A=>by
  rcases LI.1 A with A|A
  .exact ⟨(i y A).1.mono λe D=>Mu _ D,(i y A).2⟩
  .rw [Es.1 A];exact⟨M.1.mono λe D=>Ha _ D,M.2⟩,by
  dsimp only
  rw[N]
  unfold JS at b ⊢
  rw[List.filterMap_append,Ai7, <- b]
  congr 1
  simp only[List.filterMap_cons,F,Option.map_some,List.filterMap_nil,Acu,List.map_nil]
  unfold CdL.key
  rw[hr1,hr2,hr3]⟩ (.int U C7 (.cons U (.cons U (.eq U Dl (.cons U .nil)))))
 refine J16 ?_
 refine eT1 ?_
 refine λR h=>⟨j,z,c,E,K,rfl,P,i,?_,h.tail⟩
 rw[b,Aco W]

def goF(v:Sv)(c:Nat)(b:Int)(x:CdL):Bool:=IM v.own v.bl x.r.a x.r.peer.toNat c b
def IF(v:Sv)(c:Nat)(b:Int)(p:PfL):Prop:=∃(k:Nat) (m:Mb) (a:AtL),v.ms[k]?=some m/\m.rib.T.get p.bits=some a/\IM v.own v.bl a k c b=true
theorem No{d:List Mb}{p:PfL}{y:Int×PfL×Kf×Int}:y∈JS d p<->∃m∈d, ∃a,m.rib.T.get p.bits=some a/\y=(m.rib.peer,p,a.say,m.id):=by
 unfold JS
 rw[List.mem_filterMap]
 constructor
 .rintro ⟨m,c,h⟩
  cases b:m.rib.T.get p.bits with
  | none=>rw[b] at h;cases h
  | some a=>rw[b] at h;cases h;exact⟨m,c,a,b,rfl⟩
 .rintro ⟨m,c,a,b,rfl⟩
  exact⟨m,c,by rw[b];rfl⟩
theorem AaX{v:Sv}(s:v.Ok){u:Nat}{t:Int}{p:PfL}{i:List CdL}(h:i.map CdL.key=JS v.ms p):i.filter (goF v u t)≠[]<->IF v u t p:=by
 have f:∀x∈i, ∃(k:Nat) (m:Mb) (a:AtL),v.ms[k]?=some m/\m.rib.T.get p.bits=some a/\x.r.peer=(k:Int)/\x.r.a.say=a.say:=λx g=>by
  have b:x.key∈JS v.ms p:=by rw[<- h];exact Ab5 g
  obtain⟨m,w,a,c,e⟩:=No.1 b
  obtain⟨k,hk,rfl⟩:=List.mem_iff_getElem.1 w
  have d:=FS hk
  unfold CdL.key at e
  rw[Prod.mk.injEq,Prod.mk.injEq,Prod.mk.injEq] at e
  exact⟨k,_,a,d,c,by rw[e.1,(s.rib k _ d).2],e.2.2.1⟩
 constructor
 .intro o
  obtain⟨x,g⟩:=List.exists_mem_of_ne_nil _ o
  obtain⟨q,c⟩:=Aig.1 g
  obtain⟨k,m,a,b,j,l,n⟩:=f x q
  refine⟨k,m,a,b,j,?_⟩
  unfold goF at c
  rw[l,Int.toNat_natCast,TG n] at c
  exact c
 .rintro ⟨k,m,a,b,j,l⟩
  have n:(m.rib.peer,p,a.say,m.id)∈i.map CdL.key:=by rw[h];exact No.2 ⟨m,Do b,a,j,rfl⟩
  obtain⟨x,g,e⟩:=Ab8.1 n
  unfold CdL.key at e
  rw[Prod.mk.injEq,Prod.mk.injEq,Prod.mk.injEq] at e
  refine List.ne_nil_of_mem (Aig.2 ⟨g,?_⟩)
  unfold goF
  rw[e.1,(s.rib k m b).2,Int.toNat_natCast,TG e.2.2.1]
  exact l
theorem AgD(b:Wd)(v:Sv)(k:Nat)(m:Mb)(i:SvH v b)(o:v.ms.length<=16)(c:v.ms[k]?=some m):
 Cl 80 #[pG v.s,iI k] b (RvF (.bool m.there) b):=by
 have hk:=(Eu.1 c).1
 have a:Row b m.g m.cells:=i.ms k m c _ Fr
 refine en0 func80 U ntmps80 U<|J9 ?_
 refine zK CkO U<|λw f=>Calls.then ((OM w v k (i.st f) o).mono (by
 rintro e u ⟨A,rfl,h,n⟩
 have l:A=aG m.g:=(by
  rcases h with⟨_,h⟩|⟨q,t,r,d,j⟩
  .exact absurd ⟨W,W⟩ h
  .obtain rfl:k=q:=W
   rw[c] at d;cases d;exact j)
 exact⟨by rw[l],n⟩)) f ?_
 refine J6 ?_
 refine zV (Nr true U U underlying148 U) U<|J4 ?_
 refine zS (An U U i4o.h ((BO (λh=>h) a U))) U<|J5 ?_
 exact Aw
structure OfS where
 k:Nat
 ys:List CdL
 ad:Option Addr
 c:Nat
 E:eL
theorem Tc(y:Wd)(v:Sv)(i:Nat)(mt:Mb)(ad:Option Addr)(c:Nat)(d:List CdL)(J:SvH v y)(hO:v.Ok)(t:v.ms[i]?=some mt)(hr:BH y ad 14 CdL.cells d)(hx:∀x∈d,x.r.a.At y/\x.r.a.Zs)(hp:∀x∈d, ∃j:Nat,j<16/\x.r.peer=(j:Int))(hn:d.length<=100000):
 Cl 203 #[pG v.s,iI i,.slice ad d.length c] y λe w'=>∃(z:Option Addr) (Z:Nat) (E:eL),e=.returned (.slice z (d.filter (goF v i mt.sy)).length Z)/\Vec 14 z (d.filter (goF v i mt.sy)).length Z (AM CdL.cells (d.filter (goF v i mt.sy))) E/\St Fx y w' E:=by
 have hk:=(Eu.1 t).1
 have hl16:=hO.n.2
 have G:Row y mt.g mt.cells:=J.ms i mt t _ Fr
 refine en0 func203 U ntmps203 U<|J10 ?_
 refine zV (An U U RO.h ((BO (λh=>h) J.s U))) U<|J1 ?_
 refine zV (AA (lo:=i) U U U underlying145 PL W W) U<|zV (An U U OT ((BO (λh=>h) J.mb (Sv.Sp t)))) U<|J3 ?_
 refine zV (An U U i3o.h ((BO (λh=>h) G U))) U<|J17 ?_
 refine oLp (λx:OfS=>[(24,iI x.k),(23,iI d.length),(22,.slice ad d.length c),(8,.slice x.ad x.ys.length x.c),(0,pG v.s),(1,iI i),(7,iI mt.sy)]) (λx=>x.E++[]) (λx=>x.k<=d.length/\x.ys=(d.take x.k).filter (goF v i mt.sy)/\Vec 14 x.ad x.ys.length x.c (AM CdL.cells x.ys) x.E) (λx=>d.length-x.k) ⟨0,[],none,0,[]⟩ ⟨Lv _,rfl,Vec.nil 14⟩ ?_
 rintro⟨k,X,N,yc,E⟩ ⟨T,f,C⟩
 dsimp only at T f C⊢
 have hyl:X.length<=k:=(by rw[f];exact AcC (List.length_filter_le _ _) (by rw[Ahp];omega))
 refine J2 ?_
 refine JT (λS=>?_) λS=>?_
 refine J10 ?_
 obtain⟨x,u⟩:∃x,d[k]?=some x:=Gx
 obtain⟨b1,o1,ea,r1⟩:=hr k x u
 have K:=Do u
 have M:=hx x K
 obtain⟨j,F,q⟩:=hp x K
 have H:d.take (k+1)=d.take k++[x]:=(by rw[AhG,u];rfl)
 refine zV ((AA (b:=b1) (off:=o1) (lo:=k) U Dk U underlying252 LJ U W)) U ?_
 refine zV (AB (cs:=x.cells) U U i345m.h U (DP (λh=>h) r1)) U<|zy U TJ.h U U<|?_
 intro B hg10
 refine J4 ?_
 refine cQ mixed<|J3 ?_
 refine qV (An U U OS ((BO (λh=>h) J.s U))) U<|J2 ?_
 refine qV (AB (cs:=x.r.a.cells) U U JZ.h U (AT (m:=10) U)) U<|J2 ?_
 refine qV (An U U i3o.h (cellAt (v:=iI (j:Int)) (by show some (Value.int .i64 x.r.peer)=_;rw[q]))) U ?_
 refine J2 ?_
 refine qC CkO U (λw O=>Goes_c w v.gf v.own v.bl x.r.a j i mt.sy (J.gf.st O) hO.bl (M.1.frm (O.rng λ_ h=>h)) M.2 F W) ?_
 generalize o:IM v.own v.bl x.r.a j i mt.sy=Q
 cases Q
 refine J10 ?_
 exact WE.next ⟨k+1,X,N,yc,E⟩ C7 ⟨C7,by
 dsimp only
 rw[H,List.filter_append, <- f,List.filter_cons_of_neg (by unfold goF;rw[q,Int.toNat_natCast,o];decide),List.filter_nil,Acx],C⟩ (.int U C7 (.cons U (.cons U (.cons U (.cons U (.cons U (.cons U .nil))))))) (Adk _ _)
 refine J6 ?_
 refine zB underlying252 LJ TJ.h U U<|λl hg43=>WL.to (L':=E++(.row l x.cells::.row B x.cells::[])) (λw h=>St.AJ (L:=.row l x.cells::.row B x.cells::(E++[])) h)<|WL.AU U U U underlying252 underlying252 LJ AdP TJ.h U U C (new:=x.cells) (λ_=>⟨l,0,rfl,λw O=>AL (g:=l) w O⟩) U (BD CdL.one _) W (.none U) U U<|λA R P D hr44=>J8 ?_
 exact WE.next ⟨k+1,X++[x],A,R,P⟩ C7 ⟨C7,by
 dsimp only
 rw[H,List.filter_append, <- f,List.filter_cons_of_pos (by unfold goF;rw[q,Int.toNat_natCast,o]),List.filter_nil],by dsimp only;rw[AX,AC];exact D⟩ (.int U C7 (.cons U (.cons U (.eq U Dl (.cons U (.cons U (.cons U .nil))))))) (Acq (Aix _) _)
 refine J16 ?_
 refine eT1 ?_
 refine λw' h=>⟨N,yc,E,?_,?_,h.sub (Acy _ _)⟩
 .rw [f,Aco W]
 .rw [f,Aco W] at C;exact C

theorem Abd{a:vL}{j:Nat}(h:seg D A B=a)(b:j<=B):seg D A j=a.take j:=by
 rw[<- h]
 unfold seg
 rw[List.take_take,Nat.min_eq_left b]
structure OrT where
 k:Nat
 rs:List RtL
 ad:Option Addr
 c:Nat
 E:eL
theorem Ac7(w0:Wd)(v:Sv)(J:Nat)(mt:Mb)(p:PfL)(hv:SvH v w0)(hO:v.Ok)(N:v.ms[J]?=some mt)(hp:U32 p.addr)(hok:BP p=true):
 Cl 321 #[pG v.s,iI J,aA p.cells] w0 λe X=>∃(F:List RtL) (ad:Option Addr) (c:Nat) (E:eL),e=.returned (.slice ad F.length c)/\Vec 13 ad F.length c (AM RtL.cells F) E/\(F≠[]<->IF v J mt.sy p)/\(∀r∈F, ∃j:Nat,j<v.ms.length/\r.peer=(j:Int))/\F.length<=16/\St Fx w0 X E:=by
 have hn:=hO.n
 have hk:=(Eu.1 N).1
 refine en0 func321 U ntmps321 U<|J2 ?_
 refine zx U U U U U<|λg5 hg5=>J8 ?_
 refine zK CkO U<|λw b=>Calls.then ((OM w v J (hv.st b) hn.2).mono (by
 rintro e X ⟨A,rfl,h,hF⟩
 have hA:A=aG mt.g:=(by
  rcases h with⟨_,h⟩|⟨k',m',e1,e2,e3⟩
  .exact absurd ⟨W,W⟩ h
  .obtain rfl:J=k':=W
   rw[N] at e2;cases e2;exact e3)
 exact⟨by rw[hA],hF⟩)) b ?_
 refine zV (AI false U U underlying148 U) U<|J11 ?_
 refine zK CkO U<|λS b=>(Yt S v p (hv.st b) hO hp hok).mono ?_
 rintro e X ⟨xs,xad,xc,Ex,Kx,rfl,hVx,z,i,f⟩
 refine⟨_,_,rfl,b.join f,?_⟩
 have hxl:xs.length<=v.ms.length:=(by
  have G:=If List.length i
  rw[Ri] at G
  rw[G];exact List.length_filterMap_le _ _)
 have l:∀x∈xs, ∃j:Nat,j<v.ms.length/\x.r.peer=(j:Int):=(λx T=>by
  have G:x.key∈JS v.ms p:=(by rw[<- i];exact Ab5 T)
  obtain⟨m,hm,a,hg,e⟩:=No.1 G
  obtain⟨k,hk,rfl⟩:=List.mem_iff_getElem.1 hm
  unfold CdL.key at e
  rw[Prod.mk.injEq] at e
  exact⟨k,hk,by rw[e.1,(hO.rib k _ (FS hk)).2]⟩)
 obtain⟨t,D⟩:∃t,t=xs.filter (goF v J mt.sy):=⟨_,rfl⟩
 have hyl:t.length<=v.ms.length:=(by rw[D];exact AcC (List.length_filter_le _ _) hxl)
 have Q:∀y∈t,y∈xs:=λy d=>(by rw[D] at d;exact(Aig.1 d).1)
 have hoff:t≠[]<->IF v J mt.sy p:=(by rw[D];exact AaX hO i)
 refine zK CkO U<|λS b=>(Tc S v J mt xad xc xs (hv.st b) hO N (Ct CdL.BK C8 (CY hVx λe M=>b.holds e (Ha _ (Ha _ M)))) (λx T=>⟨(z x T).1 S λe M=>b.holds e (Ha _ (Mu _ M)),(z x T).2⟩) (λx T=>by obtain⟨j,hj,e⟩:=l x T;exact⟨j,W,e⟩) W).mono ?_
 rw[<- D]
 rintro e X ⟨yad,yc,Ey,rfl,hVy,f⟩
 refine⟨_,_,rfl,b.join f,?_⟩
 refine J12 ?_
 refine zK CkO U<|λS b=>(Agr S yad yc t (Ct CdL.BK C8 (CY hVy λe M=>b.holds e (Ha _ M))) (λy d=>⟨(z y (Q y d)).1 S λe M=>b.holds e (Mu _ (Ha _ (Mu _ M))),(z y (Q y d)).2⟩) W).mono ?_
 rintro e X ⟨q,oad,oc,Eo,rfl,hVo,hob,hone,hol,f⟩
 refine⟨_,Eo++(Ey++((Ex++Kx)++[.row g5 p.cells])),rfl,b.join f,?_⟩
 refine J5 ?_
 refine WC.loop (λx:OrT=>[(24,iI x.k),(23,iI q.length),(22,.slice oad q.length oc),(7,.slice yad t.length yc),(8,.slice x.ad x.rs.length x.c)]) (λx=>x.E++(Eo++(Ey++[]))) (λx=>x.k<=q.length/\x.rs.length=x.k/\Vec 13 x.ad x.rs.length x.c (AM RtL.cells x.rs) x.E/\∀r∈x.rs, ∃y∈t,r=y.r) (λx=>q.length-x.k) ⟨0,[],none,0,[]⟩ ⟨Lv _,rfl,Vec.nil 13,λr h=>Da⟩ Km (Acq (Acq (Aix _) _) _) ?_
 rintro⟨k,F,rad,rc,Er⟩ ⟨hk2,P,K,C⟩
 dsimp only at hk2 P K C⊢
 refine J2 ?_
 refine JT (λh25=>?_) λh25=>?_
 refine J10 ?_
 obtain⟨o,H⟩:∃o,q[k]?=some o:=Gx
 have ho:=hob o (Do H)
 obtain⟨on,rfl⟩:∃on:Nat,o=(on:Int):=⟨o.toNat,W⟩
 obtain⟨y,d⟩:∃y,t[on]?=some y:=Gx
 obtain⟨go,Z,rfl,rfl,hocl,hocap⟩:∃go Z,oad=aG go/\Eo=[.row go (CN q++Z)]/\(CN q++Z).length=oc*1/\q.length<=oc:=(by
  rcases hVo with⟨_,h,_⟩|⟨g,cs,e1,e2,e3,e4,e5⟩
  .omega
  .exact ⟨g,cs.drop (q.length*1),e1,by rw[e2, <- e3,AeN],by rw[<- e3,AeN];exact e4,e5⟩)
 obtain⟨gy,Ry,rfl,rfl,hycl,hycap⟩:=hVy.split (by intro e;rw[e] at d;cases d)
 simp only[AbT,Aec]
 refine zV (AA (lo:=k) U U U underlying34 AZ W W) U<|zV (An U U i3o.h ((cellAt (cs:=CN q++Z) (by rw[PP,Aed,Ae9 (by rw[HJ];omega)];exact Ip H)))) U ?_
 refine J7 ?_
 refine zV (AA (lo:=on) U U U underlying252 LJ W W) U<|J1 ?_
 refine WL.val (AB (cs:=y.r.cells) U U P9.h (RtL.BK y.r) (AT (cs:=AM CdL.cells t++Ry) (m:=13) (by
 have G:=DF CdL.BK (R:=Ry) d
 rw[PP]
 exact Abd G (Nat.le_succ 13)))) (.none U) U U ?_
 refine zB underlying170 Ho GK.h U U<|λu hg34=>?_
 obtain⟨T0,hT0⟩:∃T0:eL,T0=[.row go (CN q++Z),.row gy (AM CdL.cells t++Ry)]:=⟨_,rfl⟩
 refine WL.to (L':=Er++(.row u y.r.cells::T0)) (λw h=>St.AJ (L:=.row u y.r.cells::(Er++T0)) Fp) ?_
 refine WL.AU U U U underlying170 underlying170 Ho UK GK.h U U K (new:=y.r.cells) (λ_=>⟨u,0,rfl,λw b=>AL (g:=u) w b⟩) U (BD RtL.one _) W (.none U) U U<|λaa c35 E35 hV35 hr35=>J8 ?_
 exact WE.next ⟨k+1,F++[y.r],aa,c35,E35⟩ C7 ⟨C7,by dsimp only;rw[AC,AbJ];omega,by dsimp only;rw[AX,AC];exact hV35,λr B=>by
 rcases LI.1 B with B|B
 .exact C r B
 .rw [Es.1 B];exact⟨y,Do d,rfl⟩⟩ (.int U C7 (.cons U (.cons U (.cons U (.eq U Dl .nil))))) Dv
 refine J16 ?_
 refine eT1 ?_
 refine λX h=>⟨F,rad,rc,Er,rfl,K,?_,λr B=>?_,W,h.sub (Acy _ _)⟩
 .rw [<- hoff]
  constructor
  .intro O e
   obtain⟨r,B⟩:=List.exists_mem_of_ne_nil _ O
   obtain⟨y,d,_⟩:=C r B
   rw[e] at d;cases d
  .intro O e
   have G:=hone O
   rw[e] at P
   have h2:=List.length_pos_iff.2 G
   simp at P
   omega
 .obtain ⟨y,d,e⟩:=C r B
  rw[e];exact l y (Q y d)
end Gq
end Go.Proofs.YtmhahajadgkolaaGreatDoor
