/- Joined texts. -/
import Derived.Shelf.SlLaysF0
import Derived.Test.YtmhahajadgkolaaGreatDoorBeSdxTells
set_option maxHeartbeats 4000000
set_option maxRecDepth 8000
namespace Go.Proofs.YtmhahajadgkolaaGreatDoor
open Go.RowKit Tryz
variable{A F:Nat}{B H:Int}{C:Nat->Prop}{D E:Wd}{G:eL}{J:Nd}
section Gq
attribute [local irreducible] WL WC WE WQ WP WH WR WM WRH

theorem Y4(d:A<2^32)(f:F<=32):A &&& (2^32-2^F)=A-A % 2^F:=by
 have b:2^32-2^F=(2^(32-F)-1) <<< F:=by
  rw[Nat.shiftLeft_eq,Nat.sub_mul, <- Nat.pow_add,Aii,show 32-F+F=32 by omega]
 have c:A-A % 2^F=(A >>> F) <<< F:=by
  rw[Nat.shiftLeft_eq,Nat.shiftRight_eq_div_pow]
  have:=Nat.div_add_mod A (2^F)
  rw[Ais] at this
  omega
 rw[b,c]
 apply Nat.eq_of_testBit_eq
 intro i
 rw[Nat.testBit_and,Nat.testBit_shiftLeft,Nat.testBit_shiftLeft,Nat.testBit_two_pow_sub_one,Nat.testBit_shiftRight]
 by_cases a:F<=i
 .rw [show F+(i-F)=i by omega]
  by_cases e:i<32
  .simp [a,show i-F<32-F by omega]
  .rw [Nat.testBit_lt_two_pow (Ain d (Aiy C8 W))];simp
 .simp [a]
theorem AgM(c:0<=B)(d:B<=4294967295)(e:A<=32):bits .and .u32 B ((2^32-2^A:Nat):Int)=B-B % ((2^A:Nat):Int):=by
 obtain⟨n,rfl⟩:=Int.eq_ofNat_of_zero_le c
 have a:0<2^A:=Aid A
 have b:2^32-2^A<2^32:=Nat.sub_lt C8 a
 show IntKind.u32.wrap ((BitVec.ofInt 32 (n:Int) &&& BitVec.ofInt 32 ((2^32-2^A:Nat):Int)).toNat:Int)=_
 rw[Ag5,Ag5,BitVec.toNat_and,Ags,Ags,AgI W,AgI b,Y4 W e,IntKind.wrap_u32]
 have f:n % 2^A<=n:=Nat.mod_le _ _
 have g:((n % 2^A:Nat):Int)=(n:Int) % ((2^A:Nat):Int):=C9
 omega
def inI(n:Int):Int:=min (max n 0) 32
theorem TL(n:Int):0<=inI n/\inI n<=32:=by unfold inI;omega
def Ir(n:Int):Int:=((2^32-2^(32-inI n).toNat:Nat):Int)
def UQ(a n:Int):Int:=a-a % ((2^(32-inI n).toNat:Nat):Int)
theorem Ye(w:Wd)(n:Int):Cl 141 #[iI n] w (RvF (iI (inI n)) w):=by
 refine en0 func141 U ntmps141 U<|J8 ?_
 refine zV (X8 U U U) U<|zV (Abs U U U) U<|?_
 exact Cx
theorem AeO(a:A<=32):IntKind.u32.wrap (4294967295*(2:Int)^A)=((2^32-2^A:Nat):Int):=by
 have:A=0\/A=1\/A=2\/A=3\/A=4\/A=5\/A=6\/A=7\/A=8\/A=9\/A=10\/A=11\/A=12\/A=13\/A=14\/A=15\/A=16\/A=17\/A=18\/A=19\/A=20\/A=21\/A=22\/A=23\/A=24\/A=25\/A=26\/A=27\/A=28\/A=29\/A=30\/A=31\/A=32:=W
 rcases this with rfl|rfl|rfl|rfl|rfl|rfl|rfl|rfl|rfl|rfl|rfl|rfl|rfl|rfl|rfl|rfl|rfl|rfl|rfl|rfl|rfl|rfl|rfl|rfl|rfl|rfl|rfl|rfl|rfl|rfl|rfl|rfl|rfl<;>decide
theorem Ac3(w:Wd)(n:Int):Cl 140 #[iI n] w (RvF (.int .u32 (Ir n)) w):=by
 have b:=TL n
 refine en0 func140 U ntmps140 U<|J8 ?_
 refine zk CkO U (λw a=>Ye w n)<|zV (GD U U U (show _=(32-inI n) from DK W W)) U<|zV (ND (m:=(32-inI n).toNat) (c:=(2:Int)^(32-inI n).toNat) U U U W (by show(32-inI n).toNat<=32;omega) U (AeO W)) U ?_
 exact Cx
theorem IOf_c(w:Wd)(a n:Int)(d:0<=a)(b:a<=4294967295):Cl 72 #[.int .u32 a,iI n] w (RvF (.agg #[.int .u32 (UQ a n),iI (inI n)]) w):=by
 have g:=TL n
 refine en0 func72 U ntmps72 U<|J2 ?_
 refine zy U FZ.h U U<|λf e=>J6 ?_
 refine zk CkO U (λw c=>Ac3 w n)<|zV (HX U U U (show _=(UQ a n) from AgM d b W)) U<|J1 ?_
 refine zk CkO U (λw c=>Ye w n)<|J5 ?_
 exact Aw
def BP(p:PfL):Bool:=decide (p.addr=UQ p.addr p.len/\p.len=inI p.len)
theorem I8(w:Wd)(p:PfL)(c:U32 p.addr):Cl 150 #[aA p.cells] w (RvF (iI (if BP p then 0 else 1)) w):=by
 cases f:BP p
 .have e:¬p.cells=[.int .u32 (UQ p.addr p.len),iI (inI p.len)]:=by
   intro h
   unfold PfL.cells at h
   injection h with b a
   injection a with a _
   injection b with _ b
   injection a with _ a
   unfold BP at f
   exact absurd ⟨b,a⟩ (Aep f)
  refine en0 func150 U ntmps150 U<|J2 ?_
  refine zx U U U U U<|λg d=>J5 ?_
  refine cQ mixed<|J5 ?_
  refine qC CkO U (λw i=>IOf_c w p.addr p.len c.1 c.2)<|qV (SN U U U UW UT U U (by exact e)) U ?_
  refine J10 ?_
  exact Aw
 .have e:p.cells=[.int .u32 (UQ p.addr p.len),iI (inI p.len)]:=by
   obtain⟨b,a⟩:=Ai8 f
   unfold PfL.cells
   rw[<- b, <- a]
  refine en0 func150 U ntmps150 U<|J2 ?_
  refine zx U U U U U<|λg d=>J5 ?_
  refine cQ mixed<|J5 ?_
  refine qC CkO U (λw i=>IOf_c w p.addr p.len c.1 c.2)<|qV (SM U U U UW UT U U (by exact e)) U ?_
  refine J11 ?_
  exact Aw

theorem Rj :BW (2^A-1) F=decide (F<A):=by
 unfold BW
 have:((2:Int)^A-1).toNat=2^A-1:=by
  have h:((2^A:Nat):Int)=(2:Int)^A:=by rw[Int.natCast_pow];rfl
  have:=Aid A
  omega
 rw[this,Nat.testBit_two_pow_sub_one]
theorem Ik(h:∀i,BW B i=true->BW H i=true):FT B H=0:=QF (by unfold FT;omega) C8 λi=>by
 rw[P3,Gv]
 cases a:BW B i with
 | false=>rfl
 | true=>rw[h i a];rfl
theorem Pj(c:0<=B)(e:B<2^A)(b:BW B F=true):F<A:=by
 obtain⟨a,rfl⟩:=Int.eq_ofNat_of_zero_le c
 unfold BW at b
 rw[Int.toNat_natCast] at b
 refine Aie λf=>?_
 have d:a<2^A:=by
  have:((2^A:Nat):Int)=(2:Int)^A:=by rw[Int.natCast_pow];rfl
  omega
 rw[Nat.testBit_lt_two_pow (Ain d (Aiy C8 W))] at b
 cases b
theorem KH(a:0<=B)(b:B<=BG A):Vf A B (BG A) :=
 ⟨Ik λ_ h=>h,Ik λi c=>by
  unfold BG at b ⊢
  rw[Rj]
  exact UV (Pj a W c)⟩
theorem Mn{n:Int}:0<=Ir n/\Ir n<=4294967295:=by
 unfold Ir
 have:=Aid (32-inI n).toNat
 omega
theorem AdI(a:A<=32):(2^32-2^A:Nat).testBit F=decide (A<=F/\F<32):=by
 have h:2^32-2^A=(2^(32-A)-1) <<< A:=by
  rw[Nat.shiftLeft_eq,Nat.sub_mul, <- Nat.pow_add,Nat.sub_add_cancel a,Aii]
 rw[h,Nat.testBit_shiftLeft,Nat.testBit_two_pow_sub_one, <- Bool.decide_and]
 exact decide_eq_decide.2 W
theorem MV{p:PfL}(f:BP p=true)(j:U32 p.addr)(i:Nat)(b:BW p.addr i=true):BW (Ir p.len) i=true:=by
 have g:=(Ai8 f).1
 have s:=TL p.len
 obtain⟨a,m⟩:=Int.eq_ofNat_of_zero_le j.1
 have q:=j.2
 rw[m] at g b q
 have r:((a % 2^(32-inI p.len).toNat:Nat):Int)=0:=by
  unfold UQ at g
  rw[Int.natCast_emod]
  omega
 have k:a % 2^(32-inI p.len).toNat=0:=W
 have e:i<32:=Pj W (by show((a:Nat):Int)<2^32;have:(Int.ofNat a)=((a:Nat):Int):=rfl;omega) b
 have d:(32-inI p.len).toNat<=i:=Aie λt=>by
  have c:=Nat.testBit_mod_two_pow a (32-inI p.len).toNat i
  rw[k,Nat.zero_testBit,UV (show i<(32-inI p.len).toNat by omega)] at c
  unfold BW at b
  rw[Int.toNat_natCast] at b
  rw[b] at c
  cases c
 unfold BW Ir
 rw[Int.toNat_natCast,AdI W]
 exact UV ⟨d,e⟩
theorem Acm(n:Int)(i:Nat)(a:BW (Ir n) i=true):i<32:=Pj Mn.1 (by have:=(Mn (n:=n)).2;omega) a
theorem Net_c(w:Wd)(p:PfL)(a:BP p=true)(b:U32 p.addr)(e:GW w):
 Cl 323 #[iI 5,aA p.cells] w (RvF (.tuple #[mtV (Mt.one 5 p.addr (Ir p.len)),iI 0]) w):=by
 have q:=Mn (n:=p.len)
 have g:=b.1
 have j:=b.2
 refine en0 func323 U ntmps323 U<|J2 ?_
 refine zx U U U U U<|λr k=>zy U FR.h U U<|λs m=>J7 ?_
 refine zV ((Gs U U U).t W) U<|J2 ?_
 refine zS ((Gs U U U).f W) U<|J3 ?_
 refine zk CkO U (λw c=>I8 w p b)<|zS ((Gs U U U).f (by rw[IR a];simp)) U ?_
 refine J7 ?_
 refine WC.AS mixed<|rF 10 [0,1,4]<|?_
 refine J4 ?_
 refine rA 2 [2,3,5,6,7,8,9,10] U<|qV (An U U W6.h (cellAt (v:=.int .u32 p.addr) U)) U<|?_
 refine qV (FA U U underlying23 underlying30 D3) U ?_
 refine qV (An U U i3o.h (cellAt (v:=iI p.len) U)) U<|qC CkO U (λw c=>Ac3 w p.len)<|?_
 refine qV (FA U U underlying23 underlying30 D3) U ?_
 refine qC CkO U (λw c=>Ac2 w 5 C8 p.addr (Ir p.len) ⟨W,W⟩ ⟨W,W⟩ ⟨Ik λi d=>by unfold BG;rw[Rj];exact UV (Acm p.len i d),Ik λi d=>MV a b i d⟩ (e.BI (λh=>h) c))<|J3 ?_
 refine rO 1 [11]<|J2 ?_
 refine rF 0 [12]<|J5 ?_
 refine eT2 ?_
 exact fR
theorem AdJ(x:Int):bits .and .i64 x 255=x % 256:=by
 show IntKind.i64.wrap ((BitVec.ofInt 64 x &&& BitVec.ofInt 64 255).toNat:Int)=_
 rw[BitVec.toNat_and,BitVec.toNat_ofInt,show(BitVec.ofInt 64 255).toNat=2^8-1 by decide,Nat.and_two_pow_sub_one_eq_mod,IntKind.wrap_i64]
 omega
theorem TMac_c(w:Wd)(t:Int):Cl 33 #[iI t] w λe a=>∃f:Nat->Int,Byt f/\e=.returned (.agg (bcs f 6).toArray)/\Frm Fx w a:=by
 have b:bits .and .i64 t 255=t % 256:=AdJ t
 refine en0 func33 U ntmps33 U<|J2 ?_
 refine zy U O9 U U<|λd c=>J5 ?_
 refine zV (HX U U U (b)) U<|zV (FA U U underlying23 underlying3 D3) U ?_
 refine zV (EW U U U (LU W W)) U<|zk CkO U (λw g=>Of_c w (2199023255552+t % 256) W W)<|J4 ?_
 refine eT1 ?_
 exact λa h=>⟨_,Ahv _,rfl,h.frm⟩
theorem Tm{m n:Mt}(h:∀k,k<9->m.mask k=0\/n.mask k=0):m.and n=some (m.both n):=by
 unfold Mt.and
 refine IR λk hk=>?_
 have a:∀x:Int,IB x 0=0:=λx=>QF (by unfold IB;omega) C8 λi=>by rw[Od,Gv,Bool.and_false]
 have b:∀x:Int,IB 0 x=0:=λx=>QF (by unfold IB;omega) C8 λi=>by rw[Od,Gv,Bool.false_and]
 rcases h k hk with e|e
 .rw [e,a,b]
 .rw [e,a]
theorem Mt.Za(b:0<=B/\B<=18446744073709551615)(a:0<=H/\H<=18446744073709551615):(Mt.one A B H).In :=
 ⟨λi=>by show 0<=(if i=A then B else 0)/\(if i=A then B else 0)<=_;split<;>omega,λi=>by show 0<=(if i=A then H else 0)/\(if i=A then H else 0)<=_;split<;>omega⟩
theorem Mt.Zb(hk:A<9):(Mt.one A B H).Nz:=λi a=>by
 show(if i=A then B else 0)=0/\(if i=A then H else 0)=0
 rw[E9 W,E9 W];exact⟨rfl,rfl⟩
def Gk(f:Nat)(p:PfL):Mt:=((Mt.one 0 f (BG 0)).both (Mt.one 3 2048 (BG 3))).both (Mt.one 5 p.addr (Ir p.len))
theorem AdG(x:Int)(i:Nat):BW (orN x 0) i=BW x i:=by rw[QG,Gv,Bool.or_false]
theorem To(f:Nat)(p:PfL)(i:Nat):BW ((Gk f p).val 0) i=BW f i/\BW ((Gk f p).mask 0) i=BW (BG 0) i:=by
 have a:(Gk f p).val 0=orN (orN f 0) 0:=rfl
 have b:(Gk f p).mask 0=orN (orN (BG 0) 0) 0:=rfl
 rw[a,b]
 simp only[AdG];exact⟨trivial,trivial⟩
theorem Wr(f:Nat)(p:PfL)(i:Nat):BW ((Gk f p).val 5) i=BW p.addr i/\BW ((Gk f p).mask 5) i=BW (Ir p.len) i:=by
 have a:(Gk f p).val 5=orN (orN 0 0) p.addr:=rfl
 have b:(Gk f p).mask 5=orN (orN 0 0) (Ir p.len):=rfl
 rw[a,b]
 simp only[QG,Gv,Bool.false_or];exact⟨trivial,trivial⟩
structure GF(m:Mt):Prop where
 in_:m.In
 nz:m.Nz
 vm:m.Vm
theorem GF.both{a b:Mt}(c:GF a)(d:GF b):GF (a.both b):=⟨Mt.Oh c.in_ d.in_,Mt.Oi c.nz d.nz,c.vm.both d.vm⟩
theorem Ae2(hk:A<9){v m:Int}(b:0<=v/\v<=18446744073709551615)(a:0<=m/\m<=18446744073709551615)(h:FT v m=0):GF (Mt.one A v m):=⟨Mt.Za b a,Mt.Zb hk,Mt.Vm.one h⟩
theorem WX(k:Nat)(hk:k<9):255<=BG k:=by
 have:∀k,k<9->255<=BG k:=C8
 exact this k hk
theorem Ks{k:Nat}(hk:k<9){v:Int}(a:0<=v)(b:v<=BG k):GF (Mt.one k v (BG k)):=Ae2 hk ⟨a,by have:=(HZ k).2;omega⟩ (HZ k) (KH a b).2
theorem AeQ{p:PfL}(b:BP p=true)(a:U32 p.addr):GF (Mt.one 5 p.addr (Ir p.len)):=Ae2 C8 ⟨a.1,by have:=a.2;omega⟩ ⟨Mn.1,by have:=(Mn (n:=p.len)).2;omega⟩ (Ik λi c=>MV b a i c)
theorem Aag{f:Nat}{p:PfL}(c:f<16)(a:BP p=true)(b:U32 p.addr):GF (Gk f p):=((Ks (k:=0) C8 W (by have:=WX 0 (C8);omega)).both (Ks (k:=3) C8 C8 C8)).both (AeQ a b)
theorem Acn(w:Wd)(p:PfL)(f:Nat)(t:Int)(R:f<16)(c:BP p=true)(r:U32 p.addr)(q:GW w):
 Cl 258 #[aA p.cells,iI f,iI t] w λe w'=>∃tg:Mt,e=.returned (.tuple #[mtV (Gk f p),mtV tg,.bool true])/\GF tg/\Frm Fx w w':=by
 have s:=WX 0 C8
 have u:GF (Mt.one 0 f (BG 0)):=Ks C8 W W
 have x:GF (Mt.one 3 2048 (BG 3)):=Ks C8 C8 C8
 have E:=AeQ c r
 have F:(Mt.one 0 f (BG 0)).and (Mt.one 3 2048 (BG 3))=some ((Mt.one 0 f (BG 0)).both (Mt.one 3 2048 (BG 3))):=Tm λk hk=>by
  show(if k=0 then _ else _)=(0:Int)\/(if k=3 then _ else _)=(0:Int)
  by_cases h:k=0
  .right;rw[E9 W]
  .left;rw[E9 h]
 have G:((Mt.one 0 f (BG 0)).both (Mt.one 3 2048 (BG 3))).and (Mt.one 5 p.addr (Ir p.len))=some (Gk f p):=Tm λk hk=>by
  show orN (if k=0 then _ else _) (if k=3 then _ else _)=(0:Int)\/(if k=5 then _ else _)=(0:Int)
  by_cases h:k=5
  .subst h;left;decide
  .right;rw[E9 h]
 have y:=Aag R c r
 refine en0 func258 U ntmps258 U<|J2 ?_
 refine zx U U U U U<|λg3 S=>zy U FR.h U U<|λg6 T=>zy U FR.h U U<|λg7 X=>J6 ?_
 refine zV (FA U U underlying23 underlying3 (LU W W)) U<|zk CkO U (λw a=>N4 w 0 C8 f ⟨W,W⟩ (KH W W) (q.BI (λh=>h) a))<|J3 ?_
 refine zy U FR.h U U<|λg9 Z=>J8 ?_
 refine zV ((Gs U U U).f (C8)) U<|J7 ?_
 refine zk CkO U (λw a=>N4 w 3 C8 2048 ⟨C8,C8⟩ (KH C8 C8) (q.BI (λh=>h) a))<|J3 ?_
 refine zy U FR.h U U<|λH z=>J7 ?_
 refine zk CkO U (λw a=>Net_c w p c r (q.BI (λh=>h) a))<|J3 ?_
 refine zy U FR.h U U<|λJ A=>J7 ?_
 refine zK CkO U<|λw1 a=>(TMac_c w1 t).mono ?_
 rintro e w' ⟨d,j,rfl,O⟩
 refine⟨_,_,rfl,a.ext O,?_⟩
 have b:=AbA j (k:=6) (M2 _)
 have i:Ms d 6<=BG 2:=(by have:BG 2=281474976710655:=(C8);omega)
 have v:GF (Mt.one 2 (Ms d 6) (BG 2)):=Ks C8 b.1 i
 obtain⟨tg,m⟩:∃tg,tg=((Gk f p).and (Mt.one 2 (Ms d 6) (BG 2))).getD mt0:=⟨_,rfl⟩
 have hto:GF tg:=(by
  rw[m]
  unfold Mt.and
  split
  .exact y.both v
  .exact ⟨Sg,λk _=>⟨rfl,rfl⟩,Mt.Vm.zero⟩)
 refine zk CkO U (λw a=>Num_c w d j)<|zk CkO U (λw a=>N4 w 2 C8 (Ms d 6) ⟨b.1,W⟩ (KH b.1 i) (q.BI (λh=>h) a))<|J3 ?_
 refine zy U FR.h U U<|λK B=>J8 ?_
 refine zk CkO U (λw a=>(L6 w (Mt.one 0 f (BG 0)) (Mt.one 3 2048 (BG 3)) u.in_ x.in_).mono (by rintro e w' ⟨rfl,h⟩;exact⟨by rw[F],h⟩)) ?_
 refine J3 ?_
 refine zy U FR.h U U<|λM C=>J8 ?_
 refine zk CkO U (λw a=>(L6 w ((Mt.one 0 f (BG 0)).both (Mt.one 3 2048 (BG 3))) (Mt.one 5 p.addr (Ir p.len)) (u.both x).in_ E.in_).mono (by rintro e w' ⟨rfl,h⟩;exact⟨by rw[G],h⟩)) ?_
 refine J10 ?_
 refine zk CkO U (λw a=>(L6 w (Gk f p) (Mt.one 2 (Ms d 6) (BG 2)) y.in_ v.in_).mono (by rintro e w' ⟨rfl,h⟩;exact⟨by rw[<- m],h⟩)) ?_
 refine J3 ?_
 refine zy U FR.h U U<|λN D=>J5 ?_
 refine WC.AS mixed<|WR.each (g:=4) [0,1] C6 C8<|⟨?_,?_⟩
 refine J2 ?_
 refine WR.each (g:=3) [1,2] C6 C8<|⟨?_,?_⟩
 refine J2 ?_
 refine rO 1 [2,3]<|J3 ?_
 exact Bn
 refine J2 ?_
 refine rA 2 [1] U<|J2 ?_
 refine rO 1 [3]<|J2 ?_
 exact Bn
 refine J2 ?_
 refine rA 3 [0] U<|J2 ?_
 refine rO 1 [2,3]<|J3 ?_
 exact Bn

structure RlL where
 ad:Option Addr
 c:Nat
 ls:List RuL
def RlL.cells(x:RlL):vL:=[.slice x.ad x.ls.length x.c]
theorem RlL.len(x:RlL):x.cells.length=1:=rfl
structure RlL.Ok(x:RlL):Prop where
 fit:IK 64 x.ls
 vm:VmL (x.ls.map RuL.d)
 few:x.ls.length<=5000
structure LV(w:Wd)(ad:Option Addr)(xs:List RlL):Prop where
 rd:Rg w ad (AM RlL.cells xs)
 at_:∀x∈xs,Pb w x.ad x.ls
theorem okW(h:BN J=0):okT false J/\(AD J).2<=64/\(AD J).1<=4096:=by
 have a:=I5 h
 refine⟨MM J 1 false 0 a,?_⟩
 unfold BN at h
 rw[E9 λk=>k a] at h
 split at h
 .cases h
 .split at h
  .cases h
  .omega
theorem Ag1(h:BN J=0)(e:Lt J):∀d∈AO J,d.acts.length<=64:=by
 obtain⟨b,a,c⟩:=okW h
 exact Nb (M2 _) b (e (I5 h) a c) a
theorem Ahd(h:BN J=0)(e:Lt J):(AO J).length<=5000:=by
 obtain⟨b,a,c⟩:=okW h
 have d:=e (I5 h) a c
 have:=(MZ _ J (M2 _) _ b d a).len
 omega
structure CmR where
 k:Nat
 us:List Nd
 ad:Option Addr
 c:Nat
 E:eL
 M:eL
 xa:Option Addr
 xc:Nat
 xs:List RlL
 X:eL
theorem Rz(w:Wd)(ta:Option Addr)(tc:Nat)(a:List Nd)(hA:BA w ta 0 a)(hI:BU a)(hG:GW w)(hL:∀t∈a,Lt t)(hn:a.length<=1000):
 Cl 90 #[.slice ta a.length tc] w λe s=>∃(ka:Option Addr) (kc:Nat) (R:List Nd) (xa:Option Addr) (xc:Nat) (xs:List RlL) (M:eL),e=.returned (.tuple #[.slice ka R.length kc,.slice xa xs.length xc,iI (Gz BN a)])/\(Gz BN a=0->R.map er=a.map er/\xs.length=a.length)/\(∀x∈xs,x.Ok)/\(∀w2,(∀e∈M,e.holds w2)->BA w2 ka 0 R/\LV w2 xa xs)/\BU R/\St Fx w s M:=by
 generalize hC:Gz BN a=C
 refine en0 func90 U ntmps90 U<|J11 ?_
 refine WL.Mm (m:=0) (c:=a.length) U U U W W W underlying24 Aal W W FF Nu.h U (.none U) U U<|λF hg13=>?_
 generalize hZ:List.flatten _=Z
 have hV0:Vec 5 (aG F) 0 a.length [] [.row F Z]:=Vec.row Ec Fw (Lv _)
 refine J7 ?_
 refine WL.Mm (m:=0) (c:=a.length) U U U W W W underlying72 by_54 W W Qo VU U (.none U) U U<|λG hg16=>?_
 generalize hZ2:List.flatten _=Z2
 have hX0:Vec 1 (aG G) 0 a.length [] [.row G Z2]:=Vec.row Ec (by rw[<- hZ2];exact Ku U _) (Lv _)
 refine J12 ?_
 refine oLp (λx:CmR=>[(19,iI x.k),(18,iI a.length),(17,.slice ta a.length tc),(5,.slice x.ad x.us.length x.c),(6,.slice x.xa x.xs.length x.xc)]) (λx=>x.X++(x.E++x.M)) (λx=>x.k<=a.length/\x.us.map er=(a.take x.k).map er/\(∀u∈x.us,u.In)/\Gz BN (a.drop x.k)=C/\Vec 5 x.ad x.us.length x.c (CV x.us) x.E/\Vec 1 x.xa x.xs.length x.xc (AM RlL.cells x.xs) x.X/\x.xs.length=x.k/\(∀y∈x.xs,y.Ok)/\∀s,(∀e∈x.M,e.holds s)->(∀u∈x.us,u.At s)/\∀y∈x.xs,Pb s y.ad y.ls) (λx=>a.length-x.k) ⟨0,[],aG F,a.length,[.row F Z],[],aG G,a.length,[],[.row G Z2]⟩ ⟨Lv _,rfl,λu h=>Da,by dsimp only;rw[AeP];exact hC,hV0,hX0,rfl,λy h=>Da,λs _=>⟨λu h=>Da,λy h=>Da⟩⟩ ?_
 rintro⟨k,R,ad,c,E,M,xa,xc,xs,X⟩ ⟨hk,i,T,z,hV,hX,hxl,ab,B⟩
 dsimp only at hk i T z hV hX hxl ab B⊢
 refine J2 ?_
 refine JT (λh20=>?_) λh20=>?_
 refine J10 ?_
 obtain⟨t,O⟩:∃x,a[k]?=some x:=Gx
 obtain⟨⟨b,o,ea,_⟩,htA⟩:=hA.get a 0 k t O
 have htI:=hI.get a k t O
 rw[drop_cons O] at z
 have hul:R.length=k:=(by have:=If List.length i;rw[Ri,Ri,Ahp] at this;omega)
 have z:(if BN t≠0 then BN t else Gz BN (a.drop (k+1)))=C:=z
 refine zV (AA (b:=b) (off:=o) (lo:=k) U (by show some (Value.slice ta _ _)=_;rw[ea]) U underlying24 FF U W) U ?_
 refine zV (AB (cs:=ndL t) U U H5.h U (DW (λh=>h) (hA.Kz O ea))) U<|zy U Nu.h U U<|?_
 intro g8 hg8
 refine J1 ?_
 refine WL.as (L':=.row g8 (ndL t)::(X++(E++M))) U<|J5 ?_
 refine zK CkO U<|λw1 j=>(AbD w1 t htI (htA.st (λ_ h=>h) j) (hG.BI (λh=>h) j) (hL t (Do O))).mono ?_
 rintro e s ⟨q,rc,RE,RK,K,rfl,hd,hVr,hKr,hFr,hlr,aa⟩
 refine⟨_,_,rfl,j.join aa,?_⟩
 refine J11 ?_
 refine JT (λv=>?_) λv=>?_
 refine J18 ?_
 refine eT3 ?_
 rw[IR v] at z
 rw[z]
 exact λs h=>⟨none,0,[],none,0,[],[],rfl,λk=>absurd (z.trans k) v,λx h=>Da,(λ_ _=>⟨by unfold BA;trivial,⟨λh=>absurd U h,λx h=>Da⟩⟩),BU.nil,h.sub (Aix _)⟩
 refine J7 ?_
 rw[E9 v] at z
 have h0:=I5 (AhH v)
 have hsz:=VB h0
 have A:BN t=0:=AhH v
 have hro:RlL.Ok ⟨q,rc,K⟩:=⟨⟨λr hr=>hFr _ (Ab5 hr),λr hr=>Ag1 A (hL t (Do O)) r.d (by rw[IR A] at hd;rw[<- hd];exact Ab5 hr)⟩,(by rw[IR A] at hd;show VmL (K.map RuL.d);rw[hd];exact Ab1 A),(by rw[IR A] at hd;have:=If List.length hd;rw[Ri] at this;show K.length<=5000;rw[this];exact Ahd A (hL t (Do O)))⟩
 refine J2 ?_
 refine zK CkO U<|λw1 j=>(ZX _ t (M2 _) w1 htI (htA.st (λ_ h=>h) j) W).mono ?_
 rintro e s ⟨u,UE,UM,rfl,heru,N,aa⟩
 refine⟨_,_,rfl,j.join aa,?_⟩
 refine zB underlying24 FF Nu.h (by show some (AK (List.replicate 1 _).flatten 0 (ndL u))=some (ndL u);exact If some (AH U)) U ?_
 intro H hg34
 refine WL.to (L':=E++(.row H (ndL u)::(X++((UE++UM)++(RE++(RK++M)))))) (λw j=>j.AN [.row g8 (ndL t)])<|WL.AU U U U underlying24 underlying24 FF Aal Nu.h U U hV (new:=ndL u) (λ_=>⟨H,0,rfl,λw j=>AL (g:=H) w j⟩) U U W (.none U) U U<|λad35 c35 S hV35 hr35=>J6 ?_
 refine zB underlying72 Qo VU (by show some (AK (List.replicate 1 _).flatten 0 [Value.slice q K.length rc])=some [Value.slice q K.length rc];exact If some (AH U)) U ?_
 intro J hg38
 refine WL.to (L':=X++(.row J [Value.slice q K.length rc]::(S++((UE++UM)++(RE++(RK++M)))))) (λw j=>j.AN [.row H (ndL u)])<|WL.AU U U U underlying72 underlying72 Qo by_54 VU U U hX (new:=[Value.slice q K.length rc]) (λ_=>⟨J,0,rfl,λw j=>AL (g:=J) w j⟩) U U W (.none U) U U<|λad39 c39 E39 hV39 hr39=>J8 ?_
 refine WE.to (L':=E39++(S++((UE++UM)++(RE++(RK++M))))) (λw j=>j.AN [.row J [Value.slice q K.length rc]])<|eW ⟨k+1,R++[u],ad35,c35,S,(UE++UM)++(RE++(RK++M)),ad39,c39,xs++[⟨q,rc,K⟩],E39⟩ C7 ⟨C7,Xl i O heru,λx f=>?_,z,by dsimp only;rw[<- PD,AC];exact hV35,by dsimp only;rw[AC,AX];exact hV39,by dsimp only;rw[AC];rw[AbJ];omega,λx f=>?_,λs D=>⟨λx f=>?_,λx f=>?_⟩⟩ (.int U C7 (.cons U (.cons U (.eq U Dc (.eq U Dc .nil)))))
 .rcases LI.1 f with f|f
  .exact T x f
  .rw [Es.1 f];exact N.isIn
 .rcases LI.1 f with f|f
  .exact ab x f
  .rw [Es.1 f];exact hro
 .rcases LI.1 f with f|f
  .exact (B s λe he=>D e Dd).1 x f
  .rw [Es.1 f];exact N.at_ s λe he=>D e (Ha _ he)
 .rcases LI.1 f with f|f
  .exact (B s λe he=>D e Dd).2 x f
  .rw [Es.1 f];exact⟨hVr.rg λe he=>D e Dd,λr hr=>by obtain⟨E',hV',hE'⟩:=hKr r hr;exact hV'.rg λe he=>D e (by simp[hE' e he])⟩
 refine J19 ?_
 refine eT3 ?_
 obtain rfl:k=a.length:=W
 rw[Ah9] at z
 have z:(0:Int)=C:=z
 rw[Ah6] at i
 rw[<- z]
 exact λs h=>⟨ad,c,R,xa,xc,xs,X++(E++M),rfl,λ_=>⟨i,hxl⟩,ab,λw2 D=>⟨Vec.RX hV (λe he=>D e Dd) (B w2 λe he=>D e Dd).1,hX.rg λe he=>D e Dd,(B w2 λe he=>D e Dd).2⟩,BU.of' T,h⟩
structure Uz(p:PlN)(xs ys:List RlL):Prop where
 x:p.xn=xs.length/\xs.length=p.AY.length
 y:p.yn=ys.length/\ys.length=p.AY.length
 z:p.zn=p.AY.length
 n:0<p.AY.length/\p.AY.length<=16
 xo:∀x∈xs,x.Ok
 yo:∀x∈ys,x.Ok
theorem Vu(w:Wd):plZ.At w/\LV w plZ.xa []/\LV w plZ.ya []/\Rg w plZ.za (G3 plZ.AY):=⟨plZ_at w,⟨λh=>absurd rfl h,λx h=>by cases h⟩,⟨λh=>absurd rfl h,λx h=>by cases h⟩,λh=>absurd rfl h⟩
theorem Agp(w:Wd)(p:PlN)(hA:p.At w)(S:p.In)(hG:GW w)(h1:∀t∈p.outs,Lt t)(h2:∀t∈p.ins,Lt t):
 Cl 38 #[aA p.cells] w λe w'=>∃(q:PlN) (b d:List RlL) (M:eL),e=.returned (.tuple #[aA q.cells,iI (KE p)])/\(KE p=0->q.outs.map er=p.outs.map er/\q.ins.map er=p.ins.map er/\q.AY=p.AY/\Uz q b d)/\(∀w2,(∀e∈M,e.holds w2)->q.At w2/\LV w2 q.xa b/\LV w2 q.ya d/\Rg w2 q.za (G3 q.AY))/\q.In/\St Fx w w' M:=by
 obtain⟨f1,f2,f3⟩:=S.few
 refine en0 func38 U ntmps38 U<|J2 ?_
 refine zx U U U U U<|λc hg1=>zy U YS.h U U<|λf hg2=>J6 ?_
 refine zV (An U U i49o.h (cellAt (v:=.slice p.ma p.AY.length p.mc) U)) U<|J4 ?_
 refine WC.cut (λ_:Unit=>[(1,pG c),(2,pG f)]) (λ_=>[.row f plZ.cells,.row c p.cells]) (λ_=>¬OI p) ?_ ?_
 refine J3 ?_
 refine JT (λaa=>?_) λaa=>?_
 refine J30 ?_
 exact Av
 refine J2 ?_
 refine JT (λab=>?_) λab=>?_
 refine J27 ?_
 exact Av
 refine J3 ?_
 refine zS (An U U Nt.h (cellAt (v:=.slice p.oa p.outs.length p.oc) U)) U<|J2 ?_
 refine JT (λac=>?_) λac=>?_
 refine J20 ?_
 exact Av
 refine J3 ?_
 refine zS (An U U Nt.h (cellAt (v:=.slice p.ia p.ins.length p.ic) U)) U<|J2 ?_
 refine JT (λad=>?_) λad=>?_
 refine J13 ?_
 exact Av
 refine J5 ?_
 exact eM () (by unfold OI;omega)
 intro _ hmf
 refine WC.cut (λx:MkS=>[(5,pG x.g),(1,pG c),(2,pG f)]) (λx=>.row x.g [sN,sN,.slice x.ma p.AY.length x.mc,sN,sN,.slice x.za p.AY.length x.zc]::(x.E++(x.Z++[.row f plZ.cells,.row c p.cells]))) (λx=>Vec 6 x.ma p.AY.length x.mc (G3 p.AY) x.E/\Vec 6 x.za p.AY.length x.zc (G3 p.AY) x.Z) ?_ ?_
 refine WC.held ([.row c p.cells]) mixed<|WRH.first (g:=5) [0,1,3,4] C6 C6 kp<|J1 ?_
 refine zj (An U U i49o.h (cellAt (v:=.slice p.ma p.AY.length p.mc) U)) U<|J1 ?_
 refine zj (An U U i49o.h (cellAt (v:=.slice p.ma p.AY.length p.mc) U)) U<|WH.nil<|?_
 refine WRH.each (g:=4) [2,7] C6 C8<|⟨?_,?_⟩
 refine zK CkO U<|λw1 hS=>(KZ w1 p.ma p.mc p.AY (hA.AY.frm hS.frm λ_ _ _ h=>h) W).mono ?_
 rintro e w' ⟨ma,mc,Em,rfl,hVm,hS'⟩
 refine⟨_,_,rfl,hS.join hS',?_⟩
 refine WL.BL kp<|WRH.each (g:=3) [5,7] C6 C8<|⟨?_,?_⟩
 refine zK CkO U<|λw1 hS=>(KZ w1 p.ma p.mc p.AY (hA.AY.frm hS.frm λ_ _ _ h=>h) W).mono ?_
 rintro e w' ⟨za,zc,Ez,rfl,hVz,hS'⟩
 refine⟨_,_,rfl,hS.join hS',?_⟩
 refine WL.BL kp<|WRH.first (g:=2) [6] C6 C6 kp<|J1 ?_
 refine WH.nil<|WRH.one (g:=1) 7 C6<|zy U YS.h U U<|λg5 D=>WL.BL kp<|WRH.one (g:=0) 8 C6<|J1 ?_
 refine WL.CD (g:=g5) (cs':=[sN,sN,.slice ma p.AY.length mc,sN,sN,.slice za p.AY.length zc]) U<|WL.BL kp<|?_
 exact WRH.done C6<|eMx [] ⟨za,zc,Ez,ma,mc,Em,g5⟩ ⟨hVm,hVz⟩
 refine zy U YS.h U U<|λg5 D=>?_
 exact Gd
 refine zy U YS.h U U<|λg5 D=>WL.BL kp<|WRH.one (g:=3) 2 C6<|zK CkO U<|λw1 hS=>(KZ w1 p.ma p.mc p.AY (hA.AY.frm hS.frm λ_ _ _ h=>h) W).mono ?_
 rintro e w' ⟨ma,mc,Em,rfl,hVm,hS'⟩
 refine⟨_,_,rfl,hS.join hS',?_⟩
 exact Gd
 rintro⟨za,zc,Z,ma,mc,E,g5⟩ ⟨hVm,hVz⟩
 dsimp only at hVm hVz⊢
 refine J9 ?_
 refine zV (An U U Nt.h (cellAt (v:=.slice p.oa p.outs.length p.oc) U)) U<|zK CkO U<|?_
 intro w1 hS
 refine(Rz w1 p.oa p.oc p.outs (hA.outs.frm hS.frm) S.outs (hG.BI (λh=>h) hS) h1 f1).mono ?_
 rintro e w' ⟨y,z,s,B,C,b,O,rfl,j,ah,F,ai,hS'⟩
 refine⟨_,O++(.row g5 [sN,sN,.slice ma p.AY.length mc,sN,sN,.slice za p.AY.length zc]::(E++(Z++[.row f plZ.cells,.row c p.cells]))),rfl,hS.join hS',?_⟩
 refine J14 ?_
 refine JT (λa=>?_) λa=>?_
 refine J13 ?_
 refine eT2 ?_
 have e:KE p=Gz BN p.outs:=(by unfold KE;rw[E9 hmf,IR a])
 rw[e]
 exact λw' h=>⟨plZ,[],[],_,rfl,λk=>absurd k a,λw2 _=>Vu w2,Zh,h⟩
 refine J9 ?_
 refine zV (An U U Nt.h (cellAt (v:=.slice p.ia p.ins.length p.ic) U)) U<|zK CkO U<|?_
 intro w1 hS
 refine(Rz w1 p.ia p.ic p.ins (hA.ins.frm hS.frm) S.ins (hG.BI (λh=>h) hS) h2 f2).mono ?_
 rintro e w' ⟨H,J,A,K,N,d,T,rfl,r,aj,G,ak,hS'⟩
 refine⟨_,T++(O++(.row g5 [.slice y s.length z,sN,.slice ma p.AY.length mc,.slice B b.length C,sN,.slice za p.AY.length zc]::(E++(Z++[.row f plZ.cells,.row c p.cells])))),rfl,hS.join hS',?_⟩
 refine J14 ?_
 refine JT (λi=>?_) λi=>?_
 refine J13 ?_
 refine eT2 ?_
 have e:KE p=Gz BN p.ins:=(by unfold KE;rw[E9 hmf,E9 a])
 rw[e]
 exact λw' h=>⟨plZ,[],[],_,rfl,λk=>absurd k i,λw2 _=>Vu w2,Zh,h⟩
 refine J7 ?_
 have X:Gz BN p.outs=0:=AhH a
 have R:Gz BN p.ins=0:=AhH i
 have hul:s.length=p.outs.length:=(by have:=If List.length ((j X).1);rwa [Ri,Ri] at this)
 have hvl:A.length=p.ins.length:=(by have:=If List.length ((r R).1);rwa [Ri,Ri] at this)
 have e:KE p=0:=(by unfold KE;rw[E9 hmf,E9 a];exact R)
 have af:0<p.AY.length/\p.AY.length<=16:=F7
 have ag:p.outs.length=p.AY.length:=F7
 have ae:p.ins.length=p.AY.length:=F7
 rw[e]
 refine zV (AB U U RS.h U (AT (m:=6) U)) U<|J5 ?_
 refine eT2 ?_
 exact λw' h=>⟨⟨y,z,s,H,J,A,ma,mc,p.AY,B,b.length,C,K,d.length,N,za,p.AY.length,zc⟩,b,d,T++(O++(E++Z)),rfl,λ_=>⟨(j X).1,(r R).1,rfl,⟨rfl,(j X).2.trans ag⟩,⟨rfl,(r R).2.trans ae⟩,rfl,af,ah,aj⟩,λw2 u=>⟨⟨(F w2 λe he=>u e Dd).1,(G w2 λe he=>u e Dd).1,hVm.rg λe he=>u e Dd⟩,(F w2 λe he=>u e Dd).2,(G w2 λe he=>u e Dd).2,hVz.rg λe he=>u e Dd⟩,⟨ai,ak,S.AY,C7⟩,St.AN (L:=T++(O++(.row g5 [.slice y s.length z,.slice H A.length J,.slice ma p.AY.length mc,.slice B b.length C,.slice K d.length N,.slice za p.AY.length zc]::(E++(Z++[.row f [.slice y s.length z,.slice H A.length J,.slice ma p.AY.length mc,.slice B b.length C,.slice K d.length N,.slice za p.AY.length zc],.row c p.cells]))))) (.row g5 [.slice y s.length z,.slice H A.length J,.slice ma p.AY.length mc,.slice B b.length C,.slice K d.length N,.slice za p.AY.length zc]::[.row f [.slice y s.length z,.slice H A.length J,.slice ma p.AY.length mc,.slice B b.length C,.slice K d.length N,.slice za p.AY.length zc],.row c p.cells]) h⟩
end Gq

def Ids(L:eL):Nat->Prop:=λb=>b∈L.map Ent.at
def Stb(p:Nat->Prop)(w:Wd)(F:Wd->Prop):Prop:=∀a,Frm p w a->F a
theorem Stb.st{F:Wd->Prop}(h:Stb C D F)(a:St C D E G):F E:=h E a.frm
theorem Frm.more{q:Nat->Prop}{e:Wd}(h:Frm C D E)(k:Frm q E e)(f:∀b,q b->C b\/D.heap.size<=b):Frm C D e :=
 ⟨k.os.trans h.os,k.tape.trans h.tape,k.output.trans h.output,AcC h.size k.size,λb c d =>
  (k.block b (Ain c h.size) λa=>(f b a).elim d λh=>by omega).trans (h.block b c d),AcC h.drawn k.drawn⟩
theorem St.ids(a:St C D E G):∀b,Ids G b->C b\/D.heap.size<=b:=λb c=>by
 obtain⟨e,d,rfl⟩:=Ab8.1 c
 exact a.mine e d
theorem St.own{L:eL}(b:St C D E (L++G)):St (Ids L) E E L :=
 ⟨Frm.refl _ _,λe a=>b.holds e (Ha _ a),by have:=b.dist;rw[Ai7,List.nodup_append] at this;exact this.1,λe a=>.inl (Ab5 a)⟩
theorem St.back{m:Wd}{L R:eL}(d:St C D E (L++R))(h:St (Ids L) E m G):St C D m (G++R):=by
 have f:=d.dist
 rw[Ai7,List.nodup_append] at f
 have k:=St.ids (d.sub (Acy L R))
 refine⟨d.frm.more h.frm k,?_,?_,?_⟩
 .intro e c
  rcases LI.1 c with c|c
  .exact h.holds e c
  .have i:=d.holds e (Mu _ c)
   exact Ent.BI i (h.frm.block _ (Ent.lt i) λhk=>f.2.2 _ hk _ (Ab5 c) U)
 .rw [Ai7,List.nodup_append]
  refine⟨h.dist,f.2.1,?_⟩
  rintro a s b j rfl
  obtain⟨e,c,r⟩:=Ab8.1 s
  obtain⟨q,g,t⟩:=Ab8.1 j
  rcases h.mine e c with hk|hk
  .exact f.2.2 _ hk _ j (by rw[r])
  .have:=Ent.lt (d.holds q (Mu _ g))
   omega
 .intro e c
  rcases LI.1 c with c|c
  .rcases h.mine e c with hk|hk
   .exact k _ hk
   .exact .inr (AcC d.frm.size hk)
  .exact d.mine e (Mu _ c)
section Gq
attribute [local irreducible] WL WC WE WQ WP WH WR WM WRH

theorem AcR(w0:Wd)(i:Option Addr)(n c:Nat)(d:vL)(w:d.length=n*2)(q:AQ w0 i d)(g:d.all one=true)(y:n<=1000000):
 Cl 208 #[.slice i n c] w0 λe w'=>∃(f:Option Addr) (m:Nat) (E:eL),e=.returned (.slice f n m)/\Vec 2 f n m d E/\St Fx w0 w' E:=by
 cases i with
 | none =>
  obtain rfl:n=0:=Ago λh=>by
   obtain⟨b,o,e,_⟩:=q W
   cases e
  obtain rfl:d=[]:=AbQ.1 W
  refine en0 func208 U ntmps208 U<|J9 ?_
  refine zV (AI true U U underlying33 U) U<|J10 ?_
  exact Bm
 | some a =>
  refine en0 func208 U ntmps208 U<|J9 ?_
  refine zV (AI false U U underlying33 U) U<|J7 ?_
  refine zB underlying33 Ia KV U U<|λu v=>J1 ?_
  refine WL.MX U U U underlying33 underlying33 Ia by_118 KV U U (E:=[.row u []]) (Vec.row (k:=0) (s:=2) (c:=0) U U W) (new:=d) (λh=>by obtain⟨r,x,t,j⟩:=q W;exact⟨r,x,t,DP (λh=>h) j⟩) w g (λh=>by rw[Iu W];omega) (.none U) U U ?_
  exact Al
theorem VY(w0:Wd)(i:Option Addr)(n c:Nat)(d:vL)(w:d.length=n*1)(q:AQ w0 i d)(g:d.all one=true)(y:n<=1000000):
 Cl 209 #[.slice i n c] w0 λe w'=>∃(f:Option Addr) (m:Nat) (E:eL),e=.returned (.slice f n m)/\Vec 1 f n m d E/\St Fx w0 w' E:=by
 cases i with
 | none =>
  obtain rfl:n=0:=Ago λh=>by
   obtain⟨b,o,e,_⟩:=q W
   cases e
  obtain rfl:d=[]:=AbQ.1 W
  refine en0 func209 U ntmps209 U<|J9 ?_
  refine zV (AI true U U underlying34 U) U<|J10 ?_
  refine eT1 ?_
  exact λw' h=>⟨none,0,[],rfl,Vec.nil 1,h⟩
 | some a =>
  refine en0 func209 U ntmps209 U<|J9 ?_
  refine zV (AI false U U underlying34 U) U<|J7 ?_
  refine zB underlying34 AZ G0 U U<|λu v=>J1 ?_
  refine WL.MX U U U underlying34 underlying34 AZ by_3 G0 U U (E:=[.row u []]) (Vec.row (k:=0) (s:=1) (c:=0) U U W) (new:=d) (λh=>by obtain⟨r,x,t,j⟩:=q W;exact⟨r,x,t,DP (λh=>h) j⟩) w g (λh=>by rw[Iu W];omega) (.none U) U U ?_
  exact Al
theorem AcP(w0:Wd)(i:Option Addr)(n c:Nat)(d:vL)(w:d.length=n*2)(q:AQ w0 i d)(g:d.all one=true)(y:n<=1000000):
 Cl 210 #[.slice i n c] w0 λe w'=>∃(f:Option Addr) (m:Nat) (E:eL),e=.returned (.slice f n m)/\Vec 2 f n m d E/\St Fx w0 w' E:=by
 cases i with
 | none =>
  obtain rfl:n=0:=Ago λh=>by
   obtain⟨b,o,e,_⟩:=q W
   cases e
  obtain rfl:d=[]:=AbQ.1 W
  refine en0 func210 U ntmps210 U<|J9 ?_
  refine zV (AI true U U underlying35 U) U<|J10 ?_
  exact Bm
 | some a =>
  refine en0 func210 U ntmps210 U<|J9 ?_
  refine zV (AI false U U underlying35 U) U<|J7 ?_
  refine zB underlying35 ME MO U U<|λu v=>J1 ?_
  refine WL.MX U U U underlying35 underlying35 ME by_201 MO U U (E:=[.row u []]) (Vec.row (k:=0) (s:=2) (c:=0) U U W) (new:=d) (λh=>by obtain⟨r,x,t,j⟩:=q W;exact⟨r,x,t,DP (λh=>h) j⟩) w g (λh=>by rw[Iu W];omega) (.none U) U U ?_
  exact Al
theorem AcO(w0:Wd)(i:Option Addr)(n c:Nat)(d:vL)(w:d.length=n*1)(q:AQ w0 i d)(g:d.all one=true)(y:n<=140737488355328):
 Cl 211 #[.slice i n c] w0 λe w'=>∃(f:Option Addr) (m:Nat) (E:eL),e=.returned (.slice f n m)/\Vec 1 f n m d E/\St Fx w0 w' E:=by
 cases i with
 | none =>
  obtain rfl:n=0:=Ago λh=>by
   obtain⟨b,o,e,_⟩:=q W
   cases e
  obtain rfl:d=[]:=AbQ.1 W
  refine en0 func211 U ntmps211 U<|J9 ?_
  refine zV (AI true U U underlying109 U) U<|J10 ?_
  refine eT1 ?_
  exact λw' h=>⟨none,0,[],rfl,Vec.nil 1,h⟩
 | some a =>
  refine en0 func211 U ntmps211 U<|J9 ?_
  refine zV (AI false U U underlying109 U) U<|J7 ?_
  refine zB underlying109 sz_5 Agd U U<|λu v=>J1 ?_
  refine WL.MX U U U underlying109 underlying109 sz_5 by_5 Agd U U (E:=[.row u []]) (Vec.row (k:=0) (s:=1) (c:=0) U U W) (new:=d) (λh=>by obtain⟨r,x,t,j⟩:=q W;exact⟨r,x,t,DP (λh=>h) j⟩) w g (λh=>by rw[Iu W];omega) (.none U) U U ?_
  exact Al
theorem AcQ(w0:Wd)(i:Option Addr)(n c:Nat)(d:vL)(w:d.length=n*2)(q:AQ w0 i d)(g:d.all one=true)(y:n<=1000000):
 Cl 195 #[.slice i n c] w0 λe w'=>∃(f:Option Addr) (m:Nat) (E:eL),e=.returned (.slice f n m)/\Vec 2 f n m d E/\St Fx w0 w' E:=by
 cases i with
 | none =>
  obtain rfl:n=0:=Ago λh=>by
   obtain⟨b,o,e,_⟩:=q W
   cases e
  obtain rfl:d=[]:=AbQ.1 W
  refine en0 func195 U ntmps195 U<|J9 ?_
  refine zV (AI true U U underlying32 U) U<|J10 ?_
  exact Bm
 | some a =>
  refine en0 func195 U ntmps195 U<|J9 ?_
  refine zV (AI false U U underlying32 U) U<|J7 ?_
  refine zB underlying32 BT FZ.h U U<|λu v=>J1 ?_
  refine WL.MX U U U underlying32 underlying32 BT P6 FZ.h U U (E:=[.row u []]) (Vec.row (k:=0) (s:=2) (c:=0) U U W) (new:=d) (λh=>by obtain⟨r,x,t,j⟩:=q W;exact⟨r,x,t,DP (λh=>h) j⟩) w g (λh=>by rw[Iu W];omega) (.none U) U U ?_
  exact Al
end Gq
end Go.Proofs.YtmhahajadgkolaaGreatDoor
namespace Go.Proofs.YtmhahajadgkolaaGreatDoor
open Go.RowKit Go.Shelf Tryz

def ren63:Ren:=⟨λn=>match n with|6=>63|14=>124|15=>125|20=>212|21=>213|22=>214|23=>215|24=>216|25=>217|26=>218|27=>219|28=>220|29=>221|46=>282|47=>283|48=>284|49=>285|50=>286|57=>335|n=>n,λn=>match n with|0=>0|3=>3|4=>4|5=>5|9=>9|22=>32|24=>82|25=>173|39=>182|45=>354|46=>355|50=>119|53=>29|55=>23|66=>424|70=>428|76=>467|77=>202|n=>n,λn=>n⟩
set_option maxRecDepth 100000 in
theorem lays63:SlLaysF0.n6 prog ren63 where
 mixed:=mixed
 f6:=⟨f63.name,C8,func63.trans (If some C6)⟩
 f14:=⟨f124.name,C8,func124.trans (If some C6)⟩
 f15:=func125.trans (If some C6)
 f20:=⟨f212.name,C8,func212.trans (If some C6)⟩
 f21:=⟨f213.name,C8,func213.trans (If some C6)⟩
 f22:=⟨f214.name,C8,func214.trans (If some C6)⟩
 f23:=⟨f215.name,C8,func215.trans (If some C6)⟩
 f24:=⟨f216.name,C8,func216.trans (If some C6)⟩
 f25:=⟨f217.name,C8,func217.trans (If some C6)⟩
 f26:=⟨f218.name,C8,func218.trans (If some C6)⟩
 f27:=⟨f219.name,C8,func219.trans (If some C6)⟩
 f28:=func220.trans (If some C6)
 f29:=func221.trans (If some C6)
 f46:=⟨f282.name,C8,func282.trans (If some C6)⟩
 f47:=func283.trans (If some C6)
 f48:=func284.trans (If some C6)
 f49:=⟨f285.name,C8,func285.trans (If some C6)⟩
 f50:=⟨f286.name,C8,func286.trans (If some C6)⟩
 f57:=⟨f335.name,C8,func335.trans (If some C6)⟩
 t0:=underlying0
 a0:=isAgg0
 z0:=sizeOf0
 v0:=zeroValue0
 t3:=underlying3
 a3:=isAgg3
 z3:=sizeOf3
 v3:=zeroValue3
 t4:=underlying4
 a4:=isAgg4
 z4:=sizeOf4
 v4:=zeroValue4
 t5:=underlying5
 a5:=isAgg5
 z5:=sizeOf5
 v5:=zeroValue5
 t9:=underlying9
 a9:=isAgg9
 z9:=sizeOf9
 v9:=zeroValue9
 t22:=underlying32
 a22:=isAgg32
 z22:=sizeOf32
 v22:=zeroValue32
 t25:=underlying173
 a25:=isAgg173
 z25:=sizeOf173
 v25:=zeroValue173
 t39:=underlying182
 a39:=isAgg182
 z39:=sizeOf182
 v39:=zeroValue182
 t45:=underlying354
 a45:=isAgg354
 z45:=sizeOf354
 v45:=zeroValue354
 t46:=underlying355
 a46:=isAgg355
 z46:=sizeOf355
 v46:=zeroValue355
 t50:=underlying119
 a50:=isAgg119
 z50:=sizeOf119
 v50:=zeroValue119
 t53:=underlying29
 a53:=isAgg29
 z53:=sizeOf29
 v53:=zeroValue29
 t55:=underlying23
 a55:=isAgg23
 z55:=sizeOf23
 v55:=zeroValue23
 t66:=underlying424
 a66:=isAgg424
 z66:=sizeOf424
 v66:=zeroValue424
 t70:=underlying428
 a70:=isAgg428
 z70:=sizeOf428
 v70:=zeroValue428
 t76:=underlying467
 a76:=isAgg467
 z76:=sizeOf467
 v76:=zeroValue467
 t77:=underlying202
 a77:=isAgg202
 z77:=sizeOf202
 v77:=zeroValue202
end Go.Proofs.YtmhahajadgkolaaGreatDoor
namespace Go.Proofs.YtmhahajadgkolaaGreatDoor
open Go.RowKit Go.Sort Tryz
variable{A C H N:Nat}{B M:eL}{D:Wd}{E:AtL}{F:List Nat}{G:PfL}{J:Option Addr}{K:vL}{O:Int}
section Gq
attribute [local irreducible] WL WC WE WQ WP WH WR WM WRH

theorem Xb(w:Wd)(x:Int):Cl 222 #[.int .u32 x] w (RvF (.bool false) w):=by
 refine en0 func222 U ntmps222 U ?_
 exact C3
theorem AcT(w:Wd)(x y:Int):Cl 127 #[.int .u32 x,.int .u32 y] w (RvF (iI (EF x y)) w):=by
 refine en0 func127 U ntmps127 U<|J8 ?_
 refine zk CkO U (λw a=>Xb w x)<|J6 ?_
 refine zk CkO U (λw a=>Xb w y) ?_
 exact Ao
def pfC(p q:PfL):Int:=if EF p.addr q.addr≠0 then EF p.addr q.addr else EF p.len q.len
theorem Uy(w:Wd)(p q:PfL):Cl 64 #[aA p.cells,aA q.cells] w (RvF (iI (pfC p q)) w):=by
 refine en0 func64 U ntmps64 U<|J2 ?_
 refine zx U U U U U<|λc a=>zx U U U U U<|λd b=>J4 ?_
 refine WC.AS mixed<|rF 9 [0,2,5,7]<|?_
 refine J5 ?_
 refine rA 3 [1,3,4,6,8,9] U<|qV (An U U W6.h (cellAt (v:=.int .u32 p.addr) U)) U<|qV (An U U W6.h (cellAt (v:=.int .u32 q.addr) U)) U<|qC CkO U (λw hS=>AcT w p.addr q.addr)<|qV (An U U i3o.h (cellAt (v:=iI p.len) U)) U<|qV (An U U i3o.h (cellAt (v:=iI q.len) U)) U<|qC CkO U (λw hS=>LY w p.len q.len)<|?_
 exact Gg
theorem NX(p q:PfL):pfC p q<0<->p.addr<q.addr\/p.addr=q.addr/\p.len<q.len:=by
 unfold pfC EF
 split<;>(try split)<;>(try split)<;>omega
theorem Sn(p q:PfL):pfC p q=0<->p=q:=by
 unfold pfC EF
 constructor
 .intro h
  cases p;cases q
  dsimp only at h
  congr 1<;>(revert h;split<;>(try split)<;>(try split)<;>omega)
 .rintro rfl
  simp
instance:Inhabited PfL:=⟨⟨0,0⟩⟩
theorem AhA:Go.Sort.SWO (ltOf pfC):=by
 constructor
 .intro x;unfold ltOf;exact Ro (by rw[NX];omega)
 .intro x y z c d;unfold ltOf at *;have a:=Ai8 c;have b:=Ai8 d;rw[NX] at a b;exact UV (by rw[NX];omega)
 .intro x y z c d;unfold ltOf at *;have a:=Aep c;have b:=Aep d;rw[NX] at a b;exact Ro (by rw[NX];omega)
theorem PfL.BK(p:PfL):p.cells.length=2:=rfl
theorem PfL.one(s:PfL):∀v∈s.cells,v.oneCell'=true:=λv a=>by
 rcases Rl.1 a with rfl|a
 .rfl
 .rw [Es.1 a];rfl
abbrev PfV(b:Option Addr)(c:Nat)(a:List PfL)(E:eL):Prop:=Vec 2 b a.length c (AM PfL.cells a) E
theorem N7(p:Nat->Prop)(w0 w:Wd)(L E:eL)(f:Option Addr)(c:Nat)(a:List PfL)(u:PfV f c a E)(t:St p w0 w (E++L))(r:a.length<1000000):
 Cl 63 #[.slice f a.length c,.func (.func 64) #[] #[]] w λe g =>
  e=.returned (.tuple #[])/\∃b d,b.Perm a/\b.Pairwise (λx y=>¬pfC y x<0)/\PfV f c b d/\St p w0 g (d++L):=by
 refine(Aax (P:=prog) lays63 W isAgg82 sizeOf82 (λ_=>rfl) PfL.one pfC AhA 64 #[] CkO p w0 w L E f c a (λD C _ g _ x y=>Uy g x y) u t W).mono ?_
 rintro e g ⟨z,b,d,s,v,m,k⟩
 refine⟨z,b,d,s,?_,by unfold PfV;rw[s.length_eq];exact m,k⟩
 rw[List.pairwise_iff_getElem]
 intro i j A B q
 exact v i j _ _ (FS A) (FS B) q

structure CsPf where
 k:Nat
 j:Nat
 ys:List PfL
theorem PV(p:Nat->Prop)(w0 w:Wd)(L E:eL)(N:Option Addr)(c:Nat)(xs:List PfL)(eq:PfL->PfL->Bool)(M:∀x y,eq x y=true<->PfL.cells x=PfL.cells y)(hV:Vec 2 N xs.length c (AM PfL.cells xs) E)(hS:St p w0 w (E++L))(hn:xs.length<=100000):
 Cl 65 #[.slice N xs.length c] w λe w'=>∃E',e=.returned (.slice N (uniq eq xs).length c)/\Vec 2 N (uniq eq xs).length c (AM PfL.cells (uniq eq xs)) E'/\St p w0 w' (E'++L):=by
 by_cases S:xs.length<2
 .have e0:uniq eq xs=xs:=(match xs,S with | [],_=>rfl | [x],_=>rfl|_::_::_,h=>absurd h C9)
  rw[e0]
  refine enter func65 U ntmps65 U hS ?_
  exact Bz
 have hlen:=@PfL.BK
 obtain⟨g,R,rfl,rfl,hcl,hcap⟩:=hV.split λe=>S (by rw[e];exact Nat.zero_lt_two)
 have hel:=AP hlen xs
 rw[AC,hel] at hcl
 refine enter func65 U ntmps65 U hS<|J10 ?_
 refine zV ((JF U U U).f W) U<|J12 ?_
 refine oLp (λk:Nat=>[(3,iI k),(0,.slice (aG g) xs.length c)]) (λ_=>.row g (AM PfL.cells xs++R)::L) (λk=>1<=k/\k<=xs.length/\uniq eq (xs.take k)=xs.take k) (λk=>xs.length-k) 1 ⟨M2 _,W,by match xs,S with|x::l,_=>rfl⟩ ?_
 rintro k ⟨hk1,hk,hu⟩
 refine J6 ?_
 refine JT (λO=>?_) λO=>?_
 refine J8 ?_
 refine cQ mixed<|J2 ?_
 obtain⟨m,rfl⟩:∃m,k=m+1:=⟨k-1,W⟩
 obtain⟨a,ha⟩:∃a,xs[m]?=some a:=Gx
 obtain⟨b,X⟩:∃b,xs[m+1]?=some b:=Gx
 obtain⟨F,hb25⟩:∃q,q=eq b a:=⟨_,rfl⟩
 have Z:F=true<->PfL.cells b=PfL.cells a:=(by rw[hb25];exact M b a)
 have hut:=Nq (eq:=eq) ha X
 have htk:xs.take (m+1)++[b]=xs.take (m+2):=(by rw[show m+2=(m+1)+1 from rfl,Ahz (show m+1<xs.length by omega)];exact If (λz=>xs.take (m+1)++[z]) (Ade (X.symm.trans (FS _))))
 refine qV (AA (lo:=m+1) U U U underlying32 BT W W) U<|qV (AB (cs:=PfL.cells b) U U DD.h (PfL.BK b) (AT (m:=2) (by rw[PP];exact DF hlen X))) U ?_
 refine J3 ?_
 refine qV (AA (lo:=m) U U U underlying32 BT W W) U<|qV (AB (cs:=PfL.cells a) U U DD.h (PfL.BK a) (AT (m:=2) (by rw[PP];exact DF hlen ha))) U ?_
 refine qV (GN (b:=F) U U U UW UT U U Z) U ?_
 cases F
 exact B6
 refine J7 ?_
 refine zV (HB (lo:=m+1) U U U underlying32 BT W W W) U<|J10 ?_
 refine WC.loop (λx:CsPf=>[(3,iI x.k),(5,iI x.j),(4,.slice (some ⟨g,0+(m+1)*2,none⟩) (xs.length-(m+1)) (c-(m+1))),(0,.slice (aG g) xs.length c)]) (λx=>.row g (AM PfL.cells x.ys++R)::L) (λx=>x.ys.length=xs.length/\1<=x.j/\m+1+x.j<=xs.length/\x.k<=m+x.j/\x.ys.take x.k=uniq eq (xs.take (m+1+x.j))/\∀i,m+x.j<=i->x.ys[i]?=xs[i]?) (λx=>xs.length-x.j) ⟨m+1,1,xs⟩ ⟨rfl,M2 _,C7,M2 _,by dsimp only;rw[show m+1+1=m+2 from rfl,hut, <- hb25,IR rfl,hu,Acx],λi _=>rfl⟩ (.int rfl (by first|rfl|(dsimp only;omega)) (.int rfl rfl (.cons rfl (.cons rfl .nil)))) (.refl _) ?_
 rintro⟨k,j,D⟩ ⟨hyl,aa,hj,ab,d,v⟩
 dsimp only at hyl aa hj ab d v⊢
 refine J6 ?_
 refine JT (λT=>?_) λT=>?_
 refine J8 ?_
 refine cQ mixed<|J2 ?_
 obtain⟨i,rfl⟩:∃i,j=i+1:=⟨j-1,W⟩
 obtain⟨G,H⟩:∃a,xs[m+1+i]?=some a:=Gx
 obtain⟨r,J⟩:∃b,xs[m+1+i+1]?=some b:=Gx
 obtain⟨A,B⟩:∃q,q = !eq r G:=⟨_,rfl⟩
 have K:A=true<->¬PfL.cells r=PfL.cells G:=(by rw[B, <- M];simp)
 have u:eq r G = !A:=(by rw[B];simp)
 have C:=Nq (eq:=eq) H J
 have ya:D[m+1+i]?=some G:=(by rw[v _ (W)];exact H)
 have yb:D[m+1+i+1]?=some r:=(by rw[v _ (W)];exact J)
 refine qV (AA (lo:=i+1) U U U underlying32 BT W W) U<|qV (AB (cs:=PfL.cells r) U U DD.h (PfL.BK r) (AT (m:=2) (by rw[show 0+(m+1)*2+(i+1)*2=(m+1+i+1)*2 by omega];exact DF hlen yb))) U ?_
 refine J3 ?_
 refine qV (AA (lo:=i) U U U underlying32 BT W W) U<|qV (AB (cs:=PfL.cells G) U U DD.h (PfL.BK G) (AT (m:=2) (by rw[show 0+(m+1)*2+i*2=(m+1+i)*2 by omega];exact DF hlen ya))) U ?_
 refine qV (LN (b:=A) U U U UW UT U U K) U ?_
 cases A
 refine J11 ?_
 exact eW ⟨k,i+2,D⟩ C7 ⟨hyl,C7,C7,C7,by
 dsimp only
 rw[show m+1+(i+2)=m+1+i+2 by omega,C,u,IR (show(!false)=true from rfl),Acx,show m+1+i+1=m+1+(i+1) by omega];exact d,λq hq=>by dsimp only at hq ⊢;exact v q W⟩ (.int U U (.int U C7 (.cons U (.cons U .nil))))
 refine J9 ?_
 refine zV (AA (lo:=i+1) U U U underlying32 BT W W) U<|zV (AB (cs:=PfL.cells r) U U DD.h (PfL.BK r) (AT (m:=2) (by rw[show 0+(m+1)*2+(i+1)*2=(m+1+i+1)*2 by omega];exact DF hlen yb))) U ?_
 refine zV (AA (lo:=k) U U U underlying32 BT W W) U<|WL.FN U U U U DD.h U D6 (.none U) U ?_
 refine WL.as (L':=.row g (AM PfL.cells (D.set k r)++R)::L) (by rw[PP,Jg hlen D k r R (W)]) ?_
 refine J14 ?_
 exact eW ⟨k+1,i+2,D.set k r⟩ C7 ⟨by dsimp only;rw[AbI];exact hyl,C7,C7,C7,by
 dsimp only
 rw[show m+1+(i+2)=m+1+i+2 by omega,C,u,E9 (show ¬(!true)=true by decide),show m+1+i+1=m+1+(i+1) by omega, <- d,Ahz Dm,List.take_set_of_le (M2 _),List.getElem_set_self],λq hq=>by dsimp only at hq ⊢;rw[Adq W];exact v q W⟩
 refine J12 ?_
 refine zV (HB (lo:=k) U U U underlying32 BT W W W) U<|WL.clear (s:=2) U U underlying32 FZ.h U U D6 (.none U) U ?_
 refine J6 ?_
 refine zV (Hv (hi:=k) U U U underlying32 BT W W) U<|J9 ?_
 refine eT1 ?_
 obtain rfl:j=xs.length-(m+1):=W
 have e1:uniq eq xs=D.take k:=(by rw[d,show m+1+(xs.length-(m+1))=xs.length by omega,Ah6])
 have e2:(uniq eq xs).length=k:=(by rw[e1,Ahp];omega)
 refine λw' h=>⟨[.row g _],by rw[e2],?_,h⟩
 rw[e2,e1]
 refine Vec.row ?_ ?_ W
 .rw [PP,JU (by rw[Ii,AC,AP hlen,hyl];show _+(xs.length-k)*2<=_;omega)]
  exact GR hlen D k R W
 .rw [DZ _ _ _ (by rw[Ii,AC,AP hlen,hyl];show _+(xs.length-k)*2<=_;omega),AC,AP hlen,hyl]
  exact hcl
 exact A6
end Gq

theorem Wo{P:Program}{p:Nat->Prop}{w0:World}{b m:Nat}{kk:IntKind}{e:List Value}{E:List Ent}{w:World}{ty:TypeId}
 (hu:P.underlying A=some (.slice H)) (Z:P.underlying C=some (.int kk)) (hs:(P.info? H).map (·.size)=some N) (hb:(P.info? H).map (·.bytes)=some b) (hz:Zero P H e) (y:e.length=N) (X:0<N)
 (_:0<b) (hm:0<m) (R:m<=1000000) (r:b<=1000) (hS:St p w0 w E) :
 ∃g F cs w',(Builtin.append_ #[A,C] ty #[.slice none 0 0,.int .i64 m]).run P w=.ok (.slice (some ⟨g,0,none⟩) m F) w'/\m<=F/\cs.length=F*N/\St p w0 w' (.row g cs::E):=by
 have D:∃i,P.info? H=some i/\i.bytes=b:=by
  cases D:P.info? H with
  | none=>simp[D] at hb
  | some i=>exact⟨i,rfl,by simpa [D] using hb⟩
 obtain⟨ti,hi,O⟩:=D
 have q:∀(k:Nat) (w:World),(askRoom k).run P w=.ok () w:=λk w=>by
  unfold askRoom
  by_cases h:k > roomBytes
  .rw [IR h];rfl
  .rw [E9 h];rfl
 have c:Builtin.nextslicecap m 0=m:=by unfold Builtin.nextslicecap;rw[IR W]
 have hmb:m*b<=1000000*1000:=Nat.mul_le_mul R r
 have s:¬(m*b > 2^48):=W
 obtain⟨z,hz,hzs⟩:=hz
 have hzc:z.cells=e.toArray:=by rw[<- hzs]
 have hd:=hS.drew
 let f:=(Question.appendCap m 0 H).cut (w.tape w.drawn (.appendCap m 0 H))
 have T:m<=f:=by show m<=m+_;omega
 let a:=Builtin.zeroCells e.toArray m
 let B:=Builtin.zeroCells e.toArray (f-m)
 have G:a.size=m*N:=by show(Builtin.zeroCells e.toArray m).size=_;simp[Builtin.zeroCells,y]
 have J:B.size=(f-m)*N:=by show(Builtin.zeroCells e.toArray (f-m)).size=_;simp[Builtin.zeroCells,y]
 have v:St p w0 (w.drew.alloc (.cells (a++B) H)) (.row w.drew.heap.size (a++B).toList::E):=St.new hd
 refine⟨w.drew.heap.size,f,(a++B).toList,_,?_,T,?_,v⟩
 .have t:(choose (.appendCap m 0 H)).run P w=.ok f w.drew:=rfl
  have hw:IntKind.i64.wrap (m:Int)=(m:Int):=DK W W
  have K:¬((m:Int)*(b:Int) > 2^48):=by rw[<- Int.natCast_mul];omega
  have S:¬(m*N=0):=by have:=Nat.mul_pos hm X;omega
  have x:¬((m:Int)<0):=W
  have d:¬(m<=0):=W
  have u:¬((m:Int) > IntKind.i64.max):=by show ¬((m:Int) > 9223372036854775807);omega
  have j:(asIntOf (Value.int .i64 (m:Int))).run P w=.ok (.i64,(m:Int)) w:=rfl
  simp only[Builtin.append_,List.getElem?_toArray,Ahl,Ah7,Ah5,Rr hu,Rr Z,Aes,run_sizeOf hs,Sem.run_pure,if_true,asInt,j,hw,x,if_false]
  simp only[typeInfo,program,Sem.run,hi,Ah5,Aes,O,K,if_false,Sem.run_pure,Int.toNat_natCast,PP,d,u,false_and,c,s,t,q,S,Bool.not_true,Ai5,CE hz,hzc,newRow,newObj]
  have M:(Builtin.firstCells N 0 (Value.slice none 0 0)).run P w.drew=.ok #[] w.drew:=rfl
  rw[M]
  simp only[Aes,Array.empty_append]
  rfl
 .rw [Array.length_toList,Array.size_append,G,J, <- Agz];congr 1;omega
section
variable {P:Program}{ops:Array Oper}{Q:Exit->Act->World->Prop}{n:Nat}{p:Nat->Prop}{w0:World}{o:Oper}{rest:List Oper}{l:Kn}{L:List Ent}
theorem Qq{b:World->Prop}{x:Operand}(e:o.op=.call { callee:=.builtin .cap,args:=#[x],argTypes:=#[A] })(g:ev l x=some (.slice J H N))(f:P.underlying A=some (.slice C)):Val P b n l o (.int .i64 N):=λa w d _=>by
 have c:evs l [x]=some [.slice J H N]:=by simp[evs,g]
 obtain⟨i,h⟩:=BQ (P:=P) (w:=w) (xs:=[x]) e c d
 rw[h]
 simp[builtin,Builtin.cap_,Rr f,goInt]
theorem WL.Aaf{b d m:Nat}{kk:IntKind}{t:List Value}{x y:Operand}(O:o.op=.call { callee:=.builtin .append,args:=#[x,y],argTypes:=#[A,C] })(X:ev l x=some (.slice none 0 0))(Z:ev l y=some (.int .i64 m))
 (T:P.underlying A=some (.slice H)) (q:P.underlying C=some (.int kk)) (S:(P.info? H).map (·.size)=some N) (F:(P.info? H).map (·.bytes)=some b) (hz:Zero P H t) (s:t.length=N) (k:Nat.blt 0 N=true) (i:Nat.blt 0 b=true) (K:0<m) (j:m<=1000000) (f:Nat.ble b 1000=true)
 (J:On ops o l) (G:o.dst=some d) (M:Nat.blt d n=true)
 (h:∀g c e,m<=c->e.length=c*N->WL P ops Q n p w0 rest ((d,.slice (some ⟨g,0,none⟩) m c)::l) (.row g e::L)):WL P ops Q n p w0 (o::rest) l L:=by
 refine WL.op J G M λa w E D=>?_
 have r:evs l [x,y]=some [.slice none 0 0,.int .i64 m]:=by simp[evs,X,Z]
 obtain⟨cc,R⟩:=BQ (P:=P) (w:=w) (xs:=[x,y]) O r E
 obtain⟨g,c,e,w',u,v,z,B⟩:=Wo (P:=P) (ty:=o.type) T q S F hz s (by simpa using k) (by simpa using i) K j (by simpa using f) D
 refine⟨_,w',.row g e::L,?_,B,h g c e v z⟩
 rw[R]
 simp[builtin,u]
end
section Gq
attribute [local irreducible] WL WC WE WQ WP WH WR WM WRH
theorem AcV(w:Wd)(m:Nat)(r:m<=1000000):Cl 265 #[sN,iI m] w λe w'=>∃(i:Option Addr) (c:Nat) (E:eL),e=.returned (.slice i 0 c)/\PfV i c [] E/\St Fx w w' E:=by
 refine en0 func265 U ntmps265 U<|J9 ?_
 refine zV ((JF U U U).f W) U<|J10 ?_
 refine zV ((Qq U U underlying32)) U<|J3 ?_
 refine zV (GD U U U (show _=((m:Nat):Int) from(DK W W).trans W)) U<|J6 ?_
 refine JT (λg=>?_) λg=>?_
 refine J6 ?_
 refine zV ((Qq U U underlying32)) U<|zV ((Hv (hi:=0) U U U underlying32 BT U W)) U<|J1 ?_
 refine WL.Aaf U U U underlying32 underlying3 BT P6 FZ.h U U U W r U (.none U) U U<|λd q a j b=>J2 ?_
 refine zV ((Hv (hi:=0) U U U underlying32 BT U W)) U<|J10 ?_
 refine eT1 ?_
 exact λw' h=>⟨_,_,[.row d a],rfl,Vec.row (k:=0) Ec b (Lv _),h.sub (.refl _)⟩
 refine J12 ?_
 exact Bm
structure PsL where
 ad:Option Addr
 cap:Nat
 val:List PfL
def PsL.cells(s:PsL):vL:=[.slice s.ad s.val.length s.cap]
def JG(a:List PsL):List PfL:=a.flatMap PsL.val
theorem Tu{a:List PsL}{s:PsL}(h:a[A]?=some s):JG (a.take (A+1))=JG (a.take A)++s.val:=by
 rw[AhG,h,Aiw];unfold JG;rw[List.flatMap_append,List.flatMap_cons,List.flatMap_nil,Acx]
theorem UO(a:List PsL)(k:Nat):(JG (a.take k)).length<=(JG a).length:=by
 have h:a=a.take k++a.drop k:=(AeN k a).symm
 have e:JG a=JG (a.take k)++JG (a.drop k):=by
  conv=>lhs;rw[h]
  unfold JG;rw[List.flatMap_append]
 rw[e,AC];omega
theorem Yj(w0:Wd)(r z c:Nat)(a:List PsL)(T:BH w0 (some ⟨r,z,none⟩) 1 PsL.cells a)(hC:∀s∈a,AQ w0 s.ad (AM PfL.cells s.val))(hn:(JG a).length<=100000)(hl:a.length<=1000):
 Cl 193 #[.slice (some ⟨r,z,none⟩) a.length c] w0 λe S=>∃(A:Option Addr) (c:Nat) (E:eL),e=.returned (.slice A (JG a).length c)/\PfV A c (JG a) E/\St Fx w0 S E:=by
 refine en0 func193 U ntmps193 U<|J19 ?_
 refine oLp (λk:Nat=>[(11,iI k),(10,iI a.length),(9,.slice (some ⟨r,z,none⟩) a.length c),(3,iI (JG (a.take k)).length),(0,.slice (some ⟨r,z,none⟩) a.length c)]) (λ_=>[]) (λk=>k<=a.length) (λk=>a.length-k) 0 (Lv _)<|λk hk=>J2 ?_
 refine JT (λH=>?_) λH=>?_
 refine J10 ?_
 obtain⟨s,j⟩:∃s,a[k]?=some s:=Gx
 have u:=T.get j
 have g:=Tu j
 have O:=UO a (k+1)
 have i:(JG (a.take (k+1))).length=(JG (a.take k)).length+s.val.length:=(by rw[g,AC])
 refine zV (AA (lo:=k) U U U underlying399 Qm W W) U<|zV (An U U RP.h (BY (v:=.slice s.ad s.val.length s.cap) (λh=>h) (by have:=u 0 _ rfl;exact this))) U ?_
 refine J8 ?_
 refine zV (EW U U U (show _=((JG (a.take (k+1))).length:Int) from(DK W W).trans W)) U<|J6 ?_
 refine zV ((JF U U U).f W) U<|J10 ?_
 exact eW (k+1) W W
 refine J12 ?_
 refine zK CkO U<|λw1 K=>(AcV w1 (JG (a.take k)).length (by have:=UO a k;omega)).mono ?_
 rintro e S ⟨m,F,C,rfl,t,M⟩
 refine⟨_,_,rfl,K.join M,?_⟩
 refine J12 ?_
 refine oLp (λx:Nat×Option Addr×Nat×eL=>[(27,iI x.1),(26,iI a.length),(25,.slice (some ⟨r,z,none⟩) a.length c),(6,.slice x.2.1 (JG (a.take x.1)).length x.2.2.1)]) (λx=>x.2.2.2++[]) (λx=>x.1<=a.length/\PfV x.2.1 x.2.2.1 (JG (a.take x.1)) x.2.2.2) (λx=>a.length-x.1) (0,m,F,C) ⟨Lv _,t⟩ ?_
 rintro⟨k,A,c6,E⟩ ⟨N,B⟩
 dsimp only at N B⊢
 refine J2 ?_
 refine JT (λJ=>?_) λJ=>?_
 refine J10 ?_
 obtain⟨s,j⟩:∃s,a[k]?=some s:=Gx
 have u:=T.get j
 have g:=Tu j
 have O:=UO a (k+1)
 have i:(JG (a.take (k+1))).length=(JG (a.take k)).length+s.val.length:=(by rw[g,AC])
 have R:=AP PfL.BK s.val
 have y:0<s.val.length->∃b Z,s.ad=some ⟨b,Z,none⟩/\∀w,St Fx w0 w (E++[])->w.rangeAt b Z (AM PfL.cells s.val):=(λh=>by
  obtain⟨b,o,e,u⟩:=hC s (Do j) W
  exact⟨b,o,e,λw K=>K.rng (λ_ h=>h) _ _ _ u⟩)
 refine zV (AA (lo:=k) U U U underlying399 Qm W W) U<|zV (An U U RP.h (BY (v:=.slice s.ad s.val.length s.cap) (λh=>h) (by have:=u 0 _ rfl;exact this))) U ?_
 refine J6 ?_
 refine WL.AU U U U underlying32 underlying32 BT P6 FZ.h U U B (new:=AM PfL.cells s.val) y R (Gm PfL.one _) W (.none U) U U<|λq G D d X=>?_
 rw[<- GJ, <- g] at d
 rw[<- i] at d ⊢
 refine J8 ?_
 exact eW (k+1,q,G,D) C7 ⟨C7,d⟩
 refine J16 ?_
 refine eT1 ?_
 have ek:k=a.length:=W
 rw[ek,Ah6] at B ⊢
 exact λS h=>⟨A,c6,E,rfl,B,h.sub (Acy _ _)⟩
def FP(a:List PfL):Prop:=∀p∈a,BP p=true/\U32 p.addr
noncomputable def pfE(p q:PfL):Bool:=@decide (p.cells=q.cells) (Classical.propDecidable _)
theorem OV(p q:PfL):pfE p q=true<->p.cells=q.cells:=by unfold pfE;exact @Aim _ (Classical.propDecidable _)
theorem PfL.inj{q:PfL}(h:G.cells=q.cells):G=q:=by
 cases G;cases q
 unfold PfL.cells at h
 injection h with b a
 injection a with a _
 injection b with _ b
 injection a with _ a
 subst b a;rfl
theorem Wf(p:Nat->Prop)(w0 w:Wd)(L E:eL)(f:Option Addr)(c:Nat)(g:List PfL)(A:PfV f c g E)(m:St p w0 w (E++L))(C:g.length<=100000):
 Cl 192 #[.slice f g.length c] w λe i=>∃(j:List PfL) (v:eL),e=.returned (.slice f j.length c)/\PfV f c j v/\(∀x,x∈j<->x∈g)/\j.length<=g.length/\St p w0 i (v++L):=by
 refine enter func192 U ntmps192 U m<|J8 ?_
 refine zK CkO U<|λt k=>(N7 p w0 t L E f c g A k W).mono ?_
 rintro e i ⟨rfl,u,y,s,B,q,d⟩
 refine⟨_,_,rfl,d,?_⟩
 refine J5 ?_
 refine zK CkO U<|λt k=>?_
 rw[<- s.length_eq]
 refine(PV p w0 t L y f c u pfE OV q k (by rw[s.length_eq];omega)).mono ?_
 rintro e i ⟨z,rfl,r,d⟩
 refine⟨_,_,rfl,d,?_⟩
 refine J4 ?_
 refine eT1 ?_
 exact λi h=>⟨uniq pfE u,z,rfl,r,λx=>by rw[SI λa _ b _ h=>PfL.inj ((OV a b).1 h)];exact s.mem_iff,X3 (eq:=pfE) u,h⟩
end Gq

def KPf0:Vl->Prop:=λv=>∃l,keyOf prog 82 v=some l
theorem AeB:HD prog 82 KPf0:=by
 have L:WideMaps.KeyLaw prog 82:=deep_law (m:=4) C8 C6 C6 C6
 exact B5
theorem Ahg(h:U32 O):(Lit.int .u32 O).wf=true:=by
 show(decide (IntKind.u32.min<=O) && decide (O<=IntKind.u32.max))=true
 rw[UV (show IntKind.u32.min<=O from h.1),UV (show O<=IntKind.u32.max from h.2)];rfl
theorem QP(h:I64 O):(Lit.int .i64 O).wf=true:=by
 show(decide (IntKind.i64.min<=O) && decide (O<=IntKind.i64.max))=true
 rw[UV (show IntKind.i64.min<=O from h.1),UV (show O<=IntKind.i64.max from h.2)];rfl
theorem KPf0.mk(k:U32 G.addr)(m:I64 G.len):KPf0 (aA G.cells):=by
 have i:=Ahg k
 have j:=QP m
 have g:prog.cellsOf 82=2:=C6
 have hk:prog.keyType 82=true:=C6
 have c:prog.cellsOf 30=1:=C6
 have e:prog.cellsOf 3=1:=C6
 have r:∃f,prog.keyLits (prog.types.size+1) 82 G.cells=some f:=by
  have s:prog.types.size-2+2=prog.types.size:=C6
  have a:prog.keyLits (prog.types.size-2+2) 30 [.int .u32 G.addr]=some [.int .u32 G.addr]:=by
   unfold Program.keyLits
   rw[underlying30]
   simp[i]
  have b:prog.keyLits (prog.types.size-2+2) 3 [iI G.len]=some [Lit.int .i64 G.len]:=by
   unfold Program.keyLits
   rw[underlying3]
   simp[j]
  rw[s] at a b
  unfold Program.keyLits
  rw[underlying82]
  generalize prog.types.size=Z at a b ⊢
  simp[PfL.cells,g,c,e,a,b]
 obtain⟨f,h⟩:=r
 have q:(Value.agg G.cells.toArray).formed prog 82=true:=by
  unfold Value.formed
  rw[underlying82]
  simp[g,PfL.cells]
 refine⟨.string (keyBytes f),?_⟩
 unfold keyOf
 rw[underlying82]
 have d:(Value.agg G.cells.toArray).cells.toList=G.cells:=rfl
 simp only[hk,q,Bool.and_true,if_true,d,h,Option.map_some]
theorem HD.less{P:Program}{d:TypeId}{K c:Vl->Prop}(h:HD P d K)(hk:∀v,c v->K v):HD P d c :=
 ⟨λb w v a=>h.check b w v (hk v a),λw x f j g=>h.find w x f (hk x j) λe i=>hk _ (g e i),λw v a=>h.stays w v (hk v a)⟩
def KPf:Vl->Prop:=λv=>∃p:PfL,v=aA p.cells/\BP p=true/\U32 p.addr
theorem DH:HD prog 82 KPf:=AeB.less λv ⟨p,e,a,b⟩=>by
 rw[e]
 have c:=(Ai8 a).2
 have d:=TL p.len
 exact KPf0.mk b ⟨W,W⟩
theorem KPf.mk(a:BP G=true)(b:U32 G.addr):KPf (aA G.cells):=⟨G,rfl,a,b⟩
theorem EE{q:PfL}(h:Value.agg G.cells.toArray=aA q.cells):G=q:=by
 injection h with h
 have a:G.cells=q.cells:=by simpa using If Array.toList h
 cases G;cases q
 unfold PfL.cells at a
 injection a with a b
 injection b with b _
 injection a with _ a
 injection b with _ b
 subst a b;rfl

inductive Tri where
 | nil
 | node (g:Nat) (h:Bool) (a:AtL) (K:List Ent) (l r:Tri)
def Tri.ptr:Tri->Option Addr
 | .nil=>none
 | .node g _ _ _ _ _=>some ⟨g,0,none⟩
def Tri.cells(h:Bool)(a:AtL)(l r:Tri):vL:=.pointer l.ptr::.pointer r.ptr::.bool h::a.cells
def Tri.AE:Tri->eL
 | .nil=>[]
 | .node g h a K l r=>.row g (cells h a l r)::(K++(l.AE++r.AE))
def Tri.sub:List Nat->Tri->Tri
 | [],t=>t
 | _::_,.nil=>.nil
 | b::q,.node _ _ _ _ l r=>if b=0 then sub q l else sub q r
def Tri.BS:List Nat->Tri->Tri->Tri
 | [],_,s=>s
 | _::_,.nil,_=>.nil
 | b::q,.node g h a K l r,s=>if b=0 then .node g h a K (BS q l s) r else .node g h a K l (BS q r s)
def Tri.on:List Nat->Tri->Prop
 | [],_=>True
 | _::_,.nil=>False
 | b::q,.node _ _ _ _ l r=>if b=0 then on q l else on q r
def Tri.link:List Nat->Nat×Nat->Tri->Nat×Nat
 | [],z,_=>z
 | _::_,z,.nil=>z
 | b::q,_,.node g _ _ _ l r=>if b=0 then link q (g,0) l else link q (g,1) r
theorem Tri.O1:∀(q:List Nat) (T:Tri) (r:List Nat),T.sub (q++r)=(T.sub q).sub r
 | [],_,_=>rfl
 | b::q,.nil,r=>by cases r<;>rfl
 | b::q,.node g h a K l d,r=>by
  simp only[AbT,Tri.sub]
  by_cases c:b=0
  .simp only [IR c];exact O1 q l r
  .simp only [E9 c];exact O1 q d r
theorem Tri.Sq:∀(q:List Nat) (T:Tri) (r:List Nat) (s:Tri),T.on q->T.BS (q++r) s=T.BS q ((T.sub q).BS r s)
 | [],_,_,_,_=>rfl
 | b::q,.nil,r,s,h=>h.elim
 | b::q,.node g h a K l e,r,s,c=>by
  simp only[AbT,Tri.BS,Tri.sub,Tri.on] at c ⊢
  by_cases d:b=0
  .simp only [IR d] at c ⊢;rw[Sq q l r s c]
  .simp only [E9 d] at c ⊢;rw[Sq q e r s c]
theorem Tri.Y9:∀(q:List Nat) (T:Tri) (b:Nat),T.on q->T.sub q≠.nil->T.on (q++[b])
 | [],.nil,b,_,h=>absurd rfl h
 | [],.node g h a K l r,b,_,_=>by simp only[Aec,Tri.on];split<;>trivial
 | c::q,.nil,b,h,_=>h.elim
 | c::q,.node g h a K l r,b,d,e=>by
  simp only[AbT,Tri.sub,Tri.on] at d e ⊢
  by_cases f:c=0
  .simp only [IR f] at d e ⊢;exact Y9 q l b d e
  .simp only [E9 f] at d e ⊢;exact Y9 q r b d e
theorem Tri.FW:∀(q:List Nat) (T:Tri),T.sub q≠.nil->T.on q
 | [],_,_=>trivial
 | c::q,.nil,h=>absurd rfl h
 | c::q,.node g h a K l r,b=>by
  simp only[Tri.sub,Tri.on] at b ⊢
  by_cases d:c=0
  .simp only [IR d] at b ⊢;exact FW q l b
  .simp only [E9 d] at b ⊢;exact FW q r b
theorem Tri.JB:∀(q:List Nat) (T s:Tri),T.on q->(T.BS q s).sub q=s
 | [],_,_,_=>rfl
 | c::q,.nil,s,h=>h.elim
 | c::q,.node g h a K l r,s,b=>by
  simp only[Tri.on,Tri.BS] at b ⊢
  by_cases d:c=0
  .simp only [IR d] at b ⊢;simp only[Tri.sub,IR d];exact JB q l s b
  .simp only [E9 d] at b ⊢;simp only[Tri.sub,E9 d];exact JB q r s b
theorem Tri.Vo:∀(q:List Nat) (T s:Tri),T.on q->(T.BS q s).on q
 | [],_,_,_=>trivial
 | c::q,.nil,s,h=>h.elim
 | c::q,.node g h a K l r,s,b=>by
  simp only[Tri.on,Tri.BS] at b ⊢
  by_cases d:c=0
  .simp only [IR d] at b ⊢;simp only[Tri.on,IR d];exact Vo q l s b
  .simp only [E9 d] at b ⊢;simp only[Tri.on,E9 d];exact Vo q r s b
theorem Tri.OG:∀(q:List Nat) (T:Tri) (z:Nat×Nat) (b g:Nat) (h:Bool) (a:AtL) (K:eL) (l r:Tri),T.sub q=.node g h a K l r->T.link (q++[b]) z=(g,if b=0 then 0 else 1)
 | [],_,z,b,g,h,a,K,l,r,e=>by cases e;simp only[Aec,Tri.link];split<;>rfl
 | c::q,.nil,z,b,g,h,a,K,l,r,e=>by cases e
 | c::q,.node m s k j f i,z,b,g,h,a,K,l,r,e=>by
  simp only[AbT,Tri.sub,Tri.link] at e ⊢
  by_cases d:c=0
  .simp only [IR d] at e ⊢;exact OG q f _ b g h a K l r e
  .simp only [E9 d] at e ⊢;exact OG q i _ b g h a K l r e
theorem Tri.focus:∀(q:List Nat) (T:Tri) (f d:Nat) (i:vL),T.on q->d<i.length->∃(A B:eL) (c:vL),(T.link q (f,d)).2<c.length/\∀S:Tri,
 (Ent.row f (i.set d (.pointer (T.BS q S).ptr))::(T.BS q S).AE).Perm (S.AE++(A++.row (T.link q (f,d)).1 (c.set (T.link q (f,d)).2 (.pointer S.ptr))::B))
 | [],T,f,d,i,_,x=>⟨[],[],i,x,λS=>by
  show(Ent.row f (i.set d (.pointer S.ptr))::S.AE).Perm (S.AE++[Ent.row f (i.set d (.pointer S.ptr))])
  exact(List.perm_append_singleton _ _).symm⟩
 | b::q,.nil,f,d,i,h,_=>h.elim
 | b::q,.node g h a K l r,f,d,i,m,x=>by
  simp only[Tri.on] at m
  by_cases j:b=0
  .simp only [IR j] at m
   obtain⟨A,B,c,v,w⟩:=focus q l g 0 (cells h a l r) m (by unfold cells;simp)
   have hk:(Tri.node g h a K l r).link (b::q) (f,d)=l.link q (g,0):=(by simp only[Tri.link,IR j])
   refine⟨.row f (i.set d (.pointer (some ⟨g,0,none⟩)))::(K++(r.AE++A)),B,c,by rw[hk];exact v,λS=>?_⟩
   rw[hk]
   have k:=w S
   simp only[Tri.BS,IR j,Tri.AE]
   rw[show(Tri.node g h a K (Tri.BS q l S) r).ptr=some ⟨g,0,none⟩ from rfl]
   have s:(cells h a l r).set 0 (.pointer (l.BS q S).ptr)=cells h a (l.BS q S) r:=rfl
   rw[s] at k
   refine List.Perm.trans (l₂:=.row f (i.set d (.pointer (some ⟨g,0,none⟩)))::(K++(r.AE++(.row g (cells h a (l.BS q S) r)::(l.BS q S).AE)))) ?_ ?_
   .classical
    refine Ai3.2 λe=>?_
    simp only[List.count_cons,List.count_append];omega
   .classical
    have t:=λe=>Ai3.1 k e
    refine Ai3.2 λe=>?_
    have u:=t e
    simp only[List.count_cons,List.count_append] at u ⊢;omega
  .simp only [E9 j] at m
   obtain⟨A,B,c,v,w⟩:=focus q r g 1 (cells h a l r) m (by unfold cells;simp)
   have hk:(Tri.node g h a K l r).link (b::q) (f,d)=r.link q (g,1):=(by simp only[Tri.link,E9 j])
   refine⟨.row f (i.set d (.pointer (some ⟨g,0,none⟩)))::(K++(l.AE++A)),B,c,by rw[hk];exact v,λS=>?_⟩
   rw[hk]
   have k:=w S
   simp only[Tri.BS,E9 j,Tri.AE]
   rw[show(Tri.node g h a K l (Tri.BS q r S)).ptr=some ⟨g,0,none⟩ from rfl]
   have s:(cells h a l r).set 1 (.pointer (r.BS q S).ptr)=cells h a l (r.BS q S):=rfl
   rw[s] at k
   refine List.Perm.trans (l₂:=.row f (i.set d (.pointer (some ⟨g,0,none⟩)))::(K++(l.AE++(.row g (cells h a l (r.BS q S))::(r.BS q S).AE)))) ?_ ?_
   .classical
    refine Ai3.2 λe=>?_
    simp only[List.count_cons,List.count_append];omega
   .classical
    have t:=λe=>Ai3.1 k e
    refine Ai3.2 λe=>?_
    have u:=t e
    simp only[List.count_cons,List.count_append] at u ⊢;omega
def Tri.all(t:Nat)(m k:Int)(T:Tri):eL:=.row t [.pointer T.ptr,iI m,iI k]::T.AE
theorem Tri.YN(t:Nat)(m k:Int)(q:List Nat)(T:Tri)(h:T.on q):∃(A B:eL) (c:vL),(T.link q (t,0)).2<c.length/\∀S:Tri,
 ((T.BS q S).all t m k).Perm (S.AE++(A++.row (T.link q (t,0)).1 (c.set (T.link q (t,0)).2 (.pointer S.ptr))::B)) :=
 T.focus q t 0 [.pointer none,iI m,iI k] h C9
theorem Tri.He:∀(q:List Nat) (T:Tri),T.on q->T.BS q (T.sub q)=T
 | [],_,_=>rfl
 | c::q,.nil,h=>h.elim
 | c::q,.node g h a K l r,b=>by
  simp only[Tri.on,Tri.BS,Tri.sub] at b ⊢
  by_cases d:c=0
  .simp only [IR d] at b ⊢;rw[He q l b]
  .simp only [E9 d] at b ⊢;rw[He q r b]
theorem Tri.mem:∀(q:List Nat) (T:Tri) (g:Nat) (h:Bool) (a:AtL) (K:eL) (l r:Tri),T.sub q=.node g h a K l r->∀e∈(Tri.node g h a K l r).AE,e∈T.AE
 | [],_,g,h,a,K,l,r,e=>by cases e;exact λe k=>k
 | c::q,.nil,g,h,a,K,l,r,e=>by cases e
 | c::q,.node s t m j f i,g,h,a,K,l,r,e=>by
  simp only[Tri.sub] at e
  intro x d
  show x∈_::(j++(f.AE++i.AE))
  by_cases b:c=0
  .simp only [IR b] at e
   exact EQ _ (Mu _ (Ha _ (mem q f g h a K l r e x d)))
  .simp only [E9 b] at e
   exact EQ _ (Mu _ (Mu _ (mem q i g h a K l r e x d)))
section Gq
attribute [local irreducible] WL WC WE WQ WP WH WR WM WRH

def LW(a:Int)(i:Nat):Nat:=(a / 2^(31-i) % 2).toNat
theorem Oe(a:Int)(i:Nat):LW a i<2:=by unfold LW;omega
theorem bitX_I(a:Int)(i:Nat):((LW a i:Nat):Int)=a / 2^(31-i) % 2:=by unfold LW;omega
def PfL.bits(p:PfL):List Nat:=(List.range p.len.toNat).map (LW p.addr)
theorem PfL.Il(p:PfL):p.bits.length=p.len.toNat:=by unfold PfL.bits;simp
theorem PfL.I4(p:PfL){i:Nat}(h:i<p.len.toNat):p.bits.take (i+1)=p.bits.take i++[LW p.addr i]:=by
 rw[Ahz (by rw[p.Il];exact h)]
 simp[PfL.bits]
theorem UH(h:0<=O)(c:O<=4294967295):bits .and .u32 O 1=O % 2:=by
 obtain⟨n,rfl⟩:=Int.eq_ofNat_of_zero_le h
 show IntKind.u32.wrap ((BitVec.ofInt 32 (n:Int) &&& BitVec.ofInt 32 1).toNat:Int)=_
 rw[Ag5,BitVec.toNat_and,Ags,show(BitVec.ofInt 32 1).toNat=2^1-1 by decide,Nat.and_two_pow_sub_one_eq_mod,AgI (a:=n) W,IntKind.wrap_u32]
 have b:n % 2^1=n % 2:=rfl
 rw[b]
 omega
theorem AcK(w:Wd)(a:Int)(i:Nat)(d:U32 a)(k:i<32):Cl 276 #[.int .u32 a,iI i] w (RvF (iI (LW a i:Nat)) w):=by
 have b:=d.1
 have g:=d.2
 have e:0<=a / (2:Int)^(31-i):=Int.ediv_nonneg b (Int.le_of_lt (Int.pow_pos C8))
 have j:a / (2:Int)^(31-i)<=a:=Int.ediv_le_self _ b
 refine en0 func276 U ntmps276 U<|J9 ?_
 refine zV ((JF U U U).f W) U<|J2 ?_
 refine zS ((SK U U U).f W) U<|J10 ?_
 refine zV (GD U U U (show _=((31-i:Nat):Int) by rw[DK W W];omega)) U<|zV (IP (m:=31-i) (c:=(2:Int)^(31-i)) U U U U (by show 31-i<=32;omega) U) U ?_
 refine zV (HX U U U (UH e W)) U<|zV (FA U U underlying3 underlying30 (DK W W)) U<|J4 ?_
 refine eT1 ?_
 exact λq h=>⟨by rw[bitX_I],h.frm⟩
theorem Tri.OD{T:Tri}(h:T.ptr≠none):∃g h a K l r,T=.node g h a K l r:=by
 cases T with
 | nil=>exact absurd rfl h
 | node g b a K l r=>exact⟨g,b,a,K,l,r,rfl⟩
theorem Tri.Px{T:Tri}(h:¬T.ptr≠none):T=.nil:=by
 cases T with
 | nil=>rfl
 | node g b a K l r=>exact absurd (by intro e;cases e) h
theorem Tri.QT:∀q:List Nat,Tri.sub q .nil=.nil
 | []=>rfl
 | _::_=>rfl
theorem Tri.Tv{h:Bool}{l r:Tri}(a:A<2):(Tri.cells h E l r)[A]?=some (.pointer (if A=0 then l else r).ptr):=by
 match A,a with
 | 0,_=>rfl
 | 1,_=>rfl
theorem Tri.sub_one{h:Bool}{l r:Tri}(b:Nat):(Tri.node A h E B l r).sub [b]=if b=0 then l else r:=by
 simp only[Tri.sub]
theorem BO{p:Nat->Prop}{v:Vl}(b:¬p A)(c:Row D A K)(d:K[C]?=some v):∀w,St p D w B->w.cell? ⟨A,C,none⟩=some v:=λ_ a=>(a.Ae0 b c).cell d
theorem IG(h:BP G=true):0<=G.len/\G.len<=32:=by
 have a:=(Ai8 h).2
 have b:=TL G.len
 omega
theorem U0(w0:Wd)(t:Nat)(m k:Int)(T:Tri)(p:PfL)(z:U32 p.addr)(hok:BP p=true)(v:∀e∈T.all t m k,e.holds w0):
 Cl 268 #[.pointer (some ⟨t,0,none⟩),aA p.cells] w0 (RvF (.pointer (T.sub p.bits).ptr) w0):=by
 have E:=IG hok
 have j:=p.Il
 have c:Row w0 t [.pointer T.ptr,iI m,iI k]:=v _ Fr
 refine en0 func268 U ntmps268 U<|J2 ?_
 refine zx U U U U U<|λu C=>J7 ?_
 refine zV (AI false U U underlying243 U) U<|J2 ?_
 refine zk CkO U (λw A=>(I8 w p z).mono Ea) ?_
 refine zS ((Gs U U U).f W) U<|J11 ?_
 refine zV (An U U Hh ((BO (λh=>h) c U))) U<|J10 ?_
 refine oLp (λi:Nat=>[(5,.pointer (T.sub (p.bits.take i)).ptr),(6,iI i),(3,.pointer (some ⟨u,0,none⟩))]) (λ_=>[.row u p.cells]) (λi=>i<=p.len.toNat) (λi=>p.len.toNat-i) 0 (Lv _)<|λi D=>J6 ?_
 refine JT (λd=>?_) λd=>?_
 refine J2 ?_
 refine WL.test (NZ U U underlying331) (.some U U U) U U (λb=>?_) λb=>?_
 refine J8 ?_
 refine cQ mixed<|J4 ?_
 obtain⟨g,x,a,K,l,r,s⟩:=Tri.OD b
 have B:=Oe p.addr i
 have q:Row w0 g (Tri.cells x a l r):=v _ (EQ _ (T.mem (p.bits.take i) g x a K l r s _ Fr))
 rw[s]
 refine qC CkO U (λw A=>AcK w p.addr i z W)<|J2 ?_
 refine qV (AG (lo:=LW p.addr i) U U U underlying404 LH W W) U<|qV (An U U Hh ((BO (λh=>h) q (by rw[PP,Aed];exact Tri.Tv B)))) U ?_
 refine J9 ?_
 exact eW (i+1) W W (.eq U (by rw[p.I4 (W),Tri.O1,s,Tri.sub_one]) (.int U W (.cons U .nil)))
 refine J16 ?_
 refine eT1 ?_
 exact λw' h=>⟨by
 have y:=Tri.Px b
 have e:T.sub p.bits=.nil:=(by rw[<- AeN i p.bits,Tri.O1,y,Tri.QT])
 rw[e,y],h.frm⟩
 refine J19 ?_
 refine eT1 ?_
 exact λw' h=>⟨by rw[Aco (by rw[j];omega)],h.frm⟩

def Tri.get(T:Tri)(q:List Nat):Option AtL :=
 match T.sub q with
 | .node _ true a _ _ _=>some a
 | _=>none
theorem Tri.get_nil{T:Tri}(h:T.sub F=.nil):T.get F=none:=by unfold Tri.get;rw[h]
theorem Tri.get_t{T:Tri}{l r:Tri}(h:T.sub F=.node A true E B l r):T.get F=some E:=by unfold Tri.get;rw[h]
theorem Tri.get_f{T:Tri}{l r:Tri}(h:T.sub F=.node A false E B l r):T.get F=none:=by unfold Tri.get;rw[h]
theorem JP{w:Wd}(h:∀e∈M,e.holds D)(b:St Fx D w B):∀e∈M,e.holds w:=λe a=>Ent.BI (h e a) (b.frm.block _ (Ent.lt (h e a)) λh=>h)
theorem Vx{m:Nat}{c:vL}(d:Row D A K)(b:seg K C m=c):D.rangeAt A C c:=λi v a=>by
 subst b
 refine d.cell ?_
 unfold seg at a
 rw[Agg] at a
 split at a
 .rwa [Aic] at a
 .cases a
theorem segRow{p:Nat->Prop}{m:Nat}{b:vL}(c:¬p A)(d:Row D A K)(a:seg K C m=b):∀w,St p D w B->w.rangeAt A C b:=DP c (Vx d a)
theorem UC(w0:Wd)(t:Nat)(m k:Int)(T:Tri)(p:PfL)(A:U32 p.addr)(j:BP p=true)(q:∀e∈T.all t m k,e.holds w0):
 Cl 197 #[.pointer (some ⟨t,0,none⟩),aA p.cells] w0 (RvF (.tuple #[.agg ((T.get p.bits).getD .zero).cells.toArray,.bool (T.get p.bits).isSome]) w0):=by
 refine en0 func197 U ntmps197 U<|J2 ?_
 refine zx U U U U U<|λB x=>zy U HR U U<|λC y=>J7 ?_
 refine zk CkO U (λw v=>U0 w t m k T p A j (JP q v))<|J7 ?_
 refine zT (LM U U underlying331) U (λb=>?_) λb=>?_
 refine J12 ?_
 refine zy U HR U U<|λu f=>J11 ?_
 refine eT2 ?_
 exact λs h=>⟨by rw[Tri.get_nil (Tri.Px λz=>z b)];rfl,h.frm⟩
 refine J2 ?_
 obtain⟨g,i,a,K,l,r,d⟩:=Tri.OD b
 have c:Row w0 g (Tri.cells i a l r):=q _ (EQ _ (T.mem p.bits g i a K l r d _ Fr))
 rw[d]
 refine J2 ?_
 refine zS (An U U i4o.h ((BO (λh=>h) c U))) U ?_
 skip
 cases i
 refine J7 ?_
 refine zy U HR U U<|λu f=>J11 ?_
 refine eT2 ?_
 exact λs h=>⟨by rw[Tri.get_f d];rfl,h.frm⟩
 refine J12 ?_
 refine zV (AB U U JZ.h U ((segRow (m:=10) (λh=>h) c U))) U<|J5 ?_
 refine eT2 ?_
 exact λs h=>⟨by rw[Tri.get_t d];rfl,h.frm⟩

theorem BR.BK(s:BR):s.cells.length=2:=rfl
theorem CS.BK(s:CS):s.cells.length=2:=rfl
theorem Jz{s:Type}{c:s->vL}{a:List s}(q:∀x,(c x).length=A)(m:0<A)(h:BH D J A c a):AQ D J (AM c a):=λC=>by
 have B:=AP q a
 have w:0<a.length:=by
  cases a with
  | nil=>exact absurd C (Nat.lt_irrefl 0)
  | cons x a=>exact Nat.succ_pos _
 obtain⟨b,o,e,_⟩:=h 0 _ (FS w)
 refine⟨b,o,e,λj v k=>?_⟩
 have f:j<a.length*A:=by rw[<- B];exact(Eu.1 k).1
 have z:j / A<a.length:=(Nat.div_lt_iff_lt_mul m).2 f
 have r:a[j / A]?=some a[j / A]:=FS z
 have g:=DF q (R:=[]) r
 rw[Acx] at g
 have y:(c a[j / A])[j % A]?=some v:=by
  rw[<- g]
  unfold seg
  rw[Agg,IR (Nat.mod_lt _ m),Aic,Ais,Nat.div_add_mod]
  exact k
 obtain⟨F,G,d,E⟩:=h _ _ r
 rw[e] at d
 injection d with d
 injection d with t u
 subst t u
 have i:=E _ _ y
 rw[Nat.add_assoc,Ais (j / A) A,Nat.div_add_mod] at i
 exact i
theorem Ct{g:Type}{a:g->vL}{c:List g}(f:∀x,(a x).length=A)(k:0<A)(h:AQ D J (AM a c)):BH D J A a c:=λi x d=>by
 have j:=AP f c
 have q:=(Eu.1 d).1
 obtain⟨b,o,e,m⟩:=h (by rw[j];exact Nat.mul_pos (W) k)
 exact⟨b,o,e,Rg.seg f m d⟩
theorem CY(b:Vec A J C H K B)(h:∀e∈B,e.holds D):AQ D J K:=λc=>by
 rcases b with⟨_,_,_,rfl,_⟩|⟨g,a,rfl,rfl,rfl,_,_⟩
 .exact absurd c (Nat.lt_irrefl 0)
 .exact ⟨g,0,rfl,Vx (m:=C*A) (h _ Fr) (by unfold seg;rw[AeP])⟩
def AtK(K:eL)(a:AtL):Prop:=∀w,(∀e∈K,e.holds w)->a.At w
theorem AtK.mono(h:AtK B E)(b:∀e∈B,e∈M):AtK M E:=λw c=>h w λe a=>c e (b e a)
structure AtL.Zs(a:AtL):Prop where
 path:a.path.length<=100000
 comms:a.comms.length<=100000
 oths:a.others.length<=100000
 LX:∀s∈a.path,s.asl.length<=1000000
 vals:∀o∈a.others,o.val.length<=140737488355328
def BR.say(s:BR):Bool×List Int:=(s.set,s.asl)
def CS.say(o:CS):Int×List Int:=(o.ty,o.val)
structure Kf where
 has:Int
 origin:Int
 path:List (Bool×List Int)
 hop:Int
 med:Int
 loc:Int
 aas:Int
 aid:Int
 comms:List Int
 others:List (Int×List Int)
def AtL.say(a:AtL):Kf:=⟨a.has,a.origin,a.path.map BR.say,a.hop,a.med,a.loc,a.aas,a.aid,a.comms,a.others.map CS.say⟩
def SegK(K:eL)(s:BR):Prop:=∃E,Vec 1 s.ad s.asl.length s.cap (CN s.asl) E/\∀e∈E,e∈K
def OthK(K:eL)(o:CS):Prop:=∃E,Vec 1 o.ad o.val.length o.cap (u8s o.val) E/\∀e∈E,e∈K
theorem SegK.mono{s:BR}(h:SegK B s)(b:∀e∈B,e∈M):SegK M s:=let ⟨E,h1,h2⟩:=h; ⟨E,h1,λe a=>b e (h2 e a)⟩
theorem OthK.mono{s:CS}(h:OthK B s)(b:∀e∈B,e∈M):OthK M s:=let ⟨E,h1,h2⟩:=h; ⟨E,h1,λe a=>b e (h2 e a)⟩
def atW(a:AtL)(d:Option Addr)(g:Nat)(b:Option Addr)(e:Nat)(c:Option Addr)(f:Nat):vL:=[iI a.has,iI a.origin,.slice d a.path.length g,.int .u32 a.hop,iI a.med,iI a.loc,iI a.aas,.int .u32 a.aid,.slice b a.comms.length e,.slice c a.others.length f]
theorem BR.one(s:BR):∀v∈s.cells,v.oneCell'=true:=λv a=>by
 rcases Rl.1 a with rfl|a
 .rfl
 .rw [Es.1 a];rfl
theorem CS.one(s:CS):∀v∈s.cells,v.oneCell'=true:=λv a=>by
 rcases Rl.1 a with rfl|a
 .rfl
 .rw [Es.1 a];rfl
theorem set2{d:Type}{enc:d->vL}(f g:d->Vl)(c:∀x,enc x=[f x,g x])(R:vL):∀(b:List d) (i:Nat) (x a:d),b[i]?=some x->f a=f x->(AM enc b++R).set (i*2+1) (g a)=AM enc (b.set i a)++R
 | [],i,x,a,h,_=>by cases h
 | y::b,0,x,a,h,e=>by
  cases h
  show((enc y++AM enc b)++R).set (0*2+1) (g a)=(enc a++AM enc b)++R
  rw[c,c,e];rfl
 | y::b,i+1,x,a,h,e=>by
  show((enc y++AM enc b)++R).set ((i+1)*2+1) (g a)=(enc y++AM enc (b.set i a))++R
  rw[c y,show(i+1)*2+1=(i*2+1)+2 by omega]
  show f y::g y::((AM enc b++R).set (i*2+1) (g a))=f y::g y::(AM enc (b.set i a)++R)
  rw[set2 f g c R b i x a h e]
theorem snd2{c:Type}{a:c->vL}(f g:c->Vl)(d:∀x,a x=[f x,g x])(R:vL):∀(b:List c) (i:Nat) (x:c),b[i]?=some x->(AM a b++R)[0+i*2+1]?=some (g x)
 | [],i,x,h=>by cases h
 | y::b,0,x,h=>by
  cases h
  show((a y++AM a b)++R)[0+0*2+1]?=_
  rw[d];rfl
 | y::b,i+1,x,h=>by
  show((a y++AM a b)++R)[0+(i+1)*2+1]?=_
  rw[d y,show 0+(i+1)*2+1=(0+i*2+1)+2 by omega]
  show(AM a b++R)[0+i*2+1]?=_
  exact snd2 f g d R b i x h
structure AcS where
 k:Nat
 ss:List BR
 E:eL
 K:eL
structure AoS where
 k:Nat
 ss:List CS
 E:eL
 K:eL
theorem I2(w0:Wd)(a:AtL)(hA:a.At w0)(hz:a.Zs):
 Cl 123 #[aA a.cells] w0 λe w'=>∃(a':AtL) (E K:eL),e=.returned (aA a'.cells)/\a'.say=a.say/\Vec 1 a'.cad a'.comms.length a'.cc (CN a'.comms) E/\AtK (E++K) a'/\St Fx w0 w' (E++K):=by
 have hz1:=hz.path
 have hz2:=hz.oths
 refine en0 func123 U ntmps123 U<|J2 ?_
 refine zx U U U U U<|λN hg1=>zy U HR U U<|λg2 hg2=>J6 ?_
 refine zK CkO U<|λw1 D=>(AcR w1 a.pad a.path.length a.pc (AM BR.cells a.path) (AP BR.BK _) (Jz BR.BK C8 ((hA.frm (D.rng λ_ h=>h)).path)) (Gm BR.one _) (by have:=hz.path;omega)).mono ?_
 rintro e w' ⟨f,H,E1,rfl,hV1,m⟩
 refine⟨_,_,rfl,D.join m,?_⟩
 refine J14 ?_
 refine oLp (λx:AcS=>[(12,iI x.k),(11,iI a.path.length),(1,pG N),(2,pG g2)]) (λx=>x.E++(.row g2 AtL.zero.cells::.row N (atW a f H a.cad a.cc a.oad a.oc)::x.K)) (λx=>x.k<=a.path.length/\x.ss.length=a.path.length/\x.ss.map BR.say=a.path.map BR.say/\Vec 2 f a.path.length H (AM BR.cells x.ss) x.E/\(∀j,x.k<=j->x.ss[j]?=a.path[j]?)/\(∀j s,j<x.k->x.ss[j]?=some s->SegK x.K s)) (λx=>a.path.length-x.k) ⟨0,a.path,E1,[]⟩ ⟨Lv _,rfl,rfl,hV1,λ_ _=>rfl,λj s h=>absurd h (Ac5 _)⟩ ?_
 rintro⟨k,M,E,K⟩ ⟨hk,F,X,hV,A,z⟩
 dsimp only at hk F X hV A z⊢
 refine J2 ?_
 refine JT (λh13=>?_) λh13=>?_
 refine J10 ?_
 obtain⟨s,hs⟩:∃s,a.path[k]?=some s:=Gx
 have c:M[k]?=some s:=(by rw[A k (M2 _)];exact hs)
 have hss:M≠[]:=(by intro e;rw[e] at c;cases c)
 rw[<- F] at hV
 obtain⟨gp,R,rfl,rfl,hcl,v⟩:=hV.split hss
 rw[F] at hV v
 have S:∀x:BR,(AM BR.cells (M.set k x)++R).length=H*2:=λx=>(by rw[AC,AP BR.BK,AbI, <- AP BR.BK, <- AC];exact hcl)
 simp only[AbT,Aec]
 refine J4 ?_
 refine WC.held ([.row N (atW a (aG gp) H a.cad a.cc a.oad a.oc)]) mixed<|WRH.first (g:=5) [0,1,2,3,4,5,6,7] C6 C6 kp<|J6 ?_
 refine zj (AA (lo:=k) U U U underlying33 Ia W W) U<|J1 ?_
 refine WH.nil<|WRH.one (g:=4) 8 C6<|zV (An U U S3.h ((cellAt (cs:=AM BR.cells M++R) (snd2 (λs:BR=>.bool s.set) (λs:BR=>.slice s.ad s.asl.length s.cap) (λ_=>rfl) R M k s c)))) U<|WL.BL kp<|?_
 refine WRH.one (g:=3) 9 C6<|zK CkO U<|λw1 D=>?_
 have hm:=Do hs
 refine(VY w1 s.ad s.asl.length s.cap (CN s.asl) (by rw[HJ,Aed]) ((hA.frm (D.rng λ_ h=>h)).LX s hm) (W8 _) (hz.LX s hm)).mono ?_
 rintro e w' ⟨b,J,E2,rfl,hV2,m⟩
 refine⟨_,_,rfl,D.join m,?_⟩
 refine WL.BL kp<|WRH.first (g:=1) [10,11] C6 C6 kp<|zj (AA (lo:=k) U U U underlying33 Ia W W) U<|J1 ?_
 refine WH.nil<|WRH.one (g:=0) 12 C6<|WL.DX U U U U S3.h (by rw[AC,AP BR.BK,F];omega) (.none U) U ?_
 refine WL.BL kp<|WRH.done C6<|J6 ?_
 refine WE.to (L':=[.row gp (AM BR.cells (M.set k { s with ad:=b,cap:=J })++R)]++(.row g2 AtL.zero.cells::.row N (atW a (aG gp) H a.cad a.cc a.oad a.oc)::(E2++K))) (λw h=>by
  have Z:(AM BR.cells M++R).set (k*2+1) (.slice b s.asl.length J)=AM BR.cells (M.set k { s with ad:=b,cap:=J })++R:=set2 (enc:=BR.cells) (λs:BR=>.bool s.set) (λs:BR=>.slice s.ad s.asl.length s.cap) (λ_=>rfl) R M k s { s with ad:=b,cap:=J } c U
  rw[PP,Z] at h
  exact h.AJ) ?_
 refine eW ⟨k+1,M.set k { s with ad:=b,cap:=J },_,E2++K⟩ C7 ⟨C7,by dsimp only;rw[AbI];exact F,?_,?_,?_,?_⟩
 .dsimp only
  rw[List.map_set, <- X]
  refine AhO λj=>?_
  by_cases r:j=k
  .subst r
   rw[AdZ Dq,WF,c];rfl
  .rw [Adq (Ai4 r)]
 .dsimp only
  refine Vec.row ?_ (S _) v
  have h1:=GR BR.BK (M.set k { s with ad:=b,cap:=J }) a.path.length R Dm
  rw[h1,Aco Dm]
 .intro j r
  dsimp only at r ⊢
  rw[Adq W]
  exact A j W
 .intro j s' r d
  dsimp only at r d ⊢
  by_cases T:j=k
  .subst T
   rw[AdZ W] at d
   cases d
   exact⟨E2,hV2,λe he=>Ha _ he⟩
  .rw [Adq (Ai4 T)] at d
   exact(z j s' W d).mono λe he=>Mu _ he
 refine J13 ?_
 refine zK CkO U<|λw1 D=>(VY w1 a.cad a.comms.length a.cc (CN a.comms) (by rw[HJ,Aed]) ((hA.frm (D.rng λ_ h=>h)).comms) (W8 _) (by have:=hz.comms;omega)).mono ?_
 rintro e w' ⟨u,cc,E3,rfl,hV3,m⟩
 refine⟨_,_,rfl,D.join m,?_⟩
 refine J8 ?_
 refine zK CkO U<|λw1 D=>(AcP w1 a.oad a.others.length a.oc (AM CS.cells a.others) (AP CS.BK _) (Jz CS.BK C8 ((hA.frm (D.rng λ_ h=>h)).oths)) (Gm CS.one _) (by have:=hz.oths;omega)).mono ?_
 rintro e w' ⟨C,oc,E4,rfl,hV4,m⟩
 refine⟨_,_,rfl,D.join m,?_⟩
 refine J9 ?_
 refine WL.to (L':=E4++(.row g2 AtL.zero.cells::.row N (atW a f H u cc C oc)::([]++(E3++(E++K))))) (λw h=>St.AJ (L:=E4++(E3++(E++(.row g2 AtL.zero.cells::.row N (atW a f H u cc C oc)::K)))) h)<|J5 ?_
 refine oLp (λx:AoS=>[(39,iI x.k),(38,iI a.others.length),(1,pG N),(2,pG g2)]) (λx=>x.E++(.row g2 AtL.zero.cells::.row N (atW a f H u cc C oc)::(x.K++(E3++(E++K))))) (λx=>x.k<=a.others.length/\x.ss.length=a.others.length/\x.ss.map CS.say=a.others.map CS.say/\Vec 2 C a.others.length oc (AM CS.cells x.ss) x.E/\(∀j,x.k<=j->x.ss[j]?=a.others[j]?)/\(∀j s,j<x.k->x.ss[j]?=some s->OthK x.K s)) (λx=>a.others.length-x.k) ⟨0,a.others,E4,[]⟩ ⟨Lv _,rfl,rfl,hV4,λ_ _=>rfl,λj s h=>absurd h (Ac5 _)⟩ ?_
 rintro⟨y,G,E5,K2⟩ ⟨hk2,i,B,O,t,q⟩
 dsimp only at hk2 i B O t q⊢
 refine J2 ?_
 refine JT (λh40=>?_) λh40=>?_
 refine J10 ?_
 obtain⟨s,hs⟩:∃s,a.others[y]?=some s:=Gx
 have c:G[y]?=some s:=(by rw[t y (M2 _)];exact hs)
 have hss:G≠[]:=(by intro e;rw[e] at c;cases c)
 rw[<- i] at O
 obtain⟨gp,R,rfl,rfl,hcl,v⟩:=O.split hss
 rw[i] at O v
 have S:∀x:CS,(AM CS.cells (G.set y x)++R).length=oc*2:=λx=>(by rw[AC,AP CS.BK,AbI, <- AP CS.BK, <- AC];exact hcl)
 simp only[AbT,Aec]
 refine J4 ?_
 refine WC.held ([.row N (atW a f H u cc (aG gp) oc)]) mixed<|WRH.first (g:=5) [0,1,2,3,4,5,6,7] C6 C6 kp<|J6 ?_
 refine zj (AA (lo:=y) U U U underlying35 ME W W) U<|J1 ?_
 refine WH.nil<|WRH.one (g:=4) 8 C6<|zV (An U U i109o.h ((cellAt (cs:=AM CS.cells G++R) (snd2 (λs:CS=>iI s.ty) (λs:CS=>.slice s.ad s.val.length s.cap) (λ_=>rfl) R G y s c)))) U<|WL.BL kp<|?_
 refine WRH.one (g:=3) 9 C6<|zK CkO U<|λw1 D=>?_
 have hm:=Do hs
 refine(AcO w1 s.ad s.val.length s.cap (u8s s.val) (by rw[VI,Aed]) ((hA.frm (D.rng λ_ h=>h)).vals s hm) (AhZ _) (hz.vals s hm)).mono ?_
 rintro e w' ⟨b,J,E6,rfl,hV6,m⟩
 refine⟨_,_,rfl,D.join m,?_⟩
 refine WL.BL kp<|WRH.first (g:=1) [10,11] C6 C6 kp<|zj (AA (lo:=y) U U U underlying35 ME W W) U<|J1 ?_
 refine WH.nil<|WRH.one (g:=0) 12 C6<|WL.DX U U U U i109o.h (by rw[AC,AP CS.BK,i];omega) (.none U) U ?_
 refine WL.BL kp<|WRH.done C6<|J6 ?_
 refine WE.to (L':=[.row gp (AM CS.cells (G.set y { s with ad:=b,cap:=J })++R)]++(.row g2 AtL.zero.cells::.row N (atW a f H u cc (aG gp) oc)::((E6++K2)++(E3++(E++K))))) (λw h=>by
  have Z:(AM CS.cells G++R).set (y*2+1) (.slice b s.val.length J)=AM CS.cells (G.set y { s with ad:=b,cap:=J })++R:=set2 (enc:=CS.cells) (λs:CS=>iI s.ty) (λs:CS=>.slice s.ad s.val.length s.cap) (λ_=>rfl) R G y s { s with ad:=b,cap:=J } c U
  rw[PP,Z] at h
  exact h.AJ) ?_
 refine eW ⟨y+1,G.set y { s with ad:=b,cap:=J },_,E6++K2⟩ C7 ⟨C7,by dsimp only;rw[AbI];exact i,?_,?_,?_,?_⟩
 .dsimp only
  rw[List.map_set, <- B]
  refine AhO λj=>?_
  by_cases r:j=y
  .subst r
   rw[AdZ Dq,WF,c];rfl
  .rw [Adq (Ai4 r)]
 .dsimp only
  refine Vec.row ?_ (S _) v
  have h1:=GR CS.BK (G.set y { s with ad:=b,cap:=J }) a.others.length R Dm
  rw[h1,Aco Dm]
 .intro j r
  dsimp only at r ⊢
  rw[Adq W]
  exact t j W
 .intro j s' r d
  dsimp only at r d ⊢
  by_cases T:j=y
  .subst T
   rw[AdZ W] at d
   cases d
   exact⟨E6,hV6,λe he=>Ha _ he⟩
  .rw [Adq (Ai4 T)] at d
   exact(q j s' W d).mono λe he=>Mu _ he
 refine J16 ?_
 refine eT1 ?_
 refine λw' h=>⟨⟨a.has,a.origin,f,H,M,a.hop,a.med,a.loc,a.aas,a.aid,u,cc,a.comms,C,oc,G⟩,E3,E5++(K2++(E++K)),?_,?_,hV3,?_,?_⟩
 .show _=Ending.returned (.agg (atW _ _ _ _ _ _ _).toArray)
  unfold atW;dsimp only;rw[F,i]
 .show Kf.mk _ _ (M.map _) _ _ _ _ _ _ (G.map _)=Kf.mk _ _ _ _ _ _ _ _ _ _
  rw[X,B]
 .intro w hw
  have hm1:∀e∈E,e.holds w:=λe he=>hw e Dd
  have hm2:∀e∈E5,e.holds w:=λe he=>hw e Dd
  have hm3:∀e∈K2,e.holds w:=λe he=>hw e Dd
  have hm4:∀e∈K,e.holds w:=λe he=>hw e Dd
  refine⟨Ct BR.BK C8 (CY hV hm1),λs hs=>?_,CY hV3 λe he=>hw e (Ha _ he),Ct CS.BK C8 (CY O hm2),λs hs=>?_⟩
  .obtain ⟨j,r,rfl⟩:=List.mem_iff_getElem.1 hs
   dsimp only at r
   obtain⟨E',h1,h2⟩:=z j _ W (FS r)
   exact CY h1 λe he=>hm4 e (h2 e he)
  .obtain ⟨j,r,rfl⟩:=List.mem_iff_getElem.1 hs
   dsimp only at r
   obtain⟨E',h1,h2⟩:=q j _ W (FS r)
   exact CY h1 λe he=>hm3 e (h2 e he)
 .exact St.AN [.row g2 (atW a f H u cc C oc),.row N (atW a f H u cc C oc)] h

structure BsS where
 i:Nat
 j:Nat
theorem Abz(w0:Wd)(ad:Option Addr)(c:Nat)(a:List PfL)(q:PfL)(D:AQ w0 ad (AM PfL.cells a))(K:a.length<=1000000):
 Cl 198 #[.slice ad a.length c,aA q.cells,.func (.func 64) #[] #[]] w0 λe z=>∃(r:Int) (b:Bool),e=.returned (.tuple #[iI r,.bool b])/\Frm Fx w0 z:=by
 have E:=AP PfL.BK a
 refine en0 func198 U ntmps198 U<|J2 ?_
 refine zx U U U U U<|λA F=>J20 ?_
 refine WC.loop (λx:BsS=>[(9,iI x.i),(10,iI x.j),(8,iI a.length),(0,.slice ad a.length c),(2,.func (.func 64) #[] #[]),(4,pG A)]) (λ_=>[.row A q.cells]) (λx=>x.i<=x.j/\x.j<=a.length) (λx=>x.j-x.i) ⟨0,a.length⟩ ⟨Lv _,M2 _⟩ (.int U U (.cons U (.cons U (.cons U (.cons U (.cons U .nil)))))) (.refl _) ?_
 rintro⟨i,j⟩ ⟨t,C⟩
 dsimp only at t C⊢
 refine J5 ?_
 refine JT (λf=>?_) λf=>?_
 refine J10 ?_
 have B:i<j:=W
 obtain⟨h,G,H,J⟩:∃h:Nat,((i:Int)+(j:Int)) / 2=(h:Int)/\i<=h/\h<j:=⟨(i+j) / 2,W,W,W⟩
 obtain⟨x,u⟩:∃x,a[h]?=some x:=Gx
 obtain⟨d,v,ea,y⟩:=D W
 refine J1 ?_
 refine zV (FA U U underlying182 underlying3 (show _=((i:Int)+(j:Int)) from(IntKind.wrap_u64 _).trans W)) U<|zV (IP (m:=1) (c:=2) U U U U (by show 1<=64;omega) U) U ?_
 refine zV (FA U U underlying3 underlying182 (show _=((h:Nat):Int) from(DK W W).trans G)) U<|J4 ?_
 refine cQ mixed<|J3 ?_
 refine qV ((AA (b:=d) (off:=v) (lo:=h) U Dk U underlying32 BT U W)) U ?_
 refine qV (AB (cs:=x.cells) U U DD.h U (DP (λh=>h) (Rg.seg PfL.BK y u))) U<|J1 ?_
 refine WQ.FQ _ U U U CkO (.none U) U U (λw s=>Calls.still (Uy w x q) s)<|JT (λg=>?_) (λg=>?_)
 refine J9 ?_
 exact eW ⟨h+1,j⟩ C7 ⟨C7,C⟩
 refine J8 ?_
 exact eW ⟨i,h⟩ C7 ⟨C7,C7⟩ (.cons U (.int U U (.cons U (.cons U (.cons U (.cons U .nil))))))
 refine J9 ?_
 refine cQ mixed<|J3 ?_
 refine JT (λk=>?_) λk=>?_
 refine J1 ?_
 obtain⟨x,u⟩:∃x,a[i]?=some x:=Gx
 obtain⟨d,v,ea,y⟩:=D W
 refine J3 ?_
 refine WQ.val ((AA (b:=d) (off:=v) (lo:=i) U Dk U underlying32 BT U W)) (.some U U U) U U ?_
 refine WQ.val (AB (cs:=x.cells) U U DD.h U (DP (λh=>h) (Rg.seg PfL.BK y u))) (.some U U U) U U<|J1 ?_
 refine WQ.FQ _ U U U CkO (.some U U U) U U (λw s=>Calls.still (Uy w x q) s)<|WQ.val (Ae U U U) (.some U U U) U U<|?_
 refine J6 ?_
 refine eT2 ?_
 exact λz h=>⟨_,_,rfl,h.frm⟩
 refine J15 ?_
 refine eT2 ?_
 exact λz h=>⟨_,_,rfl,h.frm⟩
structure CkS where
 j:Nat
 es:Array MapEntry
 c:Nat
theorem VX(w0:Wd)(m:MsL)(Z:m.At w0)(hU:(∀p∈m.gone,U32 p.addr)/\∀p∈m.nets,U32 p.addr)(hn:m.gone.length<=1000000/\m.nets.length<=1000000):
 Cl 191 #[aA m.cells] w0 λe F=>∃r:Int,e=.returned (iI r)/\(r=0->FP m.gone/\FP m.nets)/\Frm Fx w0 F:=by
 refine en0 func191 U ntmps191 U<|J2 ?_
 refine zx U U U U U<|λg1 hg1=>J5 ?_
 refine WL.makeMap U (.none U) U U<|λz hg8=>J7 ?_
 refine zV (An U U RP.h ((cellAt (v:=.slice m.gad m.gone.length m.gc) U))) U<|J1 ?_
 refine zV (An U U RP.h ((cellAt (v:=.slice m.nad m.nets.length m.nc) U))) U<|zB underlying399 Qm VT U U<|?_
 intro a hg13
 refine J5 ?_
 refine oLp (λx:CkS=>[(15,iI x.j),(14,iI 2),(13,.slice (aG a) 2 2),(3,.map (some z))]) (λx=>[.row a [.slice m.gad m.gone.length m.gc,.slice m.nad m.nets.length m.nc],.obj z (.map x.es x.c)]) (λx=>x.j<=2/\(0<x.j->FP m.gone)/\(1<x.j->FP m.nets)/\∃M,CP KPf x.es M) (λx=>2-x.j) ⟨0, #[],0⟩ ⟨Lv _,λh=>absurd h (Nat.lt_irrefl 0),λh=>absurd h C8,_,CP.empty _⟩ ?_
 rintro⟨k,G,c0⟩ ⟨hk,q,B,M0,A⟩
 dsimp only at hk q B A⊢
 refine J2 ?_
 refine JT (λH=>?_) λH=>?_
 refine J10 ?_
 obtain⟨s,hs,R,C,D⟩:∃s:PsL,([.slice m.gad m.gone.length m.gc,.slice m.nad m.nets.length m.nc]:vL)[0+k*1]?=some (.slice s.ad s.val.length s.cap)/\BH w0 s.ad 2 PfL.cells s.val/\(∀p∈s.val,U32 p.addr)/\s.val.length<=1000000/\((k=0/\s.val=m.gone)\/(k=1/\s.val=m.nets)):=(by
 match k,(show k<2 by omega) with
 | 0,_=>exact⟨⟨m.gad,m.gc,m.gone⟩,rfl,Z.gone,hU.1,hn.1,.inl ⟨rfl,rfl⟩⟩
 | 1,_=>exact⟨⟨m.nad,m.nc,m.nets⟩,rfl,Z.nets,hU.2,hn.2,.inr ⟨rfl,rfl⟩⟩)
 refine zV (AA (lo:=k) U U U underlying399 Qm W W) U<|zV (An U U RP.h ((cellAt hs))) U<|J11 ?_
 refine oLp (λx:CkS=>[(21,iI x.j),(20,iI s.val.length),(19,.slice s.ad s.val.length s.cap),(3,.map (some z)),(15,iI k),(14,iI 2),(13,.slice (aG a) 2 2)]) (λx=>[.row a [.slice m.gad m.gone.length m.gc,.slice m.nad m.nets.length m.nc],.obj z (.map x.es x.c)]) (λx=>x.j<=s.val.length/\FP (s.val.take x.j)/\∃M,CP KPf x.es M) (λx=>s.val.length-x.j) ⟨0,G,c0⟩ ⟨Lv _,λp t=>(by cases t),M0,A⟩ ?_
 rintro⟨j,X,c⟩ ⟨hj,g,M,N⟩
 dsimp only at hj g N⊢
 refine J2 ?_
 refine JT (λJ=>?_) λJ=>?_
 refine J10 ?_
 obtain⟨x,S⟩:∃x,s.val[j]?=some x:=Gx
 obtain⟨b1,o1,ea,r1⟩:=R j x S
 have u:=C x (Do S)
 refine zV ((AA (b:=b1) (off:=o1) (lo:=j) U (by show some (Value.slice s.ad _ _)=_;rw[ea]) U underlying32 BT U W)) U ?_
 refine zV (AB (cs:=x.cells) U U DD.h U (DP (λh=>h) r1)) U<|zy U FZ.h U U<|?_
 intro g7 hg7
 refine J7 ?_
 refine zk CkO U (λw hS=>I8 w x u)<|JT (λf=>?_) (λf=>?_)
 refine J19 ?_
 refine eT1 ?_
 exact λF h=>⟨1,rfl,λh=>absurd h C8,h.frm⟩
 refine J7 ?_
 have E:BP x=true:=(by
 cases hc:BP x
 .rw [hc] at f;exact absurd C8 f
 .rfl)
 refine J3 ?_
 refine WL.mapUpdate U U U U underlying152 DH (KPf.mk E u) (N) (.none U) U<|λy T O C=>J5 ?_
 refine zV (PQ U U underlying152 ((C4 (es:=y) z (c:=T) C9))) U<|JT (λK=>?_) (λK=>?_)
 refine J18 ?_
 refine eT1 ?_
 exact λF h=>⟨3,rfl,λh=>absurd h C8,h.frm⟩
 refine J10 ?_
 exact eW ⟨j+1,y,T⟩ C7 ⟨C7,by
 dsimp only
 rw[AhG,S,Aiw]
 intro p t
 rcases LI.1 t with t|t
 .exact g p t
 .rw [Es.1 t];exact⟨E,u⟩,_,O⟩
 refine J14 ?_
 have d:FP s.val:=(by rw[<- Aco (i:=j) (l:=s.val) (W)];exact g)
 exact eW ⟨k+1,X,c⟩ C7 ⟨C7,λ_=>by
  rcases D.2 with⟨_,e⟩|⟨e1,_⟩
  .rw [<- e];exact d
  .exact q W,λh1=>by
  rcases D.2 with⟨e1,_⟩|⟨_,e⟩
  .dsimp only at h1;omega
  .rw [<- e];exact d,M,N⟩
 refine J15 ?_
 refine eT1 ?_
 exact λF h=>⟨0,rfl,λ_=>⟨q W,B W⟩,h.frm⟩

theorem Tri.Pz:∀(q:List Nat) (T S:Tri) (z:Nat×Nat),T.on q->(T.BS q S).link q z=T.link q z
 | [],_,_,_,_=>rfl
 | c::q,.nil,S,z,h=>h.elim
 | c::q,.node g h a K l r,S,z,b=>by
  simp only[Tri.on,Tri.BS] at b ⊢
  by_cases d:c=0
  .simp only [IR d] at b ⊢;simp only[Tri.link,IR d];exact Pz q l S _ b
  .simp only [E9 d] at b ⊢;simp only[Tri.link,E9 d];exact Pz q r S _ b
def Tri.top:Tri->Option AtL
 | .node _ true a _ _ _=>some a
 | _=>none
theorem Tri.EM(T:Tri)(q:List Nat):T.get q=(T.sub q).top:=by
 unfold Tri.get Tri.top
 cases T.sub q with
 | nil=>rfl
 | node g h a K l r=>cases h<;>rfl
theorem Tri.U2(T:Tri)(q r:List Nat):T.get (q++r)=(T.sub q).get r:=by rw[EM,EM,O1]
def Bin(q:List Nat):Prop:=∀b∈q,b<2
theorem Tri.Mg:∀(q:List Nat) (T S:Tri) (r:List Nat),Bin q->Bin r->T.on q->((∀s,r≠q++s)->(T.BS q S).get r=T.get r)/\∀s,r=q++s->(T.BS q S).get r=S.get s
 | [],T,S,r,_,_,_=>⟨λh=>absurd rfl (h r),λs e=>by subst e;rfl⟩
 | c::q,.nil,S,r,_,_,h=>h.elim
 | c::q,.node g h a K l u,S,r,x,y,j=>by
  have k:Bin q:=λb i=>x b (EQ _ i)
  have z:=x c Fr
  cases r with
  | nil =>
   refine⟨λ_=>?_,λs e=>by cases e⟩
   rw[EM,EM]
   simp only[Tri.BS]
   split<;>(cases h<;>rfl)
  | cons d r =>
   have m:Bin r:=λb i=>y b (EQ _ i)
   have A:=y d Fr
   have v:∀(l u:Tri),(Tri.node g h a K l u).get (d::r)=if d=0 then l.get r else u.get r:=λl u=>by
    rw[EM]
    simp only[Tri.sub]
    split<;>rw[EM]
   simp only[Tri.on,Tri.BS] at j ⊢
   by_cases i:c=0
   .simp only [IR i] at j ⊢
    have t:=Mg q l S r k m j
    rw[v,v]
    by_cases f:d=0
    .simp only [IR f]
     exact⟨λw=>t.1 λs e=>w s (by rw[e,i,f];rfl),λs e=>t.2 s (List.cons.inj e).2⟩
    .simp only [E9 f]
     exact⟨λ_=>(by first|rfl|trivial),λs e=>absurd ((List.cons.inj e).1.trans i) f⟩
   .simp only [E9 i] at j ⊢
    have t:=Mg q u S r k m j
    rw[v,v]
    by_cases f:d=0
    .simp only [IR f]
     exact⟨λ_=>(by first|rfl|trivial),λs e=>absurd ((List.cons.inj e).1.symm.trans f) i⟩
    .simp only [E9 f]
     exact⟨λw=>t.1 λs e=>w s (by rw[e,show d=c by omega];rfl),λs e=>t.2 s (List.cons.inj e).2⟩
def Tri.Hn(T S:Tri):Prop:=∀q,Bin q->T.get q=S.get q
theorem Tri.TP{T S:Tri}(j:Bin F)(i:T.on F)(h:∀s,Bin s->S.get s=(T.sub F).get s):(T.BS F S).Hn T:=λr a=>by
 obtain⟨d,f⟩:=Tri.Mg F T S r j a i
 by_cases c:∃s,r=F++s
 .obtain ⟨s,rfl⟩:=c
  rw[f s U,Tri.U2]
  exact h s λb g=>a b (Mu _ g)
 .exact d λs e=>c ⟨s,e⟩
theorem Tri.Hn.trans{T S a:Tri}(h:T.Hn S)(k:S.Hn a):T.Hn a:=λq b=>(h q b).trans (k q b)
def Tri.leaf(g:Nat):Tri:=.node g false .zero [] .nil .nil
theorem Tri.AeE(g:Nat)(s:List Nat):(Tri.leaf g).get s=none:=by
 rw[EM]
 cases s with
 | nil=>rfl
 | cons b s =>
  simp only[leaf,Tri.sub]
  split<;>rw[Tri.QT]<;>rfl
theorem Tri.OP(s:List Nat):(Tri.nil).get s=none:=by rw[EM,Tri.QT];rfl
theorem PfL.Ma(p:PfL):Bin p.bits:=λb a=>by
 obtain⟨i,_,rfl⟩:=Ab8.1 a
 exact Oe _ _
theorem Bin.take{q:List Nat}(h:Bin q)(i:Nat):Bin (q.take i):=λb a=>h b (List.mem_of_mem_take a)
theorem Tri.open{p:Nat->Prop}{w0:Wd}{t:Nat}{m k:Int}{T:Tri}(h:T.on F):∃(A B:eL) (c:vL),(T.link F (t,0)).2<c.length/\∀S:Tri, ∀(x:Ent) (w:Wd),
 (St p w0 w (x::(T.BS F S).all t m k)->St p w0 w (x::(S.AE++(A++.row (T.link F (t,0)).1 (c.set (T.link F (t,0)).2 (.pointer S.ptr))::B))))/\(St p w0 w (x::(S.AE++(A++.row (T.link F (t,0)).1 (c.set (T.link F (t,0)).2 (.pointer S.ptr))::B)))->St p w0 w (x::(T.BS F S).all t m k)):=by
 obtain⟨A,B,c,d,b⟩:=T.YN t m k F h
 exact⟨A,B,c,d,λS x w=>⟨λa=>a.perm ((b S).symm.cons x),λa=>a.perm ((b S).cons x)⟩⟩
def Tri.Ok(P:eL->AtL->Prop):Tri->Prop
 | .nil=>True
 | .node _ h a K l r=>(h=true->P K a)/\l.Ok P/\r.Ok P
theorem Tri.Ok.sub{P:eL->AtL->Prop}:∀ {q:List Nat}{T:Tri},T.Ok P->(T.sub q).Ok P
 | [],_,h=>h
 | _::_,.nil,_=>trivial
 | b::q,.node g h a K l r,⟨_,c,d⟩=>by
  simp only[Tri.sub]
  split
  .exact Tri.Ok.sub c
  .exact Tri.Ok.sub d
theorem Tri.Ok.BS{P:eL->AtL->Prop}{S:Tri}(c:S.Ok P):∀ {q:List Nat}{T:Tri},T.Ok P->(T.BS q S).Ok P
 | [],_,_=>c
 | _::_,.nil,_=>trivial
 | b::q,.node g h a K l r,⟨d,e,f⟩=>by
  simp only[Tri.BS]
  split
  .exact ⟨d,Tri.Ok.BS c e,f⟩
  .exact ⟨d,e,Tri.Ok.BS c f⟩
structure RcS where
 T:Tri
 i:Nat
structure RcC where
 T:Tri
 g:Nat
 h:Bool
 a:AtL
 K:eL
 l:Tri
 r:Tri
theorem AhJ(w0:Wd)(t:Nat)(m k:Int)(T:Tri)(p:PfL)(hp:U32 p.addr)(ad:BP p=true)(ab:St (Ids (T.all t m k)) w0 w0 (T.all t m k)):
 Cl 277 #[.pointer (some ⟨t,0,none⟩),aA p.cells] w0 λe w'=>∃(R:Tri) (g:Nat) (h:Bool) (a:AtL) (K:eL) (l r:Tri),e=.returned (.pointer (some ⟨g,0,none⟩))/\R.sub p.bits=.node g h a K l r/\R.Hn T/\(∀P,T.Ok P->R.Ok P)/\St (Ids (T.all t m k)) w0 w' (R.all t m k):=by
 have hl:=IG ad
 have ac:=p.Il
 have O:=p.Ma
 refine enter func277 U ntmps277 U ab<|J2 ?_
 refine zx U U U U U<|λj hg3=>J17 ?_
 refine oLp (λx:RcS=>[(5,.pointer (some ⟨(x.T.link (p.bits.take x.i) (t,0)).1,(x.T.link (p.bits.take x.i) (t,0)).2,none⟩)),(6,iI x.i),(3,.pointer (some ⟨j,0,none⟩))]) (λx=>.row j p.cells::x.T.all t m k) (λx=>x.i<=p.len.toNat/\x.T.on (p.bits.take x.i)/\x.T.Hn T/\∀P,T.Ok P->x.T.Ok P) (λx=>p.len.toNat-x.i) ⟨T,0⟩ ⟨Lv _,trivial,λ_ _=>rfl,λ_ h=>h⟩ ?_
 rintro⟨H,i⟩ ⟨hi,d,G,u⟩
 dsimp only at hi d G u
 have hbi:=Oe p.addr i
 obtain⟨A,B,c,Z,z⟩:=Tri.open (p:=Ids (T.all t m k)) (w0:=w0) (t:=t) (m:=m) (k:=k) d
 generalize X:H.sub (p.bits.take i)=S
 have N:H.BS (p.bits.take i) S=H:=(by rw[<- X];exact Tri.He _ _ d)
 refine WC.to (λw h=>(z S (.row j p.cells) w).1 (by rw[N];exact h)) ?_
 generalize hL:H.link (p.bits.take i) (t,0)=L at Z z
 obtain⟨lb,lo⟩:=L
 dsimp only at Z z⊢
 refine J2 ?_
 refine WC.cut (λx:RcC=>[(5,.pointer (some ⟨lb,lo,none⟩)),(6,iI i),(3,.pointer (some ⟨j,0,none⟩))]) (λx=>.row j p.cells::x.T.all t m k) (λx=>x.T.sub (p.bits.take i)=.node x.g x.h x.a x.K x.l x.r/\x.T.Hn T/\(∀P,T.Ok P->x.T.Ok P)/\x.T.link (p.bits.take i) (t,0)=(lb,lo)) ?_ ?_
 ·
  refine J4 ?_
  refine zV (An U U Hh ((cellAt (AdZ Z)))) U<|zT (LM U U underlying331) U (λE=>?_) (λE=>?_)
  ·
   refine J6 ?_
   refine zx U U U U U<|λC hg18=>J1 ?_
   refine WL.DX U U U U Hh (by rw[AbI];exact Z) (.none U) U ?_
   refine J1 ?_
   obtain rfl:S=.nil:=Tri.Px λhn=>hn E
   refine WE.to (λw h=>(z (.leaf C) (.row j p.cells) w).2 (by rw[List.set_set] at h;exact h.perm (List.Perm.swap (Ent.row C _) (Ent.row j p.cells) _))) ?_
   exact eM ⟨H.BS (p.bits.take i) (.leaf C),C,false,.zero,[],.nil,.nil⟩ ⟨Tri.JB _ _ _ d,(Tri.TP (O.take i) d λs _=>by rw[Tri.AeE,X,Tri.OP]).trans G,(λP hP=>Tri.Ok.BS (by exact⟨λh=>Da,trivial,trivial⟩) (u P hP)),by rw[Tri.Pz _ _ _ _ d];exact hL⟩
  refine J4 ?_
  obtain⟨g,h,a,K,l,r,rfl⟩:=Tri.OD E
  exact WE.to (λw h=>by have:=(z _ (.row j p.cells) w).2 h;rwa [N] at this)<|eM ⟨H,g,h,a,K,l,r⟩ ⟨X,G,u,hL⟩
 rintro⟨J,g,h,a,K,l,r⟩ ⟨f,q,v,M⟩
 dsimp only at f q v M
 have y:J.on (p.bits.take i):=Tri.FW _ _ (by rw[f];intro e;cases e)
 obtain⟨A2,B2,c2,D,b⟩:=Tri.open (p:=Ids (T.all t m k)) (w0:=w0) (t:=t) (m:=m) (k:=k) y
 rw[M] at D b
 dsimp only at D b
 have F:J.BS (p.bits.take i) (.node g h a K l r)=J:=(by rw[<- f];exact Tri.He _ _ y)
 refine WC.to (λw h=>(b _ (.row j p.cells) w).1 (by rw[F];exact h)) ?_
 refine J6 ?_
 refine JT (λaa=>?_) λaa=>?_
 refine J7 ?_
 refine zV (An U U Hh ((cellAt (AdZ D)))) U<|J9 ?_
 refine eT1 ?_
 refine λw' h'=>⟨J,g,h,a,K,l,r,rfl,by rw[<- f,Aco (by rw[ac];omega)],q,v,?_⟩
 have:=(b _ (.row j p.cells) w').2 h'
 rw[F] at this
 exact this.tail
 refine J5 ?_
 refine cQ mixed<|J2 ?_
 refine qV (An U U Hh ((cellAt (AdZ D)))) U<|J3 ?_
 refine qC CkO U (λw X=>AcK w p.addr i hp W)<|J2 ?_
 refine qV (AG (lo:=LW p.addr i) U U U underlying404 LH W W) U<|J9 ?_
 refine WE.to (λw h=>by have:=(b _ (.row j p.cells) w).2 h;rwa [F] at this) ?_
 have e1:J.link (p.bits.take (i+1)) (t,0)=(g,LW p.addr i):=(by
  rw[p.I4 W,Tri.OG _ _ _ _ _ _ _ _ _ _ f]
  have:=Oe p.addr i
  split<;>(congr 1;omega))
 exact eW ⟨J,i+1⟩ C7 ⟨C7,by dsimp only;rw[p.I4 W];exact Tri.Y9 _ _ _ y (by rw[f];intro e;cases e),q,v⟩ (.eq U (by dsimp only;rw[e1];simp) (.int U C7 (.cons U .nil)))

structure PutR(T T':Tri)(q:List Nat)(a:AtL)(K:eL):Prop where
 at_:T'.get q=some a\/T'.Hn T
 else_:∀r,Bin r->r≠q->T'.get r=T.get r
 ok:∀P:eL->AtL->Prop,P K a->T.Ok P->T'.Ok P
theorem PutR.node{T c:Tri}{q:List Nat}{g:Nat}{h:Bool}{w a:AtL}{v K:eL}{l r:Tri}(A:Bin q)(hs:c.sub q=.node g h w v l r)(z:c.Hn T)(k:∀P,T.Ok P->c.Ok P):PutR T (c.BS q (.node g true a K l r)) q a K:=by
 have f:c.on q:=Tri.FW _ _ Fo
 refine⟨.inl ?_,λs m j=>?_,λP x y=>?_⟩
 .rw [Tri.EM,Tri.JB _ _ _ f];rfl
 .rw [<- z s m]
  obtain⟨i,d⟩:=Tri.Mg q c (.node g true a K l r) s A m f
  by_cases t:∃u,s=q++u
  .obtain ⟨u,rfl⟩:=t
   rw[d u U,Tri.U2,hs]
   cases u with
   | nil=>exact absurd (Acx q) j
   | cons b u=>rw[Tri.EM,Tri.EM];rfl
  .exact i λu e=>t ⟨u,e⟩
 .have i:=k P y
  have d:=Tri.Ok.sub (q:=q) i
  rw[hs] at d
  exact Tri.Ok.BS (S:=.node g true a K l r) ⟨λ_=>x,d.2.1,d.2.2⟩ i
theorem Tri.AeV:∀(q:List Nat) (T:Tri) (g:Nat) (h:Bool) (a:AtL) (K:eL) (l r:Tri),T.sub q=.node g h a K l r ->
 ∃b:eL, ∀(i:Bool) (f:AtL) (d:eL),(T.BS q (.node g i f d l r)).ptr=T.ptr/\(T.BS q (.node g i f d l r)).AE.Perm (.row g (Tri.cells i f l r)::(d++b))
 | [],T,g,h,a,K,l,r,e=>by
  simp only[Tri.sub] at e
  subst e
  exact⟨l.AE++r.AE,λi f d=>⟨rfl,.refl _⟩⟩
 | c::q,.nil,g,h,a,K,l,r,e=>by cases e
 | c::q,.node w s m v j k,g,h,a,K,l,r,e=>by
  simp only[Tri.sub] at e
  by_cases t:c=0
  .simp only [IR t] at e
   obtain⟨b,hY⟩:=AeV q j g h a K l r e
   refine⟨.row w (Tri.cells s m j k)::(v++(b++k.AE)),λi f d=>?_⟩
   obtain⟨u,hq⟩:=hY i f d
   simp only[Tri.BS,IR t,Tri.AE]
   refine⟨rfl,?_⟩
   rw[show Tri.cells s m (Tri.BS q j (.node g i f d l r)) k=Tri.cells s m j k by unfold Tri.cells;rw[u]]
   classical
   exact A8
  .simp only [E9 t] at e
   obtain⟨b,hY⟩:=AeV q k g h a K l r e
   refine⟨.row w (Tri.cells s m j k)::(v++(b++j.AE)),λi f d=>?_⟩
   obtain⟨u,hq⟩:=hY i f d
   simp only[Tri.BS,E9 t,Tri.AE]
   refine⟨rfl,?_⟩
   rw[show Tri.cells s m j (Tri.BS q k (.node g i f d l r))=Tri.cells s m j k by unfold Tri.cells;rw[u]]
   classical
   exact A8
theorem Tri.Ae3{T:Tri}{h:Bool}{l r:Tri}(hs:T.sub F=.node A h E B l r):∃a:eL,(∀e∈a,e∈T.AE)/\∀(d:Bool) (c:AtL) (b:eL) (t:Nat) (m k:Int) (X Z:eL) (p:Nat->Prop) (w0 w:Wd),
 (St p w0 w (X++((T.BS F (.node A d c b l r)).all t m k++Z))->St p w0 w (X++(.row t [.pointer T.ptr,iI m,iI k]::.row A (Tri.cells d c l r)::(b++(a++Z))))) /\
 (St p w0 w (X++(.row t [.pointer T.ptr,iI m,iI k]::.row A (Tri.cells d c l r)::(b++(a++Z))))->St p w0 w (X++((T.BS F (.node A d c b l r)).all t m k++Z))):=by
 obtain⟨a,hY⟩:=Tri.AeV F T A h E B l r hs
 have i:T.on F:=Tri.FW _ _ Fo
 have f:T.BS F (.node A h E B l r)=T:=by rw[<- hs];exact Tri.He _ _ i
 refine⟨a,λe q=>?_,λd c b t m k X Z p w0 w=>?_⟩
 .have:=(hY h E B).2.symm.subset (EQ _ (Mu _ q))
  rwa [f] at this
 .obtain ⟨s,hq⟩:=hY d c b
  have j:(X++((T.BS F (.node A d c b l r)).all t m k++Z)).Perm (X++(.row t [.pointer T.ptr,iI m,iI k]::.row A (Tri.cells d c l r)::(b++(a++Z)))):=by
   unfold Tri.all
   rw[s]
   classical
   exact A8
  exact⟨λg=>g.perm j.symm,λg=>g.perm j⟩
structure PuS where
 T:Tri
 k:Int
 g:Nat
 h:Bool
 a:AtL
 K:eL
 l:Tri
 r:Tri
 Y:eL
def Tri.Shut(T:Tri)(q:List Nat)(g:Nat)(l r:Tri)(a:eL):Prop:=∀(d:Bool) (c:AtL) (b:eL) (t:Nat) (m k:Int) (X Z:eL) (p:Nat->Prop) (w0 w:Wd),
 St p w0 w (X++(.row t [.pointer T.ptr,iI m,iI k]::.row g (Tri.cells d c l r)::(b++(a++Z))))->St p w0 w (X++((T.BS q (.node g d c b l r)).all t m k++Z))
theorem Put_c(w0:Wd)(t:Nat)(m k:Int)(T:Tri)(p:PfL)(a:AtL)(K:eL)(hp:U32 p.addr)(hok:BP p=true)(j:St (Ids (T.all t m k++K)) w0 w0 (T.all t m k++K)):
 Cl 201 #[.pointer (some ⟨t,0,none⟩),aA p.cells,aA a.cells] w0 λe w'=>∃(v:Tri) (C z:Int),e=.returned (iI z)/\PutR T v p.bits a K/\St (Ids (T.all t m k++K)) w0 w' (v.all t m C):=by
 have d:=p.Ma
 have q:St (Ids (T.all t m k++K)) w0 w0 (.row t [.pointer T.ptr,iI m,iI k]::(T.AE++K)):=j
 refine enter func201 U ntmps201 U q<|J2 ?_
 refine zx U U U U U<|λg4 A=>zx U U U U U<|λg5 B=>J7 ?_
 refine zV (AI false U U underlying243 U) U<|J2 ?_
 refine zk CkO U (λw hS=>(I8 w p hp).mono Ea) ?_
 refine zS ((Gs U U U).f W) U<|J10 ?_
 refine zK CkO U<|λw hS=>Calls.then (U0 w t m k T p hp hok (λe s=>hS.holds e (by
 rcases Rl.1 s with rfl|s
 .exact EQ _ (EQ _ Fr)
 .exact EQ _ (EQ _ (EQ _ (Ha _ s)))))) hS ?_
 refine J3 ?_
 refine WC.cut (λx:PuS=>[(7,.pointer (some ⟨x.g,0,none⟩)),(5,.pointer (some ⟨g5,0,none⟩))]) (λx=>.row g5 a.cells::.row g4 p.cells::.row t [.pointer x.T.ptr,iI m,iI x.k]::.row x.g (Tri.cells true x.a x.l x.r)::(x.K++(x.Y++K))) (λx=>x.T.sub p.bits=.node x.g x.h x.a x.K x.l x.r/\x.T.Hn T/\(∀P,T.Ok P->x.T.Ok P)/\x.T.Shut p.bits x.g x.l x.r x.Y) ?_ ?_
 refine J3 ?_
 refine zT (LM U U underlying331) U (λc=>?_) λc=>?_
 refine J12 ?_
 exact Gb
 refine J2 ?_
 obtain⟨g,hh,a1,K1,l,r,b⟩:=Tri.OD c
 haveI:At (.row g5 a.cells::.row g4 p.cells::.row t [.pointer T.ptr,iI m,iI k]::(T.AE++K)) g (Tri.cells hh a1 l r):=⟨EQ _ (EQ _ (EQ _ (Ha _ (T.mem p.bits g hh a1 K1 l r b _ Fr))))⟩
 rw[b]
 refine J3 ?_
 skip
 cases hh
 refine J7 ?_
 exact Gb
 refine J6 ?_
 obtain⟨Y,hYm,hY⟩:=Tri.Ae3 b
 have hself:T.BS p.bits (.node g true a1 K1 l r)=T:=(by rw[<- b];exact Tri.He _ _ (Tri.FW _ _ (by rw[b];intro e;cases e)))
 refine WE.to (λw h=>(hY true a1 K1 t m k [.row g5 a.cells,.row g4 p.cells] K _ _ w).1 (by rw[hself];exact h)) ?_
 exact eM ⟨T,k,g,true,a1,K1,l,r,Y⟩ ⟨b,λ_ _=>rfl,λ_ h=>h,λh' a' K' t m k X Z p w0 w=>(hY h' a' K' t m k X Z p w0 w).2⟩
 rintro⟨T1,u,g,hh,a1,K1,l,r,Y⟩ ⟨b,y,hok1,i⟩
 dsimp only at b y hok1 i⊢
 refine J6 ?_
 refine WL.FN U U U U JZ.h U Dn (.none U) U ?_
 refine J8 ?_
 refine eT1 ?_
 refine λw' h=>⟨T1.BS p.bits (.node g true a K l r),u,0,rfl,PutR.node d b y hok1,?_⟩
 have h1:=i true a K t m u [.row g5 a.cells,.row g4 p.cells] K1 _ _ w' (by
  refine St.AJ (L:=.row g5 a.cells::.row g4 p.cells::.row t [.pointer T1.ptr,iI m,iI u]::.row g (Tri.cells true a l r)::(K1++(Y++K))) h)
 exact(h1.tail.tail).sub (Acy _ _)
end Gq
end Go.Proofs.YtmhahajadgkolaaGreatDoor
