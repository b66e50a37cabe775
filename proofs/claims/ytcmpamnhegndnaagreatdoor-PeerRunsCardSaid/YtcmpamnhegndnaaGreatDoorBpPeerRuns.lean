/- Texts joined: engine, contracts and laws, in the order in which they build. -/
import Derived.Test.YtcmpamnhegndnaaGreatDoorBoPeerRuns
namespace Go.Proofs.YtcmpamnhegndnaaGreatDoor
open Go.RowKit
section Gq
attribute [local irreducible] WL WC WE WQ WP WH WR WM WRH

theorem AaX {x:Int}(h:0≤x∧x≤65535):0≤x.tdiv 3∧x.tdiv 3≤65535:=by
  rw [Int.tdiv_eq_ediv_of_nonneg h.1]
  omega
structure RxH (s:Se):Prop where
  D5:s.D.length=5
  now:0≤s.now∧s.now≤1000000
  retry:0≤s.retry∧s.retry≤65535
  hold:0≤s.hold∧s.hold≤65535
  st:∀ n,n<2→(s.c n).st=0∨3≤(s.c n).st∧(s.c n).st≤5
  ch:∀ n,n<2→0≤(s.c n).hold∧(s.c n).hold≤65535
  fit:∀ n,n<2→(s.c n).hold=0∨3≤(s.c n).hold
  z:∀ n,n<2→(s.c n).st=0→(s.c n).id=0
  zh:∀ n,n<2→(s.c n).st≤3→(s.c n).hold=0
  k:∀ n,n<2→(s.c n).hold=0→s.D[3+n]?=some (-1)
theorem RxH.r {s:Se}(h:RxH s):0≤s.now∧0≤s.retry∧s.now+s.retry<FB:=by
  have h1:=h.now
  have h2:=h.retry
  unfold FB
  omega
theorem ND (s:Se) (n:Nat):(s.gone n).hold=s.hold:=by
  have h:(s.cut n).hold=s.hold:=(DL s n CnM.zero).2.1
  unfold Se.gone
  split
  · exact h
  · exact h
theorem Acp {D:List Int}{k:Nat}{v:Int}(h:D[k]?=some v):D.getD k 0=v:=by rw [List.getD_eq_getElem?_getD,h];rfl
theorem gone_k {s:Se}(h5:s.D.length=5) (n k:Nat) (hn:n<2) (hk:k<2) (h:s.D[3+k]?=some (-1)):(s.gone n).D[3+k]?=some (-1):=by
  have key:((s.D.set (1+n) (-1)).set (3+n) (-1))[3+k]?=some (-1):=by
    rw [List.getElem?_set]
    split
    · rw [if_pos Fj]
    · rw [List.getElem?_set_ne Er];exact h
  rcases Pv s n with e|e <;> rw [e]
  · exact key
  · rw [List.getElem?_set_ne Er];exact key
theorem Adf {s:Se}(h5:s.D.length=5) (n:Nat) (hn:n<2):(s.gone n).D[3+n]?=some (-1):=by
  have key:((s.D.set (1+n) (-1)).set (3+n) (-1))[3+n]?=some (-1):=by
    rw [List.getElem?_set,if_pos rfl,if_pos Fj]
  rcases Pv s n with e|e <;> rw [e]
  · exact key
  · rw [List.getElem?_set_ne Er];exact key
theorem RxH.gone {s:Se}(h:RxH s) (n:Nat) (hn:n<2):RxH (s.gone n):=by
  have hc:=fun k hk=>HX s n k hn hk
  refine ⟨RS h.D5 n,by rw [BP];exact h.now,by rw [L4];exact h.retry,by rw [ND];exact h.hold,fun k hk=>?_,fun k hk=>?_,fun k hk=>?_,fun k hk=>?_,fun k hk=>?_,fun k hk=>?_⟩
  · rw [hc k hk];split;exact .inl rfl;exact h.st k hk
  · rw [hc k hk];split;exact ⟨Int.le_refl _,by decide⟩;exact h.ch k hk
  · rw [hc k hk];split;exact .inl rfl;exact h.fit k hk
  · rw [hc k hk];split;exact fun _=>rfl;exact h.z k hk
  · rw [hc k hk];split;exact fun _=>rfl;exact h.zh k hk
  · rw [hc k hk]
    split
    · rename_i e;subst e;exact fun _=>Adf h.D5 k hk
    · exact fun hs=>gone_k h.D5 n k hn hk (h.k k hk hs)
def Kf (s:Se) (n:Nat) (a h i:Int):Se×List RE :=
  if a≠s.their then (s.gone n,FP s n 2 2)
  else if i=s.id then (s.gone n,FP s n 2 3)
  else if (s.c (1-n)).st=5 then (s.gone n,FP s n 6 7)
  else if (s.c (1-n)).st=4 then
    if s.id<i∧n=0∨i<s.id∧n=1 then (s.gone n,FP s n 6 7)
    else ((s.gone (1-n)).BE n h i,FP s (1-n) 6 7++[⟨2,n,4,0,0⟩])
  else (s.BE n h i,[⟨2,n,4,0,0⟩])
def Nt (s:Se) (n:Nat):List RE:=(if ((s.up5 n).c (1-n)).st=0 then [] else FP (s.up5 n) (1-n) 6 7)++[⟨4,n,0,0,0⟩]
def Ie (s:Se) (n:Nat) (K A H J:Int):Se×List RE :=
  if K=3 then (s.gone n,⟨3,n,0,0,0⟩::Iv s n)
  else if (s.c n).st=3∧K=1 then Kf s n A H J
  else if (s.c n).st=4∧K=4 then (s.BD n,Nt s n)
  else if (s.c n).st=5∧K=4 then (s.alive n,[])
  else if (s.c n).st=5∧K=2 then (s.alive n,[⟨6,n,0,0,0⟩])
  else (s.gone n,FP s n 5 ((s.c n).st-2))
theorem AaZ (s:Se){n:Nat}(hn:n<2) (h i:Int) (o:Value):rfC ((((s.set n { s.c n with st:=4 }).set n { (s.set n { s.c n with st:=4 }).c n with id:=i })).set n { ((s.set n { s.c n with st:=4 }).set n { (s.set n { s.c n with st:=4 }).c n with id:=i }).c n with hold:=min s.hold h }) o=rfC (s.DZ n h i) o:=by
  match n,hn with
  | 0,_|1,_=>rfl
theorem Uw (s:Se){n:Nat}(hn:n<2) (h i:Int):((s.DZ n h i).c n).hold=min s.hold h∧(s.DZ n h i).D=s.D∧(s.DZ n h i).now=s.now:=by
  match n,hn with
  | 0,_|1,_=>exact ⟨rfl,rfl,rfl⟩
theorem RxH.up5 {s:Se}(h:RxH s) (n:Nat) (hn:n<2) (h0:(s.c n).st≠0):RxH (s.up5 n):=by
  have hc:=fun k hk=>VH s n k hn hk
  have hD:(s.up5 n).D=s.D∨∃ v,(s.up5 n).D=s.D.set (1+n) v:=by
    unfold Se.up5 Se.alive
    split
    · exact .inl (Se.Qv ..)
    · exact .inr ⟨_,by rw [Se.VS,Se.Qv]⟩
  have h1:(s.up5 n).now=s.now∧(s.up5 n).retry=s.retry∧(s.up5 n).hold=s.hold:=by
    have e:=DL s n { s.c n with st:=5 }
    unfold Se.up5 Se.alive
    split
    · exact ⟨FW _ _ _,e.2.2.2.2.2,e.2.1⟩
    · exact ⟨FW _ _ _,e.2.2.2.2.2,e.2.1⟩
  refine ⟨?_,by rw [h1.1];exact h.now,by rw [h1.2.1];exact h.retry,by rw [h1.2.2];exact h.hold,fun k hk=>?_,fun k hk=>?_,fun k hk=>?_,fun k hk=>?_,fun k hk=>?_,fun k hk=>?_⟩
  · rcases hD with e|⟨v,e⟩ <;> rw [e]
    · exact h.D5
    · rw [List.length_set];exact h.D5
  · rw [hc k hk];split;exact .inr ⟨(by decide:(3:Int)≤5),(by decide:(5:Int)≤5)⟩;exact h.st k hk
  · rw [hc k hk];split
    · rename_i e;subst e;exact h.ch k hk
    · exact h.ch k hk
  · rw [hc k hk];split
    · rename_i e;subst e;exact h.fit k hk
    · exact h.fit k hk
  · rw [hc k hk];split;exact fun e=>absurd (show (5:Int)=0 from e) Et;exact h.z k hk
  · rw [hc k hk];split;exact fun e=>absurd (show (5:Int)≤3 from e) Et;exact h.zh k hk
  · have key:(s.c k).hold=0→(s.up5 n).D[3+k]?=some (-1):=fun hs=>by
      rcases hD with e|⟨v,e⟩ <;> rw [e]
      · exact h.k k hk hs
      · rw [List.getElem?_set_ne Er];exact h.k k hk hs
    rw [hc k hk];split
    · rename_i e;subst e;exact key
    · exact key
theorem AcD (_w0:World) (s:Se) (n:Nat) (hn:n<2) (_K _A H J:Int) (_hH:0≤H∧H≤65535) (hX:RxH s) (h3:s.D[3+n]?=some (-1)):rfC { s.DZ n H J with D:=s.D.set (1+n) (-1) }=rfC { s.DZ n H J with D:=(s.D.set (1+n) (-1)).set (3+n) (-1) }:=by
  have e:s.D.set (1+n) (-1)=(s.D.set (1+n) (-1)).set (3+n) (-1):=by
    refine List.ext_getElem? fun k=>?_
    rw [List.getElem?_set (l:=s.D.set (1+n) (-1))]
    split
    · rename_i e;subst e
      have hD:=hX.D5
      rw [if_pos Fj,List.getElem?_set_ne Er];exact h3
    · rfl
  rw [← e]
set_option maxHeartbeats 4000000 in
theorem T7 (w0:World) (s:Se) (n:Nat) (hn:n<2) (K A H J:Int) (ad:Option Addr) (c:Nat) (es:List RE) (hO:AU w0 ad (GY es)) (hl:es.length≤90000) (hX:RxH s) (h0:(s.c n).st≠0) (hH:0≤H∧H≤65535) :
    Calls Tryz.prog 73 #[.agg (rfC s (.slice ad es.length c)).toArray, .int .i64 n, .agg #[.int .i64 K, .int .i64 A, .int .i64 H, .int .u32 J]] w0 fun e w'=>RxP w0 w' (Ie s n K A H J).1 ad es (es++(Ie s n K A H J).2) e:=by
  have hst:=hX.st n hn
  have hsto:=hX.st (1-n) Er
  have hnow:=hX.now
  have hch:=hX.ch n hn
  have hho:=hX.hold
  refine enter Tryz.func73 rfl Tryz.ntmps73 rfl (St.start (fun _=>False) w0) ?_
  refine J2 ?_
  refine WL.box rfl rfl rfl (.none rfl) rfl rfl ?_
  intro g3 hg3
  refine WL.box rfl rfl rfl (.none rfl) rfl rfl ?_
  intro g5 hg5
  refine WL.alloc rfl EC (.none rfl) rfl rfl ?_
  intro g6 hg6
  refine J6 ?_
  refine zV ((BR (lo:=n) rfl rfl rfl Tryz.underlying78 AP rfl hn)) rfl<|zV (AA rfl rfl AK (cellAt (v:=.int .i64 (s.c n).st) (G0 s hn _))) rfl<|?_
  refine J8 ?_
  refine JT (fun h14=>?_) (fun h14=>?_)
  refine J8 ?_
  refine zK Ju rfl ?_
  intro w1 hS
  refine (HO w1 s ad c es ⟨3,n,0,0,0⟩ (hO.frm (hS.rng fun _ h=>h)) Er).mono ?_
  rintro e w' ⟨ad3,c3,E3,rfl,hT3,hS'⟩
  refine ⟨_,_,rfl,hS.join hS',?_⟩
  refine J1 ?_
  refine zK AaO rfl ?_
  intro w1 hS
  refine (RW w1 s n hn ad3 c3 _ (hT3.at hO hS (List.sublist_append_left _ _)) (by rw [List.length_append];show es.length+1≤_;omega) hX.D5 hX.r).mono ?_
  rintro e w' ⟨ad5,c5,E5,rfl,hT5,hS'⟩
  refine ⟨_,_,rfl,hS.join hS',?_⟩
  refine J5 ?_
  refine eT1 ?_
  rw [show Ie s n K A H J=(s.gone n,⟨3,n,0,0,0⟩::Iv s n) from if_pos h14,show es++(⟨3,n,0,0,0⟩::Iv s n)=es++[⟨3,n,0,0,0⟩]++Iv s n by rw [List.append_assoc];rfl]
  exact fun w' h=>⟨ad5,c5,E5++E3,rfl,hT3.trans hT5,h.sub (QG ..)⟩
  refine J9 ?_
  refine JT (fun h22=>?_) (fun h22=>?_)
  refine J3 ?_
  refine JT (fun h26=>?_) (fun h26=>?_)
  refine J10 ?_
  refine zV (AA rfl rfl AK (cellAt (v:=.int .i64 s.their) rfl)) rfl ?_
  refine JT (fun h32=>?_) (fun h32=>?_)
  refine J7 ?_
  refine zK KP rfl ?_
  intro w1 hS
  refine (IH w1 s n hn 2 2 ad c es (hO.frm (hS.rng fun _ h=>h)) Er hX.D5 hX.r).mono ?_
  rintro e w' ⟨ad3,c3,E3,rfl,hT3,hS'⟩
  refine ⟨_,_,rfl,hS.join hS',?_⟩
  refine J6 ?_
  refine eT1 ?_
  rw [show Ie s n K A H J=Kf s n A H J from (if_neg h14).trans (if_pos ⟨h22,h26⟩),show Kf s n A H J=(s.gone n,FP s n 2 2) from if_pos h32]
  exact Ak
  refine J11 ?_
  refine zV (AA rfl rfl Lt (cellAt (v:=.int .u32 s.id) rfl)) rfl ?_
  refine JT (fun h40=>?_) (fun h40=>?_)
  refine J7 ?_
  refine zK KP rfl ?_
  intro w1 hS
  refine (IH w1 s n hn 2 3 ad c es (hO.frm (hS.rng fun _ h=>h)) Er hX.D5 hX.r).mono ?_
  rintro e w' ⟨ad3,c3,E3,rfl,hT3,hS'⟩
  refine ⟨_,_,rfl,hS.join hS',?_⟩
  refine J6 ?_
  refine eT1 ?_
  rw [show Ie s n K A H J=Kf s n A H J from (if_neg h14).trans (if_pos ⟨h22,h26⟩),show Kf s n A H J=(s.gone n,FP s n 2 3) from (if_neg h32).trans (if_pos h40)]
  exact Ak
  refine J9 ?_
  refine zV (EM rfl rfl rfl ((show _=((1-n:Nat):Int) from (AF Er Er).trans Er))) rfl ?_
  refine J1 ?_
  refine zV ((BR (lo:=1-n) rfl rfl rfl Tryz.underlying78 AP rfl Er)) rfl ?_
  refine zV (AA rfl rfl AK (cellAt (v:=.int .i64 (s.c (1-n)).st) (G0 s Er _))) rfl ?_
  refine JT (fun h49=>?_) (fun h49=>?_)
  refine J7 ?_
  refine zK KP rfl ?_
  intro w1 hS
  refine (IH w1 s n hn 6 7 ad c es (hO.frm (hS.rng fun _ h=>h)) Er hX.D5 hX.r).mono ?_
  rintro e w' ⟨ad3,c3,E3,rfl,hT3,hS'⟩
  refine ⟨_,_,rfl,hS.join hS',?_⟩
  refine J6 ?_
  refine eT1 ?_
  rw [show Ie s n K A H J=Kf s n A H J from (if_neg h14).trans (if_pos ⟨h22,h26⟩),show Kf s n A H J=(s.gone n,FP s n 6 7) from (if_neg h32).trans ((if_neg h40).trans (if_pos h49))]
  exact Ak
  refine J5 ?_
  refine WC.cut (fun _:Se×Option Addr×Nat×List RE×List Ent=>[(1, .int .i64 n),(3, .pointer (some ⟨g3,0,none⟩)),(5, .pointer (some ⟨g5,0,none⟩)),(6, .pointer (some ⟨g6,0,none⟩))]) (fun y=>y.2.2.2.2++(.row g6 [.int .i64 0, .int .i64 0, .int .i64 0, .int .i64 0, .int .u32 0, .int .i64 0, .int .i64 0, .int .i64 0, .int .i64 0, .int .u32 0, .int .u32 0, .int .i64 0, .int .i64 0, .int .i64 0, .int .i64 0, .int .i64 0, .int .i64 0, .int .i64 0, .slice none 0 0]::.row g5 [.int .i64 K, .int .i64 A, .int .i64 H, .int .u32 J]::[.row g3 (rfC y.1 (.slice y.2.1 y.2.2.2.1.length y.2.2.1))])) (fun y=>y.2.2.2.1=es++(if (s.c (1-n)).st=4 then FP s (1-n) 6 7 else [])∧y.1=(if (s.c (1-n)).st=4 then s.gone (1-n) else s)∧Kf s n A H J=(y.1.BE n H J,(if (s.c (1-n)).st=4 then FP s (1-n) 6 7 else [])++[⟨2,n,4,0,0⟩])∧Trf ad es y.2.1 y.2.2.2.1 y.2.2.2.2) ?_ ?_
  refine J3 ?_
  refine zV (EM rfl rfl rfl ((show _=((1-n:Nat):Int) from (AF Er Er).trans Er))) rfl ?_
  refine J1 ?_
  refine zV ((BR (lo:=1-n) rfl rfl rfl Tryz.underlying78 AP rfl Er)) rfl ?_
  refine zV (AA rfl rfl AK (cellAt (v:=.int .i64 (s.c (1-n)).st) (G0 s Er _))) rfl ?_
  refine JT (fun h58=>?_) (fun h58=>?_)
  refine J7 ?_
  refine zV (AA rfl rfl Lt (cellAt (v:=.int .u32 s.id) rfl)) rfl ?_
  refine J2 ?_
  refine JT (fun h63=>?_) (fun h63=>?_)
  refine J2 ?_
  refine JT (fun h66=>?_) (fun h66=>?_)
  refine J19 ?_
  exact Dm
  refine J3 ?_
  exact El
  refine J6 ?_
  exact El
  refine J4 ?_
  exact eM (s,ad,c,es,[]) ⟨by rw [if_neg h58,List.append_nil],by rw [if_neg h58],by rw [if_neg h58];exact (if_neg h32).trans ((if_neg h40).trans ((if_neg h49).trans (if_neg h58))), .refl _ _⟩
  rintro ⟨s1,ad4,c4,es4,E4⟩ ⟨he4,hs1,ho4,hT4⟩
  dsimp only at he4 hs1 ho4 hT4
  dsimp only
  have hX1:RxH s1:=by rw [hs1];split;exact hX.gone (1-n) Er;exact hX
  have hc1:s1.c n=s.c n:=by rw [hs1];split;exact (HX s (1-n) n Er hn).trans (if_neg Er);rfl
  have hh1:s1.hold=s.hold:=by rw [hs1];split;exact ND _ _;rfl
  have hk1:=hX1.k n hn (hX1.zh n hn (by rw [hc1];omega))
  have hnow1:=hX1.now
  have hl4:es4.length≤es.length+3:=by
    rw [he4,List.length_append]
    split
    · have:=M1 s (1-n) 6 7;omega
    · exact Nat.le_add_right _ _
  refine J4 ?_
  refine zV ((BR (lo:=n) rfl rfl rfl Tryz.underlying78 AP rfl hn)) rfl ?_
  refine WL.DA rfl rfl rfl rfl AK (show 7+n<(rfC s1 (.slice ad4 es4.length c4)).length by show 7+n<19;omega) (.none rfl) rfl ?_
  rw [Wi s1 hn]
  generalize hs2:s1.set n { s1.c n with st:=4 }=s2
  refine J8 ?_
  refine zV ((BR (lo:=n) rfl rfl rfl Tryz.underlying79 K5 rfl hn)) rfl ?_
  refine WL.DA rfl rfl rfl rfl Lt (show 9+n<(rfC s2 (.slice ad4 es4.length c4)).length by show 9+n<19;omega) (.none rfl) rfl ?_
  rw [rf_id s2 hn]
  have hh2:s2.hold=s.hold:=by rw [← hs2, ← hh1];exact (DL _ _ _).2.1
  generalize hs3:s2.set n { s2.c n with id:=J }=s3
  have hh3:s3.hold=s.hold:=by rw [← hs3, ← hh2];exact (DL _ _ _).2.1
  refine J6 ?_
  refine zV (AA rfl rfl AK (cellAt (v:=.int .i64 s3.hold) rfl)) rfl ?_
  refine J2 ?_
  refine zV ((Le rfl rfl rfl)) rfl ?_
  refine J1 ?_
  refine zV ((BR (lo:=n) rfl rfl rfl Tryz.underlying78 AP rfl hn)) rfl ?_
  refine WL.DA rfl rfl rfl rfl AK (show 11+n<(rfC s3 (.slice ad4 es4.length c4)).length by show 11+n<19;omega) (.none rfl) rfl ?_
  rw [VC s3 hn,show rfC (s3.set n { s3.c n with hold:=min s3.hold H }) (.slice ad4 es4.length c4)=rfC (s1.DZ n H J) (.slice ad4 es4.length c4) by rw [← hs3, ← hs2,show ((s1.set n { s1.c n with st:=4 }).set n { (s1.set n { s1.c n with st:=4 }).c n with id:=J }).hold=s1.hold from ((DL _ _ _).2.1).trans (DL _ _ _).2.1];exact AaZ s1 hn H J _]
  have h4:=Uw s1 hn H J
  have hm4:0≤min s1.hold H∧min s1.hold H≤65535:=by have:=hX1.hold;omega
  generalize hs4:s1.DZ n H J=s4 at h4
  have htd:=AaX (x:=(s4.c n).hold) Er
  have hD4:s4.D.length=5:=by rw [h4.2.1];exact hX1.D5
  refine J6 ?_
  refine zV (HV rfl rfl Jp Tryz.underlying51 AP rfl) rfl ?_
  refine J1 ?_
  refine zK Ju rfl ?_
  intro w1 hS
  refine (HO w1 s4 ad4 c4 es4 ⟨2,n,4,0,0⟩ (hT4.at hO hS (List.sublist_append_left _ _)) Er).mono ?_
  rintro e w' ⟨ad5,c5,E5,rfl,hT5,hS'⟩
  refine ⟨_,_,rfl,hS.join hS',?_⟩
  refine J6 ?_
  refine zV (AS rfl rfl rfl ((show _=1+(n:Int) from AF Er Er))) rfl ?_
  refine J1 ?_
  refine zV ((BR (lo:=1+n) rfl rfl rfl Tryz.underlying80 AP Er Er)) rfl ?_
  refine WL.DA rfl rfl rfl rfl AK (show 13+(1+n)<(rfC s4 (.slice ad5 (es4++[(⟨2,n,4,0,0⟩:RE)]).length c5)).length by show 13+(1+n)<19;omega) (.none rfl) rfl ?_
  rw [RV (s:=s4) hD4 Er]
  have hfin:Ie s n K A H J=(s1.BE n H J,(if (s.c (1-n)).st=4 then FP s (1-n) 6 7 else [])++[⟨2,n,4,0,0⟩]):=(if_neg h14).trans ((if_pos ⟨h22,h26⟩).trans ho4)
  have hes:es++((if (s.c (1-n)).st=4 then FP s (1-n) 6 7 else [])++[⟨2,n,4,0,0⟩])=es4++[⟨2,n,4,0,0⟩]:=by rw [he4,List.append_assoc]
  refine J7 ?_
  refine zV ((BR (lo:=n) rfl rfl rfl Tryz.underlying78 AP rfl hn)) rfl<|zV (AA rfl rfl AK (cellAt (v:=.int .i64 (s4.c n).hold) (Iy { s4 with D:=s4.D.set (1+n) (-1) } hn _))) rfl<|?_
  refine JT (fun h115=>?_) (fun h115=>?_)
  refine J4 ?_
  refine WC.BB mixed<|rF 5 [0,1,3,4,5,8]<|?_
  refine J1 ?_
  refine pV (AS rfl rfl rfl ((show _=1+(n:Int) from AF Er Er))) rfl ?_
  refine J2 ?_
  refine pV ((BR (lo:=n) rfl rfl rfl Tryz.underlying78 AP rfl hn)) rfl ?_
  refine J2 ?_
  refine rA 1 [2,6,7,9] rfl ?_
  refine J1 ?_
  refine qV (AA rfl rfl AK (cellAt (v:=.int .i64 (s4.c n).hold) (Iy { s4 with D:=s4.D.set (1+n) (-1) } hn _))) rfl ?_
  refine WQ.call _ rfl rfl LX (.none rfl) rfl rfl (fun w hS=>Calls.still (Io w { s4 with D:=s4.D.set (1+n) (-1) } _ (s4.c n).hold F9) hS) ?_
  refine qV ((BR (lo:=1+n) rfl rfl rfl Tryz.underlying80 AP Er Er)) rfl ?_
  refine J1 ?_
  refine rO 0 [10] ?_
  refine WL.DA rfl rfl rfl rfl AK (show 13+(1+n)<(rfC { s4 with D:=s4.D.set (1+n) (-1) } (.slice ad5 (es4++[(⟨2,n,4,0,0⟩:RE)]).length c5)).length by show 13+(1+n)<19;omega) (.none rfl) rfl ?_
  rw [RV (s:={ s4 with D:=s4.D.set (1+n) (-1) }) (by rw [List.length_set];exact hD4) Er,show ({ ({ s4 with D:=s4.D.set (1+n) (-1) }:Se) with D:=(s4.D.set (1+n) (-1)).set (1+n) (s4.now+(s4.c n).hold) }:Se) = { s4 with D:=s4.D.set (1+n) (s4.now+(s4.c n).hold) } by rw [List.set_set]]
  refine J3 ?_
  refine WC.BB mixed<|rF 6 [0,1,3,4,5,9]<|?_
  refine J1 ?_
  refine pV (AS rfl rfl rfl ((show _=3+(n:Int) from AF Er Er))) rfl ?_
  refine J2 ?_
  refine pV ((BR (lo:=n) rfl rfl rfl Tryz.underlying78 AP rfl hn)) rfl ?_
  refine J2 ?_
  refine rA 1 [2,6,7,8,10] rfl ?_
  refine J1 ?_
  refine qV (AA rfl rfl AK (cellAt (v:=.int .i64 (s4.c n).hold) (Iy { s4 with D:=s4.D.set (1+n) (s4.now+(s4.c n).hold) } hn _))) rfl ?_
  refine qV (Jb rfl rfl rfl Fl (show _=(s4.c n).hold.tdiv 3 from AF Er Er)) rfl ?_
  refine WQ.call _ rfl rfl LX (.none rfl) rfl rfl (fun w hS=>Calls.still (Io w { s4 with D:=s4.D.set (1+n) (s4.now+(s4.c n).hold) } _ ((s4.c n).hold.tdiv 3) F9) hS) ?_
  refine qV ((BR (lo:=3+n) rfl rfl rfl Tryz.underlying80 AP Er Er)) rfl ?_
  refine J1 ?_
  refine rO 0 [11] ?_
  refine WL.DA rfl rfl rfl rfl AK (show 13+(3+n)<(rfC { s4 with D:=s4.D.set (1+n) (s4.now+(s4.c n).hold) } (.slice ad5 (es4++[(⟨2,n,4,0,0⟩:RE)]).length c5)).length by show 13+(3+n)<19;omega) (.none rfl) rfl ?_
  rw [RV (s:={ s4 with D:=s4.D.set (1+n) (s4.now+(s4.c n).hold) }) (by rw [List.length_set];exact hD4) Er]
  refine J11 ?_
  refine eT1 ?_
  rw [hfin,hes]
  have ec:s1.BE n H J = { s4 with D:=(s4.D.set (1+n) (s4.now+(s4.c n).hold)).set (3+n) (s4.now+(s4.c n).hold.tdiv 3) }:=by
    have hne:min s1.hold H≠0:=Er
    unfold Se.BE
    rw [if_neg hne,hs4]
    unfold Se.alive
    rw [if_neg Er,Us Er F2]
    exact (if_neg (show ¬ (s4.c n).hold=0 by omega)).trans (Us (s:={ s4 with D:=s4.D.set (1+n) (s4.now+(s4.c n).hold) }) (show 0≤(s4.c n).hold.tdiv 3 by omega) (show s4.now+(s4.c n).hold.tdiv 3<FB by unfold FB;omega) _)
  rw [ec]
  exact fun w' h=>⟨ad5,c5,E5++E4,rfl,hT4.trans hT5,h.sub (QG ..)⟩
  refine J13 ?_
  refine eT1 ?_
  rw [hfin,hes]
  have ec:s1.BE n H J = { s4 with D:=(s1.D.set (1+n) (-1)).set (3+n) (-1) }:=by
    unfold Se.BE
    rw [if_pos Er,hs4]
  rw [ec, ← hs4]
  refine fun w' h=>⟨ad5,c5,E5++E4,?_,hT4.trans hT5,h.sub (QG ..)⟩
  rw [← AcD w0 s1 n hn K A H J hH hX1 hk1,hs4,h4.2.1]
  refine J10 ?_
  exact Ds
  refine J14 ?_
  exact Ds

def Is (s:Se):Option Nat:=if (s.c 0).st=5 then some 0 else if (s.c 1).st=5 then some 1 else none
def LN (s:Se):Se×List RE×Bool:=match Is s with
  | some n=>(s.kept n,[⟨2,n,2,0,0⟩],true)
  | none=>(s,[],false)
def RxT (w w':World) (s:Se) (ad:Option Addr) (es es':List RE) (b:Bool) (e:Ending):Prop:=∃ ad' c E,e = .returned (.tuple #[.agg (rfC s (.slice ad' es'.length c)).toArray, .bool b])∧Trf ad es ad' es' E∧St (fun _=>False) w w' E
theorem Abs {s:Se}{k:Nat}(hk:k<2) (h:∀ j,j<k→(s.c j).st≠5) (h5:(s.c k).st=5):LN s=(s.kept k,[⟨2,k,2,0,0⟩],true):=by
  have:Is s=some k:=by
    unfold Is
    match k,hk with
    | 0,_=>exact if_pos h5
    | 1,_=>exact (if_neg (h 0 Et)).trans (if_pos h5)
  unfold LN
  rw [this]
theorem Ac7 {s:Se}(h:∀ j,j<2→(s.c j).st≠5):LN s=(s,[],false):=by
  have:Is s=none:=(if_neg (h 0 Et)).trans (if_neg (h 1 Et))
  unfold LN
  rw [this]
theorem sayR_c (w0:World) (s:Se) (ad:Option Addr) (c:Nat) (es:List RE) (hO:AU w0 ad (GY es)) (hl:es.length≤90000) (hX:RxH s) :
    Calls Tryz.prog 39 #[.agg (rfC s (.slice ad es.length c)).toArray] w0 fun e w'=>RxT w0 w' (LN s).1 ad es (es++(LN s).2.1) (LN s).2.2 e:=by
  have hnow:=hX.now
  refine enter Tryz.func39 rfl Tryz.ntmps39 rfl (St.start (fun _=>False) w0) ?_
  refine J2 ?_
  refine WL.box rfl rfl rfl (.none rfl) rfl rfl ?_
  intro g1 hg1
  refine WL.alloc rfl EC (.none rfl) rfl rfl ?_
  intro g2 hg2
  refine J10 ?_
  refine WC.loop (fun x:Nat=>[(4, .int .i64 x),(1, .pointer (some ⟨g1,0,none⟩)),(2, .pointer (some ⟨g2,0,none⟩))]) (fun _=>.row g2 [.int .i64 0, .int .i64 0, .int .i64 0, .int .i64 0, .int .u32 0, .int .i64 0, .int .i64 0, .int .i64 0, .int .i64 0, .int .u32 0, .int .u32 0, .int .i64 0, .int .i64 0, .int .i64 0, .int .i64 0, .int .i64 0, .int .i64 0, .int .i64 0, .slice none 0 0]::[.row g1 (rfC s (.slice ad es.length c))]) (fun x=>x≤2∧∀ j,j<x→(s.c j).st≠5) (fun x=>2-x) 0 ⟨Nat.zero_le _,fun j hj=>absurd hj (Nat.not_lt_zero _)⟩ Km (.refl _) ?_
  rintro k ⟨hk,hno⟩
  refine J4 ?_
  refine JT (fun h6=>?_) (fun h6=>?_)
  refine J11 ?_
  refine zV ((BR (lo:=k) rfl rfl rfl Tryz.underlying78 AP rfl Er)) rfl ?_
  refine zV (AA rfl rfl AK (cellAt (v:=.int .i64 (s.c k).st) (G0 s Er _))) rfl ?_
  refine JT (fun h13=>?_) (fun h13=>?_)
  refine J3 ?_
  refine WC.cut (fun _:Se=>[(4, .int .i64 k),(1, .pointer (some ⟨g1,0,none⟩)),(2, .pointer (some ⟨g2,0,none⟩))]) (fun y=>.row g2 [.int .i64 0, .int .i64 0, .int .i64 0, .int .i64 0, .int .u32 0, .int .i64 0, .int .i64 0, .int .i64 0, .int .i64 0, .int .u32 0, .int .u32 0, .int .i64 0, .int .i64 0, .int .i64 0, .int .i64 0, .int .i64 0, .int .i64 0, .int .i64 0, .slice none 0 0]::[.row g1 (rfC y (.slice ad es.length c))]) (fun y=>y=s.kept k) ?_ ?_
  refine J4 ?_
  refine zV ((BR (lo:=k) rfl rfl rfl Tryz.underlying78 AP rfl Er)) rfl ?_
  have hch:=hX.ch k Er
  have htd:=AaX hch
  refine zV (AA rfl rfl AK (cellAt (v:=.int .i64 (s.c k).hold) (Iy s Er _))) rfl ?_
  refine JT (fun h18=>?_) (fun h18=>?_)
  refine J3 ?_
  refine WC.BB mixed<|rF 6 [0,1,3,4,5,9]<|?_
  refine J1 ?_
  refine pV (AS rfl rfl rfl ((show _=3+(k:Int) from AF Er Er))) rfl ?_
  refine J2 ?_
  refine pV ((BR (lo:=k) rfl rfl rfl Tryz.underlying78 AP rfl Er)) rfl ?_
  refine J2 ?_
  refine rA 1 [2,6,7,8,10] rfl ?_
  refine J1 ?_
  refine qV (AA rfl rfl AK (cellAt (v:=.int .i64 (s.c k).hold) (Iy s Er _))) rfl ?_
  refine qV (Jb rfl rfl rfl Fl (show _=(s.c k).hold.tdiv 3 from AF Er Er)) rfl ?_
  refine WQ.call _ rfl rfl LX (.none rfl) rfl rfl (fun w hS=>Calls.still (Io w s _ ((s.c k).hold.tdiv 3) F2) hS) ?_
  refine qV ((BR (lo:=3+k) rfl rfl rfl Tryz.underlying80 AP Er Er)) rfl ?_
  refine J1 ?_
  refine rO 0 [11] ?_
  refine WL.DA rfl rfl rfl rfl AK (show 13+(3+k)<(rfC s (.slice ad es.length c)).length by show 13+(3+k)<19;omega) (.none rfl) rfl ?_
  rw [Mi hX.D5 Er Er F2]
  refine J2 ?_
  exact eM (s.due (3+k) ((s.c k).hold.tdiv 3)) (by unfold Se.kept;rw [if_neg (by omega)])
  refine J4 ?_
  exact eM s (by unfold Se.kept;rw [if_pos (by omega)])
  rintro y rfl
  refine J4 ?_
  refine zV (HV rfl rfl Jp Tryz.underlying51 AP rfl) rfl ?_
  refine J1 ?_
  refine zK Ju rfl ?_
  intro w1 hS
  refine (HO w1 (s.kept k) ad c es ⟨2,k,2,0,0⟩ (hO.frm (hS.rng fun _ h=>h)) Er).mono ?_
  rintro e w' ⟨ad3,c3,E3,rfl,hT3,hS'⟩
  refine ⟨_,_,rfl,hS.join hS',?_⟩
  refine J10 ?_
  refine eT2 ?_
  rw [Abs Er hno h13]
  exact Ak
  refine J8 ?_
  refine zV (AS rfl rfl rfl (show _=((k+1:Nat):Int) from (AF Er Er).trans Er)) rfl ?_
  refine J2 ?_
  exact eW (k+1) Er ⟨by omega,fun j hj=>by
  by_cases e:j=k
  · subst e;exact h13
  · exact hno j Er⟩
  refine J16 ?_
  refine eT2 ?_
  obtain rfl:k=2:=by omega
  rw [Ac7 hno,List.append_nil]
  exact fun w' h=>⟨ad,c,[],rfl, .refl _ _,h.sub (List.nil_sublist _)⟩

def LS (s:Se) (n:Nat) (t:Int):List RE :=
  match n with
  | 0=>[⟨1,0,0,0,0⟩]
  | 1=>FP { s with now:=t,D:=s.D.set 1 (-1) } 0 4 0
  | 2=>FP { s with now:=t,D:=s.D.set 2 (-1) } 1 4 0
  | 3=>[⟨2,0,4,0,0⟩]
  | _=>[⟨2,1,4,0,0⟩]
inductive ML (T:Int):Nat→Se→List RE→Se→Prop
  | done {s:Se}(h:∀ t∈s.D,t<0∨T<t):ML T 0 s [] { s with now:=T }
  | Jj {s s':Se}{n k:Nat}{t:Int}{rs:List RE}(h:I8 s.D T n t) (hr:ML T k (CM s n t).1 rs s'):ML T (k+1) s (LS s n t++rs) s'
def FK (T:Int) (D:List Int):Nat→Int
  | 0 => -1
  | k+1=>if (0≤D.getD k 0∧D.getD k 0≤T)∧(FK T D k<0∨D.getD k 0<D.getD (FK T D k).toNat 0) then k else FK T D k
theorem Aa0 {D:List Int}{k:Nat}(h:k<D.length):D[k]?=some (D.getD k 0):=by
  rw [List.getD_eq_getElem?_getD,List.getElem?_eq_getElem h]
  rfl
theorem N5 {T:Int}{D:List Int}(h5:D.length=5) (h:∀ t∈D,t<0∨T<t):∀ k,k≤5→FK T D k = -1
  | 0,_=>rfl
  | k+1,hk=>by
    have hm:=h (D.getD k 0) (List.mem_of_getElem? (Aa0 Er))
    exact (if_neg (fun ⟨⟨_,_⟩,_⟩=>by omega)).trans (N5 h5 h k Er)
theorem SS {T t:Int}{D:List Int}{n:Nat}(h5:D.length=5) (hF:I8 D T n t):∀ k,k≤5→(n<k→FK T D k=n)∧(k≤n→FK T D k = -1∨∃ j,j<k∧FK T D k=(j:Nat)∧0≤D.getD j 0∧t<D.getD j 0):=by
  obtain ⟨f1,f2,f3,f4⟩:=hF
  have hDn:D.getD n 0=t:=Acp f1
  intro k
  induction k with
  | zero=>exact fun _=>⟨fun h=>absurd h (Nat.not_lt_zero _),fun _=>.inl rfl⟩
  | succ k ih =>
    intro hk
    have ih:=ih Er
    have e:FK T D (k+1)=if (0≤D.getD k 0∧D.getD k 0≤T)∧(FK T D k<0∨D.getD k 0<D.getD (FK T D k).toNat 0) then (k:Int) else FK T D k:=rfl
    have hDk:D[k]?=some (D.getD k 0):=Aa0 Er
    have hlt:k≠n→0≤D.getD k 0→t<D.getD k 0∨t=D.getD k 0∧(n:Int)<k:=fun hne h0=>f4 k _ hne hDk h0
    rw [e]
    rcases Nat.lt_trichotomy n k with hn|hn|hn
    · have h1:=ih.1 hn
      have h2:=hlt Er
      refine ⟨fun _=>?_,fun h=>by omega⟩
      rw [if_neg,h1]
      rintro ⟨⟨a,_⟩,b⟩
      rw [h1,Int.toNat_natCast,hDn] at b
      have:=h2 a
      omega
    · subst hn
      refine ⟨fun _=>if_pos ⟨⟨by omega,by omega⟩,?_⟩,fun h=>by omega⟩
      rcases ih.2 (Nat.le_refl _) with h|⟨j,_,h,_,hj⟩
      · left;omega
      · right;rw [h,Int.toNat_natCast];omega
    · refine ⟨fun h=>by omega,fun _=>?_⟩
      split
      · rename_i hc
        have:=hlt Er hc.1.1
        exact .inr ⟨k,by omega,rfl,hc.1.1,by omega⟩
      · rcases ih.2 Er with h|⟨j,hj,h⟩
        · exact .inl h
        · exact .inr ⟨j,by omega,h⟩
theorem NA (T:Int) (D:List Int):∀ k,k≤5→FK T D k<5
  | 0,_=>by show (-1:Int)<5;decide
  | k+1,h=>by
    have:=NA T D k Er
    unfold FK
    split
    · omega
    · exact this
theorem Un {T:Int}{k:Nat}{s s':Se}{rs:List RE}(h5:s.D.length=5) (h:FK T s.D 5<0) (hT:ML T k s rs s'):rs=[]∧s' = { s with now:=T }:=by
  cases hT with
  | done _=>exact ⟨rfl,rfl⟩
  | Jj hF _ =>
    have hn:=(List.getElem?_eq_some_iff.1 hF.1).1
    have:=(SS h5 hF 5 (Nat.le_refl _)).1 Er
    omega
theorem UL {T:Int}{k:Nat}{s s':Se}{rs:List RE}(h5:s.D.length=5) (h:¬ FK T s.D 5<0) (hT:ML T k s rs s'):∃ n t rs2 k2,k=k2+1∧I8 s.D T n t∧n<5∧FK T s.D 5=(n:Nat)∧s.D[n]?=some t∧rs=LS s n t++rs2∧ML T k2 (CM s n t).1 rs2 s':=by
  cases hT with
  | done hd=>exact absurd (N5 h5 hd 5 (Nat.le_refl _)) Er
  | @Jj _ _ n k2 t rs2 hF hr =>
    have hn:=(List.getElem?_eq_some_iff.1 hF.1).1
    exact ⟨n,t,rs2,k2,rfl,hF,by omega,(SS h5 hF 5 (Nat.le_refl _)).1 Er,hF.1,rfl,hr⟩
theorem rf_gD {s:Se}(h5:s.D.length=5){n:Nat}{t:Int}(h:s.D[n]?=some t) (o:Value):(rfC s o)[13+n]?=some (.int .i64 t):=by
  obtain ⟨a,b,c,d,e,hD⟩:=VZ h5
  have hn:n<5:=by have:=(List.getElem?_eq_some_iff.1 h).1;omega
  unfold rfC
  rw [hD] at h
  simp only [hD]
  match n,hn,h with
  | 0,_,h|1,_,h|2,_,h|3,_,h|4,_,h=>obtain rfl:=Option.some.inj h;rfl
theorem d5_get (D:List Int){k:Nat}(hk:k<5):([.int .i64 (D.getD 0 0), .int .i64 (D.getD 1 0), .int .i64 (D.getD 2 0), .int .i64 (D.getD 3 0), .int .i64 (D.getD 4 0)]:List Value)[k]?=some (.int .i64 (D.getD k 0)):=by
  match k,hk with
  | 0,_|1,_|2,_|3,_|4,_=>rfl
theorem RxH.at {s:Se}(h:RxH s) (n:Nat){t:Int}(h0:0≤t∧t≤1000000):RxH { s with now:=t,D:=s.D.set n (-1) } :=
  ⟨(List.length_set ..).trans h.D5,h0,h.retry,h.hold,h.st,h.ch,h.fit,h.z,h.zh,fun k hk hs=>by
    have h5:=h.D5
    show (s.D.set n (-1))[3+k]?=_
    rw [List.getElem?_set]
    split
    · rw [if_pos Er]
    · exact h.k k hk hs⟩
theorem RxH.due {s:Se}(h:RxH s) (n:Nat) (l:Int) (hn:∀ k,k<2→n=3+k→(s.c k).hold≠0):RxH (s.due n l) :=
  ⟨(List.length_set ..).trans h.D5,h.now,h.retry,h.hold,h.st,h.ch,h.fit,h.z,h.zh,fun k hk hs=>by
    rw [Se.VS,List.getElem?_set_ne fun e=>hn k hk e hs]
    exact h.k k hk hs⟩
theorem RxH.base {s:Se}(h:RxH s) (b:Int):RxH { s with base:=b }:=⟨h.D5,h.now,h.retry,h.hold,h.st,h.ch,h.fit,h.z,h.zh,h.k⟩
theorem RxH.alive {s:Se}(h:RxH s) (n:Nat) (hn:n<2):RxH (s.alive n):=by
  unfold Se.alive
  split
  · exact h
  · exact h.due _ _ fun k hk e=>by omega
theorem RxH.kept {s:Se}(h:RxH s) (n:Nat):RxH (s.kept n):=by
  unfold Se.kept
  split
  · exact h
  · rename_i h0
    exact h.due _ _ fun k hk e=>by obtain rfl:n=k:=Er;exact h0
theorem RxH.Jj {s:Se}(h:RxH s) (n:Nat){t:Int}(h0:0≤t∧t≤1000000):RxH (CM s n t).1:=by
  unfold CM
  split
  · exact ((h.at 0 h0).base 1).due 0 _ fun k _ e=>by omega
  · exact (h.at 1 h0).gone 0 Et
  · exact (h.at 2 h0).gone 1 Et
  · exact (h.at 3 h0).kept 0
  · exact (h.at 4 h0).kept 1
structure TkX where
  s:Se
  ad:Option Addr
  c:Nat
  es:List RE
  E:List Ent
  rs:List RE
  k:Nat
set_option maxHeartbeats 2000000 in
theorem AbZ (w0:World) (s s':Se) (U T:Int) (ad:Option Addr) (c:Nat) (es rs:List RE) (k:Nat) (hO:AU w0 ad (GY es)) (hX:RxH s) (hn:s.now+4096≤1000000) (hTe:T=max (min U (s.now+4096)) s.now) (hT:ML T k s rs s') (hl:es.length+rs.length≤90000) :
    Calls Tryz.prog 38 #[.agg (rfC s (.slice ad es.length c)).toArray, .int .i64 U] w0 fun e w'=>RxP w0 w' s' ad es (es++rs) e:=by
  have hnow:=hX.now
  refine enter Tryz.func38 rfl Tryz.ntmps38 rfl (St.start (fun _=>False) w0) ?_
  refine J2 ?_
  refine WL.box rfl rfl rfl (.none rfl) rfl rfl ?_
  intro g2 hg2
  refine WL.alloc rfl EC (.none rfl) rfl rfl ?_
  intro g4 hg4
  refine J6 ?_
  refine zk LX rfl (fun w hS=>Io w s _ 4096 F2) ?_
  refine zV ((Le rfl rfl rfl)) rfl ?_
  refine J7 ?_
  refine zV (AA rfl rfl AK (cellAt (v:=.int .i64 s.now) rfl)) rfl<|zV ((Tm rfl rfl rfl)) rfl<|?_
  refine J4 ?_
  refine WC.loop (fun _:TkX=>[(1, .int .i64 T),(2, .pointer (some ⟨g2,0,none⟩)),(4, .pointer (some ⟨g4,0,none⟩))]) (fun x=>x.E++(.row g4 [.int .i64 0, .int .i64 0, .int .i64 0, .int .i64 0, .int .u32 0, .int .i64 0, .int .i64 0, .int .i64 0, .int .i64 0, .int .u32 0, .int .u32 0, .int .i64 0, .int .i64 0, .int .i64 0, .int .i64 0, .int .i64 0, .int .i64 0, .int .i64 0, .slice none 0 0]::[.row g2 (rfC x.s (.slice x.ad x.es.length x.c))])) (fun x=>RxH x.s∧ML T x.k x.s x.rs s'∧x.es++x.rs=es++rs∧Trf ad es x.ad x.es x.E) (fun x=>x.k) ⟨s,ad,c,es,[],rs,k⟩ ⟨hX,hT,rfl, .refl _ _⟩ (.int rfl hTe.symm (.cons rfl (.cons rfl .nil))) (.refl _) ?_
  rintro ⟨s1,ad1,c1,es1,E1,rs1,k1⟩ ⟨hX1,hT1,he1,hTr1⟩
  dsimp only at hX1 hT1 he1 hTr1
  dsimp only
  have hle1:es1.length+rs1.length=es.length+rs.length:=by rw [← List.length_append, ← List.length_append,he1]
  have hD5:=hX1.D5
  refine J10 ?_
  refine zV (CA rfl rfl AcX rfl (IK (g:=g2) (cs:=rfC s1 (.slice ad1 es1.length c1)) (k:=13) (m:=5) (new:=[.int .i64 (s1.D.getD 0 0), .int .i64 (s1.D.getD 1 0), .int .i64 (s1.D.getD 2 0), .int .i64 (s1.D.getD 3 0), .int .i64 (s1.D.getD 4 0)]) rfl)) rfl ?_
  refine J4 ?_
  refine WC.loop (fun j:Nat=>[(18, .int .i64 j),(17, .agg ([.int .i64 (s1.D.getD 0 0), .int .i64 (s1.D.getD 1 0), .int .i64 (s1.D.getD 2 0), .int .i64 (s1.D.getD 3 0), .int .i64 (s1.D.getD 4 0)]:List Value).toArray),(5, .int .i64 (FK T s1.D j)),(1, .int .i64 T),(2, .pointer (some ⟨g2,0,none⟩)),(4, .pointer (some ⟨g4,0,none⟩))]) (fun _=>E1++(.row g4 [.int .i64 0, .int .i64 0, .int .i64 0, .int .i64 0, .int .u32 0, .int .i64 0, .int .i64 0, .int .i64 0, .int .i64 0, .int .u32 0, .int .u32 0, .int .i64 0, .int .i64 0, .int .i64 0, .int .i64 0, .int .i64 0, .int .i64 0, .int .i64 0, .slice none 0 0]::[.row g2 (rfC s1 (.slice ad1 es1.length c1))])) (fun j=>j≤5) (fun j=>5-j) 0 (Nat.zero_le _) Km (.refl _) ?_
  rintro j hj
  have hfj:FK T s1.D (j+1)=if (0≤s1.D.getD j 0∧s1.D.getD j 0≤T)∧(FK T s1.D j<0∨s1.D.getD j 0<s1.D.getD (FK T s1.D j).toNat 0) then (j:Int) else FK T s1.D j:=rfl
  refine J2 ?_
  refine JT (fun h19=>?_) (fun h19=>?_)
  refine J11 ?_
  refine zV ((Zj (lo:=j) rfl rfl rfl Tryz.underlying80 AK rfl Er (d5_get s1.D Er))) rfl ?_
  refine J7 ?_
  refine JT (fun h23=>?_) (fun h23=>?_)
  refine J3 ?_
  refine JT (fun h27=>?_) (fun h27=>?_)
  refine J3 ?_
  refine JT (fun h31=>?_) (fun h31=>?_)
  refine J19 ?_
  refine zV (AS rfl rfl rfl (show _=((j+1:Nat):Int) from (AF Er Er).trans Er)) rfl ?_
  refine J2 ?_
  exact eW (j+1) Er Er (.cons rfl (.cons rfl (.int rfl (by rw [hfj,if_pos ⟨⟨h23,h27⟩, .inl h31⟩]) (.cons rfl (.cons rfl (.cons rfl .nil))))))
  refine J4 ?_
  refine zS ((BR (lo:=(FK T s1.D j).toNat) rfl rfl rfl Tryz.underlying80 AP Er (by have:=NA T s1.D j (by omega);omega))) rfl ?_
  refine zS (AA rfl rfl AK (cellAt (v:=.int .i64 (s1.D.getD (FK T s1.D j).toNat 0)) (rf_gD hD5 (by have:=NA T s1.D j (by omega);exact Aa0 (by omega)) _))) rfl ?_
  refine JT (fun h38=>?_) (fun h38=>?_)
  refine J12 ?_
  refine zV (AS rfl rfl rfl (show _=((j+1:Nat):Int) from (AF Er Er).trans Er)) rfl ?_
  refine J2 ?_
  exact eW (j+1) Er Er (.cons rfl (.cons rfl (.int rfl (by rw [hfj,if_pos ⟨⟨h23,h27⟩, .inr h38⟩]) (.cons rfl (.cons rfl (.cons rfl .nil))))))
  refine J9 ?_
  refine zV (AS rfl rfl rfl (show _=((j+1:Nat):Int) from (AF Er Er).trans Er)) rfl ?_
  refine J2 ?_
  exact eW (j+1) Er Er (.cons rfl (.cons rfl (.int rfl (by rw [hfj,if_neg fun h=>h.2.elim h31 h38]) (.cons rfl (.cons rfl (.cons rfl .nil))))))
  refine J20 ?_
  refine zV (AS rfl rfl rfl (show _=((j+1:Nat):Int) from (AF Er Er).trans Er)) rfl ?_
  refine J2 ?_
  exact eW (j+1) Er Er (.cons rfl (.cons rfl (.int rfl (by rw [hfj,if_neg fun h=>h27 h.1.2]) (.cons rfl (.cons rfl (.cons rfl .nil))))))
  refine J24 ?_
  refine zV (AS rfl rfl rfl (show _=((j+1:Nat):Int) from (AF Er Er).trans Er)) rfl ?_
  refine J2 ?_
  exact eW (j+1) Er Er (.cons rfl (.cons rfl (.int rfl (by rw [hfj,if_neg fun h=>h23 h.1.1]) (.cons rfl (.cons rfl (.cons rfl .nil))))))
  refine J12 ?_
  obtain rfl:j=5:=by omega
  refine J1 ?_
  refine JT (fun h44=>?_) (fun h44=>?_)
  refine J8 ?_
  rw [show (rfC s1 (.slice ad1 es1.length c1)).set 5 (.int .i64 T)=rfC { s1 with now:=T } (.slice ad1 es1.length c1) from rfl]
  refine J13 ?_
  refine eT1 ?_
  obtain ⟨e1,e2⟩:=Un hD5 h44 hT1
  rw [e1,List.append_nil] at he1
  rw [← he1,e2]
  exact fun w' h=>⟨ad1,c1,E1,rfl,hTr1,h.sub (List.sublist_append_left _ _)⟩
  refine J7 ?_
  obtain ⟨n,t,rs2,k2,hk1,hF,hn5,hfn,hDt,hrs,hT2⟩:=UL hD5 h44 hT1
  have ht:0≤t∧t≤1000000:=⟨hF.2.1,by have:=hF.2.2.1;omega⟩
  have hXB:RxH { s1 with now:=t,D:=s1.D.set n (-1) }:=hX1.at n ht
  have hXf:=hX1.Jj n ht
  refine J2 ?_
  refine zV ((BR (lo:=n) rfl rfl rfl Tryz.underlying80 AP hfn hn5)) rfl<|zV (AA rfl rfl AK (cellAt (v:=.int .i64 t) (rf_gD hD5 hDt _))) rfl<|?_
  refine J2 ?_
  rw [show (rfC s1 (.slice ad1 es1.length c1)).set 5 (.int .i64 t)=rfC { s1 with now:=t } (.slice ad1 es1.length c1) from rfl]
  refine J6 ?_
  refine zV ((BR (lo:=n) rfl rfl rfl Tryz.underlying80 AP hfn hn5)) rfl ?_
  refine WL.DA rfl rfl rfl rfl AK (show 13+n<(rfC { s1 with now:=t } (.slice ad1 es1.length c1)).length by show 13+n<19;omega) (.none rfl) rfl ?_
  rw [RV (s:={ s1 with now:=t }) hD5 hn5]
  refine J2 ?_
  refine WC.cut (fun _:TkX=>[(1, .int .i64 T),(2, .pointer (some ⟨g2,0,none⟩)),(4, .pointer (some ⟨g4,0,none⟩))]) (fun x=>x.E++(.row g4 [.int .i64 0, .int .i64 0, .int .i64 0, .int .i64 0, .int .u32 0, .int .i64 0, .int .i64 0, .int .i64 0, .int .i64 0, .int .u32 0, .int .u32 0, .int .i64 0, .int .i64 0, .int .i64 0, .int .i64 0, .int .i64 0, .int .i64 0, .int .i64 0, .slice none 0 0]::[.row g2 (rfC x.s (.slice x.ad x.es.length x.c))])) (fun x=>x.s=(CM s1 n t).1∧x.es=es1++LS s1 n t∧Trf ad es x.ad x.es x.E) ?_ ?_
  refine J3 ?_
  refine JT (fun h57=>?_) (fun h57=>?_)
  refine J5 ?_
  refine zK ck_66 rfl ?_
  intro w1 hS
  refine (We w1 { s1 with now:=t,D:=s1.D.set n (-1) } ad1 c1 es1 (hTr1.at hO hS (List.sublist_append_left _ _)) Er hXB.D5 hXB.r).mono ?_
  rintro e w' ⟨ad5,c5,E5,rfl,hT5,hS'⟩
  refine ⟨_,_,rfl,hS.join hS',?_⟩
  refine J2 ?_
  obtain rfl:n=0:=by omega
  exact WE.mid ⟨(CM s1 0 t).1,ad5,c5,es1++LS s1 0 t,E5++E1,[],0⟩ ⟨rfl,rfl,hTr1.trans hT5⟩ Km (by dsimp only;rw [List.append_assoc];exact .refl _)
  refine J6 ?_
  refine JT (fun h61=>?_) (fun h61=>?_)
  refine J6 ?_
  refine zV (EM rfl rfl rfl ((show _=((n-1:Nat):Int) from (AF Er Er).trans Er))) rfl ?_
  refine zK KP rfl ?_
  intro w1 hS
  refine (IH w1 { s1 with now:=t,D:=s1.D.set n (-1) } (n-1) Er 4 0 ad1 c1 es1 (hTr1.at hO hS (List.sublist_append_left _ _)) Er hXB.D5 hXB.r).mono ?_
  rintro e w' ⟨ad5,c5,E5,rfl,hT5,hS'⟩
  refine ⟨_,_,rfl,hS.join hS',?_⟩
  refine J2 ?_
  have e12:(CM s1 n t).1=({ s1 with now:=t,D:=s1.D.set n (-1) }:Se).gone (n-1)∧LS s1 n t=FP { s1 with now:=t,D:=s1.D.set n (-1) } (n-1) 4 0:=by
    have:n=1∨n=2:=by omega
    rcases this with rfl|rfl <;> exact ⟨rfl,rfl⟩
  exact WE.mid ⟨(CM s1 n t).1,ad5,c5,es1++LS s1 n t,E5++E1,[],0⟩ ⟨rfl,rfl,by rw [e12.2];exact hTr1.trans hT5⟩ Km (by dsimp only;rw [e12.1,e12.2,List.append_assoc];exact .refl _)
  refine J5 ?_
  obtain ⟨m,rfl⟩:∃ m,n=3+m:=⟨n-3,by omega⟩
  have hm2:m<2:=Er
  have hh0:(s1.c m).hold≠0:=fun e=>by
    have:=hX1.k m hm2 e
    rw [this] at hDt
    have:=Option.some.inj hDt
    omega
  have hch:=hX1.ch m hm2
  have htd:=AaX hch
  refine J2 ?_
  refine zV (EM rfl rfl rfl ((show _=(m:Int) from (AF Er Er).trans Er))) rfl ?_
  refine zV (HV rfl rfl Jp Tryz.underlying51 AP rfl) rfl ?_
  refine J1 ?_
  refine zK Ju rfl ?_
  intro w1 hS
  refine (HO w1 { s1 with now:=t,D:=s1.D.set (3+m) (-1) } ad1 c1 es1 ⟨2,m,4,0,0⟩ (hTr1.at hO hS (List.sublist_append_left _ _)) Er).mono ?_
  rintro e w' ⟨ad5,c5,E5,rfl,hT5,hS'⟩
  refine ⟨_,_,rfl,hS.join hS',?_⟩
  refine J4 ?_
  refine WC.BB mixed<|rF 6 [0,2,3,4,5,9]<|?_
  refine J2 ?_
  refine pV (EM rfl rfl rfl ((show _=(m:Int) from (AF Er Er).trans Er))) rfl ?_
  refine J1 ?_
  refine pV ((BR (lo:=m) rfl rfl rfl Tryz.underlying78 AP rfl hm2)) rfl ?_
  refine J2 ?_
  refine rA 1 [1,6,7,8,10] rfl ?_
  refine J1 ?_
  refine qV (AA rfl rfl AK (cellAt (v:=.int .i64 (s1.c m).hold) (Iy { s1 with now:=t,D:=s1.D.set (3+m) (-1) } hm2 _))) rfl ?_
  refine qV (Jb rfl rfl rfl Fl (show _=(s1.c m).hold.tdiv 3 from AF Er Er)) rfl ?_
  refine WQ.call _ rfl rfl LX (.none rfl) rfl rfl (fun w hS=>Calls.still (Io w { s1 with now:=t,D:=s1.D.set (3+m) (-1) } _ ((s1.c m).hold.tdiv 3) F9) hS) ?_
  refine qV ((BR (lo:=3+m) rfl rfl rfl Tryz.underlying80 AP hfn hn5)) rfl ?_
  refine J1 ?_
  refine rO 0 [11] ?_
  refine WL.DA rfl rfl rfl rfl AK (show 13+(3+m)<(rfC { s1 with now:=t,D:=s1.D.set (3+m) (-1) } (.slice ad5 (es1++[(⟨2,m,4,0,0⟩:RE)]).length c5)).length by show 13+(3+m)<19;omega) (.none rfl) rfl ?_
  rw [show t+(s1.c m).hold.tdiv 3=({ s1 with now:=t,D:=s1.D.set (3+m) (-1) }:Se).now+(s1.c m).hold.tdiv 3 from rfl,Mi (s:={ s1 with now:=t,D:=s1.D.set (3+m) (-1) }) hXB.D5 Er Er F9]
  refine J6 ?_
  refine zV (AA rfl rfl AK (cellAt (v:=.int .i64 t) rfl)) rfl ?_
  refine zV ((AZ rfl rfl rfl).f (Er)) rfl ?_
  refine J4 ?_
  have e34:(CM s1 (3+m) t).1=({ s1 with now:=t,D:=s1.D.set (3+m) (-1) }:Se).due (3+m) ((s1.c m).hold.tdiv 3)∧LS s1 (3+m) t=[⟨2,m,4,0,0⟩]:=by
    match m,hm2,hh0 with
    | 0,_,hh0=>exact ⟨if_neg hh0,rfl⟩
    | 1,_,hh0=>exact ⟨if_neg hh0,rfl⟩
  exact WE.mid ⟨(CM s1 (3+m) t).1,ad5,c5,es1++LS s1 (3+m) t,E5++E1,[],0⟩ ⟨rfl,rfl,by rw [e34.2];exact hTr1.trans hT5⟩ Km (by dsimp only;rw [e34.1,e34.2,List.append_assoc];exact .refl _)
  rintro ⟨s2,ad2,c2,es2,E2,_,_⟩ ⟨hs2,he2,hTr2⟩
  dsimp only at hs2 he2 hTr2
  dsimp only
  have hn2:s2.now=t:=by rw [hs2];exact FF _ _ _
  refine J3 ?_
  refine zV (AA rfl rfl AK (cellAt (v:=.int .i64 s2.now) rfl)) rfl ?_
  refine zV ((AZ rfl rfl rfl).f (Er)) rfl ?_
  refine J5 ?_
  exact eW ⟨s2,ad2,c2,es2,E2,rs2,k2⟩ Eu ⟨by rw [hs2];exact hXf,by rw [hs2];exact hT2,by dsimp only;rw [he2, ← he1,hrs,List.append_assoc],hTr2⟩
end Gq

def GJ (e:EfD):RE:=if e.kind=2 then ⟨2,e.conn,(G4 e.bs).1,(G4 e.bs).2.1,(G4 e.bs).2.2⟩ else ⟨e.kind,e.conn,0,0,0⟩
structure Vb (e:EfD):Prop where
  some:e.kind=2→0<e.bs.length
  none:e.kind≠2→e.bs=[]
  told:e.kind=6↔e.m.kind≠0
  bys:Bys e.bs∧e.bs.length≤4096
def Rel (es:List EfD) (rs:List RE):Prop:=(∀ e∈es,Vb e)∧rs=es.map GJ
theorem Rel.nil:Rel [] []:=⟨fun e he=>(by cases he),rfl⟩
theorem Rel.app {a b:List EfD}{x y:List RE}(h:Rel a x) (h':Rel b y):Rel (a++b) (x++y):=⟨fun e he=>(List.mem_append.1 he).elim (h.1 e) (h'.1 e),by rw [h.2,h'.2,List.map_append]⟩
theorem Rel.one {e:EfD}{r:RE}(h:Vb e) (hr:r=GJ e):Rel [e] [r]:=⟨fun x hx=>by obtain rfl:=List.mem_singleton.1 hx;exact h,by rw [hr];rfl⟩
theorem Rel.ef (k c:Int) (h2:k≠2) (h6:k≠6):Rel [ef k c] [⟨k,c,0,0,0⟩]:=.one ⟨fun e=>absurd e h2,fun _=>rfl,⟨fun e=>absurd e h6,fun e=>absurd rfl e⟩,Bys.nil,Nat.zero_le _⟩ (if_neg h2).symm
theorem Wu {n:Int}{m:MsL}(h:Gr m=0) (hI:m.In):Vb ⟨2,n,DG m,(MsL.zero 0).d⟩:=⟨fun _=>(by show 0<(DG m).length;rw [OG];omega),fun e=>absurd rfl e,⟨fun e=>absurd (show (2:Int)=6 from e) Et,fun e=>absurd rfl e⟩,Mx hI h,Oj h⟩
theorem Rel.said {n:Int}{m:MsL}(h:Gr m=0) (hI:m.In):Rel [⟨2,n,DG m,(MsL.zero 0).d⟩] [⟨2,n,(G5 m).kind,(G5 m).fc,(G5 m).fs⟩]:=.one (Wu h hI) (by
  show _=if (2:Int)=2 then _ else _
  rw [if_pos rfl,XC h hI])
theorem Rel.send {n:Int}{m:MsL}(h:Gr m=0) (hI:m.In):Rel (FN n m) [⟨2,n,(G5 m).kind,(G5 m).fc,(G5 m).fs⟩]:=by
  rw [OV h]
  exact .said h hI
theorem Rel.note (n:Int){C S:Int}{d:ByteArray}(hC:1≤C∧C≤255) (hS:0≤S∧S≤255) (hd:d.size≤4075):Rel (FN n (I5 C S d)) [⟨2,n,3,C,S⟩]:=.send (UR hC hS hd) (XX hC hS hd)
theorem Rel.ka (n:Int):Rel (FN n (MsL.zero 4)) [⟨2,n,4,0,0⟩]:=.send LJ (HQ ⟨by decide,by decide⟩)
theorem Rel.gone (s:Se) (n:Nat):Rel (IA s n) (Iv s n):=by
  unfold IA Iv
  split
  · exact .ef 5 0 Et Et
  · exact .nil
theorem Rel.close (s:Se) (n:Nat):Rel (Hy s n) (⟨3,n,0,0,0⟩::Iv s n):=Rel.app (Rel.ef 3 n Et Et) (.gone s n)
theorem Rel.end (s:Se) (n:Nat){C S:Int}{d:ByteArray}(hC:C=0∨1≤C∧C≤255) (hS:0≤S∧S≤255) (hd:d.size≤4075):Rel (DW s n C S d) (FP s n C S):=by
  unfold DW FP NS
  split
  · exact .close s n
  · exact .app (.note n Er hS hd) (.close s n)
theorem Rel.Rx (s:Se) (n:Nat) (C S:Int) (h:(1≤C∧C≤255)∧0≤S∧S≤255):Rel (DW s n C S ⟨#[]⟩) (FP s n C S):=.end s n (.inr h.1) h.2 (Nat.zero_le _)
theorem Rel.BQ (s:Se){n:Nat}(hn:n<2) (a h i:Int):(Kf s n a h i).1=(BQ s n a h i).1∧Rel (BQ s n a h i).2 (Kf s n a h i).2:=by
  unfold YtcmpamnhegndnaaGreatDoor.BQ Kf
  have e22:=Rel.Rx s n 2 2 Et
  have e23:=Rel.Rx s n 2 3 Et
  have e67:=Rel.Rx s n 6 7 Et
  split
  · exact ⟨rfl,e22⟩
  split
  · exact ⟨rfl,e23⟩
  rename_i hi
  split
  · exact ⟨rfl,e67⟩
  split
  · have key:((if s.id<i then 1 else 0)≠(n:Int))↔(s.id<i∧n=0∨i<s.id∧n=1):=by split <;> omega
    by_cases hk:s.id<i∧n=0∨i<s.id∧n=1
    · rw [if_pos hk,if_pos (key.2 hk)];exact ⟨rfl,e67⟩
    · rw [if_neg hk,if_neg fun h=>hk (key.1 h)];exact ⟨rfl, .app (.Rx s (1-n) 6 7 Et) (.ka n)⟩
  · exact ⟨rfl, .ka n⟩
theorem Rel.estab (s:Se) (n:Nat):Rel (Gs s n) (Nt s n):=by
  unfold Gs Nt
  split
  · exact .ef 4 n Et Et
  · exact .app (.Rx _ _ 6 7 Et) (.ef 4 n Et Et)
theorem Rel.hear (s:Se){n:Nat}(hn:n<2) (m:MsD) (h0:3≤(s.c n).st∧(s.c n).st≤5):(Ie s n m.kind m.asn m.hold m.id).1=(CI s n m).1∧Rel (CI s n m).2 (Ie s n m.kind m.asn m.hold m.id).2:=by
  unfold CI Ie
  by_cases h3:m.kind=3
  · rw [if_pos h3,if_pos h3];exact ⟨rfl, .close s n⟩
  rw [if_neg h3,if_neg h3]
  by_cases h1:m.kind=1∧(s.c n).st=3
  · rw [if_pos h1,if_pos h1.symm];exact Rel.BQ s hn _ _ _
  rw [if_neg h1,if_neg fun h=>h1 h.symm]
  by_cases h4:m.kind=4∧(s.c n).st=4
  · rw [if_pos h4,if_pos h4.symm];exact ⟨rfl, .estab s n⟩
  rw [if_neg h4,if_neg fun h=>h4 h.symm]
  by_cases h5:m.kind=4∧(s.c n).st=5
  · rw [if_pos h5,if_pos h5.symm];exact ⟨rfl, .nil⟩
  rw [if_neg h5,if_neg fun h=>h5 h.symm]
  by_cases h6:m.kind=2∧(s.c n).st=5
  · rw [if_pos h6,if_pos h6.symm]
    exact ⟨rfl, .one ⟨fun e=>absurd (show (6:Int)=2 from e) Et,fun _=>rfl,⟨fun _=>(by show m.kind≠0;omega),fun _=>rfl⟩,Bys.nil,Nat.zero_le _⟩ rfl⟩
  rw [if_neg h6,if_neg fun h=>h6 h.symm]
  exact ⟨rfl, .Rx s n 5 _ Er⟩
theorem Rel.up {s:Se}(n:Nat) (h:(1≤s.asn∧s.asn≤65535)∧(s.hold=0∨3≤s.hold∧s.hold≤65535)∧s.id≠0∧U32 s.id):Rel (upE s n) (upR s n):=by
  unfold upE upR
  split
  · exact .ef 3 n Et Et
  · exact .send (Ms h.1 h.2.1 h.2.2.1) (Qh h.1 F0 h.2.2.2)
theorem Rel.down (s:Se) (n:Nat):Rel (IM s n) (I0 s n):=by
  unfold IM I0
  split
  · exact .gone s n
  · exact .nil
theorem Rel.CF (s:Se):∀ k,Rel (CF s k).2 (IZ s k)
  | 0=>.nil
  | k+1=>by
    refine Rel.app (Rel.CF s k) ?_
    unfold Gv Lh
    split
    · exact .nil
    · exact .Rx _ k 6 2 Et
theorem Rel.stop (s:Se):Rel (FZ s).2 (OC s):=by
  unfold FZ OC
  split
  · exact .nil
  · exact .CF _ 2
theorem Rel.Jj (s:Se) (n:Nat) (t:Int):Rel (CM s n t).2 (LS s n t) :=
  match n with
  | 0=>.ef 1 0 Et Et
  | 1=>.Rx _ 0 4 0 Et
  | 2=>.Rx _ 1 4 0 Et
  | 3=>.ka 0
  | _+4=>.ka 1
theorem Rel.tick {T:Int}{s s':Se}{es:List EfD}(h:JL T s es s'):∃ k rs,ML T k s rs s'∧Rel es rs:=by
  induction h with
  | done h=>exact ⟨0,[], .done h, .nil⟩
  | @Jj s _ n t _ hF _ ih =>
    obtain ⟨k,rs,h1,h2⟩:=ih
    exact ⟨k+1,LS s n t++rs, .Jj hF h1, .app (.Jj s n t) h2⟩
theorem Rel.len {es:List EfD}{rs:List RE}(h:Rel es rs):rs.length=es.length:=by rw [h.2,List.length_map]
/-! ## What the reference's session keeps -/
theorem RxH.c {s:Se}(h:RxH s){D:List Int}(hD:D.length=5) (hk:∀ k,k<2→(s.c k).hold=0→D[3+k]?=some (-1)):RxH { s with D:=D }:=⟨hD,h.now,h.retry,h.hold,h.st,h.ch,h.fit,h.z,h.zh,hk⟩
theorem RxH.set {s:Se}(h:RxH s) (n:Nat) (hn:n<2) (c:CnM) (h1:c.st=0∨3≤c.st∧c.st≤5) (h2:0≤c.hold∧c.hold≤65535) (h3:c.hold=0∨3≤c.hold) (h4:c.st=0→c.id=0) (h5:c.st≤3→c.hold=0) (h6:c.hold=0→s.D[3+n]?=some (-1)):RxH (s.set n c):=by
  have e:=DL s n c
  have hc:=fun k hk=>L5 s n k c hn hk
  refine ⟨setD5 h.D5 n c,by rw [FW];exact h.now,by rw [e.2.2.2.2.2];exact h.retry,by rw [e.2.1];exact h.hold,fun k hk=>?_,fun k hk=>?_,fun k hk=>?_,fun k hk=>?_,fun k hk=>?_,fun k hk=>?_⟩
  · rw [hc k hk];split;exact h1;exact h.st k hk
  · rw [hc k hk];split;exact h2;exact h.ch k hk
  · rw [hc k hk];split;exact h3;exact h.fit k hk
  · rw [hc k hk];split;exact h4;exact h.z k hk
  · rw [hc k hk];split;exact h5;exact h.zh k hk
  · rw [hc k hk,Se.Qv];split
    · rename_i e;subst e;exact h6
    · exact h.k k hk
theorem RxH.BE {s:Se}(h:RxH s) (n:Nat) (hn:n<2) (H i:Int) (hH:0≤H∧H≤65535) (hf:H=0∨3≤H) (hs:s.hold=0∨3≤s.hold):RxH (s.BE n H i):=by
  have hh:=h.hold
  have h5:=h.D5
  unfold Se.BE
  split
  · rename_i h0
    have h4:RxH (({ s with D:=(s.D.set (1+n) (-1)).set (3+n) (-1) }:Se).set n { s.c n with st:=4,hold:=min s.hold H,id:=i }):=by
      refine RxH.set (h.c (by rw [List.length_set,List.length_set];exact h5) fun k hk hk0=>?_) n hn _ (.inr ⟨(by decide:(3:Int)≤4),(by decide:(4:Int)≤5)⟩) Eu (.inl h0) (fun e=>absurd (show (4:Int)=0 from e) Et) (fun e=>absurd (show (4:Int)≤3 from e) Et) fun _=>?_
      · rw [List.getElem?_set]
        split
        · rw [if_pos Fj]
        · rw [List.getElem?_set_ne Er];exact h.k k hk hk0
      · show ((s.D.set (1+n) (-1)).set (3+n) (-1))[3+n]?=_
        rw [List.getElem?_set,if_pos rfl,if_pos Fj]
    have e:({ s.DZ n H i with D:=(s.D.set (1+n) (-1)).set (3+n) (-1) }:Se)=({ s with D:=(s.D.set (1+n) (-1)).set (3+n) (-1) }:Se).set n { s.c n with st:=4,hold:=min s.hold H,id:=i }:=by
      match n,hn with
      | 0,_|1,_=>rfl
    rw [e];exact h4
  · rename_i h0
    have h4:RxH (s.DZ n H i):=RxH.set h n hn _ (.inr ⟨(by decide:(3:Int)≤4),(by decide:(4:Int)≤5)⟩) Eu Eu (fun e=>absurd (show (4:Int)=0 from e) Et) (fun e=>absurd (show (4:Int)≤3 from e) Et) fun e=>absurd e h0
    exact (h4.alive n hn).kept n
theorem RxH.BQ {s:Se}(h:RxH s) (n:Nat) (hn:n<2) (a H i:Int) (hH:0≤H∧H≤65535) (hf:H=0∨3≤H) (hs:s.hold=0∨3≤s.hold):RxH (BQ s n a H i).1:=by
  unfold YtcmpamnhegndnaaGreatDoor.BQ
  repeat' split
  all_goals first|exact h.gone n hn|exact h.BE n hn H i hH hf hs|exact (h.gone (1-n) Er).BE n hn H i hH hf (by rw [ND];exact hs)
theorem RxH.CI {s:Se}(h:RxH s) (n:Nat) (hn:n<2) (m:MsD) (hm:m.Fit) (hb:0≤m.hold∧m.hold≤65535) (hs:s.hold=0∨3≤s.hold):RxH (CI s n m).1:=by
  unfold YtcmpamnhegndnaaGreatDoor.CI
  split
  · exact h.gone n hn
  split
  · exact h.BQ n hn _ _ _ hb (hm.hold.imp id And.left) hs
  split
  · rename_i h4
    have h5:=h.up5 n hn (by rw [h4.2];decide)
    unfold Se.BD
    split
    · exact h5
    · exact h5.gone (1-n) Er
  split
  · exact h.alive n hn
  split
  · exact h.alive n hn
  · exact h.gone n hn
theorem RxH.start {s:Se}(h:RxH s):RxH (if s.base=0 then s.JW else s):=by
  split
  · exact (h.base 1).due 0 _ fun k _ e=>by omega
  · exact h
theorem RxH.up {s:Se}(h:RxH s) (n:Nat) (hn:n<2):RxH (s.up n):=by
  unfold Se.up
  split
  · exact h
  · rename_i hu
    have h0:(s.c n).st=0:=Decidable.byContradiction fun e=>hu (.inr (.inl e))
    have hz:=h.zh n hn Er
    have h1:RxH ({ s with base:=(if n=0 then 2 else s.base),D:=s.D.set 0 (-1) }:Se):=(h.base (if n=0 then 2 else s.base)).c (D:=s.D.set 0 (-1)) ((List.length_set ..).trans h.D5) (fun k hk hk0=>by rw [List.getElem?_set_ne Er];exact h.k k hk hk0)
    have h2:=RxH.set h1 n hn JM (.inr ⟨by decide,by decide⟩) ⟨by decide,by decide⟩ (.inl rfl) (fun e=>absurd (show (3:Int)=0 from e) Et) (fun _=>rfl) fun _=>h1.k n hn hz
    have e:({ s with base:=(if n=0 then 2 else s.base),D:=s.D.set 0 (-1) }:Se).set n JM=s.HZ n:=by
      match n,hn with
      | 0,_|1,_=>rfl
    rw [e] at h2
    exact h2.due _ _ fun k hk e=>by omega
theorem RxH.down {s:Se}(h:RxH s) (n:Nat) (hn:n<2):RxH (s.down n):=by
  unfold Se.down
  split
  · exact h.gone n hn
  split
  · exact h
  split
  · exact (h.base 2).due 0 _ fun k _ e=>by omega
  · exact h.base 2
theorem RxH.CF {s:Se}(h:RxH s):∀ k,k≤2→RxH (CF s k).1
  | 0,_=>h
  | k+1,hk=>by
    have h1:=RxH.CF h k Er
    unfold YtcmpamnhegndnaaGreatDoor.CF YtcmpamnhegndnaaGreatDoor.Gv
    dsimp only
    split
    · exact h1
    · exact h1.gone k Er
theorem RxH.FZ {s:Se}(h:RxH s):RxH (FZ s).1:=by
  unfold YtcmpamnhegndnaaGreatDoor.FZ
  split
  · exact h
  · exact RxH.CF ((h.base 0).c ((List.length_set ..).trans h.D5) fun k hk hk0=>by rw [List.getElem?_set_ne Er];exact h.k k hk hk0) 2 (Nat.le_refl _)
theorem RxH.tick {T:Int}{s s':Se}{es:List EfD}(hr:JL T s es s') (hT:0≤T∧T≤1000000) (h:RxH s):RxH s':=by
  induction hr with
  | done _=>exact ⟨h.D5,hT,h.retry,h.hold,h.st,h.ch,h.fit,h.z,h.zh,h.k⟩
  | Jj hF _ ih=>exact ih (h.Jj _ ⟨hF.2.1,Int.le_trans hF.2.2.1 hT.2⟩)

theorem Acu (w0:World) (ad:Option Addr) (c:Nat) (xs:List Int) (hC:AU w0 ad (u8s xs)) (hB:Bys xs) (hle:xs.length≤c) (hn:xs.length≤100000) :
    Calls Tryz.prog 71 #[.slice ad xs.length c] w0 fun e w'=>∃ (ok:Bool) (n:Nat) (C S:Int) (d:ByteArray),e = .returned (.tuple #[.int .i64 n, .agg (AG C S d).toArray])∧Frm (fun _=>False) w0 w' ∧
      (ok=false→C≠0∧(BX xs.length (fOf xs)).2=(C,S,d))∧(ok=true→C=0∧(BX xs.length (fOf xs)).2.1=0∧n=szL xs∧19≤n∧n≤4096):=by
  refine (MM w0 ad xs.length c (fOf xs) (Ir hB) (rdVal hC (St.start (fun _=>False) w0)) Er hle).mono fun e w' h=>?_
  obtain ⟨rfl,hF⟩:=h
  rcases FU xs.length (fOf xs) with ⟨C,S,d,e,hC⟩|⟨e,h1,h2,h3,h4,_⟩
  · exact ⟨false,0,C,S,d,by rw [e];rfl,hF,fun _=>⟨hC,by rw [e]⟩,fun e=>by cases e⟩
  · obtain ⟨n,hn⟩:=Int.eq_ofNat_of_zero_le (show 0≤CC (fOf xs) by omega)
    have es:szL xs=n:=by unfold szL;rw [e];dsimp only;rw [hn,Int.toNat_natCast]
    exact ⟨true,n,0,0,⟨#[]⟩,by rw [e,hn];rfl,hF,fun e=>F4,fun _=>⟨rfl,by rw [e],es.symm,by omega,by omega⟩⟩
theorem Xn (w0:World) (ad:Option Addr) (c:Nat) (xs:List Int) (hC:AU w0 ad (u8s xs)) (hB:Bys xs) (hle:xs.length≤c) (hn:xs.length≤90000) :
    Calls Tryz.prog 58 #[.slice ad xs.length c] w0 fun e w'=>∃ (ok:Bool) (C S:Int) (d:ByteArray) (m:MsL) (K:List Ent),e = .returned (.tuple #[.agg m.AH.toArray, .agg (AG C S d).toArray])∧GD K m∧St (fun _=>False) w0 w' K ∧
      (ok=false→C≠0∧FE xs = .inr (C,S,d))∧(ok=true→C=0∧FE xs = .inl m.d) :=
  (Qd w0 ad c xs hC hB hle hn).mono fun e w' h=>by
    obtain ⟨C,S,d,m,K,he,hM,hS,hI⟩:=h
    unfold LQ at hI
    cases hp:FE xs with
    | inr x =>
      rw [hp] at hI
      obtain ⟨rfl,_⟩:=hI
      exact ⟨false,C,S,d,m,K,he,hM,hS,fun _=>⟨Nz hp,rfl⟩,fun e=>by cases e⟩
    | inl dd =>
      rw [hp] at hI
      obtain ⟨h1,h2,h3,h4⟩:=hI
      exact ⟨true,C,S,d,m,K,he,hM,hS,(fun e=>by cases e),fun _=>⟨h1,by rw [h4]⟩⟩
section Gq
attribute [local irreducible] WL WC WE WQ WP WH WR WM WRH

theorem Z5 (w:World) (b:Bool) (ad:Option Addr) (k c:Nat):Calls Tryz.prog 41 #[.bool b, .slice ad k c] w fun e w'=>e = .returned (if b then .slice ad k c else .slice none 0 0)∧Frm (fun _=>False) w w':=by
  refine enter Tryz.func41 rfl Tryz.ntmps41 rfl (St.start (fun _=>False) w) ?_
  cases b
  · skip
    refine J20 ?_
    exact A9
  · skip
    refine J20 ?_
    exact A9
theorem Abm (n:Nat) (f:Option (Int×Int×ByteArray)) (a:List EfD) (y:Se×List EfD):G1 n f (y.1,a++y.2)=((G1 n f y).1,a++(G1 n f y).2):=by
  unfold G1
  dsimp only
  split
  · rfl
  · split
    · rfl
    · rw [List.append_assoc]
def Jl (n:Nat) (t:Se) (xs:List Int):Se×List EfD:=G1 n (BL [] xs).2.1 (BK n t (BL [] xs).1)
theorem Pc (n:Nat) (t:Se):BK n t []=(t,[]):=rfl
theorem Sa {n:Nat}{t:Se}(h:(t.c n).st=0) (ms:List MsD):BK n t ms=(t,[]):=by
  cases ms with
  | nil=>rfl
  | cons m ms=>exact if_pos h
theorem XF {n:Nat}{t:Se}(h:(t.c n).st=0) (xs:List Int):Jl n t xs=(t,[]):=by
  unfold Jl
  rw [Sa h]
  exact if_pos h
theorem Qq {n:Nat}{t:Se}{xs:List Int}(h:(BL [] xs).1=[]∧(BL [] xs).2.1=none):Jl n t xs=(t,[]):=by
  unfold Jl
  rw [h.1,h.2,Pc]
  unfold G1
  split <;> rfl
theorem Ts {n:Nat}{t:Se}{xs:List Int}(h0:(t.c n).st≠0){C S:Int}{d:ByteArray}(h:(BL [] xs).1=[]∧(BL [] xs).2.1=some (C,S,d)):Jl n t xs=(t.gone n,DW t n C S d):=by
  unfold Jl
  rw [h.1,h.2,Pc]
  exact (if_neg h0)
theorem AcM {n:Nat}{t:Se}{xs zs:List Int}{m:MsD}(h0:(t.c n).st≠0) (h:BL [] xs=BL ([]++[m]) zs):Jl n t xs=((Jl n (CI t n m).1 zs).1,(CI t n m).2++(Jl n (CI t n m).1 zs).2)∧(BL [] xs).2.2=(BL [] zs).2.2:=by
  have e:=Ns _ ([]++[m]) zs (Nat.le_refl _)
  rw [e] at h
  have h1:(BL [] xs).1=m::(BL [] zs).1:=by rw [h];rfl
  have h2:(BL [] xs).2=(BL [] zs).2:=by rw [h]
  refine ⟨?_,congrArg Prod.snd h2⟩
  unfold Jl
  rw [h1,h2,show BK n t (m::(BL [] zs).1)=((BK n (CI t n m).1 (BL [] zs).1).1,(CI t n m).2++(BK n (CI t n m).1 (BL [] zs).1).2) from if_neg h0]
  exact Abm n _ _ _
structure FdX where
  ys:List Int
  aa:Option Addr
  c:Nat
  t:Se
  ad:Option Addr
  mc:Nat
  pre:List EfD
  E:List Ent
def FedP (w0 w':World) (n:Nat) (X:Se×List EfD) (ad:Option Addr) (es:List RE) (E0:List Ent) (rest:List Int) (e:Ending):Prop :=
  ∃ ad' c' E ra rc r,e = .returned (.tuple #[.agg (rfC X.1 (.slice ad' (es++X.2.map GJ).length c')).toArray, .slice ra r.length rc])∧Trf ad es ad' (es++X.2.map GJ) E∧St (fun _=>False) w0 w' E∧((X.1.c n).st≠0→View E0 ra rc r∧r=rest)
theorem Wb {xs:List Int}(hB:Bys xs){C S:Int}{d:ByteArray}{ms:List MsD}{r:List Int}(h:BL [] xs=(ms,some (C,S,d),r)) (t:Se) (n:Nat):Rel (DW t n C S d) (FP t n C S):=by
  have hf:=(IT _ [] xs (Nat.le_refl _) hB (fun m hm=>by cases hm)).2.1 (C,S,d) (by rw [h])
  obtain ⟨h1,h2,h3⟩:=hf
  dsimp only at h1 h2 h3
  exact .end t n Er Er h3
theorem Mu (t:Se){n:Nat}(hn:n<2){m:MsD}(hm:m.hold=0∨3≤m.hold):(CI t n m).1.hold=t.hold:=by
  have K:Gz (fun x:Se=>x.hold=t.hold):=⟨fun s b now D h=>h,fun s k _ h=>(DL s k _).2.1.trans h,fun s k _ h=>(DL s k _).2.1.trans h,fun s k _ _ _ _ h=>(DL s k _).2.1.trans h,fun s k _ _ h=>(DL s k _).2.1.trans h⟩
  exact K.CI rfl n hn m hm
set_option maxHeartbeats 4000000 in
theorem fed_c (w0:World) (s:Se) (n:Nat) (hn:n<2) (sad:Option Addr) (smc:Nat) (es:List RE) (a:Option Addr) (sc:Nat) (xs:List Int) (E0:List Ent) (hO:AU w0 sad (GY es)) (hX:RxH s) (hh:s.hold=0∨3≤s.hold) (hV:View E0 a sc xs) (hE:∀ e∈E0,e.holds w0) (hn2:xs.length≤9000) (hl:es.length≤40000) :
    Calls Tryz.prog 37 #[.agg (rfC s (.slice sad es.length smc)).toArray, .int .i64 n, .slice a xs.length sc] w0 fun e w'=>FedP w0 w' n (Jl n s xs) sad es E0 (BL [] xs).2.2 e:=by
  have hcell:∀ {aa:Option Addr}{c:Nat}{ys:List Int},View E0 aa c ys→AU w0 aa (u8s ys):=fun hv h0=>by
    obtain ⟨b,o,rfl⟩:=hv.some (by rw [GO] at h0;exact h0)
    exact ⟨b,o,rfl,(hv.win hE).at_⟩
  refine enter Tryz.func37 rfl Tryz.ntmps37 rfl (St.start (fun _=>False) w0) ?_
  refine J2 ?_
  refine WL.box rfl rfl rfl (.none rfl) rfl rfl ?_
  intro g3 hg3
  refine WL.alloc rfl EC (.none rfl) rfl rfl ?_
  intro g6 hg6
  refine J5 ?_
  refine WC.loop (fun y:FdX=>[(7, .slice none 0 0),(6, .pointer (some ⟨g6,0,none⟩)),(3, .pointer (some ⟨g3,0,none⟩)),(2, .slice y.aa y.ys.length y.c),(1, .int .i64 n)]) (fun y=>y.E++(.row g6 [.int .i64 0, .int .i64 0, .int .i64 0, .int .i64 0, .int .u32 0, .int .i64 0, .int .i64 0, .int .i64 0, .int .i64 0, .int .u32 0, .int .u32 0, .int .i64 0, .int .i64 0, .int .i64 0, .int .i64 0, .int .i64 0, .int .i64 0, .int .i64 0, .slice none 0 0]::[.row g3 (rfC y.t (.slice y.ad (es++y.pre.map GJ).length y.mc))])) (fun y=>Jl n s xs=((Jl n y.t y.ys).1,y.pre++(Jl n y.t y.ys).2)∧(BL [] xs).2.2=(BL [] y.ys).2.2∧View E0 y.aa y.c y.ys∧(RxH y.t∧(y.t.hold=0∨3≤y.t.hold))∧y.pre.length+4*y.ys.length≤4*xs.length∧Trf sad es y.ad (es++y.pre.map GJ) y.E) (fun y=>y.ys.length) ⟨xs,a,sc,s,sad,smc,[],[]⟩ ⟨by rw [List.nil_append],rfl,hV,⟨hX,hh⟩,by show 0+4*xs.length≤_;omega,by rw [List.map_nil,List.append_nil];exact .refl _ _⟩ Km (by dsimp only;rw [List.map_nil,List.append_nil];exact .refl _) ?_
  rintro ⟨ys,aa,c,t,ad,mc,pre,E⟩ ⟨hfd,hrs,hVy,⟨hXt,hht⟩,hpl,hT⟩
  dsimp only at hfd hrs hVy hXt hht hpl hT
  dsimp only
  have hCy:=hcell hVy
  have hBy:=hVy.bys
  have hyc:=hVy.le
  have hel:(es++pre.map GJ).length=es.length+pre.length:=by rw [List.length_append,List.length_map]
  refine J5 ?_
  refine JT (fun h13=>?_) (fun h13=>?_)
  refine J3 ?_
  refine zS ((BR (lo:=n) rfl rfl rfl Tryz.underlying78 AP rfl hn)) rfl<|zS (AA rfl rfl AK (cellAt (v:=.int .i64 (t.c n).st) (G0 t hn _))) rfl<|?_
  refine JT (fun h19=>?_) (fun h19=>?_)
  refine J10 ?_
  refine zK Sy rfl ?_
  intro w1 hS
  refine (Acu w1 aa c ys (hCy.frm (hS.rng fun _ h=>h)) hBy hyc Er).mono ?_
  rintro e w' ⟨ok,k,C,S,d,rfl,hF,hbad,hok⟩
  refine ⟨_,_,rfl,hS.ext hF,?_⟩
  refine J3 ?_
  refine WL.alloc rfl FI (.none rfl) rfl rfl ?_
  intro g9 hg9
  refine J2 ?_
  refine WL.as (L':=.row g9 (AG C S d)::(E++(.row g6 [.int .i64 0, .int .i64 0, .int .i64 0, .int .i64 0, .int .u32 0, .int .i64 0, .int .i64 0, .int .i64 0, .int .i64 0, .int .u32 0, .int .u32 0, .int .i64 0, .int .i64 0, .int .i64 0, .int .i64 0, .int .i64 0, .int .i64 0, .int .i64 0, .slice none 0 0]::[.row g3 (rfC t (.slice ad (es++pre.map GJ).length mc))]))) rfl ?_
  cases ok
  refine J7 ?_
  refine zV ((AZ rfl rfl rfl).f ((hbad rfl).1)) rfl ?_
  refine J14 ?_
  refine WL.alloc rfl H7 (.none rfl) rfl rfl ?_
  intro g10 hg10
  refine J8 ?_
  refine zV ((AZ rfl rfl rfl).f ((hbad rfl).1)) rfl ?_
  refine J10 ?_
  refine zV ((BY rfl rfl rfl).t ((hbad rfl).1)) rfl ?_
  refine J11 ?_
  refine zK ck_72 rfl ?_
  intro w1 hS
  have e1:=Ih (acc:=[]) (xs:=ys) Er (hbad rfl).2 (hbad rfl).1
  have e0:Jl n t ys=(t.gone n,DW t n C S d):=Ts h19 Gn
  have hR:Rel (DW t n C S d) (FP t n C S):=(Wb hBy e1 t n)
  have hrl:=hR.2
  refine (R1 w1 t n hn C S ad mc (es++pre.map GJ) (hT.at hO hS (.cons _ (.cons _ (List.sublist_append_left _ _)))) Er hXt.D5 hXt.r).mono ?_
  rintro e w' ⟨ad5,c5,E5,rfl,hT5,hS'⟩
  refine ⟨_,_,rfl,hS.join hS',?_⟩
  refine J10 ?_
  refine eT2 ?_
  rw [e0] at hfd
  have ees:es++(Jl n s xs).2.map GJ=es++pre.map GJ++FP t n C S:=by rw [hfd,List.map_append,hrl,List.append_assoc]
  refine fun w' h=>⟨ad5,c5,E5++E,none,0,[],?_,?_,h.sub (List.Sublist.append_left (.cons _ (.cons _ (List.sublist_append_left _ _))) _),?_⟩
  · rw [ees,hfd];rfl
  · rw [ees];exact hT.trans hT5
  · rw [hfd];exact fun h1=>absurd (by show ((t.gone n).c n).st=0;rw [HX t n n hn hn,if_pos rfl];rfl) h1
  refine J5 ?_
  obtain ⟨eC,hs0,en,h19',h4096⟩:=hok rfl
  refine J2 ?_
  refine zV ((AZ rfl rfl rfl).t (eC)) rfl ?_
  refine J4 ?_
  refine JT (fun h33=>?_) (fun h33=>?_)
  refine J6 ?_
  refine WE.Hi rfl ?_
  refine J12 ?_
  refine eT2 ?_
  have e1:=HB (acc:=[]) (xs:=ys) Er hs0 Er
  have e0:Jl n t ys=(t,[]):=Qq Gn
  rw [e0,List.append_nil] at hfd
  refine fun w' h=>⟨ad,mc,E,aa,c,ys,?_,?_,h.sub (.cons _ (List.sublist_append_left _ _)),fun _=>⟨hVy,?_⟩⟩
  · rw [hfd]
  · rw [hfd];exact hT
  · rw [hrs,e1]
  refine J9 ?_
  refine WL.alloc rfl H7 (.none rfl) rfl rfl ?_
  intro g10 hg10
  refine J8 ?_
  refine zV ((AZ rfl rfl rfl).t (eC)) rfl ?_
  refine J6 ?_
  refine zV ((CT (hi:=k) rfl rfl rfl Tryz.underlying25 AO rfl Er)) rfl ?_
  refine zK ck_58 rfl ?_
  intro w1 hS
  have htl:(ys.take k).length=k:=Ey
  have hCt:AU w1 aa (u8s (ys.take k)):=(fun h0=>by
    obtain ⟨b,o,e,hr⟩:=hCy Fh
    refine ⟨b,o,e,Q9 (ys:=u8s (ys.drop k)) ?_⟩
    rw [← CH,List.take_append_drop]
    exact hS.rng (fun _ h=>h) _ _ _ hr)
  have hc:=Xn w1 aa c (ys.take k) hCt (fun x hx=>hBy x (List.mem_of_mem_take hx)) Er Er
  rw [htl] at hc
  refine hc.mono ?_
  rintro e w' ⟨ok2,C2,S2,d2,m,Kd,rfl,hM,hS',hbad2,hok2⟩
  refine ⟨_,_,rfl,hS.join hS',?_⟩
  refine J5 ?_
  refine WL.as (L':=Kd++(.row g10 m.AH::.row g9 (AG C2 S2 d2)::(E++(.row g6 [.int .i64 0, .int .i64 0, .int .i64 0, .int .i64 0, .int .u32 0, .int .i64 0, .int .i64 0, .int .i64 0, .int .i64 0, .int .u32 0, .int .u32 0, .int .i64 0, .int .i64 0, .int .i64 0, .int .i64 0, .int .i64 0, .int .i64 0, .int .i64 0, .slice none 0 0]::[.row g3 (rfC t (.slice ad (es++pre.map GJ).length mc))])))) rfl ?_
  cases ok2
  refine J7 ?_
  refine zV ((BY rfl rfl rfl).t ((hbad2 rfl).1)) rfl ?_
  refine J11 ?_
  refine zK ck_72 rfl ?_
  intro w1 hS
  have e1:=Ii (acc:=[]) (xs:=ys) Er hs0 Er (by rw [← en];exact (hbad2 rfl).2)
  have e0:Jl n t ys=(t.gone n,DW t n C2 S2 d2):=Ts h19 Gn
  have hR:Rel (DW t n C2 S2 d2) (FP t n C2 S2):=(Wb hBy e1 t n)
  have hrl:=hR.2
  refine (R1 w1 t n hn C2 S2 ad mc (es++pre.map GJ) (hT.at hO hS (List.sublist_append_of_sublist_right (.cons _ (.cons _ (List.sublist_append_left _ _))))) Er hXt.D5 hXt.r).mono ?_
  rintro e w' ⟨ad5,c5,E5,rfl,hT5,hS'⟩
  refine ⟨_,_,rfl,hS.join hS',?_⟩
  refine J10 ?_
  refine eT2 ?_
  rw [e0] at hfd
  have ees:es++(Jl n s xs).2.map GJ=es++pre.map GJ++FP t n C2 S2:=by rw [hfd,List.map_append,hrl,List.append_assoc]
  refine fun w' h=>⟨ad5,c5,E5++E,none,0,[],?_,?_,h.sub (List.Sublist.append_left (List.sublist_append_of_sublist_right (.cons _ (.cons _ (List.sublist_append_left _ _)))) _),?_⟩
  · rw [ees,hfd];rfl
  · rw [ees];exact hT.trans hT5
  · rw [hfd];exact fun h1=>absurd (by show ((t.gone n).c n).st=0;rw [HX t n n hn hn,if_pos rfl];rfl) h1
  refine J5 ?_
  obtain ⟨eC2,hd2⟩:=hok2 rfl
  have e1:=IE (acc:=[]) (xs:=ys) Er hs0 Er (by rw [← en];exact hd2)
  rw [← en] at e1
  have hfit:=Sj (fun x hx=>hBy x (List.mem_of_mem_take hx)) hd2
  have e2:=AcM (n:=n) (t:=t) h19 e1
  have hst3:3≤(t.c n).st∧(t.c n).st≤5:=by have:=hXt.st n hn;omega
  have hrel:=Rel.hear t hn m.d hst3
  have hhd:=hfit.hold
  have hlen:=LH t n m.d
  refine J2 ?_
  refine zV ((BY rfl rfl rfl).f ((by rw [eC2];decide))) rfl ?_
  refine J18 ?_
  refine zK ck_73 rfl ?_
  intro w1 hS
  refine (T7 w1 t n hn m.kind m.asn m.hold m.id ad mc (es++pre.map GJ) (hT.at hO hS (List.sublist_append_of_sublist_right (.cons _ (.cons _ (List.sublist_append_left _ _))))) Er hXt h19 (show 0≤m.d.hold∧m.d.hold≤65535 by omega)).mono ?_
  rintro e w' ⟨ad5,c5,E5,rfl,hT5,hS'⟩
  refine ⟨_,_,rfl,hS.join hS',?_⟩
  refine J1 ?_
  have ees:es++pre.map GJ++(Ie t n m.kind m.asn m.hold m.id).2=es++(pre++(CI t n m.d).2).map GJ:=by rw [List.map_append, ← List.append_assoc];congr 1;exact hrel.2.2
  rw [ees,show (Ie t n m.kind m.asn m.hold m.id).1=(CI t n m.d).1 from hrel.1]
  rw [ees] at hT5
  refine J5 ?_
  obtain ⟨b,o,ea⟩:=hVy.some Er
  subst ea
  refine zV ((BW (lo:=k) rfl rfl rfl Tryz.underlying25 AO rfl Er)) rfl ?_
  refine J3 ?_
  rw [e2.1] at hfd
  exact WE.to (L':=(E5++E)++(.row g6 [.int .i64 0, .int .i64 0, .int .i64 0, .int .i64 0, .int .u32 0, .int .i64 0, .int .i64 0, .int .i64 0, .int .i64 0, .int .u32 0, .int .u32 0, .int .i64 0, .int .i64 0, .int .i64 0, .int .i64 0, .int .i64 0, .int .i64 0, .int .i64 0, .slice none 0 0]::[.row g3 (rfC (CI t n m.d).1 (.slice ad5 (es++(pre++(CI t n m.d).2).map GJ).length c5))])) (fun w hS=>by
    rw [List.append_assoc]
    exact hS.sub (List.Sublist.append_left (List.sublist_append_of_sublist_right (.cons _ (.cons _ (.refl _)))) _)) (eW ⟨ys.drop k,some ⟨b,AV o k c 1,none⟩,c-k,(CI t n m.d).1,ad5,c5,pre++(CI t n m.d).2,E5++E⟩ Fs ⟨by dsimp only;rw [hfd,List.append_assoc],by dsimp only;rw [hrs,e2.2],hVy.drop k,⟨hXt.CI n hn m.d hfit Er hht,by dsimp only;rw [Mu t hn (hfit.hold.imp id And.left)];exact hht⟩,by dsimp only;rw [List.length_append,List.length_drop];omega,hT.trans hT5⟩ (.cons rfl (.cons rfl (.cons rfl (.eq rfl F6 (.cons rfl .nil))))))
  refine J18 ?_
  refine eT2 ?_
  have h0:(t.c n).st=0:=Decidable.of_not_not h19
  rw [XF h0,List.append_nil] at hfd
  refine fun w' h=>⟨ad,mc,E,aa,c,ys,?_,?_,h.sub (List.sublist_append_left _ _),?_⟩
  · rw [hfd]
  · rw [hfd];exact hT
  · rw [hfd];exact fun h1=>absurd h0 h1
  refine J24 ?_
  refine eT2 ?_
  have e0:Jl n t ys=(t,[]):=Qq (by rw [Gy (by omega)];exact ⟨rfl,rfl⟩)
  rw [e0,List.append_nil] at hfd
  refine fun w' h=>⟨ad,mc,E,aa,c,ys,?_,?_,h.sub (List.sublist_append_left _ _),fun _=>⟨hVy,?_⟩⟩
  · rw [hfd]
  · rw [hfd];exact hT
  · rw [hrs,Gy Er]
end Gq
end Go.Proofs.YtcmpamnhegndnaaGreatDoor
