/- Texts joined: engine, contracts and laws, in the order in which they build. -/
import Derived.Test.YtcmpamnhegndnaaGreatDoorRows
import Derived.Lib.LaidTab
import Derived.Test.YtcmpamnhegndnaaGreatDoorBhPeerRuns
namespace Go.Proofs.YtcmpamnhegndnaaGreatDoor
open Go.RowKit
section Gq
attribute [local irreducible] WL WC WE WQ WP WH WR WM WRH

theorem Vec.cells {ad:Option Addr}{k c:Nat}{xs:List Value}{E:List Ent}(h:Vec 1 ad k c xs E) (hk:0<k):∃ g r,ad=some ⟨g,0,none⟩∧E=[.row g (xs++r)]∧k+r.length=c:=by
  rcases h with ⟨_,h0,_⟩|⟨g,cs,rfl,rfl,h1,h2,h3⟩
  · omega
  · refine ⟨g,cs.drop k,rfl,?_,by rw [List.length_drop];omega⟩
    have:cs=xs++cs.drop k:=by rw [← h1,Nat.mul_one,List.take_append_drop]
    rw [← this]
theorem AaM {hs:List En}{e:En}{k:Nat}(h:k<hs.length):el (hs++[e]) k=el hs k:=by
  simp [el,List.getD,List.getElem?_append_left h]
theorem Vx {hs:List En}{n k:Nat}(h:k<n):el (hs.take n) k=el hs k:=by
  simp [el,List.getD,h]
theorem LG {hs:List En}{n:Nat}(h:hs.length=n+1):hs=hs.take n++[el hs n]:=by
  have e:=List.drop_eq_getElem_cons (show n<hs.length by omega)
  have h1:hs[n]=el hs n:=by simp [el,show n<hs.length by omega]
  rw [← h1,show [hs[n]]=hs.drop n by rw [e,List.drop_eq_nil_iff.2 Er],List.take_append_drop]
theorem GI.take {n:Nat}{hs:List En}(h:GI n hs):GI n (hs.take n):=fun k h0 h1=>by
  rw [Vx h1,Vx Er];exact h k h0 h1
theorem P1 (hs:List En) (e:En) (L:List Ent):FQ 0 (hs++[e])++L=FQ 0 hs++(enR e hs.length::L):=by
  rw [HE];simp [FQ]
theorem X9 (hs:List En) (e:En) (r:List Value):CU (hs++[e])++r=CU hs++(ptr e::r):=by simp [CU]
def Kj (gC:Nat) (now:Int) (ad:Option Addr) (c:Nat) (rm:Option Nat) (hs:List En) (E R:List Ent):List Ent :=
  E++(FQ 0 hs++(.row gC [.int .i64 now, .slice ad hs.length c, .map rm]::R))
abbrev enT:Nat:=154
section
variable {p:Nat→Prop}{w0 w:World}{gC gL:Nat}{now:Int}{rm:Option Nat}{c:Nat}{hs:List En}{r:List Value}{R E:List Ent}{ad:Option Addr}
set_option maxHeartbeats 1000000 in
theorem PH {x:En}(hS:St p w0 w (hsL gC gL now rm c (hs++[x]) r R)) (hl:hs.length≤300) (hc:hs.length≤c) :
    Calls Tryz.prog 186 #[.pointer (some ⟨gC,1,none⟩)] w fun e w'=>e = .returned (.iface enT (ptr x))∧St p w0 w' (hsL gC gL now rm c hs (.pointer none::r) (enR x hs.length::R)):=by
  have hP:(CU hs).length=hs.length:=by simp [CU]
  unfold hsL at hS ⊢
  rw [P1,X9,List.length_append,List.length_singleton] at hS
  refine enter Tryz.func186 rfl Tryz.ntmps186 rfl hS ?_
  refine J21 ?_
  refine zV (AB (lo:=hs.length) rfl rfl rfl Tryz.underlying151 EE Er Er) rfl ?_
  refine zV (AA rfl rfl FV (cellAt (Po _ _ _ Er))) rfl ?_
  refine J9 ?_
  refine zV (AB (lo:=hs.length) rfl rfl rfl Tryz.underlying151 EE Er Er) rfl ?_
  refine WL.DA rfl rfl rfl rfl FV (by simp [hP]) (.none rfl) rfl ?_
  refine WL.as (L':=.row gL (CU hs++(.pointer none::r))::(FQ 0 hs++(enR x hs.length::(.row gC [.int .i64 now, .slice (some ⟨gL,0,none⟩) (hs.length+1) c, .map rm]::R)))) (by rw [Nat.zero_add,Nat.mul_one,List.set_append_right _ _ (by omega),hP,Nat.sub_self,List.set_cons_zero]) ?_
  refine J9 ?_
  refine zV (CT (hi:=hs.length) rfl rfl rfl Tryz.underlying151 EE Er Er) rfl ?_
  refine J7 ?_
  refine zV (FT rfl rfl Tryz.underlying154 rfl) rfl ?_
  refine J4 ?_
  refine eT1 ?_
  refine fun w' h=>⟨rfl,h.perm ?_⟩
  refine List.Perm.cons _ (List.Perm.append_left _ ?_)
  exact List.Perm.swap _ _ _
set_option maxHeartbeats 1000000 in
theorem Adg {e:En}{z:Value}(hS:St p w0 w (Kj gC now ad c rm hs E (.row e.g [.int .i64 e.name, .int .i64 e.time,z]::R))) (hV:Vec 1 ad hs.length c (CU hs) E) (hl:hs.length≤300) :
    Calls Tryz.prog 187 #[.pointer (some ⟨gC,1,none⟩), .iface enT (ptr e)] w fun e' w'=>∃ gL r c',e' = .returned (.tuple #[])∧hs.length+1+r.length=c'∧St p w0 w' (hsL gC gL now rm c' (hs++[e]) r R):=by
  unfold Kj at hS
  refine enter Tryz.func187 rfl Tryz.ntmps187 rfl hS ?_
  refine J3 ?_
  refine zV (MY rfl rfl Tryz.underlying154 rfl) rfl ?_
  refine J13 ?_
  refine WL.as (L':=E++(FQ 0 hs++(.row gC [.int .i64 now, .slice ad hs.length c, .map rm]::(enR e hs.length::R)))) rfl ?_
  refine J8 ?_
  refine zB Tryz.underlying151 EE SU rfl rfl ?_
  intro g19 hg19
  refine WL.to (L':=E++(.row g19 [ptr e]::(FQ 0 hs++(.row gC [.int .i64 now, .slice ad hs.length c, .map rm]::(enR e hs.length::R))))) (fun w hS=>hS.front [_]) ?_
  refine WL.AN rfl rfl rfl Tryz.underlying151 Tryz.underlying151 EE by_154 SU rfl rfl hV (new:=[ptr e]) (fun _=>⟨g19,0,rfl,fun w hS=>BZ (g:=g19) w hS⟩) rfl rfl Er (.none rfl) rfl rfl ?_
  intro ad20 c20 E20 hV20 hr20
  obtain ⟨gL,r,rfl,rfl,hcr⟩:=hV20.cells Er
  refine WL.as (L':=.row gL (CU hs++[ptr e]++r)::.row g19 [ptr e]::(FQ 0 hs++(.row gC [.int .i64 now, .slice ad hs.length c, .map rm]::(enR e hs.length::R)))) rfl ?_
  refine J3 ?_
  refine WE.KX (P:=Tryz.prog) (.inr rfl) Tryz.results187  ?_
  refine fun w' h=>⟨gL,r,c20,rfl,hcr,?_⟩
  unfold hsL
  rw [P1,List.length_append,List.length_singleton,show CU (hs++[e])=CU hs++[ptr e] by simp [CU]]
  refine (h.sub (.cons_cons _ (.cons _ (.refl _)))).perm ?_
  refine List.Perm.cons _ (List.Perm.append_left _ ?_)
  exact List.Perm.swap _ _ _
theorem Adc (n c':Nat) (x:En) (hS:St p w0 w (.row gL (ptr x::r)::(enR x 0::R))) (hn:0<n) :
    Calls Tryz.prog 185 #[.slice (some ⟨gL,0,none⟩) n c', .int .i64 0, .int .i64 0] w fun e w'=>e = .returned (.tuple #[])∧St p w0 w' (.row gL (ptr x::r)::(enR x 0::R)):=by
  refine enter Tryz.func185 rfl Tryz.ntmps185 rfl hS ?_
  refine J1 ?_
  refine WC.BB mixed<|rF 6 [0,1,2,3,4,5,6,8,9,10]<|?_
  refine J6 ?_
  refine pV (AB (lo:=0) rfl rfl rfl Tryz.underlying151 EE Er Er) rfl ?_
  refine J2 ?_
  refine pV (AB (lo:=0) rfl rfl rfl Tryz.underlying151 EE Er Er) rfl ?_
  refine J1 ?_
  refine rA 3 [7,11,12] rfl ?_
  refine J2 ?_
  refine qV (AB (lo:=0) rfl rfl rfl Tryz.underlying151 EE Er Er) rfl ?_
  refine J1 ?_
  refine rO 2 [13] ?_
  refine WL.DA rfl rfl rfl rfl FV Fe (.none rfl) rfl ?_
  refine J1 ?_
  refine rF 1 [14] ?_
  refine pV (AB (lo:=0) rfl rfl rfl Tryz.underlying151 EE Er Er) rfl ?_
  refine J1 ?_
  refine rO 0 [15] ?_
  refine WL.DA rfl rfl rfl rfl FV Fe (.none rfl) rfl ?_
  refine J7 ?_
  refine zV (AB (lo:=0) rfl rfl rfl Tryz.underlying151 EE Er Er) rfl ?_
  refine J10 ?_
  refine zV (AB (lo:=0) rfl rfl rfl Tryz.underlying151 EE Er Er) rfl ?_
  refine J6 ?_
  refine WE.KX (P:=Tryz.prog) (.inr rfl) Tryz.results185  ?_
  exact fun w' h=>⟨rfl,h⟩
theorem Oh.push {hs:List En}{e:En}(h:GI hs.length hs):Oh (hs.length+1) (hs++[e]) hs.length:=by
  constructor
  · intro k h0 h1 h2
    rw [AaM Er,AaM Er]
    exact h k h0 Er
  · intro k h0 h1 h2 h3
    omega
set_option maxHeartbeats 1000000 in
theorem Acy {e:En}{z:Value}(hS:St p w0 w (Kj gC now ad c rm hs E (.row e.g [.int .i64 e.name, .int .i64 e.time,z]::R))) (hV:Vec 1 ad hs.length c (CU hs) E) (hl:hs.length≤290) (hH:GI hs.length hs) :
    Calls Tryz.prog 108 #[lnI gC, .iface enT (ptr e)] w fun e' w'=>∃ gL r c' hs',e' = .returned (.tuple #[])∧hs'.length=hs.length+1∧hs'.Perm (hs++[e])∧GI hs'.length hs'∧hs'.length+r.length=c'∧St p w0 w' (hsL gC gL now rm c' hs' r R):=by
  refine enter Tryz.func108 rfl Tryz.ntmps108 rfl hS ?_
  refine J4 ?_
  refine WL.invoke rfl rfl rfl (m_Push) ck_187 (.none rfl) rfl rfl ?_
  intro w1 hS
  refine (Adg hS hV Er).mono ?_
  rintro e' w' ⟨gL,r,c',rfl,hcr,hS'⟩
  refine ⟨_,_,rfl,hS',?_⟩
  have hlen:(hs++[e]).length=hs.length+1:=by simp
  refine J5 ?_
  refine WL.invoke rfl rfl rfl (SO (g:=gC) rfl) Pb (.none rfl) rfl rfl ?_
  intro w hS
  refine Calls.then (SX w _ _ _) hS ?_
  refine J1 ?_
  refine zK UD rfl ?_
  intro w1 hS
  rw [show (((hs++[e]).length:Nat):Int)-1=((hs.length:Nat):Int) by omega]
  refine (up_c hS (m:=hs.length+1) Er Er Er (Oh.push hH)).mono ?_
  rintro e' w' ⟨hs',rfl,k1,k2,k3,k4,hS'⟩
  refine ⟨_,_,rfl,hS',?_⟩
  refine J1 ?_
  refine WE.KX (P:=Tryz.prog) (.inr rfl) Tryz.results108  ?_
  exact fun w' h=>⟨gL,r,c',hs',rfl,by omega,k2,by rw [k1,hlen];exact k4,by omega,h⟩
theorem Og.of_heap {n i:Nat}{hs:List En}(h:GI n hs):Og n hs i:=by
  constructor
  · intro k h0 h1 h2 h3;exact h k h0 h1
  · intro k h0 h1 h2 h3
    have a:=h k h0 h1
    have b:=h i h3 Er
    rw [h2] at a
    exact Ki a b
theorem Og.set {n i:Nat}{hs hs':List En}(h:GI n hs) (he:∀ k,k≠i→el hs' k=el hs k):Og n hs' i:=by
  have h':=Og.of_heap (i:=i) h
  constructor
  · intro k h0 h1 h2 h3
    rw [he k h3,he _ h2];exact h k h0 h1
  · intro k h0 h1 h2 h3
    rw [he k Er,he _ Er]
    exact h'.kid k h0 h1 h2 h3
theorem GI.swap {n i:Nat}{hs:List En}(h:GI (n+1) hs) (hl:hs.length=n+1) (hi:i<n):Og n (swp hs i n) i:=by
  have e:∀ k,k<n→k≠i→el (swp hs i n) k=el hs k:=fun k h1 h2=>by rw [I6 Er Er,if_neg Er,if_neg h2]
  have h':=Og.of_heap (i:=i) h
  constructor
  · intro k h0 h1 h2 h3
    rw [e k h1 h3,e _ Er h2];exact h k h0 Er
  · intro k h0 h1 h2 h3
    rw [e k h1 Er,e _ Er Er]
    exact h'.kid k h0 Er h2 h3
set_option maxHeartbeats 1000000 in
theorem HFix_c {i:Nat}(hS:St p w0 w (hsL gC gL now rm c hs r R)) (hi:i<hs.length) (hl:hs.length≤300) (hD:Og hs.length hs i) :
    Calls Tryz.prog 107 #[lnI gC, .int .i64 i] w fun e' w'=>∃ hs',e' = .returned (.tuple #[])∧hs'.length=hs.length∧hs'.Perm hs∧GI hs'.length hs'∧St p w0 w' (hsL gC gL now rm c hs' r R):=by
  refine enter Tryz.func107 rfl Tryz.ntmps107 rfl hS ?_
  refine J5 ?_
  refine WL.invoke rfl rfl rfl (SO (g:=gC) rfl) Pb (.none rfl) rfl rfl ?_
  intro w hS
  refine Calls.then (SX w _ _ _) hS ?_
  refine zK Ru rfl ?_
  intro w1 hS
  refine (Q3 hS (m:=hs.length) Er Er Er hD).mono ?_
  rintro e' w' ⟨h2,b,rfl,k1,k2,k3,k4,k5,hS'⟩
  refine ⟨_,_,rfl,hS',?_⟩
  cases b
  refine J7 ?_
  refine zK UD rfl ?_
  intro w1 hS
  obtain ⟨e2,hU⟩:=k5 rfl
  rw [e2] at hS
  refine (up_c hS (m:=hs.length) Er Er Er hU).mono ?_
  rintro e' w' ⟨h3,rfl,q1,q2,q3,q4,hS'⟩
  refine ⟨_,_,rfl,hS',?_⟩
  refine J1 ?_
  refine WE.KX (P:=Tryz.prog) (.inr rfl) Tryz.results107  ?_
  exact fun w' h=>⟨h3,rfl,q1,q2,by rw [q1];exact q4,h⟩
  refine J5 ?_
  refine WE.KX (P:=Tryz.prog) (.inr rfl) Tryz.results107  ?_
  exact fun w' h=>⟨h2,rfl,k1,k2,by rw [k1];exact k4 rfl,h⟩
set_option maxHeartbeats 1000000 in
theorem HPop_c {n:Nat}(hS:St p w0 w (hsL gC gL now rm c hs r R)) (hn:hs.length=n+1) (hl:hs.length≤300) (hc:hs.length≤c) (hH:GI hs.length hs) :
    Calls Tryz.prog 95 #[lnI gC] w fun e' w'=>∃ hs',e' = .returned (.iface enT (ptr (el hs 0)))∧hs'.length=n∧(hs'++[el hs 0]).Perm hs∧GI hs'.length hs'∧St p w0 w' (hsL gC gL now rm c hs' (.pointer none::r) (enR (el hs 0) n::R)):=by
  cases n with
  | zero =>
    obtain ⟨x,rfl⟩:∃ x,hs=[x]:=by
      match hs,hn with
      | [x],_=>exact ⟨x,rfl⟩
    have e0:el [x] 0=x:=rfl
    refine enter Tryz.func95 rfl Tryz.ntmps95 rfl hS ?_
    refine J8 ?_
    refine WL.invoke rfl rfl rfl (SO (g:=gC) rfl) Pb (.none rfl) rfl rfl ?_
    intro w hS
    refine Calls.then (SX w _ _ _) hS ?_
    refine J8 ?_
    refine WL.invoke rfl rfl rfl (Mh (g:=gC) rfl) Ma (.none rfl) rfl rfl ?_
    intro w hS
    refine Calls.thenS (Adc _ _ x hS Fe) ?_
    refine WL.as (L':=hsL gC gL now rm c [x] r R) rfl ?_
    refine J6 ?_
    refine zK Ru rfl ?_
    intro w1 hS
    refine (Q3 hS (i0:=0) (m:=0) Er Er Er ⟨fun k h0 h1=>absurd h1 Er,fun k h0 h1=>absurd h1 Er⟩).mono ?_
    rintro e' w' ⟨h2,b,rfl,k1,k2,k3,k4,k5,hS'⟩
    refine ⟨_,_,rfl,hS',?_⟩
    refine J5 ?_
    refine WL.invoke rfl rfl rfl (Sg) Pn (.none rfl) rfl rfl ?_
    intro w1 hS
    obtain ⟨y,rfl⟩:∃ y,h2=[y]:=(by
      match h2,k1 with
      | [y],_=>exact ⟨y,rfl⟩)
    have hy:y=x:=by simpa using k2
    rw [hy] at hS
    refine (PH (hs:=[]) (x:=x) hS Fe Fe).mono ?_
    rintro e' w' ⟨rfl,hS'⟩
    refine ⟨_,_,rfl,hS',?_⟩
    refine J4 ?_
    refine eT1 ?_
    exact fun w' h=>⟨[],rfl,rfl,by simp [e0],fun k h0 h1=>absurd h1 Fe,h⟩
  | succ n =>
    refine enter Tryz.func95 rfl Tryz.ntmps95 rfl hS ?_
    have hls:=KA hs 0 (n+1)
    refine J8 ?_
    refine WL.invoke rfl rfl rfl (SO (g:=gC) rfl) Pb (.none rfl) rfl rfl ?_
    intro w hS
    refine Calls.then (SX w _ _ _) hS ?_
    refine zV (EM rfl rfl rfl ((by rw [hn,show ((n+1+1:Nat):Int)-1=((n+1:Nat):Int) by omega];exact AF (by omega) (by omega):_=((n+1:Nat):Int)))) rfl ?_
    refine J7 ?_
    refine WL.invoke rfl rfl rfl (Mh (g:=gC) rfl) Ma (.none rfl) rfl rfl ?_
    intro w hS
    refine Calls.thenS (NG (i:=0) (j:=n+1) Er Er hS) ?_
    refine J6 ?_
    refine zK Ru rfl ?_
    intro w1 hS
    refine (Q3 hS (i0:=0) (m:=n+1) Er Er Er (GI.swap (by rw [← hn];exact hH) hn Er)).mono ?_
    rintro e' w' ⟨h2,b,rfl,k1,k2,k3,k4,k5,hS'⟩
    refine ⟨_,_,rfl,hS',?_⟩
    refine J5 ?_
    refine WL.invoke rfl rfl rfl (Sg) Pn (.none rfl) rfl rfl ?_
    intro w1 hS
    have hl2:h2.length=n+1+1:=Er
    have hx:el h2 (n+1)=el hs 0:=by rw [k3 _ (Nat.le_refl _),I6 Er Er,if_pos rfl]
    have ht:(h2.take (n+1)).length=n+1:=by rw [List.length_take];omega
    have hh:=LG hl2
    rw [hx] at hh
    have hB:GI (n+1) h2:=by
      cases b with
      | true=>exact k4 rfl
      | false =>
        obtain ⟨e2,hU⟩:=k5 rfl
        rw [e2];exact hU.fin (.inl rfl)
    rw [hh] at hS
    refine (PH hS Er Er).mono ?_
    rintro e' w' ⟨rfl,hS'⟩
    refine ⟨_,_,rfl,hS',?_⟩
    refine J4 ?_
    refine eT1 ?_
    refine fun w' h=>⟨h2.take (n+1),rfl,ht,?_,by rw [ht];exact hB.take,by rw [ht] at h;exact h⟩
    rw [← hh];exact k2.trans (Ld Er Er)
set_option maxHeartbeats 1000000 in
theorem Xs {n i:Nat}(hS:St p w0 w (hsL gC gL now rm c hs r R)) (hn:hs.length=n+1) (hi:i≤n) (hl:hs.length≤300) (hc:hs.length≤c) (hH:GI hs.length hs) :
    Calls Tryz.prog 81 #[lnI gC, .int .i64 i] w fun e' w'=>∃ hs',e' = .returned (.iface enT (ptr (el hs i)))∧hs'.length=n∧(hs'++[el hs i]).Perm hs∧GI hs'.length hs'∧St p w0 w' (hsL gC gL now rm c hs' (.pointer none::r) (enR (el hs i) n::R)):=by
  refine enter Tryz.func81 rfl Tryz.ntmps81 rfl hS ?_
  have hls:=KA hs i n
  have hH':GI (n+1) hs:=by rw [← hn];exact hH
  refine J8 ?_
  refine WL.invoke rfl rfl rfl (SO (g:=gC) rfl) Pb (.none rfl) rfl rfl ?_
  intro w hS
  refine Calls.then (SX w _ _ _) hS ?_
  refine zV (EM rfl rfl rfl ((by rw [hn,show ((n+1:Nat):Int)-1=(n:Int) by omega];exact AF (by omega) (by omega):_=(n:Int)))) rfl ?_
  refine J8 ?_
  refine JT (fun h11=>?_) (fun h11=>?_)
  ·
   refine J8 ?_
   refine WL.invoke rfl rfl rfl (Mh (g:=gC) rfl) Ma (.none rfl) rfl rfl ?_
   intro w hS
   refine Calls.thenS (NG (i:=i) (j:=n) Er Er hS) ?_
   refine J7 ?_
   refine zK Ru rfl ?_
   intro w1 hS
   refine (Q3 hS (i0:=i) (m:=n) Er Er Er (GI.swap hH' hn Er)).mono ?_
   rintro e' w' ⟨h2,b,rfl,k1,k2,k3,k4,k5,hS'⟩
   refine ⟨_,_,rfl,hS',?_⟩
   cases b
   refine J7 ?_
   refine zK UD rfl ?_
   intro w1 hS
   obtain ⟨e2,hU⟩:=k5 rfl
   refine (up_c hS (m:=n) Er Er Er (by rw [e2];exact hU)).mono ?_
   rintro e' w' ⟨h3,rfl,q1,q2,q3,q4,hS'⟩
   refine ⟨_,_,rfl,hS',?_⟩
   refine J5 ?_
   refine WL.invoke rfl rfl rfl (Sg) Pn (.none rfl) rfl rfl ?_
   intro w1 hS
   have hl2:h3.length=n+1:=Er
   have ht:(h3.take n).length=n:=Ey
   have hx:el h3 n=el hs i:=(by rw [q3 _ (Nat.le_refl _),k3 _ (Nat.le_refl _),I6 (by omega) (by omega),if_pos rfl])
   have hh:=LG hl2
   rw [hx] at hh
   rw [hh] at hS
   refine (PH hS Er Er).mono ?_
   rintro e' w' ⟨rfl,hS'⟩
   refine ⟨_,_,rfl,hS',?_⟩
   refine J4 ?_
   refine eT1 ?_
   refine fun w' h=>⟨h3.take n,rfl,ht,?_,by rw [ht];exact q4.take,by rw [ht] at h;exact h⟩
   rw [← hh];exact q2.trans (k2.trans (Ld Er Er))
   refine J9 ?_
   refine WL.invoke rfl rfl rfl (Sg) Pn (.none rfl) rfl rfl ?_
   intro w1 hS
   have hl2:h2.length=n+1:=Er
   have ht:(h2.take n).length=n:=Ey
   have hx:el h2 n=el hs i:=(by rw [k3 _ (Nat.le_refl _),I6 (by omega) (by omega),if_pos rfl])
   have hh:=LG hl2
   rw [hx] at hh
   rw [hh] at hS
   refine (PH hS Er Er).mono ?_
   rintro e' w' ⟨rfl,hS'⟩
   refine ⟨_,_,rfl,hS',?_⟩
   refine J4 ?_
   refine eT1 ?_
   refine fun w' h=>⟨h2.take n,rfl,ht,?_,by rw [ht];exact (k4 rfl).take,by rw [ht] at h;exact h⟩
   rw [← hh];exact k2.trans (Ld Er Er)
  refine J8 ?_
  refine WL.invoke rfl rfl rfl (Sg) Pn (.none rfl) rfl rfl ?_
  intro w1 hS
  have ht:(hs.take n).length=n:=Ey
  have hh:=LG hn
  have hin:i=n:=Er
  rw [hh] at hS
  refine (PH hS Er Er).mono ?_
  rintro e' w' ⟨rfl,hS'⟩
  refine ⟨_,_,rfl,hS',?_⟩
  refine J4 ?_
  refine eT1 ?_
  refine fun w' h=>⟨hs.take n,by rw [hin],ht,by rw [hin, ← hh],by rw [ht];exact GI.take (fun k h0 h1=>hH' k h0 Er),by rw [ht] at h;rw [hin];exact h⟩
end

/-! ### What the map of names holds -/
def KY (m:Value→Option Value) (hs:List En):Prop:=∀ x v,m x=some v↔∃ e∈hs,x = .int .i64 e.name∧v=ptr e
def Nms (hs:List En):Prop:=(hs.map (·.name)).Nodup
theorem KY.perm {m:Value→Option Value}{hs hs':List En}(h:KY m hs) (hp:hs'.Perm hs):KY m hs':=fun x v=>by
  rw [h x v];constructor
  · rintro ⟨e,he,k⟩;exact ⟨e,hp.symm.subset he,k⟩
  · rintro ⟨e,he,k⟩;exact ⟨e,hp.subset he,k⟩
theorem Nms.perm {hs hs':List En}(h:Nms hs) (hp:hs'.Perm hs):Nms hs':=(hp.map _).nodup_iff.2 h
theorem KY.yes {m:Value→Option Value}{hs:List En}(h:KY m hs){e:En}(he:e∈hs):m (.int .i64 e.name)=some (ptr e):=(h _ _).2 ⟨e,he,rfl,rfl⟩
theorem KY.no {m:Value→Option Value}{hs:List En}(h:KY m hs){x:Int}(hx:∀ e∈hs,e.name≠x):m (.int .i64 x)=none:=by
  cases hm:m (.int .i64 x) with
  | none=>rfl
  | some v =>
    obtain ⟨e,he,k,_⟩:=(h _ _).1 hm
    simp only [Value.int.injEq,true_and] at k
    exact absurd k.symm (hx e he)
theorem KY.del {m:Value→Option Value}{hs hs':List En}{e:En}(h:KY m hs) (hn:Nms hs) (hp:(hs'++[e]).Perm hs):KY (JB m (.int .i64 e.name) none) hs'∧Nms hs'∧∀ a∈hs',a.name≠e.name:=by
  have hn':Nms (hs'++[e]):=hn.perm hp
  have hne:∀ a∈hs',a.name≠e.name:=fun a ha k=>by
    have:=hn'
    simp only [Nms,List.map_append,List.map_cons,List.map_nil,List.nodup_append] at this
    exact this.2.2 a.name (List.mem_map_of_mem ha) e.name Fe k
  refine ⟨fun x v=>?_,?_,hne⟩
  · by_cases hx:x = .int .i64 e.name
    · subst hx
      rw [VE]
      constructor
      · intro k;cases k
      · rintro ⟨a,ha,k,_⟩
        simp only [Value.int.injEq,true_and] at k
        exact absurd k.symm (hne a ha)
    · rw [VK _ _ hx,h x v]
      constructor
      · rintro ⟨a,ha,k1,k2⟩
        rcases List.mem_append.1 (hp.symm.subset ha) with ha|ha
        · exact ⟨a,ha,k1,k2⟩
        · have:a=e:=by simpa using ha
          subst this;exact absurd k1 hx
      · rintro ⟨a,ha,k1,k2⟩
        exact ⟨a,hp.subset (List.mem_append_left _ ha),k1,k2⟩
  · simp only [Nms,List.map_append,List.nodup_append] at hn'
    exact hn'.1
theorem KY.add {m:Value→Option Value}{hs hs':List En}{e:En}(h:KY m hs) (hn:Nms hs) (hx:∀ a∈hs,a.name≠e.name) (hp:hs'.Perm (hs++[e])):KY (JB m (.int .i64 e.name) (some (ptr e))) hs'∧Nms hs':=by
  refine ⟨fun x v=>?_,Nms.perm ?_ hp⟩
  · by_cases k:x = .int .i64 e.name
    · subst k
      rw [VE]
      constructor
      · intro k;cases k;exact ⟨e,hp.symm.subset Fe,rfl,rfl⟩
      · rintro ⟨a,ha,k1,k2⟩
        simp only [Value.int.injEq,true_and] at k1
        rcases List.mem_append.1 (hp.subset ha) with ha|ha
        · exact absurd k1.symm (hx a ha)
        · have:a=e:=by simpa using ha
          subst this;rw [k2]
    · rw [VK _ _ k,h x v]
      constructor
      · rintro ⟨a,ha,k1,k2⟩
        exact ⟨a,hp.symm.subset (List.mem_append_left _ ha),k1,k2⟩
      · rintro ⟨a,ha,k1,k2⟩
        rcases List.mem_append.1 (hp.subset ha) with ha|ha
        · exact ⟨a,ha,k1,k2⟩
        · have:a=e:=by simpa using ha
          subst this;exact absurd k1 k
  · simp only [Nms,List.map_append,List.map_cons,List.map_nil,List.nodup_append]
    refine ⟨hn,by simp,?_⟩
    intro a ha b hb k
    obtain ⟨y,hy,rfl⟩:=List.mem_map.1 ha
    have:b=e.name:=by simpa using hb
    subst this
    exact hx y hy k

/-! ### The clock whole -/
structure Ck where
  hs:List En
  ad:Option Addr
  c:Nat
  E:List Ent
  gm:Nat
  es:Array MapEntry
  cl:Nat
  m:Value→Option Value
def Ck.L (d:Ck) (gC:Nat) (now:Int) (R:List Ent):List Ent:=Kj gC now d.ad d.c (some d.gm) d.hs d.E (.obj d.gm (.map d.es d.cl)::R)
structure Ck.Ok (d:Ck):Prop where
  vec:Vec 1 d.ad d.hs.length d.c (CU d.hs) d.E
  heap:GI d.hs.length d.hs
  len:d.hs.length≤256
  map:JA (Mc .i64) d.es d.m
  mine:KY d.m d.hs
  nms:Nms d.hs
def nt (e:En):Int×Int:=(e.name,e.time)
def Ck.bag (d:Ck):List (Int×Int):=d.hs.map nt
theorem Aay {n:Nat}{hs:List En}(h:GI n hs):∀ k,k<n→¬ lt (el hs k) (el hs 0):=by
  intro k
  induction k using Nat.strongRecOn with
  | ind k ih =>
    intro hk
    by_cases h0:k=0
    · subst h0;exact fun h=>lt_asymm h h
    · exact Ki (h k Er hk) (ih ((k-1) / 2) Er Er)

section
variable {p:Nat→Prop}{w0 w:World}{gC:Nat}{now:Int}{R:List Ent}{d:Ck}
instance:At (d.L gC now R) gC [.int .i64 now, .slice d.ad d.hs.length d.c, .map (some d.gm)]:=⟨List.mem_append_right _ (List.mem_append_right _ (List.mem_cons_self ..))⟩
theorem T2 (hS:St p w0 w (d.L gC now R)):TM w (some d.gm) d.es:=.inr ⟨d.gm,d.cl,rfl,(hS.holds (.obj d.gm (.map d.es d.cl)) (List.mem_append_right _ (List.mem_append_right _ (List.mem_cons_of_mem _ (List.mem_cons_self ..))))).1⟩
theorem ck_ent (hS:St p w0 w (d.L gC now R)){i:Nat}(hi:i<d.hs.length):Row w (el d.hs i).g (enL (el d.hs i) i):=by
  have h:=OW d.hs 0 i _ (T1 hi)
  rw [Nat.zero_add] at h
  exact hS.holds (enR (el d.hs i) i) (List.mem_append_right _ (List.mem_append_left _ h))
theorem ZE {hs:List En}{e:En}(h:e∈hs):∃ i,i<hs.length∧el hs i=e:=by
  obtain ⟨i,hi⟩:=List.mem_iff_getElem?.1 h
  exact ⟨i,(List.getElem?_eq_some_iff.1 hi).1,by simp [el,List.getD,hi]⟩

theorem New_k (hS:St p w0 w R):Calls Tryz.prog 49 #[] w fun e w'=>∃ gC d,e = .returned (.pointer (some ⟨gC,0,none⟩))∧Ck.Ok d∧d.hs=[]∧St p w0 w' (d.L gC 0 R):=by
  refine enter (vs:=[]) Tryz.func49 rfl Tryz.ntmps49 rfl hS ?_
  refine J7 ?_
  refine WL.makeMap rfl (.none rfl) rfl rfl ?_
  intro g1 hg1
  refine J1 ?_
  refine WL.box rfl rfl rfl (.none rfl) rfl rfl ?_
  intro g3 hg3
  refine J4 ?_
  refine eT1 ?_
  exact fun w' h=>⟨g3,⟨[],none,0,[],g1, #[],0,fun _=>none⟩,rfl,⟨Vec.nil 1,fun k h0 h1=>absurd h1 Fe,by simp,JA.empty _,fun x v=>by simp,List.nodup_nil⟩,rfl,h⟩
theorem Zx {v1 v2:Value}(hR:Row w gC [.int .i64 now,v1,v2]):Calls Tryz.prog 61 #[.pointer (some ⟨gC,0,none⟩)] w fun e w'=>e = .returned (.int .i64 now)∧Frm (fun _=>False) w w':=by
  refine enter Tryz.func61 rfl Tryz.ntmps61 rfl (St.start (fun _=>False) w) ?_
  refine J9 ?_
  refine zV (AY false rfl rfl Tryz.underlying98 rfl) rfl ?_
  refine J10 ?_
  refine zV (AA rfl rfl AK (AL (fun h=>h) (hR.cell rfl))) rfl ?_
  exact Eb
set_option maxRecDepth 8000 in
theorem AcP (hS:St p w0 w (d.L gC now R)) (hd:d.Ok) (x:Int) (hx:∀ e∈d.hs,e.name≠x):Calls Tryz.prog 52 #[.pointer (some ⟨gC,0,none⟩), .int .i64 x] w fun e w'=>e = .returned (.bool false)∧Frm (fun _=>False) w w':=by
  have hR:=hS.row (g:=gC)
  have hM:=T2 hS
  have hn:=hd.mine.no hx
  refine enter Tryz.func52 rfl Tryz.ntmps52 rfl (St.start (fun _=>False) w) ?_
  refine J9 ?_
  refine zV (AY false rfl rfl Tryz.underlying98 rfl) rfl ?_
  refine J10 ?_
  refine zV (AA rfl rfl Vr (AL (fun h=>h) (hR.cell rfl))) rfl ?_
  refine J1 ?_
  refine zV ((LD rfl rfl rfl Tryz.underlying149 (Rs Tryz.underlying3) (Mc.mk _ _) rfl (mapOld (fun _ h=>h) hM) hd.map).eq (v:=.tuple #[.pointer none, .bool false]) (by rw [hn];rfl)) rfl ?_
  refine J22 ?_
  exact A9
theorem RT (hd:d.Ok) (h:0<d.hs.length):∃ gL r,d.ad=some ⟨gL,0,none⟩∧d.E=[.row gL (CU d.hs++r)]∧d.hs.length+r.length=d.c:=hd.vec.cells h
theorem Mz {hs:List En}{gL:Nat}{r:List Value}{c:Nat}(h:hs.length+r.length=c):Vec 1 (some ⟨gL,0,none⟩) hs.length c (CU hs) [.row gL (CU hs++r)]:=by
  have hl:(CU hs).length=hs.length:=by simp [CU]
  exact Vec.row (by rw [Nat.mul_one,List.take_left' hl]) (by rw [List.length_append,hl];omega) Er
set_option maxHeartbeats 1000000 in
set_option maxRecDepth 8000 in
theorem Stop_k (hS:St p w0 w (d.L gC now R)) (hd:d.Ok){e:En}(he:e∈d.hs):Calls Tryz.prog 52 #[.pointer (some ⟨gC,0,none⟩), .int .i64 e.name] w fun e' w'=>∃ d',e' = .returned (.bool true)∧Ck.Ok d'∧(d'.hs++[e]).Perm d.hs∧St p w0 w' (d'.L gC now R):=by
  have hn:=hd.mine.yes he
  obtain ⟨i,hi,e1⟩:=ZE he
  have hlen:=hd.len
  obtain ⟨gL,r,q1,q2,q3⟩:=RT hd Er
  obtain ⟨k,hk⟩:∃ k,d.hs.length=k+1:=⟨d.hs.length-1,by omega⟩
  refine enter Tryz.func52 rfl Tryz.ntmps52 rfl hS ?_
  refine J9 ?_
  refine zV (AY false rfl rfl Tryz.underlying98 rfl) rfl ?_
  refine J12 ?_
  refine zV ((LD rfl rfl rfl Tryz.underlying149 (Rs Tryz.underlying3) (Mc.mk _ _) rfl (fun w hS=>T2 hS) hd.map).eq (v:=.tuple #[ptr e, .bool true]) (by rw [hn];rfl)) rfl ?_
  refine J18 ?_
  refine WC.BB mixed<|rF 2 [0,1,2,3,4,5,6]<|?_
  refine J3 ?_
  refine pV (FT rfl rfl Tryz.underlying157 rfl) rfl ?_
  refine J4 ?_
  refine rA 1 [7] rfl ?_
  refine qV (AA rfl rfl AK (fun w hS=>by have:=ck_ent hS hi;rw [e1] at this;exact this.cell rfl)) rfl ?_
  refine J1 ?_
  refine rO 0 [8]<|zK ck_81 rfl<|?_
  intro w1 hS
  have hS2:St p w0 w1 (hsL gC gL now (some d.gm) d.c d.hs r (.obj d.gm (.map d.es d.cl)::R)):=(by
    unfold Ck.L Kj at hS;rw [q1,q2] at hS;exact hS)
  refine (Xs hS2 hk (i:=i) Er Er Er hd.heap).mono ?_
  rintro e' w' ⟨h2,rfl,k1,k2,k3,hS'⟩
  rw [e1] at k2 hS'
  obtain ⟨m1,m2,m3⟩:=hd.mine.del hd.nms k2
  refine ⟨_, .row gL (CU h2++(.pointer none::r))::(FQ 0 h2++(.row gC [.int .i64 now, .slice (some ⟨gL,0,none⟩) h2.length d.c, .map (some d.gm)]::(.obj d.gm (.map d.es d.cl)::R))),rfl,?_,?_⟩
  · refine hS'.sub ?_
    exact List.Sublist.cons_cons _ (List.Sublist.append_left (.cons_cons _ (.cons _ (.refl _))) _)
  refine J10 ?_
  refine WL.delete rfl rfl rfl Tryz.underlying149 (Rs Tryz.underlying3) (Mc.mk _ _) hd.map (.none rfl) rfl ?_
  intro esU hMU hsU
  refine J8 ?_
  refine eT1 ?_
  exact fun w' h=>⟨⟨h2,some ⟨gL,0,none⟩,d.c,[.row gL (CU h2++(.pointer none::r))],d.gm,esU,d.cl,JB d.m (.int .i64 e.name) none⟩,rfl,⟨Mz Fo,k3,by simp only [];omega,hMU,m1,m2⟩,k2,h⟩
end

section
variable {p:Nat→Prop}{w0 w:World}{gC:Nat}{now:Int}{R:List Ent}{d:Ck}
theorem el_mid {A B:List En}{x y:En}{k:Nat}(h:k≠A.length):el (A++(x::B)) k=el (A++(y::B)) k:=by
  unfold el
  simp only [List.getD]
  by_cases h1:k<A.length
  · rw [List.getElem?_append_left h1,List.getElem?_append_left h1]
  · rw [List.getElem?_append_right Er,List.getElem?_append_right Er]
    cases hk:k-A.length with
    | zero=>omega
    | succ j=>rfl
theorem KY.turn {m:Value→Option Value}{A B:List En}{e:En}{t:Int}(h:KY m (A++(e::B))):KY m (A++({ e with time:=t }::B)):=fun x v=>by
  rw [h x v]
  constructor
  · rintro ⟨a,ha,k1,k2⟩
    rcases List.mem_append.1 ha with ha|ha
    · exact ⟨a,List.mem_append_left _ ha,k1,k2⟩
    · rcases List.mem_cons.1 ha with ha|ha
      · subst ha;exact ⟨_,List.mem_append_right _ (List.mem_cons_self ..),k1,k2⟩
      · exact ⟨a,List.mem_append_right _ (List.mem_cons_of_mem _ ha),k1,k2⟩
  · rintro ⟨a,ha,k1,k2⟩
    rcases List.mem_append.1 ha with ha|ha
    · exact ⟨a,List.mem_append_left _ ha,k1,k2⟩
    · rcases List.mem_cons.1 ha with ha|ha
      · subst ha;exact ⟨e,List.mem_append_right _ (List.mem_cons_self ..),k1,k2⟩
      · exact ⟨a,List.mem_append_right _ (List.mem_cons_of_mem _ ha),k1,k2⟩
set_option maxHeartbeats 1000000 in
set_option maxRecDepth 8000 in
theorem AcB (hS:St p w0 w (d.L gC now R)) (hd:d.Ok){A B:List En}{e:En}(hh:d.hs=A++(e::B)) (t:Int) (h0:now≤t) (h1:t≤1073741824) :
    Calls Tryz.prog 82 #[.pointer (some ⟨gC,0,none⟩), .int .i64 e.name, .int .i64 t] w fun e' w'=>∃ d',e' = .returned (.int .i64 0)∧Ck.Ok d'∧d'.hs.Perm (A++({ e with time:=t }::B))∧St p w0 w' (d'.L gC now R):=by
  have hn:=hd.mine.yes (e:=e) (by rw [hh];simp)
  have hlen:=hd.len
  have hl:d.hs.length=A.length+1+B.length:=by rw [hh];simp;omega
  have hl2:(A++({ e with time:=t }::B)).length=d.hs.length:=by rw [hh];simp
  obtain ⟨gL,r,q1,q2,q3⟩:=RT hd Er
  have hD:Og (A++({ e with time:=t }::B)).length (A++({ e with time:=t }::B)) A.length:=by
    rw [hl2]
    exact Og.set hd.heap (fun k hk=>by rw [hh];exact el_mid hk)
  have hP:CU d.hs=CU (A++({ e with time:=t }::B)):=by rw [hh];simp [CU,ptr]
  have hN:Nms (A++({ e with time:=t }::B)):=by have:=hd.nms;rw [hh] at this;simpa [Nms] using this
  have hMi:KY d.m (A++({ e with time:=t }::B)):=by have:=hd.mine;rw [hh] at this;exact this.turn
  have hent:FQ 0 d.hs=FQ 0 A++(enR e A.length::FQ (A.length+1) B):=by rw [hh,HE];simp [FQ]
  have hent2:FQ 0 (A++({ e with time:=t }::B))=FQ 0 A++(.row e.g (enL { e with time:=t } A.length)::FQ (A.length+1) B):=by rw [HE];simp [FQ]
  have hS1:St p w0 w (.row gL (CU d.hs++r)::(FQ 0 A++(enR e A.length::(FQ (A.length+1) B++(.row gC [.int .i64 now, .slice (some ⟨gL,0,none⟩) d.hs.length d.c, .map (some d.gm)]::(.obj d.gm (.map d.es d.cl)::R)))))):=by
    unfold Ck.L Kj at hS;rw [q1,q2,hent] at hS;simpa using hS
  refine enter Tryz.func82 rfl Tryz.ntmps82 rfl hS1 ?_
  refine J9 ?_
  refine zV (AY false rfl rfl Tryz.underlying98 rfl) rfl ?_
  refine J6 ?_
  refine zS ((G8 rfl rfl rfl).f Er) rfl ?_
  refine J3 ?_
  refine zS ((HY rfl rfl rfl).f Er) rfl ?_
  refine J14 ?_
  refine zV ((LD rfl rfl rfl Tryz.underlying149 (Rs Tryz.underlying3) (Mc.mk _ _) rfl (Y8 (es:=d.es) (c:=d.cl) d.gm Fe) hd.map).eq (v:=.tuple #[ptr e, .bool true]) (by rw [hn];rfl)) rfl ?_
  refine J23 ?_
  refine WC.BB mixed<|rF 2 [0,1,2,3,4,5,6]<|?_
  refine J3 ?_
  refine pV (FT rfl rfl Tryz.underlying157 rfl) rfl ?_
  refine J4 ?_
  refine rA 1 [7] rfl ?_
  refine J2 ?_
  refine rO 0 [8]<|zK ck_107 rfl<|?_
  intro w1 hS
  have hS2:St p w0 w1 (hsL gC gL now (some d.gm) d.c (A++({ e with time:=t }::B)) r (.obj d.gm (.map d.es d.cl)::R)):=(by
    unfold hsL;rw [hl2, ← hP,hent2];simpa [enL] using hS)
  refine (HFix_c hS2 (i:=A.length) (by rw [hl2];omega) Er hD).mono ?_
  rintro e' w' ⟨h2,rfl,k1,k2,k3,hS'⟩
  refine ⟨_,_,rfl,hS',?_⟩
  refine J10 ?_
  refine eT1 ?_
  exact fun w' h=>⟨⟨h2,some ⟨gL,0,none⟩,d.c,[.row gL (CU h2++r)],d.gm,d.es,d.cl,d.m⟩,rfl,⟨Mz (show h2.length+r.length=d.c by omega),k3,by simp only [];omega,hd.map,hMi.perm k2,hN.perm k2⟩,k2,h⟩
set_option maxHeartbeats 1000000 in
set_option maxRecDepth 8000 in
theorem AcJ (hS:St p w0 w (d.L gC now R)) (hd:d.Ok) (x t:Int) (h0:now≤t) (h1:t≤1073741824) (hx:∀ e∈d.hs,e.name≠x) (hf:d.hs.length<256) :
    Calls Tryz.prog 82 #[.pointer (some ⟨gC,0,none⟩), .int .i64 x, .int .i64 t] w fun e' w'=>∃ d' g,e' = .returned (.int .i64 0)∧Ck.Ok d'∧d'.hs.Perm (d.hs++[⟨g,x,t⟩])∧St p w0 w' (d'.L gC now R):=by
  have hn:=hd.mine.no hx
  refine enter Tryz.func82 rfl Tryz.ntmps82 rfl hS ?_
  refine J9 ?_
  refine zV (AY false rfl rfl Tryz.underlying98 rfl) rfl ?_
  refine J6 ?_
  refine zS ((G8 rfl rfl rfl).f Er) rfl ?_
  refine J3 ?_
  refine zS ((HY rfl rfl rfl).f Er) rfl ?_
  refine J14 ?_
  refine zV ((LD rfl rfl rfl Tryz.underlying149 (Rs Tryz.underlying3) (Mc.mk _ _) rfl (fun w hS=>T2 hS) hd.map).eq (v:=.tuple #[.pointer none, .bool false]) (by rw [hn];rfl)) rfl ?_
  refine J23 ?_
  refine zV ((Pw rfl rfl rfl).f Er) rfl ?_
  refine J12 ?_
  refine zV (AY false rfl rfl Tryz.underlying149 rfl) rfl ?_
  refine J10 ?_
  refine WL.box rfl rfl rfl (.none rfl) rfl rfl ?_
  intro g65 hg65
  refine J8 ?_
  refine zV (FT rfl rfl Tryz.underlying157 rfl) rfl ?_
  refine J1 ?_
  refine zV (FT rfl rfl Tryz.underlying154 rfl) rfl<|zK ck_108 rfl<|?_
  intro w1 hS
  have hS2:St p w0 w1 (Kj gC now d.ad d.c (some d.gm) d.hs d.E (.row g65 [.int .i64 x, .int .i64 t, .int .i64 0]::(.obj d.gm (.map d.es d.cl)::R))):=(by
    unfold Ck.L at hS
    unfold Kj at hS ⊢
    refine hS.perm ?_
    have e1:∀ (X:Ent) (E F:List Ent) (Y:Ent) (G:List Ent),(E++(F++(Y::X::G))).Perm (X::(E++(F++(Y::G)))):=fun X E F Y G=>by
      refine (List.Perm.append_left _ ((List.Perm.append_left _ (List.Perm.swap _ _ _)).trans List.perm_middle)).trans List.perm_middle
    exact e1 _ _ _ _ _)
  refine (Acy (e:=⟨g65,x,t⟩) hS2 hd.vec Er hd.heap).mono ?_
  rintro e' w' ⟨gL,r,c',h2,rfl,k1,k2,k3,k4,hS'⟩
  obtain ⟨m1,m2⟩:=hd.mine.add hd.nms hx k2
  refine ⟨_, .row gL (CU h2++r)::(FQ 0 h2++(.row gC [.int .i64 now, .slice (some ⟨gL,0,none⟩) h2.length c', .map (some d.gm)]::(.obj d.gm (.map d.es d.cl)::R))),rfl,hS',?_⟩
  refine J10 ?_
  refine WL.mapUpdate rfl rfl rfl rfl Tryz.underlying149 (Rs Tryz.underlying3) (Mc.mk _ _) hd.map (.none rfl) rfl ?_
  intro esU cU hMU hsU
  refine J8 ?_
  refine eT1 ?_
  exact fun w' h=>⟨⟨h2,some ⟨gL,0,none⟩,c',[.row gL (CU h2++r)],d.gm,esU,cU,JB d.m (.int .i64 x) (some (ptr ⟨g65,x,t⟩))⟩,g65,rfl,⟨Mz k4,k3,by simp only [];omega,hMU,m1,m2⟩,k2,h⟩
def KW (now u:Int):Int:=min (max u now) 1073741824
theorem Ut (hS:St p w0 w (d.L gC now R)) (u:Int) (hx:d.hs=[]) :
    Calls Tryz.prog 62 #[.pointer (some ⟨gC,0,none⟩), .int .i64 u] w fun e' w'=>e' = .returned (.tuple #[.int .i64 0, .bool false])∧St p w0 w' (d.L gC (KW now u) R):=by
  unfold Ck.L Kj at hS ⊢
  rw [hx] at hS ⊢
  refine enter Tryz.func62 rfl Tryz.ntmps62 rfl hS ?_
  refine J10 ?_
  refine zV (AY false rfl rfl Tryz.underlying98 rfl) rfl ?_
  refine J12 ?_
  refine zV (Tm rfl rfl rfl) rfl<|zV (Le rfl rfl rfl) rfl<|?_
  refine J11 ?_
  refine zV ((AZ rfl rfl rfl).t (rfl)) rfl ?_
  refine J30 ?_
  refine J3 ?_
  refine eT2 ?_
  exact fun w' h=>⟨rfl,h⟩
theorem Wh (hS:St p w0 w (d.L gC now R)) (hd:d.Ok){e:En}{B:List En}(hh:d.hs=e::B):∃ gL r,d.ad=some ⟨gL,0,none⟩∧d.E=[.row gL (CU d.hs++r)]∧d.hs.length+r.length=d.c ∧
    St p w0 w (.row gL (ptr e::(CU B++r))::(enR e 0::(FQ 1 B++(.row gC [.int .i64 now, .slice (some ⟨gL,0,none⟩) (B.length+1) d.c, .map (some d.gm)]::(.obj d.gm (.map d.es d.cl)::R))))):=by
  obtain ⟨gL,r,q1,q2,q3⟩:=RT hd (by rw [hh];simp)
  refine ⟨gL,r,q1,q2,q3,?_⟩
  unfold Ck.L Kj at hS
  rw [q1,q2,hh] at hS
  exact hS
theorem Zw {gL:Nat}{r:List Value}{e:En}{B:List En}(hh:d.hs=e::B) (q1:d.ad=some ⟨gL,0,none⟩) (q2:d.E=[.row gL (CU d.hs++r)])
    (h:St p w0 w (.row gL (ptr e::(CU B++r))::(enR e 0::(FQ 1 B++(.row gC [.int .i64 now, .slice (some ⟨gL,0,none⟩) (B.length+1) d.c, .map (some d.gm)]::(.obj d.gm (.map d.es d.cl)::R)))))):St p w0 w (d.L gC now R):=by
  unfold Ck.L Kj
  rw [q1,q2,hh]
  exact h
theorem XZ (hS:St p w0 w (d.L gC now R)) (hd:d.Ok) (u:Int){e:En}{B:List En}(hh:d.hs=e::B) (hx:KW now u<e.time) :
    Calls Tryz.prog 62 #[.pointer (some ⟨gC,0,none⟩), .int .i64 u] w fun e' w'=>e' = .returned (.tuple #[.int .i64 0, .bool false])∧St p w0 w' (d.L gC (KW now u) R):=by
  have hlen:=hd.len
  have hl:d.hs.length=B.length+1:=by rw [hh];rfl
  obtain ⟨gL,r,q1,q2,q3,hS⟩:=Wh hS hd hh
  refine enter Tryz.func62 rfl Tryz.ntmps62 rfl hS ?_
  refine J10 ?_
  refine zV (AY false rfl rfl Tryz.underlying98 rfl) rfl ?_
  refine J12 ?_
  refine zV (Tm rfl rfl rfl) rfl<|zV (Le rfl rfl rfl) rfl<|?_
  refine J11 ?_
  refine zV ((AZ rfl rfl rfl).f Er) rfl ?_
  refine J5 ?_
  refine zS (AB (lo:=0) rfl rfl rfl Tryz.underlying151 EE rfl Er) rfl ?_
  refine J5 ?_
  refine zS ((HY rfl rfl rfl).t (hx)) rfl ?_
  refine J21 ?_
  refine eT2 ?_
  exact fun w' h=>⟨rfl,Zw hh q1 q2 h⟩
set_option maxHeartbeats 1000000 in
set_option maxRecDepth 8000 in
theorem Next_k (hS:St p w0 w (d.L gC now R)) (hd:d.Ok) (u:Int){e:En}{B:List En}(hh:d.hs=e::B) (hx:e.time≤KW now u) :
    Calls Tryz.prog 62 #[.pointer (some ⟨gC,0,none⟩), .int .i64 u] w fun e' w'=>∃ d',e' = .returned (.tuple #[.int .i64 e.name, .bool true])∧Ck.Ok d'∧(d'.hs++[e]).Perm d.hs∧St p w0 w' (d'.L gC e.time R):=by
  have hlen:=hd.len
  have hl:d.hs.length=B.length+1:=by rw [hh];rfl
  have he:el d.hs 0=e:=by rw [hh];rfl
  obtain ⟨gL,r,q1,q2,q3,hS⟩:=Wh hS hd hh
  refine enter Tryz.func62 rfl Tryz.ntmps62 rfl hS ?_
  refine J10 ?_
  refine zV (AY false rfl rfl Tryz.underlying98 rfl) rfl ?_
  refine J12 ?_
  refine zV (Tm rfl rfl rfl) rfl<|zV (Le rfl rfl rfl) rfl<|?_
  refine J11 ?_
  refine zV ((AZ rfl rfl rfl).f Er) rfl ?_
  refine J5 ?_
  refine zS (AB (lo:=0) rfl rfl rfl Tryz.underlying151 EE rfl Er) rfl ?_
  refine J5 ?_
  refine zS ((HY rfl rfl rfl).f (Int.not_lt.2 hx)) rfl ?_
  refine J11 ?_
  refine zV (FT rfl rfl Tryz.underlying157 rfl) rfl<|zK ck_95 rfl<|?_
  intro w1 hS
  have hS2:St p w0 w1 (hsL gC gL now (some d.gm) d.c d.hs r (.obj d.gm (.map d.es d.cl)::R)):=(by
    unfold hsL;rw [hh];exact hS)
  refine (HPop_c hS2 hl Er Er hd.heap).mono ?_
  rintro e' w' ⟨h2,rfl,k1,k2,k3,hS'⟩
  rw [he] at k2 hS' ⊢
  obtain ⟨m1,m2,m3⟩:=hd.mine.del hd.nms k2
  refine ⟨_, .row gL (CU h2++(.pointer none::r))::(FQ 0 h2++(.row gC [.int .i64 now, .slice (some ⟨gL,0,none⟩) h2.length d.c, .map (some d.gm)]::(enR e B.length::(.obj d.gm (.map d.es d.cl)::R)))),rfl,hS',?_⟩
  refine zV (MY rfl rfl Tryz.underlying154 rfl) rfl ?_
  refine J4 ?_
  refine WC.BB mixed<|rF 3 [0,1,2,4,5,6]<|?_
  refine J7 ?_
  refine rA 1 [3,7] rfl ?_
  refine J3 ?_
  refine rO 0 [8]<|WL.delete rfl rfl rfl Tryz.underlying149 (Rs Tryz.underlying3) (Mc.mk _ _) hd.map (.none rfl) rfl<|?_
  intro esU hMU hsU
  refine J26 ?_
  refine eT2 ?_
  refine fun w' h=>⟨⟨h2,some ⟨gL,0,none⟩,d.c,[.row gL (CU h2++(.pointer none::r))],d.gm,esU,d.cl,JB d.m (.int .i64 e.name) none⟩,rfl,⟨Mz (show h2.length+(r.length+1)=d.c by omega),k3,by simp only [];omega,hMU,m1,m2⟩,k2,?_⟩
  exact h.sub (List.Sublist.cons_cons _ (List.Sublist.append_left (.cons_cons _ (.cons _ (.refl _))) _))
end
end Gq

def Bag (d:Ck) (S:List (Int×Int)):Prop:=d.Ok∧(d.hs.map nt).Perm S
theorem Bag.perm {d:Ck}{S S':List (Int×Int)}(h:Bag d S) (hp:S.Perm S'):Bag d S':=⟨h.1,h.2.trans hp⟩
theorem Bag.len {d:Ck}{S:List (Int×Int)}(h:Bag d S):d.hs.length=S.length:=by have:=h.2.length_eq;simpa using this
def ltp (a b:Int×Int):Prop:=a.2<b.2∨(a.2=b.2∧a.1<b.1)
instance (a b:Int×Int):Decidable (ltp a b):=by unfold ltp;infer_instance
theorem Bag.get {d:Ck}{S:List (Int×Int)}(h:Bag d S){x t:Int}(hx:(x,t)∈S):∃ e∈d.hs,e.name=x∧e.time=t:=by
  obtain ⟨e,he,k⟩:=List.mem_map.1 (h.2.symm.subset hx)
  simp only [nt,Prod.mk.injEq] at k
  exact ⟨e,he,k.1,k.2⟩
theorem Bag.mem {d:Ck}{S:List (Int×Int)}(h:Bag d S){e:En}(he:e∈d.hs):(e.name,e.time)∈S:=h.2.subset (List.mem_map.2 ⟨e,he,rfl⟩)
theorem Bag.no {d:Ck}{S:List (Int×Int)}(h:Bag d S){x:Int}(hx:∀ y∈S,y.1≠x):∀ e∈d.hs,e.name≠x:=fun _ he=>hx _ (h.mem he)
section
variable {p:Nat→Prop}{w0 w:World}{gC:Nat}{now:Int}{R:List Ent}{d:Ck}{S:List (Int×Int)}
theorem New_b (hS:St p w0 w R):Calls Tryz.prog 49 #[] w fun e w'=>∃ gC d,e = .returned (.pointer (some ⟨gC,0,none⟩))∧Bag d []∧St p w0 w' (d.L gC 0 R) :=
  (New_k hS).mono fun _ _ ⟨gC,d,he,h1,h2,h3⟩=>⟨gC,d,he,⟨h1,by rw [h2];exact List.Perm.nil⟩,h3⟩
theorem Set_b (hS:St p w0 w (d.L gC now R)) (hb:Bag d S) (x t:Int) (h0:now≤t) (h1:t≤1073741824) (hx:∀ y∈S,y.1≠x) (hf:S.length<256) :
    Calls Tryz.prog 82 #[.pointer (some ⟨gC,0,none⟩), .int .i64 x, .int .i64 t] w fun e' w'=>∃ d',e' = .returned (.int .i64 0)∧Bag d' (S++[(x,t)])∧St p w0 w' (d'.L gC now R):=by
  refine (AcJ hS hb.1 x t h0 h1 (hb.no hx) (by rw [hb.len];exact hf)).mono ?_
  rintro e' w' ⟨d',g,rfl,hd,hp,hS'⟩
  refine ⟨d',rfl,⟨hd,(hp.map nt).trans ?_⟩,hS'⟩
  simp only [List.map_append,List.map_cons,List.map_nil]
  exact List.Perm.append_right _ hb.2
theorem Set_bo {A B:List (Int×Int)}{t0:Int}(hS:St p w0 w (d.L gC now R)) (x t:Int) (hb:Bag d (A++((x,t0)::B))) (h0:now≤t) (h1:t≤1073741824) :
    Calls Tryz.prog 82 #[.pointer (some ⟨gC,0,none⟩), .int .i64 x, .int .i64 t] w fun e' w'=>∃ d',e' = .returned (.int .i64 0)∧Bag d' (A++((x,t)::B))∧St p w0 w' (d'.L gC now R):=by
  obtain ⟨e,he,k1,k2⟩:=hb.get (x:=x) (t:=t0) Fe
  obtain ⟨A',B',hh⟩:=List.append_of_mem he
  subst k1
  refine (AcB hS hb.1 hh t h0 h1).mono ?_
  rintro e' w' ⟨d',rfl,hd,hp,hS'⟩
  refine ⟨d',rfl,⟨hd,(hp.map nt).trans ?_⟩,hS'⟩
  have h2:=hb.2
  rw [hh] at h2
  simp only [List.map_append,List.map_cons] at h2 ⊢
  have e1:nt e=(e.name,t0):=by simp [nt,k2]
  rw [e1] at h2
  have h3:(List.map nt A'++List.map nt B').Perm (A++B):=(List.perm_cons (e.name,t0)).1 (List.perm_middle.symm.trans (h2.trans List.perm_middle))
  exact List.perm_middle.trans ((List.Perm.cons (e.name,t) h3).trans List.perm_middle.symm)
theorem Stop_b {A B:List (Int×Int)}{t:Int}(hS:St p w0 w (d.L gC now R)) (x:Int) (hb:Bag d (A++((x,t)::B))) :
    Calls Tryz.prog 52 #[.pointer (some ⟨gC,0,none⟩), .int .i64 x] w fun e' w'=>∃ d',e' = .returned (.bool true)∧Bag d' (A++B)∧St p w0 w' (d'.L gC now R):=by
  obtain ⟨e,he,k1,k2⟩:=hb.get (x:=x) (t:=t) Fe
  subst k1
  refine (Stop_k hS hb.1 he).mono ?_
  rintro e' w' ⟨d',rfl,hd,hp,hS'⟩
  refine ⟨d',rfl,⟨hd,?_⟩,hS'⟩
  have h2:=(hp.map nt).trans hb.2
  simp only [List.map_append,List.map_cons,List.map_nil] at h2
  have e1:nt e=(e.name,t):=by simp [nt,k2]
  rw [e1] at h2
  exact (List.perm_cons (e.name,t)).1 (((List.perm_append_comm (l₁:=[(e.name,t)])).trans h2).trans List.perm_middle)
theorem Ac6 (hS:St p w0 w (d.L gC now R)) (hb:Bag d S) (x:Int) (hx:∀ y∈S,y.1≠x) :
    Calls Tryz.prog 52 #[.pointer (some ⟨gC,0,none⟩), .int .i64 x] w fun e' w'=>e' = .returned (.bool false)∧Frm (fun _=>False) w w':=AcP hS hb.1 x (hb.no hx)
theorem Bag.first (hb:Bag d S){e:En}{B:List En}(hh:d.hs=e::B):(e.name,e.time)∈S∧∀ z∈S, ¬ ltp z (e.name,e.time):=by
  refine ⟨hb.mem (by rw [hh];simp),fun z hz hl=>?_⟩
  obtain ⟨a,ha,k1,k2⟩:=hb.get (x:=z.1) (t:=z.2) hz
  obtain ⟨i,hi,e1⟩:=ZE ha
  have:=Aay hb.1.heap i hi
  rw [e1,show el d.hs 0=e by rw [hh];rfl] at this
  refine this ?_
  unfold lt;unfold ltp at hl
  rw [k1,k2];exact hl
theorem Next_b {A B:List (Int×Int)}{x t:Int}(hS:St p w0 w (d.L gC now R)) (u:Int) (hb:Bag d (A++((x,t)::B))) (hm:∀ z∈A++B,ltp (x,t) z) (hu:t≤KW now u) :
    Calls Tryz.prog 62 #[.pointer (some ⟨gC,0,none⟩), .int .i64 u] w fun e' w'=>∃ d',e' = .returned (.tuple #[.int .i64 x, .bool true])∧Bag d' (A++B)∧St p w0 w' (d'.L gC t R):=by
  obtain ⟨e,B',hh⟩:∃ e B',d.hs=e::B':=by
    have:=hb.len
    match d.hs,this with
    | [],h=>simp at h
    | e::B',_=>exact ⟨e,B',rfl⟩
  obtain ⟨f1,f2⟩:=hb.first hh
  have he:e.name=x∧e.time=t:=by
    have h1:=f2 (x,t) Fe
    have h2:(e.name,e.time)=(x,t)∨(e.name,e.time)∈A++B:=by
      rcases List.mem_append.1 f1 with h|h
      · exact .inr (List.mem_append_left _ h)
      · rcases List.mem_cons.1 h with h|h
        · exact .inl h
        · exact .inr (List.mem_append_right _ h)
    rcases h2 with h2|h2
    · simp only [Prod.mk.injEq] at h2;exact h2
    · exact absurd (hm _ h2) h1
  obtain ⟨rfl,rfl⟩:=he
  refine (Next_k hS hb.1 u hh hu).mono ?_
  rintro e' w' ⟨d',rfl,hd,hp,hS'⟩
  refine ⟨d',rfl,⟨hd,?_⟩,hS'⟩
  have h2:=(hp.map nt).trans hb.2
  simp only [List.map_append,List.map_cons,List.map_nil] at h2
  exact (List.perm_cons (e.name,e.time)).1 (((List.perm_append_comm (l₁:=[(e.name,e.time)])).trans h2).trans List.perm_middle)
theorem AbY (hS:St p w0 w (d.L gC now R)) (u:Int) (hb:Bag d S) (hm:∀ z∈S,KW now u<z.2) :
    Calls Tryz.prog 62 #[.pointer (some ⟨gC,0,none⟩), .int .i64 u] w fun e' w'=>e' = .returned (.tuple #[.int .i64 0, .bool false])∧St p w0 w' (d.L gC (KW now u) R):=by
  cases hh:d.hs with
  | nil=>exact Ut hS u hh
  | cons e B=>exact XZ hS hb.1 u hh (hm _ (hb.first hh).1)
end


def Hh:Int→List Int→List (Int×Int)
  | _,[]=>[]
  | k,t::ts=>(if 0≤t then [(k,t)] else [])++Hh (k+1) ts
theorem Pd:∀ (xs ys:List Int) (k:Int),Hh k (xs++ys)=Hh k xs++Hh (k+xs.length) ys
  | [],ys,k=>by rw [List.nil_append,show k+(([]:List Int).length:Int)=k by simp];rfl
  | x::xs,ys,k=>by
    rw [List.cons_append]
    unfold Hh
    rw [Pd xs ys (k+1),List.append_assoc,List.length_cons,show k+1+(xs.length:Int)=k+((xs.length+1:Nat):Int) by omega]
    cases xs++ys <;> cases ys <;> rfl
theorem JH:∀ {ts:List Int}{k:Int}{y:Int×Int},y∈Hh k ts→k≤y.1∧y.1<k+ts.length∧0≤y.2
  | [],k,y,h=>by unfold Hh at h;cases h
  | t::ts,k,y,h=>by
    unfold Hh at h
    rw [List.length_cons]
    rcases List.mem_append.1 h with h|h
    · split at h
      · obtain rfl:=List.mem_singleton.1 h
        exact ⟨Int.le_refl _,by dsimp only;omega,by assumption⟩
      · cases h
    · have:=JH h
      omega
theorem R8:∀ (ts:List Int) (k:Int),(Hh k ts).length≤ts.length
  | [],_=>Nat.le_refl _
  | t::ts,k=>by
    unfold Hh
    have:=R8 ts (k+1)
    rw [List.length_append,List.length_cons]
    split
    · rw [List.length_singleton];omega
    · rw [List.length_nil];omega
theorem Ri {α:Type}{D:List α}{n:Nat}(h:n<D.length):∃ A t B,D=A++(t::B)∧A.length=n∧D[n]?=some t∧∀ u,D.set n u=A++(u::B):=by
  have hl:(D.take n).length=n:=by rw [List.length_take];omega
  refine ⟨D.take n,D[n],D.drop (n+1),?_,hl,List.getElem?_eq_getElem h,fun u=>?_⟩
  · rw [List.getElem_cons_drop,List.take_append_drop]
  · rw [List.set_eq_take_append_cons_drop,if_pos h]
theorem Nd {A B:List Int}{t:Int}(h:0≤t):Hh 0 (A++(t::B))=Hh 0 A++(((A.length:Int),t)::Hh (A.length+1) B):=by
  rw [Pd,Int.zero_add]
  show _++((if 0≤t then _ else _)++_)=_
  rw [if_pos h];rfl
theorem MB {A B:List Int}{t:Int}(h:t<0):Hh 0 (A++(t::B))=Hh 0 A++Hh (A.length+1) B:=by
  rw [Pd,Int.zero_add]
  show _++((if 0≤t then _ else _)++_)=_
  rw [if_neg Er];rfl
theorem Vi {A B:List Int}:∀ y∈Hh 0 A++Hh (A.length+1) B,y.1≠(A.length:Int):=fun y hy=>by
  rcases List.mem_append.1 hy with h|h
  · have:=JH h;omega
  · have:=JH h;omega
section
variable {w0 w:World}{gC:Nat}{now:Int}{R:List Ent}{d:Ck}{D:List Int}
theorem Set_d (hS:St (fun _=>False) w0 w (d.L gC now R)) (hb:Bag d (Hh 0 D)) (n:Nat) (hn:n<D.length) (hl:D.length≤100) (t:Int) (h0:now≤t) (h1:t≤1073741824) (ht:0≤t) :
    Calls Tryz.prog 82 #[.pointer (some ⟨gC,0,none⟩), .int .i64 n, .int .i64 t] w fun e' w'=>∃ d',e' = .returned (.int .i64 0)∧Bag d' (Hh 0 (D.set n t))∧St (fun _=>False) w0 w' (d'.L gC now R):=by
  obtain ⟨A,t0,B,rfl,rfl,_,hs⟩:=Ri hn
  rw [hs,Nd ht]
  by_cases h:0≤t0
  · rw [Nd h] at hb
    exact Set_bo hS _ t hb h0 h1
  · rw [MB Er] at hb
    have hlen:=R8 (A++(t0::B)) 0
    rw [MB Er] at hlen
    refine (Set_b hS hb _ t h0 h1 Vi Er).mono ?_
    rintro e' w' ⟨d',rfl,hb',hS'⟩
    exact ⟨d',rfl,hb'.perm ((List.perm_append_singleton _ _).trans List.perm_middle.symm),hS'⟩
theorem IG (hS:St (fun _=>False) w0 w (d.L gC now R)) (hb:Bag d (Hh 0 D)) (n:Nat) (hn:n<D.length) :
    Calls Tryz.prog 52 #[.pointer (some ⟨gC,0,none⟩), .int .i64 n] w fun e' w'=>∃ b d',e' = .returned (.bool b)∧Bag d' (Hh 0 (D.set n (-1)))∧St (fun _=>False) w0 w' (d'.L gC now R):=by
  obtain ⟨A,t0,B,rfl,rfl,_,hs⟩:=Ri hn
  rw [hs,MB Et]
  by_cases h:0≤t0
  · rw [Nd h] at hb
    refine (Stop_b hS _ hb).mono ?_
    rintro e' w' ⟨d',rfl,hb',hS'⟩
    exact ⟨true,d',rfl,hb',hS'⟩
  · rw [MB Er] at hb
    refine (Ac6 hS hb _ Vi).mono ?_
    rintro e' w' ⟨rfl,hF⟩
    exact ⟨false,d,rfl,hb,hS.ext hF⟩
def I8 (D:List Int) (u:Int) (n:Nat) (t:Int):Prop:=D[n]?=some t∧0≤t∧t≤u∧∀ (k:Nat) (y:Int),k≠n→D[k]?=some y→0≤y→ltp ((n:Int),t) ((k:Int),y)
theorem Om:∀ {ts:List Int}{k:Int}{y:Int×Int},y∈Hh k ts→∃ i:Nat,ts[i]?=some y.2∧y.1=k+i
  | [],k,y,h=>by unfold Hh at h;cases h
  | t::ts,k,y,h=>by
    unfold Hh at h
    rcases List.mem_append.1 h with h|h
    · split at h
      · obtain rfl:=List.mem_singleton.1 h
        exact ⟨0,rfl,by simp⟩
      · cases h
    · obtain ⟨i,h1,h2⟩:=Om h
      exact ⟨i+1,h1,by omega⟩
theorem Next_d (hS:St (fun _=>False) w0 w (d.L gC now R)) (hb:Bag d (Hh 0 D)) (u:Int){n:Nat}{t:Int}(hF:I8 D (KW now u) n t) :
    Calls Tryz.prog 62 #[.pointer (some ⟨gC,0,none⟩), .int .i64 u] w fun e' w'=>∃ d',e' = .returned (.tuple #[.int .i64 n, .bool true])∧Bag d' (Hh 0 (D.set n (-1)))∧St (fun _=>False) w0 w' (d'.L gC t R):=by
  obtain ⟨h1,h2,h3,h4⟩:=hF
  obtain ⟨A,t0,B,rfl,rfl,h5,hs⟩:=Ri (List.getElem?_eq_some_iff.1 h1).1
  rw [h1] at h5
  obtain rfl:=Option.some.inj h5
  rw [hs,MB Et]
  rw [Nd h2] at hb
  refine Next_b hS u hb (fun z hz=>?_) h3
  obtain ⟨z1,z2⟩:=z
  rcases List.mem_append.1 hz with h|h
  · obtain ⟨i,e1,e2⟩:=Om h
    have e3:=JH h
    dsimp only at e1 e2 e3
    rw [Int.zero_add] at e2
    subst e2
    exact h4 i z2 Er (by rw [List.getElem?_append_left (List.getElem?_eq_some_iff.1 e1).1];exact e1) e3.2.2
  · obtain ⟨i,e1,e2⟩:=Om h
    have e3:=JH h
    dsimp only at e1 e2 e3
    have e4:z1=((A.length+1+i:Nat):Int):=Er
    subst e4
    exact h4 (A.length+1+i) z2 Er (by rw [List.getElem?_append_right (by omega),show A.length+1+i-A.length=i+1 by omega];exact e1) e3.2.2
theorem Ab5 (hS:St (fun _=>False) w0 w (d.L gC now R)) (hb:Bag d (Hh 0 D)) (u:Int) (hF:∀ t∈D,t<0∨KW now u<t) :
    Calls Tryz.prog 62 #[.pointer (some ⟨gC,0,none⟩), .int .i64 u] w fun e' w'=>e' = .returned (.tuple #[.int .i64 0, .bool false])∧St (fun _=>False) w0 w' (d.L gC (KW now u) R) :=
  AbY hS u hb fun z hz=>by
    obtain ⟨i,e1,_⟩:=Om hz
    have:=hF z.2 (List.mem_of_getElem? e1)
    have:=(JH hz).2.2
    omega
theorem Z1:∀ (D:List Int) (u:Int),(∃ n t,I8 D u n t)∨∀ t∈D,t<0∨u<t:=by
  intro D u
  by_cases h:∃ t∈D,0≤t∧t≤u
  · left
    have key:∀ (m:Nat) (t:Int),t.toNat≤m→t∈D→0≤t→t≤u→∃ t'∈D,0≤t'∧t'≤u∧∀ y∈D,0≤y→t'≤y:=by
      intro m
      induction m with
      | zero=>intro t h1 h2 h3 h4;exact ⟨t,h2,h3,h4,fun y _ hy=>by omega⟩
      | succ m ih =>
        intro t h1 h2 h3 h4
        by_cases hq:∃ y∈D,0≤y∧y<t
        · obtain ⟨y,y1,y2,y3⟩:=hq
          exact ih y Er y1 y2 Er
        · exact ⟨t,h2,h3,h4,fun y hy hy0=>Int.not_lt.1 fun hlt=>hq ⟨y,hy,hy0,hlt⟩⟩
    obtain ⟨t0,q1,q2,q3⟩:=h
    obtain ⟨t,h1,h2,h3,h4⟩:=key t0.toNat t0 (Nat.le_refl _) q1 q2 q3
    -- the least place at which it stands
    obtain ⟨n,hn,hmin⟩:∃ n:Nat,D[n]?=some t∧∀ k:Nat,k<n→D[k]?≠some t:=by
      obtain ⟨n0,hn0,e0⟩:=List.getElem_of_mem h1
      have:∀ (m n:Nat),n≤m→D[n]?=some t→∃ n:Nat,D[n]?=some t∧∀ k:Nat,k<n→D[k]?≠some t:=by
        intro m
        induction m with
        | zero=>intro n hm hn;exact ⟨n,hn,fun k hk=>by omega⟩
        | succ m ih =>
          intro n hm hn
          by_cases hq:∃ k:Nat,k<n∧D[k]?=some t
          · obtain ⟨k,k1,k2⟩:=hq;exact ih k Er k2
          · exact ⟨n,hn,fun k hk he=>hq ⟨k,hk,he⟩⟩
      exact this n0 n0 (Nat.le_refl _) (by rw [List.getElem?_eq_getElem hn0,e0])
    refine ⟨n,t,hn,h2,h3,fun k y hk hy hy0=>?_⟩
    have h5:=h4 y (List.mem_of_getElem? hy) hy0
    unfold ltp
    dsimp only
    rcases Int.lt_or_le t y with h6|h6
    · exact .inl h6
    · have e:t=y:=by omega
      subst e
      right
      refine ⟨rfl,?_⟩
      rcases Nat.lt_or_ge k n with h7|h7
      · exact absurd hy (hmin k h7)
      · omega
  · right
    intro t ht
    by_cases h0:t<0
    · exact .inl h0
    · exact .inr (Int.not_le.1 fun hle=>h ⟨t,ht,by omega,hle⟩)
end

theorem X7 {P:Program}{x:String×DataW Unit}{r:List (String×DataW Unit)}{w:World}(h:laidMet P (x::r) w):laidMet P r w:=by
  obtain ⟨ps,⟨g,t,cs,fuel,p,q,_,_,_,_,hq,rfl⟩,hn,hc⟩:=h
  exact ⟨q,hq,(List.nodup_append.1 hn).2.1,fun b off hm=>hc b off (List.mem_append_right _ hm)⟩
theorem Xy {w:World}(hL:laidMet Tryz.prog [("carrefour/attr.flags",Rows.laid_carrefour_attr_flags),("carrefour/attr.sizes",Rows.laid_carrefour_attr_sizes)] w):GF w∧GZ w:=by
  constructor
  · have hT:=Lib.tabIs_of_head (zs:=[0,64,64,64,128,64,64,192,192]) (k:=.i64) (show Tryz.prog.globalNamed "carrefour/attr.flags" = some 0 by kernel_rfl) (show (Tryz.prog.globals[0]?).map (·.type)=some 179 by kernel_rfl) Tryz.underlying179 Tryz.underlying3 Es Es hL
    intro i hi
    have:=hT.cell (show Tryz.prog.globalNamed "carrefour/attr.flags" = some 0 by kernel_rfl) i hi
    match i,hi with
    | 0,_|1,_|2,_|3,_|4,_|5,_|6,_|7,_|8,_=>exact this
  · have hT:=Lib.tabIs_of_head (zs:=[0,1, -1,4,4,4,0,6, -1]) (k:=.i64) (show Tryz.prog.globalNamed "carrefour/attr.sizes" = some 2 by kernel_rfl) (show (Tryz.prog.globals[2]?).map (·.type)=some 179 by kernel_rfl) Tryz.underlying179 Tryz.underlying3 Es Es (X7 hL)
    intro i hi
    have:=hT.cell (show Tryz.prog.globalNamed "carrefour/attr.sizes" = some 2 by kernel_rfl) i hi
    match i,hi with
    | 0,_|1,_|2,_|3,_|4,_|5,_|6,_|7,_|8,_=>exact this

structure CnL where
  st:Int
  rd:RdL
  hold:Int
  id:Int
structure PeL where
  asn:Int
  id:Int
  their:Int
  hold:Int
  retry:Int
  gC:Nat
  base:Int
  c0:CnL
  c1:CnL
def PeL.cells (p:PeL):List Value:=[.int .i64 p.asn, .int .u32 p.id, .int .i64 p.their, .int .i64 p.hold, .int .i64 p.retry, .pointer (some ⟨p.gC,0,none⟩), .int .i64 p.base,
  .int .i64 p.c0.st, .slice p.c0.rd.ad p.c0.rd.wait.length p.c0.rd.cap, .int .i64 p.c0.rd.count, .int .i64 p.c0.rd.fc, .int .i64 p.c0.rd.fs, .string p.c0.rd.fd, .int .i64 p.c0.hold, .int .u32 p.c0.id,
  .int .i64 p.c1.st, .slice p.c1.rd.ad p.c1.rd.wait.length p.c1.rd.cap, .int .i64 p.c1.rd.count, .int .i64 p.c1.rd.fc, .int .i64 p.c1.rd.fs, .string p.c1.rd.fd, .int .i64 p.c1.hold, .int .u32 p.c1.id]
structure CnM where
  st:Int
  wait:List Int
  count:Int
  fc:Int
  fs:Int
  fd:ByteArray
  hold:Int
  id:Int
def CnM.zero:CnM:=⟨0,[],0,0,0,⟨#[]⟩,0,0⟩
structure Se where
  asn:Int
  id:Int
  their:Int
  hold:Int
  retry:Int
  base:Int
  c0:CnM
  c1:CnM
  now:Int
  D:List Int
def CnL.m (c:CnL):CnM:=⟨c.st,c.rd.wait,c.rd.count,c.rd.fc,c.rd.fs,c.rd.fd,c.hold,c.id⟩
def PeL.se (p:PeL) (now:Int) (D:List Int):Se:=⟨p.asn,p.id,p.their,p.hold,p.retry,p.base,p.c0.m,p.c1.m,now,D⟩
def Se.c (s:Se) (n:Nat):CnM:=if n=0 then s.c0 else s.c1
def Se.set (s:Se) (n:Nat) (c:CnM):Se:=if n=0 then { s with c0:=c } else { s with c1:=c }
structure EfD where
  kind:Int
  conn:Int
  bs:List Int
  m:MsD
structure EfL where
  kind:Int
  conn:Int
  ad:Option Addr
  cap:Nat
  bs:List Int
  m:MsL
def EfL.d (e:EfL):EfD:=⟨e.kind,e.conn,e.bs,e.m.d⟩
def EfL.cells (e:EfL):List Value:=.int .i64 e.kind::.int .i64 e.conn::.slice e.ad e.bs.length e.cap::e.m.cells
def Hu (es:List EfL):List Value:=es.flatMap EfL.cells
structure S9 (K:List Ent) (e:EfL):Prop where
  bytes:∃ E,BV e.ad e.cap e.bs E∧∀ x∈E,x∈K
def ef (k c:Int):EfD:=⟨k,c,[],(MsL.zero 0).d⟩
def FB:Int:=1073741824
def Se.due (s:Se) (n:Nat) (later:Int):Se:={ s with D:=s.D.set n (if FB≤s.now∧n≠1∧n≠2 then -1 else min (s.now+later) FB) }
def Se.JW (s:Se):Se:={ s with base:=1 }.due 0 s.retry
def Se.cut (s:Se) (n:Nat):Se:={ s.set n CnM.zero with D:=(s.D.set (1+n) (-1)).set (3+n) (-1) }
def Se.gone (s:Se) (n:Nat):Se:=if s.base≠0∧(s.c (1-n)).st=0 then { s.cut n with base:=if s.base=1 then 1 else 2 }.due 0 s.retry else s.cut n
def IA (s:Se) (n:Nat):List EfD:=if (s.c n).st=5 then [ef 5 0] else []
def FN (n:Int) (m:MsL):List EfD:=if Gr m=0 then [⟨2,n,DG m,(MsL.zero 0).d⟩] else []
def Hy (s:Se) (n:Nat):List EfD:=ef 3 n::IA s n
def I5 (C S:Int) (d:ByteArray):MsL:={ MsL.zero 3 with fc:=C,fs:=S,fd:=d }
def DW (s:Se) (n:Nat) (C S:Int) (d:ByteArray):List EfD:=(if C=0 then [] else FN n (I5 C S d))++Hy s n
def Se.Ok (s:Se):Prop:=(1≤s.retry∧s.retry≤65535)∧(0≤s.hold∧s.hold≤65535)∧(0≤s.base∧s.base≤2)∧(0≤s.now∧s.now≤FB)∧s.D.length=5∧(∀ t∈s.D,t = -1∨s.now≤t∧t≤FB)∧U32 s.id
def CnM.Ok (c:CnM):Prop:=(c.st=0∨3≤c.st∧c.st≤5)∧c.wait.length≤4096∧(0≤c.count∧c.count≤4000000000000000000)∧(0≤c.hold∧c.hold≤65535)∧U32 c.id
structure BO (g:Nat) (p:PeL) (s:Se) (E0 E1:List Ent) (d:Ck):Prop where
  eq:p.se s.now s.D=s
  ok:s.Ok
  ok0:s.c0.Ok
  ok1:s.c1.Ok
  v0:BV p.c0.rd.ad p.c0.rd.cap p.c0.rd.wait E0
  v1:BV p.c1.rd.ad p.c1.rd.cap p.c1.rd.wait E1
  b0:Bys p.c0.rd.wait
  b1:Bys p.c1.rd.wait
  bag:Bag d (Hh 0 s.D)
def K9 (ad:Option Addr) (c:Nat) (es:List EfL) (E K:List Ent):Prop:=Vec 23 ad es.length c (Hu es) E∧∀ e∈es,S9 K e
structure PS where
  p:PeL
  E0:List Ent
  E1:List Ent
  d:Ck
  ad:Option Addr
  c:Nat
  fs:List EfL
  E:List Ent
  K:List Ent
def PS.L (y:PS) (g:Nat) (now:Int) (L:List Ent):List Ent:=y.E++(y.K++(.row g y.p.cells::(y.E0++(y.E1++y.d.L y.p.gC now L))))
theorem St.AX {p:Nat→Prop}{w0 w:World}{L L':List Ent}(hS:St p w0 w L) (h:∀ (c:Ent→List Ent→Nat) (k:Ent→Ent→Nat),(∀ e a l,c e (a::l)=c e l+k e a)→(∀ e l r,c e (l++r)=c e l+c e r)→(∀ e,c e []=0)→∀ e,c e L=c e L':=by intro c k h1 h2 h3 e;simp only [PS.L,Ck.L,Kj,h1,h2,h3] <;> omega):St p w0 w L':=hS.perm (by
  classical
  exact List.perm_iff_count.2 fun e=>(h (fun e l=>l.count e) (fun e a=>if a == e then 1 else 0) (fun _ _ _=>List.count_cons) (fun _ _ _=>List.count_append) (fun _=>List.count_nil) e).symm)
theorem St.CE {p:Nat→Prop}{w0 w:World}{L L':List Ent}(Z:List Ent) (hS:St p w0 w L) (h:∀ (c:Ent→List Ent→Nat) (k:Ent→Ent→Nat),(∀ e a l,c e (a::l)=c e l+k e a)→(∀ e l r,c e (l++r)=c e l+c e r)→(∀ e,c e []=0)→∀ e,c e L=c e (L'++Z):=by intro c k h1 h2 h3 e;simp only [PS.L,Ck.L,Kj,h1,h2,h3] <;> omega):St p w0 w L' :=
  (hS.AX (L':=L'++Z) h).sub (List.sublist_append_left _ _)
theorem Se.VS (s:Se) (n:Nat) (later:Int):(s.due n later).D=s.D.set n (if FB≤s.now∧n≠1∧n≠2 then -1 else min (s.now+later) FB):=rfl
theorem due_ok {s:Se}(h:s.Ok) (n:Nat) (later:Int) (hl:0≤later):(s.due n later).Ok:=by
  obtain ⟨h1,h2,h3,h4,h5,h6,h7⟩:=h
  refine ⟨h1,h2,h3,h4,(List.length_set ..).trans h5,fun t ht=>?_,h7⟩
  rcases List.mem_or_eq_of_mem_set ht with h|h
  · exact h6 t h
  · have e:(s.due n later).now=s.now:=rfl
    rw [e,h]
    unfold FB at *
    split
    · exact .inl rfl
    · right;omega
section Gq
attribute [local irreducible] WL WC WE WQ WP WH WR WM WRH

theorem BO.due {g:Nat}{p:PeL}{s:Se}{E0 E1:List Ent}{d d':Ck}(hA:BO g p s E0 E1 d) (n:Nat) (later:Int) (hl:0≤later) (hb:Bag d' (Hh 0 (s.due n later).D)):BO g p (s.due n later) E0 E1 d' :=
  ⟨congrArg (fun z:Se=>{ z with D:=(s.due n later).D }) hA.eq,due_ok hA.ok n later hl,hA.ok0,hA.ok1,hA.v0,hA.v1,hA.b0,hA.b1,hb⟩
theorem KQ (w0 w:World) (g:Nat) (p:PeL) (s:Se) (E0 E1 L:List Ent) (d:Ck) (hA:BO g p s E0 E1 d) (hS0:St (fun _=>False) w0 w (.row g p.cells::(E0++(E1++d.L p.gC s.now L)))) (n:Nat) (hn:n<5) (later:Int) (hl:0≤later∧later≤65535) :
    Calls Tryz.prog 53 #[.pointer (some ⟨g,0,none⟩), .int .i64 n, .int .i64 later] w fun e w'=>∃ d',e = .returned (.tuple #[])∧BO g p (s.due n later) E0 E1 d'∧St (fun _=>False) w0 w' (.row g p.cells::(E0++(E1++d'.L p.gC s.now L))):=by
  have hnow:=hA.ok.2.2.2.1
  have hD5:=hA.ok.2.2.2.2.1
  unfold FB at hnow
  refine enter Tryz.func53 rfl Tryz.ntmps53 rfl hS0 ?_
  refine J6 ?_
  refine zk Y0 rfl (fun w hS=>Zx (hS.row (g:=p.gC))) ?_
  refine J6 ?_
  refine JT (fun h14=>?_) (fun h14=>?_)
  refine J11 ?_
  refine JT (fun h20=>?_) (fun h20=>?_)
  exact Ae
  exact Ae
  refine J2 ?_
  refine JT (fun h17=>?_) (fun h17=>?_)
  refine J8 ?_
  refine JT (fun h20=>?_) (fun h20=>?_)
  exact Ae
  exact Ae
  refine J8 ?_
  refine JT (fun h20=>?_) (fun h20=>?_)
  refine J14 ?_
  refine zK KV rfl ?_
  intro w1 hS
  refine (IG (now:=s.now) (R:=.row g p.cells::(E0++(E1++L))) (hS.AX) hA.bag n Er).mono ?_
  rintro e w' ⟨b,d',rfl,hb',hS'⟩
  refine ⟨_, .row g p.cells::(E0++(E1++d'.L p.gC s.now L)),rfl,hS'.AX,?_⟩
  refine J4 ?_
  refine WE.KX (P:=Tryz.prog) (.inl rfl) Tryz.results53  ?_
  have e0:(s.due n later).D=s.D.set n (-1):=(by rw [Se.VS,if_pos (by unfold FB;omega)])
  exact fun w' h=>⟨d',rfl,hA.due n later hl.1 (by rw [e0];exact hb'),h⟩
  exact Ae
def efZ (k c:Int):EfL:=⟨k,c,none,0,[],MsL.zero 0⟩
theorem M5 (K:List Ent) (k c:Int):S9 K (efZ k c):=⟨⟨[],Vec.nil 1,fun _ h=>by cases h⟩⟩
theorem Jo {g:Nat}(k c:Int):K9 (some ⟨g,0,none⟩) 1 [efZ k c] [.row g (efZ k c).cells] []:=⟨Vec.row (k:=1) (c:=1) rfl rfl (Nat.le_refl _),fun e he=>by
  obtain rfl:=List.mem_singleton.1 he
  exact M5 _ _ _⟩
def G2 (w0 w':World) (g:Nat) (es:List EfD) (s':Se) (L:List Ent) (e:Ending):Prop :=
  ∃ ad c fs E K p' E0' E1' d',e = .returned (.slice ad fs.length c)∧K9 ad c fs E K∧fs.map EfL.d=es∧BO g p' s' E0' E1' d'∧St (fun _=>False) w0 w' (E++(K++(.row g p'.cells::(E0'++(E1'++d'.L p'.gC s'.now L)))))
theorem Aaf (w0 w:World) (g:Nat) (p:PeL) (s:Se) (E0 E1 L:List Ent) (d:Ck) (hA:BO g p s E0 E1 d) (hS0:St (fun _=>False) w0 w (.row g p.cells::(E0++(E1++d.L p.gC s.now L)))) :
    Calls Tryz.prog 50 #[.pointer (some ⟨g,0,none⟩)] w fun e w'=>G2 w0 w' g [ef 1 0] s.JW L e:=by
  have hretry:=hA.ok.1
  have hr0:p.retry=s.retry:=(congrArg Se.retry hA.eq :)
  refine enter Tryz.func50 rfl Tryz.ntmps50 rfl hS0 ?_
  refine J11 ?_
  refine WL.as (L':=.row g ({ p with base:=1 }:PeL).cells::(E0++(E1++d.L p.gC s.now L))) rfl ?_
  have hA1:BO g { p with base:=1 } { s with base:=1 } E0 E1 d:=⟨congrArg (fun z:Se=>{ z with base:=1 }) hA.eq,⟨hA.ok.1,hA.ok.2.1,by dsimp only;omega,hA.ok.2.2.2⟩,hA.ok0,hA.ok1,hA.v0,hA.v1,hA.b0,hA.b1,hA.bag⟩
  refine J10 ?_
  refine zK KT rfl ?_
  intro w1 hS
  refine (KQ w0 w1 g { p with base:=1 } { s with base:=1 } E0 E1 L d hA1 hS 0 Er p.retry Er).mono ?_
  rintro e w' ⟨d',rfl,hA',hS'⟩
  refine ⟨_,_,rfl,hS',?_⟩
  refine J5 ?_
  refine zB Tryz.underlying46 DI BT rfl rfl ?_
  intro g14 hg14
  refine J4 ?_
  refine eT1 ?_
  refine fun w' h=>⟨_,1,[efZ 1 0],_,[],_,E0,E1,d',rfl,Jo 1 0,rfl,?_,h⟩
  have key:({ s with base:=1 }:Se).due 0 p.retry=s.JW:=(by unfold Se.JW;rw [hr0])
  rw [key] at hA'
  exact hA'

def PeL.c (p:PeL) (n:Nat):CnL:=if n=0 then p.c0 else p.c1
def CnL.zero:CnL:=⟨0,⟨none,0,[],0,0,0,⟨#[]⟩⟩,0,0⟩
def PeL.Hb (p:PeL) (n:Nat):PeL:=if n=0 then { p with c0:=CnL.zero } else { p with c1:=CnL.zero }
theorem Gu (w:World) (g:Nat) (p:PeL) (hR:Row w g p.cells) (n:Nat) (hn:n<2):Calls Tryz.prog 51 #[.pointer (some ⟨g,0,none⟩), .int .i64 n] w fun e w'=>e = .returned (.bool (decide ((p.c n).st≠0)))∧Frm (fun _=>False) w w':=by
  have hst:p.cells[7+n*8]?=some (.int .i64 (p.c n).st):=by
    match n,hn with
    | 0,_=>rfl
    | 1,_=>rfl
  refine enter Tryz.func51 rfl Tryz.ntmps51 rfl (St.start (fun _=>False) w) ?_
  refine J8 ?_
  refine zV (NB true rfl rfl Tryz.underlying40 rfl) rfl ?_
  refine J2 ?_
  refine JT (fun h9=>?_) (fun h9=>?_)
  refine J10 ?_
  exact Bk
  refine J2 ?_
  refine zS ((AZ rfl rfl rfl).t (Er)) rfl ?_
  refine J7 ?_
  exact Bk
theorem Qr (w:World) (g:Nat) (n:Int) (hn:n≠0∧n≠1):Calls Tryz.prog 51 #[.pointer (some ⟨g,0,none⟩), .int .i64 n] w fun e w'=>e = .returned (.bool false)∧Frm (fun _=>False) w w':=by
  refine enter Tryz.func51 rfl Tryz.ntmps51 rfl (St.start (fun _=>False) w) ?_
  refine J8 ?_
  refine zV (NB true rfl rfl Tryz.underlying40 rfl) rfl ?_
  refine J2 ?_
  refine zS ((AZ rfl rfl rfl).f (hn.1)) rfl ?_
  refine J2 ?_
  refine zS ((AZ rfl rfl rfl).f (hn.2)) rfl ?_
  refine J16 ?_
  exact A9
theorem Z2 {s:Se}(h:s.Ok) (n:Nat) (_hn:n<2):(s.cut n).Ok:=by
  obtain ⟨h1,h2,h3,h4,h5,h6,h7⟩:=h
  have e:(s.cut n).retry=s.retry∧(s.cut n).hold=s.hold∧(s.cut n).base=s.base∧(s.cut n).now=s.now∧(s.cut n).id=s.id:=by
    unfold Se.cut Se.set
    split <;> exact ⟨rfl,rfl,rfl,rfl,rfl⟩
  have eD:(s.cut n).D=(s.D.set (1+n) (-1)).set (3+n) (-1):=rfl
  obtain ⟨e1,e2,e3,e4,e5⟩:=e
  unfold Se.Ok
  rw [e1,e2,e3,e4,e5,eD]
  refine ⟨h1,h2,h3,h4,by rw [List.length_set,List.length_set];exact h5,fun t ht=>?_,h7⟩
  rcases List.mem_or_eq_of_mem_set ht with h|h
  · rcases List.mem_or_eq_of_mem_set h with h|h
    · exact h6 t h
    · exact .inl h
  · exact .inl h
theorem Se.Ti {s:Se}{b:Int}(h:s.base=b):{ s with base:=b }=s:=by subst h;rfl
theorem DE (s:Se) (n:Nat):(s.cut n).base=s.base∧(s.cut n).now=s.now∧(s.cut n).retry=s.retry:=by
  unfold Se.cut Se.set
  split <;> exact ⟨rfl,rfl,rfl⟩
theorem JE {s:Se}{n:Nat}(h1:s.base≠0) (h2:(s.c (1-n)).st=0):s.gone n=({ s.cut n with base:=if s.base=1 then 1 else 2 }:Se).due 0 s.retry:=if_pos ⟨h1,h2⟩
theorem KN {s:Se}{n:Nat}(h:¬ (s.base≠0∧(s.c (1-n)).st=0)):s.gone n=s.cut n:=if_neg h
theorem BP (s:Se) (n:Nat):(s.gone n).now=s.now:=by
  unfold Se.gone
  split
  · exact (DE s n).2.1
  · exact (DE s n).2.1
theorem BO.base {g:Nat}{p:PeL}{s:Se}{E0 E1:List Ent}{d:Ck}(hA:BO g p s E0 E1 d) (b:Int) (hb:0≤b∧b≤2):BO g { p with base:=b } { s with base:=b } E0 E1 d :=
  ⟨congrArg (fun z:Se=>{ z with base:=b }) hA.eq,⟨hA.ok.1,hA.ok.2.1,hb,hA.ok.2.2.2⟩,hA.ok0,hA.ok1,hA.v0,hA.v1,hA.b0,hA.b1,hA.bag⟩
theorem MJ:CnM.zero.Ok:=⟨.inl rfl,Nat.zero_le _,⟨Int.le_refl _,by decide⟩,⟨Int.le_refl _,by decide⟩,⟨Int.le_refl _,by decide⟩⟩
set_option maxHeartbeats 1000000 in
theorem VA (w0 w:World) (g:Nat) (p:PeL) (s:Se) (E0 E1 L:List Ent) (d:Ck) (hA:BO g p s E0 E1 d) (hS0:St (fun _=>False) w0 w (.row g p.cells::(E0++(E1++d.L p.gC s.now L)))) :
    Calls Tryz.prog 59 #[.pointer (some ⟨g,0,none⟩), .int .i64 0] w fun e w'=>G2 w0 w' g (IA s 0) (s.gone 0) L e:=by
  have hretry:=hA.ok.1
  have hbase:=hA.ok.2.2.1
  have hD5:=hA.ok.2.2.2.2.1
  have hr0:p.retry=s.retry:=(congrArg Se.retry hA.eq :)
  have hb0:p.base=s.base:=(congrArg Se.base hA.eq :)
  have hc0:p.c0.m=s.c0:=(congrArg Se.c0 hA.eq :)
  have hc1:p.c1.m=s.c1:=(congrArg Se.c1 hA.eq :)
  have hstn:p.c0.st=(s.c 0).st:=(congrArg CnM.st hc0 :)
  have hstm:p.c1.st=(s.c 1).st:=(congrArg CnM.st hc1 :)
  refine enter Tryz.func59 rfl Tryz.ntmps59 rfl hS0 ?_
  refine J11 ?_
  refine zV (AT (lo:=0) rfl rfl rfl Tryz.underlying104 DD Er Er) rfl ?_
  refine J1 ?_
  refine zV (AA rfl rfl AK (cellAt (v:=.int .i64 p.c0.st) rfl)) rfl ?_
  refine J10 ?_
  refine zV (AT (lo:=0) rfl rfl rfl Tryz.underlying104 DD Er Er) rfl ?_
  refine WL.H3 rfl rfl rfl rfl Nc rfl Fb (.none rfl) rfl ?_
  refine WL.as (L':=.row g (p.Hb 0).cells::(E0++(E1++d.L p.gC s.now L))) rfl ?_
  refine J9 ?_
  refine zV (AS rfl rfl rfl (show _=(1:Int) from AF Et Et)) rfl ?_
  refine zK KV rfl ?_
  intro w1 hS
  refine (IG (gC:=p.gC) (now:=s.now) (R:=.row g (p.Hb 0).cells::(E0++(E1++L))) (hS.AX ) hA.bag 1 Er).mono ?_
  rintro e w' ⟨b1,d1,rfl,hb1,hS'⟩
  refine ⟨_, .row g (p.Hb 0).cells::(E0++(E1++d1.L p.gC s.now L)),rfl,hS'.AX ,?_⟩
  refine J9 ?_
  refine zV (AS rfl rfl rfl (show _=(3:Int) from AF Et Et)) rfl ?_
  refine zK KV rfl ?_
  intro w1 hS
  refine (IG (gC:=p.gC) (now:=s.now) (R:=.row g (p.Hb 0).cells::(E0++(E1++L))) (hS.AX ) hb1 3 Fj).mono ?_
  rintro e w' ⟨b2,d2,rfl,hb2,hS'⟩
  refine ⟨_, .row g (p.Hb 0).cells::([]++(E1++d2.L p.gC s.now L)),rfl,St.CE E0 hS' ,?_⟩
  have hA2:BO g (p.Hb 0) (s.cut 0) [] E1 d2:=(by
    refine ⟨?_,Z2 hA.ok 0 Et,?_,?_,?_,?_,?_,?_,hb2⟩
    · have:=congrArg (fun z:Se=>z.cut 0) hA.eq
      exact this
    all_goals first|exact MJ|exact hA.ok0|exact hA.ok1|exact Vec.nil 1|exact hA.v0|exact hA.v1|exact Bys.nil|exact hA.b0|exact hA.b1)
  refine J2 ?_
  refine WC.cut (fun _:PeL×Ck=>[(5, .int .i64 p.c0.st)]) (fun y=>.row g y.1.cells::([]++(E1++y.2.L y.1.gC s.now L))) (fun y=>BO g y.1 (s.gone 0) [] E1 y.2) ?_ ?_
  refine J6 ?_
  refine JT (fun h37=>?_) (fun h37=>?_)
  refine J3 ?_
  refine zS (EM rfl rfl rfl (show _=(1:Int) from AF Et Et)) rfl ?_
  refine zk HI rfl (fun w hS=>Gu w g (p.Hb 0) (hS.row (g:=g)) 1 Et) ?_
  generalize hth:decide (((p.Hb 0).c 1).st≠0)=b42
  cases b42
  refine J12 ?_
  refine JT (fun h49=>?_) (fun h49=>?_)
  refine J8 ?_
  refine WL.as (L':=.row g ({ p.Hb 0 with base:=2 }:PeL).cells::([]++(E1++d2.L p.gC s.now L))) rfl ?_
  refine J9 ?_
  refine zK KT rfl ?_
  intro w1 hS
  have hcb:=DE s 0
  have hz:(s.c 1).st=0:=hstm.symm.trans (Decidable.of_not_not (of_decide_eq_false hth))
  have hb1:s.base≠1:=(by rw [← hb0];exact h49)
  have hbz:s.base≠0:=(by rw [← hb0];exact h37)
  have h:=KQ w0 w1 g { p.Hb 0 with base:=2 } { s.cut 0 with base:=2 } [] E1 L d2 (hA2.base 2 Er) (by show St _ _ _ (_::(_++(_++d2.L p.gC (s.cut 0).now L)));rw [hcb.2.1];exact hS) 0 Er p.retry Er
  refine h.mono ?_
  rintro e w' ⟨d3,rfl,hA3,hS'⟩
  rw [hr0,show ({ s.cut 0 with base:=2 }:Se).due 0 s.retry=s.gone 0 by rw [JE hbz hz,if_neg hb1]] at hA3
  refine ⟨_, .row g ({ p.Hb 0 with base:=2 }:PeL).cells::([]++(E1++d3.L p.gC s.now L)),rfl,Gd,?_⟩
  refine J1 ?_
  exact eM ({ p.Hb 0 with base:=2 },d3) hA3
  refine J12 ?_
  refine zK KT rfl ?_
  intro w1 hS
  have hcb:=DE s 0
  have hz:(s.c 1).st=0:=hstm.symm.trans (Decidable.of_not_not (of_decide_eq_false hth))
  have hb1:s.base=1:=(by rw [← hb0];exact Decidable.of_not_not h49)
  have h:=KQ w0 w1 g (p.Hb 0) (s.cut 0) [] E1 L d2 hA2 (by rw [hcb.2.1];exact hS) 0 Er p.retry Er
  refine h.mono ?_
  rintro e w' ⟨d3,rfl,hA3,hS'⟩
  rw [hr0,show (s.cut 0).due 0 s.retry=s.gone 0 by rw [JE Er hz,if_pos hb1,Se.Ti (hcb.1.trans hb1)]] at hA3
  refine ⟨_, .row g (p.Hb 0).cells::([]++(E1++d3.L p.gC s.now L)),rfl,Gd,?_⟩
  refine J1 ?_
  exact eM (p.Hb 0,d3) hA3
  refine J6 ?_
  exact eM (p.Hb 0,d2) (by dsimp only;rw [KN (fun hh=>of_decide_eq_true hth (hstm.trans hh.2))];exact hA2)
  refine J5 ?_
  generalize hth:decide (((p.Hb 0).c 1).st≠0)=b42
  cases b42
  exact Cw
  exact Cw
  rintro ⟨p3,d3⟩ hA3
  dsimp only at hA3
  dsimp only
  refine J4 ?_
  refine JT (fun h61=>?_) (fun h61=>?_)
  refine J10 ?_
  refine eT1 ?_
  exact fun w' h=>⟨none,0,[],[],[],p3,[],E1,d3,rfl,⟨Vec.nil 23,fun e he=>by cases he⟩,by unfold IA;rw [if_neg Er];rfl,hA3,by rw [BP];exact h⟩
  refine J8 ?_
  refine zB Tryz.underlying46 DI BT rfl rfl ?_
  intro g63 hg63
  refine J4 ?_
  refine eT1 ?_
  exact fun w' h=>⟨_,1,[efZ 5 0],_,[],p3,[],E1,d3,rfl,Jo 5 0,by unfold IA;rw [if_pos Er];rfl,hA3,by rw [BP];exact h⟩
set_option maxHeartbeats 1000000 in
theorem Vu (w0 w:World) (g:Nat) (p:PeL) (s:Se) (E0 E1 L:List Ent) (d:Ck) (hA:BO g p s E0 E1 d) (hS0:St (fun _=>False) w0 w (.row g p.cells::(E0++(E1++d.L p.gC s.now L)))) :
    Calls Tryz.prog 59 #[.pointer (some ⟨g,0,none⟩), .int .i64 1] w fun e w'=>G2 w0 w' g (IA s 1) (s.gone 1) L e:=by
  have hretry:=hA.ok.1
  have hbase:=hA.ok.2.2.1
  have hD5:=hA.ok.2.2.2.2.1
  have hr0:p.retry=s.retry:=(congrArg Se.retry hA.eq :)
  have hb0:p.base=s.base:=(congrArg Se.base hA.eq :)
  have hc0:p.c0.m=s.c0:=(congrArg Se.c0 hA.eq :)
  have hc1:p.c1.m=s.c1:=(congrArg Se.c1 hA.eq :)
  have hstn:p.c1.st=(s.c 1).st:=(congrArg CnM.st hc1 :)
  have hstm:p.c0.st=(s.c 0).st:=(congrArg CnM.st hc0 :)
  refine enter Tryz.func59 rfl Tryz.ntmps59 rfl hS0 ?_
  refine J11 ?_
  refine zV (AT (lo:=1) rfl rfl rfl Tryz.underlying104 DD Er Er) rfl ?_
  refine J1 ?_
  refine zV (AA rfl rfl AK (cellAt (v:=.int .i64 p.c1.st) rfl)) rfl ?_
  refine J10 ?_
  refine zV (AT (lo:=1) rfl rfl rfl Tryz.underlying104 DD Er Er) rfl ?_
  refine WL.H3 rfl rfl rfl rfl Nc rfl Fb (.none rfl) rfl ?_
  refine WL.as (L':=.row g (p.Hb 1).cells::(E0++(E1++d.L p.gC s.now L))) rfl ?_
  refine J9 ?_
  refine zV (AS rfl rfl rfl (show _=(2:Int) from AF Et Et)) rfl ?_
  refine zK KV rfl ?_
  intro w1 hS
  refine (IG (gC:=p.gC) (now:=s.now) (R:=.row g (p.Hb 1).cells::(E0++(E1++L))) (hS.AX ) hA.bag 2 Er).mono ?_
  rintro e w' ⟨b1,d1,rfl,hb1,hS'⟩
  refine ⟨_, .row g (p.Hb 1).cells::(E0++(E1++d1.L p.gC s.now L)),rfl,hS'.AX ,?_⟩
  refine J9 ?_
  refine zV (AS rfl rfl rfl (show _=(4:Int) from AF Et Et)) rfl ?_
  refine zK KV rfl ?_
  intro w1 hS
  refine (IG (gC:=p.gC) (now:=s.now) (R:=.row g (p.Hb 1).cells::(E0++(E1++L))) (hS.AX ) hb1 4 Fj).mono ?_
  rintro e w' ⟨b2,d2,rfl,hb2,hS'⟩
  refine ⟨_, .row g (p.Hb 1).cells::(E0++([]++d2.L p.gC s.now L)),rfl,St.CE E1 hS' ,?_⟩
  have hA2:BO g (p.Hb 1) (s.cut 1) E0 [] d2:=(by
    refine ⟨?_,Z2 hA.ok 1 Et,?_,?_,?_,?_,?_,?_,hb2⟩
    · have:=congrArg (fun z:Se=>z.cut 1) hA.eq
      exact this
    all_goals first|exact MJ|exact hA.ok0|exact hA.ok1|exact Vec.nil 1|exact hA.v0|exact hA.v1|exact Bys.nil|exact hA.b0|exact hA.b1)
  refine J2 ?_
  refine WC.cut (fun _:PeL×Ck=>[(5, .int .i64 p.c1.st)]) (fun y=>.row g y.1.cells::(E0++([]++y.2.L y.1.gC s.now L))) (fun y=>BO g y.1 (s.gone 1) E0 [] y.2) ?_ ?_
  refine J6 ?_
  refine JT (fun h37=>?_) (fun h37=>?_)
  refine J3 ?_
  refine zS (EM rfl rfl rfl (show _=(0:Int) from AF Et Et)) rfl ?_
  refine zk HI rfl (fun w hS=>Gu w g (p.Hb 1) (hS.row (g:=g)) 0 Et) ?_
  generalize hth:decide (((p.Hb 1).c 0).st≠0)=b42
  cases b42
  refine J12 ?_
  refine JT (fun h49=>?_) (fun h49=>?_)
  refine J8 ?_
  refine WL.as (L':=.row g ({ p.Hb 1 with base:=2 }:PeL).cells::(E0++([]++d2.L p.gC s.now L))) rfl ?_
  refine J9 ?_
  refine zK KT rfl ?_
  intro w1 hS
  have hcb:=DE s 1
  have hz:(s.c 0).st=0:=hstm.symm.trans (Decidable.of_not_not (of_decide_eq_false hth))
  have hb1:s.base≠1:=(by rw [← hb0];exact h49)
  have hbz:s.base≠0:=(by rw [← hb0];exact h37)
  have h:=KQ w0 w1 g { p.Hb 1 with base:=2 } { s.cut 1 with base:=2 } E0 [] L d2 (hA2.base 2 Er) (by show St _ _ _ (_::(_++(_++d2.L p.gC (s.cut 1).now L)));rw [hcb.2.1];exact hS) 0 Er p.retry Er
  refine h.mono ?_
  rintro e w' ⟨d3,rfl,hA3,hS'⟩
  rw [hr0,show ({ s.cut 1 with base:=2 }:Se).due 0 s.retry=s.gone 1 by rw [JE hbz hz,if_neg hb1]] at hA3
  refine ⟨_, .row g ({ p.Hb 1 with base:=2 }:PeL).cells::(E0++([]++d3.L p.gC s.now L)),rfl,Gd,?_⟩
  refine J1 ?_
  exact eM ({ p.Hb 1 with base:=2 },d3) hA3
  refine J12 ?_
  refine zK KT rfl ?_
  intro w1 hS
  have hcb:=DE s 1
  have hz:(s.c 0).st=0:=hstm.symm.trans (Decidable.of_not_not (of_decide_eq_false hth))
  have hb1:s.base=1:=(by rw [← hb0];exact Decidable.of_not_not h49)
  have h:=KQ w0 w1 g (p.Hb 1) (s.cut 1) E0 [] L d2 hA2 (by rw [hcb.2.1];exact hS) 0 Er p.retry Er
  refine h.mono ?_
  rintro e w' ⟨d3,rfl,hA3,hS'⟩
  rw [hr0,show (s.cut 1).due 0 s.retry=s.gone 1 by rw [JE Er hz,if_pos hb1,Se.Ti (hcb.1.trans hb1)]] at hA3
  refine ⟨_, .row g (p.Hb 1).cells::(E0++([]++d3.L p.gC s.now L)),rfl,Gd,?_⟩
  refine J1 ?_
  exact eM (p.Hb 1,d3) hA3
  refine J6 ?_
  exact eM (p.Hb 1,d2) (by dsimp only;rw [KN (fun hh=>of_decide_eq_true hth (hstm.trans hh.2))];exact hA2)
  refine J5 ?_
  generalize hth:decide (((p.Hb 1).c 0).st≠0)=b42
  cases b42
  exact Cv
  exact Cv
  rintro ⟨p3,d3⟩ hA3
  dsimp only at hA3
  dsimp only
  refine J4 ?_
  refine JT (fun h61=>?_) (fun h61=>?_)
  refine J10 ?_
  refine eT1 ?_
  exact fun w' h=>⟨none,0,[],[],[],p3,E0,[],d3,rfl,⟨Vec.nil 23,fun e he=>by cases he⟩,by unfold IA;rw [if_neg Er];rfl,hA3,by rw [BP];exact h⟩
  refine J8 ?_
  refine zB Tryz.underlying46 DI BT rfl rfl ?_
  intro g63 hg63
  refine J4 ?_
  refine eT1 ?_
  exact fun w' h=>⟨_,1,[efZ 5 0],_,[],p3,E0,[],d3,rfl,Jo 5 0,by unfold IA;rw [if_pos Er];rfl,hA3,by rw [BP];exact h⟩
end Gq

theorem Sw (a:Int):BM a 4=[a / 16777216 % 256,a / 65536 % 256,a / 256 % 256,a % 256]:=by
  show [a / 2 ^ 24 % 256,a / 2 ^ 16 % 256,a / 2 ^ 8 % 256,a / 2 ^ 0 % 256]=_
  rw [show (2:Int) ^ 24=16777216 by decide,show (2:Int) ^ 16=65536 by decide,show (2:Int) ^ 8=256 by decide,show (2:Int) ^ 0=1 by decide,Int.ediv_one]
set_option maxHeartbeats 4000000 in
theorem netJ (k:Nat) (h1:1≤k) (h2:k≤32) (a J:Int) (ha:0≤a∧a≤4294967295) (hc:a=EK a k) (hJ:0≤J∧J<2 ^ (8-((k-1) % 8+1))) :
    fOf (FH a ((k+7) / 8)) ((k+7) / 8-1) % 2 ^ (8-((k-1) % 8+1))=0∧EK (GC ((FH a ((k+7) / 8)).set ((k+7) / 8-1) (fOf (FH a ((k+7) / 8)) ((k+7) / 8-1)+J))) k=a:=by
  unfold FH
  rw [Sw]
  obtain rfl|rfl|rfl|rfl|rfl|rfl|rfl|rfl|rfl|rfl|rfl|rfl|rfl|rfl|rfl|rfl|rfl|rfl|rfl|rfl|rfl|rfl|rfl|rfl|rfl|rfl|rfl|rfl|rfl|rfl|rfl|rfl:k=1∨k=2∨k=3∨k=4∨k=5∨k=6∨k=7∨k=8∨k=9∨k=10∨k=11∨k=12∨k=13∨k=14∨k=15∨k=16∨k=17∨k=18∨k=19∨k=20∨k=21∨k=22∨k=23∨k=24∨k=25∨k=26∨k=27∨k=28∨k=29∨k=30∨k=31∨k=32:=by omega
  · have e1:∀ x:Int,EK x ((1:Nat):Int)=x-x % 2147483648:=fun _=>rfl
    have hJ2:0≤J∧J<128:=hJ
    rw [e1] at hc
    rw [e1]
    show (a / 16777216 % 256) % 128=0∧((a / 16777216 % 256+J)*16777216+0*65536+0*256+0)-((a / 16777216 % 256+J)*16777216+0*65536+0*256+0) % 2147483648=a
    omega
  · have e1:∀ x:Int,EK x ((2:Nat):Int)=x-x % 1073741824:=fun _=>rfl
    have hJ2:0≤J∧J<64:=hJ
    rw [e1] at hc
    rw [e1]
    show (a / 16777216 % 256) % 64=0∧((a / 16777216 % 256+J)*16777216+0*65536+0*256+0)-((a / 16777216 % 256+J)*16777216+0*65536+0*256+0) % 1073741824=a
    omega
  · have e1:∀ x:Int,EK x ((3:Nat):Int)=x-x % 536870912:=fun _=>rfl
    have hJ2:0≤J∧J<32:=hJ
    rw [e1] at hc
    rw [e1]
    show (a / 16777216 % 256) % 32=0∧((a / 16777216 % 256+J)*16777216+0*65536+0*256+0)-((a / 16777216 % 256+J)*16777216+0*65536+0*256+0) % 536870912=a
    omega
  · have e1:∀ x:Int,EK x ((4:Nat):Int)=x-x % 268435456:=fun _=>rfl
    have hJ2:0≤J∧J<16:=hJ
    rw [e1] at hc
    rw [e1]
    show (a / 16777216 % 256) % 16=0∧((a / 16777216 % 256+J)*16777216+0*65536+0*256+0)-((a / 16777216 % 256+J)*16777216+0*65536+0*256+0) % 268435456=a
    omega
  · have e1:∀ x:Int,EK x ((5:Nat):Int)=x-x % 134217728:=fun _=>rfl
    have hJ2:0≤J∧J<8:=hJ
    rw [e1] at hc
    rw [e1]
    show (a / 16777216 % 256) % 8=0∧((a / 16777216 % 256+J)*16777216+0*65536+0*256+0)-((a / 16777216 % 256+J)*16777216+0*65536+0*256+0) % 134217728=a
    omega
  · have e1:∀ x:Int,EK x ((6:Nat):Int)=x-x % 67108864:=fun _=>rfl
    have hJ2:0≤J∧J<4:=hJ
    rw [e1] at hc
    rw [e1]
    show (a / 16777216 % 256) % 4=0∧((a / 16777216 % 256+J)*16777216+0*65536+0*256+0)-((a / 16777216 % 256+J)*16777216+0*65536+0*256+0) % 67108864=a
    omega
  · have e1:∀ x:Int,EK x ((7:Nat):Int)=x-x % 33554432:=fun _=>rfl
    have hJ2:0≤J∧J<2:=hJ
    rw [e1] at hc
    rw [e1]
    show (a / 16777216 % 256) % 2=0∧((a / 16777216 % 256+J)*16777216+0*65536+0*256+0)-((a / 16777216 % 256+J)*16777216+0*65536+0*256+0) % 33554432=a
    omega
  · have e1:∀ x:Int,EK x ((8:Nat):Int)=x-x % 16777216:=fun _=>rfl
    have hJ2:0≤J∧J<1:=hJ
    rw [e1] at hc
    rw [e1]
    show (a / 16777216 % 256) % 1=0∧((a / 16777216 % 256+J)*16777216+0*65536+0*256+0)-((a / 16777216 % 256+J)*16777216+0*65536+0*256+0) % 16777216=a
    omega
  · have e1:∀ x:Int,EK x ((9:Nat):Int)=x-x % 8388608:=fun _=>rfl
    have hJ2:0≤J∧J<128:=hJ
    rw [e1] at hc
    rw [e1]
    show (a / 65536 % 256) % 128=0∧((a / 16777216 % 256)*16777216+(a / 65536 % 256+J)*65536+0*256+0)-((a / 16777216 % 256)*16777216+(a / 65536 % 256+J)*65536+0*256+0) % 8388608=a
    omega
  · have e1:∀ x:Int,EK x ((10:Nat):Int)=x-x % 4194304:=fun _=>rfl
    have hJ2:0≤J∧J<64:=hJ
    rw [e1] at hc
    rw [e1]
    show (a / 65536 % 256) % 64=0∧((a / 16777216 % 256)*16777216+(a / 65536 % 256+J)*65536+0*256+0)-((a / 16777216 % 256)*16777216+(a / 65536 % 256+J)*65536+0*256+0) % 4194304=a
    omega
  · have e1:∀ x:Int,EK x ((11:Nat):Int)=x-x % 2097152:=fun _=>rfl
    have hJ2:0≤J∧J<32:=hJ
    rw [e1] at hc
    rw [e1]
    show (a / 65536 % 256) % 32=0∧((a / 16777216 % 256)*16777216+(a / 65536 % 256+J)*65536+0*256+0)-((a / 16777216 % 256)*16777216+(a / 65536 % 256+J)*65536+0*256+0) % 2097152=a
    omega
  · have e1:∀ x:Int,EK x ((12:Nat):Int)=x-x % 1048576:=fun _=>rfl
    have hJ2:0≤J∧J<16:=hJ
    rw [e1] at hc
    rw [e1]
    show (a / 65536 % 256) % 16=0∧((a / 16777216 % 256)*16777216+(a / 65536 % 256+J)*65536+0*256+0)-((a / 16777216 % 256)*16777216+(a / 65536 % 256+J)*65536+0*256+0) % 1048576=a
    omega
  · have e1:∀ x:Int,EK x ((13:Nat):Int)=x-x % 524288:=fun _=>rfl
    have hJ2:0≤J∧J<8:=hJ
    rw [e1] at hc
    rw [e1]
    show (a / 65536 % 256) % 8=0∧((a / 16777216 % 256)*16777216+(a / 65536 % 256+J)*65536+0*256+0)-((a / 16777216 % 256)*16777216+(a / 65536 % 256+J)*65536+0*256+0) % 524288=a
    omega
  · have e1:∀ x:Int,EK x ((14:Nat):Int)=x-x % 262144:=fun _=>rfl
    have hJ2:0≤J∧J<4:=hJ
    rw [e1] at hc
    rw [e1]
    show (a / 65536 % 256) % 4=0∧((a / 16777216 % 256)*16777216+(a / 65536 % 256+J)*65536+0*256+0)-((a / 16777216 % 256)*16777216+(a / 65536 % 256+J)*65536+0*256+0) % 262144=a
    omega
  · have e1:∀ x:Int,EK x ((15:Nat):Int)=x-x % 131072:=fun _=>rfl
    have hJ2:0≤J∧J<2:=hJ
    rw [e1] at hc
    rw [e1]
    show (a / 65536 % 256) % 2=0∧((a / 16777216 % 256)*16777216+(a / 65536 % 256+J)*65536+0*256+0)-((a / 16777216 % 256)*16777216+(a / 65536 % 256+J)*65536+0*256+0) % 131072=a
    omega
  · have e1:∀ x:Int,EK x ((16:Nat):Int)=x-x % 65536:=fun _=>rfl
    have hJ2:0≤J∧J<1:=hJ
    rw [e1] at hc
    rw [e1]
    show (a / 65536 % 256) % 1=0∧((a / 16777216 % 256)*16777216+(a / 65536 % 256+J)*65536+0*256+0)-((a / 16777216 % 256)*16777216+(a / 65536 % 256+J)*65536+0*256+0) % 65536=a
    omega
  · have e1:∀ x:Int,EK x ((17:Nat):Int)=x-x % 32768:=fun _=>rfl
    have hJ2:0≤J∧J<128:=hJ
    rw [e1] at hc
    rw [e1]
    show (a / 256 % 256) % 128=0∧((a / 16777216 % 256)*16777216+(a / 65536 % 256)*65536+(a / 256 % 256+J)*256+0)-((a / 16777216 % 256)*16777216+(a / 65536 % 256)*65536+(a / 256 % 256+J)*256+0) % 32768=a
    omega
  · have e1:∀ x:Int,EK x ((18:Nat):Int)=x-x % 16384:=fun _=>rfl
    have hJ2:0≤J∧J<64:=hJ
    rw [e1] at hc
    rw [e1]
    show (a / 256 % 256) % 64=0∧((a / 16777216 % 256)*16777216+(a / 65536 % 256)*65536+(a / 256 % 256+J)*256+0)-((a / 16777216 % 256)*16777216+(a / 65536 % 256)*65536+(a / 256 % 256+J)*256+0) % 16384=a
    omega
  · have e1:∀ x:Int,EK x ((19:Nat):Int)=x-x % 8192:=fun _=>rfl
    have hJ2:0≤J∧J<32:=hJ
    rw [e1] at hc
    rw [e1]
    show (a / 256 % 256) % 32=0∧((a / 16777216 % 256)*16777216+(a / 65536 % 256)*65536+(a / 256 % 256+J)*256+0)-((a / 16777216 % 256)*16777216+(a / 65536 % 256)*65536+(a / 256 % 256+J)*256+0) % 8192=a
    omega
  · have e1:∀ x:Int,EK x ((20:Nat):Int)=x-x % 4096:=fun _=>rfl
    have hJ2:0≤J∧J<16:=hJ
    rw [e1] at hc
    rw [e1]
    show (a / 256 % 256) % 16=0∧((a / 16777216 % 256)*16777216+(a / 65536 % 256)*65536+(a / 256 % 256+J)*256+0)-((a / 16777216 % 256)*16777216+(a / 65536 % 256)*65536+(a / 256 % 256+J)*256+0) % 4096=a
    omega
  · have e1:∀ x:Int,EK x ((21:Nat):Int)=x-x % 2048:=fun _=>rfl
    have hJ2:0≤J∧J<8:=hJ
    rw [e1] at hc
    rw [e1]
    show (a / 256 % 256) % 8=0∧((a / 16777216 % 256)*16777216+(a / 65536 % 256)*65536+(a / 256 % 256+J)*256+0)-((a / 16777216 % 256)*16777216+(a / 65536 % 256)*65536+(a / 256 % 256+J)*256+0) % 2048=a
    omega
  · have e1:∀ x:Int,EK x ((22:Nat):Int)=x-x % 1024:=fun _=>rfl
    have hJ2:0≤J∧J<4:=hJ
    rw [e1] at hc
    rw [e1]
    show (a / 256 % 256) % 4=0∧((a / 16777216 % 256)*16777216+(a / 65536 % 256)*65536+(a / 256 % 256+J)*256+0)-((a / 16777216 % 256)*16777216+(a / 65536 % 256)*65536+(a / 256 % 256+J)*256+0) % 1024=a
    omega
  · have e1:∀ x:Int,EK x ((23:Nat):Int)=x-x % 512:=fun _=>rfl
    have hJ2:0≤J∧J<2:=hJ
    rw [e1] at hc
    rw [e1]
    show (a / 256 % 256) % 2=0∧((a / 16777216 % 256)*16777216+(a / 65536 % 256)*65536+(a / 256 % 256+J)*256+0)-((a / 16777216 % 256)*16777216+(a / 65536 % 256)*65536+(a / 256 % 256+J)*256+0) % 512=a
    omega
  · have e1:∀ x:Int,EK x ((24:Nat):Int)=x-x % 256:=fun _=>rfl
    have hJ2:0≤J∧J<1:=hJ
    rw [e1] at hc
    rw [e1]
    show (a / 256 % 256) % 1=0∧((a / 16777216 % 256)*16777216+(a / 65536 % 256)*65536+(a / 256 % 256+J)*256+0)-((a / 16777216 % 256)*16777216+(a / 65536 % 256)*65536+(a / 256 % 256+J)*256+0) % 256=a
    omega
  · have e1:∀ x:Int,EK x ((25:Nat):Int)=x-x % 128:=fun _=>rfl
    have hJ2:0≤J∧J<128:=hJ
    rw [e1] at hc
    rw [e1]
    show (a % 256) % 128=0∧((a / 16777216 % 256)*16777216+(a / 65536 % 256)*65536+(a / 256 % 256)*256+(a % 256+J))-((a / 16777216 % 256)*16777216+(a / 65536 % 256)*65536+(a / 256 % 256)*256+(a % 256+J)) % 128=a
    omega
  · have e1:∀ x:Int,EK x ((26:Nat):Int)=x-x % 64:=fun _=>rfl
    have hJ2:0≤J∧J<64:=hJ
    rw [e1] at hc
    rw [e1]
    show (a % 256) % 64=0∧((a / 16777216 % 256)*16777216+(a / 65536 % 256)*65536+(a / 256 % 256)*256+(a % 256+J))-((a / 16777216 % 256)*16777216+(a / 65536 % 256)*65536+(a / 256 % 256)*256+(a % 256+J)) % 64=a
    omega
  · have e1:∀ x:Int,EK x ((27:Nat):Int)=x-x % 32:=fun _=>rfl
    have hJ2:0≤J∧J<32:=hJ
    rw [e1] at hc
    rw [e1]
    show (a % 256) % 32=0∧((a / 16777216 % 256)*16777216+(a / 65536 % 256)*65536+(a / 256 % 256)*256+(a % 256+J))-((a / 16777216 % 256)*16777216+(a / 65536 % 256)*65536+(a / 256 % 256)*256+(a % 256+J)) % 32=a
    omega
  · have e1:∀ x:Int,EK x ((28:Nat):Int)=x-x % 16:=fun _=>rfl
    have hJ2:0≤J∧J<16:=hJ
    rw [e1] at hc
    rw [e1]
    show (a % 256) % 16=0∧((a / 16777216 % 256)*16777216+(a / 65536 % 256)*65536+(a / 256 % 256)*256+(a % 256+J))-((a / 16777216 % 256)*16777216+(a / 65536 % 256)*65536+(a / 256 % 256)*256+(a % 256+J)) % 16=a
    omega
  · have e1:∀ x:Int,EK x ((29:Nat):Int)=x-x % 8:=fun _=>rfl
    have hJ2:0≤J∧J<8:=hJ
    rw [e1] at hc
    rw [e1]
    show (a % 256) % 8=0∧((a / 16777216 % 256)*16777216+(a / 65536 % 256)*65536+(a / 256 % 256)*256+(a % 256+J))-((a / 16777216 % 256)*16777216+(a / 65536 % 256)*65536+(a / 256 % 256)*256+(a % 256+J)) % 8=a
    omega
  · have e1:∀ x:Int,EK x ((30:Nat):Int)=x-x % 4:=fun _=>rfl
    have hJ2:0≤J∧J<4:=hJ
    rw [e1] at hc
    rw [e1]
    show (a % 256) % 4=0∧((a / 16777216 % 256)*16777216+(a / 65536 % 256)*65536+(a / 256 % 256)*256+(a % 256+J))-((a / 16777216 % 256)*16777216+(a / 65536 % 256)*65536+(a / 256 % 256)*256+(a % 256+J)) % 4=a
    omega
  · have e1:∀ x:Int,EK x ((31:Nat):Int)=x-x % 2:=fun _=>rfl
    have hJ2:0≤J∧J<2:=hJ
    rw [e1] at hc
    rw [e1]
    show (a % 256) % 2=0∧((a / 16777216 % 256)*16777216+(a / 65536 % 256)*65536+(a / 256 % 256)*256+(a % 256+J))-((a / 16777216 % 256)*16777216+(a / 65536 % 256)*65536+(a / 256 % 256)*256+(a % 256+J)) % 2=a
    omega
  · have e1:∀ x:Int,EK x ((32:Nat):Int)=x-x % 1:=fun _=>rfl
    have hJ2:0≤J∧J<1:=hJ
    rw [e1] at hc
    rw [e1]
    show (a % 256) % 1=0∧((a / 16777216 % 256)*16777216+(a / 65536 % 256)*65536+(a / 256 % 256)*256+(a % 256+J))-((a / 16777216 % 256)*16777216+(a / 65536 % 256)*65536+(a / 256 % 256)*256+(a % 256+J)) % 1=a
    omega
def HS (k:Int) (body:List Int):List Int:=List.replicate 16 255++BM (19+body.length:Nat) 2++[k]++body
theorem VX (m:MsL):DG m=HS m.kind (GV m):=rfl
theorem NF (k:Int) (body:List Int):(HS k body).length=19+body.length:=by unfold HS;simp only [List.length_append,List.length_replicate,AW,List.length_cons,List.length_nil]
theorem Mm {k:Int}{body:List Int}{i:Nat}(hi:i<19):(HS k body)[i]?=if i<16 then some 255 else if i=16 then some (((19+body.length:Nat):Int) / 256 % 256) else if i=17 then some (((19+body.length:Nat):Int) % 256) else some k:=by
  unfold HS
  rw [show BM (((19+body.length:Nat):Int)) 2=[((19+body.length:Nat):Int) / 256 % 256,((19+body.length:Nat):Int) % 256] by
    show [_ / 2 ^ 8 % 256,_ / 2 ^ 0 % 256]=_
    rw [show (2:Int) ^ 8=256 by decide,show (2:Int) ^ 0=1 by decide,Int.ediv_one]]
  by_cases h:i<16
  · rw [if_pos h,List.getElem?_append_left Fo,List.getElem?_append_left Fo,List.getElem?_append_left Fo,List.getElem?_replicate,if_pos h]
  · rw [if_neg h]
    have:i=16∨i=17∨i=18:=by omega
    rcases this with rfl|rfl|rfl <;> rfl
theorem T0 (k:Int) (body:List Int):(HS k body).drop 19=body:=by
  unfold HS
  exact List.drop_left' (by simp [AW])
theorem Vn (k:Int) (body:List Int) (hk:1≤k∧k≤4) (hl:19+body.length≤4096) (hle:BI k≤19+body.length) (h4:k=4→body=[]):FE (HS k body)=FL k body:=by
  have hh:=RP (zs:=HS k body) (L:=19+body.length) (k:=k) (fun i hi=>Mm hi) Er
  have hs:BX (HS k body).length (fOf (HS k body))=(((HS k body).length:Int),0,0,⟨#[]⟩):=by
    rw [NF,JY Er hh.1,hh.2.1,hh.2.2,if_neg Er,if_neg (fun h=>Hf.1 h hk),if_neg (by
      rintro (h|⟨h,h'⟩)
      · omega
      · rw [h4 h] at h';exact h' rfl)]
  unfold FE
  rw [hs,T0,hh.2.2]
  dsimp only
  rw [if_neg Fe,if_neg Fe]


theorem KH:I64 0:=⟨(by show (-9223372036854775808:Int)≤0;decide),(by show (0:Int)≤9223372036854775807;decide)⟩
theorem NC:U32 0:=⟨(by show (0:Int)≤0;decide),(by show (0:Int)≤4294967295;decide)⟩
theorem AtL.Ab2:AtL.zero.In:=⟨KH,KH,NC,KH,KH,KH,NC,(fun c hc=>by cases hc),(fun c hc=>by cases hc),(fun c hc=>by cases hc),⟨Nat.zero_le _,Nat.zero_le _,Nat.zero_le _⟩⟩

theorem M9 (a:Int):BM a 1=[a % 256]:=by
  show [a / 2 ^ 0 % 256]=_
  rw [show (2:Int) ^ 0=1 by decide,Int.ediv_one]
theorem SM (a:Int):BM a 2=[a / 256 % 256,a % 256]:=by
  show [a / 2 ^ 8 % 256,a / 2 ^ 0 % 256]=_
  rw [show (2:Int) ^ 8=256 by decide,show (2:Int) ^ 0=1 by decide,Int.ediv_one]
theorem read1 {a:Int}(h:0≤a∧a≤255):AJ (BM a 1)=a:=by rw [M9];show 0*256+a % 256=a;omega
theorem read2 {a:Int}(h:0≤a∧a≤65535):AJ (BM a 2)=a:=by rw [SM];show (0*256+a / 256 % 256)*256+a % 256=a;omega
theorem SL {a:Int}(h:0≤a∧a≤4294967295):AJ (BM a 4)=a:=by
  rw [Sw];show (((0*256+a / 16777216 % 256)*256+a / 65536 % 256)*256+a / 256 % 256)*256+a % 256=a;omega
theorem Pq:∀ (cs:List Int),(∀ c∈cs,0≤c∧c≤4294967295)→FD (cs.flatMap fun x=>BM x 4)=cs
  | [],_=>rfl
  | c::cs,h=>by
    have e:=Pq cs fun x hx=>h x (List.mem_cons_of_mem _ hx)
    have r:=SL (h c (List.mem_cons_self ..))
    rw [List.flatMap_cons,Sw]
    rw [Sw] at r
    show AJ _::FD (cs.flatMap fun x=>BM x 4)=_
    rw [r,e]
theorem P7:∀ (xs rest:List Int) (i:Nat) (x:Int),xs[i]?=some x→((xs.flatMap (fun x=>BM x 2)++rest).drop (2*i)).take 2=BM x 2
  | [],_,i,x,h=>by simp at h
  | y::xs,rest,0,x,h=>by
    simp only [List.getElem?_cons_zero,Option.some.injEq] at h
    subst h
    rw [List.flatMap_cons,Nat.mul_zero,List.drop_zero,List.append_assoc,List.take_left' (AW _ _)]
  | y::xs,rest,i+1,x,h=>by
    rw [List.getElem?_cons_succ] at h
    rw [List.flatMap_cons,show 2*(i+1)=2+2*i by omega, ← List.drop_drop,List.append_assoc,List.drop_left' (AW _ _)]
    exact P7 xs rest i x h
theorem ZW (xs rest:List Int) (h:∀ x∈xs,0≤x∧x≤65535):((List.range xs.length).map fun i=>AJ (((xs.flatMap (fun x=>BM x 2)++rest).drop (2*i)).take 2))=xs:=by
  apply List.ext_getElem?
  intro i
  by_cases hi:i<xs.length
  · rw [List.getElem?_map,List.getElem?_range hi,List.getElem?_eq_getElem hi]
    simp only [Option.map_some]
    rw [P7 xs rest i _ (List.getElem?_eq_getElem hi),read2 (h _ (List.getElem_mem _))]
  · rw [List.getElem?_eq_none Fo,List.getElem?_eq_none Er]
theorem Y7 {s:DO}(h:Ji s=true):1≤s.asl.length∧s.asl.length≤255∧∀ x∈s.asl,1≤x∧x≤65535:=by
  unfold Ji at h
  rw [Bool.and_eq_true] at h
  have h1:=of_decide_eq_true h.1
  exact ⟨h1.1,h1.2,fun x hx=>of_decide_eq_true (List.all_eq_true.1 h.2 x hx)⟩
theorem OU:∀ (ss:List DO),ss.all Ji=true→DN (ss.flatMap Mq)=some (ss.map Ik)
  | [],_=>by rw [List.flatMap_nil,DN];rfl
  | s::ss,h=>by
    rw [List.all_cons,Bool.and_eq_true] at h
    obtain ⟨h1,h2,h3⟩:=Y7 h.1
    have ih:=OU ss h.2
    have hk:(if s.set then (1:Int) else 2) % 256=if s.set then 1 else 2:=by cases s.set <;> decide
    have hn:((s.asl.length:Int) % 256).toNat=s.asl.length:=Er
    have e:(s::ss).flatMap Mq=(if s.set then (1:Int) else 2)::((s.asl.length:Int) % 256)::(s.asl.flatMap (fun x=>BM x 2)++ss.flatMap Mq):=by
      rw [List.flatMap_cons]
      unfold Mq
      rw [M9,M9,hk]
      simp
    have hl:(s.asl.flatMap fun x=>BM x 2).length=2*s.asl.length:=Lv _ _
    rw [e,HA,hn,if_neg (by
      rintro (h|h)
      · cases s.set <;> simp at h
      · rw [List.length_append,hl] at h;omega),List.drop_left' hl,ih,ZW _ _ fun x hx=>by have:=h3 x hx;omega]
    show some (_::_)=some (_::_)
    congr 2
    unfold Ik
    congr 1
    cases s.set <;> decide
end Go.Proofs.YtcmpamnhegndnaaGreatDoor
