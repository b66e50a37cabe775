/- Texts joined: engine, contracts and laws, in the order in which they build. -/
import Derived.Shelf.SlSortCmp.WholeK
import Derived.Shelf.SlSortCmp.NoneTotal
import Derived.Shelf.SlLaysF0
import Derived.Test.YtcmpamnhegndnaaGreatDoorBfPeerRuns
namespace Go.Proofs.YtcmpamnhegndnaaGreatDoor
open Go.RowKit
section Gq
attribute [local irreducible] WL WC WE WQ WP WH WR WM WRH

set_option maxHeartbeats 1000000 in
theorem Lo (w:World) (b o c:Nat) (v:List Int) (hW:Win w b o c v) (hn:v.length≤1000000) :
    Calls Tryz.prog 86 #[.slice (some ⟨b,o,none⟩) v.length c] w fun e w'=>∃ x,e = .returned x∧IP w w' v x:=by
  refine enter Tryz.func86 rfl Tryz.ntmps86 rfl (St.start (fun _=>False) w) ?_
  refine J9 ?_
  refine zV (AY false rfl rfl Tryz.underlying25 rfl) rfl ?_
  refine J7 ?_
  refine zB Tryz.underlying25 AO BF rfl rfl ?_
  intro g5 hg5
  refine J1 ?_
  refine WL.AN rfl rfl rfl Tryz.underlying25 Tryz.underlying25 AO Hx BF rfl rfl (E:=[.row g5 []]) (Vec.row (k:=0) (s:=1) (c:=0) rfl rfl Er) (new:=u8s v) (fun h=>⟨b,o,rfl,fun w hS'=>hS'.rng (fun _ h=>h) _ _ _ hW.at_⟩) Fh (CQ _) Er (.none rfl) rfl rfl ?_
  intro ad7 c7 E7 hV7 hr7
  refine J4 ?_
  refine eT1 ?_
  exact fun w' h=>⟨_,rfl,ad7,c7,E7,by rw [Nat.zero_add],by simpa using hV7,h.sub (List.sublist_append_left _ _)⟩
def EA (os:List CB):List Value:=os.flatMap CB.cells
theorem Mp (os:List CB) (o:CB):EA (os++[o])=EA os++o.cells:=by unfold EA;rw [List.flatMap_append,List.flatMap_cons,List.flatMap_nil,List.append_nil]
def Ko (K:List Ent) (o:CB):Prop:=∃ E,BV o.ad o.cap o.val E∧∀ e∈E,e∈K
def DY (d:AtD) (all v:List Int):AtD ⊕ (Int×ByteArray) :=
  if fOf all 0 / 128 % 2=0 then .inr (2,strOf all)
  else if fOf all 0 / 64 % 2≠0∧fOf all 1≠0 then .inl { d with others:=d.others++[(fOf all 1,v)] } else .inl d
def OtherP (w0 w':World) (ga:Nat) (a:AtL) (all v:List Int) (L:List Ent) (e:Ending):Prop :=
  ∃ ad oc os E' K,Vec 2 ad os.length oc (EA os) E'∧os.length≤a.others.length+1∧(∀ KO,(∀ o∈a.others,Ko KO o)→∀ o∈os,Ko (K++KO) o)∧St (fun _=>False) w0 w' (E'++(K++(.row ga (AtL.cells { a with oad:=ad,oc:=oc,others:=os })::L))) ∧
    (match DY a.d all v with | .inr (s,d)=>e = .returned (.agg (AG 3 s d).toArray) | .inl d=>e = .returned (.agg (AG 0 0 ⟨#[]⟩).toArray)∧AtL.d { a with oad:=ad,oc:=oc,others:=os }=d)
set_option maxHeartbeats 4000000 in
theorem AcA (w0 w1:World) (ga b oa ca ov cv:Nat) (all v:List Int) (a:AtL) (E L:List Ent) (hWa:Win w0 b oa ca all) (hWv:Win w0 b ov cv v) (hn:all.length≤100000) (hnv:v.length≤100000) (h2:2≤all.length)
    (hV:Vec 2 a.oad a.others.length a.oc (EA a.others) E) (hol:a.others.length≤100000) (hS0:St (fun _=>False) w0 w1 (E++(.row ga a.cells::L))) :
    Calls Tryz.prog 138 #[.pointer (some ⟨ga,0,none⟩), .slice (some ⟨b,oa,none⟩) all.length ca, .slice (some ⟨b,ov,none⟩) v.length cv] w1 fun e w'=>OtherP w0 w' ga a all v L e:=by
  have b0:=CP hWa.bys 0
  have b1:=CP hWa.bys 1
  have hab:=SQ b0
  refine enter Tryz.func138 rfl Tryz.ntmps138 rfl hS0 ?_
  refine J2 ?_
  refine WL.alloc rfl CV (.none rfl) rfl rfl ?_
  intro g6 hg6
  refine J5 ?_
  refine zV (AB (lo:=1) rfl rfl rfl Tryz.underlying25 AO rfl Er) rfl ?_
  refine zV (AA rfl rfl BH (AL (fun h=>h) (hWa.get (BJ Er)))) rfl ?_
  refine zV (AQ rfl rfl Tryz.underlying3 Tryz.underlying5 (AF Er Er)) rfl ?_
  refine J7 ?_
  refine zV (AB (lo:=0) rfl rfl rfl Tryz.underlying25 AO rfl Er) rfl ?_
  refine zV (AA rfl rfl BH (AL (fun h=>h) (hWa.get (BJ Er)))) rfl ?_
  refine zV (J0 rfl rfl rfl (hab.2.2.1)) rfl ?_
  refine JT (fun h16=>?_) (fun h16=>?_)
  refine J6 ?_
  refine zV (CJ (fOf all) rfl rfl Tryz.underlying25 Tryz.underlying5 Tryz.underlying9 (fun w' hS' _=>⟨b,oa,rfl,DV (hWa.st hS').at_⟩)) rfl ?_
  refine J6 ?_
  refine eT1 ?_
  have e0:DY a.d all v = .inr (2,strOf all):=(by unfold DY;rw [if_pos (by omega)])
  exact fun w' h=>⟨a.oad,a.oc,a.others,E,[],hV,Nat.le_succ _,fun KO h=>h,h.sub (.cons _ (.refl _)),by rw [e0];rfl⟩
  refine J9 ?_
  refine zV (AB (lo:=0) rfl rfl rfl Tryz.underlying25 AO rfl Er) rfl ?_
  refine zV (AA rfl rfl BH (AL (fun h=>h) (hWa.get (BJ Er)))) rfl ?_
  refine zV (J0 rfl rfl rfl (hab.2.1)) rfl ?_
  refine JT (fun h24=>?_) (fun h24=>?_)
  refine J2 ?_
  refine JT (fun h27=>?_) (fun h27=>?_)
  refine J4 ?_
  refine WC.BB mixed<|rF 8 [0,1,2,3,5,6]<|?_
  refine J7 ?_
  refine WR.each (g:=7) [4,7] Es Et ?_
  refine ⟨?_,?_⟩
  refine J2 ?_
  refine rO 6 [7]<|zK Qy rfl<|?_
  intro w1 hS
  refine (Lo w1 b ov cv v (hWv.st hS) Er).mono ?_
  rintro e w' ⟨_,rfl,ad36,c36,E36,rfl,hV36,hS'⟩
  refine ⟨_,_,rfl,hS.join hS',?_⟩
  refine J1 ?_
  refine rF 5 [8] ?_
  refine J2 ?_
  refine rO 3 [9,10]<|zB Tryz.underlying33 Ky H2 rfl rfl<|?_
  intro g38 hg38
  refine WL.as (L':=.row g38 (CB.cells ⟨fOf all 1,ad36,c36,v⟩)::(E36++(.row g6 (AG 0 0 ⟨#[]⟩)::(E++(.row ga a.cells::L))))) rfl ?_
  refine WL.to (L':=E++(.row g38 (CB.cells ⟨fOf all 1,ad36,c36,v⟩)::(E36++(.row g6 (AG 0 0 ⟨#[]⟩)::.row ga a.cells::L)))) (fun w hS=>by
    have:=St.front (R:=E) (L:=.row ga a.cells::L) (.row g38 (CB.cells ⟨fOf all 1,ad36,c36,v⟩)::(E36++[.row g6 (AG 0 0 ⟨#[]⟩)])) Ez
    simpa only [List.cons_append,List.append_assoc,List.nil_append] using this) ?_
  refine WL.AN rfl rfl rfl Tryz.underlying33 Tryz.underlying33 Ky TT H2 rfl rfl hV (new:=CB.cells ⟨fOf all 1,ad36,c36,v⟩) (fun _=>⟨g38,0,rfl,fun w hS=>BZ (g:=g38) w hS⟩) rfl rfl Er (.none rfl) rfl rfl ?_
  intro ad39 c39 E39 hV39 hr39
  rw [← Mp] at hV39
  rw [show a.others.length+1=(a.others++[(⟨fOf all 1,ad36,c36,v⟩:CB)]).length by rw [List.length_append];rfl] at hV39 ⊢
  refine J1 ?_
  refine rF 1 [11,12] ?_
  refine J3 ?_
  refine rO 0 [13] ?_
  refine J1 ?_
  refine WL.as (L':=E39++(.row g38 (CB.cells ⟨fOf all 1,ad36,c36,v⟩)::(E36++(.row g6 (AG 0 0 ⟨#[]⟩)::.row ga (AtL.cells { a with oad:=ad39,oc:=c39,others:=a.others++[⟨fOf all 1,ad36,c36,v⟩] })::L)))) rfl ?_
  refine J10 ?_
  refine eT1 ?_
  have e0:DY a.d all v = .inl { a.d with others:=a.d.others++[(fOf all 1,v)] }:=F3
  refine fun w' h=>⟨ad39,c39,a.others++[⟨fOf all 1,ad36,c36,v⟩],E39,E36,hV39,by rw [List.length_append];exact Nat.le_refl _,?_,h.sub (List.Sublist.append_left (.cons _ (List.Sublist.append_left (.cons _ (.refl _)) _)) _),?_⟩
  · intro KO hK o ho
    rcases List.mem_append.1 ho with ho|ho
    · obtain ⟨E',r1,r2⟩:=hK o ho
      exact Az
    · rcases List.mem_cons.1 ho with rfl|ho
      · exact ⟨E36,hV36,fun e he=>List.mem_append_left _ he⟩
      · cases ho
  · rw [e0]
    exact Bt
  refine zK Qy rfl ?_
  intro w1 hS
  refine (Lo w1 b ov cv v (hWv.st hS) Er).mono ?_
  rintro e w' ⟨_,rfl,ad36,c36,E36,rfl,hV36,hS'⟩
  refine ⟨_,_,rfl,hS.join hS',?_⟩
  refine J1 ?_
  refine rF 6 [8] ?_
  refine J2 ?_
  refine WR.each (g:=5) [4,9] Es Et ?_
  refine ⟨?_,?_⟩
  refine J2 ?_
  refine rO 3 [9,10]<|zB Tryz.underlying33 Ky H2 rfl rfl<|?_
  intro g38 hg38
  refine WL.as (L':=.row g38 (CB.cells ⟨fOf all 1,ad36,c36,v⟩)::(E36++(.row g6 (AG 0 0 ⟨#[]⟩)::(E++(.row ga a.cells::L))))) rfl ?_
  refine WL.to (L':=E++(.row g38 (CB.cells ⟨fOf all 1,ad36,c36,v⟩)::(E36++(.row g6 (AG 0 0 ⟨#[]⟩)::.row ga a.cells::L)))) (fun w hS=>by
    have:=St.front (R:=E) (L:=.row ga a.cells::L) (.row g38 (CB.cells ⟨fOf all 1,ad36,c36,v⟩)::(E36++[.row g6 (AG 0 0 ⟨#[]⟩)])) Ez
    simpa only [List.cons_append,List.append_assoc,List.nil_append] using this) ?_
  refine WL.AN rfl rfl rfl Tryz.underlying33 Tryz.underlying33 Ky TT H2 rfl rfl hV (new:=CB.cells ⟨fOf all 1,ad36,c36,v⟩) (fun _=>⟨g38,0,rfl,fun w hS=>BZ (g:=g38) w hS⟩) rfl rfl Er (.none rfl) rfl rfl ?_
  intro ad39 c39 E39 hV39 hr39
  rw [← Mp] at hV39
  rw [show a.others.length+1=(a.others++[(⟨fOf all 1,ad36,c36,v⟩:CB)]).length by rw [List.length_append];rfl] at hV39 ⊢
  refine J1 ?_
  refine rF 1 [11,12] ?_
  refine J3 ?_
  refine rO 0 [13] ?_
  refine J1 ?_
  refine WL.as (L':=E39++(.row g38 (CB.cells ⟨fOf all 1,ad36,c36,v⟩)::(E36++(.row g6 (AG 0 0 ⟨#[]⟩)::.row ga (AtL.cells { a with oad:=ad39,oc:=c39,others:=a.others++[⟨fOf all 1,ad36,c36,v⟩] })::L)))) rfl ?_
  refine J10 ?_
  refine eT1 ?_
  have e0:DY a.d all v = .inl { a.d with others:=a.d.others++[(fOf all 1,v)] }:=F3
  refine fun w' h=>⟨ad39,c39,a.others++[⟨fOf all 1,ad36,c36,v⟩],E39,E36,hV39,by rw [List.length_append];exact Nat.le_refl _,?_,h.sub (List.Sublist.append_left (.cons _ (List.Sublist.append_left (.cons _ (.refl _)) _)) _),?_⟩
  · intro KO hK o ho
    rcases List.mem_append.1 ho with ho|ho
    · obtain ⟨E',r1,r2⟩:=hK o ho
      exact Az
    · rcases List.mem_cons.1 ho with rfl|ho
      · exact ⟨E36,hV36,fun e he=>List.mem_append_left _ he⟩
      · cases ho
  · rw [e0]
    exact Bt
  refine zB Tryz.underlying33 Ky H2 rfl rfl ?_
  intro g38 hg38
  refine WL.as (L':=.row g38 (CB.cells ⟨fOf all 1,ad36,c36,v⟩)::(E36++(.row g6 (AG 0 0 ⟨#[]⟩)::(E++(.row ga a.cells::L))))) rfl ?_
  refine WL.to (L':=E++(.row g38 (CB.cells ⟨fOf all 1,ad36,c36,v⟩)::(E36++(.row g6 (AG 0 0 ⟨#[]⟩)::.row ga a.cells::L)))) (fun w hS=>by
    have:=St.front (R:=E) (L:=.row ga a.cells::L) (.row g38 (CB.cells ⟨fOf all 1,ad36,c36,v⟩)::(E36++[.row g6 (AG 0 0 ⟨#[]⟩)])) Ez
    simpa only [List.cons_append,List.append_assoc,List.nil_append] using this) ?_
  refine J1 ?_
  refine rA 4 [4] rfl ?_
  refine J2 ?_
  refine rO 3 [10] ?_
  refine WL.AN rfl rfl rfl Tryz.underlying33 Tryz.underlying33 Ky TT H2 rfl rfl hV (new:=CB.cells ⟨fOf all 1,ad36,c36,v⟩) (fun _=>⟨g38,0,rfl,fun w hS=>BZ (g:=g38) w hS⟩) rfl rfl Er (.none rfl) rfl rfl ?_
  intro ad39 c39 E39 hV39 hr39
  rw [← Mp] at hV39
  rw [show a.others.length+1=(a.others++[(⟨fOf all 1,ad36,c36,v⟩:CB)]).length by rw [List.length_append];rfl] at hV39 ⊢
  refine J1 ?_
  refine rF 1 [11,12] ?_
  refine J3 ?_
  refine rO 0 [13] ?_
  refine J1 ?_
  refine WL.as (L':=E39++(.row g38 (CB.cells ⟨fOf all 1,ad36,c36,v⟩)::(E36++(.row g6 (AG 0 0 ⟨#[]⟩)::.row ga (AtL.cells { a with oad:=ad39,oc:=c39,others:=a.others++[⟨fOf all 1,ad36,c36,v⟩] })::L)))) rfl ?_
  refine J10 ?_
  refine eT1 ?_
  have e0:DY a.d all v = .inl { a.d with others:=a.d.others++[(fOf all 1,v)] }:=F3
  refine fun w' h=>⟨ad39,c39,a.others++[⟨fOf all 1,ad36,c36,v⟩],E39,E36,hV39,by rw [List.length_append];exact Nat.le_refl _,?_,h.sub (List.Sublist.append_left (.cons _ (List.Sublist.append_left (.cons _ (.refl _)) _)) _),?_⟩
  · intro KO hK o ho
    rcases List.mem_append.1 ho with ho|ho
    · obtain ⟨E',r1,r2⟩:=hK o ho
      exact Az
    · rcases List.mem_cons.1 ho with rfl|ho
      · exact ⟨E36,hV36,fun e he=>List.mem_append_left _ he⟩
      · cases ho
  · rw [e0]
    exact Bt
  refine J13 ?_
  exact Bv
  refine J16 ?_
  exact Bv
end Gq

theorem KL (xs:List Int):3≤BC xs∧BC xs≤4:=by unfold BC;split <;> omega
theorem L7 (xs:List Int):BC xs≤toN xs:=by unfold toN;omega
def DP (d:AtD) (all v:List Int):AtD ⊕ (Int×ByteArray):=if 1≤fOf all 1∧fOf all 1≤8 then CL d all v else DY d all v
def ED (d:AtD) (seen:List Int) (xs:List Int):AtD ⊕ (Int×ByteArray) :=
  if _h:xs.length=0 then .inl d
  else if xs.length<BC xs∨xs.length<toN xs∨fOf xs 1∈seen then .inr (1,⟨#[]⟩)
  else match DP d (xs.take (toN xs)) ((xs.take (toN xs)).drop (BC xs)) with
    | .inr f=>.inr f
    | .inl d'=>ED d' (fOf xs 1::seen) (xs.drop (toN xs))
termination_by xs.length
decreasing_by have:=KL xs;have:=L7 xs;rw [List.length_drop];omega
theorem Kg (d:AtD) (seen:List Int):ED d seen [] = .inl d:=by rw [ED];rfl
theorem HU {d:AtD}{seen xs:List Int}(h0:0<xs.length) (h:xs.length<BC xs∨xs.length<toN xs∨fOf xs 1∈seen):ED d seen xs = .inr (1,⟨#[]⟩):=by
  rw [ED,dif_neg Er,if_pos h]
theorem Ij {d:AtD}{seen xs:List Int}(h0:0<xs.length) (h:¬ (xs.length<BC xs∨xs.length<toN xs∨fOf xs 1∈seen)):ED d seen xs=match DP d (xs.take (toN xs)) ((xs.take (toN xs)).drop (BC xs)) with
    | .inr f=>.inr f
    | .inl d'=>ED d' (fOf xs 1::seen) (xs.drop (toN xs)):=by
  rw [ED,dif_neg Er,if_neg h]
structure KR (d:AtD) (seen:List Int):Prop where
  h0:0≤d.has
  h1:d.has≤511
  bit:∀ t:Nat,t≤8→(t=0∨(t:Int) ∉ seen)→d.has / 2 ^ t % 2=0
  com:(8:Int) ∉ seen→d.comms=[]
  nd:(d.others.map (·.1)).Nodup
  sub:∀ t∈d.others.map (·.1),t∈seen
theorem AbL:∀ t:Nat,t<9→∀ n:Nat,n<512→n / 2 ^ t % 2=0→n+2 ^ t≤511:=by
  set_option maxRecDepth 20000 in decide +kernel
theorem Aa5:∀ t:Nat,t<9→∀ s:Nat,s<9→s≠t→∀ n:Nat,n<512→n / 2 ^ t % 2=0→(n+2 ^ t) / 2 ^ s % 2=n / 2 ^ s % 2:=by
  set_option maxRecDepth 20000 in decide +kernel
theorem S8 (t:Nat):(2:Int) ^ t=((2 ^ t:Nat):Int):=by simp
theorem QE {h:Int}{t:Nat}(h0:0≤h) (h1:h≤511) (ht:t≤8) (hb:h / 2 ^ t % 2=0):h+2 ^ t≤511∧∀ s:Nat,s≤8→s≠t→(h+2 ^ t) / 2 ^ s % 2=h / 2 ^ s % 2:=by
  obtain ⟨n,rfl⟩:=Int.eq_ofNat_of_zero_le h0
  rw [S8] at hb ⊢
  have hb':n / 2 ^ t % 2=0:=by exact_mod_cast hb
  have a:=AbL t Er n Er hb'
  refine ⟨by omega,fun s hs hne=>?_⟩
  have:=Aa5 t Er s Er hne n Er hb'
  rw [S8]
  exact_mod_cast this
theorem U8 {d d':AtD}{all v:List Int}(h:CL d all v = .inl d'):d'.has=d.has+2 ^ (fOf all 1).toNat∧(fOf all 1≠8→d'.comms=d.comms)∧d'.others=d.others:=by
  unfold CL at h
  split at h
  · cases h
  split at h
  · cases h
  split at h
  · cases h
  split at h
  · cases h
  rename_i d2 hs
  split at h
  · cases h
  split at h
  · cases h
  split at h
  · cases h
  cases h
  refine ⟨by rw [(LF hs).1],fun hne=>?_,(LF hs).2⟩
  unfold L6 at hs
  show d2.comms=d.comms
  split at hs
  · cases hs;rfl
  split at hs
  · obtain ⟨p,_,rfl⟩:=Option.map_eq_some_iff.1 hs;rfl
  split at hs
  · cases hs;rfl
  split at hs
  · cases hs;rfl
  split at hs
  · cases hs;rfl
  split at hs
  · cases hs;rfl
  split at hs
  · omega
  · cases hs;rfl
theorem TG {d d':AtD}{all v:List Int}(h:DY d all v = .inl d'):d'.has=d.has∧d'.comms=d.comms∧(d'.others=d.others∨d'.others=d.others++[(fOf all 1,v)]):=by
  unfold DY at h
  split at h
  · cases h
  split at h
  · cases h;exact ⟨rfl,rfl, .inr rfl⟩
  · cases h;exact ⟨rfl,rfl, .inl rfl⟩
theorem KR.step {d d':AtD}{seen all v:List Int}(h:KR d seen) (hB:Bys all) (hn:fOf all 1 ∉ seen) (hs:DP d all v = .inl d'):KR d' (fOf all 1::seen):=by
  have hb:=CP hB 1
  unfold DP at hs
  split at hs
  · rename_i hk
    obtain ⟨k1,k2,k3⟩:=U8 hs
    obtain ⟨t,ht⟩:=Int.eq_ofNat_of_zero_le hb.1
    rw [ht,Int.toNat_natCast] at k1
    rw [ht] at k2 hn hk ⊢
    have hbt:=h.bit t Er (.inr hn)
    obtain ⟨a,b⟩:=QE h.h0 h.h1 (by omega:t≤8) hbt
    refine ⟨by rw [k1];have:=h.h0;have:=(NQ t Er).1;omega,by rw [k1];exact a,fun s hs8 hns=>?_,fun h8=>?_,by rw [k3];exact h.nd,by rw [k3];exact fun x hx=>List.mem_cons_of_mem _ (h.sub x hx)⟩
    · have hne:s≠t:=by
        rcases hns with rfl|hns
        · omega
        · rintro rfl;exact hns (List.mem_cons_self ..)
      rw [k1,b s hs8 hne]
      exact h.bit s hs8 (hns.imp id fun hns hm=>hns (List.mem_cons_of_mem _ hm))
    · rw [k2 (by rintro e;exact h8 (by rw [show ((t:Nat):Int)=8 from e];exact List.mem_cons_self ..))]
      exact h.com fun hm=>h8 (List.mem_cons_of_mem _ hm)
  · obtain ⟨k1,k2,k3⟩:=TG hs
    refine ⟨by rw [k1];exact h.h0,by rw [k1];exact h.h1,fun s hs8 hns=>?_,fun h8=>?_,?_,?_⟩
    · rw [k1];exact h.bit s hs8 (hns.imp id fun hns hm=>hns (List.mem_cons_of_mem _ hm))
    · rw [k2];exact h.com fun hm=>h8 (List.mem_cons_of_mem _ hm)
    · rcases k3 with e|e <;> rw [e]
      · exact h.nd
      · rw [List.map_append,List.nodup_append]
        refine ⟨h.nd,by simp,fun x hx y hy e=>?_⟩
        have:y=fOf all 1:=by simpa using hy
        subst this e
        exact hn (h.sub _ hx)
    · rcases k3 with e|e <;> rw [e]
      · exact fun x hx=>List.mem_cons_of_mem _ (h.sub x hx)
      · intro x hx
        rw [List.map_append] at hx
        rcases List.mem_append.1 hx with hx|hx
        · exact List.mem_cons_of_mem _ (h.sub x hx)
        · have:x=fOf all 1:=by simpa using hx
          subst this;exact List.mem_cons_self ..
def DM (os:List (Int×List Int)):List (Int×List Int):=os.mergeSort fun x y=>decide (x.1≤y.1)
theorem YG {α β:Type}{f:α→β}:∀ {l:List α},(l.map f).Nodup→∀ a∈l, ∀ b∈l,f a=f b→a=b
  | [],_,a,ha,_,_,_=>by cases ha
  | x::l,h,a,ha,b,hb,e=>by
    rw [List.map_cons,List.nodup_cons] at h
    rcases List.mem_cons.1 ha with h1|h1 <;> rcases List.mem_cons.1 hb with h2|h2
    · rw [h1,h2]
    · exact absurd (List.mem_map.2 ⟨b,h2,by rw [← e,h1]⟩) h.1
    · exact absurd (List.mem_map.2 ⟨a,h1,by rw [e,h2]⟩) h.1
    · exact YG h.2 a h1 b h2 e
theorem QN (os:List (Int×List Int)):(DM os).Pairwise (fun x y=>x.1≤y.1):=by
  have:=List.pairwise_mergeSort (le:=fun (x y:Int×List Int)=>decide (x.1≤y.1)) (fun a b c h1 h2=>by simp only [decide_eq_true_eq] at *;omega) (fun a b=>by simp only [Bool.or_eq_true,decide_eq_true_eq];omega) os
  exact this.imp fun h=>by simpa using h
theorem Pu (os:List (Int×List Int)):(DM os).Perm os:=List.mergeSort_perm _ _
theorem PU {os ps:List (Int×List Int)}(hp:os.Perm ps) (hnd:(ps.map (·.1)).Nodup) (ha:os.Pairwise (fun x y=>x.1≤y.1)):os=DM ps:=by
  have hq:os.Perm (DM ps):=hp.trans (Pu ps).symm
  refine List.Perm.eq_of_pairwise (le:=fun x y=>x.1≤y.1) (fun a b h1 h2 h3 h4=>?_) ha (QN ps) hq
  have hnd':(os.map (·.1)).Nodup:=(hp.map _).nodup_iff.2 hnd
  exact YG hnd' a h1 b (hq.mem_iff.2 h2) Er
end Go.Proofs.YtcmpamnhegndnaaGreatDoor
namespace Go.Proofs.YtcmpamnhegndnaaGreatDoor
open Go.RowKit Go.Sort Go.Shelf

theorem gs_ext:∀ a b:World,a.heap=b.heap→a.tape=b.tape→a.drawn=b.drawn→a.os=b.os→a.output=b.output→a=b:=by
  rintro ⟨⟩ ⟨⟩ h1 h2 h3 h4 h5
  dsimp only at h1 h2 h3 h4 h5
  subst h1 h2 h3 h4 h5
  rfl
theorem Frm.grows {w w':World}(h:Frm (fun _=>False) w w'):∃ q os',w'=Go.Sort.grow (w.drewN q) os':=by
  refine ⟨w'.drawn-w.drawn,(w'.heap.toList.drop w.heap.size).toArray,?_⟩
  have h1:=h.drawn
  have hh:w'.heap=w.heap++(w'.heap.toList.drop w.heap.size).toArray:=by
    apply Array.ext_getElem?
    intro k
    rw [Array.getElem?_append]
    split
    · rename_i hk;exact h.block k hk (fun h=>h)
    · rename_i hk
      simp only [List.getElem?_toArray,List.getElem?_drop,Array.getElem?_toList]
      rw [show w.heap.size+(k-w.heap.size)=k by omega]
  exact gs_ext _ _ hh h.tape (by show w'.drawn=w.drawn+(w'.drawn-w.drawn);omega) h.os h.output
def LO {α:Type}(enc:α→List Value):List α→List Value
  | []=>[]
  | x::xs=>enc x++LO enc xs
theorem Sn {α:Type}{enc:α→List Value}{k:Nat}(hk:∀ x,(enc x).length=k):∀ xs:List α,(LO enc xs).length=xs.length*k
  | []=>by simp [LO]
  | x::xs=>by
    show (enc x++LO enc xs).length=_
    rw [List.length_append,Sn hk xs,hk,List.length_cons,Nat.add_mul,Nat.one_mul];omega
theorem Tt {α:Type}{enc:α→List Value}{k:Nat}(hk:∀ x,(enc x).length=k):∀ (xs:List α) (i:Nat) (x:α),xs[i]?=some x→((LO enc xs).drop (i*k)).take k=enc x
  | [],_,_,h=>by simp at h
  | y::xs,0,x,h=>by
    simp only [List.getElem?_cons_zero,Option.some.injEq] at h
    subst h
    show ((enc y++LO enc xs).drop (0*k)).take k=_
    rw [Nat.zero_mul,List.drop_zero,List.take_left' (hk y)]
  | y::xs,i+1,x,h=>by
    rw [List.getElem?_cons_succ] at h
    show ((enc y++LO enc xs).drop ((i+1)*k)).take k=_
    rw [Nat.add_mul,Nat.one_mul,Nat.add_comm, ← List.drop_drop,List.drop_left' (hk y)]
    exact Tt hk xs i x h
section
variable {α:Type} [Inhabited α]{enc:α→List Value}{k:Nat}
theorem VP (w:World) (blk off m:Nat) (d:Array α) (os:Array Obj):Frm (fun b=>b=blk) w (sortWorldK enc k w blk off m d os):=by
  have hsz:(putRowK enc k (Go.Sort.ahead w m) blk off d).heap.size=w.heap.size:=by unfold putRowK;rw [Go.Sort.size_putRow];rfl
  refine ⟨rfl,rfl,rfl,?_,?_,Nat.le_add_right _ _⟩
  · show w.heap.size≤((putRowK enc k (Go.Sort.ahead w m) blk off d).heap++os).size
    rw [Array.size_append,hsz];omega
  · intro j hj hn
    show ((putRowK enc k (Go.Sort.ahead w m) blk off d).heap++os)[j]?=_
    rw [Array.getElem?_append_left (by rw [hsz];exact hj)]
    show (w.heap.modify blk _)[j]?=_
    rw [Array.getElem?_modify,if_neg (fun e=>hn e.symm)]
def gsL (enc:α→List Value) (k:Nat) (d:Array α) (cs:List Value):List Value:=(Go.Sort.putCells id 0 (flatK enc k d) cs.toArray).toList
theorem V6 (d:Array α) (cs:List Value):(gsL enc k d cs).length=cs.length:=by simp [gsL,Go.Sort.putCells]
theorem SZ (hk:∀ x,(enc x).length=k) (hk0:0<k) (d:Array α){t:Nat}(ht:t<d.size*k):(LO enc d.toList)[t]?=some ((enc d[t / k]!)[t % k]!):=by
  have hq:t / k<d.size:=(Nat.div_lt_iff_lt_mul hk0).2 ht
  have hr:t % k<k:=Nat.mod_lt _ hk0
  have e2:d.toList[t / k]?=some d[t / k]! := by
    rw [Array.getElem?_toList,Array.getElem?_eq_getElem hq,getElem!_pos d (t / k) hq]
  have e3:=Tt hk _ _ _ e2
  have e4:(enc d[t / k]!)[t % k]?=(LO enc d.toList)[t]?:=by
    rw [← e3,List.getElem?_take,if_pos hr,List.getElem?_drop]
    congr 1
    exact Nat.div_add_mod' t k
  rw [← e4,getElem!_pos (enc d[t / k]!) (t % k) (by rw [hk];exact hr)]
  exact List.getElem?_eq_getElem _
theorem Aam (hk:∀ x,(enc x).length=k) (hk0:0<k) (d:Array α) (cs:List Value) (h:d.size*k≤cs.length):(gsL enc k d cs).take (d.size*k)=LO enc d.toList:=by
  have hl:(LO enc d.toList).length=d.size*k:=by rw [Sn hk,Array.length_toList]
  apply List.ext_getElem?
  intro t
  by_cases ht:t<d.size*k
  · rw [List.getElem?_take,if_pos ht]
    have e1:(gsL enc k d cs)[t]?=some ((enc d[t / k]!)[t % k]!):=by
      unfold gsL Go.Sort.putCells
      rw [Array.getElem?_toList,Array.getElem?_mapIdx]
      rw [show cs.toArray[t]?=some (cs[t]' Er) by rw [List.getElem?_toArray];exact List.getElem?_eq_getElem _]
      simp only [Option.map_some,size_flatK]
      rw [if_pos Er,Nat.sub_zero,get_flatK _ _ _ _ ht]
      rfl
    rw [e1,SZ hk hk0 d ht]
  · rw [List.getElem?_eq_none Ey,List.getElem?_eq_none (by rw [hl];omega)]
theorem AcL {w:World}{blk m:Nat}{cs:List Value}{d:Array α}{os:Array Obj}(h:Row w blk cs):Row (sortWorldK enc k w blk 0 m d os) blk (gsL enc k d cs):=by
  have hlt:=h.lt
  obtain ⟨T,lo,hi,hb,hf⟩:=h
  refine ⟨T,lo,hi,?_,by rw [V6];exact hf⟩
  have hsz:(putRowK enc k (Go.Sort.ahead w m) blk 0 d).heap.size=w.heap.size:=by unfold putRowK;rw [Go.Sort.size_putRow];rfl
  show ((putRowK enc k (Go.Sort.ahead w m) blk 0 d).heap++os)[blk]?=_
  rw [Array.getElem?_append_left (by rw [hsz];exact hlt)]
  show (w.heap.modify blk _)[blk]?=_
  rw [Array.getElem?_modify,if_pos rfl,hb]
  rfl
theorem gsW_st {p:Nat→Prop}{w0 w:World}{blk m:Nat}{cs:List Value}{d:Array α}{os:Array Obj}{L:List Ent}(hS:St p w0 w (.row blk cs::L)):St p w0 (sortWorldK enc k w blk 0 m d os) (.row blk (gsL enc k d cs)::L):=by
  have hF:=VP (enc:=enc) (k:=k) w blk 0 m d os
  have hR:Row w blk cs:=hS.holds (.row blk cs) Fe
  have hm:=hS.mine (.row blk cs) Fe
  refine ⟨⟨hF.os.trans hS.frm.os,hF.tape.trans hS.frm.tape,hF.output.trans hS.frm.output,Nat.le_trans hS.frm.size hF.size,fun j hj hn=>?_,Nat.le_trans hS.frm.drawn hF.drawn⟩,?_,hS.dist,?_⟩
  · have hne:¬ j=blk:=fun e=>by
      subst e
      rcases hm with h|h
      · exact hn h
      · exact absurd hj (by show ¬ j<w0.heap.size;have:w0.heap.size≤j:=h;omega)
    exact (hF.block j (Nat.lt_of_lt_of_le hj hS.frm.size) hne).trans (hS.frm.block j hj hn)
  · intro e he
    rcases List.mem_cons.1 he with rfl|he
    · exact AcL hR
    · have hh:=hS.holds e (List.mem_cons_of_mem _ he)
      refine Ent.FA hh (hF.block _ (Ent.lt hh) fun e'=>?_)
      have hd:=hS.dist
      simp only [List.map_cons,List.nodup_cons] at hd
      exact hd.1 (List.mem_map.2 ⟨e,he,e'⟩)
  · intro e he
    rcases List.mem_cons.1 he with rfl|he
    · exact hm
    · exact hS.mine e (List.mem_cons_of_mem _ he)
def AscBy (cf:α→α→Int) (ys:List α):Prop:=∀ (i j:Nat) (x y:α),ys[i]?=some x→ys[j]?=some y→i<j→¬ cf y x<0
theorem Adi {P:Program}{ρ:Go.Shelf.Ren}(Ly:SlLaysF0.n6 P ρ) (hk0:0<k) (aE:∀ w,(isAgg (ρ.t 24)).run P w = .ok true w) (zE:∀ w,(Go.sizeOf (ρ.t 24)).run P w = .ok k w) (hk:∀ x,(enc x).length=k) (h1:∀ x, ∀ v∈enc x,v.oneCell'=true)
    (cf:α→α→Int) (hO:SWO (ltOf cf)) (g:Nat) (cb:Array Value) (eg:∀ args w,(callFunc g args).run P w = .ok (.enter g args) w) (p:Nat→Prop) (w0 w:World) (L E:List Ent) (ad:Option Addr) (c:Nat) (xs:List α)
    (hcmp:∀ gb cs,St p w0 w (.row gb cs::L)→∀ w',Frm (fun b=>b=gb) w w'→∀ x y,Calls P g (#[.agg (enc x).toArray, .agg (enc y).toArray]++cb) w' fun e w''=>e = .returned (.int .i64 (cf x y))∧Frm (fun _=>False) w' w'')
    (hV:Vec k ad xs.length c (LO enc xs) E) (hS:St p w0 w (E++L)) (hlen:xs.length<4611686018427387904) :
    Calls P (ρ.f 6) #[.slice ad xs.length c, .func (.func g) #[] cb] w fun e w' =>
      e = .returned (.tuple #[])∧∃ ys E',ys.Perm xs∧AscBy cf ys∧Vec k ad xs.length c (LO enc ys) E'∧St p w0 w' (E'++L):=by
  rcases hV with ⟨ha,hn,hc,hx,hE⟩|⟨gb,cs,rfl,rfl,hx,hcl,hkc⟩
  · have e0:xs=[]:=List.length_eq_zero_iff.1 hn
    subst e0
    refine (Go.Proofs.AnyF.slices_SortFunc_none Ly ad c _ w).mono fun e w' h=>⟨h.1,[],E, .refl _,fun i j A B h=>by simp at h, .inl ⟨ha,hn,hc,hx,hE⟩,by rw [h.2];exact hS⟩
  · have hS':St p w0 w (.row gb cs::L):=hS
    have hR:Row w gb cs:=hS'.holds (.row gb cs) Fe
    have hcs:xs.length*k≤cs.length:=by rw [hcl];exact Nat.mul_le_mul_right k hkc
    have hsz:xs.toArray.size=xs.length:=by simp
    have hcm:CmpLays P g cb enc k cf gb 0 xs.toArray.size w:=fun m os dk hs x y =>
      (hcmp gb cs hS' _ (VP w gb 0 m dk os) x y).mono fun e w' ⟨he,hF⟩=>⟨he,hF.grows⟩
    have hH:HoldsK enc k w gb 0 xs.toArray:=fun t ht=>by
      rw [size_flatK] at ht
      have ht2:t<cs.length:=by rw [hsz] at ht;omega
      rw [Nat.zero_add]
      refine ⟨hR.cell ?_,hR.frozen ht2⟩
      show cs[t]?=some ((flatK enc k xs.toArray)[t]!)
      rw [get_flatK _ _ _ _ ht, ← SZ hk hk0 _ ht]
      show cs[t]?=(LO enc xs)[t]?
      rw [← hx,List.getElem?_take,if_pos (by rw [← hsz];exact ht)]
    have key:=Go.Proofs.AnyQ.slices_SortFunc Ly k aE zE enc hk h1 cf hO g cb gb 0 c xs.toArray w eg hcm hH hR.lt (by rw [hsz];exact hlen)
    rw [hsz] at key
    refine key.mono ?_
    rintro e w' ⟨he,d',n,os,⟨hs1,_,hperm⟩,hsort,rfl⟩
    have hd':d'.size=xs.length:=by rw [hs1,hsz]
    have f1:d'.extract 0 xs.length=d':=by rw [← hd'];simp
    have f2:xs.toArray.extract 0 xs.length=xs.toArray:=by rw [← hsz];exact Array.extract_size
    rw [f1,f2] at hperm
    have hrow:=Aam hk hk0 d' cs (by rw [hd'];exact hcs)
    refine ⟨he,d'.toList,[.row gb (gsL enc k d' cs)],?_,?_,?_,gsW_st hS'⟩
    · exact hperm
    · intro i j A B hi hj hij
      have li:=(List.getElem?_eq_some_iff.1 hi).1
      have lj:=(List.getElem?_eq_some_iff.1 hj).1
      rw [Array.length_toList] at li lj
      have h:=hsort i j (Nat.zero_le _) hij (by rw [← hd'];exact lj)
      rw [Array.getElem?_toList,Array.getElem?_eq_getElem li] at hi
      rw [Array.getElem?_toList,Array.getElem?_eq_getElem lj] at hj
      rw [getElem!_pos d' i li,getElem!_pos d' j lj] at h
      have ea:=Option.some.inj hi
      have eb:=Option.some.inj hj
      subst ea eb
      exact of_decide_eq_false h
    · exact .inr ⟨gb,gsL enc k d' cs,rfl,rfl,by rw [← hd',hrow],by rw [V6];exact hcl,hkc⟩
end
end Go.Proofs.YtcmpamnhegndnaaGreatDoor
namespace Go.Proofs.YtcmpamnhegndnaaGreatDoor
open Go.RowKit Go.Shelf

def ren139:Ren:=⟨fun n=>match n with|6=>139|14=>144|15=>145|20=>148|21=>149|22=>150|23=>151|24=>152|25=>153|26=>154|27=>155|28=>156|29=>157|46=>158|47=>159|48=>160|49=>161|50=>162|57=>163|n=>n,fun n=>match n with|0=>0|3=>3|4=>4|5=>5|9=>9|22=>33|24=>181|25=>230|39=>145|45=>238|46=>239|50=>125|53=>22|55=>184|66=>246|70=>250|76=>252|77=>253|n=>n,fun n=>n⟩
set_option maxRecDepth 100000 in
theorem Acx:SlLaysF0.n6 Tryz.prog ren139 where
  mixed:=mixed
  f6:=⟨Tryz.f139.name,by decide,Tryz.func139.trans (congrArg some Es)⟩
  f14:=⟨Tryz.f144.name,by decide,Tryz.func144.trans (congrArg some Es)⟩
  f15:=Tryz.func145.trans (congrArg some Es)
  f20:=⟨Tryz.f148.name,by decide,Tryz.func148.trans (congrArg some Es)⟩
  f21:=⟨Tryz.f149.name,by decide,Tryz.func149.trans (congrArg some Es)⟩
  f22:=⟨Tryz.f150.name,by decide,Tryz.func150.trans (congrArg some Es)⟩
  f23:=⟨Tryz.f151.name,by decide,Tryz.func151.trans (congrArg some Es)⟩
  f24:=⟨Tryz.f152.name,by decide,Tryz.func152.trans (congrArg some Es)⟩
  f25:=⟨Tryz.f153.name,by decide,Tryz.func153.trans (congrArg some Es)⟩
  f26:=⟨Tryz.f154.name,by decide,Tryz.func154.trans (congrArg some Es)⟩
  f27:=⟨Tryz.f155.name,by decide,Tryz.func155.trans (congrArg some Es)⟩
  f28:=Tryz.func156.trans (congrArg some Es)
  f29:=Tryz.func157.trans (congrArg some Es)
  f46:=⟨Tryz.f158.name,by decide,Tryz.func158.trans (congrArg some Es)⟩
  f47:=Tryz.func159.trans (congrArg some Es)
  f48:=Tryz.func160.trans (congrArg some Es)
  f49:=⟨Tryz.f161.name,by decide,Tryz.func161.trans (congrArg some Es)⟩
  f50:=⟨Tryz.f162.name,by decide,Tryz.func162.trans (congrArg some Es)⟩
  f57:=⟨Tryz.f163.name,by decide,Tryz.func163.trans (congrArg some Es)⟩
  t0:=Tryz.underlying0
  a0:=Tryz.isAgg0
  z0:=Tryz.sizeOf0
  v0:=Tryz.zeroValue0
  t3:=Tryz.underlying3
  a3:=Tryz.isAgg3
  z3:=Tryz.sizeOf3
  v3:=Tryz.zeroValue3
  t4:=Tryz.underlying4
  a4:=Tryz.isAgg4
  z4:=Tryz.sizeOf4
  v4:=Tryz.zeroValue4
  t5:=Tryz.underlying5
  a5:=Tryz.isAgg5
  z5:=Tryz.sizeOf5
  v5:=Tryz.zeroValue5
  t9:=Tryz.underlying9
  a9:=Tryz.isAgg9
  z9:=Tryz.sizeOf9
  v9:=Tryz.zeroValue9
  t22:=Tryz.underlying33
  a22:=Tryz.isAgg33
  z22:=Tryz.sizeOf33
  v22:=Tryz.zeroValue33
  t25:=Tryz.underlying230
  a25:=Tryz.isAgg230
  z25:=Tryz.sizeOf230
  v25:=Tryz.zeroValue230
  t39:=Tryz.underlying145
  a39:=Tryz.isAgg145
  z39:=Tryz.sizeOf145
  v39:=Tryz.zeroValue145
  t45:=Tryz.underlying238
  a45:=Tryz.isAgg238
  z45:=Tryz.sizeOf238
  v45:=Tryz.zeroValue238
  t46:=Tryz.underlying239
  a46:=Tryz.isAgg239
  z46:=Tryz.sizeOf239
  v46:=Tryz.zeroValue239
  t50:=Tryz.underlying125
  a50:=Tryz.isAgg125
  z50:=Tryz.sizeOf125
  v50:=Tryz.zeroValue125
  t53:=Tryz.underlying22
  a53:=Tryz.isAgg22
  z53:=Tryz.sizeOf22
  v53:=Tryz.zeroValue22
  t55:=Tryz.underlying184
  a55:=Tryz.isAgg184
  z55:=Tryz.sizeOf184
  v55:=Tryz.zeroValue184
  t66:=Tryz.underlying246
  a66:=Tryz.isAgg246
  z66:=Tryz.sizeOf246
  v66:=Tryz.zeroValue246
  t70:=Tryz.underlying250
  a70:=Tryz.isAgg250
  z70:=Tryz.sizeOf250
  v70:=Tryz.zeroValue250
  t76:=Tryz.underlying252
  a76:=Tryz.isAgg252
  z76:=Tryz.sizeOf252
  v76:=Tryz.zeroValue252
  t77:=Tryz.underlying253
  a77:=Tryz.isAgg253
  z77:=Tryz.sizeOf253
  v77:=Tryz.zeroValue253
end Go.Proofs.YtcmpamnhegndnaaGreatDoor
namespace Go.Proofs.YtcmpamnhegndnaaGreatDoor
open Go.RowKit Go.Sort
section Gq
attribute [local irreducible] WL WC WE WQ WP WH WR WM WRH

theorem Tp (w:World) (x:Int):Calls Tryz.prog 146 #[.int .i64 x] w fun e w'=>e = .returned (.bool false)∧Frm (fun _=>False) w w':=by
  refine enter Tryz.func146 rfl Tryz.ntmps146 rfl (St.start (fun _=>False) w) ?_
  refine J9 ?_
  refine zV ((BY rfl rfl rfl).f (fun h=>h rfl)) rfl ?_
  exact Eb
def SI (x y:Int):Int:=if x<y then -1 else if y<x then 1 else 0
theorem CmpI_c (w:World) (x y:Int):Calls Tryz.prog 141 #[.int .i64 x, .int .i64 y] w fun e w'=>e = .returned (.int .i64 (SI x y))∧Frm (fun _=>False) w w':=by
  refine enter Tryz.func141 rfl Tryz.ntmps141 rfl (St.start (fun _=>False) w) ?_
  refine J8 ?_
  refine zk YK rfl (fun w hS=>Tp w x) ?_
  refine J6 ?_
  refine zk YK rfl (fun w hS=>Tp w y) ?_
  refine J26 ?_
  refine JT (fun h16=>?_) (fun h16=>?_)
  refine J10 ?_
  refine eT1 ?_
  exact fun w' h=>⟨by unfold SI;rw [if_pos h16],h.frm⟩
  refine J10 ?_
  refine JT (fun h19=>?_) (fun h19=>?_)
  refine J10 ?_
  refine eT1 ?_
  exact fun w' h=>⟨by unfold SI;rw [if_neg h16,if_pos h19],h.frm⟩
  refine J11 ?_
  refine eT1 ?_
  exact fun w' h=>⟨by unfold SI;rw [if_neg h16,if_neg h19],h.frm⟩
theorem Lw (x y:Int):SI x y<0↔x<y:=by unfold SI;split <;> (try split) <;> omega
theorem Zd (w:World) (x y:CB):Calls Tryz.prog 140 #[.agg x.cells.toArray, .agg y.cells.toArray] w fun e w'=>e = .returned (.int .i64 (SI x.ty y.ty))∧Frm (fun _=>False) w w':=by
  refine enter Tryz.func140 rfl Tryz.ntmps140 rfl (St.start (fun _=>False) w) ?_
  refine J2 ?_
  refine WL.box rfl rfl rfl (.none rfl) rfl rfl ?_
  intro g2 hg2
  refine WL.box rfl rfl rfl (.none rfl) rfl rfl ?_
  intro g3 hg3
  refine J9 ?_
  refine zk ck_141 rfl (fun w hS=>CmpI_c w x.ty y.ty) ?_
  exact Eb
instance:Inhabited CB:=⟨⟨0,none,0,[]⟩⟩
def Qi (x y:CB):Int:=SI x.ty y.ty
theorem XT:Go.Sort.SWO (ltOf Qi):=by
  constructor
  · intro x;unfold ltOf Qi;exact decide_eq_false (by rw [Lw];omega)
  · intro x y z h1 h2;unfold ltOf Qi at *;have a:=of_decide_eq_true h1;have b:=of_decide_eq_true h2;rw [Lw] at a b;exact decide_eq_true (by rw [Lw];omega)
  · intro x y z h1 h2;unfold ltOf Qi at *;have a:=of_decide_eq_false h1;have b:=of_decide_eq_false h2;rw [Lw] at a b;exact decide_eq_false (by rw [Lw];omega)
theorem Nk:∀ os:List CB,EA os=LO CB.cells os
  | []=>rfl
  | o::os=>by show o.cells++EA os=o.cells++LO CB.cells os;rw [Nk os]
theorem Xe (w0 w:World) (L E:List Ent) (ad:Option Addr) (c:Nat) (os:List CB) (hV:Vec 2 ad os.length c (EA os) E) (hS:St (fun _=>False) w0 w (E++L)) (hlen:os.length<1000000) :
    Calls Tryz.prog 139 #[.slice ad os.length c, .func (.func 140) #[] #[]] w fun e w' =>
      e = .returned (.tuple #[])∧∃ ys E',ys.Perm os∧(ys.map LP).Pairwise (fun x y=>x.1≤y.1)∧Vec 2 ad os.length c (EA ys) E'∧St (fun _=>False) w0 w' (E'++L):=by
  rw [Nk] at hV
  refine (Adi (P:=Tryz.prog) Acx Er Tryz.isAgg181 Tryz.sizeOf181 (fun _=>rfl) (fun x v hv=>by
      unfold CB.cells at hv
      simp only [List.mem_cons,List.not_mem_nil,or_false] at hv
      rcases hv with h|h <;> (subst h;rfl)) Qi XT 140 #[] ck_140 (fun _=>False) w0 w L E ad c os (fun gb cs _ w' _ x y=>Zd w' x y) hV hS Er).mono ?_
  rintro e w' ⟨he,ys,E',hp,ha,hV',hS'⟩
  refine ⟨he,ys,E',hp,?_,by rw [Nk];exact hV',hS'⟩
  rw [List.pairwise_map,List.pairwise_iff_getElem]
  intro i j hi hj hij
  have:=ha i j _ _ (List.getElem?_eq_getElem hi) (List.getElem?_eq_getElem hj) hij
  unfold Qi at this
  rw [Lw] at this
  show ys[i].ty≤ys[j].ty
  omega
end Gq
end Go.Proofs.YtcmpamnhegndnaaGreatDoor
namespace Go.Proofs.YtcmpamnhegndnaaGreatDoor
open Go.RowKit
section Gq
attribute [local irreducible] WL WC WE WQ WP WH WR WM WRH

theorem cut_u (w:World) (b o c:Nat) (xs:List Int) (hW:Win w b o c xs) (hn:xs.length≤1000000) :
    Calls Tryz.prog 136 #[.slice (some ⟨b,o,none⟩) xs.length c] w fun e w'=>∃ (f t:Nat) (ok:Bool),e = .returned (.tuple #[.int .i64 f, .int .i64 t, .bool ok])∧Frm (fun _=>False) w w' ∧
      (ok=false→xs.length<BC xs∨xs.length<toN xs)∧(ok=true→f=BC xs∧t=toN xs∧BC xs≤xs.length∧toN xs≤xs.length) :=
  (cut_c w b o c xs hW hn).mono fun e w' h=>by
    obtain ⟨rfl,hF⟩:=h
    unfold cutV
    split
    · rename_i h1
      exact ⟨0,0,false,rfl,hF,fun _=>.inl h1,fun e=>by cases e⟩
    · rename_i h1
      exact ⟨BC xs,toN xs,decide (toN xs≤xs.length),rfl,hF,fun e=>.inr (by have:=of_decide_eq_false e;omega),fun e=>⟨rfl,rfl,by omega,of_decide_eq_true e⟩⟩
theorem take_u (w0 w1:World) (ga b oa ca ov cv:Nat) (all v:List Int) (a:AtL) (K L:List Ent) (hG:GF w0) (hZ:GZ w0) (hWa:Win w0 b oa ca all) (hWv:Win w0 b ov cv v) (hn:all.length≤100000) (hnv:v.length≤100000) (h2:2≤all.length) (ht:1≤fOf all 1∧fOf all 1≤8)
    (hA:GB K a) (hh0:0≤a.has) (hh1:a.has≤511) (hb:∀ t:Nat,fOf all 1=t→a.has / 2 ^ t % 2=0) (h8:fOf all 1=8→a.cad=none∧a.cc=0∧a.comms=[]) (hS0:St (fun _=>False) w0 w1 (.row ga a.cells::(K++L))) :
    Calls Tryz.prog 137 #[.pointer (some ⟨ga,0,none⟩), .slice (some ⟨b,oa,none⟩) all.length ca, .slice (some ⟨b,ov,none⟩) v.length cv] w1 fun e w'=>∃ (ok:Bool) (s:Int) (d:ByteArray) (a':AtL) (K':List Ent),
      e = .returned (.agg (AG (if ok then 0 else 3) s d).toArray)∧GB K' a'∧a'.others=a.others∧a'.oad=a.oad∧a'.oc=a.oc∧(fOf all 1=8∨(a'.cad=a.cad∧a'.cc=a.cc))∧St (fun _=>False) w0 w' (.row ga a'.cells::(K'++L)) ∧
      (ok=false→DP a.d all v = .inr (s,d))∧(ok=true→s=0∧d=⟨#[]⟩∧DP a.d all v = .inl a'.d):=by
  obtain ⟨t,et⟩:=Int.eq_ofNat_of_zero_le (show 0≤fOf all 1 by omega)
  have es:DP a.d all v=CL a.d all v:=by unfold DP;rw [if_pos ht]
  rw [es]
  refine (take_c w0 w1 ga b oa ca ov cv all v a K L hG hZ hWa hWv hn hnv h2 t et Er Er hA hh0 hh1 (hb t et) (fun e=>h8 Er) hS0).mono ?_
  rintro e w' ⟨a',K',hA',q1,q2,q3,q4,hS',hK,hD⟩
  cases hq:CL a.d all v with
  | inr x =>
    obtain ⟨s,d⟩:=x
    rw [hq] at hD
    exact ⟨false,s,d,a',K',hD,hA',q1,q2,q3,q4,hS',fun _=>rfl,fun e=>by cases e⟩
  | inl d =>
    rw [hq] at hD
    exact ⟨true,0,⟨#[]⟩,a',K',hD.1,hA',q1,q2,q3,q4,hS',(fun e=>by cases e),fun _=>⟨rfl,rfl,by rw [hD.2]⟩⟩
theorem Acf (w0 w1:World) (ga b oa ca ov cv:Nat) (all v:List Int) (a:AtL) (E L:List Ent) (hWa:Win w0 b oa ca all) (hWv:Win w0 b ov cv v) (hn:all.length≤100000) (hnv:v.length≤100000) (h2:2≤all.length) (ht:¬ (1≤fOf all 1∧fOf all 1≤8))
    (hV:Vec 2 a.oad a.others.length a.oc (EA a.others) E) (hol:a.others.length≤100000) (hS0:St (fun _=>False) w0 w1 (E++(.row ga a.cells::L))) :
    Calls Tryz.prog 138 #[.pointer (some ⟨ga,0,none⟩), .slice (some ⟨b,oa,none⟩) all.length ca, .slice (some ⟨b,ov,none⟩) v.length cv] w1 fun e w'=>∃ (ok:Bool) (s:Int) (d:ByteArray) (ad:Option Addr) (oc:Nat) (os:List CB) (E' K:List Ent),
      e = .returned (.agg (AG (if ok then 0 else 3) s d).toArray)∧Vec 2 ad os.length oc (EA os) E'∧os.length≤a.others.length+1∧(∀ KO,(∀ o∈a.others,Ko KO o)→∀ o∈os,Ko (K++KO) o)∧St (fun _=>False) w0 w' (E'++(K++(.row ga (AtL.cells { a with oad:=ad,oc:=oc,others:=os })::L))) ∧
      (ok=false→DP a.d all v = .inr (s,d))∧(ok=true→s=0∧d=⟨#[]⟩∧DP a.d all v = .inl (AtL.d { a with oad:=ad,oc:=oc,others:=os })):=by
  have es:DP a.d all v=DY a.d all v:=by unfold DP;rw [if_neg ht]
  rw [es]
  refine (AcA w0 w1 ga b oa ca ov cv all v a E L hWa hWv hn hnv h2 hV hol hS0).mono ?_
  rintro e w' ⟨ad,oc,os,E',K,hV',hol',hO',hS',hD⟩
  cases hq:DY a.d all v with
  | inr x =>
    obtain ⟨s,d⟩:=x
    rw [hq] at hD
    exact ⟨false,s,d,ad,oc,os,E',K,hD,hV',hol',hO',hS',fun _=>rfl,fun e=>by cases e⟩
  | inl d =>
    rw [hq] at hD
    exact ⟨true,0,⟨#[]⟩,ad,oc,os,E',K,hD.1,hV',hol',hO',hS',(fun e=>by cases e),fun _=>⟨rfl,rfl,by rw [hD.2]⟩⟩
def EV (seen:List Int):List Value:=(List.range 256).map fun (i:Nat)=>.bool (decide ((i:Int)∈seen))
theorem Ni (seen:List Int){k:Nat}(hk:k<256):(EV seen)[k]?=some (.bool (decide ((k:Int)∈seen))):=by
  unfold EV;rw [List.getElem?_map,List.getElem?_range hk];rfl
theorem Yg (seen:List Int){x:Int}(h0:0≤x) (h1:x≤255):(EV seen).set x.toNat (.bool true)=EV (x::seen):=by
  apply List.ext_getElem?
  intro i
  rw [List.getElem?_set]
  by_cases hi:i<256
  · rw [Ni _ hi,Ni _ hi]
    split
    · rename_i e
      rw [if_pos (by rw [show (EV seen).length=256 by simp [EV]];omega)]
      rw [decide_eq_true (show (i:Int)∈x::seen by rw [show (i:Int)=x by omega];exact List.mem_cons_self ..)]
    · rename_i e
      congr 2
      have:(i:Int)≠x:=by omega
      exact decide_eq_decide.2 (by simp [this])
  · have l1:(EV seen).length=256:=by simp [EV]
    have l2:(EV (x::seen)).length=256:=by simp [EV]
    rw [if_neg Er,List.getElem?_eq_none Er,List.getElem?_eq_none Er]
theorem AaQ:Zero Tryz.prog 224 (EV []):=Zero.mk (z:=.agg (EV []).toArray) Es rfl
structure Ic (K:List Ent) (a:AtL):Prop where
  own:GB K a
  Jk:∃ E,Vec 2 a.oad a.others.length a.oc (EA a.others) E∧∀ e∈E,e∈K
  vals:∀ o∈a.others,Ko K o
structure DecS where
  a:AtL
  K:List Ent
  E:List Ent
  KO:List Ent
def PG (w0 w':World) (xs:List Int) (e:Ending):Prop :=
  match ED AtL.zero.d [] xs with
  | .inr (s,d)=>e = .returned (.tuple #[.agg AtL.zero.cells.toArray, .agg (AG 3 s d).toArray])∧Frm (fun _=>False) w0 w'
  | .inl d=>∃ a K,e = .returned (.tuple #[.agg a.cells.toArray, .agg (AG 0 0 ⟨#[]⟩).toArray])∧a.d = { d with others:=DM d.others }∧Ic K a∧St (fun _=>False) w0 w' K
set_option maxHeartbeats 4000000 in
theorem TW (w0:World) (b o c:Nat) (xs:List Int) (hG:GF w0) (hZ:GZ w0) (hW:Win w0 b o c xs) (hn:xs.length≤90000) :
    Calls Tryz.prog 129 #[.slice (some ⟨b,o,none⟩) xs.length c] w0 fun e w'=>PG w0 w' xs e:=by
  refine enter Tryz.func129 rfl Tryz.ntmps129 rfl (St.start (fun _=>False) w0) ?_
  refine J2 ?_
  refine WL.alloc rfl Ot (.none rfl) rfl rfl ?_
  intro g2 hg2
  refine WL.alloc rfl CV (.none rfl) rfl rfl ?_
  intro g3 hg3
  refine J4 ?_
  refine WL.alloc rfl Ot (.none rfl) rfl rfl ?_
  intro g4 hg4
  refine J4 ?_
  refine WL.alloc rfl AaQ (.none rfl) rfl rfl ?_
  intro g5 hg5
  refine WL.as (L':=.row g5 (EV [])::.row g4 AtL.zero.cells::[.row g3 (AG 0 0 ⟨#[]⟩), .row g2 AtL.zero.cells]) Es ?_
  refine WL.to (L':=.row g4 AtL.zero.cells::[.row g5 (EV []), .row g3 (AG 0 0 ⟨#[]⟩), .row g2 AtL.zero.cells]) (fun w hS=>hS.perm (List.Perm.swap _ _ _)) ?_
  refine J4 ?_
  refine WC.loop (fun x:List Int×Nat×Nat×List Int×DecS=>[(0, .slice (some ⟨b,x.2.1,none⟩) x.1.length x.2.2.1),(2, .pointer (some ⟨g2,0,none⟩)),(3, .pointer (some ⟨g3,0,none⟩)),(4, .pointer (some ⟨g4,0,none⟩)),(5, .pointer (some ⟨g5,0,none⟩))]) (fun x=>.row g4 x.2.2.2.2.a.cells::(x.2.2.2.2.K++(x.2.2.2.2.E++(x.2.2.2.2.KO++[.row g5 (EV x.2.2.2.1), .row g3 (AG 0 0 ⟨#[]⟩), .row g2 AtL.zero.cells])))) (fun x=>x.1.length+x.2.2.2.2.a.others.length≤xs.length∧Win w0 b x.2.1 x.2.2.1 x.1∧ED AtL.zero.d [] xs=ED x.2.2.2.2.a.d x.2.2.2.1 x.1∧GB x.2.2.2.2.K x.2.2.2.2.a∧Vec 2 x.2.2.2.2.a.oad x.2.2.2.2.a.others.length x.2.2.2.2.a.oc (EA x.2.2.2.2.a.others) x.2.2.2.2.E∧(∀ o∈x.2.2.2.2.a.others,Ko x.2.2.2.2.KO o)∧KR x.2.2.2.2.a.d x.2.2.2.1∧((8:Int) ∉ x.2.2.2.1→x.2.2.2.2.a.cad=none∧x.2.2.2.2.a.cc=0)) (fun x=>x.1.length) (xs,o,c,[],⟨.zero,[],[],[]⟩) ⟨Nat.le_refl _,hW,rfl,GB.zero,Vec.nil 2,(fun _ h=>by cases h),⟨by show (0:Int)≤0;decide,by show (0:Int)≤511;decide,fun t _ _=>by show (0:Int) / _ % 2=0;simp,fun _=>rfl,List.nodup_nil,fun _ h=>by cases h⟩,fun _=>⟨rfl,rfl⟩⟩ Km (.refl _) ?_
  rintro ⟨ys,o2,c2,seen,⟨a,K,E,KO⟩⟩ ⟨hl,hW2,hy,hA,hV,hO,hSn,h8⟩
  dsimp only at hl hW2 hy hA hV hO hSn h8
  dsimp only
  have hle:=hW2.le
  have h1:=CP hW2.bys 1
  have hfr:=KL ys
  refine J5 ?_
  refine JT (fun h12=>?_) (fun h12=>?_)
  ·
   refine J9 ?_
   refine zK ck_136 rfl ?_
   intro w1 hS
   refine (cut_u w1 b o2 c2 ys (hW2.st hS) Er).mono ?_
   rintro e w' ⟨f,t,ok,rfl,hF,hok0,hok1⟩
   refine ⟨_,_,rfl,hS.ext hF,?_⟩
   refine J9 ?_
   refine WC.cut (fun _:Unit=>[(0, .slice (some ⟨b,o2,none⟩) ys.length c2),(2, .pointer (some ⟨g2,0,none⟩)),(3, .pointer (some ⟨g3,0,none⟩)),(4, .pointer (some ⟨g4,0,none⟩)),(5, .pointer (some ⟨g5,0,none⟩)),(6, .int .i64 (BC ys)),(7, .int .i64 (toN ys))]) (fun _=>.row g4 a.cells::(K++(E++(KO++[.row g5 (EV seen), .row g3 (AG 0 0 ⟨#[]⟩), .row g2 AtL.zero.cells])))) (fun _=>0<ys.length∧BC ys≤ys.length∧toN ys≤ys.length∧fOf ys 1 ∉ seen) ?_ ?_
   refine J3 ?_
   skip
   cases ok
   refine J7 ?_
   generalize hsn:decide ((((fOf ys 1).toNat:Nat):Int)∈seen)=bs
   cases bs
   exact Bw
   exact Bw
   refine J2 ?_
   obtain ⟨rfl,rfl,hf2,ht2⟩:=hok1 rfl
   refine J1 ?_
   refine zS (AB (lo:=1) rfl rfl rfl Tryz.underlying25 AO rfl Er) rfl ?_
   refine zS (AA rfl rfl BH (AL (fun h=>h) (hW2.get (BJ Er)))) rfl ?_
   refine zS (AT (lo:=(fOf ys 1).toNat) rfl rfl rfl Tryz.underlying224 XQ Er Er) rfl ?_
   refine zS (AA rfl rfl Zi (cellAt (by rw [Nat.zero_add,Nat.mul_one];exact Ni seen (by omega)))) rfl ?_
   generalize hsn:decide ((((fOf ys 1).toNat:Nat):Int)∈seen)=bs
   cases bs
   refine J5 ?_
   exact eM () ⟨by omega,hf2,ht2,by rw [show fOf ys 1=(((fOf ys 1).toNat:Nat):Int) by omega];exact of_decide_eq_false hsn⟩
   refine J18 ?_
   refine eT2 ?_
   have e0:ED AtL.zero.d [] xs = .inr (1,⟨#[]⟩):=(by rw [hy];exact HU Er (.inr (.inr (by rw [show fOf ys 1=(((fOf ys 1).toNat:Nat):Int) by omega];exact of_decide_eq_true hsn))))
   exact Bz
   ·
    rintro _ ⟨h0,hf2,ht2,hns⟩
    have htg:=L7 ys
    have hst:=Ij (d:=a.d) (seen:=seen) (xs:=ys) h0 (fun h=>by rcases h with h|h|h <;> first|omega|exact hns h)
    have hWa:=hW2.take (toN ys)
    have hWv:=hWa.drop (BC ys)
    have hal:(ys.take (toN ys)).length=toN ys:=Ey
    have hvl:((ys.take (toN ys)).drop (BC ys)).length=toN ys-BC ys:=(by rw [List.length_drop,hal])
    have hf1:fOf (ys.take (toN ys)) 1=fOf ys 1:=(by rw [Lm,if_pos (by omega)])
    refine J3 ?_
    refine zV (AB (lo:=1) rfl rfl rfl Tryz.underlying25 AO rfl Er) rfl ?_
    refine zV (AA rfl rfl BH (AL (fun h=>h) (hW2.get (BJ Er)))) rfl ?_
    refine zV (AT (lo:=(fOf ys 1).toNat) rfl rfl rfl Tryz.underlying224 XQ Er Er) rfl ?_
    refine WL.DA rfl rfl rfl rfl Zi (by rw [show (EV seen).length=256 by simp [EV]];omega) (.none rfl) rfl ?_
    refine WL.as (L':=.row g4 a.cells::(K++(E++(KO++[.row g5 (EV (fOf ys 1::seen)), .row g3 (AG 0 0 ⟨#[]⟩), .row g2 AtL.zero.cells])))) (by rw [← Yg seen h1.1 h1.2,Nat.zero_add,Nat.mul_one]) ?_
    refine J5 ?_
    refine WL.alloc rfl CV (.none rfl) rfl rfl ?_
    intro g9 hg9
    refine J3 ?_
    refine WC.cut (fun y:Bool×Int×ByteArray×DecS=>[(0, .slice (some ⟨b,o2,none⟩) ys.length c2),(2, .pointer (some ⟨g2,0,none⟩)),(3, .pointer (some ⟨g3,0,none⟩)),(4, .pointer (some ⟨g4,0,none⟩)),(5, .pointer (some ⟨g5,0,none⟩)),(7, .int .i64 (toN ys)),(9, .pointer (some ⟨g9,0,none⟩))]) (fun y=>.row g9 (AG (if y.1 then 0 else 3) y.2.1 y.2.2.1)::.row g4 y.2.2.2.a.cells::(y.2.2.2.K++(y.2.2.2.E++(y.2.2.2.KO++[.row g5 (EV (fOf ys 1::seen)), .row g3 (AG 0 0 ⟨#[]⟩), .row g2 AtL.zero.cells])))) (fun y=>GB y.2.2.2.K y.2.2.2.a∧Vec 2 y.2.2.2.a.oad y.2.2.2.a.others.length y.2.2.2.a.oc (EA y.2.2.2.a.others) y.2.2.2.E∧(∀ o∈y.2.2.2.a.others,Ko y.2.2.2.KO o)∧y.2.2.2.a.others.length≤a.others.length+1∧((8:Int) ∉ fOf ys 1::seen→y.2.2.2.a.cad=none∧y.2.2.2.a.cc=0) ∧
    (y.1=false→DP a.d (ys.take (toN ys)) ((ys.take (toN ys)).drop (BC ys)) = .inr (y.2.1,y.2.2.1))∧(y.1=true→y.2.1=0∧y.2.2.1=⟨#[]⟩∧DP a.d (ys.take (toN ys)) ((ys.take (toN ys)).drop (BC ys)) = .inl y.2.2.2.a.d)) ?_ ?_
    ·
     refine J3 ?_
     refine zV (AB (lo:=1) rfl rfl rfl Tryz.underlying25 AO rfl Er) rfl ?_
     refine zV (AA rfl rfl BH (AL (fun h=>h) (hW2.get (BJ Er)))) rfl ?_
     refine zV (AQ rfl rfl Tryz.underlying3 Tryz.underlying5 (AF Er Er)) rfl ?_
     refine zk UZ rfl (fun w hS=>Nl w (fOf ys 1)) ?_
     refine J2 ?_
     refine WC.Lp rfl (fun h39=>?_) (fun h39=>?_)
     refine WC.BB mixed<|rF 2 [0,1,2,3,4,5,6]<|?_
     refine J2 ?_
     refine pV ((CT (hi:=toN ys) rfl rfl rfl Tryz.underlying25 AO rfl Er)) rfl ?_
     refine J3 ?_
     refine pV ((CN (lo:=BC ys) (hi:=toN ys) rfl rfl rfl rfl Tryz.underlying25 AO rfl rfl Er Er)) rfl ?_
     refine J1 ?_
     refine rO 0 [7,8]<|zK ck_137 rfl<|?_
     intro w1 hS
     have hc:=take_u w0 w1 g4 b o2 c2 (AV o2 (BC ys) c2 1) (c2-BC ys) (ys.take (toN ys)) ((ys.take (toN ys)).drop (BC ys)) a K (.row g9 (AG 0 0 ⟨#[]⟩)::(E++(KO++[.row g5 (EV (fOf ys 1::seen)), .row g3 (AG 0 0 ⟨#[]⟩), .row g2 AtL.zero.cells]))) hG hZ hWa hWv Er Er Er (by rw [hf1];exact h39) hA hSn.h0 hSn.h1 (fun t et=>hSn.bit t Er (.inr (by rw [← et,hf1];exact hns))) (fun e8=>by
       rw [hf1] at e8
       rw [e8] at hns
       exact ⟨(h8 hns).1,(h8 hns).2,hSn.com hns⟩) (St.front (R:=.row g4 a.cells::K) (L:=E++(KO++[.row g5 (EV (fOf ys 1::seen)), .row g3 (AG 0 0 ⟨#[]⟩), .row g2 AtL.zero.cells])) [.row g9 (AG 0 0 ⟨#[]⟩)] hS)
     rw [hal,hvl] at hc
     refine hc.mono ?_
     rintro e w' ⟨ok,s,d,a',K',rfl,hA',q1,q2,q3,q4,hS',hF,hT⟩
     refine ⟨_,_,rfl,hS',?_⟩
     refine J1 ?_
     refine WL.as (L':=.row g4 a'.cells::(K'++(.row g9 (AG (if ok then 0 else 3) s d)::(E++(KO++[.row g5 (EV (fOf ys 1::seen)), .row g3 (AG 0 0 ⟨#[]⟩), .row g2 AtL.zero.cells]))))) rfl<|WL.to (L':=.row g9 (AG (if ok then 0 else 3) s d)::.row g4 a'.cells::(K'++(E++(KO++[.row g5 (EV (fOf ys 1::seen)), .row g3 (AG 0 0 ⟨#[]⟩), .row g2 AtL.zero.cells])))) (fun w hS=>St.front (R:=[.row g9 (AG (if ok then 0 else 3) s d)]) (L:=E++(KO++[.row g5 (EV (fOf ys 1::seen)), .row g3 (AG 0 0 ⟨#[]⟩), .row g2 AtL.zero.cells])) (.row g4 a'.cells::K') hS)<|?_
     refine J2 ?_
     exact eM (ok,s,d,⟨a',K',E,KO⟩) ⟨hA',by dsimp only;rw [q1,q2,q3];exact hV,by dsimp only;rw [q1];exact hO,by dsimp only;rw [q1];omega,fun hn8=>by
     dsimp only
     rcases q4 with q4|q4
     · rw [hf1] at q4;rw [q4] at hn8;exact absurd (List.mem_cons_self ..) hn8
     · rw [q4.1,q4.2];exact h8 fun hm=>hn8 (List.mem_cons_of_mem _ hm),hF,hT⟩
     ·
      refine WC.BB mixed<|rF 2 [0,1,2,3,4,5,6]<|?_
      refine J2 ?_
      refine pV ((CT (hi:=toN ys) rfl rfl rfl Tryz.underlying25 AO rfl Er)) rfl ?_
      refine J3 ?_
      refine pV ((CN (lo:=BC ys) (hi:=toN ys) rfl rfl rfl rfl Tryz.underlying25 AO rfl rfl Er Er)) rfl ?_
      refine J1 ?_
      refine rO 0 [7,8]<|zK ck_138 rfl<|?_
      intro w1 hS
      have hc:=Acf w0 w1 g4 b o2 c2 (AV o2 (BC ys) c2 1) (c2-BC ys) (ys.take (toN ys)) ((ys.take (toN ys)).drop (BC ys)) a E (.row g9 (AG 0 0 ⟨#[]⟩)::(K++(KO++[.row g5 (EV (fOf ys 1::seen)), .row g3 (AG 0 0 ⟨#[]⟩), .row g2 AtL.zero.cells]))) hWa hWv Er Er Er (by rw [hf1];exact h39) hV Er
        ((St.front (R:=E) (L:=KO++[.row g5 (EV (fOf ys 1::seen)), .row g3 (AG 0 0 ⟨#[]⟩), .row g2 AtL.zero.cells]) (.row g9 (AG 0 0 ⟨#[]⟩)::.row g4 a.cells::K) hS).perm (List.Perm.append_left E (List.Perm.swap _ _ _)))
      rw [hal,hvl] at hc
      refine hc.mono ?_
      rintro e w' ⟨ok,s,d,ad,oc,os,E',K2,rfl,hV',hol',hO',hS',hF,hT⟩
      refine ⟨_,_,rfl,hS',?_⟩
      refine J1 ?_
      refine WL.as (L':=E'++(K2++(.row g4 (AtL.cells { a with oad:=ad,oc:=oc,others:=os })::.row g9 (AG (if ok then 0 else 3) s d)::(K++(KO++[.row g5 (EV (fOf ys 1::seen)), .row g3 (AG 0 0 ⟨#[]⟩), .row g2 AtL.zero.cells]))))) rfl ?_
      refine WL.to (L':=.row g9 (AG (if ok then 0 else 3) s d)::.row g4 (AtL.cells { a with oad:=ad,oc:=oc,others:=os })::(K++(E'++((K2++KO)++[.row g5 (EV (fOf ys 1::seen)), .row g3 (AG 0 0 ⟨#[]⟩), .row g2 AtL.zero.cells])))) (fun w hS=>by
        have:=St.front (R:=.row g4 (AtL.cells { a with oad:=ad,oc:=oc,others:=os })::.row g9 (AG (if ok then 0 else 3) s d)::K) (L:=KO++[.row g5 (EV (fOf ys 1::seen)), .row g3 (AG 0 0 ⟨#[]⟩), .row g2 AtL.zero.cells]) (E'++K2) Ez
        refine St.perm ?_ (List.Perm.swap _ _ _)
        simpa only [List.cons_append,List.append_assoc,List.nil_append] using this) ?_
      refine J2 ?_
      exact eM (ok,s,d,⟨{ a with oad:=ad,oc:=oc,others:=os },K,E',K2++KO⟩) ⟨⟨hA.path,hA.H5,hA.comms⟩,hV',hO' KO hO,hol',fun hn8=>h8 fun hm=>hn8 (List.mem_cons_of_mem _ hm),hF,hT⟩
    rintro ⟨ok,s,d,⟨a',K',E',KO'⟩⟩ ⟨hA',hV',hO',hlo,h8',hF,hT⟩
    dsimp only at hA' hV' hO' hlo h8' hF hT
    dsimp only
    refine J4 ?_
    skip
    cases ok
    refine J1 ?_
    refine zV (Gp rfl rfl rfl DX DU rfl rfl (by (intro h;simp [AG] at h))) rfl ?_
    refine J4 ?_
    refine WC.BB mixed<|rF 3 [0]<|?_
    refine J2 ?_
    refine WR.each (g:=2) [1,2] Es Et ?_
    refine ⟨?_,?_⟩
    refine J2 ?_
    refine rO 0 [2,3] ?_
    refine J11 ?_
    exact Eh
    refine J2 ?_
    refine rA 1 [1] rfl ?_
    refine J2 ?_
    refine rO 0 [3] ?_
    refine J10 ?_
    exact Eh
    obtain ⟨rfl,rfl,hst2⟩:=hT rfl
    refine J1 ?_
    refine zV (EU rfl rfl rfl DX DU rfl rfl Gf) rfl ?_
    refine J8 ?_
    refine zV ((BW (lo:=toN ys) rfl rfl rfl Tryz.underlying25 AO rfl Er)) rfl ?_
    refine J3 ?_
    exact WE.next (ys.drop (toN ys),AV o2 (toN ys) c2 1,c2-toN ys,fOf ys 1::seen,⟨a',K',E',KO'⟩) Fs ⟨by dsimp only;rw [List.length_drop];omega,hW2.drop (toN ys),by dsimp only;rw [hy,hst,hst2],hA',hV',hO',by
    have:=hSn.step (all:=ys.take (toN ys)) (v:=(ys.take (toN ys)).drop (BC ys)) hWa.bys (by rw [hf1];exact hns) hst2
    rwa [hf1] at this,h8'⟩ (.eq rfl F6 (.cons rfl (.cons rfl (.cons rfl (.cons rfl .nil))))) (.cons _ (.refl _))
  refine J12 ?_
  refine zK ck_139 rfl ?_
  intro w1 hS
  refine (Xe w0 w1 ((.row g4 a.cells::K)++(KO++[.row g5 (EV seen), .row g3 (AG 0 0 ⟨#[]⟩), .row g2 AtL.zero.cells])) E a.oad a.oc a.others hV (St.front (R:=E) (L:=KO++[.row g5 (EV seen), .row g3 (AG 0 0 ⟨#[]⟩), .row g2 AtL.zero.cells]) (.row g4 a.cells::K) hS) Er).mono ?_
  rintro e w' ⟨rfl,zs,E2,hp,ha,hV2,hS'⟩
  refine ⟨_,E2++(.row g4 a.cells::(K++(KO++[.row g5 (EV seen), .row g3 (AG 0 0 ⟨#[]⟩), .row g2 AtL.zero.cells]))),rfl,hS',?_⟩
  refine J11 ?_
  refine eT2 ?_
  obtain rfl:ys=[]:=List.length_eq_zero_iff.1 Er
  have e0:ED AtL.zero.d [] xs = .inl a.d:=(by rw [hy,Kg])
  have hzl:a.others.length=zs.length:=hp.length_eq.symm
  have ez:AtL.cells { a with others:=zs }=a.cells:=(by unfold AtL.cells;rw [hzl])
  refine fun w' h=>?_
  unfold PG
  rw [e0]
  refine ⟨{ a with others:=zs },E2++(K++KO),by rw [ez];rfl,?_,⟨⟨?_,?_,?_⟩,⟨E2,by rw [hzl] at hV2;exact hV2,fun e he=>List.mem_append_left _ he⟩,?_⟩,h.sub (List.Sublist.append_left (.cons _ (List.Sublist.append_left (List.sublist_append_left _ _) _)) _)⟩
  · have eo:zs.map LP=DM (a.others.map LP):=PU (hp.map _) hSn.nd ha
    show AtD.mk _ _ _ _ _ _ _ _ _ (zs.map LP)=AtD.mk _ _ _ _ _ _ _ _ _ (DM (a.others.map LP))
    rw [eo]
    rfl
  · obtain ⟨E',r1,r2⟩:=hA.path
    exact Cc
  · intro s hs
    obtain ⟨E',r1,r2⟩:=hA.H5 s hs
    exact Cc
  · obtain ⟨E',r1,r2⟩:=hA.comms
    exact Cc
  · intro o ho
    obtain ⟨E',r1,r2⟩:=hO o (hp.mem_iff.1 ho)
    exact ⟨E',r1,fun e he=>List.mem_append_right _ (List.mem_append_right _ (r2 e he))⟩
end Gq

theorem Hg (xs:List Int) (k i:Nat):fOf (xs.drop k) i=fOf xs (k+i):=by
  unfold fOf;rw [List.getD_eq_getElem?_getD,List.getD_eq_getElem?_getD,List.getElem?_drop]
def NK (c:BU):Int×List Int:=(c.code,c.val)
def MN (cs:List BU):List Value:=cs.flatMap BU.cells
theorem Hz (cs:List BU) (c:BU):MN (cs++[c])=MN cs++c.cells:=by unfold MN;rw [List.flatMap_append,List.flatMap_cons,List.flatMap_nil,List.append_nil]
def NN (K:List Ent) (c:BU):Prop:=∃ E,BV c.ad c.cap c.val E∧∀ e∈E,e∈K
def H9 (acc:List (Int×List Int)):List Int→Option (List (Int×List Int))
  | []=>some acc
  | [_]=>none
  | x::n::xs=>if xs.length<n.toNat then none else H9 (acc++[(x,xs.take n.toNat)]) (xs.drop n.toNat)
termination_by xs=>xs.length
decreasing_by simp only [List.length_drop,List.length_cons];omega
theorem Nh (acc:List (Int×List Int)):H9 acc []=some acc:=by rw [H9]
theorem KD (acc:List (Int×List Int)) (x n:Int) (xs:List Int):H9 acc (x::n::xs)=if xs.length<n.toNat then none else H9 (acc++[(x,xs.take n.toNat)]) (xs.drop n.toNat):=by rw [H9]
theorem Ny (acc:List (Int×List Int)){ys:List Int}(h0:0<ys.length) (h:ys.length<2∨(ys.length:Int)<2+fOf ys 1):H9 acc ys=none:=by
  match ys,h0,h with
  | [y],_,_=>rw [H9]
  | x::n::zs,_,h =>
    rw [KD,if_pos]
    have e:fOf (x::n::zs) 1=n:=rfl
    rw [e] at h
    simp only [List.length_cons] at h
    omega
def Ib (acc:List (Int×List Int)):List Int→List (Int×List Int) ⊕ Int
  | []=>.inl acc
  | [_]=>.inr 0
  | x::n::xs=>if xs.length<n.toNat then .inr 0 else if x≠2 then .inr 4 else match H9 acc (xs.take n.toNat) with
    | none=>.inr 0
    | some acc'=>Ib acc' (xs.drop n.toNat)
termination_by xs=>xs.length
decreasing_by simp only [List.length_drop,List.length_cons];omega
theorem Lx (acc:List (Int×List Int)):Ib acc [] = .inl acc:=by rw [Ib]
theorem Je (acc:List (Int×List Int)) (x n:Int) (xs:List Int):Ib acc (x::n::xs)=if xs.length<n.toNat then .inr 0 else if x≠2 then .inr 4 else match H9 acc (xs.take n.toNat) with
    | none=>.inr 0
    | some acc'=>Ib acc' (xs.drop n.toNat):=by rw [Ib]
theorem Nu (acc:List (Int×List Int)){ys:List Int}(h0:0<ys.length) (h:ys.length<2∨(ys.length:Int)<2+fOf ys 1):Ib acc ys = .inr 0:=by
  match ys,h0,h with
  | [y],_,_=>rw [Ib]
  | x::n::zs,_,h =>
    rw [Je,if_pos]
    have e:fOf (x::n::zs) 1=n:=rfl
    rw [e] at h
    simp only [List.length_cons] at h
    omega
def NJ (xs:List Int):Int:=fOf xs 1*256+fOf xs 2
def GH (xs:List Int):Int:=fOf xs 3*256+fOf xs 4
def idB (xs:List Int):Int:=GC ((xs.take 9).drop 5)
def s04:ByteArray:=⟨#[0,4]⟩
def DR (xs:List Int):List (Int×List Int) ⊕ (Int×ByteArray) :=
  if fOf xs 0≠4 then .inr (1,s04)
  else if NJ xs=0 then .inr (2,⟨#[]⟩)
  else if GH xs=1∨GH xs=2 then .inr (6,⟨#[]⟩)
  else if idB xs=0 then .inr (3,⟨#[]⟩)
  else if fOf xs 9≠((xs.drop 10).length:Int) then .inr (0,⟨#[]⟩)
  else match Ib [] (xs.drop 10) with | .inl cs=>.inl cs | .inr s=>.inr (s,⟨#[]⟩)
theorem Aah (w:World) (b o c:Nat) (xs:List Int) (hW:Win w b o c xs) (hn:xs.length≤1000000) :
    Calls Tryz.prog 126 #[.slice (some ⟨b,o,none⟩) xs.length c] w fun e w'=>∃ (x:Int) (u r:Value) (ok:Bool),e = .returned (.tuple #[.int .i64 x,u,r, .bool ok])∧Frm (fun _=>False) w w' ∧
      (ok=false→xs.length<2∨(xs.length:Int)<2+fOf xs 1) ∧
      (ok=true→∃ (n:Nat) (zs:List Int),xs=x::(n:Int)::zs∧n≤zs.length∧u = .slice (some ⟨b,AV o 2 c 1,none⟩) (zs.take n).length (c-2)∧r = .slice (some ⟨b,AV o (2+n) c 1,none⟩) (zs.drop n).length (c-(2+n))):=by
  by_cases h:xs.length<2∨(xs.length:Int)<2+fOf xs 1
  · exact (AbW w b o c xs hW hn h).mono fun e w' ⟨he,hF⟩=>⟨0,_,_,false,he,hF,fun _=>h,fun e=>by cases e⟩
  · obtain ⟨n,en⟩:=Int.eq_ofNat_of_zero_le (CP hW.bys 1).1
    refine (Acr w b o c xs hW hn Er n en.symm Er).mono fun e w' ⟨he,hF⟩=>⟨fOf xs 0,_,_,true,he,hF,fun e=>F4,fun _=>?_⟩
    obtain ⟨x,y,zs,rfl⟩:=OY (ys:=xs) Er
    have ey:y=n:=en
    subst ey
    have hl:(x::(n:Int)::zs).length=zs.length+2:=rfl
    refine ⟨n,zs,rfl,by omega,?_,?_⟩
    · unfold To;rw [List.length_take,Nat.min_eq_left Er,Nat.add_sub_cancel_left]
    · unfold To;rw [List.length_drop,hl];congr 1;omega
section Gq
attribute [local irreducible] WL WC WE WQ WP WH WR WM WRH

theorem Win.get2d {w:World}{b o c:Nat}{xs:List Int}(h:Win w b o c xs) (k:Nat) (hk:k+2≤xs.length):Calls Tryz.prog 110 #[.slice (some ⟨b,AV o k c 1,none⟩) (xs.length-k) (c-k)] w fun e w'=>e = .returned (.int .i64 (fOf xs k*256+fOf xs (k+1)))∧Frm (fun _=>False) w w':=by
  have e:=(h.drop k).get2 Ex
  rw [List.length_drop,Hg,Hg] at e
  exact e
theorem Win.addrd {w:World}{b o c:Nat}{xs:List Int}(h:Win w b o c xs) (hk:9≤xs.length):Calls Tryz.prog 125 #[.slice (some ⟨b,AV o 5 c 1,none⟩) (9-5) (c-5)] w fun e w'=>e = .returned (.int .u32 (idB xs))∧Frm (fun _=>False) w w':=by
  have hl:((xs.take 9).drop 5).length=9-5:=by rw [List.length_drop,List.length_take];omega
  have e:=P3 w b (AV o 5 c 1) (c-5) ((xs.take 9).drop 5) ((h.take 9).drop 5) Er
  rw [hl] at e
  exact e
structure CapS where
  ys:List Int
  o:Nat
  c:Nat
  cs:List BU
  ad:Option Addr
  kc:Nat
  E:List Ent
  KO:List Ent
def MsL.opened (k:Int) (xs:List Int) (ad:Option Addr) (kc:Nat) (cs:List BU):MsL:={ MsL.zero k with asn:=NJ xs,hold:=GH xs,id:=idB xs,kad:=ad,kc:=kc,CS:=cs }
def OpenP (w0 w':World) (gm:Nat) (k:Int) (xs:List Int) (L:List Ent) (e:Ending):Prop :=
  ∃ (ok:Bool) (s:Int) (d:ByteArray) (ad:Option Addr) (kc:Nat) (cs:List BU) (E K:List Ent),e = .returned (.agg (AG (if ok then 0 else 2) s d).toArray)∧St (fun _=>False) w0 w' (.row gm (MsL.opened k xs ad kc cs).cells::(E++(K++L))) ∧
    Vec 2 ad cs.length kc (MN cs) E∧(∀ c∈cs,NN K c)∧(ok=false→DR xs = .inr (s,d))∧(ok=true→s=0∧d=⟨#[]⟩∧DR xs = .inl (cs.map NK))
set_option maxHeartbeats 4000000 in
theorem Uf (w0 w1:World) (gm b o c:Nat) (k:Int) (xs:List Int) (L:List Ent) (hW:Win w0 b o c xs) (h10:10≤xs.length) (hn:xs.length≤90000) (hS0:St (fun _=>False) w0 w1 (.row gm (MsL.zero k).cells::L)) :
    Calls Tryz.prog 113 #[.pointer (some ⟨gm,0,none⟩), .slice (some ⟨b,o,none⟩) xs.length c] w1 fun e w'=>OpenP w0 w' gm k xs L e:=by
  have hle:=hW.le
  have h9:=CP hW.bys 9
  refine enter Tryz.func113 rfl Tryz.ntmps113 rfl hS0 ?_
  refine J2 ?_
  refine WL.alloc rfl CV (.none rfl) rfl rfl ?_
  intro g4 hg4
  refine J3 ?_
  refine WC.BB mixed<|rF 12 [0,1,2,3,4,6,7,9,10]<|?_
  refine J4 ?_
  refine pV ((BW (lo:=1) rfl rfl rfl Tryz.underlying25 AO rfl Er)) rfl ?_
  refine J1 ?_
  refine pV ((BW (lo:=3) rfl rfl rfl Tryz.underlying25 AO rfl Er)) rfl ?_
  refine J1 ?_
  refine pV ((CN (lo:=5) (hi:=9) rfl rfl rfl rfl Tryz.underlying25 AO rfl rfl Er Er)) rfl ?_
  refine J1 ?_
  refine rA 7 [5,8,11,12,13] rfl ?_
  refine WQ.call _ rfl rfl Nj (.none rfl) rfl rfl (fun w hS=>Calls.still ((hW.st hS).get2d 1 Er) hS) ?_
  refine WQ.call _ rfl rfl Nj (.none rfl) rfl rfl (fun w hS=>Calls.still ((hW.st hS).get2d 3 Er) hS) ?_
  refine WQ.call _ rfl rfl Za (.none rfl) rfl rfl (fun w hS=>Calls.still ((hW.st hS).addrd Er) hS) ?_
  refine J3 ?_
  refine rO 6 [14] ?_
  refine J2 ?_
  refine rF 4 [15,16] ?_
  refine J3 ?_
  refine rO 3 [17] ?_
  refine J2 ?_
  refine rF 1 [18,19] ?_
  refine J3 ?_
  refine rO 0 [20] ?_
  refine J1 ?_
  refine WL.as (L':=.row g4 (AG 0 0 ⟨#[]⟩)::.row gm (MsL.opened k xs none 0 []).cells::L) rfl ?_
  refine J6 ?_
  refine zV ((BW (lo:=10) rfl rfl rfl Tryz.underlying25 AO rfl Er)) rfl ?_
  rw [show xs.length-10=(xs.drop 10).length by rw [List.length_drop]]
  refine J3 ?_
  refine WC.cut (fun _:Unit=>[(0, .pointer (some ⟨gm,0,none⟩)),(4, .pointer (some ⟨g4,0,none⟩)),(5, .slice (some ⟨b,AV o 10 c 1,none⟩) (xs.drop 10).length (c-10))]) (fun _=>.row g4 (AG 0 0 ⟨#[]⟩)::.row gm (MsL.opened k xs none 0 []).cells::L) (fun _=>DR xs=match Ib [] (xs.drop 10) with | .inl cs=>.inl cs | .inr s=>.inr (s,⟨#[]⟩)) ?_ ?_
  refine J4 ?_
  refine zV (AB (lo:=0) rfl rfl rfl Tryz.underlying25 AO rfl Er) rfl ?_
  refine zV (AA rfl rfl BH (AL (fun h=>h) (hW.get (BJ Er)))) rfl ?_
  refine JT (fun h38=>?_) (fun h38=>?_)
  refine J13 ?_
  refine eT1 ?_
  have e0:DR xs = .inr (1,s04):=(by unfold DR;rw [if_pos h38])
  exact fun w' h=>⟨false,1,s04,none,0,[],[],[],rfl,h.sub (.cons _ (.refl _)),Vec.nil 2,(fun _ h=>by cases h),fun _=>e0,fun e=>by cases e⟩
  refine J10 ?_
  refine JT (fun h45=>?_) (fun h45=>?_)
  refine J13 ?_
  refine eT1 ?_
  have e0:DR xs = .inr (2,⟨#[]⟩):=(by unfold DR;rw [if_neg h38,if_pos (show NJ xs=0 from h45)])
  exact fun w' h=>⟨false,2,_,none,0,[],[],[],rfl,h.sub (.cons _ (.refl _)),Vec.nil 2,(fun _ h=>by cases h),fun _=>e0,fun e=>by cases e⟩
  refine J10 ?_
  refine JT (fun h52=>?_) (fun h52=>?_)
  refine J20 ?_
  refine eT1 ?_
  have e0:DR xs = .inr (6,⟨#[]⟩):=(by unfold DR;rw [if_neg h38,if_neg (show ¬ NJ xs=0 from h45),if_pos (show GH xs=1∨GH xs=2 from .inl h52)])
  exact Cn
  refine J5 ?_
  refine JT (fun h58=>?_) (fun h58=>?_)
  refine J14 ?_
  refine eT1 ?_
  have e0:DR xs = .inr (6,⟨#[]⟩):=(by unfold DR;rw [if_neg h38,if_neg (show ¬ NJ xs=0 from h45),if_pos (show GH xs=1∨GH xs=2 from .inr h58)])
  exact Cn
  refine J11 ?_
  refine JT (fun h66=>?_) (fun h66=>?_)
  refine J13 ?_
  refine eT1 ?_
  have e0:DR xs = .inr (3,⟨#[]⟩):=(by unfold DR;rw [if_neg h38,if_neg (show ¬ NJ xs=0 from h45),if_neg (show ¬ (GH xs=1∨GH xs=2) from fun h=>h.elim h52 h58),if_pos (show idB xs=0 from h66)])
  exact fun w' h=>⟨false,3,_,none,0,[],[],[],rfl,h.sub (.cons _ (.refl _)),Vec.nil 2,(fun _ h=>by cases h),fun _=>e0,fun e=>by cases e⟩
  refine J7 ?_
  refine zV (AB (lo:=9) rfl rfl rfl Tryz.underlying25 AO rfl Er) rfl ?_
  refine zV (AA rfl rfl BH (AL (fun h=>h) (hW.get (BJ Er)))) rfl ?_
  refine zV (AQ rfl rfl Tryz.underlying3 Tryz.underlying5 (AF Er Er)) rfl ?_
  refine J2 ?_
  refine JT (fun h75=>?_) (fun h75=>?_)
  refine J13 ?_
  refine eT1 ?_
  have e0:DR xs = .inr (0,⟨#[]⟩):=(by unfold DR;rw [if_neg h38,if_neg (show ¬ NJ xs=0 from h45),if_neg (show ¬ (GH xs=1∨GH xs=2) from fun h=>h.elim h52 h58),if_neg (show ¬ idB xs=0 from h66),if_pos h75])
  exact fun w' h=>⟨false,0,_,none,0,[],[],[],rfl,h.sub (.cons _ (.refl _)),Vec.nil 2,(fun _ h=>by cases h),fun _=>e0,fun e=>by cases e⟩
  refine J6 ?_
  exact eM () (by unfold DR;rw [if_neg h38,if_neg (show ¬ NJ xs=0 from h45),if_neg (show ¬ (GH xs=1∨GH xs=2) from fun h=>h.elim h52 h58),if_neg (show ¬ idB xs=0 from h66),if_neg h75];try (cases Ib [] (xs.drop 10) <;> rfl))
  intro _ hop
  refine J2 ?_
  refine WC.loop (fun x:CapS=>[(0, .pointer (some ⟨gm,0,none⟩)),(4, .pointer (some ⟨g4,0,none⟩)),(5, .slice (some ⟨b,x.o,none⟩) x.ys.length x.c)]) (fun x=>x.E++(.row g4 (AG 0 0 ⟨#[]⟩)::.row gm (MsL.opened k xs x.ad x.kc x.cs).cells::(x.KO++L))) (fun x=>x.cs.length+x.ys.length≤xs.length∧Win w0 b x.o x.c x.ys∧Ib [] (xs.drop 10)=Ib (x.cs.map NK) x.ys∧Vec 2 x.ad x.cs.length x.kc (MN x.cs) x.E∧∀ c∈x.cs,NN x.KO c) (fun x=>x.ys.length) ⟨xs.drop 10,AV o 10 c 1,c-10,[],none,0,[],[]⟩ ⟨by simp,hW.drop 10,rfl,Vec.nil 2,fun _ h=>by cases h⟩ Km (.refl _) ?_
  rintro ⟨ys,o2,c2,cs,ad,kc,E,KO⟩ ⟨hl,hW2,hy,hV,hO⟩
  dsimp only at hl hW2 hy hV hO
  dsimp only
  refine J5 ?_
  refine JT (fun h79=>?_) (fun h79=>?_)
  refine J9 ?_
  refine zK Aad rfl ?_
  intro w1 hS
  refine (Aah w1 b o2 c2 ys (hW2.st hS) Er).mono ?_
  rintro e w' ⟨x,u,r,ok,rfl,hF,hbad,hok⟩
  refine ⟨_,_,rfl,hS.ext hF,?_⟩
  refine J15 ?_
  skip
  cases ok
  refine J16 ?_
  refine eT1 ?_
  have e0:DR xs = .inr (0,⟨#[]⟩):=(by rw [hop,hy,Nu _ (by omega) (hbad rfl)])
  exact fun w' h=>⟨false,0,_,ad,kc,cs,E,KO,rfl,by
    have:=St.front (R:=[.row gm (MsL.opened k xs ad kc cs).cells]) (L:=KO++L) E (h.sub (List.Sublist.append_left (.cons _ (.refl _)) _))
    exact this,hV,hO,fun _=>e0,fun e=>by cases e⟩
  refine J9 ?_
  obtain ⟨n,zs,rfl,hnz,rfl,rfl⟩:=hok rfl
  have hcl:(x::(n:Int)::zs).length=zs.length+2:=rfl
  rw [Je,Int.toNat_natCast,if_neg Er] at hy
  have htl:(zs.take n).length=n:=Ey
  have hdl:(zs.drop n).length=zs.length-n:=(by rw [List.length_drop])
  refine J1 ?_
  refine JT (fun h91=>?_) (fun h91=>?_)
  refine J15 ?_
  refine eT1 ?_
  have e0:DR xs = .inr (4,⟨#[]⟩):=(by rw [hop,hy,if_pos h91])
  exact fun w' h=>⟨false,4,_,ad,kc,cs,E,KO,rfl,by
    have:=St.front (R:=[.row gm (MsL.opened k xs ad kc cs).cells]) (L:=KO++L) E (h.sub (List.Sublist.append_left (.cons _ (.refl _)) _))
    exact this,hV,hO,fun _=>e0,fun e=>by cases e⟩
  refine J7 ?_
  refine WC.loop (fun y:CapS=>[(0, .pointer (some ⟨gm,0,none⟩)),(4, .pointer (some ⟨g4,0,none⟩)),(7, .slice (some ⟨b,y.o,none⟩) y.ys.length y.c),(8, .slice (some ⟨b,AV o2 (2+n) c2 1,none⟩) (zs.drop n).length (c2-(2+n)))]) (fun y=>y.E++(.row g4 (AG 0 0 ⟨#[]⟩)::.row gm (MsL.opened k xs y.ad y.kc y.cs).cells::(y.KO++L))) (fun y=>y.cs.length+y.ys.length+(zs.drop n).length≤xs.length∧Win w0 b y.o y.c y.ys∧H9 (cs.map NK) (zs.take n)=H9 (y.cs.map NK) y.ys∧Vec 2 y.ad y.cs.length y.kc (MN y.cs) y.E∧∀ c∈y.cs,NN y.KO c) (fun y=>y.ys.length) ⟨zs.take n,AV o2 2 c2 1,c2-2,cs,ad,kc,E,KO⟩ ⟨by dsimp only;omega,by
  have h1:=(hW2.take (2+n)).drop 2
  rwa [show ((x::(n:Int)::zs).take (2+n)).drop 2=zs.take n by rw [show 2+n=n+1+1 by omega];rfl] at h1,rfl,hV,hO⟩ Km (.refl _) ?_
  rintro ⟨vs,o3,c3,ds,ad2,kc2,E2,KO2⟩ ⟨hl3,hW3,hy3,hV3,hO3⟩
  dsimp only at hl3 hW3 hy3 hV3 hO3
  dsimp only
  refine J5 ?_
  refine JT (fun h95=>?_) (fun h95=>?_)
  refine J9 ?_
  refine zK Aad rfl ?_
  intro w1 hS
  refine (Aah w1 b o3 c3 vs (hW3.st hS) Er).mono ?_
  rintro e w' ⟨x3,u3,r3,ok3,rfl,hF3,hbad3,hok3⟩
  refine ⟨_,_,rfl,hS.ext hF3,?_⟩
  refine J15 ?_
  skip
  cases ok3
  refine J20 ?_
  refine eT1 ?_
  have e0:DR xs = .inr (0,⟨#[]⟩):=(by rw [hop,hy,if_neg (by omega),hy3,Ny _ (by omega) (hbad3 rfl)])
  exact fun w' h=>⟨false,0,_,ad2,kc2,ds,E2,KO2,rfl,by
    have:=St.front (R:=[.row gm (MsL.opened k xs ad2 kc2 ds).cells]) (L:=KO2++L) E2 (h.sub (List.Sublist.append_left (.cons _ (.refl _)) _))
    exact this,hV3,hO3,fun _=>e0,fun e=>by cases e⟩
  refine J7 ?_
  refine WC.BB mixed<|rF 8 [0,1,2,3,5,6]<|?_
  obtain ⟨n3,zs3,rfl,hnz3,rfl,rfl⟩:=hok3 rfl
  have hcl3:(x3::(n3:Int)::zs3).length=zs3.length+2:=rfl
  rw [KD,Int.toNat_natCast,if_neg Er] at hy3
  have htl3:(zs3.take n3).length=n3:=Ey
  have hdl3:(zs3.drop n3).length=zs3.length-n3:=(by rw [List.length_drop])
  have hx3:=hW3.bys x3 (List.mem_cons_self ..)
  have hWv:Win w0 b (AV o3 2 c3 1) (c3-2) (zs3.take n3):=(by
    have h1:=(hW3.take (2+n3)).drop 2
    rwa [show ((x3::(n3:Int)::zs3).take (2+n3)).drop 2=zs3.take n3 by rw [show 2+n3=n3+1+1 by omega];rfl] at h1)
  refine J7 ?_
  refine WR.each (g:=7) [4,7] Es Et ?_
  refine ⟨?_,?_⟩
  refine zV (AA rfl rfl RG (cellAt (v:=.slice ad2 ds.length kc2) rfl)) rfl ?_
  refine J1 ?_
  refine rO 6 [7]<|zK Qy rfl<|?_
  intro w1 hS
  refine (Lo w1 b (AV o3 2 c3 1) (c3-2) (zs3.take n3) (hWv.st hS) Er).mono ?_
  rintro e w' ⟨_,rfl,ad113,c113,E113,rfl,hV113,hS'⟩
  refine ⟨_,_,rfl,hS.join hS',?_⟩
  refine J1 ?_
  refine rF 5 [8] ?_
  refine J2 ?_
  refine rO 3 [9,10]<|zB Tryz.underlying29 Lf Ix rfl rfl<|?_
  intro g115 hg115
  refine WL.as (L':=.row g115 (BU.cells ⟨x3,ad113,c113,zs3.take n3⟩)::(E113++(E2++(.row g4 (AG 0 0 ⟨#[]⟩)::.row gm (MsL.opened k xs ad2 kc2 ds).cells::(KO2++L))))) rfl ?_
  refine WL.to (L':=E2++(.row g115 (BU.cells ⟨x3,ad113,c113,zs3.take n3⟩)::(E113++(.row g4 (AG 0 0 ⟨#[]⟩)::.row gm (MsL.opened k xs ad2 kc2 ds).cells::(KO2++L))))) (fun w hS=>by
    have:=St.front (R:=E2) (L:=.row g4 (AG 0 0 ⟨#[]⟩)::.row gm (MsL.opened k xs ad2 kc2 ds).cells::(KO2++L)) (.row g115 (BU.cells ⟨x3,ad113,c113,zs3.take n3⟩)::E113) Ez
    simpa only [List.cons_append,List.append_assoc,List.nil_append] using this) ?_
  refine WL.AN rfl rfl rfl Tryz.underlying29 Tryz.underlying29 Lf T3 Ix rfl rfl hV3 (new:=BU.cells ⟨x3,ad113,c113,zs3.take n3⟩) (fun _=>⟨g115,0,rfl,fun w hS=>BZ (g:=g115) w hS⟩) rfl rfl Er (.none rfl) rfl rfl ?_
  intro ad116 c116 E116 hV116 hr116
  rw [← Hz] at hV116
  rw [show ds.length+1=(ds++[(⟨x3,ad113,c113,zs3.take n3⟩:BU)]).length by rw [List.length_append];rfl] at hV116 ⊢
  refine J1 ?_
  refine rF 1 [11,12] ?_
  refine J3 ?_
  refine rO 0 [13] ?_
  refine J1 ?_
  refine WL.as (L':=E116++(.row g115 (BU.cells ⟨x3,ad113,c113,zs3.take n3⟩)::(E113++(.row g4 (AG 0 0 ⟨#[]⟩)::.row gm (MsL.opened k xs ad116 c116 (ds++[⟨x3,ad113,c113,zs3.take n3⟩])).cells::(KO2++L))))) rfl ?_
  refine WL.to (L':=E116++(.row g4 (AG 0 0 ⟨#[]⟩)::.row gm (MsL.opened k xs ad116 c116 (ds++[⟨x3,ad113,c113,zs3.take n3⟩])).cells::((E113++KO2)++L))) (fun w hS=>by
    have h1:St (fun _=>False) w0 w (E116++(E113++(.row g4 (AG 0 0 ⟨#[]⟩)::.row gm (MsL.opened k xs ad116 c116 (ds++[⟨x3,ad113,c113,zs3.take n3⟩])).cells::(KO2++L)))):=hS.sub (List.Sublist.append_left (.cons _ (.refl _)) _)
    refine h1.perm (List.Perm.append_left E116 ?_)
    have:=List.perm_append_comm_assoc E113 [.row g4 (AG 0 0 ⟨#[]⟩), .row gm (MsL.opened k xs ad116 c116 (ds++[⟨x3,ad113,c113,zs3.take n3⟩])).cells] (KO2++L)
    simpa only [List.cons_append,List.append_assoc,List.nil_append] using this.symm) ?_
  refine J8 ?_
  exact eW ⟨zs3.drop n3,AV o3 (2+n3) c3 1,c3-(2+n3),ds++[⟨x3,ad113,c113,zs3.take n3⟩],ad116,c116,E116,E113++KO2⟩ Eu ⟨by dsimp only;rw [List.length_append,List.length_cons,List.length_nil];omega,by
  have h1:=hW3.drop (2+n3)
  rwa [show (x3::(n3:Int)::zs3).drop (2+n3)=zs3.drop n3 by rw [show 2+n3=n3+1+1 by omega];rfl] at h1,by dsimp only;rw [hy3,List.map_append];rfl,hV116,fun c hc=>by
  rcases List.mem_append.1 hc with hc|hc
  · obtain ⟨E',r1,r2⟩:=hO3 c hc
    exact Az
  · rcases List.mem_cons.1 hc with rfl|hc
    · exact ⟨E113,hV113,fun e he=>List.mem_append_left _ he⟩
    · cases hc⟩
  refine zK Qy rfl ?_
  intro w1 hS
  refine (Lo w1 b (AV o3 2 c3 1) (c3-2) (zs3.take n3) (hWv.st hS) Er).mono ?_
  rintro e w' ⟨_,rfl,ad113,c113,E113,rfl,hV113,hS'⟩
  refine ⟨_,_,rfl,hS.join hS',?_⟩
  refine J1 ?_
  refine rF 6 [8] ?_
  refine J2 ?_
  refine WR.each (g:=5) [4,9] Es Et ?_
  refine ⟨?_,?_⟩
  refine zV (AA rfl rfl RG (cellAt (v:=.slice ad2 ds.length kc2) rfl)) rfl ?_
  refine J1 ?_
  refine rO 3 [9,10]<|zB Tryz.underlying29 Lf Ix rfl rfl<|?_
  intro g115 hg115
  refine WL.as (L':=.row g115 (BU.cells ⟨x3,ad113,c113,zs3.take n3⟩)::(E113++(E2++(.row g4 (AG 0 0 ⟨#[]⟩)::.row gm (MsL.opened k xs ad2 kc2 ds).cells::(KO2++L))))) rfl ?_
  refine WL.to (L':=E2++(.row g115 (BU.cells ⟨x3,ad113,c113,zs3.take n3⟩)::(E113++(.row g4 (AG 0 0 ⟨#[]⟩)::.row gm (MsL.opened k xs ad2 kc2 ds).cells::(KO2++L))))) (fun w hS=>by
    have:=St.front (R:=E2) (L:=.row g4 (AG 0 0 ⟨#[]⟩)::.row gm (MsL.opened k xs ad2 kc2 ds).cells::(KO2++L)) (.row g115 (BU.cells ⟨x3,ad113,c113,zs3.take n3⟩)::E113) Ez
    simpa only [List.cons_append,List.append_assoc,List.nil_append] using this) ?_
  refine WL.AN rfl rfl rfl Tryz.underlying29 Tryz.underlying29 Lf T3 Ix rfl rfl hV3 (new:=BU.cells ⟨x3,ad113,c113,zs3.take n3⟩) (fun _=>⟨g115,0,rfl,fun w hS=>BZ (g:=g115) w hS⟩) rfl rfl Er (.none rfl) rfl rfl ?_
  intro ad116 c116 E116 hV116 hr116
  rw [← Hz] at hV116
  rw [show ds.length+1=(ds++[(⟨x3,ad113,c113,zs3.take n3⟩:BU)]).length by rw [List.length_append];rfl] at hV116 ⊢
  refine J1 ?_
  refine rF 1 [11,12] ?_
  refine J3 ?_
  refine rO 0 [13] ?_
  refine J1 ?_
  refine WL.as (L':=E116++(.row g115 (BU.cells ⟨x3,ad113,c113,zs3.take n3⟩)::(E113++(.row g4 (AG 0 0 ⟨#[]⟩)::.row gm (MsL.opened k xs ad116 c116 (ds++[⟨x3,ad113,c113,zs3.take n3⟩])).cells::(KO2++L))))) rfl ?_
  refine WL.to (L':=E116++(.row g4 (AG 0 0 ⟨#[]⟩)::.row gm (MsL.opened k xs ad116 c116 (ds++[⟨x3,ad113,c113,zs3.take n3⟩])).cells::((E113++KO2)++L))) (fun w hS=>by
    have h1:St (fun _=>False) w0 w (E116++(E113++(.row g4 (AG 0 0 ⟨#[]⟩)::.row gm (MsL.opened k xs ad116 c116 (ds++[⟨x3,ad113,c113,zs3.take n3⟩])).cells::(KO2++L)))):=hS.sub (List.Sublist.append_left (.cons _ (.refl _)) _)
    refine h1.perm (List.Perm.append_left E116 ?_)
    have:=List.perm_append_comm_assoc E113 [.row g4 (AG 0 0 ⟨#[]⟩), .row gm (MsL.opened k xs ad116 c116 (ds++[⟨x3,ad113,c113,zs3.take n3⟩])).cells] (KO2++L)
    simpa only [List.cons_append,List.append_assoc,List.nil_append] using this.symm) ?_
  refine J8 ?_
  exact eW ⟨zs3.drop n3,AV o3 (2+n3) c3 1,c3-(2+n3),ds++[⟨x3,ad113,c113,zs3.take n3⟩],ad116,c116,E116,E113++KO2⟩ Eu ⟨by dsimp only;rw [List.length_append,List.length_cons,List.length_nil];omega,by
  have h1:=hW3.drop (2+n3)
  rwa [show (x3::(n3:Int)::zs3).drop (2+n3)=zs3.drop n3 by rw [show 2+n3=n3+1+1 by omega];rfl] at h1,by dsimp only;rw [hy3,List.map_append];rfl,hV116,fun c hc=>by
  rcases List.mem_append.1 hc with hc|hc
  · obtain ⟨E',r1,r2⟩:=hO3 c hc
    exact Az
  · rcases List.mem_cons.1 hc with rfl|hc
    · exact ⟨E113,hV113,fun e he=>List.mem_append_left _ he⟩
    · cases hc⟩
  refine zB Tryz.underlying29 Lf Ix rfl rfl ?_
  intro g115 hg115
  refine WL.as (L':=.row g115 (BU.cells ⟨x3,ad113,c113,zs3.take n3⟩)::(E113++(E2++(.row g4 (AG 0 0 ⟨#[]⟩)::.row gm (MsL.opened k xs ad2 kc2 ds).cells::(KO2++L))))) rfl ?_
  refine WL.to (L':=E2++(.row g115 (BU.cells ⟨x3,ad113,c113,zs3.take n3⟩)::(E113++(.row g4 (AG 0 0 ⟨#[]⟩)::.row gm (MsL.opened k xs ad2 kc2 ds).cells::(KO2++L))))) (fun w hS=>by
    have:=St.front (R:=E2) (L:=.row g4 (AG 0 0 ⟨#[]⟩)::.row gm (MsL.opened k xs ad2 kc2 ds).cells::(KO2++L)) (.row g115 (BU.cells ⟨x3,ad113,c113,zs3.take n3⟩)::E113) Ez
    simpa only [List.cons_append,List.append_assoc,List.nil_append] using this) ?_
  refine J1 ?_
  refine rA 4 [4] rfl<|qV (AA rfl rfl RG (cellAt (v:=.slice ad2 ds.length kc2) rfl)) rfl<|?_
  refine J1 ?_
  refine rO 3 [10] ?_
  refine WL.AN rfl rfl rfl Tryz.underlying29 Tryz.underlying29 Lf T3 Ix rfl rfl hV3 (new:=BU.cells ⟨x3,ad113,c113,zs3.take n3⟩) (fun _=>⟨g115,0,rfl,fun w hS=>BZ (g:=g115) w hS⟩) rfl rfl Er (.none rfl) rfl rfl ?_
  intro ad116 c116 E116 hV116 hr116
  rw [← Hz] at hV116
  rw [show ds.length+1=(ds++[(⟨x3,ad113,c113,zs3.take n3⟩:BU)]).length by rw [List.length_append];rfl] at hV116 ⊢
  refine J1 ?_
  refine rF 1 [11,12] ?_
  refine J3 ?_
  refine rO 0 [13] ?_
  refine J1 ?_
  refine WL.as (L':=E116++(.row g115 (BU.cells ⟨x3,ad113,c113,zs3.take n3⟩)::(E113++(.row g4 (AG 0 0 ⟨#[]⟩)::.row gm (MsL.opened k xs ad116 c116 (ds++[⟨x3,ad113,c113,zs3.take n3⟩])).cells::(KO2++L))))) rfl ?_
  refine WL.to (L':=E116++(.row g4 (AG 0 0 ⟨#[]⟩)::.row gm (MsL.opened k xs ad116 c116 (ds++[⟨x3,ad113,c113,zs3.take n3⟩])).cells::((E113++KO2)++L))) (fun w hS=>by
    have h1:St (fun _=>False) w0 w (E116++(E113++(.row g4 (AG 0 0 ⟨#[]⟩)::.row gm (MsL.opened k xs ad116 c116 (ds++[⟨x3,ad113,c113,zs3.take n3⟩])).cells::(KO2++L)))):=hS.sub (List.Sublist.append_left (.cons _ (.refl _)) _)
    refine h1.perm (List.Perm.append_left E116 ?_)
    have:=List.perm_append_comm_assoc E113 [.row g4 (AG 0 0 ⟨#[]⟩), .row gm (MsL.opened k xs ad116 c116 (ds++[⟨x3,ad113,c113,zs3.take n3⟩])).cells] (KO2++L)
    simpa only [List.cons_append,List.append_assoc,List.nil_append] using this.symm) ?_
  refine J8 ?_
  exact eW ⟨zs3.drop n3,AV o3 (2+n3) c3 1,c3-(2+n3),ds++[⟨x3,ad113,c113,zs3.take n3⟩],ad116,c116,E116,E113++KO2⟩ Eu ⟨by dsimp only;rw [List.length_append,List.length_cons,List.length_nil];omega,by
  have h1:=hW3.drop (2+n3)
  rwa [show (x3::(n3:Int)::zs3).drop (2+n3)=zs3.drop n3 by rw [show 2+n3=n3+1+1 by omega];rfl] at h1,by dsimp only;rw [hy3,List.map_append];rfl,hV116,fun c hc=>by
  rcases List.mem_append.1 hc with hc|hc
  · obtain ⟨E',r1,r2⟩:=hO3 c hc
    exact Az
  · rcases List.mem_cons.1 hc with rfl|hc
    · exact ⟨E113,hV113,fun e he=>List.mem_append_left _ he⟩
    · cases hc⟩
  refine J13 ?_
  obtain rfl:vs=[]:=List.length_eq_zero_iff.1 Er
  exact eW ⟨zs.drop n,AV o2 (2+n) c2 1,c2-(2+n),ds,ad2,kc2,E2,KO2⟩ Eu ⟨by dsimp only;simp only [List.length_nil] at hl3;omega,by
    have h1:=hW2.drop (2+n)
    rwa [show (x::(n:Int)::zs).drop (2+n)=zs.drop n by rw [show 2+n=n+1+1 by omega];rfl] at h1,by dsimp only;rw [hy,if_neg h91,hy3,Nh],hV3,hO3⟩
  refine J15 ?_
  refine eT1 ?_
  obtain rfl:ys=[]:=List.length_eq_zero_iff.1 Er
  have e0:DR xs = .inl (cs.map NK):=(by rw [hop,hy,Lx])
  exact fun w' h=>⟨true,0,_,ad,kc,cs,E,KO,rfl,by
    have:=St.front (R:=[.row gm (MsL.opened k xs ad kc cs).cells]) (L:=KO++L) E (h.sub (List.Sublist.append_left (.cons _ (.refl _)) _))
    exact this,hV,hO,fun e=>F4,fun _=>⟨rfl,rfl,e0⟩⟩

def FJ (xs:List Int):Option (List Int×List Int) :=
  if xs.length<2∨(xs.length:Int)<2+(fOf xs 0*256+fOf xs 1) then none else some ((xs.drop 2).take (fOf xs 0*256+fOf xs 1).toNat,xs.drop (2+(fOf xs 0*256+fOf xs 1).toNat))
theorem JR:∀ (n:Nat){xs:List Int}{ps:List PfL},xs.length≤n→DS xs=some ps→ps.length≤xs.length
  | _,[],ps,_,h=>by rw [DS] at h;cases h;exact Nat.le_refl _
  | 0,x::xs,ps,hn,h=>by simp at hn
  | n+1,x::xs,ps,hn,h=>by
    rw [Kw] at h
    split at h
    · cases h
    · obtain ⟨q,hq,rfl⟩:=Option.map_eq_some_iff.1 h
      rw [List.length_cons] at hn
      have:=JR n Ex hq
      rw [List.length_drop] at this
      simp only [List.length_cons];omega
theorem Qf (w:World) (b o c:Nat) (xs:List Int) (hW:Win w b o c xs) (hn:xs.length≤1000000) :
    Calls Tryz.prog 127 #[.slice (some ⟨b,o,none⟩) xs.length c] w fun e w'=>∃ (u r:Value) (ok:Bool),e = .returned (.tuple #[u,r, .bool ok])∧Frm (fun _=>False) w w'∧(ok=false→FJ xs=none) ∧
      (ok=true→∃ (y z:List Int) (o1 c1 o2 c2:Nat),FJ xs=some (y,z)∧y.length≤xs.length∧z.length≤xs.length∧u = .slice (some ⟨b,o1,none⟩) y.length c1∧r = .slice (some ⟨b,o2,none⟩) z.length c2∧∀ w0,Win w0 b o c xs→Win w0 b o1 c1 y∧Win w0 b o2 c2 z):=by
  by_cases h:xs.length<2∨(xs.length:Int)<2+(fOf xs 0*256+fOf xs 1)
  · exact (Ur w b o c xs hW hn h).mono fun e w' ⟨he,hF⟩=>⟨_,_,false,he,hF,fun _=>by unfold FJ;rw [if_pos h],fun e=>by cases e⟩
  · have b0:=CP hW.bys 0
    have b1:=CP hW.bys 1
    obtain ⟨k,ek⟩:=Int.eq_ofNat_of_zero_le (show 0≤fOf xs 0*256+fOf xs 1 by omega)
    refine (Ub w b o c xs hW hn Er k ek.symm Er).mono fun e w' ⟨he,hF⟩=>⟨_,_,true,he,hF,fun e=>F4,fun _=>?_⟩
    have hl:((xs.drop 2).take k).length=k:=by rw [List.length_take,List.length_drop];omega
    refine ⟨(xs.drop 2).take k,xs.drop (2+k),AV o 2 c 1,c-2,AV o (2+k) c 1,c-(2+k),by unfold FJ;rw [if_neg h,ek,Int.toNat_natCast],by omega,by rw [List.length_drop];omega,?_,?_,fun w0 hW0=>⟨(hW0.drop 2).take k,hW0.drop (2+k)⟩⟩
    · unfold To;rw [hl,Nat.add_sub_cancel_left]
    · unfold To;rw [List.length_drop]
theorem QL (w0:World) (b o c:Nat) (xs:List Int) (hW:Win w0 b o c xs) (hn:xs.length≤100000) :
    Calls Tryz.prog 128 #[.slice (some ⟨b,o,none⟩) xs.length c] w0 fun e w'=>∃ (ps:List PfL) (ad:Option Addr) (c':Nat) (E:List Ent) (ok:Bool),e = .returned (.tuple #[.slice ad ps.length c', .bool ok])∧Vec 2 ad ps.length c' (NR ps) E∧St (fun _=>False) w0 w' E∧(ok=false→DS xs=none)∧(ok=true→DS xs=some ps) :=
  (XV w0 b o c xs hW hn).mono fun e w' h=>by
    unfold NetsP at h
    cases hp:DS xs with
    | none =>
      exact C0
    | some ps =>
      exact Cy
theorem U3 (w0:World) (b o c:Nat) (xs:List Int) (hG:GF w0) (hZ:GZ w0) (hW:Win w0 b o c xs) (hn:xs.length≤90000) :
    Calls Tryz.prog 129 #[.slice (some ⟨b,o,none⟩) xs.length c] w0 fun e w'=>∃ (ok:Bool) (s:Int) (d:ByteArray) (a:AtL) (K:List Ent),e = .returned (.tuple #[.agg a.cells.toArray, .agg (AG (if ok then 0 else 3) s d).toArray])∧Ic K a∧St (fun _=>False) w0 w' K ∧
      (ok=false→ED AtL.zero.d [] xs = .inr (s,d))∧(ok=true→s=0∧d=⟨#[]⟩∧∃ dd,ED AtL.zero.d [] xs = .inl dd∧a.d = { dd with others:=DM dd.others }) :=
  (TW w0 b o c xs hG hZ hW hn).mono fun e w' h=>by
    unfold PG at h
    cases hp:ED AtL.zero.d [] xs with
    | inr x =>
      obtain ⟨s,d⟩:=x
      rw [hp] at h
      exact ⟨false,s,d, .zero,[],h.1,⟨GB.zero,⟨[],Vec.nil 2,fun _ h=>by cases h⟩,fun _ h=>by cases h⟩,(St.start _ _).ext h.2,fun _=>rfl,fun e=>by cases e⟩
    | inl dd =>
      exact Cl
theorem Ic.mono {K K':List Ent}{a:AtL}(h:Ic K a) (hm:∀ e∈K,e∈K'):Ic K' a:=by
  obtain ⟨h1,⟨E,r1,r2⟩,h3⟩:=h
  exact ⟨h1.mono hm,⟨E,r1,fun e he=>hm e (r2 e he)⟩,fun o ho=>by obtain ⟨E,q1,q2⟩:=h3 o ho;exact ⟨E,q1,fun e he=>hm e (q2 e he)⟩⟩
structure GD (K:List Ent) (m:MsL):Prop where
  CS:∃ E,Vec 2 m.kad m.CS.length m.kc (MN m.CS) E∧∀ e∈E,e∈K
  vals:∀ c∈m.CS,NN K c
  gone:∃ E,Vec 2 m.gad m.gone.length m.gc (NR m.gone) E∧∀ e∈E,e∈K
  nets:∃ E,Vec 2 m.nad m.nets.length m.nc (NR m.nets) E∧∀ e∈E,e∈K
  at_:Ic K m.atr
theorem Ic.zero:Ic [] .zero:=⟨GB.zero,⟨[],Vec.nil 2,fun _ h=>by cases h⟩,fun _ h=>by cases h⟩
theorem GD.zero (k:Int):GD [] (.zero k):=⟨⟨[],Vec.nil 2,fun _ h=>by cases h⟩,(fun _ h=>by cases h),⟨[],Vec.nil 2,fun _ h=>by cases h⟩,⟨[],Vec.nil 2,fun _ h=>by cases h⟩,Ic.zero⟩
def oneS (x:Int):ByteArray:=str (fun _=>x) 1
def HM (xs:List Int):(List PfL×AtD×List PfL) ⊕ (Int×Int×ByteArray) :=
  match FJ xs with
  | none=>.inr (3,1,⟨#[]⟩)
  | some (g,r)=>match FJ r with
    | none=>.inr (3,1,⟨#[]⟩)
    | some (s,n)=>match DS g with
      | none=>.inr (3,1,⟨#[]⟩)
      | some gs=>match ED AtL.zero.d [] s with
        | .inr (s,d)=>.inr (3,s,d)
        | .inl a=>match DS n with
          | none=>.inr (3,10,⟨#[]⟩)
          | some ns=>if 200<gs.length∨200<ns.length then .inr (6,1,⟨#[]⟩) else if HK a.has≠0∧0<ns.length then .inr (3,3,oneS (HK a.has)) else .inl (gs, { a with others:=DM a.others },ns)
theorem Vq (h:Int):0≤HK h∧HK h≤3:=by unfold HK;split <;> (try split) <;> (try split) <;> omega
def MsL.upd (k:Int) (gad:Option Addr) (gc:Nat) (gone:List PfL) (atr:AtL) (nad:Option Addr) (nc:Nat) (nets:List PfL):MsL:={ MsL.zero k with gad:=gad,gc:=gc,gone:=gone,atr:=atr,nad:=nad,nc:=nc,nets:=nets }
def UpdP (w0 w':World) (gm:Nat) (k:Int) (xs:List Int) (L:List Ent) (e:Ending):Prop :=
  ∃ (ok:Bool) (c s:Int) (d:ByteArray) (gad:Option Addr) (gc:Nat) (gs:List PfL) (a:AtL) (nad:Option Addr) (nc:Nat) (ns:List PfL) (K:List Ent),e = .returned (.agg (AG c s d).toArray)∧St (fun _=>False) w0 w' (.row gm (MsL.upd k gad gc gs a nad nc ns).cells::(K++L))∧GD K (MsL.upd k gad gc gs a nad nc ns) ∧
    (ok=false→c≠0∧HM xs = .inr (c,s,d))∧(ok=true→c=0∧s=0∧d=⟨#[]⟩∧HM xs = .inl (gs,a.d,ns))
set_option maxHeartbeats 4000000 in
theorem RC (w0 w1:World) (gm b o c:Nat) (k:Int) (xs:List Int) (L:List Ent) (hG:GF w0) (hZ:GZ w0) (hW:Win w0 b o c xs) (hn:xs.length≤90000) (hS0:St (fun _=>False) w0 w1 (.row gm (MsL.zero k).cells::L)) :
    Calls Tryz.prog 114 #[.pointer (some ⟨gm,0,none⟩), .slice (some ⟨b,o,none⟩) xs.length c] w1 fun e w'=>UpdP w0 w' gm k xs L e:=by
  refine enter Tryz.func114 rfl Tryz.ntmps114 rfl hS0 ?_
  refine J2 ?_
  refine WL.alloc rfl CV (.none rfl) rfl rfl ?_
  intro g4 hg4
  refine J5 ?_
  refine zK Y5 rfl ?_
  intro w1 hS
  refine (Qf w1 b o c xs (hW.st hS) Er).mono ?_
  rintro e w' ⟨u1,r1,ok1,rfl,hF,hbad1,hok1⟩
  refine ⟨_,_,rfl,hS.ext hF,?_⟩
  refine J13 ?_
  skip
  cases ok1
  refine J12 ?_
  refine eT1 ?_
  have e0:HM xs = .inr (3,1,⟨#[]⟩):=(by unfold HM;rw [hbad1 rfl])
  exact Ch
  refine J8 ?_
  obtain ⟨xg,xr,o1,c1,o2,c2,ec1,lg,lr,rfl,rfl,hWW⟩:=hok1 rfl
  obtain ⟨hWg,hWr⟩:=hWW w0 hW
  refine J1 ?_
  refine zK Y5 rfl ?_
  intro w1 hS
  refine (Qf w1 b o2 c2 xr (hWr.st hS) Er).mono ?_
  rintro e w' ⟨u2,r2,ok2,rfl,hF2,hbad2,hok2⟩
  refine ⟨_,_,rfl,hS.ext hF2,?_⟩
  refine J13 ?_
  skip
  cases ok2
  refine J12 ?_
  refine eT1 ?_
  have e0:HM xs = .inr (3,1,⟨#[]⟩):=(by unfold HM;rw [ec1];dsimp only;rw [hbad2 rfl])
  exact Ch
  refine J9 ?_
  obtain ⟨xs2,xn,o3,c3,o4,c4,ec2,ls,ln,rfl,rfl,hWW2⟩:=hok2 rfl
  obtain ⟨hWs,hWn⟩:=hWW2 w0 hWr
  refine J2 ?_
  refine zK Abw rfl ?_
  intro w1 hS
  refine (QL w1 b o1 c1 xg (hWg.st hS) Er).mono ?_
  rintro e w' ⟨gs,gad,gc,Eg,ok3,rfl,hVg,hSg,hbad3,hok3⟩
  refine ⟨_,_,rfl,hS.join hSg,?_⟩
  refine J6 ?_
  refine WL.as (L':=Eg++(.row g4 (AG 0 0 ⟨#[]⟩)::.row gm (MsL.upd k gad gc gs .zero none 0 []).cells::L)) rfl ?_
  refine J6 ?_
  skip
  cases ok3
  refine J12 ?_
  refine eT1 ?_
  have e0:HM xs = .inr (3,1,⟨#[]⟩):=(by unfold HM;rw [ec1];dsimp only;rw [ec2];dsimp only;rw [hbad3 rfl])
  exact fun w' h=>⟨false,3,1,_,gad,gc,gs, .zero,none,0,[],Eg,rfl,St.front (R:=[.row gm (MsL.upd k gad gc gs .zero none 0 []).cells]) (L:=L) Eg (h.sub (List.Sublist.append_left (.cons _ (.refl _)) _)),⟨⟨[],Vec.nil 2,fun _ h=>by cases h⟩,(fun _ h=>by cases h),⟨Eg,hVg,fun _ h=>h⟩,⟨[],Vec.nil 2,fun _ h=>by cases h⟩,Ic.zero.mono fun _ h=>by cases h⟩,fun _=>⟨by decide,e0⟩,fun e=>by cases e⟩
  refine J9 ?_
  refine zK ck_129 rfl ?_
  intro w1 hS
  refine (U3 w1 b o3 c3 xs2 (hG.FA (fun h=>h) hS) (hZ.FA (fun h=>h) hS) (hWs.st hS) Er).mono ?_
  rintro e w' ⟨ok4,s4,d4,a,Ka,rfl,hAa,hSa,hbad4,hok4⟩
  refine ⟨_,_,rfl,hS.join hSa,?_⟩
  refine J3 ?_
  refine WL.alloc rfl Ot (.none rfl) rfl rfl ?_
  intro g9 hg9
  refine WL.alloc rfl CV (.none rfl) rfl rfl ?_
  intro g10 hg10
  refine J2 ?_
  refine WL.as (L':=.row g10 (AG (if ok4 then 0 else 3) s4 d4)::.row g9 a.cells::(Ka++(Eg++(.row g4 (AG 0 0 ⟨#[]⟩)::.row gm (MsL.upd k gad gc gs .zero none 0 []).cells::L)))) rfl ?_
  refine J6 ?_
  skip
  cases ok4
  refine J1 ?_
  refine zV (Gp rfl rfl rfl DX DU rfl rfl (by (intro h;simp [AG] at h))) rfl ?_
  refine J11 ?_
  refine eT1 ?_
  have e0:HM xs = .inr (3,s4,d4):=(by unfold HM;rw [ec1];dsimp only;rw [ec2];dsimp only;rw [hok3 rfl];dsimp only;rw [hbad4 rfl])
  exact fun w' h=>⟨false,3,s4,d4,gad,gc,gs, .zero,none,0,[],Eg,rfl,St.front (R:=[.row gm (MsL.upd k gad gc gs .zero none 0 []).cells]) (L:=L) Eg (h.sub (.cons _ (.cons _ (List.sublist_append_of_sublist_right (List.Sublist.append_left (.cons _ (.refl _)) _))))),⟨⟨[],Vec.nil 2,fun _ h=>by cases h⟩,(fun _ h=>by cases h),⟨Eg,hVg,fun _ h=>h⟩,⟨[],Vec.nil 2,fun _ h=>by cases h⟩,Ic.zero.mono fun _ h=>by cases h⟩,fun _=>⟨by decide,e0⟩,fun e=>by cases e⟩
  obtain ⟨rfl,rfl,dd,ed,ea⟩:=hok4 rfl
  refine J1 ?_
  refine zV (EU rfl rfl rfl DX DU rfl rfl Gf) rfl ?_
  refine J11 ?_
  refine WL.H3 rfl rfl rfl rfl Lz rfl Fb (.none rfl) rfl ?_
  refine WL.as (L':=.row g10 (AG 0 0 ⟨#[]⟩)::.row g9 a.cells::(Ka++(Eg++(.row g4 (AG 0 0 ⟨#[]⟩)::.row gm (MsL.upd k gad gc gs a none 0 []).cells::L)))) rfl ?_
  refine J7 ?_
  refine zK Abw rfl ?_
  intro w1 hS
  refine (QL w1 b o4 c4 xn (hWn.st hS) Er).mono ?_
  rintro e w' ⟨ns,nad,nc,En,ok5,rfl,hVn,hSn,hbad5,hok5⟩
  refine ⟨_,_,rfl,hS.join hSn,?_⟩
  refine J6 ?_
  refine WL.as (L':=En++(.row g10 (AG 0 0 ⟨#[]⟩)::.row g9 a.cells::(Ka++(Eg++(.row g4 (AG 0 0 ⟨#[]⟩)::.row gm (MsL.upd k gad gc gs a nad nc ns).cells::L))))) rfl ?_
  refine WL.to (L':=.row g4 (AG 0 0 ⟨#[]⟩)::.row gm (MsL.upd k gad gc gs a nad nc ns).cells::((En++(.row g9 a.cells::(Ka++Eg)))++L)) (fun w hS=>by
    have:=St.front (R:=[.row g4 (AG 0 0 ⟨#[]⟩), .row gm (MsL.upd k gad gc gs a nad nc ns).cells]) (L:=L) (En++(.row g9 a.cells::(Ka++Eg))) (by
      have h1:=hS.sub (List.Sublist.append_left (List.sublist_cons_self _ _) En)
      simpa only [List.cons_append,List.append_assoc,List.nil_append] using h1)
    exact this) ?_
  refine WL.as (L':=.row g4 (AG 0 0 ⟨#[]⟩)::.row gm (MsL.upd k gad gc gs a nad nc ns).cells::(En++(.row g9 a.cells::(Ka++(Eg++L))))) (by simp only [List.cons_append,List.append_assoc]) ?_
  refine J5 ?_
  skip
  have hAll:GD (En++(.row g9 a.cells::(Ka++Eg))) (MsL.upd k gad gc gs a nad nc ns):=⟨⟨[],Vec.nil 2,fun _ h=>by cases h⟩,(fun _ h=>by cases h),⟨Eg,hVg,fun e he=>List.mem_append_right _ (List.mem_cons_of_mem _ (List.mem_append_right _ he))⟩,⟨En,hVn,fun e he=>List.mem_append_left _ he⟩,hAa.mono fun e he=>List.mem_append_right _ (List.mem_cons_of_mem _ (List.mem_append_left _ he))⟩
  have hfin:∀ w',St (fun _=>False) w0 w' (.row gm (MsL.upd k gad gc gs a nad nc ns).cells::(En++(.row g9 a.cells::(Ka++(Eg++L)))))→St (fun _=>False) w0 w' (.row gm (MsL.upd k gad gc gs a nad nc ns).cells::((En++(.row g9 a.cells::(Ka++Eg)))++L)):=(fun w' h=>by simpa only [List.cons_append,List.append_assoc,List.nil_append] using h)
  have e1:HM xs=match DS xn with
      | none=>.inr (3,10,⟨#[]⟩)
      | some ns=>if 200<gs.length∨200<ns.length then .inr (6,1,⟨#[]⟩) else if HK dd.has≠0∧0<ns.length then .inr (3,3,oneS (HK dd.has)) else .inl (gs, { dd with others:=DM dd.others },ns):=(by
    unfold HM;rw [ec1];dsimp only;rw [ec2];dsimp only;rw [hok3 rfl];dsimp only;rw [ed])
  have hah:dd.has=a.has:=(by have:=congrArg AtD.has ea;exact this.symm)
  rw [← ea,hah] at e1
  have hmi:=Vq a.has
  have hgl:=JR _ (Nat.le_refl _) (hok3 rfl)
  refine J1 ?_
  skip
  cases ok5
  refine J12 ?_
  refine eT1 ?_
  rw [hbad5 rfl] at e1
  exact fun w' h=>⟨false,3,10,_,gad,gc,gs,a,nad,nc,ns,_,rfl,hfin _ (h.sub (.cons _ (.refl _))),hAll,fun _=>⟨by decide,e1⟩,fun e=>by cases e⟩
  refine J9 ?_
  have hnl:=JR _ (Nat.le_refl _) (hok5 rfl)
  rw [hok5 rfl] at e1
  dsimp only at e1
  refine J3 ?_
  refine zV (AA rfl rfl Q5 (cellAt (v:=.slice gad gs.length gc) rfl)) rfl ?_
  refine J1 ?_
  refine JT (fun h70=>?_) (fun h70=>?_)
  refine J19 ?_
  refine eT1 ?_
  rw [if_pos (.inl Er)] at e1
  exact Cj
  refine J4 ?_
  refine zS (AA rfl rfl Q5 (cellAt (v:=.slice nad ns.length nc) rfl)) rfl ?_
  refine J1 ?_
  refine JT (fun h77=>?_) (fun h77=>?_)
  refine J12 ?_
  refine eT1 ?_
  rw [if_pos (.inr Er)] at e1
  exact Cj
  refine J9 ?_
  rw [if_neg Er] at e1
  refine J1 ?_
  refine zk ck_76 rfl (fun w hS=>Qt w a) ?_
  refine J6 ?_
  refine JT (fun h83=>?_) (fun h83=>?_)
  refine J4 ?_
  refine zS (AA rfl rfl Q5 (cellAt (v:=.slice nad ns.length nc) rfl)) rfl ?_
  refine J1 ?_
  refine JT (fun h90=>?_) (fun h90=>?_)
  refine J7 ?_
  refine zV (AQ rfl rfl Tryz.underlying5 Tryz.underlying3 (by first|exact w_u8 (by omega) (by omega)|exact HL _)) rfl ?_
  refine zB Tryz.underlying25 AO BF rfl rfl ?_
  intro g94 hg94
  refine WL.val (CJ ((fun _=>HK a.has)) rfl rfl Tryz.underlying25 Tryz.underlying5 Tryz.underlying9 (fun w' hS' _=>⟨g94,0,rfl,fun i hi=>by
  obtain rfl:i=0:=Er
  exact hS'.cell (g:=g94) rfl⟩)) (.none rfl) rfl rfl ?_
  refine J6 ?_
  refine eT1 ?_
  rw [if_pos ⟨h83,by omega⟩] at e1
  exact fun w' h=>⟨false,3,3,_,gad,gc,gs,a,nad,nc,ns,_,rfl,hfin _ (h.sub (.cons _ (.cons _ (.refl _)))),hAll,fun _=>⟨by decide,e1⟩,fun e=>by cases e⟩
  refine J13 ?_
  refine eT1 ?_
  rw [if_neg (fun h=>h90 Er)] at e1
  exact Ci
  refine J20 ?_
  refine eT1 ?_
  rw [if_neg (fun h=>h.1 Er)] at e1
  exact Ci
end Gq
end Go.Proofs.YtcmpamnhegndnaaGreatDoor
