/- Texts joined: engine, contracts and laws, in the order in which they build. -/
import Derived.Test.YtcmpamnhegndnaaGreatDoorBlPeerRuns
namespace Go.Proofs.YtcmpamnhegndnaaGreatDoor
open Go.RowKit
section Gq
attribute [local irreducible] WL WC WE WQ WP WH WR WM WRH

def Hr (w w':World) (xs:List Int) (e:Ending):Prop :=
  match FE xs with
  | .inr (c,s,d)=>e = .returned (.tuple #[.agg (MsL.zero 0).AH.toArray, .agg (AG c s d).toArray])∧Frm (fun _=>False) w w'
  | .inl md=>∃ m K,e = .returned (.tuple #[.agg m.AH.toArray, .agg (AG 0 0 ⟨#[]⟩).toArray])∧m.d=md∧GD K m∧St (fun _=>False) w w' K
theorem Hr.no {w w':World}{xs:List Int}{c s:Int}{d:ByteArray}{L:List Ent}(h:FE xs = .inr (c,s,d)) (hS:St (fun _=>False) w w' L):Hr w w' xs (.returned (.tuple #[.agg (MsL.zero 0).AH.toArray, .agg (AG c s d).toArray])):=by
  unfold Hr
  rw [h]
  exact ⟨rfl,hS.frm⟩
theorem ZG (w:World) (b o cv:Nat) (xs:List Int) (hW:Win w b o cv xs) (hn:xs.length≤90000) :
    Calls Tryz.prog 93 #[.slice (some ⟨b,o,none⟩) xs.length cv] w fun e w'=>∃ (ok:Bool) (s:Int) (d:ByteArray) (a:AtL) (K:List Ent),e = .returned (.tuple #[.agg a.AH.toArray, .agg (AG (if ok then 0 else 3) s d).toArray])∧Ic K a∧St (fun _=>False) w w' K ∧
      (ok=false→ED AtL.zero.d [] xs = .inr (s,d))∧(ok=true→s=0∧d=⟨#[]⟩∧∃ dd,ED AtL.zero.d [] xs = .inl dd∧a.d = { dd with others:=DM dd.others }) :=
  (YT w b o cv xs hW hn).mono fun e w' h=>by
    unfold K7 at h
    cases hp:ED AtL.zero.d [] xs with
    | inr x =>
      obtain ⟨s,d⟩:=x
      rw [hp] at h
      exact ⟨false,s,d, .zero,[],h.1,Ic.zero,(St.start _ _).ext h.2,fun _=>rfl,fun e=>by cases e⟩
    | inl dd =>
      exact Cl
theorem Vs (w0:World) (b o c:Nat) (xs:List Int) (hW:Win w0 b o c xs) (hn:xs.length≤100000) :
    Calls Tryz.prog 92 #[.slice (some ⟨b,o,none⟩) xs.length c] w0 fun e w'=>∃ (ps:List PfL) (ad:Option Addr) (c':Nat) (E:List Ent) (ok:Bool),e = .returned (.tuple #[.slice ad ps.length c', .bool ok])∧Vec 2 ad ps.length c' (NR ps) E∧St (fun _=>False) w0 w' E∧(ok=false→DS xs=none)∧(ok=true→DS xs=some ps) :=
  (AcN w0 b o c xs hW hn).mono fun e w' h=>by
    unfold NV at h
    cases hp:DS xs with
    | none =>
      exact C0
    | some ps =>
      exact Cy
theorem ZC {ys:List Int}(k:Nat):GC ((ys.take (k+4)).drop k)=fOf ys k*16777216+fOf ys (k+1)*65536+fOf ys (k+2)*256+fOf ys (k+3):=by
  have h:∀ i,i<4→fOf ((ys.take (k+4)).drop k) i=fOf ys (k+i):=fun i hi=>by
    rw [Hg]
    unfold fOf
    rw [List.getD_eq_getElem?_getD,List.getD_eq_getElem?_getD,List.getElem?_take,if_pos Er]
  unfold GC
  rw [h 0 Er,h 1 Er,h 2 Er,h 3 Er]
  rfl
theorem WV {xs:List Int}{dd:AtD}(h:ED AtL.zero.d [] xs = .inl dd) (hB:Bys xs):0≤dd.has∧dd.has≤511:=by
  obtain ⟨_,seen',hS⟩:=QU xs.length xs.length AtL.zero.d [] xs (Nat.le_refl _) (Nat.le_refl _) hB KR.zero (AtG.zero _) h
  exact ⟨hS.h0,hS.h1⟩
structure RoS where
  k:Nat
  cs:List BU
  ad:Option Addr
  kc:Nat
  E:List Ent
  KO:List Ent
theorem XY (w0:World) (b o c:Nat) (xs:List Int) (hW:Win w0 b o c xs) (hn:xs.length≤90000) (C S:Int) (d:ByteArray) (hs:BX xs.length (fOf xs)=(0,C,S,d)) (hC:C≠0) :
    Calls Tryz.prog 58 #[.slice (some ⟨b,o,none⟩) xs.length c] w0 fun e w'=>Hr w0 w' xs e:=by
  have hle:=hW.le
  have e00:FE xs = .inr (C,S,d):=by unfold FE;rw [hs];exact if_pos hC
  refine enter Tryz.func58 rfl Tryz.ntmps58 rfl (St.start (fun _=>False) w0) ?_
  refine J2 ?_
  refine WL.alloc rfl H7 (.none rfl) rfl rfl ?_
  intro g2 hg2
  refine WL.alloc rfl FI (.none rfl) rfl rfl ?_
  intro g3 hg3
  refine J5 ?_
  refine zk Sy rfl (fun w hS=>by rw [show (Ending.returned (.tuple #[.int .i64 0, .agg (AG C S d).toArray])) = .returned (MC (BX xs.length (fOf xs))) by rw [hs];rfl];exact MM w (some ⟨b,o,none⟩) xs.length c (fOf xs) (Ir hW.bys) (fun _=>⟨b,o,rfl,DV (hW.st hS).at_⟩) Er hle) ?_
  refine J3 ?_
  refine WL.alloc rfl FI (.none rfl) rfl rfl ?_
  intro g5 hg5
  refine J9 ?_
  refine zV ((BY rfl rfl rfl).t (hC)) rfl ?_
  refine J4 ?_
  refine WC.BB mixed<|rF 3 [0]<|?_
  refine J2 ?_
  refine WR.each (g:=2) [1,2] Es Et ?_
  refine ⟨?_,?_⟩
  refine J2 ?_
  refine rO 0 [2,3] ?_
  refine J7 ?_
  refine eT2 ?_
  exact fun w' h=>Hr.no e00 h
  refine J2 ?_
  refine rA 1 [1] rfl ?_
  refine J2 ?_
  refine rO 0 [3] ?_
  refine J6 ?_
  refine eT2 ?_
  exact fun w' h=>Hr.no e00 h
theorem TZ (w0:World) (b o c:Nat) (xs:List Int) (hW:Win w0 b o c xs) (hn:xs.length≤90000) (h19:19≤xs.length) (hs:BX xs.length (fOf xs)=(CC (fOf xs),0,0,⟨#[]⟩)) (hk:CC (fOf xs)≠xs.length) :
    Calls Tryz.prog 58 #[.slice (some ⟨b,o,none⟩) xs.length c] w0 fun e w'=>Hr w0 w' xs e:=by
  have hle:=hW.le
  have e00:FE xs = .inr (1,2,str (fun i=>fOf xs (16+i)) 2):=by unfold FE;rw [hs];dsimp only;rw [if_neg Fe,if_pos hk]
  refine enter Tryz.func58 rfl Tryz.ntmps58 rfl (St.start (fun _=>False) w0) ?_
  refine J2 ?_
  refine WL.alloc rfl H7 (.none rfl) rfl rfl ?_
  intro g2 hg2
  refine WL.alloc rfl FI (.none rfl) rfl rfl ?_
  intro g3 hg3
  refine J5 ?_
  refine zk Sy rfl (fun w hS=>by rw [show (Ending.returned (.tuple #[.int .i64 (CC (fOf xs)), .agg (AG 0 0 ⟨#[]⟩).toArray])) = .returned (MC (BX xs.length (fOf xs))) by rw [hs];rfl];exact MM w (some ⟨b,o,none⟩) xs.length c (fOf xs) (Ir hW.bys) (fun _=>⟨b,o,rfl,DV (hW.st hS).at_⟩) Er hle) ?_
  refine J3 ?_
  refine WL.alloc rfl FI (.none rfl) rfl rfl ?_
  intro g5 hg5
  refine J9 ?_
  refine zV ((BY rfl rfl rfl).f Er) rfl ?_
  refine J11 ?_
  refine zV ((BY rfl rfl rfl).t (hk)) rfl ?_
  refine J7 ?_
  refine zV ((CN (lo:=16) (hi:=18) rfl rfl rfl rfl Tryz.underlying25 AO rfl rfl Er Er)) rfl ?_
  refine zK G7 rfl ?_
  intro w hS
  refine Calls.then (CD w 1 2 (some ⟨b,AV o 16 c 1,none⟩) (18-16) (c-16) (fun i=>fOf xs (16+i)) (fun _=>⟨b,AV o 16 c 1,rfl,fun i hi=>by
  have:=((hW.st hS).drop 16).get (i:=i) (x:=fOf xs (16+i)) (by rw [List.getElem?_drop];exact BJ (by omega))
  rwa [Nat.mul_one] at this⟩)) hS ?_
  refine J6 ?_
  refine eT2 ?_
  exact fun w' h=>Hr.no e00 h
set_option maxHeartbeats 8000000 in
theorem AaN (w0:World) (b o c:Nat) (xs:List Int) (hW:Win w0 b o c xs) (hn:xs.length≤90000) (hs:BX xs.length (fOf xs)=((xs.length:Int),0,0,⟨#[]⟩)) (h19:19≤xs.length) (h18:1≤fOf xs 18∧fOf xs 18≤4) (hle2:BI (fOf xs 18)≤xs.length) :
    Calls Tryz.prog 58 #[.slice (some ⟨b,o,none⟩) xs.length c] w0 fun e w'=>Hr w0 w' xs e:=by
  have hle:=hW.le
  obtain ⟨ys,hys⟩:∃ ys,ys=xs.drop 19:=⟨_,rfl⟩
  have e00:FE xs=FL (fOf xs 18) ys:=by rw [hys];unfold FE;rw [hs];dsimp only;rw [if_neg Fe,if_neg Fe]
  have hdl:ys.length=xs.length-19:=by rw [hys];exact List.length_drop ..
  have hlst:BI (fOf xs 18)=if fOf xs 18=1 then 29 else if fOf xs 18=2 then 23 else if fOf xs 18=3 then 21 else 19:=by unfold BI;repeat' split;all_goals first|rfl|omega
  have hBy:Bys ys:=fun y hy=>hW.bys y (by rw [hys] at hy;exact List.mem_of_mem_drop hy)
  have hb:∀ i,0≤fOf ys i∧fOf ys i≤255:=fun i=>CP hBy i
  have hfx:∀ i,fOf ys i=fOf xs (19+i):=fun i=>by rw [hys];exact Hg ..
  have hg:∀ i,19+i<xs.length→xs[19+i]?=some (fOf ys i):=fun i hi=>by rw [hfx];exact BJ hi
  have hgc:∀ (w:World) (L:List Ent) (i:Nat),19+i<xs.length→St (fun _=>False) w0 w L→w.cell? ⟨b,o+(19+i)*1,none⟩=some (.int .u8 (fOf ys i)):=fun w L i hi hS=>(hW.st hS).get (hg i hi)
  refine enter Tryz.func58 rfl Tryz.ntmps58 rfl (St.start (fun _=>False) w0) ?_
  refine J2 ?_
  refine WL.alloc rfl H7 (.none rfl) rfl rfl ?_
  intro g2 hg2
  refine WL.alloc rfl FI (.none rfl) rfl rfl ?_
  intro g3 hg3
  refine J5 ?_
  refine zk Sy rfl (fun w hS=>by rw [show (Ending.returned (.tuple #[.int .i64 xs.length, .agg (AG 0 0 ⟨#[]⟩).toArray])) = .returned (MC (BX xs.length (fOf xs))) by rw [hs];rfl];exact MM w (some ⟨b,o,none⟩) xs.length c (fOf xs) (Ir hW.bys) (fun _=>⟨b,o,rfl,DV (hW.st hS).at_⟩) Er hle) ?_
  refine J3 ?_
  refine WL.alloc rfl FI (.none rfl) rfl rfl ?_
  intro g5 hg5
  refine J9 ?_
  refine zV ((BY rfl rfl rfl).f Er) rfl ?_
  refine J11 ?_
  refine zV ((BY rfl rfl rfl).f Er) rfl ?_
  refine J8 ?_
  refine zV (AB (lo:=18) rfl rfl rfl Tryz.underlying25 AO rfl Er) rfl ?_
  refine zV (AA rfl rfl BH (AL (fun h=>h) (hW.get (BJ Er)))) rfl ?_
  refine zV (AQ rfl rfl Tryz.underlying3 Tryz.underlying5 (AF Er Er)) rfl ?_
  refine J1 ?_
  refine WL.alloc rfl H7 (.none rfl) rfl rfl ?_
  intro g6 hg6
  refine J1 ?_
  refine WL.as (L':=.row g6 (MsL.zero (fOf xs 18)).AH::.row g5 (AG 0 0 ⟨#[]⟩)::.row g3 (AG 0 0 ⟨#[]⟩)::[.row g2 (MsL.zero 0).AH]) rfl ?_
  refine J6 ?_
  refine zV (AA rfl rfl AK (cellAt (v:=.int .i64 (fOf xs 18)) rfl)) rfl ?_
  refine JT (fun h42=>?_) (fun h42=>?_)
  refine J4 ?_
  refine WC.BB mixed<|rF 8 [0,1,5,6]<|?_
  have hl29:29≤xs.length:=(by rw [hlst,if_pos h42] at hle2;omega)
  have hno:∀ s d,DR ys = .inr (s,d)→FE xs = .inr (2,s,d):=(fun s d h=>by rw [e00];unfold FL;rw [if_pos h42,h])
  have hid:idB ys=fOf ys 5*16777216+fOf ys 6*65536+fOf ys 7*256+fOf ys 8:=ZC (ys:=ys) 5
  have b1:=hb 1
  have b2:=hb 2
  have b3:=hb 3
  have b4:=hb 4
  have b5:=hb 5
  have b6:=hb 6
  have b7:=hb 7
  have b8:=hb 8
  have b9:=hb 9
  refine J1 ?_
  refine pV (AB (lo:=20) rfl rfl rfl Tryz.underlying25 AO rfl Er) rfl ?_
  refine J1 ?_
  refine pV (AB (lo:=21) rfl rfl rfl Tryz.underlying25 AO rfl Er) rfl ?_
  refine J1 ?_
  refine rA 1 [2,3,4,7,8,9,10] rfl ?_
  refine qV (AA rfl rfl BH ((fun w hS=>hgc w _ 1 Er hS))) rfl ?_
  refine qV (AQ rfl rfl Tryz.underlying3 Tryz.underlying5 (AF Er Er)) rfl ?_
  refine qV (FY rfl rfl rfl (AF Er Er)) rfl ?_
  refine qV (AA rfl rfl BH ((fun w hS=>hgc w _ 2 Er hS))) rfl ?_
  refine qV (AQ rfl rfl Tryz.underlying3 Tryz.underlying5 (AF Er Er)) rfl ?_
  refine J3 ?_
  refine rO 0 [11] ?_
  refine J5 ?_
  refine WC.BB mixed<|rF 8 [0,1,5,6]<|?_
  refine J1 ?_
  refine pV (AB (lo:=22) rfl rfl rfl Tryz.underlying25 AO rfl Er) rfl ?_
  refine J1 ?_
  refine pV (AB (lo:=23) rfl rfl rfl Tryz.underlying25 AO rfl Er) rfl ?_
  refine J1 ?_
  refine rA 1 [2,3,4,7,8,9,10] rfl ?_
  refine qV (AA rfl rfl BH ((fun w hS=>hgc w _ 3 Er hS))) rfl ?_
  refine qV (AQ rfl rfl Tryz.underlying3 Tryz.underlying5 (AF Er Er)) rfl ?_
  refine qV (FY rfl rfl rfl (AF Er Er)) rfl ?_
  refine qV (AA rfl rfl BH ((fun w hS=>hgc w _ 4 Er hS))) rfl ?_
  refine qV (AQ rfl rfl Tryz.underlying3 Tryz.underlying5 (AF Er Er)) rfl ?_
  refine J3 ?_
  refine rO 0 [11] ?_
  refine J5 ?_
  refine WC.BB mixed<|rF 16 [0,1,5,6,11,12,17,18]<|?_
  refine J1 ?_
  refine pV (AB (lo:=24) rfl rfl rfl Tryz.underlying25 AO rfl Er) rfl ?_
  refine J1 ?_
  refine pV (AB (lo:=25) rfl rfl rfl Tryz.underlying25 AO rfl Er) rfl ?_
  refine J1 ?_
  refine pV (AB (lo:=26) rfl rfl rfl Tryz.underlying25 AO rfl Er) rfl ?_
  refine J1 ?_
  refine pV (AB (lo:=27) rfl rfl rfl Tryz.underlying25 AO rfl Er) rfl ?_
  refine J1 ?_
  refine rA 1 [2,3,4,7,8,9,10,13,14,15,16,19,20,21,22] rfl ?_
  refine qV (AA rfl rfl BH ((fun w hS=>hgc w _ 5 Er hS))) rfl ?_
  refine qV (AQ rfl rfl Tryz.underlying22 Tryz.underlying5 Fm) rfl ?_
  refine qV (FY rfl rfl rfl (MI Er Er)) rfl ?_
  refine qV (AA rfl rfl BH ((fun w hS=>hgc w _ 6 Er hS))) rfl ?_
  refine qV (AQ rfl rfl Tryz.underlying22 Tryz.underlying5 Fm) rfl ?_
  refine qV (FY rfl rfl rfl (MI Er Er)) rfl ?_
  refine qV (AS rfl rfl rfl (MI Er Er)) rfl ?_
  refine qV (AA rfl rfl BH ((fun w hS=>hgc w _ 7 Er hS))) rfl ?_
  refine qV (AQ rfl rfl Tryz.underlying22 Tryz.underlying5 Fm) rfl ?_
  refine qV (FY rfl rfl rfl (MI Er Er)) rfl ?_
  refine qV (AS rfl rfl rfl (MI Er Er)) rfl ?_
  refine qV (AA rfl rfl BH ((fun w hS=>hgc w _ 8 Er hS))) rfl ?_
  refine qV (AQ rfl rfl Tryz.underlying22 Tryz.underlying5 Fm) rfl ?_
  refine qV (AS rfl rfl rfl (MI Er Er)) rfl ?_
  rw [show fOf ys 5*16777216+fOf ys 6*65536+fOf ys 7*256+fOf ys 8=idB ys from hid.symm]
  refine J2 ?_
  refine rO 0 [23] ?_
  refine J1 ?_
  refine WL.as (L':=.row g6 (MsL.opened (fOf xs 18) ys none 0 []).AH::.row g5 (AG 0 0 ⟨#[]⟩)::.row g3 (AG 0 0 ⟨#[]⟩)::[.row g2 (MsL.zero 0).AH]) rfl ?_
  refine J7 ?_
  refine zV (AB (lo:=19) rfl rfl rfl Tryz.underlying25 AO rfl Er) rfl ?_
  refine zV (AA rfl rfl BH ((fun w hS=>hgc w _ 0 Er hS))) rfl ?_
  refine JT (fun h91=>?_) (fun h91=>?_)
  refine J6 ?_
  refine zB Tryz.underlying25 AO BF rfl rfl ?_
  intro g93 hg93
  refine zK G7 rfl ?_
  intro w hS
  refine Calls.then (CD w 2 1 (some ⟨g93,0,none⟩) 2 2 (fun i=>if i=0 then 0 else 4) (fun _=>⟨g93,0,rfl,fun i hi=>by
  have:i=0∨i=1:=Er
  rcases this with rfl|rfl
  · exact hS.cell (g:=g93) rfl
  · exact hS.cell (g:=g93) rfl⟩)) hS ?_
  refine J7 ?_
  refine eT2 ?_
  exact fun w' h=>Hr.no (hno _ _ (by unfold DR;rw [if_pos h91];try rfl)) h
  refine J9 ?_
  refine zV (AA rfl rfl AK (cellAt (v:=.int .i64 (NJ ys)) rfl)) rfl ?_
  refine JT (fun h97=>?_) (fun h97=>?_)
  refine J6 ?_
  refine zk G7 rfl (fun w hS=>CD w 2 2 none 0 0 (fun _=>0) (RdO.nil w _)) ?_
  refine J7 ?_
  refine eT2 ?_
  exact fun w' h=>Hr.no (hno _ _ (by unfold DR;rw [if_neg h91,if_pos h97];try rfl)) h
  refine J5 ?_
  refine WC.cut (fun _:Unit=>[(6, .pointer (some ⟨g6,0,none⟩)),(3, .pointer (some ⟨g3,0,none⟩)),(2, .pointer (some ⟨g2,0,none⟩)),(0, .slice (some ⟨b,o,none⟩) xs.length c)]) (fun _=>.row g6 (MsL.opened (fOf xs 18) ys none 0 []).AH::.row g5 (AG 0 0 ⟨#[]⟩)::.row g3 (AG 0 0 ⟨#[]⟩)::[.row g2 (MsL.zero 0).AH]) (fun _=>fOf ys 0=4∧NJ ys≠0∧¬ (GH ys=1∨GH ys=2)) ?_ ?_
  refine J3 ?_
  refine zV (AA rfl rfl AK (cellAt (v:=.int .i64 (GH ys)) rfl)) rfl ?_
  refine JT (fun h102=>?_) (fun h102=>?_)
  refine J2 ?_
  refine zS (AA rfl rfl AK (cellAt (v:=.int .i64 (GH ys)) rfl)) rfl ?_
  refine JT (fun h106=>?_) (fun h106=>?_)
  refine J7 ?_
  refine zk G7 rfl (fun w hS=>CD w 2 6 none 0 0 (fun _=>0) (RdO.nil w _)) ?_
  refine J7 ?_
  refine eT2 ?_
  exact fun w' h=>Hr.no (hno _ _ (by unfold DR;rw [if_neg h91,if_neg h97,if_pos (by omega)];try rfl)) h
  refine J5 ?_
  exact Di
  refine J9 ?_
  exact Di
  rintro _ ⟨hf0,hf1,hf2⟩
  have h91:¬ fOf ys 0≠4:=Er
  refine J4 ?_
  refine zV (AA rfl rfl Lt (cellAt (v:=.int .u32 (idB ys)) rfl)) rfl ?_
  refine JT (fun h112=>?_) (fun h112=>?_)
  refine J6 ?_
  refine zk G7 rfl (fun w hS=>CD w 2 3 none 0 0 (fun _=>0) (RdO.nil w _)) ?_
  refine J7 ?_
  refine eT2 ?_
  exact fun w' h=>Hr.no (hno _ _ (by unfold DR;rw [if_neg h91,if_neg hf1,if_neg hf2,if_pos h112];try rfl)) h
  refine J9 ?_
  refine zV (AB (lo:=28) rfl rfl rfl Tryz.underlying25 AO rfl Er) rfl ?_
  refine zV (AA rfl rfl BH ((fun w hS=>hgc w _ 9 Er hS))) rfl ?_
  refine zV (AQ rfl rfl Tryz.underlying3 Tryz.underlying5 (AF Er Er)) rfl ?_
  refine J3 ?_
  refine JT (fun h122=>?_) (fun h122=>?_)
  refine J6 ?_
  refine zk G7 rfl (fun w hS=>CD w 2 0 none 0 0 (fun _=>0) (RdO.nil w _)) ?_
  refine J7 ?_
  refine eT2 ?_
  exact fun w' h=>Hr.no (hno _ _ (by unfold DR;rw [if_neg h91,if_neg hf1,if_neg hf2,if_neg h112,if_pos (by rw [List.length_drop];omega)];try rfl)) h
  refine J11 ?_
  refine WC.loop (fun y:RoS=>[(7, .int .i64 y.k),(6, .pointer (some ⟨g6,0,none⟩)),(3, .pointer (some ⟨g3,0,none⟩)),(2, .pointer (some ⟨g2,0,none⟩)),(0, .slice (some ⟨b,o,none⟩) xs.length c)]) (fun y=>y.E++(y.KO++(.row g6 (MsL.opened (fOf xs 18) ys y.ad y.kc y.cs).AH::.row g5 (AG 0 0 ⟨#[]⟩)::.row g3 (AG 0 0 ⟨#[]⟩)::[.row g2 (MsL.zero 0).AH]))) (fun y=>29≤y.k∧y.k≤xs.length∧y.cs.length≤y.k∧DR ys=(match Ib (y.cs.map NK) (xs.drop y.k) with | .inl cs=>.inl cs | .inr s=>.inr (s,⟨#[]⟩))∧Vec 2 y.ad y.cs.length y.kc (MN y.cs) y.E∧∀ c∈y.cs,NN y.KO c) (fun y=>xs.length-y.k) ⟨29,[],none,0,[],[]⟩ ⟨Nat.le_refl _,hl29,Nat.zero_le _,by
  dsimp only
  unfold DR
  rw [if_neg h91,if_neg hf1,if_neg hf2,if_neg h112,if_neg Ex,show xs.drop 29=ys.drop 10 by rw [hys,List.drop_drop]]
  rw [List.map_nil]
  cases Ib [] (ys.drop 10) <;> rfl,Vec.nil 2,fun _ h=>by cases h⟩ Km (.refl _) ?_
  rintro ⟨k,cs,ad,kc,E,KO⟩ ⟨hk29,hk,hcl,hop,hV,hO⟩
  dsimp only at hk29 hk hcl hop hV hO
  dsimp only
  have hkl:(xs.drop k).length=xs.length-k:=List.length_drop ..
  have hbk1:=CP hW.bys (k+1)
  refine J6 ?_
  refine JT (fun h128=>?_) (fun h128=>?_)
  refine J13 ?_
  refine JT (fun h133=>?_) (fun h133=>?_)
  refine J20 ?_
  refine zk G7 rfl (fun w hS=>CD w 2 0 none 0 0 (fun _=>0) (RdO.nil w _)) ?_
  refine J10 ?_
  refine eT2 ?_
  exact fun w' h=>Hr.no (hno _ _ (by rw [hop,Nu _ (by omega) (.inl (by omega))];try rfl)) h
  refine J5 ?_
  refine zS (AS rfl rfl rfl (show _=((k+1:Nat):Int) from (AF Er Er).trans Er)) rfl ?_
  refine zS (AB (lo:=k+1) rfl rfl rfl Tryz.underlying25 AO Er Er) rfl ?_
  refine zS (AA rfl rfl BH (AL (fun h=>h) (hW.get (BJ Er)))) rfl ?_
  refine zS (AQ rfl rfl Tryz.underlying3 Tryz.underlying5 (AF Er Er)) rfl ?_
  refine J3 ?_
  refine JT (fun h146=>?_) (fun h146=>?_)
  refine J7 ?_
  refine zk G7 rfl (fun w hS=>CD w 2 0 none 0 0 (fun _=>0) (RdO.nil w _)) ?_
  refine J10 ?_
  refine eT2 ?_
  exact fun w' h=>Hr.no (hno _ _ (by rw [hop,Nu _ (by omega) (.inr (by rw [Hg];omega))];try rfl)) h
  refine J9 ?_
  obtain ⟨x,y0,zs,hdr⟩:=OY (ys:=xs.drop k) Er
  have ex:fOf xs k=x:=(by have:=Hg xs k 0;rw [hdr] at this;exact this.symm)
  have ey:fOf xs (k+1)=y0:=(by have:=Hg xs k 1;rw [hdr] at this;exact this.symm)
  rw [ey] at hbk1
  obtain ⟨n,hn0⟩:=Int.eq_ofNat_of_zero_le hbk1.1
  have hzs:zs=xs.drop (k+2):=(by rw [← List.drop_drop,hdr];rfl)
  have hzl:zs.length=xs.length-(k+2):=(by rw [hzs];exact List.length_drop ..)
  rw [hdr,hn0,Je,Int.toNat_natCast,if_neg Er] at hop
  refine J2 ?_
  refine zV (AB (lo:=k) rfl rfl rfl Tryz.underlying25 AO Er Er) rfl ?_
  refine zV (AA rfl rfl BH (AL (fun h=>h) (hW.get (BJ Er)))) rfl ?_
  refine JT (fun h154=>?_) (fun h154=>?_)
  skip
  refine J6 ?_
  refine zk G7 rfl (fun w hS=>CD w 2 4 none 0 0 (fun _=>0) (RdO.nil w _)) ?_
  refine J10 ?_
  refine eT2 ?_
  exact fun w' h=>Hr.no (hno _ _ (by rw [hop,if_pos (by omega)];try rfl)) h
  refine J7 ?_
  rw [if_neg Er] at hop
  refine J1 ?_
  refine zV (AS rfl rfl rfl (show _=((k+2:Nat):Int) from (AF Er Er).trans Er)) rfl ?_
  refine J2 ?_
  refine zV (AS rfl rfl rfl (show _=((k+1:Nat):Int) from (AF Er Er).trans Er)) rfl ?_
  refine zV (AB (lo:=k+1) rfl rfl rfl Tryz.underlying25 AO Er Er) rfl ?_
  refine zV (AA rfl rfl BH (AL (fun h=>h) (hW.get (BJ Er)))) rfl ?_
  refine zV (AQ rfl rfl Tryz.underlying3 Tryz.underlying5 (AF Er Er)) rfl ?_
  refine zV (AS rfl rfl rfl (show _=((k+2+n:Nat):Int) from (AF Er Er).trans Er)) rfl ?_
  refine J6 ?_
  refine zV (AS rfl rfl rfl (show _=((k+2:Nat):Int) from (AF Er Er).trans Er)) rfl ?_
  refine J4 ?_
  refine WC.loop (fun y:RoS=>[(8, .int .i64 ((k+2+n:Nat):Int)),(7, .int .i64 y.k),(6, .pointer (some ⟨g6,0,none⟩)),(3, .pointer (some ⟨g3,0,none⟩)),(2, .pointer (some ⟨g2,0,none⟩)),(0, .slice (some ⟨b,o,none⟩) xs.length c)]) (fun y=>y.E++(y.KO++(.row g6 (MsL.opened (fOf xs 18) ys y.ad y.kc y.cs).AH::.row g5 (AG 0 0 ⟨#[]⟩)::.row g3 (AG 0 0 ⟨#[]⟩)::[.row g2 (MsL.zero 0).AH]))) (fun y=>k+2≤y.k∧y.k≤k+2+n∧y.cs.length≤y.k∧H9 (cs.map NK) (zs.take n)=H9 (y.cs.map NK) ((xs.drop y.k).take (k+2+n-y.k))∧Vec 2 y.ad y.cs.length y.kc (MN y.cs) y.E∧∀ c∈y.cs,NN y.KO c) (fun y=>k+2+n-y.k) ⟨k+2,cs,ad,kc,E,KO⟩ ⟨Nat.le_refl _,Nat.le_add_right _ _,by dsimp only;omega,by dsimp only;rw [hzs,Nat.add_sub_cancel_left],hV,hO⟩ Km (.refl _) ?_
  rintro ⟨j,ds,ad2,kc2,E2,KO2⟩ ⟨hj2,hje,hdl2,hcap,hV2,hO2⟩
  dsimp only at hj2 hje hdl2 hcap hV2 hO2
  dsimp only
  have hjl:((xs.drop j).take (k+2+n-j)).length=k+2+n-j:=F1
  have hbj1:=CP hW.bys (j+1)
  have hbj0:=CP hW.bys j
  refine J5 ?_
  refine JT (fun h170=>?_) (fun h170=>?_)
  refine J12 ?_
  refine JT (fun h174=>?_) (fun h174=>?_)
  refine J19 ?_
  refine zk G7 rfl (fun w hS=>CD w 2 0 none 0 0 (fun _=>0) (RdO.nil w _)) ?_
  refine J13 ?_
  refine eT2 ?_
  exact fun w' h=>Hr.no (hno _ _ (by rw [hop,hcap,Ny _ (by omega) (.inl (by omega))];try rfl)) h
  refine J5 ?_
  refine zS (AS rfl rfl rfl (show _=((j+1:Nat):Int) from (AF Er Er).trans Er)) rfl ?_
  refine zS (AB (lo:=j+1) rfl rfl rfl Tryz.underlying25 AO Er Er) rfl ?_
  refine zS (AA rfl rfl BH (AL (fun h=>h) (hW.get (BJ Er)))) rfl ?_
  refine zS (AQ rfl rfl Tryz.underlying3 Tryz.underlying5 (AF Er Er)) rfl ?_
  refine J2 ?_
  refine JT (fun h186=>?_) (fun h186=>?_)
  refine J7 ?_
  refine zk G7 rfl (fun w hS=>CD w 2 0 none 0 0 (fun _=>0) (RdO.nil w _)) ?_
  refine J13 ?_
  refine eT2 ?_
  exact fun w' h=>Hr.no (hno _ _ (by rw [hop,hcap,Ny _ Er (.inr (by rw [hjl,show fOf ((xs.drop j).take (k+2+n-j)) 1=fOf xs (j+1) by rw [← Hg];unfold fOf;rw [List.getD_eq_getElem?_getD,List.getD_eq_getElem?_getD,List.getElem?_take,if_pos (by omega)]];omega))];try rfl)) h
  refine J7 ?_
  refine WC.held ([]) mixed ?_
  refine WRH.first (g:=8) [0,2,3,4,5,6,8,9,10,11,12,13,14,15,16,17,18,19,20] Es Es kp ?_
  obtain ⟨x3,y3,zs3,hdv⟩:=OY (ys:=(xs.drop j).take (k+2+n-j)) Er
  have ft:∀ i,i<k+2+n-j→fOf ((xs.drop j).take (k+2+n-j)) i=fOf xs (j+i):=(fun i hi=>by rw [← Hg];unfold fOf;rw [List.getD_eq_getElem?_getD,List.getD_eq_getElem?_getD,List.getElem?_take,if_pos hi])
  have ex3:fOf xs j=x3:=(by have:=ft 0 (by omega);rw [hdv] at this;exact this.symm)
  have ey3:fOf xs (j+1)=y3:=(by have:=ft 1 (by omega);rw [hdv] at this;exact this.symm)
  rw [ey3] at hbj1
  obtain ⟨n3,hn3⟩:=Int.eq_ofNat_of_zero_le hbj1.1
  have hz3:zs3=(xs.drop (j+2)).take (k+2+n-(j+2)):=(by
    have h1:((xs.drop j).take (k+2+n-j)).drop 2=zs3:=(by rw [hdv];rfl)
    rw [← h1,List.drop_take,List.drop_drop,show k+2+n-j-2=k+2+n-(j+2) by omega])
  have hz3l:zs3.length=k+2+n-(j+2):=(by rw [hz3,List.length_take,List.length_drop];omega)
  rw [hdv,hn3,KD,Int.toNat_natCast,if_neg Er] at hcap
  have hvt:(xs.take (j+2+n3)).drop (j+2)=zs3.take n3:=(by rw [hz3,List.take_take,List.drop_take,Nat.min_eq_left (by omega),Nat.add_sub_cancel_left])
  have hvd:(xs.drop (j+2+n3)).take (k+2+n-(j+2+n3))=zs3.drop n3:=(by rw [hz3,List.drop_take,List.drop_drop,show k+2+n-(j+2)-n3=k+2+n-(j+2+n3) by omega])
  have hvl:(zs3.take n3).length=n3:=Ey
  have hWv:Win w0 b (AV o (j+2) c 1) (c-(j+2)) (zs3.take n3):=(by rw [← hvt];exact (hW.take _).drop _)
  refine J3 ?_
  refine WH.val (AB (lo:=j) rfl rfl rfl Tryz.underlying25 AO Er Er) (.none rfl) rfl rfl ?_
  refine WH.val (AA rfl rfl BH (AL (fun h=>h) (hW.get (BJ Er)))) (.none rfl) rfl rfl ?_
  refine WH.val (AQ rfl rfl Tryz.underlying3 Tryz.underlying5 (AF Er Er)) (.none rfl) rfl rfl ?_
  refine J2 ?_
  refine WH.val (AS rfl rfl rfl (show _=((j+2:Nat):Int) from (AF Er Er).trans Er)) (.none rfl) rfl rfl ?_
  refine J1 ?_
  refine WH.val (AS rfl rfl rfl (show _=((j+2:Nat):Int) from (AF Er Er).trans Er)) (.none rfl) rfl rfl ?_
  refine J2 ?_
  refine WH.val (AS rfl rfl rfl (show _=((j+1:Nat):Int) from (AF Er Er).trans Er)) (.none rfl) rfl rfl ?_
  refine WH.val (AB (lo:=j+1) rfl rfl rfl Tryz.underlying25 AO Er Er) (.none rfl) rfl rfl ?_
  refine WH.val (AA rfl rfl BH (AL (fun h=>h) (hW.get (BJ Er)))) (.none rfl) rfl rfl ?_
  refine WH.val (AQ rfl rfl Tryz.underlying3 Tryz.underlying5 (AF Er Er)) (.none rfl) rfl rfl ?_
  refine WH.val (AS rfl rfl rfl (show _=((j+2+n3:Nat):Int) from (AF Er Er).trans Er)) (.none rfl) rfl rfl ?_
  refine WH.val ((CN (lo:=j+2) (hi:=j+2+n3) rfl rfl rfl rfl Tryz.underlying25 AO rfl rfl Er Er)) (.none rfl) rfl rfl ?_
  refine WH.nil ?_
  refine WRH.each (g:=7) [1,7] Es Et ?_
  refine ⟨?_,?_⟩
  refine zV (AA rfl rfl MX (cellAt (v:=.slice ad2 ds.length kc2) rfl)) rfl<|WL.ID kp<|?_
  refine WRH.one (g:=6) 7 Es ?_
  refine zB Tryz.underlying25 AO BF rfl rfl ?_
  intro g197 hg197
  refine WL.ID kp ?_
  refine WRH.one (g:=5) 21 Es ?_
  refine WL.AN rfl rfl rfl Tryz.underlying25 Tryz.underlying25 AO Hx BF rfl rfl (E:=[.row g197 []]) (Vec.row (k:=0) (s:=1) (c:=0) rfl rfl Er) (new:=u8s (zs3.take n3)) (fun h=>⟨b,AV o (j+2) c 1,rfl,fun w hS'=>hS'.rng (fun _ h=>h) _ _ _ hWv.at_⟩) Fh (CQ _) Er (.none rfl) rfl rfl ?_
  intro ad211 c211 E211 hV211 hr211
  rw [show 0+(j+2+n3-(j+2))=(zs3.take n3).length by omega] at hV211 ⊢
  rw [show List.take (0*1) ([]:List Value)=[] from rfl,List.nil_append] at hV211
  refine WL.as (L':=E211++(E2++(KO2++(.row g6 (MsL.opened (fOf xs 18) ys ad2 kc2 ds).AH::.row g5 (AG 0 0 ⟨#[]⟩)::.row g3 (AG 0 0 ⟨#[]⟩)::[.row g2 (MsL.zero 0).AH])))) rfl<|WL.ID kp<|?_
  refine WRH.first (g:=4) [22] Es Es kp ?_
  refine J1 ?_
  refine WH.nil ?_
  refine WRH.one (g:=3) 23 Es ?_
  refine zB Tryz.underlying114 K0 H0 rfl rfl ?_
  intro g213 hg213
  refine WL.as (L':=.row g213 (BU.cells (⟨fOf xs j,ad211,c211,zs3.take n3⟩:BU))::(E211++(E2++(KO2++(.row g6 (MsL.opened (fOf xs 18) ys ad2 kc2 ds).AH::.row g5 (AG 0 0 ⟨#[]⟩)::.row g3 (AG 0 0 ⟨#[]⟩)::[.row g2 (MsL.zero 0).AH]))))) rfl ?_
  refine WL.to (L':=E2++(.row g213 (BU.cells (⟨fOf xs j,ad211,c211,zs3.take n3⟩:BU))::(E211++(KO2++(.row g6 (MsL.opened (fOf xs 18) ys ad2 kc2 ds).AH::.row g5 (AG 0 0 ⟨#[]⟩)::.row g3 (AG 0 0 ⟨#[]⟩)::[.row g2 (MsL.zero 0).AH]))))) (fun w hS=>hS.M6 Fu) ?_
  refine WL.ID kp ?_
  refine WRH.one (g:=2) 24 Es ?_
  refine WL.AN rfl rfl rfl Tryz.underlying114 Tryz.underlying114 K0 RH H0 rfl rfl hV2 (new:=BU.cells (⟨fOf xs j,ad211,c211,zs3.take n3⟩:BU)) (fun _=>⟨g213,0,rfl,fun w hS=>BZ (g:=g213) w hS⟩) rfl rfl Er (.none rfl) rfl rfl ?_
  intro ad214 c214 E214 hV214 hr214
  rw [← Hz] at hV214
  rw [show ds.length+1=(ds++[(⟨fOf xs j,ad211,c211,zs3.take n3⟩:BU)]).length by rw [List.length_append];rfl] at hV214 ⊢
  refine WL.ID kp ?_
  refine WRH.first (g:=1) [25] Es Es kp ?_
  refine J1 ?_
  refine WH.nil ?_
  refine WRH.one (g:=0) 26 Es ?_
  refine J1 ?_
  refine WL.as (L':=E214++(.row g213 (BU.cells (⟨fOf xs j,ad211,c211,zs3.take n3⟩:BU))::(E211++(KO2++(.row g6 (MsL.opened (fOf xs 18) ys ad214 c214 (ds++[(⟨fOf xs j,ad211,c211,zs3.take n3⟩:BU)])).AH::.row g5 (AG 0 0 ⟨#[]⟩)::.row g3 (AG 0 0 ⟨#[]⟩)::[.row g2 (MsL.zero 0).AH]))))) rfl<|WL.ID kp<|?_
  refine WRH.done Es ?_
  refine J5 ?_
  refine zV (AS rfl rfl rfl (show _=((j+1:Nat):Int) from (AF Er Er).trans Er)) rfl ?_
  refine zV (AB (lo:=j+1) rfl rfl rfl Tryz.underlying25 AO Er Er) rfl ?_
  refine zV (AA rfl rfl BH (AL (fun h=>h) (hW.get (BJ Er)))) rfl ?_
  refine zV (AQ rfl rfl Tryz.underlying3 Tryz.underlying5 (AF Er Er)) rfl ?_
  refine zV (AS rfl rfl rfl (show _=((2+n3:Nat):Int) from (AF Er Er).trans Er)) rfl ?_
  refine zV (AS rfl rfl rfl (show _=((j+2+n3:Nat):Int) from (AF Er Er).trans Er)) rfl ?_
  refine J3 ?_
  exact WE.to (L':=E214++((E211++KO2)++(.row g6 (MsL.opened (fOf xs 18) ys ad214 c214 (ds++[(⟨fOf xs j,ad211,c211,zs3.take n3⟩:BU)])).AH::.row g5 (AG 0 0 ⟨#[]⟩)::.row g3 (AG 0 0 ⟨#[]⟩)::[.row g2 (MsL.zero 0).AH]))) (fun w hS=>by
  have:=hS.sub (L':=E214++(E211++(KO2++(.row g6 (MsL.opened (fOf xs 18) ys ad214 c214 (ds++[(⟨fOf xs j,ad211,c211,zs3.take n3⟩:BU)])).AH::.row g5 (AG 0 0 ⟨#[]⟩)::.row g3 (AG 0 0 ⟨#[]⟩)::[.row g2 (MsL.zero 0).AH])))) (List.Sublist.append_left (.cons _ (.refl _)) _)
  rwa [← List.append_assoc E211] at this) (eW ⟨j+2+n3,ds++[(⟨fOf xs j,ad211,c211,zs3.take n3⟩:BU)],ad214,c214,E214,E211++KO2⟩ Eu ⟨by dsimp only;omega,by dsimp only;omega,by dsimp only;rw [List.length_append];show _+1≤_;omega,by dsimp only;rw [hcap,hvd,List.map_append];show _=H9 (_++[(fOf xs j,_)]) _;rw [ex3],hV214,fun c' hc'=>(by
  rcases List.mem_append.1 hc' with hc' | hc'
  · obtain ⟨E',r1,r2⟩:=hO2 c' hc'
    exact Az
  · rw [List.mem_singleton.1 hc']
    exact ⟨E211,hV211,fun e he=>List.mem_append_left _ he⟩)⟩)
  refine zB Tryz.underlying25 AO BF rfl rfl ?_
  intro g197 hg197
  refine WL.ID kp ?_
  refine WRH.each (g:=6) [1,21] Es Et ?_
  refine ⟨?_,?_⟩
  refine zV (AA rfl rfl MX (cellAt (v:=.slice ad2 ds.length kc2) rfl)) rfl<|WL.ID kp<|?_
  refine WRH.one (g:=5) 21 Es ?_
  refine WL.AN rfl rfl rfl Tryz.underlying25 Tryz.underlying25 AO Hx BF rfl rfl (E:=[.row g197 []]) (Vec.row (k:=0) (s:=1) (c:=0) rfl rfl Er) (new:=u8s (zs3.take n3)) (fun h=>⟨b,AV o (j+2) c 1,rfl,fun w hS'=>hS'.rng (fun _ h=>h) _ _ _ hWv.at_⟩) Fh (CQ _) Er (.none rfl) rfl rfl ?_
  intro ad211 c211 E211 hV211 hr211
  rw [show 0+(j+2+n3-(j+2))=(zs3.take n3).length by omega] at hV211 ⊢
  rw [show List.take (0*1) ([]:List Value)=[] from rfl,List.nil_append] at hV211
  refine WL.as (L':=E211++(E2++(KO2++(.row g6 (MsL.opened (fOf xs 18) ys ad2 kc2 ds).AH::.row g5 (AG 0 0 ⟨#[]⟩)::.row g3 (AG 0 0 ⟨#[]⟩)::[.row g2 (MsL.zero 0).AH])))) rfl<|WL.ID kp<|?_
  refine WRH.first (g:=4) [22] Es Es kp ?_
  refine J1 ?_
  refine WH.nil ?_
  refine WRH.one (g:=3) 23 Es ?_
  refine zB Tryz.underlying114 K0 H0 rfl rfl ?_
  intro g213 hg213
  refine WL.as (L':=.row g213 (BU.cells (⟨fOf xs j,ad211,c211,zs3.take n3⟩:BU))::(E211++(E2++(KO2++(.row g6 (MsL.opened (fOf xs 18) ys ad2 kc2 ds).AH::.row g5 (AG 0 0 ⟨#[]⟩)::.row g3 (AG 0 0 ⟨#[]⟩)::[.row g2 (MsL.zero 0).AH]))))) rfl ?_
  refine WL.to (L':=E2++(.row g213 (BU.cells (⟨fOf xs j,ad211,c211,zs3.take n3⟩:BU))::(E211++(KO2++(.row g6 (MsL.opened (fOf xs 18) ys ad2 kc2 ds).AH::.row g5 (AG 0 0 ⟨#[]⟩)::.row g3 (AG 0 0 ⟨#[]⟩)::[.row g2 (MsL.zero 0).AH]))))) (fun w hS=>hS.M6 Fu) ?_
  refine WL.ID kp ?_
  refine WRH.one (g:=2) 24 Es ?_
  refine WL.AN rfl rfl rfl Tryz.underlying114 Tryz.underlying114 K0 RH H0 rfl rfl hV2 (new:=BU.cells (⟨fOf xs j,ad211,c211,zs3.take n3⟩:BU)) (fun _=>⟨g213,0,rfl,fun w hS=>BZ (g:=g213) w hS⟩) rfl rfl Er (.none rfl) rfl rfl ?_
  intro ad214 c214 E214 hV214 hr214
  rw [← Hz] at hV214
  rw [show ds.length+1=(ds++[(⟨fOf xs j,ad211,c211,zs3.take n3⟩:BU)]).length by rw [List.length_append];rfl] at hV214 ⊢
  refine WL.ID kp ?_
  refine WRH.first (g:=1) [25] Es Es kp ?_
  refine J1 ?_
  refine WH.nil ?_
  refine WRH.one (g:=0) 26 Es ?_
  refine J1 ?_
  refine WL.as (L':=E214++(.row g213 (BU.cells (⟨fOf xs j,ad211,c211,zs3.take n3⟩:BU))::(E211++(KO2++(.row g6 (MsL.opened (fOf xs 18) ys ad214 c214 (ds++[(⟨fOf xs j,ad211,c211,zs3.take n3⟩:BU)])).AH::.row g5 (AG 0 0 ⟨#[]⟩)::.row g3 (AG 0 0 ⟨#[]⟩)::[.row g2 (MsL.zero 0).AH]))))) rfl<|WL.ID kp<|?_
  refine WRH.done Es ?_
  refine J5 ?_
  refine zV (AS rfl rfl rfl (show _=((j+1:Nat):Int) from (AF Er Er).trans Er)) rfl ?_
  refine zV (AB (lo:=j+1) rfl rfl rfl Tryz.underlying25 AO Er Er) rfl ?_
  refine zV (AA rfl rfl BH (AL (fun h=>h) (hW.get (BJ Er)))) rfl ?_
  refine zV (AQ rfl rfl Tryz.underlying3 Tryz.underlying5 (AF Er Er)) rfl ?_
  refine zV (AS rfl rfl rfl (show _=((2+n3:Nat):Int) from (AF Er Er).trans Er)) rfl ?_
  refine zV (AS rfl rfl rfl (show _=((j+2+n3:Nat):Int) from (AF Er Er).trans Er)) rfl ?_
  refine J3 ?_
  exact WE.to (L':=E214++((E211++KO2)++(.row g6 (MsL.opened (fOf xs 18) ys ad214 c214 (ds++[(⟨fOf xs j,ad211,c211,zs3.take n3⟩:BU)])).AH::.row g5 (AG 0 0 ⟨#[]⟩)::.row g3 (AG 0 0 ⟨#[]⟩)::[.row g2 (MsL.zero 0).AH]))) (fun w hS=>by
  have:=hS.sub (L':=E214++(E211++(KO2++(.row g6 (MsL.opened (fOf xs 18) ys ad214 c214 (ds++[(⟨fOf xs j,ad211,c211,zs3.take n3⟩:BU)])).AH::.row g5 (AG 0 0 ⟨#[]⟩)::.row g3 (AG 0 0 ⟨#[]⟩)::[.row g2 (MsL.zero 0).AH])))) (List.Sublist.append_left (.cons _ (.refl _)) _)
  rwa [← List.append_assoc E211] at this) (eW ⟨j+2+n3,ds++[(⟨fOf xs j,ad211,c211,zs3.take n3⟩:BU)],ad214,c214,E214,E211++KO2⟩ Eu ⟨by dsimp only;omega,by dsimp only;omega,by dsimp only;rw [List.length_append];show _+1≤_;omega,by dsimp only;rw [hcap,hvd,List.map_append];show _=H9 (_++[(fOf xs j,_)]) _;rw [ex3],hV214,fun c' hc'=>(by
  rcases List.mem_append.1 hc' with hc' | hc'
  · obtain ⟨E',r1,r2⟩:=hO2 c' hc'
    exact Az
  · rw [List.mem_singleton.1 hc']
    exact ⟨E211,hV211,fun e he=>List.mem_append_left _ he⟩)⟩)
  refine WL.AN rfl rfl rfl Tryz.underlying25 Tryz.underlying25 AO Hx BF rfl rfl (E:=[.row g197 []]) (Vec.row (k:=0) (s:=1) (c:=0) rfl rfl Er) (new:=u8s (zs3.take n3)) (fun h=>⟨b,AV o (j+2) c 1,rfl,fun w hS'=>hS'.rng (fun _ h=>h) _ _ _ hWv.at_⟩) Fh (CQ _) Er (.none rfl) rfl rfl ?_
  intro ad211 c211 E211 hV211 hr211
  rw [show 0+(j+2+n3-(j+2))=(zs3.take n3).length by omega] at hV211 ⊢
  rw [show List.take (0*1) ([]:List Value)=[] from rfl,List.nil_append] at hV211
  refine WL.as (L':=E211++(E2++(KO2++(.row g6 (MsL.opened (fOf xs 18) ys ad2 kc2 ds).AH::.row g5 (AG 0 0 ⟨#[]⟩)::.row g3 (AG 0 0 ⟨#[]⟩)::[.row g2 (MsL.zero 0).AH])))) rfl<|WL.ID kp<|?_
  refine WRH.first (g:=5) [22] Es Es kp ?_
  refine J1 ?_
  refine WH.nil ?_
  refine WRH.each (g:=4) [1,23] Es Et ?_
  refine ⟨?_,?_⟩
  refine zV (AA rfl rfl MX (cellAt (v:=.slice ad2 ds.length kc2) rfl)) rfl<|WL.ID kp<|?_
  refine WRH.one (g:=3) 23 Es ?_
  refine zB Tryz.underlying114 K0 H0 rfl rfl ?_
  intro g213 hg213
  refine WL.as (L':=.row g213 (BU.cells (⟨fOf xs j,ad211,c211,zs3.take n3⟩:BU))::(E211++(E2++(KO2++(.row g6 (MsL.opened (fOf xs 18) ys ad2 kc2 ds).AH::.row g5 (AG 0 0 ⟨#[]⟩)::.row g3 (AG 0 0 ⟨#[]⟩)::[.row g2 (MsL.zero 0).AH]))))) rfl ?_
  refine WL.to (L':=E2++(.row g213 (BU.cells (⟨fOf xs j,ad211,c211,zs3.take n3⟩:BU))::(E211++(KO2++(.row g6 (MsL.opened (fOf xs 18) ys ad2 kc2 ds).AH::.row g5 (AG 0 0 ⟨#[]⟩)::.row g3 (AG 0 0 ⟨#[]⟩)::[.row g2 (MsL.zero 0).AH]))))) (fun w hS=>hS.M6 Fu) ?_
  refine WL.ID kp ?_
  refine WRH.one (g:=2) 24 Es ?_
  refine WL.AN rfl rfl rfl Tryz.underlying114 Tryz.underlying114 K0 RH H0 rfl rfl hV2 (new:=BU.cells (⟨fOf xs j,ad211,c211,zs3.take n3⟩:BU)) (fun _=>⟨g213,0,rfl,fun w hS=>BZ (g:=g213) w hS⟩) rfl rfl Er (.none rfl) rfl rfl ?_
  intro ad214 c214 E214 hV214 hr214
  rw [← Hz] at hV214
  rw [show ds.length+1=(ds++[(⟨fOf xs j,ad211,c211,zs3.take n3⟩:BU)]).length by rw [List.length_append];rfl] at hV214 ⊢
  refine WL.ID kp ?_
  refine WRH.first (g:=1) [25] Es Es kp ?_
  refine J1 ?_
  refine WH.nil ?_
  refine WRH.one (g:=0) 26 Es ?_
  refine J1 ?_
  refine WL.as (L':=E214++(.row g213 (BU.cells (⟨fOf xs j,ad211,c211,zs3.take n3⟩:BU))::(E211++(KO2++(.row g6 (MsL.opened (fOf xs 18) ys ad214 c214 (ds++[(⟨fOf xs j,ad211,c211,zs3.take n3⟩:BU)])).AH::.row g5 (AG 0 0 ⟨#[]⟩)::.row g3 (AG 0 0 ⟨#[]⟩)::[.row g2 (MsL.zero 0).AH]))))) rfl<|WL.ID kp<|?_
  refine WRH.done Es ?_
  refine J5 ?_
  refine zV (AS rfl rfl rfl (show _=((j+1:Nat):Int) from (AF Er Er).trans Er)) rfl ?_
  refine zV (AB (lo:=j+1) rfl rfl rfl Tryz.underlying25 AO Er Er) rfl ?_
  refine zV (AA rfl rfl BH (AL (fun h=>h) (hW.get (BJ Er)))) rfl ?_
  refine zV (AQ rfl rfl Tryz.underlying3 Tryz.underlying5 (AF Er Er)) rfl ?_
  refine zV (AS rfl rfl rfl (show _=((2+n3:Nat):Int) from (AF Er Er).trans Er)) rfl ?_
  refine zV (AS rfl rfl rfl (show _=((j+2+n3:Nat):Int) from (AF Er Er).trans Er)) rfl ?_
  refine J3 ?_
  exact WE.to (L':=E214++((E211++KO2)++(.row g6 (MsL.opened (fOf xs 18) ys ad214 c214 (ds++[(⟨fOf xs j,ad211,c211,zs3.take n3⟩:BU)])).AH::.row g5 (AG 0 0 ⟨#[]⟩)::.row g3 (AG 0 0 ⟨#[]⟩)::[.row g2 (MsL.zero 0).AH]))) (fun w hS=>by
  have:=hS.sub (L':=E214++(E211++(KO2++(.row g6 (MsL.opened (fOf xs 18) ys ad214 c214 (ds++[(⟨fOf xs j,ad211,c211,zs3.take n3⟩:BU)])).AH::.row g5 (AG 0 0 ⟨#[]⟩)::.row g3 (AG 0 0 ⟨#[]⟩)::[.row g2 (MsL.zero 0).AH])))) (List.Sublist.append_left (.cons _ (.refl _)) _)
  rwa [← List.append_assoc E211] at this) (eW ⟨j+2+n3,ds++[(⟨fOf xs j,ad211,c211,zs3.take n3⟩:BU)],ad214,c214,E214,E211++KO2⟩ Eu ⟨by dsimp only;omega,by dsimp only;omega,by dsimp only;rw [List.length_append];show _+1≤_;omega,by dsimp only;rw [hcap,hvd,List.map_append];show _=H9 (_++[(fOf xs j,_)]) _;rw [ex3],hV214,fun c' hc'=>(by
  rcases List.mem_append.1 hc' with hc' | hc'
  · obtain ⟨E',r1,r2⟩:=hO2 c' hc'
    exact Az
  · rw [List.mem_singleton.1 hc']
    exact ⟨E211,hV211,fun e he=>List.mem_append_left _ he⟩)⟩)
  refine zB Tryz.underlying114 K0 H0 rfl rfl ?_
  intro g213 hg213
  refine WL.as (L':=.row g213 (BU.cells (⟨fOf xs j,ad211,c211,zs3.take n3⟩:BU))::(E211++(E2++(KO2++(.row g6 (MsL.opened (fOf xs 18) ys ad2 kc2 ds).AH::.row g5 (AG 0 0 ⟨#[]⟩)::.row g3 (AG 0 0 ⟨#[]⟩)::[.row g2 (MsL.zero 0).AH]))))) rfl ?_
  refine WL.to (L':=E2++(.row g213 (BU.cells (⟨fOf xs j,ad211,c211,zs3.take n3⟩:BU))::(E211++(KO2++(.row g6 (MsL.opened (fOf xs 18) ys ad2 kc2 ds).AH::.row g5 (AG 0 0 ⟨#[]⟩)::.row g3 (AG 0 0 ⟨#[]⟩)::[.row g2 (MsL.zero 0).AH]))))) (fun w hS=>hS.M6 Fu) ?_
  refine WL.ID kp ?_
  refine WRH.one (g:=3) 1 Es ?_
  refine zV (AA rfl rfl MX (cellAt (v:=.slice ad2 ds.length kc2) rfl)) rfl<|WL.ID kp<|?_
  refine WRH.one (g:=2) 24 Es ?_
  refine WL.AN rfl rfl rfl Tryz.underlying114 Tryz.underlying114 K0 RH H0 rfl rfl hV2 (new:=BU.cells (⟨fOf xs j,ad211,c211,zs3.take n3⟩:BU)) (fun _=>⟨g213,0,rfl,fun w hS=>BZ (g:=g213) w hS⟩) rfl rfl Er (.none rfl) rfl rfl ?_
  intro ad214 c214 E214 hV214 hr214
  rw [← Hz] at hV214
  rw [show ds.length+1=(ds++[(⟨fOf xs j,ad211,c211,zs3.take n3⟩:BU)]).length by rw [List.length_append];rfl] at hV214 ⊢
  refine WL.ID kp ?_
  refine WRH.first (g:=1) [25] Es Es kp ?_
  refine J1 ?_
  refine WH.nil ?_
  refine WRH.one (g:=0) 26 Es ?_
  refine J1 ?_
  refine WL.as (L':=E214++(.row g213 (BU.cells (⟨fOf xs j,ad211,c211,zs3.take n3⟩:BU))::(E211++(KO2++(.row g6 (MsL.opened (fOf xs 18) ys ad214 c214 (ds++[(⟨fOf xs j,ad211,c211,zs3.take n3⟩:BU)])).AH::.row g5 (AG 0 0 ⟨#[]⟩)::.row g3 (AG 0 0 ⟨#[]⟩)::[.row g2 (MsL.zero 0).AH]))))) rfl<|WL.ID kp<|?_
  refine WRH.done Es ?_
  refine J5 ?_
  refine zV (AS rfl rfl rfl (show _=((j+1:Nat):Int) from (AF Er Er).trans Er)) rfl ?_
  refine zV (AB (lo:=j+1) rfl rfl rfl Tryz.underlying25 AO Er Er) rfl ?_
  refine zV (AA rfl rfl BH (AL (fun h=>h) (hW.get (BJ Er)))) rfl ?_
  refine zV (AQ rfl rfl Tryz.underlying3 Tryz.underlying5 (AF Er Er)) rfl ?_
  refine zV (AS rfl rfl rfl (show _=((2+n3:Nat):Int) from (AF Er Er).trans Er)) rfl ?_
  refine zV (AS rfl rfl rfl (show _=((j+2+n3:Nat):Int) from (AF Er Er).trans Er)) rfl ?_
  refine J3 ?_
  exact WE.to (L':=E214++((E211++KO2)++(.row g6 (MsL.opened (fOf xs 18) ys ad214 c214 (ds++[(⟨fOf xs j,ad211,c211,zs3.take n3⟩:BU)])).AH::.row g5 (AG 0 0 ⟨#[]⟩)::.row g3 (AG 0 0 ⟨#[]⟩)::[.row g2 (MsL.zero 0).AH]))) (fun w hS=>by
  have:=hS.sub (L':=E214++(E211++(KO2++(.row g6 (MsL.opened (fOf xs 18) ys ad214 c214 (ds++[(⟨fOf xs j,ad211,c211,zs3.take n3⟩:BU)])).AH::.row g5 (AG 0 0 ⟨#[]⟩)::.row g3 (AG 0 0 ⟨#[]⟩)::[.row g2 (MsL.zero 0).AH])))) (List.Sublist.append_left (.cons _ (.refl _)) _)
  rwa [← List.append_assoc E211] at this) (eW ⟨j+2+n3,ds++[(⟨fOf xs j,ad211,c211,zs3.take n3⟩:BU)],ad214,c214,E214,E211++KO2⟩ Eu ⟨by dsimp only;omega,by dsimp only;omega,by dsimp only;rw [List.length_append];show _+1≤_;omega,by dsimp only;rw [hcap,hvd,List.map_append];show _=H9 (_++[(fOf xs j,_)]) _;rw [ex3],hV214,fun c' hc'=>(by
  rcases List.mem_append.1 hc' with hc' | hc'
  · obtain ⟨E',r1,r2⟩:=hO2 c' hc'
    exact Az
  · rw [List.mem_singleton.1 hc']
    exact ⟨E211,hV211,fun e he=>List.mem_append_left _ he⟩)⟩)
  refine J8 ?_
  have hje2:j=k+2+n:=Er
  exact eW ⟨j,ds,ad2,kc2,E2,KO2⟩ Eu ⟨by dsimp only;omega,by dsimp only;omega,hdl2,by
    dsimp only
    rw [hop,hcap,show k+2+n-j=0 by omega,List.take_zero,Nh,hzs,List.drop_drop,hje2],hV2,hO2⟩
  refine J12 ?_
  refine zV (AA rfl rfl AK (cellAt (v:=.int .i64 (fOf xs 18)) rfl)) rfl ?_
  refine zV ((AZ rfl rfl rfl).f Er) rfl ?_
  refine J9 ?_
  refine zV (AA rfl rfl AK (cellAt (v:=.int .i64 (fOf xs 18)) rfl)) rfl ?_
  refine zV ((AZ rfl rfl rfl).f Er) rfl ?_
  refine J14 ?_
  refine eT2 ?_
  have hkx:xs.drop k=[]:=List.drop_eq_nil_of_le Er
  have e2:DR ys = .inl (cs.map NK):=(by rw [hop,hkx,Lx])
  have e1:FE xs = .inl (MsL.d (MsL.opened (fOf xs 18) ys ad kc cs)):=(by rw [e00];unfold FL;rw [if_pos h42,e2];rfl)
  exact fun w' h=>by
    unfold Hr
    rw [e1]
    refine ⟨MsL.opened (fOf xs 18) ys ad kc cs,E++KO,rfl,rfl,⟨⟨E,hV,fun e he=>List.mem_append_left _ he⟩,fun c' hc'=>?_,⟨[],Vec.nil 2,fun _ h=>by cases h⟩,⟨[],Vec.nil 2,fun _ h=>by cases h⟩,Ic.zero.mono fun _ h=>by cases h⟩,h.sub (List.Sublist.append_left (List.sublist_append_left _ _) _)⟩
    obtain ⟨E',r1,r2⟩:=hO c' hc'
    exact Az
  refine J9 ?_
  refine zV (AA rfl rfl AK (cellAt (v:=.int .i64 (fOf xs 18)) rfl)) rfl ?_
  refine JT (fun h227=>?_) (fun h227=>?_)
  refine J4 ?_
  refine cQ mixed ?_
  have hl23:23≤xs.length:=(by rw [hlst,if_neg h42,if_pos h227] at hle2;omega)
  have hnu:∀ f,HM ys = .inr f→FE xs = .inr f:=(fun f h=>by rw [e00];unfold FL;rw [if_neg h42,if_pos h227,h])
  have b0:=hb 0
  have b1:=hb 1
  obtain ⟨g,hgv⟩:=Int.eq_ofNat_of_zero_le (show 0≤fOf ys 0*256+fOf ys 1 by omega)
  refine J1 ?_
  refine qV (AB (lo:=19) rfl rfl rfl Tryz.underlying25 AO rfl Er) rfl ?_
  refine qV (AA rfl rfl BH ((fun w hS=>hgc w _ 0 Er hS))) rfl ?_
  refine qV (AQ rfl rfl Tryz.underlying3 Tryz.underlying5 (AF Er Er)) rfl ?_
  refine qV (FY rfl rfl rfl (AF Er Er)) rfl ?_
  refine J1 ?_
  refine qV (AB (lo:=20) rfl rfl rfl Tryz.underlying25 AO rfl Er) rfl ?_
  refine qV (AA rfl rfl BH ((fun w hS=>hgc w _ 1 Er hS))) rfl ?_
  refine qV (AQ rfl rfl Tryz.underlying3 Tryz.underlying5 (AF Er Er)) rfl ?_
  refine J1 ?_
  rw [hgv]
  refine J10 ?_
  refine JT (fun h242=>?_) (fun h242=>?_)
  refine J6 ?_
  refine zk G7 rfl (fun w hS=>CD w 3 1 none 0 0 (fun _=>0) (RdO.nil w _)) ?_
  refine J7 ?_
  refine eT2 ?_
  have eu:HM ys = .inr (3,1,⟨#[]⟩):=(by
    unfold HM
    by_cases hc1:ys.length<2+g
    · rw [show FJ ys=none by unfold FJ;rw [if_pos (.inr Er)]]
    · rw [show FJ ys=some ((ys.drop 2).take g,ys.drop (2+g)) by unfold FJ;rw [if_neg Er,hgv,Int.toNat_natCast]]
      dsimp only
      rw [show FJ (ys.drop (2+g))=none by unfold FJ;rw [if_pos (.inl Ex)]])
  exact fun w' h=>Hr.no (hnu _ eu) h
  refine J6 ?_
  refine cQ mixed ?_
  have ec1:FJ ys=some ((ys.drop 2).take g,ys.drop (2+g)):=(by unfold FJ;rw [if_neg (by omega),hgv,Int.toNat_natCast])
  have bg0:=hb (2+g)
  have bg1:=hb (3+g)
  obtain ⟨q,hqv⟩:=Int.eq_ofNat_of_zero_le (show 0≤fOf ys (2+g)*256+fOf ys (3+g) by omega)
  have hfr:fOf (ys.drop (2+g)) 0*256+fOf (ys.drop (2+g)) 1=q:=(by rw [Hg,Hg,show 2+g+1=3+g by omega];exact hqv)
  have hrl:(ys.drop (2+g)).length=xs.length-(21+g):=Ex
  refine J2 ?_
  refine qV (AS rfl rfl rfl (show _=((19+(2+g):Nat):Int) from (AF Er Er).trans Er)) rfl ?_
  refine qV (AB (lo:=19+(2+g)) rfl rfl rfl Tryz.underlying25 AO Er Er) rfl ?_
  refine qV (AA rfl rfl BH ((fun w hS=>hgc w _ (2+g) Er hS))) rfl ?_
  refine qV (AQ rfl rfl Tryz.underlying3 Tryz.underlying5 (AF Er Er)) rfl ?_
  refine qV (FY rfl rfl rfl (AF Er Er)) rfl ?_
  refine J2 ?_
  refine qV (AS rfl rfl rfl (show _=((19+(3+g):Nat):Int) from (AF Er Er).trans Er)) rfl ?_
  refine qV (AB (lo:=19+(3+g)) rfl rfl rfl Tryz.underlying25 AO Er Er) rfl ?_
  refine qV (AA rfl rfl BH ((fun w hS=>hgc w _ (3+g) Er hS))) rfl ?_
  refine qV (AQ rfl rfl Tryz.underlying3 Tryz.underlying5 (AF Er Er)) rfl ?_
  refine J1 ?_
  rw [hqv]
  refine J12 ?_
  refine JT (fun h265=>?_) (fun h265=>?_)
  refine J6 ?_
  refine zk G7 rfl (fun w hS=>CD w 3 1 none 0 0 (fun _=>0) (RdO.nil w _)) ?_
  refine J7 ?_
  refine eT2 ?_
  have eu:HM ys = .inr (3,1,⟨#[]⟩):=(by
    unfold HM
    rw [ec1]
    dsimp only
    rw [show FJ (ys.drop (2+g))=none by unfold FJ;rw [hfr,if_pos (.inr Er)]])
  exact fun w' h=>Hr.no (hnu _ eu) h
  refine J7 ?_
  have ec2:FJ (ys.drop (2+g))=some (((ys.drop (2+g)).drop 2).take q,(ys.drop (2+g)).drop (2+q)):=(by unfold FJ;rw [hfr,if_neg (by omega),Int.toNat_natCast])
  obtain ⟨xg,hxg⟩:∃ z,z=(ys.drop 2).take g:=⟨_,rfl⟩
  obtain ⟨xa,hxa⟩:∃ z,z=((ys.drop (2+g)).drop 2).take q:=⟨_,rfl⟩
  obtain ⟨xn,hxn⟩:∃ z,z=(ys.drop (2+g)).drop (2+q):=⟨_,rfl⟩
  have hgl:xg.length=g:=(by rw [hxg,List.length_take,List.length_drop];omega)
  have hal:xa.length=q:=(by rw [hxa,List.length_take,List.length_drop];omega)
  have hnl:xn.length=xs.length-(23+g+q):=(by rw [hxn,List.length_drop];omega)
  have hWg:Win w0 b (AV o 21 c 1) (c-21) xg:=(by rw [hxg,show (ys.drop 2).take g=(xs.take (21+g)).drop 21 by rw [hys,List.drop_drop,List.drop_take,Nat.add_sub_cancel_left]];exact (hW.take _).drop _)
  have hWa:Win w0 b (AV o (23+g) c 1) (c-(23+g)) xa:=(by rw [hxa,show ((ys.drop (2+g)).drop 2).take q=(xs.take (23+g+q)).drop (23+g) by rw [hys,List.drop_drop,List.drop_drop,List.drop_take,Nat.add_sub_cancel_left];congr 2;omega];exact (hW.take _).drop _)
  have hWn:Win w0 b (AV o (23+g+q) c 1) (c-(23+g+q)) xn:=(by rw [hxn,show (ys.drop (2+g)).drop (2+q)=xs.drop (23+g+q) by rw [hys,List.drop_drop,List.drop_drop];congr 1;omega];exact hW.drop _)
  rw [← hxg] at ec1
  rw [← hxa, ← hxn] at ec2
  refine J2 ?_
  refine zV (AS rfl rfl rfl (show _=((21+g:Nat):Int) from (AF Er Er).trans Er)) rfl ?_
  refine zV ((CN (lo:=21) (hi:=21+g) rfl rfl rfl rfl Tryz.underlying25 AO rfl rfl Er Er)) rfl ?_
  rw [show 21+g-21=xg.length by omega]
  refine zK ck_92 rfl ?_
  intro w1 hS
  refine (Vs w1 b (AV o 21 c 1) (c-21) xg (hWg.st hS) Er).mono ?_
  rintro e w' ⟨gs,gad,gc,Eg,ok3,rfl,hVg,hSg,hbad3,hok3⟩
  refine ⟨_,_,rfl,hS.join hSg,?_⟩
  refine J3 ?_
  skip
  cases ok3
  refine J15 ?_
  refine zk G7 rfl (fun w hS=>CD w 3 1 none 0 0 (fun _=>0) (RdO.nil w _)) ?_
  refine J7 ?_
  refine eT2 ?_
  have eu:HM ys = .inr (3,1,⟨#[]⟩):=(by unfold HM;rw [ec1];dsimp only;rw [ec2];dsimp only;rw [hbad3 rfl])
  exact fun w' h=>Hr.no (hnu _ eu) h
  refine J18 ?_
  refine zV (AS rfl rfl rfl (show _=((23+g:Nat):Int) from (AF Er Er).trans Er)) rfl ?_
  refine J1 ?_
  refine zV (AS rfl rfl rfl (show _=((23+g:Nat):Int) from (AF Er Er).trans Er)) rfl ?_
  refine J1 ?_
  refine zV (AS rfl rfl rfl (show _=((23+g+q:Nat):Int) from (AF Er Er).trans Er)) rfl ?_
  refine zV ((CN (lo:=23+g) (hi:=23+g+q) rfl rfl rfl rfl Tryz.underlying25 AO rfl rfl Er Er)) rfl ?_
  rw [show 23+g+q-(23+g)=xa.length by omega]
  refine zK ck_93 rfl ?_
  intro w1 hS
  refine (ZG w1 b (AV o (23+g) c 1) (c-(23+g)) xa (hWa.st hS) Er).mono ?_
  rintro e w' ⟨ok4,s4,d4,a,Ka,rfl,hAa,hSa,hbad4,hok4⟩
  refine ⟨_,_,rfl,hS.join hSa,?_⟩
  refine J3 ?_
  refine WL.alloc rfl MP (.none rfl) rfl rfl ?_
  intro g13 hg13
  refine WL.alloc rfl FI (.none rfl) rfl rfl ?_
  intro g14 hg14
  refine J2 ?_
  refine WL.as (L':=.row g14 (AG (if ok4 then 0 else 3) s4 d4)::.row g13 a.AH::(Ka++(Eg++(.row g6 (MsL.zero (fOf xs 18)).AH::.row g5 (AG 0 0 ⟨#[]⟩)::.row g3 (AG 0 0 ⟨#[]⟩)::[.row g2 (MsL.zero 0).AH])))) rfl ?_
  cases ok4
  refine J7 ?_
  refine zV ((BY rfl rfl rfl).t ((by intro h;simp at h))) rfl ?_
  refine J4 ?_
  refine WC.BB mixed<|rF 3 [0]<|?_
  refine J2 ?_
  refine WR.each (g:=2) [1,2] Es Et ?_
  refine ⟨?_,?_⟩
  refine J2 ?_
  refine rO 0 [2,3] ?_
  refine J8 ?_
  exact B7
  refine J2 ?_
  refine rA 1 [1] rfl ?_
  refine J2 ?_
  refine rO 0 [3] ?_
  refine J7 ?_
  exact B7
  refine J6 ?_
  refine zV (AA rfl rfl AK (cellAt (g:=g14) (v:=.int .i64 0) rfl)) rfl ?_
  refine zV ((BY rfl rfl rfl).f Er) rfl ?_
  refine J9 ?_
  refine zV (AS rfl rfl rfl (show _=((23+g:Nat):Int) from (AF Er Er).trans Er)) rfl ?_
  refine J1 ?_
  refine zV (AS rfl rfl rfl (show _=((23+g+q:Nat):Int) from (AF Er Er).trans Er)) rfl ?_
  refine zV ((BW (lo:=23+g+q) rfl rfl rfl Tryz.underlying25 AO rfl Er)) rfl ?_
  obtain ⟨rfl,rfl,dd,ed,ea⟩:=hok4 rfl
  rw [show xs.length-(23+g+q)=xn.length by omega]
  refine zK ck_92 rfl ?_
  intro w1 hS
  refine (Vs w1 b (AV o (23+g+q) c 1) (c-(23+g+q)) xn (hWn.st hS) Er).mono ?_
  rintro e w' ⟨ns,nad,nc,En,ok5,rfl,hVn,hSn,hbad5,hok5⟩
  refine ⟨_,_,rfl,hS.join hSn,?_⟩
  have e1:HM ys=match DS xn with
      | none=>.inr (3,10,⟨#[]⟩)
      | some ns=>if 200<gs.length∨200<ns.length then .inr (6,1,⟨#[]⟩) else if HK dd.has≠0∧0<ns.length then .inr (3,3,oneS (HK dd.has)) else .inl (gs, { dd with others:=DM dd.others },ns):=(by
    unfold HM;rw [ec1];dsimp only;rw [ec2];dsimp only;rw [hok3 rfl];dsimp only;rw [ed];cases DS xn <;> rfl)
  have hah:dd.has=a.has:=(by have:=congrArg AtD.has ea;exact this.symm)
  rw [← ea,hah] at e1
  have hmi:=Vq a.has
  have hSn2:=WV ed hWa.bys
  have hgl2:=JR _ (Nat.le_refl _) (hok3 rfl)
  refine J3 ?_
  skip
  cases ok5
  refine J15 ?_
  refine zk G7 rfl (fun w hS=>CD w 3 10 none 0 0 (fun _=>0) (RdO.nil w _)) ?_
  refine J7 ?_
  refine eT2 ?_
  rw [hbad5 rfl] at e1
  exact fun w' h=>Hr.no (hnu _ (by rw [e1];try rfl)) h
  refine J17 ?_
  have hnl2:=JR _ (Nat.le_refl _) (hok5 rfl)
  rw [hok5 rfl] at e1
  dsimp only at e1
  refine J2 ?_
  refine JT (fun h313=>?_) (fun h313=>?_)
  refine J11 ?_
  exact B5
  refine J3 ?_
  refine JT (fun h317=>?_) (fun h317=>?_)
  refine J7 ?_
  exact B5
  refine J9 ?_
  rw [if_neg Er] at e1
  refine J2 ?_
  refine JT (fun h323=>?_) (fun h323=>?_)
  refine J2 ?_
  refine zk ck_94 rfl (fun w hS=>Pa w a Er Er) ?_
  refine JT (fun h327=>?_) (fun h327=>?_)
  refine J8 ?_
  refine zk ck_94 rfl (fun w hS=>Pa w a Er Er) ?_
  refine zV (AQ rfl rfl Tryz.underlying5 Tryz.underlying3 (w_u8 Er Er)) rfl ?_
  refine zB Tryz.underlying25 AO BF rfl rfl ?_
  intro g333 hg333
  refine zK G7 rfl ?_
  intro w hS
  refine Calls.then (CD w 3 3 (some ⟨g333,0,none⟩) 1 1 (fun _=>HK a.has) (fun _=>⟨g333,0,rfl,fun i hi=>by
  obtain rfl:i=0:=Er
  exact hS.cell (g:=g333) rfl⟩)) hS ?_
  refine J7 ?_
  refine eT2 ?_
  rw [if_pos ⟨by omega,by omega⟩] at e1
  exact fun w' h=>Hr.no (hnu _ (by rw [e1];try rfl)) h
  refine J17 ?_
  refine WL.H3 rfl rfl rfl rfl OO rfl Fb (.none rfl) rfl ?_
  refine J6 ?_
  refine WL.as (L':=En++(.row g14 (AG 0 0 ⟨#[]⟩)::.row g13 a.AH::(Ka++(Eg++(.row g6 (MsL.upd (fOf xs 18) gad gc gs a nad nc ns).AH::.row g5 (AG 0 0 ⟨#[]⟩)::.row g3 (AG 0 0 ⟨#[]⟩)::[.row g2 (MsL.zero 0).AH]))))) rfl ?_
  refine J6 ?_
  refine zV (AA rfl rfl AK (cellAt (v:=.int .i64 (fOf xs 18)) rfl)) rfl ?_
  refine zV ((AZ rfl rfl rfl).f Er) rfl ?_
  refine J14 ?_
  refine eT2 ?_
  rw [if_neg (fun h=>h327 Er)] at e1
  exact Ax
  refine J21 ?_
  refine WL.H3 rfl rfl rfl rfl OO rfl Fb (.none rfl) rfl ?_
  refine J6 ?_
  refine WL.as (L':=En++(.row g14 (AG 0 0 ⟨#[]⟩)::.row g13 a.AH::(Ka++(Eg++(.row g6 (MsL.upd (fOf xs 18) gad gc gs a nad nc ns).AH::.row g5 (AG 0 0 ⟨#[]⟩)::.row g3 (AG 0 0 ⟨#[]⟩)::[.row g2 (MsL.zero 0).AH]))))) rfl ?_
  refine J6 ?_
  refine zV (AA rfl rfl AK (cellAt (v:=.int .i64 (fOf xs 18)) rfl)) rfl ?_
  refine zV ((AZ rfl rfl rfl).f Er) rfl ?_
  refine J14 ?_
  refine eT2 ?_
  rw [if_neg (fun h=>h323 Er)] at e1
  exact Ax
  refine J9 ?_
  refine zV (AA rfl rfl AK (cellAt (v:=.int .i64 (fOf xs 18)) rfl)) rfl ?_
  refine JT (fun h343=>?_) (fun h343=>?_)
  refine J3 ?_
  refine WC.BB mixed<|rF 7 [0,1,4,5,8,9]<|?_
  have hl21:21≤xs.length:=(by rw [hlst,if_neg h42,if_neg h227,if_pos h343] at hle2;omega)
  have b0:=hb 0
  have b1:=hb 1
  refine J1 ?_
  refine pV (AB (lo:=19) rfl rfl rfl Tryz.underlying25 AO rfl Er) rfl ?_
  refine J1 ?_
  refine pV (AB (lo:=20) rfl rfl rfl Tryz.underlying25 AO rfl Er) rfl ?_
  refine J1 ?_
  refine pV ((BW (lo:=21) rfl rfl rfl Tryz.underlying25 AO rfl Er)) rfl ?_
  refine J1 ?_
  refine rA 1 [2,3,6,7,10,11] rfl ?_
  refine qV (AA rfl rfl BH ((fun w hS=>hgc w _ 0 Er hS))) rfl ?_
  refine qV (AQ rfl rfl Tryz.underlying3 Tryz.underlying5 (AF Er Er)) rfl ?_
  refine qV (AA rfl rfl BH ((fun w hS=>hgc w _ 1 Er hS))) rfl ?_
  refine qV (AQ rfl rfl Tryz.underlying3 Tryz.underlying5 (AF Er Er)) rfl ?_
  refine WQ.call _ rfl rfl G7 (.none rfl) rfl rfl (fun w hS=>Calls.still (CD w (fOf ys 0) (fOf ys 1) (some ⟨b,AV o 21 c 1,none⟩) (xs.length-21) (c-21) (fun i=>fOf ys (2+i)) (fun _=>⟨b,AV o 21 c 1,rfl,fun i hi=>by
  have:=((hW.st hS).drop 21).get (i:=i) (x:=fOf ys (2+i)) (by rw [List.getElem?_drop,show 21+i=19+(2+i) by omega];exact hg (2+i) (by omega))
  rwa [Nat.mul_one] at this⟩)) hS) ?_
  rw [show str (fun i=>fOf ys (2+i)) (xs.length-21)=RL ys by unfold RL;rw [hdl,show xs.length-19-2=xs.length-21 by omega]]
  refine J2 ?_
  refine rO 0 [12] ?_
  refine WL.H3 rfl rfl rfl rfl Tn rfl Fb (.none rfl) rfl ?_
  refine WL.as (L':=.row g6 (MsL.AH { MsL.zero (fOf xs 18) with fc:=fOf ys 0,fs:=fOf ys 1,fd:=RL ys })::.row g5 (AG 0 0 ⟨#[]⟩)::.row g3 (AG 0 0 ⟨#[]⟩)::[.row g2 (MsL.zero 0).AH]) rfl ?_
  refine J12 ?_
  refine eT2 ?_
  skip
  exact fun w' h=>by
    unfold Hr
    rw [e00,show FL (fOf xs 18) ys = .inl (MsL.d { MsL.zero (fOf xs 18) with fc:=fOf ys 0,fs:=fOf ys 1,fd:=RL ys }) by unfold FL;rw [if_neg h42,if_neg h227,if_pos h343];rfl]
    exact ⟨{ MsL.zero (fOf xs 18) with fc:=fOf ys 0,fs:=fOf ys 1,fd:=RL ys },[],rfl,rfl,⟨⟨[],Vec.nil 2,fun _ h=>by cases h⟩,(fun _ h=>by cases h),⟨[],Vec.nil 2,fun _ h=>by cases h⟩,⟨[],Vec.nil 2,fun _ h=>by cases h⟩,Ic.zero⟩,h.sub (List.nil_sublist _)⟩
  refine J14 ?_
  refine eT2 ?_
  skip
  exact fun w' h=>by
    unfold Hr
    rw [e00,show FL (fOf xs 18) ys = .inl (MsL.d (MsL.zero (fOf xs 18))) by unfold FL;rw [if_neg h42,if_neg h227,if_neg h343]]
    exact ⟨MsL.zero (fOf xs 18),[],rfl,rfl,GD.zero _,h.sub (List.nil_sublist _)⟩
theorem Aas (w0:World) (b o c:Nat) (xs:List Int) (hW:Win w0 b o c xs) (hn:xs.length≤90000) :
    Calls Tryz.prog 58 #[.slice (some ⟨b,o,none⟩) xs.length c] w0 fun e w'=>Hr w0 w' xs e:=by
  rcases FU xs.length (fOf xs) with ⟨C,S,d,e,hC⟩|⟨e,h1,h2,h3,h4,h5,h6,h7,h8⟩
  · exact XY w0 b o c xs hW hn C S d e hC
  · by_cases hk:CC (fOf xs)=xs.length
    · rw [hk] at e
      exact AaN w0 b o c xs hW hn e h1 ⟨h5,h6⟩ Er
    · exact TZ w0 b o c xs hW hn h1 e hk
end Gq

theorem Yk {d:AtD}{all v:List Int}{s:Int}{x:ByteArray}(h:CL d all v = .inr (s,x)):0≤s∧s≤11:=by
  unfold CL at h
  split at h
  · cases h;decide
  split at h
  · cases h;decide
  split at h
  · cases h;decide
  split at h
  · cases h;decide
  split at h
  · cases h;decide
  split at h
  · cases h;decide
  split at h
  · cases h;decide
  · cases h
theorem TO {d:AtD}{all v:List Int}{s:Int}{x:ByteArray}(h:DY d all v = .inr (s,x)):0≤s∧s≤11:=by
  unfold DY at h
  split at h
  · cases h;decide
  split at h <;> cases h
theorem R3:∀ (n:Nat) (d:AtD) (seen xs:List Int){s:Int}{x:ByteArray},xs.length≤n→ED d seen xs = .inr (s,x)→0≤s∧s≤11
  | _,d,seen,[],s,x,_,h=>by rw [Kg] at h;cases h
  | 0,d,seen,y::xs,s,x,hn,_=>by simp at hn
  | n+1,d,seen,y::xs,s,x,hn,h=>by
    by_cases hc:(y::xs).length<BC (y::xs)∨(y::xs).length<toN (y::xs)∨fOf (y::xs) 1∈seen
    · rw [HU Fe hc] at h;cases h;decide
    · rw [Ij Fe hc] at h
      have hf:=KL (y::xs)
      have ht:=L7 (y::xs)
      cases hs:DP d ((y::xs).take (toN (y::xs))) (((y::xs).take (toN (y::xs))).drop (BC (y::xs))) with
      | inr f =>
        rw [hs] at h
        cases h
        unfold DP at hs
        split at hs
        · exact Yk hs
        · exact TO hs
      | inl d2 =>
        rw [hs] at h
        exact R3 n d2 _ _ Ex h
theorem Qu:∀ (n:Nat) (acc:List (Int×List Int)) (xs:List Int){s:Int},xs.length≤n→Ib acc xs = .inr s→s=0∨s=4
  | _,acc,[],s,_,h=>by rw [Ib] at h;cases h
  | _,acc,[_],s,_,h=>by rw [Ib] at h;cases h;exact .inl rfl
  | 0,acc,y::z::xs,s,hn,_=>by simp at hn
  | n+1,acc,y::z::xs,s,hn,h=>by
    rw [Je] at h
    split at h
    · cases h;exact .inl rfl
    split at h
    · cases h;exact .inr rfl
    split at h
    · cases h;exact .inl rfl
    · rw [List.length_cons,List.length_cons] at hn
      exact Qu n _ _ Ex h
theorem Qk (n:Nat) (f:Nat→Int):(BX n f).2.1≠0→(BX n f).2.1=1∧0≤(BX n f).2.2.1∧(BX n f).2.2.1≤3:=by
  unfold BX
  repeat' split
  all_goals (intro h;dsimp only at h ⊢;first|exact absurd rfl h|exact ⟨rfl,by decide,by decide⟩)
theorem Zs {xs:List Int}{c s:Int}{d:ByteArray}(h:FE xs = .inr (c,s,d)):c≠0∧0≤s∧s≤M4 c:=by
  have m1:M4 1=3:=rfl
  have m2:M4 2=6:=rfl
  have m3:M4 3=11:=rfl
  have m6:M4 6=1:=rfl
  unfold FE at h
  split at h
  · rename_i hne
    have e:(BX xs.length (fOf xs)).2=(c,s,d):=Sum.inr.inj h
    have hs:=Qk _ _ hne
    rw [e] at hs
    obtain ⟨h1,h2,h3⟩:=hs
    have h1':c=1:=h1
    rw [h1',m1]
    exact ⟨by decide,h2,h3⟩
  split at h
  · cases h;exact ⟨by decide,by decide,by rw [m1];decide⟩
  unfold FL at h
  split at h
  · split at h
    · cases h
    · rename_i s' d' ho
      cases h
      unfold DR at ho
      refine ⟨by decide,?_⟩
      rw [m2]
      split at ho
      · cases ho;decide
      split at ho
      · cases ho;decide
      split at ho
      · cases ho;decide
      split at ho
      · cases ho;decide
      split at ho
      · cases ho;decide
      split at ho
      · cases ho
      · rename_i s2 hs2
        cases ho
        rcases Qu _ _ _ (Nat.le_refl _) hs2 with rfl|rfl <;> decide
  split at h
  · split at h
    · cases h
    · rename_i f hu
      cases h
      unfold HM at hu
      split at hu
      · cases hu;exact ⟨by decide,by decide,by rw [m3];decide⟩
      split at hu
      · cases hu;exact ⟨by decide,by decide,by rw [m3];decide⟩
      split at hu
      · cases hu;exact ⟨by decide,by decide,by rw [m3];decide⟩
      split at hu
      · rename_i s2 d2 hd2
        cases hu
        have:=R3 _ _ _ _ (Nat.le_refl _) hd2
        exact ⟨by decide,this.1,by rw [m3];exact this.2⟩
      split at hu
      · cases hu;exact ⟨by decide,by decide,by rw [m3];decide⟩
      split at hu
      · cases hu;exact ⟨by decide,by decide,by rw [m6];decide⟩
      split at hu
      · cases hu;exact ⟨by decide,by decide,by rw [m3];decide⟩
      · cases hu
  split at h <;> cases h

def AtD.m (a:AtD):AtL:=⟨a.has,a.origin,none,0,a.path.map fun p=>⟨p.1,none,0,p.2⟩,a.hop,a.med,a.loc,a.aas,a.aid,none,0,a.comms,none,0,a.others.map fun p=>⟨p.1,none,0,p.2⟩⟩
def MsD.m (d:MsD):MsL:=⟨d.kind,d.asn,d.hold,d.id,none,0,d.CS.map fun p=>⟨p.1,none,0,p.2⟩,none,0,d.gone,d.atr.m,none,0,d.nets,d.fc,d.fs,d.fd⟩

theorem Bys.drop {xs:List Int}(h:Bys xs) (n:Nat):Bys (xs.drop n):=fun x hx=>h x (List.mem_of_mem_drop hx)
theorem Bys.take {xs:List Int}(h:Bys xs) (n:Nat):Bys (xs.take n):=fun x hx=>h x (List.mem_of_mem_take hx)

theorem XP {m:MsL}(h:m.kind=2):G5 m = { (MsL.zero m.kind).d with gone:=m.gone,atr:=m.atr.d,nets:=m.nets }:=by
  unfold G5
  rw [if_neg Er,if_pos h]
section Gq
attribute [local irreducible] WL WC WE WQ WP WH WR WM WRH

def LQ (xs:List Int) (C S:Int) (d:ByteArray) (md:MsD):Prop:=match FE xs with
  | .inr f=>f=(C,S,d)∧md=(MsL.zero 0).d
  | .inl y=>C=0∧S=0∧d=⟨#[]⟩∧md=y
theorem LQ.bad {xs:List Int}{C S:Int}{d:ByteArray}(h:FE xs = .inr (C,S,d)):LQ xs C S d (MsL.zero 0).d:=by unfold LQ;rw [h];exact ⟨rfl,rfl⟩
theorem LQ.ok {xs:List Int}{md:MsD}(h:FE xs = .inl md):LQ xs 0 0 ⟨#[]⟩ md:=by unfold LQ;rw [h];exact ⟨rfl,rfl,rfl,rfl⟩
theorem YZ:FE [] = .inr (1,2,⟨#[]⟩):=rfl
theorem X0 (w0:World) (ad:Option Addr) (c:Nat) :
    Calls Tryz.prog 58 #[.slice ad 0 c] w0 fun e w'=>e = .returned (.tuple #[.agg (MsL.zero 0).AH.toArray, .agg (AG 1 2 ⟨#[]⟩).toArray])∧Frm (fun _=>False) w0 w':=by
  refine enter Tryz.func58 rfl Tryz.ntmps58 rfl (St.start (fun _=>False) w0) ?_
  refine J2 ?_
  refine WL.alloc rfl H7 (.none rfl) rfl rfl ?_
  intro g2 hg2
  refine WL.alloc rfl FI (.none rfl) rfl rfl ?_
  intro g3 hg3
  refine J5 ?_
  refine zk Sy rfl (fun w hS=>by rw [show (Ending.returned (.tuple #[.int .i64 0, .agg (AG 1 2 ⟨#[]⟩).toArray])) = .returned (MC (BX 0 (fun _=>0))) from rfl];exact MM w ad 0 c (fun _=>0) (fun _=>⟨Int.le_refl _,show (0:Int)≤255 by decide⟩) (fun hh=>by omega) Er (Nat.zero_le _)) ?_
  refine J3 ?_
  refine WL.alloc rfl FI (.none rfl) rfl rfl ?_
  intro g5 hg5
  refine J9 ?_
  refine zV ((BY rfl rfl rfl).t (Et)) rfl ?_
  exact Bq
theorem Qd (w0:World) (ad:Option Addr) (c:Nat) (xs:List Int) (hC:AU w0 ad (u8s xs)) (hB:Bys xs) (hle:xs.length≤c) (hn:xs.length≤90000) :
    Calls Tryz.prog 58 #[.slice ad xs.length c] w0 fun e w'=>∃ C S d m K,e = .returned (.tuple #[.agg m.AH.toArray, .agg (AG C S d).toArray])∧GD K m∧St (fun _=>False) w0 w' K∧LQ xs C S d m.d:=by
  by_cases h0:xs.length=0
  · obtain rfl:xs=[]:=List.length_eq_zero_iff.1 h0
    refine (X0 w0 ad c).mono ?_
    rintro e w' ⟨rfl,hF⟩
    exact ⟨1,2,⟨#[]⟩,MsL.zero 0,[],rfl,GD.zero 0,(St.start _ _).ext hF, .bad YZ⟩
  · obtain ⟨b,o,rfl,hr⟩:=hC Fh
    refine (Aas w0 b o c xs ⟨hr,hB,hle⟩ hn).mono fun e w' h=>?_
    unfold Hr at h
    cases hd:FE xs with
    | inr f =>
      obtain ⟨C,S,d⟩:=f
      rw [hd] at h
      exact ⟨C,S,d,MsL.zero 0,[],h.1,GD.zero 0,(St.start _ _).ext h.2, .bad hd⟩
    | inl md =>
      rw [hd] at h
      obtain ⟨m,K,he,em,hM,hS⟩:=h
      exact ⟨0,0,⟨#[]⟩,m,K,he,hM,hS,by rw [em];exact .ok hd⟩
end Gq

theorem View.cells {E:List Ent}{aa:Option Addr}{c:Nat}{ys:List Int}(h:View E aa c ys){w:World}(hw:∀ e∈E,e.holds w):AU w aa (u8s ys):=fun h0=>by
  rw [GO] at h0
  obtain ⟨b,o,rfl⟩:=h.some h0
  exact ⟨b,o,rfl,(h.win hw).at_⟩

theorem Aag {xs:List Int}(h:(BX xs.length (fOf xs)).2.1=0):19≤szL xs:=by
  rcases FU xs.length (fOf xs) with ⟨C,S,d,e,hC⟩|⟨e,_,_,h,_⟩
  · rw [e] at h;exact absurd h hC
  · have:szL xs=(CC (fOf xs)).toNat:=by unfold szL;rw [e]
    omega
theorem Ns:∀ (n:Nat) (acc:List MsD) (xs:List Int),xs.length≤n→BL acc xs=(acc++(BL [] xs).1,(BL [] xs).2)
  | n,acc,xs,hn=>by
    by_cases h1:xs.length<19
    · rw [Gy h1,Gy h1,List.append_nil]
    · by_cases h2:(BX xs.length (fOf xs)).2.1=0
      · by_cases h3:xs.length<szL xs
        · rw [HB h1 h2 h3,HB h1 h2 h3,List.append_nil]
        · cases hd:FE (xs.take (szL xs)) with
          | inr f=>rw [Ii h1 h2 h3 hd,Ii h1 h2 h3 hd,List.append_nil]
          | inl m =>
            have:=Aag h2
            rw [IE h1 h2 h3 hd,IE h1 h2 h3 hd]
            match n with
            | 0=>omega
            | n+1 =>
              rw [Ns n (acc++[m]) _ Ex,Ns n ([]++[m]) _ Ex,List.nil_append,List.append_assoc]
      · rw [Ih h1 rfl h2,Ih h1 rfl h2,List.append_nil]
theorem I2:∀ (n:Nat) (acc:List MsD) (xs:List Int) (ms:List MsD) (f:Option (Int×Int×ByteArray)) (rest:List Int),xs.length≤n→BL acc xs=(ms,f,rest)→ms.length+rest.length≤acc.length+xs.length
  | n,acc,xs,ms,f,rest,hn,h=>by
    by_cases h1:xs.length<19
    · rw [Gy h1] at h;cases h;omega
    · by_cases h2:(BX xs.length (fOf xs)).2.1=0
      · by_cases h3:xs.length<szL xs
        · rw [HB h1 h2 h3] at h;cases h;omega
        · cases hd:FE (xs.take (szL xs)) with
          | inr f=>rw [Ii h1 h2 h3 hd] at h;cases h;show _+0≤_;omega
          | inl m =>
            have hz:=Aag h2
            rw [IE h1 h2 h3 hd] at h
            match n with
            | 0=>omega
            | n+1 =>
              have:=I2 n _ _ _ _ _ Ex h
              rw [List.length_drop,List.length_append,List.length_cons,List.length_nil] at this
              omega
      · rw [Ih h1 rfl h2] at h;cases h;show _+0≤_;omega

structure MsD.Fit (m:MsD):Prop where
  kind:1≤m.kind∧m.kind≤4
  id:U32 m.id
  hold:m.hold=0∨3≤m.hold∧m.hold≤65535
theorem AbB {k:Int}(h:1≤k∧k≤4):((MsL.zero k).d).Fit:=⟨h,NC, .inl rfl⟩
theorem Wo {xs:List Int}{cs:List (Int×List Int)}(hB:Bys xs) (h:DR xs = .inl cs):U32 (idB xs)∧(GH xs=0∨3≤GH xs∧GH xs≤65535):=by
  have a3:=CP hB 3
  have a4:=CP hB 4
  have hid:0≤idB xs∧idB xs≤4294967295:=Wm ((hB.take 9).drop 5)
  have eh:GH xs=fOf xs 3*256+fOf xs 4:=rfl
  unfold DR at h
  split at h
  · cases h
  split at h
  · cases h
  split at h
  · cases h
  · exact ⟨hid,by omega⟩
theorem Sj {xs:List Int}{m:MsD}(hB:Bys xs) (h:FE xs = .inl m):m.Fit:=by
  unfold FE at h
  split at h
  · cases h
  rename_i hz
  split at h
  · cases h
  have hk:1≤fOf xs 18∧fOf xs 18≤4:=by
    rcases FU xs.length (fOf xs) with ⟨C,S,d,e,hC⟩|⟨_,_,_,_,_,h1,h2,_⟩
    · rw [e] at hz;exact absurd hC hz
    · exact ⟨h1,h2⟩
  unfold FL at h
  split at h
  · split at h
    · rename_i ho
      cases h
      have:=Wo (Bys.drop hB 19) ho
      exact ⟨hk,this.1,this.2⟩
    · cases h
  split at h
  · split at h
    · cases h
      exact ⟨hk,NC, .inl rfl⟩
    · cases h
  split at h
  · cases h
    exact ⟨hk,NC, .inl rfl⟩
  · cases h
    exact AbB hk
def VR (f:Int×Int×ByteArray):Prop:=(f.1=1∨f.1=2∨f.1=3∨f.1=6)∧(0≤f.2.1∧f.2.1≤11)∧f.2.2.size≤4075
theorem UC {d:AtD}{all v:List Int}{s:Int}{x:ByteArray}(h:CL d all v = .inr (s,x)):x.size≤all.length:=by
  have e:(strOf all).size=all.length:=Lu _ _
  unfold CL at h
  repeat' split at h
  all_goals first|(cases h;rw [e];exact Nat.le_refl _)|(cases h;exact Nat.zero_le _)|cases h
theorem Tu {d:AtD}{all v:List Int}{s:Int}{x:ByteArray}(h:DY d all v = .inr (s,x)):x.size≤all.length:=by
  have e:(strOf all).size=all.length:=Lu _ _
  unfold DY at h
  repeat' split at h
  all_goals first|(cases h;rw [e];exact Nat.le_refl _)|cases h
theorem QR:∀ (n:Nat) (d:AtD) (seen xs:List Int){s:Int}{x:ByteArray},xs.length≤n→ED d seen xs = .inr (s,x)→x.size≤xs.length
  | _,d,seen,[],s,x,_,h=>by rw [Kg] at h;cases h
  | 0,d,seen,y::xs,s,x,hn,_=>by simp at hn
  | n+1,d,seen,y::xs,s,x,hn,h=>by
    by_cases hc:(y::xs).length<BC (y::xs)∨(y::xs).length<toN (y::xs)∨fOf (y::xs) 1∈seen
    · rw [HU Fe hc] at h;cases h;exact Nat.zero_le _
    · rw [Ij Fe hc] at h
      have hf:=KL (y::xs)
      have ht:=L7 (y::xs)
      cases hs:DP d ((y::xs).take (toN (y::xs))) (((y::xs).take (toN (y::xs))).drop (BC (y::xs))) with
      | inr f =>
        rw [hs] at h
        cases h
        have hl:((y::xs).take (toN (y::xs))).length≤(y::xs).length:=by rw [List.length_take];omega
        unfold DP at hs
        split at hs
        · exact Nat.le_trans (UC hs) hl
        · exact Nat.le_trans (Tu hs) hl
      | inl d2 =>
        rw [hs] at h
        have:=QR n d2 _ _ Ex h
        rw [List.length_drop] at this
        omega
theorem O7 {xs g r:List Int}(hB:Bys xs) (h:FJ xs=some (g,r)):g.length+r.length+2≤xs.length:=by
  have a0:=CP hB 0
  have a1:=CP hB 1
  unfold FJ at h
  split at h
  · cases h
  · cases h
    rw [List.length_take,List.length_drop,List.length_drop]
    omega
theorem Qc {n:Nat}{f:Nat→Int}(hne:(BX n f).2.1≠0):VR (BX n f).2:=by
  have h:=Qk n f hne
  refine ⟨.inl h.1,⟨h.2.1,by omega⟩,?_⟩
  have hd:(BX n f).2.2.2.size≤2:=by
    unfold BX
    repeat' split
    all_goals first|exact Nat.zero_le _|(show ByteArray.size (str _ _)≤2;rw [Lu];omega)
  omega
theorem Aa9 {xs:List Int}{f:Int×Int×ByteArray}(hB:Bys xs) (hn:xs.length≤4096) (h:FE xs = .inr f):VR f:=by
  have h2s:(str (fun i=>fOf xs (16+i)) 2).size=2:=Lu _ _
  obtain ⟨c,s,d⟩:=f
  have hsub:=Zs h
  have m1:M4 1=3:=rfl
  have m2:M4 2=6:=rfl
  have m3:M4 3=11:=rfl
  have m6:M4 6=1:=rfl
  have key:(c=1∨c=2∨c=3∨c=6)∧d.size≤4075:=by
    unfold FE at h
    split at h
    · rename_i hne
      have e:(BX xs.length (fOf xs)).2=(c,s,d):=Sum.inr.inj h
      have hs:=Qc hne
      rw [e] at hs
      exact ⟨hs.1,hs.2.2⟩
    split at h
    · cases h;exact ⟨.inl rfl,by rw [h2s];decide⟩
    unfold FL at h
    split at h
    · split at h
      · cases h
      · rename_i s' d' ho
        cases h
        refine ⟨.inr (.inl rfl),?_⟩
        unfold DR at ho
        repeat' split at ho
        all_goals first|(cases ho;exact (by decide:(4:Nat)≤4075) |> fun _=>(by first|exact Nat.zero_le _|decide))|cases ho
    split at h
    · split at h
      · cases h
      · rename_i f hu
        cases h
        unfold HM at hu
        split at hu
        · cases hu;exact ⟨.inr (.inr (.inl rfl)),Nat.zero_le _⟩
        rename_i g r hc1
        have l1:=O7 (Bys.drop hB 19) hc1
        have hBr:Bys r:=by
          unfold FJ at hc1
          split at hc1
          · cases hc1
          · cases hc1;exact (hB.drop 19).drop _
        split at hu
        · cases hu;exact ⟨.inr (.inr (.inl rfl)),Nat.zero_le _⟩
        rename_i sx nx hc2
        have l2:=O7 hBr hc2
        rw [List.length_drop] at l1
        split at hu
        · cases hu;exact ⟨.inr (.inr (.inl rfl)),Nat.zero_le _⟩
        split at hu
        · rename_i s2 d2 hd2
          cases hu
          have:=QR _ _ _ _ (Nat.le_refl _) hd2
          exact ⟨.inr (.inr (.inl rfl)),by omega⟩
        split at hu
        · cases hu;exact ⟨.inr (.inr (.inl rfl)),Nat.zero_le _⟩
        split at hu
        · cases hu;exact ⟨.inr (.inr (.inr rfl)),Nat.zero_le _⟩
        split at hu
        · cases hu
          exact ⟨.inr (.inr (.inl rfl)),by unfold oneS;rw [Lu];decide⟩
        · cases hu
    split at h <;> cases h
  refine ⟨key.1,⟨hsub.2.1,?_⟩,key.2⟩
  rcases key.1 with e|e|e|e
  all_goals (have h3:=hsub.2.2;rw [e] at h3;show s≤11;omega)
theorem IT:∀ (n:Nat) (acc:List MsD) (xs:List Int),xs.length≤n→Bys xs→(∀ m∈acc,m.Fit)→(∀ m∈(BL acc xs).1,m.Fit)∧(∀ f,(BL acc xs).2.1=some f→VR f)∧Bys (BL acc xs).2.2:=by
  intro n
  induction n with
  | zero =>
    intro acc xs h hB ha
    rw [Gy Er]
    exact ⟨ha,fun f e=>F4,hB⟩
  | succ n ih =>
    intro acc xs h hB ha
    by_cases h19:xs.length<19
    · rw [Gy h19]
      exact ⟨ha,fun f e=>F4,hB⟩
    by_cases hz:(BX xs.length (fOf xs)).2.1=0
    · by_cases hw:xs.length<szL xs
      · rw [HB h19 hz hw]
        exact ⟨ha,fun f e=>F4,hB⟩
      · have hs:szL xs≤4096∧0<szL xs:=by
          rcases FU xs.length (fOf xs) with ⟨C,S,d,e,hC⟩|⟨e,_,_,h1,h2,_⟩
          · rw [e] at hz;exact absurd hz hC
          · unfold szL;rw [e];dsimp only;omega
        have hB1:Bys (xs.take (szL xs)):=Bys.take hB _
        cases hd:FE (xs.take (szL xs)) with
        | inr f =>
          rw [Ii h19 hz hw hd]
          exact ⟨ha,fun g e=>(by cases e;exact Aa9 hB1 (by rw [List.length_take];omega) hd),Bys.nil⟩
        | inl m =>
          rw [IE h19 hz hw hd]
          refine ih _ _ Ex (Bys.drop hB _) fun x hx=>?_
          rcases List.mem_append.1 hx with hx|hx
          · exact ha x hx
          · obtain rfl:=List.mem_singleton.1 hx
            exact Sj hB1 hd
    · rw [Ih h19 rfl hz]
      refine ⟨ha,fun f e=>?_,Bys.nil⟩
      cases e
      exact Qc hz
end Go.Proofs.YtcmpamnhegndnaaGreatDoor
