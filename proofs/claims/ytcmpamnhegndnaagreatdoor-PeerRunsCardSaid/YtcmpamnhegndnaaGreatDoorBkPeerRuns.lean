/- Texts joined: engine, contracts and laws, in the order in which they build. -/
import Derived.Test.YtcmpamnhegndnaaGreatDoorBjPeerRuns
namespace Go.Proofs.YtcmpamnhegndnaaGreatDoor
open Go.RowKit
section Gq
attribute [local irreducible] WL WC WE WQ WP WH WR WM WRH

instance {d:Ck}{gC:Nat}{now:Int}{R:List Ent}{g:Nat}{cs:List Value}[h:At R g cs]:At (d.L gC now R) g cs:=⟨List.mem_append_right _ (List.mem_append_right _ (List.mem_cons_of_mem _ (List.mem_cons_of_mem _ h.mem)))⟩
def Se.DZ (s:Se) (n:Nat) (h i:Int):Se:=s.set n { s.c n with st:=4,hold:=min s.hold h,id:=i }
def Se.BE (s:Se) (n:Nat) (h i:Int):Se:=if min s.hold h=0 then { s.DZ n h i with D:=(s.D.set (1+n) (-1)).set (3+n) (-1) } else ((s.DZ n h i).alive n).kept n
theorem Ll (w:World):(MsL.zero 4).At w:=M7 w 0 0 0 |> fun h=>⟨h.CS,h.vals,h.gone,h.nets,h.at_⟩
def BQ (s:Se) (n:Nat) (a h i:Int):Se×List EfD :=
  if a≠s.their then (s.gone n,DW s n 2 2 ⟨#[]⟩)
  else if i=s.id then (s.gone n,DW s n 2 3 ⟨#[]⟩)
  else if (s.c (1-n)).st=5 then (s.gone n,DW s n 6 7 ⟨#[]⟩)
  else if (s.c (1-n)).st=4 then
    if (if s.id<i then 1 else 0)≠(n:Int) then (s.gone n,DW s n 6 7 ⟨#[]⟩)
    else ((s.gone (1-n)).BE n h i,DW s (1-n) 6 7 ⟨#[]⟩++FN n (MsL.zero 4))
  else (s.BE n h i,FN n (MsL.zero 4))
set_option maxHeartbeats 2000000 in
theorem Adk (w0 w:World) (g:Nat) (p:PeL) (s:Se) (E0 E1 L:List Ent) (d:Ck) (hA:BO g p s E0 E1 d) (hG:GF w0) (hS0:St (fun _=>False) w0 w (.row g p.cells::(E0++(E1++d.L p.gC s.now L)))) (m:MsL) (hI:U32 m.id) (hmh:0≤m.hold) :
    Calls Tryz.prog 88 #[.pointer (some ⟨g,0,none⟩), .int .i64 0, .agg m.cells.toArray] w fun e w'=>G2 w0 w' g (BQ s 0 m.asn m.hold m.id).2 (BQ s 0 m.asn m.hold m.id).1 L e:=by
  have het:p.their=s.their:=(congrArg Se.their hA.eq :)
  have hei:p.id=s.id:=(congrArg Se.id hA.eq :)
  have hc:p.c1.m=s.c1:=(congrArg Se.c1 hA.eq :)
  have hst:p.c1.st=(s.c 1).st:=(congrArg CnM.st hc :)
  refine enter Tryz.func88 rfl Tryz.ntmps88 rfl hS0 ?_
  refine J2 ?_
  refine WL.box rfl rfl rfl (.none rfl) rfl rfl ?_
  intro g5 hg5
  refine WL.to (L':=.row g p.cells::(E0++(E1++d.L p.gC s.now (.row g5 m.cells::L)))) (fun w hS=>hS.AX ) ?_
  refine J6 ?_
  refine zV (EM rfl rfl rfl (show _=(1:Int) from AF Et Et)) rfl ?_
  refine J6 ?_
  refine cQ mixed ?_
  refine J7 ?_
  refine JT (fun h21=>?_) (fun h21=>?_)
  refine J8 ?_
  refine zK H8 rfl ?_
  intro w1 hS
  refine (Ht w0 w1 g p s E0 E1 (.row g5 m.cells::L) d hA hG hS 2 2 ⟨by decide,by decide⟩ ⟨by decide,by decide⟩).mono ?_
  rintro e w' ⟨ad2,c2,gs,EG,KG,p2,E02,E12,d2,rfl,hV2,heg,hA2,hS'⟩
  refine ⟨_,_,rfl,hS',?_⟩
  refine J6 ?_
  refine eT1 ?_
  have e0:BQ s 0 m.asn m.hold m.id=(s.gone 0,DW s 0 2 2 ⟨#[]⟩):=(by unfold BQ;rw [if_pos (by rw [← het];exact h21)])
  exact Al
  ·
   refine J5 ?_
   refine cQ mixed ?_
   refine J7 ?_
   refine JT (fun h33=>?_) (fun h33=>?_)
   refine J8 ?_
   refine zK H8 rfl ?_
   intro w1 hS
   refine (Ht w0 w1 g p s E0 E1 (.row g5 m.cells::L) d hA hG hS 2 3 ⟨by decide,by decide⟩ ⟨by decide,by decide⟩).mono ?_
   rintro e w' ⟨ad2,c2,gs,EG,KG,p2,E02,E12,d2,rfl,hV2,heg,hA2,hS'⟩
   refine ⟨_,_,rfl,hS',?_⟩
   refine J6 ?_
   refine eT1 ?_
   have e0:BQ s 0 m.asn m.hold m.id=(s.gone 0,DW s 0 2 3 ⟨#[]⟩):=(by unfold BQ;rw [if_neg (by rw [← het];exact h21),if_pos (by rw [← hei];exact h33)])
   exact Al
   ·
    refine J10 ?_
    refine zV (AT (lo:=1) rfl rfl rfl Tryz.underlying104 DD Er Er) rfl ?_
    refine J1 ?_
    refine zV (AA rfl rfl AK (cellAt (v:=.int .i64 p.c1.st) rfl)) rfl ?_
    refine JT (fun h45=>?_) (fun h45=>?_)
    refine J8 ?_
    refine zK H8 rfl ?_
    intro w1 hS
    refine (Ht w0 w1 g p s E0 E1 (.row g5 m.cells::L) d hA hG hS 6 7 ⟨by decide,by decide⟩ ⟨by decide,by decide⟩).mono ?_
    rintro e w' ⟨ad2,c2,gs,EG,KG,p2,E02,E12,d2,rfl,hV2,heg,hA2,hS'⟩
    refine ⟨_,_,rfl,hS',?_⟩
    refine J6 ?_
    refine eT1 ?_
    have e0:BQ s 0 m.asn m.hold m.id=(s.gone 0,DW s 0 6 7 ⟨#[]⟩):=(by unfold BQ;rw [if_neg (by rw [← het];exact h21),if_neg (by rw [← hei];exact h33),if_pos (hst.symm.trans h45)])
    exact Al
    ·
     refine J12 ?_
     refine WC.cut (fun y:PS×Se=>[(8, .slice y.1.ad y.1.fs.length y.1.c),(5, .pointer (some ⟨g5,0,none⟩)),(1, .int .i64 0),(0, .pointer (some ⟨g,0,none⟩))]) (fun y=>y.1.L g s.now (.row g5 m.cells::L)) (fun y=>BO g y.1.p y.2 y.1.E0 y.1.E1 y.1.d∧y.2.now=s.now∧K9 y.1.ad y.1.c y.1.fs y.1.E y.1.K∧y.1.fs.length≤3∧BQ s 0 m.asn m.hold m.id=(y.2.BE 0 m.hold m.id,y.1.fs.map EfL.d++FN 0 (MsL.zero 4))) ?_ ?_
     refine J6 ?_
     refine zV (AT (lo:=1) rfl rfl rfl Tryz.underlying104 DD Er Er) rfl ?_
     refine J1 ?_
     refine zV (AA rfl rfl AK (cellAt (v:=.int .i64 p.c1.st) rfl)) rfl ?_
     refine JT (fun h56=>?_) (fun h56=>?_)
     refine J10 ?_
     refine cQ mixed ?_
     refine J7 ?_
     refine JT (fun h64=>?_) (fun h64=>?_)
     refine J12 ?_
     refine JT (fun h67=>?_) (fun h67=>?_)
     exact Dr
     refine J8 ?_
     refine zK H8 rfl ?_
     intro w1 hS
     refine (Hq w0 w1 g p s E0 E1 (.row g5 m.cells::L) d hA hG hS 6 7 ⟨by decide,by decide⟩ ⟨by decide,by decide⟩).mono ?_
     rintro e w' ⟨ad3,c3,gs,EG,KG,p3,E03,E13,d3,rfl,hV3,heg,hA3,hS'⟩
     refine ⟨_,_,rfl,hS',?_⟩
     refine J2 ?_
     have e0:BQ s 0 m.asn m.hold m.id=((s.gone 1).BE 0 m.hold m.id,DW s 1 6 7 ⟨#[]⟩++FN 0 (MsL.zero 4)):=Fa
     have hgl:=BS heg
     have hgb:=DT s 1 6 7 ⟨#[]⟩
     refine WE.mid (⟨p3,E03,E13,d3,ad3,c3,gs,EG,KG⟩,s.gone 1) ⟨hA3,BP _ _,hV3,by dsimp only;omega,by dsimp only;rw [e0,heg]⟩ Km ?_
     unfold PS.L;dsimp only;rw [BP];exact .refl _
     refine J10 ?_
     refine JT (fun h67=>?_) (fun h67=>?_)
     exact Dr
     refine J8 ?_
     refine zK H8 rfl ?_
     intro w1 hS
     refine (Hq w0 w1 g p s E0 E1 (.row g5 m.cells::L) d hA hG hS 6 7 ⟨by decide,by decide⟩ ⟨by decide,by decide⟩).mono ?_
     rintro e w' ⟨ad3,c3,gs,EG,KG,p3,E03,E13,d3,rfl,hV3,heg,hA3,hS'⟩
     refine ⟨_,_,rfl,hS',?_⟩
     refine J2 ?_
     have e0:BQ s 0 m.asn m.hold m.id=((s.gone 1).BE 0 m.hold m.id,DW s 1 6 7 ⟨#[]⟩++FN 0 (MsL.zero 4)):=Fa
     have hgl:=BS heg
     have hgb:=DT s 1 6 7 ⟨#[]⟩
     refine WE.mid (⟨p3,E03,E13,d3,ad3,c3,gs,EG,KG⟩,s.gone 1) ⟨hA3,BP _ _,hV3,by dsimp only;omega,by dsimp only;rw [e0,heg]⟩ Km ?_
     unfold PS.L;dsimp only;rw [BP];exact .refl _
     refine J4 ?_
     have e0:BQ s 0 m.asn m.hold m.id=(s.BE 0 m.hold m.id,[]++FN 0 (MsL.zero 4)):=(by unfold BQ;rw [if_neg (by rw [← het];exact h21),if_neg (by rw [← hei];exact h33),if_neg (fun hh=>h45 (hst.trans hh)),if_neg (fun hh=>h56 (hst.trans hh))];rfl)
     exact Cz
     ·
      rintro ⟨⟨p4,E04,E14,d4,ad4,c4,fs,EF,KF⟩,t⟩ ⟨hA4,hnt,hV4,hfl,e0⟩
      dsimp only at hA4 hnt hV4 hfl e0
      unfold PS.L
      dsimp only
      have hth:p4.hold=t.hold:=(congrArg Se.hold hA4.eq :)
      have hhb:=hA4.ok.2.1
      have hD5:=hA4.ok.2.2.2.2.1
      refine J6 ?_
      refine zV (AT (lo:=0) rfl rfl rfl Tryz.underlying104 DD Er Er) rfl ?_
      refine J9 ?_
      refine WL.as (L':=EF++(KF++(.row g ({ p4 with c0:={ p4.c0 with st:=4 } }:PeL).cells::(E04++(E14++d4.L p4.gC s.now (.row g5 m.cells::L)))))) rfl ?_
      refine J10 ?_
      refine WL.as (L':=EF++(KF++(.row g ({ p4 with c0:={ p4.c0 with st:=4,id:=m.id } }:PeL).cells::(E04++(E14++d4.L p4.gC s.now (.row g5 m.cells::L)))))) rfl ?_
      refine J3 ?_
      refine WC.BB mixed<|rF 6 [0,1,2,3,4,6]<|?_
      refine J7 ?_
      refine rA 1 [5,7,8,9,10] rfl ?_
      refine J2 ?_
      refine qV (Le rfl rfl rfl) rfl ?_
      refine J3 ?_
      refine rO 0 [11] ?_
      refine J1 ?_
      refine WL.as (L':=EF++(KF++(.row g ({ p4 with c0:={ p4.c0 with st:=4,hold:=min p4.hold m.hold,id:=m.id } }:PeL).cells::(E04++(E14++d4.L p4.gC s.now (.row g5 m.cells::L)))))) rfl ?_
      have hA5:BO g ({ p4 with c0:={ p4.c0 with st:=4,hold:=min p4.hold m.hold,id:=m.id } }:PeL) (t.DZ 0 m.hold m.id) E04 E14 d4:=(by
        refine ⟨?_,hA4.ok,?_,?_,hA4.v0,hA4.v1,hA4.b0,hA4.b1,hA4.bag⟩
        · exact (congrArg (fun z:Se=>z.DZ 0 m.hold m.id) hA4.eq :)
        all_goals first|exact hA4.ok0|exact hA4.ok1|exact ⟨.inr ⟨show (3:Int)≤4 by decide,show (4:Int)≤5 by decide⟩,hA4.ok0.2.1,hA4.ok0.2.2.1,Fv,hI⟩|exact ⟨.inr ⟨show (3:Int)≤4 by decide,show (4:Int)≤5 by decide⟩,hA4.ok1.2.1,hA4.ok1.2.2.1,Fv,hI⟩)
      refine J8 ?_
      refine zK N9 rfl ?_
      intro w1 hS
      refine (Lb w1 0 (MsL.zero 4) (Ll _) (HQ ⟨by decide,by decide⟩) (hG.FA (fun h=>h) hS) (Nat.zero_le _) (Nat.zero_le _)).mono ?_
      rintro e w' ⟨ad6,c6,ks,EJ,KJ,rfl,hV6,hek,hS'⟩
      have hkl:=BS hek
      have hkb:=GA 0 (MsL.zero 4)
      refine ⟨_,EF++(EJ++(KJ++(KF++(.row g ({ p4 with c0:={ p4.c0 with st:=4,hold:=min p4.hold m.hold,id:=m.id } }:PeL).cells::(E04++(E14++d4.L p4.gC s.now (.row g5 m.cells::L))))))),rfl,(hS.join hS').AX ,?_⟩
      refine WL.AN rfl rfl rfl Tryz.underlying46 Tryz.underlying46 DI HP BT rfl rfl hV4.1 (new:=Hu ks) (hV6.1.src (fun e he=>List.mem_append_right _ (List.mem_append_left _ he)) |> fun f h=>(f Fg).elim fun b1 h1=>h1.elim fun o1 h2=>⟨b1,o1,h2.1,fun w hS=>h2.2 _ _ w hS⟩) (DQ ks) (EH ks) Er (.none rfl) rfl rfl ?_
      intro ad102 c102 E102 hV102 hr102
      rw [DF] at hV102
      rw [show fs.length+ks.length=(fs++ks).length by rw [List.length_append]] at hV102 ⊢
      refine J10 ?_
      refine JT (fun h107=>?_) (fun h107=>?_)
      refine J10 ?_
      refine zV (AS rfl rfl rfl (show _=(1:Int) from AF Et Et)) rfl ?_
      refine zK KV rfl ?_
      intro w1 hS
      refine (IG (gC:=p4.gC) (now:=s.now) (R:=E102++(EJ++(KJ++(KF++(.row g ({ p4 with c0:={ p4.c0 with st:=4,hold:=min p4.hold m.hold,id:=m.id } }:PeL).cells::(E04++(E14++(.row g5 m.cells::L)))))))) (hS.AX ) hA4.bag 1 Er).mono ?_
      rintro e w' ⟨b5,d5,rfl,hb5,hS'⟩
      refine ⟨_,d5.L p4.gC s.now (E102++(EJ++(KJ++(KF++(.row g ({ p4 with c0:={ p4.c0 with st:=4,hold:=min p4.hold m.hold,id:=m.id } }:PeL).cells::(E04++(E14++(.row g5 m.cells::L)))))))),rfl,hS',?_⟩
      refine J9 ?_
      refine zV (AS rfl rfl rfl (show _=(3:Int) from AF Et Et)) rfl ?_
      refine zK KV rfl ?_
      intro w1 hS
      refine (IG (gC:=p4.gC) (now:=s.now) (R:=E102++(EJ++(KJ++(KF++(.row g ({ p4 with c0:={ p4.c0 with st:=4,hold:=min p4.hold m.hold,id:=m.id } }:PeL).cells::(E04++(E14++(.row g5 m.cells::L)))))))) hS hb5 3 Fj).mono ?_
      rintro e w' ⟨b6,d6,rfl,hb6,hS'⟩
      refine ⟨_,d6.L p4.gC s.now (E102++(EJ++(KJ++(KF++(.row g ({ p4 with c0:={ p4.c0 with st:=4,hold:=min p4.hold m.hold,id:=m.id } }:PeL).cells::(E04++(E14++(.row g5 m.cells::L)))))))),rfl,hS',?_⟩
      refine J10 ?_
      refine eT1 ?_
      have e1:t.BE 0 m.hold m.id = { t.DZ 0 m.hold m.id with D:=(t.D.set 1 (-1)).set 3 (-1) }:=if_pos Gj
      rw [e0,e1]
      refine fun w' h=>⟨ad102,c102,fs++ks,E102,KJ++KF,({ p4 with c0:={ p4.c0 with st:=4,hold:=min p4.hold m.hold,id:=m.id } }:PeL),E04,E14,d6,rfl,⟨hV102,fun e he=>?_⟩,by rw [List.map_append,hek],⟨?_,⟨hA5.ok.1,hA5.ok.2.1,hA5.ok.2.2.1,hA5.ok.2.2.2.1,?_,fun y hy=>?_,hA5.ok.2.2.2.2.2.2⟩,hA5.ok0,hA5.ok1,hA5.v0,hA5.v1,hA5.b0,hA5.b1,hb6⟩,?_⟩
      · rcases List.mem_append.1 he with he|he
        · exact (hV4.2 e he).mono fun x hx=>List.mem_append_right _ hx
        · exact (hV6.2 e he).mono fun x hx=>List.mem_append_left _ hx
      · exact (congrArg (fun z:Se=>{ z with D:=(t.D.set 1 (-1)).set 3 (-1) }) hA5.eq :)
      · exact ((List.length_set ..).trans (List.length_set ..)).trans hD5
      · rcases List.mem_or_eq_of_mem_set hy with hy|hy
        · rcases List.mem_or_eq_of_mem_set hy with hy|hy
          · exact hA5.ok.2.2.2.2.2.1 y hy
          · exact .inl hy
        · exact .inl hy
      · have en:(t.DZ 0 m.hold m.id).now=s.now:=(FW _ _ _).trans hnt
        show St _ _ _ (_++(_++(_::(_++(_++d6.L p4.gC (t.DZ 0 m.hold m.id).now L)))))
        rw [en]
        exact C8
      refine J9 ?_
      refine zK Od rfl ?_
      intro w1 hS
      refine (Nb w0 w1 g ({ p4 with c0:={ p4.c0 with st:=4,hold:=min p4.hold m.hold,id:=m.id } }:PeL) (t.DZ 0 m.hold m.id) E04 E14 (E102++(EJ++(KJ++(KF++(.row g5 m.cells::L))))) d4 hA5 (by rw [show (t.DZ 0 m.hold m.id).now=s.now from (FW _ _ _).trans hnt];exact hS.AX )).mono ?_
      rintro e w' ⟨d5,rfl,hA6,hS'⟩
      refine ⟨_,_,rfl,hS',?_⟩
      refine J6 ?_
      refine zK Sp rfl ?_
      intro w1 hS
      refine (Q4 w0 w1 g ({ p4 with c0:={ p4.c0 with st:=4,hold:=min p4.hold m.hold,id:=m.id } }:PeL) ((t.DZ 0 m.hold m.id).alive 0) E04 E14 (E102++(EJ++(KJ++(KF++(.row g5 m.cells::L))))) d5 hA6 (by rw [Gw];exact hS)).mono ?_
      rintro e w' ⟨d6,rfl,hA7,hS'⟩
      refine ⟨_,_,rfl,hS',?_⟩
      refine J9 ?_
      refine eT1 ?_
      have e1:t.BE 0 m.hold m.id=((t.DZ 0 m.hold m.id).alive 0).kept 0:=if_neg Gj
      rw [e0,e1]
      refine fun w' h=>⟨ad102,c102,fs++ks,E102,KJ++KF,({ p4 with c0:={ p4.c0 with st:=4,hold:=min p4.hold m.hold,id:=m.id } }:PeL),E04,E14,d6,rfl,⟨hV102,fun e he=>?_⟩,by rw [List.map_append,hek],hA7,?_⟩
      · rcases List.mem_append.1 he with he|he
        · exact (hV4.2 e he).mono fun x hx=>List.mem_append_right _ hx
        · exact (hV6.2 e he).mono fun x hx=>List.mem_append_left _ hx
      · rw [Jf]
        exact C8
set_option maxHeartbeats 2000000 in
theorem AbO (w0 w:World) (g:Nat) (p:PeL) (s:Se) (E0 E1 L:List Ent) (d:Ck) (hA:BO g p s E0 E1 d) (hG:GF w0) (hS0:St (fun _=>False) w0 w (.row g p.cells::(E0++(E1++d.L p.gC s.now L)))) (m:MsL) (hI:U32 m.id) (hmh:0≤m.hold) :
    Calls Tryz.prog 88 #[.pointer (some ⟨g,0,none⟩), .int .i64 1, .agg m.cells.toArray] w fun e w'=>G2 w0 w' g (BQ s 1 m.asn m.hold m.id).2 (BQ s 1 m.asn m.hold m.id).1 L e:=by
  have het:p.their=s.their:=(congrArg Se.their hA.eq :)
  have hei:p.id=s.id:=(congrArg Se.id hA.eq :)
  have hc:p.c0.m=s.c0:=(congrArg Se.c0 hA.eq :)
  have hst:p.c0.st=(s.c 0).st:=(congrArg CnM.st hc :)
  refine enter Tryz.func88 rfl Tryz.ntmps88 rfl hS0 ?_
  refine J2 ?_
  refine WL.box rfl rfl rfl (.none rfl) rfl rfl ?_
  intro g5 hg5
  refine WL.to (L':=.row g p.cells::(E0++(E1++d.L p.gC s.now (.row g5 m.cells::L)))) (fun w hS=>hS.AX ) ?_
  refine J6 ?_
  refine zV (EM rfl rfl rfl (show _=(0:Int) from AF Et Et)) rfl ?_
  refine J6 ?_
  refine cQ mixed ?_
  refine J7 ?_
  refine JT (fun h21=>?_) (fun h21=>?_)
  refine J8 ?_
  refine zK H8 rfl ?_
  intro w1 hS
  refine (Hq w0 w1 g p s E0 E1 (.row g5 m.cells::L) d hA hG hS 2 2 ⟨by decide,by decide⟩ ⟨by decide,by decide⟩).mono ?_
  rintro e w' ⟨ad2,c2,gs,EG,KG,p2,E02,E12,d2,rfl,hV2,heg,hA2,hS'⟩
  refine ⟨_,_,rfl,hS',?_⟩
  refine J6 ?_
  refine eT1 ?_
  have e0:BQ s 1 m.asn m.hold m.id=(s.gone 1,DW s 1 2 2 ⟨#[]⟩):=(by unfold BQ;rw [if_pos (by rw [← het];exact h21)])
  exact Al
  ·
   refine J5 ?_
   refine cQ mixed ?_
   refine J7 ?_
   refine JT (fun h33=>?_) (fun h33=>?_)
   refine J8 ?_
   refine zK H8 rfl ?_
   intro w1 hS
   refine (Hq w0 w1 g p s E0 E1 (.row g5 m.cells::L) d hA hG hS 2 3 ⟨by decide,by decide⟩ ⟨by decide,by decide⟩).mono ?_
   rintro e w' ⟨ad2,c2,gs,EG,KG,p2,E02,E12,d2,rfl,hV2,heg,hA2,hS'⟩
   refine ⟨_,_,rfl,hS',?_⟩
   refine J6 ?_
   refine eT1 ?_
   have e0:BQ s 1 m.asn m.hold m.id=(s.gone 1,DW s 1 2 3 ⟨#[]⟩):=(by unfold BQ;rw [if_neg (by rw [← het];exact h21),if_pos (by rw [← hei];exact h33)])
   exact Al
   ·
    refine J10 ?_
    refine zV (AT (lo:=0) rfl rfl rfl Tryz.underlying104 DD Er Er) rfl ?_
    refine J1 ?_
    refine zV (AA rfl rfl AK (cellAt (v:=.int .i64 p.c0.st) rfl)) rfl ?_
    refine JT (fun h45=>?_) (fun h45=>?_)
    refine J8 ?_
    refine zK H8 rfl ?_
    intro w1 hS
    refine (Hq w0 w1 g p s E0 E1 (.row g5 m.cells::L) d hA hG hS 6 7 ⟨by decide,by decide⟩ ⟨by decide,by decide⟩).mono ?_
    rintro e w' ⟨ad2,c2,gs,EG,KG,p2,E02,E12,d2,rfl,hV2,heg,hA2,hS'⟩
    refine ⟨_,_,rfl,hS',?_⟩
    refine J6 ?_
    refine eT1 ?_
    have e0:BQ s 1 m.asn m.hold m.id=(s.gone 1,DW s 1 6 7 ⟨#[]⟩):=(by unfold BQ;rw [if_neg (by rw [← het];exact h21),if_neg (by rw [← hei];exact h33),if_pos (hst.symm.trans h45)])
    exact Al
    ·
     refine J12 ?_
     refine WC.cut (fun y:PS×Se=>[(8, .slice y.1.ad y.1.fs.length y.1.c),(5, .pointer (some ⟨g5,0,none⟩)),(1, .int .i64 1),(0, .pointer (some ⟨g,0,none⟩))]) (fun y=>y.1.L g s.now (.row g5 m.cells::L)) (fun y=>BO g y.1.p y.2 y.1.E0 y.1.E1 y.1.d∧y.2.now=s.now∧K9 y.1.ad y.1.c y.1.fs y.1.E y.1.K∧y.1.fs.length≤3∧BQ s 1 m.asn m.hold m.id=(y.2.BE 1 m.hold m.id,y.1.fs.map EfL.d++FN 1 (MsL.zero 4))) ?_ ?_
     refine J6 ?_
     refine zV (AT (lo:=0) rfl rfl rfl Tryz.underlying104 DD Er Er) rfl ?_
     refine J1 ?_
     refine zV (AA rfl rfl AK (cellAt (v:=.int .i64 p.c0.st) rfl)) rfl ?_
     refine JT (fun h56=>?_) (fun h56=>?_)
     refine J10 ?_
     refine cQ mixed ?_
     refine J7 ?_
     refine JT (fun h64=>?_) (fun h64=>?_)
     refine J12 ?_
     refine JT (fun h67=>?_) (fun h67=>?_)
     exact Dq
     refine J8 ?_
     refine zK H8 rfl ?_
     intro w1 hS
     refine (Ht w0 w1 g p s E0 E1 (.row g5 m.cells::L) d hA hG hS 6 7 ⟨by decide,by decide⟩ ⟨by decide,by decide⟩).mono ?_
     rintro e w' ⟨ad3,c3,gs,EG,KG,p3,E03,E13,d3,rfl,hV3,heg,hA3,hS'⟩
     refine ⟨_,_,rfl,hS',?_⟩
     refine J2 ?_
     have e0:BQ s 1 m.asn m.hold m.id=((s.gone 0).BE 1 m.hold m.id,DW s 0 6 7 ⟨#[]⟩++FN 1 (MsL.zero 4)):=Fa
     have hgl:=BS heg
     have hgb:=DT s 0 6 7 ⟨#[]⟩
     refine WE.mid (⟨p3,E03,E13,d3,ad3,c3,gs,EG,KG⟩,s.gone 0) ⟨hA3,BP _ _,hV3,by dsimp only;omega,by dsimp only;rw [e0,heg]⟩ Km ?_
     unfold PS.L;dsimp only;rw [BP];exact .refl _
     refine J10 ?_
     refine JT (fun h67=>?_) (fun h67=>?_)
     exact Dq
     refine J8 ?_
     refine zK H8 rfl ?_
     intro w1 hS
     refine (Ht w0 w1 g p s E0 E1 (.row g5 m.cells::L) d hA hG hS 6 7 ⟨by decide,by decide⟩ ⟨by decide,by decide⟩).mono ?_
     rintro e w' ⟨ad3,c3,gs,EG,KG,p3,E03,E13,d3,rfl,hV3,heg,hA3,hS'⟩
     refine ⟨_,_,rfl,hS',?_⟩
     refine J2 ?_
     have e0:BQ s 1 m.asn m.hold m.id=((s.gone 0).BE 1 m.hold m.id,DW s 0 6 7 ⟨#[]⟩++FN 1 (MsL.zero 4)):=Fa
     have hgl:=BS heg
     have hgb:=DT s 0 6 7 ⟨#[]⟩
     refine WE.mid (⟨p3,E03,E13,d3,ad3,c3,gs,EG,KG⟩,s.gone 0) ⟨hA3,BP _ _,hV3,by dsimp only;omega,by dsimp only;rw [e0,heg]⟩ Km ?_
     unfold PS.L;dsimp only;rw [BP];exact .refl _
     refine J4 ?_
     have e0:BQ s 1 m.asn m.hold m.id=(s.BE 1 m.hold m.id,[]++FN 1 (MsL.zero 4)):=(by unfold BQ;rw [if_neg (by rw [← het];exact h21),if_neg (by rw [← hei];exact h33),if_neg (fun hh=>h45 (hst.trans hh)),if_neg (fun hh=>h56 (hst.trans hh))];rfl)
     exact Cz
     ·
      rintro ⟨⟨p4,E04,E14,d4,ad4,c4,fs,EF,KF⟩,t⟩ ⟨hA4,hnt,hV4,hfl,e0⟩
      dsimp only at hA4 hnt hV4 hfl e0
      unfold PS.L
      dsimp only
      have hth:p4.hold=t.hold:=(congrArg Se.hold hA4.eq :)
      have hhb:=hA4.ok.2.1
      have hD5:=hA4.ok.2.2.2.2.1
      refine J6 ?_
      refine zV (AT (lo:=1) rfl rfl rfl Tryz.underlying104 DD Er Er) rfl ?_
      refine J9 ?_
      refine WL.as (L':=EF++(KF++(.row g ({ p4 with c1:={ p4.c1 with st:=4 } }:PeL).cells::(E04++(E14++d4.L p4.gC s.now (.row g5 m.cells::L)))))) rfl ?_
      refine J10 ?_
      refine WL.as (L':=EF++(KF++(.row g ({ p4 with c1:={ p4.c1 with st:=4,id:=m.id } }:PeL).cells::(E04++(E14++d4.L p4.gC s.now (.row g5 m.cells::L)))))) rfl ?_
      refine J3 ?_
      refine WC.BB mixed<|rF 6 [0,1,2,3,4,6]<|?_
      refine J7 ?_
      refine rA 1 [5,7,8,9,10] rfl ?_
      refine J2 ?_
      refine qV (Le rfl rfl rfl) rfl ?_
      refine J3 ?_
      refine rO 0 [11] ?_
      refine J1 ?_
      refine WL.as (L':=EF++(KF++(.row g ({ p4 with c1:={ p4.c1 with st:=4,hold:=min p4.hold m.hold,id:=m.id } }:PeL).cells::(E04++(E14++d4.L p4.gC s.now (.row g5 m.cells::L)))))) rfl ?_
      have hA5:BO g ({ p4 with c1:={ p4.c1 with st:=4,hold:=min p4.hold m.hold,id:=m.id } }:PeL) (t.DZ 1 m.hold m.id) E04 E14 d4:=(by
        refine ⟨?_,hA4.ok,?_,?_,hA4.v0,hA4.v1,hA4.b0,hA4.b1,hA4.bag⟩
        · exact (congrArg (fun z:Se=>z.DZ 1 m.hold m.id) hA4.eq :)
        all_goals first|exact hA4.ok0|exact hA4.ok1|exact ⟨.inr ⟨show (3:Int)≤4 by decide,show (4:Int)≤5 by decide⟩,hA4.ok0.2.1,hA4.ok0.2.2.1,Fv,hI⟩|exact ⟨.inr ⟨show (3:Int)≤4 by decide,show (4:Int)≤5 by decide⟩,hA4.ok1.2.1,hA4.ok1.2.2.1,Fv,hI⟩)
      refine J8 ?_
      refine zK N9 rfl ?_
      intro w1 hS
      refine (Lb w1 1 (MsL.zero 4) (Ll _) (HQ ⟨by decide,by decide⟩) (hG.FA (fun h=>h) hS) (Nat.zero_le _) (Nat.zero_le _)).mono ?_
      rintro e w' ⟨ad6,c6,ks,EJ,KJ,rfl,hV6,hek,hS'⟩
      have hkl:=BS hek
      have hkb:=GA 1 (MsL.zero 4)
      refine ⟨_,EF++(EJ++(KJ++(KF++(.row g ({ p4 with c1:={ p4.c1 with st:=4,hold:=min p4.hold m.hold,id:=m.id } }:PeL).cells::(E04++(E14++d4.L p4.gC s.now (.row g5 m.cells::L))))))),rfl,(hS.join hS').AX ,?_⟩
      refine WL.AN rfl rfl rfl Tryz.underlying46 Tryz.underlying46 DI HP BT rfl rfl hV4.1 (new:=Hu ks) (hV6.1.src (fun e he=>List.mem_append_right _ (List.mem_append_left _ he)) |> fun f h=>(f Fg).elim fun b1 h1=>h1.elim fun o1 h2=>⟨b1,o1,h2.1,fun w hS=>h2.2 _ _ w hS⟩) (DQ ks) (EH ks) Er (.none rfl) rfl rfl ?_
      intro ad102 c102 E102 hV102 hr102
      rw [DF] at hV102
      rw [show fs.length+ks.length=(fs++ks).length by rw [List.length_append]] at hV102 ⊢
      refine J10 ?_
      refine JT (fun h107=>?_) (fun h107=>?_)
      refine J10 ?_
      refine zV (AS rfl rfl rfl (show _=(2:Int) from AF Et Et)) rfl ?_
      refine zK KV rfl ?_
      intro w1 hS
      refine (IG (gC:=p4.gC) (now:=s.now) (R:=E102++(EJ++(KJ++(KF++(.row g ({ p4 with c1:={ p4.c1 with st:=4,hold:=min p4.hold m.hold,id:=m.id } }:PeL).cells::(E04++(E14++(.row g5 m.cells::L)))))))) (hS.AX ) hA4.bag 2 Er).mono ?_
      rintro e w' ⟨b5,d5,rfl,hb5,hS'⟩
      refine ⟨_,d5.L p4.gC s.now (E102++(EJ++(KJ++(KF++(.row g ({ p4 with c1:={ p4.c1 with st:=4,hold:=min p4.hold m.hold,id:=m.id } }:PeL).cells::(E04++(E14++(.row g5 m.cells::L)))))))),rfl,hS',?_⟩
      refine J9 ?_
      refine zV (AS rfl rfl rfl (show _=(4:Int) from AF Et Et)) rfl ?_
      refine zK KV rfl ?_
      intro w1 hS
      refine (IG (gC:=p4.gC) (now:=s.now) (R:=E102++(EJ++(KJ++(KF++(.row g ({ p4 with c1:={ p4.c1 with st:=4,hold:=min p4.hold m.hold,id:=m.id } }:PeL).cells::(E04++(E14++(.row g5 m.cells::L)))))))) hS hb5 4 Fj).mono ?_
      rintro e w' ⟨b6,d6,rfl,hb6,hS'⟩
      refine ⟨_,d6.L p4.gC s.now (E102++(EJ++(KJ++(KF++(.row g ({ p4 with c1:={ p4.c1 with st:=4,hold:=min p4.hold m.hold,id:=m.id } }:PeL).cells::(E04++(E14++(.row g5 m.cells::L)))))))),rfl,hS',?_⟩
      refine J10 ?_
      refine eT1 ?_
      have e1:t.BE 1 m.hold m.id = { t.DZ 1 m.hold m.id with D:=(t.D.set 2 (-1)).set 4 (-1) }:=if_pos Gj
      rw [e0,e1]
      refine fun w' h=>⟨ad102,c102,fs++ks,E102,KJ++KF,({ p4 with c1:={ p4.c1 with st:=4,hold:=min p4.hold m.hold,id:=m.id } }:PeL),E04,E14,d6,rfl,⟨hV102,fun e he=>?_⟩,by rw [List.map_append,hek],⟨?_,⟨hA5.ok.1,hA5.ok.2.1,hA5.ok.2.2.1,hA5.ok.2.2.2.1,?_,fun y hy=>?_,hA5.ok.2.2.2.2.2.2⟩,hA5.ok0,hA5.ok1,hA5.v0,hA5.v1,hA5.b0,hA5.b1,hb6⟩,?_⟩
      · rcases List.mem_append.1 he with he|he
        · exact (hV4.2 e he).mono fun x hx=>List.mem_append_right _ hx
        · exact (hV6.2 e he).mono fun x hx=>List.mem_append_left _ hx
      · exact (congrArg (fun z:Se=>{ z with D:=(t.D.set 2 (-1)).set 4 (-1) }) hA5.eq :)
      · exact ((List.length_set ..).trans (List.length_set ..)).trans hD5
      · rcases List.mem_or_eq_of_mem_set hy with hy|hy
        · rcases List.mem_or_eq_of_mem_set hy with hy|hy
          · exact hA5.ok.2.2.2.2.2.1 y hy
          · exact .inl hy
        · exact .inl hy
      · have en:(t.DZ 1 m.hold m.id).now=s.now:=(FW _ _ _).trans hnt
        show St _ _ _ (_++(_++(_::(_++(_++d6.L p4.gC (t.DZ 1 m.hold m.id).now L)))))
        rw [en]
        exact C8
      refine J9 ?_
      refine zK Od rfl ?_
      intro w1 hS
      refine (M3 w0 w1 g ({ p4 with c1:={ p4.c1 with st:=4,hold:=min p4.hold m.hold,id:=m.id } }:PeL) (t.DZ 1 m.hold m.id) E04 E14 (E102++(EJ++(KJ++(KF++(.row g5 m.cells::L))))) d4 hA5 (by rw [show (t.DZ 1 m.hold m.id).now=s.now from (FW _ _ _).trans hnt];exact hS.AX )).mono ?_
      rintro e w' ⟨d5,rfl,hA6,hS'⟩
      refine ⟨_,_,rfl,hS',?_⟩
      refine J6 ?_
      refine zK Sp rfl ?_
      intro w1 hS
      refine (Re w0 w1 g ({ p4 with c1:={ p4.c1 with st:=4,hold:=min p4.hold m.hold,id:=m.id } }:PeL) ((t.DZ 1 m.hold m.id).alive 1) E04 E14 (E102++(EJ++(KJ++(KF++(.row g5 m.cells::L))))) d5 hA6 (by rw [Gw];exact hS)).mono ?_
      rintro e w' ⟨d6,rfl,hA7,hS'⟩
      refine ⟨_,_,rfl,hS',?_⟩
      refine J9 ?_
      refine eT1 ?_
      have e1:t.BE 1 m.hold m.id=((t.DZ 1 m.hold m.id).alive 1).kept 1:=if_neg Gj
      rw [e0,e1]
      refine fun w' h=>⟨ad102,c102,fs++ks,E102,KJ++KF,({ p4 with c1:={ p4.c1 with st:=4,hold:=min p4.hold m.hold,id:=m.id } }:PeL),E04,E14,d6,rfl,⟨hV102,fun e he=>?_⟩,by rw [List.map_append,hek],hA7,?_⟩
      · rcases List.mem_append.1 he with he|he
        · exact (hV4.2 e he).mono fun x hx=>List.mem_append_right _ hx
        · exact (hV6.2 e he).mono fun x hx=>List.mem_append_left _ hx
      · rw [Jf]
        exact C8

def EW (s:Se) (n:Nat) (m:MsL):Se×List EfD :=
  if m.kind=3 then (s.gone n,Hy s n)
  else if m.kind=1∧(s.c n).st=3 then BQ s n m.asn m.hold m.id
  else if m.kind=4∧(s.c n).st=4 then (s.BD n,Gs s n)
  else if m.kind=4∧(s.c n).st=5 then (s.alive n,[])
  else if m.kind=2∧(s.c n).st=5 then (s.alive n,[⟨6,n,[],m.d⟩])
  else (s.gone n,DW s n 5 ((s.c n).st-2) ⟨#[]⟩)
set_option maxHeartbeats 2000000 in
theorem Acl (w0 w:World) (g:Nat) (p:PeL) (s:Se) (E0 E1 L:List Ent) (d:Ck) (hA:BO g p s E0 E1 d) (hG:GF w0) (hS0:St (fun _=>False) w0 w (.row g p.cells::(E0++(E1++d.L p.gC s.now L)))) (m:MsL) (hI:U32 m.id) (hmh:0≤m.hold) :
    Calls Tryz.prog 56 #[.pointer (some ⟨g,0,none⟩), .int .i64 0, .agg m.cells.toArray] w fun e w'=>G2 w0 w' g (EW s 0 m).2 (EW s 0 m).1 L e:=by
  have hc:p.c0.m=s.c0:=(congrArg Se.c0 hA.eq :)
  have hst:p.c0.st=(s.c 0).st:=(congrArg CnM.st hc :)
  have hstb:=hA.ok0.1
  rw [show s.c0.st=(s.c 0).st from rfl, ← hst] at hstb
  refine enter Tryz.func56 rfl Tryz.ntmps56 rfl hS0 ?_
  refine J2 ?_
  refine WL.box rfl rfl rfl (.none rfl) rfl rfl ?_
  intro g5 hg5
  refine WL.to (L':=.row g p.cells::(E0++(E1++d.L p.gC s.now (.row g5 m.cells::L)))) (fun w hS=>hS.AX ) ?_
  refine J9 ?_
  refine zV (AT (lo:=0) rfl rfl rfl Tryz.underlying104 DD Er Er) rfl ?_
  refine J1 ?_
  refine zV (AA rfl rfl AK (cellAt (v:=.int .i64 p.c0.st) rfl)) rfl ?_
  refine J9 ?_
  refine JT (fun h18=>?_) (fun h18=>?_)
  refine J8 ?_
  refine zK V2 rfl ?_
  intro w1 hS
  refine (Sk w0 w1 g p s E0 E1 (.row g5 m.cells::L) d hA hS).mono ?_
  rintro e w' ⟨ad2,c2,gs,EG,KG,p2,E02,E12,d2,rfl,hV2,heg,hA2,hS'⟩
  refine ⟨_,_,rfl,hS',?_⟩
  refine J6 ?_
  refine eT1 ?_
  have e0:EW s 0 m=(s.gone 0,Hy s 0):=(by unfold EW;exact if_pos h18)
  exact Al
  refine J8 ?_
  refine JT (fun h25=>?_) (fun h25=>?_)
  refine J2 ?_
  refine JT (fun h28=>?_) (fun h28=>?_)
  refine J10 ?_
  refine zK ck_88 rfl ?_
  intro w1 hS
  refine (Adk w0 w1 g p s E0 E1 (.row g5 m.cells::L) d hA hG hS m hI hmh).mono ?_
  rintro e w' ⟨ad2,c2,gs,EG,KG,p2,E02,E12,d2,rfl,hV2,heg,hA2,hS'⟩
  refine ⟨_,_,rfl,hS',?_⟩
  refine J6 ?_
  refine eT1 ?_
  have e0:EW s 0 m=BQ s 0 m.asn m.hold m.id:=(by unfold EW;rw [if_neg h18,if_pos (by rw [← hst];omega)])
  exact Al
  refine J9 ?_
  refine zV ((AZ rfl rfl rfl).f (Er)) rfl ?_
  refine J12 ?_
  refine zV ((AZ rfl rfl rfl).f (Er)) rfl ?_
  refine J12 ?_
  refine zV ((AZ rfl rfl rfl).f (Er)) rfl ?_
  refine J16 ?_
  exact Ag
  refine J12 ?_
  refine JT (fun h37=>?_) (fun h37=>?_)
  refine J2 ?_
  refine JT (fun h40=>?_) (fun h40=>?_)
  refine J9 ?_
  refine zK ck_89 rfl ?_
  intro w1 hS
  refine (Rk w0 w1 g p s E0 E1 (.row g5 m.cells::L) d hA hG hS).mono ?_
  rintro e w' ⟨ad2,c2,gs,EG,KG,p2,E02,E12,d2,rfl,hV2,heg,hA2,hS'⟩
  refine ⟨_,_,rfl,hS',?_⟩
  refine J6 ?_
  refine eT1 ?_
  have e0:EW s 0 m=(s.BD 0,Gs s 0):=(by unfold EW;rw [if_neg h18,if_neg (by rw [← hst];omega),if_pos (by rw [← hst];omega)])
  exact Al
  refine J9 ?_
  refine zV ((AZ rfl rfl rfl).t (h37)) rfl ?_
  refine J2 ?_
  refine JT (fun h51=>?_) (fun h51=>?_)
  refine J9 ?_
  refine zK Od rfl ?_
  intro w1 hS
  refine (Nb w0 w1 g p s E0 E1 (.row g5 m.cells::L) d hA hS).mono ?_
  rintro e w' ⟨d2,rfl,hA2,hS'⟩
  refine ⟨_,_,rfl,hS',?_⟩
  refine J10 ?_
  refine eT1 ?_
  have e0:EW s 0 m=(s.alive 0,[]):=(by unfold EW;rw [if_neg h18,if_neg (by rw [← hst];omega),if_neg (by rw [← hst];omega),if_pos (by rw [← hst];omega)])
  exact Ce
  refine J9 ?_
  refine zV ((AZ rfl rfl rfl).f (Er)) rfl ?_
  refine J16 ?_
  exact Ag
  refine J12 ?_
  refine zV ((AZ rfl rfl rfl).f (h37)) rfl ?_
  refine J12 ?_
  refine JT (fun h59=>?_) (fun h59=>?_)
  refine J2 ?_
  refine JT (fun h62=>?_) (fun h62=>?_)
  refine J9 ?_
  refine zK Od rfl ?_
  intro w1 hS
  refine (Nb w0 w1 g p s E0 E1 (.row g5 m.cells::L) d hA hS).mono ?_
  rintro e w' ⟨d2,rfl,hA2,hS'⟩
  refine ⟨_,_,rfl,hS',?_⟩
  refine J7 ?_
  refine zB Tryz.underlying46 DI BT rfl rfl ?_
  intro g70 hg70
  refine WL.as (L':=.row g70 (EfL.cells ⟨6,0,none,0,[],m⟩)::.row g p.cells::(E0++(E1++d2.L p.gC s.now (.row g5 m.cells::L)))) rfl ?_
  refine J6 ?_
  refine eT1 ?_
  have e0:EW s 0 m=(s.alive 0,[⟨6,0,[],m.d⟩]):=(by unfold EW;rw [if_neg h18,if_neg (by rw [← hst];omega),if_neg (by rw [← hst];omega),if_neg (by rw [← hst];omega),if_pos (by rw [← hst];omega)];rfl)
  rw [e0]
  refine fun w' h=>⟨some ⟨g70,0,none⟩,1,[⟨6,0,none,0,[],m⟩],[.row g70 (EfL.cells ⟨6,0,none,0,[],m⟩)],[],p,E0,E1,d2,rfl,⟨Vec.row (k:=1) (c:=1) rfl rfl (Nat.le_refl _),fun e he=>?_⟩,rfl,hA2,by rw [Gw];exact h.CE [.row g5 m.cells] ⟩
  exact Dh
  refine J13 ?_
  exact Ag
  refine J16 ?_
  exact Ag
set_option maxHeartbeats 2000000 in
theorem AcK (w0 w:World) (g:Nat) (p:PeL) (s:Se) (E0 E1 L:List Ent) (d:Ck) (hA:BO g p s E0 E1 d) (hG:GF w0) (hS0:St (fun _=>False) w0 w (.row g p.cells::(E0++(E1++d.L p.gC s.now L)))) (m:MsL) (hI:U32 m.id) (hmh:0≤m.hold) :
    Calls Tryz.prog 56 #[.pointer (some ⟨g,0,none⟩), .int .i64 1, .agg m.cells.toArray] w fun e w'=>G2 w0 w' g (EW s 1 m).2 (EW s 1 m).1 L e:=by
  have hc:p.c1.m=s.c1:=(congrArg Se.c1 hA.eq :)
  have hst:p.c1.st=(s.c 1).st:=(congrArg CnM.st hc :)
  have hstb:=hA.ok1.1
  rw [show s.c1.st=(s.c 1).st from rfl, ← hst] at hstb
  refine enter Tryz.func56 rfl Tryz.ntmps56 rfl hS0 ?_
  refine J2 ?_
  refine WL.box rfl rfl rfl (.none rfl) rfl rfl ?_
  intro g5 hg5
  refine WL.to (L':=.row g p.cells::(E0++(E1++d.L p.gC s.now (.row g5 m.cells::L)))) (fun w hS=>hS.AX ) ?_
  refine J9 ?_
  refine zV (AT (lo:=1) rfl rfl rfl Tryz.underlying104 DD Er Er) rfl ?_
  refine J1 ?_
  refine zV (AA rfl rfl AK (cellAt (v:=.int .i64 p.c1.st) rfl)) rfl ?_
  refine J9 ?_
  refine JT (fun h18=>?_) (fun h18=>?_)
  refine J8 ?_
  refine zK V2 rfl ?_
  intro w1 hS
  refine (RY w0 w1 g p s E0 E1 (.row g5 m.cells::L) d hA hS).mono ?_
  rintro e w' ⟨ad2,c2,gs,EG,KG,p2,E02,E12,d2,rfl,hV2,heg,hA2,hS'⟩
  refine ⟨_,_,rfl,hS',?_⟩
  refine J6 ?_
  refine eT1 ?_
  have e0:EW s 1 m=(s.gone 1,Hy s 1):=(by unfold EW;exact if_pos h18)
  exact Al
  refine J8 ?_
  refine JT (fun h25=>?_) (fun h25=>?_)
  refine J2 ?_
  refine JT (fun h28=>?_) (fun h28=>?_)
  refine J10 ?_
  refine zK ck_88 rfl ?_
  intro w1 hS
  refine (AbO w0 w1 g p s E0 E1 (.row g5 m.cells::L) d hA hG hS m hI hmh).mono ?_
  rintro e w' ⟨ad2,c2,gs,EG,KG,p2,E02,E12,d2,rfl,hV2,heg,hA2,hS'⟩
  refine ⟨_,_,rfl,hS',?_⟩
  refine J6 ?_
  refine eT1 ?_
  have e0:EW s 1 m=BQ s 1 m.asn m.hold m.id:=(by unfold EW;rw [if_neg h18,if_pos (by rw [← hst];omega)])
  exact Al
  refine J9 ?_
  refine zV ((AZ rfl rfl rfl).f (Er)) rfl ?_
  refine J12 ?_
  refine zV ((AZ rfl rfl rfl).f (Er)) rfl ?_
  refine J12 ?_
  refine zV ((AZ rfl rfl rfl).f (Er)) rfl ?_
  refine J16 ?_
  exact Af
  refine J12 ?_
  refine JT (fun h37=>?_) (fun h37=>?_)
  refine J2 ?_
  refine JT (fun h40=>?_) (fun h40=>?_)
  refine J9 ?_
  refine zK ck_89 rfl ?_
  intro w1 hS
  refine (Ry w0 w1 g p s E0 E1 (.row g5 m.cells::L) d hA hG hS).mono ?_
  rintro e w' ⟨ad2,c2,gs,EG,KG,p2,E02,E12,d2,rfl,hV2,heg,hA2,hS'⟩
  refine ⟨_,_,rfl,hS',?_⟩
  refine J6 ?_
  refine eT1 ?_
  have e0:EW s 1 m=(s.BD 1,Gs s 1):=(by unfold EW;rw [if_neg h18,if_neg (by rw [← hst];omega),if_pos (by rw [← hst];omega)])
  exact Al
  refine J9 ?_
  refine zV ((AZ rfl rfl rfl).t (h37)) rfl ?_
  refine J2 ?_
  refine JT (fun h51=>?_) (fun h51=>?_)
  refine J9 ?_
  refine zK Od rfl ?_
  intro w1 hS
  refine (M3 w0 w1 g p s E0 E1 (.row g5 m.cells::L) d hA hS).mono ?_
  rintro e w' ⟨d2,rfl,hA2,hS'⟩
  refine ⟨_,_,rfl,hS',?_⟩
  refine J10 ?_
  refine eT1 ?_
  have e0:EW s 1 m=(s.alive 1,[]):=(by unfold EW;rw [if_neg h18,if_neg (by rw [← hst];omega),if_neg (by rw [← hst];omega),if_pos (by rw [← hst];omega)])
  exact Ce
  refine J9 ?_
  refine zV ((AZ rfl rfl rfl).f (Er)) rfl ?_
  refine J16 ?_
  exact Af
  refine J12 ?_
  refine zV ((AZ rfl rfl rfl).f (h37)) rfl ?_
  refine J12 ?_
  refine JT (fun h59=>?_) (fun h59=>?_)
  refine J2 ?_
  refine JT (fun h62=>?_) (fun h62=>?_)
  refine J9 ?_
  refine zK Od rfl ?_
  intro w1 hS
  refine (M3 w0 w1 g p s E0 E1 (.row g5 m.cells::L) d hA hS).mono ?_
  rintro e w' ⟨d2,rfl,hA2,hS'⟩
  refine ⟨_,_,rfl,hS',?_⟩
  refine J7 ?_
  refine zB Tryz.underlying46 DI BT rfl rfl ?_
  intro g70 hg70
  refine WL.as (L':=.row g70 (EfL.cells ⟨6,1,none,0,[],m⟩)::.row g p.cells::(E0++(E1++d2.L p.gC s.now (.row g5 m.cells::L)))) rfl ?_
  refine J6 ?_
  refine eT1 ?_
  have e0:EW s 1 m=(s.alive 1,[⟨6,1,[],m.d⟩]):=(by unfold EW;rw [if_neg h18,if_neg (by rw [← hst];omega),if_neg (by rw [← hst];omega),if_neg (by rw [← hst];omega),if_pos (by rw [← hst];omega)];rfl)
  rw [e0]
  refine fun w' h=>⟨some ⟨g70,0,none⟩,1,[⟨6,1,none,0,[],m⟩],[.row g70 (EfL.cells ⟨6,1,none,0,[],m⟩)],[],p,E0,E1,d2,rfl,⟨Vec.row (k:=1) (c:=1) rfl rfl (Nat.le_refl _),fun e he=>?_⟩,rfl,hA2,by rw [Gw];exact h.CE [.row g5 m.cells] ⟩
  exact Dh
  refine J13 ?_
  exact Af
  refine J16 ?_
  exact Af

theorem PJ (w0:World) (m:MsL) (hM:m.At w0) (hI:m.In) (hG:GF w0) (hP:m.atr.path.length≤1000) (hO:m.atr.others.length≤90):Calls Tryz.prog 23 #[.agg m.cells.toArray] w0 fun e w'=>∃ v,e = .returned v∧IP w0 w' (if Gr m=0 then DG m else []) v:=by
  refine enter Tryz.func23 rfl Tryz.ntmps23 rfl (St.start (fun _=>False) w0) ?_
  refine J2 ?_
  refine WL.box rfl rfl rfl (.none rfl) rfl rfl ?_
  intro g1 hg1
  refine J6 ?_
  refine zK Tw rfl ?_
  intro w1 hS
  refine (S1 w1 m (hM.st hS) hI (hG.FA (fun h=>h) hS) hP hO).mono ?_
  rintro e w' ⟨_,rfl,ad9,c9,E9,rfl,hV9,hS'⟩
  refine ⟨_,_,rfl,hS.join hS',?_⟩
  refine J14 ?_
  refine eT1 ?_
  exact fun w' h=>⟨_,rfl,IP.of hV9 h rfl⟩
theorem Adm (w0:World) (id hold:Int) (hid:U32 id) (hh:I64 hold) (hG:GF w0):Calls Tryz.prog 22 #[.int .u32 id, .int .i64 hold] w0 fun e w'=>∃ v,e = .returned v∧IP w0 w' (if Gr (FX 65001 hold id)=0 then DG (FX 65001 hold id) else []) v:=by
  refine enter Tryz.func22 rfl Tryz.ntmps22 rfl (St.start (fun _=>False) w0) ?_
  refine J10 ?_
  refine zK AaD rfl ?_
  intro w1 hS
  refine (PJ w1 (FX 65001 hold id) (M7 _ _ _ _) (MW ⟨by decide,by decide⟩ hh hid) (hG.FA (fun h=>h) hS) (Nat.zero_le _) (Nat.zero_le _)).mono ?_
  rintro e w' ⟨_,rfl,ad8,c8,E8,rfl,hV8,hS'⟩
  refine ⟨_,_,rfl,hS.join hS',?_⟩
  refine J4 ?_
  refine eT1 ?_
  exact fun w' h=>⟨_,rfl,IP.of hV8 h rfl⟩
theorem Ab6 (w:World):Calls Tryz.prog 12 #[] w fun e w'=>e = .returned (.agg (Iu 65000 5 65001 90 10).toArray)∧Frm (fun _=>False) w w':=by
  refine enter (vs:=[]) Tryz.func12 rfl Tryz.ntmps12 rfl (St.start (fun _=>False) w) ?_
  refine J2 ?_
  refine WL.alloc rfl Vt (.none rfl) rfl rfl ?_
  intro g0 hg0
  refine J9 ?_
  exact A9
theorem Ac2 (w0 w:World) (g:Nat) (p:PeL) (s:Se) (E0 E1 L:List Ent) (d:Ck) (hA:BO g p s E0 E1 d) (hG:GF w0) (hS0:St (fun _=>False) w0 w (.row g p.cells::(E0++(E1++d.L p.gC s.now L)))) (C S:Int) (f:ByteArray) (hC:I64 C) (hSb:I64 S) (hf:f.size≤100000) (h0:p.c0.st=5) :
    Calls Tryz.prog 31 #[.pointer (some ⟨g,0,none⟩), .agg (AG C S f).toArray] w fun e w'=>G2 w0 w' g (DW s 0 C S f) (s.gone 0) L e:=by
  have e:Iw p=0:=if_pos h0
  refine enter Tryz.func31 rfl Tryz.ntmps31 rfl hS0 ?_
  refine J2 ?_
  refine WL.box rfl rfl rfl (.none rfl) rfl rfl ?_
  intro g3 hg3
  refine WL.to (L':=.row g p.cells::(E0++(E1++d.L p.gC s.now (.row g3 (AG C S f)::L)))) (fun w hS=>hS.AX ) ?_
  refine J7 ?_
  refine zV (AY false rfl rfl Tryz.underlying40 rfl) rfl ?_
  refine J8 ?_
  refine zk OR rfl (fun w hS=>by have h:=L9 w g p (hS.row (g:=g));rw [e] at h;exact h) ?_
  refine J7 ?_
  refine zV ((G8 rfl rfl rfl).f (Et)) rfl ?_
  refine J10 ?_
  refine zK QQ rfl ?_
  intro w1 hS
  refine (TQ w0 w1 g p s E0 E1 (.row g3 (AG C S f)::L) d hA hG hS C S f hC hSb hf).mono ?_
  exact Bx
theorem Adq (w0 w:World) (g:Nat) (p:PeL) (s:Se) (E0 E1 L:List Ent) (d:Ck) (hA:BO g p s E0 E1 d) (hG:GF w0) (hS0:St (fun _=>False) w0 w (.row g p.cells::(E0++(E1++d.L p.gC s.now L)))) (C S:Int) (f:ByteArray) (hC:I64 C) (hSb:I64 S) (hf:f.size≤100000) (h0:p.c0.st≠5) (h1:p.c1.st=5) :
    Calls Tryz.prog 31 #[.pointer (some ⟨g,0,none⟩), .agg (AG C S f).toArray] w fun e w'=>G2 w0 w' g (DW s 1 C S f) (s.gone 1) L e:=by
  have e:Iw p=1:=(if_neg h0).trans (if_pos h1)
  refine enter Tryz.func31 rfl Tryz.ntmps31 rfl hS0 ?_
  refine J2 ?_
  refine WL.box rfl rfl rfl (.none rfl) rfl rfl ?_
  intro g3 hg3
  refine WL.to (L':=.row g p.cells::(E0++(E1++d.L p.gC s.now (.row g3 (AG C S f)::L)))) (fun w hS=>hS.AX ) ?_
  refine J7 ?_
  refine zV (AY false rfl rfl Tryz.underlying40 rfl) rfl ?_
  refine J8 ?_
  refine zk OR rfl (fun w hS=>by have h:=L9 w g p (hS.row (g:=g));rw [e] at h;exact h) ?_
  refine J7 ?_
  refine zV ((G8 rfl rfl rfl).f (Et)) rfl ?_
  refine J10 ?_
  refine zK QQ rfl ?_
  intro w1 hS
  refine (Uh w0 w1 g p s E0 E1 (.row g3 (AG C S f)::L) d hA hG hS C S f hC hSb hf).mono ?_
  exact Bx
end Gq

theorem Vec.Rf {s k c:Nat}{ad:Option Addr}{xs:List Value}{E:List Ent}(hV:Vec s ad k c xs E) (h0:0<xs.length):∃ b o,ad=some ⟨b,o,none⟩∧∀ w,(∀ e∈E,e.holds w)→w.rangeAt b o xs:=by
  rcases hV with ⟨_,_,_,rfl,_⟩|⟨g,cs,rfl,rfl,hx,_,_⟩
  · simp at h0
  · refine ⟨g,0,rfl,fun w hw j v hj=>?_⟩
    have hR:Row w g cs:=hw (.row g cs) (List.mem_cons_self ..)
    rw [← hx,List.getElem?_take] at hj
    split at hj
    · rw [Nat.zero_add];exact hR.cell hj
    · cases hj
section Gq
attribute [local irreducible] WL WC WE WQ WP WH WR WM WRH

theorem Wa {w:World}{b o:Nat}{fs:List EfL}{i:Nat}{x:EfL}(h:w.rangeAt b o (Hu fs)) (hi:fs[i]?=some x):w.rangeAt b (o+i*23) x.cells:=fun j v hj=>by
  have hl:=Iz (enc:=EfL.cells) (s:=23) (fun _=>rfl) fs i x hi
  have hj2:j<23:=(List.getElem?_eq_some_iff.1 hj).1
  have h2:(Hu fs)[i*23+j]?=some v:=by
    unfold Hu
    rw [← List.getElem?_drop, ← hj, ← hl,List.getElem?_take,if_pos hj2]
  have:=h _ _ h2
  rwa [Nat.add_assoc]
theorem Oi (w:World) (ad:Option Addr) (c:Nat) (fs:List EfL) (E:List Ent) (hV:Vec 23 ad fs.length c (Hu fs) E) (hE:∀ e∈E,e.holds w) (wa:Option Addr) (wc:Nat) (ws:List Int) (hW:AU w wa (CG ws)) (he:fs.map EfL.kind=ws) (hb:fs.length≤1000000) :
    Calls Tryz.prog 16 #[.slice ad fs.length c, .slice wa ws.length wc] w fun e w'=>e = .returned (.bool true)∧Frm (fun _=>False) w w':=by
  have hl:ws.length=fs.length:=by rw [← he,List.length_map]
  refine enter Tryz.func16 rfl Tryz.ntmps16 rfl (St.start (fun _=>False) w) ?_
  refine J12 ?_
  refine zV ((BY rfl rfl rfl).f (Er)) rfl ?_
  refine J14 ?_
  refine WC.loop (fun k:Nat=>[(13, .int .i64 k),(12, .int .i64 fs.length),(0, .slice ad fs.length c),(1, .slice wa ws.length wc)]) (fun _=>[]) (fun k=>k≤fs.length) (fun k=>fs.length-k) 0 (Nat.zero_le _) Km (.refl _) ?_
  intro k hk
  refine J2 ?_
  refine JT (fun h14=>?_) (fun h14=>?_)
  refine J10 ?_
  obtain ⟨x,hx⟩:∃ x,fs[k]?=some x:=⟨fs[k]' Er,List.getElem?_eq_getElem _⟩
  obtain ⟨b1,o1,ea1,r1⟩:=hV.Rf Fg
  obtain ⟨b2,o2,ea2,r2⟩:=hW F5
  have hwk:ws[k]?=some x.kind:=(by rw [← he,List.getElem?_map,hx];rfl)
  have r3:=Wa (r1 w hE) hx
  refine J5 ?_
  refine cQ mixed ?_
  refine J2 ?_
  refine qV ((AB (b:=b1) (off:=o1) (lo:=k) rfl (by show some (Value.slice ad _ _)=_;rw [ea1]) rfl Tryz.underlying46 DI rfl Er)) rfl ?_
  refine J1 ?_
  refine qV (AA rfl rfl AK (AL (fun h=>h) (r3 0 (.int .i64 x.kind) rfl))) rfl ?_
  refine J2 ?_
  refine qV ((AB (b:=b2) (off:=o2) (lo:=k) rfl (by show some (Value.slice wa _ _)=_;rw [ea2]) rfl Tryz.underlying32 AP rfl Er)) rfl ?_
  refine qV (AA rfl rfl AK (AL (fun h=>h) (by have:=r2 k _ (Ke hwk);rwa [show o2+k*1=o2+k by omega]))) rfl ?_
  refine qV ((BY rfl rfl rfl).f ((fun h=>h rfl))) rfl ?_
  refine J7 ?_
  refine zV (AS rfl rfl rfl (show _=((k+1:Nat):Int) from (AF Er Er).trans Er)) rfl ?_
  refine J2 ?_
  exact eW (k+1) Er Er
  refine J15 ?_
  exact A9

def Se.down (s:Se) (n:Nat):Se:=if (s.c n).st≠0 then s.gone n else if n≠0∨s.base≠1 then s else if (s.c 1).st=0 then ({ s with base:=2 }:Se).due 0 s.retry else { s with base:=2 }
def IM (s:Se) (n:Nat):List EfD:=if (s.c n).st≠0 then IA s n else []
set_option maxHeartbeats 1000000 in
theorem Adl (w0 w:World) (g:Nat) (p:PeL) (s:Se) (E0 E1 L:List Ent) (d:Ck) (hA:BO g p s E0 E1 d) (hS0:St (fun _=>False) w0 w (.row g p.cells::(E0++(E1++d.L p.gC s.now L)))) :
    Calls Tryz.prog 20 #[.pointer (some ⟨g,0,none⟩), .int .i64 0] w fun e w'=>G2 w0 w' g (IM s 0) (s.down 0) L e:=by
  have hretry:=hA.ok.1
  have hr0:p.retry=s.retry:=(congrArg Se.retry hA.eq :)
  have hb0:p.base=s.base:=(congrArg Se.base hA.eq :)
  have hc:p.c0.m=s.c0:=(congrArg Se.c0 hA.eq :)
  have hst:p.c0.st=(s.c 0).st:=(congrArg CnM.st hc :)
  have hc1:p.c1.m=s.c1:=(congrArg Se.c1 hA.eq :)
  have hs1:p.c1.st=(s.c 1).st:=(congrArg CnM.st hc1 :)
  refine enter Tryz.func20 rfl Tryz.ntmps20 rfl hS0 ?_
  refine J10 ?_
  refine zk HI rfl (fun w hS=>Gu w g p (hS.row (g:=g)) 0 Et) ?_
  generalize hth:decide ((p.c 0).st≠0)=b7
  cases b7
  refine J8 ?_
  have e2:List.map EfL.d []=IM s 0:=(by unfold IM;rw [if_neg (fun hh=>of_decide_eq_false hth (fun h=>hh (hst.symm.trans h)))];rfl)
  refine J1 ?_
  refine zV (AY false rfl rfl Tryz.underlying40 rfl) rfl ?_
  refine J2 ?_
  refine zS ((BY rfl rfl rfl).f (Et)) rfl ?_
  refine J6 ?_
  refine JT (fun h22=>?_) (fun h22=>?_)
  refine J11 ?_
  refine eT1 ?_
  have e1:s.down 0=s:=(by unfold Se.down;rw [if_neg (fun hh=>of_decide_eq_false hth (fun h=>hh (hst.symm.trans h))),if_pos (.inr (by rw [← hb0];exact h22))])
  exact Cq
  refine J12 ?_
  refine WL.as (L':=.row g ({ p with base:=2 }:PeL).cells::(E0++(E1++d.L p.gC s.now L))) rfl ?_
  have hA1:=hA.base 2 ⟨by decide,by decide⟩
  refine J6 ?_
  refine zk HI rfl (fun w hS=>Gu w g { p with base:=2 } (hS.row (g:=g)) 1 Et) ?_
  generalize ht1:decide ((({ p with base:=2 }:PeL).c 1).st≠0)=b28
  cases b28
  refine J11 ?_
  refine zK KT rfl ?_
  intro w1 hS
  refine (KQ w0 w1 g { p with base:=2 } { s with base:=2 } E0 E1 L d hA1 hS 0 Er p.retry Er).mono ?_
  rintro e w' ⟨d2,rfl,hA2,hS'⟩
  refine ⟨_,_,rfl,hS',?_⟩
  refine J8 ?_
  refine eT1 ?_
  have e1:s.down 0=({ s with base:=2 }:Se).due 0 p.retry:=(by unfold Se.down;rw [if_neg (fun hh=>of_decide_eq_false hth (fun h=>hh (hst.symm.trans h))),if_neg (by rw [← hb0];omega),if_pos (hs1.symm.trans (Decidable.of_not_not (of_decide_eq_false ht1))),hr0])
  exact fun w' h=>⟨none,0,[],[],[],_,E0,E1,d2,rfl,⟨Vec.nil 23,fun e he=>by cases he⟩,e2,by rw [e1];exact hA2,by rw [e1];exact h⟩
  refine J12 ?_
  refine eT1 ?_
  have e1:s.down 0=({ s with base:=2 }:Se):=(by unfold Se.down;rw [if_neg (fun hh=>of_decide_eq_false hth (fun h=>hh (hst.symm.trans h))),if_neg (by rw [← hb0];omega),if_neg (fun hh=>of_decide_eq_true ht1 (hs1.trans hh))])
  exact fun w' h=>⟨none,0,[],[],[],_,E0,E1,d,rfl,⟨Vec.nil 23,fun e he=>by cases he⟩,e2,by rw [e1];exact hA1,by rw [e1];exact h⟩
  refine J7 ?_
  refine zK VO rfl ?_
  intro w1 hS
  refine (VA w0 w1 g p s E0 E1 L d hA hS).mono ?_
  rintro e w' ⟨ad2,c2,gs,EG,KG,p2,E02,E12,d2,rfl,hV2,heg,hA2,hS'⟩
  refine ⟨_,_,rfl,hS',?_⟩
  refine J5 ?_
  refine eT1 ?_
  have hz:(s.c 0).st≠0:=fun hh=>of_decide_eq_true hth (hst.trans hh)
  have e1:s.down 0=s.gone 0:=if_pos hz
  have e2:IM s 0=IA s 0:=if_pos hz
  rw [e1,e2]
  exact Bu
set_option maxHeartbeats 1000000 in
theorem AbP (w0 w:World) (g:Nat) (p:PeL) (s:Se) (E0 E1 L:List Ent) (d:Ck) (hA:BO g p s E0 E1 d) (hS0:St (fun _=>False) w0 w (.row g p.cells::(E0++(E1++d.L p.gC s.now L)))) :
    Calls Tryz.prog 20 #[.pointer (some ⟨g,0,none⟩), .int .i64 1] w fun e w'=>G2 w0 w' g (IM s 1) (s.down 1) L e:=by
  have hretry:=hA.ok.1
  have hr0:p.retry=s.retry:=(congrArg Se.retry hA.eq :)
  have hb0:p.base=s.base:=(congrArg Se.base hA.eq :)
  have hc:p.c1.m=s.c1:=(congrArg Se.c1 hA.eq :)
  have hst:p.c1.st=(s.c 1).st:=(congrArg CnM.st hc :)
  have hc1:p.c1.m=s.c1:=(congrArg Se.c1 hA.eq :)
  have hs1:p.c1.st=(s.c 1).st:=(congrArg CnM.st hc1 :)
  refine enter Tryz.func20 rfl Tryz.ntmps20 rfl hS0 ?_
  refine J10 ?_
  refine zk HI rfl (fun w hS=>Gu w g p (hS.row (g:=g)) 1 Et) ?_
  generalize hth:decide ((p.c 1).st≠0)=b7
  cases b7
  refine J8 ?_
  have e2:List.map EfL.d []=IM s 1:=(by unfold IM;rw [if_neg (fun hh=>of_decide_eq_false hth (fun h=>hh (hst.symm.trans h)))];rfl)
  refine J1 ?_
  refine zV (AY false rfl rfl Tryz.underlying40 rfl) rfl ?_
  refine J2 ?_
  refine zS ((BY rfl rfl rfl).t (Et)) rfl ?_
  refine J18 ?_
  refine eT1 ?_
  have e1:s.down 1=s:=(by unfold Se.down;rw [if_neg (fun hh=>of_decide_eq_false hth (fun h=>hh (hst.symm.trans h))),if_pos (.inl Et)])
  exact Cq
  refine J7 ?_
  refine zK VO rfl ?_
  intro w1 hS
  refine (Vu w0 w1 g p s E0 E1 L d hA hS).mono ?_
  rintro e w' ⟨ad2,c2,gs,EG,KG,p2,E02,E12,d2,rfl,hV2,heg,hA2,hS'⟩
  refine ⟨_,_,rfl,hS',?_⟩
  refine J5 ?_
  refine eT1 ?_
  have hz:(s.c 1).st≠0:=fun hh=>of_decide_eq_true hth (hst.trans hh)
  have e1:s.down 1=s.gone 1:=if_pos hz
  have e2:IM s 1=IA s 1:=if_pos hz
  rw [e1,e2]
  exact Bu
end Gq

def VecO (ad:Option Addr) (c:Nat) (xs:List Int) (E:List Ent):Prop :=
  (ad=none∧c=0∧xs=[]∧E=[])∨∃ g o cs,ad=some ⟨g,o,none⟩∧E=[.row g cs]∧xs.length≤c∧o+c≤cs.length∧∀ i v,(u8s xs)[i]?=some v→cs[o+i]?=some v
section
variable {P:Program}{ops:Array Oper}{Q:Exit→Act→World→Prop}{n:Nat}{p:Nat→Prop}{w0:World}{o:Oper}{rest:List Oper}{l:Kn}{E L0:List Ent}
end
structure QuL where
  ad:Option Addr
  cap:Nat
  wait:List Int
  most:Int
def QuL.cells (q:QuL):List Value:=[.slice q.ad q.wait.length q.cap, .int .i64 q.most]

structure OpL where
  k:Int
  ad:Option Addr
  cap:Nat
  val:List Int
  n:Int
def OpL.cells (o:OpL):List Value:=[.int .i64 o.k, .slice o.ad o.val.length o.cap, .int .i64 o.n]
structure QS where
  ws:List Int
  qa:Option Addr
  qc:Nat
  Eq:List Ent
  aa:Option Addr
  ac:Nat
  Ea:List Ent
structure QI (y:QS) (most:Int) (k:Nat):Prop where
  q:VecO y.qa y.qc y.ws y.Eq
  a:VecO y.aa y.ac y.ws y.Ea
  bys:Bys y.ws
  len:y.ws.length≤300*k
  fit:(y.ws.length:Int)≤most

section Gq
attribute [local irreducible] WL WC WE WQ WP WH WR WM WRH

end Gq

def AtL.AH (a:AtL):List Value:=[.int .i64 a.has, .int .i64 a.origin, .slice a.pad a.path.length a.pc, .int .i64 a.hop, .int .i64 a.med, .int .i64 a.loc, .int .i64 a.aas, .int .i64 a.aid, .slice a.cad a.comms.length a.cc, .slice a.oad a.others.length a.oc]
def MsL.AH (m:MsL):List Value:=[.int .i64 m.kind, .int .i64 m.asn, .int .i64 m.hold, .int .u32 m.id, .slice m.kad m.CS.length m.kc, .slice m.gad m.gone.length m.gc, .int .i64 m.atr.has, .int .i64 m.atr.origin, .slice m.atr.pad m.atr.path.length m.atr.pc, .int .i64 m.atr.hop, .int .i64 m.atr.med, .int .i64 m.atr.loc, .int .i64 m.atr.aas, .int .i64 m.atr.aid, .slice m.atr.cad m.atr.comms.length m.atr.cc, .slice m.atr.oad m.atr.others.length m.atr.oc, .slice m.nad m.nets.length m.nc, .int .i64 m.fc, .int .i64 m.fs, .string m.fd]
section Gq
attribute [local irreducible] WL WC WE WQ WP WH WR WM WRH

set_option maxHeartbeats 1000000 in
theorem LZ (w:World) (b o c:Nat) (ys:List Int) (hW:Win w b o c ys) (hn:ys.length≤6) :
    Calls Tryz.prog 116 #[.slice (some ⟨b,o,none⟩) ys.length c] w fun e w'=>e = .returned (.int .i64 (AJ ys))∧Frm (fun _=>False) w w':=by
  refine enter Tryz.func116 rfl Tryz.ntmps116 rfl (St.start (fun _=>False) w) ?_
  refine J19 ?_
  refine WC.loop (fun k:Nat=>[(8, .int .i64 k),(7, .int .i64 ys.length),(6, .slice (some ⟨b,o,none⟩) ys.length c),(3, .int .i64 (AJ (ys.take k)))]) (fun _=>[]) (fun k=>k≤ys.length) (fun k=>ys.length-k) 0 (Nat.zero_le _) Km (.refl _) ?_
  intro k hk
  refine J2 ?_
  refine JT (fun h9=>?_) (fun h9=>?_)
  refine J10 ?_
  obtain ⟨x,hx⟩:∃ x,ys[k]?=some x:=⟨ys[k]' Er,List.getElem?_eq_getElem _⟩
  have hxb:=hW.bys x (List.mem_of_getElem? hx)
  have htl:(ys.take k).length=k:=Fy
  have hrb:=IQ k (ys.take k) htl (fun x hx=>hW.bys x (List.mem_of_mem_take hx))
  have hp:(256:Int) ^ k≤256 ^ 5:=(by
    have:k=0∨k=1∨k=2∨k=3∨k=4∨k=5:=by omega
    rcases this with rfl|rfl|rfl|rfl|rfl|rfl <;> decide)
  have hp5:(256:Int) ^ 5=1099511627776:=Et
  refine zV (AB (lo:=k) rfl rfl rfl Tryz.underlying25 AO Er Er) rfl ?_
  refine zV (AA rfl rfl BH (AL (fun h=>h) (hW.get hx))) rfl ?_
  refine J5 ?_
  refine zV (FY rfl rfl rfl (AF Er Er)) rfl ?_
  refine J1 ?_
  refine zV (AQ rfl rfl Tryz.underlying3 Tryz.underlying5 (AF Er Er)) rfl ?_
  refine zV (AS rfl rfl rfl (show _=AJ (ys.take (k+1)) from (AF Er Er).trans (by rw [GW hx,Mb]))) rfl ?_
  exact Bp
  exact By
theorem RIn_c (w:World) (n lo hi:Int):Calls Tryz.prog 117 #[.int .i64 n, .int .i64 lo, .int .i64 hi] w fun e w'=>e = .returned (.bool (decide (lo≤n∧n≤hi)))∧Frm (fun _=>False) w w':=by
  refine enter Tryz.func117 rfl Tryz.ntmps117 rfl (St.start (fun _=>False) w) ?_
  refine J9 ?_
  refine JT (fun h9=>?_) (fun h9=>?_)
  refine J3 ?_
  refine JT (fun h13=>?_) (fun h13=>?_)
  refine J5 ?_
  refine eT1 ?_
  exact fun w' h=>⟨by rw [decide_eq_true Er],h.frm⟩
  refine J5 ?_
  refine eT1 ?_
  exact fun w' h=>⟨by rw [decide_eq_false Er],h.frm⟩
  refine J9 ?_
  refine eT1 ?_
  exact fun w' h=>⟨by rw [decide_eq_false Er],h.frm⟩
theorem RHop_c (w:World) (a:Int) (ha:0≤a) (ha2:a≤4294967295):Calls Tryz.prog 119 #[.int .i64 a] w fun e w'=>e = .returned (.bool (Kq a))∧Frm (fun _=>False) w w':=by
  refine enter Tryz.func119 rfl Tryz.ntmps119 rfl (St.start (fun _=>False) w) ?_
  refine J8 ?_
  refine zV (Jb rfl rfl rfl Fl (show _=a / 16777216 from by rw [Int.tdiv_eq_ediv_of_nonneg ha];exact AF Er Er)) rfl ?_
  exact Ba
end Gq

section
variable {P:Program}{ops:Array Oper}{Q:Exit→Act→World→Prop}{n:Nat}{p:Nat→Prop}{w0:World}{o:Oper}{rest:List Oper}{l:Kn}{L:List Ent}{t kt et:Nat}{x xi:Operand}{K:Value→Prop}{A:Value}{es:Array MapEntry}{m:Value→Option Value}
end
def M4 (c:Int):Int:=if c=1 then 3 else if c=2 then 6 else if c=3 then 11 else if c=6 then 1 else 0

def AtL.r0 (a:AtL) (ad:Option Addr) (c:Nat) (ss:List DO) (bd:Option Addr) (bc:Nat) (os:List CB):AtL:={ a with pad:=ad,pc:=c,path:=ss,oad:=bd,oc:=bc,others:=os }
def AtL.rc (a:AtL) (ad:Option Addr) (c n:Nat) (bd:Option Addr) (bc m:Nat):List Value:=[.int .i64 a.has, .int .i64 a.origin, .slice ad n c, .int .i64 a.hop, .int .i64 a.med, .int .i64 a.loc, .int .i64 a.aas, .int .i64 a.aid, .slice a.cad a.comms.length a.cc, .slice bd m bc]

theorem St.M6 {p:Nat→Prop}{w0 w:World}{L L':List Ent}(hS:St p w0 w L) (h:∀ c:Ent→List Ent→Nat,(∀ e a b l,c e (a::b::l)=c e (b::l)+c e [a])→(∀ e a l r,c e (a::(l++r))=c e (l++r)+c e [a])→(∀ e l r,c e (l++r)=c e l+c e r)→∀ e,c e L=c e L'):St p w0 w L':=hS.perm (by
  classical
  refine List.perm_iff_count.2 fun e=>(h (fun e l=>l.count e) ?_ ?_ ?_ e).symm
  · intro e a b l
    rw [List.count_cons,List.count_singleton]
  · intro e a l r
    rw [List.count_cons,List.count_singleton]
  · intro e l r
    exact List.count_append)
def MsL.rc (m:MsL) (kad:Option Addr) (kc kn:Nat) (gad:Option Addr) (gc:Nat) (pad:Option Addr) (pc:Nat) (oad:Option Addr) (oc:Nat) (nad:Option Addr) (nc:Nat):List Value:=[.int .i64 m.kind, .int .i64 m.asn, .int .i64 m.hold, .int .u32 m.id, .slice kad kn kc, .slice gad m.gone.length gc, .int .i64 m.atr.has, .int .i64 m.atr.origin, .slice pad m.atr.path.length pc, .int .i64 m.atr.hop, .int .i64 m.atr.med, .int .i64 m.atr.loc, .int .i64 m.atr.aas, .int .i64 m.atr.aid, .slice m.atr.cad m.atr.comms.length m.atr.cc, .slice oad m.atr.others.length oc, .slice nad m.nets.length nc, .int .i64 m.fc, .int .i64 m.fs, .string m.fd]
structure PlS where
  g3:Nat
  gad:Option Addr
  gc:Nat
  EG:List Ent
  pad:Option Addr
  pc:Nat
  EP:List Ent
  oad:Option Addr
  oc:Nat
  EO:List Ent
  nad:Option Addr
  nc:Nat
  EN:List Ent
structure PlS.Good (x:PlS) (m:MsL):Prop where
  gone:Vec 2 x.gad m.gone.length x.gc (NR m.gone) x.EG
  path:Vec 2 x.pad m.atr.path.length x.pc (IL m.atr.path) x.EP
  Jk:Vec 2 x.oad m.atr.others.length x.oc (EA m.atr.others) x.EO
  nets:Vec 2 x.nad m.nets.length x.nc (NR m.nets) x.EN
def PlS.cells (x:PlS) (m:MsL) (kad:Option Addr) (kc kn:Nat):List Value:=m.rc kad kc kn x.gad x.gc x.pad x.pc x.oad x.oc x.nad x.nc
def PlS.K (x:PlS):List Ent:=x.EG++(x.EP++(x.EO++x.EN))
def PlS.m (x:PlS) (m:MsL) (kad:Option Addr) (kc:Nat):MsL:={ m with kad:=kad,kc:=kc,gad:=x.gad,gc:=x.gc,atr:=m.atr.r0 x.pad x.pc m.atr.path x.oad x.oc m.atr.others,nad:=x.nad,nc:=x.nc }
theorem WL.rowAs {P:Program}{ops:Array Oper}{Q:Exit→Act→World→Prop}{n:Nat}{p:Nat→Prop}{w0:World}{rest:List Oper}{l:Kn}{L L':List Ent}{g:Nat}{cs cs':List Value}[ha:At L g cs] [hp:Put L g (.row g cs') L'] (e:cs=cs')
    (h:WL P ops Q n p w0 rest l L'):WL P ops Q n p w0 rest l L:=fun a w hA hS=>h a w hA (by
  have hm:=ha.mem
  rw [e] at hm
  obtain ⟨A,B,e',h1,h2,h3⟩:=hp.ok rfl
  rw [h2]
  have hd:(A++Ent.row g cs'::B).map Ent.at=L.map Ent.at:=by
    rw [h1,List.map_append,List.map_append,List.map_cons,List.map_cons,h3]
    rfl
  have hin:∀ x∈A++Ent.row g cs'::B,x∈L:=fun x hx=>by
    rcases List.mem_append.1 hx with hx|hx
    · rw [h1];exact List.mem_append_left _ hx
    · rcases List.mem_cons.1 hx with rfl|hx
      · exact hm
      · rw [h1];exact List.mem_append_right _ (List.mem_cons_of_mem _ hx)
  exact ⟨hS.frm,fun x hx=>hS.holds x (hin x hx),by rw [hd];exact hS.dist,fun x hx=>hS.mine x (hin x hx)⟩)

theorem rgOne {w:World}{b o k:Nat}{cs:List Value}{v:Value}(h:w.rangeAt b o cs) (hk:cs[k]?=some v):w.cell? ⟨b,o+k*1,none⟩=some v:=by rw [Nat.mul_one];exact h k v hk

theorem rdVal {w w':World}{L:List Ent}{ad:Option Addr}{xs:List Int}(h:AU w ad (u8s xs)) (hS:St (fun _=>False) w w' L):RdO w' ad xs.length (fOf xs):=fun hn=>by
  obtain ⟨b,o,e,hr⟩:=h (by rw [GO];exact hn)
  exact ⟨b,o,e,DV (hS.rng (fun _ h=>h) _ _ _ hr)⟩



structure AtG (N:Nat) (d:AtD):Prop where
  each:∀ k,1≤k→k≤8→Nf d k=true
  hop:U32 d.hop
  aid:U32 d.aid
  path:4*d.path.length≤N
  Jk:∀ o∈d.others,9≤o.1∧o.1≤255∧Bys o.2∧o.2.length≤N
theorem HG {d d':AtD}{k:Nat}(h1:hasB d'.has k=hasB d.has k) (h2:RA d' k=RA d k) (h3:TV d' k=TV d k) (h:Nf d k=true):Nf d' k=true:=by
  unfold Nf at h ⊢
  rw [h1,h2,h3]
  exact h
theorem IC {d:AtD}{k:Nat}(h1:hasB d.has k=true) (h2:RA d k=true):Nf d k=true:=by
  unfold Nf
  rw [h1]
  exact h2
theorem WZ {h:Int}{t:Nat}(h1:1≤t) (h8:t≤8) (hb:h / 2 ^ t % 2=0):hasB (h+2 ^ t) t=true:=by
  refine (OM h1 h8).2 ?_
  have:t=1∨t=2∨t=3∨t=4∨t=5∨t=6∨t=7∨t=8:=by omega
  rcases this with rfl|rfl|rfl|rfl|rfl|rfl|rfl|rfl <;> omega
theorem UT {h:Int}{t k:Nat}(h0:0≤h) (h1:h≤511) (ht:t≤8) (hb:h / 2 ^ t % 2=0) (hk:k≤8) (hne:k≠t):hasB (h+2 ^ t) k=hasB h k:=by
  have:=(QE h0 h1 ht hb).2 k hk hne
  unfold hasB
  rw [this]
theorem UX {v:List Int}(h:Bys v) (hl:v.length=2):0≤AJ v∧AJ v≤65535:=by
  match v,hl with
  | [a,b],_=>have:=h a Fe;have:=h b Fe;show 0≤(0*256+a)*256+b∧(0*256+a)*256+b≤65535;omega
theorem PE {v:List Int}(h:Bys v) (hl:v.length=4):0≤AJ v∧AJ v≤4294967295:=by
  match v,hl with
  | [a,b,c,d],_ =>
    have:=h a Fe;have:=h b Fe;have:=h c Fe;have:=h d Fe
    show 0≤(((0*256+a)*256+b)*256+c)*256+d∧(((0*256+a)*256+b)*256+c)*256+d≤4294967295;omega
theorem Vz:∀ {v:List Int},Bys v→∀ x∈FD v,0≤x∧x≤4294967295
  | a::b::c::d::xs,h,x,hx=>by
    rw [FD] at hx
    rcases List.mem_cons.1 hx with rfl|hx
    · exact PE (fun y hy=>h y (by simp at hy ⊢;rcases hy with h|h|h|h <;> simp [h])) rfl
    · exact Vz (fun y hy=>h y (by simp [hy])) x hx
  | [],_,x,hx=>by simp [FD] at hx
  | [_],_,x,hx=>by simp [FD] at hx
  | [_,_],_,x,hx=>by simp [FD] at hx
  | [_,_,_],_,x,hx=>by simp [FD] at hx
theorem Vg:∀ (v:List Int),(FD v).length≤v.length / 4
  | a::b::c::d::xs=>by have:=Vg xs;simp only [FD,List.length_cons];omega
  | []=>by simp [FD]
  | [_]=>by simp [FD]
  | [_,_]=>by simp [FD]
  | [_,_,_]=>by simp [FD]
theorem Qg:∀ (v:List Int){p:List (Bool×List Int)},DN v=some p→p.all GG=true→4*p.length≤v.length
  | [],p,h,_=>by rw [DN] at h;cases h;exact Nat.le_refl _
  | [_],p,h,_=>by rw [DN] at h;cases h
  | x::n::xs,p,h,ha=>by
    rw [HA] at h
    split at h
    · cases h
    · rename_i hn
      obtain ⟨q,hq,rfl⟩:=Option.map_eq_some_iff.1 h
      rw [List.all_cons,Bool.and_eq_true] at ha
      have ih:=Qg (xs.drop (2*n.toNat)) hq ha.2
      have h1:=ha.1
      unfold GG at h1
      rw [Bool.and_eq_true] at h1
      have h2:=of_decide_eq_true h1.1
      rw [List.length_map,List.length_range] at h2
      rw [List.length_drop] at ih
      rw [List.length_cons,List.length_cons,List.length_cons]
      omega
termination_by v=>v.length
decreasing_by simp only [List.length_drop,List.length_cons];omega
theorem TX {k:Nat}(h1:1≤k) (h8:k≤8):k=1∨k=2∨k=3∨k=4∨k=5∨k=6∨k=7∨k=8:=by omega
theorem AtG.zero (N:Nat):AtG N AtL.zero.d:=⟨fun k h1 h8=>by rcases TX h1 h8 with rfl|rfl|rfl|rfl|rfl|rfl|rfl|rfl <;> decide,⟨by decide,by decide⟩,⟨by decide,by decide⟩,Nat.zero_le _,fun _ h=>by cases h⟩
set_option maxHeartbeats 1000000 in
theorem AtG.take {N:Nat}{d d':AtD}{all v:List Int}(hG:AtG N d) (hv:Bys v) (hvl:v.length≤N) (h18:1≤fOf all 1∧fOf all 1≤8) (h0:0≤d.has) (h1:d.has≤511) (hb:d.has / 2 ^ (fOf all 1).toNat % 2=0) (hcom:fOf all 1=8→d.comms=[]) (h:CL d all v = .inl d'):AtG N d':=by
  obtain ⟨t,ht⟩:=Int.eq_ofNat_of_zero_le (show 0≤fOf all 1 by omega)
  unfold CL at h
  rw [ht,Int.toNat_natCast] at h
  rw [ht,Int.toNat_natCast] at hb
  rw [ht] at hcom
  split at h
  · cases h
  split at h
  · cases h
  rename_i hsz
  split at h
  · cases h
  rename_i h256
  split at h
  · cases h
  rename_i d2 hs
  split at h
  · cases h
  rename_i g2
  split at h
  · cases h
  rename_i g1
  split at h
  · cases h
  rename_i g3
  cases h
  have t1:1≤t:=Er
  have t8:t≤8:=Er
  have hn:=WZ t1 t8 hb
  have hk:∀ k,k≤8→k≠t→hasB (d.has+2 ^ t) k=hasB d.has k:=fun k k8 e=>UT h0 h1 t8 hb k8 e
  rcases TX t1 t8 with rfl|rfl|rfl|rfl|rfl|rfl|rfl|rfl
  · obtain rfl:{ d with origin:=AJ v }=d2:=Option.some.inj hs
    refine ⟨fun k k1 k8=>?_,hG.hop,hG.aid,hG.path,hG.Jk⟩
    by_cases e:k=1
    · subst e
      refine IC hn ?_
      show wiB (AJ v) 2=true
      cases hw:wiB (AJ v) 2
      · exact absurd ⟨rfl,hw⟩ g1
      · rfl
    · exact HG (hk k k8 e) Ev Ev (hG.each k k1 k8)
  · obtain ⟨p,hp,rfl⟩:=Option.map_eq_some_iff.1 (show (DN v).map (fun p=>{ d with path:=p })=some d2 from hs)
    have hall:p.all GG=true:=by
      cases hw:p.all GG
      · exact absurd ⟨rfl,hw⟩ g2
      · rfl
    have hpl:=Qg v hp hall
    refine ⟨fun k k1 k8=>?_,hG.hop,hG.aid,by show 4*p.length≤N;omega,hG.Jk⟩
    by_cases e:k=2
    · subst e
      exact IC hn hall
    · exact HG (hk k k8 e) Ev Ev (hG.each k k1 k8)
  · obtain rfl:{ d with hop:=AJ v }=d2:=Option.some.inj hs
    have hl:v.length=4:=by
      exact C1
    refine ⟨fun k k1 k8=>?_,PE hv hl,hG.aid,hG.path,hG.Jk⟩
    by_cases e:k=3
    · subst e
      refine IC hn ?_
      show Kq (AJ v)=true
      cases hw:Kq (AJ v)
      · exact absurd ⟨rfl,hw⟩ g3
      · rfl
    · exact HG (hk k k8 e) Ev Ev (hG.each k k1 k8)
  · obtain rfl:{ d with med:=AJ v }=d2:=Option.some.inj hs
    have hl:v.length=4:=by
      exact C1
    refine ⟨fun k k1 k8=>?_,hG.hop,hG.aid,hG.path,hG.Jk⟩
    by_cases e:k=4
    · subst e
      exact IC hn (decide_eq_true (PE hv hl))
    · exact HG (hk k k8 e) Ev Ev (hG.each k k1 k8)
  · obtain rfl:{ d with loc:=AJ v }=d2:=Option.some.inj hs
    have hl:v.length=4:=by
      exact C1
    refine ⟨fun k k1 k8=>?_,hG.hop,hG.aid,hG.path,hG.Jk⟩
    by_cases e:k=5
    · subst e
      exact IC hn (decide_eq_true (PE hv hl))
    · exact HG (hk k k8 e) Ev Ev (hG.each k k1 k8)
  · obtain rfl:d=d2:=Option.some.inj hs
    refine ⟨fun k k1 k8=>?_,hG.hop,hG.aid,hG.path,hG.Jk⟩
    by_cases e:k=6
    · subst e
      exact IC hn rfl
    · exact HG (hk k k8 e) Ev Ev (hG.each k k1 k8)
  · obtain rfl:{ d with aas:=AJ (v.take 2),aid:=AJ (v.drop 2) }=d2:=Option.some.inj hs
    have hl:v.length=6:=by
      have:¬ ((0≤(6:Int)∧(v.length:Int)≠6)∨_):=hsz
      omega
    refine ⟨fun k k1 k8=>?_,hG.hop,PE (fun x hx=>hv x (List.mem_of_mem_drop hx)) Ex,hG.path,hG.Jk⟩
    by_cases e:k=7
    · subst e
      exact IC hn (decide_eq_true (UX (fun x hx=>hv x (List.mem_of_mem_take hx)) Ey))
    · exact HG (hk k k8 e) Ev Ev (hG.each k k1 k8)
  · obtain rfl:{ d with comms:=d.comms++FD v }=d2:=Option.some.inj hs
    have hl:¬ 256<v.length / 4:=fun hh=>h256 ⟨rfl,hh⟩
    refine ⟨fun k k1 k8=>?_,hG.hop,hG.aid,hG.path,hG.Jk⟩
    by_cases e:k=8
    · subst e
      refine IC hn ?_
      show Jd (d.comms++FD v)=true
      rw [hcom rfl,List.nil_append]
      unfold Jd
      have:=Vg v
      rw [decide_eq_true (show (FD v).length≤256 by omega),Bool.and_true]
      exact List.all_eq_true.2 fun x hx=>decide_eq_true (Vz hv x hx)
    · exact HG (hk k k8 e) Ev Ev (hG.each k k1 k8)

theorem AtG.other {N:Nat}{d d':AtD}{all v:List Int}(hG:AtG N d) (hB:Bys all) (hv:Bys v) (hvl:v.length≤N) (h18:¬ (1≤fOf all 1∧fOf all 1≤8)) (h:DY d all v = .inl d'):AtG N d':=by
  have hb:=CP hB 1
  unfold DY at h
  split at h
  · cases h
  split at h
  · rename_i hc
    cases h
    refine ⟨hG.each,hG.hop,hG.aid,hG.path,fun o ho=>?_⟩
    rcases List.mem_append.1 ho with ho|ho
    · exact hG.Jk o ho
    · obtain rfl:o=(fOf all 1,v):=by simpa using ho
      exact ⟨by show 9≤fOf all 1;omega,hb.2,hv,hvl⟩
  · cases h;exact hG
theorem AtG.step {N:Nat}{d d':AtD}{seen all v:List Int}(hG:AtG N d) (hS:KR d seen) (hB:Bys all) (hv:Bys v) (hvl:v.length≤N) (hn:fOf all 1 ∉ seen) (h:DP d all v = .inl d'):AtG N d':=by
  have hb:=CP hB 1
  unfold DP at h
  split at h
  · rename_i h18
    refine hG.take hv hvl h18 hS.h0 hS.h1 ?_ (fun e=>hS.com (by rw [← e];exact hn)) h
    obtain ⟨t,ht⟩:=Int.eq_ofNat_of_zero_le hb.1
    rw [ht,Int.toNat_natCast]
    exact hS.bit t Er (.inr (by rw [← ht];exact hn))
  · rename_i h18
    exact hG.other hB hv hvl h18 h
theorem QU (N:Nat):∀ (n:Nat) (d:AtD) (seen xs:List Int){d':AtD},xs.length≤n→xs.length≤N→Bys xs→KR d seen→AtG N d→ED d seen xs = .inl d'→AtG N d'∧∃ seen',KR d' seen'
  | _,d,seen,[],d',_,_,_,hS,hG,h=>by
    rw [Kg] at h
    cases h
    exact ⟨hG,seen,hS⟩
  | 0,d,seen,x::xs,d',hn,_,_,_,_,_=>by simp at hn
  | n+1,d,seen,x::xs,d',hn,hN,hB,hS,hG,h=>by
    by_cases hc:(x::xs).length<BC (x::xs)∨(x::xs).length<toN (x::xs)∨fOf (x::xs) 1∈seen
    · rw [HU Fe hc] at h;cases h
    · rw [Ij Fe hc] at h
      have hf:=KL (x::xs)
      have ht:=L7 (x::xs)
      have e1:fOf ((x::xs).take (toN (x::xs))) 1=fOf (x::xs) 1:=by
        unfold fOf
        rw [List.getD_eq_getElem?_getD,List.getD_eq_getElem?_getD,List.getElem?_take,if_pos Er]
      have hBt:Bys ((x::xs).take (toN (x::xs))):=fun y hy=>hB y (List.mem_of_mem_take hy)
      have hBv:Bys (((x::xs).take (toN (x::xs))).drop (BC (x::xs))):=fun y hy=>hBt y (List.mem_of_mem_drop hy)
      have hvl:(((x::xs).take (toN (x::xs))).drop (BC (x::xs))).length≤N:=by rw [List.length_drop,List.length_take];omega
      have hns:fOf ((x::xs).take (toN (x::xs))) 1 ∉ seen:=by rw [e1];exact fun hh=>hc (.inr (.inr hh))
      cases hs:DP d ((x::xs).take (toN (x::xs))) (((x::xs).take (toN (x::xs))).drop (BC (x::xs))) with
      | inr f=>rw [hs] at h;cases h
      | inl d2 =>
        rw [hs] at h
        have hS2:=hS.step hBt hns hs
        rw [e1] at hS2
        exact QU N n d2 _ _ Ex Ex (fun y hy=>hB y (List.mem_of_mem_drop hy)) hS2 (hG.step hS hBt hBv hvl hns hs) h
theorem KR.zero:KR AtL.zero.d []:=⟨by decide,by decide,fun t _ _=>by show (0:Int) / 2 ^ t % 2=0;rw [Int.zero_ediv];rfl,fun _=>rfl,List.nodup_nil,fun t h=>by cases h⟩
section Gq
attribute [local irreducible] WL WC WE WQ WP WH WR WM WRH

def DC (v:List Int):Option (List (Bool×List Int)):=(DN v).bind fun p=>if p.all GG then some p else none
def asL (zs:List Int) (n:Nat):List Int:=(List.range n).map fun i=>AJ ((zs.drop (2*i)).take 2)
theorem U6:DC []=some []:=by unfold DC;rw [DN];rfl
theorem U2 (y:Int):DC [y]=none:=by unfold DC;rw [DN];rfl
theorem ON {x n:Int}{zs:List Int}(h:x≠1∧x≠2∨zs.length<2*n.toNat):DC (x::n::zs)=none:=by unfold DC;rw [HA,if_pos h];rfl
theorem P5 {x n:Int}{zs:List Int}(h:GG (decide (x=1),asL zs n.toNat)=false):DC (x::n::zs)=none:=by
  unfold DC
  rw [HA]
  split
  · rfl
  · cases hq:DN (zs.drop (2*n.toNat)) with
    | none=>rfl
    | some q =>
      show (if List.all ((decide (x=1),asL zs n.toNat)::q) GG then _ else _)=_
      rw [List.all_cons,h]
      rfl
theorem Ww {x n:Int}{zs:List Int}(h:¬ (x≠1∧x≠2∨zs.length<2*n.toNat)) (hs:GG (decide (x=1),asL zs n.toNat)=true):DC (x::n::zs)=(DC (zs.drop (2*n.toNat))).map ((decide (x=1),asL zs n.toNat) :: ·):=by
  unfold DC
  rw [HA,if_neg h]
  cases hq:DN (zs.drop (2*n.toNat)) with
  | none=>rfl
  | some q =>
    show (if List.all ((decide (x=1),asL zs n.toNat)::q) GG then _ else _)=Option.map _ (if q.all GG then some q else none)
    rw [List.all_cons,hs,Bool.true_and]
    cases q.all GG <;> rfl
theorem M8 (zs:List Int) (n:Nat):(asL zs n).length=n:=by unfold asL;rw [List.length_map,List.length_range]
theorem TE (zs:List Int) (n:Nat):asL zs (n+1)=asL zs n++[AJ ((zs.drop (2*n)).take 2)]:=by unfold asL;rw [List.range_succ,List.map_append];rfl
theorem asL_b {zs:List Int}(hB:Bys zs){n:Nat}(hn:2*n≤zs.length):∀ x∈asL zs n,0≤x∧x≤65535:=fun x hx=>by
  unfold asL at hx
  obtain ⟨i,hi,rfl⟩:=List.mem_map.1 hx
  have:=List.mem_range.1 hi
  exact UX (fun y hy=>hB y (List.mem_of_mem_drop (List.mem_of_mem_take hy))) F1
theorem Aak {b:Bool}{al:List Int}(h1:1≤al.length) (h2:al.length≤255) (h:∀ x∈al,x≠0∧0≤x∧x≤65535):GG (b,al)=true:=by
  unfold GG
  rw [decide_eq_true (show 1≤al.length∧al.length≤255 from ⟨h1,h2⟩),Bool.true_and]
  exact List.all_eq_true.2 fun x hx=>decide_eq_true (by have:=h x hx;omega)
theorem Ox {b:Bool}{al:List Int}(h:al.length=0∨0∈al):GG (b,al)=false:=by
  cases hs:GG (b,al)
  · rfl
  · unfold GG at hs
    rw [Bool.and_eq_true] at hs
    have h1:=of_decide_eq_true hs.1
    rcases h with h|h
    · have h2:1≤al.length:=h1.1;omega
    · have:=of_decide_eq_true (List.all_eq_true.1 hs.2 0 h)
      omega
theorem Win.numd {w:World}{b o c:Nat}{xs:List Int}(h:Win w b o c xs) (lo:Nat) (hk:lo+2≤xs.length):Calls Tryz.prog 116 #[.slice (some ⟨b,AV o lo c 1,none⟩) (lo+2-lo) (c-lo)] w fun e w'=>e = .returned (.int .i64 (AJ ((xs.drop lo).take 2)))∧Frm (fun _=>False) w w':=by
  have hl:((xs.take (lo+2)).drop lo).length=lo+2-lo:=by rw [List.length_drop,List.length_take];omega
  have e:=LZ w b (AV o lo c 1) (c-lo) ((xs.take (lo+2)).drop lo) ((h.take (lo+2)).drop lo) Er
  rw [hl,List.drop_take,Nat.add_sub_cancel_left] at e
  rw [Nat.add_sub_cancel_left]
  exact e
structure PaS where
  k:Nat
  ss:List DO
  ad:Option Addr
  c:Nat
  E:List Ent
  KO:List Ent
def L2 (w w':World) (v:List Int) (e:Ending):Prop :=
  match DC v with
  | none=>e = .returned (.tuple #[.slice none 0 0, .bool false])∧Frm (fun _=>False) w w'
  | some ps=>∃ ss ad c E K,e = .returned (.tuple #[.slice ad ss.length c, .bool true])∧ss.map Ik=ps∧Vec 2 ad ss.length c (IL ss) E∧(∀ s∈ss,Kp K s)∧St (fun _=>False) w w' (E++K)
theorem L2.no {w w':World}{v:List Int}{L:List Ent}(h:DC v=none) (hS:St (fun _=>False) w w' L):L2 w w' v (.returned (.tuple #[.slice none 0 0, .bool false])):=by
  unfold L2
  rw [h]
  exact ⟨rfl,hS.frm⟩
set_option maxHeartbeats 8000000 in
theorem YV (w:World) (b o cv:Nat) (v:List Int) (hW:Win w b o cv v) (hn:v.length≤100000) :
    Calls Tryz.prog 118 #[.slice (some ⟨b,o,none⟩) v.length cv] w fun e w'=>L2 w w' v e:=by
  have hle:=hW.le
  refine enter Tryz.func118 rfl Tryz.ntmps118 rfl (St.start (fun _=>False) w) ?_
  refine J8 ?_
  refine zB Tryz.underlying116 Q0 Lk rfl rfl ?_
  intro g9 hg9
  refine J10 ?_
  refine WC.loop (fun x:PaS=>[(5, .int .i64 x.k),(4, .slice x.ad x.ss.length x.c),(0, .slice (some ⟨b,o,none⟩) v.length cv)]) (fun x=>x.E++x.KO) (fun x=>x.k≤v.length∧DC v=(DC (v.drop x.k)).map (x.ss.map Ik ++ ·)∧Vec 2 x.ad x.ss.length x.c (IL x.ss) x.E∧x.ss.length≤x.k∧∀ s∈x.ss,Kp x.KO s) (fun x=>v.length-x.k) ⟨0,[],some ⟨g9,0,none⟩,0,[.row g9 []],[]⟩ ⟨Nat.zero_le _,by dsimp only;rw [List.drop_zero];cases DC v <;> rfl,Vec.row (k:=0) rfl rfl (Nat.le_refl _),Nat.zero_le _,fun s h=>by cases h⟩ Km (.refl _) ?_
  rintro ⟨k,ss,ad,c,E,KO⟩ ⟨hk,hp,hV,hsl,hO⟩
  dsimp only at hk hp hV hsl hO
  dsimp only
  refine J6 ?_
  refine JT (fun h13=>?_) (fun h13=>?_)
  refine J13 ?_
  refine JT (fun h18=>?_) (fun h18=>?_)
  refine J30 ?_
  refine J17 ?_
  refine eT2 ?_
  have e0:DC v=none:=(by
    rw [hp]
    have hl:(v.drop k).length=1:=Ex
    obtain ⟨y,hy⟩:∃ y,v.drop k=[y]:=List.length_eq_one_iff.1 hl
    rw [hy,U2];rfl)
  exact Da
  refine J1 ?_
  obtain ⟨x,hx⟩:∃ x,v[k]?=some x:=⟨v[k]' Er,List.getElem?_eq_getElem _⟩
  obtain ⟨n,hnx⟩:∃ n,v[k+1]?=some n:=⟨v[k+1]' Er,List.getElem?_eq_getElem _⟩
  have hbx:=hW.bys x (List.mem_of_getElem? hx)
  have hbn:=hW.bys n (List.mem_of_getElem? hnx)
  have hdr:v.drop k=x::n::v.drop (k+2):=(by rw [Gt hx,Gt hnx])
  rw [hdr] at hp
  obtain ⟨m,rfl⟩:=Int.eq_ofNat_of_zero_le hbn.1
  refine J2 ?_
  refine zS (AB (lo:=k) rfl rfl rfl Tryz.underlying25 AO Er Er) rfl ?_
  refine zS (AA rfl rfl BH (AL (fun h=>h) (hW.get hx))) rfl ?_
  refine zS (AQ rfl rfl Tryz.underlying3 Tryz.underlying5 (AF Er Er)) rfl ?_
  refine zk YW rfl (fun w hS=>RIn_c _ x 1 2) ?_
  generalize hq:decide (1≤x∧x≤2)=b25
  cases b25
  refine J30 ?_
  refine J10 ?_
  refine eT2 ?_
  have e0:DC v=none:=(by
    rw [hp,ON (.inl (by have:=of_decide_eq_false hq;omega))];rfl)
  exact Da
  refine J6 ?_
  refine zS (AB (lo:=k+1) rfl rfl rfl Tryz.underlying25 AO Er Er) rfl ?_
  refine zS (AA rfl rfl BH (AL (fun h=>h) (hW.get hnx))) rfl ?_
  refine JT (fun h34=>?_) (fun h34=>?_)
  refine J30 ?_
  refine J1 ?_
  refine eT2 ?_
  have e0:DC v=none:=(by
    rw [hp,P5 (Ox (.inl (by rw [M8];omega)))];rfl)
  exact Da
  refine J7 ?_
  refine zS (AB (lo:=k+1) rfl rfl rfl Tryz.underlying25 AO Er Er) rfl ?_
  refine zS (AA rfl rfl BH (AL (fun h=>h) (hW.get hnx))) rfl ?_
  refine zS (AQ rfl rfl Tryz.underlying3 Tryz.underlying5 (AF Er Er)) rfl ?_
  refine zS (FY rfl rfl rfl (AF Er Er)) rfl ?_
  refine J3 ?_
  refine JT (fun h49=>?_) (fun h49=>?_)
  refine J16 ?_
  refine eT2 ?_
  have e0:DC v=none:=(by
    rw [hp,ON (.inr Ex)];rfl)
  exact Da
  refine J10 ?_
  refine zV (AB (lo:=k) rfl rfl rfl Tryz.underlying25 AO Er Er) rfl ?_
  refine zV (AA rfl rfl BH (AL (fun h=>h) (hW.get hx))) rfl<|zV (AZ rfl rfl rfl) rfl<|?_
  refine J1 ?_
  refine WL.alloc rfl Lk (.none rfl) rfl rfl ?_
  intro g6 hg6
  refine J1 ?_
  refine WL.as (L':=.row g6 [.bool (decide (x=1)), .slice none 0 0]::(E++KO)) rfl ?_
  refine J9 ?_
  refine WC.loop (fun y:Nat×Option Addr×Nat×List Ent=>[(7, .int .i64 y.1),(6, .pointer (some ⟨g6,0,none⟩)),(5, .int .i64 k),(4, .slice ad ss.length c),(0, .slice (some ⟨b,o,none⟩) v.length cv)]) (fun y=>y.2.2.2++(.row g6 [.bool (decide (x=1)), .slice y.2.1 y.1 y.2.2.1]::(E++KO))) (fun y=>y.1≤m∧Vec 1 y.2.1 y.1 y.2.2.1 (CG (asL (v.drop (k+2)) y.1)) y.2.2.2∧∀ z∈asL (v.drop (k+2)) y.1,z≠0) (fun y=>m-y.1) (0,none,0,[]) ⟨Nat.zero_le _,Vec.nil 1,fun z hz=>by cases hz⟩ Km (.refl _) ?_
  rintro ⟨i,fd,fc,F⟩ ⟨hi,hF,hnz⟩
  dsimp only at hi hF hnz
  dsimp only
  refine J7 ?_
  refine zV (AB (lo:=k+1) rfl rfl rfl Tryz.underlying25 AO Er Er) rfl ?_
  refine zV (AA rfl rfl BH (AL (fun h=>h) (hW.get hnx))) rfl ?_
  refine zV (AQ rfl rfl Tryz.underlying3 Tryz.underlying5 (AF Er Er)) rfl ?_
  refine JT (fun h64=>?_) (fun h64=>?_)
  refine J9 ?_
  have hln:2*(i+1)≤(v.drop (k+2)).length:=Ex
  refine J4 ?_
  refine zV (FY rfl rfl rfl (AF Er Er)) rfl ?_
  refine zV (AS rfl rfl rfl (show _=((k+2+2*i:Nat):Int) from (AF Er Er).trans Er)) rfl ?_
  refine J3 ?_
  refine zV (FY rfl rfl rfl (AF Er Er)) rfl ?_
  refine zV (AS rfl rfl rfl (show _=((k+2+2*i+2:Nat):Int) from (AF Er Er).trans Er)) rfl ?_
  refine zV ((CN (lo:=k+2+2*i) (hi:=k+2+2*i+2) rfl rfl rfl rfl Tryz.underlying25 AO rfl rfl Er Er)) rfl ?_
  refine zk Ku rfl (fun w hS=>(hW.st hS).numd (k+2+2*i) Er) ?_
  refine J7 ?_
  have hel:AJ ((v.drop (k+2+2*i)).take 2)=AJ (((v.drop (k+2)).drop (2*i)).take 2):=(by rw [List.drop_drop])
  refine JT (fun h81=>?_) (fun h81=>?_)
  refine J20 ?_
  refine eT2 ?_
  have e0:DC v=none:=(by
    rw [hp,P5 (Ox (.inr (by unfold asL;exact List.mem_map.2 ⟨i,List.mem_range.2 Er,by rw [← hel];exact h81⟩)))];rfl)
  exact Da
  refine J9 ?_
  refine zB Tryz.underlying32 AP DB rfl rfl ?_
  intro g85 hg85
  refine WL.to (L':=F++(.row g85 [.int .i64 (AJ ((v.drop (k+2+2*i)).take 2))]::.row g6 [.bool (decide (x=1)), .slice fd i fc]::(E++KO))) (fun w hS=>by simpa using St.front (R:=F) (L:=.row g6 [.bool (decide (x=1)), .slice fd i fc]::(E++KO)) [.row g85 [.int .i64 (AJ ((v.drop (k+2+2*i)).take 2))]] hS) ?_
  refine WL.AN rfl rfl rfl Tryz.underlying32 Tryz.underlying32 AP Pf DB rfl rfl hF (new:=[.int .i64 (AJ ((v.drop (k+2+2*i)).take 2))]) (fun _=>⟨g85,0,rfl,fun w hS=>BZ (g:=g85) w hS⟩) rfl rfl Er (.none rfl) rfl rfl ?_
  intro ad86 c86 E86 hV86 hr86
  rw [show CG (asL (v.drop (k+2)) i)++[.int .i64 (AJ ((v.drop (k+2+2*i)).take 2))]=CG (asL (v.drop (k+2)) (i+1)) by rw [TE,Hs,hel];rfl] at hV86
  refine J2 ?_
  refine WL.as (L':=E86++(.row g85 [.int .i64 (AJ ((v.drop (k+2+2*i)).take 2))]::.row g6 [.bool (decide (x=1)), .slice ad86 (i+1) c86]::(E++KO))) rfl ?_
  refine J8 ?_
  exact WE.next (i+1,ad86,c86,E86) Eu ⟨by dsimp only;omega,hV86,fun z hz=>by
  dsimp only at hz
  rw [TE] at hz
  rcases List.mem_append.1 hz with hz|hz
  · exact hnz z hz
  · rw [← hel] at hz
    rw [List.mem_singleton.1 hz];exact h81⟩ (.int rfl Eu (.cons rfl (.cons rfl (.cons rfl (.cons rfl .nil))))) (List.Sublist.append_left (.cons _ (.refl _)) _)
  refine J10 ?_
  have him:i=m:=Er
  rw [him] at hF hnz
  rw [him]
  have hlm:2*m≤(v.drop (k+2)).length:=Ex
  have hab:=asL_b (zs:=v.drop (k+2)) (fun y hy=>hW.bys y (List.mem_of_mem_drop hy)) hlm
  have hsb:GG (decide (x=1),asL (v.drop (k+2)) m)=true:=Aak (by rw [M8];omega) (by rw [M8];omega) fun z hz=>⟨hnz z hz,hab z hz⟩
  have hpo:=Ww (x:=x) (n:=(m:Int)) (zs:=v.drop (k+2)) (by
    rintro (h|h)
    · have:=of_decide_eq_true hq;omega
    · omega) hsb
  obtain ⟨s,hs⟩:∃ s:DO,s=⟨decide (x=1),fd,fc,asL (v.drop (k+2)) m⟩:=⟨_,rfl⟩
  have hsc:[Value.bool (decide (x=1)), .slice fd m fc]=s.cells:=(by rw [hs];unfold DO.cells;dsimp only;rw [M8])
  have hsd:Ik s=(decide (x=1),asL (v.drop (k+2)) m):=(by rw [hs];rfl)
  have hso:Vec 1 s.ad s.asl.length s.cap (CG s.asl) F:=(by rw [hs];dsimp only;rw [M8];exact hF)
  refine J2 ?_
  refine zB Tryz.underlying116 Q0 Lk rfl rfl ?_
  intro g90 hg90
  refine WL.rowAs (g:=g90) (cs':=s.cells) hsc ?_
  refine WL.to (L':=E++(.row g90 s.cells::.row g6 [.bool (decide (x=1)), .slice fd m fc]::(F++KO))) (fun w hS=>hS.M6 Fu) ?_
  refine WL.AN rfl rfl rfl Tryz.underlying116 Tryz.underlying116 Q0 by_219 Lk rfl rfl hV (new:=s.cells) (fun _=>⟨g90,0,rfl,fun w hS=>BZ (g:=g90) w hS⟩) rfl rfl Er (.none rfl) rfl rfl ?_
  intro ad91 c91 E91 hV91 hr91
  rw [← OQ,show ss.length+1=(ss++[s]).length by rw [List.length_append];rfl] at hV91
  rw [show ss.length+1=(ss++[s]).length by rw [List.length_append];rfl]
  refine J8 ?_
  refine zV (FY rfl rfl rfl (AF Er Er)) rfl ?_
  refine J1 ?_
  refine zV (AS rfl rfl rfl (show _=((k+2+2*m:Nat):Int) from (AF Er Er).trans Er)) rfl ?_
  refine J3 ?_
  exact WE.next ⟨k+2+2*m,ss++[s],ad91,c91,E91,F++KO⟩ Eu ⟨by dsimp only;omega,by
  dsimp only
  rw [hp,hpo,Int.toNat_natCast,List.drop_drop,List.map_append]
  cases DC (v.drop (k+2+2*m)) with
  | none=>rfl
  | some q =>
    show some (_++_::q)=some ((_++[Ik s])++q)
    rw [hsd,List.append_assoc];rfl,hV91,by dsimp only;rw [List.length_append];show ss.length+1≤_;omega,fun t ht=>by
  dsimp only at ht
  rcases List.mem_append.1 ht with ht|ht
  · obtain ⟨E',r1,r2⟩:=hO t ht
    exact Az
  · rw [List.mem_singleton.1 ht]
    exact ⟨F,hso,fun e he=>List.mem_append_left _ he⟩⟩ Km (List.Sublist.append_left (.cons _ (.cons _ (.refl _))) _)
  refine J16 ?_
  refine eT2 ?_
  have e0:DC v=some (ss.map Ik):=(by
    rw [hp,List.drop_eq_nil_of_le Er,U6]
    show some (_++[])=_
    rw [List.append_nil])
  exact fun w' h=>by
    unfold L2
    rw [e0]
    exact ⟨ss,ad,c,E,KO,rfl,rfl,hV,hO,h⟩

def FO (bs:List Int):Int:=bs.foldl (fun n b=>2*n+b) 0
def Bits (bs:List Int):Prop:=∀ b∈bs,b=0∨b=1
theorem I1 (bs:List Int) (b:Int):FO (bs++[b])=2*FO bs+b:=by unfold FO;rw [List.foldl_append];rfl
theorem Hk (xs:List Int):∀ ys:List Int,FO (xs++ys)=FO xs*2 ^ ys.length+FO ys:=by
  intro ys
  suffices h:∀ (k:Nat) (ys:List Int),ys.length=k→FO (xs++ys)=FO xs*2 ^ ys.length+FO ys from h _ ys rfl
  intro k
  induction k with
  | zero =>
    intro ys h
    rw [List.length_eq_zero_iff.1 h,List.append_nil]
    show _=FO xs*1+0
    omega
  | succ k ih =>
    intro ys h
    have hne:ys≠[]:=fun e=>by rw [e] at h;cases h
    obtain ⟨zs,z,rfl⟩:∃ zs z,ys=zs++[z]:=⟨ys.dropLast,ys.getLast hne,(List.dropLast_concat_getLast hne).symm⟩
    rw [List.length_append,List.length_cons,List.length_nil] at h
    have e:=ih zs Er
    have e2:FO xs*(2 ^ zs.length*2)=2*(FO xs*2 ^ zs.length):=by rw [← Int.mul_assoc,Int.mul_comm]
    rw [← List.append_assoc,I1,I1,e,List.length_append,List.length_singleton,Int.pow_succ,e2]
    omega
theorem Vv {bs:List Int}(h:Bits bs):0≤FO bs∧FO bs<2 ^ bs.length:=by
  suffices hh:∀ (k:Nat) (bs:List Int),bs.length=k→Bits bs→0≤FO bs∧FO bs<(2:Int) ^ k from hh _ bs rfl h
  intro k
  induction k with
  | zero=>intro ys h _;rw [List.length_eq_zero_iff.1 h];decide
  | succ k ih =>
    intro ys h hB
    have hne:ys≠[]:=fun e=>by rw [e] at h;cases h
    obtain ⟨zs,z,rfl⟩:∃ zs z,ys=zs++[z]:=⟨ys.dropLast,ys.getLast hne,(List.dropLast_concat_getLast hne).symm⟩
    rw [List.length_append,List.length_cons,List.length_nil] at h
    have h1:=ih zs Er (fun x hx=>hB x (List.mem_append_left _ hx))
    have h2:=hB z (List.mem_append_right _ (List.mem_cons_self ..))
    rw [I1,Int.pow_succ]
    omega
set_option maxHeartbeats 1000000 in
theorem AaS (w:World) (b o c:Nat) (bs:List Int) (hr:w.rangeAt b o (CG bs)) (hB:Bits bs) (hn:bs.length≤32) :
    Calls Tryz.prog 115 #[.slice (some ⟨b,o,none⟩) bs.length c] w fun e w'=>e = .returned (.int .u32 (FO bs))∧Frm (fun _=>False) w w':=by
  refine enter Tryz.func115 rfl Tryz.ntmps115 rfl (St.start (fun _=>False) w) ?_
  refine J19 ?_
  refine WC.loop (fun k:Nat=>[(8, .int .i64 k),(7, .int .i64 bs.length),(6, .slice (some ⟨b,o,none⟩) bs.length c),(3, .int .u32 (FO (bs.take k)))]) (fun _=>[]) (fun k=>k≤bs.length) (fun k=>bs.length-k) 0 (Nat.zero_le _) Km (.refl _) ?_
  intro k hk
  refine J2 ?_
  refine JT (fun h9=>?_) (fun h9=>?_)
  refine J10 ?_
  obtain ⟨x,hx⟩:∃ x,bs[k]?=some x:=⟨bs[k]' Er,List.getElem?_eq_getElem _⟩
  have hxb:=hB x (List.mem_of_getElem? hx)
  have htl:(bs.take k).length=k:=Fy
  have hrb:=Vv (bs:=bs.take k) (fun x hx=>hB x (List.mem_of_mem_take hx))
  rw [htl] at hrb
  have hp:(2:Int) ^ k≤2 ^ 31:=(by
    have h:=Nat.pow_le_pow_right (n:=2) Et (show k≤31 by omega)
    exact_mod_cast h)
  have hp5:(2:Int) ^ 31=2147483648:=Et
  have hsn:FO (bs.take (k+1))=2*FO (bs.take k)+x:=(by rw [GW hx,I1])
  refine zV (AB (lo:=k) rfl rfl rfl Tryz.underlying32 AP Er Er) rfl ?_
  refine zV (AA rfl rfl AK (AL (fun h=>h) (rgOne hr (Ke hx)))) rfl ?_
  refine J5 ?_
  refine zV (FY rfl rfl rfl (MI Er Er)) rfl ?_
  refine J1 ?_
  refine zV (AQ rfl rfl Tryz.underlying22 Tryz.underlying3 Fm) rfl ?_
  refine zV (AS rfl rfl rfl (show _=FO (bs.take (k+1)) from by rw [hsn];exact (MI Er Er).trans Er)) rfl ?_
  exact Bp
  refine J16 ?_
  refine eT1 ?_
  obtain rfl:k=bs.length:=Er
  exact fun w' h=>⟨by rw [List.take_length],h.frm⟩
end Gq
end Go.Proofs.YtcmpamnhegndnaaGreatDoor
