/- Texts joined: engine, contracts and laws, in the order in which they build. -/
import Derived.Test.YtcmpamnhegndnaaGreatDoorBmPeerRuns
namespace Go.Proofs.YtcmpamnhegndnaaGreatDoor
open Go.RowKit
section Gq
attribute [local irreducible] WL WC WE WQ WP WH WR WM WRH

def CI (s:Se) (n:Nat) (m:MsD):Se×List EfD :=
  if m.kind=3 then (s.gone n,Hy s n)
  else if m.kind=1∧(s.c n).st=3 then BQ s n m.asn m.hold m.id
  else if m.kind=4∧(s.c n).st=4 then (s.BD n,Gs s n)
  else if m.kind=4∧(s.c n).st=5 then (s.alive n,[])
  else if m.kind=2∧(s.c n).st=5 then (s.alive n,[⟨6,n,[],m⟩])
  else (s.gone n,DW s n 5 ((s.c n).st-2) ⟨#[]⟩)
theorem JF (s:Se) (n:Nat) (m:MsL):EW s n m=CI s n m.d:=rfl
def BK (n:Nat):Se→List MsD→Se×List EfD
  | s,[]=>(s,[])
  | s,m::ms=>if (s.c n).st=0 then (s,[]) else ((BK n (CI s n m).1 ms).1,(CI s n m).2++(BK n (CI s n m).1 ms).2)
def CnM.fed (c:CnM) (x:List MsD×Option (Int×Int×ByteArray)×List Int):CnM:={ c with wait:=x.2.2,count:=c.count+x.1.length,fc:=(AR x.2.1).1,fs:=(AR x.2.1).2.1,fd:=(AR x.2.1).2.2 }
def Se.fed (s:Se) (n:Nat) (bs:List Int):Se:=s.set n ((s.c n).fed (BL [] ((s.c n).wait++bs)))
def G1 (n:Nat) (f:Option (Int×Int×ByteArray)) (y:Se×List EfD):Se×List EfD :=
  if (y.1.c n).st=0 then y else match f with
  | none=>y
  | some f=>(y.1.gone n,y.2++DW y.1 n f.1 f.2.1 f.2.2)
def AM (s:Se) (n:Nat) (bs:List Int):Se×List EfD :=
  if (s.c n).st=0 then (s,[]) else G1 n (BL [] ((s.c n).wait++bs)).2.1 (BK n (s.fed n bs) (BL [] ((s.c n).wait++bs)).1)
theorem Of (s:Se) (n:Nat) (h i:Int):(s.BE n h i).now=s.now:=by
  unfold Se.BE
  split
  · exact FW _ _ _
  · rw [Jf,Gw];exact FW _ _ _
theorem P0 (s:Se) (n:Nat):(s.BD n).now=s.now:=by
  have h:(s.up5 n).now=s.now:=by unfold Se.up5;rw [Gw];exact FW _ _ _
  unfold Se.BD
  split
  · exact h
  · rw [BP];exact h
theorem XO (s:Se) (n:Nat) (a h i:Int):(BQ s n a h i).1.now=s.now:=by
  unfold BQ
  repeat' split
  all_goals first|exact BP _ _|exact Of _ _ _ _|(show Se.now (Se.BE _ _ _ _)=_;rw [Of,BP])
theorem Nv (s:Se) (n:Nat) (m:MsD):(CI s n m).1.now=s.now:=by
  unfold CI
  split
  · exact BP _ _
  split
  · exact XO _ _ _ _ _
  split
  · exact P0 _ _
  split
  · exact Gw _ _
  split
  · exact Gw _ _
  · exact BP _ _
theorem U4 (s:Se) (n:Nat):(Hy s n).length≤2:=by
  unfold Hy
  rw [List.length_cons]
  have:=Il s n
  omega
theorem Ve (s:Se) (n:Nat):(Gs s n).length≤4:=by
  unfold Gs
  rw [List.length_append,List.length_singleton]
  split
  · rw [List.length_nil];omega
  · have:=DT (s.up5 n) (1-n) 6 7 ⟨#[]⟩
    omega
theorem WK (s:Se) (n:Nat) (a h i:Int):(BQ s n a h i).2.length≤4:=by
  have e1:=DT s n 2 2 ⟨#[]⟩
  have e2:=DT s n 2 3 ⟨#[]⟩
  have e3:=DT s n 6 7 ⟨#[]⟩
  have e4:=DT s (1-n) 6 7 ⟨#[]⟩
  have e5:=GA n (MsL.zero 4)
  unfold BQ
  repeat' split
  all_goals (try dsimp only)
  all_goals first|omega|(rw [List.length_append];omega)
theorem LH (s:Se) (n:Nat) (m:MsD):(CI s n m).2.length≤4:=by
  have e1:=U4 s n
  have e2:=DT s n 5 ((s.c n).st-2) ⟨#[]⟩
  unfold CI
  split
  · exact Nat.le_trans e1 Et
  split
  · exact WK _ _ _ _ _
  split
  · exact Ve _ _
  split
  · exact Nat.zero_le _
  split
  · exact (by decide:1≤4)
  · exact Nat.le_trans e2 Et
theorem VD {w:World}{b o:Nat}{ms:List MsL}{i:Nat}{x:MsL}(h:w.rangeAt b o (KS ms)) (hi:ms[i]?=some x):w.rangeAt b (o+i*20) x.cells:=fun j v hj=>by
  have hl:=Iz (enc:=MsL.cells) (s:=20) (fun _=>rfl) ms i x hi
  have hj2:j<20:=(List.getElem?_eq_some_iff.1 hj).1
  have h2:(KS ms)[i*20+j]?=some v:=by
    unfold KS
    rw [← List.getElem?_drop, ← hj, ← hl,List.getElem?_take,if_pos hj2]
  have:=h _ _ h2
  rwa [Nat.add_assoc]
section
variable {P:Program}{C:World→Prop}{n:Nat}{o:Oper}{l:Kn}
theorem OP {t yt:TypeId}{x y:Operand}{xs ys:List Value}{ks:List CK}{b:Bool}(ho:o.op = .binOp .neq t x y yt) (hx:ev l x=some (.agg xs.toArray)) (hy:ev l y=some (.agg ys.toArray)) (hE:EqK P 10000 t true ks) (hg:P.eqGuardType P.depth t=false)
    (fx:BA ks xs=true) (fy:BA ks ys=true) (hb:b=true↔¬ xs=ys):Val P C n l o (.bool b):=by
  cases b with
  | true=>exact Gp ho hx hy hE hg fx fy (hb.1 rfl)
  | false=>exact EU ho hx hy hE hg fx fy (Decidable.byContradiction (p:=xs=ys) (dec:=Classical.propDecidable _) fun h=>by have:=hb.2 h;cases this)
end
theorem My {f:Option (Int×Int×ByteArray)}(hf:∀ x,f=some x→VR x):f.isSome=true↔¬ AG (AR f).1 (AR f).2.1 (AR f).2.2=AG 0 0 ⟨#[]⟩:=by
  cases f with
  | none=>exact ⟨fun h=>F7,fun h=>absurd rfl h⟩
  | some x =>
    refine ⟨fun _ h=>?_,fun _=>rfl⟩
    have h1:=(hf x rfl).1
    have h2:(Value.int .i64 x.1) = .int .i64 0:=(List.cons.inj h).1
    injection h2 with _ h3
    omega
structure FeS where
  k:Nat
  y:PS
  t:Se
set_option maxHeartbeats 4000000 in
theorem RI (w0 w:World) (g:Nat) (p:PeL) (s:Se) (E0 E1 L:List Ent) (d:Ck) (hA:BO g p s E0 E1 d) (hG:GF w0) (hZ:GZ w0) (hS0:St (fun _=>False) w0 w (.row g p.cells::(E0++(E1++d.L p.gC s.now L)))) (ba:Option Addr) (bc:Nat) (bs:List Int) (hb:∀ w,St (fun _=>False) w0 w (.row g p.cells::(E0++(E1++d.L p.gC s.now L)))→AU w ba (u8s bs)) (hB:Bys bs) (hn:bs.length≤40000) (hcl:(s.c 0).fc=0∧(s.c 0).fs=0∧(s.c 0).fd=⟨#[]⟩) (hct:(s.c 0).count≤3000000000000000000) :
    Calls Tryz.prog 15 #[.pointer (some ⟨g,0,none⟩), .int .i64 0, .slice ba bs.length bc] w fun e w'=>G2 w0 w' g (AM s 0 bs).2 (AM s 0 bs).1 L e:=by
  have hc:p.c0.m=s.c0:=(congrArg Se.c0 hA.eq :)
  have hst:p.c0.st=(s.c 0).st:=(congrArg CnM.st hc :)
  have hwt:p.c0.rd.wait=(s.c 0).wait:=(congrArg CnM.wait hc :)
  have hok:=hA.ok0
  have hrd:p.c0.rd.fc=0∧p.c0.rd.fs=0∧p.c0.rd.fd=⟨#[]⟩:=⟨(congrArg CnM.fc hc :).trans hcl.1,(congrArg CnM.fs hc :).trans hcl.2.1,(congrArg CnM.fd hc :).trans hcl.2.2⟩
  have hcnt:p.c0.rd.count=(s.c 0).count:=(congrArg CnM.count hc :)
  have hwl:(s.c 0).wait.length≤4096:=hok.2.1
  have hc0:0≤(s.c 0).count:=hok.2.2.1.1
  have hBw:Bys ((s.c 0).wait++bs):=by rw [← hwt];exact Bys.app hA.b0 hB
  have hln:((s.c 0).wait++bs).length≤44096:=by rw [List.length_append];omega
  refine enter Tryz.func15 rfl Tryz.ntmps15 rfl hS0 ?_
  refine J10 ?_
  refine zk HI rfl (fun w hS=>Gu w g p (hS.row (g:=g)) 0 Et) ?_
  generalize hth:decide ((p.c 0).st≠0)=b14
  cases b14
  refine J11 ?_
  refine eT1 ?_
  have e1:AM s 0 bs=(s,[]):=(by unfold AM;rw [if_pos (hst.symm.trans (Decidable.of_not_not (of_decide_eq_false hth)))])
  exact Bs
  ·
   refine J12 ?_
   refine zV (AT (lo:=0) rfl rfl rfl Tryz.underlying104 DD Er Er) rfl ?_
   refine J2 ?_
   have hz:(s.c 0).st≠0:=fun hh=>of_decide_eq_true hth (hst.trans hh)
   refine zK ck_55 rfl ?_
   intro w1 hS
   refine (AbS w0 w1 g (.int .i64 p.asn) (.int .u32 p.id) (.int .i64 p.their) (.int .i64 p.hold) (.int .i64 p.retry) (.pointer (some ⟨p.gC,0,none⟩)) (.int .i64 p.base) (.int .i64 p.c0.st) [.int .i64 p.c0.hold, .int .u32 p.c0.id, .int .i64 p.c1.st, .slice p.c1.rd.ad p.c1.rd.wait.length p.c1.rd.cap, .int .i64 p.c1.rd.count, .int .i64 p.c1.rd.fc, .int .i64 p.c1.rd.fs, .string p.c1.rd.fd, .int .i64 p.c1.hold, .int .u32 p.c1.id] p.c0.rd ba bc bs E0 (E1++d.L p.gC s.now L) hG hZ hrd hA.v0 (by rw [hwt];exact hBw) (fun w h=>hb w (St.AX (L:=.row g p.cells::(E0++(E1++d.L p.gC s.now L))) h )) (by rw [hwt];omega) (by rw [hcnt];omega) (show St (fun _=>False) w0 w1 (.row g p.cells::(E0++(E1++d.L p.gC s.now L))) from hS.AX )).mono ?_
   rintro e w' ⟨mad,mc,ms,Em,K,wad,wc,rest,Ew,f,hfe,rfl,hVm,hMs,hVw,hBr,hS'⟩
   refine ⟨_, .row g ({ p with c0:={ p.c0 with rd:=⟨wad,wc,rest,p.c0.rd.count+ms.length,(AR f).1,(AR f).2.1,(AR f).2.2⟩ } }:PeL).cells::(Ew++(E1++d.L p.gC s.now (Em++(K++L)))),rfl,St.AX (L:=.row g ({ p with c0:={ p.c0 with rd:=⟨wad,wc,rest,p.c0.rd.count+ms.length,(AR f).1,(AR f).2.1,(AR f).2.2⟩ } }:PeL).cells::(Ew++(Em++(K++(E1++d.L p.gC s.now L))))) hS' ,?_⟩
   rw [hwt] at hfe
   have hff:=IT _ [] ((s.c 0).wait++bs) (Nat.le_refl _) hBw (fun m hm=>by cases hm)
   have hbo:=I2 _ [] ((s.c 0).wait++bs) _ _ _ (Nat.le_refl _) hfe
   have hre:=Pj _ [] ((s.c 0).wait++bs) (Nat.le_refl _)
   rw [hfe] at hff hre
   obtain ⟨hfm,hfo,_⟩:=hff
   dsimp only at hfm hfo hre
   rw [List.length_nil,List.length_map] at hbo
   have hA1:BO g ({ p with c0:={ p.c0 with rd:=⟨wad,wc,rest,p.c0.rd.count+ms.length,(AR f).1,(AR f).2.1,(AR f).2.2⟩ } }:PeL) (s.fed 0 bs) Ew E1 d:=(by
     have e1:s.fed 0 bs = { s with c0:={ s.c0 with wait:=rest,count:=s.c0.count+ms.length,fc:=(AR f).1,fs:=(AR f).2.1,fd:=(AR f).2.2 } }:=(by
       show s.set 0 ((s.c 0).fed (BL [] ((s.c 0).wait++bs)))=_
       rw [hfe]
       show s.set 0 { s.c0 with wait:=rest,count:=s.c0.count+((ms.map MsL.d).length:Nat),fc:=(AR f).1,fs:=(AR f).2.1,fd:=(AR f).2.2 }=_
       rw [List.length_map]
       rfl)
     rw [e1]
     refine ⟨?_,hA.ok,?_,?_,?_,?_,?_,?_,hA.bag⟩
     · exact (congrArg (fun z:Se=>{ z with c0:={ z.c0 with wait:=rest,count:=z.c0.count+ms.length,fc:=(AR f).1,fs:=(AR f).2.1,fd:=(AR f).2.2 } }) hA.eq :)
     all_goals first|exact hA.ok1|exact hA.v1|exact hA.b1|exact hVw|exact hBr|exact ⟨hok.1,hre,⟨(by show 0≤(s.c 0).count+(ms.length:Int);omega),(by show (s.c 0).count+(ms.length:Int)≤4000000000000000000;omega)⟩,hok.2.2.2.1,hok.2.2.2.2⟩)
   have hfn:(s.fed 0 bs).now=s.now:=FW _ _ _
   refine J3 ?_
   refine WL.alloc rfl CV (.none rfl) rfl rfl ?_
   intro g8 hg8
   refine J15 ?_
   refine WL.to (L':=(⟨({ p with c0:={ p.c0 with rd:=⟨wad,wc,rest,p.c0.rd.count+ms.length,(AR f).1,(AR f).2.1,(AR f).2.2⟩ } }:PeL),Ew,E1,d,none,0,[],[],[]⟩:PS).L g s.now (.row g8 (AG (AR f).1 (AR f).2.1 (AR f).2.2)::(Em++(K++L)))) (fun w hS=>hS.AX ) ?_
   refine J3 ?_
   refine WC.loop (fun x:FeS=>[(27, .slice mad ms.length mc),(28, .int .i64 ms.length),(29, .int .i64 x.k),(9, .slice x.y.ad x.y.fs.length x.y.c),(8, .pointer (some ⟨g8,0,none⟩)),(1, .int .i64 0),(0, .pointer (some ⟨g,0,none⟩))]) (fun x=>x.y.L g s.now (.row g8 (AG (AR f).1 (AR f).2.1 (AR f).2.2)::(Em++(K++L)))) (fun x=>x.k≤ms.length∧BO g x.y.p x.t x.y.E0 x.y.E1 x.y.d∧x.t.now=s.now∧K9 x.y.ad x.y.c x.y.fs x.y.E x.y.K∧x.y.fs.length≤4*x.k∧BK 0 (s.fed 0 bs) (ms.map MsL.d)=((BK 0 x.t ((ms.drop x.k).map MsL.d)).1,x.y.fs.map EfL.d++(BK 0 x.t ((ms.drop x.k).map MsL.d)).2)) (fun x=>ms.length-x.k) ⟨0,⟨({ p with c0:={ p.c0 with rd:=⟨wad,wc,rest,p.c0.rd.count+ms.length,(AR f).1,(AR f).2.1,(AR f).2.2⟩ } }:PeL),Ew,E1,d,none,0,[],[],[]⟩,s.fed 0 bs⟩ ⟨Nat.zero_le _,hA1,hfn,⟨Vec.nil 23,fun e he=>by cases he⟩,Nat.zero_le _,rfl⟩ Km (.refl _) ?_
   rintro ⟨k,⟨p4,E04,E14,d4,ad4,c4,fs,EF,KF⟩,t⟩ ⟨hk,hA4,hnt,hV4,hfl,hee⟩
   dsimp only at hk hA4 hnt hV4 hfl hee
   unfold PS.L
   dsimp only
   refine J2 ?_
   refine JT (fun h30=>?_) (fun h30=>?_)
   refine J10 ?_
   obtain ⟨x,hx⟩:∃ x,ms[k]?=some x:=⟨ms[k]' Er,List.getElem?_eq_getElem _⟩
   obtain ⟨b1,o1,ea1,r1⟩:=hVm.Rf (by rw [hVm.len.1];omega)
   have hdr:ms.drop k=x::ms.drop (k+1):=(by rw [List.drop_eq_getElem_cons (by omega)];congr 1;exact (List.getElem?_eq_some_iff.1 hx).2)
   have hxf:=hfm x.d (List.mem_map_of_mem (List.mem_of_getElem? hx))
   refine zV ((AB (b:=b1) (off:=o1) (lo:=k) rfl (by show some (Value.slice mad _ _)=_;rw [ea1]) rfl Tryz.underlying110 LR rfl Er)) rfl ?_
   refine zV (CA rfl rfl Jx rfl (fun w hS=>VD (r1 w fun e he=>hS.holds e Fx) hx)) rfl ?_
   refine WL.alloc rfl GM (.none rfl) rfl rfl ?_
   intro g11 hg11
   refine J8 ?_
   refine zk HI rfl (fun w hS=>Gu w g p4 (hS.row (g:=g)) 0 Et) ?_
   generalize hth4:decide ((p4.c 0).st≠0)=b35
   cases b35
   refine J1 ?_
   have hc4:p4.c0.m=t.c0:=(congrArg Se.c0 hA4.eq :)
   have hst4:p4.c0.st=(t.c 0).st:=(congrArg CnM.st hc4 :)
   refine J16 ?_
   refine eT1 ?_
   have e1:BK 0 t ((ms.drop k).map MsL.d)=(t,[]):=(by rw [hdr,List.map_cons];unfold BK;rw [if_pos (hst4.symm.trans (Decidable.of_not_not (of_decide_eq_false hth4)))])
   have e2:AM s 0 bs=(t,fs.map EfL.d):=(by
     unfold AM
     rw [if_neg hz,hfe]
     dsimp only
     rw [hee,e1,List.append_nil]
     unfold G1
     rw [if_pos (hst4.symm.trans (Decidable.of_not_not (of_decide_eq_false hth4)))])
   exact B4
   refine J1 ?_
   have hc4:p4.c0.m=t.c0:=(congrArg Se.c0 hA4.eq :)
   have hst4:p4.c0.st=(t.c 0).st:=(congrArg CnM.st hc4 :)
   refine J10 ?_
   refine zK ck_56 rfl ?_
   intro w1 hS
   refine (Acl w0 w1 g p4 t E04 E14 (.row g11 x.cells::(EF++(KF++(.row g8 (AG (AR f).1 (AR f).2.1 (AR f).2.2)::(Em++(K++L)))))) d4 hA4 hG Gi x hxf.id (by have:=hxf.hold;have e:x.d.hold=x.hold:=rfl;omega)).mono ?_
   rintro e w' ⟨ad2,c2,gs,EG,KG,p2,E02,E12,d2,rfl,hV2,heg,hA2,hS'⟩
   have hgl:=BS heg
   have hgb:gs.length≤4:=(by rw [hgl,JF];exact LH _ _ _)
   have hn2:(EW t 0 x).1.now=s.now:=(by rw [JF,Nv];exact hnt)
   rw [hn2] at hS'
   refine ⟨_,EF++(EG++(KG++(KF++(.row g p2.cells::(E02++(E12++d2.L p2.gC s.now (.row g11 x.cells::.row g8 (AG (AR f).1 (AR f).2.1 (AR f).2.2)::(Em++(K++L))))))))),rfl,hS'.AX ,?_⟩
   refine WL.AN rfl rfl rfl Tryz.underlying46 Tryz.underlying46 DI HP BT rfl rfl hV4.1 (new:=Hu gs) (hV2.1.src (fun e he=>List.mem_append_right _ (List.mem_append_left _ he)) |> fun f h=>(f Fg).elim fun b1 h1=>h1.elim fun o1 h2=>⟨b1,o1,h2.1,fun w hS=>h2.2 _ _ w hS⟩) (DQ gs) (EH gs) Er (.none rfl) rfl rfl ?_
   intro ad43 c43 E43 hV43 hr43
   rw [DF] at hV43
   rw [show fs.length+gs.length=(fs++gs).length from List.length_append.symm] at hV43 ⊢
   refine WL.to (L':=(⟨p2,E02,E12,d2,ad43,c43,fs++gs,E43,KG++KF⟩:PS).L g s.now (.row g8 (AG (AR f).1 (AR f).2.1 (AR f).2.2)::(Em++(K++L)))) (fun w hS=>hS.CE (EG++[.row g11 x.cells]) ) ?_
   refine J5 ?_
   refine zV (AS rfl rfl rfl (show _=((k+1:Nat):Int) from (AF Er Er).trans Er)) rfl ?_
   refine J1 ?_
   skip
   refine J1 ?_
   refine eW ⟨k+1,⟨p2,E02,E12,d2,ad43,c43,fs++gs,E43,KG++KF⟩,(EW t 0 x).1⟩ Eu ⟨by dsimp only;omega,hA2,hn2,⟨hV43,fun e he=>?_⟩,by dsimp only;rw [List.length_append];omega,?_⟩
   · rcases List.mem_append.1 he with he|he
     · exact (hV4.2 e he).mono fun x hx=>List.mem_append_right _ hx
     · exact (hV2.2 e he).mono fun x hx=>List.mem_append_left _ hx
   · have hz4:(t.c 0).st≠0:=fun hh=>of_decide_eq_true hth4 (hst4.trans hh)
     dsimp only
     rw [hee,hdr,List.map_cons,List.map_append,heg,List.append_assoc]
     conv=>lhs;unfold BK
     rw [if_neg hz4,JF]
   refine J14 ?_
   have hc4:p4.c0.m=t.c0:=(congrArg Se.c0 hA4.eq :)
   have hst4:p4.c0.st=(t.c 0).st:=(congrArg CnM.st hc4 :)
   have hdn:ms.drop k=[]:=List.drop_eq_nil_iff.2 Er
   have e1:AM s 0 bs=G1 0 f (t,fs.map EfL.d):=(by
     unfold AM
     rw [if_neg hz,hfe]
     dsimp only
     rw [hee,hdn]
     show G1 _ _ (t,_++[])=_
     rw [List.append_nil])
   refine zk HI rfl (fun w hS=>Gu w g p4 (hS.row (g:=g)) 0 Et) ?_
   generalize hth5:decide ((p4.c 0).st≠0)=b47
   cases b47
   refine J2 ?_
   generalize hfs:f.isSome=bz
   have hbz:=My hfo
   rw [hfs] at hbz
   refine J15 ?_
   refine eT1 ?_
   have e2:AM s 0 bs=(t,fs.map EfL.d):=(by rw [e1];unfold G1;rw [if_pos (hst4.symm.trans (Decidable.of_not_not (of_decide_eq_false hth5)))])
   exact Be
   refine J2 ?_
   generalize hfs:f.isSome=bz
   have hbz:=My hfo
   rw [hfs] at hbz
   refine J1 ?_
   refine zS (OP (b:=bz) rfl rfl rfl DX DU rfl rfl hbz) rfl ?_
   cases bz
   refine J13 ?_
   refine eT1 ?_
   have hz4:(t.c 0).st≠0:=fun hh=>of_decide_eq_true hth5 (hst4.trans hh)
   have hfn0:f=none:=Option.isNone_iff_eq_none.1 (by rw [← Option.not_isSome,hfs];rfl)
   have e2:AM s 0 bs=(t,fs.map EfL.d):=(by rw [e1,hfn0];unfold G1;rw [if_neg hz4])
   exact Be
   refine J9 ?_
   obtain ⟨fv,rfl⟩:=Option.isSome_iff_exists.1 hfs
   have hfv:=hfo fv rfl
   refine zK QQ rfl ?_
   intro w1 hS
   refine (TQ w0 w1 g p4 t E04 E14 (EF++(KF++(.row g8 (AG (AR (some fv)).1 (AR (some fv)).2.1 (AR (some fv)).2.2)::(Em++(K++L))))) d4 hA4 hG Gi fv.1 fv.2.1 fv.2.2 (by have:=hfv.1;constructor <;> omega) (by have:=hfv.2.1;constructor <;> omega) (by have:=hfv.2.2;omega)).mono ?_
   rintro e w' ⟨ad2,c2,gs,EG,KG,p2,E02,E12,d2,rfl,hV2,heg,hA2,hS'⟩
   have hgl:=BS heg
   have hgb:gs.length≤3:=Gl
   have hn2:(t.gone 0).now=s.now:=(BP _ _).trans hnt
   rw [hn2] at hS'
   refine ⟨_,EF++(EG++(KG++(KF++(.row g p2.cells::(E02++(E12++d2.L p2.gC s.now (.row g8 (AG (AR (some fv)).1 (AR (some fv)).2.1 (AR (some fv)).2.2)::(Em++(K++L))))))))),rfl,hS'.AX ,?_⟩
   refine WL.AN rfl rfl rfl Tryz.underlying46 Tryz.underlying46 DI HP BT rfl rfl hV4.1 (new:=Hu gs) (hV2.1.src (fun e he=>List.mem_append_right _ (List.mem_append_left _ he)) |> fun f h=>(f Fg).elim fun b1 h1=>h1.elim fun o1 h2=>⟨b1,o1,h2.1,fun w hS=>h2.2 _ _ w hS⟩) (DQ gs) (EH gs) Er (.none rfl) rfl rfl ?_
   intro ad58 c58 E58 hV58 hr58
   rw [DF] at hV58
   rw [show fs.length+gs.length=(fs++gs).length from List.length_append.symm] at hV58 ⊢
   refine J10 ?_
   refine eT1 ?_
   have hz4:(t.c 0).st≠0:=fun hh=>of_decide_eq_true hth5 (hst4.trans hh)
   have e2:AM s 0 bs=(t.gone 0,fs.map EfL.d++DW t 0 fv.1 fv.2.1 fv.2.2):=(by rw [e1];unfold G1;rw [if_neg hz4])
   rw [e2]
   refine fun w' h=>⟨ad58,c58,fs++gs,E58,KG++KF,p2,E02,E12,d2,rfl,⟨hV58,fun e he=>?_⟩,by rw [List.map_append,heg],hA2,by dsimp only;rw [hn2];exact h.CE (EG++(.row g8 (AG (AR (some fv)).1 (AR (some fv)).2.1 (AR (some fv)).2.2)::(Em++K))) ⟩
   rcases List.mem_append.1 he with he|he
   · exact (hV4.2 e he).mono fun x hx=>List.mem_append_right _ hx
   · exact (hV2.2 e he).mono fun x hx=>List.mem_append_left _ hx
set_option maxHeartbeats 4000000 in
theorem Ac8 (w0 w:World) (g:Nat) (p:PeL) (s:Se) (E0 E1 L:List Ent) (d:Ck) (hA:BO g p s E0 E1 d) (hG:GF w0) (hZ:GZ w0) (hS0:St (fun _=>False) w0 w (.row g p.cells::(E0++(E1++d.L p.gC s.now L)))) (ba:Option Addr) (bc:Nat) (bs:List Int) (hb:∀ w,St (fun _=>False) w0 w (.row g p.cells::(E0++(E1++d.L p.gC s.now L)))→AU w ba (u8s bs)) (hB:Bys bs) (hn:bs.length≤40000) (hcl:(s.c 1).fc=0∧(s.c 1).fs=0∧(s.c 1).fd=⟨#[]⟩) (hct:(s.c 1).count≤3000000000000000000) :
    Calls Tryz.prog 15 #[.pointer (some ⟨g,0,none⟩), .int .i64 1, .slice ba bs.length bc] w fun e w'=>G2 w0 w' g (AM s 1 bs).2 (AM s 1 bs).1 L e:=by
  have hc:p.c1.m=s.c1:=(congrArg Se.c1 hA.eq :)
  have hst:p.c1.st=(s.c 1).st:=(congrArg CnM.st hc :)
  have hwt:p.c1.rd.wait=(s.c 1).wait:=(congrArg CnM.wait hc :)
  have hok:=hA.ok1
  have hrd:p.c1.rd.fc=0∧p.c1.rd.fs=0∧p.c1.rd.fd=⟨#[]⟩:=⟨(congrArg CnM.fc hc :).trans hcl.1,(congrArg CnM.fs hc :).trans hcl.2.1,(congrArg CnM.fd hc :).trans hcl.2.2⟩
  have hcnt:p.c1.rd.count=(s.c 1).count:=(congrArg CnM.count hc :)
  have hwl:(s.c 1).wait.length≤4096:=hok.2.1
  have hc0:0≤(s.c 1).count:=hok.2.2.1.1
  have hBw:Bys ((s.c 1).wait++bs):=by rw [← hwt];exact Bys.app hA.b1 hB
  have hln:((s.c 1).wait++bs).length≤44096:=by rw [List.length_append];omega
  refine enter Tryz.func15 rfl Tryz.ntmps15 rfl hS0 ?_
  refine J10 ?_
  refine zk HI rfl (fun w hS=>Gu w g p (hS.row (g:=g)) 1 Et) ?_
  generalize hth:decide ((p.c 1).st≠0)=b14
  cases b14
  refine J11 ?_
  refine eT1 ?_
  have e1:AM s 1 bs=(s,[]):=(by unfold AM;rw [if_pos (hst.symm.trans (Decidable.of_not_not (of_decide_eq_false hth)))])
  exact Bs
  ·
   refine J12 ?_
   refine zV (AT (lo:=1) rfl rfl rfl Tryz.underlying104 DD Er Er) rfl ?_
   refine J2 ?_
   have hz:(s.c 1).st≠0:=fun hh=>of_decide_eq_true hth (hst.trans hh)
   refine zK ck_55 rfl ?_
   intro w1 hS
   refine (YA w0 w1 g (.int .i64 p.asn) (.int .u32 p.id) (.int .i64 p.their) (.int .i64 p.hold) (.int .i64 p.retry) (.pointer (some ⟨p.gC,0,none⟩)) (.int .i64 p.base) (.int .i64 p.c0.st) (.slice p.c0.rd.ad p.c0.rd.wait.length p.c0.rd.cap) (.int .i64 p.c0.rd.count) (.int .i64 p.c0.rd.fc) (.int .i64 p.c0.rd.fs) (.string p.c0.rd.fd) (.int .i64 p.c0.hold) (.int .u32 p.c0.id) (.int .i64 p.c1.st) [.int .i64 p.c1.hold, .int .u32 p.c1.id] p.c1.rd ba bc bs E1 (E0++d.L p.gC s.now L) hG hZ hrd hA.v1 (by rw [hwt];exact hBw) (fun w h=>hb w (St.AX (L:=.row g p.cells::(E1++(E0++d.L p.gC s.now L))) h )) (by rw [hwt];omega) (by rw [hcnt];omega) (show St (fun _=>False) w0 w1 (.row g p.cells::(E1++(E0++d.L p.gC s.now L))) from hS.AX )).mono ?_
   rintro e w' ⟨mad,mc,ms,Em,K,wad,wc,rest,Ew,f,hfe,rfl,hVm,hMs,hVw,hBr,hS'⟩
   refine ⟨_, .row g ({ p with c1:={ p.c1 with rd:=⟨wad,wc,rest,p.c1.rd.count+ms.length,(AR f).1,(AR f).2.1,(AR f).2.2⟩ } }:PeL).cells::(E0++(Ew++d.L p.gC s.now (Em++(K++L)))),rfl,St.AX (L:=.row g ({ p with c1:={ p.c1 with rd:=⟨wad,wc,rest,p.c1.rd.count+ms.length,(AR f).1,(AR f).2.1,(AR f).2.2⟩ } }:PeL).cells::(Ew++(Em++(K++(E0++d.L p.gC s.now L))))) hS' ,?_⟩
   rw [hwt] at hfe
   have hff:=IT _ [] ((s.c 1).wait++bs) (Nat.le_refl _) hBw (fun m hm=>by cases hm)
   have hbo:=I2 _ [] ((s.c 1).wait++bs) _ _ _ (Nat.le_refl _) hfe
   have hre:=Pj _ [] ((s.c 1).wait++bs) (Nat.le_refl _)
   rw [hfe] at hff hre
   obtain ⟨hfm,hfo,_⟩:=hff
   dsimp only at hfm hfo hre
   rw [List.length_nil,List.length_map] at hbo
   have hA1:BO g ({ p with c1:={ p.c1 with rd:=⟨wad,wc,rest,p.c1.rd.count+ms.length,(AR f).1,(AR f).2.1,(AR f).2.2⟩ } }:PeL) (s.fed 1 bs) E0 Ew d:=(by
     have e1:s.fed 1 bs = { s with c1:={ s.c1 with wait:=rest,count:=s.c1.count+ms.length,fc:=(AR f).1,fs:=(AR f).2.1,fd:=(AR f).2.2 } }:=(by
       show s.set 1 ((s.c 1).fed (BL [] ((s.c 1).wait++bs)))=_
       rw [hfe]
       show s.set 1 { s.c1 with wait:=rest,count:=s.c1.count+((ms.map MsL.d).length:Nat),fc:=(AR f).1,fs:=(AR f).2.1,fd:=(AR f).2.2 }=_
       rw [List.length_map]
       rfl)
     rw [e1]
     refine ⟨?_,hA.ok,?_,?_,?_,?_,?_,?_,hA.bag⟩
     · exact (congrArg (fun z:Se=>{ z with c1:={ z.c1 with wait:=rest,count:=z.c1.count+ms.length,fc:=(AR f).1,fs:=(AR f).2.1,fd:=(AR f).2.2 } }) hA.eq :)
     all_goals first|exact hA.ok0|exact hA.v0|exact hA.b0|exact hVw|exact hBr|exact ⟨hok.1,hre,⟨(by show 0≤(s.c 1).count+(ms.length:Int);omega),(by show (s.c 1).count+(ms.length:Int)≤4000000000000000000;omega)⟩,hok.2.2.2.1,hok.2.2.2.2⟩)
   have hfn:(s.fed 1 bs).now=s.now:=FW _ _ _
   refine J3 ?_
   refine WL.alloc rfl CV (.none rfl) rfl rfl ?_
   intro g8 hg8
   refine J15 ?_
   refine WL.to (L':=(⟨({ p with c1:={ p.c1 with rd:=⟨wad,wc,rest,p.c1.rd.count+ms.length,(AR f).1,(AR f).2.1,(AR f).2.2⟩ } }:PeL),E0,Ew,d,none,0,[],[],[]⟩:PS).L g s.now (.row g8 (AG (AR f).1 (AR f).2.1 (AR f).2.2)::(Em++(K++L)))) (fun w hS=>hS.AX ) ?_
   refine J3 ?_
   refine WC.loop (fun x:FeS=>[(27, .slice mad ms.length mc),(28, .int .i64 ms.length),(29, .int .i64 x.k),(9, .slice x.y.ad x.y.fs.length x.y.c),(8, .pointer (some ⟨g8,0,none⟩)),(1, .int .i64 1),(0, .pointer (some ⟨g,0,none⟩))]) (fun x=>x.y.L g s.now (.row g8 (AG (AR f).1 (AR f).2.1 (AR f).2.2)::(Em++(K++L)))) (fun x=>x.k≤ms.length∧BO g x.y.p x.t x.y.E0 x.y.E1 x.y.d∧x.t.now=s.now∧K9 x.y.ad x.y.c x.y.fs x.y.E x.y.K∧x.y.fs.length≤4*x.k∧BK 1 (s.fed 1 bs) (ms.map MsL.d)=((BK 1 x.t ((ms.drop x.k).map MsL.d)).1,x.y.fs.map EfL.d++(BK 1 x.t ((ms.drop x.k).map MsL.d)).2)) (fun x=>ms.length-x.k) ⟨0,⟨({ p with c1:={ p.c1 with rd:=⟨wad,wc,rest,p.c1.rd.count+ms.length,(AR f).1,(AR f).2.1,(AR f).2.2⟩ } }:PeL),E0,Ew,d,none,0,[],[],[]⟩,s.fed 1 bs⟩ ⟨Nat.zero_le _,hA1,hfn,⟨Vec.nil 23,fun e he=>by cases he⟩,Nat.zero_le _,rfl⟩ Km (.refl _) ?_
   rintro ⟨k,⟨p4,E04,E14,d4,ad4,c4,fs,EF,KF⟩,t⟩ ⟨hk,hA4,hnt,hV4,hfl,hee⟩
   dsimp only at hk hA4 hnt hV4 hfl hee
   unfold PS.L
   dsimp only
   refine J2 ?_
   refine JT (fun h30=>?_) (fun h30=>?_)
   refine J10 ?_
   obtain ⟨x,hx⟩:∃ x,ms[k]?=some x:=⟨ms[k]' Er,List.getElem?_eq_getElem _⟩
   obtain ⟨b1,o1,ea1,r1⟩:=hVm.Rf (by rw [hVm.len.1];omega)
   have hdr:ms.drop k=x::ms.drop (k+1):=(by rw [List.drop_eq_getElem_cons (by omega)];congr 1;exact (List.getElem?_eq_some_iff.1 hx).2)
   have hxf:=hfm x.d (List.mem_map_of_mem (List.mem_of_getElem? hx))
   refine zV ((AB (b:=b1) (off:=o1) (lo:=k) rfl (by show some (Value.slice mad _ _)=_;rw [ea1]) rfl Tryz.underlying110 LR rfl Er)) rfl ?_
   refine zV (CA rfl rfl Jx rfl (fun w hS=>VD (r1 w fun e he=>hS.holds e Fx) hx)) rfl ?_
   refine WL.alloc rfl GM (.none rfl) rfl rfl ?_
   intro g11 hg11
   refine J8 ?_
   refine zk HI rfl (fun w hS=>Gu w g p4 (hS.row (g:=g)) 1 Et) ?_
   generalize hth4:decide ((p4.c 1).st≠0)=b35
   cases b35
   refine J1 ?_
   have hc4:p4.c1.m=t.c1:=(congrArg Se.c1 hA4.eq :)
   have hst4:p4.c1.st=(t.c 1).st:=(congrArg CnM.st hc4 :)
   refine J16 ?_
   refine eT1 ?_
   have e1:BK 1 t ((ms.drop k).map MsL.d)=(t,[]):=(by rw [hdr,List.map_cons];unfold BK;rw [if_pos (hst4.symm.trans (Decidable.of_not_not (of_decide_eq_false hth4)))])
   have e2:AM s 1 bs=(t,fs.map EfL.d):=(by
     unfold AM
     rw [if_neg hz,hfe]
     dsimp only
     rw [hee,e1,List.append_nil]
     unfold G1
     rw [if_pos (hst4.symm.trans (Decidable.of_not_not (of_decide_eq_false hth4)))])
   exact B4
   refine J1 ?_
   have hc4:p4.c1.m=t.c1:=(congrArg Se.c1 hA4.eq :)
   have hst4:p4.c1.st=(t.c 1).st:=(congrArg CnM.st hc4 :)
   refine J10 ?_
   refine zK ck_56 rfl ?_
   intro w1 hS
   refine (AcK w0 w1 g p4 t E04 E14 (.row g11 x.cells::(EF++(KF++(.row g8 (AG (AR f).1 (AR f).2.1 (AR f).2.2)::(Em++(K++L)))))) d4 hA4 hG Gi x hxf.id (by have:=hxf.hold;have e:x.d.hold=x.hold:=rfl;omega)).mono ?_
   rintro e w' ⟨ad2,c2,gs,EG,KG,p2,E02,E12,d2,rfl,hV2,heg,hA2,hS'⟩
   have hgl:=BS heg
   have hgb:gs.length≤4:=(by rw [hgl,JF];exact LH _ _ _)
   have hn2:(EW t 1 x).1.now=s.now:=(by rw [JF,Nv];exact hnt)
   rw [hn2] at hS'
   refine ⟨_,EF++(EG++(KG++(KF++(.row g p2.cells::(E02++(E12++d2.L p2.gC s.now (.row g11 x.cells::.row g8 (AG (AR f).1 (AR f).2.1 (AR f).2.2)::(Em++(K++L))))))))),rfl,hS'.AX ,?_⟩
   refine WL.AN rfl rfl rfl Tryz.underlying46 Tryz.underlying46 DI HP BT rfl rfl hV4.1 (new:=Hu gs) (hV2.1.src (fun e he=>List.mem_append_right _ (List.mem_append_left _ he)) |> fun f h=>(f Fg).elim fun b1 h1=>h1.elim fun o1 h2=>⟨b1,o1,h2.1,fun w hS=>h2.2 _ _ w hS⟩) (DQ gs) (EH gs) Er (.none rfl) rfl rfl ?_
   intro ad43 c43 E43 hV43 hr43
   rw [DF] at hV43
   rw [show fs.length+gs.length=(fs++gs).length from List.length_append.symm] at hV43 ⊢
   refine WL.to (L':=(⟨p2,E02,E12,d2,ad43,c43,fs++gs,E43,KG++KF⟩:PS).L g s.now (.row g8 (AG (AR f).1 (AR f).2.1 (AR f).2.2)::(Em++(K++L)))) (fun w hS=>hS.CE (EG++[.row g11 x.cells]) ) ?_
   refine J5 ?_
   refine zV (AS rfl rfl rfl (show _=((k+1:Nat):Int) from (AF Er Er).trans Er)) rfl ?_
   refine J1 ?_
   skip
   refine J1 ?_
   refine eW ⟨k+1,⟨p2,E02,E12,d2,ad43,c43,fs++gs,E43,KG++KF⟩,(EW t 1 x).1⟩ Eu ⟨by dsimp only;omega,hA2,hn2,⟨hV43,fun e he=>?_⟩,by dsimp only;rw [List.length_append];omega,?_⟩
   · rcases List.mem_append.1 he with he|he
     · exact (hV4.2 e he).mono fun x hx=>List.mem_append_right _ hx
     · exact (hV2.2 e he).mono fun x hx=>List.mem_append_left _ hx
   · have hz4:(t.c 1).st≠0:=fun hh=>of_decide_eq_true hth4 (hst4.trans hh)
     dsimp only
     rw [hee,hdr,List.map_cons,List.map_append,heg,List.append_assoc]
     conv=>lhs;unfold BK
     rw [if_neg hz4,JF]
   refine J14 ?_
   have hc4:p4.c1.m=t.c1:=(congrArg Se.c1 hA4.eq :)
   have hst4:p4.c1.st=(t.c 1).st:=(congrArg CnM.st hc4 :)
   have hdn:ms.drop k=[]:=List.drop_eq_nil_iff.2 Er
   have e1:AM s 1 bs=G1 1 f (t,fs.map EfL.d):=(by
     unfold AM
     rw [if_neg hz,hfe]
     dsimp only
     rw [hee,hdn]
     show G1 _ _ (t,_++[])=_
     rw [List.append_nil])
   refine zk HI rfl (fun w hS=>Gu w g p4 (hS.row (g:=g)) 1 Et) ?_
   generalize hth5:decide ((p4.c 1).st≠0)=b47
   cases b47
   refine J2 ?_
   generalize hfs:f.isSome=bz
   have hbz:=My hfo
   rw [hfs] at hbz
   refine J15 ?_
   refine eT1 ?_
   have e2:AM s 1 bs=(t,fs.map EfL.d):=(by rw [e1];unfold G1;rw [if_pos (hst4.symm.trans (Decidable.of_not_not (of_decide_eq_false hth5)))])
   exact Be
   refine J2 ?_
   generalize hfs:f.isSome=bz
   have hbz:=My hfo
   rw [hfs] at hbz
   refine J1 ?_
   refine zS (OP (b:=bz) rfl rfl rfl DX DU rfl rfl hbz) rfl ?_
   cases bz
   refine J13 ?_
   refine eT1 ?_
   have hz4:(t.c 1).st≠0:=fun hh=>of_decide_eq_true hth5 (hst4.trans hh)
   have hfn0:f=none:=Option.isNone_iff_eq_none.1 (by rw [← Option.not_isSome,hfs];rfl)
   have e2:AM s 1 bs=(t,fs.map EfL.d):=(by rw [e1,hfn0];unfold G1;rw [if_neg hz4])
   exact Be
   refine J9 ?_
   obtain ⟨fv,rfl⟩:=Option.isSome_iff_exists.1 hfs
   have hfv:=hfo fv rfl
   refine zK QQ rfl ?_
   intro w1 hS
   refine (Uh w0 w1 g p4 t E04 E14 (EF++(KF++(.row g8 (AG (AR (some fv)).1 (AR (some fv)).2.1 (AR (some fv)).2.2)::(Em++(K++L))))) d4 hA4 hG Gi fv.1 fv.2.1 fv.2.2 (by have:=hfv.1;constructor <;> omega) (by have:=hfv.2.1;constructor <;> omega) (by have:=hfv.2.2;omega)).mono ?_
   rintro e w' ⟨ad2,c2,gs,EG,KG,p2,E02,E12,d2,rfl,hV2,heg,hA2,hS'⟩
   have hgl:=BS heg
   have hgb:gs.length≤3:=Gl
   have hn2:(t.gone 1).now=s.now:=(BP _ _).trans hnt
   rw [hn2] at hS'
   refine ⟨_,EF++(EG++(KG++(KF++(.row g p2.cells::(E02++(E12++d2.L p2.gC s.now (.row g8 (AG (AR (some fv)).1 (AR (some fv)).2.1 (AR (some fv)).2.2)::(Em++(K++L))))))))),rfl,hS'.AX ,?_⟩
   refine WL.AN rfl rfl rfl Tryz.underlying46 Tryz.underlying46 DI HP BT rfl rfl hV4.1 (new:=Hu gs) (hV2.1.src (fun e he=>List.mem_append_right _ (List.mem_append_left _ he)) |> fun f h=>(f Fg).elim fun b1 h1=>h1.elim fun o1 h2=>⟨b1,o1,h2.1,fun w hS=>h2.2 _ _ w hS⟩) (DQ gs) (EH gs) Er (.none rfl) rfl rfl ?_
   intro ad58 c58 E58 hV58 hr58
   rw [DF] at hV58
   rw [show fs.length+gs.length=(fs++gs).length from List.length_append.symm] at hV58 ⊢
   refine J10 ?_
   refine eT1 ?_
   have hz4:(t.c 1).st≠0:=fun hh=>of_decide_eq_true hth5 (hst4.trans hh)
   have e2:AM s 1 bs=(t.gone 1,fs.map EfL.d++DW t 1 fv.1 fv.2.1 fv.2.2):=(by rw [e1];unfold G1;rw [if_neg hz4])
   rw [e2]
   refine fun w' h=>⟨ad58,c58,fs++gs,E58,KG++KF,p2,E02,E12,d2,rfl,⟨hV58,fun e he=>?_⟩,by rw [List.map_append,heg],hA2,by dsimp only;rw [hn2];exact h.CE (EG++(.row g8 (AG (AR (some fv)).1 (AR (some fv)).2.1 (AR (some fv)).2.2)::(Em++K))) ⟩
   rcases List.mem_append.1 he with he|he
   · exact (hV4.2 e he).mono fun x hx=>List.mem_append_right _ hx
   · exact (hV2.2 e he).mono fun x hx=>List.mem_append_left _ hx

theorem BO.off {g:Nat}{p:PeL}{s:Se}{E0 E1:List Ent}{d d':Ck}(hA:BO g p s E0 E1 d) (b:Int) (hb:0≤b∧b≤2) (n:Nat) (hd:Bag d' (Hh 0 (s.D.set n (-1)))):BO g { p with base:=b } { s with base:=b,D:=s.D.set n (-1) } E0 E1 d' :=
  ⟨congrArg (fun z:Se=>{ z with base:=b,D:=s.D.set n (-1) }) hA.eq,⟨hA.ok.1,hA.ok.2.1,hb,hA.ok.2.2.2.1,(List.length_set ..).trans hA.ok.2.2.2.2.1,fun t ht=>by
    rcases List.mem_or_eq_of_mem_set ht with h|h
    · exact hA.ok.2.2.2.2.2.1 t h
    · exact .inl h,hA.ok.2.2.2.2.2.2⟩,hA.ok0,hA.ok1,hA.v0,hA.v1,hA.b0,hA.b1,hd⟩
theorem Ada (n:Nat) (hn:n<2) (w0 w:World) (g:Nat) (p:PeL) (s:Se) (E0 E1 L:List Ent) (d:Ck) (hA:BO g p s E0 E1 d) (hG:GF w0) (hS0:St (fun _=>False) w0 w (.row g p.cells::(E0++(E1++d.L p.gC s.now L)))) (C S:Int) (hC:I64 C) (hSb:I64 S) :
    Calls Tryz.prog 63 #[.pointer (some ⟨g,0,none⟩), .int .i64 n, .int .i64 C, .int .i64 S] w fun e w'=>G2 w0 w' g (DW s n C S ⟨#[]⟩) (s.gone n) L e:=by
  match n,hn with
  | 0,_=>exact Ht w0 w g p s E0 E1 L d hA hG hS0 C S hC hSb
  | 1,_=>exact Hq w0 w g p s E0 E1 L d hA hG hS0 C S hC hSb
theorem BO.st {g:Nat}{p:PeL}{s:Se}{E0 E1:List Ent}{d:Ck}(hA:BO g p s E0 E1 d) (n:Nat):(p.c n).st=(s.c n).st:=by
  have h0:p.c0.m=s.c0:=(congrArg Se.c0 hA.eq :)
  have h1:p.c1.m=s.c1:=(congrArg Se.c1 hA.eq :)
  unfold PeL.c Se.c
  split
  · exact (congrArg CnM.st h0 :)
  · exact (congrArg CnM.st h1 :)
def Gv (s:Se) (n:Nat):Se×List EfD:=if (s.c n).st=0 then (s,[]) else (s.gone n,DW s n 6 2 ⟨#[]⟩)
def CF (s:Se):Nat→Se×List EfD
  | 0=>(s,[])
  | k+1=>((Gv (CF s k).1 k).1,(CF s k).2++(Gv (CF s k).1 k).2)
def FZ (s:Se):Se×List EfD:=if s.base=0 then (s,[]) else CF { s with base:=0,D:=s.D.set 0 (-1) } 2
theorem Xi (s:Se) (n:Nat):(Gv s n).1.now=s.now:=by
  unfold Gv
  split
  · rfl
  · exact BP _ _
theorem LK (s:Se):∀ k,(CF s k).1.now=s.now
  | 0=>rfl
  | k+1=>(Xi _ _).trans (LK s k)
structure PT where
  k:Nat
  y:PS
  t:Se
set_option maxHeartbeats 2000000 in
theorem stop_c (w0 w:World) (g:Nat) (p:PeL) (s:Se) (E0 E1 L:List Ent) (d:Ck) (hA:BO g p s E0 E1 d) (hG:GF w0) (hS0:St (fun _=>False) w0 w (.row g p.cells::(E0++(E1++d.L p.gC s.now L)))) :
    Calls Tryz.prog 28 #[.pointer (some ⟨g,0,none⟩)] w fun e w'=>G2 w0 w' g (FZ s).2 (FZ s).1 L e:=by
  have hb0:p.base=s.base:=(congrArg Se.base hA.eq :)
  have hD5:=hA.ok.2.2.2.2.1
  refine enter Tryz.func28 rfl Tryz.ntmps28 rfl hS0 ?_
  refine J9 ?_
  refine zV (AY false rfl rfl Tryz.underlying40 rfl) rfl ?_
  refine J5 ?_
  refine JT (fun h12=>?_) (fun h12=>?_)
  refine J11 ?_
  refine eT1 ?_
  have e1:FZ s=(s,[]):=if_pos (hb0.symm.trans h12)
  exact Bs
  refine J12 ?_
  refine WL.as (L':=.row g ({ p with base:=0 }:PeL).cells::(E0++(E1++d.L p.gC s.now L))) rfl ?_
  refine J8 ?_
  refine zK KV rfl ?_
  intro w1 hS
  refine (IG (gC:=p.gC) (now:=s.now) (R:=.row g ({ p with base:=0 }:PeL).cells::(E0++(E1++L))) (hS.AX ) hA.bag 0 Er).mono ?_
  rintro e w' ⟨b1,d1,rfl,hb1,hS'⟩
  refine ⟨_, .row g ({ p with base:=0 }:PeL).cells::(E0++(E1++d1.L p.gC s.now L)),rfl,hS'.AX ,?_⟩
  have hA1:=hA.off 0 ⟨by decide,by decide⟩ 0 hb1
  have e0:FZ s=CF { s with base:=0,D:=s.D.set 0 (-1) } 2:=if_neg (fun hh=>h12 (hb0.trans hh))
  generalize hs0:({ s with base:=0,D:=s.D.set 0 (-1) }:Se)=s0 at hA1 e0
  have hn0:s0.now=s.now:=(by rw [← hs0])
  refine J14 ?_
  refine WC.loop (fun x:PT=>[(22, .int .i64 x.k),(3, .slice x.y.ad x.y.fs.length x.y.c),(0, .pointer (some ⟨g,0,none⟩))]) (fun x=>x.y.L g s.now L) (fun x=>x.k≤2∧BO g x.y.p x.t x.y.E0 x.y.E1 x.y.d∧x.t=(CF s0 x.k).1∧K9 x.y.ad x.y.c x.y.fs x.y.E x.y.K∧x.y.fs.length≤4*x.k∧x.y.fs.map EfL.d=(CF s0 x.k).2) (fun x=>2-x.k) ⟨0,⟨{ p with base:=0 },E0,E1,d1,none,0,[],[],[]⟩,s0⟩ ⟨Nat.zero_le _,hA1,rfl,⟨Vec.nil 23,fun e he=>by cases he⟩,Nat.zero_le _,rfl⟩ Km (.refl _) ?_
  rintro ⟨k,⟨p4,E04,E14,d4,ad4,c4,fs,EF,KF⟩,t⟩ ⟨hk,hA4,hnt,hV4,hfl,hee⟩
  dsimp only at hk hA4 hnt hV4 hfl hee
  have hn4:t.now=s.now:=(by rw [hnt,LK,hn0])
  unfold PS.L
  dsimp only
  refine J2 ?_
  refine JT (fun h23=>?_) (fun h23=>?_)
  refine J18 ?_
  refine zk HI rfl (fun w hS=>Gu w g p4 (hS.row (g:=g)) k Er) ?_
  generalize hth:decide ((p4.c k).st≠0)=b27
  cases b27
  refine J7 ?_
  refine zV (AS rfl rfl rfl (show _=((k+1:Nat):Int) from (AF Er Er).trans Er)) rfl ?_
  refine J2 ?_
  have hz4:(t.c k).st=0:=(hA4.st k).symm.trans (Decidable.of_not_not (of_decide_eq_false hth))
  have e5:Gv (CF s0 k).1 k=(t,[]):=(by rw [← hnt];exact if_pos hz4)
  refine eW ⟨k+1,⟨p4,E04,E14,d4,ad4,c4,fs,EF,KF⟩,t⟩ Eu ⟨by dsimp only;omega,hA4,by show _=(Gv _ _).1;rw [e5],hV4,by dsimp only;omega,?_⟩
  show _=_++(Gv _ _).2
  rw [e5,List.append_nil,hee]
  refine J7 ?_
  refine zK H8 rfl ?_
  intro w1 hS
  refine (Ada k Er w0 w1 g p4 t E04 E14 (EF++(KF++L)) d4 hA4 hG (by rw [hn4];exact hS.AX ) 6 2 ⟨by decide,by decide⟩ ⟨by decide,by decide⟩).mono ?_
  rintro e w' ⟨ad2,c2,gs,EG,KG,p2,E02,E12,d2,rfl,hV2,heg,hA2,hS'⟩
  have hgl:=BS heg
  have hgb:gs.length≤3:=Gl
  have hn2:(t.gone k).now=s.now:=(BP _ _).trans hn4
  rw [hn2] at hS'
  refine ⟨_,EF++(EG++(KG++(KF++(.row g p2.cells::(E02++(E12++d2.L p2.gC s.now L)))))),rfl,hS'.AX ,?_⟩
  refine WL.AN rfl rfl rfl Tryz.underlying46 Tryz.underlying46 DI HP BT rfl rfl hV4.1 (new:=Hu gs) (hV2.1.src (fun e he=>List.mem_append_right _ (List.mem_append_left _ he)) |> fun f h=>(f Fg).elim fun b1 h1=>h1.elim fun o1 h2=>⟨b1,o1,h2.1,fun w hS=>h2.2 _ _ w hS⟩) (DQ gs) (EH gs) Er (.none rfl) rfl rfl ?_
  intro ad32 c32 E32 hV32 hr32
  rw [DF] at hV32
  rw [show fs.length+gs.length=(fs++gs).length from List.length_append.symm] at hV32 ⊢
  refine WL.to (L':=(⟨p2,E02,E12,d2,ad32,c32,fs++gs,E32,KG++KF⟩:PS).L g s.now L) (fun w hS=>hS.CE EG ) ?_
  refine J5 ?_
  refine zV (AS rfl rfl rfl (show _=((k+1:Nat):Int) from (AF Er Er).trans Er)) rfl ?_
  refine J2 ?_
  have hz4:(t.c k).st≠0:=fun hh=>of_decide_eq_true hth ((hA4.st k).trans hh)
  have e5:Gv (CF s0 k).1 k=(t.gone k,DW t k 6 2 ⟨#[]⟩):=(by rw [← hnt];exact if_neg hz4)
  refine eW ⟨k+1,⟨p2,E02,E12,d2,ad32,c32,fs++gs,E32,KG++KF⟩,t.gone k⟩ Eu ⟨by dsimp only;omega,hA2,by show _=(Gv _ _).1;rw [e5],⟨hV32,fun e he=>?_⟩,by dsimp only;rw [List.length_append];omega,?_⟩
  · rcases List.mem_append.1 he with he|he
    · exact (hV4.2 e he).mono fun x hx=>List.mem_append_right _ hx
    · exact (hV2.2 e he).mono fun x hx=>List.mem_append_left _ hx
  · show _=_++(Gv _ _).2
    rw [e5,List.map_append,hee,heg]
  refine J16 ?_
  refine eT1 ?_
  have hk2:k=2:=Er
  subst hk2
  rw [e0, ← hee, ← hnt]
  exact fun w' h=>⟨ad4,c4,fs,EF,KF,p4,E04,E14,d4,rfl,hV4,rfl,hA4,by rw [hn4];exact h⟩
def CM (s:Se) (n:Nat) (t:Int):Se×List EfD :=
  match n with
  | 0=>(({ s with now:=t,D:=s.D.set 0 (-1) }:Se).JW,[ef 1 0])
  | 1=>(({ s with now:=t,D:=s.D.set 1 (-1) }:Se).gone 0,DW { s with now:=t,D:=s.D.set 1 (-1) } 0 4 0 ⟨#[]⟩)
  | 2=>(({ s with now:=t,D:=s.D.set 2 (-1) }:Se).gone 1,DW { s with now:=t,D:=s.D.set 2 (-1) } 1 4 0 ⟨#[]⟩)
  | 3=>(({ s with now:=t,D:=s.D.set 3 (-1) }:Se).kept 0,FN 0 (MsL.zero 4))
  | _=>(({ s with now:=t,D:=s.D.set 4 (-1) }:Se).kept 1,FN 1 (MsL.zero 4))
inductive JL (T:Int):Se→List EfD→Se→Prop
  | done {s:Se}(h:∀ t∈s.D,t<0∨T<t):JL T s [] { s with now:=T }
  | Jj {s s':Se}{n:Nat}{t:Int}{es:List EfD}(h:I8 s.D T n t) (hr:JL T (CM s n t).1 es s'):JL T s ((CM s n t).2++es) s'
def N1 (s:Se) (u:Int):Int:=min (if s.now<u then min u (s.now+4096) else s.now) FB
def Se.Fit (s:Se):Prop:=∀ n,n<2→(s.c n).hold=0∨3≤(s.c n).hold
def wD (T:Int) (D:List Int):Nat:=(D.map fun x=>if 0≤x then (T+1-x).toNat else 0).sum
theorem VZ {D:List Int}(h:D.length=5):∃ a b c d e,D=[a,b,c,d,e]:=by
  match D,h with
  | [a,b,c,d,e],_=>exact ⟨a,b,c,d,e,rfl⟩
theorem FF (s:Se) (n:Nat) (t:Int):(CM s n t).1.now=t:=by
  unfold CM
  split
  · rfl
  · exact BP _ _
  · exact BP _ _
  · exact Jf _ _
  · exact Jf _ _
theorem Np (s:Se) (n:Nat) (t:Int):(CM s n t).2.length≤3:=by
  unfold CM
  split
  · exact (by decide:1≤3)
  · exact DT _ _ _ _ _
  · exact DT _ _ _ _ _
  · have:=GA 0 (MsL.zero 4);dsimp only;omega
  · have:=GA 1 (MsL.zero 4);dsimp only;omega
theorem HX (s:Se) (n k:Nat) (hn:n<2) (hk:k<2):(s.gone n).c k=if k=n then CnM.zero else s.c k:=by
  have key:(s.cut n).c k=if k=n then CnM.zero else s.c k:=by
    match n,k,hn,hk with
    | 0,0,_,_=>rfl
    | 0,1,_,_=>rfl
    | 1,0,_,_=>rfl
    | 1,1,_,_=>rfl
  unfold Se.gone
  split
  · rw [← key];rfl
  · exact key
theorem SA {s:Se}(h:s.Fit) (n:Nat) (hn:n<2):(s.gone n).Fit:=fun k hk=>by
  rw [HX s n k hn hk]
  split
  · exact .inl rfl
  · exact h k hk
theorem KC (s:Se) (n k:Nat):(s.kept n).c k=s.c k:=by unfold Se.kept;split <;> rfl
theorem Kh {s:Se}(h:s.Fit) (n:Nat) (t:Int):(CM s n t).1.Fit:=by
  have h':∀ n,({ s with now:=t,D:=s.D.set n (-1) }:Se).Fit:=fun _=>h
  unfold CM
  split
  · exact h
  · exact SA (h' 1) 0 Et
  · exact SA (h' 2) 1 Et
  · intro k hk;dsimp only;rw [KC];exact h k hk
  · intro k hk;dsimp only;rw [KC];exact h k hk
theorem I8.now {s:Se}{T:Int}{n:Nat}{t:Int}(hF:I8 s.D T n t) (h:s.Ok):s.now≤t∧t≤FB∧t≤T∧n<5∧∀ y∈s.D.set n (-1),y = -1∨t≤y∧y≤FB:=by
  obtain ⟨h1,h2,h3,h4⟩:=hF
  have hm:=h.2.2.2.2.2.1
  have ht:=hm t (List.mem_of_getElem? h1)
  have hn:=(List.getElem?_eq_some_iff.1 h1).1
  rw [h.2.2.2.2.1] at hn
  refine ⟨by omega,by omega,h3,hn,fun y hy=>?_⟩
  obtain ⟨i,hi,e⟩:=List.getElem_of_mem hy
  rw [List.getElem_set] at e
  split at e
  · exact .inl e.symm
  · rename_i hne
    rw [List.length_set] at hi
    have hy2:=hm y (e ▸ List.getElem_mem _)
    rcases hy2 with h5|h5
    · exact .inl h5
    · have hnow:=h.2.2.2.1
      have h6:=h4 i y (fun h=>hne h.symm) (List.getElem?_eq_some_iff.2 ⟨hi,e⟩) Er
      unfold ltp at h6
      dsimp only at h6
      exact .inr ⟨by omega,h5.2⟩
theorem BO.at {g:Nat}{p:PeL}{s:Se}{E0 E1:List Ent}{d d':Ck}(hA:BO g p s E0 E1 d){T:Int}{n:Nat}{t:Int}(hF:I8 s.D T n t) (hd:Bag d' (Hh 0 (s.D.set n (-1)))):BO g p { s with now:=t,D:=s.D.set n (-1) } E0 E1 d':=by
  have h:=hF.now hA.ok
  have h0:=hA.ok.2.2.2.1
  exact ⟨congrArg (fun z:Se=>{ z with now:=t,D:=s.D.set n (-1) }) hA.eq,⟨hA.ok.1,hA.ok.2.1,hA.ok.2.2.1,⟨by dsimp only;omega,h.2.1⟩,(List.length_set ..).trans hA.ok.2.2.2.2.1,h.2.2.2.2,hA.ok.2.2.2.2.2.2⟩,hA.ok0,hA.ok1,hA.v0,hA.v1,hA.b0,hA.b1,hd⟩
theorem BO.KW {g:Nat}{p:PeL}{s:Se}{E0 E1:List Ent}{d:Ck}(hA:BO g p s E0 E1 d){T:Int}(h:∀ t∈s.D,t<0∨T<t) (h0:s.now≤T) (h1:T≤FB):BO g p { s with now:=T } E0 E1 d:=by
  have h2:=hA.ok.2.2.2.1
  refine ⟨congrArg (fun z:Se=>{ z with now:=T }) hA.eq,⟨hA.ok.1,hA.ok.2.1,hA.ok.2.2.1,⟨by dsimp only;omega,h1⟩,hA.ok.2.2.2.2.1,fun t ht=>?_,hA.ok.2.2.2.2.2.2⟩,hA.ok0,hA.ok1,hA.v0,hA.v1,hA.b0,hA.b1,hA.bag⟩
  have h3:=hA.ok.2.2.2.2.2.1 t ht
  have h4:=h t ht
  dsimp only
  rcases h3 with h3|h3
  · exact .inl h3
  · right;omega
def IY (now:Int) (n:Nat) (later:Int):Int:=if FB≤now∧n≠1∧n≠2 then -1 else min (now+later) FB
theorem due_DV (s:Se) (n:Nat) (later:Int):(s.due n later).D=s.D.set n (IY s.now n later):=rfl
theorem Qn {now later:Int}{n:Nat}(hn:n=0∨3≤n) (h1:1≤later) (h2:0≤now):IY now n later = -1∨now<IY now n later:=by
  unfold IY
  split
  · exact .inl rfl
  · unfold FB at *
    right;omega
theorem Pv (s:Se) (n:Nat):(s.gone n).D=(s.D.set (1+n) (-1)).set (3+n) (-1)∨(s.gone n).D=((s.D.set (1+n) (-1)).set (3+n) (-1)).set 0 (IY s.now 0 s.retry):=by
  by_cases h:s.base≠0∧(s.c (1-n)).st=0
  · right
    have h2:=DE s n
    rw [JE h.1 h.2,due_DV]
    show List.set (s.cut n).D 0 (IY (s.cut n).now 0 s.retry)=_
    rw [h2.2.1]
    rfl
  · left;rw [KN h];rfl
theorem Abz (s:Se) (n:Nat):(s.kept n).D=s.D∨((s.c n).hold≠0∧(s.kept n).D=s.D.set (3+n) (IY s.now (3+n) ((s.c n).hold.tdiv 3))):=by
  unfold Se.kept
  split
  · exact .inl rfl
  · rename_i h
    exact .inr ⟨h,rfl⟩
theorem Ja {s:Se}{T t:Int}{n:Nat}(hk:s.Ok) (hf:s.Fit) (hF:I8 s.D T n t):wD T (CM s n t).1.D<wD T s.D:=by
  obtain ⟨f1,f2,f3,f4,f5⟩:=hF.now hk
  obtain ⟨a,b,c,d,e,hD⟩:=VZ hk.2.2.2.2.1
  obtain ⟨g1,g2,g3,_⟩:=hF
  have hnow:=hk.2.2.2.1
  have hrt:=hk.1
  have hr:=Qn (now:=t) (n:=0) (later:=s.retry) (.inl rfl) Er Er
  have hkp:∀ k,k<2→(s.c k).hold≠0→IY t (3+k) ((s.c k).hold.tdiv 3) = -1∨t<IY t (3+k) ((s.c k).hold.tdiv 3):=fun k hk0 hh=>by
    have h3:=hf k hk0
    refine Qn (.inr Er) ?_ Er
    rw [Int.tdiv_eq_ediv_of_nonneg Er]
    omega
  rw [hD] at g1
  have h01:=hkp 0 Et
  have h02:=hkp 1 Et
  match n,f4,g1 with
  | 0,_,g1 =>
    obtain rfl:=Option.some.inj g1
    show wD T (List.set (List.set s.D 0 (-1)) 0 (IY a 0 s.retry))<_
    rw [hD]
    generalize IY a 0 s.retry=v at hr
    simp only [wD,List.set_cons_zero,List.map_cons,List.map_nil,List.sum_cons,List.sum_nil]
    split <;> split <;> omega
  | 1,_,g1 =>
    obtain rfl:=Option.some.inj g1
    rcases Pv { s with now:=b,D:=s.D.set 1 (-1) } 0 with h|h
    all_goals
      show wD T (Se.gone _ _).D<_
      rw [h]
      dsimp only
      rw [hD]
      try generalize IY b 0 s.retry=v at hr
      simp only [wD,List.set_cons_zero,List.set_cons_succ,Nat.add_zero,List.map_cons,List.map_nil,List.sum_cons,List.sum_nil]
      repeat' split
      all_goals omega
  | 2,_,g1 =>
    obtain rfl:=Option.some.inj g1
    rcases Pv { s with now:=c,D:=s.D.set 2 (-1) } 1 with h|h
    all_goals
      show wD T (Se.gone _ _).D<_
      rw [h]
      dsimp only
      rw [hD]
      try generalize IY c 0 s.retry=v at hr
      simp only [wD,List.set_cons_zero,List.set_cons_succ,Nat.add_zero,List.map_cons,List.map_nil,List.sum_cons,List.sum_nil]
      repeat' split
      all_goals omega
  | 3,_,g1 =>
    obtain rfl:=Option.some.inj g1
    rcases Abz { s with now:=d,D:=s.D.set 3 (-1) } 0 with h|⟨h0,h⟩
    · show wD T (Se.kept _ _).D<_
      rw [h]
      dsimp only
      rw [hD]
      simp only [wD,List.set_cons_zero,List.set_cons_succ,Nat.add_zero,List.map_cons,List.map_nil,List.sum_cons,List.sum_nil]
      repeat' split
      all_goals omega
    · have h2:=h01 h0
      show wD T (Se.kept _ _).D<_
      rw [h]
      show wD T (List.set (List.set s.D 3 (-1)) 3 (IY d (3+0) ((s.c 0).hold.tdiv 3)))<_
      rw [hD]
      generalize IY d (3+0) ((s.c 0).hold.tdiv 3)=v at h2
      simp only [wD,List.set_cons_zero,List.set_cons_succ,Nat.add_zero,List.map_cons,List.map_nil,List.sum_cons,List.sum_nil]
      repeat' split
      all_goals omega
  | 4,_,g1 =>
    obtain rfl:=Option.some.inj g1
    rcases Abz { s with now:=e,D:=s.D.set 4 (-1) } 1 with h|⟨h0,h⟩
    · show wD T (Se.kept _ _).D<_
      rw [h]
      dsimp only
      rw [hD]
      simp only [wD,List.set_cons_zero,List.set_cons_succ,Nat.add_zero,List.map_cons,List.map_nil,List.sum_cons,List.sum_nil]
      repeat' split
      all_goals omega
    · have h2:=h02 h0
      show wD T (Se.kept _ _).D<_
      rw [h]
      show wD T (List.set (List.set s.D 4 (-1)) 4 (IY e (3+1) ((s.c 1).hold.tdiv 3)))<_
      rw [hD]
      generalize IY e (3+1) ((s.c 1).hold.tdiv 3)=v at h2
      simp only [wD,List.set_cons_zero,List.set_cons_succ,Nat.add_zero,List.map_cons,List.map_nil,List.sum_cons,List.sum_nil]
      repeat' split
      all_goals omega

theorem Aav {w0 w:World}{gC:Nat}{now:Int}{R:List Ent}{d:Ck}{D:List Int}(hS:St (fun _=>False) w0 w (d.L gC now R)) (hb:Bag d (Hh 0 D)) (u:Int) :
    Calls Tryz.prog 62 #[.pointer (some ⟨gC,0,none⟩), .int .i64 u] w fun e' w'=>∃ (ok:Bool) (n:Nat) (t:Int) (d':Ck),e' = .returned (.tuple #[.int .i64 n, .bool ok])∧(ok=true→I8 D (KW now u) n t)∧(ok=false→t=KW now u∧∀ t∈D,t<0∨KW now u<t)∧Bag d' (Hh 0 (if ok then D.set n (-1) else D))∧St (fun _=>False) w0 w' (d'.L gC t R):=by
  rcases Z1 D (KW now u) with ⟨n,t,hF⟩|hno
  · refine (Next_d hS hb u hF).mono ?_
    rintro e' w' ⟨d',rfl,hb',hS'⟩
    exact ⟨true,n,t,d',rfl,fun _=>hF,fun e=>F4,hb',hS'⟩
  · refine (Ab5 hS hb u hno).mono ?_
    rintro e' w' ⟨rfl,hS'⟩
    exact ⟨false,0,_,d,rfl,fun e=>F4,fun _=>⟨rfl,hno⟩,hb,hS'⟩
theorem wD_le {T now:Int}{D:List Int}(h5:D.length=5) (h:∀ t∈D,t = -1∨now≤t∧t≤FB) (hT:T≤now+4096):wD T D≤20485:=by
  obtain ⟨a,b,c,d,e,rfl⟩:=VZ h5
  have ha:=h a Fe
  have hb:=h b Fe
  have hc:=h c Fe
  have hd:=h d Fe
  have he:=h e Fe
  have key:∀ x:Int,(x = -1∨now≤x∧x≤FB)→(if 0≤x then (T+1-x).toNat else 0)≤4097:=fun x hx=>by
    split <;> omega
  have k1:=key a ha
  have k2:=key b hb
  have k3:=key c hc
  have k4:=key d hd
  have k5:=key e he
  simp only [wD,List.map_cons,List.map_nil,List.sum_cons,List.sum_nil]
  omega
theorem BO.bagged {g:Nat}{p:PeL}{s:Se}{E0 E1:List Ent}{d d':Ck}(hA:BO g p s E0 E1 d) (hb:Bag d' (Hh 0 s.D)):BO g p s E0 E1 d':=⟨hA.eq,hA.ok,hA.ok0,hA.ok1,hA.v0,hA.v1,hA.b0,hA.b1,hb⟩
set_option maxHeartbeats 4000000 in
theorem tick_c (w0 w:World) (g:Nat) (p:PeL) (s:Se) (E0 E1 L:List Ent) (d:Ck) (hA:BO g p s E0 E1 d) (hG:GF w0) (hS0:St (fun _=>False) w0 w (.row g p.cells::(E0++(E1++d.L p.gC s.now L)))) (hf:s.Fit) (u:Int) (_hu:I64 u) :
    Calls Tryz.prog 24 #[.pointer (some ⟨g,0,none⟩), .int .i64 u] w fun e w'=>∃ es s',JL (N1 s u) s es s'∧es.length≤70000∧G2 w0 w' g es s' L e:=by
  have hnow:=hA.ok.2.2.2.1
  refine enter Tryz.func24 rfl Tryz.ntmps24 rfl hS0 ?_
  refine J9 ?_
  refine zV (AY false rfl rfl Tryz.underlying40 rfl) rfl ?_
  refine J11 ?_
  refine zk Y0 rfl (fun w hS=>Zx (hS.row (g:=p.gC))) ?_
  refine J3 ?_
  refine WC.cut (fun U:Int=>[(5, .int .i64 U),(0, .pointer (some ⟨g,0,none⟩))]) (fun _=>.row g p.cells::(E0++(E1++d.L p.gC s.now L))) (fun U=>s.now≤U∧U≤s.now+4096∧min U FB=N1 s u) ?_ ?_
  refine J4 ?_
  refine JT (fun h18=>?_) (fun h18=>?_)
  refine J6 ?_
  refine zV (AS rfl rfl rfl (AF (by unfold FB at hnow;omega) (by unfold FB at hnow;omega))) rfl ?_
  refine zV (Le rfl rfl rfl) rfl ?_
  refine J2 ?_
  exact eM (min u (s.now+4096)) ⟨by omega,by omega,by unfold N1;rw [if_pos Er]⟩
  refine J4 ?_
  exact eM s.now ⟨by omega,by omega,by unfold N1;rw [if_neg Er]⟩
  rintro U ⟨hU1,hU2,hUT⟩
  generalize hT:N1 s u=T at hUT
  have hT0:s.now≤T∧T≤FB∧T≤U:=Er
  refine J6 ?_
  refine WC.loop (fun x:PT=>[(5, .int .i64 U),(6, .slice x.y.ad x.y.fs.length x.y.c),(0, .pointer (some ⟨g,0,none⟩))]) (fun x=>x.y.L g x.t.now L) (fun x=>BO g x.y.p x.t x.y.E0 x.y.E1 x.y.d∧x.t.Fit∧(s.now≤x.t.now∧x.t.now≤T)∧K9 x.y.ad x.y.c x.y.fs x.y.E x.y.K∧x.y.fs.length+3*wD T x.t.D≤70000∧∀ es s',JL T x.t es s'→JL T s (x.y.fs.map EfL.d++es) s') (fun x=>wD T x.t.D) ⟨0,⟨p,E0,E1,d,none,0,[],[],[]⟩,s⟩ ⟨hA,hf,⟨Int.le_refl _,hT0.1⟩,⟨Vec.nil 23,fun e he=>by cases he⟩,(by have:=wD_le (T:=T) hA.ok.2.2.2.2.1 hA.ok.2.2.2.2.2.1 (by omega);show 0+3*wD T s.D≤70000;omega),fun es s' h=>h⟩ Km (.refl _) ?_
  rintro ⟨k,⟨p4,E04,E14,d4,ad4,c4,fs,EF,KF⟩,t⟩ ⟨hA4,hfit,hnt,hV4,hfl,hR⟩
  dsimp only at hA4 hfit hnt hV4 hfl hR
  unfold PS.L
  dsimp only
  refine J8 ?_
  refine zK ck_62 rfl ?_
  intro w1 hS
  refine (Aav (gC:=p4.gC) (now:=t.now) (R:=EF++(KF++(.row g p4.cells::(E04++(E14++L))))) (hS.AX ) hA4.bag U).mono ?_
  rintro e w' ⟨ok,n,tt,d5,rfl,hyes,hno,hb5,hS'⟩
  have htl:KW t.now U=T:=(by unfold KW;unfold FB at *;omega)
  rw [htl] at hyes hno
  refine ⟨_,EF++(KF++(.row g p4.cells::(E04++(E14++d5.L p4.gC tt L)))),rfl,hS'.AX ,?_⟩
  refine J3 ?_
  skip
  cases ok
  refine J23 ?_
  refine eT1 ?_
  obtain ⟨e1,e2⟩:=hno rfl
  have e3:=hR _ _ (JL.done e2)
  rw [List.append_nil] at e3
  rw [e1] at *
  exact fun w' h=>⟨_,_,e3,by rw [List.length_map];omega,ad4,c4,fs,EF,KF,p4,E04,E14,d5,rfl,hV4,rfl,(hA4.bagged Ga).KW e2 hnt.2 hT0.2.1,h⟩
  refine J22 ?_
  refine JT (fun h37=>?_) (fun h37=>?_)
  obtain rfl:n=0:=Er
  have hF:=hyes rfl
  have hA5:BO g p4 { t with now:=tt,D:=t.D.set 0 (-1) } E04 E14 d5:=hA4.at hF Ga
  have hls:=Ja hA4.ok hfit hF
  have hF2:=hF.now hA4.ok
  clear hyes hno
  refine J7 ?_
  refine zK ck_50 rfl ?_
  intro w1 hS
  refine (Aaf w0 w1 g p4 { t with now:=tt,D:=t.D.set 0 (-1) } E04 E14 (EF++(KF++L)) d5 hA5 (hS.AX )).mono ?_
  rintro e w' ⟨ad2,c2,gs,EG,KG,p2,E02,E12,d2,rfl,hV2,heg,hA2,hS'⟩
  have hS2:St (fun _=>False) w0 w' (EG++(KG++(.row g p2.cells::(E02++(E12++d2.L p2.gC (CM t 0 tt).1.now (EF++(KF++L))))))):=hS'
  have hgl:=BS heg
  have hgb:gs.length≤3:=(by rw [hgl];exact Np t 0 tt)
  refine ⟨_,EF++(EG++(KG++(KF++(.row g p2.cells::(E02++(E12++d2.L p2.gC (CM t 0 tt).1.now L)))))),rfl,hS2.AX ,?_⟩
  refine WL.AN rfl rfl rfl Tryz.underlying46 Tryz.underlying46 DI HP BT rfl rfl hV4.1 (new:=Hu gs) (hV2.1.src (fun e he=>List.mem_append_right _ (List.mem_append_left _ he)) |> fun f h=>(f Fg).elim fun b1 h1=>h1.elim fun o1 h2=>⟨b1,o1,h2.1,fun w hS=>h2.2 _ _ w hS⟩) (DQ gs) (EH gs) Er (.none rfl) rfl rfl ?_
  intro ad41 c41 E41 hV41 hr41
  rw [DF] at hV41
  rw [show fs.length+gs.length=(fs++gs).length from List.length_append.symm] at hV41 ⊢
  refine WL.to (L':=(⟨p2,E02,E12,d2,ad41,c41,fs++gs,E41,KG++KF⟩:PS).L g (CM t 0 tt).1.now L) (fun w hS=>hS.CE EG ) ?_
  refine J4 ?_
  refine eW ⟨0,⟨p2,E02,E12,d2,ad41,c41,fs++gs,E41,KG++KF⟩,(CM t 0 tt).1⟩ hls ⟨hA2,Kh hfit _ _,⟨by rw [FF];omega,by rw [FF];omega⟩,⟨hV41,fun e he=>?_⟩,by dsimp only;rw [List.length_append];omega,fun es s' h=>?_⟩
  · rcases List.mem_append.1 he with he|he
    · exact (hV4.2 e he).mono fun x hx=>List.mem_append_right _ hx
    · exact (hV2.2 e he).mono fun x hx=>List.mem_append_left _ hx
  · rw [List.map_append,heg,List.append_assoc]
    exact hR _ _ (.Jj hF h)
  refine J7 ?_
  refine JT (fun h43=>?_) (fun h43=>?_)
  obtain rfl:n=1:=Er
  have hF:=hyes rfl
  have hA5:BO g p4 { t with now:=tt,D:=t.D.set 1 (-1) } E04 E14 d5:=hA4.at hF Ga
  have hls:=Ja hA4.ok hfit hF
  have hF2:=hF.now hA4.ok
  clear hyes hno
  refine J11 ?_
  refine zV (EM rfl rfl rfl (show _=(0:Int) from AF Et Et)) rfl ?_
  refine zK H8 rfl ?_
  intro w1 hS
  refine (Ht w0 w1 g p4 { t with now:=tt,D:=t.D.set 1 (-1) } E04 E14 (EF++(KF++L)) d5 hA5 hG (hS.AX ) 4 0 ⟨by decide,by decide⟩ ⟨by decide,by decide⟩).mono ?_
  rintro e w' ⟨ad2,c2,gs,EG,KG,p2,E02,E12,d2,rfl,hV2,heg,hA2,hS'⟩
  have hS2:St (fun _=>False) w0 w' (EG++(KG++(.row g p2.cells::(E02++(E12++d2.L p2.gC (CM t 1 tt).1.now (EF++(KF++L))))))):=hS'
  have hgl:=BS heg
  have hgb:gs.length≤3:=(by rw [hgl];exact Np t 1 tt)
  refine ⟨_,EF++(EG++(KG++(KF++(.row g p2.cells::(E02++(E12++d2.L p2.gC (CM t 1 tt).1.now L)))))),rfl,hS2.AX ,?_⟩
  refine WL.AN rfl rfl rfl Tryz.underlying46 Tryz.underlying46 DI HP BT rfl rfl hV4.1 (new:=Hu gs) (hV2.1.src (fun e he=>List.mem_append_right _ (List.mem_append_left _ he)) |> fun f h=>(f Fg).elim fun b1 h1=>h1.elim fun o1 h2=>⟨b1,o1,h2.1,fun w hS=>h2.2 _ _ w hS⟩) (DQ gs) (EH gs) Er (.none rfl) rfl rfl ?_
  intro ad50 c50 E50 hV50 hr50
  rw [DF] at hV50
  rw [show fs.length+gs.length=(fs++gs).length from List.length_append.symm] at hV50 ⊢
  refine WL.to (L':=(⟨p2,E02,E12,d2,ad50,c50,fs++gs,E50,KG++KF⟩:PS).L g (CM t 1 tt).1.now L) (fun w hS=>hS.CE EG ) ?_
  refine J4 ?_
  refine eW ⟨0,⟨p2,E02,E12,d2,ad50,c50,fs++gs,E50,KG++KF⟩,(CM t 1 tt).1⟩ hls ⟨hA2,Kh hfit _ _,⟨by rw [FF];omega,by rw [FF];omega⟩,⟨hV50,fun e he=>?_⟩,by dsimp only;rw [List.length_append];omega,fun es s' h=>?_⟩
  · rcases List.mem_append.1 he with he|he
    · exact (hV4.2 e he).mono fun x hx=>List.mem_append_right _ hx
    · exact (hV2.2 e he).mono fun x hx=>List.mem_append_left _ hx
  · rw [List.map_append,heg,List.append_assoc]
    exact hR _ _ (.Jj hF h)
  refine J5 ?_
  refine JT (fun h44=>?_) (fun h44=>?_)
  obtain rfl:n=2:=Er
  have hF:=hyes rfl
  have hA5:BO g p4 { t with now:=tt,D:=t.D.set 2 (-1) } E04 E14 d5:=hA4.at hF Ga
  have hls:=Ja hA4.ok hfit hF
  have hF2:=hF.now hA4.ok
  clear hyes hno
  refine J8 ?_
  refine zV (EM rfl rfl rfl (show _=(1:Int) from AF Et Et)) rfl ?_
  refine zK H8 rfl ?_
  intro w1 hS
  refine (Hq w0 w1 g p4 { t with now:=tt,D:=t.D.set 2 (-1) } E04 E14 (EF++(KF++L)) d5 hA5 hG (hS.AX ) 4 0 ⟨by decide,by decide⟩ ⟨by decide,by decide⟩).mono ?_
  rintro e w' ⟨ad2,c2,gs,EG,KG,p2,E02,E12,d2,rfl,hV2,heg,hA2,hS'⟩
  have hS2:St (fun _=>False) w0 w' (EG++(KG++(.row g p2.cells::(E02++(E12++d2.L p2.gC (CM t 2 tt).1.now (EF++(KF++L))))))):=hS'
  have hgl:=BS heg
  have hgb:gs.length≤3:=(by rw [hgl];exact Np t 2 tt)
  refine ⟨_,EF++(EG++(KG++(KF++(.row g p2.cells::(E02++(E12++d2.L p2.gC (CM t 2 tt).1.now L)))))),rfl,hS2.AX ,?_⟩
  refine WL.AN rfl rfl rfl Tryz.underlying46 Tryz.underlying46 DI HP BT rfl rfl hV4.1 (new:=Hu gs) (hV2.1.src (fun e he=>List.mem_append_right _ (List.mem_append_left _ he)) |> fun f h=>(f Fg).elim fun b1 h1=>h1.elim fun o1 h2=>⟨b1,o1,h2.1,fun w hS=>h2.2 _ _ w hS⟩) (DQ gs) (EH gs) Er (.none rfl) rfl rfl ?_
  intro ad50 c50 E50 hV50 hr50
  rw [DF] at hV50
  rw [show fs.length+gs.length=(fs++gs).length from List.length_append.symm] at hV50 ⊢
  refine WL.to (L':=(⟨p2,E02,E12,d2,ad50,c50,fs++gs,E50,KG++KF⟩:PS).L g (CM t 2 tt).1.now L) (fun w hS=>hS.CE EG ) ?_
  refine J4 ?_
  refine eW ⟨0,⟨p2,E02,E12,d2,ad50,c50,fs++gs,E50,KG++KF⟩,(CM t 2 tt).1⟩ hls ⟨hA2,Kh hfit _ _,⟨by rw [FF];omega,by rw [FF];omega⟩,⟨hV50,fun e he=>?_⟩,by dsimp only;rw [List.length_append];omega,fun es s' h=>?_⟩
  · rcases List.mem_append.1 he with he|he
    · exact (hV4.2 e he).mono fun x hx=>List.mem_append_right _ hx
    · exact (hV2.2 e he).mono fun x hx=>List.mem_append_left _ hx
  · rw [List.map_append,heg,List.append_assoc]
    exact hR _ _ (.Jj hF h)
  refine J7 ?_
  refine JT (fun h52=>?_) (fun h52=>?_)
  obtain rfl:n=3:=Er
  have hF:=hyes rfl
  have hA5:BO g p4 { t with now:=tt,D:=t.D.set 3 (-1) } E04 E14 d5:=hA4.at hF Ga
  have hls:=Ja hA4.ok hfit hF
  have hF2:=hF.now hA4.ok
  clear hyes hno
  refine J11 ?_
  refine zV (EM rfl rfl rfl (show _=(0:Int) from AF Et Et)) rfl ?_
  refine J1 ?_
  refine zK N9 rfl ?_
  intro w1 hS
  refine (Lb w1 0 (MsL.zero 4) (Ll _) (HQ ⟨by decide,by decide⟩) (hG.FA (fun h=>h) hS) (Nat.zero_le _) (Nat.zero_le _)).mono ?_
  rintro e w' ⟨ad2,c2,gs,EG,KG,rfl,hV2,heg,hS'⟩
  have hgl:=BS heg
  have hgb:=GA 0 (MsL.zero 4)
  refine ⟨_,EF++(EG++(KG++(KF++(.row g p4.cells::(E04++(E14++d5.L p4.gC tt L)))))),rfl,(hS.join hS').AX ,?_⟩
  refine WL.AN rfl rfl rfl Tryz.underlying46 Tryz.underlying46 DI HP BT rfl rfl hV4.1 (new:=Hu gs) (hV2.1.src (fun e he=>List.mem_append_right _ (List.mem_append_left _ he)) |> fun f h=>(f Fg).elim fun b1 h1=>h1.elim fun o1 h2=>⟨b1,o1,h2.1,fun w hS=>h2.2 _ _ w hS⟩) (DQ gs) (EH gs) Er (.none rfl) rfl rfl ?_
  intro ad59 c59 E59 hV59 hr59
  rw [DF] at hV59
  rw [show fs.length+gs.length=(fs++gs).length from List.length_append.symm] at hV59 ⊢
  refine J6 ?_
  refine zV (EM rfl rfl rfl (show _=(0:Int) from AF Et Et)) rfl ?_
  refine zK Sp rfl ?_
  intro w1 hS
  refine (Q4 w0 w1 g p4 { t with now:=tt,D:=t.D.set 3 (-1) } E04 E14 (E59++(EG++(KG++(KF++L)))) d5 hA5 (hS.AX )).mono ?_
  rintro e w' ⟨d6,rfl,hA6,hS'⟩
  have hS2:St (fun _=>False) w0 w' (.row g p4.cells::(E04++(E14++d6.L p4.gC tt (E59++(EG++(KG++(KF++L))))))):=hS'
  have hnn:(CM t 3 tt).1.now=tt:=FF _ _ _
  refine ⟨_,(⟨p4,E04,E14,d6,ad59,c59,fs++gs,E59,KG++KF⟩:PS).L g (CM t 3 tt).1.now L,rfl,(by rw [hnn];exact hS2.CE EG ),?_⟩
  refine J3 ?_
  refine eW ⟨0,⟨p4,E04,E14,d6,ad59,c59,fs++gs,E59,KG++KF⟩,(CM t 3 tt).1⟩ hls ⟨hA6,Kh hfit _ _,⟨by rw [FF];omega,by rw [FF];omega⟩,⟨hV59,fun e he=>?_⟩,by dsimp only;rw [List.length_append];omega,fun es s' h=>?_⟩
  · rcases List.mem_append.1 he with he|he
    · exact (hV4.2 e he).mono fun x hx=>List.mem_append_right _ hx
    · exact (hV2.2 e he).mono fun x hx=>List.mem_append_left _ hx
  · rw [List.map_append,heg,List.append_assoc]
    exact hR _ _ (.Jj hF h)
  refine J5 ?_
  refine JT (fun h53=>?_) (fun h53=>?_)
  obtain rfl:n=4:=Er
  have hF:=hyes rfl
  have hA5:BO g p4 { t with now:=tt,D:=t.D.set 4 (-1) } E04 E14 d5:=hA4.at hF Ga
  have hls:=Ja hA4.ok hfit hF
  have hF2:=hF.now hA4.ok
  clear hyes hno
  refine J8 ?_
  refine zV (EM rfl rfl rfl (show _=(1:Int) from AF Et Et)) rfl ?_
  refine J1 ?_
  refine zK N9 rfl ?_
  intro w1 hS
  refine (Lb w1 1 (MsL.zero 4) (Ll _) (HQ ⟨by decide,by decide⟩) (hG.FA (fun h=>h) hS) (Nat.zero_le _) (Nat.zero_le _)).mono ?_
  rintro e w' ⟨ad2,c2,gs,EG,KG,rfl,hV2,heg,hS'⟩
  have hgl:=BS heg
  have hgb:=GA 1 (MsL.zero 4)
  refine ⟨_,EF++(EG++(KG++(KF++(.row g p4.cells::(E04++(E14++d5.L p4.gC tt L)))))),rfl,(hS.join hS').AX ,?_⟩
  refine WL.AN rfl rfl rfl Tryz.underlying46 Tryz.underlying46 DI HP BT rfl rfl hV4.1 (new:=Hu gs) (hV2.1.src (fun e he=>List.mem_append_right _ (List.mem_append_left _ he)) |> fun f h=>(f Fg).elim fun b1 h1=>h1.elim fun o1 h2=>⟨b1,o1,h2.1,fun w hS=>h2.2 _ _ w hS⟩) (DQ gs) (EH gs) Er (.none rfl) rfl rfl ?_
  intro ad59 c59 E59 hV59 hr59
  rw [DF] at hV59
  rw [show fs.length+gs.length=(fs++gs).length from List.length_append.symm] at hV59 ⊢
  refine J6 ?_
  refine zV (EM rfl rfl rfl (show _=(1:Int) from AF Et Et)) rfl ?_
  refine zK Sp rfl ?_
  intro w1 hS
  refine (Re w0 w1 g p4 { t with now:=tt,D:=t.D.set 4 (-1) } E04 E14 (E59++(EG++(KG++(KF++L)))) d5 hA5 (hS.AX )).mono ?_
  rintro e w' ⟨d6,rfl,hA6,hS'⟩
  have hS2:St (fun _=>False) w0 w' (.row g p4.cells::(E04++(E14++d6.L p4.gC tt (E59++(EG++(KG++(KF++L))))))):=hS'
  have hnn:(CM t 4 tt).1.now=tt:=FF _ _ _
  refine ⟨_,(⟨p4,E04,E14,d6,ad59,c59,fs++gs,E59,KG++KF⟩:PS).L g (CM t 4 tt).1.now L,rfl,(by rw [hnn];exact hS2.CE EG ),?_⟩
  refine J3 ?_
  refine eW ⟨0,⟨p4,E04,E14,d6,ad59,c59,fs++gs,E59,KG++KF⟩,(CM t 4 tt).1⟩ hls ⟨hA6,Kh hfit _ _,⟨by rw [FF];omega,by rw [FF];omega⟩,⟨hV59,fun e he=>?_⟩,by dsimp only;rw [List.length_append];omega,fun es s' h=>?_⟩
  · rcases List.mem_append.1 he with he|he
    · exact (hV4.2 e he).mono fun x hx=>List.mem_append_right _ hx
    · exact (hV2.2 e he).mono fun x hx=>List.mem_append_left _ hx
  · rw [List.map_append,heg,List.append_assoc]
    exact hR _ _ (.Jj hF h)
  refine J7 ?_
  exact absurd ((hyes rfl).now hA4.ok).2.2.2.1 Er

theorem XG {m:MsL}(h:Gr m=0) (hI:m.In):BL [] (DG m)=([G5 m],none,[]):=by
  obtain ⟨j,rest,hj,e,_,hz⟩:=MR [m] [] (DG m) [] (fun x hx=>by obtain rfl:=List.mem_singleton.1 hx;exact ⟨h,hI⟩) (by unfold SB;rw [List.flatMap_cons,List.flatMap_nil])
  obtain ⟨rfl,rfl⟩:=hz rfl
  exact e
theorem Ms {a h i:Int}(ha:1≤a∧a≤65535) (hh:h=0∨3≤h∧h≤65535) (hi:i≠0):Gr (FX a h i)=0:=by
  have e1:UK (FX a h i)=false:=by
    unfold UK
    exact decide_eq_false (show ¬ (a<1∨65535<a∨(h≠0∧(h<3∨65535<h))∨i=0∨32<0) by omega)
  have e2:HW (FX a h i)=0:=by
    show HT (FX a h i)=0
    unfold HT
    rw [e1]
    rfl
  have e3:(GV (FX a h i)).length=10:=by
    show (Gx (FX a h i)).length=10
    unfold Gx
    simp only [List.length_append,AW,List.length_cons,List.length_nil]
    rfl
  unfold Gr
  rw [if_pos e2,if_neg Er]
theorem UR {C S:Int}{d:ByteArray}(hC:1≤C∧C≤255) (hS:0≤S∧S≤255) (hd:d.size≤4075):Gr (I5 C S d)=0:=by
  have e2:HW (I5 C S d)=0:=by
    show Kb (I5 C S d)=0
    show (if C<1∨255<C∨S<0∨255<S then (1:Int) else if 4096<d.size then 6 else 0)=0
    rw [if_neg (show ¬ (C<1∨255<C∨S<0∨255<S) by omega),if_neg (show ¬ 4096<d.size by omega)]
  have e3:(GV (I5 C S d)).length=2+d.size:=by
    show (Ph (I5 C S d)).length=_
    unfold Ph
    rw [List.length_append,Td]
    rfl
  unfold Gr
  rw [if_pos e2,if_neg Er]
theorem LJ:Gr (MsL.zero 4)=0:=by decide
theorem OV {n:Int}{m:MsL}(h:Gr m=0):FN n m=[⟨2,n,DG m,(MsL.zero 0).d⟩]:=if_pos h
theorem XX {C S:Int}{d:ByteArray}(hC:1≤C∧C≤255) (hS:0≤S∧S≤255) (hd:d.size≤4075):(I5 C S d).In:=PM F0 F0 Er
def G4 (xs:List Int):Int×Int×Int:=match FE xs with | .inl m=>(m.kind,m.fc,m.fs) | .inr _=>(-1,0,0)
theorem XC {m:MsL}(h:Gr m=0) (hI:m.In):G4 (DG m)=((G5 m).kind,(G5 m).fc,(G5 m).fs):=by
  unfold G4
  rw [Yc h hI]
theorem AcV (w:World) (ad:Option Addr) (c:Nat) (xs:List Int) (hC:AU w ad (u8s xs)) (hB:Bys xs) (hle:xs.length≤c) (hn:xs.length≤90000) :
    Calls Tryz.prog 17 #[.slice ad xs.length c] w fun e w'=>e = .returned (.agg #[.int .i64 (G4 xs).1, .int .i64 (G4 xs).2.1, .int .i64 (G4 xs).2.2])∧Frm (fun _=>False) w w':=by
  refine enter Tryz.func17 rfl Tryz.ntmps17 rfl (St.start (fun _=>False) w) ?_
  refine J2 ?_
  refine WL.alloc rfl Jp (.none rfl) rfl rfl ?_
  intro g2 hg2
  refine J5 ?_
  refine zK ck_58 rfl ?_
  intro w1 hS
  refine (Qd w1 ad c xs (hC.frm (hS.rng fun _ h=>h)) hB hle hn).mono ?_
  rintro e w' ⟨C,S,d,m,K,rfl,hM,hS',hD⟩
  refine ⟨_,_,rfl,hS.join hS',?_⟩
  refine J3 ?_
  refine WL.alloc rfl H7 (.none rfl) rfl rfl ?_
  intro g3 hg3
  refine WL.alloc rfl FI (.none rfl) rfl rfl ?_
  intro g4 hg4
  refine J9 ?_
  refine JT (fun h12=>?_) (fun h12=>?_)
  refine J5 ?_
  refine zV (HV rfl rfl Jp Tryz.underlying51 AP rfl) rfl ?_
  refine J5 ?_
  refine eT1 ?_
  have e:G4 xs=(-1,0,0):=(by
    unfold G4
    unfold LQ at hD
    split
    · rename_i m2 hm
      rw [hm] at hD
      exact absurd hD.1 h12
    · rfl)
  exact fun w' h=>⟨by rw [e];rfl,h.frm⟩
  refine J15 ?_
  refine zV (HV rfl rfl Jp Tryz.underlying51 AP rfl) rfl ?_
  refine J4 ?_
  refine eT1 ?_
  have e:G4 xs=(m.kind,m.fc,m.fs):=(by
    unfold G4
    unfold LQ at hD
    split
    · rename_i m2 hm
      rw [hm] at hD
      rw [← hD.2.2.2]
      rfl
    · rename_i f hm
      obtain ⟨C2,S2,d2⟩:=f
      rw [hm] at hD
      exact absurd ((congrArg Prod.fst hD.1:C2=C).trans (Decidable.of_not_not h12)) (Nz hm))
  exact fun w' h=>⟨by rw [e];rfl,h.frm⟩
end Gq

theorem Na {fs:List EfL}{es:List EfD}(h:fs.map EfL.d=es):fs.map EfL.kind=es.map EfD.kind:=by
  rw [← h,List.map_map];rfl
theorem AaR {s:Se}{n:Nat}{A H j:Int}(h1:A≠s.their):BQ s n A H j=(s.gone n,DW s n 2 2 ⟨#[]⟩):=if_pos h1
theorem Zv {s:Se}{n:Nat}{A H j:Int}(h1:A=s.their) (h2:j=s.id):BQ s n A H j=(s.gone n,DW s n 2 3 ⟨#[]⟩):=(if_neg (fun hh=>hh h1)).trans (if_pos h2)
theorem AaG {s:Se}{n:Nat}{A H j:Int}(h1:A=s.their) (h2:j≠s.id) (h3:(s.c (1-n)).st=5):BQ s n A H j=(s.gone n,DW s n 6 7 ⟨#[]⟩):=(if_neg (fun hh=>hh h1)).trans ((if_neg h2).trans (if_pos h3))
theorem SP {s:Se}{n:Nat}{A H j:Int}(h1:A=s.their) (h2:j≠s.id) (h3:(s.c (1-n)).st≠5) (h4:(s.c (1-n)).st≠4):BQ s n A H j=(s.BE n H j,FN n (MsL.zero 4)):=(if_neg (fun hh=>hh h1)).trans ((if_neg h2).trans ((if_neg h3).trans (if_neg h4)))
theorem Ui {s:Se}{n:Nat}{m:MsD}(h1:m.kind=1) (h2:(s.c n).st=3):CI s n m=BQ s n m.asn m.hold m.id:=(if_neg Er).trans (if_pos ⟨h1,h2⟩)
theorem SF {s:Se}{n:Nat}{m:MsD}(h1:m.kind=4) (h2:(s.c n).st=4):CI s n m=(s.BD n,Gs s n):=(if_neg Er).trans ((if_neg Er).trans (if_pos ⟨h1,h2⟩))
theorem X1 {s t:Se}{n:Nat}(h1:s.up5 n=t) (h2:(t.c (1-n)).st=0):s.BD n=t∧Gs s n=[ef 4 n]:=by
  subst h1
  exact ⟨if_pos h2,by unfold Gs;rw [if_pos h2];rfl⟩
theorem UJ {s:Se}{n:Nat}{H j:Int}(h:min s.hold H≠0):s.BE n H j=((s.DZ n H j).alive n).kept n:=if_neg h
theorem Sb {s:Se}{n:Nat}(h:(s.c n).hold≠0):s.alive n=s.due (1+n) (s.c n).hold:=if_neg h
theorem Ack {s:Se}{n:Nat}(h:(s.c n).hold≠0):s.kept n=s.due (3+n) ((s.c n).hold.tdiv 3):=if_neg h
section
variable (a i t h r:Int)
def sA:Se:=⟨a,i,t,h,r,1,CnM.zero,CnM.zero,0,[r, -1, -1, -1, -1]⟩
def sB:Se:=⟨a,i,t,h,r,2,JM,CnM.zero,0,[-1,240, -1, -1, -1]⟩
def cn4 (H j:Int):CnM:=⟨4,[],1,0,0,⟨#[]⟩,H,j⟩
def cn5 (H j:Int):CnM:=⟨5,[],2,0,0,⟨#[]⟩,H,j⟩
def sC (H j:Int):Se:=⟨a,i,t,h,r,2,cn4 H j,CnM.zero,0,[-1,H, -1,H.tdiv 3, -1]⟩
def sD (H j:Int):Se:=⟨a,i,t,h,r,2,cn5 H j,CnM.zero,0,[-1,H, -1,H.tdiv 3, -1]⟩
variable {a i t h r:Int}
theorem Rh {n:Nat}{l:Int}(h0:l≤65535):IY 0 n l=l:=by
  unfold IY FB
  rw [if_neg Er]
  omega
theorem ZV (hr:r≤65535):(Se.new a i t h r).JW=sA a i t h r:=by
  show (⟨a,i,t,h,r,1,CnM.zero,CnM.zero,0,[IY 0 0 r, -1, -1, -1, -1]⟩:Se)=_
  rw [Rh hr]
  rfl
theorem up_sA:(sA a i t h r).up 0=sB a i t h r∧upE (sA a i t h r) 0=FN 0 (FX a h i):=by
  have hn:¬ K1 (sA a i t h r) 0:=by
    rintro (h|h|⟨_,h⟩)
    · exact absurd (show (1:Int)=0 from h) Et
    · exact h rfl
    · exact h rfl
  exact ⟨(if_neg hn).trans rfl,if_neg hn⟩
theorem Qj {s:Se}{n:Nat}{m:MsL}(h0:(s.c n).st≠0) (hw:(s.c n).wait=[]) (h:Gr m=0) (hI:m.In):AM s n (DG m)=CI (s.set n { s.c n with wait:=[],count:=(s.c n).count+1,fc:=0,fs:=0,fd:=⟨#[]⟩ }) n (G5 m):=by
  have e1:BL [] ((s.c n).wait++DG m)=([G5 m],none,[]):=by rw [hw,List.nil_append];exact XG h hI
  unfold AM
  rw [if_neg h0]
  have e2:s.fed n (DG m)=s.set n { s.c n with wait:=[],count:=(s.c n).count+1,fc:=0,fs:=0,fd:=⟨#[]⟩ }:=by
    unfold Se.fed CnM.fed
    rw [e1]
    rfl
  rw [e2,e1]
  dsimp only
  generalize he:s.set n _=s'
  have e3:(s'.c n).st=(s.c n).st:=by
    rw [← he]
    unfold Se.set Se.c
    split <;> rfl
  have e4:BK n s' [G5 m]=CI s' n (G5 m):=by
    unfold BK
    rw [if_neg (by rw [e3];exact h0)]
    unfold BK
    rw [List.append_nil]
  rw [e4]
  unfold G1
  split <;> rfl
theorem Adp {A H j:Int}(hc:Gr (FX A H j)=0) (hI:(FX A H j).In):AM (sB a i t h r) 0 (DG (FX A H j))=BQ ⟨a,i,t,h,r,2,⟨3,[],1,0,0,⟨#[]⟩,0,0⟩,CnM.zero,0,[-1,240, -1, -1, -1]⟩ 0 A H j:=by
  rw [Qj (s:=sB a i t h r) (n:=0) (show (3:Int)≠0 by decide) rfl hc hI]
  exact Ui rfl rfl
theorem TY {H j:Int}(hm:3≤min h H) (hh:min h H≤65535):Se.BE ⟨a,i,t,h,r,2,⟨3,[],1,0,0,⟨#[]⟩,0,0⟩,CnM.zero,0,[-1,240, -1, -1, -1]⟩ 0 H j=sC a i t h r (min h H) j:=by
  rw [UJ (show min h H≠0 by omega)]
  refine (congrArg (fun z=>Se.kept z 0) (Sb ?_)).trans ?_
  · show min h H≠0;omega
  refine (Ack ?_).trans ?_
  · show min h H≠0;omega
  show (⟨a,i,t,h,r,2,cn4 (min h H) j,CnM.zero,0,[-1,IY 0 1 (min h H), -1,IY 0 3 ((min h H).tdiv 3), -1]⟩:Se)=_
  rw [Rh hh,Rh (SK Er hh).2]
  rfl
theorem Ab0 {H j:Int}(hm:3≤H) (hh:H≤65535):AM (sC a i t h r H j) 0 (DG (MsL.zero 4))=(sD a i t h r H j,[ef 4 0]):=by
  rw [Qj (s:=sC a i t h r H j) (n:=0) (show (4:Int)≠0 by decide) rfl LJ (HQ ⟨by decide,by decide⟩)]
  refine (SF rfl rfl).trans ?_
  have e1:=X1 (s:=⟨a,i,t,h,r,2,⟨4,[],2,0,0,⟨#[]⟩,H,j⟩,CnM.zero,0,[-1,H, -1,H.tdiv 3, -1]⟩) (n:=0) (t:=sD a i t h r H j) (by
    refine (Sb (s:=⟨a,i,t,h,r,2,⟨5,[],2,0,0,⟨#[]⟩,H,j⟩,CnM.zero,0,[-1,H, -1,H.tdiv 3, -1]⟩) (n:=0) (show H≠0 by omega)).trans ?_
    show (⟨a,i,t,h,r,2,cn5 H j,CnM.zero,0,[-1,IY 0 1 H, -1,H.tdiv 3, -1]⟩:Se)=_
    rw [Rh hh]
    rfl) rfl
  exact Prod.ext e1.1 e1.2
end
section
variable {a i t h r:Int}(w0 w:World) (g:Nat) (p:PeL) (E0 E1 L:List Ent) (d:Ck)
theorem XD (hA:BO g p (Se.new a i t h r) E0 E1 d) (hS0:St (fun _=>False) w0 w (.row g p.cells::(E0++(E1++d.L p.gC 0 L)))) (hr:r≤65535):Calls Tryz.prog 13 #[.pointer (some ⟨g,0,none⟩)] w fun e w'=>G2 w0 w' g [ef 1 0] (sA a i t h r) L e:=by
  have hc:=VI w0 w g p (Se.new a i t h r) E0 E1 L d hA hS0
  rw [if_pos (show (Se.new a i t h r).base=0 from rfl),if_pos (show (Se.new a i t h r).base=0 from rfl),ZV hr] at hc
  exact hc
theorem up_new (hA:BO g p (sA a i t h r) E0 E1 d) (hG:GF w0) (hS0:St (fun _=>False) w0 w (.row g p.cells::(E0++(E1++d.L p.gC 0 L)))) (hok:I9 a i t h r):Calls Tryz.prog 14 #[.pointer (some ⟨g,0,none⟩), .int .i64 0] w fun e w'=>G2 w0 w' g [⟨2,0,DG (FX a h i),(MsL.zero 0).d⟩] (sB a i t h r) L e:=by
  have hc:=up0_c w0 w g p (sA a i t h r) E0 E1 L d hA hG hS0 (by have:=hok.1;show -9223372036854775808≤a∧a≤9223372036854775807;omega)
  rw [up_sA.1,up_sA.2,OV (Ms hok.1 hok.2.2.2.1 hok.2.2.1)] at hc
  exact hc
end
section Gq
attribute [local irreducible] WL WC WE WQ WP WH WR WM WRH

theorem Qh {a h i:Int}(ha:1≤a∧a≤65535) (hh:I64 h) (hi:U32 i):(FX a h i).In:=MW F0 hh hi
theorem Oj {m:MsL}(h:Gr m=0):(DG m).length≤4096:=by
  have:=(MQ h).2
  rw [OG];omega
theorem UH {a i t h r H j:Int}(hc:Gr (FX t H j)=0) (hI:(FX t H j).In) (hj:j≠i) (hm:3≤min h H) (hh:min h H≤65535):AM (sB a i t h r) 0 (DG (FX t H j))=(sC a i t h r (min h H) j,[⟨2,0,DG (MsL.zero 4),(MsL.zero 0).d⟩]):=by
  rw [Adp hc hI]
  refine (SP rfl hj ?_ ?_).trans ?_
  · show (0:Int)≠5;decide
  · show (0:Int)≠4;decide
  · rw [TY hm hh]
    exact congrArg (Prod.mk _) (OV LJ)
set_option maxHeartbeats 2000000 in
theorem Tg (w0:World) (hG:GF w0) (hZ:GZ w0):Calls Tryz.prog 9 #[] w0 fun e w'=>e = .returned (.bool true)∧Frm (fun _=>False) w0 w':=by
  have hok:I9 65000 5 65001 90 10:=by decide
  have hoc:Gr (FX 65001 30 9)=0:=Ms Et Et Et
  have hoI:(FX 65001 30 9).In:=Qh Et ⟨by decide,by decide⟩ ⟨by decide,by decide⟩
  have hol:(DG (FX 65001 30 9)).length≤4096:=Oj hoc
  have hkI:(MsL.zero 4).In:=HQ ⟨by decide,by decide⟩
  have hkl:(DG (MsL.zero 4)).length≤4096:=Oj LJ
  have f1:AM (sB 65000 5 65001 90 10) 0 (DG (FX 65001 30 9))=(sC 65000 5 65001 90 10 30 9,[⟨2,0,DG (MsL.zero 4),(MsL.zero 0).d⟩]):=UH (h:=90) hoc hoI Et Et Et
  have f2:AM (sC 65000 5 65001 90 10 30 9) 0 (DG (MsL.zero 4))=(sD 65000 5 65001 90 10 30 9,[ef 4 0]):=Ab0 Et Et
  refine enter (vs:=[]) Tryz.func9 rfl Tryz.ntmps9 rfl (St.start (fun _=>False) w0) ?_
  refine J7 ?_
  refine zk ck_12 rfl (fun w hS=>Ab6 w)<|zK Abx rfl<|?_
  intro w1 hS
  refine (new_c w0 w1 [] hS 65000 5 65001 90 10 hok ⟨by decide,by decide⟩).mono ?_
  rintro e w' ⟨g,p,d,rfl,hA,hS'⟩
  refine ⟨_,_,rfl,hS',?_⟩
  refine J11 ?_
  refine zV ((BY rfl rfl rfl).f (Et)) rfl ?_
  refine J2 ?_
  refine zS (AY false rfl rfl Tryz.underlying40 rfl) rfl ?_
  refine J3 ?_
  refine WL.call rfl rfl Abl (.some rfl rfl rfl) rfl rfl ?_
  intro w1 hS
  refine (XD w0 w1 g p [] [] [] d hA hS Et).mono ?_
  rintro e w' ⟨ad1,c1,fs1,EF1,KF1,p1,E01,E11,d1,rfl,hV1,he1,hA1,hS'⟩
  refine ⟨_,EF1++(KF1++(.row g p1.cells::(E01++(E11++d1.L p1.gC 0 [])))),rfl,hS',?_⟩
  refine WL.buildSlice rfl rfl Tryz.underlying32 AP DB rfl Et rfl (.some rfl rfl rfl) rfl rfl ?_
  intro g17 hg17
  refine WL.as (L':=.row g17 [.int .i64 1]::(EF1++(KF1++(.row g p1.cells::(E01++(E11++d1.L p1.gC 0 [])))))) rfl ?_
  refine zk Vy rfl (fun w hS=>Oi w ad1 c1 fs1 EF1 hV1.1 (fun e he=>hS.holds e Fx) (some ⟨g17,0,none⟩) 1 [1] (fun _=>⟨g17,0,rfl,BZ w hS⟩) (Na he1) (by rw [BS he1];decide)) ?_
  refine J4 ?_
  refine WL.call rfl rfl ZQ (.some rfl rfl rfl) rfl rfl ?_
  intro w1 hS
  refine (up_new w0 w1 g p1 E01 E11 [] d1 hA1 hG (hS.CE (.row g17 [.int .i64 1]::(EF1++KF1)) ) hok).mono ?_
  rintro e w' ⟨ad2,c2,fs2,EF2,KF2,p2,E02,E12,d2,rfl,hV2,he2,hA2,hS'⟩
  refine ⟨_,EF2++(KF2++(.row g p2.cells::(E02++(E12++d2.L p2.gC 0 [])))),rfl,hS',?_⟩
  refine WL.buildSlice rfl rfl Tryz.underlying32 AP DB rfl Et rfl (.some rfl rfl rfl) rfl rfl ?_
  intro g24 hg24
  refine WL.as (L':=.row g24 [.int .i64 2]::(EF2++(KF2++(.row g p2.cells::(E02++(E12++d2.L p2.gC 0 [])))))) rfl ?_
  refine zk Vy rfl (fun w hS=>Oi w ad2 c2 fs2 EF2 hV2.1 (fun e he=>hS.holds e Fx) (some ⟨g24,0,none⟩) 1 [2] (fun _=>⟨g24,0,rfl,BZ w hS⟩) (Na he2) (by rw [BS he2];decide)) ?_
  refine J4 ?_
  refine WL.call rfl rfl ck_22 (.some rfl rfl rfl) rfl rfl ?_
  intro w1 hS
  refine (Adm w1 9 30 ⟨by decide,by decide⟩ ⟨by decide,by decide⟩ (hG.FA (fun h=>h) hS)).mono ?_
  rw [if_pos hoc]
  rintro e w' ⟨_,rfl,ad3,c3,E3,rfl,hV3,hS'⟩
  refine ⟨_,_,rfl,hS.join hS',?_⟩
  refine WL.call rfl rfl Qw (.some rfl rfl rfl) rfl rfl ?_
  intro w1 hS
  have hf:=RI w0 w1 g p2 (sB 65000 5 65001 90 10) E02 E12 E3 d2 hA2 hG hZ (show St (fun _=>False) w0 w1 (.row g p2.cells::(E02++(E12++d2.L p2.gC 0 E3))) from hS.CE (.row g24 [.int .i64 2]::(EF2++KF2)) ) ad3 c3 (DG (FX 65001 30 9)) (fun w h=>hV3.Rp (fun e he=>h.holds e Fx)) (Mx hoI hoc) Er ⟨rfl,rfl,rfl⟩ Et
  rw [f1] at hf
  refine hf.mono ?_
  rintro e w' ⟨ad4,c4,fs4,EF4,KF4,p4,E04,E14,d4,rfl,hV4,he4,hA4,hS'⟩
  refine ⟨_,EF4++(KF4++(.row g p4.cells::(E04++(E14++d4.L p4.gC 0 E3)))),rfl,hS',?_⟩
  refine WL.buildSlice rfl rfl Tryz.underlying32 AP DB rfl Et rfl (.some rfl rfl rfl) rfl rfl ?_
  intro g32 hg32
  refine WL.as (L':=.row g32 [.int .i64 2]::(EF4++(KF4++(.row g p4.cells::(E04++(E14++d4.L p4.gC 0 E3)))))) rfl ?_
  refine zk Vy rfl (fun w hS=>Oi w ad4 c4 fs4 EF4 hV4.1 (fun e he=>hS.holds e Fx) (some ⟨g32,0,none⟩) 1 [2] (fun _=>⟨g32,0,rfl,BZ w hS⟩) (Na he4) (by rw [BS he4];decide)) ?_
  refine J10 ?_
  have b4:p4.base=2:=(congrArg Se.base hA4.eq :)
  have s4:p4.c0.st=4:=(congrArg (fun z:Se=>z.c0.st) hA4.eq :)
  have t4:p4.c1.st=0:=(congrArg (fun z:Se=>z.c1.st) hA4.eq :)
  refine zk Vl rfl (fun w hS=>Rm w g p4 (hS.row (g:=g))) ?_
  refine zV ((AZ rfl rfl rfl).t ((by rw [b4,s4,t4];decide))) rfl ?_
  refine J3 ?_
  refine WL.call rfl rfl AaD (.some rfl rfl rfl) rfl rfl ?_
  intro w1 hS
  refine (PJ w1 (MsL.zero 4) (Ll _) hkI (hG.FA (fun h=>h) hS) (Nat.zero_le _) (Nat.zero_le _)).mono ?_
  rw [if_pos LJ]
  rintro e w' ⟨_,rfl,ad5,c5,E5,rfl,hV5,hS'⟩
  refine ⟨_,_,rfl,hS.join hS',?_⟩
  refine WL.call rfl rfl Qw (.some rfl rfl rfl) rfl rfl ?_
  intro w1 hS
  have hf:=RI w0 w1 g p4 (sC 65000 5 65001 90 10 30 9) E04 E14 E5 d4 hA4 hG hZ (show St (fun _=>False) w0 w1 (.row g p4.cells::(E04++(E14++d4.L p4.gC 0 E5))) from hS.CE (.row g32 [.int .i64 2]::(EF4++(KF4++E3))) ) ad5 c5 (DG (MsL.zero 4)) (fun w h=>hV5.Rp (fun e he=>h.holds e Fx)) (Mx hkI LJ) Er ⟨rfl,rfl,rfl⟩ Et
  rw [f2] at hf
  refine hf.mono ?_
  rintro e w' ⟨ad6,c6,fs6,EF6,KF6,p6,E06,E16,d6,rfl,hV6,he6,hA6,hS'⟩
  refine ⟨_,EF6++(KF6++(.row g p6.cells::(E06++(E16++d6.L p6.gC 0 E5)))),rfl,hS',?_⟩
  refine WL.buildSlice rfl rfl Tryz.underlying32 AP DB rfl Et rfl (.some rfl rfl rfl) rfl rfl ?_
  intro g44 hg44
  refine WL.as (L':=.row g44 [.int .i64 4]::(EF6++(KF6++(.row g p6.cells::(E06++(E16++d6.L p6.gC 0 E5)))))) rfl ?_
  refine zk Vy rfl (fun w hS=>Oi w ad6 c6 fs6 EF6 hV6.1 (fun e he=>hS.holds e Fx) (some ⟨g44,0,none⟩) 1 [4] (fun _=>⟨g44,0,rfl,BZ w hS⟩) (Na he6) (by rw [BS he6];decide)) ?_
  refine J3 ?_
  have b6:p6.base=2:=(congrArg Se.base hA6.eq :)
  have s6:p6.c0.st=5:=(congrArg (fun z:Se=>z.c0.st) hA6.eq :)
  have t6:p6.c1.st=0:=(congrArg (fun z:Se=>z.c1.st) hA6.eq :)
  have i6:p6.c0.id=9:=(congrArg (fun z:Se=>z.c0.id) hA6.eq :)
  refine zk Vl rfl (fun w hS=>Rm w g p6 (hS.row (g:=g))) ?_
  refine zS ((AZ rfl rfl rfl).t ((by rw [b6,s6,t6];decide))) rfl ?_
  refine J3 ?_
  refine zk Zt rfl (fun w hS=>VF w g p6 (hS.row (g:=g))) ?_
  refine zS ((AZ rfl rfl rfl).t ((by unfold Mn;rw [if_pos s6];exact i6))) rfl ?_
  refine J5 ?_
  exact A9
end Gq

structure Gz (P:Se→Prop):Prop where
  free:∀ s b now D,P s→P { s with base:=b,now:=now,D:=D }
  zero:∀ s n,n<2→P s→P (s.set n CnM.zero)
  HZ:∀ s n,n<2→P s→P (s.set n JM)
  conf:∀ s n h i,n<2→(h=0∨3≤h)→P s→P (s.set n { s.c n with st:=4,hold:=min s.hold h,id:=i })
  est:∀ s n,n<2→(s.c n).st≠0→P s→P (s.set n { s.c n with st:=5 })
section
variable {P:Se→Prop}(K:Gz P)
include K
theorem Gz.due {s:Se}(h:P s) (n:Nat) (l:Int):P (s.due n l):=K.free s s.base s.now _ h
theorem Gz.cut {s:Se}(h:P s) (n:Nat) (hn:n<2):P (s.cut n):=K.free (s.set n CnM.zero) (s.set n CnM.zero).base (s.set n CnM.zero).now _ (K.zero s n hn h)
theorem Gz.JW {s:Se}(h:P s):P s.JW:=K.due (K.free s 1 s.now s.D h) 0 _
theorem Gz.gone {s:Se}(h:P s) (n:Nat) (hn:n<2):P (s.gone n):=by
  have hc:=K.cut h n hn
  unfold Se.gone
  split
  · exact K.due (K.free (s.cut n) _ (s.cut n).now (s.cut n).D hc) 0 _
  · exact hc
theorem Gz.alive {s:Se}(h:P s) (n:Nat):P (s.alive n):=by
  unfold Se.alive
  split
  · exact h
  · exact K.due h _ _
theorem Gz.kept {s:Se}(h:P s) (n:Nat):P (s.kept n):=by
  unfold Se.kept
  split
  · exact h
  · exact K.due h _ _
theorem Gz.BE {s:Se}(h:P s) (n:Nat) (hn:n<2) (H i:Int) (hH:H=0∨3≤H):P (s.BE n H i):=by
  have h4:P (s.DZ n H i):=K.conf s n H i hn hH h
  unfold Se.BE
  split
  · exact K.free (s.DZ n H i) (s.DZ n H i).base (s.DZ n H i).now _ h4
  · exact K.kept (K.alive h4 n) n
theorem Gz.BQ {s:Se}(h:P s) (n:Nat) (hn:n<2) (a H i:Int) (hH:H=0∨3≤H):P (BQ s n a H i).1:=by
  unfold YtcmpamnhegndnaaGreatDoor.BQ
  repeat' split
  all_goals first|exact K.gone h n hn|exact K.BE h n hn H i hH|exact K.BE (K.gone h (1-n) Er) n hn H i hH
theorem Gz.up5 {s:Se}(h:P s) (n:Nat) (hn:n<2) (h0:(s.c n).st≠0):P (s.up5 n):=K.alive (K.est s n hn h0 h) n
theorem Gz.BD {s:Se}(h:P s) (n:Nat) (hn:n<2) (h0:(s.c n).st≠0):P (s.BD n):=by
  have h5:=K.up5 h n hn h0
  unfold Se.BD
  split
  · exact h5
  · exact K.gone h5 (1-n) Er
theorem Gz.CI {s:Se}(h:P s) (n:Nat) (hn:n<2) (m:MsD) (hm:m.hold=0∨3≤m.hold):P (CI s n m).1:=by
  unfold YtcmpamnhegndnaaGreatDoor.CI
  split
  · exact K.gone h n hn
  split
  · exact K.BQ h n hn _ _ _ hm
  split
  · rename_i h4
    exact K.BD h n hn (by rw [h4.2];decide)
  split
  · exact K.alive h n
  split
  · exact K.alive h n
  · exact K.gone h n hn
theorem Gz.BK (n:Nat) (hn:n<2):∀ (ms:List MsD){s:Se},P s→(∀ m∈ms,m.Fit)→P (BK n s ms).1
  | [],s,h,_=>h
  | m::ms,s,h,hm=>by
    unfold YtcmpamnhegndnaaGreatDoor.BK
    split
    · exact h
    · exact Gz.BK n hn ms (K.CI h n hn m ((hm m (List.mem_cons_self ..)).hold.imp id And.left)) fun x hx=>hm x (List.mem_cons_of_mem _ hx)
theorem Gz.G1 {n:Nat}(hn:n<2){f:Option (Int×Int×ByteArray)}{y:Se×List EfD}(h:P y.1):P (G1 n f y).1:=by
  unfold YtcmpamnhegndnaaGreatDoor.G1
  split
  · exact h
  · split
    · exact h
    · exact K.gone h n hn
theorem Gz.up {s:Se}(h:P s) (n:Nat) (hn:n<2):P (s.up n):=by
  unfold Se.up
  split
  · exact h
  · exact K.due (K.free (s.set n JM) _ (s.set n JM).now _ (K.HZ s n hn h)) _ _
theorem Gz.down {s:Se}(h:P s) (n:Nat) (hn:n<2):P (s.down n):=by
  unfold Se.down
  split
  · exact K.gone h n hn
  split
  · exact h
  split
  · exact K.due (K.free s 2 s.now s.D h) _ _
  · exact K.free s 2 s.now s.D h
theorem Gz.CF {s:Se}(h:P s):∀ k,k≤2→P (CF s k).1
  | 0,_=>h
  | k+1,hk=>by
    have h1:=Gz.CF h k Er
    unfold YtcmpamnhegndnaaGreatDoor.CF YtcmpamnhegndnaaGreatDoor.Gv
    dsimp only
    split
    · exact h1
    · exact K.gone h1 k Er
theorem Gz.FZ {s:Se}(h:P s):P (FZ s).1:=by
  unfold YtcmpamnhegndnaaGreatDoor.FZ
  split
  · exact h
  · exact K.CF (K.free s 0 s.now _ h) 2 (Nat.le_refl _)
theorem Gz.CM {s:Se}(h:P s) (n:Nat) (t:Int):P (CM s n t).1:=by
  have h':∀ n,P { s with now:=t,D:=s.D.set n (-1) }:=fun n=>K.free s s.base t _ h
  unfold YtcmpamnhegndnaaGreatDoor.CM
  split
  · exact K.JW (h' 0)
  · exact K.gone (h' 1) 0 Et
  · exact K.gone (h' 2) 1 Et
  · exact K.kept (h' 3) 0
  · exact K.kept (h' 4) 1
theorem Gz.tick {T:Int}{s s':Se}{es:List EfD}(hr:JL T s es s') (h:P s):P s':=by
  induction hr with
  | done _=>exact K.free _ _ T _ h
  | Jj _ _ ih=>exact ih (K.CM h _ _)
end
theorem L5 (s:Se) (n k:Nat) (c:CnM) (hn:n<2) (hk:k<2):(s.set n c).c k=if k=n then c else s.c k:=by
  match n,k,hn,hk with
  | 0,0,_,_=>rfl
  | 0,1,_,_=>rfl
  | 1,0,_,_=>rfl
  | 1,1,_,_=>rfl
theorem DL (s:Se) (n:Nat) (c:CnM):(s.set n c).asn=s.asn∧(s.set n c).hold=s.hold∧(s.set n c).base=s.base∧(s.set n c).their=s.their∧(s.set n c).id=s.id∧(s.set n c).retry=s.retry:=by
  unfold Se.set
  split <;> exact ⟨rfl,rfl,rfl,rfl,rfl,rfl⟩
def CnM.Wf (N:Int) (c:CnM):Prop:=(c.hold=0∨3≤c.hold)∧(c.st=0→c=CnM.zero)∧c.count≤N
structure Se.Wf (N:Int) (s:Se):Prop where
  asn:I64 s.asn
  hold:s.hold=0∨3≤s.hold
  c:∀ n,n<2→(s.c n).Wf N
theorem Rl {N:Int}(h:0≤N):CnM.zero.Wf N:=⟨.inl rfl,fun _=>rfl,h⟩
theorem wf_set {N:Int}{s:Se}(h:s.Wf N){n:Nat}(hn:n<2){c:CnM}(hc:c.Wf N):(s.set n c).Wf N:=by
  have e:=DL s n c
  refine ⟨by rw [e.1];exact h.asn,by rw [e.2.1];exact h.hold,fun k hk=>?_⟩
  rw [L5 s n k c hn hk]
  split
  · exact hc
  · exact h.c k hk
theorem JP {N:Int}(hN:0≤N):Gz (Se.Wf N) where
  free s b now D h:=⟨h.asn,h.hold,h.c⟩
  zero s n hn h:=wf_set h hn (Rl hN)
  HZ s n hn h:=wf_set h hn ⟨.inl rfl,fun e=>absurd e Et,hN⟩
  conf s n H i hn hH h:=wf_set h hn ⟨by have:=h.hold;show min s.hold H=0∨3≤min s.hold H;omega,fun e=>absurd (show (4:Int)=0 from e) Et,(h.c n hn).2.2⟩
  est s n hn _ h:=wf_set h hn ⟨(h.c n hn).1,fun e=>absurd (show (5:Int)=0 from e) Et,(h.c n hn).2.2⟩
def Clean (n:Nat) (s:Se):Prop:=(s.c n).fc=0∧(s.c n).fs=0∧(s.c n).fd=⟨#[]⟩
theorem DH {k:Nat}(hk:k<2):Gz (Clean k) where
  free s b now D h:=h
  zero s n hn h:=by
    unfold Clean
    rw [L5 s n k _ hn hk]
    split
    · exact ⟨rfl,rfl,rfl⟩
    · exact h
  HZ s n hn h:=by
    unfold Clean
    rw [L5 s n k _ hn hk]
    split
    · exact ⟨rfl,rfl,rfl⟩
    · exact h
  conf s n H i hn hH h:=by
    unfold Clean
    rw [L5 s n k _ hn hk]
    split
    · rename_i e;subst e;exact h
    · exact h
  est s n hn _ h:=by
    unfold Clean
    rw [L5 s n k _ hn hk]
    split
    · rename_i e;subst e;exact h
    · exact h
structure Se.IJ (N:Int) (s:Se):Prop where
  wf:s.Wf N
  c0:Clean 0 s
  c1:Clean 1 s
theorem Se.IJ.clean {N:Int}{s:Se}(h:s.IJ N) (n:Nat) (hn:n<2):Clean n s:=by
  match n,hn with
  | 0,_=>exact h.c0
  | 1,_=>exact h.c1
theorem Se.IJ.fit {N:Int}{s:Se}(h:s.IJ N):s.Fit:=fun n hn=>(h.wf.c n hn).1
theorem AcC {N:Int}{s:Se}(h:s.Wf N) (hc:∀ n,n<2→Clean n s):s.IJ N:=⟨h,hc 0 Et,hc 1 Et⟩
theorem GN {N:Int}(hN:0≤N):Gz (Se.IJ N) where
  free s b now D h:=⟨(JP hN).free s b now D h.wf,h.c0,h.c1⟩
  zero s n hn h:=⟨(JP hN).zero s n hn h.wf,(DH Et).zero s n hn h.c0,(DH Et).zero s n hn h.c1⟩
  HZ s n hn h:=⟨(JP hN).HZ s n hn h.wf,(DH Et).HZ s n hn h.c0,(DH Et).HZ s n hn h.c1⟩
  conf s n H i hn hH h:=⟨(JP hN).conf s n H i hn hH h.wf,(DH Et).conf s n H i hn hH h.c0,(DH Et).conf s n H i hn hH h.c1⟩
  est s n hn h0 h:=⟨(JP hN).est s n hn h0 h.wf,(DH Et).est s n hn h0 h.c0,(DH Et).est s n hn h0 h.c1⟩
theorem LA {N M:Int}{s:Se}(h:s.IJ N) (hM:N≤M):s.IJ M:=⟨⟨h.wf.asn,h.wf.hold,fun n hn=>⟨(h.wf.c n hn).1,(h.wf.c n hn).2.1,Int.le_trans (h.wf.c n hn).2.2 hM⟩⟩,h.c0,h.c1⟩
theorem W6 {N:Int}(hN:0≤N){s:Se}(h:s.IJ N) (n:Nat) (hn:n<2) (bs:List Int) (hB:Bys ((s.c n).wait++bs)):(AM s n bs).1.IJ (N+((s.c n).wait++bs).length):=by
  unfold AM
  split
  · exact LA h Er
  rename_i h0
  have hff:=IT _ [] _ (Nat.le_refl _) hB (fun m hm=>by cases hm)
  have hbo:=I2 _ [] ((s.c n).wait++bs) _ _ _ (Nat.le_refl _) rfl
  rw [List.length_nil] at hbo
  have hfed:(s.fed n bs).Wf (N+((s.c n).wait++bs).length):=by
    refine wf_set (LA h Er).wf hn ⟨(h.wf.c n hn).1,fun e=>absurd e h0,?_⟩
    have:=(h.wf.c n hn).2.2
    show (s.c n).count+((BL [] ((s.c n).wait++bs)).1.length:Int)≤_
    omega
  have K:=JP (N:=N+((s.c n).wait++bs).length) Er
  have hwf:=K.G1 hn (f:=(BL [] ((s.c n).wait++bs)).2.1) (K.BK n hn _ hfed hff.1)
  refine AcC hwf fun k hk=>?_
  by_cases e:k=n
  · subst e
    have hz:∀ {t:Se},t.Wf (N+((s.c k).wait++bs).length)→(t.c k).st=0→Clean k t:=fun ht hz=>by
      unfold Clean
      rw [(ht.c k hk).2.1 hz]
      exact ⟨rfl,rfl,rfl⟩
    have hw1:=K.BK k hk _ hfed hff.1
    cases hf:(BL [] ((s.c k).wait++bs)).2.1 with
    | none =>
      have hcl:Clean k (s.fed k bs):=by
        unfold Clean
        rw [show (s.fed k bs).c k=(s.c k).fed (BL [] ((s.c k).wait++bs)) from (L5 _ _ _ _ hk hk).trans (if_pos rfl)]
        unfold CnM.fed
        rw [hf]
        exact ⟨rfl,rfl,rfl⟩
      exact (DH hk).G1 hk ((DH hk).BK k hk _ hcl hff.1)
    | some f =>
      unfold G1
      split
      · rename_i hz0
        exact hz hw1 hz0
      · dsimp only
        unfold Clean
        rw [HX _ k k hk hk,if_pos rfl]
        exact ⟨rfl,rfl,rfl⟩
  · have hcl:Clean k (s.fed n bs):=by
      unfold Clean
      rw [show (s.fed n bs).c k=s.c k from (L5 _ _ _ _ hn hk).trans (if_neg e)]
      exact h.clean k hk
    exact (DH hk).G1 hn ((DH hk).BK n hn _ hcl hff.1)

section
variable {P:Program}{ops:Array Oper}{Q:Exit→Act→World→Prop}{n:Nat}{p:Nat→Prop}{w0:World}{o:Oper}{rest os:List Oper}{l:Kn}{L L0:List Ent}{K:Act→World→Prop}{S:World→Prop}{m:Nat}
def NO (P:Program) (ops:Array Oper) (Q:Exit→Act→World→Prop) (S:World→Prop) (m:Nat):Nat→Array Bool→Act→World→Prop
  | 0,listed,a,w=>Region.ready .any ops listed=[]∧Q .normal a w
  | g+1,listed,a,w=>(Region.ready .any ops listed=[]→Q .normal a w)∧∀ i∈Region.ready .any ops listed,wpOp P ops Q i (fun a' w'=>(i<m→S w')∧NO P ops Q S m g (listed.setIfInBounds i true) a' w') a w
theorem NO.any:∀ (g:Nat) (listed:Array Bool) (a:Act) (w:World),NO P ops Q S m g listed a w→wpAny P .any ops Q g listed a w
  | 0,_,_,_,h=>h
  | g+1,_,_,_,h=>⟨h.1,fun i hi=>wpOp_mono (fun a' w' k=>NO.any g _ a' w' k.2) (h.2 i hi)⟩
def TF (ops:Array Oper) (m i:Nat):Bool:=(List.range ops.size).all fun k=>Nat.blt k m || (match ops[k]? with|some o=>VM o i|none=>true)
theorem PW {i k:Nat}{o:Oper}(h:TF ops m i=true) (ho:ops[k]?=some o) (hk:¬ k<m):∃ e∈o.after,Region.binds .any e=true∧e.on=i:=by
  have h1:=List.all_eq_true.1 h k (List.mem_range.2 (Array.getElem?_eq_some_iff.1 ho).1)
  rw [ho,Bool.or_eq_true] at h1
  rcases h1 with h1|h1
  · exact absurd (by simpa using h1) hk
  · obtain ⟨e,he,hb⟩:=List.any_eq_true.1 h1
    rw [Bool.and_eq_true] at hb
    exact ⟨e,by simpa using he,hb.1,Nat.eq_of_beq_eq_true hb.2⟩
theorem O0 {i:Nat}{listed:Array Bool}(hi:i∈Region.ready .any ops listed):listed.getD i false=false:=by
  have h0:=(mem_ready.1 hi).1
  rw [Array.getD_eq_getD_getElem?] at h0 ⊢
  cases h:listed[i]? with
  | none=>rfl
  | some b=>rw [h] at h0;exact h0
theorem NO.first {i:Nat}{oi:Oper}{v:Value}(hi:ops[i]?=some oi) (hsel:Region.noSelect ops=true) (hw8:TF ops m i=true)
    (hQ:∀ c a w,Q (.panic c) (a.put oi.dst v) w→Q (.panic c) a w):∀ (g:Nat) (listed:Array Bool) (a:Act) (w:World),
      (∀ j oj,ops[j]?=some oj→j≠i→listed.getD j true=false→(∀ e∈oj.after,Region.binds .any e=true→e.on≠i)→oi.apart ops oj=true) →
      i∈Region.ready .any ops listed→YieldsIf P ops S oi v a→S w→NO P ops Q S m g (listed.setIfInBounds i true) (a.put oi.dst v) w→NO P ops Q S m (g+1) listed a w
  | g,listed,a,w,hf,hr,hy,hS,H=>by
    refine ⟨fun h=>Gk,fun j hj=>?_⟩
    by_cases hji:j=i
    · subst hji
      exact hy.wpOp hi hS ⟨fun _=>hS,H⟩
    · cases g with
      | zero =>
        have:=ready_mono hj hji
        rw [H.1] at this
        cases this
      | succ g =>
        obtain ⟨hjun,oj,hoj,hall⟩:=mem_ready.1 hj
        have hnot:∀ e∈oj.after,Region.binds .any e=true→e.on≠i:=fun e he hb heq=>by
          have h1:=hall e he hb
          rw [heq,O0 hr] at h1
          cases h1
        have hjm:j<m:=Decidable.byContradiction fun hk=>by
          obtain ⟨e,he,hb,hon⟩:=PW hw8 hoj hk
          exact hnot e he hb hon
        have h2:=wpOp_putIf hoj (hf j oj hoj hji hjun hnot) (fun cs b=>Region.noSelect_spec hsel i oi cs b hi) (fun cs b=>Region.noSelect_spec hsel j oj cs b hoj) hQ hy (H.2 j (ready_mono hj hji))
        refine wpOp_mono (fun a' w' h3=>⟨h3.2.1,NO.first hi hsel hw8 hQ g _ a' w' (fun k ok hk hki hun hno=>hf k ok hk hki ?_ hno) (ready_mono hr (Ne.symm hji)) h3.1 (h3.2.1 hjm) ?_⟩) h2
        · by_cases hjk:j=k
          · subst hjk;exact hjun
          · rw [getD_set_ne true hjk] at hun;exact hun
        · rw [Array.setIfInBounds_comm _ _ hji]
          exact h3.2.2
def N7 (P:Program) (os:List Oper) (Q:Exit→Act→World→Prop) (p:Nat→Prop) (w0:World) (L0:List Ent) (m g:Nat) (listed:Array Bool):Act→World→Prop:=fun a w=>NO P os.toArray (NP Q) (fun w=>St p w0 w L0) m g listed a w
def WRT (P:Program) (os:List Oper) (Q:Exit→Act→World→Prop) (n:Nat) (p:Nat→Prop) (w0:World) (L0:List Ent) (m g:Nat) (listed:Array Bool) (l:Kn) (L:List Ent):Prop :=
  ∀ a w,Has n a l→St p w0 w L→N7 P os Q p w0 L0 m g listed a w
theorem WC.heldT {id:Nat}(m:Nat) (L0:List Ent) (hm:P.follows .mixedOrders=true) (h:WRT P os Q n p w0 L0 m os.length (Array.replicate os.length false) l L):WC P (.region id os.toArray true) Q n p w0 l L:=fun a w ha hS =>
  Code.wp_mono NP.imp (wp_region_any hm (by have h1:=NO.any _ _ _ _ (h a w.drew ha hS.drew);simpa using h1))
def Abr (ops:Array Oper) (m:Nat) (js:List Nat):Bool:=js.all (TF ops m)
theorem MG {K:Act→Prop}{w:World}{g:Nat}(hsel:Region.noSelect os.toArray=true) (hw:S w):∀ (js:List Nat) (listed:Array Bool) (a:Act),GP .any os.toArray js listed=true→Abr os.toArray m js=true →
    PQ P os.toArray S K (js.map (at_ os)) a→(∀ a,K a→NO P os.toArray (NP Q) S m g (marks listed js) a w)→NO P os.toArray (NP Q) S m (js.length+g) listed a w
  | [],listed,a,_,_,h,hK=>by simpa [marks] using hK a h
  | i::is,listed,a,hB,hZ,h,hK=>by
    simp only [GP,Bool.and_eq_true] at hB
    simp only [Abr,List.all_cons,Bool.and_eq_true] at hZ
    obtain ⟨⟨hr,hf⟩,hB'⟩:=hB
    obtain ⟨v,hy,h'⟩:=h
    have hr':i∈Region.ready .any os.toArray listed:=by simpa using hr
    rw [List.length_cons,show is.length+1+g=(is.length+g)+1 by omega]
    exact NO.first (Hw hr') hsel hZ.1 (fun c a w hh=>hh) _ listed a w (Region.free_spec (Hw hr') hf) hr' hy hw (MG hsel hw is _ _ hB' hZ.2 h' hK)
theorem WRT.first {listed:Array Bool}{g:Nat}(js:List Nat) (hsel:Region.noSelect os.toArray=true) (hB:GP .any os.toArray js listed=true) (hZ:Abr os.toArray m js=true) (FA:∀ w,St p w0 w L→St p w0 w L0)
    (h:WH P os.toArray (N7 P os Q p w0 L0 m g (marks listed js)) n p w0 L0 (js.map (at_ os)) l L):WRT P os Q n p w0 L0 m (js.length+g) listed l L:=fun a w ha hS =>
  MG (K:=fun a'=>∀ w,St p w0 w L→N7 P os Q p w0 L0 m g (marks listed js) a' w) hsel (FA w hS) js listed a hB hZ (h a ha) (fun _ h=>h w hS)
theorem WRT.each {g:Nat}{listed:Array Bool}(rs:List Nat) (hr:Region.ready .any os.toArray listed=rs) (hne:rs≠[])
    (h:PF (fun i=>WL P os.toArray (RQ (fun a' w'=>(i<m→St p w0 w' L0)∧N7 P os Q p w0 L0 m g (listed.setIfInBounds i true) a' w') (NP Q)) n p w0 [at_ os i] l L) rs):WRT P os Q n p w0 L0 m (g+1) listed l L:=fun a w ha hS=>by
  refine ⟨fun h0=>absurd (hr ▸ h0) hne,fun i hi=>?_⟩
  rw [hr] at hi
  have ho:=Hw (listed:=listed) (i:=i) (by rw [hr];exact hi)
  have h':=h.get i hi a w ha hS
  unfold wpOp
  simp only [ho]
  unfold wpList at h'
  split
  · rename_i hwd
    exact B3
  · rename_i hwd
    rw [if_neg hwd] at h'
    exact h'
theorem WRT.one {g:Nat}{listed:Array Bool}(i:Nat) (hr:Region.ready .any os.toArray listed=[i])
    (h:WL P os.toArray (RQ (fun a' w'=>(i<m→St p w0 w' L0)∧N7 P os Q p w0 L0 m g (listed.setIfInBounds i true) a' w') (NP Q)) n p w0 [at_ os i] l L):WRT P os Q n p w0 L0 m (g+1) listed l L :=
  WRT.each [i] hr Fe h
theorem WRT.done {listed:Array Bool}(hB:Region.ready .any os.toArray listed=[]) (h:WE Q .normal n p w0 l L):WRT P os Q n p w0 L0 m 0 listed l L:=fun a w ha hS=>⟨hB,h a w ha hS⟩
theorem WRT.to {g:Nat}{listed:Array Bool}{l':Kn}{L':List Ent}(h:WRT P os Q n p w0 L0 m g listed l' L') (hl:Sub l l') (hs:∀ w,St p w0 w L→St p w0 w L'):WRT P os Q n p w0 L0 m g listed l L:=fun a w ha hS=>h a w (ha.sub hl) (hs w hS)
theorem WRT.cut {ι:Type}{g g':Nat}{listed listed':Array Bool}(lI:ι→Kn) (LI:ι→List Ent) (good:ι→Prop) (h1:(∀ i,good i→WRT P os Q n p w0 L0 m g' listed' (lI i) (LI i))→WRT P os Q n p w0 L0 m g listed l L) (h2:∀ i,good i→WRT P os Q n p w0 L0 m g' listed' (lI i) (LI i)):WRT P os Q n p w0 L0 m g listed l L:=h1 h2
theorem WH.RD {listed:Array Bool}{g:Nat}(h:WRT P os Q n p w0 L0 m g listed l L):WH P os.toArray (N7 P os Q p w0 L0 m g listed) n p w0 L0 [] l L:=fun a ha w hS=>h a w ha hS
theorem WL.RD {i:Nat}{listed:Array Bool}{g:Nat}(FA:∀ w,St p w0 w L→St p w0 w L0) (h:WRT P os Q n p w0 L0 m g listed l L):WL P os.toArray (RQ (fun a' w'=>(i<m→St p w0 w' L0)∧N7 P os Q p w0 L0 m g listed a' w') (NP Q)) n p w0 [] l L:=fun a w ha hS=>⟨fun _=>FA w hS,h a w ha hS⟩
theorem WL.nilT2 {i:Nat}{listed:Array Bool}{g:Nat}(hi:Nat.ble m i=true) (h:WRT P os Q n p w0 L0 m g listed l L):WL P os.toArray (RQ (fun a' w'=>(i<m→St p w0 w' L0)∧N7 P os Q p w0 L0 m g listed a' w') (NP Q)) n p w0 [] l L:=fun a w ha hS=>⟨fun h=>absurd (show m≤i by simpa using hi) Er,h a w ha hS⟩
end
end Go.Proofs.YtcmpamnhegndnaaGreatDoor
