/- Texts joined: engine, contracts and laws, in the order in which they build. -/
import Derived.Test.YtcmpamnhegndnaaGreatDoorBgPeerRuns
namespace Go.Proofs.YtcmpamnhegndnaaGreatDoor
open Go.RowKit
section Gq
attribute [local irreducible] WL WC WE WQ WP WH WR WM WRH

structure MsD where
  kind:Int
  asn:Int
  hold:Int
  id:Int
  CS:List (Int×List Int)
  gone:List PfL
  atr:AtD
  nets:List PfL
  fc:Int
  fs:Int
  fd:ByteArray
def MsL.d (m:MsL):MsD:=⟨m.kind,m.asn,m.hold,m.id,m.CS.map NK,m.gone,m.atr.d,m.nets,m.fc,m.fs,m.fd⟩
def RL (xs:List Int):ByteArray:=str (fun i=>fOf xs (2+i)) (xs.length-2)
def FL (k:Int) (xs:List Int):MsD ⊕ (Int×Int×ByteArray) :=
  if k=1 then match DR xs with
    | .inl cs=>.inl { (MsL.zero k).d with asn:=NJ xs,hold:=GH xs,id:=idB xs,CS:=cs }
    | .inr (s,d)=>.inr (2,s,d)
  else if k=2 then match HM xs with
    | .inl (g,a,n)=>.inl { (MsL.zero k).d with gone:=g,atr:=a,nets:=n }
    | .inr f=>.inr f
  else if k=3 then .inl { (MsL.zero k).d with fc:=fOf xs 0,fs:=fOf xs 1,fd:=RL xs }
  else .inl (MsL.zero k).d
def FE (xs:List Int):MsD ⊕ (Int×Int×ByteArray) :=
  if (BX xs.length (fOf xs)).2.1≠0 then .inr (BX xs.length (fOf xs)).2
  else if (BX xs.length (fOf xs)).1≠xs.length then .inr (1,2,str (fun i=>fOf xs (16+i)) 2)
  else FL (fOf xs 18) (xs.drop 19)
theorem FU (n:Nat) (f:Nat→Int):(∃ C S d,BX n f=(0,C,S,d)∧C≠0)∨(BX n f=(CC f,0,0,⟨#[]⟩)∧19≤n∧HN f=true∧19≤CC f∧CC f≤4096∧1≤f 18∧f 18≤4∧BI (f 18)≤CC f∧(f 18=4→CC f=19)):=by
  by_cases h1:n<19
  · left;exact ⟨1,2,⟨#[]⟩,by unfold BX;rw [if_pos h1],by decide⟩
  by_cases h2:HN f=true
  · rw [JY h1 h2]
    split
    · left;exact ⟨1,2,_,rfl,by decide⟩
    split
    · left;exact ⟨1,3,_,rfl,by decide⟩
    split
    · left;exact ⟨1,2,_,rfl,by decide⟩
    · rename_i h3 h4 h5
      right
      have:=Classical.byContradiction fun h=>h4 (Hf.2 h)
      refine ⟨rfl,by omega,h2,by omega,by omega,by omega,by omega,by omega,fun e=>by omega⟩
  · left;exact ⟨1,1,⟨#[]⟩,by unfold BX;rw [if_neg h1];simp [h2],by decide⟩
def UA (w0 w':World) (xs:List Int) (e:Ending):Prop :=
  match FE xs with
  | .inr (c,s,d)=>e = .returned (.tuple #[.agg (MsL.zero 0).cells.toArray, .agg (AG c s d).toArray])∧Frm (fun _=>False) w0 w'
  | .inl md=>∃ m K,e = .returned (.tuple #[.agg m.cells.toArray, .agg (AG 0 0 ⟨#[]⟩).toArray])∧m.d=md∧GD K m∧St (fun _=>False) w0 w' K
structure DecT where
  ok:Bool
  c:Int
  s:Int
  d:ByteArray
  m:MsL
  K:List Ent
set_option maxHeartbeats 4000000 in
theorem AcY (w0:World) (b o c:Nat) (xs:List Int) (hG:GF w0) (hZ:GZ w0) (hW:Win w0 b o c xs) (hn:xs.length≤90000) (hs:BX xs.length (fOf xs)=((xs.length:Int),0,0,⟨#[]⟩)) (h19:19≤xs.length) (h18:1≤fOf xs 18∧fOf xs 18≤4) (hle2:BI (fOf xs 18)≤xs.length) :
    Calls Tryz.prog 85 #[.slice (some ⟨b,o,none⟩) xs.length c] w0 fun e w'=>UA w0 w' xs e:=by
  have hle:=hW.le
  have e00:FE xs=FL (fOf xs 18) (xs.drop 19):=by unfold FE;rw [hs];dsimp only;rw [if_neg Fe,if_neg Fe]
  have hWd:=hW.drop 19
  have hdl:(xs.drop 19).length=xs.length-19:=List.length_drop ..
  have hlst:BI (fOf xs 18)=if fOf xs 18=1 then 29 else if fOf xs 18=2 then 23 else if fOf xs 18=3 then 21 else 19:=by unfold BI;repeat' split;all_goals first|rfl|omega
  refine enter Tryz.func85 rfl Tryz.ntmps85 rfl (St.start (fun _=>False) w0) ?_
  refine J2 ?_
  refine WL.alloc rfl GM (.none rfl) rfl rfl ?_
  intro g2 hg2
  refine WL.alloc rfl CV (.none rfl) rfl rfl ?_
  intro g3 hg3
  refine J5 ?_
  refine zk Tq rfl (fun w hS=>by rw [show (Ending.returned (.tuple #[.int .i64 xs.length, .agg (AG 0 0 ⟨#[]⟩).toArray])) = .returned (MC (BX xs.length (fOf xs))) by rw [hs];rfl];exact Rg w (some ⟨b,o,none⟩) xs.length c (fOf xs) (Ir hW.bys) (fun _=>⟨b,o,rfl,DV (hW.st hS).at_⟩) Er hle) ?_
  refine J3 ?_
  refine WL.alloc rfl CV (.none rfl) rfl rfl ?_
  intro g5 hg5
  refine J9 ?_
  refine zV (EU rfl rfl rfl DX DU rfl rfl Gf) rfl ?_
  refine J11 ?_
  refine zV ((BY rfl rfl rfl).f Er) rfl ?_
  refine J8 ?_
  refine zV (AB (lo:=18) rfl rfl rfl Tryz.underlying25 AO rfl Er) rfl ?_
  refine zV (AA rfl rfl BH (AL (fun h=>h) (hW.get (BJ Er)))) rfl ?_
  refine zV (AQ rfl rfl Tryz.underlying3 Tryz.underlying5 (AF Er Er)) rfl ?_
  refine J1 ?_
  refine WL.alloc rfl GM (.none rfl) rfl rfl ?_
  intro g6 hg6
  refine J1 ?_
  refine WL.as (L':=.row g6 (MsL.zero (fOf xs 18)).cells::.row g5 (AG 0 0 ⟨#[]⟩)::.row g3 (AG 0 0 ⟨#[]⟩)::[.row g2 (MsL.zero 0).cells]) rfl ?_
  refine J5 ?_
  refine zV ((BW (lo:=19) rfl rfl rfl Tryz.underlying25 AO rfl Er)) rfl ?_
  rw [show xs.length-19=(xs.drop 19).length by rw [List.length_drop]]
  refine J3 ?_
  refine WC.cut (fun y:DecT=>[(2, .pointer (some ⟨g2,0,none⟩)),(3, .pointer (some ⟨g3,0,none⟩)),(5, .pointer (some ⟨g5,0,none⟩)),(6, .pointer (some ⟨g6,0,none⟩))]) (fun y=>.row g6 y.m.cells::(y.K++(.row g5 (AG y.c y.s y.d)::.row g3 (AG 0 0 ⟨#[]⟩)::[.row g2 (MsL.zero 0).cells]))) (fun y=>GD y.K y.m∧(y.ok=false→y.c≠0∧FL (fOf xs 18) (xs.drop 19) = .inr (y.c,y.s,y.d))∧(y.ok=true→y.c=0∧y.s=0∧y.d=⟨#[]⟩∧FL (fOf xs 18) (xs.drop 19) = .inl y.m.d)) ?_ ?_
  refine J3 ?_
  refine zV (AA rfl rfl AK (cellAt (v:=.int .i64 (fOf xs 18)) rfl)) rfl ?_
  refine J5 ?_
  refine JT (fun h35=>?_) (fun h35=>?_)
  refine J6 ?_
  refine zK ck_113 rfl ?_
  intro w1 hS
  refine (Uf w0 w1 g6 b (AV o 19 c 1) (c-19) (fOf xs 18) (xs.drop 19) (.row g5 (AG 0 0 ⟨#[]⟩)::.row g3 (AG 0 0 ⟨#[]⟩)::[.row g2 (MsL.zero 0).cells]) hWd (by rw [hlst,if_pos h35] at hle2;omega) Er hS).mono ?_
  rintro e w' ⟨ok,s,d,ad,kc,cs,E,K,rfl,hS',hV,hO,hF,hT⟩
  refine ⟨_,_,rfl,hS',?_⟩
  refine J1 ?_
  refine WL.as (L':=.row g6 (MsL.opened (fOf xs 18) (xs.drop 19) ad kc cs).cells::(E++(K++(.row g5 (AG (if ok then 0 else 2) s d)::.row g3 (AG 0 0 ⟨#[]⟩)::[.row g2 (MsL.zero 0).cells])))) rfl ?_
  refine J2 ?_
  exact WE.mid ⟨ok,if ok then 0 else 2,s,d,MsL.opened (fOf xs 18) (xs.drop 19) ad kc cs,E++K⟩ ⟨⟨⟨E,hV,fun e he=>List.mem_append_left _ he⟩,fun c hc=>(by
  obtain ⟨E',r1,r2⟩:=hO c hc
  exact ⟨E',r1,fun e he=>List.mem_append_right _ (r2 e he)⟩),⟨[],Vec.nil 2,fun _ h=>by cases h⟩,⟨[],Vec.nil 2,fun _ h=>by cases h⟩,Ic.zero.mono fun _ h=>by cases h⟩,fun e=>(by
  cases e
  exact ⟨by show (2:Int)≠0;decide,by unfold FL;rw [if_pos h35,hF rfl];rfl⟩),fun e=>by
  cases e
  obtain ⟨rfl,rfl,e1⟩:=hT rfl
  exact ⟨rfl,rfl,rfl,by unfold FL;rw [if_pos h35,e1];rfl⟩⟩ Km (by dsimp only;rw [List.append_assoc];exact .refl _)
  refine J6 ?_
  refine JT (fun h39=>?_) (fun h39=>?_)
  refine J6 ?_
  refine zK ck_114 rfl ?_
  intro w1 hS
  refine (RC w0 w1 g6 b (AV o 19 c 1) (c-19) (fOf xs 18) (xs.drop 19) (.row g5 (AG 0 0 ⟨#[]⟩)::.row g3 (AG 0 0 ⟨#[]⟩)::[.row g2 (MsL.zero 0).cells]) hG hZ hWd Er hS).mono ?_
  rintro e w' ⟨ok,fc,s,d,gad,gc,gs,a,nad,nc,ns,K,rfl,hS',hM,hF,hT⟩
  refine ⟨_,_,rfl,hS',?_⟩
  refine J1 ?_
  refine WL.as (L':=.row g6 (MsL.upd (fOf xs 18) gad gc gs a nad nc ns).cells::(K++(.row g5 (AG fc s d)::.row g3 (AG 0 0 ⟨#[]⟩)::[.row g2 (MsL.zero 0).cells]))) rfl ?_
  refine J2 ?_
  exact eM ⟨ok,fc,s,d,MsL.upd (fOf xs 18) gad gc gs a nad nc ns,K⟩ ⟨hM,fun e=>(by
  have:=hF e
  exact ⟨this.1,by unfold FL;rw [if_neg h35,if_pos h39,this.2]⟩),fun e=>by
  obtain ⟨e1,e2,e3,e4⟩:=hT e
  exact ⟨e1,e2,e3,by unfold FL;rw [if_neg h35,if_pos h39,e4];rfl⟩⟩
  refine J6 ?_
  refine JT (fun h43=>?_) (fun h43=>?_)
  refine J4 ?_
  refine WC.BB mixed<|rF 8 [0,1,4,5,8,9]<|?_
  have h2l:2≤(xs.drop 19).length:=(by rw [hlst,if_neg h35,if_neg h39,if_pos h43] at hle2;omega)
  have b0:=CP hWd.bys 0
  have b1:=CP hWd.bys 1
  refine J1 ?_
  refine pV (AB (lo:=0) rfl rfl rfl Tryz.underlying25 AO rfl Er) rfl ?_
  refine J1 ?_
  refine pV (AB (lo:=1) rfl rfl rfl Tryz.underlying25 AO rfl Er) rfl ?_
  refine J1 ?_
  refine pV ((BW (lo:=2) rfl rfl rfl Tryz.underlying25 AO rfl Er)) rfl ?_
  refine J1 ?_
  refine rA 1 [2,3,6,7,10,11,12] rfl ?_
  refine qV (AA rfl rfl BH (AL (fun h=>h) (hWd.get (BJ Er)))) rfl ?_
  refine qV (AQ rfl rfl Tryz.underlying3 Tryz.underlying5 (AF Er Er)) rfl ?_
  refine qV (AA rfl rfl BH (AL (fun h=>h) (hWd.get (BJ Er)))) rfl ?_
  refine qV (AQ rfl rfl Tryz.underlying3 Tryz.underlying5 (AF Er Er)) rfl ?_
  refine WQ.val (CJ ((fun i=>fOf (xs.drop 19) (2+i))) rfl rfl Tryz.underlying25 Tryz.underlying5 Tryz.underlying9 (fun w' hS' _=>⟨b,AV (AV o 19 c 1) 2 (c-19) 1,rfl,fun i hi=>by
  have:=((hWd.st hS').drop 2).get (i:=i) (x:=fOf (xs.drop 19) (2+i)) (by rw [List.getElem?_drop];exact BJ (by omega))
  rwa [Nat.mul_one] at this⟩)) (.none rfl) rfl rfl ?_
  refine J3 ?_
  refine rO 0 [13] ?_
  refine WL.H3 rfl rfl rfl rfl Im rfl Fb (.none rfl) rfl ?_
  refine WL.as (L':=.row g6 (MsL.cells { MsL.zero (fOf xs 18) with fc:=fOf (xs.drop 19) 0,fs:=fOf (xs.drop 19) 1,fd:=RL (xs.drop 19) })::.row g5 (AG 0 0 ⟨#[]⟩)::.row g3 (AG 0 0 ⟨#[]⟩)::[.row g2 (MsL.zero 0).cells]) rfl ?_
  refine J3 ?_
  exact eM ⟨true,0,0,⟨#[]⟩, { MsL.zero (fOf xs 18) with fc:=fOf (xs.drop 19) 0,fs:=fOf (xs.drop 19) 1,fd:=RL (xs.drop 19) },[]⟩ ⟨⟨⟨[],Vec.nil 2,fun _ h=>by cases h⟩,(fun _ h=>by cases h),⟨[],Vec.nil 2,fun _ h=>by cases h⟩,⟨[],Vec.nil 2,fun _ h=>by cases h⟩,Ic.zero⟩,fun e=>F4,fun _=>⟨rfl,rfl,rfl,by unfold FL;rw [if_neg h35,if_neg h39,if_pos h43];rfl⟩⟩
  refine J6 ?_
  exact eM ⟨true,0,0,⟨#[]⟩,MsL.zero (fOf xs 18),[]⟩ ⟨GD.zero _,fun e=>F4,fun _=>⟨rfl,rfl,rfl,by unfold FL;rw [if_neg h35,if_neg h39,if_neg h43]⟩⟩
  rintro ⟨ok,fc,s,d,m,K⟩ ⟨hM,hF,hT⟩
  dsimp only at hM hF hT
  dsimp only
  refine J4 ?_
  skip
  cases ok
  refine J1 ?_
  refine zV (Gp rfl rfl rfl DX DU rfl rfl (by exact fun h=>by injection h with h1 _;injection h1 with _ h1;exact (hF rfl).1 h1)) rfl ?_
  refine J4 ?_
  refine WC.BB mixed<|rF 3 [0]<|?_
  refine J2 ?_
  refine WR.each (g:=2) [1,2] Es Et ?_
  refine ⟨?_,?_⟩
  refine J2 ?_
  refine rO 0 [2,3] ?_
  refine J7 ?_
  exact Dg
  refine J2 ?_
  refine rA 1 [1] rfl ?_
  refine J2 ?_
  refine rO 0 [3] ?_
  refine J6 ?_
  exact Dg
  obtain ⟨rfl,rfl,rfl,e1⟩:=hT rfl
  refine J1 ?_
  refine zV (EU rfl rfl rfl DX DU rfl rfl Gf) rfl ?_
  refine J14 ?_
  refine eT2 ?_
  exact fun w' h=>by unfold UA;rw [e00,e1];exact ⟨m,K,rfl,rfl,hM,(h.sub (List.sublist_cons_self _ _)).sub (List.sublist_append_left _ _)⟩
theorem YS (w0:World) (b o c:Nat) (xs:List Int) (hG:GF w0) (hZ:GZ w0) (hW:Win w0 b o c xs) (hn:xs.length≤90000) :
    Calls Tryz.prog 85 #[.slice (some ⟨b,o,none⟩) xs.length c] w0 fun e w'=>UA w0 w' xs e:=by
  rcases FU xs.length (fOf xs) with ⟨C,S,d,e,hC⟩|⟨e,h1,h2,h3,h4,h5,h6,h7,h8⟩
  · refine (ZM w0 _ xs.length c (fOf xs) (Ir hW.bys) (fun _=>⟨b,o,rfl,DV hW.at_⟩) Er hW.le C S d e hC).mono fun en w' h=>?_
    have e0:FE xs = .inr (C,S,d):=by unfold FE;rw [e];exact if_pos hC
    unfold UA;rw [e0];exact h
  · by_cases hk:CC (fOf xs)=xs.length
    · rw [hk] at e
      exact AcY w0 b o c xs hG hZ hW hn e h1 ⟨h5,h6⟩ Er
    · refine (Xm w0 b o xs.length c (fOf xs) (Ir hW.bys) (DV hW.at_) Er hW.le h1 _ e hk).mono fun en w' h=>?_
      have e0:FE xs = .inr (1,2,str (fun i=>fOf xs (16+i)) 2):=by unfold FE;rw [e];dsimp only;rw [if_neg Fe,if_pos hk]
      unfold UA;rw [e0];exact h
end Gq

theorem R9 {P:Program}{p:Nat→Prop}{w0:World}{t tx e s by_ m:Nat}{kk:IntKind}{zs:List Value}{L0:List Ent}{w:World}{ty:TypeId}
    (hu:P.underlying t=some (.slice e)) (hux:P.underlying tx=some (.int kk)) (hs:(P.info? e).map (·.size)=some s) (hb:(P.info? e).map (·.bytes)=some by_) (hz:Zero P e zs) (hzl:zs.length=s) (hs1:0<s)
    (_:0<by_) (hm:0<m) (hm2:m≤1000000) (hby2:by_≤1000) (hS:St p w0 w L0) :
    ∃ g c' cs w',(Builtin.append_ #[t,tx] ty #[.slice none 0 0, .int .i64 m]).run P w = .ok (.slice (some ⟨g,0,none⟩) m c') w'∧m≤c'∧cs.length=c'*s∧St p w0 w' (.row g cs::L0):=by
  have hq:∃ i,P.info? e=some i∧i.bytes=by_:=by
    cases hq:P.info? e with
    | none=>simp [hq] at hb
    | some i=>exact ⟨i,rfl,by simpa [hq] using hb⟩
  obtain ⟨ti,hi,hib⟩:=hq
  have hask:∀ (k:Nat) (w:World),(askRoom k).run P w = .ok () w:=fun k w=>by
    unfold askRoom
    by_cases h:k > roomBytes
    · rw [if_pos h];rfl
    · rw [if_neg h];rfl
  have hcapE:Builtin.nextslicecap m 0=m:=by unfold Builtin.nextslicecap;rw [if_pos Er]
  have hmb:m*by_≤1000000*1000:=Nat.mul_le_mul hm2 hby2
  have hcap:¬ (m*by_ > 2 ^ 48):=Er
  obtain ⟨z,hz,hzs⟩:=hz
  have hzc:z.cells=zs.toArray:=by rw [← hzs]
  have hd:=hS.drew
  let nc:=(Question.appendCap m 0 e).cut (w.tape w.drawn (.appendCap m 0 e))
  have hnc:m≤nc:=by show m≤m+_;omega
  let A:=Builtin.zeroCells zs.toArray m
  let B:=Builtin.zeroCells zs.toArray (nc-m)
  have hAl:A.size=m*s:=by show (Builtin.zeroCells zs.toArray m).size=_;simp [Builtin.zeroCells,hzl]
  have hBl:B.size=(nc-m)*s:=by show (Builtin.zeroCells zs.toArray (nc-m)).size=_;simp [Builtin.zeroCells,hzl]
  have hnew:St p w0 (w.drew.alloc (.cells (A++B) e)) (.row w.drew.heap.size (A++B).toList::L0):=St.new hd
  refine ⟨w.drew.heap.size,nc,(A++B).toList,_,?_,hnc,?_,hnew⟩
  · have hcut:(choose (.appendCap m 0 e)).run P w = .ok nc w.drew:=rfl
    have hw:IntKind.i64.wrap (m:Int)=(m:Int):=AF Er Er
    have hb0:¬ ((m:Int)*(by_:Int) > 2 ^ 48):=by rw [← Int.natCast_mul];omega
    have hms:¬ (m*s=0):=by have:=Nat.mul_pos hm hs1;omega
    have hpos:¬ ((m:Int)<0):=Er
    have hroom:¬ (m≤0):=Er
    have hmax:¬ ((m:Int) > IntKind.i64.max):=by show ¬ ((m:Int) > 9223372036854775807);omega
    have hasI:(asIntOf (Value.int .i64 (m:Int))).run P w = .ok (.i64,(m:Int)) w:=rfl
    simp only [Builtin.append_,List.getElem?_toArray,List.getElem?_cons_zero,List.getElem?_cons_succ,Sem.run_bind,run_underlying hu,run_underlying hux,Result.andThen_ok,run_sizeOf hs,Sem.run_pure,if_true,asInt,hasI,hw,hpos,if_false]
    simp only [typeInfo,program,Sem.run,hi,Sem.run_bind,Result.andThen_ok,hib,hb0,if_false,Sem.run_pure,Int.toNat_natCast,Nat.zero_add,hroom,hmax,false_and,hcapE,hcap,hcut,hask,hms,Bool.not_true,Bool.false_eq_true,FC hz,hzc,newRow,newObj]
    have hfc:(Builtin.firstCells s 0 (Value.slice none 0 0)).run P w.drew = .ok #[] w.drew:=rfl
    rw [hfc]
    simp only [Result.andThen_ok,Array.empty_append]
    rfl
  · rw [Array.length_toList,Array.size_append,hAl,hBl, ← Nat.add_mul];congr 1;omega
section
variable {P:Program}{ops:Array Oper}{Q:Exit→Act→World→Prop}{n:Nat}{p:Nat→Prop}{w0:World}{o:Oper}{rest:List Oper}{l:Kn}{L:List Ent}
theorem N0 {C:World→Prop}{t e len cap:Nat}{ad:Option Addr}{x:Operand}(ho:o.op = .call { callee:=.builtin .cap,args:=#[x],argTypes:=#[t] }) (hx:ev l x=some (.slice ad len cap)) (hu:P.underlying t=some (.slice e)):Val P C n l o (.int .i64 cap):=fun a w ha _=>by
  have hx':evs l [x]=some [.slice ad len cap]:=by simp [evs,hx]
  obtain ⟨cs,h⟩:=DJ (P:=P) (w:=w) (xs:=[x]) ho hx' ha
  rw [h]
  simp [builtin,Builtin.cap_,run_underlying hu,goInt]
theorem WL.AcH {t tx e s by_ d m:Nat}{kk:IntKind}{zs:List Value}{x y:Operand}(ho:o.op = .call { callee:=.builtin .append,args:=#[x,y],argTypes:=#[t,tx] }) (hx:ev l x=some (.slice none 0 0)) (hy:ev l y=some (.int .i64 m))
    (hu:P.underlying t=some (.slice e)) (hux:P.underlying tx=some (.int kk)) (hs:(P.info? e).map (·.size)=some s) (hb:(P.info? e).map (·.bytes)=some by_) (hz:Zero P e zs) (hzl:zs.length=s) (hs1:Nat.blt 0 s=true) (hby:Nat.blt 0 by_=true) (hm:0<m) (hm2:m≤1000000) (hby2:Nat.ble by_ 1000=true)
    (hg:On ops o l) (hd:o.dst=some d) (hn:Nat.blt d n=true)
    (h:∀ g c' cs,m≤c'→cs.length=c'*s→WL P ops Q n p w0 rest ((d, .slice (some ⟨g,0,none⟩) m c')::l) (.row g cs::L)):WL P ops Q n p w0 (o::rest) l L:=by
  refine WL.op hg hd hn fun a w ha hS=>?_
  have hxy:evs l [x,y]=some [.slice none 0 0, .int .i64 m]:=by simp [evs,hx,hy]
  obtain ⟨cc,hr⟩:=DJ (P:=P) (w:=w) (xs:=[x,y]) ho hxy ha
  obtain ⟨g,c',cs,w',h1,h2,h3,h4⟩:=R9 (P:=P) (ty:=o.type) hu hux hs hb hz hzl (by simpa using hs1) (by simpa using hby) hm hm2 (by simpa using hby2) hS
  refine ⟨_,w', .row g cs::L,?_,h4,h g c' cs h2 h3⟩
  rw [hr]
  simp [builtin,h1]
end
section Gq
attribute [local irreducible] WL WC WE WQ WP WH WR WM WRH
set_option maxHeartbeats 1000000 in
theorem Grow_c (w:World) (m:Nat) (hm:m≤1000000):Calls Tryz.prog 109 #[.slice none 0 0, .int .i64 m] w fun e w'=>∃ ad c E,e = .returned (.slice ad 0 c)∧BV ad c [] E∧St (fun _=>False) w w' E:=by
  refine enter Tryz.func109 rfl Tryz.ntmps109 rfl (St.start (fun _=>False) w) ?_
  refine J9 ?_
  refine zV ((G8 rfl rfl rfl).f Er) rfl ?_
  refine J10 ?_
  refine zV ((N0 rfl rfl Tryz.underlying25)) rfl ?_
  refine J3 ?_
  refine zV (EM rfl rfl rfl (show _=((m:Nat):Int) from (AF Er Er).trans Er)) rfl ?_
  refine J6 ?_
  refine JT (fun h16=>?_) (fun h16=>?_)
  refine J6 ?_
  refine zV ((N0 rfl rfl Tryz.underlying25)) rfl ?_
  refine zV ((CT (hi:=0) rfl rfl rfl Tryz.underlying25 AO rfl Er)) rfl ?_
  refine J1 ?_
  refine WL.AcH rfl rfl rfl Tryz.underlying25 Tryz.underlying3 AO Hx BF rfl rfl rfl Er hm rfl (.none rfl) rfl rfl ?_
  intro g22 c22 cs22 hc22 hl22
  refine J2 ?_
  refine zV ((CT (hi:=0) rfl rfl rfl Tryz.underlying25 AO rfl Er)) rfl ?_
  refine J10 ?_
  refine eT1 ?_
  exact fun w' h=>⟨_,_,[.row g22 cs22],rfl,Vec.row (k:=0) rfl hl22 (Nat.zero_le _),h.sub (.refl _)⟩
  refine J12 ?_
  refine eT1 ?_
  exact fun w' h=>⟨none,0,[],rfl,Vec.nil 1,h⟩
structure SlL where
  ad:Option Addr
  cap:Nat
  val:List Int
def SlL.cells (s:SlL):List Value:=[.slice s.ad s.val.length s.cap]
def Jm (ss:List SlL):List Int:=ss.flatMap SlL.val
theorem Qz {ss:List SlL}{k:Nat}{s:SlL}(h:ss[k]?=some s):Jm (ss.take (k+1))=Jm (ss.take k)++s.val:=by
  rw [GW h];unfold Jm;rw [List.flatMap_append,List.flatMap_cons,List.flatMap_nil,List.append_nil]
theorem Rw (ss:List SlL) (k:Nat):(Jm (ss.take k)).length≤(Jm ss).length:=by
  have h:ss=ss.take k++ss.drop k:=(List.take_append_drop k ss).symm
  have e:Jm ss=Jm (ss.take k)++Jm (ss.drop k):=by
    conv=>lhs;rw [h]
    unfold Jm;rw [List.flatMap_append]
  rw [e,List.length_append];omega
set_option maxHeartbeats 2000000 in
theorem Tr (w0:World) (gs os c:Nat) (ss:List SlL) (hR:EI w0 (some ⟨gs,os,none⟩) 1 SlL.cells ss) (hC:∀ s∈ss,AU w0 s.ad (u8s s.val)) (hn:(Jm ss).length≤100000) (hl:ss.length≤1000) :
    Calls Tryz.prog 83 #[.slice (some ⟨gs,os,none⟩) ss.length c] w0 fun e w'=>∃ v,e = .returned v∧IP w0 w' (Jm ss) v:=by
  refine enter Tryz.func83 rfl Tryz.ntmps83 rfl (St.start (fun _=>False) w0) ?_
  refine J19 ?_
  refine WC.loop (fun k:Nat=>[(11, .int .i64 k),(10, .int .i64 ss.length),(9, .slice (some ⟨gs,os,none⟩) ss.length c),(3, .int .i64 (Jm (ss.take k)).length),(0, .slice (some ⟨gs,os,none⟩) ss.length c)]) (fun _=>[]) (fun k=>k≤ss.length) (fun k=>ss.length-k) 0 (Nat.zero_le _) Km (.refl _) ?_
  intro k hk
  refine J2 ?_
  refine JT (fun h12=>?_) (fun h12=>?_)
  refine J10 ?_
  obtain ⟨s,hs⟩:∃ s,ss[k]?=some s:=⟨ss[k]' Er,List.getElem?_eq_getElem _⟩
  have hr:=hR.get hs
  have hct:=Qz hs
  have hle:=Rw ss (k+1)
  have hlen:(Jm (ss.take (k+1))).length=(Jm (ss.take k)).length+s.val.length:=(by rw [hct,List.length_append])
  refine zV (AB (lo:=k) rfl rfl rfl Tryz.underlying193 G9 Er Er) rfl ?_
  refine zV (AA rfl rfl G3 (AL (v:=.slice s.ad s.val.length s.cap) (fun h=>h) (by have:=hr 0 _ rfl;exact this))) rfl ?_
  refine J8 ?_
  refine zV (AS rfl rfl rfl (show _=((Jm (ss.take (k+1))).length:Int) from (AF Er Er).trans Er)) rfl ?_
  refine J6 ?_
  refine zV ((G8 rfl rfl rfl).f Er) rfl ?_
  refine J10 ?_
  exact eW (k+1) Er Er (.int rfl Er (.cons rfl (.cons rfl (.cons rfl (.cons rfl .nil)))))
  refine J12 ?_
  refine zK ck_109 rfl ?_
  intro w1 hS
  refine (Grow_c w1 (Jm (ss.take k)).length (by have:=Rw ss k;omega)).mono ?_
  rintro e w' ⟨ad24,c24,E24,rfl,hV24,hS'⟩
  refine ⟨_,_,rfl,hS.join hS',?_⟩
  refine J12 ?_
  refine WC.loop (fun x:Nat×Option Addr×Nat×List Ent=>[(27, .int .i64 x.1),(26, .int .i64 ss.length),(25, .slice (some ⟨gs,os,none⟩) ss.length c),(6, .slice x.2.1 (Jm (ss.take x.1)).length x.2.2.1)]) (fun x=>x.2.2.2++[]) (fun x=>x.1≤ss.length∧BV x.2.1 x.2.2.1 (Jm (ss.take x.1)) x.2.2.2) (fun x=>ss.length-x.1) (0,ad24,c24,E24) ⟨Nat.zero_le _,hV24⟩ Km (.refl _) ?_
  rintro ⟨k,ad,c6,E⟩ ⟨hk2,hV⟩
  dsimp only at hk2 hV
  dsimp only
  refine J2 ?_
  refine JT (fun h28=>?_) (fun h28=>?_)
  refine J10 ?_
  obtain ⟨s,hs⟩:∃ s,ss[k]?=some s:=⟨ss[k]' Er,List.getElem?_eq_getElem _⟩
  have hr:=hR.get hs
  have hct:=Qz hs
  have hle:=Rw ss (k+1)
  have hlen:(Jm (ss.take (k+1))).length=(Jm (ss.take k)).length+s.val.length:=(by rw [hct,List.length_append])
  have hsrc:0<s.val.length→∃ b so,s.ad=some ⟨b,so,none⟩∧∀ w,St (fun _=>False) w0 w (E++[])→w.rangeAt b so (u8s s.val):=(fun h=>by
    obtain ⟨b,o,e,hr⟩:=hC s (List.mem_of_getElem? hs) Fq
    exact ⟨b,o,e,fun w hS=>hS.rng (fun _ h=>h) _ _ _ hr⟩)
  refine zV (AB (lo:=k) rfl rfl rfl Tryz.underlying193 G9 Er Er) rfl ?_
  refine zV (AA rfl rfl G3 (AL (v:=.slice s.ad s.val.length s.cap) (fun h=>h) (by have:=hr 0 _ rfl;exact this))) rfl ?_
  refine J6 ?_
  refine WL.AN rfl rfl rfl Tryz.underlying25 Tryz.underlying25 AO Hx BF rfl rfl hV (new:=u8s s.val) hsrc Fh (CQ _) Er (.none rfl) rfl rfl ?_
  intro ad33 c33 E33 hV33 hr33
  rw [← CH, ← hct] at hV33
  rw [← hlen] at hV33 ⊢
  refine J8 ?_
  exact eW (k+1,ad33,c33,E33) Eu ⟨by dsimp only;omega,hV33⟩ (.int rfl Eu (.cons rfl (.cons rfl (.cons rfl .nil))))
  refine J16 ?_
  refine eT1 ?_
  have ek:k=ss.length:=Er
  rw [ek,List.take_length] at hV ⊢
  exact fun w' h=>⟨_,rfl,ad,c6,E,rfl,hV,h.sub (List.sublist_append_left _ _)⟩
end Gq

structure View (E:List Ent) (aa:Option Addr) (c:Nat) (ys:List Int):Prop where
  le:ys.length≤c
  bys:Bys ys
  at_:(aa=none∧c=0∧ys=[])∨∃ b o,aa=some ⟨b,o,none⟩∧∀ w,(∀ e∈E,e.holds w)→w.rangeAt b o (u8s ys)
theorem View.of {ad:Option Addr}{c:Nat}{xs:List Int}{E:List Ent}(h:BV ad c xs E) (hb:Bys xs):View E ad c xs:=by
  refine ⟨h.len.2,hb,?_⟩
  rcases h with ⟨ha,hn,hc,_⟩|⟨g,cs,rfl,rfl,hx,_,_⟩
  · exact .inl ⟨ha,hc,List.length_eq_zero_iff.1 hn⟩
  · refine .inr ⟨g,0,rfl,fun w hw j v hj=>?_⟩
    have hR:Row w g cs:=hw (.row g cs) (List.mem_cons_self ..)
    rw [← hx,List.getElem?_take] at hj
    split at hj
    · rw [Nat.zero_add];exact hR.cell hj
    · cases hj
theorem View.win {E:List Ent}{b o c:Nat}{ys:List Int}(h:View E (some ⟨b,o,none⟩) c ys){w:World}(hw:∀ e∈E,e.holds w):Win w b o c ys:=by
  rcases h.at_ with ⟨h1,_,_⟩|⟨b',o',e,hr⟩
  · exact nomatch h1
  · cases e;exact ⟨hr w hw,h.bys,h.le⟩
theorem View.some {E:List Ent}{aa:Option Addr}{c:Nat}{ys:List Int}(h:View E aa c ys) (h0:0<ys.length):∃ b o,aa=some ⟨b,o,none⟩:=by
  rcases h.at_ with ⟨_,_,e⟩|⟨b,o,e,_⟩
  · rw [e] at h0;exact absurd h0 (Nat.lt_irrefl 0)
  · exact ⟨b,o,e⟩
theorem View.drop {E:List Ent}{b o c:Nat}{ys:List Int}(h:View E (.some ⟨b,o,none⟩) c ys) (k:Nat):View E (.some ⟨b,AV o k c 1,none⟩) (c-k) (ys.drop k):=by
  have hle:=h.le
  refine ⟨by rw [List.length_drop];omega,fun x hx=>h.bys x (List.mem_of_mem_drop hx), .inr ⟨b,AV o k c 1,rfl,fun w hw=>((h.win hw).drop k).at_⟩⟩
structure RdL where
  ad:Option Addr
  cap:Nat
  wait:List Int
  count:Int
  fc:Int
  fs:Int
  fd:ByteArray
def RdL.cells (r:RdL):List Value:=[.slice r.ad r.wait.length r.cap, .int .i64 r.count, .int .i64 r.fc, .int .i64 r.fs, .string r.fd]
def szL (xs:List Int):Nat:=(BX xs.length (fOf xs)).1.toNat
def BL (acc:List MsD) (xs:List Int):List MsD×Option (Int×Int×ByteArray)×List Int :=
  if xs.length<19 then (acc,none,xs)
  else if (BX xs.length (fOf xs)).2.1≠0 then (acc,some (BX xs.length (fOf xs)).2,[])
  else if xs.length<szL xs then (acc,none,xs)
  else match FE (xs.take (szL xs)) with
    | .inr f=>(acc,some f,[])
    | .inl m=>BL (acc++[m]) (xs.drop (szL xs))
termination_by xs.length
decreasing_by
  rename_i _ h2 _
  rw [List.length_drop]
  rcases FU xs.length (fOf xs) with ⟨C,S,d,e,hC⟩|⟨e,_,_,h,_⟩
  · rw [e] at h2;exact absurd hC h2
  · have:szL xs=(CC (fOf xs)).toNat:=by unfold szL;rw [e]
    omega
theorem Gy {acc:List MsD}{xs:List Int}(h:xs.length<19):BL acc xs=(acc,none,xs):=by rw [BL,if_pos h]
theorem Ih {acc:List MsD}{xs:List Int}(h:¬ xs.length<19){f:Int×Int×ByteArray}(hs:(BX xs.length (fOf xs)).2=f) (hC:f.1≠0):BL acc xs=(acc,some f,[]):=by
  rw [BL,if_neg h,if_pos (by rw [hs];exact hC),hs]
theorem HB {acc:List MsD}{xs:List Int}(h:¬ xs.length<19) (hs:(BX xs.length (fOf xs)).2.1=0) (hl:xs.length<szL xs):BL acc xs=(acc,none,xs):=by
  rw [BL,if_neg h,if_neg (by rw [hs];decide),if_pos hl]
theorem Ii {acc:List MsD}{xs:List Int}(h:¬ xs.length<19) (hs:(BX xs.length (fOf xs)).2.1=0) (hl:¬ xs.length<szL xs){f:Int×Int×ByteArray}(hd:FE (xs.take (szL xs)) = .inr f):BL acc xs=(acc,some f,[]):=by
  rw [BL,if_neg h,if_neg (by rw [hs];decide),if_neg hl,hd]
theorem IE {acc:List MsD}{xs:List Int}(h:¬ xs.length<19) (hs:(BX xs.length (fOf xs)).2.1=0) (hl:¬ xs.length<szL xs){m:MsD}(hd:FE (xs.take (szL xs)) = .inl m):BL acc xs=BL (acc++[m]) (xs.drop (szL xs)):=by
  rw [BL,if_neg h,if_neg (by rw [hs];decide),if_neg hl,hd]
theorem YY (w0:World) (b o c:Nat) (xs:List Int) (hW:Win w0 b o c xs) (hn:xs.length≤100000) :
    Calls Tryz.prog 84 #[.slice (some ⟨b,o,none⟩) xs.length c] w0 fun e w'=>∃ (ok:Bool) (n:Nat) (C S:Int) (d:ByteArray),e = .returned (.tuple #[.int .i64 n, .agg (AG C S d).toArray])∧Frm (fun _=>False) w0 w' ∧
      (ok=false→C≠0∧(BX xs.length (fOf xs)).2=(C,S,d))∧(ok=true→C=0∧S=0∧d=⟨#[]⟩∧(BX xs.length (fOf xs)).2.1=0∧n=szL xs∧19≤n∧n≤4096):=by
  refine (Rg w0 (some ⟨b,o,none⟩) xs.length c (fOf xs) (Ir hW.bys) (fun _=>⟨b,o,rfl,DV hW.at_⟩) Er hW.le).mono fun e w' h=>?_
  obtain ⟨rfl,hF⟩:=h
  rcases FU xs.length (fOf xs) with ⟨C,S,d,e,hC⟩|⟨e,h1,h2,h3,h4,_⟩
  · exact ⟨false,0,C,S,d,by rw [e];rfl,hF,fun _=>⟨hC,by rw [e]⟩,fun e=>by cases e⟩
  · obtain ⟨n,hn⟩:=Int.eq_ofNat_of_zero_le (show 0≤CC (fOf xs) by omega)
    have es:szL xs=n:=by unfold szL;rw [e];dsimp only;rw [hn,Int.toNat_natCast]
    exact ⟨true,n,0,0,⟨#[]⟩,by rw [e,hn];rfl,hF,fun e=>F4,fun _=>⟨rfl,rfl,rfl,by rw [e],es.symm,by omega,by omega⟩⟩
theorem Yo {xs:List Int}{c s:Int}{d:ByteArray}(h:HM xs = .inr (c,s,d)):c≠0:=by
  unfold HM at h
  split at h
  · cases h;decide
  split at h
  · cases h;decide
  split at h
  · cases h;decide
  split at h
  · cases h;decide
  split at h
  · cases h;decide
  split at h
  · cases h;decide
  split at h
  · cases h;decide
  · cases h
theorem Nz {xs:List Int}{c s:Int}{d:ByteArray}(h:FE xs = .inr (c,s,d)):c≠0:=by
  unfold FE at h
  split at h
  · rename_i h1;cases hq:(BX xs.length (fOf xs)) with|mk a r=>rw [hq] at h h1;cases h;exact h1
  split at h
  · cases h;decide
  unfold FL at h
  split at h
  · split at h
    · cases h
    · cases h;decide
  split at h
  · split at h
    · cases h
    · cases h;rename_i h2;exact Yo h2
  split at h
  · cases h
  · cases h
theorem S6 (w0:World) (b o c:Nat) (xs:List Int) (hG:GF w0) (hZ:GZ w0) (hW:Win w0 b o c xs) (hn:xs.length≤90000) :
    Calls Tryz.prog 85 #[.slice (some ⟨b,o,none⟩) xs.length c] w0 fun e w'=>∃ (ok:Bool) (C S:Int) (d:ByteArray) (m:MsL) (K:List Ent),e = .returned (.tuple #[.agg m.cells.toArray, .agg (AG C S d).toArray])∧GD K m∧St (fun _=>False) w0 w' K ∧
      (ok=false→C≠0∧FE xs = .inr (C,S,d))∧(ok=true→C=0∧S=0∧d=⟨#[]⟩∧FE xs = .inl m.d) :=
  (YS w0 b o c xs hG hZ hW hn).mono fun e w' h=>by
    unfold UA at h
    cases hp:FE xs with
    | inr x =>
      obtain ⟨C,S,d⟩:=x
      rw [hp] at h
      exact ⟨false,C,S,d, .zero 0,[],h.1,GD.zero 0,(St.start _ _).ext h.2,fun _=>⟨Nz hp,rfl⟩,fun e=>by cases e⟩
    | inl dd =>
      rw [hp] at h
      obtain ⟨m,K,he,hm,hM,hS⟩:=h
      exact ⟨true,0,0,⟨#[]⟩,m,K,he,hM,hS,(fun e=>by cases e),fun _=>⟨rfl,rfl,rfl,by rw [hm]⟩⟩
def KS (ms:List MsL):List Value:=ms.flatMap MsL.cells
theorem OZ (ms:List MsL) (m:MsL):KS (ms++[m])=KS ms++m.cells:=by unfold KS;rw [List.flatMap_append,List.flatMap_cons,List.flatMap_nil,List.append_nil]
theorem GD.mono {K K':List Ent}{m:MsL}(h:GD K m) (hm:∀ e∈K,e∈K'):GD K' m:=by
  obtain ⟨⟨E1,a1,b1⟩,h2,⟨E3,a3,b3⟩,⟨E4,a4,b4⟩,h5⟩:=h
  exact ⟨⟨E1,a1,fun e he=>hm e (b1 e he)⟩,fun c hc=>by obtain ⟨E,q1,q2⟩:=h2 c hc;exact ⟨E,q1,fun e he=>hm e (q2 e he)⟩,⟨E3,a3,fun e he=>hm e (b3 e he)⟩,⟨E4,a4,fun e he=>hm e (b4 e he)⟩,h5.mono hm⟩
section Gq
attribute [local irreducible] WL WC WE WQ WP WH WR WM WRH

theorem Tx (w:World) (E:List Ent) (aa:Option Addr) (c:Nat) (ys:List Int) (hV:View E aa c ys) (hw:∀ e∈E,e.holds w) (hn:ys.length≤1000000) :
    Calls Tryz.prog 86 #[.slice aa ys.length c] w fun e w'=>∃ x,e = .returned x∧IP w w' ys x:=by
  rcases hV.at_ with ⟨rfl,rfl,rfl⟩|⟨b,o,rfl,_⟩
  · refine enter Tryz.func86 rfl Tryz.ntmps86 rfl (St.start (fun _=>False) w) ?_
    refine J9 ?_
    refine zV (AY true rfl rfl Tryz.underlying25 rfl) rfl ?_
    refine J10 ?_
    refine eT1 ?_
    exact fun w' h=>⟨_,rfl,none,0,[],rfl,Vec.nil 1,h⟩
  · exact Lo w b o c ys (hV.win hw) hn
theorem rows1 {w:World}{g:Nat}{cs:List Value}{ss:List SlL}(h:w.rangeAt g 0 cs) (hcs:cs=ss.map fun s=>.slice s.ad s.val.length s.cap):EI w (some ⟨g,0,none⟩) 1 SlL.cells ss:=fun i s hi=>⟨g,0,rfl,fun j v hj=>by
  match j,hj with
  | 0,hj =>
    cases hj
    have:=h i _ (by rw [hcs,List.getElem?_map,hi];rfl)
    simpa using this
  | j+1,hj=>simp [SlL.cells] at hj⟩
structure FdS where
  ys:List Int
  aa:Option Addr
  c:Nat
  ms:List MsL
  ad:Option Addr
  mc:Nat
  Em:List Ent
  K:List Ent
def RdL.more (r:RdL) (k:Nat):RdL:={ r with count:=r.count+k }
def AR (f:Option (Int×Int×ByteArray)):Int×Int×ByteArray:=f.getD (0,0,⟨#[]⟩)

theorem Pj:∀ (n:Nat) (acc:List MsD) (xs:List Int),xs.length≤n→(BL acc xs).2.2.length≤4096:=by
  intro n
  induction n with
  | zero =>
    intro acc xs h
    rw [Gy Er]
    dsimp only
    omega
  | succ n ih =>
    intro acc xs h
    rw [BL]
    split
    · dsimp only;omega
    rename_i h19
    split
    · exact Nat.zero_le _
    rename_i hz
    have hs:szL xs≤4096∧0<szL xs:=by
      rcases FU xs.length (fOf xs) with ⟨C,S,d,e,hC⟩|⟨e,_,_,h1,h2,_⟩
      · rw [e] at hz;exact absurd hC hz
      · unfold szL;rw [e];dsimp only;omega
    split
    · dsimp only;omega
    split
    · exact Nat.zero_le _
    · exact ih _ _ Ex
abbrev P8 (v0 v1 v2 v3 v4 v5 v6 v7:Value) (r:RdL) (tl:List Value):List Value:=v0::v1::v2::v3::v4::v5::v6::v7::.slice r.ad r.wait.length r.cap::.int .i64 r.count::.int .i64 r.fc::.int .i64 r.fs::.string r.fd::tl
theorem Qa (v0 v1 v2 v3 v4 v5 v6 v7 x:Value) (r:RdL) (tl:List Value) (C S:Int) (d:ByteArray):CW ((P8 v0 v1 v2 v3 v4 v5 v6 v7 r tl).set (8+0) x) (8+2) (AG C S d)=v0::v1::v2::v3::v4::v5::v6::v7::x::.int .i64 r.count::.int .i64 C::.int .i64 S::.string d::tl:=by
  show v0::v1::v2::v3::v4::v5::v6::v7::x::.int .i64 r.count::.int .i64 C::.int .i64 S::.string d::CW tl 0 []=_
  rw [I7]
def Feed8P (w0 w':World) (gr:Nat) (v0 v1 v2 v3 v4 v5 v6 v7:Value) (tl:List Value) (r:RdL) (bs:List Int) (L:List Ent) (e:Ending):Prop :=
  ∃ (ad:Option Addr) (mc:Nat) (ms:List MsL) (Em K:List Ent) (wad:Option Addr) (wc:Nat) (rest:List Int) (Ew:List Ent) (f:Option (Int×Int×ByteArray)),
    BL [] (r.wait++bs)=(ms.map MsL.d,f,rest)∧e = .returned (.tuple #[.slice ad ms.length mc, .agg (AG (AR f).1 (AR f).2.1 (AR f).2.2).toArray])∧Vec 20 ad ms.length mc (KS ms) Em∧(∀ m∈ms,GD K m)∧BV wad wc rest Ew∧Bys rest ∧
    St (fun _=>False) w0 w' (.row gr (P8 v0 v1 v2 v3 v4 v5 v6 v7 ⟨wad,wc,rest,r.count+ms.length,(AR f).1,(AR f).2.1,(AR f).2.2⟩ tl)::(Ew++(Em++(K++L))))
set_option maxHeartbeats 4000000 in
theorem AbS (w0 w1:World) (gr:Nat) (v0 v1 v2 v3 v4 v5 v6 v7:Value) (tl:List Value) (r:RdL) (ba:Option Addr) (bc:Nat) (bs:List Int) (E L:List Ent) (hG:GF w0) (hZ:GZ w0) (hr:r.fc=0∧r.fs=0∧r.fd=⟨#[]⟩) (hV:BV r.ad r.cap r.wait E) (hB:Bys (r.wait++bs)) (hb:∀ w,St (fun _=>False) w0 w (.row gr (P8 v0 v1 v2 v3 v4 v5 v6 v7 r tl)::(E++L))→AU w ba (u8s bs)) (hn:(r.wait++bs).length≤50000) (hc:0≤r.count∧r.count≤4611686018427387904)
    (hS0:St (fun _=>False) w0 w1 (.row gr (P8 v0 v1 v2 v3 v4 v5 v6 v7 r tl)::(E++L))) :
    Calls Tryz.prog 55 #[.pointer (some ⟨gr,8,none⟩), .slice ba bs.length bc] w1 fun e w'=>Feed8P w0 w' gr v0 v1 v2 v3 v4 v5 v6 v7 tl r bs L e:=by
  obtain ⟨rad,rcap,ws,cnt,rfc,rfs,rfd⟩:=r
  dsimp only at hr hV hB hn hc
  obtain ⟨rfl,rfl,rfl⟩:=hr
  have hln:ws.length≤50000∧bs.length≤50000:=by rw [List.length_append] at hn;omega
  refine enter Tryz.func55 rfl Tryz.ntmps55 rfl hS0 ?_
  refine J3 ?_
  refine WL.alloc rfl CV (.none rfl) rfl rfl ?_
  intro g5 hg5
  refine J6 ?_
  refine zV (AY false rfl rfl Tryz.underlying161 rfl) rfl ?_
  refine J4 ?_
  refine zS (CA rfl rfl Im rfl (IK (m:=3) rfl)) rfl ?_
  refine J1 ?_
  refine zS (EU rfl rfl rfl DX DU rfl rfl Gf) rfl ?_
  refine J11 ?_
  refine zV (AA rfl rfl G3 (cellAt (v:=.slice rad ws.length rcap) rfl)) rfl ?_
  refine J1 ?_
  refine zB Tryz.underlying193 G9 Wk rfl rfl ?_
  intro g27 hg27
  have hcat:Jm [⟨rad,rcap,ws⟩,⟨ba,bc,bs⟩]=ws++bs:=(by show ws++(bs++[])=_;rw [List.append_nil])
  refine zK ck_83 rfl ?_
  intro w1 hS
  refine (Tr w1 g27 0 2 [⟨rad,rcap,ws⟩,⟨ba,bc,bs⟩] (rows1 (BZ (g:=g27) w1 hS) rfl) (fun s hs=>by
    rcases List.mem_cons.1 hs with rfl|hs
    · intro h0
      exact B8
    · rcases List.mem_cons.1 hs with rfl|hs
      · exact hb _ (hS.sub (.cons _ (.cons _ (.refl _))))
      · cases hs) (by rw [hcat];omega) (by show 2≤1000;omega)).mono ?_
  rintro e w' ⟨_,rfl,ad28,c28,E28,rfl,hV28,hS'⟩
  refine ⟨_,_,rfl,hS.join hS',?_⟩
  rw [hcat] at hV28 ⊢
  have hVw:=View.of hV28 hB
  refine WL.to (L':=[]++(.row gr (P8 v0 v1 v2 v3 v4 v5 v6 v7 ⟨rad,rcap,ws,cnt+((0:Nat):Int),0,0,⟨#[]⟩⟩ tl)::.row g5 (AG 0 0 ⟨#[]⟩)::([]++(E28++(E++L))))) (fun w hS=>by
    have h1:=hS.sub (List.Sublist.append_left (List.sublist_cons_self _ _) E28)
    have h2:=St.front (R:=[.row g5 _, .row gr _]) (L:=E++L) E28 h1
    have h3:=h2.perm (List.Perm.swap _ _ _)
    rw [show cnt+((0:Nat):Int)=cnt by omega]
    exact h3) ?_
  refine J8 ?_
  refine WC.cut (fun y:FdS=>[(0, .pointer (some ⟨gr,8,none⟩)),(5, .pointer (some ⟨g5,0,none⟩)),(6, .slice y.aa y.ys.length y.c),(7, .slice y.ad y.ms.length y.mc)]) (fun y=>y.Em++(.row gr (P8 v0 v1 v2 v3 v4 v5 v6 v7 ⟨rad,rcap,ws,cnt+(y.ms.length:Int),0,0,⟨#[]⟩⟩ tl)::.row g5 (AG 0 0 ⟨#[]⟩)::(y.K++(E28++(E++L))))) (fun y=>y.ys.length≤(ws++bs).length∧View E28 y.aa y.c y.ys∧BL [] (ws++bs)=(y.ms.map MsL.d,none,y.ys)∧Vec 20 y.ad y.ms.length y.mc (KS y.ms) y.Em∧∀ m∈y.ms,GD y.K m) ?_ ?_
  refine J1 ?_
  refine WC.loop (fun x:FdS=>[(0, .pointer (some ⟨gr,8,none⟩)),(5, .pointer (some ⟨g5,0,none⟩)),(6, .slice x.aa x.ys.length x.c),(7, .slice x.ad x.ms.length x.mc)]) (fun x=>x.Em++(.row gr (P8 v0 v1 v2 v3 v4 v5 v6 v7 ⟨rad,rcap,ws,cnt+(x.ms.length:Int),0,0,⟨#[]⟩⟩ tl)::.row g5 (AG 0 0 ⟨#[]⟩)::(x.K++(E28++(E++L))))) (fun x=>x.ms.length+x.ys.length≤(ws++bs).length∧View E28 x.aa x.c x.ys∧BL [] (ws++bs)=BL (x.ms.map MsL.d) x.ys∧Vec 20 x.ad x.ms.length x.mc (KS x.ms) x.Em∧∀ m∈x.ms,GD x.K m) (fun x=>x.ys.length) ⟨ws++bs,ad28,c28,[],none,0,[],[]⟩ ⟨by simp,hVw,rfl,Vec.nil 20,fun _ h=>by cases h⟩ Km (.refl _) ?_
  rintro ⟨ys,aa,c,ms,ad,mc,Em,K⟩ ⟨hl,hVy,hy,hVm,hK⟩
  dsimp only at hl hVy hy hVm hK
  dsimp only
  refine J5 ?_
  refine JT (fun h31=>?_) (fun h31=>?_)
  refine J9 ?_
  have h19':¬ ys.length<19:=Er
  obtain ⟨b',o',rfl⟩:=hVy.some Er
  have hle:=hVy.le
  refine zK Tq rfl ?_
  intro w1 hS
  refine (YY w1 b' o' c ys (hVy.win (fun e he=>hS.holds e (List.mem_append_right _ (.tail _ (.tail _ (List.mem_append_right _ (List.mem_append_left _ he))))))) Er).mono ?_
  rintro e w' ⟨ok,n,C,S,d,rfl,hF,hbad,hok⟩
  refine ⟨_,_,rfl,hS.ext hF,?_⟩
  refine J3 ?_
  skip
  cases ok
  refine WL.alloc rfl CV (.none rfl) rfl rfl ?_
  intro g9 hg9
  refine J9 ?_
  refine zV (KK rfl rfl rfl DX DU rfl rfl Ff) rfl ?_
  refine J13 ?_
  refine WL.alloc rfl GM (.none rfl) rfl rfl ?_
  intro g10 hg10
  refine J7 ?_
  refine zV (KK rfl rfl rfl DX DU rfl rfl Ff) rfl ?_
  refine J10 ?_
  refine zV (Gp rfl rfl rfl DX DU rfl rfl Ff) rfl ?_
  refine J4 ?_
  refine WC.BB mixed<|rF 5 [0,1,3,4]<|?_
  refine J5 ?_
  refine WR.each (g:=4) [2,5] Es Et ?_
  refine ⟨?_,?_⟩
  refine J2 ?_
  refine rO 3 [5] ?_
  refine J2 ?_
  refine rF 1 [6,7] ?_
  refine J3 ?_
  exact A5
  refine J2 ?_
  refine rA 1 [2,6,7] rfl ?_
  refine J4 ?_
  exact A5
  obtain ⟨rfl,rfl,rfl,hz,rfl,hn19,hn4⟩:=hok rfl
  refine WL.alloc rfl CV (.none rfl) rfl rfl ?_
  intro g9 hg9
  refine J9 ?_
  refine zV (KI rfl rfl rfl DX DU rfl rfl Gf) rfl ?_
  refine J4 ?_
  refine JT (fun h44=>?_) (fun h44=>?_)
  exact B0
  refine J8 ?_
  refine WL.alloc rfl GM (.none rfl) rfl rfl ?_
  intro g10 hg10
  refine J7 ?_
  refine zV (KI rfl rfl rfl DX DU rfl rfl Gf) rfl ?_
  refine J6 ?_
  refine zV ((CT (hi:=szL ys) rfl rfl rfl Tryz.underlying25 AO rfl Er)) rfl ?_
  refine zK ck_85 rfl ?_
  intro w1 hS
  have hWy:=hVy.win (fun e he=>hS.holds e (.tail _ (.tail _ (List.mem_append_right _ (.tail _ (.tail _ (List.mem_append_right _ (List.mem_append_left _ he))))))))
  have htl:(ys.take (szL ys)).length=szL ys:=Ey
  have hc:=S6 w1 b' o' c (ys.take (szL ys)) (hG.FA (fun h=>h) hS) (hZ.FA (fun h=>h) hS) (hWy.take _) Er
  rw [htl] at hc
  refine hc.mono ?_
  rintro e w' ⟨ok2,C,S,d,m,Kd,rfl,hMd,hSd,hbad2,hok2⟩
  refine ⟨_,_,rfl,hS.join hSd,?_⟩
  refine J3 ?_
  skip
  cases ok2
  refine J9 ?_
  refine zV (Gp rfl rfl rfl DX DU rfl rfl (by exact fun h=>by injection h with h1 _;injection h1 with _ h1;exact (hbad2 rfl).1 h1)) rfl ?_
  refine J4 ?_
  refine WC.BB mixed<|rF 5 [0,1,3,4]<|?_
  refine J5 ?_
  refine WR.each (g:=4) [2,5] Es Et ?_
  refine ⟨?_,?_⟩
  refine J2 ?_
  refine rO 3 [5] ?_
  refine J2 ?_
  refine rF 1 [6,7] ?_
  refine J3 ?_
  exact A1
  refine J2 ?_
  refine rA 1 [2,6,7] rfl ?_
  refine J4 ?_
  exact A1
  refine J8 ?_
  obtain ⟨rfl,rfl,rfl,hdm⟩:=hok2 rfl
  refine J1 ?_
  refine zV (EU rfl rfl rfl DX DU rfl rfl Gf) rfl ?_
  refine J9 ?_
  refine zB Tryz.underlying110 LR GM rfl rfl ?_
  intro g70 hg70
  refine WL.as (L':=.row g70 m.cells::(Kd++(.row g10 m.cells::.row g9 (AG 0 0 ⟨#[]⟩)::(Em++(.row gr (P8 v0 v1 v2 v3 v4 v5 v6 v7 ⟨rad,rcap,ws,cnt+(ms.length:Int),0,0,⟨#[]⟩⟩ tl)::.row g5 (AG 0 0 ⟨#[]⟩)::(K++(E28++(E++L)))))))) rfl ?_
  refine WL.to (L':=Em++(.row g70 m.cells::(Kd++(.row g10 m.cells::.row g9 (AG 0 0 ⟨#[]⟩)::.row gr (P8 v0 v1 v2 v3 v4 v5 v6 v7 ⟨rad,rcap,ws,cnt+(ms.length:Int),0,0,⟨#[]⟩⟩ tl)::.row g5 (AG 0 0 ⟨#[]⟩)::(K++(E28++(E++L))))))) (fun w hS=>by
    have:=St.front (R:=Em) (L:=.row gr (P8 v0 v1 v2 v3 v4 v5 v6 v7 ⟨rad,rcap,ws,cnt+(ms.length:Int),0,0,⟨#[]⟩⟩ tl)::.row g5 (AG 0 0 ⟨#[]⟩)::(K++(E28++(E++L)))) (.row g70 m.cells::(Kd++[.row g10 m.cells, .row g9 (AG 0 0 ⟨#[]⟩)])) Ez
    simpa only [List.cons_append,List.append_assoc,List.nil_append] using this) ?_
  refine WL.AN rfl rfl rfl Tryz.underlying110 Tryz.underlying110 LR by_39 GM rfl rfl hVm (new:=m.cells) (fun _=>⟨g70,0,rfl,fun w hS=>BZ (g:=g70) w hS⟩) rfl rfl Er (.none rfl) rfl rfl ?_
  intro ad71 c71 E71 hV71 hr71
  rw [← OZ] at hV71
  rw [show ms.length+1=(ms++[m]).length by rw [List.length_append];rfl] at hV71 ⊢
  refine J8 ?_
  refine zV (AA rfl rfl AK (cellAt (v:=.int .i64 (cnt+(ms.length:Int))) rfl)) rfl ?_
  refine zV (AS rfl rfl rfl (show _=cnt+((ms++[m]).length:Int) from (AF Er Er).trans (by rw [List.length_append];show cnt+(ms.length:Int)+1=cnt+((ms.length+1:Nat):Int);omega))) rfl ?_
  refine J3 ?_
  refine WL.as (L':=E71++(.row g70 m.cells::(Kd++(.row g10 m.cells::.row g9 (AG 0 0 ⟨#[]⟩)::.row gr (P8 v0 v1 v2 v3 v4 v5 v6 v7 ⟨rad,rcap,ws,cnt+((ms++[m]).length:Int),0,0,⟨#[]⟩⟩ tl)::.row g5 (AG 0 0 ⟨#[]⟩)::(K++(E28++(E++L))))))) rfl ?_
  refine WL.to (L':=E71++(.row gr (P8 v0 v1 v2 v3 v4 v5 v6 v7 ⟨rad,rcap,ws,cnt+((ms++[m]).length:Int),0,0,⟨#[]⟩⟩ tl)::.row g5 (AG 0 0 ⟨#[]⟩)::((Kd++K)++(E28++(E++L))))) (fun w hS=>by
    have h1:St (fun _=>False) w0 w (E71++(Kd++(.row gr (P8 v0 v1 v2 v3 v4 v5 v6 v7 ⟨rad,rcap,ws,cnt+((ms++[m]).length:Int),0,0,⟨#[]⟩⟩ tl)::.row g5 (AG 0 0 ⟨#[]⟩)::(K++(E28++(E++L)))))):=hS.sub (List.Sublist.append_left (.cons _ (List.Sublist.append_left (.cons _ (.cons _ (.refl _))) _)) _)
    refine h1.perm (List.Perm.append_left E71 ?_)
    have:=List.perm_append_comm_assoc Kd [.row gr (P8 v0 v1 v2 v3 v4 v5 v6 v7 ⟨rad,rcap,ws,cnt+((ms++[m]).length:Int),0,0,⟨#[]⟩⟩ tl), .row g5 (AG 0 0 ⟨#[]⟩)] (K++(E28++(E++L)))
    simpa only [List.cons_append,List.append_assoc,List.nil_append] using this.symm) ?_
  refine J5 ?_
  refine zV ((BW (lo:=szL ys) rfl rfl rfl Tryz.underlying25 AO rfl Er)) rfl ?_
  refine J3 ?_
  exact eW ⟨ys.drop (szL ys),some ⟨b',AV o' (szL ys) c 1,none⟩,c-szL ys,ms++[m],ad71,c71,E71,Kd++K⟩ Fs ⟨by dsimp only;rw [List.length_drop,List.length_append,List.length_cons,List.length_nil];omega,hVy.drop _,by dsimp only;rw [hy,IE h19' hz Er hdm,List.map_append];rfl,hV71,fun x hx=>by
  rcases List.mem_append.1 hx with hx|hx
  · exact (hK x hx).mono fun e he=>List.mem_append_right _ he
  · rcases List.mem_cons.1 hx with rfl|hx
    · exact hMd.mono fun e he=>List.mem_append_left _ he
    · cases hx⟩ (.cons rfl (.cons rfl (.eq rfl F6 (.cons rfl .nil))))
  exact Cu
  rintro ⟨ys,aa,c,ms,ad,mc,Em,K⟩ ⟨hl,hVy,hy,hVm,hK⟩
  dsimp only at hl hVy hy hVm hK
  dsimp only
  refine J4 ?_
  refine zK Qy rfl ?_
  intro w1 hS
  refine (Tx w1 E28 aa c ys hVy (fun e he=>hS.holds e (List.mem_append_right _ (.tail _ (.tail _ (List.mem_append_right _ (List.mem_append_left _ he)))))) Er).mono ?_
  rintro e w' ⟨_,rfl,wad,wc,Ew,rfl,hVw2,hSw⟩
  refine ⟨_,_,rfl,hS.join hSw,?_⟩
  refine J14 ?_
  refine eT2 ?_
  refine fun w' h=>⟨ad,mc,ms,Em,K,wad,wc,ys,Ew,none,hy,rfl,hVm,hK,hVw2,hVy.bys,?_⟩
  have h1:=h.sub (List.Sublist.append_left (List.Sublist.append_left (.cons_cons _ (.cons _ (List.Sublist.append_left (List.sublist_append_of_sublist_right (List.sublist_append_right _ _)) _))) _) _)
  have h2:=St.front (R:=[_]) (L:=K++L) (Ew++Em) (by simpa only [List.cons_append,List.append_assoc,List.nil_append] using h1)
  refine (show St _ _ _ (.row gr ((P8 v0 v1 v2 v3 v4 v5 v6 v7 ⟨rad,rcap,ws,cnt+(ms.length:Int),0,0,⟨#[]⟩⟩ tl).set 8 (.slice wad ys.length wc))::(Ew++(Em++(K++L)))) from ?_)
  simpa only [List.cons_append,List.append_assoc,List.nil_append] using h2
abbrev P16 (v0 v1 v2 v3 v4 v5 v6 v7 v8 v9 v10 v11 v12 v13 v14 v15:Value) (r:RdL) (tl:List Value):List Value:=v0::v1::v2::v3::v4::v5::v6::v7::v8::v9::v10::v11::v12::v13::v14::v15::.slice r.ad r.wait.length r.cap::.int .i64 r.count::.int .i64 r.fc::.int .i64 r.fs::.string r.fd::tl
theorem PC (v0 v1 v2 v3 v4 v5 v6 v7 v8 v9 v10 v11 v12 v13 v14 v15 x:Value) (r:RdL) (tl:List Value) (C S:Int) (d:ByteArray):CW ((P16 v0 v1 v2 v3 v4 v5 v6 v7 v8 v9 v10 v11 v12 v13 v14 v15 r tl).set (16+0) x) (16+2) (AG C S d)=v0::v1::v2::v3::v4::v5::v6::v7::v8::v9::v10::v11::v12::v13::v14::v15::x::.int .i64 r.count::.int .i64 C::.int .i64 S::.string d::tl:=by
  show v0::v1::v2::v3::v4::v5::v6::v7::v8::v9::v10::v11::v12::v13::v14::v15::x::.int .i64 r.count::.int .i64 C::.int .i64 S::.string d::CW tl 0 []=_
  rw [I7]
def AbM (w0 w':World) (gr:Nat) (v0 v1 v2 v3 v4 v5 v6 v7 v8 v9 v10 v11 v12 v13 v14 v15:Value) (tl:List Value) (r:RdL) (bs:List Int) (L:List Ent) (e:Ending):Prop :=
  ∃ (ad:Option Addr) (mc:Nat) (ms:List MsL) (Em K:List Ent) (wad:Option Addr) (wc:Nat) (rest:List Int) (Ew:List Ent) (f:Option (Int×Int×ByteArray)),
    BL [] (r.wait++bs)=(ms.map MsL.d,f,rest)∧e = .returned (.tuple #[.slice ad ms.length mc, .agg (AG (AR f).1 (AR f).2.1 (AR f).2.2).toArray])∧Vec 20 ad ms.length mc (KS ms) Em∧(∀ m∈ms,GD K m)∧BV wad wc rest Ew∧Bys rest ∧
    St (fun _=>False) w0 w' (.row gr (P16 v0 v1 v2 v3 v4 v5 v6 v7 v8 v9 v10 v11 v12 v13 v14 v15 ⟨wad,wc,rest,r.count+ms.length,(AR f).1,(AR f).2.1,(AR f).2.2⟩ tl)::(Ew++(Em++(K++L))))
set_option maxHeartbeats 4000000 in
theorem YA (w0 w1:World) (gr:Nat) (v0 v1 v2 v3 v4 v5 v6 v7 v8 v9 v10 v11 v12 v13 v14 v15:Value) (tl:List Value) (r:RdL) (ba:Option Addr) (bc:Nat) (bs:List Int) (E L:List Ent) (hG:GF w0) (hZ:GZ w0) (hr:r.fc=0∧r.fs=0∧r.fd=⟨#[]⟩) (hV:BV r.ad r.cap r.wait E) (hB:Bys (r.wait++bs)) (hb:∀ w,St (fun _=>False) w0 w (.row gr (P16 v0 v1 v2 v3 v4 v5 v6 v7 v8 v9 v10 v11 v12 v13 v14 v15 r tl)::(E++L))→AU w ba (u8s bs)) (hn:(r.wait++bs).length≤50000) (hc:0≤r.count∧r.count≤4611686018427387904)
    (hS0:St (fun _=>False) w0 w1 (.row gr (P16 v0 v1 v2 v3 v4 v5 v6 v7 v8 v9 v10 v11 v12 v13 v14 v15 r tl)::(E++L))) :
    Calls Tryz.prog 55 #[.pointer (some ⟨gr,16,none⟩), .slice ba bs.length bc] w1 fun e w'=>AbM w0 w' gr v0 v1 v2 v3 v4 v5 v6 v7 v8 v9 v10 v11 v12 v13 v14 v15 tl r bs L e:=by
  obtain ⟨rad,rcap,ws,cnt,rfc,rfs,rfd⟩:=r
  dsimp only at hr hV hB hn hc
  obtain ⟨rfl,rfl,rfl⟩:=hr
  have hln:ws.length≤50000∧bs.length≤50000:=by rw [List.length_append] at hn;omega
  refine enter Tryz.func55 rfl Tryz.ntmps55 rfl hS0 ?_
  refine J3 ?_
  refine WL.alloc rfl CV (.none rfl) rfl rfl ?_
  intro g5 hg5
  refine J6 ?_
  refine zV (AY false rfl rfl Tryz.underlying161 rfl) rfl ?_
  refine J4 ?_
  refine zS (CA rfl rfl Im rfl (IK (m:=3) rfl)) rfl ?_
  refine J1 ?_
  refine zS (EU rfl rfl rfl DX DU rfl rfl Gf) rfl ?_
  refine J11 ?_
  refine zV (AA rfl rfl G3 (cellAt (v:=.slice rad ws.length rcap) rfl)) rfl ?_
  refine J1 ?_
  refine zB Tryz.underlying193 G9 Wk rfl rfl ?_
  intro g27 hg27
  have hcat:Jm [⟨rad,rcap,ws⟩,⟨ba,bc,bs⟩]=ws++bs:=(by show ws++(bs++[])=_;rw [List.append_nil])
  refine zK ck_83 rfl ?_
  intro w1 hS
  refine (Tr w1 g27 0 2 [⟨rad,rcap,ws⟩,⟨ba,bc,bs⟩] (rows1 (BZ (g:=g27) w1 hS) rfl) (fun s hs=>by
    rcases List.mem_cons.1 hs with rfl|hs
    · intro h0
      exact B8
    · rcases List.mem_cons.1 hs with rfl|hs
      · exact hb _ (hS.sub (.cons _ (.cons _ (.refl _))))
      · cases hs) (by rw [hcat];omega) (by show 2≤1000;omega)).mono ?_
  rintro e w' ⟨_,rfl,ad28,c28,E28,rfl,hV28,hS'⟩
  refine ⟨_,_,rfl,hS.join hS',?_⟩
  rw [hcat] at hV28 ⊢
  have hVw:=View.of hV28 hB
  refine WL.to (L':=[]++(.row gr (P16 v0 v1 v2 v3 v4 v5 v6 v7 v8 v9 v10 v11 v12 v13 v14 v15 ⟨rad,rcap,ws,cnt+((0:Nat):Int),0,0,⟨#[]⟩⟩ tl)::.row g5 (AG 0 0 ⟨#[]⟩)::([]++(E28++(E++L))))) (fun w hS=>by
    have h1:=hS.sub (List.Sublist.append_left (List.sublist_cons_self _ _) E28)
    have h2:=St.front (R:=[.row g5 _, .row gr _]) (L:=E++L) E28 h1
    have h3:=h2.perm (List.Perm.swap _ _ _)
    rw [show cnt+((0:Nat):Int)=cnt by omega]
    exact h3) ?_
  refine J8 ?_
  refine WC.cut (fun y:FdS=>[(0, .pointer (some ⟨gr,16,none⟩)),(5, .pointer (some ⟨g5,0,none⟩)),(6, .slice y.aa y.ys.length y.c),(7, .slice y.ad y.ms.length y.mc)]) (fun y=>y.Em++(.row gr (P16 v0 v1 v2 v3 v4 v5 v6 v7 v8 v9 v10 v11 v12 v13 v14 v15 ⟨rad,rcap,ws,cnt+(y.ms.length:Int),0,0,⟨#[]⟩⟩ tl)::.row g5 (AG 0 0 ⟨#[]⟩)::(y.K++(E28++(E++L))))) (fun y=>y.ys.length≤(ws++bs).length∧View E28 y.aa y.c y.ys∧BL [] (ws++bs)=(y.ms.map MsL.d,none,y.ys)∧Vec 20 y.ad y.ms.length y.mc (KS y.ms) y.Em∧∀ m∈y.ms,GD y.K m) ?_ ?_
  refine J1 ?_
  refine WC.loop (fun x:FdS=>[(0, .pointer (some ⟨gr,16,none⟩)),(5, .pointer (some ⟨g5,0,none⟩)),(6, .slice x.aa x.ys.length x.c),(7, .slice x.ad x.ms.length x.mc)]) (fun x=>x.Em++(.row gr (P16 v0 v1 v2 v3 v4 v5 v6 v7 v8 v9 v10 v11 v12 v13 v14 v15 ⟨rad,rcap,ws,cnt+(x.ms.length:Int),0,0,⟨#[]⟩⟩ tl)::.row g5 (AG 0 0 ⟨#[]⟩)::(x.K++(E28++(E++L))))) (fun x=>x.ms.length+x.ys.length≤(ws++bs).length∧View E28 x.aa x.c x.ys∧BL [] (ws++bs)=BL (x.ms.map MsL.d) x.ys∧Vec 20 x.ad x.ms.length x.mc (KS x.ms) x.Em∧∀ m∈x.ms,GD x.K m) (fun x=>x.ys.length) ⟨ws++bs,ad28,c28,[],none,0,[],[]⟩ ⟨by simp,hVw,rfl,Vec.nil 20,fun _ h=>by cases h⟩ Km (.refl _) ?_
  rintro ⟨ys,aa,c,ms,ad,mc,Em,K⟩ ⟨hl,hVy,hy,hVm,hK⟩
  dsimp only at hl hVy hy hVm hK
  dsimp only
  refine J5 ?_
  refine JT (fun h31=>?_) (fun h31=>?_)
  refine J9 ?_
  have h19':¬ ys.length<19:=Er
  obtain ⟨b',o',rfl⟩:=hVy.some Er
  have hle:=hVy.le
  refine zK Tq rfl ?_
  intro w1 hS
  refine (YY w1 b' o' c ys (hVy.win (fun e he=>hS.holds e (List.mem_append_right _ (.tail _ (.tail _ (List.mem_append_right _ (List.mem_append_left _ he))))))) Er).mono ?_
  rintro e w' ⟨ok,n,C,S,d,rfl,hF,hbad,hok⟩
  refine ⟨_,_,rfl,hS.ext hF,?_⟩
  refine J3 ?_
  skip
  cases ok
  refine WL.alloc rfl CV (.none rfl) rfl rfl ?_
  intro g9 hg9
  refine J9 ?_
  refine zV (KK rfl rfl rfl DX DU rfl rfl Ff) rfl ?_
  refine J13 ?_
  refine WL.alloc rfl GM (.none rfl) rfl rfl ?_
  intro g10 hg10
  refine J7 ?_
  refine zV (KK rfl rfl rfl DX DU rfl rfl Ff) rfl ?_
  refine J10 ?_
  refine zV (Gp rfl rfl rfl DX DU rfl rfl Ff) rfl ?_
  refine J4 ?_
  refine WC.BB mixed<|rF 5 [0,1,3,4]<|?_
  refine J5 ?_
  refine WR.each (g:=4) [2,5] Es Et ?_
  refine ⟨?_,?_⟩
  refine J2 ?_
  refine rO 3 [5] ?_
  refine J2 ?_
  refine rF 1 [6,7] ?_
  refine J3 ?_
  exact A4
  refine J2 ?_
  refine rA 1 [2,6,7] rfl ?_
  refine J4 ?_
  exact A4
  obtain ⟨rfl,rfl,rfl,hz,rfl,hn19,hn4⟩:=hok rfl
  refine WL.alloc rfl CV (.none rfl) rfl rfl ?_
  intro g9 hg9
  refine J9 ?_
  refine zV (KI rfl rfl rfl DX DU rfl rfl Gf) rfl ?_
  refine J4 ?_
  refine JT (fun h44=>?_) (fun h44=>?_)
  exact B0
  refine J8 ?_
  refine WL.alloc rfl GM (.none rfl) rfl rfl ?_
  intro g10 hg10
  refine J7 ?_
  refine zV (KI rfl rfl rfl DX DU rfl rfl Gf) rfl ?_
  refine J6 ?_
  refine zV ((CT (hi:=szL ys) rfl rfl rfl Tryz.underlying25 AO rfl Er)) rfl ?_
  refine zK ck_85 rfl ?_
  intro w1 hS
  have hWy:=hVy.win (fun e he=>hS.holds e (.tail _ (.tail _ (List.mem_append_right _ (.tail _ (.tail _ (List.mem_append_right _ (List.mem_append_left _ he))))))))
  have htl:(ys.take (szL ys)).length=szL ys:=Ey
  have hc:=S6 w1 b' o' c (ys.take (szL ys)) (hG.FA (fun h=>h) hS) (hZ.FA (fun h=>h) hS) (hWy.take _) Er
  rw [htl] at hc
  refine hc.mono ?_
  rintro e w' ⟨ok2,C,S,d,m,Kd,rfl,hMd,hSd,hbad2,hok2⟩
  refine ⟨_,_,rfl,hS.join hSd,?_⟩
  refine J3 ?_
  skip
  cases ok2
  refine J9 ?_
  refine zV (Gp rfl rfl rfl DX DU rfl rfl (by exact fun h=>by injection h with h1 _;injection h1 with _ h1;exact (hbad2 rfl).1 h1)) rfl ?_
  refine J4 ?_
  refine WC.BB mixed<|rF 5 [0,1,3,4]<|?_
  refine J5 ?_
  refine WR.each (g:=4) [2,5] Es Et ?_
  refine ⟨?_,?_⟩
  refine J2 ?_
  refine rO 3 [5] ?_
  refine J2 ?_
  refine rF 1 [6,7] ?_
  refine J3 ?_
  exact A0
  refine J2 ?_
  refine rA 1 [2,6,7] rfl ?_
  refine J4 ?_
  exact A0
  refine J8 ?_
  obtain ⟨rfl,rfl,rfl,hdm⟩:=hok2 rfl
  refine J1 ?_
  refine zV (EU rfl rfl rfl DX DU rfl rfl Gf) rfl ?_
  refine J9 ?_
  refine zB Tryz.underlying110 LR GM rfl rfl ?_
  intro g70 hg70
  refine WL.as (L':=.row g70 m.cells::(Kd++(.row g10 m.cells::.row g9 (AG 0 0 ⟨#[]⟩)::(Em++(.row gr (P16 v0 v1 v2 v3 v4 v5 v6 v7 v8 v9 v10 v11 v12 v13 v14 v15 ⟨rad,rcap,ws,cnt+(ms.length:Int),0,0,⟨#[]⟩⟩ tl)::.row g5 (AG 0 0 ⟨#[]⟩)::(K++(E28++(E++L)))))))) rfl ?_
  refine WL.to (L':=Em++(.row g70 m.cells::(Kd++(.row g10 m.cells::.row g9 (AG 0 0 ⟨#[]⟩)::.row gr (P16 v0 v1 v2 v3 v4 v5 v6 v7 v8 v9 v10 v11 v12 v13 v14 v15 ⟨rad,rcap,ws,cnt+(ms.length:Int),0,0,⟨#[]⟩⟩ tl)::.row g5 (AG 0 0 ⟨#[]⟩)::(K++(E28++(E++L))))))) (fun w hS=>by
    have:=St.front (R:=Em) (L:=.row gr (P16 v0 v1 v2 v3 v4 v5 v6 v7 v8 v9 v10 v11 v12 v13 v14 v15 ⟨rad,rcap,ws,cnt+(ms.length:Int),0,0,⟨#[]⟩⟩ tl)::.row g5 (AG 0 0 ⟨#[]⟩)::(K++(E28++(E++L)))) (.row g70 m.cells::(Kd++[.row g10 m.cells, .row g9 (AG 0 0 ⟨#[]⟩)])) Ez
    simpa only [List.cons_append,List.append_assoc,List.nil_append] using this) ?_
  refine WL.AN rfl rfl rfl Tryz.underlying110 Tryz.underlying110 LR by_39 GM rfl rfl hVm (new:=m.cells) (fun _=>⟨g70,0,rfl,fun w hS=>BZ (g:=g70) w hS⟩) rfl rfl Er (.none rfl) rfl rfl ?_
  intro ad71 c71 E71 hV71 hr71
  rw [← OZ] at hV71
  rw [show ms.length+1=(ms++[m]).length by rw [List.length_append];rfl] at hV71 ⊢
  refine J8 ?_
  refine zV (AA rfl rfl AK (cellAt (v:=.int .i64 (cnt+(ms.length:Int))) rfl)) rfl ?_
  refine zV (AS rfl rfl rfl (show _=cnt+((ms++[m]).length:Int) from (AF Er Er).trans (by rw [List.length_append];show cnt+(ms.length:Int)+1=cnt+((ms.length+1:Nat):Int);omega))) rfl ?_
  refine J3 ?_
  refine WL.as (L':=E71++(.row g70 m.cells::(Kd++(.row g10 m.cells::.row g9 (AG 0 0 ⟨#[]⟩)::.row gr (P16 v0 v1 v2 v3 v4 v5 v6 v7 v8 v9 v10 v11 v12 v13 v14 v15 ⟨rad,rcap,ws,cnt+((ms++[m]).length:Int),0,0,⟨#[]⟩⟩ tl)::.row g5 (AG 0 0 ⟨#[]⟩)::(K++(E28++(E++L))))))) rfl ?_
  refine WL.to (L':=E71++(.row gr (P16 v0 v1 v2 v3 v4 v5 v6 v7 v8 v9 v10 v11 v12 v13 v14 v15 ⟨rad,rcap,ws,cnt+((ms++[m]).length:Int),0,0,⟨#[]⟩⟩ tl)::.row g5 (AG 0 0 ⟨#[]⟩)::((Kd++K)++(E28++(E++L))))) (fun w hS=>by
    have h1:St (fun _=>False) w0 w (E71++(Kd++(.row gr (P16 v0 v1 v2 v3 v4 v5 v6 v7 v8 v9 v10 v11 v12 v13 v14 v15 ⟨rad,rcap,ws,cnt+((ms++[m]).length:Int),0,0,⟨#[]⟩⟩ tl)::.row g5 (AG 0 0 ⟨#[]⟩)::(K++(E28++(E++L)))))):=hS.sub (List.Sublist.append_left (.cons _ (List.Sublist.append_left (.cons _ (.cons _ (.refl _))) _)) _)
    refine h1.perm (List.Perm.append_left E71 ?_)
    have:=List.perm_append_comm_assoc Kd [.row gr (P16 v0 v1 v2 v3 v4 v5 v6 v7 v8 v9 v10 v11 v12 v13 v14 v15 ⟨rad,rcap,ws,cnt+((ms++[m]).length:Int),0,0,⟨#[]⟩⟩ tl), .row g5 (AG 0 0 ⟨#[]⟩)] (K++(E28++(E++L)))
    simpa only [List.cons_append,List.append_assoc,List.nil_append] using this.symm) ?_
  refine J5 ?_
  refine zV ((BW (lo:=szL ys) rfl rfl rfl Tryz.underlying25 AO rfl Er)) rfl ?_
  refine J3 ?_
  exact eW ⟨ys.drop (szL ys),some ⟨b',AV o' (szL ys) c 1,none⟩,c-szL ys,ms++[m],ad71,c71,E71,Kd++K⟩ Fs ⟨by dsimp only;rw [List.length_drop,List.length_append,List.length_cons,List.length_nil];omega,hVy.drop _,by dsimp only;rw [hy,IE h19' hz Er hdm,List.map_append];rfl,hV71,fun x hx=>by
  rcases List.mem_append.1 hx with hx|hx
  · exact (hK x hx).mono fun e he=>List.mem_append_right _ he
  · rcases List.mem_cons.1 hx with rfl|hx
    · exact hMd.mono fun e he=>List.mem_append_left _ he
    · cases hx⟩ (.cons rfl (.cons rfl (.eq rfl F6 (.cons rfl .nil))))
  exact Cu
  rintro ⟨ys,aa,c,ms,ad,mc,Em,K⟩ ⟨hl,hVy,hy,hVm,hK⟩
  dsimp only at hl hVy hy hVm hK
  dsimp only
  refine J4 ?_
  refine zK Qy rfl ?_
  intro w1 hS
  refine (Tx w1 E28 aa c ys hVy (fun e he=>hS.holds e (List.mem_append_right _ (.tail _ (.tail _ (List.mem_append_right _ (List.mem_append_left _ he)))))) Er).mono ?_
  rintro e w' ⟨_,rfl,wad,wc,Ew,rfl,hVw2,hSw⟩
  refine ⟨_,_,rfl,hS.join hSw,?_⟩
  refine J14 ?_
  refine eT2 ?_
  refine fun w' h=>⟨ad,mc,ms,Em,K,wad,wc,ys,Ew,none,hy,rfl,hVm,hK,hVw2,hVy.bys,?_⟩
  have h1:=h.sub (List.Sublist.append_left (List.Sublist.append_left (.cons_cons _ (.cons _ (List.Sublist.append_left (List.sublist_append_of_sublist_right (List.sublist_append_right _ _)) _))) _) _)
  have h2:=St.front (R:=[_]) (L:=K++L) (Ew++Em) (by simpa only [List.cons_append,List.append_assoc,List.nil_append] using h1)
  refine (show St _ _ _ (.row gr ((P16 v0 v1 v2 v3 v4 v5 v6 v7 v8 v9 v10 v11 v12 v13 v14 v15 ⟨rad,rcap,ws,cnt+(ms.length:Int),0,0,⟨#[]⟩⟩ tl).set 16 (.slice wad ys.length wc))::(Ew++(Em++(K++L)))) from ?_)
  simpa only [List.cons_append,List.append_assoc,List.nil_append] using h2

structure En where
  g:Nat
  name:Int
  time:Int
instance:Inhabited En:=⟨⟨0,0,0⟩⟩
def enL (e:En) (i:Nat):List Value:=[.int .i64 e.name, .int .i64 e.time, .int .i64 i]
abbrev enR (e:En) (i:Nat):Ent:=.row e.g (enL e i)
def FQ:Nat→List En→List Ent
  | _,[]=>[]
  | k,e::es=>enR e k::FQ (k+1) es
def ptr (e:En):Value:=.pointer (some ⟨e.g,0,none⟩)
def CU (hs:List En):List Value:=hs.map ptr
theorem HE:∀ (A B:List En) (k:Nat),FQ k (A++B)=FQ k A++FQ (k+A.length) B
  | [],B,k=>by simp [FQ]
  | a::A,B,k=>by
    simp only [List.cons_append,FQ,List.length_cons]
    rw [HE A B (k+1),show k+1+A.length=k+(A.length+1) by omega]
theorem OW:∀ (hs:List En) (k i:Nat) (e:En),hs[i]?=some e→enR e (k+i)∈FQ k hs
  | [],k,i,e,h=>by simp at h
  | a::hs,k,0,e,h=>by
    have:a=e:=by simpa using h
    subst this;exact List.mem_cons_self ..
  | a::hs,k,i+1,e,h=>by
    have:=OW hs (k+1) i e (by simpa using h)
    rw [show k+1+i=k+(i+1) by omega] at this
    exact List.mem_cons_of_mem _ this
def el (hs:List En) (i:Nat):En:=hs.getD i default
theorem T1 {hs:List En}{i:Nat}(h:i<hs.length):hs[i]?=some (el hs i):=by simp [el,h]
theorem SE {hs:List En}{i:Nat}(h:i<hs.length){r:List Value}:(CU hs++r)[i]?=some (ptr (el hs i)):=by
  rw [List.getElem?_append_left (by simpa [CU] using h)]
  unfold CU
  rw [List.getElem?_map,T1 h];rfl
def lt (a b:En):Prop:=a.time<b.time∨(a.time=b.time∧a.name<b.name)
instance (a b:En):Decidable (lt a b):=by unfold lt;infer_instance

theorem Less_c (w:World) (gL n c i j:Nat) (cs:List Value) (a b:En) (pa pb:Nat) (hL:Row w gL cs) (hi:i<n) (hj:j<n) (ci:cs[i]?=some (ptr a)) (cj:cs[j]?=some (ptr b)) (ha:Row w a.g (enL a pa)) (hb:Row w b.g (enL b pb)) :
    Calls Tryz.prog 184 #[.slice (some ⟨gL,0,none⟩) n c, .int .i64 i, .int .i64 j] w fun e w'=>e = .returned (.bool (decide (lt a b)))∧Frm (fun _=>False) w w':=by
  have a0:w.cell? ⟨a.g,0,none⟩=some (.int .i64 a.name):=ha.cell rfl
  have a1:w.cell? ⟨a.g,1,none⟩=some (.int .i64 a.time):=ha.cell rfl
  have b0:w.cell? ⟨b.g,0,none⟩=some (.int .i64 b.name):=hb.cell rfl
  have b1:w.cell? ⟨b.g,1,none⟩=some (.int .i64 b.time):=hb.cell rfl
  have li:w.cell? ⟨gL,0+i*1,none⟩=some (ptr a):=by rw [Nat.zero_add,Nat.mul_one];exact hL.cell ci
  have lj:w.cell? ⟨gL,0+j*1,none⟩=some (ptr b):=by rw [Nat.zero_add,Nat.mul_one];exact hL.cell cj
  refine enter Tryz.func184 rfl Tryz.ntmps184 rfl (St.start (fun _=>False) w) ?_
  refine J7 ?_
  refine cQ mixed ?_
  refine J2 ?_
  refine qV (AB (lo:=i) rfl rfl rfl Tryz.underlying151 EE Er Er) rfl ?_
  refine qV (AA rfl rfl FV (AL (fun h=>h) li)) rfl ?_
  refine J2 ?_
  refine qV (AA rfl rfl AK (AL (fun h=>h) a1)) rfl ?_
  refine J2 ?_
  refine qV (AB (lo:=j) rfl rfl rfl Tryz.underlying151 EE Er Er) rfl ?_
  refine qV (AA rfl rfl FV (AL (fun h=>h) lj)) rfl ?_
  refine J2 ?_
  refine qV (AA rfl rfl AK (AL (fun h=>h) b1)) rfl ?_
  refine JT (fun h21=>?_) (fun h21=>?_)
  refine J4 ?_
  refine cQ mixed ?_
  refine J2 ?_
  refine qV (AB (lo:=i) rfl rfl rfl Tryz.underlying151 EE Er Er) rfl ?_
  refine qV (AA rfl rfl FV (AL (fun h=>h) li)) rfl ?_
  refine J2 ?_
  refine qV (AA rfl rfl AK (AL (fun h=>h) a1)) rfl ?_
  refine J2 ?_
  refine qV (AB (lo:=j) rfl rfl rfl Tryz.underlying151 EE Er Er) rfl ?_
  refine qV (AA rfl rfl FV (AL (fun h=>h) lj)) rfl ?_
  refine J2 ?_
  refine qV (AA rfl rfl AK (AL (fun h=>h) b1)) rfl<|qV (G8 rfl rfl rfl) rfl<|?_
  refine J5 ?_
  refine eT1 ?_
  refine fun w' h=>⟨?_,h.frm⟩
  have e:decide (a.time<b.time)=decide (lt a b):=by congr 1;unfold lt;simp;omega
  rw [e]
  refine J6 ?_
  refine cQ mixed ?_
  refine J2 ?_
  refine qV (AB (lo:=i) rfl rfl rfl Tryz.underlying151 EE Er Er) rfl ?_
  refine qV (AA rfl rfl FV (AL (fun h=>h) li)) rfl ?_
  refine J2 ?_
  refine qV (AA rfl rfl AK (AL (fun h=>h) a0)) rfl ?_
  refine J2 ?_
  refine qV (AB (lo:=j) rfl rfl rfl Tryz.underlying151 EE Er Er) rfl ?_
  refine qV (AA rfl rfl FV (AL (fun h=>h) lj)) rfl ?_
  refine J2 ?_
  refine qV (AA rfl rfl AK (AL (fun h=>h) b0)) rfl<|qV (G8 rfl rfl rfl) rfl<|?_
  refine J4 ?_
  refine eT1 ?_
  refine fun w' h=>⟨?_,h.frm⟩
  have e:decide (a.name<b.name)=decide (lt a b):=by congr 1;unfold lt;simp;omega
  rw [e]
theorem AaA {α:Type}(t:α) (A:List α) (a:α) (B:List α) (b:α) (R:List α):(t::(A++(a::(B++(b::R))))).Perm (t::(A++(b::(B++(a::R))))):=by
  refine List.Perm.cons _ (List.Perm.append_left _ ?_)
  refine (List.Perm.cons a List.perm_middle).trans ?_
  refine (List.Perm.swap b a _).trans ?_
  exact List.Perm.cons b List.perm_middle.symm
theorem Vk {α:Type}(A:List α) (a:α) (B:List α) (b:α) (R:List α) (u v:α){i j:Nat}(hi:i=A.length) (hj:j=A.length+1+B.length):((A++(a::(B++(b::R)))).set i u).set j v=A++(u::(B++(v::R))):=by
  subst hi hj
  rw [List.set_append_right _ _ (Nat.le_refl _),Nat.sub_self,List.set_cons_zero,List.set_append_right _ _ Er,show A.length+1+B.length-A.length=B.length+1 by omega,List.set_cons_succ,List.set_append_right _ _ (Nat.le_refl _),Nat.sub_self,List.set_cons_zero]
theorem Po {α:Type}(A:List α) (a:α) (R:List α){i:Nat}(hi:i=A.length):(A++(a::R))[i]?=some a:=by
  subst hi;rw [List.getElem?_append_right (Nat.le_refl _),Nat.sub_self];rfl
theorem Tz {α:Type}(A:List α) (a:α) (B:List α) (b:α) (R:List α){j:Nat}(hj:j=A.length+1+B.length):(A++(a::(B++(b::R))))[j]?=some b:=by
  subst hj;rw [List.getElem?_append_right Er,show A.length+1+B.length-A.length=B.length+1 by omega,List.getElem?_cons_succ,List.getElem?_append_right (Nat.le_refl _),Nat.sub_self];rfl
theorem OA (A:List En) (x:En) (B:List En) (y:En) (C:List En) (r:List Value):CU (A++(x::(B++(y::C))))++r=CU A++(ptr x::(CU B++(ptr y::(CU C++r)))):=by
  unfold CU;simp
theorem S3 (A:List En) (x:En) (B:List En) (y:En) (C:List En) (L:List Ent):FQ 0 (A++(x::(B++(y::C))))++L=FQ 0 A++(enR x A.length::(FQ (A.length+1) B++(enR y (A.length+1+B.length)::(FQ (A.length+1+B.length+1) C++L)))):=by
  rw [HE]
  simp only [FQ,HE,Nat.zero_add,List.append_assoc,List.cons_append]
set_option maxHeartbeats 1000000 in
theorem Swap_f (p:Nat→Prop) (w0 w:World) (R:List Ent) (gL n c:Nat) (A:List En) (x:En) (B:List En) (y:En) (C:List En) (r:List Value) (hn:n=A.length+1+B.length+1+C.length)
    (hS:St p w0 w (.row gL (CU A++(ptr x::(CU B++(ptr y::(CU C++r)))))::(FQ 0 A++(enR x A.length::(FQ (A.length+1) B++(enR y (A.length+1+B.length)::R)))))) :
    Calls Tryz.prog 185 #[.slice (some ⟨gL,0,none⟩) n c, .int .i64 A.length, .int .i64 ((A.length+1+B.length:Nat):Int)] w fun e w'=>e = .returned (.tuple #[]) ∧
      St p w0 w' (.row gL (CU A++(ptr y::(CU B++(ptr x::(CU C++r)))))::(FQ 0 A++(enR y A.length::(FQ (A.length+1) B++(enR x (A.length+1+B.length)::R))))):=by
  have hA:(CU A).length=A.length:=by simp [CU]
  have hB:(CU B).length=B.length:=by simp [CU]
  have hC:(CU C).length=C.length:=by simp [CU]
  refine enter Tryz.func185 rfl Tryz.ntmps185 rfl hS ?_
  refine J1 ?_
  refine WC.BB mixed<|rF 6 [0,1,2,3,4,5,6,8,9,10]<|?_
  refine J6 ?_
  refine pV (AB (lo:=A.length+1+B.length) rfl rfl rfl Tryz.underlying151 EE Er Er) rfl ?_
  refine J2 ?_
  refine pV (AB (lo:=A.length) rfl rfl rfl Tryz.underlying151 EE Er Er) rfl ?_
  refine J1 ?_
  refine rA 3 [7,11,12] rfl ?_
  refine qV (AA rfl rfl FV (cellAt (Tz _ _ _ _ _ Er))) rfl ?_
  refine qV (AA rfl rfl FV (cellAt (Po _ _ _ Er))) rfl ?_
  refine qV (AB (lo:=A.length) rfl rfl rfl Tryz.underlying151 EE Er Er) rfl ?_
  refine J1 ?_
  refine rO 2 [13] ?_
  refine WL.DA rfl rfl rfl rfl FV (by simp [hA,hB,hC] <;> omega) (.none rfl) rfl ?_
  refine J1 ?_
  refine rF 1 [14] ?_
  refine pV (AB (lo:=A.length+1+B.length) rfl rfl rfl Tryz.underlying151 EE Er Er) rfl ?_
  refine J1 ?_
  refine rO 0 [15] ?_
  refine WL.DA rfl rfl rfl rfl FV (by simp [hA,hB,hC] <;> omega) (.none rfl) rfl ?_
  refine WL.as (L':=.row gL (CU A++(ptr y::(CU B++(ptr x::(CU C++r)))))::(FQ 0 A++(enR x A.length::(FQ (A.length+1) B++(enR y (A.length+1+B.length)::R))))) (by rw [Vk _ _ _ _ _ _ _ (by omega) (by omega)]) ?_
  refine J7 ?_
  refine zV (AB (lo:=A.length) rfl rfl rfl Tryz.underlying151 EE Er Er) rfl ?_
  refine zV (AA rfl rfl FV (cellAt (Po _ _ _ Er))) rfl ?_
  refine J9 ?_
  refine zV (AB (lo:=A.length+1+B.length) rfl rfl rfl Tryz.underlying151 EE Er Er) rfl ?_
  refine zV (AA rfl rfl FV (cellAt (Tz _ _ _ _ _ Er))) rfl ?_
  refine J5 ?_
  refine WE.KX (P:=Tryz.prog) (.inr rfl) Tryz.results185  ?_
  exact fun w' h=>⟨rfl,h.perm (AaA _ _ _ _ _ _).symm⟩
end Gq

theorem lt_asymm {a b:En}(h:lt a b):¬ lt b a:=by unfold lt at *;omega
theorem Ki {a b c:En}(h1:¬ lt a b) (h2:¬ lt b c):¬ lt a c:=by unfold lt at *;omega
theorem nlt_of {a b c:En}(h1:¬ lt a b) (h2:lt c b):¬ lt a c:=by unfold lt at *;omega

def swp (hs:List En) (i j:Nat):List En:=(hs.set i (el hs j)).set j (el hs i)
theorem KA (hs:List En) (i j:Nat):(swp hs i j).length=hs.length:=by simp [swp]
theorem I6 {hs:List En}{i j k:Nat}(hi:i<hs.length) (hj:j<hs.length):el (swp hs i j) k=if k=j then el hs i else if k=i then el hs j else el hs k:=by
  unfold swp
  show ((hs.set i (el hs j)).set j (el hs i)).getD k default=_
  rw [List.getD_eq_getElem?_getD,List.getElem?_set]
  by_cases h1:j=k
  · subst h1;simp [hj]
  · rw [if_neg h1,if_neg (fun e=>h1 e.symm),List.getElem?_set]
    by_cases h2:i=k
    · subst h2;simp [hi]
    · rw [if_neg h2,if_neg (fun e=>h2 e.symm)];simp [el]
theorem Y3 {hs:List En}{i j:Nat}(h:i<j) (hj:j<hs.length):∃ A B C,hs=A++(el hs i::(B++(el hs j::C)))∧i=A.length∧j=A.length+1+B.length∧hs.length=A.length+1+B.length+1+C.length:=by
  have e1:=List.drop_eq_getElem_cons (show i<hs.length by omega)
  have e2:=List.drop_eq_getElem_cons hj
  have h1:hs[i]=el hs i:=by simp [el,show i<hs.length by omega]
  have h2:hs[j]=el hs j:=by simp [el,hj]
  refine ⟨hs.take i,(hs.drop (i+1)).take (j-(i+1)),hs.drop (j+1),?_,by simp;omega,by simp;omega,by simp;omega⟩
  rw [← h2, ← e2]
  have:(hs.drop (i+1)).take (j-(i+1))++hs.drop j=hs.drop (i+1):=by
    have e3:hs.drop j=(hs.drop (i+1)).drop (j-(i+1)):=by rw [List.drop_drop,show i+1+(j-(i+1))=j by omega]
    rw [e3,List.take_append_drop]
  rw [this, ← h1, ← e1,List.take_append_drop]
theorem Wj {hs:List En}{i j:Nat}{A B C:List En}(h:hs=A++(el hs i::(B++(el hs j::C)))) (hi:i=A.length) (hj:j=A.length+1+B.length):swp hs i j=A++(el hs j::(B++(el hs i::C))):=by
  have key:∀ (x y:En),((A++(x::(B++(y::C)))).set i y).set j x=A++(y::(B++(x::C))):=fun x y=>Vk _ _ _ _ _ _ _ hi hj
  unfold swp
  have:=key (el hs i) (el hs j)
  rw [← h] at this
  exact this
theorem Ld {hs:List En}{i j:Nat}(h:i<j) (hj:j<hs.length):(swp hs i j).Perm hs:=by
  obtain ⟨A,B,C,h1,h2,h3,_⟩:=Y3 h hj
  rw [Wj h1 h2 h3]
  conv=>rhs;rw [h1]
  refine List.Perm.append_left _ ?_
  refine (List.Perm.cons _ List.perm_middle).trans ?_
  refine (List.Perm.swap _ _ _).trans ?_
  exact List.Perm.cons _ List.perm_middle.symm

def hsL (gC gL:Nat) (now:Int) (rm:Option Nat) (c:Nat) (hs:List En) (r:List Value) (R:List Ent):List Ent :=
  .row gL (CU hs++r)::(FQ 0 hs++(.row gC [.int .i64 now, .slice (some ⟨gL,0,none⟩) hs.length c, .map rm]::R))
def lnV (gL:Nat) (hs:List En) (c:Nat):Value:=.slice (some ⟨gL,0,none⟩) hs.length c
section
variable {p:Nat→Prop}{w0 w:World}{gC gL:Nat}{now:Int}{rm:Option Nat}{c:Nat}{hs:List En}{r:List Value}{R:List Ent}
theorem Z3 {i:Nat}(hi:i<hs.length) (hS:St p w0 w (hsL gC gL now rm c hs r R)):Row w (el hs i).g (enL (el hs i) i):=by
  have h:=OW hs 0 i _ (T1 hi)
  rw [Nat.zero_add] at h
  exact hS.holds (enR (el hs i) i) (List.mem_cons_of_mem _ (List.mem_append_left _ h))
theorem Acw (hS:St p w0 w (hsL gC gL now rm c hs r R)):Row w gL (CU hs++r):=hS.holds (.row gL (CU hs++r)) (List.mem_cons_self ..)
theorem O4 {i j:Nat}(hi:i<hs.length) (hj:j<hs.length) (hS:St p w0 w (hsL gC gL now rm c hs r R)) :
    Calls Tryz.prog 184 #[lnV gL hs c, .int .i64 i, .int .i64 j] w fun e w'=>e = .returned (.bool (decide (lt (el hs i) (el hs j))))∧Frm (fun _=>False) w w' :=
  Less_c w gL _ c i j (CU hs++r) _ _ i j (Acw hS) hi hj (SE hi) (SE hj) (Z3 hi hS) (Z3 hj hS)
theorem NG {i j:Nat}(h:i<j) (hj:j<hs.length) (hS:St p w0 w (hsL gC gL now rm c hs r R)) :
    Calls Tryz.prog 185 #[lnV gL hs c, .int .i64 i, .int .i64 j] w fun e w'=>e = .returned (.tuple #[])∧St p w0 w' (hsL gC gL now rm c (swp hs i j) r R):=by
  obtain ⟨A,B,C,h1,h2,h3,h4⟩:=Y3 h hj
  have hl:=KA hs i j
  have e0:=Wj h1 h2 h3
  unfold hsL at hS ⊢
  rw [hl]
  have key:∀ (x y:En) (X:List Value) (r:List Value) (L:List Ent),CU (A++(x::(B++(y::C))))++r=CU A++(ptr x::(CU B++(ptr y::(CU C++r)))):=fun x y _ r _=>OA A x B y C r
  have hS':St p w0 w (.row gL (CU A++(ptr (el hs i)::(CU B++(ptr (el hs j)::(CU C++r)))))::(FQ 0 A++(enR (el hs i) A.length::(FQ (A.length+1) B++(enR (el hs j) (A.length+1+B.length)::(FQ (A.length+1+B.length+1) C++(.row gC [.int .i64 now, .slice (some ⟨gL,0,none⟩) hs.length c, .map rm]::R))))))):=by
    rw [← OA, ← S3, ← h1];exact hS
  rw [e0,OA,S3]
  unfold lnV
  subst h2 h3
  exact Swap_f p w0 w _ gL _ c A _ B _ C r h4 hS'
end

/-! ### Methods -/
abbrev lnT:Nat:=157
section
variable {p:Nat→Prop}{w0:World}{L:List Ent}{g k:Nat}{cs:List Value}{v:Value} [At L g cs]
theorem SO (h:cs[k]?=some v):Yt Tryz.prog (fun w=>St p w0 w L) lnT (.pointer (some ⟨g,k,none⟩)) "Len" 183 v:=fun w hS =>
  OL Es Tryz.underlying157 (Ml Oq (hS.cell h))
theorem OJ (h:cs[k]?=some v):Yt Tryz.prog (fun w=>St p w0 w L) lnT (.pointer (some ⟨g,k,none⟩)) "Less" 184 v:=fun w hS =>
  OL Es Tryz.underlying157 (Ml Oq (hS.cell h))
theorem Mh (h:cs[k]?=some v):Yt Tryz.prog (fun w=>St p w0 w L) lnT (.pointer (some ⟨g,k,none⟩)) "Swap" 185 v:=fun w hS =>
  OL Es Tryz.underlying157 (Ml Oq (hS.cell h))
end
theorem m_Push {C:World→Prop}{u:Value}:Yt Tryz.prog C lnT u "Push" 187 u:=fun _ _=>Tv Es Tryz.underlying157
theorem Sg {C:World→Prop}{u:Value}:Yt Tryz.prog C lnT u "Pop" 186 u:=fun _ _=>Tv Es Tryz.underlying157
section Gq
attribute [local irreducible] WL WC WE WQ WP WH WR WM WRH

theorem SX (w:World) (a:Option Addr) (n c:Nat) :
    Calls Tryz.prog 183 #[.slice a n c] w fun e w'=>e = .returned (.int .i64 n)∧Frm (fun _=>False) w w':=by
  refine enter Tryz.func183 rfl Tryz.ntmps183 rfl (St.start (fun _=>False) w) ?_
  refine J13 ?_
  exact A9
def GI (m:Nat) (hs:List En):Prop:=∀ k,0<k→k<m→¬ lt (el hs k) (el hs ((k-1) / 2))
structure Oh (m:Nat) (hs:List En) (j:Nat):Prop where
  ok:∀ k,0<k→k<m→k≠j→¬ lt (el hs k) (el hs ((k-1) / 2))
  kid:∀ k,0<k→k<m→(k-1) / 2=j→0<j→¬ lt (el hs k) (el hs ((j-1) / 2))
structure Og (m:Nat) (hs:List En) (i:Nat):Prop where
  ok:∀ k,0<k→k<m→(k-1) / 2≠i→k≠i→¬ lt (el hs k) (el hs ((k-1) / 2))
  kid:∀ k,0<k→k<m→(k-1) / 2=i→0<i→¬ lt (el hs k) (el hs ((i-1) / 2))
structure Rc (m i0:Nat) (hs0 hs:List En) (i:Nat):Prop where
  le:i0≤i
  ok:∀ k,0<k→k<m→(k-1) / 2≠i→(k≠i0∨i0<i)→¬ lt (el hs k) (el hs ((k-1) / 2))
  kid:∀ k,0<k→k<m→(k-1) / 2=i→0<i→¬ lt (el hs k) (el hs ((i-1) / 2))
  same:i=i0→hs=hs0
  perm:hs.Perm hs0
  rest:∀ k,m≤k→el hs k=el hs0 k
theorem Rc.start {m i:Nat}{hs:List En}(h:Og m hs i):Rc m i hs hs i :=
  ⟨Nat.le_refl _,fun k h0 h1 h2 h3=>h.ok k h0 h1 h2 Er,h.kid,fun _=>rfl,List.Perm.refl _,fun _ _=>rfl⟩
theorem Rc.step {m i0:Nat}{hs0 hs:List En}{i j:Nat}(h:Rc m i0 hs0 hs i) (hj:j=2*i+1∨j=2*i+2) (hjm:j<m) (hm:m≤hs.length) (hlt:lt (el hs j) (el hs i))
    (hbest:∀ k,k<m→(k=2*i+1∨k=2*i+2)→¬ lt (el hs k) (el hs j)):Rc m i0 hs0 (swp hs i j) j:=by
  have hle:=h.le
  have hi':i<hs.length:=Er
  have hj':j<hs.length:=Er
  have hij:i<j:=Er
  have hpj:(j-1) / 2=i:=Er
  have ei:el (swp hs i j) i=el hs j:=by rw [I6 hi' hj',if_neg Er,if_pos rfl]
  have ej:el (swp hs i j) j=el hs i:=by rw [I6 hi' hj',if_pos rfl]
  have eo:∀ k,k≠i→k≠j→el (swp hs i j) k=el hs k:=fun k h1 h2=>by rw [I6 hi' hj',if_neg h2,if_neg h1]
  refine ⟨by omega,?_,?_,fun e=>by omega,(Ld hij hj').trans h.perm,fun k hk=>by rw [eo k Er Er];exact h.rest k hk⟩
  · intro k h0 h1 h2 h3
    by_cases c1:k=j
    · subst c1;rw [ej,hpj,ei];exact lt_asymm hlt
    · by_cases c2:(k-1) / 2=i
      · rw [eo k Er c1,c2,ei]
        exact hbest k h1 Er
      · by_cases c3:k=i
        · subst c3
          rw [ei,eo _ Er Er]
          exact h.kid j Er hjm hpj h0
        · rw [eo k c3 c1,eo _ c2 h2]
          exact h.ok k h0 h1 c2 Er
  · intro k h0 h1 h2 h3
    rw [hpj,ei,eo k Er Er, ← h2]
    exact h.ok k h0 h1 Er Er
theorem Rc.fin {m i0:Nat}{hs0 hs:List En}{i:Nat}(h:Rc m i0 hs0 hs i) (hk:∀ k,k<m→(k=2*i+1∨k=2*i+2)→¬ lt (el hs k) (el hs i)):(i0<i→GI m hs)∧(¬ i0<i→hs=hs0∧Oh m hs0 i0):=by
  have hle:=h.le
  constructor
  · intro hlt k h0 h1
    by_cases c:(k-1) / 2=i
    · rw [c];exact hk k h1 Er
    · exact h.ok k h0 h1 c Er
  · intro hn
    obtain rfl:i=i0:=by omega
    have e:=h.same rfl
    subst e
    refine ⟨rfl,fun k h0 h1 h2=>?_,h.kid⟩
    by_cases c:(k-1) / 2=i
    · rw [c];exact hk k h1 Er
    · exact h.ok k h0 h1 c (.inl h2)
theorem Oh.step {m:Nat}{hs:List En}{j:Nat}(h:Oh m hs j) (h0:0<j) (hjm:j<m) (hm:m≤hs.length) (hlt:lt (el hs j) (el hs ((j-1) / 2))):Oh m (swp hs ((j-1) / 2) j) ((j-1) / 2):=by
  generalize hi:(j-1) / 2=i at *
  have hij:i<j:=Er
  have hi':i<hs.length:=Er
  have hj':j<hs.length:=Er
  have ei:el (swp hs i j) i=el hs j:=by rw [I6 hi' hj',if_neg Er,if_pos rfl]
  have ej:el (swp hs i j) j=el hs i:=by rw [I6 hi' hj',if_pos rfl]
  have eo:∀ k,k≠i→k≠j→el (swp hs i j) k=el hs k:=fun k h1 h2=>by rw [I6 hi' hj',if_neg h2,if_neg h1]
  constructor
  · intro k k0 k1 k2
    by_cases c1:k=j
    · subst c1;rw [ej,hi,ei];exact lt_asymm hlt
    · by_cases c2:(k-1) / 2=j
      · rw [eo k k2 c1,c2,ej]
        have:=h.kid k k0 k1 c2 h0
        rwa [hi] at this
      · by_cases c3:(k-1) / 2=i
        · rw [eo k k2 c1,c3,ei]
          have:=h.ok k k0 k1 c1
          rw [c3] at this
          exact nlt_of this hlt
        · rw [eo k k2 c1,eo _ c3 c2]
          exact h.ok k k0 k1 c1
  · intro k k0 k1 k2 k3
    rw [eo ((i-1) / 2) Er Er]
    have hp:=h.ok i k3 Er Er
    by_cases c1:k=j
    · subst c1;rw [ej];exact hp
    · rw [eo k Er c1]
      have:=h.ok k k0 k1 c1
      rw [k2] at this
      exact Ki this hp
theorem Oh.fin {m:Nat}{hs:List En}{j:Nat}(h:Oh m hs j) (hj:j=0∨¬ lt (el hs j) (el hs ((j-1) / 2))):GI m hs:=fun k h0 h1=>by
  by_cases c:k=j
  · subst c;exact hj.resolve_left Er
  · exact h.ok k h0 h1 c

section
variable {p:Nat→Prop}{w0 w:World}{gC gL:Nat}{now:Int}{rm:Option Nat}{c:Nat}{hs:List En}{r:List Value}{R:List Ent}
instance:At (hsL gC gL now rm c hs r R) gC [.int .i64 now, .slice (some ⟨gL,0,none⟩) hs.length c, .map rm]:=⟨List.mem_cons_of_mem _ (List.mem_append_right _ (List.mem_cons_self ..))⟩
def lnI (gC:Nat):Value:=.iface lnT (.pointer (some ⟨gC,1,none⟩))
set_option maxHeartbeats 1000000 in
theorem Q3 {i0 m:Nat}(hS:St p w0 w (hsL gC gL now rm c hs r R)) (hm:m≤hs.length) (hi0:i0≤300) (hl:hs.length≤300) (hD:Og m hs i0) :
    Calls Tryz.prog 105 #[lnI gC, .int .i64 i0, .int .i64 m] w fun e w'=>∃ hs' b,e = .returned (.bool b)∧hs'.length=hs.length∧hs'.Perm hs∧(∀ k,m≤k→el hs' k=el hs k)∧(b=true→GI m hs')∧(b=false→hs'=hs∧Oh m hs i0)∧St p w0 w' (hsL gC gL now rm c hs' r R):=by
  refine enter Tryz.func105 rfl Tryz.ntmps105 rfl hS ?_
  refine J13 ?_
  refine WC.loop (fun x:List En×Nat=>[(0,lnI gC),(1, .int .i64 i0),(2, .int .i64 m),(7, .int .i64 x.2)]) (fun x=>hsL gC gL now rm c x.1 r R) (fun x=>Rc m i0 hs x.1 x.2∧x.1.length=hs.length∧x.2≤300) (fun x=>300-x.2) (hs,i0) ⟨Rc.start hD,rfl,hi0⟩ Km (.refl _) ?_
  rintro ⟨h2,i⟩ ⟨hI,hlen,hi⟩
  dsimp only at hI hlen hi
  dsimp only
  refine J4 ?_
  refine zV (FY rfl rfl rfl (AF Er Er)) rfl ?_
  refine J9 ?_
  refine JT (fun h17=>?_) (fun h17=>?_)
  refine J9 ?_
  refine WE.Hi rfl ?_
  refine J7 ?_
  refine zV (HY rfl rfl rfl) rfl ?_
  refine J4 ?_
  refine eT1 ?_
  have hf:=hI.fin (fun k hk hk2=>absurd hk Er)
  exact Bn
  refine J2 ?_
  refine zS ((G8 rfl rfl rfl).f Er) rfl ?_
  refine J24 ?_
  refine JT (fun h27=>?_) (fun h27=>?_)
  refine J4 ?_
  refine WL.invoke rfl rfl rfl (OJ (g:=gC) rfl) OF (.some rfl rfl rfl) rfl rfl ?_
  intro w hS
  refine Calls.then (O4 (i:=2*i+1+1) (j:=2*i+1) Er Er hS) hS ?_
  refine J3 ?_
  refine WC.Lp rfl (fun h33=>?_) (fun h33=>?_)
  refine J11 ?_
  refine WL.invoke rfl rfl rfl (OJ (g:=gC) rfl) OF (.none rfl) rfl rfl ?_
  intro w hS
  refine Calls.then (O4 (i:=2*i+1+1) (j:=i) Er Er hS) hS ?_
  refine zV (Rb rfl rfl) rfl ?_
  refine J2 ?_
  refine WC.Lp rfl (fun h39=>?_) (fun h39=>?_)
  refine J2 ?_
  refine WE.Hi rfl ?_
  refine J7 ?_
  refine zV (HY rfl rfl rfl) rfl ?_
  refine J4 ?_
  refine eT1 ?_
  have hf:=hI.fin (fun k hk hk2=>by rcases hk2 with rfl|rfl;exact Ki (lt_asymm h33) h39;exact h39)
  exact Bn
  refine J7 ?_
  refine WL.invoke rfl rfl rfl (Mh (g:=gC) rfl) Ma (.none rfl) rfl rfl ?_
  intro w hS
  refine Calls.thenS (NG (i:=i) (j:=2*i+1+1) Er Er hS) ?_
  refine J7 ?_
  exact eW (swp h2 i (2*i+1+1),2*i+1+1) Eu ⟨hI.step Er Er Er (Classical.not_not.1 h39) (fun k hk hk2=>by rcases hk2 with rfl|rfl;exact lt_asymm h33;exact fun h=>lt_asymm h h),by rw [KA];exact hlen,by dsimp only;omega⟩
  refine J8 ?_
  refine WL.invoke rfl rfl rfl (OJ (g:=gC) rfl) OF (.none rfl) rfl rfl ?_
  intro w hS
  refine Calls.then (O4 (i:=2*i+1) (j:=i) Er Er hS) hS ?_
  refine zV (Rb rfl rfl) rfl ?_
  refine J2 ?_
  refine WC.Lp rfl (fun h39=>?_) (fun h39=>?_)
  refine J2 ?_
  refine WE.Hi rfl ?_
  refine J7 ?_
  refine zV (HY rfl rfl rfl) rfl ?_
  refine J4 ?_
  refine eT1 ?_
  have hf:=hI.fin (fun k hk hk2=>by rcases hk2 with rfl|rfl;exact h39;exact Ki h33 h39)
  exact Bn
  refine J7 ?_
  refine WL.invoke rfl rfl rfl (Mh (g:=gC) rfl) Ma (.none rfl) rfl rfl ?_
  intro w hS
  refine Calls.thenS (NG (i:=i) (j:=2*i+1) Er Er hS) ?_
  refine J7 ?_
  exact eW (swp h2 i (2*i+1),2*i+1) Eu ⟨hI.step Er Er Er (Classical.not_not.1 h39) (fun k hk hk2=>by rcases hk2 with rfl|rfl;exact fun h=>lt_asymm h h;exact h33),by rw [KA];exact hlen,by dsimp only;omega⟩
  refine J17 ?_
  refine WL.invoke rfl rfl rfl (OJ (g:=gC) rfl) OF (.none rfl) rfl rfl ?_
  intro w hS
  refine Calls.then (O4 (i:=2*i+1) (j:=i) Er Er hS) hS ?_
  refine zV (Rb rfl rfl) rfl ?_
  refine J2 ?_
  refine WC.Lp rfl (fun h39=>?_) (fun h39=>?_)
  refine J2 ?_
  refine WE.Hi rfl ?_
  refine J7 ?_
  refine zV (HY rfl rfl rfl) rfl ?_
  refine J4 ?_
  refine eT1 ?_
  have hf:=hI.fin (fun k hk hk2=>by rcases hk2 with rfl|rfl;exact h39;exact absurd hk Er)
  exact Bn
  refine J7 ?_
  refine WL.invoke rfl rfl rfl (Mh (g:=gC) rfl) Ma (.none rfl) rfl rfl ?_
  intro w hS
  refine Calls.thenS (NG (i:=i) (j:=2*i+1) Er Er hS) ?_
  refine J7 ?_
  exact eW (swp h2 i (2*i+1),2*i+1) Eu ⟨hI.step Er Er Er (Classical.not_not.1 h39) (fun k hk hk2=>by rcases hk2 with rfl|rfl;exact fun h=>lt_asymm h h;exact absurd hk Er),by rw [KA];exact hlen,by dsimp only;omega⟩
theorem quo_up (j:Nat) (h:j≤300):IntKind.i64.wrap (((j:Int)-1).tdiv 2)=(((j-1) / 2:Nat):Int):=by
  cases j with
  | zero=>rfl
  | succ j =>
    have e:(((j+1:Nat):Int)-1).tdiv 2=((j / 2:Nat):Int):=by
      rw [show ((j+1:Nat):Int)-1=(j:Int) by omega,Int.tdiv_eq_ediv_of_nonneg Er];omega
    rw [e,show j+1-1=j by omega]
    exact AF Er Er
set_option maxHeartbeats 1000000 in
theorem up_c {j0 m:Nat}(hS:St p w0 w (hsL gC gL now rm c hs r R)) (hm:m≤hs.length) (hj0:j0<m) (hl:hs.length≤300) (hU:Oh m hs j0) :
    Calls Tryz.prog 106 #[lnI gC, .int .i64 j0] w fun e w'=>∃ hs',e = .returned (.tuple #[])∧hs'.length=hs.length∧hs'.Perm hs∧(∀ k,m≤k→el hs' k=el hs k)∧GI m hs'∧St p w0 w' (hsL gC gL now rm c hs' r R):=by
  refine enter Tryz.func106 rfl Tryz.ntmps106 rfl hS ?_
  refine J1 ?_
  refine WC.loop (fun x:List En×Nat=>[(0,lnI gC),(1, .int .i64 x.2)]) (fun x=>hsL gC gL now rm c x.1 r R) (fun x=>Oh m x.1 x.2∧x.1.length=hs.length∧x.2<m∧x.1.Perm hs∧∀ k,m≤k→el x.1 k=el hs k) (fun x=>x.2) (hs,j0) ⟨hU,rfl,hj0,List.Perm.refl _,fun _ _=>rfl⟩ Km (.refl _) ?_
  rintro ⟨h2,j⟩ ⟨hI,hlen,hj,hp,hrest⟩
  dsimp only at hI hlen hj hp hrest
  dsimp only
  refine J5 ?_
  refine zV (Jb rfl rfl rfl Fl (quo_up j Er)) rfl ?_
  refine J8 ?_
  refine JT (fun h10=>?_) (fun h10=>?_)
  refine J12 ?_
  refine WE.Hi rfl ?_
  refine J2 ?_
  refine WE.KX (P:=Tryz.prog) (.inr rfl) Tryz.results106  ?_
  exact fun w' h=>⟨h2,rfl,hlen,hp,hrest,hI.fin (.inl Er),h⟩
  refine J4 ?_
  refine WL.invoke rfl rfl rfl (OJ (g:=gC) rfl) OF (.some rfl rfl rfl) rfl rfl ?_
  intro w hS
  refine Calls.then (O4 (i:=j) (j:=(j-1) / 2) Er Er hS) hS ?_
  refine zS (Rb rfl rfl) rfl ?_
  refine J3 ?_
  refine WC.Lp rfl (fun h17=>?_) (fun h17=>?_)
  refine J2 ?_
  refine WE.Hi rfl ?_
  refine J2 ?_
  refine WE.KX (P:=Tryz.prog) (.inr rfl) Tryz.results106  ?_
  exact fun w' h=>⟨h2,rfl,hlen,hp,hrest,hI.fin (.inr h17),h⟩
  refine J7 ?_
  refine WL.invoke rfl rfl rfl (Mh (g:=gC) rfl) Ma (.none rfl) rfl rfl ?_
  intro w hS
  refine Calls.thenS (NG (i:=(j-1) / 2) (j:=j) Er Er hS) ?_
  refine J7 ?_
  exact eW (swp h2 ((j-1) / 2) j,(j-1) / 2) Eu ⟨hI.step Er hj Er (Classical.not_not.1 h17),by rw [KA];exact hlen,by dsimp only;omega,(Ld Er Er).trans hp,fun k hk=>by dsimp only;rw [I6 Er Er,if_neg Er,if_neg Er];exact hrest k hk⟩
end
end Gq
end Go.Proofs.YtcmpamnhegndnaaGreatDoor
