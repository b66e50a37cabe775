/- Texts joined: engine, contracts and laws, in the order in which they build. -/
import Derived.Test.YtcmpamnhegndnaaGreatDoorBqPeerRuns
namespace Go.Proofs.YtcmpamnhegndnaaGreatDoor
open Go.RowKit
section Gq
attribute [local irreducible] WL WC WE WQ WP WH WR WM WRH

section
variable {P:Program}{n:Nat}{l:Kn}{o:Oper}
def loG (ad:Option Addr) (lo cap s:Nat):Option Addr:=if cap=lo then ad else ad.map (·.add (lo*s))
theorem NX {C:World→Prop}{t e len cap lo s:Nat}{k:IntKind}{A:Int}{ad:Option Addr}{x xl:Operand}(ho:o.op = .slice t x (some xl) none none) (hx:ev l x=some (.slice ad len cap)) (hl:ev l xl=some (.int k A)) (hu:P.underlying t=some (.slice e)) (hs:(P.info? e).map (·.size)=some s) (hA:A=(lo:Int)) (hle:lo≤len) :
    Val P C n l o (.slice (loG ad lo cap s) (len-lo) (cap-lo)):=fun a w ha _=>by
  have h1:=ha.ev hx;have h2:=ha.ev hl
  subst hA
  have hi:(0:Int)≤lo∧(lo:Int)≤len:=Er
  unfold execOp
  simp [ho,h1,h2,Instr.sliceAt,run_underlying hu,Instr.slice,Instr.sliceBounds,Instr.sliceBound,asIntOf,hle,run_sizeOf hs,loG]
end
theorem US {w:World}{ad:Option Addr}{xs:List Int}(h:AU w ad (u8s xs)) (n:Nat):AU w ad (u8s (xs.take n)):=fun h0=>by
  rw [GO,List.length_take] at h0
  obtain ⟨b,o,e,hr⟩:=h Fh
  refine ⟨b,o,e,Q9 (ys:=u8s (xs.drop n)) ?_⟩
  rw [← CH,List.take_append_drop]
  exact hr
theorem TL {w:World}{ad:Option Addr}{xs:List Int}{c:Nat}(h:AU w ad (u8s xs)) (n:Nat) (hc:xs.length≤c) (hB:Bys xs):AU w (loG ad n c 1) (u8s (xs.drop n)):=fun h0=>by
  rw [GO,List.length_drop] at h0
  obtain ⟨b,o,rfl,hr⟩:=h Fh
  have hW:=(Win.mk hr hB hc).drop n
  refine ⟨b,AV o n c 1,?_,hW.at_⟩
  unfold loG AV
  rw [if_neg Er,if_neg Er,Option.map_some,It]
theorem YC {w:World}{b o:Nat}{xs:List Int}(h:w.rangeAt b o (u8s xs)) (n:Nat):w.rangeAt b o (u8s (xs.take n)):=by
  refine Q9 (ys:=u8s (xs.drop n)) ?_
  rw [← CH,List.take_append_drop]
  exact h
theorem AaI {w:World}{b o c:Nat}{xs:List Int}(h:w.rangeAt b o (u8s xs)) (hB:Bys xs) (hc:xs.length≤c) (n:Nat):w.rangeAt b (AV o n c 1) (u8s (xs.drop n)):=((Win.mk h hB hc).drop n).at_
theorem AaP {b o n c:Nat}(h:n<c):loG (some ⟨b,o,none⟩) n c 1=some ⟨b,AV o n c 1,none⟩:=by
  unfold loG AV
  rw [if_neg Er,if_neg Er,Option.map_some,It]
theorem View.mono {E E':List Ent}{a:Option Addr}{c:Nat}{ys:List Int}(h:View E a c ys) (hE:∀ e∈E,e∈E'):View E' a c ys:=⟨h.le,h.bys,h.at_.imp id fun ⟨b,o,e,hw⟩=>⟨b,o,e,fun w hw'=>hw w fun e he=>hw' e (hE e he)⟩⟩
theorem View.no (E:List Ent):View E none 0 []:=⟨Nat.le_refl _,Bys.nil, .inl ⟨rfl,rfl,rfl⟩⟩
def II (ER:List Ent) (R:List Value) (n:Nat) (xs:List Int):Prop:=∃ a c,R[n]?=some (.slice a xs.length c)∧View ER a c xs
def GR (ER:List Ent) (R:List Value) (s t:Se) (K:Int) (n:Nat):Prop:=(∃ a l c,R[n]?=some (.slice a l c))∧((s.c n).st≠0→(t.c n).st≠0→II ER R n (t.c n).wait)∧((s.c n).st=0→(t.c n).wait=[]∧(K=4∨K=5→(t.c n).st=0))
theorem LC {N:Int}{t:Se}(hF:t.IJ N){n:Nat}(hn:n<2) (h:(t.c n).st=0):(t.c n).wait=[]:=by rw [(hF.wf.c n hn).2.1 h];rfl
theorem Ow {ER:List Ent}{R:List Value}{n:Nat}{xs:List Int}(h:II ER R n xs):∃ a l c,R[n]?=some (.slice a l c):=h.elim fun a h=>h.elim fun c h=>⟨a,_,c,h.1⟩
theorem GR.LV {ER:List Ent}{R:List Value}{s t:Se}{K N M:Int}(_hs:s.IJ N) (ht:t.IJ M) (hW:Wq s t) (n:Nat) (hn:n<2) (hR:II ER R n (s.c n).wait):GR ER R s t K n:=by
  refine ⟨Ow hR,fun _ h=>by rw [(hW n hn h).1];exact hR,fun h0=>?_⟩
  have h1:(t.c n).st=0:=Decidable.byContradiction fun h=>(hW n hn h).2 h0
  exact ⟨LC ht hn h1,fun _=>h1⟩
theorem GR.of_up {ER:List Ent}{R:List Value}{s t:Se}{K N:Int}{n:Nat}(hs:s.IJ N) (hW:(t.c n).wait=(s.c n).wait) (hK:K=2) (hn:n<2) (hR:II ER R n (s.c n).wait):GR ER R s t K n :=
  ⟨Ow hR,fun _ _=>by rw [hW];exact hR,fun h0=>⟨by rw [hW];exact LC hs hn h0,fun h=>by omega⟩⟩
theorem VW (s:Se){n:Nat}(hn:n<2):([.int .i64 s.c0.st, .int .i64 s.c1.st]:List Value)[n]?=some (.int .i64 (s.c n).st):=by
  match n,hn with
  | 0,_|1,_=>rfl
def idF (t:Se):Nat→Int
  | 0=>0
  | k+1=>if (t.c k).st=5 then (t.c k).id else idF t k
theorem XK {g:Nat}{p:PeL}{t:Se}{E0 E1:List Ent}{d:Ck}(hA:BO g p t E0 E1 d) (hJ:Jt t):Mn p=idF t 2:=by
  have h0:p.c0.m=t.c 0:=(congrArg Se.c0 hA.eq :)
  have h1:p.c1.m=t.c 1:=(congrArg Se.c1 hA.eq :)
  have s0:p.c0.st=(t.c 0).st:=congrArg CnM.st h0
  have s1:p.c1.st=(t.c 1).st:=congrArg CnM.st h1
  have i0:p.c0.id=(t.c 0).id:=congrArg CnM.id h0
  have i1:p.c1.id=(t.c 1).id:=congrArg CnM.id h1
  have e2:idF t 2=if (t.c 1).st=5 then (t.c 1).id else if (t.c 0).st=5 then (t.c 0).id else 0:=rfl
  unfold Mn
  rw [s0,s1,i0,i1,e2]
  by_cases e0:(t.c 0).st=5
  · rw [if_pos e0,if_neg (hJ 0 Et e0).1,if_pos e0]
  · rw [if_neg e0,if_neg e0]
theorem rx_new {a i t h r:Int}(hh:0≤h∧h≤65535) (hr:0≤r∧r≤65535):RxH (Se.new a i t h r):=by
  refine ⟨rfl,⟨Int.le_refl _,(by decide:(0:Int)≤1000000)⟩,hr,hh,fun n hn=>?_,fun n hn=>?_,fun n hn=>?_,fun n hn=>?_,fun n hn=>?_,fun n hn=>?_⟩
  all_goals
    match n,hn with
    | 0,_|1,_=>first|exact .inl rfl|exact (⟨Int.le_refl 0,by decide⟩:(0:Int)≤0∧(0:Int)≤65535)|exact fun _=>rfl
theorem Rel.start (s:Se):Rel (if s.base=0 then [YtcmpamnhegndnaaGreatDoor.ef 1 0] else []) (if s.base=0 then [⟨1,0,0,0,0⟩] else []):=by
  split
  · exact .ef 1 0 Et Et
  · exact .nil
theorem LB {s:Se}{n:Nat}(h:(s.c n).st=0) (bs:List Int):AM s n bs=(s,[]):=if_pos h
theorem Oo (s:Se){n:Nat}(hn:n<2) (bs:List Int){j:Nat}(hj:j<2) (hne:j≠n) (h:((AM s n bs).1.c j).st≠0):((AM s n bs).1.c j).wait=(s.c j).wait∧(s.c j).st≠0:=by
  by_cases h0:(s.c n).st=0
  · rw [LB h0] at h ⊢;exact ⟨rfl,h⟩
  · have:=Wq.AM s n hn bs h0 j hj h
    rw [Aaj s n j bs hn hj,if_neg hne] at this
    exact this
theorem LM (s:Se){n:Nat}(hn:n<2) (bs:List Int) (h:((AM s n bs).1.c n).st≠0):((AM s n bs).1.c n).wait=(BL [] ((s.c n).wait++bs)).2.2∧(s.c n).st≠0:=by
  by_cases h0:(s.c n).st=0
  · rw [LB h0] at h;exact absurd h0 h
  · have:=Wq.AM s n hn bs h0 n hn h
    rw [Aaj s n n bs hn hn,if_pos rfl] at this
    exact ⟨this.1,h0⟩
theorem GR.VY {ER ER':List Ent}{R R':List Value}{s:Se}{K N:Int}{n:Nat}{b1 b2:List Int}(hn:n<2) (hs:(AM (AM s n b1).1 n b2).1.IJ N) (hR:∀ j,j<2→II ER R j (s.c j).wait) (hE:∀ e∈ER,e∈ER') (hne:∀ j,j<2→(j≠n→R'[j]?=R[j]?)∧∃ a l c,R'[j]?=some (.slice a l c)) (h2:((AM (AM s n b1).1 n b2).1.c n).st≠0→II ER' R' n ((AM (AM s n b1).1 n b2).1.c n).wait):∀ j,j<2→GR ER' R' s (AM (AM s n b1).1 n b2).1 K j:=fun j hj=>by
  refine ⟨(hne j hj).2,fun _ ht=>?_,fun h0=>?_⟩
  · by_cases e:j=n
    · subst e;exact h2 ht
    · have e2:=Oo _ hn b2 hj e ht
      have e1:=Oo _ hn b1 hj e e2.2
      rw [e2.1,e1.1]
      obtain ⟨a,c,hr,hv⟩:=hR j hj
      exact ⟨a,c,((hne j hj).1 e).trans hr,hv.mono hE⟩
  · have key:((AM (AM s n b1).1 n b2).1.c j).st=0∧((AM (AM s n b1).1 n b2).1.c j).wait=[]∨((AM (AM s n b1).1 n b2).1.c j).st≠0:=by
      by_cases ht:((AM (AM s n b1).1 n b2).1.c j).st=0
      · exact .inl ⟨ht,LC hs hj ht⟩
      · exact .inr ht
    rcases key with ⟨k1,k2⟩|k
    · exact ⟨k2,fun _=>k1⟩
    · exfalso
      by_cases e:j=n
      · subst e;exact (LM _ hn b1 (LM _ hn b2 k).2).2 h0
      · exact (Oo _ hn b1 hj e (Oo _ hn b2 hj e k).2).2 h0
theorem Aac {s:Se}(h:false=(LN s).2.2):Is s=none:=by
  unfold LN at h
  split at h
  · cases h
  · assumption
theorem Sl {s:Se}(h:true=(LN s).2.2):∃ n,n<2∧Is s=some n:=by
  unfold LN at h
  split at h
  · rename_i n hl;exact ⟨n,Ro hl,hl⟩
  · cases h
theorem VB {ER:List Ent}{Rq:List Value}{s t:Se}{K:Int}{q:Nat}(hql:q<2) (hRq:Rq.length=2) (hq1:∀ n,n<2→n<q→II ER Rq n (t.c n).wait) (hq2:∀ n,n<2→q≤n→GR ER Rq s t K n) (hz:(t.c q).wait=[]):q+1≤2∧(Rq.set q (.slice none 0 0)).length=2∧(∀ n,n<2→n<q+1→II ER (Rq.set q (.slice none 0 0)) n (t.c n).wait)∧∀ n,n<2→q+1≤n→GR ER (Rq.set q (.slice none 0 0)) s t K n:=by
  refine ⟨hql,(List.length_set ..).trans hRq,fun n hn h=>?_,fun n hn h=>?_⟩
  · by_cases e:n=q
    · subst e
      rw [hz]
      exact ⟨none,0,by rw [List.getElem?_set,if_pos rfl,if_pos Er];rfl,View.no _⟩
    · obtain ⟨a,c,h1,h2⟩:=hq1 n hn Er
      exact ⟨a,c,by rw [List.getElem?_set_ne (fun h=>e h.symm)];exact h1,h2⟩
  · have hne:(Rq.set q (.slice none 0 0))[n]?=Rq[n]?:=List.getElem?_set_ne Er
    obtain ⟨h1,h2,h3⟩:=hq2 n hn Er
    exact ⟨by rw [hne];exact h1,fun a b=>(h2 a b).imp fun _=>Exists.imp fun _ h=>⟨hne.trans h.1,h.2⟩,h3⟩
structure RuS where
  k:Nat
  s:Se
  p:PeL
  E0:List Ent
  E1:List Ent
  d:Ck
  o:Value
  R:List Value
  ER:List Ent
structure RuT where
  y:PS
  t:Se
  oad:Option Addr
  oc:Nat
  rs:List RE
  OE:List Ent
  R:List Value
  ER:List Ent
structure RuB where
  ad:Option Addr
  c:Nat
  bs:List Int
  E:List Ent
structure RuF where
  oad:Option Addr
  oc:Nat
  OE:List Ent
  R:List Value
  EX:List Ent
theorem trf0 {ad:Option Addr}{rs:List RE}{E L:List Ent}(h:Trf none [] ad rs E){w0 w:World}(hS:St (fun _=>False) w0 w L) (hs:E.Sublist L):AU w ad (GY rs):=h (fun _=>False) w0 [] (fun _ _ h=>absurd h (Nat.lt_irrefl 0)) w (by rw [List.append_nil];exact hS.sub hs)
set_option maxHeartbeats 16000000 in
set_option maxRecDepth 4000 in
theorem Su (w0:World) (hG:GF w0) (hZ:GZ w0) (a i t h r:Int) (hb:I9 a i t h r) (hid:U32 i) (sa:Option Addr) (sc:Nat) (ss:List Q8) (hR:EI w0 sa 28 Q8.cells ss) (hok:∀ x∈ss,x.Ok w0):Calls Tryz.prog 8 #[.agg (Iu a i t h r).toArray, .slice sa ss.length sc] w0 fun e w'=>e = .returned (.bool true)∧Frm (fun _=>False) w0 w':=by
  obtain ⟨hb1,hb2,hb3,hb4,hb5,hb6⟩:=id hb
  have hh4:h=0∨3≤h:=Er
  refine enter Tryz.func8 rfl Tryz.ntmps8 rfl (St.start (fun _=>False) w0) ?_
  refine J2 ?_
  refine WL.box rfl rfl rfl (.none rfl) rfl rfl ?_
  intro g2 hg2
  refine J6 ?_
  refine zk ck_9 rfl (fun w hS=>Tg w (hG.FA (fun h=>h) hS) (hZ.FA (fun h=>h) hS)) ?_
  refine J9 ?_
  refine zK Abx rfl ?_
  intro w1 hS
  refine (new_c w0 w1 [.row g2 (Iu a i t h r)] hS a i t h r hb hid).mono ?_
  rintro e w' ⟨g,p,d,rfl,hA,hS'⟩
  refine ⟨_, .row g2 (Iu a i t h r)::.row g p.cells::([]++([]++d.L p.gC 0 [])),rfl,hS'.AX,?_⟩
  refine J7 ?_
  refine WC.cut (fun _:Unit=>[(7, .bool true),(6, .int .i64 0),(5, .pointer (some ⟨g,0,none⟩)),(2, .pointer (some ⟨g2,0,none⟩)),(1, .slice sa ss.length sc)]) (fun _=>.row g2 (Iu a i t h r)::.row g p.cells::([]++([]++d.L p.gC 0 []))) (fun _=>True) ?_ ?_
  refine J3 ?_
  refine zV ((Pw rfl rfl rfl).t (hb1.1)) rfl ?_
  refine J3 ?_
  refine zS ((O9 rfl rfl rfl).t (hb1.2)) rfl ?_
  refine J4 ?_
  refine zS ((Pw rfl rfl rfl).t (hb2.1)) rfl ?_
  refine J4 ?_
  refine zS ((O9 rfl rfl rfl).t (hb2.2)) rfl ?_
  refine J4 ?_
  refine zS ((BY rfl rfl rfl).t (hb3)) rfl ?_
  refine J4 ?_
  refine JT (fun h62=>?_) (fun h62=>?_)
  refine J14 ?_
  exact Ed
  refine J3 ?_
  refine zS ((Pw rfl rfl rfl).t (Er)) rfl ?_
  refine J3 ?_
  refine zS ((O9 rfl rfl rfl).t (Er)) rfl ?_
  refine J6 ?_
  exact Ed
  rintro _ _
  refine J14 ?_
  refine zV ((BY rfl rfl rfl).f ((fun h=>h rfl))) rfl ?_
  refine J2 ?_
  refine zk VQ rfl (fun w hS=>by have h:=Ou w a i t h r;rw [if_pos hb] at h;exact h) ?_
  refine zS ((BY rfl rfl rfl).f ((fun h=>h rfl))) rfl ?_
  refine J18 ?_
  refine zk ck_32 rfl (fun w hS=>newR_c w a t h r i)<|WL.alloc rfl EC (.none rfl) rfl rfl<|?_
  intro g10 hg10
  refine J5 ?_
  refine zV (HV rfl rfl Vm Tryz.underlying85 G9 rfl) rfl<|WL.alloc rfl Vm (.none rfl) rfl rfl<|?_
  intro g11 hg11
  refine J1 ?_
  refine WL.to (L':=.row g11 [.slice none 0 0, .slice none 0 0]::.row g10 (rfC (Se.new a i t h r) (.slice none 0 0))::.row g p.cells::([]++([]++d.L p.gC 0 [.row g2 (Iu a i t h r)]))) (fun w hS=>hS.AX) ?_
  refine J9 ?_
  refine WC.loop (fun x:RuS=>[(12, .int .i64 x.k),(11, .pointer (some ⟨g11,0,none⟩)),(10, .pointer (some ⟨g10,0,none⟩)),(5, .pointer (some ⟨g,0,none⟩)),(1, .slice sa ss.length sc)]) (fun x=>.row g11 x.R::.row g10 (rfC x.s x.o)::.row g x.p.cells::(x.E0++(x.E1++x.d.L x.p.gC x.s.now x.ER))) (fun x=>x.k≤ss.length∧x.k≤50∧BO g x.p x.s x.E0 x.E1 x.d∧SeI a i h (100000*x.k) (4096*x.k) x.s∧x.R.length=2∧∀ n,n<2→II x.ER x.R n (x.s.c n).wait) (fun x=>ss.length-x.k) ⟨0,Se.new a i t h r,p,[],[],d, .slice none 0 0,[.slice none 0 0, .slice none 0 0],[.row g2 (Iu a i t h r)]⟩ ⟨Nat.zero_le _,Nat.zero_le _,hA,⟨AbF hb1 hh4,fun n hn h5=>by
  match n,hn with
  | 0,_|1,_=>exact absurd (show (0:Int)=5 from h5) Et,rx_new Er Er,⟨rfl,rfl,rfl⟩,Int.le_refl _⟩,rfl,fun n hn=>⟨none,0,by
  match n,hn with
  | 0,_|1,_=>exact ⟨rfl,View.no _⟩⟩⟩ Km (.refl _) ?_
  rintro ⟨k,s,p1,E01,E11,d1,o1,R,ER⟩ ⟨hk,hk50,hA1,hI1,hR2,hRo⟩
  dsimp only at hk hk50 hA1 hI1 hR2 hRo
  dsimp only
  refine J6 ?_
  refine JT (fun h187=>?_) (fun h187=>?_)
  refine J2 ?_
  refine JT (fun h190=>?_) (fun h190=>?_)
  refine J12 ?_
  obtain ⟨x,hx⟩:∃ x,ss[k]?=some x:=⟨ss[k]' Er,List.getElem?_eq_getElem _⟩
  obtain ⟨b1,o2,ea1,r1⟩:=hR k x hx
  have hxo:=hok x (List.mem_of_getElem? hx)
  have hxn:=hxo.n
  have hxs:=hxo.sec
  have hxt:=hxo.tm
  have hwt:=hA1.waits
  have hN1:(0:Int)≤100000*(k:Int):=Er
  have hbm:=bsM_ok hxo.mi
  have hrx:=hI1.rx
  have hnw:=hrx.now
  have hnk:=hI1.now
  have hcst:=hI1.cst
  refine zV ((AB (b:=b1) (off:=o2) (lo:=k) rfl (by show some (Value.slice sa _ _)=_;rw [ea1]) rfl Tryz.underlying68 sz_71 rfl Er)) rfl ?_
  refine zV ((CA (cs:=x.cells) rfl rfl Vw rfl (Mt (fun h=>h) r1))) rfl<|WL.alloc rfl Ace (.none rfl) rfl rfl<|?_
  intro g13 hg13
  refine J1 ?_
  refine WL.as (L':=.row g13 x.cells::.row g11 R::.row g10 (rfC s o1)::.row g p1.cells::(E01++(E11++d1.L p1.gC s.now ER))) rfl ?_
  refine J6 ?_
  refine zV (CA rfl rfl Jx rfl (IK (g:=g13) (cs:=x.cells) (k:=2) (m:=20) (new:=x.m.cells) rfl)) rfl<|zK ck_27 rfl<|?_
  intro w1 hS
  refine (Abu w1 x.m).mono ?_
  rintro e w' ⟨bb,rfl,hFr,hbb⟩
  refine ⟨_,_,rfl,hS.ext hFr,?_⟩
  skip
  cases bb
  refine J2 ?_
  refine zS (AA rfl rfl G3 (cellAt (g:=g13) (v:=.slice x.ra x.raw.length x.rc) rfl)) rfl ?_
  refine J1 ?_
  refine JT (fun h205=>?_) (fun h205=>?_)
  refine J17 ?_
  exact Aw
  refine J4 ?_
  refine zS (AA rfl rfl one_9 (cellAt (g:=g13) (v:=.string x.fd) rfl)) rfl<|zS (Kl rfl rfl Tryz.underlying9) rfl<|?_
  refine JT (fun h212=>?_) (fun h212=>?_)
  refine J10 ?_
  exact Aw
  refine J10 ?_
  refine WL.as (L':=.row g13 x.cells::.row g11 R::.row g10 (rfC s (.slice none 0 0))::.row g p1.cells::(E01++(E11++d1.L p1.gC s.now ER))) rfl ?_
  refine J10 ?_
  refine zV (CA rfl rfl V3 rfl (IK (g:=g10) (cs:=rfC s (.slice none 0 0)) (k:=7) (m:=2) (new:=[.int .i64 s.c0.st, .int .i64 s.c1.st]) rfl)) rfl<|WL.alloc rfl Aca (.none rfl) rfl rfl<|?_
  intro g15 hg15
  refine J1 ?_
  refine WL.as (L':=.row g15 [.int .i64 s.c0.st, .int .i64 s.c1.st]::.row g13 x.cells::.row g11 R::.row g10 (rfC s (.slice none 0 0))::.row g p1.cells::(E01++(E11++d1.L p1.gC s.now ER))) rfl ?_
  refine J2 ?_
  refine WC.cut (fun z:RuT=>[(14, .slice z.y.ad z.y.fs.length z.y.c),(15, .pointer (some ⟨g15,0,none⟩)),(13, .pointer (some ⟨g13,0,none⟩)),(12, .int .i64 k),(11, .pointer (some ⟨g11,0,none⟩)),(10, .pointer (some ⟨g10,0,none⟩)),(5, .pointer (some ⟨g,0,none⟩)),(1, .slice sa ss.length sc)]) (fun z=>z.OE++(z.y.E++(z.y.K++(.row g15 [.int .i64 s.c0.st, .int .i64 s.c1.st]::.row g13 x.cells::.row g11 z.R::.row g10 (rfC z.t (.slice z.oad z.rs.length z.oc))::.row g z.y.p.cells::(z.y.E0++(z.y.E1++z.y.d.L z.y.p.gC z.t.now z.ER)))))) (fun z=>BO g z.y.p z.t z.y.E0 z.y.E1 z.y.d∧SeI a i h (100000*((k:Int)+1)) (4096*((k:Int)+1)) z.t∧K9 z.y.ad z.y.c z.y.fs z.y.E z.y.K∧Rel (z.y.fs.map EfL.d) z.rs∧z.y.fs.length≤400000∧Trf none [] z.oad z.rs z.OE∧z.R.length=2∧∀ n,n<2→GR z.ER z.R s z.t x.k n) ?_ ?_
  refine J3 ?_
  refine zV (AA rfl rfl AK (cellAt (g:=g13) (v:=.int .i64 x.k) rfl)) rfl ?_
  refine J5 ?_
  refine JT (fun h220=>?_) (fun h220=>?_)
  refine J7 ?_
  refine zK Abl rfl ?_
  intro w1 hS
  refine (VI w0 w1 g p1 s E01 E11 (.row g15 [.int .i64 s.c0.st, .int .i64 s.c1.st]::.row g13 x.cells::.row g11 R::.row g10 (rfC s (.slice none 0 0))::ER) d1 hA1 hS.AX).mono ?_
  rintro e w' ⟨ad2,c2,fs,EF,KF,p2,E02,E12,d2,rfl,hV2,heg,hA2,hS'⟩
  refine ⟨_,EF++(KF++(.row g15 [.int .i64 s.c0.st, .int .i64 s.c1.st]::.row g13 x.cells::.row g11 R::.row g10 (rfC s (.slice none 0 0))::.row g p2.cells::(E02++(E12++d2.L p2.gC (if s.base=0 then s.JW else s).now ER)))),rfl,hS'.AX,?_⟩
  refine J5 ?_
  refine zK ck_33 rfl ?_
  intro w1 hS
  refine (Abq w1 s none 0 [] (fun h=>absurd h (Nat.lt_irrefl 0)) (Nat.zero_le _) hrx.D5 hrx.r).mono ?_
  rintro e w' ⟨oad,oc,OE,rfl,hT,hS'⟩
  refine ⟨_,_,rfl,hS.join hS',?_⟩
  refine J3 ?_
  exact eM ⟨⟨p2,E02,E12,d2,ad2,c2,fs,EF,KF⟩,(if s.base=0 then s.JW else s),oad,oc,(if s.base=0 then [⟨1,0,0,0,0⟩] else []),OE,R,ER⟩ ⟨hA2,SeI.mono (hI1.start hN1) Er Er,hV2,by dsimp only;rw [heg];exact Rel.start s,by dsimp only;rw [BS heg];split <;> decide,hT,hR2,fun n hn=>GR.LV hI1.fine ((hI1.start hN1).fine) (Wq.start s) n hn (hRo n hn)⟩
  refine J6 ?_
  refine JT (fun h226=>?_) (fun h226=>?_)
  refine J7 ?_
  refine zK ck_28 rfl ?_
  intro w1 hS
  refine (stop_c w0 w1 g p1 s E01 E11 (.row g15 [.int .i64 s.c0.st, .int .i64 s.c1.st]::.row g13 x.cells::.row g11 R::.row g10 (rfC s (.slice none 0 0))::ER) d1 hA1 hG hS.AX).mono ?_
  rintro e w' ⟨ad2,c2,fs,EF,KF,p2,E02,E12,d2,rfl,hV2,heg,hA2,hS'⟩
  refine ⟨_,EF++(KF++(.row g15 [.int .i64 s.c0.st, .int .i64 s.c1.st]::.row g13 x.cells::.row g11 R::.row g10 (rfC s (.slice none 0 0))::.row g p2.cells::(E02++(E12++d2.L p2.gC (FZ s).1.now ER)))),rfl,hS'.AX,?_⟩
  refine J5 ?_
  refine zK ck_34 rfl ?_
  intro w1 hS
  refine (AcE w1 s none 0 [] (fun h=>absurd h (Nat.lt_irrefl 0)) (Nat.zero_le _) hrx.D5 hrx.r).mono ?_
  rintro e w' ⟨oad,oc,OE,rfl,hT,hS'⟩
  refine ⟨_,_,rfl,hS.join hS',?_⟩
  refine J3 ?_
  exact eM ⟨⟨p2,E02,E12,d2,ad2,c2,fs,EF,KF⟩,(FZ s).1,oad,oc,(OC s),OE,R,ER⟩ ⟨hA2,SeI.mono (hI1.stop hN1) Er Er,hV2,by dsimp only;rw [heg];exact Rel.stop s,by dsimp only;rw [BS heg];exact Nat.le_trans (Yh s) Et,hT,hR2,fun n hn=>GR.LV hI1.fine ((hI1.stop hN1).fine) (Wq.stop s) n hn (hRo n hn)⟩
  refine J6 ?_
  refine JT (fun h232=>?_) (fun h232=>?_)
  refine J8 ?_
  refine zV (AA rfl rfl AK (cellAt (g:=g13) (v:=.int .i64 x.n) rfl)) rfl<|zK ZQ rfl<|?_
  intro w1 hS
  refine (up_any w0 w1 g p1 s E01 E11 (.row g15 [.int .i64 s.c0.st, .int .i64 s.c1.st]::.row g13 x.cells::.row g11 R::.row g10 (rfC s (.slice none 0 0))::ER) d1 hA1 hG hS.AX x.n hI1.fine.wf.asn).mono ?_
  rintro e w' ⟨ad2,c2,fs,EF,KF,p2,E02,E12,d2,rfl,hV2,heg,hA2,hS'⟩
  refine ⟨_,EF++(KF++(.row g15 [.int .i64 s.c0.st, .int .i64 s.c1.st]::.row g13 x.cells::.row g11 R::.row g10 (rfC s (.slice none 0 0))::.row g p2.cells::(E02++(E12++d2.L p2.gC (upA s x.n).1.now ER)))),rfl,hS'.AX,?_⟩
  refine J6 ?_
  refine zV (AA rfl rfl AK (cellAt (g:=g13) (v:=.int .i64 x.n) rfl)) rfl<|zK ck_35 rfl<|?_
  intro w1 hS
  refine (upA_c w1 s x.n none 0 [] (fun h=>absurd h (Nat.lt_irrefl 0)) (Nat.zero_le _) hrx).mono ?_
  rintro e w' ⟨oad,oc,OE,rfl,hT,hS'⟩
  refine ⟨_,_,rfl,hS.join hS',?_⟩
  refine J3 ?_
  exact eM ⟨⟨p2,E02,E12,d2,ad2,c2,fs,EF,KF⟩,(upA s x.n).1,oad,oc,(ZJ s x.n),OE,R,ER⟩ ⟨hA2,SeI.mono (hI1.up hN1 x.n) Er Er,hV2,by dsimp only;rw [heg];exact Rel.upA x.n ⟨by omega,by omega,by rw [hcst.2.1];exact hb3,by rw [hcst.2.1];exact hid⟩,by dsimp only;rw [BS heg];exact Nat.le_trans (AbV s x.n) Et,hT,hR2,fun n hn=>GR.of_up hI1.fine (AcQ hI1.fine x.n n hn) h232 hn (hRo n hn)⟩
  refine J6 ?_
  refine JT (fun h242=>?_) (fun h242=>?_)
  refine J8 ?_
  refine zV (AA rfl rfl AK (cellAt (g:=g13) (v:=.int .i64 x.n) rfl)) rfl<|zK ck_20 rfl<|?_
  intro w1 hS
  refine (Aaw w0 w1 g p1 s E01 E11 (.row g15 [.int .i64 s.c0.st, .int .i64 s.c1.st]::.row g13 x.cells::.row g11 R::.row g10 (rfC s (.slice none 0 0))::ER) d1 hA1 hS.AX x.n).mono ?_
  rintro e w' ⟨ad2,c2,fs,EF,KF,p2,E02,E12,d2,rfl,hV2,heg,hA2,hS'⟩
  refine ⟨_,EF++(KF++(.row g15 [.int .i64 s.c0.st, .int .i64 s.c1.st]::.row g13 x.cells::.row g11 R::.row g10 (rfC s (.slice none 0 0))::.row g p2.cells::(E02++(E12++d2.L p2.gC (Ha s x.n).1.now ER)))),rfl,hS'.AX,?_⟩
  refine J6 ?_
  refine zV (AA rfl rfl AK (cellAt (g:=g13) (v:=.int .i64 x.n) rfl)) rfl<|zK ck_36 rfl<|?_
  intro w1 hS
  refine (AbT w1 s x.n none 0 [] (fun h=>absurd h (Nat.lt_irrefl 0)) (Nat.zero_le _) hrx).mono ?_
  rintro e w' ⟨oad,oc,OE,rfl,hT,hS'⟩
  refine ⟨_,_,rfl,hS.join hS',?_⟩
  refine J3 ?_
  exact eM ⟨⟨p2,E02,E12,d2,ad2,c2,fs,EF,KF⟩,(Ha s x.n).1,oad,oc,(PY s x.n),OE,R,ER⟩ ⟨hA2,SeI.mono (hI1.down hN1 x.n) Er Er,hV2,by dsimp only;rw [heg];exact Rel.Ha s x.n,by dsimp only;rw [BS heg];exact Nat.le_trans (X6 s x.n) Et,hT,hR2,fun n hn=>GR.LV hI1.fine ((hI1.down hN1 x.n).fine) (Wq.Ha s x.n) n hn (hRo n hn)⟩
  refine J4 ?_
  refine WC.cut (fun b:Bool=>[(251, .bool b),(218, .int .i64 x.k),(14, .slice none 0 0),(15, .pointer (some ⟨g15,0,none⟩)),(13, .pointer (some ⟨g13,0,none⟩)),(12, .int .i64 k),(11, .pointer (some ⟨g11,0,none⟩)),(10, .pointer (some ⟨g10,0,none⟩)),(5, .pointer (some ⟨g,0,none⟩)),(1, .slice sa ss.length sc)]) (fun _=>.row g15 [.int .i64 s.c0.st, .int .i64 s.c1.st]::.row g13 x.cells::.row g11 R::.row g10 (rfC s (.slice none 0 0))::.row g p1.cells::(E01++(E11++d1.L p1.gC s.now ER))) (fun b=>b=true↔(x.k=4∨x.k=5)) ?_ ?_
  refine J2 ?_
  refine JT (fun h252=>?_) (fun h252=>?_)
  refine J5 ?_
  exact eM true Fo
  refine J5 ?_
  refine JT (fun h253=>?_) (fun h253=>?_)
  refine J2 ?_
  exact eM true Fo
  refine J2 ?_
  exact eM false Fo
  rintro b251 hb251
  refine WC.YU rfl (fun h251=>?_) (fun h251=>?_)
  skip
  refine J3 ?_
  refine zV (AA rfl rfl G3 (cellAt (g:=g13) (v:=.slice x.ra x.raw.length x.rc) rfl)) rfl ?_
  refine J3 ?_
  refine WC.cut (fun z:RuB=>[(16, .slice z.ad z.bs.length z.c),(14, .slice none 0 0),(15, .pointer (some ⟨g15,0,none⟩)),(13, .pointer (some ⟨g13,0,none⟩)),(12, .int .i64 k),(11, .pointer (some ⟨g11,0,none⟩)),(10, .pointer (some ⟨g10,0,none⟩)),(5, .pointer (some ⟨g,0,none⟩)),(1, .slice sa ss.length sc)]) (fun z=>z.E++(.row g15 [.int .i64 s.c0.st, .int .i64 s.c1.st]::.row g13 x.cells::.row g11 R::.row g10 (rfC s (.slice none 0 0))::.row g p1.cells::(E01++(E11++d1.L p1.gC s.now ER)))) (fun z=>Bys z.bs∧z.bs.length≤4096∧z.bs.length≤z.c∧(0<z.bs.length→∃ b o,z.ad=some ⟨b,o,none⟩∧∀ w L,St (fun _=>False) w0 w L→(∀ e∈z.E,e∈L)→w.rangeAt b o (u8s z.bs))) ?_ ?_
  refine J3 ?_
  refine zV (AA rfl rfl AK (cellAt (g:=g13) (v:=.int .i64 x.k) rfl)) rfl ?_
  refine JT (fun h258=>?_) (fun h258=>?_)
  refine J5 ?_
  refine zV (CA rfl rfl Jx rfl (IK (g:=g13) (cs:=x.cells) (k:=2) (m:=20) (new:=x.m.cells) rfl)) rfl<|zK AaD rfl<|?_
  intro w1 hS
  refine (PJ w1 x.m (hxo.m.st hS) hxo.mi (hG.FA (fun h=>h) hS) (Nat.le_trans (hbb rfl).1 Et) (Nat.le_trans (hbb rfl).2 Et)).mono ?_
  rintro e w' ⟨_,rfl,ad5,c5,E5,rfl,hV5,hS'⟩
  refine ⟨_,_,rfl,hS.join hS',?_⟩
  rw [show (if Gr x.m=0 then DG x.m else [])=bsM x.m from rfl] at hV5 ⊢
  refine J2 ?_
  exact eM ⟨ad5,c5,bsM x.m,E5⟩ ⟨hbm.1,hbm.2,hV5.len.2,fun h0=>(hV5.Rf (by rw [GO];exact h0)).elim fun b h1=>h1.elim fun o h2=>⟨b,o,h2.1,fun w L hS hE=>h2.2 w fun e he=>hS.holds e (hE e he)⟩⟩
  refine J4 ?_
  exact eM ⟨x.ra,x.rc,x.raw,[]⟩ ⟨hxo.bys,by dsimp only;omega,hxo.len,fun h0=>(hxo.raw (by rw [GO];exact h0)).elim fun b h1=>h1.elim fun o h2=>⟨b,o,h2.1,fun w L hS _=>hS.rng (fun _ h=>h) _ _ _ h2.2⟩⟩
  rintro ⟨bad,bc,bs,EB⟩ ⟨hBb,hbl,hbc,hU⟩
  dsimp only at hBb hbl hbc hU
  have hCb:∀ w L,St (fun _=>False) w0 w L→(∀ e∈EB,e∈L)→AU w bad (u8s bs):=fun w L hS hE h0=>(hU (by rw [GO] at h0;exact h0)).elim fun b h1=>h1.elim fun o h2=>⟨b,o,h2.1,h2.2 w L hS hE⟩
  dsimp only
  refine J4 ?_
  refine zV (AA rfl rfl AK (cellAt (g:=g13) (v:=.int .i64 x.n) rfl)) rfl ?_
  refine JT (fun h264=>?_) (fun h264=>?_)
  refine J12 ?_
  exact As
  refine J2 ?_
  refine zS (AA rfl rfl AK (cellAt (g:=g13) (v:=.int .i64 x.n) rfl)) rfl ?_
  refine JT (fun h268=>?_) (fun h268=>?_)
  refine J8 ?_
  exact As
  refine J8 ?_
  obtain ⟨n,hn,hxe⟩:∃ n:Nat,n<2∧x.n=n:=⟨x.n.toNat,by omega,by omega⟩
  obtain ⟨hf,hfl⟩:∃ hf,hf=bs.length / 2:=⟨_,rfl⟩
  have ht1:(bs.take hf).length=hf:=Ey
  have ht2:(bs.drop hf).length=bs.length-hf:=List.length_drop ..
  have hB1:Bys (bs.take hf):=fun y hy=>hBb y (List.mem_of_mem_take hy)
  have hB2:Bys (bs.drop hf):=fun y hy=>hBb y (List.mem_of_mem_drop hy)
  generalize hbs1:bs.take hf=bs1 at ht1 hB1
  generalize hbs2:bs.drop hf=bs2 at ht2 hB2
  have hI2:=hI1.feed hN1 hh4 n hn bs1 hB1 hwt Er
  have hfA:∀ (u:Se) (zs:List Int),Wg u x.n zs=AM u n zs:=fun u zs=>by
    rw [hxe]
    match n,hn with
    | 0,_|1,_=>rfl
  have hW1:=fun h0=>Wq.AM s n hn bs1 h0
  refine J2 ?_
  refine zV (OB rfl rfl rfl Er Er ((show _=(hf:Int) from (AF Er Er).trans Er))) rfl ?_
  refine J4 ?_
  refine WC.held ([.row g13 x.cells]) mixed ?_
  refine WRH.first (g:=2) [0,1,2,3,4,5] Es Es kp ?_
  refine J2 ?_
  refine WH.val (AA rfl rfl AK (cellAt (g:=g13) (v:=.int .i64 x.n) rfl)) (.none rfl) rfl rfl ?_
  refine J2 ?_
  refine WH.val ((CT (hi:=hf) rfl rfl rfl Tryz.underlying25 AO rfl Er)) (.none rfl) rfl rfl ?_
  refine WH.nil ?_
  refine WRH.one (g:=1) 6 Es ?_
  refine zK Qw rfl ?_
  intro w1 hS
  have hc:=SY w0 w1 g p1 s E01 E11 (EB++(.row g15 [.int .i64 s.c0.st, .int .i64 s.c1.st]::.row g13 x.cells::.row g11 R::.row g10 (rfC s (.slice none 0 0))::ER)) d1 hA1 hG hS.AX x.n hZ hI1.fine Er bad bc bs1 (fun w h=>by rw [← hbs1];exact US (hCb w _ h fun e he=>by simp [Ck.L,Kj,he]) hf) hB1 Er
  rw [ht1,hfA] at hc
  refine hc.mono ?_
  rintro e w' ⟨ad4,c4,fs1,EF1,KF1,p4,E04,E14,d4,rfl,hV4,heg1,hA4,hS'⟩
  refine ⟨_,EF1++(KF1++(EB++(.row g15 [.int .i64 s.c0.st, .int .i64 s.c1.st]::.row g13 x.cells::.row g11 R::.row g10 (rfC s (.slice none 0 0))::.row g p4.cells::(E04++(E14++d4.L p4.gC (AM s n bs1).1.now ER))))),rfl,hS'.AX,?_⟩
  refine WL.ID kp ?_
  refine WRH.first (g:=0) [7] Es Es kp ?_
  refine J1 ?_
  refine WH.nil ?_
  refine WRH.done Es ?_
  refine J2 ?_
  refine WC.held ([.row g13 x.cells]) mixed ?_
  refine WRH.first (g:=3) [0,1,2,3,4,5,6] Es Es kp ?_
  refine J3 ?_
  refine WH.val (AA rfl rfl AK (cellAt (g:=g13) (v:=.int .i64 x.n) rfl)) (.none rfl) rfl rfl ?_
  refine J2 ?_
  refine WH.val ((NX (lo:=hf) rfl rfl rfl Tryz.underlying25 AO rfl Er)) (.none rfl) rfl rfl ?_
  refine WH.nil ?_
  refine WRH.one (g:=2) 7 Es ?_
  refine zK Qw rfl ?_
  intro w1 hS
  have hwt2:=hA4.waits
  have hc:=SY w0 w1 g p4 (AM s n bs1).1 E04 E14 (EF1++(KF1++(EB++(.row g15 [.int .i64 s.c0.st, .int .i64 s.c1.st]::.row g13 x.cells::.row g11 R::.row g10 (rfC s (.slice none 0 0))::ER)))) d4 hA4 hG hS.AX x.n hZ hI2.fine Er (loG bad hf bc 1) (bc-hf) bs2 (fun w h=>by rw [← hbs2];exact TL (hCb w _ h fun e he=>by simp [Ck.L,Kj,he]) hf hbc hBb) hB2 Er
  rw [ht2,hfA] at hc
  refine hc.mono ?_
  rintro e w' ⟨ad2,c2,fs2,EF2,KF2,p2,E02,E12,d2,rfl,hV2,heg2,hA2,hS'⟩
  refine ⟨_,EF1++(EF2++(KF2++(KF1++(EB++(.row g15 [.int .i64 s.c0.st, .int .i64 s.c1.st]::.row g13 x.cells::.row g11 R::.row g10 (rfC s (.slice none 0 0))::.row g p2.cells::(E02++(E12++d2.L p2.gC (AM (AM s n bs1).1 n bs2).1.now ER))))))),rfl,hS'.AX,?_⟩
  have hl1:=BS heg1
  have hl2:=BS heg2
  have hl3:=NI s n bs1
  have hl4:=NI (AM s n bs1).1 n bs2
  have hw3:=(hwt n hn).2
  have hw4:=(hwt2 n hn).2
  rw [List.length_append] at hl3 hl4
  refine WL.ID kp ?_
  refine WRH.one (g:=1) 8 Es ?_
  refine WL.AN rfl rfl rfl Tryz.underlying46 Tryz.underlying46 DI HP BT rfl rfl hV4.1 (new:=Hu fs2) (fun hm=>(hV2.1.Rf Fg).elim fun b1 h1=>h1.elim fun o1 h2=>⟨b1,o1,h2.1,fun w hS=>h2.2 w fun e he=>hS.holds e (by simp [he])⟩) (DQ fs2) (EH fs2) Er (.none rfl) rfl rfl ?_
  intro ad293 c293 E293 hV293 hr293
  rw [DF] at hV293
  rw [show fs1.length+fs2.length=(fs1++fs2).length from List.length_append.symm] at hV293 ⊢
  refine WL.to (L':=E293++((KF2++KF1)++(EB++(.row g15 [.int .i64 s.c0.st, .int .i64 s.c1.st]::.row g13 x.cells::.row g11 R::.row g10 (rfC s (.slice none 0 0))::.row g p2.cells::(E02++(E12++d2.L p2.gC (AM (AM s n bs1).1 n bs2).1.now ER)))))) (fun w hS=>hS.CE EF2) ?_
  have hI3:=hI2.feed Er hh4 n hn bs2 hB2 hwt2 Er
  have hVV:K9 ad293 c293 (fs1++fs2) E293 (KF2++KF1):=⟨hV293,fun e he=>(List.mem_append.1 he).elim (fun h=>(hV4.2 e h).mono fun _ h=>List.mem_append_right _ h) fun h=>(hV2.2 e h).mono fun _ h=>List.mem_append_left _ h⟩
  have hel1:=Rel.feed hI1 hh4 n hn bs1 (Bys.app (hwt n hn).1 hB1)
  have hel2:=Rel.feed hI2 hh4 n hn bs2 (Bys.app (hwt2 n hn).1 hB2)
  have hel3:=hel1.app hel2
  refine WL.ID kp ?_
  refine WRH.first (g:=0) [9] Es Es kp ?_
  refine J1 ?_
  refine WH.nil ?_
  refine WRH.done Es ?_
  refine J1 ?_
  refine WC.cut (fun z:RuF=>[(17, .int .i64 hf),(16, .slice bad bs.length bc),(14, .slice ad293 (fs1++fs2).length c293),(15, .pointer (some ⟨g15,0,none⟩)),(13, .pointer (some ⟨g13,0,none⟩)),(12, .int .i64 k),(11, .pointer (some ⟨g11,0,none⟩)),(10, .pointer (some ⟨g10,0,none⟩)),(5, .pointer (some ⟨g,0,none⟩)),(1, .slice sa ss.length sc)]) (fun z=>z.OE++(z.EX++(E293++((KF2++KF1)++(EB++(.row g15 [.int .i64 s.c0.st, .int .i64 s.c1.st]::.row g13 x.cells::.row g11 z.R::.row g10 (rfC (AM s n bs1).1 (.slice z.oad ((AM s n bs1).2.map GJ).length z.oc))::.row g p2.cells::(E02++(E12++d2.L p2.gC (AM (AM s n bs1).1 n bs2).1.now ER)))))))) (fun z=>Trf none [] z.oad ((AM s n bs1).2.map GJ) z.OE∧z.R.length=2∧(((AM s n bs1).1.c n).st≠0→II (z.EX++ER) z.R n ((AM s n bs1).1.c n).wait)∧∀ j,j<2→(j≠n→z.R[j]?=R[j]?)∧∃ a l c,z.R[j]?=some (.slice a l c)) ?_ ?_
  refine J3 ?_
  refine zV (AA rfl rfl AK (cellAt (g:=g13) (v:=.int .i64 x.n) rfl)) rfl ?_
  refine J1 ?_
  refine zV ((BR (lo:=n) rfl rfl rfl Tryz.underlying78 AP hxe hn)) rfl<|zV (AA rfl rfl AK (cellAt (g:=g10) (v:=.int .i64 (s.c n).st) (G0 s hn _))) rfl<|?_
  refine JT (fun h299=>?_) (fun h299=>?_)
  refine J3 ?_
  refine WC.heldU 19 (.row g13 x.cells::.row g11 R::[.row g10 (rfC s (.slice none 0 0))]) ([.row g13 x.cells]) mixed ?_
  refine WRU.free (g:=20) [0,1] Es Es Es kp kp ?_
  refine J1 ?_
  obtain ⟨ra,rc,hRg,hRv⟩:=hRo n hn
  have hcr:=fun (w:World) (hw:∀ e∈ER,e.holds w)=>hRv.cells hw
  refine WH.val (AA rfl rfl AK (cellAt (g:=g13) (v:=.int .i64 x.n) rfl)) (.none rfl) rfl rfl<|WH.LY<|?_
  refine WRU.first (g:=10) [2,3,4,6,7,8,9,11,12,13] Es Es Es Es kp kp ?_
  refine J2 ?_
  refine WH.val (AA rfl rfl AK (cellAt (g:=g13) (v:=.int .i64 x.n) rfl)) (.none rfl) rfl rfl ?_
  refine J1 ?_
  refine WH.val (AA rfl rfl AK (cellAt (g:=g13) (v:=.int .i64 x.n) rfl)) (.none rfl) rfl rfl<|WH.val ((BR (lo:=n) rfl rfl rfl Tryz.underlying85 G9 hxe hn)) (.none rfl) rfl rfl<|?_
  refine WH.val (AA rfl rfl G3 (cellAt (g:=g11) (v:=.slice ra (s.c n).wait.length rc) Gb)) (.none rfl) rfl rfl ?_
  refine J2 ?_
  refine WH.val ((CT (hi:=hf) rfl rfl rfl Tryz.underlying25 AO rfl Er)) (.none rfl) rfl rfl ?_
  refine WH.LY ?_
  refine WRU.one (g:=9) 5 Es ?_
  refine zB Tryz.underlying25 AO BF rfl rfl ?_
  intro g306 hg306
  refine WL.LY kp kp ?_
  refine WRU.one (g:=8) 10 Es ?_
  refine WL.AN rfl rfl rfl Tryz.underlying25 Tryz.underlying25 AO Hx BF rfl rfl (Vec.row (s:=1) (k:=0) (c:=0) (g:=g306) (cs:=[]) rfl rfl (Nat.le_refl _)) (new:=u8s (s.c n).wait) (fun hm=>(hRv.some hm).elim fun b h=>h.elim fun o h=>⟨b,o,h,fun w hS=>by subst h;exact (hRv.win fun e he=>hS.holds e Fx).at_⟩) (by rw [GO,Nat.mul_one]) (CQ _) Er (.none rfl) rfl rfl ?_
  intro ad311 c311 E311 hV311 hr311
  refine WL.as (L':=E311++(E293++((KF2++KF1)++(EB++(.row g15 [.int .i64 s.c0.st, .int .i64 s.c1.st]::.row g13 x.cells::.row g11 R::.row g10 (rfC s (.slice none 0 0))::.row g p2.cells::(E02++(E12++d2.L p2.gC (AM (AM s n bs1).1 n bs2).1.now ER))))))) rfl<|WL.LY kp kp<|?_
  refine WRU.one (g:=7) 14 Es ?_
  refine WL.AN rfl rfl rfl Tryz.underlying25 Tryz.underlying25 AO Hx BF rfl rfl hV311 (new:=u8s bs1) (fun hm=>(hU Er).elim fun b h=>h.elim fun o h=>⟨b,o,h.1,fun w hS=>by rw [← hbs1];exact YC (h.2 w _ hS fun e he=>by simp [Ck.L,Kj,he]) hf⟩) (by rw [GO,ht1,Nat.mul_one]) (CQ _) Er (.none rfl) rfl rfl ?_
  intro ad315 c315 E315 hV315 hr315
  refine WL.as (L':=E315++(E293++((KF2++KF1)++(EB++(.row g15 [.int .i64 s.c0.st, .int .i64 s.c1.st]::.row g13 x.cells::.row g11 R::.row g10 (rfC s (.slice none 0 0))::.row g p2.cells::(E02++(E12++d2.L p2.gC (AM (AM s n bs1).1 n bs2).1.now ER))))))) rfl ?_
  have hlen:0+(s.c n).wait.length+hf=((s.c n).wait++bs1).length:=by rw [List.length_append,ht1];omega
  rw [hlen] at hV315 ⊢
  have hV3:BV ad315 c315 ((s.c n).wait++bs1) E315:=by show Vec 1 ad315 _ c315 (u8s _) E315;rw [CH];exact hV315
  refine WL.LY kp kp ?_
  refine WRU.one (g:=6) 15 Es ?_
  refine zK ck_37 rfl ?_
  intro w1 hS
  have hfe:Jl n (s.fed n bs1) ((s.c n).wait++bs1)=AM s n bs1:=(if_neg h299).symm
  have hc:=fed_c w1 (s.fed n bs1) n hn none 0 [] ad315 c315 ((s.c n).wait++bs1) E315 (fun h=>absurd h (Nat.lt_irrefl 0)) (hrx.fed hn bs1) (by rw [show (s.fed n bs1).hold=h from ((DL s n _).2.1).trans hcst.2.2];exact hh4) (View.of hV3 (Bys.app (hwt n hn).1 hB1)) (fun e he=>hS.holds e (List.mem_append_left _ he)) (by rw [← hlen];have:=(hwt n hn).2;omega) (Nat.zero_le _)
  rw [Zf s hn bs1,hfe, ← hxe] at hc
  refine hc.mono ?_
  rintro e w' ⟨oad,oc,OE,ra2,rc2,r2,rfl,hT,hS',hrest⟩
  refine ⟨_,_,rfl,hS.join hS',?_⟩
  refine WL.LY kp kp ?_
  refine WRU.free (g:=3) [16,17,18] Es Es Es kp kp ?_
  refine J3 ?_
  refine WH.LY ?_
  refine WRU.one (g:=2) 19 Es ?_
  refine J1 ?_
  refine WL.QT Es kp ?_
  refine WRU.one (g:=1) 20 Es ?_
  refine zV ((BR (lo:=n) rfl rfl rfl Tryz.underlying85 G9 hxe hn)) rfl ?_
  refine WL.QT Es kp ?_
  refine WRU.one (g:=0) 21 Es ?_
  refine WL.DA rfl rfl rfl rfl G3 (show 0+n<R.length by omega) (.none rfl) rfl ?_
  rw [show 0+n=n from Nat.zero_add n]
  refine WL.QT Es kp ?_
  refine WRU.done Es ?_
  exact eM ⟨oad,oc,OE,R.set n (.slice ra2 r2.length rc2),E315⟩ ⟨hT,(List.length_set ..).trans hR2,fun h0=>by
  obtain ⟨hv,hr⟩:=hrest h0
  rw [(LM s hn bs1 h0).1, ← hr]
  exact ⟨ra2,rc2,by rw [List.getElem?_set,if_pos rfl,if_pos Er],hv.mono fun e he=>List.mem_append_left _ he⟩,fun j hj=>⟨fun hne=>List.getElem?_set_ne (fun e=>hne e.symm),by
  by_cases e:j=n
  · subst e;exact ⟨ra2,_,rc2,by rw [List.getElem?_set,if_pos rfl,if_pos Er]⟩
  · rw [List.getElem?_set_ne (fun h=>e h.symm)];exact Ow (hRo j hj)⟩⟩
  refine J4 ?_
  have e1:AM s n bs1=(s,[]):=LB (Decidable.of_not_not h299) bs1
  rw [show rfC s (.slice none 0 0)=rfC (AM s n bs1).1 (.slice none ((AM s n bs1).2.map GJ).length 0) by rw [e1];rfl]
  exact eM ⟨none,0,[],R,[]⟩ ⟨by rw [e1];exact .refl _ _,hR2,fun h0=>absurd (Decidable.of_not_not h299) (by rw [e1] at h0;exact h0),fun j hj=>⟨fun _=>rfl,Ow (hRo j hj)⟩⟩
  rintro ⟨oad,oc,OE,Ra,EX⟩ ⟨hTa,hRa2,hRav,hRag⟩
  dsimp only at hTa hRa2 hRav hRag
  dsimp only
  generalize hrs1:(AM s n bs1).2.map GJ=rs1 at hTa
  have hrl1:rs1.length≤35000:=by
    rw [← hrs1,List.length_map]
    have:=NI s n bs1
    have:=(hwt n hn).2
    rw [List.length_append] at *
    omega
  refine J3 ?_
  refine zV (AA rfl rfl AK (cellAt (g:=g13) (v:=.int .i64 x.n) rfl)) rfl ?_
  refine J1 ?_
  refine zV ((BR (lo:=n) rfl rfl rfl Tryz.underlying78 AP hxe hn)) rfl<|zV (AA rfl rfl AK (cellAt (g:=g10) (v:=.int .i64 ((AM s n bs1).1.c n).st) (G0 (AM s n bs1).1 hn _))) rfl<|?_
  refine JT (fun h325=>?_) (fun h325=>?_)
  refine J3 ?_
  refine WC.heldU 19 (.row g13 x.cells::.row g11 Ra::[.row g10 (rfC (AM s n bs1).1 (.slice oad rs1.length oc))]) ([.row g13 x.cells]) mixed ?_
  refine WRU.free (g:=20) [0,1] Es Es Es kp kp ?_
  refine J1 ?_
  obtain ⟨ra,rc,hRg,hRv⟩:=hRav h325
  have hwt3:=hA4.waits
  have hrx1:=hI2.rx
  refine WH.val (AA rfl rfl AK (cellAt (g:=g13) (v:=.int .i64 x.n) rfl)) (.none rfl) rfl rfl<|WH.LY<|?_
  refine WRU.first (g:=10) [2,3,4,6,7,8,9,11,12,13] Es Es Es Es kp kp ?_
  refine J2 ?_
  refine WH.val (AA rfl rfl AK (cellAt (g:=g13) (v:=.int .i64 x.n) rfl)) (.none rfl) rfl rfl ?_
  refine J1 ?_
  refine WH.val (AA rfl rfl AK (cellAt (g:=g13) (v:=.int .i64 x.n) rfl)) (.none rfl) rfl rfl<|WH.val ((BR (lo:=n) rfl rfl rfl Tryz.underlying85 G9 hxe hn)) (.none rfl) rfl rfl<|?_
  refine WH.val (AA rfl rfl G3 (cellAt (g:=g11) (v:=.slice ra ((AM s n bs1).1.c n).wait.length rc) Gb)) (.none rfl) rfl rfl ?_
  refine J2 ?_
  refine WH.val ((NX (lo:=hf) rfl rfl rfl Tryz.underlying25 AO rfl Er)) (.none rfl) rfl rfl ?_
  refine WH.LY ?_
  refine WRU.one (g:=9) 5 Es ?_
  refine zB Tryz.underlying25 AO BF rfl rfl ?_
  intro g332 hg332
  refine WL.LY kp kp ?_
  refine WRU.one (g:=8) 10 Es ?_
  refine WL.AN rfl rfl rfl Tryz.underlying25 Tryz.underlying25 AO Hx BF rfl rfl (Vec.row (s:=1) (k:=0) (c:=0) (g:=g332) (cs:=[]) rfl rfl (Nat.le_refl _)) (new:=u8s ((AM s n bs1).1.c n).wait) (fun hm=>(hRv.some hm).elim fun b h=>h.elim fun o h=>⟨b,o,h,fun w hS=>by subst h;exact (hRv.win fun e he=>hS.holds e (by rcases List.mem_append.1 he with he|he <;> simp [Ck.L,Kj,he])).at_⟩) (by rw [GO,Nat.mul_one]) (CQ _) Er (.none rfl) rfl rfl ?_
  intro ad337 c337 E337 hV337 hr337
  refine WL.as (L':=E337++(OE++(EX++(E293++((KF2++KF1)++(EB++(.row g15 [.int .i64 s.c0.st, .int .i64 s.c1.st]::.row g13 x.cells::.row g11 Ra::.row g10 (rfC (AM s n bs1).1 (.slice oad rs1.length oc))::.row g p2.cells::(E02++(E12++d2.L p2.gC (AM (AM s n bs1).1 n bs2).1.now ER))))))))) rfl<|WL.LY kp kp<|?_
  refine WRU.one (g:=7) 14 Es ?_
  refine WL.AN rfl rfl rfl Tryz.underlying25 Tryz.underlying25 AO Hx BF rfl rfl hV337 (new:=u8s bs2) (fun hm=>(hU Er).elim fun b h=>h.elim fun o h=>⟨b,AV o hf bc 1,by rw [h.1];exact AaP Er,fun w hS=>by rw [← hbs2];exact AaI (h.2 w _ hS fun e he=>by simp [Ck.L,Kj,he]) hBb hbc hf⟩) (by rw [GO,ht2,Nat.mul_one]) (CQ _) Er (.none rfl) rfl rfl ?_
  intro ad341 c341 E341 hV341 hr341
  refine WL.as (L':=E341++(OE++(EX++(E293++((KF2++KF1)++(EB++(.row g15 [.int .i64 s.c0.st, .int .i64 s.c1.st]::.row g13 x.cells::.row g11 Ra::.row g10 (rfC (AM s n bs1).1 (.slice oad rs1.length oc))::.row g p2.cells::(E02++(E12++d2.L p2.gC (AM (AM s n bs1).1 n bs2).1.now ER))))))))) rfl ?_
  have hlen:0+((AM s n bs1).1.c n).wait.length+(bs.length-hf)=(((AM s n bs1).1.c n).wait++bs2).length:=by rw [List.length_append,ht2];omega
  rw [hlen] at hV341 ⊢
  have hV3:BV ad341 c341 (((AM s n bs1).1.c n).wait++bs2) E341:=by show Vec 1 ad341 _ c341 (u8s _) E341;rw [CH];exact hV341
  refine WL.LY kp kp ?_
  refine WRU.one (g:=6) 15 Es ?_
  refine zK ck_37 rfl ?_
  intro w1 hS
  have hfe:Jl n ((AM s n bs1).1.fed n bs2) (((AM s n bs1).1.c n).wait++bs2)=AM (AM s n bs1).1 n bs2:=(if_neg h325).symm
  have hc:=fed_c w1 ((AM s n bs1).1.fed n bs2) n hn oad oc rs1 ad341 c341 (((AM s n bs1).1.c n).wait++bs2) E341 (trf0 hTa hS (List.sublist_append_of_sublist_right (List.sublist_append_left _ _))) (hrx1.fed hn bs2) (by rw [show ((AM s n bs1).1.fed n bs2).hold=h from ((DL (AM s n bs1).1 n _).2.1).trans hI2.cst.2.2];exact hh4) (View.of hV3 (Bys.app (hwt3 n hn).1 hB2)) (fun e he=>hS.holds e (List.mem_append_left _ he)) (by rw [← hlen];have:=(hwt3 n hn).2;omega) Er
  rw [Zf (AM s n bs1).1 hn bs2,hfe, ← hxe] at hc
  refine hc.mono ?_
  rintro e w' ⟨oad2,oc2,OE2,ra2,rc2,r2,rfl,hT2,hS',hrest⟩
  refine ⟨_,_,rfl,hS.join hS',?_⟩
  refine WL.LY kp kp ?_
  refine WRU.free (g:=3) [16,17,18] Es Es Es kp kp ?_
  refine J3 ?_
  refine WH.LY ?_
  refine WRU.one (g:=2) 19 Es ?_
  refine J1 ?_
  refine WL.QT Es kp ?_
  refine WRU.one (g:=1) 20 Es ?_
  refine zV ((BR (lo:=n) rfl rfl rfl Tryz.underlying85 G9 hxe hn)) rfl ?_
  refine WL.QT Es kp ?_
  refine WRU.one (g:=0) 21 Es ?_
  refine WL.DA rfl rfl rfl rfl G3 (show 0+n<Ra.length by omega) (.none rfl) rfl ?_
  rw [show 0+n=n from Nat.zero_add n]
  refine WL.QT Es kp ?_
  refine WRU.done Es ?_
  refine J1 ?_
  exact WE.to (L':=(OE2++OE)++(E293++((KF2++KF1)++(.row g15 [.int .i64 s.c0.st, .int .i64 s.c1.st]::.row g13 x.cells::.row g11 (Ra.set n (.slice ra2 r2.length rc2))::.row g10 (rfC (AM (AM s n bs1).1 n bs2).1 (.slice oad2 (rs1++(AM (AM s n bs1).1 n bs2).2.map GJ).length oc2))::.row g p2.cells::(E02++(E12++d2.L p2.gC (AM (AM s n bs1).1 n bs2).1.now (E341++(EX++ER)))))))) (fun w hS=>hS.CE EB) (eM ⟨⟨p2,E02,E12,d2,ad293,c293,fs1++fs2,E293,KF2++KF1⟩,(AM (AM s n bs1).1 n bs2).1,oad2,oc2,rs1++(AM (AM s n bs1).1 n bs2).2.map GJ,OE2++OE,Ra.set n (.slice ra2 r2.length rc2),E341++(EX++ER)⟩ ⟨hA2,SeI.mono hI3 Er Er,hVV,by dsimp only;rw [List.map_append,heg1,heg2, ← hrs1];exact hel3,by dsimp only;rw [List.length_append];omega,hTa.trans hT2,(List.length_set ..).trans hRa2,GR.VY hn hI3.fine hRo (fun e he=>List.mem_append_right _ (List.mem_append_right _ he)) (fun j hj=>⟨fun hne=>(List.getElem?_set_ne (fun e=>hne e.symm)).trans ((hRag j hj).1 hne),by
  by_cases e:j=n
  · subst e;exact ⟨ra2,_,rc2,by rw [List.getElem?_set,if_pos rfl,if_pos Er]⟩
  · rw [List.getElem?_set_ne (fun h=>e h.symm)];exact (hRag j hj).2⟩) fun h0=>by
  obtain ⟨hv,hr⟩:=hrest h0
  rw [(LM _ hn bs2 h0).1, ← hr]
  exact ⟨ra2,rc2,by rw [List.getElem?_set,if_pos rfl,if_pos Er],hv.mono fun e he=>List.mem_append_left _ he⟩⟩)
  refine J5 ?_
  have e2:AM (AM s n bs1).1 n bs2=((AM s n bs1).1,[]):=LB (Decidable.of_not_not h325) bs2
  rw [show rfC (AM s n bs1).1 (.slice oad rs1.length oc)=rfC (AM (AM s n bs1).1 n bs2).1 (.slice oad (rs1++(AM (AM s n bs1).1 n bs2).2.map GJ).length oc) by rw [e2,List.map_nil,List.append_nil]]
  exact WE.to (L':=OE++(E293++((KF2++KF1)++(.row g15 [.int .i64 s.c0.st, .int .i64 s.c1.st]::.row g13 x.cells::.row g11 Ra::.row g10 (rfC (AM (AM s n bs1).1 n bs2).1 (.slice oad (rs1++(AM (AM s n bs1).1 n bs2).2.map GJ).length oc))::.row g p2.cells::(E02++(E12++d2.L p2.gC (AM (AM s n bs1).1 n bs2).1.now (EX++ER))))))) (fun w hS=>hS.CE EB) (eM ⟨⟨p2,E02,E12,d2,ad293,c293,fs1++fs2,E293,KF2++KF1⟩,(AM (AM s n bs1).1 n bs2).1,oad,oc,rs1++(AM (AM s n bs1).1 n bs2).2.map GJ,OE,Ra,EX++ER⟩ ⟨hA2,SeI.mono hI3 Er Er,hVV,by dsimp only;rw [List.map_append,heg1,heg2, ← hrs1];exact hel3,by dsimp only;rw [List.length_append];omega,by dsimp only;rw [e2,List.map_nil,List.append_nil];exact hTa,hRa2,GR.VY hn hI3.fine hRo (fun e he=>List.mem_append_right _ he) hRag fun h0=>absurd (Decidable.of_not_not h325) (by rw [e2] at h0;exact h0)⟩)
  skip
  refine WC.cut (fun b:Bool=>[(346, .bool b),(218, .int .i64 x.k),(14, .slice none 0 0),(15, .pointer (some ⟨g15,0,none⟩)),(13, .pointer (some ⟨g13,0,none⟩)),(12, .int .i64 k),(11, .pointer (some ⟨g11,0,none⟩)),(10, .pointer (some ⟨g10,0,none⟩)),(5, .pointer (some ⟨g,0,none⟩)),(1, .slice sa ss.length sc)]) (fun _=>.row g15 [.int .i64 s.c0.st, .int .i64 s.c1.st]::.row g13 x.cells::.row g11 R::.row g10 (rfC s (.slice none 0 0))::.row g p1.cells::(E01++(E11++d1.L p1.gC s.now ER))) (fun b=>b=true↔(x.k=6∨x.k=9)) ?_ ?_
  refine J2 ?_
  refine JT (fun h347=>?_) (fun h347=>?_)
  refine J5 ?_
  exact eM true Fo
  refine J5 ?_
  refine JT (fun h348=>?_) (fun h348=>?_)
  refine J2 ?_
  exact eM true Fo
  refine J2 ?_
  exact eM false Fo
  rintro b346 hb346
  refine WC.YU rfl (fun h346=>?_) (fun h346=>?_)
  skip
  refine J3 ?_
  refine zV (AA rfl rfl AK (cellAt (g:=g10) (v:=.int .i64 s.now) rfl)) rfl ?_
  refine J1 ?_
  refine zV (AA rfl rfl AK (cellAt (g:=g13) (v:=.int .i64 x.sec) rfl)) rfl ?_
  refine zV (J0 rfl rfl rfl (NM (i:=12) (m:=4096) Et Et Et)) rfl ?_
  refine zV (AS rfl rfl rfl (show _=s.now+x.sec % 4096 from AF Er Er)) rfl ?_
  refine J3 ?_
  refine WC.cut (fun U:Int=>[(18, .int .i64 U),(14, .slice none 0 0),(15, .pointer (some ⟨g15,0,none⟩)),(13, .pointer (some ⟨g13,0,none⟩)),(12, .int .i64 k),(11, .pointer (some ⟨g11,0,none⟩)),(10, .pointer (some ⟨g10,0,none⟩)),(5, .pointer (some ⟨g,0,none⟩)),(1, .slice sa ss.length sc)]) (fun _=>.row g15 [.int .i64 s.c0.st, .int .i64 s.c1.st]::.row g13 x.cells::.row g11 R::.row g10 (rfC s (.slice none 0 0))::.row g p1.cells::(E01++(E11++d1.L p1.gC s.now ER))) (fun U=>I64 U) ?_ ?_
  refine J3 ?_
  refine zV (AA rfl rfl AK (cellAt (g:=g13) (v:=.int .i64 x.k) rfl)) rfl ?_
  refine JT (fun h357=>?_) (fun h357=>?_)
  refine J5 ?_
  refine zV (AA rfl rfl AK (cellAt (g:=g13) (v:=.int .i64 x.tm) rfl)) rfl ?_
  refine J2 ?_
  exact eM x.tm hxt
  refine J4 ?_
  exact eM (s.now+x.sec % 4096) F0
  rintro U hU
  have hTe:N1 s U=max (min U (s.now+4096)) s.now:=by
    unfold N1 FB
    split <;> omega
  refine J4 ?_
  refine zK ck_24 rfl ?_
  intro w1 hS
  refine (tick_c w0 w1 g p1 s E01 E11 (.row g15 [.int .i64 s.c0.st, .int .i64 s.c1.st]::.row g13 x.cells::.row g11 R::.row g10 (rfC s (.slice none 0 0))::ER) d1 hA1 hG hS.AX hI1.fine.fit U hU).mono ?_
  rintro e w' ⟨es,t',hTk,hle,ad2,c2,fs,EF,KF,p2,E02,E12,d2,rfl,hV2,heg,hA2,hS'⟩
  refine ⟨_,EF++(KF++(.row g15 [.int .i64 s.c0.st, .int .i64 s.c1.st]::.row g13 x.cells::.row g11 R::.row g10 (rfC s (.slice none 0 0))::.row g p2.cells::(E02++(E12++d2.L p2.gC t'.now ER)))),rfl,hS'.AX,?_⟩
  refine J4 ?_
  obtain ⟨kk,rs,hXk,hrel⟩:=Rel.tick hTk
  have hrl:=hrel.len
  have hI2:=hI1.tick hN1 hTk Er Er
  refine J2 ?_
  refine zK ck_38 rfl ?_
  intro w1 hS
  refine (AbZ w1 s t' U (N1 s U) none 0 [] rs kk (fun h=>absurd h (Nat.lt_irrefl 0)) hrx Er hTe hXk (by show 0+rs.length≤_;omega)).mono ?_
  rintro e w' ⟨oad,oc,OE,rfl,hT,hS'⟩
  refine ⟨_,_,rfl,hS.join hS',?_⟩
  refine J3 ?_
  exact eM ⟨⟨p2,E02,E12,d2,ad2,c2,fs,EF,KF⟩,t',oad,oc,rs,OE,R,ER⟩ ⟨hA2,SeI.mono (hI2) Er Er,hV2,by dsimp only;rw [heg];exact hrel,by dsimp only;rw [BS heg];omega,hT,hR2,fun n hn=>GR.LV hI1.fine (hI2.fine) (Wq.tick hTk) n hn (hRo n hn)⟩
  skip
  refine J2 ?_
  refine JT (fun h367=>?_) (fun h367=>?_)
  refine J8 ?_
  refine zV (CA rfl rfl Jx rfl (IK (g:=g13) (cs:=x.cells) (k:=2) (m:=20) (new:=x.m.cells) rfl)) rfl<|zK ck_29 rfl<|?_
  intro w1 hS
  refine (say_c w0 w1 g p1 s E01 E11 (.row g15 [.int .i64 s.c0.st, .int .i64 s.c1.st]::.row g13 x.cells::.row g11 R::.row g10 (rfC s (.slice none 0 0))::ER) d1 hA1 hG hS.AX x.m (fun w h=>hxo.m.st h) hxo.mi (Nat.le_trans (hbb rfl).1 Et) (Nat.le_trans (hbb rfl).2 Et)).mono ?_
  rintro e w' ⟨ad2,c2,fs,EF,KF,p2,E02,E12,d2,rfl,hV2,heg,hA2,hS'⟩
  refine ⟨_,EF++(KF++(.row g15 [.int .i64 s.c0.st, .int .i64 s.c1.st]::.row g13 x.cells::.row g11 R::.row g10 (rfC s (.slice none 0 0))::.row g p2.cells::(E02++(E12++d2.L p2.gC (O5 s x.m).1.now ER)))),rfl,hS'.AX,?_⟩
  have hfl:=BS heg
  obtain ⟨sd,hsd⟩:∃ sd,sd=O5 s x.m:=⟨_,rfl⟩
  rw [← hsd] at hfl heg hA2 ⊢
  refine J12 ?_
  refine zV (AA rfl rfl AK (cellAt (g:=g13) (v:=.int .i64 x.m.kind) rfl)) rfl ?_
  refine JT (fun h378=>?_) (fun h378=>?_)
  refine J6 ?_
  obtain rfl:sd=(s,[],1):=hsd.trans (if_pos h378)
  have hfl0:fs.length=0:=hfl
  refine J1 ?_
  refine zV ((BY rfl rfl rfl).f ((fun h=>h rfl))) rfl ?_
  refine J3 ?_
  refine zS ((BY rfl rfl rfl).f (Er)) rfl ?_
  refine J9 ?_
  exact WE.to (L':=.row g15 [.int .i64 s.c0.st, .int .i64 s.c1.st]::.row g13 x.cells::.row g11 R::.row g10 (rfC s (.slice none 0 0))::.row g p2.cells::(E02++(E12++d2.L p2.gC s.now ER))) (fun w hS=>hS.CE (EF++KF)) (eM ⟨⟨p2,E02,E12,d2,none,0,[],[],[]⟩,s,none,0,[],[],R,ER⟩ ⟨hA2,SeI.mono hI1 Er Er,⟨Vec.nil 23,fun e he=>by cases he⟩,Rel.nil,Nat.zero_le _,Trf.refl _ _,hR2,fun n hn=>GR.LV hI1.fine hI1.fine (Wq.refl s) n hn (hRo n hn)⟩)
  refine J8 ?_
  refine zK ck_39 rfl ?_
  intro w1 hS
  refine (sayR_c w1 s none 0 [] (fun h=>absurd h (Nat.lt_irrefl 0)) (Nat.zero_le _) hrx).mono ?_
  rintro e w' ⟨oad,oc,OE,rfl,hT,hS'⟩
  refine ⟨_,_,rfl,hS.join hS',?_⟩
  refine J3 ?_
  obtain ⟨bq,hbq⟩:∃ bq,bq=(LN s).2.2:=⟨_,rfl⟩
  rw [← hbq]
  cases bq
  refine WL.alloc rfl EC (.none rfl) rfl rfl ?_
  intro g21 hg21
  refine J7 ?_
  refine zV (CA rfl rfl Jx rfl (IK (m:=20) rfl)) rfl<|zK Tw rfl<|?_
  intro w1 hS
  refine (S1 w1 x.m (hxo.m.st hS) hxo.mi (hG.FA (fun h=>h) hS) (Nat.le_trans (hbb rfl).1 Et) (Nat.le_trans (hbb rfl).2 Et)).mono ?_
  rintro e w' ⟨_,rfl,ad9,c9,E9,rfl,hV9,hS'⟩
  refine ⟨_,_,rfl,hS.join hS',?_⟩
  refine J18 ?_
  have hln:=Aac hbq
  obtain rfl:sd=(s,[],7):=hsd.trans (by unfold O5;rw [if_neg h378,hln])
  have hfl0:fs.length=0:=hfl
  refine J1 ?_
  exact A3
  refine WL.alloc rfl EC (.none rfl) rfl rfl ?_
  intro g21 hg21
  refine J7 ?_
  refine zV (CA rfl rfl Jx rfl (IK (m:=20) rfl)) rfl<|zK Tw rfl<|?_
  intro w1 hS
  refine (S1 w1 x.m (hxo.m.st hS) hxo.mi (hG.FA (fun h=>h) hS) (Nat.le_trans (hbb rfl).1 Et) (Nat.le_trans (hbb rfl).2 Et)).mono ?_
  rintro e w' ⟨_,rfl,ad9,c9,E9,rfl,hV9,hS'⟩
  refine ⟨_,_,rfl,hS.join hS',?_⟩
  refine J19 ?_
  refine JT (fun h413=>?_) (fun h413=>?_)
  refine J6 ?_
  obtain ⟨nl,hnl,hln⟩:=Sl hbq
  obtain rfl:sd=(s,[],Gr x.m):=hsd.trans (by unfold O5;rw [if_neg h378,hln];exact if_pos h413)
  have hfl0:fs.length=0:=hfl
  refine J2 ?_
  exact A3
  refine J7 ?_
  obtain ⟨nl,hnl,hln⟩:=Sl hbq
  obtain rfl:sd=(s.kept nl,[⟨2,nl,DG x.m,(MsL.zero 0).d⟩],0):=hsd.trans (by unfold O5;rw [if_neg h378,hln];exact if_neg h413)
  have hfl0:fs.length=1:=hfl
  have hsr:LN s=(s.kept nl,[⟨2,nl,2,0,0⟩],true):=by unfold LN;rw [hln]
  rw [hsr]
  rw [hsr] at hT
  refine J1 ?_
  refine zV ((BY rfl rfl rfl).f ((fun h=>h rfl))) rfl ?_
  refine J17 ?_
  have hmk:x.m.kind=2:=Decidable.of_not_not h378
  have hre:Rel [⟨2,nl,DG x.m,(MsL.zero 0).d⟩] [⟨2,nl,2,0,0⟩]:=by
    have:=Rel.said (n:=nl) (Decidable.of_not_not h413) hxo.mi
    rw [XP hmk,hmk] at this
    exact this
  exact WE.to (L':=OE++(EF++(KF++(.row g15 [.int .i64 s.c0.st, .int .i64 s.c1.st]::.row g13 x.cells::.row g11 R::.row g10 (rfC (s.kept nl) (.slice oad ([]++[(⟨2,nl,2,0,0⟩:RE)]).length oc))::.row g p2.cells::(E02++(E12++d2.L p2.gC (s.kept nl).now ER)))))) (fun w hS=>hS.CE (E9++[.row g21 (rfC (s.kept nl) (.slice oad ([]++[(⟨2,nl,2,0,0⟩:RE)]).length oc))])) (eM ⟨⟨p2,E02,E12,d2,ad2,c2,fs,EF,KF⟩,s.kept nl,oad,oc,[⟨2,nl,2,0,0⟩],OE,R,ER⟩ ⟨hA2,SeI.mono (hI1.kept hN1 nl) Er Er,hV2,by dsimp only;rw [heg];exact hre,by dsimp only;omega,hT,hR2,fun n hn=>GR.LV hI1.fine ((hI1.kept hN1 nl).fine) (Wq.kept s nl) n hn (hRo n hn)⟩)
  refine J6 ?_
  refine JT (fun h423=>?_) (fun h423=>?_)
  refine J7 ?_
  refine zV (CA rfl rfl Im rfl (IK (g:=g13) (cs:=x.cells) (k:=25) (m:=3) (new:=AG x.fc x.fs x.fd) rfl)) rfl<|WL.alloc rfl CV (.none rfl) rfl rfl<|?_
  intro g25 hg25
  refine J7 ?_
  refine zV (J0 rfl rfl rfl (NM (i:=3) (m:=8) Et Et Et)) rfl ?_
  refine J8 ?_
  refine zV (J0 rfl rfl rfl (NM (i:=3) (m:=8) Et Et Et)) rfl ?_
  refine J2 ?_
  refine WL.as (L':=.row g25 (AG (x.fc % 8) (x.fs % 8) x.fd)::.row g15 [.int .i64 s.c0.st, .int .i64 s.c1.st]::.row g13 x.cells::.row g11 R::.row g10 (rfC s (.slice none 0 0))::.row g p1.cells::(E01++(E11++d1.L p1.gC s.now ER))) rfl ?_
  have hfd:x.fd.size≤300:=Er
  have hde:=drop_eq (s:=s) hI1.jt (C:=x.fc % 8) (S:=x.fs % 8) (f:=x.fd) Er Er Er
  refine J6 ?_
  refine zK ck_31 rfl ?_
  intro w1 hS
  refine (drop_c w0 w1 g p1 s E01 E11 (.row g25 (AG (x.fc % 8) (x.fs % 8) x.fd)::.row g15 [.int .i64 s.c0.st, .int .i64 s.c1.st]::.row g13 x.cells::.row g11 R::.row g10 (rfC s (.slice none 0 0))::ER) d1 hA1 hG hS.AX (x.fc % 8) (x.fs % 8) x.fd F0 F0 Er).mono ?_
  rintro e w' ⟨ad2,c2,fs,EF,KF,p2,E02,E12,d2,rfl,hV2,heg,hA2,hS'⟩
  refine ⟨_,EF++(KF++(.row g25 (AG (x.fc % 8) (x.fs % 8) x.fd)::.row g15 [.int .i64 s.c0.st, .int .i64 s.c1.st]::.row g13 x.cells::.row g11 R::.row g10 (rfC s (.slice none 0 0))::.row g p2.cells::(E02++(E12++d2.L p2.gC (IN s (x.fc % 8) (x.fs % 8) x.fd).1.now ER)))),rfl,hS'.AX,?_⟩
  refine J6 ?_
  refine zV (AA rfl rfl AK (cellAt (g:=g25) (v:=.int .i64 (x.fc % 8)) rfl)) rfl ?_
  refine J1 ?_
  refine zV (AA rfl rfl AK (cellAt (g:=g25) (v:=.int .i64 (x.fs % 8)) rfl)) rfl<|zK ck_40 rfl<|?_
  intro w1 hS
  have hc:=AcZ w1 s (x.fc % 8) (x.fs % 8) none 0 [] (fun h=>absurd h (Nat.lt_irrefl 0)) (Nat.zero_le _) hrx.D5 hrx.r
  rw [hde.1] at hc
  refine hc.mono ?_
  rintro e w' ⟨oad,oc,OE,rfl,hT,hS'⟩
  refine ⟨_,_,rfl,hS.join hS',?_⟩
  refine J3 ?_
  have hID:SeI a i h (100000*k) (4096*k) (IN s (x.fc % 8) (x.fs % 8) x.fd).1:=by
    unfold IN
    split
    · exact hI1
    · rename_i hl;exact hI1.gone hN1 _ (Ro hl)
  have hWD:Wq s (IN s (x.fc % 8) (x.fs % 8) x.fd).1:=by
    unfold IN
    split
    · exact .refl s
    · rename_i hl;exact .gone s _ (Ro hl)
  have hDl:(IN s (x.fc % 8) (x.fs % 8) x.fd).2.length≤3:=by
    unfold IN
    split
    · exact Nat.zero_le _
    · exact DT _ _ _ _ _
  exact WE.to (L':=OE++(EF++(KF++(.row g15 [.int .i64 s.c0.st, .int .i64 s.c1.st]::.row g13 x.cells::.row g11 R::.row g10 (rfC (IN s (x.fc % 8) (x.fs % 8) x.fd).1 (.slice oad ([]++(FM s (x.fc % 8) (x.fs % 8) 2).2).length oc))::.row g p2.cells::(E02++(E12++d2.L p2.gC (IN s (x.fc % 8) (x.fs % 8) x.fd).1.now ER)))))) (fun w hS=>hS.CE [.row g25 (AG (x.fc % 8) (x.fs % 8) x.fd)]) (eM ⟨⟨p2,E02,E12,d2,ad2,c2,fs,EF,KF⟩,(IN s (x.fc % 8) (x.fs % 8) x.fd).1,oad,oc,(FM s (x.fc % 8) (x.fs % 8) 2).2,OE,R,ER⟩ ⟨hA2,SeI.mono hID Er Er,hV2,by dsimp only;rw [heg];exact hde.2,by dsimp only;rw [BS heg];omega,hT,hR2,fun n hn=>GR.LV hI1.fine (hID.fine) (hWD) n hn (hRo n hn)⟩)
  refine J6 ?_
  exact eM ⟨⟨p1,E01,E11,d1,none,0,[],[],[]⟩,s,none,0,[],[],R,ER⟩ ⟨hA1,SeI.mono hI1 Er Er,⟨Vec.nil 23,fun e he=>by cases he⟩,Rel.nil,Nat.zero_le _,Trf.refl _ _,hR2,fun n hn=>GR.LV hI1.fine hI1.fine (Wq.refl s) n hn (hRo n hn)⟩
  rintro ⟨⟨p2,E02,E12,d2,ad2,c2,fs,EF,KF⟩,t,oad,oc,rs,OE,R2,ER2⟩ ⟨hA2,hI2,hV2,hRel,hfl,hT,hR22,hG2⟩
  dsimp only at hA2 hI2 hV2 hRel hfl hT hR22 hG2
  dsimp only
  refine J7 ?_
  refine WC.loop (fun y:Nat×List Value=>[(26, .int .i64 y.1),(14, .slice ad2 fs.length c2),(15, .pointer (some ⟨g15,0,none⟩)),(13, .pointer (some ⟨g13,0,none⟩)),(12, .int .i64 k),(11, .pointer (some ⟨g11,0,none⟩)),(10, .pointer (some ⟨g10,0,none⟩)),(5, .pointer (some ⟨g,0,none⟩)),(1, .slice sa ss.length sc)]) (fun y=>OE++(EF++(KF++(.row g15 [.int .i64 s.c0.st, .int .i64 s.c1.st]::.row g13 x.cells::.row g11 y.2::.row g10 (rfC t (.slice oad rs.length oc))::.row g p2.cells::(E02++(E12++d2.L p2.gC t.now ER2)))))) (fun y=>y.1≤2∧y.2.length=2∧(∀ n,n<2→n<y.1→II ER2 y.2 n (t.c n).wait)∧∀ n,n<2→y.1≤n→GR ER2 y.2 s t x.k n) (fun y=>2-y.1) (0,R2) ⟨Nat.zero_le _,hR22,fun n _ h=>absurd h (Nat.not_lt_zero _),fun n hn _=>hG2 n hn⟩ Km (.refl _) ?_
  rintro ⟨q,Rq⟩ ⟨hq,hRq,hq1,hq2⟩
  dsimp only at hq hRq hq1 hq2
  dsimp only
  refine J4 ?_
  refine JT (fun h444=>?_) (fun h444=>?_)
  refine J9 ?_
  have hql:q<2:=Er
  have hgr:=hq2 q hql (Nat.le_refl _)
  refine J2 ?_
  refine zV ((BR (lo:=q) rfl rfl rfl Tryz.underlying78 AP rfl hql)) rfl<|zV (AA rfl rfl AK (cellAt (g:=g10) (v:=.int .i64 (t.c q).st) (G0 t hql _))) rfl<|?_
  refine JT (fun h451=>?_) (fun h451=>?_)
  refine J9 ?_
  refine WC.BB mixed<|rF 22 [0,1,2,3,22,23]<|?_
  obtain ⟨ra,rl,rc,hRg⟩:=hgr.1
  refine J3 ?_
  refine pV ((BR (lo:=q) rfl rfl rfl Tryz.underlying78 AP rfl hql)) rfl ?_
  refine J1 ?_
  refine pV ((BR (lo:=q) rfl rfl rfl Tryz.underlying85 G9 rfl hql)) rfl ?_
  refine J1 ?_
  refine rA 1 [4,5,6,7,8,9,10,11,12,13,14,15,16,17,18,19,20,21,24,25,26] rfl<|qV (AA rfl rfl AK (cellAt (g:=g10) (v:=.int .i64 (t.c q).st) (G0 t hql _))) rfl<|?_
  refine qV ((BY rfl rfl rfl).f Er) rfl ?_
  refine J16 ?_
  refine qV (AA rfl rfl G3 (cellAt (g:=g11) (v:=.slice ra rl rc) Gb)) rfl ?_
  refine WQ.call _ rfl rfl ck_41 (.none rfl) rfl rfl (fun w hS=>Calls.still (Z5 w false ra rl rc) hS)<|qV ((BR (lo:=q) rfl rfl rfl Tryz.underlying85 G9 rfl hql)) rfl<|?_
  refine J1 ?_
  refine rO 0 [27] ?_
  refine WL.DA rfl rfl rfl rfl G3 (show 0+q<Rq.length by omega) (.none rfl) rfl ?_
  rw [show 0+q=q from Nat.zero_add q]
  refine J6 ?_
  refine zV (AS rfl rfl rfl (show _=((q+1:Nat):Int) from (AF Er Er).trans Er)) rfl ?_
  refine J2 ?_
  exact eW (q+1,Rq.set q (.slice none 0 0)) Eu (VB hql hRq hq1 hq2 (LC hI2.fine hql h451))
  refine J2 ?_
  refine zS ((BR (lo:=q) rfl rfl rfl Tryz.underlying78 AP rfl hql)) rfl ?_
  refine zS (AA rfl rfl AK (cellAt (g:=g15) (v:=.int .i64 (s.c q).st) (by rw [Nat.zero_add];exact VW s hql))) rfl ?_
  refine JT (fun h456=>?_) (fun h456=>?_)
  refine J4 ?_
  refine WC.BB mixed<|rF 22 [0,1,2,3,22,23]<|?_
  obtain ⟨ra,rl,rc,hRg⟩:=hgr.1
  refine J3 ?_
  refine pV ((BR (lo:=q) rfl rfl rfl Tryz.underlying78 AP rfl hql)) rfl ?_
  refine J1 ?_
  refine pV ((BR (lo:=q) rfl rfl rfl Tryz.underlying85 G9 rfl hql)) rfl ?_
  refine J1 ?_
  refine rA 1 [4,5,6,7,8,9,10,11,12,13,14,15,16,17,18,19,20,21,24,25,26] rfl<|qV (AA rfl rfl AK (cellAt (g:=g10) (v:=.int .i64 (t.c q).st) (G0 t hql _))) rfl<|?_
  refine qV ((BY rfl rfl rfl).t Er) rfl ?_
  refine J2 ?_
  refine WQ.val ((BR (lo:=q) rfl rfl rfl Tryz.underlying78 AP rfl hql)) (.some rfl rfl rfl) rfl rfl ?_
  refine WQ.val (AA rfl rfl AK (cellAt (g:=g15) (v:=.int .i64 (s.c q).st) (by rw [Nat.zero_add];exact VW s hql))) (.some rfl rfl rfl) rfl rfl ?_
  refine WQ.val ((AZ rfl rfl rfl).t Er) (.some rfl rfl rfl) rfl rfl ?_
  refine J3 ?_
  refine WQ.val (AA rfl rfl AK (cellAt (g:=g13) (v:=.int .i64 x.k) rfl)) (.some rfl rfl rfl) rfl rfl<|WQ.val ((AZ rfl rfl rfl).f ((fun h=>h451 ((hgr.2.2 h456).2 (.inl h))))) (.some rfl rfl rfl) rfl rfl<|?_
  refine J2 ?_
  refine WQ.val (AA rfl rfl AK (cellAt (g:=g13) (v:=.int .i64 x.k) rfl)) (.some rfl rfl rfl) rfl rfl<|WQ.val ((AZ rfl rfl rfl).f ((fun h=>h451 ((hgr.2.2 h456).2 (.inr h))))) (.some rfl rfl rfl) rfl rfl<|?_
  refine J2 ?_
  refine qV (AA rfl rfl G3 (cellAt (g:=g11) (v:=.slice ra rl rc) Gb)) rfl ?_
  refine WQ.call _ rfl rfl ck_41 (.none rfl) rfl rfl (fun w hS=>Calls.still (Z5 w false ra rl rc) hS)<|qV ((BR (lo:=q) rfl rfl rfl Tryz.underlying85 G9 rfl hql)) rfl<|?_
  refine J1 ?_
  refine rO 0 [27] ?_
  refine WL.DA rfl rfl rfl rfl G3 (show 0+q<Rq.length by omega) (.none rfl) rfl ?_
  rw [show 0+q=q from Nat.zero_add q]
  refine J6 ?_
  refine zV (AS rfl rfl rfl (show _=((q+1:Nat):Int) from (AF Er Er).trans Er)) rfl ?_
  refine J2 ?_
  exact eW (q+1,Rq.set q (.slice none 0 0)) Eu (VB hql hRq hq1 hq2 (hgr.2.2 h456).1)
  refine J9 ?_
  refine zV (AS rfl rfl rfl (show _=((q+1:Nat):Int) from (AF Er Er).trans Er)) rfl ?_
  refine J2 ?_
  exact eW (q+1,Rq) Eu ⟨by dsimp only;omega,hRq,fun n hn h=>by
  by_cases e:n=q
  · subst e;exact hgr.2.1 h456 h451
  · exact hq1 n hn (by dsimp only at h;omega),fun n hn h=>hq2 n hn (by dsimp only at h;omega)⟩
  refine J20 ?_
  refine WC.loop (fun j:Nat=>[(28, .int .i64 j),(27, .int .u32 (idF t j)),(14, .slice ad2 fs.length c2),(15, .pointer (some ⟨g15,0,none⟩)),(13, .pointer (some ⟨g13,0,none⟩)),(12, .int .i64 k),(11, .pointer (some ⟨g11,0,none⟩)),(10, .pointer (some ⟨g10,0,none⟩)),(5, .pointer (some ⟨g,0,none⟩)),(1, .slice sa ss.length sc)]) (fun _=>OE++(EF++(KF++(.row g15 [.int .i64 s.c0.st, .int .i64 s.c1.st]::.row g13 x.cells::.row g11 Rq::.row g10 (rfC t (.slice oad rs.length oc))::.row g p2.cells::(E02++(E12++d2.L p2.gC t.now ER2)))))) (fun j=>j≤2) (fun j=>2-j) 0 (Nat.zero_le _) Km (.refl _) ?_
  rintro j hj
  refine J4 ?_
  refine JT (fun h486=>?_) (fun h486=>?_)
  refine J11 ?_
  refine zV ((BR (lo:=j) rfl rfl rfl Tryz.underlying78 AP rfl Er)) rfl ?_
  refine zV (AA rfl rfl AK (cellAt (g:=g10) (v:=.int .i64 (t.c j).st) (G0 t Er _))) rfl ?_
  refine JT (fun h493=>?_) (fun h493=>?_)
  refine J6 ?_
  refine zV ((BR (lo:=j) rfl rfl rfl Tryz.underlying79 K5 rfl Er)) rfl ?_
  refine zV (AA rfl rfl Lt (cellAt (g:=g10) (v:=.int .u32 (t.c j).id) (rf_gid t Er _))) rfl ?_
  refine J6 ?_
  refine zV (AS rfl rfl rfl (show _=((j+1:Nat):Int) from (AF Er Er).trans Er)) rfl ?_
  refine J2 ?_
  exact eW (j+1) Er Er (.cons rfl (.int rfl (show (t.c j).id=idF t (j+1) from (if_pos h493).symm) (.cons rfl (.cons rfl (.cons rfl (.cons rfl (.cons rfl (.cons rfl (.cons rfl (.cons rfl .nil))))))))))
  refine J8 ?_
  refine zV (AS rfl rfl rfl (show _=((j+1:Nat):Int) from (AF Er Er).trans Er)) rfl ?_
  refine J2 ?_
  exact eW (j+1) Er Er (.cons rfl (.int rfl (show idF t j=idF t (j+1) from (if_neg h493).symm) (.cons rfl (.cons rfl (.cons rfl (.cons rfl (.cons rfl (.cons rfl (.cons rfl (.cons rfl .nil))))))))))
  refine J9 ?_
  refine cQ mixed ?_
  obtain rfl:j=2:=by omega
  have hq3:∀ n,n<2→II ER2 Rq n (t.c n).wait:=fun n hn=>hq1 n hn Er
  have hmo:max (max p2.base p2.c0.st) p2.c1.st=max (max t.base t.c0.st) t.c1.st:=by
    have b0:p2.base=t.base:=(congrArg Se.base hA2.eq :)
    have b1:p2.c0.st=t.c0.st:=(congrArg (fun z:Se=>z.c0.st) hA2.eq :)
    have b2:p2.c1.st=t.c1.st:=(congrArg (fun z:Se=>z.c1.st) hA2.eq :)
    rw [b0,b1,b2]
  refine J2 ?_
  refine qV (AA rfl rfl T4 (cellAt (g:=g10) (v:=.slice oad rs.length oc) rfl)) rfl ?_
  refine WQ.call _ rfl rfl ck_42 (.none rfl) rfl rfl (fun w hS=>Calls.still (same_c w ad2 c2 fs EF KF hV2 (fun e he=>hS.holds e (by rcases List.mem_append.1 he with he|he <;> simp [he])) oad oc rs (trf0 hT hS (List.sublist_append_left _ _)) hRel Er) hS) ?_
  refine J3 ?_
  refine WQ.call _ rfl rfl Vl (.some rfl rfl rfl) rfl rfl (fun w hS=>Calls.still (Rm w g p2 (hS.row (g:=g))) hS) ?_
  refine J1 ?_
  refine WQ.call _ rfl rfl ck_43 (.some rfl rfl rfl) rfl rfl (fun w hS=>Calls.still (Adb w t oad rs.length oc) hS)<|WQ.val ((BY rfl rfl rfl).f ((fun h=>h hmo))) (.some rfl rfl rfl) rfl rfl<|?_
  refine J3 ?_
  refine WQ.call _ rfl rfl ck_25 (.some rfl rfl rfl) rfl rfl (fun w hS=>Calls.still (now_c w0 w g p2 d2 t.now (OE++(EF++(KF++(.row g15 [.int .i64 s.c0.st, .int .i64 s.c1.st]::.row g13 x.cells::.row g11 Rq::.row g10 (rfC t (.slice oad rs.length oc))::.row g p2.cells::(E02++(E12++ER2)))))) (hS.row (g:=g)) hS.AX) hS) ?_
  refine J1 ?_
  refine WQ.val (AA rfl rfl AK (cellAt (g:=g10) (v:=.int .i64 t.now) rfl)) (.some rfl rfl rfl) rfl rfl<|WQ.val ((BY rfl rfl rfl).f ((fun h=>h rfl))) (.some rfl rfl rfl) rfl rfl<|?_
  refine J3 ?_
  refine WQ.call _ rfl rfl Zt (.some rfl rfl rfl) rfl rfl (fun w hS=>Calls.still (VF w g p2 (hS.row (g:=g))) hS) ?_
  refine J1 ?_
  refine WQ.val ((BY rfl rfl rfl).f ((fun h=>h (XK hA2 hI2.jt)))) (.some rfl rfl rfl) rfl rfl ?_
  refine J9 ?_
  refine zV (AS rfl rfl rfl (show _=((k+1:Nat):Int) from (AF Er Er).trans Er)) rfl ?_
  refine J2 ?_
  exact WE.to (L':=.row g11 Rq::.row g10 (rfC t (.slice oad rs.length oc))::.row g p2.cells::(E02++(E12++d2.L p2.gC t.now ER2))) (fun w hS=>hS.CE (OE++(EF++(KF++[.row g15 [.int .i64 s.c0.st, .int .i64 s.c1.st], .row g13 x.cells])))) (eW ⟨k+1,t,p2,E02,E12,d2, .slice oad rs.length oc,Rq,ER2⟩ Eu ⟨by dsimp only;omega,by dsimp only;omega,hA2,by dsimp only;rw [show ((k+1:Nat):Int)=(k:Int)+1 from rfl];exact hI2,hRq,hq3⟩)
  refine J22 ?_
  exact Aw
  refine J15 ?_
  exact A9
  refine J18 ?_
  exact A9
end Gq

theorem Ks {P:Program}{w:World}{e s len:Nat}{a:Option Addr}{α:Type}{enc:α→List Value}{good:α→Prop}(hx:∀ cs,cs.length=s→Tree P w e cs→∃ x,cs=enc x∧good x) (h:La P w e s a len):∃ xs:List α,xs.length=len∧EI w a s enc xs∧∀ x∈xs,good x:=by
  by_cases hl:0<len
  · obtain ⟨b,off,rfl,hE⟩:=h hl
    have hE':∀ i:Fin len, ∃ x,w.rangeAt b (off+i.1*s) (enc x)∧good x:=fun i=>by
      obtain ⟨cs,hc,hr,hT⟩:=hE i.1 i.2
      obtain ⟨x,rfl,hg⟩:=hx cs hc hT
      exact ⟨x,hr,hg⟩
    refine ⟨List.ofFn fun i=>Classical.choose (hE' i),List.length_ofFn,fun i x hi=>?_,fun x hm=>?_⟩
    · rw [List.getElem?_ofFn] at hi
      split at hi
      · rename_i hlt
        obtain rfl:=Option.some.inj hi
        exact ⟨b,off,rfl,(Classical.choose_spec (hE' ⟨i,hlt⟩)).1⟩
      · cases hi
    · obtain ⟨i,rfl⟩:=List.mem_ofFn.1 hm
      exact (Classical.choose_spec (hE' i)).2
  · refine ⟨[],by rw [List.length_nil];omega,fun i x hi=>by simp at hi,fun x hm=>by cases hm⟩
theorem AU.V0 {w:World}{a:Option Addr}{f:Int→Value}{xs:List Int}(h:EI w a 1 (fun x=>[f x]) xs):AU w a (xs.map f):=fun hn=>by
  rw [List.length_map] at hn
  obtain ⟨b,o,e,_⟩:=h 0 _ (List.getElem?_eq_getElem hn)
  refine ⟨b,o,e,fun j v hj=>?_⟩
  rw [List.getElem?_map] at hj
  cases hx:xs[j]? with
  | none=>rw [hx] at hj;cases hj
  | some x =>
    rw [hx] at hj
    obtain rfl:=Option.some.inj hj
    obtain ⟨b',o',e',hr⟩:=h j x hx
    rw [e] at e'
    cases e'
    have:=hr 0 _ rfl
    rwa [Nat.mul_one,Nat.add_zero] at this
theorem La.u8 {w:World}{len:Nat}{a:Option Addr}(h:La Tryz.prog w 5 1 a len):∃ xs:List Int,xs.length=len∧AU w a (u8s xs)∧Bys xs:=by
  obtain ⟨xs,hl,hr,hg⟩:=Ks (enc:=fun x=>[.int .u8 x]) (good:=fun x=>0≤x∧x≤255) (fun cs hc hT=>by
    match cs,hc with
    | [x],_ =>
      obtain ⟨n,rfl,hw⟩:=Tree.int Tryz.underlying5 hT
      exact ⟨n,rfl,wf_u8 hw⟩) h
  exact ⟨xs,hl,AU.V0 hr,hg⟩
theorem La.i64 {w:World}{len:Nat}{a:Option Addr}(h:La Tryz.prog w 3 1 a len):∃ xs:List Int,xs.length=len∧AU w a (CG xs)∧∀ x∈xs,I64 x:=by
  obtain ⟨xs,hl,hr,hg⟩:=Ks (enc:=fun x=>[.int .i64 x]) (good:=fun x=>I64 x) (fun cs hc hT=>by
    match cs,hc with
    | [x],_ =>
      obtain ⟨n,rfl,hw⟩:=Tree.int Tryz.underlying3 hT
      exact ⟨n,rfl,wf_i64 hw⟩) h
  exact ⟨xs,hl,AU.V0 hr,hg⟩
theorem Tree.u8sl {w:World}{x:Value}(h:Tree Tryz.prog w 25 [x]):∃ a cap, ∃ xs:List Int,x = .slice a xs.length cap∧xs.length≤cap∧cap≤maxLen∧AU w a (u8s xs)∧Bys xs:=by
  obtain ⟨a,len,cap,rfl,h1,h2,hE⟩:=Tree.slice (s:=1) Tryz.underlying25 Es Et h
  obtain ⟨xs,rfl,hc,hb⟩:=La.u8 hE
  exact ⟨a,cap,xs,rfl,h1,h2,hc,hb⟩
theorem Tree.i64sl {w:World}{x:Value}(h:Tree Tryz.prog w 32 [x]):∃ a cap, ∃ xs:List Int,x = .slice a xs.length cap∧xs.length≤cap∧cap≤maxLen∧AU w a (CG xs)∧∀ x∈xs,I64 x:=by
  obtain ⟨a,len,cap,rfl,h1,h2,hE⟩:=Tree.slice (s:=1) Tryz.underlying32 Es Et h
  obtain ⟨xs,rfl,hc,hb⟩:=La.i64 hE
  exact ⟨a,cap,xs,rfl,h1,h2,hc,hb⟩
theorem Tree.SC {P:Program}{w:World}{t:TypeId}{cs:List Value}{ts:List TypeId}(h:Tree P w t cs) (F:Nat) (hl:Uc P F t=true) (hf:flat P F t=ts):Leaves P w ts cs:=hf ▸ Tree.leaves F t cs hl h
theorem JG:maxLen≤9223372036854775807:=by decide
theorem Tree.CS {w:World}{x:Value}(h:Tree Tryz.prog w 29 [x]):∃ a cap, ∃ xs:List BU,x = .slice a xs.length cap∧xs.length≤9223372036854775807∧EI w a 2 BU.cells xs∧∀ c∈xs,AU w c.ad (u8s c.val)∧I64 c.code∧c.val.length≤9223372036854775807∧Bys c.val:=by
  obtain ⟨a,len,cap,rfl,h1,h2,hE⟩:=Tree.slice (s:=2) Tryz.underlying29 Es Et h
  have hm:=JG
  obtain ⟨xs,rfl,hr,hg⟩:=Ks (enc:=BU.cells) (good:=fun c=>AU w c.ad (u8s c.val)∧I64 c.code∧c.val.length≤9223372036854775807∧Bys c.val) (fun cs hc hT=>by
    have hL:=Tree.SC (ts:=[3,25]) hT 4 Es Es
    obtain ⟨x,_,rfl,hx,y,_,rfl,hy,rfl⟩:=hL
    obtain ⟨n,rfl,hw⟩:=Tree.int Tryz.underlying3 hx
    obtain ⟨a',cap',ys,rfl,k1,k2,k3,k4⟩:=Tree.u8sl hy
    exact ⟨⟨n,a',cap',ys⟩,rfl,k3,wf_i64 hw,by dsimp only;omega,k4⟩) hE
  exact C7
theorem Tree.pfs {w:World}{x:Value}(h:Tree Tryz.prog w 30 [x]):∃ a cap, ∃ xs:List PfL,x = .slice a xs.length cap∧xs.length≤9223372036854775807∧EI w a 2 PfL.cells xs∧∀ p∈xs,U32 p.addr∧I64 p.len:=by
  obtain ⟨a,len,cap,rfl,h1,h2,hE⟩:=Tree.slice (s:=2) Tryz.underlying30 Es Et h
  have hm:=JG
  obtain ⟨xs,rfl,hr,hg⟩:=Ks (enc:=PfL.cells) (good:=fun p=>U32 p.addr∧I64 p.len) (fun cs hc hT=>by
    have hL:=Tree.SC (ts:=[23,3]) hT 4 Es Es
    obtain ⟨x,_,rfl,hx,y,_,rfl,hy,rfl⟩:=hL
    obtain ⟨n,rfl,hw⟩:=Tree.int Tryz.underlying23 hx
    obtain ⟨n2,rfl,hw2⟩:=Tree.int Tryz.underlying3 hy
    exact ⟨⟨n,n2⟩,rfl,wf_u32 hw,wf_i64 hw2⟩) hE
  exact C7
theorem Tree.H5 {w:World}{x:Value}(h:Tree Tryz.prog w 31 [x]):∃ a cap, ∃ xs:List DO,x = .slice a xs.length cap∧xs.length≤9223372036854775807∧EI w a 2 DO.cells xs∧∀ c∈xs,AU w c.ad (CG c.asl)∧c.asl.length≤9223372036854775807∧∀ x∈c.asl,I64 x:=by
  obtain ⟨a,len,cap,rfl,h1,h2,hE⟩:=Tree.slice (s:=2) Tryz.underlying31 Es Et h
  have hm:=JG
  obtain ⟨xs,rfl,hr,hg⟩:=Ks (enc:=DO.cells) (good:=fun c=>AU w c.ad (CG c.asl)∧c.asl.length≤9223372036854775807∧∀ x∈c.asl,I64 x) (fun cs hc hT=>by
    have hL:=Tree.SC (ts:=[4,32]) hT 4 Es Es
    obtain ⟨x,_,rfl,hx,y,_,rfl,hy,rfl⟩:=hL
    obtain ⟨n,rfl⟩:=Tree.bool Tryz.underlying4 hx
    obtain ⟨a',cap',ys,rfl,k1,k2,k3,k4⟩:=Tree.i64sl hy
    exact ⟨⟨n,a',cap',ys⟩,rfl,k3,by dsimp only;omega,k4⟩) hE
  exact C7
theorem Tree.Jk {w:World}{x:Value}(h:Tree Tryz.prog w 33 [x]):∃ a cap, ∃ xs:List CB,x = .slice a xs.length cap∧xs.length≤9223372036854775807∧EI w a 2 CB.cells xs∧∀ c∈xs,AU w c.ad (u8s c.val)∧I64 c.ty∧c.val.length≤9223372036854775807∧Bys c.val:=by
  obtain ⟨a,len,cap,rfl,h1,h2,hE⟩:=Tree.slice (s:=2) Tryz.underlying33 Es Et h
  have hm:=JG
  obtain ⟨xs,rfl,hr,hg⟩:=Ks (enc:=CB.cells) (good:=fun c=>AU w c.ad (u8s c.val)∧I64 c.ty∧c.val.length≤9223372036854775807∧Bys c.val) (fun cs hc hT=>by
    have hL:=Tree.SC (ts:=[3,25]) hT 4 Es Es
    obtain ⟨x,_,rfl,hx,y,_,rfl,hy,rfl⟩:=hL
    obtain ⟨n,rfl,hw⟩:=Tree.int Tryz.underlying3 hx
    obtain ⟨a',cap',ys,rfl,k1,k2,k3,k4⟩:=Tree.u8sl hy
    exact ⟨⟨n,a',cap',ys⟩,rfl,k3,wf_i64 hw,by dsimp only;omega,k4⟩) hE
  exact C7
theorem U0 {w:World}{cs:List Value}(hL:Leaves Tryz.prog w [3,3,3,23,29,30,3,3,31,23,3,3,3,23,32,33,30,3,3,9] cs):∃ m:MsL,cs=m.cells∧m.At w∧m.In:=by
  obtain ⟨x0,_,rfl,h0,x1,_,rfl,h1,x2,_,rfl,h2,x3,_,rfl,h3,x4,_,rfl,h4,x5,_,rfl,h5,x6,_,rfl,h6,x7,_,rfl,h7,x8,_,rfl,h8,x9,_,rfl,h9,x10,_,rfl,h10,x11,_,rfl,h11,x12,_,rfl,h12,x13,_,rfl,h13,x14,_,rfl,h14,x15,_,rfl,h15,x16,_,rfl,h16,x17,_,rfl,h17,x18,_,rfl,h18,x19,_,rfl,h19,rfl⟩:=hL
  obtain ⟨n0,rfl,w0⟩:=Tree.int Tryz.underlying3 h0
  obtain ⟨n1,rfl,w1⟩:=Tree.int Tryz.underlying3 h1
  obtain ⟨n2,rfl,w2⟩:=Tree.int Tryz.underlying3 h2
  obtain ⟨n3,rfl,w3⟩:=Tree.int Tryz.underlying23 h3
  obtain ⟨a4,c4,l4,rfl,k4,r4,g4⟩:=Tree.CS h4
  obtain ⟨a5,c5,l5,rfl,k5,r5,g5⟩:=Tree.pfs h5
  obtain ⟨n6,rfl,w6⟩:=Tree.int Tryz.underlying3 h6
  obtain ⟨n7,rfl,w7⟩:=Tree.int Tryz.underlying3 h7
  obtain ⟨a8,c8,l8,rfl,k8,r8,g8⟩:=Tree.H5 h8
  obtain ⟨n9,rfl,w9⟩:=Tree.int Tryz.underlying23 h9
  obtain ⟨n10,rfl,w10⟩:=Tree.int Tryz.underlying3 h10
  obtain ⟨n11,rfl,w11⟩:=Tree.int Tryz.underlying3 h11
  obtain ⟨n12,rfl,w12⟩:=Tree.int Tryz.underlying3 h12
  obtain ⟨n13,rfl,w13⟩:=Tree.int Tryz.underlying23 h13
  obtain ⟨a14,c14,l14,rfl,k14,j14,r14,g14⟩:=Tree.i64sl h14
  obtain ⟨a15,c15,l15,rfl,k15,r15,g15⟩:=Tree.Jk h15
  obtain ⟨a16,c16,l16,rfl,k16,r16,g16⟩:=Tree.pfs h16
  obtain ⟨n17,rfl,w17⟩:=Tree.int Tryz.underlying3 h17
  obtain ⟨n18,rfl,w18⟩:=Tree.int Tryz.underlying3 h18
  obtain ⟨d19,rfl,w19⟩:=Tree.string Tryz.underlying9 h19
  have hm:=JG
  exact ⟨⟨n0,n1,n2,n3,a4,c4,l4,a5,c5,l5,⟨n6,n7,a8,c8,l8,n9,n10,n11,n12,n13,a14,c14,l14,a15,c15,l15⟩,a16,c16,l16,n17,n18,d19⟩,rfl,
    ⟨r4,fun c hc=>(g4 c hc).1,r5,r16,⟨r8,fun c hc=>(g8 c hc).1,r14,r15,fun c hc=>(g15 c hc).1⟩⟩,
    ⟨wf_i64 w0,wf_i64 w1,wf_i64 w2,wf_u32 w3,wf_i64 w17,wf_i64 w18,fun c hc=>(g4 c hc).2,g5,g16,
      ⟨wf_i64 w6,wf_i64 w7,wf_u32 w9,wf_i64 w10,wf_i64 w11,wf_i64 w12,wf_u32 w13,fun c hc=>(g8 c hc).2,g14,fun c hc=>(g15 c hc).2,k8,by dsimp only;omega,k15⟩,k4,k5,k16,by dsimp only;omega⟩⟩
end Go.Proofs.YtcmpamnhegndnaaGreatDoor
namespace Go.Proofs.YtcmpamnhegndnaaGreatDoor
open Go.RowKit Go.ChangeShapes Go.WideShapes

theorem L3 {P:Program}{w:World}:∀ (A:List TypeId){B:List TypeId}{cs:List Value},Leaves P w (A++B) cs→∃ c1 c2,cs=c1++c2∧Leaves P w A c1∧Leaves P w B c2
  | [],B,cs,h=>⟨[],cs,rfl,rfl,h⟩
  | a::A,B,cs,h=>by
    obtain ⟨x,r,rfl,hx,hr⟩:=h
    obtain ⟨c1,c2,rfl,h1,h2⟩:=L3 A hr
    exact ⟨x::c1,c2,rfl,⟨x,c1,rfl,hx,h1⟩,h2⟩
theorem La.stps {w:World}{len:Nat}{a:Option Addr}(h:La Tryz.prog w 71 28 a len):∃ ss:List Q8,ss.length=len∧EI w a 28 Q8.cells ss∧∀ x∈ss,x.Ok w:=by
  obtain ⟨xs,e,hr,hg⟩:=Ks (enc:=Q8.cells) (good:=fun x=>x.Ok w) (fun cs hc hT=>by
    have hL:=Tree.SC (ts:=[3,3]++([3,3,3,23,29,30,3,3,31,23,3,3,3,23,32,33,30,3,3,9]++[25,3,3,3,3,9])) hT 8 Es Es
    obtain ⟨c1,c2,rfl,h1,h2⟩:=L3 _ hL
    obtain ⟨c3,c4,rfl,h3,h4⟩:=L3 _ h2
    obtain ⟨x0,_,rfl,i0,x1,_,rfl,i1,rfl⟩:=h1
    obtain ⟨m,rfl,hm1,hm2⟩:=U0 h3
    obtain ⟨x2,_,rfl,i2,x3,_,rfl,i3,x4,_,rfl,i4,x5,_,rfl,i5,x6,_,rfl,i6,x7,_,rfl,i7,rfl⟩:=h4
    obtain ⟨n0,rfl,w0⟩:=Tree.int Tryz.underlying3 i0
    obtain ⟨n1,rfl,w1⟩:=Tree.int Tryz.underlying3 i1
    obtain ⟨a2,c2,l2,rfl,k2,j2,r2,g2⟩:=Tree.u8sl i2
    obtain ⟨n3,rfl,w3⟩:=Tree.int Tryz.underlying3 i3
    obtain ⟨n4,rfl,w4⟩:=Tree.int Tryz.underlying3 i4
    obtain ⟨n5,rfl,w5⟩:=Tree.int Tryz.underlying3 i5
    obtain ⟨n6,rfl,w6⟩:=Tree.int Tryz.underlying3 i6
    obtain ⟨d7,rfl,w7⟩:=Tree.string Tryz.underlying9 i7
    exact ⟨⟨n0,n1,m,a2,c2,l2,n3,n4,n5,n6,d7⟩,rfl,wf_i64 w1,hm1,hm2,r2,g2,k2,wf_i64 w3,wf_i64 w4,wf_i64 w5,wf_i64 w6⟩) h
  exact ⟨xs,e,hr,hg⟩
end Go.Proofs.YtcmpamnhegndnaaGreatDoor
