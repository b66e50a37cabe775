/- Texts joined: engine, contracts and laws, in the order in which they build. -/
import Derived.Test.YtcmpamnhegndnaaGreatDoorBcPeerRuns
namespace Go.Proofs.YtcmpamnhegndnaaGreatDoor
open Go.RowKit


def u8s (xs:List Int):List Value:=xs.map fun x=>.int .u8 x
def CG (xs:List Int):List Value:=xs.map fun x=>.int .i64 x
theorem GO (xs:List Int):(u8s xs).length=xs.length:=by simp [u8s]
theorem K8 (xs:List Int):(CG xs).length=xs.length:=by simp [CG]
theorem CH (xs ys:List Int):u8s (xs++ys)=u8s xs++u8s ys:=by simp [u8s]
theorem Hs (xs ys:List Int):CG (xs++ys)=CG xs++CG ys:=by simp [CG]
theorem CQ (xs:List Int):(u8s xs).all one=true:=List.all_eq_true.2 (fun v hv=>by obtain ⟨b,_,rfl⟩:=List.mem_map.1 hv;rfl)
theorem H6 (xs:List Int):(CG xs).all one=true:=List.all_eq_true.2 (fun v hv=>by obtain ⟨b,_,rfl⟩:=List.mem_map.1 hv;rfl)
theorem VU {xs:List Int}{i:Nat}{x:Int}(h:xs[i]?=some x):(u8s xs)[i]?=some (.int .u8 x):=by unfold u8s;rw [List.getElem?_map,h];rfl
theorem Ke {xs:List Int}{i:Nat}{x:Int}(h:xs[i]?=some x):(CG xs)[i]?=some (.int .i64 x):=by unfold CG;rw [List.getElem?_map,h];rfl
def Bys (xs:List Int):Prop:=∀ x∈xs,0≤x∧x≤255
theorem Bys.app {xs ys:List Int}(h1:Bys xs) (h2:Bys ys):Bys (xs++ys):=fun x hx=>(List.mem_append.1 hx).elim (h1 x) (h2 x)
theorem Bys.nil:Bys []:=fun _ h=>by cases h
def EI (w:World) (ad:Option Addr) (s:Nat){α:Type}(enc:α→List Value) (xs:List α):Prop:=∀ (i:Nat) (x:α),xs[i]?=some x→∃ b o,ad=some ⟨b,o,none⟩∧w.rangeAt b (o+i*s) (enc x)
theorem EI.frm {w w':World}{ad:Option Addr}{s:Nat}{α:Type}{enc:α→List Value}{xs:List α}(h:EI w ad s enc xs) (hw:∀ b o cs,w.rangeAt b o cs→w'.rangeAt b o cs):EI w' ad s enc xs:=fun i x hi=>by
  obtain ⟨b,o,e,hr⟩:=h i x hi
  exact ⟨b,o,e,hw _ _ _ hr⟩
theorem EI.get {w:World}{b o s:Nat}{α:Type}{enc:α→List Value}{xs:List α}{i:Nat}{x:α}(h:EI w (some ⟨b,o,none⟩) s enc xs) (hi:xs[i]?=some x):w.rangeAt b (o+i*s) (enc x):=by
  obtain ⟨b',o',e',hr⟩:=h i x hi
  injection e' with e'
  injection e' with e1 e2
  subst e1 e2
  exact hr
def AU (w:World) (ad:Option Addr) (cs:List Value):Prop:=0<cs.length→∃ b o,ad=some ⟨b,o,none⟩∧w.rangeAt b o cs
theorem AU.frm {w w':World}{ad:Option Addr}{cs:List Value}(h:AU w ad cs) (hw:∀ b o cs,w.rangeAt b o cs→w'.rangeAt b o cs):AU w' ad cs:=fun hn=>by
  obtain ⟨b,o,e,hr⟩:=h hn
  exact ⟨b,o,e,hw _ _ _ hr⟩
structure BU where
  code:Int
  ad:Option Addr
  cap:Nat
  val:List Int
def BU.cells (c:BU):List Value:=[.int .i64 c.code, .slice c.ad c.val.length c.cap]
structure PfL where
  addr:Int
  len:Int
def PfL.cells (p:PfL):List Value:=[.int .u32 p.addr, .int .i64 p.len]
structure DO where
  set:Bool
  ad:Option Addr
  cap:Nat
  asl:List Int
def DO.cells (s:DO):List Value:=[.bool s.set, .slice s.ad s.asl.length s.cap]
structure CB where
  ty:Int
  ad:Option Addr
  cap:Nat
  val:List Int
def CB.cells (o:CB):List Value:=[.int .i64 o.ty, .slice o.ad o.val.length o.cap]
structure AtL where
  has:Int
  origin:Int
  pad:Option Addr
  pc:Nat
  path:List DO
  hop:Int
  med:Int
  loc:Int
  aas:Int
  aid:Int
  cad:Option Addr
  cc:Nat
  comms:List Int
  oad:Option Addr
  oc:Nat
  others:List CB
def AtL.cells (a:AtL):List Value:=[.int .i64 a.has, .int .i64 a.origin, .slice a.pad a.path.length a.pc, .int .u32 a.hop, .int .i64 a.med, .int .i64 a.loc, .int .i64 a.aas, .int .u32 a.aid, .slice a.cad a.comms.length a.cc, .slice a.oad a.others.length a.oc]
structure MsL where
  kind:Int
  asn:Int
  hold:Int
  id:Int
  kad:Option Addr
  kc:Nat
  CS:List BU
  gad:Option Addr
  gc:Nat
  gone:List PfL
  atr:AtL
  nad:Option Addr
  nc:Nat
  nets:List PfL
  fc:Int
  fs:Int
  fd:ByteArray
def MsL.cells (m:MsL):List Value:=[.int .i64 m.kind, .int .i64 m.asn, .int .i64 m.hold, .int .u32 m.id, .slice m.kad m.CS.length m.kc, .slice m.gad m.gone.length m.gc, .int .i64 m.atr.has, .int .i64 m.atr.origin, .slice m.atr.pad m.atr.path.length m.atr.pc, .int .u32 m.atr.hop, .int .i64 m.atr.med, .int .i64 m.atr.loc, .int .i64 m.atr.aas, .int .u32 m.atr.aid, .slice m.atr.cad m.atr.comms.length m.atr.cc, .slice m.atr.oad m.atr.others.length m.atr.oc, .slice m.nad m.nets.length m.nc, .int .i64 m.fc, .int .i64 m.fs, .string m.fd]
def AtL.zero:AtL:=⟨0,0,none,0,[],0,0,0,0,0,none,0,[],none,0,[]⟩
def MsL.zero (k:Int):MsL:=⟨k,0,0,0,none,0,[],none,0,[], .zero,none,0,[],0,0,⟨#[]⟩⟩
structure AtL.At (w:World) (a:AtL):Prop where
  path:EI w a.pad 2 DO.cells a.path
  H5:∀ s∈a.path,AU w s.ad (CG s.asl)
  comms:AU w a.cad (CG a.comms)
  Jk:EI w a.oad 2 CB.cells a.others
  vals:∀ o∈a.others,AU w o.ad (u8s o.val)
structure MsL.At (w:World) (m:MsL):Prop where
  CS:EI w m.kad 2 BU.cells m.CS
  vals:∀ c∈m.CS,AU w c.ad (u8s c.val)
  gone:EI w m.gad 2 PfL.cells m.gone
  nets:EI w m.nad 2 PfL.cells m.nets
  at_:m.atr.At w
theorem AtL.At.frm {w w':World}{a:AtL}(h:a.At w) (hw:∀ b o cs,w.rangeAt b o cs→w'.rangeAt b o cs):a.At w':=⟨h.path.frm hw,fun s hs=>(h.H5 s hs).frm hw,h.comms.frm hw,h.Jk.frm hw,fun s hs=>(h.vals s hs).frm hw⟩
theorem MsL.At.frm {w w':World}{m:MsL}(h:m.At w) (hw:∀ b o cs,w.rangeAt b o cs→w'.rangeAt b o cs):m.At w':=⟨h.CS.frm hw,fun s hs=>(h.vals s hs).frm hw,h.gone.frm hw,h.nets.frm hw,h.at_.frm hw⟩
theorem St.rng {p:Nat→Prop}{w0 w:World}{L:List Ent}(hp:∀ b, ¬ p b) (hS:St p w0 w L) (b o:Nat) (cs:List Value) (h:w0.rangeAt b o cs):w.rangeAt b o cs:=fun j v hj=>hS.old (hp b) (h j v hj)
theorem MsL.At.st {w w':World}{L:List Ent}{m:MsL}(h:m.At w) (hS:St (fun _=>False) w w' L):m.At w':=h.frm (hS.rng fun _ h=>h)
theorem AtL.At.st {w w':World}{L:List Ent}{a:AtL}(h:a.At w) (hS:St (fun _=>False) w w' L):a.At w':=h.frm (hS.rng fun _ h=>h)
def I64 (x:Int):Prop := -9223372036854775808≤x∧x≤9223372036854775807
def U32 (x:Int):Prop:=0≤x∧x≤4294967295
structure AtL.In (a:AtL):Prop where
  has:I64 a.has
  origin:I64 a.origin
  hop:U32 a.hop
  med:I64 a.med
  loc:I64 a.loc
  aas:I64 a.aas
  aid:U32 a.aid
  H5:∀ s∈a.path,s.asl.length≤9223372036854775807∧∀ x∈s.asl,I64 x
  comms:∀ x∈a.comms,I64 x
  Jk:∀ o∈a.others,I64 o.ty∧o.val.length≤9223372036854775807∧Bys o.val
  lens:a.path.length≤9223372036854775807∧a.comms.length≤9223372036854775807∧a.others.length≤9223372036854775807
structure MsL.In (m:MsL):Prop where
  kind:I64 m.kind
  asn:I64 m.asn
  hold:I64 m.hold
  id:U32 m.id
  fc:I64 m.fc
  fs:I64 m.fs
  CS:∀ c∈m.CS,I64 c.code∧c.val.length≤9223372036854775807∧Bys c.val
  gone:∀ p∈m.gone,U32 p.addr∧I64 p.len
  nets:∀ p∈m.nets,U32 p.addr∧I64 p.len
  at_:m.atr.In
  lens:m.CS.length≤9223372036854775807∧m.gone.length≤9223372036854775807∧m.nets.length≤9223372036854775807∧m.fd.size≤9223372036854775807
section Gq
attribute [local irreducible] WL WC WE WQ WP WH WR WM WRH

theorem UI {a m:Nat}(ha:a<2 ^ 32) (hm:m≤32):a &&& (2 ^ 32-2 ^ m)=a-a % 2 ^ m:=by
  have e1:2 ^ 32-2 ^ m=(2 ^ (32-m)-1) <<< m:=by
    rw [Nat.shiftLeft_eq,Nat.sub_mul, ← Nat.pow_add,Nat.one_mul,show 32-m+m=32 by omega]
  have e2:a-a % 2 ^ m=(a >>> m) <<< m:=by
    rw [Nat.shiftLeft_eq,Nat.shiftRight_eq_div_pow]
    have:=Nat.div_add_mod a (2 ^ m)
    rw [Nat.mul_comm] at this
    omega
  rw [e1,e2]
  apply Nat.eq_of_testBit_eq
  intro i
  rw [Nat.testBit_and,Nat.testBit_shiftLeft,Nat.testBit_shiftLeft,Nat.testBit_two_pow_sub_one,Nat.testBit_shiftRight]
  by_cases h1:m≤i
  · rw [show m+(i-m)=i by omega]
    by_cases h2:i<32
    · simp [h1,show i-m<32-m by omega]
    · rw [Nat.testBit_lt_two_pow (Nat.lt_of_lt_of_le ha (Nat.pow_le_pow_right Et Er))];simp
  · simp [h1]
theorem Ach {a:Int}{m:Nat}(ha:0≤a) (ha':a≤4294967295) (hm:m≤32):bits .and .u32 a ((2 ^ 32-2 ^ m:Nat):Int)=a-a % ((2 ^ m:Nat):Int):=by
  obtain ⟨n,rfl⟩:=Int.eq_ofNat_of_zero_le ha
  have h0:0<2 ^ m:=Nat.two_pow_pos m
  have h1:2 ^ 32-2 ^ m<2 ^ 32:=Nat.sub_lt Et h0
  show IntKind.u32.wrap ((BitVec.ofInt 32 (n:Int) &&& BitVec.ofInt 32 ((2 ^ 32-2 ^ m:Nat):Int)).toNat:Int)=_
  rw [BitVec.ofInt_natCast,BitVec.ofInt_natCast,BitVec.toNat_and,BitVec.toNat_ofNat,BitVec.toNat_ofNat,Nat.mod_eq_of_lt Er,Nat.mod_eq_of_lt h1,UI Er hm,IntKind.wrap_u32]
  have h2:n % 2 ^ m≤n:=Nat.mod_le _ _
  have h3:((n % 2 ^ m:Nat):Int)=(n:Int) % ((2 ^ m:Nat):Int):=by simp
  omega
def inI (n:Int):Int:=min (max n 0) 32
theorem Zk (n:Int):0≤inI n∧inI n≤32:=by unfold inI;omega
def maskI (n:Int):Int:=((2 ^ 32-2 ^ (32-inI n).toNat:Nat):Int)
def EK (a n:Int):Int:=a-a % ((2 ^ (32-inI n).toNat:Nat):Int)
theorem SV (w:World) (n:Int):Calls Tryz.prog 131 #[.int .i64 n] w fun e w'=>e = .returned (.int .i64 (inI n))∧Frm (fun _=>False) w w':=by
  refine enter Tryz.func131 rfl Tryz.ntmps131 rfl (St.start (fun _=>False) w) ?_
  refine J8 ?_
  refine zV (Tm rfl rfl rfl) rfl<|zV (Le rfl rfl rfl) rfl<|?_
  exact Eb
theorem Z8 {m:Nat}(hm:m≤32):IntKind.u32.wrap (4294967295*(2:Int) ^ m)=((2 ^ 32-2 ^ m:Nat):Int):=by
  have:m=0∨m=1∨m=2∨m=3∨m=4∨m=5∨m=6∨m=7∨m=8∨m=9∨m=10∨m=11∨m=12∨m=13∨m=14∨m=15∨m=16∨m=17∨m=18∨m=19∨m=20∨m=21∨m=22∨m=23∨m=24∨m=25∨m=26∨m=27∨m=28∨m=29∨m=30∨m=31∨m=32:=by omega
  rcases this with rfl|rfl|rfl|rfl|rfl|rfl|rfl|rfl|rfl|rfl|rfl|rfl|rfl|rfl|rfl|rfl|rfl|rfl|rfl|rfl|rfl|rfl|rfl|rfl|rfl|rfl|rfl|rfl|rfl|rfl|rfl|rfl|rfl <;> decide
theorem Mask_c (w:World) (n:Int):Calls Tryz.prog 130 #[.int .i64 n] w fun e w'=>e = .returned (.int .u32 (maskI n))∧Frm (fun _=>False) w w':=by
  have hb:=Zk n
  refine enter Tryz.func130 rfl Tryz.ntmps130 rfl (St.start (fun _=>False) w) ?_
  refine J8 ?_
  refine zk Aaq rfl (fun w hS=>SV w n) ?_
  refine zV (EM rfl rfl rfl (show _=(32-inI n) from AF Er Er)) rfl ?_
  refine zV (OT (m:=(32-inI n).toNat) (c:=(2:Int) ^ (32-inI n).toNat) rfl rfl rfl Er (by show (32-inI n).toNat≤32;omega) rfl (Z8 Er)) rfl ?_
  exact Eb
theorem Of_c (w:World) (a n:Int) (ha:0≤a) (ha':a≤4294967295):Calls Tryz.prog 120 #[.int .u32 a, .int .i64 n] w fun e w'=>e = .returned (.agg #[.int .u32 (EK a n), .int .i64 (inI n)])∧Frm (fun _=>False) w w':=by
  have hb:=Zk n
  refine enter Tryz.func120 rfl Tryz.ntmps120 rfl (St.start (fun _=>False) w) ?_
  refine J2 ?_
  refine WL.alloc rfl JU (.none rfl) rfl rfl ?_
  intro g4 hg4
  refine J6 ?_
  refine zk ck_130 rfl (fun w hS=>Mask_c w n) ?_
  refine zV (J0 rfl rfl rfl (show _=(EK a n) from Ach ha ha' Er)) rfl ?_
  refine J1 ?_
  refine zk Aaq rfl (fun w hS=>SV w n) ?_
  refine J5 ?_
  exact A9
def Kr (p:PfL):Bool:=decide (p.addr=EK p.addr p.len∧p.len=inI p.len)
theorem ZX (w:World) (p:PfL) (ha:U32 p.addr):Calls Tryz.prog 97 #[.agg p.cells.toArray] w fun e w'=>e = .returned (.int .i64 (if Kr p then 0 else 1))∧Frm (fun _=>False) w w':=by
  cases hp:Kr p
  · have hn:¬ p.cells=[.int .u32 (EK p.addr p.len), .int .i64 (inI p.len)]:=by
      intro h
      unfold PfL.cells at h
      injection h with h1 h2
      injection h2 with h2 _
      injection h1 with _ h1
      injection h2 with _ h2
      unfold Kr at hp
      exact absurd ⟨h1,h2⟩ (of_decide_eq_false hp)
    refine enter Tryz.func97 rfl Tryz.ntmps97 rfl (St.start (fun _=>False) w) ?_
    refine J2 ?_
    refine WL.box rfl rfl rfl (.none rfl) rfl rfl ?_
    intro g1 hg1
    refine J5 ?_
    refine cQ mixed ?_
    refine J5 ?_
    refine WQ.call _ rfl rfl T6 (.none rfl) rfl rfl (fun w hS=>Calls.still (Of_c w p.addr p.len ha.1 ha.2) hS) ?_
    refine qV (Gp rfl rfl rfl Vj Vh rfl rfl (by exact hn)) rfl ?_
    refine J10 ?_
    exact A9
  · have hn:p.cells=[.int .u32 (EK p.addr p.len), .int .i64 (inI p.len)]:=by
      obtain ⟨h1,h2⟩:=of_decide_eq_true hp
      unfold PfL.cells
      rw [← h1, ← h2]
    refine enter Tryz.func97 rfl Tryz.ntmps97 rfl (St.start (fun _=>False) w) ?_
    refine J2 ?_
    refine WL.box rfl rfl rfl (.none rfl) rfl rfl ?_
    intro g1 hg1
    refine J5 ?_
    refine cQ mixed ?_
    refine J5 ?_
    refine WQ.call _ rfl rfl T6 (.none rfl) rfl rfl (fun w hS=>Calls.still (Of_c w p.addr p.len ha.1 ha.2) hS) ?_
    refine qV (EU rfl rfl rfl Vj Vh rfl rfl (by exact hn)) rfl ?_
    refine J11 ?_
    exact A9

theorem RJ (x:Int):bits .and .i64 x 1=x % 2:=by
  show IntKind.i64.wrap ((BitVec.ofInt 64 x &&& BitVec.ofInt 64 1).toNat:Int)=_
  rw [BitVec.toNat_and,BitVec.toNat_ofInt,show (BitVec.ofInt 64 1).toNat=2 ^ 1-1 by decide,Nat.and_two_pow_sub_one_eq_mod,IntKind.wrap_i64]
  omega
def hasB (has:Int) (k:Nat):Bool:=decide (1≤k∧k≤8∧has / 2 ^ k % 2=1)
def wiB (n most:Int):Bool:=decide (0≤n∧n≤most)
def Kq (a:Int):Bool:=decide (a / 16777216≠0∧a / 16777216≠127∧a / 16777216<224)
def Ji (s:DO):Bool:=decide (1≤s.asl.length∧s.asl.length≤255) && s.asl.all fun x=>decide (1≤x∧x≤65535)
def Jd (cs:List Int):Bool:=(cs.all fun x=>wiB x 4294967295) && decide (cs.length≤256)
theorem Nl (w:World) (t:Int):Calls Tryz.prog 121 #[.int .i64 t] w fun e w'=>e = .returned (.bool (decide (1≤t∧t≤8)))∧Frm (fun _=>False) w w':=by
  refine enter Tryz.func121 rfl Tryz.ntmps121 rfl (St.start (fun _=>False) w) ?_
  exact Bl
theorem UN (w:World) (t:Int) (h:1≤t∧t≤8):Calls Tryz.prog 121 #[.int .i64 t] w fun e w'=>e = .returned (.bool true)∧Frm (fun _=>False) w w' :=
  (Nl w t).mono (by rintro e w' ⟨rfl,h'⟩;exact ⟨by rw [decide_eq_true h],h'⟩)
theorem UQ (w:World) (t:Int) (h:¬ (1≤t∧t≤8)):Calls Tryz.prog 121 #[.int .i64 t] w fun e w'=>e = .returned (.bool false)∧Frm (fun _=>False) w w' :=
  (Nl w t).mono (by rintro e w' ⟨rfl,h'⟩;exact ⟨by rw [decide_eq_false h],h'⟩)
theorem Is_c (w:World) (a:AtL) (k:Nat) (hk:k≤60):Calls Tryz.prog 98 #[.agg a.cells.toArray, .int .i64 k] w fun e w'=>e = .returned (.bool (hasB a.has k))∧Frm (fun _=>False) w w':=by
  by_cases h6:1≤k∧k≤8
  · refine enter Tryz.func98 rfl Tryz.ntmps98 rfl (St.start (fun _=>False) w) ?_
    refine J2 ?_
    refine WL.box rfl rfl rfl (.none rfl) rfl rfl ?_
    intro g2 hg2
    refine J6 ?_
    refine zk UZ rfl (fun w hS=>UN w k Er) ?_
    refine J4 ?_
    refine zS ((Lc (m:=k) (c:=(2:Int) ^ k) rfl rfl rfl rfl (by show k≤64;omega) rfl)) rfl ?_
    refine zS (J0 rfl rfl rfl (RJ _)) rfl ?_
    refine JT (fun h13=>?_) (fun h13=>?_)
    refine J5 ?_
    refine eT1 ?_
    exact fun w' h=>⟨by unfold hasB;rw [decide_eq_true Er],h.frm⟩
    refine J5 ?_
    exact Dd
  · refine enter Tryz.func98 rfl Tryz.ntmps98 rfl (St.start (fun _=>False) w) ?_
    refine J2 ?_
    refine WL.box rfl rfl rfl (.none rfl) rfl rfl ?_
    intro g2 hg2
    refine J6 ?_
    refine zk UZ rfl (fun w hS=>UQ w k Er) ?_
    refine J12 ?_
    exact Dd
theorem IV (w:World) (n most:Int):Calls Tryz.prog 132 #[.int .i64 n, .int .i64 most] w fun e w'=>e = .returned (.bool (wiB n most))∧Frm (fun _=>False) w w':=by
  refine enter Tryz.func132 rfl Tryz.ntmps132 rfl (St.start (fun _=>False) w) ?_
  refine J8 ?_
  refine JT (fun h6=>?_) (fun h6=>?_)
  refine J3 ?_
  refine JT (fun h10=>?_) (fun h10=>?_)
  refine J5 ?_
  refine eT1 ?_
  exact fun w' h=>⟨by unfold wiB;rw [decide_eq_true Er],h.frm⟩
  refine J5 ?_
  exact De
  refine J9 ?_
  exact De
theorem QF (w:World) (a:Int):Calls Tryz.prog 134 #[.int .u32 a] w fun e w'=>e = .returned (.bool (Kq a))∧Frm (fun _=>False) w w':=by
  refine enter Tryz.func134 rfl Tryz.ntmps134 rfl (St.start (fun _=>False) w) ?_
  refine J8 ?_
  refine zV (Lc (m:=24) (c:=16777216) rfl rfl rfl rfl Et Et) rfl ?_
  exact Ba

theorem Q1 {α:Type}{p:α→Bool}{xs:List α}(h:∀ j x,j<xs.length→xs[j]?=some x→p x=true):xs.all p=true:=List.all_eq_true.2 fun x hx=>by
  obtain ⟨j,hj,e⟩:=List.getElem_of_mem hx
  exact h j x hj (by rw [List.getElem?_eq_getElem hj,e])
theorem KE {α:Type}{p:α→Bool}{xs:List α}{j:Nat}{x:α}(h:xs[j]?=some x) (hp:p x=false):xs.all p=false:=by
  cases e:xs.all p with
  | false=>rfl
  | true=>exact absurd (List.all_eq_true.1 e x (List.mem_of_getElem? h)) (by rw [hp];decide)
theorem PI (w:World) (ad:Option Addr) (c:Nat) (ss:List DO) (hR:EI w ad 2 DO.cells ss) (hC:∀ s∈ss,AU w s.ad (CG s.asl)) (hn:ss.length≤9223372036854775807) (hI:∀ s∈ss,s.asl.length≤9223372036854775807∧∀ x∈s.asl,I64 x) :
    Calls Tryz.prog 133 #[.slice ad ss.length c] w fun e w'=>e = .returned (.bool (ss.all Ji))∧Frm (fun _=>False) w w':=by
  refine enter Tryz.func133 rfl Tryz.ntmps133 rfl (St.start (fun _=>False) w) ?_
  refine J14 ?_
  refine WC.loop (fun k:Nat=>[(9, .int .i64 k),(8, .int .i64 ss.length),(7, .slice ad ss.length c)]) (fun _=>[]) (fun k=>k≤ss.length∧∀ j x,j<k→ss[j]?=some x→Ji x=true) (fun k=>ss.length-k) 0 ⟨Nat.zero_le _,fun j _ h=>absurd h Er⟩ Km (.refl _) ?_
  rintro k ⟨hk,hall⟩
  refine J2 ?_
  refine JT (fun h10=>?_) (fun h10=>?_)
  refine J10 ?_
  obtain ⟨s,hs⟩:∃ s,ss[k]?=some s:=⟨ss[k]' Er,List.getElem?_eq_getElem _⟩
  obtain ⟨b,o,ea,hr⟩:=hR k s hs
  have hsm:=List.mem_of_getElem? hs
  have hsI:=hI s hsm
  refine zV ((AB (b:=b) (off:=o) (lo:=k) rfl Ge rfl Tryz.underlying31 PO rfl Er)) rfl ?_
  refine zV ((CA (cs:=s.cells) rfl rfl Oz rfl (Mt (fun h=>h) hr))) rfl<|WL.alloc rfl JI (.none rfl) rfl rfl<|?_
  intro g4 hg4
  refine J9 ?_
  refine JT (fun h16=>?_) (fun h16=>?_)
  refine J21 ?_
  exact Ct
  refine J4 ?_
  refine JT (fun h21=>?_) (fun h21=>?_)
  refine J16 ?_
  exact Ct
  refine J15 ?_
  refine WC.loop (fun i:Nat=>[(26, .int .i64 i),(25, .int .i64 s.asl.length),(24, .slice s.ad s.asl.length s.cap),(9, .int .i64 k),(8, .int .i64 ss.length),(7, .slice ad ss.length c)]) (fun _=>[]) (fun i=>i≤s.asl.length∧∀ j x,j<i→s.asl[j]?=some x→decide (1≤x∧x≤65535)=true) (fun i=>s.asl.length-i) 0 ⟨Nat.zero_le _,fun j _ h=>absurd h Er⟩ Km (List.nil_sublist _) ?_
  rintro i ⟨hi,hin⟩
  refine J2 ?_
  refine JT (fun h27=>?_) (fun h27=>?_)
  refine J10 ?_
  obtain ⟨x,hx⟩:∃ x,s.asl[i]?=some x:=⟨s.asl[i]' Er,List.getElem?_eq_getElem _⟩
  obtain ⟨b2,o2,ea2,hr2⟩:=hC s hsm F5
  refine zV ((AB (b:=b2) (off:=o2) (lo:=i) rfl (by show some (Value.slice s.ad _ _)=_;rw [ea2]) rfl Tryz.underlying32 AP rfl Er)) rfl ?_
  refine zV (AA rfl rfl AK (AL (v:=.int .i64 x) (fun h=>h) (by rw [Nat.mul_one];exact hr2 i _ (Ke hx)))) rfl ?_
  refine J6 ?_
  refine JT (fun h31=>?_) (fun h31=>?_)
  refine J22 ?_
  exact Cm
  refine J2 ?_
  refine JT (fun h34=>?_) (fun h34=>?_)
  refine J19 ?_
  exact Cm
  refine J11 ?_
  exact eW (i+1) Er ⟨by omega,fun j y hj hy=>by
  by_cases e:j=i
  · subst e;rw [hx] at hy;obtain rfl:=Option.some.inj hy;exact decide_eq_true ⟨by omega,by omega⟩
  · exact hin j y Er hy⟩ (.int rfl Er (.cons rfl (.cons rfl (.cons rfl (.cons rfl (.cons rfl .nil))))))
  refine J14 ?_
  exact eW (k+1) Er ⟨by omega,fun j y hj hy=>by
  by_cases e:j=k
  · subst e;rw [hs] at hy;obtain rfl:=Option.some.inj hy
    unfold Ji
    rw [decide_eq_true ⟨by omega,by omega⟩,Bool.true_and]
    exact Q1 fun j x hj hx=>hin j x Er hx
  · exact hall j y Er hy⟩ (.int rfl Er (.cons rfl (.cons rfl .nil)))
  exact C3
theorem Tl (w:World) (ad:Option Addr) (c:Nat) (cs:List Int) (hR:AU w ad (CG cs)) (hn:cs.length≤9223372036854775807) (_:∀ x∈cs,I64 x) :
    Calls Tryz.prog 135 #[.slice ad cs.length c] w fun e w'=>e = .returned (.bool (Jd cs))∧Frm (fun _=>False) w w':=by
  refine enter Tryz.func135 rfl Tryz.ntmps135 rfl (St.start (fun _=>False) w) ?_
  refine J14 ?_
  refine WC.loop (fun k:Nat=>[(7, .int .i64 k),(6, .int .i64 cs.length),(5, .slice ad cs.length c),(0, .slice ad cs.length c)]) (fun _=>[]) (fun k=>k≤cs.length∧∀ j x,j<k→cs[j]?=some x→wiB x 4294967295=true) (fun k=>cs.length-k) 0 ⟨Nat.zero_le _,fun j _ h=>absurd h Er⟩ Km (.refl _) ?_
  rintro k ⟨hk,hall⟩
  refine J2 ?_
  refine JT (fun h8=>?_) (fun h8=>?_)
  refine J10 ?_
  obtain ⟨x,hx⟩:∃ x,cs[k]?=some x:=⟨cs[k]' Er,List.getElem?_eq_getElem _⟩
  obtain ⟨b,o,ea,hr⟩:=hR F5
  refine zV ((AB (b:=b) (off:=o) (lo:=k) rfl Ge rfl Tryz.underlying32 AP rfl Er)) rfl ?_
  refine zV (AA rfl rfl AK (AL (v:=.int .i64 x) (fun h=>h) (by rw [Nat.mul_one];exact hr k _ (Ke hx)))) rfl ?_
  refine J6 ?_
  refine zk Nn rfl (fun w hS=>IV w x 4294967295) ?_
  generalize hb:wiB x 4294967295=bb
  cases bb
  refine J15 ?_
  refine eT1 ?_
  exact fun w' h=>⟨by unfold Jd;rw [KE hx hb,Bool.false_and],h.frm⟩
  refine J11 ?_
  exact eW (k+1) Er ⟨by omega,fun j y hj hy=>by
  by_cases e:j=k
  · subst e;rw [hx] at hy;obtain rfl:=Option.some.inj hy;exact hb
  · exact hall j y Er hy⟩ (.int rfl Er (.cons rfl (.cons rfl (.cons rfl .nil))))
  refine J13 ?_
  refine JT (fun h17=>?_) (fun h17=>?_)
  refine J4 ?_
  refine eT1 ?_
  exact fun w' h=>⟨by unfold Jd;rw [Q1 fun j x hj hx=>hall j x Er hx,decide_eq_true Er];rfl,h.frm⟩
  refine J4 ?_
  refine eT1 ?_
  exact fun w' h=>⟨by unfold Jd;rw [decide_eq_false Er,Bool.and_false],h.frm⟩

def IF (a:AtL) (k:Nat):Bool :=
  if k=1 then wiB a.origin 2 else if k=2 then a.path.all Ji else if k=3 then Kq a.hop else if k=4 then wiB a.med 4294967295
  else if k=5 then wiB a.loc 4294967295 else if k=7 then wiB a.aas 65535 else if k=8 then Jd a.comms else true
def IX (a:AtL) (k:Nat):Bool :=
  if k=1 then decide (a.origin=0) else if k=2 then decide ((a.path.length:Int)=0) else if k=3 then decide (a.hop=0) else if k=4 then decide (a.med=0)
  else if k=5 then decide (a.loc=0) else if k=7 then decide (a.aas=0∧a.aid=0) else if k=8 then decide ((a.comms.length:Int)=0) else true
theorem good_g (w:World) (a:AtL) (k:Nat) (hA:EI w a.pad 2 DO.cells a.path∧(∀ s∈a.path,AU w s.ad (CG s.asl))∧AU w a.cad (CG a.comms)) (hI:(∀ s∈a.path,s.asl.length≤9223372036854775807∧∀ x∈s.asl,I64 x)∧(∀ x∈a.comms,I64 x)∧a.path.length≤9223372036854775807∧a.comms.length≤9223372036854775807):Calls Tryz.prog 122 #[.agg a.cells.toArray, .int .i64 k] w fun e w'=>e = .returned (.bool (IF a k))∧Frm (fun _=>False) w w':=by
  refine enter Tryz.func122 rfl Tryz.ntmps122 rfl (St.start (fun _=>False) w) ?_
  refine J2 ?_
  refine WL.box rfl rfl rfl (.none rfl) rfl rfl ?_
  intro g2 hg2
  refine J12 ?_
  refine JT (fun h7=>?_) (fun h7=>?_)
  refine J8 ?_
  refine zk Nn rfl (fun w hS=>IV w a.origin 2) ?_
  refine J6 ?_
  refine eT1 ?_
  exact fun w' h=>⟨by unfold IF;rw [if_pos Er],h.frm⟩
  refine J6 ?_
  refine JT (fun h12=>?_) (fun h12=>?_)
  refine J8 ?_
  refine zk ZU rfl (fun w hS=>PI w a.pad a.pc a.path (hA.1.frm (hS.rng fun _ h=>h)) (fun s hs=>(hA.2.1 s hs).frm (hS.rng fun _ h=>h)) hI.2.2.1 hI.1) ?_
  refine J6 ?_
  refine eT1 ?_
  exact fun w' h=>⟨by unfold IF;rw [if_neg Er,if_pos Er],h.frm⟩
  refine J6 ?_
  refine JT (fun h17=>?_) (fun h17=>?_)
  refine J8 ?_
  refine zk YB rfl (fun w hS=>QF w a.hop) ?_
  refine J6 ?_
  refine eT1 ?_
  exact fun w' h=>⟨by unfold IF;rw [if_neg Er,if_neg Er,if_pos Er],h.frm⟩
  refine J6 ?_
  refine JT (fun h22=>?_) (fun h22=>?_)
  refine J8 ?_
  refine zk Nn rfl (fun w hS=>IV w a.med 4294967295) ?_
  refine J6 ?_
  refine eT1 ?_
  exact fun w' h=>⟨by unfold IF;rw [if_neg Er,if_neg Er,if_neg Er,if_pos Er],h.frm⟩
  refine J6 ?_
  refine JT (fun h27=>?_) (fun h27=>?_)
  refine J8 ?_
  refine zk Nn rfl (fun w hS=>IV w a.loc 4294967295) ?_
  refine J6 ?_
  refine eT1 ?_
  exact fun w' h=>⟨by unfold IF;rw [if_neg Er,if_neg Er,if_neg Er,if_neg Er,if_pos Er],h.frm⟩
  refine J6 ?_
  refine JT (fun h32=>?_) (fun h32=>?_)
  refine J8 ?_
  refine zk Nn rfl (fun w hS=>IV w a.aas 65535) ?_
  refine J6 ?_
  refine eT1 ?_
  exact fun w' h=>⟨by unfold IF;rw [if_neg Er,if_neg Er,if_neg Er,if_neg Er,if_neg Er,if_pos Er],h.frm⟩
  refine J6 ?_
  refine JT (fun h37=>?_) (fun h37=>?_)
  refine J8 ?_
  refine zk ck_135 rfl (fun w hS=>Tl w a.cad a.cc a.comms (hA.2.2.frm (hS.rng fun _ h=>h)) hI.2.2.2 hI.2.1) ?_
  refine J6 ?_
  refine eT1 ?_
  exact fun w' h=>⟨by unfold IF;rw [if_neg Er,if_neg Er,if_neg Er,if_neg Er,if_neg Er,if_neg Er,if_pos Er],h.frm⟩
  refine J13 ?_
  refine eT1 ?_
  exact fun w' h=>⟨by unfold IF;rw [if_neg Er,if_neg Er,if_neg Er,if_neg Er,if_neg Er,if_neg Er,if_neg Er],h.frm⟩
theorem good_c (w:World) (a:AtL) (k:Nat) (hA:a.At w) (hI:a.In):Calls Tryz.prog 122 #[.agg a.cells.toArray, .int .i64 k] w fun e w'=>e = .returned (.bool (IF a k))∧Frm (fun _=>False) w w' :=
  good_g w a k ⟨hA.path,hA.H5,hA.comms⟩ ⟨hI.H5,hI.comms,hI.lens.1,hI.lens.2.1⟩
theorem zero_c (w:World) (a:AtL) (k:Nat):Calls Tryz.prog 123 #[.agg a.cells.toArray, .int .i64 k] w fun e w'=>e = .returned (.bool (IX a k))∧Frm (fun _=>False) w w':=by
  refine enter Tryz.func123 rfl Tryz.ntmps123 rfl (St.start (fun _=>False) w) ?_
  refine J2 ?_
  refine WL.box rfl rfl rfl (.none rfl) rfl rfl ?_
  intro g2 hg2
  refine J12 ?_
  refine JT (fun h7=>?_) (fun h7=>?_)
  refine J8 ?_
  refine zV (AZ rfl rfl rfl) rfl ?_
  refine J6 ?_
  refine eT1 ?_
  exact fun w' h=>⟨by unfold IX;rw [if_pos Er],h.frm⟩
  refine J6 ?_
  refine JT (fun h12=>?_) (fun h12=>?_)
  refine J9 ?_
  refine zV (AZ rfl rfl rfl) rfl ?_
  refine J6 ?_
  refine eT1 ?_
  exact fun w' h=>⟨by unfold IX;rw [if_neg Er,if_pos Er],h.frm⟩
  refine J6 ?_
  refine JT (fun h18=>?_) (fun h18=>?_)
  refine J8 ?_
  refine zV (AZ rfl rfl rfl) rfl ?_
  refine J6 ?_
  refine eT1 ?_
  exact fun w' h=>⟨by unfold IX;rw [if_neg Er,if_neg Er,if_pos Er],h.frm⟩
  refine J6 ?_
  refine JT (fun h23=>?_) (fun h23=>?_)
  refine J8 ?_
  refine zV (AZ rfl rfl rfl) rfl ?_
  refine J6 ?_
  refine eT1 ?_
  exact fun w' h=>⟨by unfold IX;rw [if_neg Er,if_neg Er,if_neg Er,if_pos Er],h.frm⟩
  refine J6 ?_
  refine JT (fun h28=>?_) (fun h28=>?_)
  refine J8 ?_
  refine zV (AZ rfl rfl rfl) rfl ?_
  refine J6 ?_
  refine eT1 ?_
  exact fun w' h=>⟨by unfold IX;rw [if_neg Er,if_neg Er,if_neg Er,if_neg Er,if_pos Er],h.frm⟩
  refine J6 ?_
  refine JT (fun h33=>?_) (fun h33=>?_)
  refine J8 ?_
  refine JT (fun h36=>?_) (fun h36=>?_)
  refine J3 ?_
  refine JT (fun h40=>?_) (fun h40=>?_)
  refine J7 ?_
  refine eT1 ?_
  exact fun w' h=>⟨by unfold IX;rw [if_neg Er,if_neg Er,if_neg Er,if_neg Er,if_neg Er,if_pos Er,decide_eq_true ⟨h36,h40⟩],h.frm⟩
  refine J7 ?_
  refine eT1 ?_
  exact fun w' h=>⟨by unfold IX;rw [if_neg Er,if_neg Er,if_neg Er,if_neg Er,if_neg Er,if_pos Er,decide_eq_false (fun e=>h40 e.2)],h.frm⟩
  refine J11 ?_
  refine eT1 ?_
  exact fun w' h=>⟨by unfold IX;rw [if_neg Er,if_neg Er,if_neg Er,if_neg Er,if_neg Er,if_pos Er,decide_eq_false (fun e=>h36 e.1)],h.frm⟩
  refine J6 ?_
  refine JT (fun h43=>?_) (fun h43=>?_)
  refine J9 ?_
  refine zV (AZ rfl rfl rfl) rfl ?_
  refine J6 ?_
  refine eT1 ?_
  exact fun w' h=>⟨by unfold IX;rw [if_neg Er,if_neg Er,if_neg Er,if_neg Er,if_neg Er,if_neg Er,if_pos Er],h.frm⟩
  refine J13 ?_
  refine eT1 ?_
  exact fun w' h=>⟨by unfold IX;rw [if_neg Er,if_neg Er,if_neg Er,if_neg Er,if_neg Er,if_neg Er,if_neg Er],h.frm⟩
end Gq

def orN (x y:Int):Int:=((x.toNat ||| y.toNat:Nat):Int)
theorem U7 {n a b:Nat}(ha:a<2 ^ n) (hb:b<2 ^ n):(BitVec.ofNat n a &&& ~~~ BitVec.ofNat n b).toNat=a ^^^ (a &&& b):=by
  have e:BitVec.ofNat n a &&& ~~~ BitVec.ofNat n b=BitVec.ofNat n a ^^^ (BitVec.ofNat n a &&& BitVec.ofNat n b):=by
    apply BitVec.eq_of_getLsbD_eq
    intro i hi
    simp only [BitVec.getLsbD_and,BitVec.getLsbD_not,BitVec.getLsbD_xor,hi,decide_true,Bool.true_and]
    cases (BitVec.ofNat n a).getLsbD i <;> cases (BitVec.ofNat n b).getLsbD i <;> rfl
  have e2:(BitVec.ofNat n a &&& BitVec.ofNat n b).toNat=a &&& b:=by
    rw [BitVec.toNat_and,BitVec.toNat_ofNat,BitVec.toNat_ofNat,Nat.mod_eq_of_lt ha,Nat.mod_eq_of_lt hb]
  rw [e,BitVec.toNat_xor,e2,BitVec.toNat_ofNat,Nat.mod_eq_of_lt ha]
theorem Rn {a b:Nat}:a ^^^ b=0↔a=b:=by
  constructor
  · intro h
    apply Nat.eq_of_testBit_eq
    intro i
    have:=congrArg (fun x=>x.testBit i) h
    simp only [Nat.testBit_xor,Nat.zero_testBit] at this
    cases ha:a.testBit i <;> cases hb:b.testBit i <;> simp_all
  · rintro rfl;exact Nat.xor_self a
theorem TC {x y:Int}(hx:0≤x) (hx':x≤9223372036854775807) (hy:0≤y) (hy':y≤9223372036854775807):bits .or .i64 x y=orN x y:=by
  obtain ⟨a,rfl⟩:=Int.eq_ofNat_of_zero_le hx
  obtain ⟨b,rfl⟩:=Int.eq_ofNat_of_zero_le hy
  show IntKind.i64.wrap ((BitVec.ofInt 64 (a:Int) ||| BitVec.ofInt 64 (b:Int)).toNat:Int)=_
  rw [BitVec.ofInt_natCast,BitVec.ofInt_natCast,BitVec.toNat_or,BitVec.toNat_ofNat,BitVec.toNat_ofNat,Nat.mod_eq_of_lt Er,Nat.mod_eq_of_lt Er]
  have:a ||| b<2 ^ 63:=Nat.or_lt_two_pow Er Er
  exact AF Er Er
section Gq
attribute [local irreducible] WL WC WE WQ WP WH WR WM WRH

theorem Qo:∀ n:Nat,n<511→((n ^^^ (n &&& 510))=0↔n % 2=0):=by
  set_option maxRecDepth 4000 in decide
theorem MV {x:Int}(hx:I64 x):bits .andNot .i64 x 510=0↔0≤x∧x≤510∧x % 2=0:=by
  have e:bits .andNot .i64 x 510=IntKind.i64.wrap ((BitVec.ofInt 64 x &&& ~~~ BitVec.ofInt 64 510).toNat:Int):=rfl
  unfold I64 at hx
  have h0:BitVec.ofInt 64 x=BitVec.ofNat 64 (x % 18446744073709551616).toNat:=by
    apply BitVec.eq_of_toNat_eq
    rw [BitVec.toNat_ofInt,BitVec.toNat_ofNat]
    omega
  have e2:(BitVec.ofInt 64 x &&& ~~~ BitVec.ofInt 64 510).toNat=(x % 18446744073709551616).toNat ^^^ ((x % 18446744073709551616).toNat &&& 510):=by
    rw [h0]
    exact U7 (b:=510) Er Et
  have hlt:(BitVec.ofInt 64 x &&& ~~~ BitVec.ofInt 64 510).toNat<2 ^ 64:=BitVec.isLt _
  rw [e,IntKind.wrap_i64]
  rw [e2] at hlt ⊢
  generalize hn:(x % 18446744073709551616).toNat=n at hlt ⊢
  have h1:(n ^^^ (n &&& 510))=0↔n≤510∧n % 2=0:=by
    constructor
    · intro h
      have h2:=Rn.1 h
      have h3:n≤510:=by rw [h2];exact Nat.and_le_right
      exact ⟨h3,(Qo n Er).1 h⟩
    · rintro ⟨h3,h4⟩
      exact (Qo n Er).2 h4
  constructor
  · intro h
    have:=h1.1 Er
    omega
  · rintro ⟨h2,h3,h4⟩
    have:=h1.2 Er
    omega
def Ul (has:Int):Bool:=decide (0≤has∧has≤510∧has % 2=0)
def KU (a:AtL) (k:Nat):Bool:=if hasB a.has k then IF a k else IX a k
def MA:Int→List CB→Bool
  | _,[]=>true
  | last,o::os=>decide (last<o.ty∧o.ty≤255) && MA o.ty os
def Mk (a:AtL):Bool:=Ul a.has && ((List.range' 1 8).all (KU a)) && MA 8 a.others
theorem IsT_c (w:World) (a:AtL) (k:Nat) (hk:k≤60) (h:hasB a.has k=true):Calls Tryz.prog 98 #[.agg a.cells.toArray, .int .i64 k] w fun e w'=>e = .returned (.bool true)∧Frm (fun _=>False) w w':=by
  rw [← h];exact Is_c w a k hk
theorem IsF_c (w:World) (a:AtL) (k:Nat) (hk:k≤60) (h:hasB a.has k=false):Calls Tryz.prog 98 #[.agg a.cells.toArray, .int .i64 k] w fun e w'=>e = .returned (.bool false)∧Frm (fun _=>False) w w':=by
  rw [← h];exact Is_c w a k hk
theorem Sd {a:AtL}{k:Nat}(h1:1≤k) (h2:k≤8) (h:KU a k=false):Mk a=false:=by
  unfold Mk
  rw [KE (xs:=List.range' 1 8) (j:=k-1) (x:=k) (by rw [List.getElem?_range' (by omega)];congr 1;omega) h,Bool.and_false,Bool.false_and]
set_option maxHeartbeats 1000000 in
theorem Aap (w:World) (a:AtL) (hA:a.At w) (hI:a.In):Calls Tryz.prog 99 #[.agg a.cells.toArray] w fun e w'=>e = .returned (.int .i64 (if Mk a then 0 else 1))∧Frm (fun _=>False) w w':=by
  refine enter Tryz.func99 rfl Tryz.ntmps99 rfl (St.start (fun _=>False) w) ?_
  refine J2 ?_
  refine WL.box rfl rfl rfl (.none rfl) rfl rfl ?_
  intro g1 hg1
  refine J8 ?_
  refine zV (AaW rfl rfl rfl (show _=bits .andNot .i64 a.has 510 from rfl)) rfl ?_
  refine JT (fun h10=>?_) (fun h10=>?_)
  refine J10 ?_
  refine eT1 ?_
  exact fun w' h=>⟨by
  have hk:Ul a.has=false:=decide_eq_false fun h=>h10 ((MV hI.has).2 h)
  unfold Mk;rw [hk,Bool.false_and,Bool.false_and];rfl,h.frm⟩
  refine J12 ?_
  refine WC.loop (fun k:Nat=>[(3, .int .i64 k),(1, .pointer (some ⟨g1,0,none⟩))]) (fun _=>[.row g1 a.cells]) (fun k=>1≤k∧k≤9∧∀ j,1≤j→j<k→KU a j=true) (fun k=>9-k) 1 ⟨Nat.le_refl _,by omega,fun j h1 h2=>absurd h2 Er⟩ Km (.refl _) ?_
  rintro k ⟨hk1,hk9,hall⟩
  refine J4 ?_
  refine JT (fun h12=>?_) (fun h12=>?_)
  refine J11 ?_
  refine zk Ty rfl (fun w hS=>Is_c w a k Er) ?_
  generalize hb:hasB a.has k=bb
  cases bb
  refine J9 ?_
  refine zk Ty rfl (fun w hS=>IsF_c w a k Er hb) ?_
  refine J4 ?_
  refine zk ck_123 rfl (fun w hS=>zero_c w a k) ?_
  generalize hz:IX a k=bz
  cases bz
  refine J17 ?_
  refine eT1 ?_
  exact fun w' h=>⟨by rw [Sd (k:=k) Er Er (by unfold KU;rw [hb];exact hz)];rfl,h.frm⟩
  refine J14 ?_
  exact eW (k+1) Er ⟨by omega,by omega,fun j h1 h2=>by
  by_cases e:j=k
  · subst e;unfold KU;rw [hb];exact hz
  · exact hall j h1 Er⟩ (.int rfl Er (.cons rfl .nil))
  refine J3 ?_
  refine zk TR rfl (fun w hS=>good_c w a k (hA.st hS) hI) ?_
  generalize hg:IF a k=bg
  cases bg
  refine J28 ?_
  refine eT1 ?_
  exact fun w' h=>⟨by rw [Sd (k:=k) Er Er (by unfold KU;rw [hb];exact hg)];rfl,h.frm⟩
  refine J5 ?_
  refine zk Ty rfl (fun w hS=>IsT_c w a k Er hb) ?_
  refine J19 ?_
  exact eW (k+1) Er ⟨by omega,by omega,fun j h1 h2=>by
  by_cases e:j=k
  · subst e;unfold KU;rw [hb];exact hg
  · exact hall j h1 Er⟩ (.int rfl Er (.cons rfl .nil))
  refine J23 ?_
  refine WC.loop (fun x:Nat×Int=>[(39, .int .i64 x.1),(38, .int .i64 a.others.length),(37, .slice a.oad a.others.length a.oc),(4, .int .i64 x.2)]) (fun _=>[]) (fun x=>x.1≤a.others.length∧MA 8 a.others=MA x.2 (a.others.drop x.1)) (fun x=>a.others.length-x.1) (0,8) ⟨Nat.zero_le _,rfl⟩ Km (List.nil_sublist _) ?_
  rintro ⟨i,last⟩ ⟨hi,ho⟩
  dsimp only at hi ho
  dsimp only
  have hchk:Mk a=MA 8 a.others:=by
    have e1:Ul a.has=true:=decide_eq_true ((MV hI.has).1 (Decidable.not_not.1 h10))
    have e2:(List.range' 1 8).all (KU a)=true:=List.all_eq_true.2 fun x hx=>by
      have:=List.mem_range'_1.1 hx
      exact hall x Er Er
    unfold Mk;rw [e1,e2];rfl
  rw [ho] at hchk
  refine J2 ?_
  refine JT (fun h40=>?_) (fun h40=>?_)
  refine J10 ?_
  obtain ⟨o,hs⟩:∃ o,a.others[i]?=some o:=⟨a.others[i]' Er,List.getElem?_eq_getElem _⟩
  obtain ⟨b,off,ea,hr⟩:=hA.Jk i o hs
  have hdr:a.others.drop i=o::a.others.drop (i+1):=by
    obtain ⟨hlt,e⟩:=List.getElem?_eq_some_iff.1 hs
    rw [← e];exact List.drop_eq_getElem_cons hlt
  have hlen:=hI.lens.2.2
  refine zV ((AB (b:=b) (off:=off) (lo:=i) rfl (by show some (Value.slice a.oad _ _)=_;rw [ea]) rfl Tryz.underlying33 Ky rfl Er)) rfl ?_
  refine zV ((CA (cs:=o.cells) rfl rfl O2 rfl (Mt (fun h=>h) hr))) rfl<|WL.alloc rfl H2 (.none rfl) rfl rfl<|?_
  intro g6 hg6
  refine J9 ?_
  refine JT (fun h46=>?_) (fun h46=>?_)
  refine J20 ?_
  refine eT1 ?_
  exact fun w' h=>⟨by
  rw [hchk,hdr]
  show _=Ending.returned (.int .i64 (if (decide _ && MA o.ty _)=true then 0 else 1))
  rw [decide_eq_false Er,Bool.false_and];rfl,h.frm⟩
  refine J3 ?_
  refine JT (fun h50=>?_) (fun h50=>?_)
  refine J16 ?_
  refine eT1 ?_
  exact fun w' h=>⟨by
  rw [hchk,hdr]
  show _=Ending.returned (.int .i64 (if (decide _ && MA o.ty _)=true then 0 else 1))
  rw [decide_eq_false Er,Bool.false_and];rfl,h.frm⟩
  refine J17 ?_
  exact WE.next (i+1,o.ty) Eu ⟨by dsimp only;omega,by
  dsimp only
  rw [ho,hdr]
  show (decide _ && MA o.ty _)=_
  rw [decide_eq_true ⟨by omega,by omega⟩,Bool.true_and]⟩ (.int rfl Eu (.cons rfl (.cons rfl (.cons rfl .nil)))) (List.nil_sublist _)
  refine J15 ?_
  refine eT1 ?_
  exact fun w' h=>⟨by
  obtain rfl:i=a.others.length:=Er
  rw [hchk,List.drop_length];rfl,h.frm⟩
def HK (has:Int):Int:=if hasB has 1 then if hasB has 2 then if hasB has 3 then 0 else 3 else 2 else 1
theorem Qt (w:World) (a:AtL):Calls Tryz.prog 76 #[.agg a.cells.toArray] w fun e w'=>e = .returned (.int .i64 (HK a.has))∧Frm (fun _=>False) w w':=by
  refine enter Tryz.func76 rfl Tryz.ntmps76 rfl (St.start (fun _=>False) w) ?_
  refine J2 ?_
  refine WL.box rfl rfl rfl (.none rfl) rfl rfl ?_
  intro g1 hg1
  refine J10 ?_
  refine WC.loop (fun k:Nat=>[(3, .int .i64 k),(1, .pointer (some ⟨g1,0,none⟩))]) (fun _=>[.row g1 a.cells]) (fun k=>1≤k∧k≤4∧∀ j,1≤j→j<k→hasB a.has j=true) (fun k=>4-k) 1 ⟨Nat.le_refl _,by omega,fun j h1 h2=>absurd h2 Er⟩ Km (.refl _) ?_
  rintro k ⟨hk1,hk9,hall⟩
  refine J4 ?_
  refine JT (fun h5=>?_) (fun h5=>?_)
  refine J11 ?_
  refine zk Ty rfl (fun w hS=>Is_c w a k Er) ?_
  generalize hb:hasB a.has k=bb
  cases bb
  refine J16 ?_
  refine eT1 ?_
  exact fun w' h=>⟨by
  unfold HK
  have:k=1∨k=2∨k=3:=by omega
  rcases this with rfl|rfl|rfl
  · rw [hb];rfl
  · rw [hall 1 Er Er,hb];rfl
  · rw [hall 1 Er Er,hall 2 Er Er,hb];rfl,h.frm⟩
  refine J12 ?_
  exact eW (k+1) Er ⟨by omega,by omega,fun j h1 h2=>by
  by_cases e:j=k
  · subst e;exact hb
  · exact hall j h1 Er⟩ (.int rfl Er (.cons rfl .nil))
  refine J14 ?_
  refine eT1 ?_
  exact fun w' h=>⟨by unfold HK;rw [hall 1 Er Er,hall 2 Er Er,hall 3 Er Er];rfl,h.frm⟩

def BM (n:Int):Nat→List Int
  | 0=>[]
  | s+1=>n / 2 ^ (8*s) % 256::BM n s
theorem AW (n:Int) (s:Nat):(BM n s).length=s:=by induction s with|zero=>rfl|succ s ih=>simp [BM,ih]
theorem CO (n:Int) (s:Nat):Bys (BM n s):=by
  induction s with
  | zero=>exact Bys.nil
  | succ s ih =>
    intro x hx
    rcases List.mem_cons.1 hx with rfl|hx
    · omega
    · exact ih x hx
set_option maxHeartbeats 1000000 in
theorem num_c (p:Nat→Prop) (w0 w1:World) (L E:List Ent) (ad:Option Addr) (k c:Nat) (xs:List Int) (n:Int) (s:Nat) (hV:Vec 1 ad k c (u8s xs) E) (hS0:St p w0 w1 (E++L)) (hk:k≤4000000) (hs:s≤4) :
    Calls Tryz.prog 124 #[.slice ad k c, .int .i64 n, .int .i64 s] w1 fun e w'=>∃ ad' c' E',e = .returned (.slice ad' (k+s) c')∧Vec 1 ad' (k+s) c' (u8s (xs++BM n s)) E'∧St p w0 w' (E'++L):=by
  refine enter Tryz.func124 rfl Tryz.ntmps124 rfl hS0 ?_
  refine J14 ?_
  refine WC.loop (fun x:Nat×List Int×Option Addr×Nat×List Ent=>[(2, .int .i64 ((x.1:Int)-1)),(1, .int .i64 n),(0, .slice x.2.2.1 (k+(s-x.1)) x.2.2.2.1)]) (fun x=>x.2.2.2.2++L) (fun x=>x.1≤s∧x.2.1++BM n x.1=xs++BM n s∧Vec 1 x.2.2.1 (k+(s-x.1)) x.2.2.2.1 (u8s x.2.1) x.2.2.2.2) (fun x=>x.1) (s,xs,ad,c,E) ⟨Nat.le_refl _,rfl,by dsimp only;rw [Nat.sub_self];exact hV⟩ (.cons rfl (.cons rfl (.eq rfl (by dsimp only;rw [Nat.sub_self];rfl) .nil))) (.refl _) ?_
  rintro ⟨t,ys,ad2,c2,E2⟩ ⟨ht,hy,hV2⟩
  dsimp only at ht hy hV2
  dsimp only
  refine J4 ?_
  refine JT (fun h10=>?_) (fun h10=>?_)
  refine J10 ?_
  obtain ⟨u,rfl⟩:∃ u,t=u+1:=⟨t-1,by omega⟩
  refine J1 ?_
  refine zV (FY rfl rfl rfl (show _=((8*u:Nat):Int) from (AF Er Er).trans Er)) rfl ?_
  refine zV ((Lc (m:=8*u) (c:=(2:Int) ^ (8*u)) rfl rfl rfl rfl (by show 8*u≤64;omega) rfl)) rfl ?_
  refine zV (AQ rfl rfl Tryz.underlying5 Tryz.underlying3 (HL _)) rfl<|zB Tryz.underlying25 AO BF rfl rfl<|?_
  intro g19 hg19
  refine WL.as (L':=.row g19 (u8s [n / 2 ^ (8*u) % 256])::(E2++L)) rfl<|WL.to (L':=E2++(.row g19 (u8s [n / 2 ^ (8*u) % 256])::L)) (fun w hS=>hS.front [_])<|?_
  refine WL.AN rfl rfl rfl Tryz.underlying25 Tryz.underlying25 AO Hx BF rfl rfl hV2 (new:=u8s [n / 2 ^ (8*u) % 256]) (fun _=>⟨g19,0,rfl,fun w hS=>BZ (g:=g19) w hS⟩) rfl (CQ _) Er (.none rfl) rfl rfl ?_
  intro ad20 c20 E20 hV20 hr20
  refine J9 ?_
  exact WE.next (u,ys++[n / 2 ^ (8*u) % 256],ad20,c20,E20) Eu ⟨by dsimp only;omega,by dsimp only;rw [← hy,List.append_assoc];rfl,by dsimp only;rw [CH,show k+(s-u)=k+(s-(u+1))+1 by omega];exact hV20⟩ (.int rfl Eu (.cons rfl (.eq rfl (by dsimp only;rw [show k+(s-u)=k+(s-(u+1))+1 by omega]) .nil))) (List.Sublist.append_left (.cons _ (.refl _)) _)
  refine J15 ?_
  refine eT1 ?_
  obtain rfl:t=0:=Er
  rw [show BM n 0=[] from rfl,List.append_nil] at hy
  rw [Nat.sub_zero] at hV2
  rw [Nat.sub_zero]
  exact fun w' h=>⟨ad2,c2,E2,rfl,by rw [← hy];exact hV2,h⟩

abbrev BV (ad:Option Addr) (c:Nat) (xs:List Int) (E:List Ent):Prop:=Vec 1 ad xs.length c (u8s xs) E
def IP (w w':World) (xs:List Int) (v:Value):Prop:=∃ ad c E,v = .slice ad xs.length c∧BV ad c xs E∧St (fun _=>False) w w' E
theorem Vec.toB {ad:Option Addr}{k c:Nat}{xs:List Int}{E:List Ent}(h:Vec 1 ad k c (u8s xs) E):k=xs.length:=by
  have:=h.len.1
  rw [GO] at this
  omega
theorem HC (p:Nat→Prop) (w0 w1:World) (L E:List Ent) (ad:Option Addr) (c:Nat) (xs:List Int) (n:Int) (s:Nat) (hV:BV ad c xs E) (hS0:St p w0 w1 (E++L)) (hk:xs.length≤4000000) (hs:s≤4) :
    Calls Tryz.prog 124 #[.slice ad xs.length c, .int .i64 n, .int .i64 s] w1 fun e w'=>∃ ad' c' E',e = .returned (.slice ad' (xs++BM n s).length c')∧BV ad' c' (xs++BM n s) E'∧St p w0 w' (E'++L) :=
  (num_c p w0 w1 L E ad _ c xs n s hV hS0 hk hs).mono (by
    rintro e w' ⟨ad',c',E',rfl,hV',hS'⟩
    have:=hV'.toB
    rw [this] at hV' ⊢
    exact ⟨ad',c',E',rfl,hV',hS'⟩)
def Mq (s:DO):List Int:=BM (if s.set then 1 else 2) 1++BM s.asl.length 1++s.asl.flatMap fun x=>BM x 2
def GU (a:AtL) (t:Nat):List Int :=
  if t=1 then BM a.origin 1 else if t=2 then a.path.flatMap Mq else if t=3 then BM a.hop 4 else if t=4 then BM a.med 4
  else if t=5 then BM a.loc 4 else if t=7 then BM a.aas 2++BM a.aid 4 else if t=8 then a.comms.flatMap fun x=>BM x 4 else []
theorem Gt {α:Type}{xs:List α}{k:Nat}{x:α}(h:xs[k]?=some x):xs.drop k=x::xs.drop (k+1):=by
  obtain ⟨hlt,e⟩:=List.getElem?_eq_some_iff.1 h
  rw [← e];exact List.drop_eq_getElem_cons hlt
theorem IP.of {w w':World}{ad:Option Addr}{c:Nat}{xs ys:List Int}{E L:List Ent}(hV:BV ad c xs E) (h:St (fun _=>False) w w' (E++L)) (e:xs=ys):IP w w' ys (.slice ad xs.length c):=by
  subst e;exact ⟨ad,c,E,rfl,hV,h.sub (List.sublist_append_left _ _)⟩
theorem Lv (xs:List Int) (m:Nat):(xs.flatMap fun x=>BM x m).length=m*xs.length:=by
  induction xs with
  | nil=>rfl
  | cons x xs ih=>rw [List.flatMap_cons,List.length_append,ih,AW,List.length_cons,Nat.mul_succ];omega
theorem Sx (s:DO):(Mq s).length=2+2*s.asl.length:=by
  unfold Mq
  rw [List.length_append,List.length_append,AW,AW,Lv]
set_option maxHeartbeats 4000000 in
theorem Rj (w:World) (a:AtL) (t:Nat) (hA:a.At w) (hI:a.In) (hB:(GU a t).length≤3600000) :
    Calls Tryz.prog 101 #[.agg a.cells.toArray, .int .i64 t] w fun e w'=>∃ v,e = .returned v∧IP w w' (GU a t) v:=by
  refine enter Tryz.func101 rfl Tryz.ntmps101 rfl (St.start (fun _=>False) w) ?_
  refine J2 ?_
  refine WL.box rfl rfl rfl (.none rfl) rfl rfl ?_
  intro g2 hg2
  refine J17 ?_
  refine JT (fun h15=>?_) (fun h15=>?_)
  refine J8 ?_
  refine zK FR rfl ?_
  intro w1 hS
  refine (HC (fun _=>False) w w1 _ [] none 0 [] a.origin 1 (Vec.nil 1) hS Et Et).mono ?_
  rintro e w' ⟨ad19,c19,E19,rfl,hV19,hS'⟩
  refine ⟨_,_,rfl,hS',?_⟩
  refine J11 ?_
  refine eT1 ?_
  exact fun w' h=>⟨_,rfl,IP.of hV19 h (by unfold GU;rw [if_pos (by omega)];rfl)⟩
  refine J6 ?_
  refine JT (fun h21=>?_) (fun h21=>?_)
  refine J6 ?_
  have e0:GU a t=a.path.flatMap Mq:=(by unfold GU;rw [if_neg (by omega),if_pos (by omega)])
  rw [e0] at hB ⊢
  refine J7 ?_
  refine WC.loop (fun x:Nat×List Int×Option Addr×Nat×List Ent=>[(25, .int .i64 x.1),(24, .int .i64 a.path.length),(23, .slice a.pad a.path.length a.pc),(5, .slice x.2.2.1 x.2.1.length x.2.2.2.1)]) (fun x=>x.2.2.2.2++[]) (fun x=>x.1≤a.path.length∧x.2.1++(a.path.drop x.1).flatMap Mq=a.path.flatMap Mq∧BV x.2.2.1 x.2.2.2.1 x.2.1 x.2.2.2.2) (fun x=>a.path.length-x.1) (0,[],none,0,[]) ⟨Nat.zero_le _,rfl,Vec.nil 1⟩ Km (List.nil_sublist _) ?_
  rintro ⟨k,ys,ad,c,E⟩ ⟨hk,hy,hV⟩
  dsimp only at hk hy hV
  dsimp only
  have hlenP:=hI.lens.1
  refine J2 ?_
  refine JT (fun h26=>?_) (fun h26=>?_)
  refine J10 ?_
  obtain ⟨s,hs⟩:∃ s,a.path[k]?=some s:=⟨a.path[k]' Er,List.getElem?_eq_getElem _⟩
  obtain ⟨b,o,ea,hr⟩:=hA.path k s hs
  have hsm:=List.mem_of_getElem? hs
  have hsI:=hI.H5 s hsm
  rw [Gt hs,List.flatMap_cons] at hy
  have hyl:ys.length+2+2*s.asl.length≤3600000:=(by
    rw [← hy,List.length_append,List.length_append,Sx] at hB
    omega)
  refine zV ((AB (b:=b) (off:=o) (lo:=k) rfl (by show some (Value.slice a.pad _ _)=_;rw [ea]) rfl Tryz.underlying31 PO rfl Er)) rfl ?_
  refine zV ((CA (cs:=s.cells) rfl rfl Oz rfl (Mt (fun h=>h) hr))) rfl<|WL.alloc rfl JI (.none rfl) rfl rfl<|?_
  intro g7 hg7
  refine J1 ?_
  refine WL.to (L':=E++[.row g7 s.cells]) (fun w hS=>hS.front [_]) ?_
  refine J12 ?_
  generalize hset:s.set=b30
  cases b30
  refine J5 ?_
  refine WC.cut (fun x:List Int×Option Addr×Nat×List Ent=>[(5, .slice x.2.1 x.1.length x.2.2.1),(25, .int .i64 k),(24, .int .i64 a.path.length),(23, .slice a.pad a.path.length a.pc),(7, .pointer (some ⟨g7,0,none⟩))]) (fun x=>x.2.2.2++[.row g7 s.cells]) (fun x=>x.1=ys++BM (if s.set then 1 else 2) 1++BM s.asl.length 1∧BV x.2.1 x.2.2.1 x.1 x.2.2.2) ?_ ?_
  refine WC.BB mixed<|rF 5 [0,1,3]<|?_
  refine J4 ?_
  refine WR.each (g:=4) [2,4] Es Et ?_
  refine ⟨?_,?_⟩
  refine zK FR rfl ?_
  intro w1 hS
  refine (HC (fun _=>False) w w1 _ _ _ _ _ 2 1 hV hS Fp Er).mono ?_
  exact D9
  refine J2 ?_
  refine rF 3 [5] ?_
  refine J2 ?_
  refine rO 1 [2,6]<|zK FR rfl<|?_
  intro w1 hS
  refine (HC (fun _=>False) w w1 _ _ _ _ _ 2 1 hV hS Fp Er).mono ?_
  exact Ee
  exact Ah
  refine J7 ?_
  refine WC.cut (fun x:List Int×Option Addr×Nat×List Ent=>[(5, .slice x.2.1 x.1.length x.2.2.1),(25, .int .i64 k),(24, .int .i64 a.path.length),(23, .slice a.pad a.path.length a.pc),(7, .pointer (some ⟨g7,0,none⟩))]) (fun x=>x.2.2.2++[.row g7 s.cells]) (fun x=>x.1=ys++BM (if s.set then 1 else 2) 1++BM s.asl.length 1∧BV x.2.1 x.2.2.1 x.1 x.2.2.2) ?_ ?_
  refine WC.BB mixed<|rF 5 [0,1,3]<|?_
  refine J4 ?_
  refine WR.each (g:=4) [2,4] Es Et ?_
  refine ⟨?_,?_⟩
  refine zK FR rfl ?_
  intro w1 hS
  refine (HC (fun _=>False) w w1 _ _ _ _ _ 1 1 hV hS Fp Er).mono ?_
  exact D9
  refine J2 ?_
  refine rF 3 [5] ?_
  refine J2 ?_
  refine rO 1 [2,6]<|zK FR rfl<|?_
  intro w1 hS
  refine (HC (fun _=>False) w w1 _ _ _ _ _ 1 1 hV hS Fp Er).mono ?_
  exact Ee
  exact Ah
  refine J17 ?_
  refine eT1 ?_
  obtain rfl:k=a.path.length:=Er
  exact C4
  refine J6 ?_
  refine JT (fun h51=>?_) (fun h51=>?_)
  refine J8 ?_
  have:=hI.hop
  unfold U32 at this
  refine zV (AQ rfl rfl Tryz.underlying3 Tryz.underlying23 (AF Er Er)) rfl ?_
  refine zK FR rfl ?_
  intro w1 hS
  refine (HC (fun _=>False) w w1 _ [] none 0 [] a.hop 4 (Vec.nil 1) hS Fp Er).mono ?_
  rintro e w' ⟨ad56,c56,E56,rfl,hV56,hS'⟩
  refine ⟨_,_,rfl,hS',?_⟩
  refine J11 ?_
  refine eT1 ?_
  exact fun w' h=>⟨_,rfl,IP.of hV56 h (by unfold GU;rw [if_neg (by omega),if_neg (by omega),if_pos (by omega)];rfl)⟩
  refine J6 ?_
  refine JT (fun h58=>?_) (fun h58=>?_)
  refine J8 ?_
  refine zK FR rfl ?_
  intro w1 hS
  refine (HC (fun _=>False) w w1 _ [] none 0 [] a.med 4 (Vec.nil 1) hS Fp Er).mono ?_
  rintro e w' ⟨ad62,c62,E62,rfl,hV62,hS'⟩
  refine ⟨_,_,rfl,hS',?_⟩
  refine J11 ?_
  refine eT1 ?_
  exact fun w' h=>⟨_,rfl,IP.of hV62 h (by unfold GU;rw [if_neg (by omega),if_neg (by omega),if_neg (by omega),if_pos (by omega)];rfl)⟩
  refine J6 ?_
  refine JT (fun h64=>?_) (fun h64=>?_)
  refine J8 ?_
  refine zK FR rfl ?_
  intro w1 hS
  refine (HC (fun _=>False) w w1 _ [] none 0 [] a.loc 4 (Vec.nil 1) hS Fp Er).mono ?_
  rintro e w' ⟨ad68,c68,E68,rfl,hV68,hS'⟩
  refine ⟨_,_,rfl,hS',?_⟩
  refine J11 ?_
  refine eT1 ?_
  exact fun w' h=>⟨_,rfl,IP.of hV68 h (by unfold GU;rw [if_neg (by omega),if_neg (by omega),if_neg (by omega),if_neg (by omega),if_pos (by omega)];rfl)⟩
  refine J6 ?_
  refine JT (fun h70=>?_) (fun h70=>?_)
  refine J4 ?_
  refine WC.BB mixed<|rF 6 [0,1,4]<|?_
  refine J4 ?_
  refine WR.each (g:=5) [2,5] Es Et ?_
  refine ⟨?_,?_⟩
  refine J2 ?_
  refine WR.each (g:=4) [3,5] Es Et ?_
  refine ⟨?_,?_⟩
  refine zK FR rfl ?_
  intro w1 hS
  refine (HC (fun _=>False) w w1 _ [] none 0 [] a.aas 2 (Vec.nil 1) hS Fp Er).mono ?_
  rintro e w' ⟨ad74,c74,E74,rfl,hV74,hS'⟩
  refine ⟨_,_,rfl,hS',?_⟩
  refine J1 ?_
  refine rA 2 [5,6] rfl ?_
  refine J1 ?_
  have:=hI.aid
  unfold U32 at this
  refine qV (AQ rfl rfl Tryz.underlying3 Tryz.underlying23 (AF Er Er)) rfl ?_
  refine J1 ?_
  refine rO 1 [7]<|zK FR rfl<|?_
  exact Av
  refine J2 ?_
  refine rF 3 [6] ?_
  have:=hI.aid
  unfold U32 at this
  refine pV (AQ rfl rfl Tryz.underlying3 Tryz.underlying23 (AF Er Er)) rfl ?_
  refine J1 ?_
  exact Dy
  refine J2 ?_
  refine rF 4 [6] ?_
  have:=hI.aid
  unfold U32 at this
  refine pV (AQ rfl rfl Tryz.underlying3 Tryz.underlying23 (AF Er Er)) rfl ?_
  refine J1 ?_
  refine rA 3 [2] rfl ?_
  refine J2 ?_
  exact Dy
  refine J6 ?_
  refine JT (fun h80=>?_) (fun h80=>?_)
  refine J6 ?_
  have e0:GU a t=a.comms.flatMap fun x=>BM x 4:=(by unfold GU;rw [if_neg (by omega),if_neg (by omega),if_neg (by omega),if_neg (by omega),if_neg (by omega),if_neg (by omega),if_pos (by omega)])
  rw [e0] at hB ⊢
  refine J7 ?_
  refine WC.loop (fun x:Nat×List Int×Option Addr×Nat×List Ent=>[(84, .int .i64 x.1),(83, .int .i64 a.comms.length),(82, .slice a.cad a.comms.length a.cc),(5, .slice x.2.2.1 x.2.1.length x.2.2.2.1)]) (fun x=>x.2.2.2.2++[]) (fun x=>x.1≤a.comms.length∧x.2.1++(a.comms.drop x.1).flatMap (fun y=>BM y 4)=a.comms.flatMap (fun y=>BM y 4)∧BV x.2.2.1 x.2.2.2.1 x.2.1 x.2.2.2.2) (fun x=>a.comms.length-x.1) (0,[],none,0,[]) ⟨Nat.zero_le _,rfl,Vec.nil 1⟩ Km (List.nil_sublist _) ?_
  rintro ⟨k,ys,ad,c,E⟩ ⟨hk,hy,hV⟩
  dsimp only at hk hy hV
  dsimp only
  have hlenP:=hI.lens.2.1
  refine J2 ?_
  refine JT (fun h85=>?_) (fun h85=>?_)
  refine J10 ?_
  obtain ⟨x,hx⟩:∃ x,a.comms[k]?=some x:=⟨a.comms[k]' Er,List.getElem?_eq_getElem _⟩
  obtain ⟨b,o,ea,hr⟩:=hA.comms F5
  rw [Gt hx,List.flatMap_cons] at hy
  have hyl:ys.length≤3600000:=(by rw [← hy,List.length_append] at hB;omega)
  refine zV ((AB (b:=b) (off:=o) (lo:=k) rfl (by show some (Value.slice a.cad _ _)=_;rw [ea]) rfl Tryz.underlying32 AP rfl Er)) rfl ?_
  refine zV (AA rfl rfl AK (AL (v:=.int .i64 x) (fun h=>h) (by rw [Nat.mul_one];exact hr k _ (Ke hx)))) rfl ?_
  refine J6 ?_
  refine zK FR rfl ?_
  intro w1 hS
  refine (HC (fun _=>False) w w1 _ _ _ _ _ x 4 hV hS Fp Er).mono ?_
  rintro e w' ⟨ad90,c90,E90,rfl,hV90,hS'⟩
  refine ⟨_,_,rfl,hS',?_⟩
  refine J8 ?_
  exact eW (k+1,ys++BM x 4,ad90,c90,E90) Eu ⟨by dsimp only;omega,by dsimp only;rw [List.append_assoc];exact hy,hV90⟩ (.int rfl Eu (.cons rfl (.cons rfl (.cons rfl .nil))))
  refine J17 ?_
  refine eT1 ?_
  obtain rfl:k=a.comms.length:=Er
  exact C4
  refine J14 ?_
  refine eT1 ?_
  exact fun w' h=>⟨_,rfl,IP.of (E:=[]) (xs:=[]) (ys:=GU a t) (Vec.nil 1) h (by unfold GU;rw [if_neg (by omega),if_neg (by omega),if_neg (by omega),if_neg (by omega),if_neg (by omega),if_neg (by omega),if_neg (by omega)])⟩

def FG (fl t:Int) (vs:List Int):List Int :=
  if 255<vs.length then BM (fl+16) 1++BM t 1++BM vs.length 2++vs else BM fl 1++BM t 1++BM vs.length 1++vs
theorem K3 (fl t:Int) (vs:List Int):(FG fl t vs).length=vs.length+(if 255<vs.length then 4 else 3):=by
  unfold FG
  split <;> simp only [List.length_append,AW] <;> omega
set_option maxHeartbeats 1000000 in
theorem V8 (p:Nat→Prop) (w0 w1:World) (L E:List Ent) (ad:Option Addr) (c:Nat) (xs:List Int) (fl t:Int) (va:Option Addr) (vc:Nat) (vs:List Int) (hV:BV ad c xs E)
    (hv:0<vs.length→∃ b o,va=some ⟨b,o,none⟩∧∀ w,St p w0 w L→w.rangeAt b o (u8s vs)) (hS0:St p w0 w1 (E++L)) (hk:xs.length+vs.length≤3900000) (hf:fl=64∨fl=128∨fl=192∨fl=224) :
    Calls Tryz.prog 100 #[.slice ad xs.length c, .int .i64 fl, .int .i64 t, .slice va vs.length vc] w1 fun e w'=>∃ ad' c' E',e = .returned (.slice ad' (xs++FG fl t vs).length c')∧BV ad' c' (xs++FG fl t vs) E'∧St p w0 w' (E'++L):=by
  refine enter Tryz.func100 rfl Tryz.ntmps100 rfl hS0 ?_
  refine J10 ?_
  refine JT (fun h11=>?_) (fun h11=>?_)
  refine J6 ?_
  refine zV (Uz rfl rfl rfl (show _=fl+16 from by rcases hf with rfl|rfl|rfl|rfl <;> decide)) rfl ?_
  refine zK FR rfl ?_
  intro w1 hS
  refine (HC p w0 w1 _ _ _ _ _ (fl+16) 1 hV hS Fk Er).mono ?_
  rintro e w' ⟨ad15,c15,E15,rfl,hV15,hS'⟩
  refine ⟨_,_,rfl,hS',?_⟩
  refine J1 ?_
  refine zK FR rfl ?_
  intro w1 hS
  refine (HC p w0 w1 _ _ _ _ _ t 1 hV15 hS Fk Er).mono ?_
  rintro e w' ⟨ad17,c17,E17,rfl,hV17,hS'⟩
  refine ⟨_,_,rfl,hS',?_⟩
  refine J2 ?_
  refine zK FR rfl ?_
  intro w1 hS
  refine (HC p w0 w1 _ _ _ _ _ vs.length 2 hV17 hS Fk Er).mono ?_
  rintro e w' ⟨ad20,c20,E20,rfl,hV20,hS'⟩
  refine ⟨_,_,rfl,hS',?_⟩
  refine J7 ?_
  refine WL.AN rfl rfl rfl Tryz.underlying25 Tryz.underlying25 AO Hx BF rfl rfl hV20 (new:=u8s vs) (fun h=>by obtain ⟨b,o,e,hr⟩:=hv h;exact ⟨b,o,e,fun w hS=>hr w (hS.sub (List.sublist_append_right _ _))⟩) Fh (CQ _) (by simp only [List.length_append,AW];omega) (.none rfl) rfl rfl ?_
  intro ad31 c31 E31 hV31 hr31
  refine J4 ?_
  refine eT1 ?_
  rw [← CH] at hV31
  have e1:=hV31.toB
  have e2:xs++BM (fl+16) 1++BM t 1++BM vs.length 2++vs=xs++FG fl t vs:=(by unfold FG;rw [if_pos (by omega)];simp only [List.append_assoc])
  rw [e1,e2]
  rw [e1,e2] at hV31
  exact fun w' h=>⟨ad31,c31,E31,rfl,hV31,h⟩
  refine J6 ?_
  refine zK FR rfl ?_
  intro w1 hS
  refine (HC p w0 w1 _ _ _ _ _ fl 1 hV hS Fk Er).mono ?_
  rintro e w' ⟨ad23,c23,E23,rfl,hV23,hS'⟩
  refine ⟨_,_,rfl,hS',?_⟩
  refine J1 ?_
  refine zK FR rfl ?_
  intro w1 hS
  refine (HC p w0 w1 _ _ _ _ _ t 1 hV23 hS Fk Er).mono ?_
  rintro e w' ⟨ad25,c25,E25,rfl,hV25,hS'⟩
  refine ⟨_,_,rfl,hS',?_⟩
  refine J2 ?_
  refine zK FR rfl ?_
  intro w1 hS
  refine (HC p w0 w1 _ _ _ _ _ vs.length 1 hV25 hS Fk Er).mono ?_
  rintro e w' ⟨ad28,c28,E28,rfl,hV28,hS'⟩
  refine ⟨_,_,rfl,hS',?_⟩
  refine J7 ?_
  refine WL.AN rfl rfl rfl Tryz.underlying25 Tryz.underlying25 AO Hx BF rfl rfl hV28 (new:=u8s vs) (fun h=>by obtain ⟨b,o,e,hr⟩:=hv h;exact ⟨b,o,e,fun w hS=>hr w (hS.sub (List.sublist_append_right _ _))⟩) Fh (CQ _) (by simp only [List.length_append,AW];omega) (.none rfl) rfl rfl ?_
  intro ad31 c31 E31 hV31 hr31
  refine J4 ?_
  refine eT1 ?_
  rw [← CH] at hV31
  have e1:=hV31.toB
  have e2:xs++BM fl 1++BM t 1++BM vs.length 1++vs=xs++FG fl t vs:=(by unfold FG;rw [if_neg (by omega)];simp only [List.append_assoc])
  rw [e1,e2]
  rw [e1,e2] at hV31
  exact fun w' h=>⟨ad31,c31,E31,rfl,hV31,h⟩

theorem Vec.src {s k c:Nat}{ad:Option Addr}{xs:List Value}{E L:List Ent}(hV:Vec s ad k c xs E) (hm:∀ e∈E,e∈L):0<xs.length→∃ b o,ad=some ⟨b,o,none⟩∧∀ (p:Nat→Prop) (w0 w:World),St p w0 w L→w.rangeAt b o xs:=fun hn=>by
  rcases hV with ⟨_,_,_,rfl,_⟩|⟨g,cs,rfl,rfl,hx,hcl,hk⟩
  · simp at hn
  · refine ⟨g,0,rfl,fun p w0 w hS j v hj=>?_⟩
    have hR:Row w g cs:=hS.holds (.row g cs) (hm _ (List.mem_cons_self ..))
    rw [← hx,List.getElem?_take] at hj
    split at hj
    · rw [Nat.zero_add];exact hR.cell hj
    · cases hj
def DK (k:Nat):Int:=if k=0 then 0 else if k=4 then 128 else if k=7 then 192 else if k=8 then 192 else 64
theorem Px {k:Nat}(h:1≤k):DK k=64∨DK k=128∨DK k=192∨DK k=224:=by
  unfold DK
  repeat' split
  all_goals omega
def GF (w:World):Prop:=∀ i,i<9→w.cell? ⟨0,i,none⟩=some (.int .i64 (DK i))
theorem GF.FA {p:Nat→Prop}{w0 w:World}{L:List Ent}(hp:¬ p 0) (h:GF w0) (hS:St p w0 w L):GF w:=fun i hi=>hS.old hp (h i hi)
def BG (a:AtL) (t:Nat):List Int:=if hasB a.has t then FG (DK t) t (GU a t) else []
def Hn (a:AtL):List Int:=((List.range' 1 8).flatMap (BG a))++a.others.flatMap fun o=>FG 224 o.ty o.val
def Lj (a:AtL):Int:=if Mk a then if (a.others.any fun o=>decide (4096<o.val.length)) || decide (4096<(Hn a).length) then 6 else 0 else 1
def RM (a:AtL):List Int:=if Lj a=0 then Hn a else []
theorem Z0 {ss:List DO}(h:ss.all Ji=true):(ss.flatMap Mq).length≤512*ss.length:=by
  induction ss with
  | nil=>simp
  | cons s ss ih =>
    rw [List.all_cons,Bool.and_eq_true] at h
    have h1:=ih h.2
    have h2:=h.1
    unfold Ji at h2
    rw [Bool.and_eq_true] at h2
    have h3:=of_decide_eq_true h2.1
    rw [List.flatMap_cons,List.length_append,Sx,List.length_cons]
    omega
theorem JX {a:AtL}{t:Nat}(h:IF a t=true):(GU a t).length≤if t=2 then 512*a.path.length else 1024:=by
  unfold IF at h
  unfold GU
  by_cases h1:t=1
  · subst h1;simp [AW]
  by_cases h2:t=2
  · subst h2
    rw [if_neg Et,if_pos rfl] at h
    rw [if_neg Et,if_pos rfl,if_pos rfl]
    exact Z0 h
  by_cases h3:t=3
  · subst h3;simp [AW]
  by_cases h4:t=4
  · subst h4;simp [AW]
  by_cases h5:t=5
  · subst h5;simp [AW]
  by_cases h7:t=7
  · subst h7;simp [AW]
  by_cases h8:t=8
  · subst h8
    rw [if_neg Et,if_neg Et,if_neg Et,if_neg Et,if_neg Et,if_neg Et,if_pos rfl] at h
    unfold Jd at h
    rw [Bool.and_eq_true] at h
    have:=of_decide_eq_true h.2
    rw [if_neg Et,if_neg Et,if_neg Et,if_neg Et,if_neg Et,if_neg Et,if_pos rfl,Lv,if_neg Et]
    omega
  · simp [h1,h2,h3,h4,h5,h7,h8]
theorem JQ {a:AtL}(h:Mk a=true){t:Nat}(h1:1≤t) (h2:t≤8) (hb:hasB a.has t=true):IF a t=true:=by
  unfold Mk at h
  rw [Bool.and_eq_true,Bool.and_eq_true] at h
  have:=List.all_eq_true.1 h.1.2 t (List.mem_range'_1.2 ⟨h1,by omega⟩)
  unfold KU at this
  rw [hb] at this
  exact this
set_option maxHeartbeats 2000000 in
theorem AEnc_g (w0:World) (a:AtL) (hA:a.At w0) (hI:a.In) (hG:GF w0) (hP:a.path.length≤1100) (hO:a.others.length≤300) :
    Calls Tryz.prog 77 #[.agg a.cells.toArray] w0 fun e w'=>∃ v,e = .returned (.tuple #[v, .int .i64 (Lj a)])∧IP w0 w' (RM a) v:=by
  refine enter Tryz.func77 rfl Tryz.ntmps77 rfl (St.start (fun _=>False) w0) ?_
  refine J2 ?_
  refine WL.box rfl rfl rfl (.none rfl) rfl rfl ?_
  intro g1 hg1
  refine J8 ?_
  refine zk ck_99 rfl (fun w hS=>Aap w a (hA.st hS) hI) ?_
  generalize hc:Mk a=bc
  cases bc
  refine J6 ?_
  refine zV ((BY rfl rfl rfl).t (Et)) rfl ?_
  refine J12 ?_
  refine eT2 ?_
  have he:Lj a=1:=(by unfold Lj;rw [hc];rfl)
  have ho:RM a=[]:=(by unfold RM;rw [he];rfl)
  rw [he,ho]
  exact fun w' h=>⟨_,rfl,IP.of (E:=[]) (xs:=[]) (Vec.nil 1) h rfl⟩
  refine J6 ?_
  refine zV ((BY rfl rfl rfl).f (Et)) rfl ?_
  refine J17 ?_
  refine WC.loop (fun x:Nat×List Int×Option Addr×Nat×List Ent=>[(6, .int .i64 x.1),(5, .slice x.2.2.1 x.2.1.length x.2.2.2.1),(1, .pointer (some ⟨g1,0,none⟩))]) (fun x=>x.2.2.2.2++[.row g1 a.cells]) (fun x=>1≤x.1∧x.1≤9∧x.2.1.length≤1100*x.1+(if 2<x.1 then 563200 else 0)∧x.2.1++(List.range' x.1 (9-x.1)).flatMap (BG a)=(List.range' 1 8).flatMap (BG a)∧BV x.2.2.1 x.2.2.2.1 x.2.1 x.2.2.2.2) (fun x=>9-x.1) (1,[],none,0,[]) ⟨Nat.le_refl _,by decide,by decide,rfl,Vec.nil 1⟩ Km (.refl _) ?_
  rintro ⟨t,xs,ad,c,E⟩ ⟨ht1,ht9,hl,hx,hV⟩
  dsimp only at ht1 ht9 hl hx hV
  dsimp only
  refine J4 ?_
  refine JT (fun h15=>?_) (fun h15=>?_)
  refine J11 ?_
  rw [show 9-t=8-t+1 by omega,List.range'_succ,List.flatMap_cons] at hx
  refine zk Ty rfl (fun w hS=>Is_c w a t Er) ?_
  generalize hb:hasB a.has t=bb
  cases bb
  refine J11 ?_
  exact eW (t+1,xs,ad,c,E) Eu ⟨by dsimp only;omega,by dsimp only;omega,by dsimp only;split at hl <;> split <;> omega,by
  dsimp only
  rw [show 9-(t+1)=8-t by omega, ← hx]
  unfold BG
  rw [hb];rfl,hV⟩ (.int rfl Eu (.cons rfl (.cons rfl .nil)))
  refine J3 ?_
  refine WC.BB mixed<|rF 5 [0,1,2,4,6]<|?_
  refine J2 ?_
  refine pV (AT (lo:=t) rfl rfl rfl Tryz.underlying179 AP Er Er) rfl ?_
  refine J3 ?_
  refine WR.each (g:=4) [3,5] Es Et ?_
  refine ⟨?_,?_⟩
  refine zV (AA rfl rfl AK (AL (v:=.int .i64 (DK t)) (fun h=>h) Fz)) rfl ?_
  refine J1 ?_
  refine rA 3 [5] rfl ?_
  refine J2 ?_
  refine rO 1 [7,8] ?_
  have hgl:=JX (JQ hc ht1 Er hb)
  have hle:(GU a t).length≤563200:=(by split at hgl <;> omega)
  refine zK T9 rfl ?_
  intro w1 hS
  refine (Rj w1 a t (hA.st hS) hI Er).mono ?_
  rintro e w' ⟨_,rfl,ad28,c28,E28,rfl,hV28,hS'⟩
  refine ⟨_,_,rfl,hS.join hS',?_⟩
  refine WL.to (L':=E++(E28++[.row g1 a.cells])) (fun w hS=>St.front (R:=E) E28 hS) ?_
  have hpl:=K3 (DK t) t (GU a t)
  have hgl:=JX (JQ hc ht1 Er hb)
  refine zK Q7 rfl ?_
  intro w1 hS
  refine (V8 (fun _=>False) w0 w1 _ _ _ _ _ (DK t) t _ _ _ hV (fun h=>by
    obtain ⟨b,o,e,hr⟩:=hV28.src (L:=E28++[.row g1 a.cells]) (fun e he=>List.mem_append_left _ he) Fq
    exact ⟨b,o,e,fun w hS=>hr _ _ w hS⟩) hS Gh (Px ht1)).mono ?_
  rintro e w' ⟨ad29,c29,E29,rfl,hV29,hS'⟩
  refine ⟨_,_,rfl,hS',?_⟩
  refine J1 ?_
  refine rF 0 [9] ?_
  refine J10 ?_
  exact WE.next (t+1,xs++FG (DK t) t (GU a t),ad29,c29,E29) Eu ⟨by dsimp only;omega,by dsimp only;omega,by
  dsimp only
  rw [List.length_append,hpl]
  split at hl <;> split at hgl <;> split <;> split <;> omega,by
  dsimp only
  rw [show 9-(t+1)=8-t by omega, ← hx]
  unfold BG
  rw [hb,List.append_assoc];rfl,hV29⟩ (.int rfl Eu (.cons rfl (.cons rfl .nil))) (List.Sublist.append_left (List.sublist_append_right _ _) _)
  refine J2 ?_
  refine WR.each (g:=3) [3,7] Es Et ?_
  refine ⟨?_,?_⟩
  refine zV (AA rfl rfl AK (AL (v:=.int .i64 (DK t)) (fun h=>h) Fz)) rfl ?_
  refine J1 ?_
  refine rO 1 [7,8] ?_
  have hgl:=JX (JQ hc ht1 Er hb)
  have hle:(GU a t).length≤563200:=(by split at hgl <;> omega)
  refine zK T9 rfl ?_
  intro w1 hS
  refine (Rj w1 a t (hA.st hS) hI Er).mono ?_
  rintro e w' ⟨_,rfl,ad28,c28,E28,rfl,hV28,hS'⟩
  refine ⟨_,_,rfl,hS.join hS',?_⟩
  refine WL.to (L':=E++(E28++[.row g1 a.cells])) (fun w hS=>St.front (R:=E) E28 hS) ?_
  have hpl:=K3 (DK t) t (GU a t)
  have hgl:=JX (JQ hc ht1 Er hb)
  refine zK Q7 rfl ?_
  intro w1 hS
  refine (V8 (fun _=>False) w0 w1 _ _ _ _ _ (DK t) t _ _ _ hV (fun h=>by
    obtain ⟨b,o,e,hr⟩:=hV28.src (L:=E28++[.row g1 a.cells]) (fun e he=>List.mem_append_left _ he) Fq
    exact ⟨b,o,e,fun w hS=>hr _ _ w hS⟩) hS Gh (Px ht1)).mono ?_
  rintro e w' ⟨ad29,c29,E29,rfl,hV29,hS'⟩
  refine ⟨_,_,rfl,hS',?_⟩
  refine J1 ?_
  refine rF 0 [9] ?_
  refine J10 ?_
  exact WE.next (t+1,xs++FG (DK t) t (GU a t),ad29,c29,E29) Eu ⟨by dsimp only;omega,by dsimp only;omega,by
  dsimp only
  rw [List.length_append,hpl]
  split at hl <;> split at hgl <;> split <;> split <;> omega,by
  dsimp only
  rw [show 9-(t+1)=8-t by omega, ← hx]
  unfold BG
  rw [hb,List.append_assoc];rfl,hV29⟩ (.int rfl Eu (.cons rfl (.cons rfl .nil))) (List.Sublist.append_left (List.sublist_append_right _ _) _)
  have hgl:=JX (JQ hc ht1 Er hb)
  have hle:(GU a t).length≤563200:=(by split at hgl <;> omega)
  refine zK T9 rfl ?_
  intro w1 hS
  refine (Rj w1 a t (hA.st hS) hI Er).mono ?_
  rintro e w' ⟨_,rfl,ad28,c28,E28,rfl,hV28,hS'⟩
  refine ⟨_,_,rfl,hS.join hS',?_⟩
  refine WL.to (L':=E++(E28++[.row g1 a.cells])) (fun w hS=>St.front (R:=E) E28 hS) ?_
  refine J1 ?_
  refine rA 2 [3] rfl ?_
  refine qV (AA rfl rfl AK (AL (v:=.int .i64 (DK t)) (fun h=>h) Fz)) rfl ?_
  refine J1 ?_
  refine rO 1 [8] ?_
  have hpl:=K3 (DK t) t (GU a t)
  have hgl:=JX (JQ hc ht1 Er hb)
  refine zK Q7 rfl ?_
  intro w1 hS
  refine (V8 (fun _=>False) w0 w1 _ _ _ _ _ (DK t) t _ _ _ hV (fun h=>by
    obtain ⟨b,o,e,hr⟩:=hV28.src (L:=E28++[.row g1 a.cells]) (fun e he=>List.mem_append_left _ he) Fq
    exact ⟨b,o,e,fun w hS=>hr _ _ w hS⟩) hS Gh (Px ht1)).mono ?_
  rintro e w' ⟨ad29,c29,E29,rfl,hV29,hS'⟩
  refine ⟨_,_,rfl,hS',?_⟩
  refine J1 ?_
  refine rF 0 [9] ?_
  refine J10 ?_
  exact WE.next (t+1,xs++FG (DK t) t (GU a t),ad29,c29,E29) Eu ⟨by dsimp only;omega,by dsimp only;omega,by
  dsimp only
  rw [List.length_append,hpl]
  split at hl <;> split at hgl <;> split <;> split <;> omega,by
  dsimp only
  rw [show 9-(t+1)=8-t by omega, ← hx]
  unfold BG
  rw [hb,List.append_assoc];rfl,hV29⟩ (.int rfl Eu (.cons rfl (.cons rfl .nil))) (List.Sublist.append_left (List.sublist_append_right _ _) _)
  refine J18 ?_
  refine WC.loop (fun x:Nat×List Int×Option Addr×Nat×List Ent=>[(33, .int .i64 x.1),(32, .int .i64 a.others.length),(31, .slice a.oad a.others.length a.oc),(5, .slice x.2.2.1 x.2.1.length x.2.2.2.1)]) (fun x=>x.2.2.2.2++[]) (fun x=>x.1≤a.others.length∧x.2.1.length≤573200+4100*x.1∧x.2.1++(a.others.drop x.1).flatMap (fun o=>FG 224 o.ty o.val)=Hn a∧(∀ j o,j<x.1→a.others[j]?=some o→decide (4096<o.val.length)=false)∧BV x.2.2.1 x.2.2.2.1 x.2.1 x.2.2.2.2) (fun x=>a.others.length-x.1) (0,xs,ad,c,E) ⟨Nat.zero_le _,by dsimp only;split at hl <;> omega,by
  dsimp only
  rw [show 9-t=0 by omega] at hx
  rw [List.range'_zero,List.flatMap_nil,List.append_nil] at hx
  rw [hx];rfl,fun j _ h=>absurd h Eu,hV⟩ Km (List.Sublist.append_left (List.nil_sublist _) _) ?_
  rintro ⟨k,ys,ad2,c2,E2⟩ ⟨hk,hl2,hy,hsm,hV2⟩
  dsimp only at hk hl2 hy hsm hV2
  dsimp only
  refine J2 ?_
  refine JT (fun h34=>?_) (fun h34=>?_)
  refine J10 ?_
  obtain ⟨o,hs⟩:∃ o,a.others[k]?=some o:=⟨a.others[k]' Er,List.getElem?_eq_getElem _⟩
  obtain ⟨b,off,ea,hr⟩:=hA.Jk k o hs
  have hom:=List.mem_of_getElem? hs
  have hoI:=hI.Jk o hom
  rw [Gt hs,List.flatMap_cons] at hy
  refine zV ((AB (b:=b) (off:=off) (lo:=k) rfl (by show some (Value.slice a.oad _ _)=_;rw [ea]) rfl Tryz.underlying33 Ky rfl Er)) rfl ?_
  refine zV ((CA (cs:=o.cells) rfl rfl O2 rfl (Mt (fun h=>h) hr))) rfl<|WL.alloc rfl H2 (.none rfl) rfl rfl<|?_
  intro g8 hg8
  refine J1 ?_
  refine WL.to (L':=E2++[.row g8 o.cells]) (fun w hS=>hS.front [_]) ?_
  refine J8 ?_
  refine JT (fun h40=>?_) (fun h40=>?_)
  refine J16 ?_
  refine eT2 ?_
  have he:Lj a=6:=(by
    have:(a.others.any fun o=>decide (4096<o.val.length))=true:=List.any_eq_true.2 ⟨o,hom,decide_eq_true Er⟩
    unfold Lj;rw [hc,this];rfl)
  exact Cf
  refine J11 ?_
  have hpl:=K3 224 o.ty o.val
  refine zK Q7 rfl ?_
  intro w1 hS
  refine (V8 (fun _=>False) w0 w1 _ _ _ _ _ 224 o.ty _ _ _ hV2 (fun h=>by
    obtain ⟨b',o',e,hr'⟩:=hA.vals o hom Fq
    exact ⟨b',o',e,Mt (fun h=>h) hr'⟩) hS Er Er).mono ?_
  rintro e w' ⟨ad46,c46,E46,rfl,hV46,hS'⟩
  refine ⟨_,_,rfl,hS',?_⟩
  refine J8 ?_
  exact WE.next (k+1,ys++FG 224 o.ty o.val,ad46,c46,E46) Eu ⟨by dsimp only;omega,by
  dsimp only
  rw [List.length_append,hpl]
  split <;> omega,by dsimp only;rw [List.append_assoc];exact hy,fun j o' hj hjo=>by
  by_cases e:j=k
  · subst e;rw [hs] at hjo;obtain rfl:=Option.some.inj hjo;exact decide_eq_false Er
  · exact hsm j o' (by dsimp only at hj;omega) hjo,hV46⟩ (.int rfl Eu (.cons rfl (.cons rfl (.cons rfl .nil)))) (List.Sublist.append_left (List.nil_sublist _) _)
  refine J13 ?_
  obtain rfl:k=a.others.length:=Er
  rw [List.drop_length,List.flatMap_nil,List.append_nil] at hy
  have hna:(a.others.any fun o=>decide (4096<o.val.length))=false:=List.any_eq_false.2 fun o ho=>by
    obtain ⟨j,hj,e⟩:=List.getElem_of_mem ho
    rw [hsm j o Er (by rw [List.getElem?_eq_getElem hj,e])];decide
  refine J1 ?_
  refine JT (fun h50=>?_) (fun h50=>?_)
  refine J11 ?_
  refine eT2 ?_
  have he:Lj a=6:=(by
    unfold Lj;rw [hc,hna,decide_eq_true (show 4096<(Hn a).length by rw [← hy];omega)];rfl)
  exact Cf
  refine J13 ?_
  refine eT2 ?_
  have he:Lj a=0:=(by
    unfold Lj;rw [hc,hna,decide_eq_false (show ¬ 4096<(Hn a).length by rw [← hy];omega)];rfl)
  have ho:RM a=ys:=(by unfold RM;rw [he, ← hy];rfl)
  rw [he,ho]
  exact fun w' h=>⟨_,rfl,IP.of hV2 h rfl⟩
end Gq
end Go.Proofs.YtcmpamnhegndnaaGreatDoor
