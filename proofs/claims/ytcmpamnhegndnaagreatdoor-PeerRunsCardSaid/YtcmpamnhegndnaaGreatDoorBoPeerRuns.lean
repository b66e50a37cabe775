/- Texts joined: engine, contracts and laws, in the order in which they build. -/
import Derived.Test.YtcmpamnhegndnaaGreatDoorBnPeerRuns
namespace Go.Proofs.YtcmpamnhegndnaaGreatDoor
open Go.RowKit
section Gq
attribute [local irreducible] WL WC WE WQ WP WH WR WM WRH

structure RE where
  kind:Int
  conn:Int
  msg:Int
  code:Int
  sub:Int
def RE.cells (e:RE):List Value:=[.int .i64 e.kind, .int .i64 e.conn, .int .i64 e.msg, .int .i64 e.code, .int .i64 e.sub]
def GY (es:List RE):List Value:=es.flatMap RE.cells
theorem Ls (es:List RE):(GY es).length=es.length*5:=by
  induction es with
  | nil=>rfl
  | cons e es ih=>rw [GY,List.flatMap_cons,List.length_append,show (es.flatMap RE.cells).length=es.length*5 from ih,List.length_cons,Nat.add_mul,Nat.add_comm];rfl
theorem S7 (es:List RE):(GY es).all one=true:=by
  induction es with
  | nil=>rfl
  | cons e es ih=>rw [GY,List.flatMap_cons,List.all_append,show (es.flatMap RE.cells).all one=true from ih];rfl
theorem ZP (es fs:List RE):GY (es++fs)=GY es++GY fs:=by unfold GY;rw [List.flatMap_append]
def rfC (s:Se) (o:Value):List Value:=[.int .i64 s.asn, .int .i64 s.their, .int .i64 s.hold, .int .i64 s.retry, .int .u32 s.id, .int .i64 s.now, .int .i64 s.base, .int .i64 s.c0.st, .int .i64 s.c1.st, .int .u32 s.c0.id, .int .u32 s.c1.id, .int .i64 s.c0.hold, .int .i64 s.c1.hold,
  .int .i64 (s.D.getD 0 0), .int .i64 (s.D.getD 1 0), .int .i64 (s.D.getD 2 0), .int .i64 (s.D.getD 3 0), .int .i64 (s.D.getD 4 0),o]
theorem TS {s k c:Nat}{ad:Option Addr}{xs:List Value}{E:List Ent}(hV:Vec s ad k c xs E){w:World}(hw:∀ e∈E,e.holds w):AU w ad xs:=fun hn=>by
  obtain ⟨b,o,e,hr⟩:=Vec.Rf hV hn
  exact ⟨b,o,e,hr w hw⟩
def Trf (ad:Option Addr) (es:List RE) (ad':Option Addr) (es':List RE) (E:List Ent):Prop:=∀ (p:Nat→Prop) (v0:World) (L:List Ent),(∀ w,St p v0 w L→AU w ad (GY es))→∀ w,St p v0 w (E++L)→AU w ad' (GY es')
theorem Trf.refl (ad:Option Addr) (es:List RE):Trf ad es ad es []:=fun _ _ _ h=>h
theorem Trf.own {ad ad':Option Addr}{es es':List RE}{E:List Ent}{k c:Nat}(h:Vec 5 ad' k c (GY es') E):Trf ad es ad' es' E:=fun _ _ _ _ _ hS=>TS h fun e he=>hS.holds e (List.mem_append_left _ he)
theorem Trf.trans {a b c:Option Addr}{x y z:List RE}{E F:List Ent}(h:Trf a x b y E) (h':Trf b y c z F):Trf a x c z (F++E):=fun p v0 L hw w hS=>h' p v0 (E++L) (h p v0 L hw) w (by rwa [← List.append_assoc])
theorem Trf.at {a b:Option Addr}{x y:List RE}{E L:List Ent}{w0 w:World}(h:Trf a x b y E) (hO:AU w0 a (GY x)) (hS:St (fun _=>False) w0 w L) (hs:E.Sublist L):AU w b (GY y) :=
  h (fun _=>False) w0 [] (fun _ h=>hO.frm (h.rng fun _ h=>h)) w (by rw [List.append_nil];exact hS.sub hs)
def RxP (w w':World) (s:Se) (ad:Option Addr) (es es':List RE) (e:Ending):Prop:=∃ ad' c E,e = .returned (.agg (rfC s (.slice ad' es'.length c)).toArray)∧Trf ad es ad' es' E∧St (fun _=>False) w w' E
theorem HO (w0:World) (s:Se) (ad:Option Addr) (c:Nat) (es:List RE) (x:RE) (hO:AU w0 ad (GY es)) (hn:es.length≤100000) :
    Calls Tryz.prog 68 #[.agg (rfC s (.slice ad es.length c)).toArray, .agg x.cells.toArray] w0 fun e w'=>RxP w0 w' s ad es (es++[x]) e:=by
  refine enter Tryz.func68 rfl Tryz.ntmps68 rfl (St.start (fun _=>False) w0) ?_
  refine J2 ?_
  refine WL.box rfl rfl rfl (.none rfl) rfl rfl ?_
  intro g2 hg2
  refine WL.box rfl rfl rfl (.none rfl) rfl rfl ?_
  intro g3 hg3
  refine WL.alloc rfl EC (.none rfl) rfl rfl ?_
  intro g4 hg4
  refine J3 ?_
  refine WC.heldT 7 ([.row g3 x.cells, .row g2 (rfC s (.slice ad es.length c))]) mixed ?_
  refine WRT.first (g:=6) [1,2,4] Es Es Es kp ?_
  refine J1 ?_
  refine WH.val (AA rfl rfl T4 (cellAt (v:=.slice ad es.length c) rfl)) (.none rfl) rfl rfl<|WH.val (CA rfl rfl Py rfl (BZ)) (.none rfl) rfl rfl<|WH.RD<|?_
  refine WRT.cut (g':=3) (listed':=marks (Array.replicate 9 false) [0,1,2,3,4,5]) (fun y:Option Addr×Nat×List Ent×Nat=>[(8, .slice y.1 (0+es.length) y.2.1),(10, .slice (some ⟨y.2.2.2,0,none⟩) 1 1),(4, .pointer (some ⟨g4,0,none⟩)),(2, .pointer (some ⟨g2,0,none⟩))]) (fun y=>y.2.2.1++(.row y.2.2.2 x.cells::.row g4 [.int .i64 0, .int .i64 0, .int .i64 0, .int .i64 0, .int .u32 0, .int .i64 0, .int .i64 0, .int .i64 0, .int .i64 0, .int .u32 0, .int .u32 0, .int .i64 0, .int .i64 0, .int .i64 0, .int .i64 0, .int .i64 0, .int .i64 0, .int .i64 0, .slice none 0 0]::.row g3 x.cells::[.row g2 (rfC s (.slice ad es.length c))])) (fun y=>Vec 5 y.1 (0+es.length) y.2.1 (GY es) y.2.2.1) (fun hcut=>?_) ?_
  refine WRT.each (g:=5) [0,5] Es Et ?_
  refine ⟨?_,?_⟩
  refine zB Tryz.underlying81 Jz Hp (show _=some [] from rfl) rfl ?_
  intro g5 hg5
  refine WL.RD kp ?_
  refine WRT.each (g:=4) [3,5] Es Et ?_
  refine ⟨?_,?_⟩
  refine WL.AN rfl rfl rfl Tryz.underlying81 Tryz.underlying81 Jz Ux Hp rfl rfl (Vec.row (s:=5) (k:=0) (c:=0) (g:=g5) (cs:=[]) rfl rfl (Nat.le_refl _)) (new:=GY es) (fun hm=>(hO (by rw [Ls];omega)).elim fun b h=>h.elim fun o h=>⟨b,o,h.1,fun w hS=>Mt (fun h=>h) h.2 w hS⟩) (Ls es) (S7 es) Er (.none rfl) rfl rfl ?_
  intro ad8 c8 E8 hV8 hr8
  refine WL.RD kp ?_
  refine WRT.one (g:=3) 5 Es ?_
  refine zB Tryz.underlying81 Jz Hp (show _=some x.cells from rfl) rfl ?_
  intro g10 hg10
  refine WL.RD kp ?_
  exact (hcut (ad8,c8,E8,g10) hV8).to Km (fun w hS=>hS.AX)
  refine zB Tryz.underlying81 Jz Hp (show _=some x.cells from rfl) rfl ?_
  intro g10 hg10
  exact Au
  refine zB Tryz.underlying81 Jz Hp (show _=some x.cells from rfl) rfl ?_
  intro g10 hg10
  refine WL.RD kp ?_
  refine WRT.one (g:=4) 0 Es ?_
  refine zB Tryz.underlying81 Jz Hp (show _=some [] from rfl) rfl ?_
  intro g5 hg5
  exact Au
  rintro ⟨ad8,c8,E8,g10⟩ hV8
  dsimp only at hV8
  dsimp only
  refine WRT.one (g:=2) 6 Es ?_
  refine WL.AN rfl rfl rfl Tryz.underlying81 Tryz.underlying81 Jz Ux Hp rfl rfl hV8 (new:=x.cells) (fun _=>⟨g10,0,rfl,fun w hS=>BZ (g:=g10) w hS⟩) rfl rfl Er (.none rfl) rfl rfl ?_
  intro ad11 c11 E11 hV11 hr11
  refine WL.RD kp ?_
  refine WRT.one (g:=1) 7 Es ?_
  refine J1 ?_
  refine WL.nilT2 rfl ?_
  refine WRT.one (g:=0) 8 Es ?_
  refine J1 ?_
  refine WL.as (L':=E11++(.row g10 x.cells::.row g4 [.int .i64 0, .int .i64 0, .int .i64 0, .int .i64 0, .int .u32 0, .int .i64 0, .int .i64 0, .int .i64 0, .int .i64 0, .int .u32 0, .int .u32 0, .int .i64 0, .int .i64 0, .int .i64 0, .int .i64 0, .int .i64 0, .int .i64 0, .int .i64 0, .slice none 0 0]::.row g3 x.cells::[.row g2 (rfC s (.slice ad11 (0+es.length+1) c11))])) rfl<|WL.nilT2 rfl<|?_
  refine WRT.done Es ?_
  refine J8 ?_
  refine eT1 ?_
  refine fun w' h=>⟨ad11,c11,E11,?_,?_,h.sub (List.sublist_append_left _ _)⟩
  · rw [show (es++[x]).length=0+es.length+1 by rw [List.length_append,Nat.zero_add];rfl]
  · exact .own (c:=c11) (k:=0+es.length+1) (by rw [ZP];exact hV11)
theorem RV {s:Se}(h5:s.D.length=5){k:Nat}(hk:k<5) (v:Int) (o:Value):(rfC s o).set (13+k) (.int .i64 v)=rfC { s with D:=s.D.set k v } o:=by
  obtain ⟨a,b,c,d,e,h⟩:=VZ h5
  unfold rfC
  simp only [h]
  match k,hk with
  | 0,_|1,_|2,_|3,_|4,_=>rfl
theorem Wi (s:Se){n:Nat}(hn:n<2) (v:Int) (o:Value):(rfC s o).set (7+n) (.int .i64 v)=rfC (s.set n { s.c n with st:=v }) o:=by
  match n,hn with
  | 0,_|1,_=>rfl
theorem rf_id (s:Se){n:Nat}(hn:n<2) (v:Int) (o:Value):(rfC s o).set (9+n) (.int .u32 v)=rfC (s.set n { s.c n with id:=v }) o:=by
  match n,hn with
  | 0,_|1,_=>rfl
theorem VC (s:Se){n:Nat}(hn:n<2) (v:Int) (o:Value):(rfC s o).set (11+n) (.int .i64 v)=rfC (s.set n { s.c n with hold:=v }) o:=by
  match n,hn with
  | 0,_|1,_=>rfl
theorem G0 (s:Se){n:Nat}(hn:n<2) (o:Value):(rfC s o)[7+n]?=some (.int .i64 (s.c n).st):=by
  match n,hn with
  | 0,_|1,_=>rfl
theorem rf_gid (s:Se){n:Nat}(hn:n<2) (o:Value):(rfC s o)[9+n]?=some (.int .u32 (s.c n).id):=by
  match n,hn with
  | 0,_|1,_=>rfl
theorem Iy (s:Se){n:Nat}(hn:n<2) (o:Value):(rfC s o)[11+n]?=some (.int .i64 (s.c n).hold):=by
  match n,hn with
  | 0,_|1,_=>rfl
theorem Us {s:Se}{later:Int}(h0:0≤later) (h:s.now+later<FB) (n:Nat):s.due n later = { s with D:=s.D.set n (s.now+later) }:=by
  unfold Se.due
  rw [if_neg Er]
  congr 2
  omega
theorem BR {P:Program}{C:World→Prop}{N:Nat}{l:Kn}{o:Oper}{t e:TypeId}{x xl:Operand}{b off lo m:Nat}{k:IntKind}{A:Int}(ho:o.op = .indexAddr t x xl) (hx:ev l x=some (.pointer (some ⟨b,off,none⟩))) (hl:ev l xl=some (.int k A)) (hu:P.underlying t=some (.array m e)) (hs:(P.info? e).map (·.size)=some 1) (hA:A=(lo:Int)) (hlt:lo<m) :
    Val P C N l o (.pointer (some ⟨b,off+lo,none⟩)):=by
  have h:=AT (C:=C) (n:=N) ho hx hl hu hs hA hlt
  rwa [Nat.mul_one] at h
theorem Io (w:World) (s:Se) (o:Value) (k:Int) (h:0≤s.now∧0≤k∧s.now+k<FB) :
    Calls Tryz.prog 69 #[.agg (rfC s o).toArray, .int .i64 k] w fun e w'=>e = .returned (.int .i64 (s.now+k))∧Frm (fun _=>False) w w':=by
  unfold FB at h
  refine enter Tryz.func69 rfl Tryz.ntmps69 rfl (St.start (fun _=>False) w) ?_
  refine J2 ?_
  refine WL.box rfl rfl rfl (.none rfl) rfl rfl ?_
  intro g2 hg2
  refine J7 ?_
  refine zV (AA rfl rfl AK (cellAt (v:=.int .i64 s.now) rfl)) rfl ?_
  refine J1 ?_
  refine zV (AS rfl rfl rfl ((show _=s.now+k from AF Er Er))) rfl ?_
  refine zV ((HY rfl rfl rfl).f (Er)) rfl ?_
  refine J8 ?_
  refine zV (AA rfl rfl AK (cellAt (v:=.int .i64 s.now) rfl)) rfl ?_
  refine J1 ?_
  refine zV (AS rfl rfl rfl ((show _=s.now+k from AF Er Er))) rfl ?_
  exact Eb
def Iv (s:Se) (n:Nat):List RE:=if (s.c n).st=5 then [⟨5,0,0,0,0⟩] else []
theorem Mi {s:Se}(h5:s.D.length=5){k:Nat}(hk:k<5){later:Int}(h0:0≤later) (h:s.now+later<FB) (o:Value):(rfC s o).set (13+k) (.int .i64 (s.now+later))=rfC (s.due k later) o:=by
  rw [RV h5 hk,Us h0 h]
theorem We (w0:World) (s:Se) (ad:Option Addr) (c:Nat) (es:List RE) (hO:AU w0 ad (GY es)) (hn:es.length≤100000) (h5:s.D.length=5) (hr:0≤s.now∧0≤s.retry∧s.now+s.retry<FB) :
    Calls Tryz.prog 66 #[.agg (rfC s (.slice ad es.length c)).toArray] w0 fun e w'=>RxP w0 w' s.JW ad es (es++[⟨1,0,0,0,0⟩]) e:=by
  refine enter Tryz.func66 rfl Tryz.ntmps66 rfl (St.start (fun _=>False) w0) ?_
  refine J2 ?_
  refine WL.box rfl rfl rfl (.none rfl) rfl rfl ?_
  intro g1 hg1
  refine WL.alloc rfl EC (.none rfl) rfl rfl ?_
  intro g2 hg2
  refine J12 ?_
  refine zK Ju rfl ?_
  intro w1 hS
  refine (HO w1 { s with base:=1 } ad c es ⟨1,0,0,0,0⟩ (hO.frm (hS.rng fun _ h=>h)) hn).mono ?_
  rintro e w' ⟨ad6,c6,E6,rfl,hV6,hS'⟩
  refine ⟨_,_,rfl,hS.join hS',?_⟩
  refine J7 ?_
  refine zV (AA rfl rfl AK (cellAt (v:=.int .i64 s.retry) rfl)) rfl<|zk LX rfl (fun w hS=>Io w { s with base:=1 } _ s.retry hr)<|?_
  refine J1 ?_
  refine zV (BR (lo:=0) rfl rfl rfl Tryz.underlying80 AP rfl Et) rfl ?_
  refine J1 ?_
  rw [show s.now+s.retry=({ s with base:=1 }:Se).now+s.retry from rfl,Mi (s:={ s with base:=1 }) h5 Et hr.2.1 hr.2.2]
  refine J9 ?_
  refine eT1 ?_
  exact fun w' h=>⟨ad6,c6,E6,rfl,hV6,h.sub (List.sublist_append_left _ _)⟩

theorem setD5 {s:Se}(h5:s.D.length=5) (n:Nat) (c:CnM):(s.set n c).D.length=5:=by
  unfold Se.set
  split <;> exact h5
theorem Se.Qv (s:Se) (n:Nat) (c:CnM):(s.set n c).D=s.D:=by
  unfold Se.set
  split <;> rfl
def Se.z0 (s:Se) (n:Nat):Se:=s.set n { s.c n with st:=0 }
def Se.z1 (s:Se) (n:Nat):Se:=(s.z0 n).set n { (s.z0 n).c n with id:=0 }
def Se.z2 (s:Se) (n:Nat):Se:=(s.z1 n).set n { (s.z1 n).c n with hold:=0 }
theorem z2_D (s:Se) (n:Nat):(s.z2 n).D=s.D:=(Se.Qv ..).trans ((Se.Qv ..).trans (Se.Qv ..))
theorem rf_cut (s:Se){n:Nat}(hn:n<2) (h5:s.D.length=5) (o:Value):((rfC (s.z2 n) o).set (13+(1+n)) (.int .i64 (-1))).set (13+(3+n)) (.int .i64 (-1))=rfC (s.cut n) o:=by
  have e:=z2_D s n
  rw [RV (by rw [e];exact h5) Er,RV (by rw [List.length_set,e];exact h5) Er,e]
  match n,hn with
  | 0,_|1,_=>rfl
theorem RW (w0:World) (s:Se) (n:Nat) (hn:n<2) (ad:Option Addr) (c:Nat) (es:List RE) (hO:AU w0 ad (GY es)) (hl:es.length≤100000) (h5:s.D.length=5) (hr:0≤s.now∧0≤s.retry∧s.now+s.retry<FB) :
    Calls Tryz.prog 70 #[.agg (rfC s (.slice ad es.length c)).toArray, .int .i64 n] w0 fun e w'=>RxP w0 w' (s.gone n) ad es (es++Iv s n) e:=by
  have h5c:(s.cut n).D.length=5:=(List.length_set ..).trans ((List.length_set ..).trans h5)
  have hcc:(s.cut n).c (1-n)=s.c (1-n):=by
    match n,hn with
    | 0,_|1,_=>rfl
  refine enter Tryz.func70 rfl Tryz.ntmps70 rfl (St.start (fun _=>False) w0) ?_
  refine J2 ?_
  refine WL.box rfl rfl rfl (.none rfl) rfl rfl ?_
  intro g2 hg2
  refine WL.alloc rfl EC (.none rfl) rfl rfl ?_
  intro g4 hg4
  refine J6 ?_
  refine zV ((BR (lo:=n) rfl rfl rfl Tryz.underlying78 AP rfl hn)) rfl<|zV (AA rfl rfl AK (cellAt (v:=.int .i64 (s.c n).st) (G0 s hn _))) rfl<|?_
  refine J7 ?_
  refine zV ((BR (lo:=n) rfl rfl rfl Tryz.underlying78 AP rfl hn)) rfl ?_
  refine WL.DA rfl rfl rfl rfl AK (show 7+n<(rfC s (.slice ad es.length c)).length by show 7+n<19;omega) (.none rfl) rfl ?_
  rw [Wi s hn,show s.set n { s.c n with st:=0 }=s.z0 n from rfl]
  refine J6 ?_
  refine zV ((BR (lo:=n) rfl rfl rfl Tryz.underlying79 K5 rfl hn)) rfl ?_
  refine WL.DA rfl rfl rfl rfl Lt (show 9+n<(rfC (s.z0 n) (.slice ad es.length c)).length by show 9+n<19;omega) (.none rfl) rfl ?_
  rw [rf_id (s.z0 n) hn,show (s.z0 n).set n { (s.z0 n).c n with id:=0 }=s.z1 n from rfl]
  refine J6 ?_
  refine zV ((BR (lo:=n) rfl rfl rfl Tryz.underlying78 AP rfl hn)) rfl ?_
  refine WL.DA rfl rfl rfl rfl AK (show 11+n<(rfC (s.z1 n) (.slice ad es.length c)).length by show 11+n<19;omega) (.none rfl) rfl ?_
  rw [VC (s.z1 n) hn,show (s.z1 n).set n { (s.z1 n).c n with hold:=0 }=s.z2 n from rfl]
  refine J5 ?_
  refine zV (AS rfl rfl rfl ((show _=1+(n:Int) from AF Er Er))) rfl ?_
  refine J1 ?_
  refine zV ((BR (lo:=1+n) rfl rfl rfl Tryz.underlying80 AP Er Er)) rfl ?_
  refine WL.DA rfl rfl rfl rfl AK (show 13+(1+n)<(rfC (s.z2 n) (.slice ad es.length c)).length by show 13+(1+n)<19;omega) (.none rfl) rfl ?_
  refine J5 ?_
  refine zV (AS rfl rfl rfl ((show _=3+(n:Int) from AF Er Er))) rfl ?_
  refine J1 ?_
  refine zV ((BR (lo:=3+n) rfl rfl rfl Tryz.underlying80 AP Er Er)) rfl ?_
  refine WL.DA rfl rfl rfl rfl AK (show 13+(3+n)<((rfC (s.z2 n) (.slice ad es.length c)).set (13+(1+n)) (.int .i64 (-1))).length by rw [List.length_set];show 13+(3+n)<19;omega) (.none rfl) rfl ?_
  rw [rf_cut s hn h5]
  refine J2 ?_
  refine WC.cut (fun _:Option Addr×Nat×List RE×List Ent=>[(1, .int .i64 n),(2, .pointer (some ⟨g2,0,none⟩)),(4, .pointer (some ⟨g4,0,none⟩))]) (fun y=>y.2.2.2++(.row g4 [.int .i64 0, .int .i64 0, .int .i64 0, .int .i64 0, .int .u32 0, .int .i64 0, .int .i64 0, .int .i64 0, .int .i64 0, .int .u32 0, .int .u32 0, .int .i64 0, .int .i64 0, .int .i64 0, .int .i64 0, .int .i64 0, .int .i64 0, .int .i64 0, .slice none 0 0]::[.row g2 (rfC (s.cut n) (.slice y.1 y.2.2.1.length y.2.1))])) (fun y=>y.2.2.1=es++Iv s n∧Trf ad es y.1 y.2.2.1 y.2.2.2) ?_ ?_
  refine J3 ?_
  refine JT (fun h28=>?_) (fun h28=>?_)
  refine J6 ?_
  refine zK Ju rfl ?_
  intro w1 hS
  refine (HO w1 (s.cut n) ad c es ⟨5,0,0,0,0⟩ (hO.frm (hS.rng fun _ h=>h)) hl).mono ?_
  rintro e w' ⟨ad3,c3,E3,rfl,hT3,hS'⟩
  refine ⟨_,_,rfl,hS.join hS',?_⟩
  refine J2 ?_
  exact eM (ad3,c3,es++[⟨5,0,0,0,0⟩],E3) ⟨by unfold Iv;rw [if_pos h28],hT3⟩
  refine J4 ?_
  exact eM (ad,c,es,[]) ⟨by unfold Iv;rw [if_neg h28,List.append_nil], .refl _ _⟩
  rintro ⟨ad3,c3,es3,E3⟩ ⟨he3,hT3⟩
  dsimp only at he3 hT3
  dsimp only
  rw [← he3]
  refine J4 ?_
  refine zV (AA rfl rfl AK (cellAt (v:=.int .i64 (s.cut n).base) rfl)) rfl ?_
  refine JT (fun h34=>?_) (fun h34=>?_)
  refine J2 ?_
  refine zS (EM rfl rfl rfl ((show _=((1-n:Nat):Int) from (AF Er Er).trans Er))) rfl ?_
  refine J1 ?_
  refine zS ((BR (lo:=1-n) rfl rfl rfl Tryz.underlying78 AP rfl Er)) rfl ?_
  refine zS (AA rfl rfl AK (cellAt (v:=.int .i64 ((s.cut n).c (1-n)).st) (G0 (s.cut n) Er _))) rfl ?_
  refine JT (fun h41=>?_) (fun h41=>?_)
  refine J4 ?_
  refine WC.cut (fun _:Int=>[(1, .int .i64 n),(2, .pointer (some ⟨g2,0,none⟩)),(4, .pointer (some ⟨g4,0,none⟩))]) (fun b=>E3++(.row g4 [.int .i64 0, .int .i64 0, .int .i64 0, .int .i64 0, .int .u32 0, .int .i64 0, .int .i64 0, .int .i64 0, .int .i64 0, .int .u32 0, .int .u32 0, .int .i64 0, .int .i64 0, .int .i64 0, .int .i64 0, .int .i64 0, .int .i64 0, .int .i64 0, .slice none 0 0]::[.row g2 (rfC { s.cut n with base:=b } (.slice ad3 es3.length c3))])) (fun b=>b=if s.base=1 then 1 else 2) ?_ ?_
  refine J3 ?_
  refine zV (AA rfl rfl AK (cellAt (v:=.int .i64 (s.cut n).base) rfl)) rfl ?_
  refine JT (fun h45=>?_) (fun h45=>?_)
  refine J6 ?_
  refine WL.as (L':=E3++(.row g4 [.int .i64 0, .int .i64 0, .int .i64 0, .int .i64 0, .int .u32 0, .int .i64 0, .int .i64 0, .int .i64 0, .int .i64 0, .int .u32 0, .int .u32 0, .int .i64 0, .int .i64 0, .int .i64 0, .int .i64 0, .int .i64 0, .int .i64 0, .int .i64 0, .slice none 0 0]::[.row g2 (rfC { s.cut n with base:=2 } (.slice ad3 es3.length c3))])) rfl ?_
  refine J1 ?_
  exact eM (2:Int) (by rw [if_neg (fun e=>h45 ((DE s n).1.trans e))])
  refine J4 ?_
  exact eM (s.cut n).base (by rw [if_pos ((DE s n).1.symm.trans (Decidable.of_not_not h45))];exact Decidable.of_not_not h45)
  rintro b hb
  refine J3 ?_
  refine zV (AA rfl rfl AK (cellAt (v:=.int .i64 (s.cut n).retry) rfl)) rfl ?_
  refine zk LX rfl (fun w hS=>Io w { s.cut n with base:=b } _ (s.cut n).retry (by rw [show ({ s.cut n with base:=b }:Se).now=s.now from (DE s n).2.1,(DE s n).2.2];exact hr)) ?_
  refine J1 ?_
  refine zV (BR (lo:=0) rfl rfl rfl Tryz.underlying80 AP rfl Et) rfl ?_
  refine J1 ?_
  rw [Mi (s:={ s.cut n with base:=b }) h5c Et (by rw [(DE s n).2.2];exact hr.2.1) (by rw [show ({ s.cut n with base:=b }:Se).now=s.now from (DE s n).2.1,(DE s n).2.2];exact hr.2.2)]
  refine J9 ?_
  refine eT1 ?_
  exact fun w' h=>⟨ad3,c3,E3,by rw [JE (fun e=>h34 ((DE s n).1.trans e)) (hcc ▸ h41), ← hb,(DE s n).2.2],hT3,h.sub (List.sublist_append_left _ _)⟩
  refine J13 ?_
  refine eT1 ?_
  exact fun w' h=>⟨ad3,c3,E3,by rw [KN fun h=>h41 (hcc.symm ▸ h.2)],hT3,h.sub (List.sublist_append_left _ _)⟩
  refine J20 ?_
  refine eT1 ?_
  exact fun w' h=>⟨ad3,c3,E3,by rw [KN fun h=>h.1 ((DE s n).1.symm.trans (Decidable.of_not_not h34))],hT3,h.sub (List.sublist_append_left _ _)⟩

def NS (n:Nat) (C S:Int):List RE:=if C=0 then [] else [⟨2,n,3,C,S⟩]
def FP (s:Se) (n:Nat) (C S:Int):List RE:=NS n C S++(⟨3,n,0,0,0⟩::Iv s n)
theorem QG (E F R:List Ent):(F++E).Sublist (F++(E++R)):=by
  rw [← List.append_assoc]
  exact List.sublist_append_left _ _
theorem IH (w0:World) (s:Se) (n:Nat) (hn:n<2) (C S:Int) (ad:Option Addr) (c:Nat) (es:List RE) (hO:AU w0 ad (GY es)) (hl:es.length≤99000) (h5:s.D.length=5) (hr:0≤s.now∧0≤s.retry∧s.now+s.retry<FB) :
    Calls Tryz.prog 67 #[.agg (rfC s (.slice ad es.length c)).toArray, .int .i64 n, .int .i64 C, .int .i64 S] w0 fun e w'=>RxP w0 w' (s.gone n) ad es (es++FP s n C S) e:=by
  have hlN:(NS n C S).length≤1:=by unfold NS;split <;> first|exact Nat.zero_le _|exact Nat.le_refl _
  refine enter Tryz.func67 rfl Tryz.ntmps67 rfl (St.start (fun _=>False) w0) ?_
  refine J2 ?_
  refine WL.box rfl rfl rfl (.none rfl) rfl rfl ?_
  intro g4 hg4
  refine WL.alloc rfl EC (.none rfl) rfl rfl ?_
  intro g8 hg8
  refine J2 ?_
  refine WC.cut (fun _:Option Addr×Nat×List RE×List Ent=>[(1, .int .i64 n),(4, .pointer (some ⟨g4,0,none⟩)),(8, .pointer (some ⟨g8,0,none⟩))]) (fun y=>y.2.2.2++(.row g8 [.int .i64 0, .int .i64 0, .int .i64 0, .int .i64 0, .int .u32 0, .int .i64 0, .int .i64 0, .int .i64 0, .int .i64 0, .int .u32 0, .int .u32 0, .int .i64 0, .int .i64 0, .int .i64 0, .int .i64 0, .int .i64 0, .int .i64 0, .int .i64 0, .slice none 0 0]::[.row g4 (rfC s (.slice y.1 y.2.2.1.length y.2.1))])) (fun y=>y.2.2.1=es++NS n C S∧Trf ad es y.1 y.2.2.1 y.2.2.2) ?_ ?_
  refine J3 ?_
  refine JT (fun h10=>?_) (fun h10=>?_)
  refine J8 ?_
  refine zV (HV rfl rfl Jp Tryz.underlying51 AP rfl) rfl ?_
  refine J1 ?_
  refine zK Ju rfl ?_
  intro w1 hS
  refine (HO w1 s ad c es ⟨2,n,3,C,S⟩ (hO.frm (hS.rng fun _ h=>h)) Er).mono ?_
  rintro e w' ⟨ad3,c3,E3,rfl,hT3,hS'⟩
  refine ⟨_,_,rfl,hS.join hS',?_⟩
  refine J2 ?_
  exact eM (ad3,c3,es++[⟨2,n,3,C,S⟩],E3) ⟨by unfold NS;rw [if_neg h10],hT3⟩
  refine J4 ?_
  exact eM (ad,c,es,[]) ⟨by unfold NS;rw [if_pos (Decidable.of_not_not h10),List.append_nil], .refl _ _⟩
  rintro ⟨ad3,c3,es3,E3⟩ ⟨he3,hT3⟩
  dsimp only at he3 hT3
  dsimp only
  have hl3:es3.length≤es.length+1:=by rw [he3,List.length_append];omega
  rw [show es++FP s n C S=(es3++[⟨3,n,0,0,0⟩])++Iv s n by rw [he3,FP,List.append_assoc,List.append_assoc];rfl]
  refine J5 ?_
  refine zK Ju rfl ?_
  intro w1 hS
  refine (HO w1 s ad3 c3 es3 ⟨3,n,0,0,0⟩ (hT3.at hO hS (List.sublist_append_left _ _)) Er).mono ?_
  rintro e w' ⟨ad5,c5,E5,rfl,hT5,hS'⟩
  refine ⟨_,_,rfl,hS.join hS',?_⟩
  refine J1 ?_
  refine zK AaO rfl ?_
  intro w1 hS
  refine (RW w1 s n hn ad5 c5 _ ((hT3.trans hT5).at hO hS (QG ..)) (by rw [List.length_append];show es3.length+1≤_;omega) h5 hr).mono ?_
  rintro e w' ⟨ad6,c6,E6,rfl,hT6,hS'⟩
  refine ⟨_,_,rfl,hS.join hS',?_⟩
  refine J4 ?_
  refine eT1 ?_
  exact fun w' h=>⟨ad6,c6,E6++(E5++E3),rfl,(hT3.trans hT5).trans hT6,h.sub (by rw [← List.append_assoc E5];exact QG ..)⟩
theorem Abq (w0:World) (s:Se) (ad:Option Addr) (c:Nat) (es:List RE) (hO:AU w0 ad (GY es)) (hl:es.length≤99000) (hD:s.D.length=5) (hr:0≤s.now∧0≤s.retry∧s.now+s.retry<FB) :
    Calls Tryz.prog 33 #[.agg (rfC s (.slice ad es.length c)).toArray] w0 fun e w'=>RxP w0 w' (if s.base=0 then s.JW else s) ad es (es++if s.base=0 then [⟨1,0,0,0,0⟩] else []) e:=by
  refine enter Tryz.func33 rfl Tryz.ntmps33 rfl (St.start (fun _=>False) w0) ?_
  refine J2 ?_
  refine WL.box rfl rfl rfl (.none rfl) rfl rfl ?_
  intro g1 hg1
  refine WL.alloc rfl EC (.none rfl) rfl rfl ?_
  intro g2 hg2
  refine J6 ?_
  refine zV (AA rfl rfl AK (cellAt (v:=.int .i64 s.base) rfl)) rfl ?_
  refine JT (fun h5=>?_) (fun h5=>?_)
  refine J11 ?_
  refine eT1 ?_
  exact fun w' h=>⟨ad,c,[],by rw [if_neg h5,if_neg h5,List.append_nil],by rw [if_neg h5,List.append_nil];exact .refl _ _,h.sub (List.nil_sublist _)⟩
  refine J8 ?_
  refine zK ck_66 rfl ?_
  intro w1 hS
  refine (We w1 s ad c es (hO.frm (hS.rng fun _ h=>h)) Er hD hr).mono ?_
  rintro e w' ⟨ad6,c6,E6,rfl,hT6,hS'⟩
  refine ⟨_,_,rfl,hS.join hS',?_⟩
  refine J4 ?_
  refine eT1 ?_
  exact fun w' h=>⟨ad6,c6,E6,by rw [if_pos (Decidable.of_not_not h5),if_pos (Decidable.of_not_not h5)],by rw [if_pos (Decidable.of_not_not h5)];exact hT6,h.sub (List.sublist_append_left _ _)⟩
theorem OI (w0:World) (s:Se) (n:Nat) (hn:n<2) (ad:Option Addr) (k c:Nat) (hD:s.D.length=5) (hh:0≤(s.c n).hold) (hr:0≤s.now∧s.now+(s.c n).hold<FB) :
    Calls Tryz.prog 96 #[.agg (rfC s (.slice ad k c)).toArray, .int .i64 n] w0 fun e w'=>e = .returned (.agg (rfC (s.alive n) (.slice ad k c)).toArray)∧Frm (fun _=>False) w0 w':=by
  refine enter Tryz.func96 rfl Tryz.ntmps96 rfl (St.start (fun _=>False) w0) ?_
  refine J2 ?_
  refine WL.box rfl rfl rfl (.none rfl) rfl rfl ?_
  intro g2 hg2
  refine WL.alloc rfl EC (.none rfl) rfl rfl ?_
  intro g4 hg4
  refine J7 ?_
  refine zV ((BR (lo:=n) rfl rfl rfl Tryz.underlying78 AP rfl hn)) rfl<|zV (AA rfl rfl AK (cellAt (v:=.int .i64 (s.c n).hold) (Iy s hn _))) rfl<|?_
  refine JT (fun h9=>?_) (fun h9=>?_)
  refine J3 ?_
  refine WC.BB mixed<|rF 5 [0,1,3,4,5,8]<|?_
  refine J1 ?_
  refine pV (AS rfl rfl rfl ((show _=1+(n:Int) from AF Er Er))) rfl ?_
  refine J2 ?_
  refine pV ((BR (lo:=n) rfl rfl rfl Tryz.underlying78 AP rfl hn)) rfl ?_
  refine J2 ?_
  refine rA 1 [2,6,7,9] rfl ?_
  refine J1 ?_
  refine qV (AA rfl rfl AK (cellAt (v:=.int .i64 (s.c n).hold) (Iy s hn _))) rfl<|WQ.call _ rfl rfl LX (.none rfl) rfl rfl (fun w hS=>Calls.still (Io w s (.slice ad k c) (s.c n).hold ⟨hr.1,hh,hr.2⟩) hS)<|?_
  refine qV ((BR (lo:=1+n) rfl rfl rfl Tryz.underlying80 AP Er Er)) rfl ?_
  refine J1 ?_
  refine rO 0 [10] ?_
  refine WL.DA rfl rfl rfl rfl AK (show 13+(1+n)<(rfC s (.slice ad k c)).length by show 13+(1+n)<19;omega) (.none rfl) rfl ?_
  rw [Mi hD Er hh hr.2]
  refine J10 ?_
  refine eT1 ?_
  exact fun w' h=>⟨by rw [show s.alive n=s.due (1+n) (s.c n).hold from if_neg Er],h.frm⟩
  refine J12 ?_
  refine eT1 ?_
  exact fun w' h=>⟨by rw [show s.alive n=s from if_pos Er],h.frm⟩

def I0 (s:Se) (n:Nat):List RE:=if (s.c n).st≠0 then Iv s n else []
theorem V9 (w0:World) (s:Se) (n:Nat) (hn:n<2) (ad:Option Addr) (c:Nat) (es:List RE) (hO:AU w0 ad (GY es)) (hl:es.length≤99000) (hD:s.D.length=5) (hr:0≤s.now∧0≤s.retry∧s.now+s.retry<FB) :
    Calls Tryz.prog 36 #[.agg (rfC s (.slice ad es.length c)).toArray, .int .i64 n] w0 fun e w'=>RxP w0 w' (s.down n) ad es (es++I0 s n) e:=by
  refine enter Tryz.func36 rfl Tryz.ntmps36 rfl (St.start (fun _=>False) w0) ?_
  refine J2 ?_
  refine WL.box rfl rfl rfl (.none rfl) rfl rfl ?_
  intro g2 hg2
  refine WL.alloc rfl EC (.none rfl) rfl rfl ?_
  intro g4 hg4
  refine J6 ?_
  refine zV ((G8 rfl rfl rfl).f (Er)) rfl ?_
  refine J2 ?_
  refine zS ((HY rfl rfl rfl).f (Er)) rfl ?_
  refine J11 ?_
  refine zV ((BR (lo:=n) rfl rfl rfl Tryz.underlying78 AP rfl hn)) rfl<|zV (AA rfl rfl AK (cellAt (v:=.int .i64 (s.c n).st) (G0 s hn _))) rfl<|?_
  refine JT (fun h16=>?_) (fun h16=>?_)
  refine J7 ?_
  refine zK AaO rfl ?_
  intro w1 hS
  refine (RW w1 s n hn ad c es (hO.frm (hS.rng fun _ h=>h)) Er hD hr).mono ?_
  rintro e w' ⟨ad6,c6,E6,rfl,hT6,hS'⟩
  refine ⟨_,_,rfl,hS.join hS',?_⟩
  refine J5 ?_
  refine eT1 ?_
  exact fun w' h=>⟨ad6,c6,E6,by rw [show s.down n=s.gone n from if_pos h16,show I0 s n=Iv s n from if_pos h16],by rw [show I0 s n=Iv s n from if_pos h16];exact hT6,h.sub (List.sublist_append_left _ _)⟩
  refine J9 ?_
  refine JT (fun h21=>?_) (fun h21=>?_)
  refine J2 ?_
  refine zS (AA rfl rfl AK (cellAt (v:=.int .i64 s.base) rfl)) rfl ?_
  refine JT (fun h25=>?_) (fun h25=>?_)
  refine J8 ?_
  rw [show (rfC s (.slice ad es.length c)).set 6 (.int .i64 2)=rfC { s with base:=2 } (.slice ad es.length c) from rfl]
  refine J5 ?_
  refine zV (BR (lo:=1) rfl rfl rfl Tryz.underlying78 AP rfl Et) rfl ?_
  refine zV (AA rfl rfl AK (cellAt (v:=.int .i64 s.c1.st) rfl)) rfl ?_
  refine JT (fun h31=>?_) (fun h31=>?_)
  refine J6 ?_
  refine zV (AA rfl rfl AK (cellAt (v:=.int .i64 s.retry) rfl)) rfl<|zk LX rfl (fun w hS=>Io w { s with base:=2 } (.slice ad es.length c) s.retry hr)<|?_
  refine J1 ?_
  refine zV (BR (lo:=0) rfl rfl rfl Tryz.underlying80 AP rfl Et) rfl ?_
  refine J1 ?_
  rw [show s.now+s.retry=({ s with base:=2 }:Se).now+s.retry from rfl,Mi (s:={ s with base:=2 }) hD Et hr.2.1 hr.2.2]
  refine J9 ?_
  refine eT1 ?_
  exact fun w' h=>⟨ad,c,[],by rw [show s.down n=_ from (if_neg h16).trans ((if_neg (fun h=>h.elim (fun a=>a Er) fun a=>a h25)).trans (if_pos h31)),show I0 s n=[] from if_neg h16,List.append_nil],by rw [show I0 s n=[] from if_neg h16,List.append_nil];exact .refl _ _,h.sub (List.nil_sublist _)⟩
  refine J12 ?_
  refine eT1 ?_
  exact fun w' h=>⟨ad,c,[],by rw [show s.down n=_ from (if_neg h16).trans ((if_neg (fun h=>h.elim (fun a=>a Er) fun a=>a h25)).trans (if_neg h31)),show I0 s n=[] from if_neg h16,List.append_nil],by rw [show I0 s n=[] from if_neg h16,List.append_nil];exact .refl _ _,h.sub (List.nil_sublist _)⟩
  refine J13 ?_
  refine eT1 ?_
  exact fun w' h=>⟨ad,c,[],by rw [show s.down n=_ from (if_neg h16).trans (if_pos (.inr h25)),show I0 s n=[] from if_neg h16,List.append_nil],by rw [show I0 s n=[] from if_neg h16,List.append_nil];exact .refl _ _,h.sub (List.nil_sublist _)⟩
  refine J17 ?_
  refine eT1 ?_
  exact fun w' h=>⟨ad,c,[],by rw [show s.down n=_ from (if_neg h16).trans (if_pos (.inl Er)),show I0 s n=[] from if_neg h16,List.append_nil],by rw [show I0 s n=[] from if_neg h16,List.append_nil];exact .refl _ _,h.sub (List.nil_sublist _)⟩

def upR (s:Se) (n:Nat):List RE:=if K1 s n then [⟨3,n,0,0,0⟩] else [⟨2,n,1,0,0⟩]
theorem Adh (s:Se){n:Nat}(hn:n<2) (h1:(s.c n).id=0) (h2:(s.c n).hold=0) (o:Value):rfC (({ s with base:=(if n=0 then 2 else s.base),D:=s.D.set 0 (-1) }:Se).set n { ({ s with base:=(if n=0 then 2 else s.base),D:=s.D.set 0 (-1) }:Se).c n with st:=3 }) o=rfC (s.HZ n) o:=by
  match n,hn with
  | 0,_ =>
    have e1:s.c0.id=0:=h1
    have e2:s.c0.hold=0:=h2
    show rfC { s with base:=2,D:=s.D.set 0 (-1),c0:={ s.c0 with st:=3 } } o=rfC { s with base:=2,D:=s.D.set 0 (-1),c0:=JM } o
    unfold rfC
    dsimp only
    rw [e1,e2]
    rfl
  | 1,_ =>
    have e1:s.c1.id=0:=h1
    have e2:s.c1.hold=0:=h2
    show rfC { s with base:=s.base,D:=s.D.set 0 (-1),c1:={ s.c1 with st:=3 } } o=rfC { s with base:=s.base,D:=s.D.set 0 (-1),c1:=JM } o
    unfold rfC
    dsimp only
    rw [e1,e2]
    rfl
theorem upR_c (w0:World) (s:Se) (n:Nat) (hn:n<2) (ad:Option Addr) (c:Nat) (es:List RE) (hO:AU w0 ad (GY es)) (hl:es.length≤99000) (hD:s.D.length=5) (hr:0≤s.now∧s.now+240<FB) (hz:(s.c n).st=0→(s.c n).id=0∧(s.c n).hold=0) :
    Calls Tryz.prog 35 #[.agg (rfC s (.slice ad es.length c)).toArray, .int .i64 n] w0 fun e w'=>RxP w0 w' (s.up n) ad es (es++upR s n) e:=by
  refine enter Tryz.func35 rfl Tryz.ntmps35 rfl (St.start (fun _=>False) w0) ?_
  refine J2 ?_
  refine WL.box rfl rfl rfl (.none rfl) rfl rfl ?_
  intro g2 hg2
  refine WL.alloc rfl EC (.none rfl) rfl rfl ?_
  intro g4 hg4
  refine J6 ?_
  refine zV ((G8 rfl rfl rfl).f (Er)) rfl ?_
  refine J2 ?_
  refine zS ((HY rfl rfl rfl).f (Er)) rfl ?_
  refine J6 ?_
  refine WC.cut (fun _:Unit=>[(1, .int .i64 n),(2, .pointer (some ⟨g2,0,none⟩)),(4, .pointer (some ⟨g4,0,none⟩))]) (fun _=>.row g4 [.int .i64 0, .int .i64 0, .int .i64 0, .int .i64 0, .int .u32 0, .int .i64 0, .int .i64 0, .int .i64 0, .int .i64 0, .int .u32 0, .int .u32 0, .int .i64 0, .int .i64 0, .int .i64 0, .int .i64 0, .int .i64 0, .int .i64 0, .int .i64 0, .slice none 0 0]::[.row g2 (rfC s (.slice ad es.length c))]) (fun _=>¬ K1 s n) ?_ ?_
  refine J3 ?_
  refine zV (AA rfl rfl AK (cellAt (v:=.int .i64 s.base) rfl)) rfl ?_
  refine JT (fun h14=>?_) (fun h14=>?_)
  refine J24 ?_
  refine zK Ju rfl ?_
  intro w1 hS
  refine (HO w1 s ad c es ⟨3,n,0,0,0⟩ (hO.frm (hS.rng fun _ h=>h)) Er).mono ?_
  rintro e w' ⟨ad3,c3,E3,rfl,hT3,hS'⟩
  refine ⟨_,_,rfl,hS.join hS',?_⟩
  refine J5 ?_
  refine eT1 ?_
  have hu:K1 s n:=.inl h14
  exact Bi
  refine J3 ?_
  refine zS ((BR (lo:=n) rfl rfl rfl Tryz.underlying78 AP rfl hn)) rfl<|zS (AA rfl rfl AK (cellAt (v:=.int .i64 (s.c n).st) (G0 s hn _))) rfl<|?_
  refine JT (fun h20=>?_) (fun h20=>?_)
  refine J18 ?_
  refine zK Ju rfl ?_
  intro w1 hS
  refine (HO w1 s ad c es ⟨3,n,0,0,0⟩ (hO.frm (hS.rng fun _ h=>h)) Er).mono ?_
  rintro e w' ⟨ad3,c3,E3,rfl,hT3,hS'⟩
  refine ⟨_,_,rfl,hS.join hS',?_⟩
  refine J5 ?_
  refine eT1 ?_
  have hu:K1 s n:=.inr (.inl h20)
  exact Bi
  refine J3 ?_
  refine JT (fun h24=>?_) (fun h24=>?_)
  refine J2 ?_
  refine zS (AA rfl rfl AK (cellAt (v:=.int .i64 s.base) rfl)) rfl ?_
  refine JT (fun h28=>?_) (fun h28=>?_)
  refine J10 ?_
  refine zK Ju rfl ?_
  intro w1 hS
  refine (HO w1 s ad c es ⟨3,n,0,0,0⟩ (hO.frm (hS.rng fun _ h=>h)) Er).mono ?_
  rintro e w' ⟨ad3,c3,E3,rfl,hT3,hS'⟩
  refine ⟨_,_,rfl,hS.join hS',?_⟩
  refine J5 ?_
  refine eT1 ?_
  have hu:K1 s n:=.inr (.inr ⟨by omega,h28⟩)
  exact Bi
  refine J6 ?_
  exact eM () (fun h=>h.elim h14 fun h=>h.elim h20 fun h=>h28 h.2)
  refine J10 ?_
  exact eM () (fun h=>h.elim h14 fun h=>h.elim h20 fun h=>h24 Er)
  rintro _ hu
  have h240:∀ {x:Int},x=s.now→0≤x∧(0:Int)≤240∧x+240<FB:=fun e=>by rw [e];exact ⟨hr.1,by decide,hr.2⟩
  have hst:(s.c n).st=0:=Decidable.byContradiction fun h=>hu (.inr (.inl h))
  refine WC.cut (fun _:Int=>[(1, .int .i64 n),(2, .pointer (some ⟨g2,0,none⟩)),(4, .pointer (some ⟨g4,0,none⟩))]) (fun b=>.row g4 [.int .i64 0, .int .i64 0, .int .i64 0, .int .i64 0, .int .u32 0, .int .i64 0, .int .i64 0, .int .i64 0, .int .i64 0, .int .u32 0, .int .u32 0, .int .i64 0, .int .i64 0, .int .i64 0, .int .i64 0, .int .i64 0, .int .i64 0, .int .i64 0, .slice none 0 0]::[.row g2 (rfC { s with base:=b } (.slice ad es.length c))]) (fun b=>b=if n=0 then 2 else s.base) ?_ ?_
  refine J3 ?_
  refine JT (fun h36=>?_) (fun h36=>?_)
  refine J6 ?_
  refine WL.as (L':=.row g4 [.int .i64 0, .int .i64 0, .int .i64 0, .int .i64 0, .int .u32 0, .int .i64 0, .int .i64 0, .int .i64 0, .int .i64 0, .int .u32 0, .int .u32 0, .int .i64 0, .int .i64 0, .int .i64 0, .int .i64 0, .int .i64 0, .int .i64 0, .int .i64 0, .slice none 0 0]::[.row g2 (rfC { s with base:=2 } (.slice ad es.length c))]) rfl ?_
  refine J1 ?_
  exact eM (2:Int) (by rw [if_pos (by omega)])
  refine J4 ?_
  exact eM s.base (by rw [if_neg (by omega)])
  rintro b rfl
  refine J3 ?_
  refine zV (BR (lo:=0) rfl rfl rfl Tryz.underlying80 AP rfl Et) rfl ?_
  refine J1 ?_
  rw [RV (s:={ s with base:=if n=0 then 2 else s.base }) hD Et]
  refine J6 ?_
  refine zV ((BR (lo:=n) rfl rfl rfl Tryz.underlying78 AP rfl hn)) rfl ?_
  refine WL.DA rfl rfl rfl rfl AK (show 7+n<(rfC ({ s with base:=(if n=0 then 2 else s.base),D:=s.D.set 0 (-1) }:Se) (.slice ad es.length c)).length by show 7+n<19;omega) (.none rfl) rfl ?_
  rw [Wi _ hn,Adh s hn (hz hst).1 (hz hst).2]
  refine J6 ?_
  refine zV (HV rfl rfl Jp Tryz.underlying51 AP rfl) rfl ?_
  refine J1 ?_
  refine zK Ju rfl ?_
  intro w1 hS
  refine (HO w1 (s.HZ n) ad c es ⟨2,n,1,0,0⟩ (hO.frm (hS.rng fun _ h=>h)) Er).mono ?_
  rintro e w' ⟨ad3,c3,E3,rfl,hT3,hS'⟩
  refine ⟨_,_,rfl,hS.join hS',?_⟩
  refine J6 ?_
  refine zV (AS rfl rfl rfl ((show _=1+(n:Int) from AF Er Er))) rfl ?_
  refine J1 ?_
  refine zk LX rfl (fun w hS=>Io w (s.HZ n) (.slice ad3 (es++[(⟨2,n,1,0,0⟩:RE)]).length c3) 240 (h240 (K6 s n))) ?_
  refine J1 ?_
  refine zV ((BR (lo:=1+n) rfl rfl rfl Tryz.underlying80 AP Er Er)) rfl ?_
  refine WL.DA rfl rfl rfl rfl AK (show 13+(1+n)<(rfC (s.HZ n) (.slice ad3 (es++[(⟨2,n,1,0,0⟩:RE)]).length c3)).length by show 13+(1+n)<19;omega) (.none rfl) rfl ?_
  rw [Mi (s:=s.HZ n) ((List.length_set ..).trans hD) Er Et (h240 (K6 s n)).2.2]
  refine J9 ?_
  refine eT1 ?_
  exact fun w' h=>⟨ad3,c3,E3,by rw [show s.up n=(s.HZ n).due (1+n) 240 from if_neg hu,show upR s n=[⟨2,n,1,0,0⟩] from if_neg hu],by rw [show upR s n=[⟨2,n,1,0,0⟩] from if_neg hu];exact hT3,h.sub (List.sublist_append_left _ _)⟩

theorem RS {s:Se}(h:s.D.length=5) (n:Nat):(s.gone n).D.length=5:=by
  rcases Pv s n with e|e <;> rw [e] <;> simp [h]
theorem L4 (s:Se) (n:Nat):(s.gone n).retry=s.retry:=by
  unfold Se.gone
  split
  · exact (DE s n).2.2
  · exact (DE s n).2.2
def Lh (s:Se) (n:Nat):List RE:=if (s.c n).st=0 then [] else FP s n 6 2
def IZ (s:Se):Nat→List RE
  | 0=>[]
  | k+1=>IZ s k++Lh (CF s k).1 k
theorem OK {s:Se}(h:s.D.length=5):∀ k,(CF s k).1.D.length=5∧(CF s k).1.retry=s.retry
  | 0=>⟨h,rfl⟩
  | k+1=>by
    have ih:=OK h k
    show (Gv _ _).1.D.length=5∧(Gv _ _).1.retry=_
    unfold Gv
    split
    · exact ih
    · exact ⟨RS ih.1 k,(L4 _ _).trans ih.2⟩
theorem M1 (s:Se) (n:Nat) (C S:Int):(FP s n C S).length≤3:=by
  unfold FP NS Iv
  rw [List.length_append,List.length_cons]
  split <;> split <;> simp
theorem Ps (s:Se):∀ k,(IZ s k).length≤3*k
  | 0=>Nat.le_refl _
  | k+1=>by
    have ih:=Ps s k
    have h1:(Lh (CF s k).1 k).length≤3:=by unfold Lh;split;exact Nat.zero_le _;exact M1 _ _ _ _
    show (_++_:List RE).length≤_
    rw [List.length_append]
    omega
def OC (s:Se):List RE:=if s.base=0 then [] else IZ { s with base:=0,D:=s.D.set 0 (-1) } 2
structure RxS where
  k:Nat
  ad:Option Addr
  c:Nat
  es:List RE
  E:List Ent
theorem AcE (w0:World) (s:Se) (ad:Option Addr) (c:Nat) (es:List RE) (hO:AU w0 ad (GY es)) (hl:es.length≤90000) (hD:s.D.length=5) (hr:0≤s.now∧0≤s.retry∧s.now+s.retry<FB) :
    Calls Tryz.prog 34 #[.agg (rfC s (.slice ad es.length c)).toArray] w0 fun e w'=>RxP w0 w' (FZ s).1 ad es (es++OC s) e:=by
  refine enter Tryz.func34 rfl Tryz.ntmps34 rfl (St.start (fun _=>False) w0) ?_
  refine J2 ?_
  refine WL.box rfl rfl rfl (.none rfl) rfl rfl ?_
  intro g1 hg1
  refine WL.alloc rfl EC (.none rfl) rfl rfl ?_
  intro g2 hg2
  refine J6 ?_
  refine zV (AA rfl rfl AK (cellAt (v:=.int .i64 s.base) rfl)) rfl ?_
  refine JT (fun h6=>?_) (fun h6=>?_)
  refine J11 ?_
  refine eT1 ?_
  exact fun w' h=>⟨ad,c,[],by rw [show FZ s=(s,[]) from if_pos h6,show OC s=[] from if_pos h6,List.append_nil],by rw [show OC s=[] from if_pos h6,List.append_nil];exact .refl _ _,h.sub (List.nil_sublist _)⟩
  refine J9 ?_
  rw [show (rfC s (.slice ad es.length c)).set 6 (.int .i64 0)=rfC { s with base:=0 } (.slice ad es.length c) from rfl]
  refine J5 ?_
  refine zV (BR (lo:=0) rfl rfl rfl Tryz.underlying80 AP rfl Et) rfl ?_
  refine J1 ?_
  rw [RV (s:={ s with base:=0 }) hD Et]
  have e0:FZ s=CF { s with base:=0,D:=s.D.set 0 (-1) } 2:=if_neg h6
  have e1:OC s=IZ { s with base:=0,D:=s.D.set 0 (-1) } 2:=if_neg h6
  rw [e0,e1]
  have hD0:(s.D.set 0 (-1)).length=5:=(List.length_set ..).trans hD
  generalize hs0:({ s with base:=0,D:=s.D.set 0 (-1) }:Se)=s0
  have hn0:s0.now=s.now:=by rw [← hs0]
  have hr0:s0.retry=s.retry:=by rw [← hs0]
  have hk0:=OK (s:=s0) (by rw [← hs0];exact hD0)
  refine J9 ?_
  refine WC.loop (fun x:RxS=>[(3, .int .i64 x.k),(1, .pointer (some ⟨g1,0,none⟩)),(2, .pointer (some ⟨g2,0,none⟩))]) (fun x=>x.E++(.row g2 [.int .i64 0, .int .i64 0, .int .i64 0, .int .i64 0, .int .u32 0, .int .i64 0, .int .i64 0, .int .i64 0, .int .i64 0, .int .u32 0, .int .u32 0, .int .i64 0, .int .i64 0, .int .i64 0, .int .i64 0, .int .i64 0, .int .i64 0, .int .i64 0, .slice none 0 0]::[.row g1 (rfC (CF s0 x.k).1 (.slice x.ad x.es.length x.c))])) (fun x=>x.k≤2∧x.es=es++IZ s0 x.k∧Trf ad es x.ad x.es x.E) (fun x=>2-x.k) ⟨0,ad,c,es,[]⟩ ⟨Nat.zero_le _,(List.append_nil _).symm, .refl _ _⟩ Km (.refl _) ?_
  rintro ⟨k,ad3,c3,es3,E3⟩ ⟨hk,he3,hT3⟩
  dsimp only at hk he3 hT3
  dsimp only
  have hl3:=Ps s0 k
  have hl4:es3.length=es.length+(IZ s0 k).length:=by rw [he3,List.length_append]
  refine J4 ?_
  refine JT (fun h12=>?_) (fun h12=>?_)
  refine J11 ?_
  refine zV ((BR (lo:=k) rfl rfl rfl Tryz.underlying78 AP rfl Er)) rfl ?_
  refine zV (AA rfl rfl AK (cellAt (v:=.int .i64 ((CF s0 k).1.c k).st) (G0 _ Er _))) rfl ?_
  refine JT (fun h19=>?_) (fun h19=>?_)
  refine J6 ?_
  refine zK KP rfl ?_
  intro w1 hS
  refine (IH w1 (CF s0 k).1 k Er 6 2 ad3 c3 es3 (hT3.at hO hS (List.sublist_append_left _ _)) Er (hk0 k).1 (by rw [LK,(hk0 k).2,hn0,hr0];exact hr)).mono ?_
  rintro e w' ⟨ad5,c5,E5,rfl,hT5,hS'⟩
  refine ⟨_,_,rfl,hS.join hS',?_⟩
  refine J6 ?_
  refine zV (AS rfl rfl rfl (show _=((k+1:Nat):Int) from (AF Er Er).trans Er)) rfl ?_
  refine J2 ?_
  have e5:(CF s0 (k+1)).1=(CF s0 k).1.gone k:=by show (Gv _ _).1=_;unfold Gv;rw [if_neg h19]
  have e6:IZ s0 (k+1)=IZ s0 k++FP (CF s0 k).1 k 6 2:=by show _++Lh _ _=_;unfold Lh;rw [if_neg h19]
  exact WE.next ⟨k+1,ad5,c5,es3++FP (CF s0 k).1 k 6 2,E5++E3⟩ Eu ⟨by dsimp only;omega,by dsimp only;rw [e6,he3,List.append_assoc],hT3.trans hT5⟩ Km (by dsimp only;rw [e5,List.append_assoc];exact .refl _)
  refine J8 ?_
  refine zV (AS rfl rfl rfl (show _=((k+1:Nat):Int) from (AF Er Er).trans Er)) rfl ?_
  refine J2 ?_
  have e5:(CF s0 (k+1)).1=(CF s0 k).1:=by show (Gv _ _).1=_;unfold Gv;rw [if_pos (Decidable.of_not_not h19)]
  have e6:IZ s0 (k+1)=IZ s0 k:=by show _++Lh _ _=_;unfold Lh;rw [if_pos (Decidable.of_not_not h19),List.append_nil]
  exact Cg
  refine J15 ?_
  refine eT1 ?_
  have hk2:k=2:=Er
  subst hk2
  rw [← he3]
  exact Ak

def GQ (s:Se) (n:Nat) (C S:Int):Se×List RE:=if (s.c n).st=5 then (s.gone n,FP s n C S) else (s,[])
def FM (s:Se) (C S:Int):Nat→Se×List RE
  | 0=>(s,[])
  | k+1=>((GQ (FM s C S k).1 k C S).1,(FM s C S k).2++(GQ (FM s C S k).1 k C S).2)
theorem Pe {s:Se}(h:s.D.length=5) (C S:Int):∀ k,(FM s C S k).1.D.length=5∧(FM s C S k).1.retry=s.retry∧(FM s C S k).1.now=s.now∧(FM s C S k).2.length≤3*k
  | 0=>⟨h,rfl,rfl,Nat.le_refl _⟩
  | k+1=>by
    have ih:=Pe h C S k
    show (GQ _ _ _ _).1.D.length=5∧(GQ _ _ _ _).1.retry=_∧(GQ _ _ _ _).1.now=_∧(_++(GQ _ _ _ _).2:List RE).length≤_
    unfold GQ
    split
    · have:=M1 (FM s C S k).1 k C S
      exact ⟨RS ih.1 k,(L4 _ _).trans ih.2.1,(BP _ _).trans ih.2.2.1,by rw [List.length_append];dsimp only;omega⟩
    · exact ⟨ih.1,ih.2.1,ih.2.2.1,by rw [List.append_nil];omega⟩
theorem AcZ (w0:World) (s:Se) (C S:Int) (ad:Option Addr) (c:Nat) (es:List RE) (hO:AU w0 ad (GY es)) (hl:es.length≤90000) (hD:s.D.length=5) (hr:0≤s.now∧0≤s.retry∧s.now+s.retry<FB) :
    Calls Tryz.prog 40 #[.agg (rfC s (.slice ad es.length c)).toArray, .int .i64 C, .int .i64 S] w0 fun e w'=>RxP w0 w' (FM s C S 2).1 ad es (es++(FM s C S 2).2) e:=by
  have hk0:=Pe hD C S
  refine enter Tryz.func40 rfl Tryz.ntmps40 rfl (St.start (fun _=>False) w0) ?_
  refine J2 ?_
  refine WL.box rfl rfl rfl (.none rfl) rfl rfl ?_
  intro g3 hg3
  refine WL.alloc rfl EC (.none rfl) rfl rfl ?_
  intro g6 hg6
  refine J9 ?_
  refine WC.loop (fun x:RxS=>[(7, .int .i64 x.k),(1, .int .i64 C),(2, .int .i64 S),(3, .pointer (some ⟨g3,0,none⟩)),(6, .pointer (some ⟨g6,0,none⟩))]) (fun x=>x.E++(.row g6 [.int .i64 0, .int .i64 0, .int .i64 0, .int .i64 0, .int .u32 0, .int .i64 0, .int .i64 0, .int .i64 0, .int .i64 0, .int .u32 0, .int .u32 0, .int .i64 0, .int .i64 0, .int .i64 0, .int .i64 0, .int .i64 0, .int .i64 0, .int .i64 0, .slice none 0 0]::[.row g3 (rfC (FM s C S x.k).1 (.slice x.ad x.es.length x.c))])) (fun x=>x.k≤2∧x.es=es++(FM s C S x.k).2∧Trf ad es x.ad x.es x.E) (fun x=>2-x.k) ⟨0,ad,c,es,[]⟩ ⟨Nat.zero_le _,(List.append_nil _).symm, .refl _ _⟩ Km (.refl _) ?_
  rintro ⟨k,ad3,c3,es3,E3⟩ ⟨hk,he3,hT3⟩
  dsimp only at hk he3 hT3
  dsimp only
  have hl4:es3.length=es.length+(FM s C S k).2.length:=by rw [he3,List.length_append]
  have hl5:=(hk0 k).2.2.2
  refine J4 ?_
  refine JT (fun h9=>?_) (fun h9=>?_)
  refine J11 ?_
  refine zV ((BR (lo:=k) rfl rfl rfl Tryz.underlying78 AP rfl Er)) rfl ?_
  refine zV (AA rfl rfl AK (cellAt (v:=.int .i64 ((FM s C S k).1.c k).st) (G0 _ Er _))) rfl ?_
  refine JT (fun h16=>?_) (fun h16=>?_)
  refine J8 ?_
  refine zK KP rfl ?_
  intro w1 hS
  refine (IH w1 (FM s C S k).1 k Er C S ad3 c3 es3 (hT3.at hO hS (List.sublist_append_left _ _)) Er (hk0 k).1 (by rw [(hk0 k).2.1,(hk0 k).2.2.1];exact hr)).mono ?_
  rintro e w' ⟨ad5,c5,E5,rfl,hT5,hS'⟩
  refine ⟨_,_,rfl,hS.join hS',?_⟩
  refine J6 ?_
  refine zV (AS rfl rfl rfl (show _=((k+1:Nat):Int) from (AF Er Er).trans Er)) rfl ?_
  refine J2 ?_
  have e5:(FM s C S (k+1)).1=(FM s C S k).1.gone k:=by show (GQ _ _ _ _).1=_;unfold GQ;rw [if_pos h16]
  have e6:(FM s C S (k+1)).2=(FM s C S k).2++FP (FM s C S k).1 k C S:=by show _++(GQ _ _ _ _).2=_;unfold GQ;rw [if_pos h16]
  exact WE.next ⟨k+1,ad5,c5,es3++FP (FM s C S k).1 k C S,E5++E3⟩ Eu ⟨by dsimp only;omega,by dsimp only;rw [e6,he3,List.append_assoc],hT3.trans hT5⟩ Km (by dsimp only;rw [e5,List.append_assoc];exact .refl _)
  refine J8 ?_
  refine zV (AS rfl rfl rfl (show _=((k+1:Nat):Int) from (AF Er Er).trans Er)) rfl ?_
  refine J2 ?_
  have e5:(FM s C S (k+1)).1=(FM s C S k).1:=by show (GQ _ _ _ _).1=_;unfold GQ;rw [if_neg h16]
  have e6:(FM s C S (k+1)).2=(FM s C S k).2:=by show _++(GQ _ _ _ _).2=_;unfold GQ;rw [if_neg h16,List.append_nil]
  exact Cg
  refine J15 ?_
  refine eT1 ?_
  have hk2:k=2:=Er
  subst hk2
  rw [← he3]
  exact Ak

theorem newR_c (w0:World) (a t h r i:Int) :
    Calls Tryz.prog 32 #[.int .i64 a, .int .i64 t, .int .i64 h, .int .i64 r, .int .u32 i] w0 fun e w'=>e = .returned (.agg (rfC (Se.new a i t h r) (.slice none 0 0)).toArray)∧Frm (fun _=>False) w0 w':=by
  refine enter Tryz.func32 rfl Tryz.ntmps32 rfl (St.start (fun _=>False) w0) ?_
  refine J2 ?_
  refine WL.alloc rfl EC (.none rfl) rfl rfl ?_
  intro g10 hg10
  refine J9 ?_
  refine zV (HV rfl rfl AbU Tryz.underlying80 AP rfl) rfl ?_
  refine J5 ?_
  exact A9
theorem R1 (w0:World) (s:Se) (n:Nat) (hn:n<2) (C S:Int) (ad:Option Addr) (c:Nat) (es:List RE) (hO:AU w0 ad (GY es)) (hl:es.length≤99000) (h5:s.D.length=5) (hr:0≤s.now∧0≤s.retry∧s.now+s.retry<FB) :
    Calls Tryz.prog 72 #[.agg (rfC s (.slice ad es.length c)).toArray, .int .i64 n, .int .i64 C, .int .i64 S] w0 fun e w'=>RxP w0 w' (s.gone n) ad es (es++FP s n C S) e:=by
  refine enter Tryz.func72 rfl Tryz.ntmps72 rfl (St.start (fun _=>False) w0) ?_
  refine J2 ?_
  refine WL.box rfl rfl rfl (.none rfl) rfl rfl ?_
  intro g4 hg4
  refine WL.alloc rfl EC (.none rfl) rfl rfl ?_
  intro g8 hg8
  refine J8 ?_
  refine zK KP rfl ?_
  intro w1 hS
  refine (IH w1 s n hn C S ad c es (hO.frm (hS.rng fun _ h=>h)) hl h5 hr).mono ?_
  rintro e w' ⟨ad5,c5,E5,rfl,hT5,hS'⟩
  refine ⟨_,_,rfl,hS.join hS',?_⟩
  refine J4 ?_
  refine eT1 ?_
  exact fun w' h=>⟨ad5,c5,E5,rfl,hT5,h.sub (List.sublist_append_left _ _)⟩
theorem Adb (w0:World) (s:Se) (ad:Option Addr) (k c:Nat) :
    Calls Tryz.prog 43 #[.agg (rfC s (.slice ad k c)).toArray] w0 fun e w'=>e = .returned (.int .i64 (max (max s.base s.c0.st) s.c1.st))∧Frm (fun _=>False) w0 w':=by
  refine enter Tryz.func43 rfl Tryz.ntmps43 rfl (St.start (fun _=>False) w0) ?_
  refine J2 ?_
  refine WL.box rfl rfl rfl (.none rfl) rfl rfl ?_
  intro g1 hg1
  refine J6 ?_
  refine zV (AA rfl rfl AK (cellAt (v:=.int .i64 s.base) rfl)) rfl ?_
  refine J1 ?_
  refine zV (BR (lo:=0) rfl rfl rfl Tryz.underlying78 AP rfl Et) rfl ?_
  refine zV (AA rfl rfl AK (cellAt (v:=.int .i64 s.c0.st) rfl)) rfl ?_
  refine J1 ?_
  refine zV (BR (lo:=1) rfl rfl rfl Tryz.underlying78 AP rfl Et) rfl ?_
  refine zV (AA rfl rfl AK (cellAt (v:=.int .i64 s.c1.st) rfl)) rfl<|zV ((YO rfl rfl rfl rfl)) rfl<|?_
  exact Eb

section
variable (w0 w:World) (g:Nat) (p:PeL) (s:Se) (E0 E1 L:List Ent) (d:Ck) (hA:BO g p s E0 E1 d) (hS0:St (fun _=>False) w0 w (.row g p.cells::(E0++(E1++d.L p.gC s.now L)))) (n:Int) (h:n≠0∧n≠1)
include hA hS0 h
theorem up_out:Calls Tryz.prog 14 #[.pointer (some ⟨g,0,none⟩), .int .i64 n] w fun e w'=>G2 w0 w' g [] s L e:=by
  refine enter Tryz.func14 rfl Tryz.ntmps14 rfl hS0 ?_
  refine J9 ?_
  refine zV (AY false rfl rfl Tryz.underlying40 rfl) rfl ?_
  refine J2 ?_
  refine zS ((BY rfl rfl rfl).t (h.1)) rfl ?_
  refine J2 ?_
  refine zS ((BY rfl rfl rfl).t (h.2)) rfl ?_
  refine J12 ?_
  exact B1
theorem ZN:Calls Tryz.prog 20 #[.pointer (some ⟨g,0,none⟩), .int .i64 n] w fun e w'=>G2 w0 w' g [] s L e:=by
  refine enter Tryz.func20 rfl Tryz.ntmps20 rfl hS0 ?_
  refine J10 ?_
  refine zk HI rfl (fun w hS=>Qr w g n h) ?_
  refine J9 ?_
  refine zV (AY false rfl rfl Tryz.underlying40 rfl) rfl ?_
  refine J2 ?_
  refine zS ((BY rfl rfl rfl).t (h.1)) rfl ?_
  refine J18 ?_
  exact B1
theorem Sc (v:Value):Calls Tryz.prog 15 #[.pointer (some ⟨g,0,none⟩), .int .i64 n,v] w fun e w'=>G2 w0 w' g [] s L e:=by
  refine enter Tryz.func15 rfl Tryz.ntmps15 rfl hS0 ?_
  refine J10 ?_
  refine zk HI rfl (fun w hS=>Qr w g n h) ?_
  refine J11 ?_
  exact B1
end
def upA (s:Se) (n:Int):Se×List EfD:=if n=0 then (s.up 0,upE s 0) else if n=1 then (s.up 1,upE s 1) else (s,[])
def Ha (s:Se) (n:Int):Se×List EfD:=if n=0 then (s.down 0,IM s 0) else if n=1 then (s.down 1,IM s 1) else (s,[])
def Wg (s:Se) (n:Int) (bs:List Int):Se×List EfD:=if n=0 then AM s 0 bs else if n=1 then AM s 1 bs else (s,[])
section
variable (w0 w:World) (g:Nat) (p:PeL) (s:Se) (E0 E1 L:List Ent) (d:Ck) (hA:BO g p s E0 E1 d) (hG:GF w0) (hS0:St (fun _=>False) w0 w (.row g p.cells::(E0++(E1++d.L p.gC s.now L)))) (n:Int)
include hA hG hS0
theorem up_any (ha:I64 s.asn):Calls Tryz.prog 14 #[.pointer (some ⟨g,0,none⟩), .int .i64 n] w fun e w'=>G2 w0 w' g (upA s n).2 (upA s n).1 L e:=by
  unfold upA
  split
  · rename_i e;subst e;exact up0_c w0 w g p s E0 E1 L d hA hG hS0 ha
  split
  · rename_i e;subst e;exact up1_c w0 w g p s E0 E1 L d hA hG hS0 ha
  · exact up_out w0 w g p s E0 E1 L d hA hS0 n ⟨by assumption,by assumption⟩
omit hG in
theorem Aaw:Calls Tryz.prog 20 #[.pointer (some ⟨g,0,none⟩), .int .i64 n] w fun e w'=>G2 w0 w' g (Ha s n).2 (Ha s n).1 L e:=by
  unfold Ha
  split
  · rename_i e;subst e;exact Adl w0 w g p s E0 E1 L d hA hS0
  split
  · rename_i e;subst e;exact AbP w0 w g p s E0 E1 L d hA hS0
  · exact ZN w0 w g p s E0 E1 L d hA hS0 n ⟨by assumption,by assumption⟩
theorem SY (hZ:GZ w0){N:Int}(hF:s.IJ N) (hN:N≤3000000000000000000) (ba:Option Addr) (bc:Nat) (bs:List Int) (hb:∀ w,St (fun _=>False) w0 w (.row g p.cells::(E0++(E1++d.L p.gC s.now L)))→AU w ba (u8s bs)) (hB:Bys bs) (hn:bs.length≤40000) :
    Calls Tryz.prog 15 #[.pointer (some ⟨g,0,none⟩), .int .i64 n, .slice ba bs.length bc] w fun e w'=>G2 w0 w' g (Wg s n bs).2 (Wg s n bs).1 L e:=by
  unfold Wg
  split
  · rename_i e;subst e;exact RI w0 w g p s E0 E1 L d hA hG hZ hS0 ba bc bs hb hB hn hF.c0 (Int.le_trans (hF.wf.c 0 Et).2.2 hN)
  split
  · rename_i e;subst e;exact Ac8 w0 w g p s E0 E1 L d hA hG hZ hS0 ba bc bs hb hB hn hF.c1 (Int.le_trans (hF.wf.c 1 Et).2.2 hN)
  · exact Sc w0 w g p s E0 E1 L d hA hS0 n ⟨by assumption,by assumption⟩ _
end
theorem Aci {N:Int}(hN:0≤N){s:Se}(h:s.IJ N) (n:Int):(upA s n).1.IJ N:=by
  unfold upA
  split
  · exact (GN hN).up h 0 Et
  split
  · exact (GN hN).up h 1 Et
  · exact h
theorem WI {N:Int}(hN:0≤N){s:Se}(h:s.IJ N) (n:Int):(Ha s n).1.IJ N:=by
  unfold Ha
  split
  · exact (GN hN).down h 0 Et
  split
  · exact (GN hN).down h 1 Et
  · exact h
theorem BO.waits {g:Nat}{p:PeL}{s:Se}{E0 E1:List Ent}{d:Ck}(hA:BO g p s E0 E1 d):∀ k,k<2→Bys (s.c k).wait∧(s.c k).wait.length≤4096:=fun k hk=>by
  have h0:p.c0.m=s.c0:=(congrArg Se.c0 hA.eq :)
  have h1:p.c1.m=s.c1:=(congrArg Se.c1 hA.eq :)
  match k,hk with
  | 0,_=>exact ⟨by rw [show (s.c 0).wait=p.c0.rd.wait from (congrArg CnM.wait h0 :).symm];exact hA.b0,hA.ok0.2.1⟩
  | 1,_=>exact ⟨by rw [show (s.c 1).wait=p.c1.rd.wait from (congrArg CnM.wait h1 :).symm];exact hA.b1,hA.ok1.2.1⟩
theorem AbF {a i t h r:Int}(ha:1≤a∧a≤65535) (hh:h=0∨3≤h):(Se.new a i t h r).IJ 0 :=
  ⟨⟨⟨by show _≤a;omega,by show a≤_;omega⟩,hh,fun n hn=>by
    match n,hn with
    | 0,_=>exact Rl (Int.le_refl _)
    | 1,_=>exact Rl (Int.le_refl _)⟩,⟨rfl,rfl,rfl⟩,⟨rfl,rfl,rfl⟩⟩
end Gq

def Ia:Bool→List EfD→Option Bool
  | u,[]=>some u
  | u,e::es=>if e.kind=4 then (if u=true then none else Ia true es) else if e.kind=5 then (if u=true then Ia false es else none) else if e.kind=6 then (if u=true then Ia u es else none) else Ia u es
def lv (s:Se):Bool:=decide ((s.c 0).st=5∨(s.c 1).st=5)
def Jt (s:Se):Prop:=∀ n,n<2→(s.c n).st=5→(s.c (1-n)).st≠5∧(s.c (1-n)).st≠4
def ES (s:Se) (es:List EfD) (t:Se):Prop:=Ia (lv s) es=some (lv t)∧Jt t
theorem Me (u:Bool) (e:EfD) (es:List EfD):Ia u (e::es)=if e.kind=4 then (if u=true then none else Ia true es) else if e.kind=5 then (if u=true then Ia false es else none) else if e.kind=6 then (if u=true then Ia u es else none) else Ia u es:=rfl
theorem JK:∀ (xs ys:List EfD) (u:Bool),Ia u (xs++ys)=(Ia u xs).bind fun v=>Ia v ys
  | [],ys,u=>rfl
  | e::xs,ys,u=>by
    rw [List.cons_append,Me,Me]
    split
    · split
      · rfl
      · exact JK xs ys true
    split
    · split
      · exact JK xs ys false
      · rfl
    split
    · split
      · exact JK xs ys u
      · rfl
    · exact JK xs ys u
theorem ES.trans {s t r:Se}{xs ys:List EfD}(h:ES s xs t) (h':ES t ys r):ES s (xs++ys) r:=⟨by rw [JK,h.1];exact h'.1,h'.2⟩
theorem lv_of {s t:Se}(h:∀ k,k<2→(t.c k).st=(s.c k).st):lv t=lv s:=by
  unfold lv
  rw [h 0 Et,h 1 Et]
theorem Aau {s t:Se}(hJ:Jt s) (h:∀ k,k<2→(t.c k).st=(s.c k).st):Jt t:=fun n hn h5=>by
  rw [h n hn] at h5
  rw [h (1-n) Er]
  exact hJ n hn h5
theorem ES.same {s t:Se}(hJ:Jt s) (h:∀ k,k<2→(t.c k).st=(s.c k).st):ES s [] t:=⟨by rw [lv_of h];rfl,Aau hJ h⟩
theorem KB {u:Bool}{e:EfD}{es:List EfD}(h:e.kind=1∨e.kind=2∨e.kind=3):Ia u (e::es)=Ia u es:=by
  rw [Me,if_neg Er,if_neg Er,if_neg Er]
theorem Hc:∀ (xs ys:List EfD) (u:Bool),(∀ e∈xs,e.kind=1∨e.kind=2∨e.kind=3)→Ia u (xs++ys)=Ia u ys
  | [],ys,u,_=>rfl
  | e::xs,ys,u,h=>by
    rw [List.cons_append,KB (h e (List.mem_cons_self ..))]
    exact Hc xs ys u fun x hx=>h x (List.mem_cons_of_mem _ hx)
theorem Ig (n:Int) (m:MsL):∀ e∈FN n m,e.kind=1∨e.kind=2∨e.kind=3:=fun e he=>by
  unfold FN at he
  split at he
  · obtain rfl:=List.mem_singleton.1 he;exact .inr (.inl rfl)
  · cases he
theorem Md {s:Se}{n:Nat}(hn:n<2) (h:(s.c n).st=5):lv s=true:=by
  unfold lv
  match n,hn with
  | 0,_=>exact decide_eq_true (.inl h)
  | 1,_=>exact decide_eq_true (.inr h)
theorem NY {s:Se}{n:Nat}(hn:n<2) (h:(s.c n).st≠5) (h':(s.c (1-n)).st≠5):lv s=false:=by
  unfold lv
  match n,hn with
  | 0,_=>exact decide_eq_false (fun hh=>hh.elim h h')
  | 1,_=>exact decide_eq_false (fun hh=>hh.elim h' h)
theorem JJ {n:Nat}(hn:n<2):1-n≠n:=by omega
theorem Nq {s:Se}(hJ:Jt s) (n:Nat) (hn:n<2):ES s (IA s n) (s.gone n):=by
  have hc:=fun k hk=>HX s n k hn hk
  have h0:((s.gone n).c n).st=0:=by rw [hc n hn,if_pos rfl];rfl
  have h1:((s.gone n).c (1-n)).st=(s.c (1-n)).st:=by rw [hc (1-n) Er,if_neg (JJ hn)]
  have hJ':Jt (s.gone n):=fun k hk h5=>by
    by_cases e:k=n
    · subst e;rw [h0] at h5;cases h5
    · obtain rfl:k=1-n:=by omega
      rw [show 1-(1-n)=n by omega,h0]
      exact ⟨by decide,by decide⟩
  refine ⟨?_,hJ'⟩
  unfold IA
  split
  · rename_i h5
    have ho:=hJ n hn h5
    rw [Md hn h5,NY hn (by rw [h0];decide) (by rw [h1];exact ho.1)]
    rfl
  · rename_i h5
    show some _=some _
    by_cases ho:(s.c (1-n)).st=5
    · rw [Md (n:=1-n) Er ho,Md (s:=s.gone n) (n:=1-n) Er (by rw [h1];exact ho)]
    · rw [NY hn h5 ho,NY (s:=s.gone n) hn (by rw [h0];decide) (by rw [h1];exact ho)]
theorem Pl {s:Se}(hJ:Jt s) (n:Nat) (hn:n<2):ES s (Hy s n) (s.gone n):=by
  have h:=Nq hJ n hn
  exact ⟨(KB (e:=ef 3 n) (.inr (.inr rfl))).trans h.1,h.2⟩
theorem Hv {s:Se}(hJ:Jt s) (n:Nat) (hn:n<2) (C S:Int) (d:ByteArray):ES s (DW s n C S d) (s.gone n):=by
  have h:=Pl hJ n hn
  refine ⟨?_,h.2⟩
  unfold DW
  split
  · exact h.1
  · rw [Hc _ _ _ (Ig _ _)];exact h.1
theorem NH (s:Se) (n k:Nat) (H i:Int) (hn:n<2) (hk:k<2):(s.BE n H i).c k=if k=n then { s.c n with st:=4,hold:=min s.hold H,id:=i } else s.c k:=by
  have h:(s.DZ n H i).c k=if k=n then { s.c n with st:=4,hold:=min s.hold H,id:=i } else s.c k:=L5 s n k _ hn hk
  unfold Se.BE
  split
  · exact h
  · rw [KC,Kz];exact h
theorem MH {s:Se}(n:Nat) (hn:n<2) (h3:(s.c n).st≠5) (ho:(s.c (1-n)).st≠5) (H i:Int) (m:MsL):ES s (FN n m) (s.BE n H i):=by
  have h0:((s.BE n H i).c n).st=4:=by rw [NH s n n H i hn hn,if_pos rfl]
  have h1:((s.BE n H i).c (1-n)).st=(s.c (1-n)).st:=by rw [NH s n (1-n) H i hn Er,if_neg (JJ hn)]
  refine ⟨?_,fun k hk h5=>?_⟩
  · have:=Hc _ [] (lv s) (Ig n m)
    rw [List.append_nil] at this
    rw [this,NY hn h3 ho,NY (s:=s.BE n H i) hn (by rw [h0];decide) (by rw [h1];exact ho)]
    rfl
  · by_cases e:k=n
    · subst e;rw [h0] at h5;exact absurd h5 Et
    · obtain rfl:k=1-n:=by omega
      rw [h1] at h5;exact absurd h5 ho
theorem Vc {s:Se}(hJ:Jt s) (n:Nat) (hn:n<2) (h3:(s.c n).st=3) (a H i:Int):ES s (BQ s n a H i).2 (BQ s n a H i).1:=by
  by_cases h1:a≠s.their
  · rw [AaR h1];exact Hv hJ n hn _ _ _
  by_cases h2:i=s.id
  · rw [Zv (Decidable.of_not_not h1) h2];exact Hv hJ n hn _ _ _
  by_cases h5:(s.c (1-n)).st=5
  · rw [AaG (Decidable.of_not_not h1) h2 h5];exact Hv hJ n hn _ _ _
  by_cases h4:(s.c (1-n)).st=4
  · unfold BQ
    rw [if_neg h1,if_neg h2,if_neg h5,if_pos h4]
    by_cases hs:(if s.id<i then 1 else 0)≠(n:Int)
    · rw [if_pos hs];exact Hv hJ n hn _ _ _
    · rw [if_neg hs]
      have ht:=Hv hJ (1-n) Er 6 7 ⟨#[]⟩
      refine ht.trans (MH n hn ?_ ?_ H i _)
      · rw [HX s (1-n) n Er hn,if_neg (fun e=>JJ hn e.symm),h3];decide
      · rw [HX s (1-n) (1-n) Er Er,if_pos rfl];show (0:Int)≠5;decide
  · rw [SP (Decidable.of_not_not h1) h2 h5 h4]
    dsimp only
    exact MH n hn (by rw [h3];decide) h5 H i (MsL.zero 4)
theorem VH (s:Se) (n k:Nat) (hn:n<2) (hk:k<2):(s.up5 n).c k=if k=n then { s.c n with st:=5 } else s.c k:=by
  unfold Se.up5
  rw [Kz]
  exact L5 s n k _ hn hk
theorem OH {s:Se}(hJ:Jt s) (n:Nat) (hn:n<2) (h4:(s.c n).st=4):ES s (Gs s n) (s.BD n):=by
  have ho:(s.c (1-n)).st≠5:=fun h5=>(hJ (1-n) Er h5).2 (by rw [show 1-(1-n)=n by omega];exact h4)
  have a0:((s.up5 n).c n).st=5:=by rw [VH s n n hn hn,if_pos rfl]
  have a1:((s.up5 n).c (1-n)).st=(s.c (1-n)).st:=by rw [VH s n (1-n) hn Er,if_neg (JJ hn)]
  have hl:lv s=false:=NY hn (by rw [h4];decide) ho
  have hup:∀ (t:Se),(t.c n).st=5→(t.c (1-n)).st=0→Ia (lv s) [ef 4 n]=some (lv t)∧Jt t:=fun t b0 b1=>by
    rw [hl,Md hn b0]
    refine ⟨rfl,fun k hk h5=>?_⟩
    by_cases e:k=n
    · subst e;rw [b1];exact ⟨by decide,by decide⟩
    · obtain rfl:k=1-n:=by omega
      rw [b1] at h5;exact absurd h5 Et
  unfold Gs Se.BD
  by_cases hz:((s.up5 n).c (1-n)).st=0
  · rw [if_pos hz,if_pos hz]
    exact hup _ a0 hz
  · rw [if_neg hz,if_neg hz]
    have hg:IA (s.up5 n) (1-n)=[]:=if_neg (by rw [a1];exact ho)
    have hm:∀ e∈DW (s.up5 n) (1-n) 6 7 ⟨#[]⟩,e.kind=1∨e.kind=2∨e.kind=3:=fun e he=>by
      unfold DW Hy at he
      rw [hg] at he
      rcases List.mem_append.1 he with he|he
      · rw [if_neg Et] at he
        exact Ig _ _ e he
      · obtain rfl:=List.mem_singleton.1 he
        exact .inr (.inr rfl)
    have h:=hup ((s.up5 n).gone (1-n)) (by rw [HX _ (1-n) n (by omega) hn,if_neg (fun e=>JJ hn e.symm)];exact a0) (by rw [HX _ (1-n) (1-n) (by omega) (by omega),if_pos rfl];rfl)
    exact ⟨by rw [Hc _ _ _ hm];exact h.1,h.2⟩
theorem TK {s:Se}(hJ:Jt s) (n:Nat) (hn:n<2) (m:MsD):ES s (CI s n m).2 (CI s n m).1:=by
  unfold CI
  split
  · exact Pl hJ n hn
  split
  · rename_i h;exact Vc hJ n hn h.2 _ _ _
  split
  · rename_i h;exact OH hJ n hn h.2
  split
  · exact ES.same hJ fun k hk=>by rw [Kz]
  split
  · rename_i h
    have hs:ES s [] (s.alive n):=ES.same hJ fun k hk=>by rw [Kz]
    refine ⟨?_,hs.2⟩
    have hl:=hs.1
    rw [Md hn h.2] at hl ⊢
    exact hl
  · exact Hv hJ n hn _ _ _
theorem N8 (n:Nat) (hn:n<2):∀ (ms:List MsD){s:Se},Jt s→ES s (BK n s ms).2 (BK n s ms).1
  | [],s,hJ=>ES.same hJ fun k hk=>rfl
  | m::ms,s,hJ=>by
    unfold BK
    split
    · exact ES.same hJ fun k hk=>rfl
    · have h:=TK hJ n hn m
      exact h.trans (N8 n hn ms h.2)
theorem Vd {s:Se}(hJ:Jt s) (n:Nat) (hn:n<2) (bs:List Int):ES s (AM s n bs).2 (AM s n bs).1:=by
  unfold AM
  split
  · exact ES.same hJ fun k hk=>rfl
  · have h1:ES s [] (s.fed n bs):=ES.same hJ fun k hk=>by
      rw [show (s.fed n bs).c k=if k=n then (s.c n).fed (BL [] ((s.c n).wait++bs)) else s.c k from L5 s n k _ hn hk]
      split
      · rename_i e;subst e;rfl
      · rfl
    have h2:=N8 n hn (BL [] ((s.c n).wait++bs)).1 h1.2
    have h3:=h1.trans h2
    rw [List.nil_append] at h3
    unfold G1
    split
    · exact h3
    · split
      · exact h3
      · exact h3.trans (Hv h2.2 n hn _ _ _)
theorem VT {s:Se}(hJ:Jt s) (n:Nat) (hn:n<2):ES s (upE s n) (s.up n):=by
  unfold upE Se.up
  split
  · exact ⟨KB (.inr (.inr rfl)),hJ⟩
  · rename_i h
    have hz:(s.c n).st=0:=Decidable.of_not_not fun hh=>h (.inr (.inl hh))
    have hc:∀ k,k<2→((s.HZ n).due (1+n) 240).c k=if k=n then JM else s.c k:=fun k hk=>L5 s n k _ hn hk
    have a0:(((s.HZ n).due (1+n) 240).c n).st=3:=by rw [hc n hn,if_pos rfl];rfl
    have a1:(((s.HZ n).due (1+n) 240).c (1-n)).st=(s.c (1-n)).st:=by rw [hc (1-n) Er,if_neg (JJ hn)]
    refine ⟨?_,fun k hk h5=>?_⟩
    · have hm:=Hc _ [] (lv s) (Ig n (FX s.asn s.hold s.id))
      rw [List.append_nil] at hm
      rw [hm]
      show some _=some _
      by_cases ho:(s.c (1-n)).st=5
      · rw [Md (n:=1-n) Er ho,Md (n:=1-n) Er (a1.trans ho)]
      · rw [NY hn (by rw [hz];decide) ho,NY hn (by rw [a0];decide) (by rw [a1];exact ho)]
    · by_cases e:k=n
      · subst e;rw [a0] at h5;exact absurd h5 Et
      · obtain rfl:k=1-n:=by omega
        rw [show 1-(1-n)=n by omega,a0]
        exact ⟨by decide,by decide⟩
theorem Qm {s:Se}(hJ:Jt s) (n:Nat) (hn:n<2):ES s (IM s n) (s.down n):=by
  unfold IM Se.down
  split
  · exact Nq hJ n hn
  · split
    · exact ES.same hJ fun k hk=>rfl
    · split
      · exact ES.same hJ fun k hk=>rfl
      · exact ES.same hJ fun k hk=>rfl
theorem QJ {s:Se}(hJ:Jt s):ES s [ef 1 0] s.JW:=⟨KB (.inl rfl),hJ⟩
theorem PL {s:Se}(hJ:Jt s):∀ k,k≤2→ES s (CF s k).2 (CF s k).1
  | 0,_=>ES.same hJ fun k hk=>rfl
  | k+1,hk=>by
    have h:=PL hJ k Er
    refine h.trans ?_
    show ES _ (Gv _ _).2 (Gv _ _).1
    unfold Gv
    split
    · exact ES.same h.2 fun k hk=>rfl
    · exact Hv h.2 k Er _ _ _
theorem Uj {s:Se}(hJ:Jt s):ES s (FZ s).2 (FZ s).1:=by
  unfold FZ
  split
  · exact ES.same hJ fun k hk=>rfl
  · have h0:ES s [] { s with base:=0,D:=s.D.set 0 (-1) }:=ES.same hJ fun k hk=>rfl
    exact h0.trans (PL h0.2 2 (Nat.le_refl _))
theorem UU {s:Se}(hJ:Jt s) (n:Nat) (t:Int):ES s (CM s n t).2 (CM s n t).1:=by
  have h:∀ k,ES s [] { s with now:=t,D:=s.D.set k (-1) }:=fun k=>ES.same hJ fun k hk=>rfl
  unfold CM
  split
  · exact ES.trans (xs:=[]) (h 0) (QJ (h 0).2)
  · exact ES.trans (xs:=[]) (h 1) (Hv (h 1).2 0 Et 4 0 ⟨#[]⟩)
  · exact ES.trans (xs:=[]) (h 2) (Hv (h 2).2 1 Et 4 0 ⟨#[]⟩)
  · have hk:∀ k,k<2→((({ s with now:=t,D:=s.D.set 3 (-1) }:Se).kept 0).c k).st=(s.c k).st:=fun k hk=>by rw [KC];rfl
    have hm:=Hc _ [] (lv s) (Ig 0 (MsL.zero 4))
    exact Db
  · have hk:∀ k,k<2→((({ s with now:=t,D:=s.D.set 4 (-1) }:Se).kept 1).c k).st=(s.c k).st:=fun k hk=>by rw [KC];rfl
    have hm:=Hc _ [] (lv s) (Ig 1 (MsL.zero 4))
    exact Db
theorem Xv {T:Int}{s s':Se}{es:List EfD}(hr:JL T s es s') (hJ:Jt s):ES s es s':=by
  induction hr with
  | done _=>exact ES.same hJ fun k hk=>rfl
  | @Jj s s' n t es _ _ ih =>
    have h:=UU hJ n t
    exact h.trans (ih h.2)
theorem AbE {s:Se}(hJ:Jt s) (n:Int):ES s (upA s n).2 (upA s n).1:=by
  unfold upA
  split
  · exact VT hJ 0 Et
  split
  · exact VT hJ 1 Et
  · exact ES.same hJ fun k hk=>rfl
theorem Ua {s:Se}(hJ:Jt s) (n:Int):ES s (Ha s n).2 (Ha s n).1:=by
  unfold Ha
  split
  · exact Qm hJ 0 Et
  split
  · exact Qm hJ 1 Et
  · exact ES.same hJ fun k hk=>rfl
theorem Uv {s:Se}(hJ:Jt s):ES s (if s.base=0 then [ef 1 0] else []) (if s.base=0 then s.JW else s):=by
  split
  · exact QJ hJ
  · exact ES.same hJ fun k hk=>rfl
end Go.Proofs.YtcmpamnhegndnaaGreatDoor
