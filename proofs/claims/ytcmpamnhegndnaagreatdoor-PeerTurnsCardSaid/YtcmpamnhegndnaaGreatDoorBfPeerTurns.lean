/- Texts joined: engine, contracts and laws, in the order in which they build. -/
import Derived.Test.YtcmpamnhegndnaaGreatDoorBePeerTurns
namespace Go.Proofs.YtcmpamnhegndnaaGreatDoor
open Go.RowKit

theorem ef_kind {w : World} {b o : Nat} {fs : List EfL} {i : Nat} {x : EfL} (h : w.rangeAt b o (efsL fs)) (hi : fs[i]? = some x) : w.rangeAt b (o + i * 23) x.cells := fun j v hj => by
  have hl := flatMap_seg (enc := EfL.cells) (s := 23) (fun _ => rfl) fs i x hi
  have hj2 : j < 23 := (List.getElem?_eq_some_iff.1 hj).1
  have h2 : (efsL fs)[i * 23 + j]? = some v := by
    unfold efsL
    rw [← List.getElem?_drop, ← hj, ← hl, List.getElem?_take, if_pos hj2]
  have := h _ _ h2
  rwa [Nat.add_assoc]
theorem kinds_c (w : World) (ad : Option Addr) (c : Nat) (fs : List EfL) (E : List Ent) (hV : Vec 23 ad fs.length c (efsL fs) E) (hE : ∀ e ∈ E, e.holds w) (wa : Option Addr) (wc : Nat) (ws : List Int) (hW : CellsAt w wa (i64s ws)) (he : fs.map EfL.kind = ws) (hb : fs.length ≤ 1000000) :
    Calls Tryz.prog 16 #[.slice ad fs.length c, .slice wa ws.length wc] w fun e w' => e = .returned (.bool true) ∧ Frm (fun _ => False) w w' := by
  have hl : ws.length = fs.length := by rw [← he, List.length_map]
  refine enter Tryz.func16 rfl Tryz.ntmps16 rfl (St.start (fun _ => False) w) ?_
  refine cR <| zA rfl <| zN <| cS <| cR <| zM rfl <| zV (v_len_slice rfl rfl Tryz.underlying46) rfl <| zM rfl <| zV (v_len_slice rfl rfl Tryz.underlying32) rfl <| ?_
  refine zV ((v_neq rfl rfl rfl).f ((by omega))) rfl ?_
  refine zN <| cF rfl <| cK <| eN <| cS <| cR <| zM rfl <| zV (v_len_slice rfl rfl Tryz.underlying46) rfl <| zM rfl <| zN <| cB <| WC.loop (fun k : Nat => [(13, .int .i64 k), (12, .int .i64 fs.length), (0, .slice ad fs.length c), (1, .slice wa ws.length wc)]) (fun _ => []) (fun k => k ≤ fs.length) (fun k => fs.length - k) 0 (Nat.zero_le _) (.cons rfl (.cons rfl (.cons rfl (.cons rfl .nil)))) (.refl _) <| ?_
  intro k hk
  refine cR ?_
  refine zT (v_lss rfl rfl rfl) rfl (fun h14 => ?_) (fun h14 => ?_)
  refine zN <| cS <| cT rfl <| cK <| eN <| cS <| cB <| cR <| ?_
  obtain ⟨x, hx⟩ : ∃ x, fs[k]? = some x := ⟨fs[k]'(by omega), List.getElem?_eq_getElem _⟩
  obtain ⟨b1, o1, ea1, r1⟩ := hV.src2 (by rw [efsL_len]; omega)
  obtain ⟨b2, o2, ea2, r2⟩ := hW (by rw [i64s_len]; omega)
  have hwk : ws[k]? = some x.kind := (by rw [← he, List.getElem?_map, hx]; rfl)
  have r3 := ef_kind (r1 w hE) hx
  refine zM rfl <| zA rfl <| zN <| cS <| cQ mixed <| qV (v_move rfl rfl) rfl <| qV (v_move rfl rfl) rfl <| ?_
  refine qV ((v_indexAddr (b := b1) (off := o1) (lo := k) rfl (by show some (Value.slice ad _ _) = _; rw [ea1]) rfl Tryz.underlying46 sz_54 rfl (by omega))) rfl ?_
  refine qV (v_fieldAddr rfl rfl fld_54_0) rfl <| qV (v_load1 rfl rfl one_3 (cellOld (fun h => h) (r3 0 (.int .i64 x.kind) rfl))) rfl <| qV (v_move rfl rfl) rfl <| qV (v_move rfl rfl) rfl <| ?_
  refine qV ((v_indexAddr (b := b2) (off := o2) (lo := k) rfl (by show some (Value.slice wa _ _) = _; rw [ea2]) rfl Tryz.underlying32 sz_3 rfl (by omega))) rfl ?_
  refine qV (v_load1 rfl rfl one_3 (cellOld (fun h => h) (by have := r2 k _ (i64s_get hwk); rwa [show o2 + k * 1 = o2 + k by omega]))) rfl ?_
  refine qV ((v_neq rfl rfl rfl).f ((fun h => h rfl))) rfl <| WQ.nil <| eN <| cF rfl <| cK <| eY <| eN <| WC.region <| ?_
  refine zV (v_add rfl rfl rfl (show _ = ((k + 1 : Nat) : Int) from (w_i64 (by omega) (by omega)).trans (by omega))) rfl ?_
  refine zM rfl <| WL.nil <| ?_
  exact WE.next (k + 1) (by omega) (by omega) (.cons rfl (.cons rfl (.cons rfl (.cons rfl .nil)))) (.refl _)
  refine zN <| cS <| cF rfl <| cX <| eX <| eX <| eH <| eN <| cR <| zA rfl <| zN <| cE <| tR Tryz.results16 rfl <| ?_
  exact fun w' h => ⟨rfl, h.frm⟩

def Se.down (s : Se) (n : Nat) : Se := if (s.c n).st ≠ 0 then s.gone n else if n ≠ 0 ∨ s.base ≠ 1 then s else if (s.c 1).st = 0 then ({ s with base := 2 } : Se).due 0 s.retry else { s with base := 2 }
def downE (s : Se) (n : Nat) : List EfD := if (s.c n).st ≠ 0 then goneE s n else []
set_option maxHeartbeats 1000000 in
theorem down0_c (w0 w : World) (g : Nat) (p : PeL) (s : Se) (E0 E1 L : List Ent) (d : Ck) (hA : PeAt g p s E0 E1 d) (hS0 : St (fun _ => False) w0 w (.row g p.cells :: (E0 ++ (E1 ++ d.L p.gC s.now L)))) :
    Calls Tryz.prog 20 #[.pointer (some ⟨g, 0, none⟩), .int .i64 0] w fun e w' => EffC w0 w' g (downE s 0) (s.down 0) L e := by
  have hretry := hA.ok.1
  have hr0 : p.retry = s.retry := (congrArg Se.retry hA.eq :)
  have hb0 : p.base = s.base := (congrArg Se.base hA.eq :)
  have hc : p.c0.m = s.c0 := (congrArg Se.c0 hA.eq :)
  have hst : p.c0.st = (s.c 0).st := (congrArg CnM.st hc :)
  have hc1 : p.c1.m = s.c1 := (congrArg Se.c1 hA.eq :)
  have hs1 : p.c1.st = (s.c 1).st := (congrArg CnM.st hc1 :)
  refine enter Tryz.func20 rfl Tryz.ntmps20 rfl hS0 ?_
  refine cR <| zA rfl <| zN <| cS <| cR <| zM rfl <| zM rfl <| zK ck_51 rfl <| ?_
  intro w hS
  refine Calls.then (there_c w g p (hS.row (g := g)) 0 (by decide)) hS ?_
  generalize hth : decide ((p.c 0).st ≠ 0) = b7
  cases b7
  refine zN <| cF rfl <| cK <| eN <| cS <| cR <| ?_
  have e2 : List.map EfL.d [] = downE s 0 := (by unfold downE; rw [if_neg (fun hh => of_decide_eq_false hth (fun h => hh (hst.symm.trans h)))]; rfl)
  refine zM rfl <| zV (v_eql_nil false rfl rfl Tryz.underlying40 rfl) rfl <| zM rfl <| zS (v_move rfl rfl) rfl <| ?_
  refine zS ((v_neq rfl rfl rfl).f ((by decide))) rfl ?_
  refine zQ rfl <| zM rfl <| zS (v_move rfl rfl) rfl <| zS (v_nilCheck rfl rfl) rfl <| zS (v_fieldAddr0 rfl rfl fld_106_2) rfl <| zS (v_load1 rfl rfl one_3 (cellAt rfl)) rfl <| ?_
  refine WL.test (v_neq rfl rfl rfl) (.some rfl rfl rfl) rfl rfl (fun h22 => ?_) (fun h22 => ?_)
  refine zQ rfl <| zN <| cT rfl <| cR <| zA rfl <| zN <| cE <| eR <| tR Tryz.results20 rfl <| ?_
  have e1 : s.down 0 = s := (by unfold Se.down; rw [if_neg (fun hh => of_decide_eq_false hth (fun h => hh (hst.symm.trans h))), if_pos (.inr (by rw [← hb0]; exact h22))])
  exact fun w' h => ⟨none, 0, [], [], [], p, E0, E1, d, rfl, ⟨Vec.nil 23, fun e he => by cases he⟩, e2, by rw [e1]; exact hA, by rw [e1]; exact h⟩
  refine zQ rfl <| zN <| cF rfl <| cK <| eN <| cR <| zM rfl <| zC rfl <| zF rfl fld_106_2 <| zO one_3 rfl rfl <| WL.as (L' := .row g ({ p with base := 2 } : PeL).cells :: (E0 ++ (E1 ++ d.L p.gC s.now L))) rfl <| ?_
  have hA1 := hA.base 2 ⟨by decide, by decide⟩
  refine zN <| cS <| cR <| zM rfl <| zK ck_51 rfl <| ?_
  intro w hS
  refine Calls.then (there_c w g { p with base := 2 } (hS.row (g := g)) 1 (by decide)) hS ?_
  generalize ht1 : decide ((({ p with base := 2 } : PeL).c 1).st ≠ 0) = b28
  cases b28
  refine zV (v_not rfl rfl rfl) rfl <| zN <| cT rfl <| WC.region <| zM rfl <| zM rfl <| zC rfl <| zF rfl fld_106_0 <| zF rfl fld_44_4 <| zL rfl one_3 rfl <| zK ck_53 rfl <| ?_
  intro w1 hS
  refine (due_c w0 w1 g { p with base := 2 } { s with base := 2 } E0 E1 L d hA1 hS 0 (by omega) p.retry (by omega)).mono ?_
  rintro e w' ⟨d2, rfl, hA2, hS'⟩
  refine ⟨_, _, rfl, hS', ?_⟩
  refine zR <| zA rfl <| zN <| cE <| tR Tryz.results20 rfl <| ?_
  have e1 : s.down 0 = ({ s with base := 2 } : Se).due 0 p.retry := (by unfold Se.down; rw [if_neg (fun hh => of_decide_eq_false hth (fun h => hh (hst.symm.trans h))), if_neg (by rw [← hb0]; omega), if_pos (hs1.symm.trans (Decidable.of_not_not (of_decide_eq_false ht1))), hr0])
  exact fun w' h => ⟨none, 0, [], [], [], _, E0, E1, d2, rfl, ⟨Vec.nil 23, fun e he => by cases he⟩, e2, by rw [e1]; exact hA2, by rw [e1]; exact h⟩
  refine zV (v_not rfl rfl rfl) rfl <| zN <| cF rfl <| cK <| eN <| cR <| zA rfl <| zN <| cE <| tR Tryz.results20 rfl <| ?_
  have e1 : s.down 0 = ({ s with base := 2 } : Se) := (by unfold Se.down; rw [if_neg (fun hh => of_decide_eq_false hth (fun h => hh (hst.symm.trans h))), if_neg (by rw [← hb0]; omega), if_neg (fun hh => of_decide_eq_true ht1 (hs1.trans hh))])
  exact fun w' h => ⟨none, 0, [], [], [], _, E0, E1, d, rfl, ⟨Vec.nil 23, fun e he => by cases he⟩, e2, by rw [e1]; exact hA1, by rw [e1]; exact h⟩
  refine zN <| cT rfl <| cR <| zM rfl <| zM rfl <| zK ck_59 rfl <| ?_
  intro w1 hS
  refine (gone0_c w0 w1 g p s E0 E1 L d hA hS).mono ?_
  rintro e w' ⟨ad2, c2, gs, EG, KG, p2, E02, E12, d2, rfl, hV2, heg, hA2, hS'⟩
  refine ⟨_, _, rfl, hS', ?_⟩
  refine zA rfl <| zN <| cE <| eR <| tR Tryz.results20 rfl <| ?_
  have hz : (s.c 0).st ≠ 0 := fun hh => of_decide_eq_true hth (hst.trans hh)
  have e1 : s.down 0 = s.gone 0 := if_pos hz
  have e2 : downE s 0 = goneE s 0 := if_pos hz
  rw [e1, e2]
  exact fun w' h => ⟨ad2, c2, gs, EG, KG, p2, E02, E12, d2, rfl, hV2, heg, hA2, h⟩
set_option maxHeartbeats 1000000 in
theorem down1_c (w0 w : World) (g : Nat) (p : PeL) (s : Se) (E0 E1 L : List Ent) (d : Ck) (hA : PeAt g p s E0 E1 d) (hS0 : St (fun _ => False) w0 w (.row g p.cells :: (E0 ++ (E1 ++ d.L p.gC s.now L)))) :
    Calls Tryz.prog 20 #[.pointer (some ⟨g, 0, none⟩), .int .i64 1] w fun e w' => EffC w0 w' g (downE s 1) (s.down 1) L e := by
  have hretry := hA.ok.1
  have hr0 : p.retry = s.retry := (congrArg Se.retry hA.eq :)
  have hb0 : p.base = s.base := (congrArg Se.base hA.eq :)
  have hc : p.c1.m = s.c1 := (congrArg Se.c1 hA.eq :)
  have hst : p.c1.st = (s.c 1).st := (congrArg CnM.st hc :)
  have hc1 : p.c1.m = s.c1 := (congrArg Se.c1 hA.eq :)
  have hs1 : p.c1.st = (s.c 1).st := (congrArg CnM.st hc1 :)
  refine enter Tryz.func20 rfl Tryz.ntmps20 rfl hS0 ?_
  refine cR <| zA rfl <| zN <| cS <| cR <| zM rfl <| zM rfl <| zK ck_51 rfl <| ?_
  intro w hS
  refine Calls.then (there_c w g p (hS.row (g := g)) 1 (by decide)) hS ?_
  generalize hth : decide ((p.c 1).st ≠ 0) = b7
  cases b7
  refine zN <| cF rfl <| cK <| eN <| cS <| cR <| ?_
  have e2 : List.map EfL.d [] = downE s 1 := (by unfold downE; rw [if_neg (fun hh => of_decide_eq_false hth (fun h => hh (hst.symm.trans h)))]; rfl)
  refine zM rfl <| zV (v_eql_nil false rfl rfl Tryz.underlying40 rfl) rfl <| zM rfl <| zS (v_move rfl rfl) rfl <| ?_
  refine zS ((v_neq rfl rfl rfl).t ((by decide))) rfl ?_
  refine zQ rfl <| zM rfl <| ?_
  iterate 5 refine WL.sk rfl ?_
  refine zP rfl <| zN <| cT rfl <| cR <| zA rfl <| zN <| cE <| eR <| tR Tryz.results20 rfl <| ?_
  have e1 : s.down 1 = s := (by unfold Se.down; rw [if_neg (fun hh => of_decide_eq_false hth (fun h => hh (hst.symm.trans h))), if_pos (.inl (by decide))])
  exact fun w' h => ⟨none, 0, [], [], [], p, E0, E1, d, rfl, ⟨Vec.nil 23, fun e he => by cases he⟩, e2, by rw [e1]; exact hA, by rw [e1]; exact h⟩
  refine zN <| cT rfl <| cR <| zM rfl <| zM rfl <| zK ck_59 rfl <| ?_
  intro w1 hS
  refine (gone1_c w0 w1 g p s E0 E1 L d hA hS).mono ?_
  rintro e w' ⟨ad2, c2, gs, EG, KG, p2, E02, E12, d2, rfl, hV2, heg, hA2, hS'⟩
  refine ⟨_, _, rfl, hS', ?_⟩
  refine zA rfl <| zN <| cE <| eR <| tR Tryz.results20 rfl <| ?_
  have hz : (s.c 1).st ≠ 0 := fun hh => of_decide_eq_true hth (hst.trans hh)
  have e1 : s.down 1 = s.gone 1 := if_pos hz
  have e2 : downE s 1 = goneE s 1 := if_pos hz
  rw [e1, e2]
  exact fun w' h => ⟨ad2, c2, gs, EG, KG, p2, E02, E12, d2, rfl, hV2, heg, hA2, h⟩

def VecO (ad : Option Addr) (c : Nat) (xs : List Int) (E : List Ent) : Prop :=
  (ad = none ∧ c = 0 ∧ xs = [] ∧ E = []) ∨ ∃ g o cs, ad = some ⟨g, o, none⟩ ∧ E = [.row g cs] ∧ xs.length ≤ c ∧ o + c ≤ cs.length ∧ ∀ i v, (u8s xs)[i]? = some v → cs[o + i]? = some v
section
variable {P : Program} {ops : Array Oper} {Q : Exit → Act → World → Prop} {n : Nat} {p : Nat → Prop} {w0 : World} {o : Oper} {rest : List Oper} {l : Kn} {E L0 : List Ent}
end
structure QuL where
  ad : Option Addr
  cap : Nat
  wait : List Int
  most : Int
def QuL.cells (q : QuL) : List Value := [.slice q.ad q.wait.length q.cap, .int .i64 q.most]

structure OpL where
  k : Int
  ad : Option Addr
  cap : Nat
  val : List Int
  n : Int
def OpL.cells (o : OpL) : List Value := [.int .i64 o.k, .slice o.ad o.val.length o.cap, .int .i64 o.n]
structure QS where
  ws : List Int
  qa : Option Addr
  qc : Nat
  Eq : List Ent
  aa : Option Addr
  ac : Nat
  Ea : List Ent
structure QI (y : QS) (most : Int) (k : Nat) : Prop where
  q : VecO y.qa y.qc y.ws y.Eq
  a : VecO y.aa y.ac y.ws y.Ea
  bys : Bys y.ws
  len : y.ws.length ≤ 300 * k
  fit : (y.ws.length : Int) ≤ most



def AtL.rcells (a : AtL) : List Value := [.int .i64 a.has, .int .i64 a.origin, .slice a.pad a.path.length a.pc, .int .i64 a.hop, .int .i64 a.med, .int .i64 a.loc, .int .i64 a.aas, .int .i64 a.aid, .slice a.cad a.comms.length a.cc, .slice a.oad a.others.length a.oc]
def MsL.rcells (m : MsL) : List Value := [.int .i64 m.kind, .int .i64 m.asn, .int .i64 m.hold, .int .u32 m.id, .slice m.kad m.caps.length m.kc, .slice m.gad m.gone.length m.gc, .int .i64 m.atr.has, .int .i64 m.atr.origin, .slice m.atr.pad m.atr.path.length m.atr.pc, .int .i64 m.atr.hop, .int .i64 m.atr.med, .int .i64 m.atr.loc, .int .i64 m.atr.aas, .int .i64 m.atr.aid, .slice m.atr.cad m.atr.comms.length m.atr.cc, .slice m.atr.oad m.atr.others.length m.atr.oc, .slice m.nad m.nets.length m.nc, .int .i64 m.fc, .int .i64 m.fs, .string m.fd]


section
variable {P : Program} {ops : Array Oper} {Q : Exit → Act → World → Prop} {n : Nat} {p : Nat → Prop} {w0 : World} {o : Oper} {rest : List Oper} {l : Kn} {L : List Ent} {t kt et : Nat} {x xi : Operand} {K : Value → Prop} {A : Value} {es : Array MapEntry} {m : Value → Option Value}
end
def mostS (c : Int) : Int := if c = 1 then 3 else if c = 2 then 6 else if c = 3 then 11 else if c = 6 then 1 else 0

def AtL.r0 (a : AtL) (ad : Option Addr) (c : Nat) (ss : List SegL) (bd : Option Addr) (bc : Nat) (os : List OthL) : AtL := { a with pad := ad, pc := c, path := ss, oad := bd, oc := bc, others := os }
def AtL.rc (a : AtL) (ad : Option Addr) (c n : Nat) (bd : Option Addr) (bc m : Nat) : List Value := [.int .i64 a.has, .int .i64 a.origin, .slice ad n c, .int .i64 a.hop, .int .i64 a.med, .int .i64 a.loc, .int .i64 a.aas, .int .i64 a.aid, .slice a.cad a.comms.length a.cc, .slice bd m bc]

def MsL.rc (m : MsL) (kad : Option Addr) (kc kn : Nat) (gad : Option Addr) (gc : Nat) (pad : Option Addr) (pc : Nat) (oad : Option Addr) (oc : Nat) (nad : Option Addr) (nc : Nat) : List Value := [.int .i64 m.kind, .int .i64 m.asn, .int .i64 m.hold, .int .u32 m.id, .slice kad kn kc, .slice gad m.gone.length gc, .int .i64 m.atr.has, .int .i64 m.atr.origin, .slice pad m.atr.path.length pc, .int .i64 m.atr.hop, .int .i64 m.atr.med, .int .i64 m.atr.loc, .int .i64 m.atr.aas, .int .i64 m.atr.aid, .slice m.atr.cad m.atr.comms.length m.atr.cc, .slice oad m.atr.others.length oc, .slice nad m.nets.length nc, .int .i64 m.fc, .int .i64 m.fs, .string m.fd]
structure PlS where
  g3 : Nat
  gad : Option Addr
  gc : Nat
  EG : List Ent
  pad : Option Addr
  pc : Nat
  EP : List Ent
  oad : Option Addr
  oc : Nat
  EO : List Ent
  nad : Option Addr
  nc : Nat
  EN : List Ent
structure PlS.Good (x : PlS) (m : MsL) : Prop where
  gone : Vec 2 x.gad m.gone.length x.gc (pfsL m.gone) x.EG
  path : Vec 2 x.pad m.atr.path.length x.pc (segsL m.atr.path) x.EP
  oths : Vec 2 x.oad m.atr.others.length x.oc (othsL m.atr.others) x.EO
  nets : Vec 2 x.nad m.nets.length x.nc (pfsL m.nets) x.EN
def PlS.cells (x : PlS) (m : MsL) (kad : Option Addr) (kc kn : Nat) : List Value := m.rc kad kc kn x.gad x.gc x.pad x.pc x.oad x.oc x.nad x.nc
def PlS.K (x : PlS) : List Ent := x.EG ++ (x.EP ++ (x.EO ++ x.EN))
def PlS.m (x : PlS) (m : MsL) (kad : Option Addr) (kc : Nat) : MsL := { m with kad := kad, kc := kc, gad := x.gad, gc := x.gc, atr := m.atr.r0 x.pad x.pc m.atr.path x.oad x.oc m.atr.others, nad := x.nad, nc := x.nc }





structure AtG (N : Nat) (d : AtD) : Prop where
  each : ∀ k, 1 ≤ k → k ≤ 8 → eachBD d k = true
  hop : U32 d.hop
  aid : U32 d.aid
  path : 4 * d.path.length ≤ N
  oths : ∀ o ∈ d.others, 9 ≤ o.1 ∧ o.1 ≤ 255 ∧ Bys o.2 ∧ o.2.length ≤ N


def partsR (v : List Int) : Option (List (Bool × List Int)) := (pathR v).bind fun p => if p.all segBD then some p else none
def PartsP (w w' : World) (v : List Int) (e : Ending) : Prop :=
  match partsR v with
  | none => e = .returned (.tuple #[.slice none 0 0, .bool false]) ∧ Frm (fun _ => False) w w'
  | some ps => ∃ ss ad c E K, e = .returned (.tuple #[.slice ad ss.length c, .bool true]) ∧ ss.map segD = ps ∧ Vec 2 ad ss.length c (segsL ss) E ∧ (∀ s ∈ ss, SegOwn K s) ∧ St (fun _ => False) w w' (E ++ K)

def Bits (bs : List Int) : Prop := ∀ b ∈ bs, b = 0 ∨ b = 1


def ReadP (w w' : World) (xs : List Int) (e : Ending) : Prop :=
  match netsR xs with
  | none => e = .returned (.tuple #[.slice none 0 0, .bool false]) ∧ Frm (fun _ => False) w w'
  | some ps => ∃ ad c E, e = .returned (.tuple #[.slice ad ps.length c, .bool true]) ∧ Vec 2 ad ps.length c (pfsL ps) E ∧ St (fun _ => False) w w' E



structure ReS where
  k : Nat
  d : AtD
  seen : List Int
  a : AtL
  es : Array MapEntry
  mc : Nat
  mm : Value → Option Value
  E : List Ent
  K : List Ent
structure ReS.Good (y : ReS) (xs : List Int) : Prop where
  k : y.k ≤ xs.length
  dec : decD AtL.zero.d [] xs = decD y.d y.seen (xs.drop y.k)
  seen : SeenI y.d y.seen
  same : y.a.d = { y.d with others := sortO y.d.others }
  own : AtOwn y.K y.a
  oths : Vec 2 y.a.oad y.a.others.length y.a.oc (othsL y.a.others) y.E
  vals : ∀ o ∈ y.a.others, OthOwn y.K o
  map : IMap (KInt .i64) y.es y.mm
  com : (8 : Int) ∉ y.seen → y.a.cad = none ∧ y.a.cc = 0
  ol : y.a.others.length ≤ y.k
  known : ∀ t : Int, (y.mm (.int .i64 t)).getD (.bool false) = .bool (decide (t ∈ y.seen))
section
variable {P : Program} {ops : Array Oper} {Q : Exit → Act → World → Prop} {n : Nat} {p : Nat → Prop} {w0 : World} {o : Oper} {l : Kn} {L : List Ent}
end
theorem Vec.cellsAt {ad : Option Addr} {c : Nat} {xs : List Int} {E : List Ent} (hV : BV ad c xs E) {w : World} (hw : ∀ e ∈ E, e.holds w) : CellsAt w ad (u8s xs) := fun hn => by
  obtain ⟨b, o, e, hr⟩ := Vec.src2 hV hn
  exact ⟨b, o, e, hr w hw⟩

def RDecP (w w' : World) (xs : List Int) (e : Ending) : Prop :=
  match decD AtL.zero.d [] xs with
  | .inr (s, d) => e = .returned (.tuple #[.agg AtL.zero.rcells.toArray, .agg (fltL 3 s d).toArray]) ∧ Frm (fun _ => False) w w'
  | .inl d => ∃ a K, e = .returned (.tuple #[.agg a.rcells.toArray, .agg (fltL 0 0 ⟨#[]⟩).toArray]) ∧ a.d = { d with others := sortO d.others } ∧ AtAll K a ∧ St (fun _ => False) w w' K

def RMsP (w w' : World) (xs : List Int) (e : Ending) : Prop :=
  match decM xs with
  | .inr (c, s, d) => e = .returned (.tuple #[.agg (MsL.zero 0).rcells.toArray, .agg (fltL c s d).toArray]) ∧ Frm (fun _ => False) w w'
  | .inl md => ∃ m K, e = .returned (.tuple #[.agg m.rcells.toArray, .agg (fltL 0 0 ⟨#[]⟩).toArray]) ∧ m.d = md ∧ MsAll K m ∧ St (fun _ => False) w w' K

theorem takeD_sub {d : AtD} {all v : List Int} {s : Int} {x : ByteArray} (h : takeD d all v = .inr (s, x)) : 0 ≤ s ∧ s ≤ 11 := by
  unfold takeD at h
  split at h
  · cases h; decide
  split at h
  · cases h; decide
  split at h
  · cases h; decide
  split at h
  · cases h; decide
  split at h
  · cases h; decide
  split at h
  · cases h; decide
  split at h
  · cases h; decide
  · cases h
theorem otherD_sub {d : AtD} {all v : List Int} {s : Int} {x : ByteArray} (h : otherD d all v = .inr (s, x)) : 0 ≤ s ∧ s ≤ 11 := by
  unfold otherD at h
  split at h
  · cases h; decide
  split at h <;> cases h
theorem decD_sub : ∀ (n : Nat) (d : AtD) (seen xs : List Int) {s : Int} {x : ByteArray}, xs.length ≤ n → decD d seen xs = .inr (s, x) → 0 ≤ s ∧ s ≤ 11
  | _, d, seen, [], s, x, _, h => by rw [decD_nil] at h; cases h
  | 0, d, seen, y :: xs, s, x, hn, _ => by simp at hn
  | n + 1, d, seen, y :: xs, s, x, hn, h => by
    by_cases hc : (y :: xs).length < fromN (y :: xs) ∨ (y :: xs).length < toN (y :: xs) ∨ fOf (y :: xs) 1 ∈ seen
    · rw [decD_bad (by simp) hc] at h; cases h; decide
    · rw [decD_step (by simp) hc] at h
      have hf := fromN_b (y :: xs)
      have ht := toN_ge (y :: xs)
      cases hs : stepD d ((y :: xs).take (toN (y :: xs))) (((y :: xs).take (toN (y :: xs))).drop (fromN (y :: xs))) with
      | inr f =>
        rw [hs] at h
        cases h
        unfold stepD at hs
        split at hs
        · exact takeD_sub hs
        · exact otherD_sub hs
      | inl d2 =>
        rw [hs] at h
        exact decD_sub n d2 _ _ (by rw [List.length_drop]; omega) h
theorem optsR_sub : ∀ (n : Nat) (acc : List (Int × List Int)) (xs : List Int) {s : Int}, xs.length ≤ n → optsR acc xs = .inr s → s = 0 ∨ s = 4
  | _, acc, [], s, _, h => by rw [optsR] at h; cases h
  | _, acc, [_], s, _, h => by rw [optsR] at h; cases h; exact .inl rfl
  | 0, acc, y :: z :: xs, s, hn, _ => by simp at hn
  | n + 1, acc, y :: z :: xs, s, hn, h => by
    rw [optsR_cons] at h
    split at h
    · cases h; exact .inl rfl
    split at h
    · cases h; exact .inr rfl
    split at h
    · cases h; exact .inl rfl
    · rw [List.length_cons, List.length_cons] at hn
      exact optsR_sub n _ _ (by rw [List.length_drop]; omega) h
theorem sizeR_sub (n : Nat) (f : Nat → Int) : (sizeR n f).2.1 ≠ 0 → (sizeR n f).2.1 = 1 ∧ 0 ≤ (sizeR n f).2.2.1 ∧ (sizeR n f).2.2.1 ≤ 3 := by
  unfold sizeR
  repeat' split
  all_goals (intro h; dsimp only at h ⊢; first | exact absurd rfl h | exact ⟨rfl, by decide, by decide⟩)
theorem decM_sub {xs : List Int} {c s : Int} {d : ByteArray} (h : decM xs = .inr (c, s, d)) : c ≠ 0 ∧ 0 ≤ s ∧ s ≤ mostS c := by
  have m1 : mostS 1 = 3 := rfl
  have m2 : mostS 2 = 6 := rfl
  have m3 : mostS 3 = 11 := rfl
  have m6 : mostS 6 = 1 := rfl
  unfold decM at h
  split at h
  · rename_i hne
    have e : (sizeR xs.length (fOf xs)).2 = (c, s, d) := Sum.inr.inj h
    have hs := sizeR_sub _ _ hne
    rw [e] at hs
    obtain ⟨h1, h2, h3⟩ := hs
    have h1' : c = 1 := h1
    rw [h1', m1]
    exact ⟨by decide, h2, h3⟩
  split at h
  · cases h; exact ⟨by decide, by decide, by rw [m1]; decide⟩
  unfold bodyM at h
  split at h
  · split at h
    · cases h
    · rename_i s' d' ho
      cases h
      unfold openR at ho
      refine ⟨by decide, ?_⟩
      rw [m2]
      split at ho
      · cases ho; decide
      split at ho
      · cases ho; decide
      split at ho
      · cases ho; decide
      split at ho
      · cases ho; decide
      split at ho
      · cases ho; decide
      split at ho
      · cases ho
      · rename_i s2 hs2
        cases ho
        rcases optsR_sub _ _ _ (Nat.le_refl _) hs2 with rfl | rfl <;> decide
  split at h
  · split at h
    · cases h
    · rename_i f hu
      cases h
      unfold updR at hu
      split at hu
      · cases hu; exact ⟨by decide, by decide, by rw [m3]; decide⟩
      split at hu
      · cases hu; exact ⟨by decide, by decide, by rw [m3]; decide⟩
      split at hu
      · cases hu; exact ⟨by decide, by decide, by rw [m3]; decide⟩
      split at hu
      · rename_i s2 d2 hd2
        cases hu
        have := decD_sub _ _ _ _ (Nat.le_refl _) hd2
        exact ⟨by decide, this.1, by rw [m3]; exact this.2⟩
      split at hu
      · cases hu; exact ⟨by decide, by decide, by rw [m3]; decide⟩
      split at hu
      · cases hu; exact ⟨by decide, by decide, by rw [m6]; decide⟩
      split at hu
      · cases hu; exact ⟨by decide, by decide, by rw [m3]; decide⟩
      · cases hu
  split at h <;> cases h

def AtD.m (a : AtD) : AtL := ⟨a.has, a.origin, none, 0, a.path.map fun p => ⟨p.1, none, 0, p.2⟩, a.hop, a.med, a.loc, a.aas, a.aid, none, 0, a.comms, none, 0, a.others.map fun p => ⟨p.1, none, 0, p.2⟩⟩
def MsD.m (d : MsD) : MsL := ⟨d.kind, d.asn, d.hold, d.id, none, 0, d.caps.map fun p => ⟨p.1, none, 0, p.2⟩, none, 0, d.gone, d.atr.m, none, 0, d.nets, d.fc, d.fs, d.fd⟩

theorem Bys.drop {xs : List Int} (h : Bys xs) (n : Nat) : Bys (xs.drop n) := fun x hx => h x (List.mem_of_mem_drop hx)
theorem Bys.take {xs : List Int} (h : Bys xs) (n : Nat) : Bys (xs.take n) := fun x hx => h x (List.mem_of_mem_take hx)


def DecIs (xs : List Int) (C S : Int) (d : ByteArray) (md : MsD) : Prop := match decM xs with
  | .inr f => f = (C, S, d) ∧ md = (MsL.zero 0).d
  | .inl y => C = 0 ∧ S = 0 ∧ d = ⟨#[]⟩ ∧ md = y


theorem szL_ge {xs : List Int} (h : (sizeR xs.length (fOf xs)).2.1 = 0) : 19 ≤ szL xs := by
  rcases sizeR_cases xs.length (fOf xs) with ⟨C, S, d, e, hC⟩ | ⟨e, _, _, h, _⟩
  · rw [e] at h; exact absurd h hC
  · have : szL xs = (lenI (fOf xs)).toNat := by unfold szL; rw [e]
    omega
theorem feedM_both : ∀ (n : Nat) (acc : List MsD) (xs : List Int) (ms : List MsD) (f : Option (Int × Int × ByteArray)) (rest : List Int), xs.length ≤ n → feedM acc xs = (ms, f, rest) → ms.length + rest.length ≤ acc.length + xs.length
  | n, acc, xs, ms, f, rest, hn, h => by
    by_cases h1 : xs.length < 19
    · rw [feedM_few h1] at h; cases h; omega
    · by_cases h2 : (sizeR xs.length (fOf xs)).2.1 = 0
      · by_cases h3 : xs.length < szL xs
        · rw [feedM_wait h1 h2 h3] at h; cases h; omega
        · cases hd : decM (xs.take (szL xs)) with
          | inr f => rw [feedM_flt h1 h2 h3 hd] at h; cases h; show _ + 0 ≤ _; omega
          | inl m =>
            have hz := szL_ge h2
            rw [feedM_on h1 h2 h3 hd] at h
            match n with
            | 0 => omega
            | n + 1 =>
              have := feedM_both n _ _ _ _ _ (by rw [List.length_drop]; omega) h
              rw [List.length_drop, List.length_append, List.length_cons, List.length_nil] at this
              omega
      · rw [feedM_bad h1 rfl h2] at h; cases h; show _ + 0 ≤ _; omega

structure MsD.Fit (m : MsD) : Prop where
  kind : 1 ≤ m.kind ∧ m.kind ≤ 4
  id : U32 m.id
  hold : m.hold = 0 ∨ 3 ≤ m.hold ∧ m.hold ≤ 65535
theorem zero_fit {k : Int} (h : 1 ≤ k ∧ k ≤ 4) : ((MsL.zero k).d).Fit := ⟨h, zero_u, .inl rfl⟩
theorem openR_fit {xs : List Int} {cs : List (Int × List Int)} (hB : Bys xs) (h : openR xs = .inl cs) : U32 (idB xs) ∧ (holdB xs = 0 ∨ 3 ≤ holdB xs ∧ holdB xs ≤ 65535) := by
  have a3 := fOf_b hB 3
  have a4 := fOf_b hB 4
  have hid : 0 ≤ idB xs ∧ idB xs ≤ 4294967295 := addrI_b ((hB.take 9).drop 5)
  have eh : holdB xs = fOf xs 3 * 256 + fOf xs 4 := rfl
  unfold openR at h
  split at h
  · cases h
  split at h
  · cases h
  split at h
  · cases h
  · exact ⟨hid, by omega⟩
theorem decM_fit {xs : List Int} {m : MsD} (hB : Bys xs) (h : decM xs = .inl m) : m.Fit := by
  unfold decM at h
  split at h
  · cases h
  rename_i hz
  split at h
  · cases h
  have hk : 1 ≤ fOf xs 18 ∧ fOf xs 18 ≤ 4 := by
    rcases sizeR_cases xs.length (fOf xs) with ⟨C, S, d, e, hC⟩ | ⟨_, _, _, _, _, h1, h2, _⟩
    · rw [e] at hz; exact absurd hC hz
    · exact ⟨h1, h2⟩
  unfold bodyM at h
  split at h
  · split at h
    · rename_i ho
      cases h
      have := openR_fit (Bys.drop hB 19) ho
      exact ⟨hk, this.1, this.2⟩
    · cases h
  split at h
  · split at h
    · cases h
      exact ⟨hk, zero_u, .inl rfl⟩
    · cases h
  split at h
  · cases h
    exact ⟨hk, zero_u, .inl rfl⟩
  · cases h
    exact zero_fit hk
def FltOk (f : Int × Int × ByteArray) : Prop := (f.1 = 1 ∨ f.1 = 2 ∨ f.1 = 3 ∨ f.1 = 6) ∧ (0 ≤ f.2.1 ∧ f.2.1 ≤ 11) ∧ f.2.2.size ≤ 4075
theorem takeD_data {d : AtD} {all v : List Int} {s : Int} {x : ByteArray} (h : takeD d all v = .inr (s, x)) : x.size ≤ all.length := by
  have e : (strOf all).size = all.length := str_size _ _
  unfold takeD at h
  repeat' split at h
  all_goals first | (cases h; rw [e]; exact Nat.le_refl _) | (cases h; exact Nat.zero_le _) | cases h
theorem otherD_data {d : AtD} {all v : List Int} {s : Int} {x : ByteArray} (h : otherD d all v = .inr (s, x)) : x.size ≤ all.length := by
  have e : (strOf all).size = all.length := str_size _ _
  unfold otherD at h
  repeat' split at h
  all_goals first | (cases h; rw [e]; exact Nat.le_refl _) | cases h
theorem decD_data : ∀ (n : Nat) (d : AtD) (seen xs : List Int) {s : Int} {x : ByteArray}, xs.length ≤ n → decD d seen xs = .inr (s, x) → x.size ≤ xs.length
  | _, d, seen, [], s, x, _, h => by rw [decD_nil] at h; cases h
  | 0, d, seen, y :: xs, s, x, hn, _ => by simp at hn
  | n + 1, d, seen, y :: xs, s, x, hn, h => by
    by_cases hc : (y :: xs).length < fromN (y :: xs) ∨ (y :: xs).length < toN (y :: xs) ∨ fOf (y :: xs) 1 ∈ seen
    · rw [decD_bad (by simp) hc] at h; cases h; exact Nat.zero_le _
    · rw [decD_step (by simp) hc] at h
      have hf := fromN_b (y :: xs)
      have ht := toN_ge (y :: xs)
      cases hs : stepD d ((y :: xs).take (toN (y :: xs))) (((y :: xs).take (toN (y :: xs))).drop (fromN (y :: xs))) with
      | inr f =>
        rw [hs] at h
        cases h
        have hl : ((y :: xs).take (toN (y :: xs))).length ≤ (y :: xs).length := by rw [List.length_take]; omega
        unfold stepD at hs
        split at hs
        · exact Nat.le_trans (takeD_data hs) hl
        · exact Nat.le_trans (otherD_data hs) hl
      | inl d2 =>
        rw [hs] at h
        have := decD_data n d2 _ _ (by rw [List.length_drop]; omega) h
        rw [List.length_drop] at this
        omega
theorem countR_len {xs g r : List Int} (hB : Bys xs) (h : countR xs = some (g, r)) : g.length + r.length + 2 ≤ xs.length := by
  have a0 := fOf_b hB 0
  have a1 := fOf_b hB 1
  unfold countR at h
  split at h
  · cases h
  · cases h
    rw [List.length_take, List.length_drop, List.length_drop]
    omega
theorem sizeR_flt {n : Nat} {f : Nat → Int} (hne : (sizeR n f).2.1 ≠ 0) : FltOk (sizeR n f).2 := by
  have h := sizeR_sub n f hne
  refine ⟨.inl h.1, ⟨h.2.1, by omega⟩, ?_⟩
  have hd : (sizeR n f).2.2.2.size ≤ 2 := by
    unfold sizeR
    repeat' split
    all_goals first | exact Nat.zero_le _ | (show ByteArray.size (str _ _) ≤ 2; rw [str_size]; omega)
  omega
theorem decM_flt {xs : List Int} {f : Int × Int × ByteArray} (hB : Bys xs) (hn : xs.length ≤ 4096) (h : decM xs = .inr f) : FltOk f := by
  have h2s : (str (fun i => fOf xs (16 + i)) 2).size = 2 := str_size _ _
  obtain ⟨c, s, d⟩ := f
  have hsub := decM_sub h
  have m1 : mostS 1 = 3 := rfl
  have m2 : mostS 2 = 6 := rfl
  have m3 : mostS 3 = 11 := rfl
  have m6 : mostS 6 = 1 := rfl
  have key : (c = 1 ∨ c = 2 ∨ c = 3 ∨ c = 6) ∧ d.size ≤ 4075 := by
    unfold decM at h
    split at h
    · rename_i hne
      have e : (sizeR xs.length (fOf xs)).2 = (c, s, d) := Sum.inr.inj h
      have hs := sizeR_flt hne
      rw [e] at hs
      exact ⟨hs.1, hs.2.2⟩
    split at h
    · cases h; exact ⟨.inl rfl, by rw [h2s]; decide⟩
    unfold bodyM at h
    split at h
    · split at h
      · cases h
      · rename_i s' d' ho
        cases h
        refine ⟨.inr (.inl rfl), ?_⟩
        unfold openR at ho
        repeat' split at ho
        all_goals first | (cases ho; exact (by decide : (4 : Nat) ≤ 4075) |> fun _ => (by first | exact Nat.zero_le _ | decide)) | cases ho
    split at h
    · split at h
      · cases h
      · rename_i f hu
        cases h
        unfold updR at hu
        split at hu
        · cases hu; exact ⟨.inr (.inr (.inl rfl)), Nat.zero_le _⟩
        rename_i g r hc1
        have l1 := countR_len (Bys.drop hB 19) hc1
        have hBr : Bys r := by
          unfold countR at hc1
          split at hc1
          · cases hc1
          · cases hc1; exact (hB.drop 19).drop _
        split at hu
        · cases hu; exact ⟨.inr (.inr (.inl rfl)), Nat.zero_le _⟩
        rename_i sx nx hc2
        have l2 := countR_len hBr hc2
        rw [List.length_drop] at l1
        split at hu
        · cases hu; exact ⟨.inr (.inr (.inl rfl)), Nat.zero_le _⟩
        split at hu
        · rename_i s2 d2 hd2
          cases hu
          have := decD_data _ _ _ _ (Nat.le_refl _) hd2
          exact ⟨.inr (.inr (.inl rfl)), by omega⟩
        split at hu
        · cases hu; exact ⟨.inr (.inr (.inl rfl)), Nat.zero_le _⟩
        split at hu
        · cases hu; exact ⟨.inr (.inr (.inr rfl)), Nat.zero_le _⟩
        split at hu
        · cases hu
          exact ⟨.inr (.inr (.inl rfl)), by unfold oneS; rw [str_size]; decide⟩
        · cases hu
    split at h <;> cases h
  refine ⟨key.1, ⟨hsub.2.1, ?_⟩, key.2⟩
  rcases key.1 with e | e | e | e
  all_goals (have h3 := hsub.2.2; rw [e] at h3; show s ≤ 11; omega)
theorem feedM_fit : ∀ (n : Nat) (acc : List MsD) (xs : List Int), xs.length ≤ n → Bys xs → (∀ m ∈ acc, m.Fit) → (∀ m ∈ (feedM acc xs).1, m.Fit) ∧ (∀ f, (feedM acc xs).2.1 = some f → FltOk f) ∧ Bys (feedM acc xs).2.2 := by
  intro n
  induction n with
  | zero =>
    intro acc xs h hB ha
    rw [feedM_few (by omega)]
    exact ⟨ha, fun f e => (by cases e), hB⟩
  | succ n ih =>
    intro acc xs h hB ha
    by_cases h19 : xs.length < 19
    · rw [feedM_few h19]
      exact ⟨ha, fun f e => (by cases e), hB⟩
    by_cases hz : (sizeR xs.length (fOf xs)).2.1 = 0
    · by_cases hw : xs.length < szL xs
      · rw [feedM_wait h19 hz hw]
        exact ⟨ha, fun f e => (by cases e), hB⟩
      · have hs : szL xs ≤ 4096 ∧ 0 < szL xs := by
          rcases sizeR_cases xs.length (fOf xs) with ⟨C, S, d, e, hC⟩ | ⟨e, _, _, h1, h2, _⟩
          · rw [e] at hz; exact absurd hz hC
          · unfold szL; rw [e]; dsimp only; omega
        have hB1 : Bys (xs.take (szL xs)) := Bys.take hB _
        cases hd : decM (xs.take (szL xs)) with
        | inr f =>
          rw [feedM_flt h19 hz hw hd]
          exact ⟨ha, fun g e => (by cases e; exact decM_flt hB1 (by rw [List.length_take]; omega) hd), Bys.nil⟩
        | inl m =>
          rw [feedM_on h19 hz hw hd]
          refine ih _ _ (by rw [List.length_drop]; omega) (Bys.drop hB _) fun x hx => ?_
          rcases List.mem_append.1 hx with hx | hx
          · exact ha x hx
          · obtain rfl := List.mem_singleton.1 hx
            exact decM_fit hB1 hd
    · rw [feedM_bad h19 rfl hz]
      refine ⟨ha, fun f e => ?_, Bys.nil⟩
      cases e
      exact sizeR_flt hz

def hearD (s : Se) (n : Nat) (m : MsD) : Se × List EfD :=
  if m.kind = 3 then (s.gone n, closeE s n)
  else if m.kind = 1 ∧ (s.c n).st = 3 then openS s n m.asn m.hold m.id
  else if m.kind = 4 ∧ (s.c n).st = 4 then (s.establish n, estabE s n)
  else if m.kind = 4 ∧ (s.c n).st = 5 then (s.alive n, [])
  else if m.kind = 2 ∧ (s.c n).st = 5 then (s.alive n, [⟨6, n, [], m⟩])
  else (s.gone n, endE s n 5 ((s.c n).st - 2) ⟨#[]⟩)
theorem hearD_eq (s : Se) (n : Nat) (m : MsL) : hearS s n m = hearD s n m.d := rfl
def heardD (n : Nat) : Se → List MsD → Se × List EfD
  | s, [] => (s, [])
  | s, m :: ms => if (s.c n).st = 0 then (s, []) else ((heardD n (hearD s n m).1 ms).1, (hearD s n m).2 ++ (heardD n (hearD s n m).1 ms).2)
def CnM.fed (c : CnM) (x : List MsD × Option (Int × Int × ByteArray) × List Int) : CnM := { c with wait := x.2.2, count := c.count + x.1.length, fc := (fltOf x.2.1).1, fs := (fltOf x.2.1).2.1, fd := (fltOf x.2.1).2.2 }
def Se.fed (s : Se) (n : Nat) (bs : List Int) : Se := s.set n ((s.c n).fed (feedM [] ((s.c n).wait ++ bs)))
def endF (n : Nat) (f : Option (Int × Int × ByteArray)) (y : Se × List EfD) : Se × List EfD :=
  if (y.1.c n).st = 0 then y else match f with
  | none => y
  | some f => (y.1.gone n, y.2 ++ endE y.1 n f.1 f.2.1 f.2.2)
def feedS (s : Se) (n : Nat) (bs : List Int) : Se × List EfD :=
  if (s.c n).st = 0 then (s, []) else endF n (feedM [] ((s.c n).wait ++ bs)).2.1 (heardD n (s.fed n bs) (feedM [] ((s.c n).wait ++ bs)).1)
theorem confirm_now (s : Se) (n : Nat) (h i : Int) : (s.confirm n h i).now = s.now := by
  unfold Se.confirm
  split
  · exact set_now _ _ _
  · rw [kept_now, alive_now]; exact set_now _ _ _
theorem establish_now (s : Se) (n : Nat) : (s.establish n).now = s.now := by
  have h : (s.up5 n).now = s.now := by unfold Se.up5; rw [alive_now]; exact set_now _ _ _
  unfold Se.establish
  split
  · exact h
  · rw [gone_now]; exact h
theorem openS_now (s : Se) (n : Nat) (a h i : Int) : (openS s n a h i).1.now = s.now := by
  unfold openS
  repeat' split
  all_goals first | exact gone_now _ _ | exact confirm_now _ _ _ _ | (show Se.now (Se.confirm _ _ _ _) = _; rw [confirm_now, gone_now])
theorem hearD_now (s : Se) (n : Nat) (m : MsD) : (hearD s n m).1.now = s.now := by
  unfold hearD
  split
  · exact gone_now _ _
  split
  · exact openS_now _ _ _ _ _
  split
  · exact establish_now _ _
  split
  · exact alive_now _ _
  split
  · exact alive_now _ _
  · exact gone_now _ _
theorem closeE_len (s : Se) (n : Nat) : (closeE s n).length ≤ 2 := by
  unfold closeE
  rw [List.length_cons]
  have := goneE_len s n
  omega
theorem estabE_len (s : Se) (n : Nat) : (estabE s n).length ≤ 4 := by
  unfold estabE
  rw [List.length_append, List.length_singleton]
  split
  · rw [List.length_nil]; omega
  · have := endE_len (s.up5 n) (1 - n) 6 7 ⟨#[]⟩
    omega
theorem openS_len (s : Se) (n : Nat) (a h i : Int) : (openS s n a h i).2.length ≤ 4 := by
  have e1 := endE_len s n 2 2 ⟨#[]⟩
  have e2 := endE_len s n 2 3 ⟨#[]⟩
  have e3 := endE_len s n 6 7 ⟨#[]⟩
  have e4 := endE_len s (1 - n) 6 7 ⟨#[]⟩
  have e5 := sendE_len n (MsL.zero 4)
  unfold openS
  repeat' split
  all_goals (try dsimp only)
  all_goals first | omega | (rw [List.length_append]; omega)
theorem hearD_len (s : Se) (n : Nat) (m : MsD) : (hearD s n m).2.length ≤ 4 := by
  have e1 := closeE_len s n
  have e2 := endE_len s n 5 ((s.c n).st - 2) ⟨#[]⟩
  unfold hearD
  split
  · exact Nat.le_trans e1 (by decide)
  split
  · exact openS_len _ _ _ _ _
  split
  · exact estabE_len _ _
  split
  · exact Nat.zero_le _
  split
  · exact (by decide : 1 ≤ 4)
  · exact Nat.le_trans e2 (by decide)
theorem msgs_at {w : World} {b o : Nat} {ms : List MsL} {i : Nat} {x : MsL} (h : w.rangeAt b o (msgsL ms)) (hi : ms[i]? = some x) : w.rangeAt b (o + i * 20) x.cells := fun j v hj => by
  have hl := flatMap_seg (enc := MsL.cells) (s := 20) (fun _ => rfl) ms i x hi
  have hj2 : j < 20 := (List.getElem?_eq_some_iff.1 hj).1
  have h2 : (msgsL ms)[i * 20 + j]? = some v := by
    unfold msgsL
    rw [← List.getElem?_drop, ← hj, ← hl, List.getElem?_take, if_pos hj2]
  have := h _ _ h2
  rwa [Nat.add_assoc]
section
variable {P : Program} {C : World → Prop} {n : Nat} {o : Oper} {l : Kn}
theorem v_neq_aggB {t yt : TypeId} {x y : Operand} {xs ys : List Value} {ks : List CK} {b : Bool} (ho : o.op = .binOp .neq t x y yt) (hx : ev l x = some (.agg xs.toArray)) (hy : ev l y = some (.agg ys.toArray)) (hE : EqK P 10000 t true ks) (hg : P.eqGuardType P.depth t = false)
    (fx : fitsAll ks xs = true) (fy : fitsAll ks ys = true) (hb : b = true ↔ ¬ xs = ys) : Val P C n l o (.bool b) := by
  cases b with
  | true => exact v_neq_aggT ho hx hy hE hg fx fy (hb.1 rfl)
  | false => exact v_neq_aggF ho hx hy hE hg fx fy (Decidable.byContradiction (p := xs = ys) (dec := Classical.propDecidable _) fun h => by have := hb.2 h; cases this)
end
theorem flt_zero {f : Option (Int × Int × ByteArray)} (hf : ∀ x, f = some x → FltOk x) : f.isSome = true ↔ ¬ fltL (fltOf f).1 (fltOf f).2.1 (fltOf f).2.2 = fltL 0 0 ⟨#[]⟩ := by
  cases f with
  | none => exact ⟨fun h => (by cases h), fun h => absurd rfl h⟩
  | some x =>
    refine ⟨fun _ h => ?_, fun _ => rfl⟩
    have h1 := (hf x rfl).1
    have h2 : (Value.int .i64 x.1) = .int .i64 0 := (List.cons.inj h).1
    injection h2 with _ h3
    omega
structure FeS where
  k : Nat
  y : PS
  t : Se
set_option maxHeartbeats 4000000 in
theorem feed0_c (w0 w : World) (g : Nat) (p : PeL) (s : Se) (E0 E1 L : List Ent) (d : Ck) (hA : PeAt g p s E0 E1 d) (hG : GF w0) (hZ : GZ w0) (hS0 : St (fun _ => False) w0 w (.row g p.cells :: (E0 ++ (E1 ++ d.L p.gC s.now L)))) (ba : Option Addr) (bc : Nat) (bs : List Int) (hb : ∀ w, St (fun _ => False) w0 w (.row g p.cells :: (E0 ++ (E1 ++ d.L p.gC s.now L))) → CellsAt w ba (u8s bs)) (hB : Bys bs) (hn : bs.length ≤ 40000) (hcl : (s.c 0).fc = 0 ∧ (s.c 0).fs = 0 ∧ (s.c 0).fd = ⟨#[]⟩) (hct : (s.c 0).count ≤ 3000000000000000000) :
    Calls Tryz.prog 15 #[.pointer (some ⟨g, 0, none⟩), .int .i64 0, .slice ba bs.length bc] w fun e w' => EffC w0 w' g (feedS s 0 bs).2 (feedS s 0 bs).1 L e := by
  have hc : p.c0.m = s.c0 := (congrArg Se.c0 hA.eq :)
  have hst : p.c0.st = (s.c 0).st := (congrArg CnM.st hc :)
  have hwt : p.c0.rd.wait = (s.c 0).wait := (congrArg CnM.wait hc :)
  have hok := hA.ok0
  have hrd : p.c0.rd.fc = 0 ∧ p.c0.rd.fs = 0 ∧ p.c0.rd.fd = ⟨#[]⟩ := ⟨(congrArg CnM.fc hc :).trans hcl.1, (congrArg CnM.fs hc :).trans hcl.2.1, (congrArg CnM.fd hc :).trans hcl.2.2⟩
  have hcnt : p.c0.rd.count = (s.c 0).count := (congrArg CnM.count hc :)
  have hwl : (s.c 0).wait.length ≤ 4096 := hok.2.1
  have hc0 : 0 ≤ (s.c 0).count := hok.2.2.1.1
  have hBw : Bys ((s.c 0).wait ++ bs) := by rw [← hwt]; exact Bys.app hA.b0 hB
  have hln : ((s.c 0).wait ++ bs).length ≤ 44096 := by rw [List.length_append]; omega
  refine enter Tryz.func15 rfl Tryz.ntmps15 rfl hS0 ?_
  refine cR <| zA rfl <| zN <| cS <| cR <| zM rfl <| zM rfl <| zK ck_51 rfl <| ?_
  intro w hS
  refine Calls.then (there_c w g p (hS.row (g := g)) 0 (by decide)) hS ?_
  generalize hth : decide ((p.c 0).st ≠ 0) = b14
  cases b14
  refine zV (v_not rfl rfl rfl) rfl <| zN <| cT rfl <| cR <| zA rfl <| zN <| cE <| eR <| tR Tryz.results15 rfl <| ?_
  have e1 : feedS s 0 bs = (s, []) := (by unfold feedS; rw [if_pos (hst.symm.trans (Decidable.of_not_not (of_decide_eq_false hth)))])
  exact fun w' h => ⟨none, 0, [], [], [], p, E0, E1, d, rfl, ⟨Vec.nil 23, fun e he => by cases he⟩, by rw [e1]; rfl, by rw [e1]; exact hA, by rw [e1]; exact h⟩
  ·
   refine zV (v_not rfl rfl rfl) rfl <| zN <| cF rfl <| cK <| eN <| cR <| zM rfl <| zM rfl <| zC rfl <| zF rfl fld_106_3 <| ?_
   refine zV (v_indexAddrA (lo := 0) rfl rfl rfl Tryz.underlying104 sz_103 (by omega) (by omega)) rfl ?_
   refine zV (v_fieldAddr rfl rfl fld_103_1) rfl <| zM rfl <| ?_
   have hz : (s.c 0).st ≠ 0 := fun hh => of_decide_eq_true hth (hst.trans hh)
   refine zK ck_55 rfl ?_
   intro w1 hS
   refine (Feed8_c w0 w1 g (.int .i64 p.asn) (.int .u32 p.id) (.int .i64 p.their) (.int .i64 p.hold) (.int .i64 p.retry) (.pointer (some ⟨p.gC, 0, none⟩)) (.int .i64 p.base) (.int .i64 p.c0.st) [.int .i64 p.c0.hold, .int .u32 p.c0.id, .int .i64 p.c1.st, .slice p.c1.rd.ad p.c1.rd.wait.length p.c1.rd.cap, .int .i64 p.c1.rd.count, .int .i64 p.c1.rd.fc, .int .i64 p.c1.rd.fs, .string p.c1.rd.fd, .int .i64 p.c1.hold, .int .u32 p.c1.id] p.c0.rd ba bc bs E0 (E1 ++ d.L p.gC s.now L) hG hZ hrd hA.v0 (by rw [hwt]; exact hBw) (fun w h => hb w (St.permK (L := .row g p.cells :: (E0 ++ (E1 ++ d.L p.gC s.now L))) h )) (by rw [hwt]; omega) (by rw [hcnt]; omega) (show St (fun _ => False) w0 w1 (.row g p.cells :: (E0 ++ (E1 ++ d.L p.gC s.now L))) from hS.permK )).mono ?_
   rintro e w' ⟨mad, mc, ms, Em, K, wad, wc, rest, Ew, f, hfe, rfl, hVm, hMs, hVw, hBr, hS'⟩
   refine ⟨_, .row g ({ p with c0 := { p.c0 with rd := ⟨wad, wc, rest, p.c0.rd.count + ms.length, (fltOf f).1, (fltOf f).2.1, (fltOf f).2.2⟩ } } : PeL).cells :: (Ew ++ (E1 ++ d.L p.gC s.now (Em ++ (K ++ L)))), rfl, St.permK (L := .row g ({ p with c0 := { p.c0 with rd := ⟨wad, wc, rest, p.c0.rd.count + ms.length, (fltOf f).1, (fltOf f).2.1, (fltOf f).2.2⟩ } } : PeL).cells :: (Ew ++ (Em ++ (K ++ (E1 ++ d.L p.gC s.now L))))) hS' , ?_⟩
   rw [hwt] at hfe
   have hff := feedM_fit _ [] ((s.c 0).wait ++ bs) (Nat.le_refl _) hBw (fun m hm => by cases hm)
   have hbo := feedM_both _ [] ((s.c 0).wait ++ bs) _ _ _ (Nat.le_refl _) hfe
   have hre := feedM_rest _ [] ((s.c 0).wait ++ bs) (Nat.le_refl _)
   rw [hfe] at hff hre
   obtain ⟨hfm, hfo, _⟩ := hff
   dsimp only at hfm hfo hre
   rw [List.length_nil, List.length_map] at hbo
   have hA1 : PeAt g ({ p with c0 := { p.c0 with rd := ⟨wad, wc, rest, p.c0.rd.count + ms.length, (fltOf f).1, (fltOf f).2.1, (fltOf f).2.2⟩ } } : PeL) (s.fed 0 bs) Ew E1 d := (by
     have e1 : s.fed 0 bs = { s with c0 := { s.c0 with wait := rest, count := s.c0.count + ms.length, fc := (fltOf f).1, fs := (fltOf f).2.1, fd := (fltOf f).2.2 } } := (by
       show s.set 0 ((s.c 0).fed (feedM [] ((s.c 0).wait ++ bs))) = _
       rw [hfe]
       show s.set 0 { s.c0 with wait := rest, count := s.c0.count + ((ms.map MsL.d).length : Nat), fc := (fltOf f).1, fs := (fltOf f).2.1, fd := (fltOf f).2.2 } = _
       rw [List.length_map]
       rfl)
     rw [e1]
     refine ⟨?_, hA.ok, ?_, ?_, ?_, ?_, ?_, ?_, hA.bag⟩
     · exact (congrArg (fun z : Se => { z with c0 := { z.c0 with wait := rest, count := z.c0.count + ms.length, fc := (fltOf f).1, fs := (fltOf f).2.1, fd := (fltOf f).2.2 } }) hA.eq :)
     all_goals first | exact hA.ok1 | exact hA.v1 | exact hA.b1 | exact hVw | exact hBr | exact ⟨hok.1, hre, ⟨(by show 0 ≤ (s.c 0).count + (ms.length : Int); omega), (by show (s.c 0).count + (ms.length : Int) ≤ 4000000000000000000; omega)⟩, hok.2.2.2.1, hok.2.2.2.2⟩)
   have hfn : (s.fed 0 bs).now = s.now := set_now _ _ _
   refine zM rfl <| zX rfl <| zX rfl <| WL.alloc rfl zero_37 (.none rfl) rfl rfl <| ?_
   intro g8 hg8
   refine zA rfl <| zW many_37 rfl rfl <| zR <| zA rfl <| zN <| cS <| cR <| zM rfl <| zV (v_len_slice rfl rfl Tryz.underlying110) rfl <| zM rfl <| WL.to (L' := (⟨({ p with c0 := { p.c0 with rd := ⟨wad, wc, rest, p.c0.rd.count + ms.length, (fltOf f).1, (fltOf f).2.1, (fltOf f).2.2⟩ } } : PeL), Ew, E1, d, none, 0, [], [], []⟩ : PS).L g s.now (.row g8 (fltL (fltOf f).1 (fltOf f).2.1 (fltOf f).2.2) :: (Em ++ (K ++ L)))) (fun w hS => hS.permK ) <| ?_
   refine zN <| cB <| ?_
   refine WC.loop (fun x : FeS => [(27, .slice mad ms.length mc), (28, .int .i64 ms.length), (29, .int .i64 x.k), (9, .slice x.y.ad x.y.fs.length x.y.c), (8, .pointer (some ⟨g8, 0, none⟩)), (1, .int .i64 0), (0, .pointer (some ⟨g, 0, none⟩))]) (fun x => x.y.L g s.now (.row g8 (fltL (fltOf f).1 (fltOf f).2.1 (fltOf f).2.2) :: (Em ++ (K ++ L)))) (fun x => x.k ≤ ms.length ∧ PeAt g x.y.p x.t x.y.E0 x.y.E1 x.y.d ∧ x.t.now = s.now ∧ EfsV x.y.ad x.y.c x.y.fs x.y.E x.y.K ∧ x.y.fs.length ≤ 4 * x.k ∧ heardD 0 (s.fed 0 bs) (ms.map MsL.d) = ((heardD 0 x.t ((ms.drop x.k).map MsL.d)).1, x.y.fs.map EfL.d ++ (heardD 0 x.t ((ms.drop x.k).map MsL.d)).2)) (fun x => ms.length - x.k) ⟨0, ⟨({ p with c0 := { p.c0 with rd := ⟨wad, wc, rest, p.c0.rd.count + ms.length, (fltOf f).1, (fltOf f).2.1, (fltOf f).2.2⟩ } } : PeL), Ew, E1, d, none, 0, [], [], []⟩, s.fed 0 bs⟩ ⟨Nat.zero_le _, hA1, hfn, ⟨Vec.nil 23, fun e he => by cases he⟩, Nat.zero_le _, rfl⟩ (.cons rfl (.cons rfl (.cons rfl (.cons rfl (.cons rfl (.cons rfl (.cons rfl .nil))))))) (.refl _) ?_
   rintro ⟨k, ⟨p4, E04, E14, d4, ad4, c4, fs, EF, KF⟩, t⟩ ⟨hk, hA4, hnt, hV4, hfl, hee⟩
   dsimp only at hk hA4 hnt hV4 hfl hee
   unfold PS.L
   dsimp only
   refine cR ?_
   refine zT (v_lss rfl rfl rfl) rfl (fun h30 => ?_) (fun h30 => ?_)
   refine zN <| cS <| cT rfl <| cK <| eN <| cS <| cB <| cR <| ?_
   obtain ⟨x, hx⟩ : ∃ x, ms[k]? = some x := ⟨ms[k]'(by omega), List.getElem?_eq_getElem _⟩
   obtain ⟨b1, o1, ea1, r1⟩ := hVm.src2 (by rw [hVm.len.1]; omega)
   have hdr : ms.drop k = x :: ms.drop (k + 1) := (by rw [List.drop_eq_getElem_cons (by omega)]; congr 1; exact (List.getElem?_eq_some_iff.1 hx).2)
   have hxf := hfm x.d (List.mem_map_of_mem (List.mem_of_getElem? hx))
   refine zV ((v_indexAddr (b := b1) (off := o1) (lo := k) rfl (by show some (Value.slice mad _ _) = _; rw [ea1]) rfl Tryz.underlying110 sz_39 rfl (by omega))) rfl ?_
   refine zV (v_loadN rfl rfl many_39 rfl (fun w hS => msgs_at (r1 w fun e he => hS.holds e (by simp [Ck.L, clkL, he])) hx)) rfl ?_
   refine WL.alloc rfl zero_39 (.none rfl) rfl rfl ?_
   intro g11 hg11
   refine zW many_39 rfl rfl <| zN <| cS <| cR <| zM rfl <| zM rfl <| zK ck_51 rfl <| ?_
   intro w hS
   refine Calls.then (there_c w g p4 (hS.row (g := g)) 0 (by decide)) hS ?_
   generalize hth4 : decide ((p4.c 0).st ≠ 0) = b35
   cases b35
   refine zV (v_not rfl rfl rfl) rfl ?_
   have hc4 : p4.c0.m = t.c0 := (congrArg Se.c0 hA4.eq :)
   have hst4 : p4.c0.st = (t.c 0).st := (congrArg CnM.st hc4 :)
   refine zN <| cT rfl <| cR <| zM rfl <| zA rfl <| zN <| cE <| eR <| eB <| eR <| eR <| eB <| eR <| ?_
   refine tR Tryz.results15 rfl ?_
   have e1 : heardD 0 t ((ms.drop k).map MsL.d) = (t, []) := (by rw [hdr, List.map_cons]; unfold heardD; rw [if_pos (hst4.symm.trans (Decidable.of_not_not (of_decide_eq_false hth4)))])
   have e2 : feedS s 0 bs = (t, fs.map EfL.d) := (by
     unfold feedS
     rw [if_neg hz, hfe]
     dsimp only
     rw [hee, e1, List.append_nil]
     unfold endF
     rw [if_pos (hst4.symm.trans (Decidable.of_not_not (of_decide_eq_false hth4)))])
   rw [e2]
   exact fun w' h => ⟨ad4, c4, fs, EF, KF, p4, E04, E14, d4, rfl, hV4, rfl, hA4, by dsimp only; rw [hnt]; exact h.dropK (.row g11 x.cells :: .row g8 (fltL (fltOf f).1 (fltOf f).2.1 (fltOf f).2.2) :: (Em ++ K)) ⟩
   refine zV (v_not rfl rfl rfl) rfl ?_
   have hc4 : p4.c0.m = t.c0 := (congrArg Se.c0 hA4.eq :)
   have hst4 : p4.c0.st = (t.c 0).st := (congrArg CnM.st hc4 :)
   refine zN <| cF rfl <| cK <| eN <| WC.region <| zM rfl <| zM rfl <| zM rfl <| zV (v_loadN rfl rfl many_39 rfl allAt) rfl <| zK ck_56 rfl <| ?_
   intro w1 hS
   refine (hear0_c w0 w1 g p4 t E04 E14 (.row g11 x.cells :: (EF ++ (KF ++ (.row g8 (fltL (fltOf f).1 (fltOf f).2.1 (fltOf f).2.2) :: (Em ++ (K ++ L)))))) d4 hA4 hG (by rw [hnt]; exact hS.permK ) x hxf.id (by have := hxf.hold; have e : x.d.hold = x.hold := rfl; omega)).mono ?_
   rintro e w' ⟨ad2, c2, gs, EG, KG, p2, E02, E12, d2, rfl, hV2, heg, hA2, hS'⟩
   have hgl := efs_len heg
   have hgb : gs.length ≤ 4 := (by rw [hgl, hearD_eq]; exact hearD_len _ _ _)
   have hn2 : (hearS t 0 x).1.now = s.now := (by rw [hearD_eq, hearD_now]; exact hnt)
   rw [hn2] at hS'
   refine ⟨_, EF ++ (EG ++ (KG ++ (KF ++ (.row g p2.cells :: (E02 ++ (E12 ++ d2.L p2.gC s.now (.row g11 x.cells :: .row g8 (fltL (fltOf f).1 (fltOf f).2.1 (fltOf f).2.2) :: (Em ++ (K ++ L))))))))), rfl, hS'.permK , ?_⟩
   refine WL.appendL rfl rfl rfl Tryz.underlying46 Tryz.underlying46 sz_54 by_54 zero_54 rfl rfl hV4.1 (new := efsL gs) (hV2.1.src (fun e he => List.mem_append_right _ (List.mem_append_left _ he)) |> fun f h => (f (by rw [efsL_len]; omega)).elim fun b1 h1 => h1.elim fun o1 h2 => ⟨b1, o1, h2.1, fun w hS => h2.2 _ _ w hS⟩) (efsL_len gs) (efsL_one gs) (by omega) (.none rfl) rfl rfl ?_
   intro ad43 c43 E43 hV43 hr43
   rw [efsL_app] at hV43
   rw [show fs.length + gs.length = (fs ++ gs).length from List.length_append.symm] at hV43 ⊢
   refine WL.to (L' := (⟨p2, E02, E12, d2, ad43, c43, fs ++ gs, E43, KG ++ KF⟩ : PS).L g s.now (.row g8 (fltL (fltOf f).1 (fltOf f).2.1 (fltOf f).2.2) :: (Em ++ (K ++ L)))) (fun w hS => hS.dropK (EG ++ [.row g11 x.cells]) ) <| zA rfl <| WL.nil <| eY <| eN <| WC.region <| ?_
   refine zV (v_add rfl rfl rfl (show _ = ((k + 1 : Nat) : Int) from (w_i64 (by omega) (by omega)).trans (by omega))) rfl ?_
   refine zM rfl ?_
   skip
   refine WL.nil ?_
   refine WE.next ⟨k + 1, ⟨p2, E02, E12, d2, ad43, c43, fs ++ gs, E43, KG ++ KF⟩, (hearS t 0 x).1⟩ (by dsimp only; omega) ⟨by dsimp only; omega, hA2, hn2, ⟨hV43, fun e he => ?_⟩, by dsimp only; rw [List.length_append]; omega, ?_⟩ (.cons rfl (.cons rfl (.cons rfl (.cons rfl (.cons rfl (.cons rfl (.cons rfl .nil))))))) (.refl _)
   · rcases List.mem_append.1 he with he | he
     · exact (hV4.2 e he).mono fun x hx => List.mem_append_right _ hx
     · exact (hV2.2 e he).mono fun x hx => List.mem_append_left _ hx
   · have hz4 : (t.c 0).st ≠ 0 := fun hh => of_decide_eq_true hth4 (hst4.trans hh)
     dsimp only
     rw [hee, hdr, List.map_cons, List.map_append, heg, List.append_assoc]
     conv => lhs; unfold heardD
     rw [if_neg hz4, hearD_eq]
   refine zN <| cS <| cF rfl <| cX <| eX <| eX <| eH <| eN <| cS <| cR <| zM rfl <| zM rfl <| ?_
   have hc4 : p4.c0.m = t.c0 := (congrArg Se.c0 hA4.eq :)
   have hst4 : p4.c0.st = (t.c 0).st := (congrArg CnM.st hc4 :)
   have hdn : ms.drop k = [] := List.drop_eq_nil_iff.2 (by omega)
   have e1 : feedS s 0 bs = endF 0 f (t, fs.map EfL.d) := (by
     unfold feedS
     rw [if_neg hz, hfe]
     dsimp only
     rw [hee, hdn]
     show endF _ _ (t, _ ++ []) = _
     rw [List.append_nil])
   refine zK ck_51 rfl ?_
   intro w hS
   refine Calls.then (there_c w g p4 (hS.row (g := g)) 0 (by decide)) hS ?_
   generalize hth5 : decide ((p4.c 0).st ≠ 0) = b47
   cases b47
   refine zM rfl <| WL.sk rfl <| ?_
   generalize hfs : f.isSome = bz
   have hbz := flt_zero hfo
   rw [hfs] at hbz
   iterate 2 refine WL.sk rfl ?_
   refine zQ rfl <| zN <| cF rfl <| cK <| eN <| cR <| zM rfl <| zA rfl <| zN <| cE <| tR Tryz.results15 rfl <| ?_
   have e2 : feedS s 0 bs = (t, fs.map EfL.d) := (by rw [e1]; unfold endF; rw [if_pos (hst4.symm.trans (Decidable.of_not_not (of_decide_eq_false hth5)))])
   rw [e2]
   exact fun w' h => ⟨ad4, c4, fs, EF, KF, p4, E04, E14, d4, rfl, hV4, rfl, hA4, by dsimp only; rw [hnt]; exact h.dropK (.row g8 (fltL (fltOf f).1 (fltOf f).2.1 (fltOf f).2.2) :: (Em ++ K)) ⟩
   refine zM rfl <| zS (v_loadN rfl rfl many_37 rfl allAt) rfl <| ?_
   generalize hfs : f.isSome = bz
   have hbz := flt_zero hfo
   rw [hfs] at hbz
   refine zS (v_build rfl rfl zero_37 plc_37 rfl) rfl <| zS (v_neq_aggB (b := bz) rfl rfl rfl eqk_37 eqg_37 rfl rfl hbz) rfl <| ?_
   cases bz
   refine zP rfl <| zN <| cF rfl <| cK <| eN <| cR <| zM rfl <| zA rfl <| zN <| cE <| tR Tryz.results15 rfl <| ?_
   have hz4 : (t.c 0).st ≠ 0 := fun hh => of_decide_eq_true hth5 (hst4.trans hh)
   have hfn0 : f = none := Option.isNone_iff_eq_none.1 (by rw [← Option.not_isSome, hfs]; rfl)
   have e2 : feedS s 0 bs = (t, fs.map EfL.d) := (by rw [e1, hfn0]; unfold endF; rw [if_neg hz4])
   rw [e2]
   exact fun w' h => ⟨ad4, c4, fs, EF, KF, p4, E04, E14, d4, rfl, hV4, rfl, hA4, by dsimp only; rw [hnt]; exact h.dropK (.row g8 (fltL (fltOf f).1 (fltOf f).2.1 (fltOf f).2.2) :: (Em ++ K)) ⟩
   refine zP rfl <| zN <| cT rfl <| WC.region <| zM rfl <| zM rfl <| zM rfl <| zV (v_loadN rfl rfl many_37 rfl allAt) rfl <| ?_
   obtain ⟨fv, rfl⟩ := Option.isSome_iff_exists.1 hfs
   have hfv := hfo fv rfl
   refine zK ck_57 rfl ?_
   intro w1 hS
   refine (end0_c w0 w1 g p4 t E04 E14 (EF ++ (KF ++ (.row g8 (fltL (fltOf (some fv)).1 (fltOf (some fv)).2.1 (fltOf (some fv)).2.2) :: (Em ++ (K ++ L))))) d4 hA4 hG (by rw [hnt]; exact hS.permK ) fv.1 fv.2.1 fv.2.2 (by have := hfv.1; constructor <;> omega) (by have := hfv.2.1; constructor <;> omega) (by have := hfv.2.2; omega)).mono ?_
   rintro e w' ⟨ad2, c2, gs, EG, KG, p2, E02, E12, d2, rfl, hV2, heg, hA2, hS'⟩
   have hgl := efs_len heg
   have hgb : gs.length ≤ 3 := (by rw [hgl]; exact endE_len _ _ _ _ _)
   have hn2 : (t.gone 0).now = s.now := (gone_now _ _).trans hnt
   rw [hn2] at hS'
   refine ⟨_, EF ++ (EG ++ (KG ++ (KF ++ (.row g p2.cells :: (E02 ++ (E12 ++ d2.L p2.gC s.now (.row g8 (fltL (fltOf (some fv)).1 (fltOf (some fv)).2.1 (fltOf (some fv)).2.2) :: (Em ++ (K ++ L))))))))), rfl, hS'.permK , ?_⟩
   refine WL.appendL rfl rfl rfl Tryz.underlying46 Tryz.underlying46 sz_54 by_54 zero_54 rfl rfl hV4.1 (new := efsL gs) (hV2.1.src (fun e he => List.mem_append_right _ (List.mem_append_left _ he)) |> fun f h => (f (by rw [efsL_len]; omega)).elim fun b1 h1 => h1.elim fun o1 h2 => ⟨b1, o1, h2.1, fun w hS => h2.2 _ _ w hS⟩) (efsL_len gs) (efsL_one gs) (by omega) (.none rfl) rfl rfl ?_
   intro ad58 c58 E58 hV58 hr58
   rw [efsL_app] at hV58
   rw [show fs.length + gs.length = (fs ++ gs).length from List.length_append.symm] at hV58 ⊢
   refine zA rfl <| zR <| zM rfl <| zA rfl <| zN <| cE <| tR Tryz.results15 rfl <| ?_
   have hz4 : (t.c 0).st ≠ 0 := fun hh => of_decide_eq_true hth5 (hst4.trans hh)
   have e2 : feedS s 0 bs = (t.gone 0, fs.map EfL.d ++ endE t 0 fv.1 fv.2.1 fv.2.2) := (by rw [e1]; unfold endF; rw [if_neg hz4])
   rw [e2]
   refine fun w' h => ⟨ad58, c58, fs ++ gs, E58, KG ++ KF, p2, E02, E12, d2, rfl, ⟨hV58, fun e he => ?_⟩, by rw [List.map_append, heg], hA2, by dsimp only; rw [hn2]; exact h.dropK (EG ++ (.row g8 (fltL (fltOf (some fv)).1 (fltOf (some fv)).2.1 (fltOf (some fv)).2.2) :: (Em ++ K))) ⟩
   rcases List.mem_append.1 he with he | he
   · exact (hV4.2 e he).mono fun x hx => List.mem_append_right _ hx
   · exact (hV2.2 e he).mono fun x hx => List.mem_append_left _ hx
set_option maxHeartbeats 4000000 in
theorem feed1_c (w0 w : World) (g : Nat) (p : PeL) (s : Se) (E0 E1 L : List Ent) (d : Ck) (hA : PeAt g p s E0 E1 d) (hG : GF w0) (hZ : GZ w0) (hS0 : St (fun _ => False) w0 w (.row g p.cells :: (E0 ++ (E1 ++ d.L p.gC s.now L)))) (ba : Option Addr) (bc : Nat) (bs : List Int) (hb : ∀ w, St (fun _ => False) w0 w (.row g p.cells :: (E0 ++ (E1 ++ d.L p.gC s.now L))) → CellsAt w ba (u8s bs)) (hB : Bys bs) (hn : bs.length ≤ 40000) (hcl : (s.c 1).fc = 0 ∧ (s.c 1).fs = 0 ∧ (s.c 1).fd = ⟨#[]⟩) (hct : (s.c 1).count ≤ 3000000000000000000) :
    Calls Tryz.prog 15 #[.pointer (some ⟨g, 0, none⟩), .int .i64 1, .slice ba bs.length bc] w fun e w' => EffC w0 w' g (feedS s 1 bs).2 (feedS s 1 bs).1 L e := by
  have hc : p.c1.m = s.c1 := (congrArg Se.c1 hA.eq :)
  have hst : p.c1.st = (s.c 1).st := (congrArg CnM.st hc :)
  have hwt : p.c1.rd.wait = (s.c 1).wait := (congrArg CnM.wait hc :)
  have hok := hA.ok1
  have hrd : p.c1.rd.fc = 0 ∧ p.c1.rd.fs = 0 ∧ p.c1.rd.fd = ⟨#[]⟩ := ⟨(congrArg CnM.fc hc :).trans hcl.1, (congrArg CnM.fs hc :).trans hcl.2.1, (congrArg CnM.fd hc :).trans hcl.2.2⟩
  have hcnt : p.c1.rd.count = (s.c 1).count := (congrArg CnM.count hc :)
  have hwl : (s.c 1).wait.length ≤ 4096 := hok.2.1
  have hc0 : 0 ≤ (s.c 1).count := hok.2.2.1.1
  have hBw : Bys ((s.c 1).wait ++ bs) := by rw [← hwt]; exact Bys.app hA.b1 hB
  have hln : ((s.c 1).wait ++ bs).length ≤ 44096 := by rw [List.length_append]; omega
  refine enter Tryz.func15 rfl Tryz.ntmps15 rfl hS0 ?_
  refine cR <| zA rfl <| zN <| cS <| cR <| zM rfl <| zM rfl <| zK ck_51 rfl <| ?_
  intro w hS
  refine Calls.then (there_c w g p (hS.row (g := g)) 1 (by decide)) hS ?_
  generalize hth : decide ((p.c 1).st ≠ 0) = b14
  cases b14
  refine zV (v_not rfl rfl rfl) rfl <| zN <| cT rfl <| cR <| zA rfl <| zN <| cE <| eR <| tR Tryz.results15 rfl <| ?_
  have e1 : feedS s 1 bs = (s, []) := (by unfold feedS; rw [if_pos (hst.symm.trans (Decidable.of_not_not (of_decide_eq_false hth)))])
  exact fun w' h => ⟨none, 0, [], [], [], p, E0, E1, d, rfl, ⟨Vec.nil 23, fun e he => by cases he⟩, by rw [e1]; rfl, by rw [e1]; exact hA, by rw [e1]; exact h⟩
  ·
   refine zV (v_not rfl rfl rfl) rfl <| zN <| cF rfl <| cK <| eN <| cR <| zM rfl <| zM rfl <| zC rfl <| zF rfl fld_106_3 <| ?_
   refine zV (v_indexAddrA (lo := 1) rfl rfl rfl Tryz.underlying104 sz_103 (by omega) (by omega)) rfl ?_
   refine zV (v_fieldAddr rfl rfl fld_103_1) rfl <| zM rfl <| ?_
   have hz : (s.c 1).st ≠ 0 := fun hh => of_decide_eq_true hth (hst.trans hh)
   refine zK ck_55 rfl ?_
   intro w1 hS
   refine (Feed16_c w0 w1 g (.int .i64 p.asn) (.int .u32 p.id) (.int .i64 p.their) (.int .i64 p.hold) (.int .i64 p.retry) (.pointer (some ⟨p.gC, 0, none⟩)) (.int .i64 p.base) (.int .i64 p.c0.st) (.slice p.c0.rd.ad p.c0.rd.wait.length p.c0.rd.cap) (.int .i64 p.c0.rd.count) (.int .i64 p.c0.rd.fc) (.int .i64 p.c0.rd.fs) (.string p.c0.rd.fd) (.int .i64 p.c0.hold) (.int .u32 p.c0.id) (.int .i64 p.c1.st) [.int .i64 p.c1.hold, .int .u32 p.c1.id] p.c1.rd ba bc bs E1 (E0 ++ d.L p.gC s.now L) hG hZ hrd hA.v1 (by rw [hwt]; exact hBw) (fun w h => hb w (St.permK (L := .row g p.cells :: (E1 ++ (E0 ++ d.L p.gC s.now L))) h )) (by rw [hwt]; omega) (by rw [hcnt]; omega) (show St (fun _ => False) w0 w1 (.row g p.cells :: (E1 ++ (E0 ++ d.L p.gC s.now L))) from hS.permK )).mono ?_
   rintro e w' ⟨mad, mc, ms, Em, K, wad, wc, rest, Ew, f, hfe, rfl, hVm, hMs, hVw, hBr, hS'⟩
   refine ⟨_, .row g ({ p with c1 := { p.c1 with rd := ⟨wad, wc, rest, p.c1.rd.count + ms.length, (fltOf f).1, (fltOf f).2.1, (fltOf f).2.2⟩ } } : PeL).cells :: (E0 ++ (Ew ++ d.L p.gC s.now (Em ++ (K ++ L)))), rfl, St.permK (L := .row g ({ p with c1 := { p.c1 with rd := ⟨wad, wc, rest, p.c1.rd.count + ms.length, (fltOf f).1, (fltOf f).2.1, (fltOf f).2.2⟩ } } : PeL).cells :: (Ew ++ (Em ++ (K ++ (E0 ++ d.L p.gC s.now L))))) hS' , ?_⟩
   rw [hwt] at hfe
   have hff := feedM_fit _ [] ((s.c 1).wait ++ bs) (Nat.le_refl _) hBw (fun m hm => by cases hm)
   have hbo := feedM_both _ [] ((s.c 1).wait ++ bs) _ _ _ (Nat.le_refl _) hfe
   have hre := feedM_rest _ [] ((s.c 1).wait ++ bs) (Nat.le_refl _)
   rw [hfe] at hff hre
   obtain ⟨hfm, hfo, _⟩ := hff
   dsimp only at hfm hfo hre
   rw [List.length_nil, List.length_map] at hbo
   have hA1 : PeAt g ({ p with c1 := { p.c1 with rd := ⟨wad, wc, rest, p.c1.rd.count + ms.length, (fltOf f).1, (fltOf f).2.1, (fltOf f).2.2⟩ } } : PeL) (s.fed 1 bs) E0 Ew d := (by
     have e1 : s.fed 1 bs = { s with c1 := { s.c1 with wait := rest, count := s.c1.count + ms.length, fc := (fltOf f).1, fs := (fltOf f).2.1, fd := (fltOf f).2.2 } } := (by
       show s.set 1 ((s.c 1).fed (feedM [] ((s.c 1).wait ++ bs))) = _
       rw [hfe]
       show s.set 1 { s.c1 with wait := rest, count := s.c1.count + ((ms.map MsL.d).length : Nat), fc := (fltOf f).1, fs := (fltOf f).2.1, fd := (fltOf f).2.2 } = _
       rw [List.length_map]
       rfl)
     rw [e1]
     refine ⟨?_, hA.ok, ?_, ?_, ?_, ?_, ?_, ?_, hA.bag⟩
     · exact (congrArg (fun z : Se => { z with c1 := { z.c1 with wait := rest, count := z.c1.count + ms.length, fc := (fltOf f).1, fs := (fltOf f).2.1, fd := (fltOf f).2.2 } }) hA.eq :)
     all_goals first | exact hA.ok0 | exact hA.v0 | exact hA.b0 | exact hVw | exact hBr | exact ⟨hok.1, hre, ⟨(by show 0 ≤ (s.c 1).count + (ms.length : Int); omega), (by show (s.c 1).count + (ms.length : Int) ≤ 4000000000000000000; omega)⟩, hok.2.2.2.1, hok.2.2.2.2⟩)
   have hfn : (s.fed 1 bs).now = s.now := set_now _ _ _
   refine zM rfl <| zX rfl <| zX rfl <| WL.alloc rfl zero_37 (.none rfl) rfl rfl <| ?_
   intro g8 hg8
   refine zA rfl <| zW many_37 rfl rfl <| zR <| zA rfl <| zN <| cS <| cR <| zM rfl <| zV (v_len_slice rfl rfl Tryz.underlying110) rfl <| zM rfl <| WL.to (L' := (⟨({ p with c1 := { p.c1 with rd := ⟨wad, wc, rest, p.c1.rd.count + ms.length, (fltOf f).1, (fltOf f).2.1, (fltOf f).2.2⟩ } } : PeL), E0, Ew, d, none, 0, [], [], []⟩ : PS).L g s.now (.row g8 (fltL (fltOf f).1 (fltOf f).2.1 (fltOf f).2.2) :: (Em ++ (K ++ L)))) (fun w hS => hS.permK ) <| ?_
   refine zN <| cB <| ?_
   refine WC.loop (fun x : FeS => [(27, .slice mad ms.length mc), (28, .int .i64 ms.length), (29, .int .i64 x.k), (9, .slice x.y.ad x.y.fs.length x.y.c), (8, .pointer (some ⟨g8, 0, none⟩)), (1, .int .i64 1), (0, .pointer (some ⟨g, 0, none⟩))]) (fun x => x.y.L g s.now (.row g8 (fltL (fltOf f).1 (fltOf f).2.1 (fltOf f).2.2) :: (Em ++ (K ++ L)))) (fun x => x.k ≤ ms.length ∧ PeAt g x.y.p x.t x.y.E0 x.y.E1 x.y.d ∧ x.t.now = s.now ∧ EfsV x.y.ad x.y.c x.y.fs x.y.E x.y.K ∧ x.y.fs.length ≤ 4 * x.k ∧ heardD 1 (s.fed 1 bs) (ms.map MsL.d) = ((heardD 1 x.t ((ms.drop x.k).map MsL.d)).1, x.y.fs.map EfL.d ++ (heardD 1 x.t ((ms.drop x.k).map MsL.d)).2)) (fun x => ms.length - x.k) ⟨0, ⟨({ p with c1 := { p.c1 with rd := ⟨wad, wc, rest, p.c1.rd.count + ms.length, (fltOf f).1, (fltOf f).2.1, (fltOf f).2.2⟩ } } : PeL), E0, Ew, d, none, 0, [], [], []⟩, s.fed 1 bs⟩ ⟨Nat.zero_le _, hA1, hfn, ⟨Vec.nil 23, fun e he => by cases he⟩, Nat.zero_le _, rfl⟩ (.cons rfl (.cons rfl (.cons rfl (.cons rfl (.cons rfl (.cons rfl (.cons rfl .nil))))))) (.refl _) ?_
   rintro ⟨k, ⟨p4, E04, E14, d4, ad4, c4, fs, EF, KF⟩, t⟩ ⟨hk, hA4, hnt, hV4, hfl, hee⟩
   dsimp only at hk hA4 hnt hV4 hfl hee
   unfold PS.L
   dsimp only
   refine cR ?_
   refine zT (v_lss rfl rfl rfl) rfl (fun h30 => ?_) (fun h30 => ?_)
   refine zN <| cS <| cT rfl <| cK <| eN <| cS <| cB <| cR <| ?_
   obtain ⟨x, hx⟩ : ∃ x, ms[k]? = some x := ⟨ms[k]'(by omega), List.getElem?_eq_getElem _⟩
   obtain ⟨b1, o1, ea1, r1⟩ := hVm.src2 (by rw [hVm.len.1]; omega)
   have hdr : ms.drop k = x :: ms.drop (k + 1) := (by rw [List.drop_eq_getElem_cons (by omega)]; congr 1; exact (List.getElem?_eq_some_iff.1 hx).2)
   have hxf := hfm x.d (List.mem_map_of_mem (List.mem_of_getElem? hx))
   refine zV ((v_indexAddr (b := b1) (off := o1) (lo := k) rfl (by show some (Value.slice mad _ _) = _; rw [ea1]) rfl Tryz.underlying110 sz_39 rfl (by omega))) rfl ?_
   refine zV (v_loadN rfl rfl many_39 rfl (fun w hS => msgs_at (r1 w fun e he => hS.holds e (by simp [Ck.L, clkL, he])) hx)) rfl ?_
   refine WL.alloc rfl zero_39 (.none rfl) rfl rfl ?_
   intro g11 hg11
   refine zW many_39 rfl rfl <| zN <| cS <| cR <| zM rfl <| zM rfl <| zK ck_51 rfl <| ?_
   intro w hS
   refine Calls.then (there_c w g p4 (hS.row (g := g)) 1 (by decide)) hS ?_
   generalize hth4 : decide ((p4.c 1).st ≠ 0) = b35
   cases b35
   refine zV (v_not rfl rfl rfl) rfl ?_
   have hc4 : p4.c1.m = t.c1 := (congrArg Se.c1 hA4.eq :)
   have hst4 : p4.c1.st = (t.c 1).st := (congrArg CnM.st hc4 :)
   refine zN <| cT rfl <| cR <| zM rfl <| zA rfl <| zN <| cE <| eR <| eB <| eR <| eR <| eB <| eR <| ?_
   refine tR Tryz.results15 rfl ?_
   have e1 : heardD 1 t ((ms.drop k).map MsL.d) = (t, []) := (by rw [hdr, List.map_cons]; unfold heardD; rw [if_pos (hst4.symm.trans (Decidable.of_not_not (of_decide_eq_false hth4)))])
   have e2 : feedS s 1 bs = (t, fs.map EfL.d) := (by
     unfold feedS
     rw [if_neg hz, hfe]
     dsimp only
     rw [hee, e1, List.append_nil]
     unfold endF
     rw [if_pos (hst4.symm.trans (Decidable.of_not_not (of_decide_eq_false hth4)))])
   rw [e2]
   exact fun w' h => ⟨ad4, c4, fs, EF, KF, p4, E04, E14, d4, rfl, hV4, rfl, hA4, by dsimp only; rw [hnt]; exact h.dropK (.row g11 x.cells :: .row g8 (fltL (fltOf f).1 (fltOf f).2.1 (fltOf f).2.2) :: (Em ++ K)) ⟩
   refine zV (v_not rfl rfl rfl) rfl ?_
   have hc4 : p4.c1.m = t.c1 := (congrArg Se.c1 hA4.eq :)
   have hst4 : p4.c1.st = (t.c 1).st := (congrArg CnM.st hc4 :)
   refine zN <| cF rfl <| cK <| eN <| WC.region <| zM rfl <| zM rfl <| zM rfl <| zV (v_loadN rfl rfl many_39 rfl allAt) rfl <| zK ck_56 rfl <| ?_
   intro w1 hS
   refine (hear1_c w0 w1 g p4 t E04 E14 (.row g11 x.cells :: (EF ++ (KF ++ (.row g8 (fltL (fltOf f).1 (fltOf f).2.1 (fltOf f).2.2) :: (Em ++ (K ++ L)))))) d4 hA4 hG (by rw [hnt]; exact hS.permK ) x hxf.id (by have := hxf.hold; have e : x.d.hold = x.hold := rfl; omega)).mono ?_
   rintro e w' ⟨ad2, c2, gs, EG, KG, p2, E02, E12, d2, rfl, hV2, heg, hA2, hS'⟩
   have hgl := efs_len heg
   have hgb : gs.length ≤ 4 := (by rw [hgl, hearD_eq]; exact hearD_len _ _ _)
   have hn2 : (hearS t 1 x).1.now = s.now := (by rw [hearD_eq, hearD_now]; exact hnt)
   rw [hn2] at hS'
   refine ⟨_, EF ++ (EG ++ (KG ++ (KF ++ (.row g p2.cells :: (E02 ++ (E12 ++ d2.L p2.gC s.now (.row g11 x.cells :: .row g8 (fltL (fltOf f).1 (fltOf f).2.1 (fltOf f).2.2) :: (Em ++ (K ++ L))))))))), rfl, hS'.permK , ?_⟩
   refine WL.appendL rfl rfl rfl Tryz.underlying46 Tryz.underlying46 sz_54 by_54 zero_54 rfl rfl hV4.1 (new := efsL gs) (hV2.1.src (fun e he => List.mem_append_right _ (List.mem_append_left _ he)) |> fun f h => (f (by rw [efsL_len]; omega)).elim fun b1 h1 => h1.elim fun o1 h2 => ⟨b1, o1, h2.1, fun w hS => h2.2 _ _ w hS⟩) (efsL_len gs) (efsL_one gs) (by omega) (.none rfl) rfl rfl ?_
   intro ad43 c43 E43 hV43 hr43
   rw [efsL_app] at hV43
   rw [show fs.length + gs.length = (fs ++ gs).length from List.length_append.symm] at hV43 ⊢
   refine WL.to (L' := (⟨p2, E02, E12, d2, ad43, c43, fs ++ gs, E43, KG ++ KF⟩ : PS).L g s.now (.row g8 (fltL (fltOf f).1 (fltOf f).2.1 (fltOf f).2.2) :: (Em ++ (K ++ L)))) (fun w hS => hS.dropK (EG ++ [.row g11 x.cells]) ) <| zA rfl <| WL.nil <| eY <| eN <| WC.region <| ?_
   refine zV (v_add rfl rfl rfl (show _ = ((k + 1 : Nat) : Int) from (w_i64 (by omega) (by omega)).trans (by omega))) rfl ?_
   refine zM rfl ?_
   skip
   refine WL.nil ?_
   refine WE.next ⟨k + 1, ⟨p2, E02, E12, d2, ad43, c43, fs ++ gs, E43, KG ++ KF⟩, (hearS t 1 x).1⟩ (by dsimp only; omega) ⟨by dsimp only; omega, hA2, hn2, ⟨hV43, fun e he => ?_⟩, by dsimp only; rw [List.length_append]; omega, ?_⟩ (.cons rfl (.cons rfl (.cons rfl (.cons rfl (.cons rfl (.cons rfl (.cons rfl .nil))))))) (.refl _)
   · rcases List.mem_append.1 he with he | he
     · exact (hV4.2 e he).mono fun x hx => List.mem_append_right _ hx
     · exact (hV2.2 e he).mono fun x hx => List.mem_append_left _ hx
   · have hz4 : (t.c 1).st ≠ 0 := fun hh => of_decide_eq_true hth4 (hst4.trans hh)
     dsimp only
     rw [hee, hdr, List.map_cons, List.map_append, heg, List.append_assoc]
     conv => lhs; unfold heardD
     rw [if_neg hz4, hearD_eq]
   refine zN <| cS <| cF rfl <| cX <| eX <| eX <| eH <| eN <| cS <| cR <| zM rfl <| zM rfl <| ?_
   have hc4 : p4.c1.m = t.c1 := (congrArg Se.c1 hA4.eq :)
   have hst4 : p4.c1.st = (t.c 1).st := (congrArg CnM.st hc4 :)
   have hdn : ms.drop k = [] := List.drop_eq_nil_iff.2 (by omega)
   have e1 : feedS s 1 bs = endF 1 f (t, fs.map EfL.d) := (by
     unfold feedS
     rw [if_neg hz, hfe]
     dsimp only
     rw [hee, hdn]
     show endF _ _ (t, _ ++ []) = _
     rw [List.append_nil])
   refine zK ck_51 rfl ?_
   intro w hS
   refine Calls.then (there_c w g p4 (hS.row (g := g)) 1 (by decide)) hS ?_
   generalize hth5 : decide ((p4.c 1).st ≠ 0) = b47
   cases b47
   refine zM rfl <| WL.sk rfl <| ?_
   generalize hfs : f.isSome = bz
   have hbz := flt_zero hfo
   rw [hfs] at hbz
   iterate 2 refine WL.sk rfl ?_
   refine zQ rfl <| zN <| cF rfl <| cK <| eN <| cR <| zM rfl <| zA rfl <| zN <| cE <| tR Tryz.results15 rfl <| ?_
   have e2 : feedS s 1 bs = (t, fs.map EfL.d) := (by rw [e1]; unfold endF; rw [if_pos (hst4.symm.trans (Decidable.of_not_not (of_decide_eq_false hth5)))])
   rw [e2]
   exact fun w' h => ⟨ad4, c4, fs, EF, KF, p4, E04, E14, d4, rfl, hV4, rfl, hA4, by dsimp only; rw [hnt]; exact h.dropK (.row g8 (fltL (fltOf f).1 (fltOf f).2.1 (fltOf f).2.2) :: (Em ++ K)) ⟩
   refine zM rfl <| zS (v_loadN rfl rfl many_37 rfl allAt) rfl <| ?_
   generalize hfs : f.isSome = bz
   have hbz := flt_zero hfo
   rw [hfs] at hbz
   refine zS (v_build rfl rfl zero_37 plc_37 rfl) rfl <| zS (v_neq_aggB (b := bz) rfl rfl rfl eqk_37 eqg_37 rfl rfl hbz) rfl <| ?_
   cases bz
   refine zP rfl <| zN <| cF rfl <| cK <| eN <| cR <| zM rfl <| zA rfl <| zN <| cE <| tR Tryz.results15 rfl <| ?_
   have hz4 : (t.c 1).st ≠ 0 := fun hh => of_decide_eq_true hth5 (hst4.trans hh)
   have hfn0 : f = none := Option.isNone_iff_eq_none.1 (by rw [← Option.not_isSome, hfs]; rfl)
   have e2 : feedS s 1 bs = (t, fs.map EfL.d) := (by rw [e1, hfn0]; unfold endF; rw [if_neg hz4])
   rw [e2]
   exact fun w' h => ⟨ad4, c4, fs, EF, KF, p4, E04, E14, d4, rfl, hV4, rfl, hA4, by dsimp only; rw [hnt]; exact h.dropK (.row g8 (fltL (fltOf f).1 (fltOf f).2.1 (fltOf f).2.2) :: (Em ++ K)) ⟩
   refine zP rfl <| zN <| cT rfl <| WC.region <| zM rfl <| zM rfl <| zM rfl <| zV (v_loadN rfl rfl many_37 rfl allAt) rfl <| ?_
   obtain ⟨fv, rfl⟩ := Option.isSome_iff_exists.1 hfs
   have hfv := hfo fv rfl
   refine zK ck_57 rfl ?_
   intro w1 hS
   refine (end1_c w0 w1 g p4 t E04 E14 (EF ++ (KF ++ (.row g8 (fltL (fltOf (some fv)).1 (fltOf (some fv)).2.1 (fltOf (some fv)).2.2) :: (Em ++ (K ++ L))))) d4 hA4 hG (by rw [hnt]; exact hS.permK ) fv.1 fv.2.1 fv.2.2 (by have := hfv.1; constructor <;> omega) (by have := hfv.2.1; constructor <;> omega) (by have := hfv.2.2; omega)).mono ?_
   rintro e w' ⟨ad2, c2, gs, EG, KG, p2, E02, E12, d2, rfl, hV2, heg, hA2, hS'⟩
   have hgl := efs_len heg
   have hgb : gs.length ≤ 3 := (by rw [hgl]; exact endE_len _ _ _ _ _)
   have hn2 : (t.gone 1).now = s.now := (gone_now _ _).trans hnt
   rw [hn2] at hS'
   refine ⟨_, EF ++ (EG ++ (KG ++ (KF ++ (.row g p2.cells :: (E02 ++ (E12 ++ d2.L p2.gC s.now (.row g8 (fltL (fltOf (some fv)).1 (fltOf (some fv)).2.1 (fltOf (some fv)).2.2) :: (Em ++ (K ++ L))))))))), rfl, hS'.permK , ?_⟩
   refine WL.appendL rfl rfl rfl Tryz.underlying46 Tryz.underlying46 sz_54 by_54 zero_54 rfl rfl hV4.1 (new := efsL gs) (hV2.1.src (fun e he => List.mem_append_right _ (List.mem_append_left _ he)) |> fun f h => (f (by rw [efsL_len]; omega)).elim fun b1 h1 => h1.elim fun o1 h2 => ⟨b1, o1, h2.1, fun w hS => h2.2 _ _ w hS⟩) (efsL_len gs) (efsL_one gs) (by omega) (.none rfl) rfl rfl ?_
   intro ad58 c58 E58 hV58 hr58
   rw [efsL_app] at hV58
   rw [show fs.length + gs.length = (fs ++ gs).length from List.length_append.symm] at hV58 ⊢
   refine zA rfl <| zR <| zM rfl <| zA rfl <| zN <| cE <| tR Tryz.results15 rfl <| ?_
   have hz4 : (t.c 1).st ≠ 0 := fun hh => of_decide_eq_true hth5 (hst4.trans hh)
   have e2 : feedS s 1 bs = (t.gone 1, fs.map EfL.d ++ endE t 1 fv.1 fv.2.1 fv.2.2) := (by rw [e1]; unfold endF; rw [if_neg hz4])
   rw [e2]
   refine fun w' h => ⟨ad58, c58, fs ++ gs, E58, KG ++ KF, p2, E02, E12, d2, rfl, ⟨hV58, fun e he => ?_⟩, by rw [List.map_append, heg], hA2, by dsimp only; rw [hn2]; exact h.dropK (EG ++ (.row g8 (fltL (fltOf (some fv)).1 (fltOf (some fv)).2.1 (fltOf (some fv)).2.2) :: (Em ++ K))) ⟩
   rcases List.mem_append.1 he with he | he
   · exact (hV4.2 e he).mono fun x hx => List.mem_append_right _ hx
   · exact (hV2.2 e he).mono fun x hx => List.mem_append_left _ hx

theorem PeAt.off {g : Nat} {p : PeL} {s : Se} {E0 E1 : List Ent} {d d' : Ck} (hA : PeAt g p s E0 E1 d) (b : Int) (hb : 0 ≤ b ∧ b ≤ 2) (n : Nat) (hd : Bag d' (dueF 0 (s.D.set n (-1)))) : PeAt g { p with base := b } { s with base := b, D := s.D.set n (-1) } E0 E1 d' :=
  ⟨congrArg (fun z : Se => { z with base := b, D := s.D.set n (-1) }) hA.eq, ⟨hA.ok.1, hA.ok.2.1, hb, hA.ok.2.2.2.1, (List.length_set ..).trans hA.ok.2.2.2.2.1, fun t ht => by
    rcases List.mem_or_eq_of_mem_set ht with h | h
    · exact hA.ok.2.2.2.2.2.1 t h
    · exact .inl h, hA.ok.2.2.2.2.2.2⟩, hA.ok0, hA.ok1, hA.v0, hA.v1, hA.b0, hA.b1, hd⟩
theorem fault_c (n : Nat) (hn : n < 2) (w0 w : World) (g : Nat) (p : PeL) (s : Se) (E0 E1 L : List Ent) (d : Ck) (hA : PeAt g p s E0 E1 d) (hG : GF w0) (hS0 : St (fun _ => False) w0 w (.row g p.cells :: (E0 ++ (E1 ++ d.L p.gC s.now L)))) (C S : Int) (hC : I64 C) (hSb : I64 S) :
    Calls Tryz.prog 63 #[.pointer (some ⟨g, 0, none⟩), .int .i64 n, .int .i64 C, .int .i64 S] w fun e w' => EffC w0 w' g (endE s n C S ⟨#[]⟩) (s.gone n) L e := by
  match n, hn with
  | 0, _ => exact fault0_c w0 w g p s E0 E1 L d hA hG hS0 C S hC hSb
  | 1, _ => exact fault1_c w0 w g p s E0 E1 L d hA hG hS0 C S hC hSb
theorem PeAt.st {g : Nat} {p : PeL} {s : Se} {E0 E1 : List Ent} {d : Ck} (hA : PeAt g p s E0 E1 d) (n : Nat) : (p.c n).st = (s.c n).st := by
  have h0 : p.c0.m = s.c0 := (congrArg Se.c0 hA.eq :)
  have h1 : p.c1.m = s.c1 := (congrArg Se.c1 hA.eq :)
  unfold PeL.c Se.c
  split
  · exact (congrArg CnM.st h0 :)
  · exact (congrArg CnM.st h1 :)
def stop1 (s : Se) (n : Nat) : Se × List EfD := if (s.c n).st = 0 then (s, []) else (s.gone n, endE s n 6 2 ⟨#[]⟩)
def stopF (s : Se) : Nat → Se × List EfD
  | 0 => (s, [])
  | k + 1 => ((stop1 (stopF s k).1 k).1, (stopF s k).2 ++ (stop1 (stopF s k).1 k).2)
def stopS (s : Se) : Se × List EfD := if s.base = 0 then (s, []) else stopF { s with base := 0, D := s.D.set 0 (-1) } 2
theorem stop1_now (s : Se) (n : Nat) : (stop1 s n).1.now = s.now := by
  unfold stop1
  split
  · rfl
  · exact gone_now _ _
theorem stopF_now (s : Se) : ∀ k, (stopF s k).1.now = s.now
  | 0 => rfl
  | k + 1 => (stop1_now _ _).trans (stopF_now s k)
structure PT where
  k : Nat
  y : PS
  t : Se
set_option maxHeartbeats 2000000 in
theorem stop_c (w0 w : World) (g : Nat) (p : PeL) (s : Se) (E0 E1 L : List Ent) (d : Ck) (hA : PeAt g p s E0 E1 d) (hG : GF w0) (hS0 : St (fun _ => False) w0 w (.row g p.cells :: (E0 ++ (E1 ++ d.L p.gC s.now L)))) :
    Calls Tryz.prog 28 #[.pointer (some ⟨g, 0, none⟩)] w fun e w' => EffC w0 w' g (stopS s).2 (stopS s).1 L e := by
  have hb0 : p.base = s.base := (congrArg Se.base hA.eq :)
  have hD5 := hA.ok.2.2.2.2.1
  refine enter Tryz.func28 rfl Tryz.ntmps28 rfl hS0 ?_
  refine cR <| zA rfl <| zN <| cS <| cR <| zM rfl <| zV (v_eql_nil false rfl rfl Tryz.underlying40 rfl) rfl <| zM rfl <| zS (v_move rfl rfl) rfl <| zS (v_nilCheck rfl rfl) rfl <| zS (v_fieldAddr0 rfl rfl fld_106_2) rfl <| zS (v_load1 rfl rfl one_3 (cellAt rfl)) rfl <| ?_
  refine WL.test (v_eql rfl rfl rfl) (.some rfl rfl rfl) rfl rfl (fun h12 => ?_) (fun h12 => ?_)
  refine zQ rfl <| zN <| cT rfl <| cR <| zA rfl <| zN <| cE <| eR <| tR Tryz.results28 rfl <| ?_
  have e1 : stopS s = (s, []) := if_pos (hb0.symm.trans h12)
  exact fun w' h => ⟨none, 0, [], [], [], p, E0, E1, d, rfl, ⟨Vec.nil 23, fun e he => by cases he⟩, by rw [e1]; rfl, by rw [e1]; exact hA, by rw [e1]; exact h⟩
  refine zQ rfl <| zN <| cF rfl <| cK <| eN <| cR <| zM rfl <| zC rfl <| zF rfl fld_106_2 <| zO one_3 rfl rfl <| WL.as (L' := .row g ({ p with base := 0 } : PeL).cells :: (E0 ++ (E1 ++ d.L p.gC s.now L))) rfl <| zN <| cS <| ?_
  refine WC.region <| zM rfl <| zC rfl <| zF rfl fld_106_1 <| zL rfl one_98 rfl <| zK ck_52 rfl <| ?_
  intro w1 hS
  refine (Stop_d (gC := p.gC) (now := s.now) (R := .row g ({ p with base := 0 } : PeL).cells :: (E0 ++ (E1 ++ L))) (hS.permK ) hA.bag 0 (by omega)).mono ?_
  rintro e w' ⟨b1, d1, rfl, hb1, hS'⟩
  refine ⟨_, .row g ({ p with base := 0 } : PeL).cells :: (E0 ++ (E1 ++ d1.L p.gC s.now L)), rfl, hS'.permK , ?_⟩
  have hA1 := hA.off 0 ⟨by decide, by decide⟩ 0 hb1
  have e0 : stopS s = stopF { s with base := 0, D := s.D.set 0 (-1) } 2 := if_neg (fun hh => h12 (hb0.trans hh))
  generalize hs0 : ({ s with base := 0, D := s.D.set 0 (-1) } : Se) = s0 at hA1 e0
  have hn0 : s0.now = s.now := (by rw [← hs0])
  refine zR <| zA rfl <| zN <| cS <| cR <| zM rfl <| zN <| cB <| ?_
  refine WC.loop (fun x : PT => [(22, .int .i64 x.k), (3, .slice x.y.ad x.y.fs.length x.y.c), (0, .pointer (some ⟨g, 0, none⟩))]) (fun x => x.y.L g s.now L) (fun x => x.k ≤ 2 ∧ PeAt g x.y.p x.t x.y.E0 x.y.E1 x.y.d ∧ x.t = (stopF s0 x.k).1 ∧ EfsV x.y.ad x.y.c x.y.fs x.y.E x.y.K ∧ x.y.fs.length ≤ 4 * x.k ∧ x.y.fs.map EfL.d = (stopF s0 x.k).2) (fun x => 2 - x.k) ⟨0, ⟨{ p with base := 0 }, E0, E1, d1, none, 0, [], [], []⟩, s0⟩ ⟨Nat.zero_le _, hA1, rfl, ⟨Vec.nil 23, fun e he => by cases he⟩, Nat.zero_le _, rfl⟩ (.cons rfl (.cons rfl (.cons rfl .nil))) (.refl _) ?_
  rintro ⟨k, ⟨p4, E04, E14, d4, ad4, c4, fs, EF, KF⟩, t⟩ ⟨hk, hA4, hnt, hV4, hfl, hee⟩
  dsimp only at hk hA4 hnt hV4 hfl hee
  have hn4 : t.now = s.now := (by rw [hnt, stopF_now, hn0])
  unfold PS.L
  dsimp only
  refine cR ?_
  refine zT (v_lss rfl rfl rfl) rfl (fun h23 => ?_) (fun h23 => ?_)
  refine zN <| cS <| cT rfl <| cK <| eN <| cS <| cB <| cR <| zM rfl <| zA rfl <| zR <| ?_
  refine zM rfl <| zM rfl <| zK ck_51 rfl <| ?_
  intro w hS
  refine Calls.then (there_c w g p4 (hS.row (g := g)) k (by omega)) hS ?_
  generalize hth : decide ((p4.c k).st ≠ 0) = b27
  cases b27
  refine zN <| cF rfl <| cK <| eY <| eN <| WC.region <| ?_
  refine zV (v_add rfl rfl rfl (show _ = ((k + 1 : Nat) : Int) from (w_i64 (by omega) (by omega)).trans (by omega))) rfl ?_
  refine zM rfl <| WL.nil <| ?_
  have hz4 : (t.c k).st = 0 := (hA4.st k).symm.trans (Decidable.of_not_not (of_decide_eq_false hth))
  have e5 : stop1 (stopF s0 k).1 k = (t, []) := (by rw [← hnt]; exact if_pos hz4)
  refine WE.next ⟨k + 1, ⟨p4, E04, E14, d4, ad4, c4, fs, EF, KF⟩, t⟩ (by dsimp only; omega) ⟨by dsimp only; omega, hA4, by show _ = (stop1 _ _).1; rw [e5], hV4, by dsimp only; omega, ?_⟩ (.cons rfl (.cons rfl (.cons rfl .nil))) (.refl _)
  show _ = _ ++ (stop1 _ _).2
  rw [e5, List.append_nil, hee]
  refine zN <| cT rfl <| WC.region <| zM rfl <| zM rfl <| zM rfl <| zK ck_63 rfl <| ?_
  intro w1 hS
  refine (fault_c k (by omega) w0 w1 g p4 t E04 E14 (EF ++ (KF ++ L)) d4 hA4 hG (by rw [hn4]; exact hS.permK ) 6 2 ⟨by decide, by decide⟩ ⟨by decide, by decide⟩).mono ?_
  rintro e w' ⟨ad2, c2, gs, EG, KG, p2, E02, E12, d2, rfl, hV2, heg, hA2, hS'⟩
  have hgl := efs_len heg
  have hgb : gs.length ≤ 3 := (by rw [hgl]; exact endE_len _ _ _ _ _)
  have hn2 : (t.gone k).now = s.now := (gone_now _ _).trans hn4
  rw [hn2] at hS'
  refine ⟨_, EF ++ (EG ++ (KG ++ (KF ++ (.row g p2.cells :: (E02 ++ (E12 ++ d2.L p2.gC s.now L)))))), rfl, hS'.permK , ?_⟩
  refine WL.appendL rfl rfl rfl Tryz.underlying46 Tryz.underlying46 sz_54 by_54 zero_54 rfl rfl hV4.1 (new := efsL gs) (hV2.1.src (fun e he => List.mem_append_right _ (List.mem_append_left _ he)) |> fun f h => (f (by rw [efsL_len]; omega)).elim fun b1 h1 => h1.elim fun o1 h2 => ⟨b1, o1, h2.1, fun w hS => h2.2 _ _ w hS⟩) (efsL_len gs) (efsL_one gs) (by omega) (.none rfl) rfl rfl ?_
  intro ad32 c32 E32 hV32 hr32
  rw [efsL_app] at hV32
  rw [show fs.length + gs.length = (fs ++ gs).length from List.length_append.symm] at hV32 ⊢
  refine WL.to (L' := (⟨p2, E02, E12, d2, ad32, c32, fs ++ gs, E32, KG ++ KF⟩ : PS).L g s.now L) (fun w hS => hS.dropK EG ) <| zA rfl <| WL.nil <| eY <| eN <| WC.region <| ?_
  refine zV (v_add rfl rfl rfl (show _ = ((k + 1 : Nat) : Int) from (w_i64 (by omega) (by omega)).trans (by omega))) rfl ?_
  refine zM rfl <| WL.nil <| ?_
  have hz4 : (t.c k).st ≠ 0 := fun hh => of_decide_eq_true hth ((hA4.st k).trans hh)
  have e5 : stop1 (stopF s0 k).1 k = (t.gone k, endE t k 6 2 ⟨#[]⟩) := (by rw [← hnt]; exact if_neg hz4)
  refine WE.next ⟨k + 1, ⟨p2, E02, E12, d2, ad32, c32, fs ++ gs, E32, KG ++ KF⟩, t.gone k⟩ (by dsimp only; omega) ⟨by dsimp only; omega, hA2, by show _ = (stop1 _ _).1; rw [e5], ⟨hV32, fun e he => ?_⟩, by dsimp only; rw [List.length_append]; omega, ?_⟩ (.cons rfl (.cons rfl (.cons rfl .nil))) (.refl _)
  · rcases List.mem_append.1 he with he | he
    · exact (hV4.2 e he).mono fun x hx => List.mem_append_right _ hx
    · exact (hV2.2 e he).mono fun x hx => List.mem_append_left _ hx
  · show _ = _ ++ (stop1 _ _).2
    rw [e5, List.map_append, hee, heg]
  refine zN <| cS <| cF rfl <| cX <| eX <| eX <| eH <| eN <| cR <| zM rfl <| zA rfl <| zN <| cE <| ?_
  refine tR Tryz.results28 rfl ?_
  have hk2 : k = 2 := (by omega)
  subst hk2
  rw [e0, ← hee, ← hnt]
  exact fun w' h => ⟨ad4, c4, fs, EF, KF, p4, E04, E14, d4, rfl, hV4, rfl, hA4, by rw [hn4]; exact h⟩
def fireS (s : Se) (n : Nat) (t : Int) : Se × List EfD :=
  match n with
  | 0 => (({ s with now := t, D := s.D.set 0 (-1) } : Se).dial, [ef 1 0])
  | 1 => (({ s with now := t, D := s.D.set 1 (-1) } : Se).gone 0, endE { s with now := t, D := s.D.set 1 (-1) } 0 4 0 ⟨#[]⟩)
  | 2 => (({ s with now := t, D := s.D.set 2 (-1) } : Se).gone 1, endE { s with now := t, D := s.D.set 2 (-1) } 1 4 0 ⟨#[]⟩)
  | 3 => (({ s with now := t, D := s.D.set 3 (-1) } : Se).kept 0, sendE 0 (MsL.zero 4))
  | _ => (({ s with now := t, D := s.D.set 4 (-1) } : Se).kept 1, sendE 1 (MsL.zero 4))
inductive TickR (T : Int) : Se → List EfD → Se → Prop
  | done {s : Se} (h : ∀ t ∈ s.D, t < 0 ∨ T < t) : TickR T s [] { s with now := T }
  | fire {s s' : Se} {n : Nat} {t : Int} {es : List EfD} (h : FirstD s.D T n t) (hr : TickR T (fireS s n t).1 es s') : TickR T s ((fireS s n t).2 ++ es) s'
def tickT (s : Se) (u : Int) : Int := min (if s.now < u then min u (s.now + 4096) else s.now) maxT
def Se.Fit (s : Se) : Prop := ∀ n, n < 2 → (s.c n).hold = 0 ∨ 3 ≤ (s.c n).hold
def wD (T : Int) (D : List Int) : Nat := (D.map fun x => if 0 ≤ x then (T + 1 - x).toNat else 0).sum
theorem list5 {D : List Int} (h : D.length = 5) : ∃ a b c d e, D = [a, b, c, d, e] := by
  match D, h with
  | [a, b, c, d, e], _ => exact ⟨a, b, c, d, e, rfl⟩
theorem fireS_now (s : Se) (n : Nat) (t : Int) : (fireS s n t).1.now = t := by
  unfold fireS
  split
  · rfl
  · exact gone_now _ _
  · exact gone_now _ _
  · exact kept_now _ _
  · exact kept_now _ _
theorem fireS_len (s : Se) (n : Nat) (t : Int) : (fireS s n t).2.length ≤ 3 := by
  unfold fireS
  split
  · exact (by decide : 1 ≤ 3)
  · exact endE_len _ _ _ _ _
  · exact endE_len _ _ _ _ _
  · have := sendE_len 0 (MsL.zero 4); dsimp only; omega
  · have := sendE_len 1 (MsL.zero 4); dsimp only; omega
theorem gone_c (s : Se) (n k : Nat) (hn : n < 2) (hk : k < 2) : (s.gone n).c k = if k = n then CnM.zero else s.c k := by
  have key : (s.cut n).c k = if k = n then CnM.zero else s.c k := by
    match n, k, hn, hk with
    | 0, 0, _, _ => rfl
    | 0, 1, _, _ => rfl
    | 1, 0, _, _ => rfl
    | 1, 1, _, _ => rfl
  unfold Se.gone
  split
  · rw [← key]; rfl
  · exact key
theorem gone_fit {s : Se} (h : s.Fit) (n : Nat) (hn : n < 2) : (s.gone n).Fit := fun k hk => by
  rw [gone_c s n k hn hk]
  split
  · exact .inl rfl
  · exact h k hk
theorem kept_cn (s : Se) (n k : Nat) : (s.kept n).c k = s.c k := by unfold Se.kept; split <;> rfl
theorem fireS_fit {s : Se} (h : s.Fit) (n : Nat) (t : Int) : (fireS s n t).1.Fit := by
  have h' : ∀ n, ({ s with now := t, D := s.D.set n (-1) } : Se).Fit := fun _ => h
  unfold fireS
  split
  · exact h
  · exact gone_fit (h' 1) 0 (by decide)
  · exact gone_fit (h' 2) 1 (by decide)
  · intro k hk; dsimp only; rw [kept_cn]; exact h k hk
  · intro k hk; dsimp only; rw [kept_cn]; exact h k hk
theorem FirstD.now {s : Se} {T : Int} {n : Nat} {t : Int} (hF : FirstD s.D T n t) (h : s.Ok) : s.now ≤ t ∧ t ≤ maxT ∧ t ≤ T ∧ n < 5 ∧ ∀ y ∈ s.D.set n (-1), y = -1 ∨ t ≤ y ∧ y ≤ maxT := by
  obtain ⟨h1, h2, h3, h4⟩ := hF
  have hm := h.2.2.2.2.2.1
  have ht := hm t (List.mem_of_getElem? h1)
  have hn := (List.getElem?_eq_some_iff.1 h1).1
  rw [h.2.2.2.2.1] at hn
  refine ⟨by omega, by omega, h3, hn, fun y hy => ?_⟩
  obtain ⟨i, hi, e⟩ := List.getElem_of_mem hy
  rw [List.getElem_set] at e
  split at e
  · exact .inl e.symm
  · rename_i hne
    rw [List.length_set] at hi
    have hy2 := hm y (e ▸ List.getElem_mem _)
    rcases hy2 with h5 | h5
    · exact .inl h5
    · have hnow := h.2.2.2.1
      have h6 := h4 i y (fun h => hne h.symm) (List.getElem?_eq_some_iff.2 ⟨hi, e⟩) (by omega)
      unfold ltp at h6
      dsimp only at h6
      exact .inr ⟨by omega, h5.2⟩
theorem PeAt.at {g : Nat} {p : PeL} {s : Se} {E0 E1 : List Ent} {d d' : Ck} (hA : PeAt g p s E0 E1 d) {T : Int} {n : Nat} {t : Int} (hF : FirstD s.D T n t) (hd : Bag d' (dueF 0 (s.D.set n (-1)))) : PeAt g p { s with now := t, D := s.D.set n (-1) } E0 E1 d' := by
  have h := hF.now hA.ok
  have h0 := hA.ok.2.2.2.1
  exact ⟨congrArg (fun z : Se => { z with now := t, D := s.D.set n (-1) }) hA.eq, ⟨hA.ok.1, hA.ok.2.1, hA.ok.2.2.1, ⟨by dsimp only; omega, h.2.1⟩, (List.length_set ..).trans hA.ok.2.2.2.2.1, h.2.2.2.2, hA.ok.2.2.2.2.2.2⟩, hA.ok0, hA.ok1, hA.v0, hA.v1, hA.b0, hA.b1, hd⟩
theorem PeAt.till {g : Nat} {p : PeL} {s : Se} {E0 E1 : List Ent} {d : Ck} (hA : PeAt g p s E0 E1 d) {T : Int} (h : ∀ t ∈ s.D, t < 0 ∨ T < t) (h0 : s.now ≤ T) (h1 : T ≤ maxT) : PeAt g p { s with now := T } E0 E1 d := by
  have h2 := hA.ok.2.2.2.1
  refine ⟨congrArg (fun z : Se => { z with now := T }) hA.eq, ⟨hA.ok.1, hA.ok.2.1, hA.ok.2.2.1, ⟨by dsimp only; omega, h1⟩, hA.ok.2.2.2.2.1, fun t ht => ?_, hA.ok.2.2.2.2.2.2⟩, hA.ok0, hA.ok1, hA.v0, hA.v1, hA.b0, hA.b1, hA.bag⟩
  have h3 := hA.ok.2.2.2.2.2.1 t ht
  have h4 := h t ht
  dsimp only
  rcases h3 with h3 | h3
  · exact .inl h3
  · right; omega
def dueV (now : Int) (n : Nat) (later : Int) : Int := if maxT ≤ now ∧ n ≠ 1 ∧ n ≠ 2 then -1 else min (now + later) maxT
theorem due_DV (s : Se) (n : Nat) (later : Int) : (s.due n later).D = s.D.set n (dueV s.now n later) := rfl
theorem dueV_late {now later : Int} {n : Nat} (hn : n = 0 ∨ 3 ≤ n) (h1 : 1 ≤ later) (h2 : 0 ≤ now) : dueV now n later = -1 ∨ now < dueV now n later := by
  unfold dueV
  split
  · exact .inl rfl
  · unfold maxT at *
    right; omega
theorem gone_D (s : Se) (n : Nat) : (s.gone n).D = (s.D.set (1 + n) (-1)).set (3 + n) (-1) ∨ (s.gone n).D = ((s.D.set (1 + n) (-1)).set (3 + n) (-1)).set 0 (dueV s.now 0 s.retry) := by
  by_cases h : s.base ≠ 0 ∧ (s.c (1 - n)).st = 0
  · right
    have h2 := cut_base s n
    rw [gone_yes h.1 h.2, due_DV]
    show List.set (s.cut n).D 0 (dueV (s.cut n).now 0 s.retry) = _
    rw [h2.2.1]
    rfl
  · left; rw [gone_no h]; rfl
theorem kept_D (s : Se) (n : Nat) : (s.kept n).D = s.D ∨ ((s.c n).hold ≠ 0 ∧ (s.kept n).D = s.D.set (3 + n) (dueV s.now (3 + n) ((s.c n).hold.tdiv 3))) := by
  unfold Se.kept
  split
  · exact .inl rfl
  · rename_i h
    exact .inr ⟨h, rfl⟩
theorem fireS_less {s : Se} {T t : Int} {n : Nat} (hk : s.Ok) (hf : s.Fit) (hF : FirstD s.D T n t) : wD T (fireS s n t).1.D < wD T s.D := by
  obtain ⟨f1, f2, f3, f4, f5⟩ := hF.now hk
  obtain ⟨a, b, c, d, e, hD⟩ := list5 hk.2.2.2.2.1
  obtain ⟨g1, g2, g3, _⟩ := hF
  have hnow := hk.2.2.2.1
  have hrt := hk.1
  have hr := dueV_late (now := t) (n := 0) (later := s.retry) (.inl rfl) (by omega) (by omega)
  have hkp : ∀ k, k < 2 → (s.c k).hold ≠ 0 → dueV t (3 + k) ((s.c k).hold.tdiv 3) = -1 ∨ t < dueV t (3 + k) ((s.c k).hold.tdiv 3) := fun k hk0 hh => by
    have h3 := hf k hk0
    refine dueV_late (.inr (by omega)) ?_ (by omega)
    rw [Int.tdiv_eq_ediv_of_nonneg (by omega)]
    omega
  rw [hD] at g1
  have h01 := hkp 0 (by decide)
  have h02 := hkp 1 (by decide)
  match n, f4, g1 with
  | 0, _, g1 =>
    obtain rfl := Option.some.inj g1
    show wD T (List.set (List.set s.D 0 (-1)) 0 (dueV a 0 s.retry)) < _
    rw [hD]
    generalize dueV a 0 s.retry = v at hr
    simp only [wD, List.set_cons_zero, List.map_cons, List.map_nil, List.sum_cons, List.sum_nil]
    split <;> split <;> omega
  | 1, _, g1 =>
    obtain rfl := Option.some.inj g1
    rcases gone_D { s with now := b, D := s.D.set 1 (-1) } 0 with h | h
    all_goals
      show wD T (Se.gone _ _).D < _
      rw [h]
      dsimp only
      rw [hD]
      try generalize dueV b 0 s.retry = v at hr
      simp only [wD, List.set_cons_zero, List.set_cons_succ, Nat.add_zero, List.map_cons, List.map_nil, List.sum_cons, List.sum_nil]
      repeat' split
      all_goals omega
  | 2, _, g1 =>
    obtain rfl := Option.some.inj g1
    rcases gone_D { s with now := c, D := s.D.set 2 (-1) } 1 with h | h
    all_goals
      show wD T (Se.gone _ _).D < _
      rw [h]
      dsimp only
      rw [hD]
      try generalize dueV c 0 s.retry = v at hr
      simp only [wD, List.set_cons_zero, List.set_cons_succ, Nat.add_zero, List.map_cons, List.map_nil, List.sum_cons, List.sum_nil]
      repeat' split
      all_goals omega
  | 3, _, g1 =>
    obtain rfl := Option.some.inj g1
    rcases kept_D { s with now := d, D := s.D.set 3 (-1) } 0 with h | ⟨h0, h⟩
    · show wD T (Se.kept _ _).D < _
      rw [h]
      dsimp only
      rw [hD]
      simp only [wD, List.set_cons_zero, List.set_cons_succ, Nat.add_zero, List.map_cons, List.map_nil, List.sum_cons, List.sum_nil]
      repeat' split
      all_goals omega
    · have h2 := h01 h0
      show wD T (Se.kept _ _).D < _
      rw [h]
      show wD T (List.set (List.set s.D 3 (-1)) 3 (dueV d (3 + 0) ((s.c 0).hold.tdiv 3))) < _
      rw [hD]
      generalize dueV d (3 + 0) ((s.c 0).hold.tdiv 3) = v at h2
      simp only [wD, List.set_cons_zero, List.set_cons_succ, Nat.add_zero, List.map_cons, List.map_nil, List.sum_cons, List.sum_nil]
      repeat' split
      all_goals omega
  | 4, _, g1 =>
    obtain rfl := Option.some.inj g1
    rcases kept_D { s with now := e, D := s.D.set 4 (-1) } 1 with h | ⟨h0, h⟩
    · show wD T (Se.kept _ _).D < _
      rw [h]
      dsimp only
      rw [hD]
      simp only [wD, List.set_cons_zero, List.set_cons_succ, Nat.add_zero, List.map_cons, List.map_nil, List.sum_cons, List.sum_nil]
      repeat' split
      all_goals omega
    · have h2 := h02 h0
      show wD T (Se.kept _ _).D < _
      rw [h]
      show wD T (List.set (List.set s.D 4 (-1)) 4 (dueV e (3 + 1) ((s.c 1).hold.tdiv 3))) < _
      rw [hD]
      generalize dueV e (3 + 1) ((s.c 1).hold.tdiv 3) = v at h2
      simp only [wD, List.set_cons_zero, List.set_cons_succ, Nat.add_zero, List.map_cons, List.map_nil, List.sum_cons, List.sum_nil]
      repeat' split
      all_goals omega

theorem Next_any {w0 w : World} {gC : Nat} {now : Int} {R : List Ent} {d : Ck} {D : List Int} (hS : St (fun _ => False) w0 w (d.L gC now R)) (hb : Bag d (dueF 0 D)) (u : Int) :
    Calls Tryz.prog 62 #[.pointer (some ⟨gC, 0, none⟩), .int .i64 u] w fun e' w' => ∃ (ok : Bool) (n : Nat) (t : Int) (d' : Ck), e' = .returned (.tuple #[.int .i64 n, .bool ok]) ∧ (ok = true → FirstD D (till now u) n t) ∧ (ok = false → t = till now u ∧ ∀ t ∈ D, t < 0 ∨ till now u < t) ∧ Bag d' (dueF 0 (if ok then D.set n (-1) else D)) ∧ St (fun _ => False) w0 w' (d'.L gC t R) := by
  rcases first_or D (till now u) with ⟨n, t, hF⟩ | hno
  · refine (Next_d hS hb u hF).mono ?_
    rintro e' w' ⟨d', rfl, hb', hS'⟩
    exact ⟨true, n, t, d', rfl, fun _ => hF, fun e => (by cases e), hb', hS'⟩
  · refine (Next_dn hS hb u hno).mono ?_
    rintro e' w' ⟨rfl, hS'⟩
    exact ⟨false, 0, _, d, rfl, fun e => (by cases e), fun _ => ⟨rfl, hno⟩, hb, hS'⟩
theorem wD_le {T now : Int} {D : List Int} (h5 : D.length = 5) (h : ∀ t ∈ D, t = -1 ∨ now ≤ t ∧ t ≤ maxT) (hT : T ≤ now + 4096) : wD T D ≤ 20485 := by
  obtain ⟨a, b, c, d, e, rfl⟩ := list5 h5
  have ha := h a (by simp)
  have hb := h b (by simp)
  have hc := h c (by simp)
  have hd := h d (by simp)
  have he := h e (by simp)
  have key : ∀ x : Int, (x = -1 ∨ now ≤ x ∧ x ≤ maxT) → (if 0 ≤ x then (T + 1 - x).toNat else 0) ≤ 4097 := fun x hx => by
    split <;> omega
  have k1 := key a ha
  have k2 := key b hb
  have k3 := key c hc
  have k4 := key d hd
  have k5 := key e he
  simp only [wD, List.map_cons, List.map_nil, List.sum_cons, List.sum_nil]
  omega
theorem PeAt.bagged {g : Nat} {p : PeL} {s : Se} {E0 E1 : List Ent} {d d' : Ck} (hA : PeAt g p s E0 E1 d) (hb : Bag d' (dueF 0 s.D)) : PeAt g p s E0 E1 d' := ⟨hA.eq, hA.ok, hA.ok0, hA.ok1, hA.v0, hA.v1, hA.b0, hA.b1, hb⟩
set_option maxHeartbeats 4000000 in
theorem tick_c (w0 w : World) (g : Nat) (p : PeL) (s : Se) (E0 E1 L : List Ent) (d : Ck) (hA : PeAt g p s E0 E1 d) (hG : GF w0) (hS0 : St (fun _ => False) w0 w (.row g p.cells :: (E0 ++ (E1 ++ d.L p.gC s.now L)))) (hf : s.Fit) (u : Int) (_hu : I64 u) :
    Calls Tryz.prog 24 #[.pointer (some ⟨g, 0, none⟩), .int .i64 u] w fun e w' => ∃ es s', TickR (tickT s u) s es s' ∧ es.length ≤ 70000 ∧ EffC w0 w' g es s' L e := by
  have hnow := hA.ok.2.2.2.1
  refine enter Tryz.func24 rfl Tryz.ntmps24 rfl hS0 ?_
  refine cR <| zA rfl <| zN <| cS <| cR <| zM rfl <| zV (v_eql_nil false rfl rfl Tryz.underlying40 rfl) rfl <| zN <| cF rfl <| cK <| eN <| cS <| ?_
  refine WC.region <| zM rfl <| zC rfl <| zF rfl fld_106_1 <| zL rfl one_98 rfl <| zK ck_61 rfl <| ?_
  intro w hS
  refine Calls.then (Now_k (hS.row (g := p.gC))) hS ?_
  refine zA rfl <| zN <| ?_
  refine WC.cut (fun U : Int => [(5, .int .i64 U), (0, .pointer (some ⟨g, 0, none⟩))]) (fun _ => .row g p.cells :: (E0 ++ (E1 ++ d.L p.gC s.now L))) (fun U => s.now ≤ U ∧ U ≤ s.now + 4096 ∧ min U maxT = tickT s u) ?_ ?_
  refine cR <| zM rfl <| zM rfl <| ?_
  refine zT (v_gtr rfl rfl rfl) rfl (fun h18 => ?_) (fun h18 => ?_)
  refine zN <| cT rfl <| WC.region <| zM rfl <| zM rfl <| ?_
  refine zV (v_add rfl rfl rfl (w_i64 (by unfold maxT at hnow; omega) (by unfold maxT at hnow; omega))) rfl ?_
  refine zV (v_min rfl rfl rfl) rfl <| zA rfl <| WL.nil <| ?_
  exact WE.mid (min u (s.now + 4096)) ⟨by omega, by omega, by unfold tickT; rw [if_pos (by omega)]⟩ (.cons rfl (.cons rfl .nil)) (.refl _)
  refine zN <| cF rfl <| cK <| ?_
  exact WE.mid s.now ⟨by omega, by omega, by unfold tickT; rw [if_neg (by omega)]⟩ (.cons rfl (.cons rfl .nil)) (.refl _)
  rintro U ⟨hU1, hU2, hUT⟩
  generalize hT : tickT s u = T at hUT
  have hT0 : s.now ≤ T ∧ T ≤ maxT ∧ T ≤ U := (by omega)
  refine cR <| zA rfl <| zN <| cB <| ?_
  refine WC.loop (fun x : PT => [(5, .int .i64 U), (6, .slice x.y.ad x.y.fs.length x.y.c), (0, .pointer (some ⟨g, 0, none⟩))]) (fun x => x.y.L g x.t.now L) (fun x => PeAt g x.y.p x.t x.y.E0 x.y.E1 x.y.d ∧ x.t.Fit ∧ (s.now ≤ x.t.now ∧ x.t.now ≤ T) ∧ EfsV x.y.ad x.y.c x.y.fs x.y.E x.y.K ∧ x.y.fs.length + 3 * wD T x.t.D ≤ 70000 ∧ ∀ es s', TickR T x.t es s' → TickR T s (x.y.fs.map EfL.d ++ es) s') (fun x => wD T x.t.D) ⟨0, ⟨p, E0, E1, d, none, 0, [], [], []⟩, s⟩ ⟨hA, hf, ⟨Int.le_refl _, hT0.1⟩, ⟨Vec.nil 23, fun e he => by cases he⟩, (by have := wD_le (T := T) hA.ok.2.2.2.2.1 hA.ok.2.2.2.2.2.1 (by omega); show 0 + 3 * wD T s.D ≤ 70000; omega), fun es s' h => h⟩ (.cons rfl (.cons rfl (.cons rfl .nil))) (.refl _) ?_
  rintro ⟨k, ⟨p4, E04, E14, d4, ad4, c4, fs, EF, KF⟩, t⟩ ⟨hA4, hfit, hnt, hV4, hfl, hR⟩
  dsimp only at hA4 hfit hnt hV4 hfl hR
  unfold PS.L
  dsimp only
  refine cB <| cR <| zM rfl <| zC rfl <| zF rfl fld_106_1 <| zL rfl one_98 rfl <| zM rfl <| zK ck_62 rfl <| ?_
  intro w1 hS
  refine (Next_any (gC := p4.gC) (now := t.now) (R := EF ++ (KF ++ (.row g p4.cells :: (E04 ++ (E14 ++ L))))) (hS.permK ) hA4.bag U).mono ?_
  rintro e w' ⟨ok, n, tt, d5, rfl, hyes, hno, hb5, hS'⟩
  have htl : till t.now U = T := (by unfold till; unfold maxT at *; omega)
  rw [htl] at hyes hno
  refine ⟨_, EF ++ (KF ++ (.row g p4.cells :: (E04 ++ (E14 ++ d5.L p4.gC tt L)))), rfl, hS'.permK , ?_⟩
  refine zM rfl <| zX rfl <| zX rfl <| ?_
  skip
  cases ok
  refine zA rfl <| zA rfl <| zN <| cS <| cR <| zM rfl <| zV (v_not rfl rfl rfl) rfl <| zN <| cT rfl <| cR <| zM rfl <| zA rfl <| ?_
  refine zN <| cE <| eR <| eB <| eR <| eB <| tR Tryz.results24 rfl <| ?_
  obtain ⟨e1, e2⟩ := hno rfl
  have e3 := hR _ _ (TickR.done e2)
  rw [List.append_nil] at e3
  rw [e1] at *
  exact fun w' h => ⟨_, _, e3, by rw [List.length_map]; omega, ad4, c4, fs, EF, KF, p4, E04, E14, d5, rfl, hV4, rfl, (hA4.bagged (by simpa using hb5)).till e2 hnt.2 hT0.2.1, h⟩
  refine zA rfl <| zA rfl <| zN <| cS <| cR <| zM rfl <| zV (v_not rfl rfl rfl) rfl <| zN <| cF rfl <| cK <| eN <| cR <| ?_
  refine zM rfl <| zN <| cB <| cR <| ?_
  refine zT (v_eql rfl rfl rfl) rfl (fun h37 => ?_) (fun h37 => ?_)
  obtain rfl : n = 0 := (by omega)
  have hF := hyes rfl
  have hA5 : PeAt g p4 { t with now := tt, D := t.D.set 0 (-1) } E04 E14 d5 := hA4.at hF (by simpa using hb5)
  have hls := fireS_less hA4.ok hfit hF
  have hF2 := hF.now hA4.ok
  clear hyes hno
  refine zA rfl <| zN <| cT rfl <| WC.region <| zM rfl <| zM rfl <| zK ck_50 rfl <| ?_
  intro w1 hS
  refine (dial_c w0 w1 g p4 { t with now := tt, D := t.D.set 0 (-1) } E04 E14 (EF ++ (KF ++ L)) d5 hA5 (hS.permK )).mono ?_
  rintro e w' ⟨ad2, c2, gs, EG, KG, p2, E02, E12, d2, rfl, hV2, heg, hA2, hS'⟩
  have hS2 : St (fun _ => False) w0 w' (EG ++ (KG ++ (.row g p2.cells :: (E02 ++ (E12 ++ d2.L p2.gC (fireS t 0 tt).1.now (EF ++ (KF ++ L))))))) := hS'
  have hgl := efs_len heg
  have hgb : gs.length ≤ 3 := (by rw [hgl]; exact fireS_len t 0 tt)
  refine ⟨_, EF ++ (EG ++ (KG ++ (KF ++ (.row g p2.cells :: (E02 ++ (E12 ++ d2.L p2.gC (fireS t 0 tt).1.now L)))))), rfl, hS2.permK , ?_⟩
  refine WL.appendL rfl rfl rfl Tryz.underlying46 Tryz.underlying46 sz_54 by_54 zero_54 rfl rfl hV4.1 (new := efsL gs) (hV2.1.src (fun e he => List.mem_append_right _ (List.mem_append_left _ he)) |> fun f h => (f (by rw [efsL_len]; omega)).elim fun b1 h1 => h1.elim fun o1 h2 => ⟨b1, o1, h2.1, fun w hS => h2.2 _ _ w hS⟩) (efsL_len gs) (efsL_one gs) (by omega) (.none rfl) rfl rfl ?_
  intro ad41 c41 E41 hV41 hr41
  rw [efsL_app] at hV41
  rw [show fs.length + gs.length = (fs ++ gs).length from List.length_append.symm] at hV41 ⊢
  refine WL.to (L' := (⟨p2, E02, E12, d2, ad41, c41, fs ++ gs, E41, KG ++ KF⟩ : PS).L g (fireS t 0 tt).1.now L) (fun w hS => hS.dropK EG ) <| zA rfl <| WL.nil <| eY <| eY <| ?_
  refine WE.next ⟨0, ⟨p2, E02, E12, d2, ad41, c41, fs ++ gs, E41, KG ++ KF⟩, (fireS t 0 tt).1⟩ hls ⟨hA2, fireS_fit hfit _ _, ⟨by rw [fireS_now]; omega, by rw [fireS_now]; omega⟩, ⟨hV41, fun e he => ?_⟩, by dsimp only; rw [List.length_append]; omega, fun es s' h => ?_⟩ (.cons rfl (.cons rfl (.cons rfl .nil))) (.refl _)
  · rcases List.mem_append.1 he with he | he
    · exact (hV4.2 e he).mono fun x hx => List.mem_append_right _ hx
    · exact (hV2.2 e he).mono fun x hx => List.mem_append_left _ hx
  · rw [List.map_append, heg, List.append_assoc]
    exact hR _ _ (.fire hF h)
  refine zA rfl <| zN <| cF rfl <| cS <| cR <| ?_
  refine zT (v_eql rfl rfl rfl) rfl (fun h43 => ?_) (fun h43 => ?_)
  obtain rfl : n = 1 := (by omega)
  have hF := hyes rfl
  have hA5 : PeAt g p4 { t with now := tt, D := t.D.set 1 (-1) } E04 E14 d5 := hA4.at hF (by simpa using hb5)
  have hls := fireS_less hA4.ok hfit hF
  have hF2 := hF.now hA4.ok
  clear hyes hno
  refine zA rfl <| zN <| cT rfl <| cK <| eN <| cT rfl <| WC.region <| zM rfl <| zM rfl <| zM rfl <| ?_
  refine zV (v_sub rfl rfl rfl (show _ = (0 : Int) from w_i64 (by decide) (by decide))) rfl ?_
  refine zK ck_63 rfl ?_
  intro w1 hS
  refine (fault0_c w0 w1 g p4 { t with now := tt, D := t.D.set 1 (-1) } E04 E14 (EF ++ (KF ++ L)) d5 hA5 hG (hS.permK ) 4 0 ⟨by decide, by decide⟩ ⟨by decide, by decide⟩).mono ?_
  rintro e w' ⟨ad2, c2, gs, EG, KG, p2, E02, E12, d2, rfl, hV2, heg, hA2, hS'⟩
  have hS2 : St (fun _ => False) w0 w' (EG ++ (KG ++ (.row g p2.cells :: (E02 ++ (E12 ++ d2.L p2.gC (fireS t 1 tt).1.now (EF ++ (KF ++ L))))))) := hS'
  have hgl := efs_len heg
  have hgb : gs.length ≤ 3 := (by rw [hgl]; exact fireS_len t 1 tt)
  refine ⟨_, EF ++ (EG ++ (KG ++ (KF ++ (.row g p2.cells :: (E02 ++ (E12 ++ d2.L p2.gC (fireS t 1 tt).1.now L)))))), rfl, hS2.permK , ?_⟩
  refine WL.appendL rfl rfl rfl Tryz.underlying46 Tryz.underlying46 sz_54 by_54 zero_54 rfl rfl hV4.1 (new := efsL gs) (hV2.1.src (fun e he => List.mem_append_right _ (List.mem_append_left _ he)) |> fun f h => (f (by rw [efsL_len]; omega)).elim fun b1 h1 => h1.elim fun o1 h2 => ⟨b1, o1, h2.1, fun w hS => h2.2 _ _ w hS⟩) (efsL_len gs) (efsL_one gs) (by omega) (.none rfl) rfl rfl ?_
  intro ad50 c50 E50 hV50 hr50
  rw [efsL_app] at hV50
  rw [show fs.length + gs.length = (fs ++ gs).length from List.length_append.symm] at hV50 ⊢
  refine WL.to (L' := (⟨p2, E02, E12, d2, ad50, c50, fs ++ gs, E50, KG ++ KF⟩ : PS).L g (fireS t 1 tt).1.now L) (fun w hS => hS.dropK EG ) <| zA rfl <| WL.nil <| eY <| eY <| ?_
  refine WE.next ⟨0, ⟨p2, E02, E12, d2, ad50, c50, fs ++ gs, E50, KG ++ KF⟩, (fireS t 1 tt).1⟩ hls ⟨hA2, fireS_fit hfit _ _, ⟨by rw [fireS_now]; omega, by rw [fireS_now]; omega⟩, ⟨hV50, fun e he => ?_⟩, by dsimp only; rw [List.length_append]; omega, fun es s' h => ?_⟩ (.cons rfl (.cons rfl (.cons rfl .nil))) (.refl _)
  · rcases List.mem_append.1 he with he | he
    · exact (hV4.2 e he).mono fun x hx => List.mem_append_right _ hx
    · exact (hV2.2 e he).mono fun x hx => List.mem_append_left _ hx
  · rw [List.map_append, heg, List.append_assoc]
    exact hR _ _ (.fire hF h)
  refine zA rfl <| zN <| cF rfl <| WC.region <| ?_
  refine zT (v_eql rfl rfl rfl) rfl (fun h44 => ?_) (fun h44 => ?_)
  obtain rfl : n = 2 := (by omega)
  have hF := hyes rfl
  have hA5 : PeAt g p4 { t with now := tt, D := t.D.set 2 (-1) } E04 E14 d5 := hA4.at hF (by simpa using hb5)
  have hls := fireS_less hA4.ok hfit hF
  have hF2 := hF.now hA4.ok
  clear hyes hno
  refine zA rfl <| zN <| cT rfl <| WC.region <| zM rfl <| zM rfl <| zM rfl <| ?_
  refine zV (v_sub rfl rfl rfl (show _ = (1 : Int) from w_i64 (by decide) (by decide))) rfl ?_
  refine zK ck_63 rfl ?_
  intro w1 hS
  refine (fault1_c w0 w1 g p4 { t with now := tt, D := t.D.set 2 (-1) } E04 E14 (EF ++ (KF ++ L)) d5 hA5 hG (hS.permK ) 4 0 ⟨by decide, by decide⟩ ⟨by decide, by decide⟩).mono ?_
  rintro e w' ⟨ad2, c2, gs, EG, KG, p2, E02, E12, d2, rfl, hV2, heg, hA2, hS'⟩
  have hS2 : St (fun _ => False) w0 w' (EG ++ (KG ++ (.row g p2.cells :: (E02 ++ (E12 ++ d2.L p2.gC (fireS t 2 tt).1.now (EF ++ (KF ++ L))))))) := hS'
  have hgl := efs_len heg
  have hgb : gs.length ≤ 3 := (by rw [hgl]; exact fireS_len t 2 tt)
  refine ⟨_, EF ++ (EG ++ (KG ++ (KF ++ (.row g p2.cells :: (E02 ++ (E12 ++ d2.L p2.gC (fireS t 2 tt).1.now L)))))), rfl, hS2.permK , ?_⟩
  refine WL.appendL rfl rfl rfl Tryz.underlying46 Tryz.underlying46 sz_54 by_54 zero_54 rfl rfl hV4.1 (new := efsL gs) (hV2.1.src (fun e he => List.mem_append_right _ (List.mem_append_left _ he)) |> fun f h => (f (by rw [efsL_len]; omega)).elim fun b1 h1 => h1.elim fun o1 h2 => ⟨b1, o1, h2.1, fun w hS => h2.2 _ _ w hS⟩) (efsL_len gs) (efsL_one gs) (by omega) (.none rfl) rfl rfl ?_
  intro ad50 c50 E50 hV50 hr50
  rw [efsL_app] at hV50
  rw [show fs.length + gs.length = (fs ++ gs).length from List.length_append.symm] at hV50 ⊢
  refine WL.to (L' := (⟨p2, E02, E12, d2, ad50, c50, fs ++ gs, E50, KG ++ KF⟩ : PS).L g (fireS t 2 tt).1.now L) (fun w hS => hS.dropK EG ) <| zA rfl <| WL.nil <| eY <| eY <| ?_
  refine WE.next ⟨0, ⟨p2, E02, E12, d2, ad50, c50, fs ++ gs, E50, KG ++ KF⟩, (fireS t 2 tt).1⟩ hls ⟨hA2, fireS_fit hfit _ _, ⟨by rw [fireS_now]; omega, by rw [fireS_now]; omega⟩, ⟨hV50, fun e he => ?_⟩, by dsimp only; rw [List.length_append]; omega, fun es s' h => ?_⟩ (.cons rfl (.cons rfl (.cons rfl .nil))) (.refl _)
  · rcases List.mem_append.1 he with he | he
    · exact (hV4.2 e he).mono fun x hx => List.mem_append_right _ hx
    · exact (hV2.2 e he).mono fun x hx => List.mem_append_left _ hx
  · rw [List.map_append, heg, List.append_assoc]
    exact hR _ _ (.fire hF h)
  refine zA rfl <| zN <| cF rfl <| cS <| cR <| ?_
  refine zT (v_eql rfl rfl rfl) rfl (fun h52 => ?_) (fun h52 => ?_)
  obtain rfl : n = 3 := (by omega)
  have hF := hyes rfl
  have hA5 : PeAt g p4 { t with now := tt, D := t.D.set 3 (-1) } E04 E14 d5 := hA4.at hF (by simpa using hb5)
  have hls := fireS_less hA4.ok hfit hF
  have hF2 := hF.now hA4.ok
  clear hyes hno
  refine zA rfl <| zN <| cT rfl <| cK <| eN <| cT rfl <| cR <| zM rfl <| zM rfl <| ?_
  refine zV (v_sub rfl rfl rfl (show _ = (0 : Int) from w_i64 (by decide) (by decide))) rfl ?_
  refine zV (v_build rfl rfl zero_39 plc_39 rfl) rfl <| zK ck_54 rfl <| ?_
  intro w1 hS
  refine (send_c w1 0 (MsL.zero 4) (zero4_at _) (zeroM_in ⟨by decide, by decide⟩) (hG.keep (fun h => h) hS) (Nat.zero_le _) (Nat.zero_le _)).mono ?_
  rintro e w' ⟨ad2, c2, gs, EG, KG, rfl, hV2, heg, hS'⟩
  have hgl := efs_len heg
  have hgb := sendE_len 0 (MsL.zero 4)
  refine ⟨_, EF ++ (EG ++ (KG ++ (KF ++ (.row g p4.cells :: (E04 ++ (E14 ++ d5.L p4.gC tt L)))))), rfl, (hS.join hS').permK , ?_⟩
  refine WL.appendL rfl rfl rfl Tryz.underlying46 Tryz.underlying46 sz_54 by_54 zero_54 rfl rfl hV4.1 (new := efsL gs) (hV2.1.src (fun e he => List.mem_append_right _ (List.mem_append_left _ he)) |> fun f h => (f (by rw [efsL_len]; omega)).elim fun b1 h1 => h1.elim fun o1 h2 => ⟨b1, o1, h2.1, fun w hS => h2.2 _ _ w hS⟩) (efsL_len gs) (efsL_one gs) (by omega) (.none rfl) rfl rfl ?_
  intro ad59 c59 E59 hV59 hr59
  rw [efsL_app] at hV59
  rw [show fs.length + gs.length = (fs ++ gs).length from List.length_append.symm] at hV59 ⊢
  refine zA rfl <| zN <| WC.region <| zM rfl <| zM rfl <| ?_
  refine zV (v_sub rfl rfl rfl (show _ = (0 : Int) from w_i64 (by decide) (by decide))) rfl ?_
  refine zK ck_64 rfl ?_
  intro w1 hS
  refine (kept0_c w0 w1 g p4 { t with now := tt, D := t.D.set 3 (-1) } E04 E14 (E59 ++ (EG ++ (KG ++ (KF ++ L)))) d5 hA5 (hS.permK )).mono ?_
  rintro e w' ⟨d6, rfl, hA6, hS'⟩
  have hS2 : St (fun _ => False) w0 w' (.row g p4.cells :: (E04 ++ (E14 ++ d6.L p4.gC tt (E59 ++ (EG ++ (KG ++ (KF ++ L))))))) := hS'
  have hnn : (fireS t 3 tt).1.now = tt := fireS_now _ _ _
  refine ⟨_, (⟨p4, E04, E14, d6, ad59, c59, fs ++ gs, E59, KG ++ KF⟩ : PS).L g (fireS t 3 tt).1.now L, rfl, (by rw [hnn]; exact hS2.dropK EG ), ?_⟩
  refine WL.nil <| eY <| eY <| ?_
  refine WE.next ⟨0, ⟨p4, E04, E14, d6, ad59, c59, fs ++ gs, E59, KG ++ KF⟩, (fireS t 3 tt).1⟩ hls ⟨hA6, fireS_fit hfit _ _, ⟨by rw [fireS_now]; omega, by rw [fireS_now]; omega⟩, ⟨hV59, fun e he => ?_⟩, by dsimp only; rw [List.length_append]; omega, fun es s' h => ?_⟩ (.cons rfl (.cons rfl (.cons rfl .nil))) (.refl _)
  · rcases List.mem_append.1 he with he | he
    · exact (hV4.2 e he).mono fun x hx => List.mem_append_right _ hx
    · exact (hV2.2 e he).mono fun x hx => List.mem_append_left _ hx
  · rw [List.map_append, heg, List.append_assoc]
    exact hR _ _ (.fire hF h)
  refine zA rfl <| zN <| cF rfl <| WC.region <| ?_
  refine zT (v_eql rfl rfl rfl) rfl (fun h53 => ?_) (fun h53 => ?_)
  obtain rfl : n = 4 := (by omega)
  have hF := hyes rfl
  have hA5 : PeAt g p4 { t with now := tt, D := t.D.set 4 (-1) } E04 E14 d5 := hA4.at hF (by simpa using hb5)
  have hls := fireS_less hA4.ok hfit hF
  have hF2 := hF.now hA4.ok
  clear hyes hno
  refine zA rfl <| zN <| cT rfl <| cR <| zM rfl <| zM rfl <| ?_
  refine zV (v_sub rfl rfl rfl (show _ = (1 : Int) from w_i64 (by decide) (by decide))) rfl ?_
  refine zV (v_build rfl rfl zero_39 plc_39 rfl) rfl <| zK ck_54 rfl <| ?_
  intro w1 hS
  refine (send_c w1 1 (MsL.zero 4) (zero4_at _) (zeroM_in ⟨by decide, by decide⟩) (hG.keep (fun h => h) hS) (Nat.zero_le _) (Nat.zero_le _)).mono ?_
  rintro e w' ⟨ad2, c2, gs, EG, KG, rfl, hV2, heg, hS'⟩
  have hgl := efs_len heg
  have hgb := sendE_len 1 (MsL.zero 4)
  refine ⟨_, EF ++ (EG ++ (KG ++ (KF ++ (.row g p4.cells :: (E04 ++ (E14 ++ d5.L p4.gC tt L)))))), rfl, (hS.join hS').permK , ?_⟩
  refine WL.appendL rfl rfl rfl Tryz.underlying46 Tryz.underlying46 sz_54 by_54 zero_54 rfl rfl hV4.1 (new := efsL gs) (hV2.1.src (fun e he => List.mem_append_right _ (List.mem_append_left _ he)) |> fun f h => (f (by rw [efsL_len]; omega)).elim fun b1 h1 => h1.elim fun o1 h2 => ⟨b1, o1, h2.1, fun w hS => h2.2 _ _ w hS⟩) (efsL_len gs) (efsL_one gs) (by omega) (.none rfl) rfl rfl ?_
  intro ad59 c59 E59 hV59 hr59
  rw [efsL_app] at hV59
  rw [show fs.length + gs.length = (fs ++ gs).length from List.length_append.symm] at hV59 ⊢
  refine zA rfl <| zN <| WC.region <| zM rfl <| zM rfl <| ?_
  refine zV (v_sub rfl rfl rfl (show _ = (1 : Int) from w_i64 (by decide) (by decide))) rfl ?_
  refine zK ck_64 rfl ?_
  intro w1 hS
  refine (kept1_c w0 w1 g p4 { t with now := tt, D := t.D.set 4 (-1) } E04 E14 (E59 ++ (EG ++ (KG ++ (KF ++ L)))) d5 hA5 (hS.permK )).mono ?_
  rintro e w' ⟨d6, rfl, hA6, hS'⟩
  have hS2 : St (fun _ => False) w0 w' (.row g p4.cells :: (E04 ++ (E14 ++ d6.L p4.gC tt (E59 ++ (EG ++ (KG ++ (KF ++ L))))))) := hS'
  have hnn : (fireS t 4 tt).1.now = tt := fireS_now _ _ _
  refine ⟨_, (⟨p4, E04, E14, d6, ad59, c59, fs ++ gs, E59, KG ++ KF⟩ : PS).L g (fireS t 4 tt).1.now L, rfl, (by rw [hnn]; exact hS2.dropK EG ), ?_⟩
  refine WL.nil <| eY <| eY <| ?_
  refine WE.next ⟨0, ⟨p4, E04, E14, d6, ad59, c59, fs ++ gs, E59, KG ++ KF⟩, (fireS t 4 tt).1⟩ hls ⟨hA6, fireS_fit hfit _ _, ⟨by rw [fireS_now]; omega, by rw [fireS_now]; omega⟩, ⟨hV59, fun e he => ?_⟩, by dsimp only; rw [List.length_append]; omega, fun es s' h => ?_⟩ (.cons rfl (.cons rfl (.cons rfl .nil))) (.refl _)
  · rcases List.mem_append.1 he with he | he
    · exact (hV4.2 e he).mono fun x hx => List.mem_append_right _ hx
    · exact (hV2.2 e he).mono fun x hx => List.mem_append_left _ hx
  · rw [List.map_append, heg, List.append_assoc]
    exact hR _ _ (.fire hF h)
  refine zA rfl <| zN <| cF rfl <| cK <| eY <| eY <| ?_
  exact absurd ((hyes rfl).now hA4.ok).2.2.2.1 (by omega)

theorem feedM_one {m : MsL} (h : msgC m = 0) (hI : m.In) : feedM [] (msgB m) = ([bareD m], none, []) := by
  obtain ⟨j, rest, hj, e, _, hz⟩ := feedM_prefix [m] [] (msgB m) [] (fun x hx => by obtain rfl := List.mem_singleton.1 hx; exact ⟨h, hI⟩) (by unfold flatB; rw [List.flatMap_cons, List.flatMap_nil])
  obtain ⟨rfl, rfl⟩ := hz rfl
  exact e
theorem openM_code {a h i : Int} (ha : 1 ≤ a ∧ a ≤ 65535) (hh : h = 0 ∨ 3 ≤ h ∧ h ≤ 65535) (hi : i ≠ 0) : msgC (openM a h i) = 0 := by
  have e1 : badO (openM a h i) = false := by
    unfold badO
    exact decide_eq_false (show ¬ (a < 1 ∨ 65535 < a ∨ (h ≠ 0 ∧ (h < 3 ∨ 65535 < h)) ∨ i = 0 ∨ 32 < 0) by omega)
  have e2 : bodC (openM a h i) = 0 := by
    show openC (openM a h i) = 0
    unfold openC
    rw [e1]
    rfl
  have e3 : (bodB (openM a h i)).length = 10 := by
    show (openB (openM a h i)).length = 10
    unfold openB
    simp only [List.length_append, numB_len, List.length_cons, List.length_nil]
    rfl
  unfold msgC
  rw [if_pos e2, if_neg (by omega)]
theorem ka_code : msgC (MsL.zero 4) = 0 := by decide
theorem sendE_ok {n : Int} {m : MsL} (h : msgC m = 0) : sendE n m = [⟨2, n, msgB m, (MsL.zero 0).d⟩] := if_pos h

theorem efs_kind {fs : List EfL} {es : List EfD} (h : fs.map EfL.d = es) : fs.map EfL.kind = es.map EfD.kind := by
  rw [← h, List.map_map]; rfl
theorem openS_as {s : Se} {n : Nat} {A H j : Int} (h1 : A ≠ s.their) : openS s n A H j = (s.gone n, endE s n 2 2 ⟨#[]⟩) := if_pos h1
theorem openS_id {s : Se} {n : Nat} {A H j : Int} (h1 : A = s.their) (h2 : j = s.id) : openS s n A H j = (s.gone n, endE s n 2 3 ⟨#[]⟩) := (if_neg (fun hh => hh h1)).trans (if_pos h2)
theorem openS_no {s : Se} {n : Nat} {A H j : Int} (h1 : A = s.their) (h2 : j ≠ s.id) (h3 : (s.c (1 - n)).st = 5) : openS s n A H j = (s.gone n, endE s n 6 7 ⟨#[]⟩) := (if_neg (fun hh => hh h1)).trans ((if_neg h2).trans (if_pos h3))
theorem openS_ok {s : Se} {n : Nat} {A H j : Int} (h1 : A = s.their) (h2 : j ≠ s.id) (h3 : (s.c (1 - n)).st ≠ 5) (h4 : (s.c (1 - n)).st ≠ 4) : openS s n A H j = (s.confirm n H j, sendE n (MsL.zero 4)) := (if_neg (fun hh => hh h1)).trans ((if_neg h2).trans ((if_neg h3).trans (if_neg h4)))
theorem hearD_open {s : Se} {n : Nat} {m : MsD} (h1 : m.kind = 1) (h2 : (s.c n).st = 3) : hearD s n m = openS s n m.asn m.hold m.id := (if_neg (by omega)).trans (if_pos ⟨h1, h2⟩)
theorem hearD_estab {s : Se} {n : Nat} {m : MsD} (h1 : m.kind = 4) (h2 : (s.c n).st = 4) : hearD s n m = (s.establish n, estabE s n) := (if_neg (by omega)).trans ((if_neg (by omega)).trans (if_pos ⟨h1, h2⟩))
theorem estab_one {s t : Se} {n : Nat} (h1 : s.up5 n = t) (h2 : (t.c (1 - n)).st = 0) : s.establish n = t ∧ estabE s n = [ef 4 n] := by
  subst h1
  exact ⟨if_pos h2, by unfold estabE; rw [if_pos h2]; rfl⟩
theorem confirm_on {s : Se} {n : Nat} {H j : Int} (h : min s.hold H ≠ 0) : s.confirm n H j = ((s.conf4 n H j).alive n).kept n := if_neg h
theorem alive_on {s : Se} {n : Nat} (h : (s.c n).hold ≠ 0) : s.alive n = s.due (1 + n) (s.c n).hold := if_neg h
theorem kept_on {s : Se} {n : Nat} (h : (s.c n).hold ≠ 0) : s.kept n = s.due (3 + n) ((s.c n).hold.tdiv 3) := if_neg h
section
variable (a i t h r : Int)
def sA : Se := ⟨a, i, t, h, r, 1, CnM.zero, CnM.zero, 0, [r, -1, -1, -1, -1]⟩
def sB : Se := ⟨a, i, t, h, r, 2, sentC, CnM.zero, 0, [-1, 240, -1, -1, -1]⟩
def cn4 (H j : Int) : CnM := ⟨4, [], 1, 0, 0, ⟨#[]⟩, H, j⟩
def cn5 (H j : Int) : CnM := ⟨5, [], 2, 0, 0, ⟨#[]⟩, H, j⟩
def sC (H j : Int) : Se := ⟨a, i, t, h, r, 2, cn4 H j, CnM.zero, 0, [-1, H, -1, H.tdiv 3, -1]⟩
def sD (H j : Int) : Se := ⟨a, i, t, h, r, 2, cn5 H j, CnM.zero, 0, [-1, H, -1, H.tdiv 3, -1]⟩
variable {a i t h r : Int}
theorem dueV_0 {n : Nat} {l : Int} (h0 : l ≤ 65535) : dueV 0 n l = l := by
  unfold dueV maxT
  rw [if_neg (by omega)]
  omega
theorem dial_new (hr : r ≤ 65535) : (Se.new a i t h r).dial = sA a i t h r := by
  show (⟨a, i, t, h, r, 1, CnM.zero, CnM.zero, 0, [dueV 0 0 r, -1, -1, -1, -1]⟩ : Se) = _
  rw [dueV_0 hr]
  rfl
theorem up_sA : (sA a i t h r).up 0 = sB a i t h r ∧ upE (sA a i t h r) 0 = sendE 0 (openM a h i) := by
  have hn : ¬ upNo (sA a i t h r) 0 := by
    rintro (h | h | ⟨_, h⟩)
    · exact absurd (show (1 : Int) = 0 from h) (by decide)
    · exact h rfl
    · exact h rfl
  exact ⟨(if_neg hn).trans rfl, if_neg hn⟩
theorem feedS_one {s : Se} {n : Nat} {m : MsL} (h0 : (s.c n).st ≠ 0) (hw : (s.c n).wait = []) (h : msgC m = 0) (hI : m.In) : feedS s n (msgB m) = hearD (s.set n { s.c n with wait := [], count := (s.c n).count + 1, fc := 0, fs := 0, fd := ⟨#[]⟩ }) n (bareD m) := by
  have e1 : feedM [] ((s.c n).wait ++ msgB m) = ([bareD m], none, []) := by rw [hw, List.nil_append]; exact feedM_one h hI
  unfold feedS
  rw [if_neg h0]
  have e2 : s.fed n (msgB m) = s.set n { s.c n with wait := [], count := (s.c n).count + 1, fc := 0, fs := 0, fd := ⟨#[]⟩ } := by
    unfold Se.fed CnM.fed
    rw [e1]
    rfl
  rw [e2, e1]
  dsimp only
  generalize he : s.set n _ = s'
  have e3 : (s'.c n).st = (s.c n).st := by
    rw [← he]
    unfold Se.set Se.c
    split <;> rfl
  have e4 : heardD n s' [bareD m] = hearD s' n (bareD m) := by
    unfold heardD
    rw [if_neg (by rw [e3]; exact h0)]
    unfold heardD
    rw [List.append_nil]
  rw [e4]
  unfold endF
  split <;> rfl
theorem feed_sB {A H j : Int} (hc : msgC (openM A H j) = 0) (hI : (openM A H j).In) : feedS (sB a i t h r) 0 (msgB (openM A H j)) = openS ⟨a, i, t, h, r, 2, ⟨3, [], 1, 0, 0, ⟨#[]⟩, 0, 0⟩, CnM.zero, 0, [-1, 240, -1, -1, -1]⟩ 0 A H j := by
  rw [feedS_one (s := sB a i t h r) (n := 0) (show (3 : Int) ≠ 0 by decide) rfl hc hI]
  exact hearD_open rfl rfl
theorem confirm_sB {H j : Int} (hm : 3 ≤ min h H) (hh : min h H ≤ 65535) : Se.confirm ⟨a, i, t, h, r, 2, ⟨3, [], 1, 0, 0, ⟨#[]⟩, 0, 0⟩, CnM.zero, 0, [-1, 240, -1, -1, -1]⟩ 0 H j = sC a i t h r (min h H) j := by
  rw [confirm_on (show min h H ≠ 0 by omega)]
  refine (congrArg (fun z => Se.kept z 0) (alive_on ?_)).trans ?_
  · show min h H ≠ 0; omega
  refine (kept_on ?_).trans ?_
  · show min h H ≠ 0; omega
  show (⟨a, i, t, h, r, 2, cn4 (min h H) j, CnM.zero, 0, [-1, dueV 0 1 (min h H), -1, dueV 0 3 ((min h H).tdiv 3), -1]⟩ : Se) = _
  rw [dueV_0 hh, dueV_0 (tdiv3 (by omega) hh).2]
  rfl
theorem feed_sC {H j : Int} (hm : 3 ≤ H) (hh : H ≤ 65535) : feedS (sC a i t h r H j) 0 (msgB (MsL.zero 4)) = (sD a i t h r H j, [ef 4 0]) := by
  rw [feedS_one (s := sC a i t h r H j) (n := 0) (show (4 : Int) ≠ 0 by decide) rfl ka_code (zeroM_in ⟨by decide, by decide⟩)]
  refine (hearD_estab rfl rfl).trans ?_
  have e1 := estab_one (s := ⟨a, i, t, h, r, 2, ⟨4, [], 2, 0, 0, ⟨#[]⟩, H, j⟩, CnM.zero, 0, [-1, H, -1, H.tdiv 3, -1]⟩) (n := 0) (t := sD a i t h r H j) (by
    refine (alive_on (s := ⟨a, i, t, h, r, 2, ⟨5, [], 2, 0, 0, ⟨#[]⟩, H, j⟩, CnM.zero, 0, [-1, H, -1, H.tdiv 3, -1]⟩) (n := 0) (show H ≠ 0 by omega)).trans ?_
    show (⟨a, i, t, h, r, 2, cn5 H j, CnM.zero, 0, [-1, dueV 0 1 H, -1, H.tdiv 3, -1]⟩ : Se) = _
    rw [dueV_0 hh]
    rfl) rfl
  exact Prod.ext e1.1 e1.2
end
section
variable {a i t h r : Int} (w0 w : World) (g : Nat) (p : PeL) (E0 E1 L : List Ent) (d : Ck)
theorem start_new (hA : PeAt g p (Se.new a i t h r) E0 E1 d) (hS0 : St (fun _ => False) w0 w (.row g p.cells :: (E0 ++ (E1 ++ d.L p.gC 0 L)))) (hr : r ≤ 65535) : Calls Tryz.prog 13 #[.pointer (some ⟨g, 0, none⟩)] w fun e w' => EffC w0 w' g [ef 1 0] (sA a i t h r) L e := by
  have hc := start_c w0 w g p (Se.new a i t h r) E0 E1 L d hA hS0
  rw [if_pos (show (Se.new a i t h r).base = 0 from rfl), if_pos (show (Se.new a i t h r).base = 0 from rfl), dial_new hr] at hc
  exact hc
theorem up_new (hA : PeAt g p (sA a i t h r) E0 E1 d) (hG : GF w0) (hS0 : St (fun _ => False) w0 w (.row g p.cells :: (E0 ++ (E1 ++ d.L p.gC 0 L)))) (hok : confOk a i t h r) : Calls Tryz.prog 14 #[.pointer (some ⟨g, 0, none⟩), .int .i64 0] w fun e w' => EffC w0 w' g [⟨2, 0, msgB (openM a h i), (MsL.zero 0).d⟩] (sB a i t h r) L e := by
  have hc := up0_c w0 w g p (sA a i t h r) E0 E1 L d hA hG hS0 (by have := hok.1; show -9223372036854775808 ≤ a ∧ a ≤ 9223372036854775807; omega)
  rw [up_sA.1, up_sA.2, sendE_ok (openM_code hok.1 hok.2.2.2.1 hok.2.2.1)] at hc
  exact hc
end

theorem openM_in' {a h i : Int} (ha : 1 ≤ a ∧ a ≤ 65535) (hh : I64 h) (hi : U32 i) : (openM a h i).In := openM_in (by constructor <;> omega) hh hi
theorem msgB_le {m : MsL} (h : msgC m = 0) : (msgB m).length ≤ 4096 := by
  have := (msgC_bod h).2
  rw [msgB_len]; omega
theorem feed_sB_ok {a i t h r H j : Int} (hc : msgC (openM t H j) = 0) (hI : (openM t H j).In) (hj : j ≠ i) (hm : 3 ≤ min h H) (hh : min h H ≤ 65535) : feedS (sB a i t h r) 0 (msgB (openM t H j)) = (sC a i t h r (min h H) j, [⟨2, 0, msgB (MsL.zero 4), (MsL.zero 0).d⟩]) := by
  rw [feed_sB hc hI]
  refine (openS_ok rfl hj ?_ ?_).trans ?_
  · show (0 : Int) ≠ 5; decide
  · show (0 : Int) ≠ 4; decide
  · rw [confirm_sB hm hh]
    exact congrArg (Prod.mk _) (sendE_ok ka_code)
set_option maxHeartbeats 2000000 in
theorem Head10_c (w0 : World) (hG : GF w0) (hZ : GZ w0) : Calls Tryz.prog 9 #[] w0 fun e w' => e = .returned (.bool true) ∧ Frm (fun _ => False) w0 w' := by
  have hok : confOk 65000 5 65001 90 10 := by decide
  have hoc : msgC (openM 65001 30 9) = 0 := openM_code (by decide) (by decide) (by decide)
  have hoI : (openM 65001 30 9).In := openM_in' (by decide) ⟨by decide, by decide⟩ ⟨by decide, by decide⟩
  have hol : (msgB (openM 65001 30 9)).length ≤ 4096 := msgB_le hoc
  have hkI : (MsL.zero 4).In := zeroM_in ⟨by decide, by decide⟩
  have hkl : (msgB (MsL.zero 4)).length ≤ 4096 := msgB_le ka_code
  have f1 : feedS (sB 65000 5 65001 90 10) 0 (msgB (openM 65001 30 9)) = (sC 65000 5 65001 90 10 30 9, [⟨2, 0, msgB (MsL.zero 4), (MsL.zero 0).d⟩]) := feed_sB_ok (h := 90) hoc hoI (by decide) (by decide) (by decide)
  have f2 : feedS (sC 65000 5 65001 90 10 30 9) 0 (msgB (MsL.zero 4)) = (sD 65000 5 65001 90 10 30 9, [ef 4 0]) := feed_sC (by decide) (by decide)
  refine enter (vs := []) Tryz.func9 rfl Tryz.ntmps9 rfl (St.start (fun _ => False) w0) ?_
  refine cR <| zA rfl <| zR <| zK ck_12 rfl <| ?_
  intro w hS
  refine Calls.then (lconf_c w) hS ?_
  refine zK ck_11 rfl ?_
  intro w1 hS
  refine (new_c w0 w1 [] hS 65000 5 65001 90 10 hok ⟨by decide, by decide⟩).mono ?_
  rintro e w' ⟨g, p, d, rfl, hA, hS'⟩
  refine ⟨_, _, rfl, hS', ?_⟩
  refine zM rfl <| zX rfl <| zX rfl <| zA rfl <| zA rfl <| zN <| cS <| cR <| zM rfl <| ?_
  refine zV ((v_neq rfl rfl rfl).f ((by decide))) rfl ?_
  refine zM rfl <| zS (v_move rfl rfl) rfl <| zS (v_eql_nil false rfl rfl Tryz.underlying40 rfl) rfl <| zQ rfl <| zM rfl <| zS (v_move rfl rfl) rfl <| WL.call rfl rfl ck_13 (.some rfl rfl rfl) rfl rfl <| ?_
  intro w1 hS
  refine (start_new w0 w1 g p [] [] [] d hA hS (by decide)).mono ?_
  rintro e w' ⟨ad1, c1, fs1, EF1, KF1, p1, E01, E11, d1, rfl, hV1, he1, hA1, hS'⟩
  refine ⟨_, EF1 ++ (KF1 ++ (.row g p1.cells :: (E01 ++ (E11 ++ d1.L p1.gC 0 [])))), rfl, hS', ?_⟩
  refine WL.buildSlice rfl rfl Tryz.underlying32 sz_3 zero_3 rfl (by decide) rfl (.some rfl rfl rfl) rfl rfl ?_
  intro g17 hg17
  refine WL.as (L' := .row g17 [.int .i64 1] :: (EF1 ++ (KF1 ++ (.row g p1.cells :: (E01 ++ (E11 ++ d1.L p1.gC 0 [])))))) rfl <| WL.call rfl rfl ck_16 (.some rfl rfl rfl) rfl rfl <| ?_
  intro w hS
  refine Calls.then (kinds_c w ad1 c1 fs1 EF1 hV1.1 (fun e he => hS.holds e (by simp [Ck.L, clkL, he])) (some ⟨g17, 0, none⟩) 1 [1] (fun _ => ⟨g17, 0, rfl, allAt w hS⟩) (efs_kind he1) (by rw [efs_len he1]; decide)) hS ?_
  refine zS (v_not rfl rfl rfl) rfl <| zQ rfl <| zM rfl <| zS (v_move rfl rfl) rfl <| WL.call rfl rfl ck_14 (.some rfl rfl rfl) rfl rfl <| ?_
  intro w1 hS
  refine (up_new w0 w1 g p1 E01 E11 [] d1 hA1 hG (hS.dropK (.row g17 [.int .i64 1] :: (EF1 ++ KF1)) ) hok).mono ?_
  rintro e w' ⟨ad2, c2, fs2, EF2, KF2, p2, E02, E12, d2, rfl, hV2, he2, hA2, hS'⟩
  refine ⟨_, EF2 ++ (KF2 ++ (.row g p2.cells :: (E02 ++ (E12 ++ d2.L p2.gC 0 [])))), rfl, hS', ?_⟩
  refine WL.buildSlice rfl rfl Tryz.underlying32 sz_3 zero_3 rfl (by decide) rfl (.some rfl rfl rfl) rfl rfl ?_
  intro g24 hg24
  refine WL.as (L' := .row g24 [.int .i64 2] :: (EF2 ++ (KF2 ++ (.row g p2.cells :: (E02 ++ (E12 ++ d2.L p2.gC 0 [])))))) rfl <| WL.call rfl rfl ck_16 (.some rfl rfl rfl) rfl rfl <| ?_
  intro w hS
  refine Calls.then (kinds_c w ad2 c2 fs2 EF2 hV2.1 (fun e he => hS.holds e (by simp [Ck.L, clkL, he])) (some ⟨g24, 0, none⟩) 1 [2] (fun _ => ⟨g24, 0, rfl, allAt w hS⟩) (efs_kind he2) (by rw [efs_len he2]; decide)) hS ?_
  refine zS (v_not rfl rfl rfl) rfl <| zQ rfl <| zM rfl <| zS (v_move rfl rfl) rfl <| WL.call rfl rfl ck_22 (.some rfl rfl rfl) rfl rfl <| ?_
  intro w1 hS
  refine (lopen_c w1 9 30 ⟨by decide, by decide⟩ ⟨by decide, by decide⟩ (hG.keep (fun h => h) hS)).mono ?_
  rw [if_pos hoc]
  rintro e w' ⟨_, rfl, ad3, c3, E3, rfl, hV3, hS'⟩
  refine ⟨_, _, rfl, hS.join hS', ?_⟩
  refine WL.call rfl rfl ck_15 (.some rfl rfl rfl) rfl rfl ?_
  intro w1 hS
  have hf := feed0_c w0 w1 g p2 (sB 65000 5 65001 90 10) E02 E12 E3 d2 hA2 hG hZ (show St (fun _ => False) w0 w1 (.row g p2.cells :: (E02 ++ (E12 ++ d2.L p2.gC 0 E3))) from hS.dropK (.row g24 [.int .i64 2] :: (EF2 ++ KF2)) ) ad3 c3 (msgB (openM 65001 30 9)) (fun w h => hV3.cellsAt (fun e he => h.holds e (by simp [Ck.L, clkL, he]))) (msgB_bys hoI hoc) (by omega) ⟨rfl, rfl, rfl⟩ (by decide)
  rw [f1] at hf
  refine hf.mono ?_
  rintro e w' ⟨ad4, c4, fs4, EF4, KF4, p4, E04, E14, d4, rfl, hV4, he4, hA4, hS'⟩
  refine ⟨_, EF4 ++ (KF4 ++ (.row g p4.cells :: (E04 ++ (E14 ++ d4.L p4.gC 0 E3)))), rfl, hS', ?_⟩
  refine WL.buildSlice rfl rfl Tryz.underlying32 sz_3 zero_3 rfl (by decide) rfl (.some rfl rfl rfl) rfl rfl ?_
  intro g32 hg32
  refine WL.as (L' := .row g32 [.int .i64 2] :: (EF4 ++ (KF4 ++ (.row g p4.cells :: (E04 ++ (E14 ++ d4.L p4.gC 0 E3)))))) rfl <| WL.call rfl rfl ck_16 (.some rfl rfl rfl) rfl rfl <| ?_
  intro w hS
  refine Calls.then (kinds_c w ad4 c4 fs4 EF4 hV4.1 (fun e he => hS.holds e (by simp [Ck.L, clkL, he])) (some ⟨g32, 0, none⟩) 1 [2] (fun _ => ⟨g32, 0, rfl, allAt w hS⟩) (efs_kind he4) (by rw [efs_len he4]; decide)) hS ?_
  refine zS (v_not rfl rfl rfl) rfl <| zQ rfl <| zN <| cF rfl <| cK <| eN <| cR <| zM rfl <| ?_
  have b4 : p4.base = 2 := (congrArg Se.base hA4.eq :)
  have s4 : p4.c0.st = 4 := (congrArg (fun z : Se => z.c0.st) hA4.eq :)
  have t4 : p4.c1.st = 0 := (congrArg (fun z : Se => z.c1.st) hA4.eq :)
  refine zK ck_18 rfl ?_
  intro w hS
  refine Calls.then (state_c w g p4 (hS.row (g := g))) hS ?_
  refine zV ((v_eql rfl rfl rfl).t ((by rw [b4, s4, t4]; decide))) rfl ?_
  refine zM rfl <| zS (v_move rfl rfl) rfl <| zS (v_build rfl rfl zero_39 plc_39 rfl) rfl <| WL.call rfl rfl ck_23 (.some rfl rfl rfl) rfl rfl <| ?_
  intro w1 hS
  refine (lbytes_c w1 (MsL.zero 4) (zero4_at _) hkI (hG.keep (fun h => h) hS) (Nat.zero_le _) (Nat.zero_le _)).mono ?_
  rw [if_pos ka_code]
  rintro e w' ⟨_, rfl, ad5, c5, E5, rfl, hV5, hS'⟩
  refine ⟨_, _, rfl, hS.join hS', ?_⟩
  refine WL.call rfl rfl ck_15 (.some rfl rfl rfl) rfl rfl ?_
  intro w1 hS
  have hf := feed0_c w0 w1 g p4 (sC 65000 5 65001 90 10 30 9) E04 E14 E5 d4 hA4 hG hZ (show St (fun _ => False) w0 w1 (.row g p4.cells :: (E04 ++ (E14 ++ d4.L p4.gC 0 E5))) from hS.dropK (.row g32 [.int .i64 2] :: (EF4 ++ (KF4 ++ E3))) ) ad5 c5 (msgB (MsL.zero 4)) (fun w h => hV5.cellsAt (fun e he => h.holds e (by simp [Ck.L, clkL, he]))) (msgB_bys hkI ka_code) (by omega) ⟨rfl, rfl, rfl⟩ (by decide)
  rw [f2] at hf
  refine hf.mono ?_
  rintro e w' ⟨ad6, c6, fs6, EF6, KF6, p6, E06, E16, d6, rfl, hV6, he6, hA6, hS'⟩
  refine ⟨_, EF6 ++ (KF6 ++ (.row g p6.cells :: (E06 ++ (E16 ++ d6.L p6.gC 0 E5)))), rfl, hS', ?_⟩
  refine WL.buildSlice rfl rfl Tryz.underlying32 sz_3 zero_3 rfl (by decide) rfl (.some rfl rfl rfl) rfl rfl ?_
  intro g44 hg44
  refine WL.as (L' := .row g44 [.int .i64 4] :: (EF6 ++ (KF6 ++ (.row g p6.cells :: (E06 ++ (E16 ++ d6.L p6.gC 0 E5)))))) rfl <| WL.call rfl rfl ck_16 (.some rfl rfl rfl) rfl rfl <| ?_
  intro w hS
  refine Calls.then (kinds_c w ad6 c6 fs6 EF6 hV6.1 (fun e he => hS.holds e (by simp [Ck.L, clkL, he])) (some ⟨g44, 0, none⟩) 1 [4] (fun _ => ⟨g44, 0, rfl, allAt w hS⟩) (efs_kind he6) (by rw [efs_len he6]; decide)) hS ?_
  refine zP rfl <| zM rfl <| zS (v_move rfl rfl) rfl <| ?_
  have b6 : p6.base = 2 := (congrArg Se.base hA6.eq :)
  have s6 : p6.c0.st = 5 := (congrArg (fun z : Se => z.c0.st) hA6.eq :)
  have t6 : p6.c1.st = 0 := (congrArg (fun z : Se => z.c1.st) hA6.eq :)
  have i6 : p6.c0.id = 9 := (congrArg (fun z : Se => z.c0.id) hA6.eq :)
  refine WL.call rfl rfl ck_18 (.some rfl rfl rfl) rfl rfl ?_
  intro w hS
  refine Calls.then (state_c w g p6 (hS.row (g := g))) hS ?_
  refine zS ((v_eql rfl rfl rfl).t ((by rw [b6, s6, t6]; decide))) rfl ?_
  refine zP rfl <| zM rfl <| zS (v_move rfl rfl) rfl <| WL.call rfl rfl ck_21 (.some rfl rfl rfl) rfl rfl <| ?_
  intro w hS
  refine Calls.then (their_c w g p6 (hS.row (g := g))) hS ?_
  refine zS ((v_eql rfl rfl rfl).t ((by unfold theirP; rw [if_pos s6]; exact i6))) rfl ?_
  refine zP rfl <| zA rfl <| zN <| cE <| tR Tryz.results9 rfl <| ?_
  exact fun w' h => ⟨rfl, h.frm⟩

structure Keeps (P : Se → Prop) : Prop where
  free : ∀ s b now D, P s → P { s with base := b, now := now, D := D }
  zero : ∀ s n, n < 2 → P s → P (s.set n CnM.zero)
  sent : ∀ s n, n < 2 → P s → P (s.set n sentC)
  conf : ∀ s n h i, n < 2 → (h = 0 ∨ 3 ≤ h) → P s → P (s.set n { s.c n with st := 4, hold := min s.hold h, id := i })
  est : ∀ s n, n < 2 → (s.c n).st ≠ 0 → P s → P (s.set n { s.c n with st := 5 })
section
variable {P : Se → Prop} (K : Keeps P)
include K
theorem Keeps.due {s : Se} (h : P s) (n : Nat) (l : Int) : P (s.due n l) := K.free s s.base s.now _ h
theorem Keeps.cut {s : Se} (h : P s) (n : Nat) (hn : n < 2) : P (s.cut n) := K.free (s.set n CnM.zero) (s.set n CnM.zero).base (s.set n CnM.zero).now _ (K.zero s n hn h)
theorem Keeps.dial {s : Se} (h : P s) : P s.dial := K.due (K.free s 1 s.now s.D h) 0 _
theorem Keeps.gone {s : Se} (h : P s) (n : Nat) (hn : n < 2) : P (s.gone n) := by
  have hc := K.cut h n hn
  unfold Se.gone
  split
  · exact K.due (K.free (s.cut n) _ (s.cut n).now (s.cut n).D hc) 0 _
  · exact hc
theorem Keeps.alive {s : Se} (h : P s) (n : Nat) : P (s.alive n) := by
  unfold Se.alive
  split
  · exact h
  · exact K.due h _ _
theorem Keeps.kept {s : Se} (h : P s) (n : Nat) : P (s.kept n) := by
  unfold Se.kept
  split
  · exact h
  · exact K.due h _ _
theorem Keeps.confirm {s : Se} (h : P s) (n : Nat) (hn : n < 2) (H i : Int) (hH : H = 0 ∨ 3 ≤ H) : P (s.confirm n H i) := by
  have h4 : P (s.conf4 n H i) := K.conf s n H i hn hH h
  unfold Se.confirm
  split
  · exact K.free (s.conf4 n H i) (s.conf4 n H i).base (s.conf4 n H i).now _ h4
  · exact K.kept (K.alive h4 n) n
theorem Keeps.openS {s : Se} (h : P s) (n : Nat) (hn : n < 2) (a H i : Int) (hH : H = 0 ∨ 3 ≤ H) : P (openS s n a H i).1 := by
  unfold YtcmpamnhegndnaaGreatDoor.openS
  repeat' split
  all_goals first | exact K.gone h n hn | exact K.confirm h n hn H i hH | exact K.confirm (K.gone h (1 - n) (by omega)) n hn H i hH
theorem Keeps.up5 {s : Se} (h : P s) (n : Nat) (hn : n < 2) (h0 : (s.c n).st ≠ 0) : P (s.up5 n) := K.alive (K.est s n hn h0 h) n
theorem Keeps.establish {s : Se} (h : P s) (n : Nat) (hn : n < 2) (h0 : (s.c n).st ≠ 0) : P (s.establish n) := by
  have h5 := K.up5 h n hn h0
  unfold Se.establish
  split
  · exact h5
  · exact K.gone h5 (1 - n) (by omega)
theorem Keeps.hearD {s : Se} (h : P s) (n : Nat) (hn : n < 2) (m : MsD) (hm : m.hold = 0 ∨ 3 ≤ m.hold) : P (hearD s n m).1 := by
  unfold YtcmpamnhegndnaaGreatDoor.hearD
  split
  · exact K.gone h n hn
  split
  · exact K.openS h n hn _ _ _ hm
  split
  · rename_i h4
    exact K.establish h n hn (by rw [h4.2]; decide)
  split
  · exact K.alive h n
  split
  · exact K.alive h n
  · exact K.gone h n hn
theorem Keeps.heardD (n : Nat) (hn : n < 2) : ∀ (ms : List MsD) {s : Se}, P s → (∀ m ∈ ms, m.Fit) → P (heardD n s ms).1
  | [], s, h, _ => h
  | m :: ms, s, h, hm => by
    unfold YtcmpamnhegndnaaGreatDoor.heardD
    split
    · exact h
    · exact Keeps.heardD n hn ms (K.hearD h n hn m ((hm m (List.mem_cons_self ..)).hold.imp id And.left)) fun x hx => hm x (List.mem_cons_of_mem _ hx)
theorem Keeps.endF {n : Nat} (hn : n < 2) {f : Option (Int × Int × ByteArray)} {y : Se × List EfD} (h : P y.1) : P (endF n f y).1 := by
  unfold YtcmpamnhegndnaaGreatDoor.endF
  split
  · exact h
  · split
    · exact h
    · exact K.gone h n hn
theorem Keeps.up {s : Se} (h : P s) (n : Nat) (hn : n < 2) : P (s.up n) := by
  unfold Se.up
  split
  · exact h
  · exact K.due (K.free (s.set n sentC) _ (s.set n sentC).now _ (K.sent s n hn h)) _ _
theorem Keeps.down {s : Se} (h : P s) (n : Nat) (hn : n < 2) : P (s.down n) := by
  unfold Se.down
  split
  · exact K.gone h n hn
  split
  · exact h
  split
  · exact K.due (K.free s 2 s.now s.D h) _ _
  · exact K.free s 2 s.now s.D h
theorem Keeps.stopF {s : Se} (h : P s) : ∀ k, k ≤ 2 → P (stopF s k).1
  | 0, _ => h
  | k + 1, hk => by
    have h1 := Keeps.stopF h k (by omega)
    unfold YtcmpamnhegndnaaGreatDoor.stopF YtcmpamnhegndnaaGreatDoor.stop1
    dsimp only
    split
    · exact h1
    · exact K.gone h1 k (by omega)
theorem Keeps.stopS {s : Se} (h : P s) : P (stopS s).1 := by
  unfold YtcmpamnhegndnaaGreatDoor.stopS
  split
  · exact h
  · exact K.stopF (K.free s 0 s.now _ h) 2 (Nat.le_refl _)
theorem Keeps.fireS {s : Se} (h : P s) (n : Nat) (t : Int) : P (fireS s n t).1 := by
  have h' : ∀ n, P { s with now := t, D := s.D.set n (-1) } := fun n => K.free s s.base t _ h
  unfold YtcmpamnhegndnaaGreatDoor.fireS
  split
  · exact K.dial (h' 0)
  · exact K.gone (h' 1) 0 (by decide)
  · exact K.gone (h' 2) 1 (by decide)
  · exact K.kept (h' 3) 0
  · exact K.kept (h' 4) 1
theorem Keeps.tick {T : Int} {s s' : Se} {es : List EfD} (hr : TickR T s es s') (h : P s) : P s' := by
  induction hr with
  | done _ => exact K.free _ _ T _ h
  | fire _ _ ih => exact ih (K.fireS h _ _)
end
theorem cset (s : Se) (n k : Nat) (c : CnM) (hn : n < 2) (hk : k < 2) : (s.set n c).c k = if k = n then c else s.c k := by
  match n, k, hn, hk with
  | 0, 0, _, _ => rfl
  | 0, 1, _, _ => rfl
  | 1, 0, _, _ => rfl
  | 1, 1, _, _ => rfl
theorem cset_asn (s : Se) (n : Nat) (c : CnM) : (s.set n c).asn = s.asn ∧ (s.set n c).hold = s.hold ∧ (s.set n c).base = s.base ∧ (s.set n c).their = s.their ∧ (s.set n c).id = s.id ∧ (s.set n c).retry = s.retry := by
  unfold Se.set
  split <;> exact ⟨rfl, rfl, rfl, rfl, rfl, rfl⟩
def CnM.Wf (N : Int) (c : CnM) : Prop := (c.hold = 0 ∨ 3 ≤ c.hold) ∧ (c.st = 0 → c = CnM.zero) ∧ c.count ≤ N
structure Se.Wf (N : Int) (s : Se) : Prop where
  asn : I64 s.asn
  hold : s.hold = 0 ∨ 3 ≤ s.hold
  c : ∀ n, n < 2 → (s.c n).Wf N
theorem zero_wf {N : Int} (h : 0 ≤ N) : CnM.zero.Wf N := ⟨.inl rfl, fun _ => rfl, h⟩
theorem wf_set {N : Int} {s : Se} (h : s.Wf N) {n : Nat} (hn : n < 2) {c : CnM} (hc : c.Wf N) : (s.set n c).Wf N := by
  have e := cset_asn s n c
  refine ⟨by rw [e.1]; exact h.asn, by rw [e.2.1]; exact h.hold, fun k hk => ?_⟩
  rw [cset s n k c hn hk]
  split
  · exact hc
  · exact h.c k hk
theorem wf_keeps {N : Int} (hN : 0 ≤ N) : Keeps (Se.Wf N) where
  free s b now D h := ⟨h.asn, h.hold, h.c⟩
  zero s n hn h := wf_set h hn (zero_wf hN)
  sent s n hn h := wf_set h hn ⟨.inl rfl, fun e => absurd e (by decide), hN⟩
  conf s n H i hn hH h := wf_set h hn ⟨by have := h.hold; show min s.hold H = 0 ∨ 3 ≤ min s.hold H; omega, fun e => absurd (show (4 : Int) = 0 from e) (by decide), (h.c n hn).2.2⟩
  est s n hn _ h := wf_set h hn ⟨(h.c n hn).1, fun e => absurd (show (5 : Int) = 0 from e) (by decide), (h.c n hn).2.2⟩
def Clean (n : Nat) (s : Se) : Prop := (s.c n).fc = 0 ∧ (s.c n).fs = 0 ∧ (s.c n).fd = ⟨#[]⟩
theorem clean_keeps {k : Nat} (hk : k < 2) : Keeps (Clean k) where
  free s b now D h := h
  zero s n hn h := by
    unfold Clean
    rw [cset s n k _ hn hk]
    split
    · exact ⟨rfl, rfl, rfl⟩
    · exact h
  sent s n hn h := by
    unfold Clean
    rw [cset s n k _ hn hk]
    split
    · exact ⟨rfl, rfl, rfl⟩
    · exact h
  conf s n H i hn hH h := by
    unfold Clean
    rw [cset s n k _ hn hk]
    split
    · rename_i e; subst e; exact h
    · exact h
  est s n hn _ h := by
    unfold Clean
    rw [cset s n k _ hn hk]
    split
    · rename_i e; subst e; exact h
    · exact h
structure Se.Fine (N : Int) (s : Se) : Prop where
  wf : s.Wf N
  c0 : Clean 0 s
  c1 : Clean 1 s
theorem Se.Fine.clean {N : Int} {s : Se} (h : s.Fine N) (n : Nat) (hn : n < 2) : Clean n s := by
  match n, hn with
  | 0, _ => exact h.c0
  | 1, _ => exact h.c1
theorem Se.Fine.fit {N : Int} {s : Se} (h : s.Fine N) : s.Fit := fun n hn => (h.wf.c n hn).1
theorem fine_of {N : Int} {s : Se} (h : s.Wf N) (hc : ∀ n, n < 2 → Clean n s) : s.Fine N := ⟨h, hc 0 (by decide), hc 1 (by decide)⟩
theorem fine_keeps {N : Int} (hN : 0 ≤ N) : Keeps (Se.Fine N) where
  free s b now D h := ⟨(wf_keeps hN).free s b now D h.wf, h.c0, h.c1⟩
  zero s n hn h := ⟨(wf_keeps hN).zero s n hn h.wf, (clean_keeps (by decide)).zero s n hn h.c0, (clean_keeps (by decide)).zero s n hn h.c1⟩
  sent s n hn h := ⟨(wf_keeps hN).sent s n hn h.wf, (clean_keeps (by decide)).sent s n hn h.c0, (clean_keeps (by decide)).sent s n hn h.c1⟩
  conf s n H i hn hH h := ⟨(wf_keeps hN).conf s n H i hn hH h.wf, (clean_keeps (by decide)).conf s n H i hn hH h.c0, (clean_keeps (by decide)).conf s n H i hn hH h.c1⟩
  est s n hn h0 h := ⟨(wf_keeps hN).est s n hn h0 h.wf, (clean_keeps (by decide)).est s n hn h0 h.c0, (clean_keeps (by decide)).est s n hn h0 h.c1⟩
theorem fine_mono {N M : Int} {s : Se} (h : s.Fine N) (hM : N ≤ M) : s.Fine M := ⟨⟨h.wf.asn, h.wf.hold, fun n hn => ⟨(h.wf.c n hn).1, (h.wf.c n hn).2.1, Int.le_trans (h.wf.c n hn).2.2 hM⟩⟩, h.c0, h.c1⟩
theorem fine_feed {N : Int} (hN : 0 ≤ N) {s : Se} (h : s.Fine N) (n : Nat) (hn : n < 2) (bs : List Int) (hB : Bys ((s.c n).wait ++ bs)) : (feedS s n bs).1.Fine (N + ((s.c n).wait ++ bs).length) := by
  unfold feedS
  split
  · exact fine_mono h (by omega)
  rename_i h0
  have hff := feedM_fit _ [] _ (Nat.le_refl _) hB (fun m hm => by cases hm)
  have hbo := feedM_both _ [] ((s.c n).wait ++ bs) _ _ _ (Nat.le_refl _) rfl
  rw [List.length_nil] at hbo
  have hfed : (s.fed n bs).Wf (N + ((s.c n).wait ++ bs).length) := by
    refine wf_set (fine_mono h (by omega)).wf hn ⟨(h.wf.c n hn).1, fun e => absurd e h0, ?_⟩
    have := (h.wf.c n hn).2.2
    show (s.c n).count + ((feedM [] ((s.c n).wait ++ bs)).1.length : Int) ≤ _
    omega
  have K := wf_keeps (N := N + ((s.c n).wait ++ bs).length) (by omega)
  have hwf := K.endF hn (f := (feedM [] ((s.c n).wait ++ bs)).2.1) (K.heardD n hn _ hfed hff.1)
  refine fine_of hwf fun k hk => ?_
  by_cases e : k = n
  · subst e
    have hz : ∀ {t : Se}, t.Wf (N + ((s.c k).wait ++ bs).length) → (t.c k).st = 0 → Clean k t := fun ht hz => by
      unfold Clean
      rw [(ht.c k hk).2.1 hz]
      exact ⟨rfl, rfl, rfl⟩
    have hw1 := K.heardD k hk _ hfed hff.1
    cases hf : (feedM [] ((s.c k).wait ++ bs)).2.1 with
    | none =>
      have hcl : Clean k (s.fed k bs) := by
        unfold Clean
        rw [show (s.fed k bs).c k = (s.c k).fed (feedM [] ((s.c k).wait ++ bs)) from (cset _ _ _ _ hk hk).trans (if_pos rfl)]
        unfold CnM.fed
        rw [hf]
        exact ⟨rfl, rfl, rfl⟩
      exact (clean_keeps hk).endF hk ((clean_keeps hk).heardD k hk _ hcl hff.1)
    | some f =>
      unfold endF
      split
      · rename_i hz0
        exact hz hw1 hz0
      · dsimp only
        unfold Clean
        rw [gone_c _ k k hk hk, if_pos rfl]
        exact ⟨rfl, rfl, rfl⟩
  · have hcl : Clean k (s.fed n bs) := by
      unfold Clean
      rw [show (s.fed n bs).c k = s.c k from (cset _ _ _ _ hn hk).trans (if_neg e)]
      exact h.clean k hk
    exact (clean_keeps hk).endF hn ((clean_keeps hk).heardD n hn _ hcl hff.1)

section
variable (w0 w : World) (g : Nat) (p : PeL) (s : Se) (E0 E1 L : List Ent) (d : Ck) (hA : PeAt g p s E0 E1 d) (hS0 : St (fun _ => False) w0 w (.row g p.cells :: (E0 ++ (E1 ++ d.L p.gC s.now L)))) (n : Int) (h : n ≠ 0 ∧ n ≠ 1)
include hA hS0 h
theorem up_out : Calls Tryz.prog 14 #[.pointer (some ⟨g, 0, none⟩), .int .i64 n] w fun e w' => EffC w0 w' g [] s L e := by
  refine enter Tryz.func14 rfl Tryz.ntmps14 rfl hS0 ?_
  refine cR <| zA rfl <| zN <| cS <| cR <| zM rfl <| zV (v_eql_nil false rfl rfl Tryz.underlying40 rfl) rfl <| zM rfl <| zS (v_move rfl rfl) rfl <| zS ((v_neq rfl rfl rfl).t (h.1)) rfl <| zS (v_move rfl rfl) rfl <| zS (v_move rfl rfl) rfl <| ?_
  refine zS ((v_neq rfl rfl rfl).t (h.2)) rfl <| zS (v_pick_t rfl rfl rfl) rfl <| zQ rfl <| zN <| cT rfl <| cR <| zA rfl <| zN <| cE <| eR <| tR Tryz.results14 rfl <| ?_
  exact fun w' h => ⟨none, 0, [], [], [], p, E0, E1, d, rfl, ⟨Vec.nil 23, fun e he => by cases he⟩, rfl, hA, h⟩
theorem down_out : Calls Tryz.prog 20 #[.pointer (some ⟨g, 0, none⟩), .int .i64 n] w fun e w' => EffC w0 w' g [] s L e := by
  refine enter Tryz.func20 rfl Tryz.ntmps20 rfl hS0 ?_
  refine cR <| zA rfl <| zN <| cS <| cR <| zM rfl <| zM rfl <| zK ck_51 rfl <| ?_
  intro w hS
  refine Calls.then (there_out w g n h) hS ?_
  refine zN <| cF rfl <| cK <| eN <| cS <| cR <| zM rfl <| zV (v_eql_nil false rfl rfl Tryz.underlying40 rfl) rfl <| zM rfl <| zS (v_move rfl rfl) rfl <| zS ((v_neq rfl rfl rfl).t (h.1)) rfl <| zQ rfl <| zM rfl <| ?_
  iterate 5 refine WL.sk rfl ?_
  refine zP rfl <| zN <| cT rfl <| cR <| zA rfl <| zN <| cE <| eR <| tR Tryz.results20 rfl <| ?_
  exact fun w' h => ⟨none, 0, [], [], [], p, E0, E1, d, rfl, ⟨Vec.nil 23, fun e he => by cases he⟩, rfl, hA, h⟩
theorem feed_out (v : Value) : Calls Tryz.prog 15 #[.pointer (some ⟨g, 0, none⟩), .int .i64 n, v] w fun e w' => EffC w0 w' g [] s L e := by
  refine enter Tryz.func15 rfl Tryz.ntmps15 rfl hS0 ?_
  refine cR <| zA rfl <| zN <| cS <| cR <| zM rfl <| zM rfl <| zK ck_51 rfl <| ?_
  intro w hS
  refine Calls.then (there_out w g n h) hS ?_
  refine zV (v_not rfl rfl rfl) rfl <| zN <| cT rfl <| cR <| zA rfl <| zN <| cE <| eR <| tR Tryz.results15 rfl <| ?_
  exact fun w' h => ⟨none, 0, [], [], [], p, E0, E1, d, rfl, ⟨Vec.nil 23, fun e he => by cases he⟩, rfl, hA, h⟩
end
def upA (s : Se) (n : Int) : Se × List EfD := if n = 0 then (s.up 0, upE s 0) else if n = 1 then (s.up 1, upE s 1) else (s, [])
def downA (s : Se) (n : Int) : Se × List EfD := if n = 0 then (s.down 0, downE s 0) else if n = 1 then (s.down 1, downE s 1) else (s, [])
def feedA (s : Se) (n : Int) (bs : List Int) : Se × List EfD := if n = 0 then feedS s 0 bs else if n = 1 then feedS s 1 bs else (s, [])
section
variable (w0 w : World) (g : Nat) (p : PeL) (s : Se) (E0 E1 L : List Ent) (d : Ck) (hA : PeAt g p s E0 E1 d) (hG : GF w0) (hS0 : St (fun _ => False) w0 w (.row g p.cells :: (E0 ++ (E1 ++ d.L p.gC s.now L)))) (n : Int)
include hA hG hS0
theorem up_any (ha : I64 s.asn) : Calls Tryz.prog 14 #[.pointer (some ⟨g, 0, none⟩), .int .i64 n] w fun e w' => EffC w0 w' g (upA s n).2 (upA s n).1 L e := by
  unfold upA
  split
  · rename_i e; subst e; exact up0_c w0 w g p s E0 E1 L d hA hG hS0 ha
  split
  · rename_i e; subst e; exact up1_c w0 w g p s E0 E1 L d hA hG hS0 ha
  · exact up_out w0 w g p s E0 E1 L d hA hS0 n ⟨by assumption, by assumption⟩
omit hG in
theorem down_any : Calls Tryz.prog 20 #[.pointer (some ⟨g, 0, none⟩), .int .i64 n] w fun e w' => EffC w0 w' g (downA s n).2 (downA s n).1 L e := by
  unfold downA
  split
  · rename_i e; subst e; exact down0_c w0 w g p s E0 E1 L d hA hS0
  split
  · rename_i e; subst e; exact down1_c w0 w g p s E0 E1 L d hA hS0
  · exact down_out w0 w g p s E0 E1 L d hA hS0 n ⟨by assumption, by assumption⟩
theorem feed_any (hZ : GZ w0) {N : Int} (hF : s.Fine N) (hN : N ≤ 3000000000000000000) (ba : Option Addr) (bc : Nat) (bs : List Int) (hb : ∀ w, St (fun _ => False) w0 w (.row g p.cells :: (E0 ++ (E1 ++ d.L p.gC s.now L))) → CellsAt w ba (u8s bs)) (hB : Bys bs) (hn : bs.length ≤ 40000) :
    Calls Tryz.prog 15 #[.pointer (some ⟨g, 0, none⟩), .int .i64 n, .slice ba bs.length bc] w fun e w' => EffC w0 w' g (feedA s n bs).2 (feedA s n bs).1 L e := by
  unfold feedA
  split
  · rename_i e; subst e; exact feed0_c w0 w g p s E0 E1 L d hA hG hZ hS0 ba bc bs hb hB hn hF.c0 (Int.le_trans (hF.wf.c 0 (by decide)).2.2 hN)
  split
  · rename_i e; subst e; exact feed1_c w0 w g p s E0 E1 L d hA hG hZ hS0 ba bc bs hb hB hn hF.c1 (Int.le_trans (hF.wf.c 1 (by decide)).2.2 hN)
  · exact feed_out w0 w g p s E0 E1 L d hA hS0 n ⟨by assumption, by assumption⟩ _
end
theorem up_fine {N : Int} (hN : 0 ≤ N) {s : Se} (h : s.Fine N) (n : Int) : (upA s n).1.Fine N := by
  unfold upA
  split
  · exact (fine_keeps hN).up h 0 (by decide)
  split
  · exact (fine_keeps hN).up h 1 (by decide)
  · exact h
theorem down_fine {N : Int} (hN : 0 ≤ N) {s : Se} (h : s.Fine N) (n : Int) : (downA s n).1.Fine N := by
  unfold downA
  split
  · exact (fine_keeps hN).down h 0 (by decide)
  split
  · exact (fine_keeps hN).down h 1 (by decide)
  · exact h
theorem feed_fine {N : Int} (hN : 0 ≤ N) {s : Se} (h : s.Fine N) (n : Int) (bs : List Int) (hb : Bys bs) (hw : ∀ k, k < 2 → Bys (s.c k).wait ∧ (s.c k).wait.length ≤ 4096) (hl : bs.length ≤ 40000) : (feedA s n bs).1.Fine (N + 50000) := by
  unfold feedA
  split
  · have := hw 0 (by decide)
    exact fine_mono (fine_feed hN h 0 (by decide) bs (Bys.app this.1 hb)) (by rw [List.length_append]; omega)
  split
  · have := hw 1 (by decide)
    exact fine_mono (fine_feed hN h 1 (by decide) bs (Bys.app this.1 hb)) (by rw [List.length_append]; omega)
  · exact fine_mono h (by omega)
theorem PeAt.waits {g : Nat} {p : PeL} {s : Se} {E0 E1 : List Ent} {d : Ck} (hA : PeAt g p s E0 E1 d) : ∀ k, k < 2 → Bys (s.c k).wait ∧ (s.c k).wait.length ≤ 4096 := fun k hk => by
  have h0 : p.c0.m = s.c0 := (congrArg Se.c0 hA.eq :)
  have h1 : p.c1.m = s.c1 := (congrArg Se.c1 hA.eq :)
  match k, hk with
  | 0, _ => exact ⟨by rw [show (s.c 0).wait = p.c0.rd.wait from (congrArg CnM.wait h0 :).symm]; exact hA.b0, hA.ok0.2.1⟩
  | 1, _ => exact ⟨by rw [show (s.c 1).wait = p.c1.rd.wait from (congrArg CnM.wait h1 :).symm]; exact hA.b1, hA.ok1.2.1⟩
theorem new_fine {a i t h r : Int} (ha : 1 ≤ a ∧ a ≤ 65535) (hh : h = 0 ∨ 3 ≤ h) : (Se.new a i t h r).Fine 0 :=
  ⟨⟨⟨by show _ ≤ a; omega, by show a ≤ _; omega⟩, hh, fun n hn => by
    match n, hn with
    | 0, _ => exact zero_wf (Int.le_refl _)
    | 1, _ => exact zero_wf (Int.le_refl _)⟩, ⟨rfl, rfl, rfl⟩, ⟨rfl, rfl, rfl⟩⟩

def turnE : Bool → List EfD → Option Bool
  | u, [] => some u
  | u, e :: es => if e.kind = 4 then (if u = true then none else turnE true es) else if e.kind = 5 then (if u = true then turnE false es else none) else if e.kind = 6 then (if u = true then turnE u es else none) else turnE u es
def lv (s : Se) : Bool := decide ((s.c 0).st = 5 ∨ (s.c 1).st = 5)
def Jt (s : Se) : Prop := ∀ n, n < 2 → (s.c n).st = 5 → (s.c (1 - n)).st ≠ 5 ∧ (s.c (1 - n)).st ≠ 4
def Turn (s : Se) (es : List EfD) (t : Se) : Prop := turnE (lv s) es = some (lv t) ∧ Jt t
theorem turnE_cons (u : Bool) (e : EfD) (es : List EfD) : turnE u (e :: es) = if e.kind = 4 then (if u = true then none else turnE true es) else if e.kind = 5 then (if u = true then turnE false es else none) else if e.kind = 6 then (if u = true then turnE u es else none) else turnE u es := rfl
theorem turnE_app : ∀ (xs ys : List EfD) (u : Bool), turnE u (xs ++ ys) = (turnE u xs).bind fun v => turnE v ys
  | [], ys, u => rfl
  | e :: xs, ys, u => by
    rw [List.cons_append, turnE_cons, turnE_cons]
    split
    · split
      · rfl
      · exact turnE_app xs ys true
    split
    · split
      · exact turnE_app xs ys false
      · rfl
    split
    · split
      · exact turnE_app xs ys u
      · rfl
    · exact turnE_app xs ys u
theorem Turn.trans {s t r : Se} {xs ys : List EfD} (h : Turn s xs t) (h' : Turn t ys r) : Turn s (xs ++ ys) r := ⟨by rw [turnE_app, h.1]; exact h'.1, h'.2⟩
theorem lv_of {s t : Se} (h : ∀ k, k < 2 → (t.c k).st = (s.c k).st) : lv t = lv s := by
  unfold lv
  rw [h 0 (by decide), h 1 (by decide)]
theorem jt_of {s t : Se} (hJ : Jt s) (h : ∀ k, k < 2 → (t.c k).st = (s.c k).st) : Jt t := fun n hn h5 => by
  rw [h n hn] at h5
  rw [h (1 - n) (by omega)]
  exact hJ n hn h5
theorem Turn.same {s t : Se} (hJ : Jt s) (h : ∀ k, k < 2 → (t.c k).st = (s.c k).st) : Turn s [] t := ⟨by rw [lv_of h]; rfl, jt_of hJ h⟩
theorem turnE_mute {u : Bool} {e : EfD} {es : List EfD} (h : e.kind = 1 ∨ e.kind = 2 ∨ e.kind = 3) : turnE u (e :: es) = turnE u es := by
  rw [turnE_cons, if_neg (by omega), if_neg (by omega), if_neg (by omega)]
theorem turnE_mutes : ∀ (xs ys : List EfD) (u : Bool), (∀ e ∈ xs, e.kind = 1 ∨ e.kind = 2 ∨ e.kind = 3) → turnE u (xs ++ ys) = turnE u ys
  | [], ys, u, _ => rfl
  | e :: xs, ys, u, h => by
    rw [List.cons_append, turnE_mute (h e (List.mem_cons_self ..))]
    exact turnE_mutes xs ys u fun x hx => h x (List.mem_cons_of_mem _ hx)
theorem sendE_mute (n : Int) (m : MsL) : ∀ e ∈ sendE n m, e.kind = 1 ∨ e.kind = 2 ∨ e.kind = 3 := fun e he => by
  unfold sendE at he
  split at he
  · obtain rfl := List.mem_singleton.1 he; exact .inr (.inl rfl)
  · cases he
theorem lv_yes {s : Se} {n : Nat} (hn : n < 2) (h : (s.c n).st = 5) : lv s = true := by
  unfold lv
  match n, hn with
  | 0, _ => exact decide_eq_true (.inl h)
  | 1, _ => exact decide_eq_true (.inr h)
theorem lv_no {s : Se} {n : Nat} (hn : n < 2) (h : (s.c n).st ≠ 5) (h' : (s.c (1 - n)).st ≠ 5) : lv s = false := by
  unfold lv
  match n, hn with
  | 0, _ => exact decide_eq_false (fun hh => hh.elim h h')
  | 1, _ => exact decide_eq_false (fun hh => hh.elim h' h)
theorem other_ne {n : Nat} (hn : n < 2) : 1 - n ≠ n := by omega
theorem turn_gone {s : Se} (hJ : Jt s) (n : Nat) (hn : n < 2) : Turn s (goneE s n) (s.gone n) := by
  have hc := fun k hk => gone_c s n k hn hk
  have h0 : ((s.gone n).c n).st = 0 := by rw [hc n hn, if_pos rfl]; rfl
  have h1 : ((s.gone n).c (1 - n)).st = (s.c (1 - n)).st := by rw [hc (1 - n) (by omega), if_neg (other_ne hn)]
  have hJ' : Jt (s.gone n) := fun k hk h5 => by
    by_cases e : k = n
    · subst e; rw [h0] at h5; cases h5
    · obtain rfl : k = 1 - n := by omega
      rw [show 1 - (1 - n) = n by omega, h0]
      exact ⟨by decide, by decide⟩
  refine ⟨?_, hJ'⟩
  unfold goneE
  split
  · rename_i h5
    have ho := hJ n hn h5
    rw [lv_yes hn h5, lv_no hn (by rw [h0]; decide) (by rw [h1]; exact ho.1)]
    rfl
  · rename_i h5
    show some _ = some _
    by_cases ho : (s.c (1 - n)).st = 5
    · rw [lv_yes (n := 1 - n) (by omega) ho, lv_yes (s := s.gone n) (n := 1 - n) (by omega) (by rw [h1]; exact ho)]
    · rw [lv_no hn h5 ho, lv_no (s := s.gone n) hn (by rw [h0]; decide) (by rw [h1]; exact ho)]
theorem turn_close {s : Se} (hJ : Jt s) (n : Nat) (hn : n < 2) : Turn s (closeE s n) (s.gone n) := by
  have h := turn_gone hJ n hn
  exact ⟨(turnE_mute (e := ef 3 n) (.inr (.inr rfl))).trans h.1, h.2⟩
theorem turn_end {s : Se} (hJ : Jt s) (n : Nat) (hn : n < 2) (C S : Int) (d : ByteArray) : Turn s (endE s n C S d) (s.gone n) := by
  have h := turn_close hJ n hn
  refine ⟨?_, h.2⟩
  unfold endE
  split
  · exact h.1
  · rw [turnE_mutes _ _ _ (sendE_mute _ _)]; exact h.1
theorem confirm_c (s : Se) (n k : Nat) (H i : Int) (hn : n < 2) (hk : k < 2) : (s.confirm n H i).c k = if k = n then { s.c n with st := 4, hold := min s.hold H, id := i } else s.c k := by
  have h : (s.conf4 n H i).c k = if k = n then { s.c n with st := 4, hold := min s.hold H, id := i } else s.c k := cset s n k _ hn hk
  unfold Se.confirm
  split
  · exact h
  · rw [kept_cn, alive_c]; exact h
theorem turn_confirm {s : Se} (n : Nat) (hn : n < 2) (h3 : (s.c n).st ≠ 5) (ho : (s.c (1 - n)).st ≠ 5) (H i : Int) (m : MsL) : Turn s (sendE n m) (s.confirm n H i) := by
  have h0 : ((s.confirm n H i).c n).st = 4 := by rw [confirm_c s n n H i hn hn, if_pos rfl]
  have h1 : ((s.confirm n H i).c (1 - n)).st = (s.c (1 - n)).st := by rw [confirm_c s n (1 - n) H i hn (by omega), if_neg (other_ne hn)]
  refine ⟨?_, fun k hk h5 => ?_⟩
  · have := turnE_mutes _ [] (lv s) (sendE_mute n m)
    rw [List.append_nil] at this
    rw [this, lv_no hn h3 ho, lv_no (s := s.confirm n H i) hn (by rw [h0]; decide) (by rw [h1]; exact ho)]
    rfl
  · by_cases e : k = n
    · subst e; rw [h0] at h5; exact absurd h5 (by decide)
    · obtain rfl : k = 1 - n := by omega
      rw [h1] at h5; exact absurd h5 ho
theorem turn_openS {s : Se} (hJ : Jt s) (n : Nat) (hn : n < 2) (h3 : (s.c n).st = 3) (a H i : Int) : Turn s (openS s n a H i).2 (openS s n a H i).1 := by
  by_cases h1 : a ≠ s.their
  · rw [openS_as h1]; exact turn_end hJ n hn _ _ _
  by_cases h2 : i = s.id
  · rw [openS_id (Decidable.of_not_not h1) h2]; exact turn_end hJ n hn _ _ _
  by_cases h5 : (s.c (1 - n)).st = 5
  · rw [openS_no (Decidable.of_not_not h1) h2 h5]; exact turn_end hJ n hn _ _ _
  by_cases h4 : (s.c (1 - n)).st = 4
  · unfold openS
    rw [if_neg h1, if_neg h2, if_neg h5, if_pos h4]
    by_cases hs : (if s.id < i then 1 else 0) ≠ (n : Int)
    · rw [if_pos hs]; exact turn_end hJ n hn _ _ _
    · rw [if_neg hs]
      have ht := turn_end hJ (1 - n) (by omega) 6 7 ⟨#[]⟩
      refine ht.trans (turn_confirm n hn ?_ ?_ H i _)
      · rw [gone_c s (1 - n) n (by omega) hn, if_neg (fun e => other_ne hn e.symm), h3]; decide
      · rw [gone_c s (1 - n) (1 - n) (by omega) (by omega), if_pos rfl]; show (0 : Int) ≠ 5; decide
  · rw [openS_ok (Decidable.of_not_not h1) h2 h5 h4]
    dsimp only
    exact turn_confirm n hn (by rw [h3]; decide) h5 H i (MsL.zero 4)
theorem up5_c (s : Se) (n k : Nat) (hn : n < 2) (hk : k < 2) : (s.up5 n).c k = if k = n then { s.c n with st := 5 } else s.c k := by
  unfold Se.up5
  rw [alive_c]
  exact cset s n k _ hn hk
theorem turn_establish {s : Se} (hJ : Jt s) (n : Nat) (hn : n < 2) (h4 : (s.c n).st = 4) : Turn s (estabE s n) (s.establish n) := by
  have ho : (s.c (1 - n)).st ≠ 5 := fun h5 => (hJ (1 - n) (by omega) h5).2 (by rw [show 1 - (1 - n) = n by omega]; exact h4)
  have a0 : ((s.up5 n).c n).st = 5 := by rw [up5_c s n n hn hn, if_pos rfl]
  have a1 : ((s.up5 n).c (1 - n)).st = (s.c (1 - n)).st := by rw [up5_c s n (1 - n) hn (by omega), if_neg (other_ne hn)]
  have hl : lv s = false := lv_no hn (by rw [h4]; decide) ho
  have hup : ∀ (t : Se), (t.c n).st = 5 → (t.c (1 - n)).st = 0 → turnE (lv s) [ef 4 n] = some (lv t) ∧ Jt t := fun t b0 b1 => by
    rw [hl, lv_yes hn b0]
    refine ⟨rfl, fun k hk h5 => ?_⟩
    by_cases e : k = n
    · subst e; rw [b1]; exact ⟨by decide, by decide⟩
    · obtain rfl : k = 1 - n := by omega
      rw [b1] at h5; exact absurd h5 (by decide)
  unfold estabE Se.establish
  by_cases hz : ((s.up5 n).c (1 - n)).st = 0
  · rw [if_pos hz, if_pos hz]
    exact hup _ a0 hz
  · rw [if_neg hz, if_neg hz]
    have hg : goneE (s.up5 n) (1 - n) = [] := if_neg (by rw [a1]; exact ho)
    have hm : ∀ e ∈ endE (s.up5 n) (1 - n) 6 7 ⟨#[]⟩, e.kind = 1 ∨ e.kind = 2 ∨ e.kind = 3 := fun e he => by
      unfold endE closeE at he
      rw [hg] at he
      rcases List.mem_append.1 he with he | he
      · rw [if_neg (by decide)] at he
        exact sendE_mute _ _ e he
      · obtain rfl := List.mem_singleton.1 he
        exact .inr (.inr rfl)
    have h := hup ((s.up5 n).gone (1 - n)) (by rw [gone_c _ (1 - n) n (by omega) hn, if_neg (fun e => other_ne hn e.symm)]; exact a0) (by rw [gone_c _ (1 - n) (1 - n) (by omega) (by omega), if_pos rfl]; rfl)
    exact ⟨by rw [turnE_mutes _ _ _ hm]; exact h.1, h.2⟩
theorem turn_hearD {s : Se} (hJ : Jt s) (n : Nat) (hn : n < 2) (m : MsD) : Turn s (hearD s n m).2 (hearD s n m).1 := by
  unfold hearD
  split
  · exact turn_close hJ n hn
  split
  · rename_i h; exact turn_openS hJ n hn h.2 _ _ _
  split
  · rename_i h; exact turn_establish hJ n hn h.2
  split
  · exact Turn.same hJ fun k hk => by rw [alive_c]
  split
  · rename_i h
    have hs : Turn s [] (s.alive n) := Turn.same hJ fun k hk => by rw [alive_c]
    refine ⟨?_, hs.2⟩
    have hl := hs.1
    rw [lv_yes hn h.2] at hl ⊢
    exact hl
  · exact turn_end hJ n hn _ _ _
theorem turn_heardD (n : Nat) (hn : n < 2) : ∀ (ms : List MsD) {s : Se}, Jt s → Turn s (heardD n s ms).2 (heardD n s ms).1
  | [], s, hJ => Turn.same hJ fun k hk => rfl
  | m :: ms, s, hJ => by
    unfold heardD
    split
    · exact Turn.same hJ fun k hk => rfl
    · have h := turn_hearD hJ n hn m
      exact h.trans (turn_heardD n hn ms h.2)
theorem turn_feedS {s : Se} (hJ : Jt s) (n : Nat) (hn : n < 2) (bs : List Int) : Turn s (feedS s n bs).2 (feedS s n bs).1 := by
  unfold feedS
  split
  · exact Turn.same hJ fun k hk => rfl
  · have h1 : Turn s [] (s.fed n bs) := Turn.same hJ fun k hk => by
      rw [show (s.fed n bs).c k = if k = n then (s.c n).fed (feedM [] ((s.c n).wait ++ bs)) else s.c k from cset s n k _ hn hk]
      split
      · rename_i e; subst e; rfl
      · rfl
    have h2 := turn_heardD n hn (feedM [] ((s.c n).wait ++ bs)).1 h1.2
    have h3 := h1.trans h2
    rw [List.nil_append] at h3
    unfold endF
    split
    · exact h3
    · split
      · exact h3
      · exact h3.trans (turn_end h2.2 n hn _ _ _)
theorem turn_up {s : Se} (hJ : Jt s) (n : Nat) (hn : n < 2) : Turn s (upE s n) (s.up n) := by
  unfold upE Se.up
  split
  · exact ⟨turnE_mute (.inr (.inr rfl)), hJ⟩
  · rename_i h
    have hz : (s.c n).st = 0 := Decidable.of_not_not fun hh => h (.inr (.inl hh))
    have hc : ∀ k, k < 2 → ((s.sent n).due (1 + n) 240).c k = if k = n then sentC else s.c k := fun k hk => cset s n k _ hn hk
    have a0 : (((s.sent n).due (1 + n) 240).c n).st = 3 := by rw [hc n hn, if_pos rfl]; rfl
    have a1 : (((s.sent n).due (1 + n) 240).c (1 - n)).st = (s.c (1 - n)).st := by rw [hc (1 - n) (by omega), if_neg (other_ne hn)]
    refine ⟨?_, fun k hk h5 => ?_⟩
    · have hm := turnE_mutes _ [] (lv s) (sendE_mute n (openM s.asn s.hold s.id))
      rw [List.append_nil] at hm
      rw [hm]
      show some _ = some _
      by_cases ho : (s.c (1 - n)).st = 5
      · rw [lv_yes (n := 1 - n) (by omega) ho, lv_yes (n := 1 - n) (by omega) (a1.trans ho)]
      · rw [lv_no hn (by rw [hz]; decide) ho, lv_no hn (by rw [a0]; decide) (by rw [a1]; exact ho)]
    · by_cases e : k = n
      · subst e; rw [a0] at h5; exact absurd h5 (by decide)
      · obtain rfl : k = 1 - n := by omega
        rw [show 1 - (1 - n) = n by omega, a0]
        exact ⟨by decide, by decide⟩
theorem turn_down {s : Se} (hJ : Jt s) (n : Nat) (hn : n < 2) : Turn s (downE s n) (s.down n) := by
  unfold downE Se.down
  split
  · exact turn_gone hJ n hn
  · split
    · exact Turn.same hJ fun k hk => rfl
    · split
      · exact Turn.same hJ fun k hk => rfl
      · exact Turn.same hJ fun k hk => rfl
theorem turn_dial {s : Se} (hJ : Jt s) : Turn s [ef 1 0] s.dial := ⟨turnE_mute (.inl rfl), hJ⟩
theorem turn_stopF {s : Se} (hJ : Jt s) : ∀ k, k ≤ 2 → Turn s (stopF s k).2 (stopF s k).1
  | 0, _ => Turn.same hJ fun k hk => rfl
  | k + 1, hk => by
    have h := turn_stopF hJ k (by omega)
    refine h.trans ?_
    show Turn _ (stop1 _ _).2 (stop1 _ _).1
    unfold stop1
    split
    · exact Turn.same h.2 fun k hk => rfl
    · exact turn_end h.2 k (by omega) _ _ _
theorem turn_stopS {s : Se} (hJ : Jt s) : Turn s (stopS s).2 (stopS s).1 := by
  unfold stopS
  split
  · exact Turn.same hJ fun k hk => rfl
  · have h0 : Turn s [] { s with base := 0, D := s.D.set 0 (-1) } := Turn.same hJ fun k hk => rfl
    exact h0.trans (turn_stopF h0.2 2 (Nat.le_refl _))
theorem turn_fireS {s : Se} (hJ : Jt s) (n : Nat) (t : Int) : Turn s (fireS s n t).2 (fireS s n t).1 := by
  have h : ∀ k, Turn s [] { s with now := t, D := s.D.set k (-1) } := fun k => Turn.same hJ fun k hk => rfl
  unfold fireS
  split
  · exact Turn.trans (xs := []) (h 0) (turn_dial (h 0).2)
  · exact Turn.trans (xs := []) (h 1) (turn_end (h 1).2 0 (by decide) 4 0 ⟨#[]⟩)
  · exact Turn.trans (xs := []) (h 2) (turn_end (h 2).2 1 (by decide) 4 0 ⟨#[]⟩)
  · have hk : ∀ k, k < 2 → ((({ s with now := t, D := s.D.set 3 (-1) } : Se).kept 0).c k).st = (s.c k).st := fun k hk => by rw [kept_cn]; rfl
    have hm := turnE_mutes _ [] (lv s) (sendE_mute 0 (MsL.zero 4))
    rw [List.append_nil] at hm
    exact ⟨hm.trans (congrArg some (lv_of hk).symm), jt_of hJ hk⟩
  · have hk : ∀ k, k < 2 → ((({ s with now := t, D := s.D.set 4 (-1) } : Se).kept 1).c k).st = (s.c k).st := fun k hk => by rw [kept_cn]; rfl
    have hm := turnE_mutes _ [] (lv s) (sendE_mute 1 (MsL.zero 4))
    rw [List.append_nil] at hm
    exact ⟨hm.trans (congrArg some (lv_of hk).symm), jt_of hJ hk⟩
theorem turn_tick {T : Int} {s s' : Se} {es : List EfD} (hr : TickR T s es s') (hJ : Jt s) : Turn s es s' := by
  induction hr with
  | done _ => exact Turn.same hJ fun k hk => rfl
  | @fire s s' n t es _ _ ih =>
    have h := turn_fireS hJ n t
    exact h.trans (ih h.2)
theorem turn_upA {s : Se} (hJ : Jt s) (n : Int) : Turn s (upA s n).2 (upA s n).1 := by
  unfold upA
  split
  · exact turn_up hJ 0 (by decide)
  split
  · exact turn_up hJ 1 (by decide)
  · exact Turn.same hJ fun k hk => rfl
theorem turn_downA {s : Se} (hJ : Jt s) (n : Int) : Turn s (downA s n).2 (downA s n).1 := by
  unfold downA
  split
  · exact turn_down hJ 0 (by decide)
  split
  · exact turn_down hJ 1 (by decide)
  · exact Turn.same hJ fun k hk => rfl
theorem turn_feedA {s : Se} (hJ : Jt s) (n : Int) (bs : List Int) : Turn s (feedA s n bs).2 (feedA s n bs).1 := by
  unfold feedA
  split
  · exact turn_feedS hJ 0 (by decide) bs
  split
  · exact turn_feedS hJ 1 (by decide) bs
  · exact Turn.same hJ fun k hk => rfl
theorem turn_start {s : Se} (hJ : Jt s) : Turn s (if s.base = 0 then [ef 1 0] else []) (if s.base = 0 then s.dial else s) := by
  split
  · exact turn_dial hJ
  · exact Turn.same hJ fun k hk => rfl
theorem most_lv {g : Nat} {p : PeL} {s : Se} {E0 E1 : List Ent} {d : Ck} (hA : PeAt g p s E0 E1 d) : (max (max p.base p.c0.st) p.c1.st = 5) = (lv s = true) := by
  have hb : p.base = s.base := (congrArg Se.base hA.eq :)
  have h0 := hA.st 0
  have h1 := hA.st 1
  have b := hA.ok.2.2.1
  have k0 := hA.ok0.1
  have k1 := hA.ok1.1
  rw [show s.c0.st = (s.c 0).st from rfl] at k0
  rw [show s.c1.st = (s.c 1).st from rfl] at k1
  rw [show p.c0.st = (p.c 0).st from rfl, show p.c1.st = (p.c 1).st from rfl, h0, h1, hb]
  unfold lv
  rw [decide_eq_true_eq]
  apply propext
  constructor
  · intro h; omega
  · intro h; omega

set_option maxHeartbeats 1000000 in
theorem look_c (w0 w : World) (gu gp g : Nat) (u u' : Bool) (p : PeL) (ad : Option Addr) (c : Nat) (fs : List EfL) (E L : List Ent) (hV : Vec 23 ad fs.length c (efsL fs) E) (hE : ∀ e ∈ E, e ∈ L) (hp : Ent.row gp [.pointer (some ⟨g, 0, none⟩)] ∈ L) (hg : Ent.row g p.cells ∈ L)
    (ht : turnE u (fs.map EfL.d) = some u') (hst : decide (max (max p.base p.c0.st) p.c1.st = 5) = u') (hl : fs.length ≤ 1000000) (hS0 : St (fun _ => False) w0 w (.row gu [.bool u] :: L)) :
    Calls Tryz.prog 26 #[.slice ad fs.length c, .pointer (some ⟨gu, 0, none⟩), .pointer (some ⟨gp, 0, none⟩)] w fun e w' => e = .returned (.bool true) ∧ St (fun _ => False) w0 w' (.row gu [.bool u'] :: L) := by
  haveI i1 : At L gp [.pointer (some ⟨g, 0, none⟩)] := ⟨hp⟩
  haveI i2 : At L g p.cells := ⟨hg⟩
  refine enter Tryz.func26 rfl Tryz.ntmps26 rfl hS0 ?_
  refine cR <| zA rfl <| zN <| cS <| cR <| zM rfl <| zV (v_len_slice rfl rfl Tryz.underlying46) rfl <| zM rfl <| zN <| cB <| WC.loop (fun x : Nat × Bool => [(9, .int .i64 x.1), (8, .int .i64 fs.length), (7, .slice ad fs.length c), (2, .pointer (some ⟨gp, 0, none⟩)), (1, .pointer (some ⟨gu, 0, none⟩))]) (fun x => .row gu [.bool x.2] :: L) (fun x => x.1 ≤ fs.length ∧ turnE x.2 ((fs.drop x.1).map EfL.d) = some u') (fun x => fs.length - x.1) (0, u) ⟨Nat.zero_le _, ht⟩ (.cons rfl (.cons rfl (.cons rfl (.cons rfl (.cons rfl .nil))))) (.refl _) <| ?_
  rintro ⟨k, uu⟩ ⟨hk, hT⟩
  dsimp only at hk hT
  dsimp only
  refine cR ?_
  refine zT (v_lss rfl rfl rfl) rfl (fun h10 => ?_) (fun h10 => ?_)
  refine zN <| cS <| cT rfl <| cK <| eN <| cS <| cB <| cR <| ?_
  obtain ⟨x, hx⟩ : ∃ x, fs[k]? = some x := ⟨fs[k]'(by omega), List.getElem?_eq_getElem _⟩
  obtain ⟨b1, o1, ea1, r1⟩ := hV.src2 (by rw [efsL_len]; omega)
  have hdr : fs.drop k = x :: fs.drop (k + 1) := (by rw [List.drop_eq_getElem_cons (by omega)]; congr 1; exact (List.getElem?_eq_some_iff.1 hx).2)
  rw [hdr, List.map_cons, turnE_cons, show x.d.kind = x.kind from rfl] at hT
  refine zV ((v_indexAddr (b := b1) (off := o1) (lo := k) rfl (by show some (Value.slice ad _ _) = _; rw [ea1]) rfl Tryz.underlying46 sz_54 rfl (by omega))) rfl ?_
  refine zV (v_loadN rfl rfl many_54 rfl (fun w hS => ef_kind (r1 w fun e he => hS.holds e (List.mem_cons_of_mem _ (hE e he))) hx)) rfl <| WL.alloc rfl zero_54 (.none rfl) rfl rfl <| ?_
  intro g6 hg6
  refine zW many_54 rfl rfl <| zR <| zF rfl fld_54_0 <| zV (v_load1 rfl rfl one_3 (cellAt (v := .int .i64 x.kind) rfl)) rfl <| zN <| cB <| cR <| ?_
  refine zT (v_eql rfl rfl rfl) rfl (fun h16 => ?_) (fun h16 => ?_)
  skip
  refine zA rfl <| zN <| cT rfl <| cS <| cR <| ?_
  rw [if_pos h16] at hT
  refine zV (v_load1 rfl rfl one_4 (cellAt (v := .bool uu) rfl)) rfl ?_
  skip
  cases uu
  refine zN <| cF rfl <| cK <| eN <| WC.region <| zO one_4 rfl rfl <| WL.as (L' := .row g6 x.cells :: .row gu [.bool true] :: L) rfl <| WL.nil <| eY <| eY <| eN <| WC.region <| ?_
  refine zV (v_add rfl rfl rfl (show _ = ((k + 1 : Nat) : Int) from (w_i64 (by omega) (by omega)).trans (by omega))) rfl ?_
  refine zM rfl <| WL.nil <| ?_
  exact WE.next (k + 1, true) (by dsimp only; omega) ⟨by dsimp only; omega, by rw [if_neg (by decide)] at hT; exact hT⟩ (.cons rfl (.cons rfl (.cons rfl (.cons rfl (.cons rfl .nil))))) (.cons _ (.refl _))
  refine zN <| cT rfl <| cR <| zA rfl <| zN <| cE <| eR <| eB <| eB <| eR <| eR <| eB <| eR <| ?_
  refine tR Tryz.results26 rfl ?_
  exact absurd hT (by rw [if_pos rfl]; intro h; cases h)
  skip
  refine zA rfl <| zN <| cF rfl <| cR <| ?_
  refine zT (v_eql rfl rfl rfl) rfl (fun h19 => ?_) (fun h19 => ?_)
  refine zA rfl <| zN <| cT rfl <| cS <| cR <| ?_
  rw [if_neg h16, if_pos h19] at hT
  refine zV (v_load1 rfl rfl one_4 (cellAt (v := .bool uu) rfl)) rfl ?_
  skip
  cases uu
  refine zV (v_not rfl rfl rfl) rfl <| zN <| cT rfl <| cR <| zA rfl <| zN <| cE <| eR <| eB <| eB <| eR <| eR <| eB <| ?_
  refine eR <| tR Tryz.results26 rfl <| ?_
  exact absurd hT (by rw [if_neg (by decide)]; intro h; cases h)
  refine zV (v_not rfl rfl rfl) rfl <| zN <| cF rfl <| cK <| eN <| WC.region <| zO one_4 rfl rfl <| WL.as (L' := .row g6 x.cells :: .row gu [.bool false] :: L) rfl <| WL.nil <| eY <| eY <| eN <| WC.region <| ?_
  refine zV (v_add rfl rfl rfl (show _ = ((k + 1 : Nat) : Int) from (w_i64 (by omega) (by omega)).trans (by omega))) rfl ?_
  refine zM rfl <| WL.nil <| ?_
  exact WE.next (k + 1, false) (by dsimp only; omega) ⟨by dsimp only; omega, by rw [if_pos rfl] at hT; exact hT⟩ (.cons rfl (.cons rfl (.cons rfl (.cons rfl (.cons rfl .nil))))) (.cons _ (.refl _))
  refine zA rfl <| zN <| cF rfl <| cR <| ?_
  refine zT (v_eql rfl rfl rfl) rfl (fun h23 => ?_) (fun h23 => ?_)
  refine zA rfl <| zN <| cT rfl <| cR <| ?_
  rw [if_neg h16, if_neg h19, if_pos h23] at hT
  refine zV (v_load1 rfl rfl one_4 (cellAt (v := .bool uu) rfl)) rfl ?_
  skip
  cases uu
  refine zV (v_not rfl rfl rfl) rfl <| zN <| cT rfl <| cR <| zA rfl <| zN <| cE <| eB <| eB <| eR <| eR <| eB <| eR <| ?_
  refine tR Tryz.results26 rfl ?_
  exact absurd hT (by rw [if_neg (by decide)]; intro h; cases h)
  refine zV (v_not rfl rfl rfl) rfl <| zN <| cF rfl <| cK <| eY <| eY <| eN <| WC.region <| ?_
  refine zV (v_add rfl rfl rfl (show _ = ((k + 1 : Nat) : Int) from (w_i64 (by omega) (by omega)).trans (by omega))) rfl ?_
  refine zM rfl <| WL.nil <| ?_
  exact WE.next (k + 1, true) (by dsimp only; omega) ⟨by dsimp only; omega, by rw [if_pos rfl] at hT; exact hT⟩ (.cons rfl (.cons rfl (.cons rfl (.cons rfl (.cons rfl .nil))))) (.cons _ (.refl _))
  refine zA rfl <| zN <| cF rfl <| cK <| eY <| eY <| eN <| WC.region <| ?_
  refine zV (v_add rfl rfl rfl (show _ = ((k + 1 : Nat) : Int) from (w_i64 (by omega) (by omega)).trans (by omega))) rfl ?_
  refine zM rfl <| WL.nil <| ?_
  rw [if_neg h16, if_neg h19, if_neg h23] at hT
  exact WE.next (k + 1, uu) (by dsimp only; omega) ⟨by dsimp only; omega, hT⟩ (.cons rfl (.cons rfl (.cons rfl (.cons rfl (.cons rfl .nil))))) (.cons _ (.refl _))
  refine zN <| cS <| cF rfl <| cX <| eX <| eX <| eH <| eN <| cS <| cQ mixed <| ?_
  obtain rfl : uu = u' := (by rw [show fs.drop k = [] from List.drop_eq_nil_iff.2 (by omega)] at hT; exact Option.some.inj hT)
  refine qV (v_load1 rfl rfl one_4 (cellAt (v := .bool uu) rfl)) rfl <| qV (v_load1 rfl rfl one_40 (cellAt (v := .pointer (some ⟨g, 0, none⟩)) rfl)) rfl <| WQ.call _ rfl rfl ck_18 (.none rfl) rfl rfl (fun w hS => Calls.still (state_c w g p (hS.row (g := g))) hS) <| qV (v_eql rfl rfl rfl) rfl <| qV ((v_eql_bool rfl rfl rfl Tryz.underlying4).t (hst.symm)) rfl <| qV (v_assign rfl rfl) rfl <| WQ.nil <| eN <| cE <| tR Tryz.results26 rfl <| ?_
  exact fun w' h => ⟨rfl, h⟩

structure StpL where
  k : Int
  n : Int
  m : MsL
  ra : Option Addr
  rc : Nat
  raw : List Int
  sec : Int
  tm : Int
  fc : Int
  fs : Int
  fd : ByteArray
def StpL.cells (x : StpL) : List Value := .int .i64 x.k :: .int .i64 x.n :: (x.m.cells ++ [.slice x.ra x.raw.length x.rc, .int .i64 x.sec, .int .i64 x.tm, .int .i64 x.fc, .int .i64 x.fs, .string x.fd])
structure StpL.Ok (w : World) (x : StpL) : Prop where
  n : I64 x.n
  m : x.m.At w
  mi : x.m.In
  raw : CellsAt w x.ra (u8s x.raw)
  bys : Bys x.raw
  len : x.raw.length ≤ x.rc
  sec : I64 x.sec
  tm : I64 x.tm
  fc : I64 x.fc
  fs : I64 x.fs
theorem bigMsg_c (w : World) (m : MsL) : Calls Tryz.prog 27 #[.agg m.cells.toArray] w fun e w' => ∃ b, e = .returned (.bool b) ∧ Frm (fun _ => False) w w' ∧ (b = false → m.atr.path.length ≤ 9 ∧ m.atr.others.length ≤ 9) := by
  refine enter Tryz.func27 rfl Tryz.ntmps27 rfl (St.start (fun _ => False) w) ?_
  refine cR <| WL.box rfl rfl rfl (.none rfl) rfl rfl <| ?_
  intro g1 hg1
  refine zA rfl <| zR <| zF rfl fld_39_4 <| zL rfl one_29 rfl <| zV (v_len_slice rfl rfl Tryz.underlying29) rfl <| ?_
  refine zT (v_gtr rfl rfl rfl) rfl (fun h6 => ?_) (fun h6 => ?_)
  refine zM rfl ?_
  iterate 4 refine WL.sk rfl ?_
  refine zP rfl <| zM rfl <| ?_
  iterate 4 refine WL.sk rfl ?_
  refine zP rfl <| zM rfl <| ?_
  iterate 5 refine WL.sk rfl ?_
  refine zP rfl <| zM rfl <| ?_
  iterate 5 refine WL.sk rfl ?_
  refine zP rfl <| zM rfl <| ?_
  iterate 5 refine WL.sk rfl ?_
  refine zP rfl <| zM rfl <| ?_
  iterate 5 refine WL.sk rfl ?_
  refine zP rfl <| zA rfl <| zN <| cE <| tR Tryz.results27 rfl <| ?_
  exact fun w' h => ⟨true, rfl, h.frm, fun e => by cases e⟩
  refine zM rfl <| zS (v_fieldAddr0 rfl rfl fld_39_5) rfl <| zS (v_load1 rfl rfl one_30 (cellAt rfl)) rfl <| zS (v_len_slice rfl rfl Tryz.underlying30) rfl <| ?_
  refine WL.test (v_gtr rfl rfl rfl) (.some rfl rfl rfl) rfl rfl (fun h11 => ?_) (fun h11 => ?_)
  refine zQ rfl <| zM rfl <| ?_
  iterate 4 refine WL.sk rfl ?_
  refine zP rfl <| zM rfl <| ?_
  iterate 5 refine WL.sk rfl ?_
  refine zP rfl <| zM rfl <| ?_
  iterate 5 refine WL.sk rfl ?_
  refine zP rfl <| zM rfl <| ?_
  iterate 5 refine WL.sk rfl ?_
  refine zP rfl <| zM rfl <| ?_
  iterate 5 refine WL.sk rfl ?_
  refine zP rfl <| zA rfl <| zN <| cE <| tR Tryz.results27 rfl <| ?_
  exact fun w' h => ⟨true, rfl, h.frm, fun e => by cases e⟩
  refine zQ rfl <| zM rfl <| zS (v_fieldAddr0 rfl rfl fld_39_7) rfl <| zS (v_load1 rfl rfl one_30 (cellAt rfl)) rfl <| zS (v_len_slice rfl rfl Tryz.underlying30) rfl <| ?_
  refine WL.test (v_gtr rfl rfl rfl) (.some rfl rfl rfl) rfl rfl (fun h17 => ?_) (fun h17 => ?_)
  refine zQ rfl <| zM rfl <| ?_
  iterate 5 refine WL.sk rfl ?_
  refine zP rfl <| zM rfl <| ?_
  iterate 5 refine WL.sk rfl ?_
  refine zP rfl <| zM rfl <| ?_
  iterate 5 refine WL.sk rfl ?_
  refine zP rfl <| zM rfl <| ?_
  iterate 5 refine WL.sk rfl ?_
  refine zP rfl <| zA rfl <| zN <| cE <| tR Tryz.results27 rfl <| ?_
  exact fun w' h => ⟨true, rfl, h.frm, fun e => by cases e⟩
  refine zQ rfl <| zM rfl <| zS (v_fieldAddr0 rfl rfl fld_39_8) rfl <| zS (v_fieldAddr rfl rfl fld_37_2) rfl <| zS (v_load1 rfl rfl one_9 (cellAt rfl)) rfl <| zS (v_len_string rfl rfl Tryz.underlying9) rfl <| ?_
  refine WL.test (v_gtr rfl rfl rfl) (.some rfl rfl rfl) rfl rfl (fun h24 => ?_) (fun h24 => ?_)
  refine zQ rfl <| zM rfl <| ?_
  iterate 5 refine WL.sk rfl ?_
  refine zP rfl <| zM rfl <| ?_
  iterate 5 refine WL.sk rfl ?_
  refine zP rfl <| zM rfl <| ?_
  iterate 5 refine WL.sk rfl ?_
  refine zP rfl <| zA rfl <| zN <| cE <| tR Tryz.results27 rfl <| ?_
  exact fun w' h => ⟨true, rfl, h.frm, fun e => by cases e⟩
  refine zQ rfl <| zM rfl <| zS (v_fieldAddr0 rfl rfl fld_39_6) rfl <| zS (v_fieldAddr rfl rfl fld_35_2) rfl <| zS (v_load1 rfl rfl one_31 (cellAt rfl)) rfl <| zS (v_len_slice rfl rfl Tryz.underlying31) rfl <| ?_
  refine WL.test (v_gtr rfl rfl rfl) (.some rfl rfl rfl) rfl rfl (fun h31 => ?_) (fun h31 => ?_)
  refine zQ rfl <| zM rfl <| ?_
  iterate 5 refine WL.sk rfl ?_
  refine zP rfl <| zM rfl <| ?_
  iterate 5 refine WL.sk rfl ?_
  refine zP rfl <| zA rfl <| zN <| cE <| tR Tryz.results27 rfl <| ?_
  exact fun w' h => ⟨true, rfl, h.frm, fun e => by cases e⟩
  refine zQ rfl <| zM rfl <| zS (v_fieldAddr0 rfl rfl fld_39_6) rfl <| zS (v_fieldAddr rfl rfl fld_35_8) rfl <| zS (v_load1 rfl rfl one_32 (cellAt rfl)) rfl <| zS (v_len_slice rfl rfl Tryz.underlying32) rfl <| ?_
  refine WL.test (v_gtr rfl rfl rfl) (.some rfl rfl rfl) rfl rfl (fun h38 => ?_) (fun h38 => ?_)
  refine zQ rfl <| zM rfl <| ?_
  iterate 5 refine WL.sk rfl ?_
  refine zP rfl <| zA rfl <| zN <| cE <| tR Tryz.results27 rfl <| ?_
  exact fun w' h => ⟨true, rfl, h.frm, fun e => by cases e⟩
  refine zQ rfl <| zM rfl <| zS (v_fieldAddr0 rfl rfl fld_39_6) rfl <| zS (v_fieldAddr rfl rfl fld_35_9) rfl <| zS (v_load1 rfl rfl one_33 (cellAt rfl)) rfl <| zS (v_len_slice rfl rfl Tryz.underlying33) rfl <| ?_
  refine WL.test (v_gtr rfl rfl rfl) (.some rfl rfl rfl) rfl rfl (fun h45 => ?_) (fun h45 => ?_)
  refine zQ rfl <| zA rfl <| zN <| cE <| tR Tryz.results27 rfl <| ?_
  exact fun w' h => ⟨true, rfl, h.frm, fun e => by cases e⟩
  refine zQ rfl <| zA rfl <| zN <| cE <| tR Tryz.results27 rfl <| ?_
  exact fun w' h => ⟨false, rfl, h.frm, fun _ => ⟨by omega, by omega⟩⟩
def bsM (m : MsL) : List Int := if msgC m = 0 then msgB m else []
theorem bsM_ok {m : MsL} (h : m.In) : Bys (bsM m) ∧ (bsM m).length ≤ 4096 := by
  unfold bsM
  split
  · rename_i hc; exact ⟨msgB_bys h hc, msgB_le hc⟩
  · exact ⟨Bys.nil, Nat.zero_le _⟩
theorem stopF_len (s : Se) : ∀ k, (stopF s k).2.length ≤ 3 * k
  | 0 => Nat.le_refl _
  | k + 1 => by
    have h := stopF_len s k
    show ((stopF s k).2 ++ (stop1 _ _).2).length ≤ _
    rw [List.length_append]
    have : (stop1 (stopF s k).1 k).2.length ≤ 3 := by
      unfold stop1
      split
      · exact Nat.zero_le _
      · exact endE_len _ _ _ _ _
    omega
theorem stopS_len (s : Se) : (stopS s).2.length ≤ 6 := by
  unfold stopS
  split
  · exact Nat.zero_le _
  · exact stopF_len _ 2
theorem heardD_len (n : Nat) : ∀ (ms : List MsD) (s : Se), (heardD n s ms).2.length ≤ 4 * ms.length
  | [], s => Nat.le_refl _
  | m :: ms, s => by
    unfold heardD
    split
    · exact Nat.zero_le _
    · rw [List.length_append, List.length_cons]
      have h1 := hearD_len s n m
      have h2 := heardD_len n ms (hearD s n m).1
      omega
theorem feedS_len (s : Se) (n : Nat) (bs : List Int) : (feedS s n bs).2.length ≤ 4 * ((s.c n).wait ++ bs).length + 3 := by
  unfold feedS
  split
  · exact Nat.zero_le _
  · have h1 := heardD_len n (feedM [] ((s.c n).wait ++ bs)).1 (s.fed n bs)
    have h2 := feedM_both _ [] ((s.c n).wait ++ bs) _ _ _ (Nat.le_refl _) rfl
    rw [List.length_nil] at h2
    unfold endF
    split
    · omega
    · split
      · omega
      · rename_i f _
        have h3 := endE_len (heardD n (s.fed n bs) (feedM [] ((s.c n).wait ++ bs)).1).1 n f.1 f.2.1 f.2.2
        dsimp only
        rw [List.length_append]
        omega
theorem feedA_len (s : Se) (n : Int) (bs : List Int) (hw : ∀ k, k < 2 → Bys (s.c k).wait ∧ (s.c k).wait.length ≤ 4096) (hl : bs.length ≤ 40000) : (feedA s n bs).2.length ≤ 200000 := by
  have h0 := feedS_len s 0 bs
  have h1 := feedS_len s 1 bs
  have w0 := (hw 0 (by decide)).2
  have w1 := (hw 1 (by decide)).2
  rw [List.length_append] at h0 h1
  unfold feedA
  split
  · omega
  split
  · omega
  · exact Nat.zero_le _
theorem upA_len (s : Se) (n : Int) : (upA s n).2.length ≤ 1 := by
  have h : ∀ k, (upE s k).length ≤ 1 := fun k => by
    unfold upE
    split
    · exact Nat.le_refl _
    · exact sendE_len _ _
  unfold upA
  split
  · exact h 0
  split
  · exact h 1
  · exact Nat.zero_le _
theorem downA_len (s : Se) (n : Int) : (downA s n).2.length ≤ 1 := by
  have h : ∀ k, (downE s k).length ≤ 1 := fun k => by
    unfold downE
    split
    · exact goneE_len _ _
    · exact Nat.zero_le _
  unfold downA
  split
  · exact h 0
  split
  · exact h 1
  · exact Nat.zero_le _
structure TuS where
  k : Nat
  nw : Int
  s : Se
  p : PeL
  E0 : List Ent
  E1 : List Ent
  d : Ck
structure TvS where
  nw : Int
  y : PS
  t : Se

set_option maxHeartbeats 4000000 in
theorem PeerTurns_all (w0 : World) (hG : GF w0) (hZ : GZ w0) (sa : Option Addr) (sc : Nat) (ss : List StpL) (hR : RowsAt w0 sa 28 StpL.cells ss) (hok : ∀ x ∈ ss, x.Ok w0) : Calls Tryz.prog 7 #[.slice sa ss.length sc] w0 fun e w' => e = .returned (.bool true) ∧ Frm (fun _ => False) w0 w' := by
  refine enter Tryz.func7 rfl Tryz.ntmps7 rfl (St.start (fun _ => False) w0) ?_
  refine cR <| zA rfl <| zN <| cS <| cR <| zK ck_9 rfl <| ?_
  intro w hS
  refine Calls.then (Head10_c w (hG.keep (fun h => h) hS) (hZ.keep (fun h => h) hS)) hS ?_
  refine zV (v_not rfl rfl rfl) rfl <| zN <| cF rfl <| cK <| eN <| cR <| zK ck_12 rfl <| ?_
  intro w hS
  refine Calls.then (lconf_c w) hS ?_
  refine zK ck_11 rfl ?_
  intro w1 hS
  refine (new_c w0 w1 [] hS 65000 5 65001 90 10 (by decide) ⟨by decide, by decide⟩).mono ?_
  rintro e w' ⟨g, p, d, rfl, hA, hS'⟩
  refine ⟨_, _, rfl, hS', ?_⟩
  refine zM rfl <| zX rfl <| zX rfl <| WL.alloc rfl zero_40 (.none rfl) rfl rfl <| ?_
  intro g3 hg3
  refine zO one_40 rfl rfl <| WL.as (L' := .row g3 [.pointer (some ⟨g, 0, none⟩)] :: .row g p.cells :: ([] ++ ([] ++ d.L p.gC 0 []))) rfl <| zA rfl <| zN <| cS <| cR <| zM rfl <| ?_
  refine zV ((v_neq rfl rfl rfl).f ((by decide))) rfl ?_
  refine zN <| cF rfl <| cK <| eN <| cR <| WL.alloc rfl zero_4 (.none rfl) rfl rfl <| ?_
  intro g5 hg5
  refine zO one_4 rfl rfl <| WL.as (L' := .row g5 [.bool false] :: .row g3 [.pointer (some ⟨g, 0, none⟩)] :: .row g p.cells :: ([] ++ ([] ++ d.L p.gC 0 []))) rfl <| zR <| zV (v_makeFunc rfl rfl rfl) rfl <| zA rfl <| zR <| zA rfl <| zN <| cS <| cS <| ?_
  refine WC.region <| zA rfl <| zN <| cB <| ?_
  refine WC.loop (fun x : TuS => [(8, .int .i64 x.k), (7, .int .i64 x.nw), (6, .func (.func 26) #[] #[.pointer (some ⟨g5, 0, none⟩), .pointer (some ⟨g3, 0, none⟩)]), (5, .pointer (some ⟨g5, 0, none⟩)), (3, .pointer (some ⟨g3, 0, none⟩)), (0, .slice sa ss.length sc)]) (fun x => .row g5 [.bool (lv x.s)] :: .row g3 [.pointer (some ⟨g, 0, none⟩)] :: .row g x.p.cells :: (x.E0 ++ (x.E1 ++ x.d.L x.p.gC x.s.now []))) (fun x => x.k ≤ ss.length ∧ x.k ≤ 60 ∧ (0 ≤ x.nw ∧ x.nw ≤ 255 * x.k) ∧ PeAt g x.p x.s x.E0 x.E1 x.d ∧ x.s.Fine (50000 * x.k) ∧ Jt x.s) (fun x => ss.length - x.k) ⟨0, 0, Se.new 65000 5 65001 90 10, p, [], [], d⟩ ⟨Nat.zero_le _, Nat.zero_le _, ⟨Int.le_refl _, Int.le_refl _⟩, hA, new_fine (by decide) (by decide), fun n hn h5 => by
  match n, hn with
  | 0, _ => exact absurd (show (0 : Int) = 5 from h5) (by decide)
  | 1, _ => exact absurd (show (0 : Int) = 5 from h5) (by decide)⟩ (.cons rfl (.cons rfl (.cons rfl (.cons rfl (.cons rfl (.cons rfl .nil)))))) (.refl _) ?_
  rintro ⟨k, nw, s, p1, E01, E11, d1⟩ ⟨hk, hk60, hnw, hA1, hF1, hJ1⟩
  dsimp only at hk hk60 hnw hA1 hF1 hJ1
  dsimp only
  refine cS <| cR <| zM rfl <| zM rfl <| zV (v_len_slice rfl rfl Tryz.underlying68) rfl <| ?_
  refine zT (v_lss rfl rfl rfl) rfl (fun h24 => ?_) (fun h24 => ?_)
  refine zM rfl <| zS (v_move rfl rfl) rfl <| ?_
  refine WL.test (v_lss rfl rfl rfl) (.some rfl rfl rfl) rfl rfl (fun h27 => ?_) (fun h27 => ?_)
  refine zP rfl <| zN <| cT rfl <| cK <| eN <| cS <| cB <| cR <| zM rfl <| zM rfl <| ?_
  obtain ⟨x, hx⟩ : ∃ x, ss[k]? = some x := ⟨ss[k]'(by omega), List.getElem?_eq_getElem _⟩
  obtain ⟨b1, o1, ea1, r1⟩ := hR k x hx
  have hxo := hok x (List.mem_of_getElem? hx)
  have hxn := hxo.n
  have hxs := hxo.sec
  have hwt := hA1.waits
  have hN1 : (0 : Int) ≤ 50000 * (k : Int) := (by omega)
  have hbm := bsM_ok hxo.mi
  have hKF := fine_keeps hN1
  refine zV ((v_indexAddr (b := b1) (off := o1) (lo := k) rfl (by show some (Value.slice sa _ _) = _; rw [ea1]) rfl Tryz.underlying68 sz_71 rfl (by omega))) rfl ?_
  refine zV ((v_loadN (cs := x.cells) rfl rfl many_71 rfl (rgIn (fun h => h) r1))) rfl <| WL.alloc rfl zero_71 (.none rfl) rfl rfl <| ?_
  intro g9 hg9
  refine zW many_71 rfl rfl <| WL.as (L' := .row g9 x.cells :: .row g5 [.bool (lv s)] :: .row g3 [.pointer (some ⟨g, 0, none⟩)] :: .row g p1.cells :: (E01 ++ (E11 ++ d1.L p1.gC s.now []))) rfl <| zN <| cS <| cR <| zF rfl fld_71_2 <| zV (v_loadN rfl rfl many_39 rfl (segAt (g := g9) (cs := x.cells) (k := 2) (m := 20) (new := x.m.cells) rfl)) rfl <| zK ck_27 rfl <| ?_
  intro w1 hS
  refine (bigMsg_c w1 x.m).mono ?_
  rintro e w' ⟨bb, rfl, hFr, hbb⟩
  refine ⟨_, _, rfl, hS.ext hFr, ?_⟩
  skip
  cases bb
  refine zM rfl <| zS (v_fieldAddr0 rfl rfl fld_71_3) rfl <| zS (v_load1 rfl rfl one_25 (cellAt (v := .slice x.ra x.raw.length x.rc) rfl)) rfl <| zS (v_len_slice rfl rfl Tryz.underlying25) rfl <| ?_
  refine WL.test (v_gtr rfl rfl rfl) (.some rfl rfl rfl) rfl rfl (fun h42 => ?_) (fun h42 => ?_)
  refine zQ rfl <| zN <| cT rfl <| cX <| eX <| eH <| eN <| WC.region <| zM rfl <| ?_
  refine zV (v_add rfl rfl rfl (show _ = ((k + 1 : Nat) : Int) from (w_i64 (by omega) (by omega)).trans (by omega))) rfl ?_
  refine zA rfl <| WL.nil <| ?_
  exact WE.next ⟨k + 1, nw, s, p1, E01, E11, d1⟩ (by dsimp only; omega) ⟨by dsimp only; omega, by dsimp only; omega, by dsimp only; omega, hA1, fine_mono hF1 (by dsimp only; omega), hJ1⟩ (.cons rfl (.cons rfl (.cons rfl (.cons rfl (.cons rfl (.cons rfl .nil)))))) (.cons _ (.refl _))
  refine zQ rfl <| zN <| cF rfl <| cK <| eN <| cR <| zA rfl <| zN <| ?_
  refine WC.cut (fun y : TvS => [(10, .slice y.y.ad y.y.fs.length y.y.c), (8, .int .i64 k), (7, .int .i64 y.nw), (6, .func (.func 26) #[] #[.pointer (some ⟨g5, 0, none⟩), .pointer (some ⟨g3, 0, none⟩)]), (5, .pointer (some ⟨g5, 0, none⟩)), (3, .pointer (some ⟨g3, 0, none⟩)), (0, .slice sa ss.length sc)]) (fun y => .row g5 [.bool (lv s)] :: .row g3 [.pointer (some ⟨g, 0, none⟩)] :: y.y.L g y.t.now []) (fun y => PeAt g y.y.p y.t y.y.E0 y.y.E1 y.y.d ∧ y.t.Fine (50000 * ((k : Int) + 1)) ∧ Turn s (y.y.fs.map EfL.d) y.t ∧ EfsV y.y.ad y.y.c y.y.fs y.y.E y.y.K ∧ y.y.fs.length ≤ 300000 ∧ (0 ≤ y.nw ∧ y.nw ≤ 255 * ((k : Int) + 1))) ?_ ?_
  refine cR <| zF rfl fld_71_0 <| zV (v_load1 rfl rfl one_3 (cellAt (v := .int .i64 x.k) rfl)) rfl <| zN <| cB <| cR <| ?_
  refine zT (v_eql rfl rfl rfl) rfl (fun h47 => ?_) (fun h47 => ?_)
  refine zA rfl <| zN <| cT rfl <| WC.region <| zV (v_load1 rfl rfl one_40 (cellAt (g := g3) (v := .pointer (some ⟨g, 0, none⟩)) rfl)) rfl <| zK ck_13 rfl <| ?_
  intro w1 hS
  refine (start_c w0 w1 g p1 s E01 E11 [.row g9 x.cells, .row g5 [.bool (lv s)], .row g3 [.pointer (some ⟨g, 0, none⟩)]] d1 hA1 hS.permK).mono ?_
  rintro e w' ⟨ad2, c2, fs, EF, KF, p2, E02, E12, d2, rfl, hV2, heg, hA2, hS'⟩
  refine ⟨_, EF ++ (KF ++ (.row g9 x.cells :: .row g5 [.bool (lv s)] :: .row g3 [.pointer (some ⟨g, 0, none⟩)] :: .row g p2.cells :: (E02 ++ (E12 ++ d2.L p2.gC (if s.base = 0 then s.dial else s).now [])))), rfl, hS'.permK, ?_⟩
  refine zA rfl <| WL.nil <| eY <| WE.to (L' := .row g5 [.bool (lv s)] :: .row g3 [.pointer (some ⟨g, 0, none⟩)] :: (⟨p2, E02, E12, d2, ad2, c2, fs, EF, KF⟩ : PS).L g (if s.base = 0 then s.dial else s).now []) (fun w hS => hS.dropK [.row g9 x.cells]) <| ?_
  exact WE.mid ⟨nw, ⟨p2, E02, E12, d2, ad2, c2, fs, EF, KF⟩, (if s.base = 0 then s.dial else s)⟩ ⟨hA2, fine_mono ((by split; exact hKF.dial hF1; exact hF1)) (by omega), by rw [heg]; exact turn_start hJ1, hV2, by rw [efs_len heg]; exact Nat.le_trans (show (if s.base = 0 then [ef 1 0] else []).length ≤ 1 by split <;> decide) (by decide), by dsimp only; omega⟩ (.cons rfl (.cons rfl (.cons rfl (.cons rfl (.cons rfl (.cons rfl (.cons rfl .nil))))))) (.refl _)
  refine zA rfl <| zN <| cF rfl <| cR <| ?_
  refine zT (v_eql rfl rfl rfl) rfl (fun h51 => ?_) (fun h51 => ?_)
  refine zA rfl <| zN <| cT rfl <| WC.region <| zV (v_load1 rfl rfl one_40 (cellAt (g := g3) (v := .pointer (some ⟨g, 0, none⟩)) rfl)) rfl <| zK ck_28 rfl <| ?_
  intro w1 hS
  refine (stop_c w0 w1 g p1 s E01 E11 [.row g9 x.cells, .row g5 [.bool (lv s)], .row g3 [.pointer (some ⟨g, 0, none⟩)]] d1 hA1 hG hS.permK).mono ?_
  rintro e w' ⟨ad2, c2, fs, EF, KF, p2, E02, E12, d2, rfl, hV2, heg, hA2, hS'⟩
  refine ⟨_, EF ++ (KF ++ (.row g9 x.cells :: .row g5 [.bool (lv s)] :: .row g3 [.pointer (some ⟨g, 0, none⟩)] :: .row g p2.cells :: (E02 ++ (E12 ++ d2.L p2.gC (stopS s).1.now [])))), rfl, hS'.permK, ?_⟩
  refine zA rfl <| WL.nil <| eY <| WE.to (L' := .row g5 [.bool (lv s)] :: .row g3 [.pointer (some ⟨g, 0, none⟩)] :: (⟨p2, E02, E12, d2, ad2, c2, fs, EF, KF⟩ : PS).L g (stopS s).1.now []) (fun w hS => hS.dropK [.row g9 x.cells]) <| ?_
  exact WE.mid ⟨nw, ⟨p2, E02, E12, d2, ad2, c2, fs, EF, KF⟩, (stopS s).1⟩ ⟨hA2, fine_mono (hKF.stopS hF1) (by omega), by rw [heg]; exact turn_stopS hJ1, hV2, by rw [efs_len heg]; exact Nat.le_trans (stopS_len s) (by decide), by dsimp only; omega⟩ (.cons rfl (.cons rfl (.cons rfl (.cons rfl (.cons rfl (.cons rfl (.cons rfl .nil))))))) (.refl _)
  refine zA rfl <| zN <| cF rfl <| cR <| ?_
  refine zT (v_eql rfl rfl rfl) rfl (fun h55 => ?_) (fun h55 => ?_)
  refine zA rfl <| zN <| cT rfl <| WC.region <| zV (v_load1 rfl rfl one_40 (cellAt (g := g3) (v := .pointer (some ⟨g, 0, none⟩)) rfl)) rfl <| zF rfl fld_71_1 <| zV (v_load1 rfl rfl one_3 (cellAt (v := .int .i64 x.n) rfl)) rfl <| zK ck_14 rfl <| ?_
  intro w1 hS
  refine (up_any w0 w1 g p1 s E01 E11 [.row g9 x.cells, .row g5 [.bool (lv s)], .row g3 [.pointer (some ⟨g, 0, none⟩)]] d1 hA1 hG hS.permK x.n hF1.wf.asn).mono ?_
  rintro e w' ⟨ad2, c2, fs, EF, KF, p2, E02, E12, d2, rfl, hV2, heg, hA2, hS'⟩
  refine ⟨_, EF ++ (KF ++ (.row g9 x.cells :: .row g5 [.bool (lv s)] :: .row g3 [.pointer (some ⟨g, 0, none⟩)] :: .row g p2.cells :: (E02 ++ (E12 ++ d2.L p2.gC (upA s x.n).1.now [])))), rfl, hS'.permK, ?_⟩
  refine zA rfl <| WL.nil <| eY <| WE.to (L' := .row g5 [.bool (lv s)] :: .row g3 [.pointer (some ⟨g, 0, none⟩)] :: (⟨p2, E02, E12, d2, ad2, c2, fs, EF, KF⟩ : PS).L g (upA s x.n).1.now []) (fun w hS => hS.dropK [.row g9 x.cells]) <| ?_
  exact WE.mid ⟨nw, ⟨p2, E02, E12, d2, ad2, c2, fs, EF, KF⟩, (upA s x.n).1⟩ ⟨hA2, fine_mono (up_fine hN1 hF1 x.n) (by omega), by rw [heg]; exact turn_upA hJ1 x.n, hV2, by rw [efs_len heg]; exact Nat.le_trans (upA_len s x.n) (by decide), by dsimp only; omega⟩ (.cons rfl (.cons rfl (.cons rfl (.cons rfl (.cons rfl (.cons rfl (.cons rfl .nil))))))) (.refl _)
  refine zA rfl <| zN <| cF rfl <| cR <| ?_
  refine zT (v_eql rfl rfl rfl) rfl (fun h61 => ?_) (fun h61 => ?_)
  refine zA rfl <| zN <| cT rfl <| WC.region <| zV (v_load1 rfl rfl one_40 (cellAt (g := g3) (v := .pointer (some ⟨g, 0, none⟩)) rfl)) rfl <| zF rfl fld_71_1 <| zV (v_load1 rfl rfl one_3 (cellAt (v := .int .i64 x.n) rfl)) rfl <| zK ck_20 rfl <| ?_
  intro w1 hS
  refine (down_any w0 w1 g p1 s E01 E11 [.row g9 x.cells, .row g5 [.bool (lv s)], .row g3 [.pointer (some ⟨g, 0, none⟩)]] d1 hA1 hS.permK x.n).mono ?_
  rintro e w' ⟨ad2, c2, fs, EF, KF, p2, E02, E12, d2, rfl, hV2, heg, hA2, hS'⟩
  refine ⟨_, EF ++ (KF ++ (.row g9 x.cells :: .row g5 [.bool (lv s)] :: .row g3 [.pointer (some ⟨g, 0, none⟩)] :: .row g p2.cells :: (E02 ++ (E12 ++ d2.L p2.gC (downA s x.n).1.now [])))), rfl, hS'.permK, ?_⟩
  refine zA rfl <| WL.nil <| eY <| WE.to (L' := .row g5 [.bool (lv s)] :: .row g3 [.pointer (some ⟨g, 0, none⟩)] :: (⟨p2, E02, E12, d2, ad2, c2, fs, EF, KF⟩ : PS).L g (downA s x.n).1.now []) (fun w hS => hS.dropK [.row g9 x.cells]) <| ?_
  exact WE.mid ⟨nw, ⟨p2, E02, E12, d2, ad2, c2, fs, EF, KF⟩, (downA s x.n).1⟩ ⟨hA2, fine_mono (down_fine hN1 hF1 x.n) (by omega), by rw [heg]; exact turn_downA hJ1 x.n, hV2, by rw [efs_len heg]; exact Nat.le_trans (downA_len s x.n) (by decide), by dsimp only; omega⟩ (.cons rfl (.cons rfl (.cons rfl (.cons rfl (.cons rfl (.cons rfl (.cons rfl .nil))))))) (.refl _)
  refine zA rfl <| zN <| cF rfl <| cR <| ?_
  refine zT (v_eql rfl rfl rfl) rfl (fun h67 => ?_) (fun h67 => ?_)
  refine zA rfl <| zN <| cT rfl <| WC.held (.row g9 x.cells :: [.row g3 [.pointer (some ⟨g, 0, none⟩)]]) mixed <| ?_
  refine WRH.first (g := 3) [0, 1, 2, 3, 4] (by kernel_rfl) (by kernel_rfl) (fun w hS => hS.sub (by repeat (first | exact List.Sublist.refl _ | exact List.nil_sublist _ | refine List.Sublist.cons_cons _ ?_ | refine List.Sublist.cons _ ?_ | refine List.sublist_append_of_sublist_right ?_))) ?_
  refine WH.val (v_load1 rfl rfl one_40 (cellAt (g := g3) (v := .pointer (some ⟨g, 0, none⟩)) rfl)) (.none rfl) rfl rfl <| WH.val (v_fieldAddr0 rfl rfl fld_71_1) (.none rfl) rfl rfl <| WH.val (v_load1 rfl rfl one_3 (cellAt (v := .int .i64 x.n) rfl)) (.none rfl) rfl rfl <| WH.val (v_fieldAddr0 rfl rfl fld_71_2) (.none rfl) rfl rfl <| WH.val (v_loadN rfl rfl many_39 rfl (segAt (g := g9) (cs := x.cells) (k := 2) (m := 20) (new := x.m.cells) rfl)) (.none rfl) rfl rfl <| WH.nil <| ?_
  refine WRH.one (g := 2) 5 (by kernel_rfl) ?_
  refine zK ck_23 rfl ?_
  intro w1 hS
  refine (lbytes_c w1 x.m (hxo.m.st hS) hxo.mi (hG.keep (fun h => h) hS) (Nat.le_trans (hbb rfl).1 (by decide)) (Nat.le_trans (hbb rfl).2 (by decide))).mono ?_
  rintro e w' ⟨_, rfl, ad5, c5, E5, rfl, hV5, hS'⟩
  refine ⟨_, _, rfl, hS.join hS', ?_⟩
  rw [show (if msgC x.m = 0 then msgB x.m else []) = bsM x.m from rfl] at hV5 ⊢
  refine WL.nilH (fun w hS => hS.sub (by repeat (first | exact List.Sublist.refl _ | exact List.nil_sublist _ | refine List.Sublist.cons_cons _ ?_ | refine List.Sublist.cons _ ?_ | refine List.sublist_append_of_sublist_right ?_))) ?_
  refine WRH.one (g := 1) 6 (by kernel_rfl) ?_
  refine zK ck_15 rfl ?_
  intro w1 hS
  refine (feed_any w0 w1 g p1 s E01 E11 (E5 ++ [.row g9 x.cells, .row g5 [.bool (lv s)], .row g3 [.pointer (some ⟨g, 0, none⟩)]]) d1 hA1 hG hS.permK x.n hZ hF1 (by omega) ad5 c5 (bsM x.m) (fun w h => hV5.cellsAt (fun e he => h.holds e (by simp [Ck.L, clkL, he]))) hbm.1 (by omega)).mono ?_
  rintro e w' ⟨ad2, c2, fs, EF, KF, p2, E02, E12, d2, rfl, hV2, heg, hA2, hS'⟩
  refine ⟨_, EF ++ (KF ++ (.row g9 x.cells :: .row g5 [.bool (lv s)] :: .row g3 [.pointer (some ⟨g, 0, none⟩)] :: .row g p2.cells :: (E02 ++ (E12 ++ d2.L p2.gC (feedA s x.n (bsM x.m)).1.now [])))), rfl, hS'.dropK E5, ?_⟩
  refine WL.nilH (fun w hS => hS.sub (by repeat (first | exact List.Sublist.refl _ | exact List.nil_sublist _ | refine List.Sublist.cons_cons _ ?_ | refine List.Sublist.cons _ ?_ | refine List.sublist_append_of_sublist_right ?_))) ?_
  refine WRH.first (g := 0) [7] (by kernel_rfl) (by kernel_rfl) (fun w hS => hS.sub (by repeat (first | exact List.Sublist.refl _ | exact List.nil_sublist _ | refine List.Sublist.cons_cons _ ?_ | refine List.Sublist.cons _ ?_ | refine List.sublist_append_of_sublist_right ?_))) ?_
  refine WH.val (v_assign rfl rfl) (.none rfl) rfl rfl <| WH.nil <| ?_
  refine WRH.done (by kernel_rfl) ?_
  refine eY <| WE.to (L' := .row g5 [.bool (lv s)] :: .row g3 [.pointer (some ⟨g, 0, none⟩)] :: (⟨p2, E02, E12, d2, ad2, c2, fs, EF, KF⟩ : PS).L g (feedA s x.n (bsM x.m)).1.now []) (fun w hS => hS.dropK [.row g9 x.cells]) <| ?_
  exact WE.mid ⟨nw, ⟨p2, E02, E12, d2, ad2, c2, fs, EF, KF⟩, (feedA s x.n (bsM x.m)).1⟩ ⟨hA2, fine_mono (feed_fine hN1 hF1 x.n _ hbm.1 hwt (by omega)) (by omega), by rw [heg]; exact turn_feedA hJ1 x.n _, hV2, by rw [efs_len heg]; exact Nat.le_trans (feedA_len s x.n _ hwt (by omega)) (by decide), by dsimp only; omega⟩ (.cons rfl (.cons rfl (.cons rfl (.cons rfl (.cons rfl (.cons rfl (.cons rfl .nil))))))) (.refl _)
  refine zA rfl <| zN <| cF rfl <| cR <| ?_
  refine zT (v_eql rfl rfl rfl) rfl (fun h76 => ?_) (fun h76 => ?_)
  refine zA rfl <| zN <| cT rfl <| WC.region <| zV (v_load1 rfl rfl one_40 (cellAt (g := g3) (v := .pointer (some ⟨g, 0, none⟩)) rfl)) rfl <| zF rfl fld_71_1 <| zV (v_load1 rfl rfl one_3 (cellAt (v := .int .i64 x.n) rfl)) rfl <| zF rfl fld_71_3 <| zV (v_load1 rfl rfl one_25 (cellAt (v := .slice x.ra x.raw.length x.rc) rfl)) rfl <| zK ck_15 rfl <| ?_
  intro w1 hS
  refine (feed_any w0 w1 g p1 s E01 E11 [.row g9 x.cells, .row g5 [.bool (lv s)], .row g3 [.pointer (some ⟨g, 0, none⟩)]] d1 hA1 hG hS.permK x.n hZ hF1 (by omega) x.ra x.rc x.raw (fun w h => hxo.raw.frm (h.rng fun _ h => h)) hxo.bys (by omega)).mono ?_
  rintro e w' ⟨ad2, c2, fs, EF, KF, p2, E02, E12, d2, rfl, hV2, heg, hA2, hS'⟩
  refine ⟨_, EF ++ (KF ++ (.row g9 x.cells :: .row g5 [.bool (lv s)] :: .row g3 [.pointer (some ⟨g, 0, none⟩)] :: .row g p2.cells :: (E02 ++ (E12 ++ d2.L p2.gC (feedA s x.n x.raw).1.now [])))), rfl, hS'.permK, ?_⟩
  refine zA rfl <| WL.nil <| eY <| WE.to (L' := .row g5 [.bool (lv s)] :: .row g3 [.pointer (some ⟨g, 0, none⟩)] :: (⟨p2, E02, E12, d2, ad2, c2, fs, EF, KF⟩ : PS).L g (feedA s x.n x.raw).1.now []) (fun w hS => hS.dropK [.row g9 x.cells]) <| ?_
  exact WE.mid ⟨nw, ⟨p2, E02, E12, d2, ad2, c2, fs, EF, KF⟩, (feedA s x.n x.raw).1⟩ ⟨hA2, fine_mono (feed_fine hN1 hF1 x.n _ hxo.bys hwt (by omega)) (by omega), by rw [heg]; exact turn_feedA hJ1 x.n _, hV2, by rw [efs_len heg]; exact Nat.le_trans (feedA_len s x.n _ hwt (by omega)) (by decide), by dsimp only; omega⟩ (.cons rfl (.cons rfl (.cons rfl (.cons rfl (.cons rfl (.cons rfl (.cons rfl .nil))))))) (.refl _)
  refine zA rfl <| zN <| cF rfl <| cR <| ?_
  refine zT (v_eql rfl rfl rfl) rfl (fun h84 => ?_) (fun h84 => ?_)
  refine zA rfl <| zN <| cT rfl <| cR <| zM rfl <| zF rfl fld_71_4 <| zV (v_load1 rfl rfl one_3 (cellAt (v := .int .i64 x.sec) rfl)) rfl <| ?_
  refine zV (v_and rfl rfl rfl (mask_i64' (i := 8) (m := 256) (by decide) (by decide) (by decide))) rfl ?_
  refine zV (v_add rfl rfl rfl (show _ = nw + x.sec % 256 from w_i64 (by omega) (by omega))) rfl ?_
  refine zA rfl <| zN <| WC.region <| zV (v_load1 rfl rfl one_40 (cellAt (g := g3) (v := .pointer (some ⟨g, 0, none⟩)) rfl)) rfl <| zM rfl <| zK ck_24 rfl <| ?_
  intro w1 hS
  refine (tick_c w0 w1 g p1 s E01 E11 [.row g9 x.cells, .row g5 [.bool (lv s)], .row g3 [.pointer (some ⟨g, 0, none⟩)]] d1 hA1 hG hS.permK hF1.fit (nw + x.sec % 256) ⟨by omega, by omega⟩).mono ?_
  rintro e w' ⟨es, t', hTk, hle, ad2, c2, fs, EF, KF, p2, E02, E12, d2, rfl, hV2, heg, hA2, hS'⟩
  refine ⟨_, EF ++ (KF ++ (.row g9 x.cells :: .row g5 [.bool (lv s)] :: .row g3 [.pointer (some ⟨g, 0, none⟩)] :: .row g p2.cells :: (E02 ++ (E12 ++ d2.L p2.gC t'.now [])))), rfl, hS'.permK, ?_⟩
  refine zA rfl <| WL.nil <| eY <| WE.to (L' := .row g5 [.bool (lv s)] :: .row g3 [.pointer (some ⟨g, 0, none⟩)] :: (⟨p2, E02, E12, d2, ad2, c2, fs, EF, KF⟩ : PS).L g t'.now []) (fun w hS => hS.dropK [.row g9 x.cells]) <| ?_
  exact WE.mid ⟨(nw + x.sec % 256), ⟨p2, E02, E12, d2, ad2, c2, fs, EF, KF⟩, t'⟩ ⟨hA2, fine_mono (hKF.tick hTk hF1) (by omega), by rw [heg]; exact turn_tick hTk hJ1, hV2, by rw [efs_len heg]; exact Nat.le_trans hle (by decide), by dsimp only; omega⟩ (.cons rfl (.cons rfl (.cons rfl (.cons rfl (.cons rfl (.cons rfl (.cons rfl .nil))))))) (.refl _)
  refine zA rfl <| zN <| cF rfl <| cK <| eY <| ?_
  exact WE.mid ⟨nw, ⟨p1, E01, E11, d1, none, 0, [], [], []⟩, s⟩ ⟨hA1, fine_mono hF1 (by omega), Turn.same hJ1 fun k hk => rfl, ⟨Vec.nil 23, fun e he => by cases he⟩, Nat.zero_le _, by dsimp only; omega⟩ (.cons rfl (.cons rfl (.cons rfl (.cons rfl (.cons rfl (.cons rfl (.cons rfl .nil))))))) (.cons _ (.refl _))
  rintro ⟨nw2, ⟨p4, E04, E14, d4, ad4, c4, fs, EF, KF⟩, t⟩ ⟨hA4, hF4, hT4, hV4, hl4, hnw4⟩
  dsimp only at hA4 hF4 hT4 hV4 hl4 hnw4
  unfold PS.L
  dsimp only
  refine cR <| zM rfl <| zM rfl <| WL.callV rfl rfl rfl ck_26 (.none rfl) rfl rfl <| ?_
  intro w1 hS
  refine (look_c w0 w1 g5 g3 g (lv s) (lv t) p4 ad4 c4 fs EF _ hV4.1 (fun e he => List.mem_cons_of_mem _ (List.mem_append_left _ he)) (List.mem_cons_self ..) (List.mem_cons_of_mem _ (List.mem_append_right _ (List.mem_append_right _ (List.mem_cons_self ..)))) hT4.1 (by rw [decide_eq_decide.2 (iff_of_eq (most_lv hA4))]; exact Bool.decide_coe _) (by omega) hS).mono ?_
  rintro e w' ⟨rfl, hS'⟩
  refine ⟨_, _, rfl, hS', ?_⟩
  skip
  refine zV (v_not rfl rfl rfl) rfl <| zN <| cF rfl <| cK <| eY <| eN <| WC.region <| zM rfl <| ?_
  refine zV (v_add rfl rfl rfl (show _ = ((k + 1 : Nat) : Int) from (w_i64 (by omega) (by omega)).trans (by omega))) rfl ?_
  refine zA rfl <| WL.nil <| ?_
  exact WE.next ⟨k + 1, nw2, t, p4, E04, E14, d4⟩ (by dsimp only; omega) ⟨by dsimp only; omega, by dsimp only; omega, by dsimp only; omega, hA4, by dsimp only; rw [show ((k + 1 : Nat) : Int) = (k : Int) + 1 from rfl]; exact hF4, hT4.2⟩ (.cons rfl (.cons rfl (.cons rfl (.cons rfl (.cons rfl (.cons rfl .nil)))))) (.cons_cons _ (.cons_cons _ (List.sublist_append_of_sublist_right (List.sublist_append_right _ _))))
  refine zM rfl ?_
  iterate 4 refine WL.sk rfl ?_
  refine zP rfl <| zN <| cT rfl <| cX <| eX <| eH <| eN <| WC.region <| zM rfl <| ?_
  refine zV (v_add rfl rfl rfl (show _ = ((k + 1 : Nat) : Int) from (w_i64 (by omega) (by omega)).trans (by omega))) rfl ?_
  refine zA rfl <| WL.nil <| ?_
  exact WE.next ⟨k + 1, nw, s, p1, E01, E11, d1⟩ (by dsimp only; omega) ⟨by dsimp only; omega, by dsimp only; omega, by dsimp only; omega, hA1, fine_mono hF1 (by dsimp only; omega), hJ1⟩ (.cons rfl (.cons rfl (.cons rfl (.cons rfl (.cons rfl (.cons rfl .nil)))))) (.cons _ (.refl _))
  refine zP rfl <| zN <| cF rfl <| cX <| eX <| eX <| eH <| eN <| cR <| zA rfl <| zN <| cE <| tR Tryz.results7 rfl <| ?_
  exact fun w' h => ⟨rfl, h.frm⟩
  refine zM rfl ?_
  iterate 2 refine WL.sk rfl ?_
  refine zQ rfl <| zN <| cF rfl <| cX <| eX <| eX <| eH <| eN <| cR <| zA rfl <| zN <| cE <| tR Tryz.results7 rfl <| ?_
  exact fun w' h => ⟨rfl, h.frm⟩

theorem rows_of {P : Program} {w : World} {e s len : Nat} {a : Option Addr} {α : Type} {enc : α → List Value} {good : α → Prop} (hx : ∀ cs, cs.length = s → Tree P w e cs → ∃ x, cs = enc x ∧ good x) (h : Elems P w e s a len) : ∃ xs : List α, xs.length = len ∧ RowsAt w a s enc xs ∧ ∀ x ∈ xs, good x := by
  by_cases hl : 0 < len
  · obtain ⟨b, off, rfl, hE⟩ := h hl
    have hE' : ∀ i : Fin len, ∃ x, w.rangeAt b (off + i.1 * s) (enc x) ∧ good x := fun i => by
      obtain ⟨cs, hc, hr, hT⟩ := hE i.1 i.2
      obtain ⟨x, rfl, hg⟩ := hx cs hc hT
      exact ⟨x, hr, hg⟩
    refine ⟨List.ofFn fun i => Classical.choose (hE' i), List.length_ofFn, fun i x hi => ?_, fun x hm => ?_⟩
    · rw [List.getElem?_ofFn] at hi
      split at hi
      · rename_i hlt
        obtain rfl := Option.some.inj hi
        exact ⟨b, off, rfl, (Classical.choose_spec (hE' ⟨i, hlt⟩)).1⟩
      · cases hi
    · obtain ⟨i, rfl⟩ := List.mem_ofFn.1 hm
      exact (Classical.choose_spec (hE' i)).2
  · refine ⟨[], by rw [List.length_nil]; omega, fun i x hi => by simp at hi, fun x hm => by cases hm⟩
theorem CellsAt.of_rows {w : World} {a : Option Addr} {f : Int → Value} {xs : List Int} (h : RowsAt w a 1 (fun x => [f x]) xs) : CellsAt w a (xs.map f) := fun hn => by
  rw [List.length_map] at hn
  obtain ⟨b, o, e, _⟩ := h 0 _ (List.getElem?_eq_getElem hn)
  refine ⟨b, o, e, fun j v hj => ?_⟩
  rw [List.getElem?_map] at hj
  cases hx : xs[j]? with
  | none => rw [hx] at hj; cases hj
  | some x =>
    rw [hx] at hj
    obtain rfl := Option.some.inj hj
    obtain ⟨b', o', e', hr⟩ := h j x hx
    rw [e] at e'
    cases e'
    have := hr 0 _ rfl
    rwa [Nat.mul_one, Nat.add_zero] at this
theorem Elems.u8 {w : World} {len : Nat} {a : Option Addr} (h : Elems Tryz.prog w 5 1 a len) : ∃ xs : List Int, xs.length = len ∧ CellsAt w a (u8s xs) ∧ Bys xs := by
  obtain ⟨xs, hl, hr, hg⟩ := rows_of (enc := fun x => [.int .u8 x]) (good := fun x => 0 ≤ x ∧ x ≤ 255) (fun cs hc hT => by
    match cs, hc with
    | [x], _ =>
      obtain ⟨n, rfl, hw⟩ := Tree.int Tryz.underlying5 hT
      exact ⟨n, rfl, wf_u8 hw⟩) h
  exact ⟨xs, hl, CellsAt.of_rows hr, hg⟩
theorem Elems.i64 {w : World} {len : Nat} {a : Option Addr} (h : Elems Tryz.prog w 3 1 a len) : ∃ xs : List Int, xs.length = len ∧ CellsAt w a (i64s xs) ∧ ∀ x ∈ xs, I64 x := by
  obtain ⟨xs, hl, hr, hg⟩ := rows_of (enc := fun x => [.int .i64 x]) (good := fun x => I64 x) (fun cs hc hT => by
    match cs, hc with
    | [x], _ =>
      obtain ⟨n, rfl, hw⟩ := Tree.int Tryz.underlying3 hT
      exact ⟨n, rfl, wf_i64 hw⟩) h
  exact ⟨xs, hl, CellsAt.of_rows hr, hg⟩
theorem Tree.u8sl {w : World} {x : Value} (h : Tree Tryz.prog w 25 [x]) : ∃ a cap, ∃ xs : List Int, x = .slice a xs.length cap ∧ xs.length ≤ cap ∧ cap ≤ maxLen ∧ CellsAt w a (u8s xs) ∧ Bys xs := by
  obtain ⟨a, len, cap, rfl, h1, h2, hE⟩ := Tree.slice (s := 1) Tryz.underlying25 (by kernel_rfl) (by decide) h
  obtain ⟨xs, rfl, hc, hb⟩ := Elems.u8 hE
  exact ⟨a, cap, xs, rfl, h1, h2, hc, hb⟩
theorem Tree.i64sl {w : World} {x : Value} (h : Tree Tryz.prog w 32 [x]) : ∃ a cap, ∃ xs : List Int, x = .slice a xs.length cap ∧ xs.length ≤ cap ∧ cap ≤ maxLen ∧ CellsAt w a (i64s xs) ∧ ∀ x ∈ xs, I64 x := by
  obtain ⟨a, len, cap, rfl, h1, h2, hE⟩ := Tree.slice (s := 1) Tryz.underlying32 (by kernel_rfl) (by decide) h
  obtain ⟨xs, rfl, hc, hb⟩ := Elems.i64 hE
  exact ⟨a, cap, xs, rfl, h1, h2, hc, hb⟩
theorem Tree.flatL {P : Program} {w : World} {t : TypeId} {cs : List Value} {ts : List TypeId} (h : Tree P w t cs) (F : Nat) (hl : layB P F t = true) (hf : flat P F t = ts) : Leaves P w ts cs := hf ▸ Tree.leaves F t cs hl h
theorem maxLen_le : maxLen ≤ 9223372036854775807 := by decide
theorem Tree.caps {w : World} {x : Value} (h : Tree Tryz.prog w 29 [x]) : ∃ a cap, ∃ xs : List CapL, x = .slice a xs.length cap ∧ xs.length ≤ 9223372036854775807 ∧ RowsAt w a 2 CapL.cells xs ∧ ∀ c ∈ xs, CellsAt w c.ad (u8s c.val) ∧ I64 c.code ∧ c.val.length ≤ 9223372036854775807 ∧ Bys c.val := by
  obtain ⟨a, len, cap, rfl, h1, h2, hE⟩ := Tree.slice (s := 2) Tryz.underlying29 (by kernel_rfl) (by decide) h
  have hm := maxLen_le
  obtain ⟨xs, rfl, hr, hg⟩ := rows_of (enc := CapL.cells) (good := fun c => CellsAt w c.ad (u8s c.val) ∧ I64 c.code ∧ c.val.length ≤ 9223372036854775807 ∧ Bys c.val) (fun cs hc hT => by
    have hL := Tree.flatL (ts := [3, 25]) hT 4 (by kernel_rfl) (by kernel_rfl)
    obtain ⟨x, _, rfl, hx, y, _, rfl, hy, rfl⟩ := hL
    obtain ⟨n, rfl, hw⟩ := Tree.int Tryz.underlying3 hx
    obtain ⟨a', cap', ys, rfl, k1, k2, k3, k4⟩ := Tree.u8sl hy
    exact ⟨⟨n, a', cap', ys⟩, rfl, k3, wf_i64 hw, by dsimp only; omega, k4⟩) hE
  exact ⟨a, cap, xs, rfl, by omega, hr, hg⟩
theorem Tree.pfs {w : World} {x : Value} (h : Tree Tryz.prog w 30 [x]) : ∃ a cap, ∃ xs : List PfL, x = .slice a xs.length cap ∧ xs.length ≤ 9223372036854775807 ∧ RowsAt w a 2 PfL.cells xs ∧ ∀ p ∈ xs, U32 p.addr ∧ I64 p.len := by
  obtain ⟨a, len, cap, rfl, h1, h2, hE⟩ := Tree.slice (s := 2) Tryz.underlying30 (by kernel_rfl) (by decide) h
  have hm := maxLen_le
  obtain ⟨xs, rfl, hr, hg⟩ := rows_of (enc := PfL.cells) (good := fun p => U32 p.addr ∧ I64 p.len) (fun cs hc hT => by
    have hL := Tree.flatL (ts := [23, 3]) hT 4 (by kernel_rfl) (by kernel_rfl)
    obtain ⟨x, _, rfl, hx, y, _, rfl, hy, rfl⟩ := hL
    obtain ⟨n, rfl, hw⟩ := Tree.int Tryz.underlying23 hx
    obtain ⟨n2, rfl, hw2⟩ := Tree.int Tryz.underlying3 hy
    exact ⟨⟨n, n2⟩, rfl, wf_u32 hw, wf_i64 hw2⟩) hE
  exact ⟨a, cap, xs, rfl, by omega, hr, hg⟩
theorem Tree.segs {w : World} {x : Value} (h : Tree Tryz.prog w 31 [x]) : ∃ a cap, ∃ xs : List SegL, x = .slice a xs.length cap ∧ xs.length ≤ 9223372036854775807 ∧ RowsAt w a 2 SegL.cells xs ∧ ∀ c ∈ xs, CellsAt w c.ad (i64s c.asl) ∧ c.asl.length ≤ 9223372036854775807 ∧ ∀ x ∈ c.asl, I64 x := by
  obtain ⟨a, len, cap, rfl, h1, h2, hE⟩ := Tree.slice (s := 2) Tryz.underlying31 (by kernel_rfl) (by decide) h
  have hm := maxLen_le
  obtain ⟨xs, rfl, hr, hg⟩ := rows_of (enc := SegL.cells) (good := fun c => CellsAt w c.ad (i64s c.asl) ∧ c.asl.length ≤ 9223372036854775807 ∧ ∀ x ∈ c.asl, I64 x) (fun cs hc hT => by
    have hL := Tree.flatL (ts := [4, 32]) hT 4 (by kernel_rfl) (by kernel_rfl)
    obtain ⟨x, _, rfl, hx, y, _, rfl, hy, rfl⟩ := hL
    obtain ⟨n, rfl⟩ := Tree.bool Tryz.underlying4 hx
    obtain ⟨a', cap', ys, rfl, k1, k2, k3, k4⟩ := Tree.i64sl hy
    exact ⟨⟨n, a', cap', ys⟩, rfl, k3, by dsimp only; omega, k4⟩) hE
  exact ⟨a, cap, xs, rfl, by omega, hr, hg⟩
theorem Tree.oths {w : World} {x : Value} (h : Tree Tryz.prog w 33 [x]) : ∃ a cap, ∃ xs : List OthL, x = .slice a xs.length cap ∧ xs.length ≤ 9223372036854775807 ∧ RowsAt w a 2 OthL.cells xs ∧ ∀ c ∈ xs, CellsAt w c.ad (u8s c.val) ∧ I64 c.ty ∧ c.val.length ≤ 9223372036854775807 ∧ Bys c.val := by
  obtain ⟨a, len, cap, rfl, h1, h2, hE⟩ := Tree.slice (s := 2) Tryz.underlying33 (by kernel_rfl) (by decide) h
  have hm := maxLen_le
  obtain ⟨xs, rfl, hr, hg⟩ := rows_of (enc := OthL.cells) (good := fun c => CellsAt w c.ad (u8s c.val) ∧ I64 c.ty ∧ c.val.length ≤ 9223372036854775807 ∧ Bys c.val) (fun cs hc hT => by
    have hL := Tree.flatL (ts := [3, 25]) hT 4 (by kernel_rfl) (by kernel_rfl)
    obtain ⟨x, _, rfl, hx, y, _, rfl, hy, rfl⟩ := hL
    obtain ⟨n, rfl, hw⟩ := Tree.int Tryz.underlying3 hx
    obtain ⟨a', cap', ys, rfl, k1, k2, k3, k4⟩ := Tree.u8sl hy
    exact ⟨⟨n, a', cap', ys⟩, rfl, k3, wf_i64 hw, by dsimp only; omega, k4⟩) hE
  exact ⟨a, cap, xs, rfl, by omega, hr, hg⟩
theorem msg_leaves {w : World} {cs : List Value} (hL : Leaves Tryz.prog w [3, 3, 3, 23, 29, 30, 3, 3, 31, 23, 3, 3, 3, 23, 32, 33, 30, 3, 3, 9] cs) : ∃ m : MsL, cs = m.cells ∧ m.At w ∧ m.In := by
  obtain ⟨x0, _, rfl, h0, x1, _, rfl, h1, x2, _, rfl, h2, x3, _, rfl, h3, x4, _, rfl, h4, x5, _, rfl, h5, x6, _, rfl, h6, x7, _, rfl, h7, x8, _, rfl, h8, x9, _, rfl, h9, x10, _, rfl, h10, x11, _, rfl, h11, x12, _, rfl, h12, x13, _, rfl, h13, x14, _, rfl, h14, x15, _, rfl, h15, x16, _, rfl, h16, x17, _, rfl, h17, x18, _, rfl, h18, x19, _, rfl, h19, rfl⟩ := hL
  obtain ⟨n0, rfl, w0⟩ := Tree.int Tryz.underlying3 h0
  obtain ⟨n1, rfl, w1⟩ := Tree.int Tryz.underlying3 h1
  obtain ⟨n2, rfl, w2⟩ := Tree.int Tryz.underlying3 h2
  obtain ⟨n3, rfl, w3⟩ := Tree.int Tryz.underlying23 h3
  obtain ⟨a4, c4, l4, rfl, k4, r4, g4⟩ := Tree.caps h4
  obtain ⟨a5, c5, l5, rfl, k5, r5, g5⟩ := Tree.pfs h5
  obtain ⟨n6, rfl, w6⟩ := Tree.int Tryz.underlying3 h6
  obtain ⟨n7, rfl, w7⟩ := Tree.int Tryz.underlying3 h7
  obtain ⟨a8, c8, l8, rfl, k8, r8, g8⟩ := Tree.segs h8
  obtain ⟨n9, rfl, w9⟩ := Tree.int Tryz.underlying23 h9
  obtain ⟨n10, rfl, w10⟩ := Tree.int Tryz.underlying3 h10
  obtain ⟨n11, rfl, w11⟩ := Tree.int Tryz.underlying3 h11
  obtain ⟨n12, rfl, w12⟩ := Tree.int Tryz.underlying3 h12
  obtain ⟨n13, rfl, w13⟩ := Tree.int Tryz.underlying23 h13
  obtain ⟨a14, c14, l14, rfl, k14, j14, r14, g14⟩ := Tree.i64sl h14
  obtain ⟨a15, c15, l15, rfl, k15, r15, g15⟩ := Tree.oths h15
  obtain ⟨a16, c16, l16, rfl, k16, r16, g16⟩ := Tree.pfs h16
  obtain ⟨n17, rfl, w17⟩ := Tree.int Tryz.underlying3 h17
  obtain ⟨n18, rfl, w18⟩ := Tree.int Tryz.underlying3 h18
  obtain ⟨d19, rfl, w19⟩ := Tree.string Tryz.underlying9 h19
  have hm := maxLen_le
  exact ⟨⟨n0, n1, n2, n3, a4, c4, l4, a5, c5, l5, ⟨n6, n7, a8, c8, l8, n9, n10, n11, n12, n13, a14, c14, l14, a15, c15, l15⟩, a16, c16, l16, n17, n18, d19⟩, rfl,
    ⟨r4, fun c hc => (g4 c hc).1, r5, r16, ⟨r8, fun c hc => (g8 c hc).1, r14, r15, fun c hc => (g15 c hc).1⟩⟩,
    ⟨wf_i64 w0, wf_i64 w1, wf_i64 w2, wf_u32 w3, wf_i64 w17, wf_i64 w18, fun c hc => (g4 c hc).2, g5, g16,
      ⟨wf_i64 w6, wf_i64 w7, wf_u32 w9, wf_i64 w10, wf_i64 w11, wf_i64 w12, wf_u32 w13, fun c hc => (g8 c hc).2, g14, fun c hc => (g15 c hc).2, k8, by dsimp only; omega, k15⟩, k4, k5, k16, by dsimp only; omega⟩⟩
end Go.Proofs.YtcmpamnhegndnaaGreatDoor
namespace Go.Proofs.YtcmpamnhegndnaaGreatDoor
open Go.RowKit Go.ChangeShapes Go.WideShapes

theorem leaves_app {P : Program} {w : World} : ∀ (A : List TypeId) {B : List TypeId} {cs : List Value}, Leaves P w (A ++ B) cs → ∃ c1 c2, cs = c1 ++ c2 ∧ Leaves P w A c1 ∧ Leaves P w B c2
  | [], B, cs, h => ⟨[], cs, rfl, rfl, h⟩
  | a :: A, B, cs, h => by
    obtain ⟨x, r, rfl, hx, hr⟩ := h
    obtain ⟨c1, c2, rfl, h1, h2⟩ := leaves_app A hr
    exact ⟨x :: c1, c2, rfl, ⟨x, c1, rfl, hx, h1⟩, h2⟩
theorem Elems.stps {w : World} {len : Nat} {a : Option Addr} (h : Elems Tryz.prog w 71 28 a len) : ∃ ss : List StpL, ss.length = len ∧ RowsAt w a 28 StpL.cells ss ∧ ∀ x ∈ ss, x.Ok w := by
  obtain ⟨xs, e, hr, hg⟩ := rows_of (enc := StpL.cells) (good := fun x => x.Ok w) (fun cs hc hT => by
    have hL := Tree.flatL (ts := [3, 3] ++ ([3, 3, 3, 23, 29, 30, 3, 3, 31, 23, 3, 3, 3, 23, 32, 33, 30, 3, 3, 9] ++ [25, 3, 3, 3, 3, 9])) hT 8 (by kernel_rfl) (by kernel_rfl)
    obtain ⟨c1, c2, rfl, h1, h2⟩ := leaves_app _ hL
    obtain ⟨c3, c4, rfl, h3, h4⟩ := leaves_app _ h2
    obtain ⟨x0, _, rfl, i0, x1, _, rfl, i1, rfl⟩ := h1
    obtain ⟨m, rfl, hm1, hm2⟩ := msg_leaves h3
    obtain ⟨x2, _, rfl, i2, x3, _, rfl, i3, x4, _, rfl, i4, x5, _, rfl, i5, x6, _, rfl, i6, x7, _, rfl, i7, rfl⟩ := h4
    obtain ⟨n0, rfl, w0⟩ := Tree.int Tryz.underlying3 i0
    obtain ⟨n1, rfl, w1⟩ := Tree.int Tryz.underlying3 i1
    obtain ⟨a2, c2, l2, rfl, k2, j2, r2, g2⟩ := Tree.u8sl i2
    obtain ⟨n3, rfl, w3⟩ := Tree.int Tryz.underlying3 i3
    obtain ⟨n4, rfl, w4⟩ := Tree.int Tryz.underlying3 i4
    obtain ⟨n5, rfl, w5⟩ := Tree.int Tryz.underlying3 i5
    obtain ⟨n6, rfl, w6⟩ := Tree.int Tryz.underlying3 i6
    obtain ⟨d7, rfl, w7⟩ := Tree.string Tryz.underlying9 i7
    exact ⟨⟨n0, n1, m, a2, c2, l2, n3, n4, n5, n6, d7⟩, rfl, wf_i64 w1, hm1, hm2, r2, g2, k2, wf_i64 w3, wf_i64 w4, wf_i64 w5, wf_i64 w6⟩) h
  exact ⟨xs, e, hr, hg⟩
end Go.Proofs.YtcmpamnhegndnaaGreatDoor
