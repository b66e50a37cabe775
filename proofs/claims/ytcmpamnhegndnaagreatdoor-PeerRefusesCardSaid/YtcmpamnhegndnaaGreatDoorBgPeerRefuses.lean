/- Texts joined: engine, contracts and laws, in the order in which they build. -/
import Derived.Test.YtcmpamnhegndnaaGreatDoorBfPeerRefuses
namespace Go.Proofs.YtcmpamnhegndnaaGreatDoor
open Go.RowKit

def hearD (s : Se) (n : Nat) (m : MsD) : Se × List EfD :=
  if m.kind = 3 then (s.gone n, closeE s n)
  else if m.kind = 1 ∧ (s.c n).st = 3 then openS s n m.asn m.hold m.id
  else if m.kind = 4 ∧ (s.c n).st = 4 then (s.establish n, estabE s n)
  else if m.kind = 4 ∧ (s.c n).st = 5 then (s.alive n, [])
  else if m.kind = 2 ∧ (s.c n).st = 5 then (s.alive n, [⟨6, n, [], m⟩])
  else (s.gone n, endE s n 5 ((s.c n).st - 2) ⟨#[]⟩)
theorem hearD_eq (s : Se) (n : Nat) (m : MsL) : hearS s n m = hearD s n m.d := rfl
def heardD (n : Nat) : Se → List MsD → Se × List EfD
  | s, [] => (s, [])
  | s, m :: ms => if (s.c n).st = 0 then (s, []) else ((heardD n (hearD s n m).1 ms).1, (hearD s n m).2 ++ (heardD n (hearD s n m).1 ms).2)
def CnM.fed (c : CnM) (x : List MsD × Option (Int × Int × ByteArray) × List Int) : CnM := { c with wait := x.2.2, count := c.count + x.1.length, fc := (fltOf x.2.1).1, fs := (fltOf x.2.1).2.1, fd := (fltOf x.2.1).2.2 }
def Se.fed (s : Se) (n : Nat) (bs : List Int) : Se := s.set n ((s.c n).fed (feedM [] ((s.c n).wait ++ bs)))
def endF (n : Nat) (f : Option (Int × Int × ByteArray)) (y : Se × List EfD) : Se × List EfD :=
  if (y.1.c n).st = 0 then y else match f with
  | none => y
  | some f => (y.1.gone n, y.2 ++ endE y.1 n f.1 f.2.1 f.2.2)
def feedS (s : Se) (n : Nat) (bs : List Int) : Se × List EfD :=
  if (s.c n).st = 0 then (s, []) else endF n (feedM [] ((s.c n).wait ++ bs)).2.1 (heardD n (s.fed n bs) (feedM [] ((s.c n).wait ++ bs)).1)
theorem confirm_now (s : Se) (n : Nat) (h i : Int) : (s.confirm n h i).now = s.now := by
  unfold Se.confirm
  split
  · exact set_now _ _ _
  · rw [kept_now, alive_now]; exact set_now _ _ _
theorem establish_now (s : Se) (n : Nat) : (s.establish n).now = s.now := by
  have h : (s.up5 n).now = s.now := by unfold Se.up5; rw [alive_now]; exact set_now _ _ _
  unfold Se.establish
  split
  · exact h
  · rw [gone_now]; exact h
theorem openS_now (s : Se) (n : Nat) (a h i : Int) : (openS s n a h i).1.now = s.now := by
  unfold openS
  repeat' split
  all_goals first | exact gone_now _ _ | exact confirm_now _ _ _ _ | (show Se.now (Se.confirm _ _ _ _) = _; rw [confirm_now, gone_now])
theorem hearD_now (s : Se) (n : Nat) (m : MsD) : (hearD s n m).1.now = s.now := by
  unfold hearD
  split
  · exact gone_now _ _
  split
  · exact openS_now _ _ _ _ _
  split
  · exact establish_now _ _
  split
  · exact alive_now _ _
  split
  · exact alive_now _ _
  · exact gone_now _ _
theorem closeE_len (s : Se) (n : Nat) : (closeE s n).length ≤ 2 := by
  unfold closeE
  rw [List.length_cons]
  have := goneE_len s n
  omega
theorem estabE_len (s : Se) (n : Nat) : (estabE s n).length ≤ 4 := by
  unfold estabE
  rw [List.length_append, List.length_singleton]
  split
  · rw [List.length_nil]; omega
  · have := endE_len (s.up5 n) (1 - n) 6 7 ⟨#[]⟩
    omega
theorem openS_len (s : Se) (n : Nat) (a h i : Int) : (openS s n a h i).2.length ≤ 4 := by
  have e1 := endE_len s n 2 2 ⟨#[]⟩
  have e2 := endE_len s n 2 3 ⟨#[]⟩
  have e3 := endE_len s n 6 7 ⟨#[]⟩
  have e4 := endE_len s (1 - n) 6 7 ⟨#[]⟩
  have e5 := sendE_len n (MsL.zero 4)
  unfold openS
  repeat' split
  all_goals (try dsimp only)
  all_goals first | omega | (rw [List.length_append]; omega)
theorem hearD_len (s : Se) (n : Nat) (m : MsD) : (hearD s n m).2.length ≤ 4 := by
  have e1 := closeE_len s n
  have e2 := endE_len s n 5 ((s.c n).st - 2) ⟨#[]⟩
  unfold hearD
  split
  · exact Nat.le_trans e1 (by decide)
  split
  · exact openS_len _ _ _ _ _
  split
  · exact estabE_len _ _
  split
  · exact Nat.zero_le _
  split
  · exact (by decide : 1 ≤ 4)
  · exact Nat.le_trans e2 (by decide)
theorem msgs_at {w : World} {b o : Nat} {ms : List MsL} {i : Nat} {x : MsL} (h : w.rangeAt b o (msgsL ms)) (hi : ms[i]? = some x) : w.rangeAt b (o + i * 20) x.cells := fun j v hj => by
  have hl := flatMap_seg (enc := MsL.cells) (s := 20) (fun _ => rfl) ms i x hi
  have hj2 : j < 20 := (List.getElem?_eq_some_iff.1 hj).1
  have h2 : (msgsL ms)[i * 20 + j]? = some v := by
    unfold msgsL
    rw [← List.getElem?_drop, ← hj, ← hl, List.getElem?_take, if_pos hj2]
  have := h _ _ h2
  rwa [Nat.add_assoc]
section
variable {P : Program} {C : World → Prop} {n : Nat} {o : Oper} {l : Kn}
theorem v_neq_aggB {t yt : TypeId} {x y : Operand} {xs ys : List Value} {ks : List CK} {b : Bool} (ho : o.op = .binOp .neq t x y yt) (hx : ev l x = some (.agg xs.toArray)) (hy : ev l y = some (.agg ys.toArray)) (hE : EqK P 10000 t true ks) (hg : P.eqGuardType P.depth t = false)
    (fx : fitsAll ks xs = true) (fy : fitsAll ks ys = true) (hb : b = true ↔ ¬ xs = ys) : Val P C n l o (.bool b) := by
  cases b with
  | true => exact v_neq_aggT ho hx hy hE hg fx fy (hb.1 rfl)
  | false => exact v_neq_aggF ho hx hy hE hg fx fy (Decidable.byContradiction (p := xs = ys) (dec := Classical.propDecidable _) fun h => by have := hb.2 h; cases this)
end
theorem flt_zero {f : Option (Int × Int × ByteArray)} (hf : ∀ x, f = some x → FltOk x) : f.isSome = true ↔ ¬ fltL (fltOf f).1 (fltOf f).2.1 (fltOf f).2.2 = fltL 0 0 ⟨#[]⟩ := by
  cases f with
  | none => exact ⟨fun h => (by cases h), fun h => absurd rfl h⟩
  | some x =>
    refine ⟨fun _ h => ?_, fun _ => rfl⟩
    have h1 := (hf x rfl).1
    have h2 : (Value.int .i64 x.1) = .int .i64 0 := (List.cons.inj h).1
    injection h2 with _ h3
    omega
structure FeS where
  k : Nat
  y : PS
  t : Se
set_option maxHeartbeats 4000000 in
theorem feed0_c (w0 w : World) (g : Nat) (p : PeL) (s : Se) (E0 E1 L : List Ent) (d : Ck) (hA : PeAt g p s E0 E1 d) (hG : GF w0) (hZ : GZ w0) (hS0 : St (fun _ => False) w0 w (.row g p.cells :: (E0 ++ (E1 ++ d.L p.gC s.now L)))) (ba : Option Addr) (bc : Nat) (bs : List Int) (hb : ∀ w, St (fun _ => False) w0 w (.row g p.cells :: (E0 ++ (E1 ++ d.L p.gC s.now L))) → CellsAt w ba (u8s bs)) (hB : Bys bs) (hn : bs.length ≤ 40000) (hcl : (s.c 0).fc = 0 ∧ (s.c 0).fs = 0 ∧ (s.c 0).fd = ⟨#[]⟩) (hct : (s.c 0).count ≤ 3000000000000000000) :
    Calls Tryz.prog 15 #[.pointer (some ⟨g, 0, none⟩), .int .i64 0, .slice ba bs.length bc] w fun e w' => EffC w0 w' g (feedS s 0 bs).2 (feedS s 0 bs).1 L e := by
  have hc : p.c0.m = s.c0 := (congrArg Se.c0 hA.eq :)
  have hst : p.c0.st = (s.c 0).st := (congrArg CnM.st hc :)
  have hwt : p.c0.rd.wait = (s.c 0).wait := (congrArg CnM.wait hc :)
  have hok := hA.ok0
  have hrd : p.c0.rd.fc = 0 ∧ p.c0.rd.fs = 0 ∧ p.c0.rd.fd = ⟨#[]⟩ := ⟨(congrArg CnM.fc hc :).trans hcl.1, (congrArg CnM.fs hc :).trans hcl.2.1, (congrArg CnM.fd hc :).trans hcl.2.2⟩
  have hcnt : p.c0.rd.count = (s.c 0).count := (congrArg CnM.count hc :)
  have hwl : (s.c 0).wait.length ≤ 4096 := hok.2.1
  have hc0 : 0 ≤ (s.c 0).count := hok.2.2.1.1
  have hBw : Bys ((s.c 0).wait ++ bs) := by rw [← hwt]; exact Bys.app hA.b0 hB
  have hln : ((s.c 0).wait ++ bs).length ≤ 44096 := by rw [List.length_append]; omega
  refine enter Tryz.func15 rfl Tryz.ntmps15 rfl hS0 ?_
  refine cR <| zA rfl <| zN <| cS <| cR <| zM rfl <| zM rfl <| zK ck_51 rfl <| ?_
  intro w hS
  refine Calls.then (there_c w g p (hS.row (g := g)) 0 (by decide)) hS ?_
  generalize hth : decide ((p.c 0).st ≠ 0) = b14
  cases b14
  refine zV (v_not rfl rfl rfl) rfl <| zN <| cT rfl <| cR <| zA rfl <| zN <| cE <| eR <| tR Tryz.results15 rfl <| ?_
  have e1 : feedS s 0 bs = (s, []) := (by unfold feedS; rw [if_pos (hst.symm.trans (Decidable.of_not_not (of_decide_eq_false hth)))])
  exact fun w' h => ⟨none, 0, [], [], [], p, E0, E1, d, rfl, ⟨Vec.nil 23, fun e he => by cases he⟩, by rw [e1]; rfl, by rw [e1]; exact hA, by rw [e1]; exact h⟩
  ·
   refine zV (v_not rfl rfl rfl) rfl <| zN <| cF rfl <| cK <| eN <| cR <| zM rfl <| zM rfl <| zC rfl <| zF rfl fld_106_3 <| ?_
   refine zV (v_indexAddrA (lo := 0) rfl rfl rfl Tryz.underlying104 sz_103 (by omega) (by omega)) rfl ?_
   refine zV (v_fieldAddr rfl rfl fld_103_1) rfl <| zM rfl <| ?_
   have hz : (s.c 0).st ≠ 0 := fun hh => of_decide_eq_true hth (hst.trans hh)
   refine zK ck_55 rfl ?_
   intro w1 hS
   refine (Feed8_c w0 w1 g (.int .i64 p.asn) (.int .u32 p.id) (.int .i64 p.their) (.int .i64 p.hold) (.int .i64 p.retry) (.pointer (some ⟨p.gC, 0, none⟩)) (.int .i64 p.base) (.int .i64 p.c0.st) [.int .i64 p.c0.hold, .int .u32 p.c0.id, .int .i64 p.c1.st, .slice p.c1.rd.ad p.c1.rd.wait.length p.c1.rd.cap, .int .i64 p.c1.rd.count, .int .i64 p.c1.rd.fc, .int .i64 p.c1.rd.fs, .string p.c1.rd.fd, .int .i64 p.c1.hold, .int .u32 p.c1.id] p.c0.rd ba bc bs E0 (E1 ++ d.L p.gC s.now L) hG hZ hrd hA.v0 (by rw [hwt]; exact hBw) (fun w h => hb w (St.permK (L := .row g p.cells :: (E0 ++ (E1 ++ d.L p.gC s.now L))) h )) (by rw [hwt]; omega) (by rw [hcnt]; omega) (show St (fun _ => False) w0 w1 (.row g p.cells :: (E0 ++ (E1 ++ d.L p.gC s.now L))) from hS.permK )).mono ?_
   rintro e w' ⟨mad, mc, ms, Em, K, wad, wc, rest, Ew, f, hfe, rfl, hVm, hMs, hVw, hBr, hS'⟩
   refine ⟨_, .row g ({ p with c0 := { p.c0 with rd := ⟨wad, wc, rest, p.c0.rd.count + ms.length, (fltOf f).1, (fltOf f).2.1, (fltOf f).2.2⟩ } } : PeL).cells :: (Ew ++ (E1 ++ d.L p.gC s.now (Em ++ (K ++ L)))), rfl, St.permK (L := .row g ({ p with c0 := { p.c0 with rd := ⟨wad, wc, rest, p.c0.rd.count + ms.length, (fltOf f).1, (fltOf f).2.1, (fltOf f).2.2⟩ } } : PeL).cells :: (Ew ++ (Em ++ (K ++ (E1 ++ d.L p.gC s.now L))))) hS' , ?_⟩
   rw [hwt] at hfe
   have hff := feedM_fit _ [] ((s.c 0).wait ++ bs) (Nat.le_refl _) hBw (fun m hm => by cases hm)
   have hbo := feedM_both _ [] ((s.c 0).wait ++ bs) _ _ _ (Nat.le_refl _) hfe
   have hre := feedM_rest _ [] ((s.c 0).wait ++ bs) (Nat.le_refl _)
   rw [hfe] at hff hre
   obtain ⟨hfm, hfo, _⟩ := hff
   dsimp only at hfm hfo hre
   rw [List.length_nil, List.length_map] at hbo
   have hA1 : PeAt g ({ p with c0 := { p.c0 with rd := ⟨wad, wc, rest, p.c0.rd.count + ms.length, (fltOf f).1, (fltOf f).2.1, (fltOf f).2.2⟩ } } : PeL) (s.fed 0 bs) Ew E1 d := (by
     have e1 : s.fed 0 bs = { s with c0 := { s.c0 with wait := rest, count := s.c0.count + ms.length, fc := (fltOf f).1, fs := (fltOf f).2.1, fd := (fltOf f).2.2 } } := (by
       show s.set 0 ((s.c 0).fed (feedM [] ((s.c 0).wait ++ bs))) = _
       rw [hfe]
       show s.set 0 { s.c0 with wait := rest, count := s.c0.count + ((ms.map MsL.d).length : Nat), fc := (fltOf f).1, fs := (fltOf f).2.1, fd := (fltOf f).2.2 } = _
       rw [List.length_map]
       rfl)
     rw [e1]
     refine ⟨?_, hA.ok, ?_, ?_, ?_, ?_, ?_, ?_, hA.bag⟩
     · exact (congrArg (fun z : Se => { z with c0 := { z.c0 with wait := rest, count := z.c0.count + ms.length, fc := (fltOf f).1, fs := (fltOf f).2.1, fd := (fltOf f).2.2 } }) hA.eq :)
     all_goals first | exact hA.ok1 | exact hA.v1 | exact hA.b1 | exact hVw | exact hBr | exact ⟨hok.1, hre, ⟨(by show 0 ≤ (s.c 0).count + (ms.length : Int); omega), (by show (s.c 0).count + (ms.length : Int) ≤ 4000000000000000000; omega)⟩, hok.2.2.2.1, hok.2.2.2.2⟩)
   have hfn : (s.fed 0 bs).now = s.now := set_now _ _ _
   refine zM rfl <| zX rfl <| zX rfl <| WL.alloc rfl zero_37 (.none rfl) rfl rfl <| ?_
   intro g8 hg8
   refine zA rfl <| zW many_37 rfl rfl <| zR <| zA rfl <| zN <| cS <| cR <| zM rfl <| zV (v_len_slice rfl rfl Tryz.underlying110) rfl <| zM rfl <| WL.to (L' := (⟨({ p with c0 := { p.c0 with rd := ⟨wad, wc, rest, p.c0.rd.count + ms.length, (fltOf f).1, (fltOf f).2.1, (fltOf f).2.2⟩ } } : PeL), Ew, E1, d, none, 0, [], [], []⟩ : PS).L g s.now (.row g8 (fltL (fltOf f).1 (fltOf f).2.1 (fltOf f).2.2) :: (Em ++ (K ++ L)))) (fun w hS => hS.permK ) <| ?_
   refine zN <| cB <| ?_
   refine WC.loop (fun x : FeS => [(27, .slice mad ms.length mc), (28, .int .i64 ms.length), (29, .int .i64 x.k), (9, .slice x.y.ad x.y.fs.length x.y.c), (8, .pointer (some ⟨g8, 0, none⟩)), (1, .int .i64 0), (0, .pointer (some ⟨g, 0, none⟩))]) (fun x => x.y.L g s.now (.row g8 (fltL (fltOf f).1 (fltOf f).2.1 (fltOf f).2.2) :: (Em ++ (K ++ L)))) (fun x => x.k ≤ ms.length ∧ PeAt g x.y.p x.t x.y.E0 x.y.E1 x.y.d ∧ x.t.now = s.now ∧ EfsV x.y.ad x.y.c x.y.fs x.y.E x.y.K ∧ x.y.fs.length ≤ 4 * x.k ∧ heardD 0 (s.fed 0 bs) (ms.map MsL.d) = ((heardD 0 x.t ((ms.drop x.k).map MsL.d)).1, x.y.fs.map EfL.d ++ (heardD 0 x.t ((ms.drop x.k).map MsL.d)).2)) (fun x => ms.length - x.k) ⟨0, ⟨({ p with c0 := { p.c0 with rd := ⟨wad, wc, rest, p.c0.rd.count + ms.length, (fltOf f).1, (fltOf f).2.1, (fltOf f).2.2⟩ } } : PeL), Ew, E1, d, none, 0, [], [], []⟩, s.fed 0 bs⟩ ⟨Nat.zero_le _, hA1, hfn, ⟨Vec.nil 23, fun e he => by cases he⟩, Nat.zero_le _, rfl⟩ (.cons rfl (.cons rfl (.cons rfl (.cons rfl (.cons rfl (.cons rfl (.cons rfl .nil))))))) (.refl _) ?_
   rintro ⟨k, ⟨p4, E04, E14, d4, ad4, c4, fs, EF, KF⟩, t⟩ ⟨hk, hA4, hnt, hV4, hfl, hee⟩
   dsimp only at hk hA4 hnt hV4 hfl hee
   unfold PS.L
   dsimp only
   refine cR ?_
   refine zT (v_lss rfl rfl rfl) rfl (fun h30 => ?_) (fun h30 => ?_)
   refine zN <| cS <| cT rfl <| cK <| eN <| cS <| cB <| cR <| ?_
   obtain ⟨x, hx⟩ : ∃ x, ms[k]? = some x := ⟨ms[k]'(by omega), List.getElem?_eq_getElem _⟩
   obtain ⟨b1, o1, ea1, r1⟩ := hVm.src2 (by rw [hVm.len.1]; omega)
   have hdr : ms.drop k = x :: ms.drop (k + 1) := (by rw [List.drop_eq_getElem_cons (by omega)]; congr 1; exact (List.getElem?_eq_some_iff.1 hx).2)
   have hxf := hfm x.d (List.mem_map_of_mem (List.mem_of_getElem? hx))
   refine zV ((v_indexAddr (b := b1) (off := o1) (lo := k) rfl (by show some (Value.slice mad _ _) = _; rw [ea1]) rfl Tryz.underlying110 sz_39 rfl (by omega))) rfl ?_
   refine zV (v_loadN rfl rfl many_39 rfl (fun w hS => msgs_at (r1 w fun e he => hS.holds e (by simp [Ck.L, clkL, he])) hx)) rfl ?_
   refine WL.alloc rfl zero_39 (.none rfl) rfl rfl ?_
   intro g11 hg11
   refine zW many_39 rfl rfl <| zN <| cS <| cR <| zM rfl <| zM rfl <| zK ck_51 rfl <| ?_
   intro w hS
   refine Calls.then (there_c w g p4 (hS.row (g := g)) 0 (by decide)) hS ?_
   generalize hth4 : decide ((p4.c 0).st ≠ 0) = b35
   cases b35
   refine zV (v_not rfl rfl rfl) rfl ?_
   have hc4 : p4.c0.m = t.c0 := (congrArg Se.c0 hA4.eq :)
   have hst4 : p4.c0.st = (t.c 0).st := (congrArg CnM.st hc4 :)
   refine zN <| cT rfl <| cR <| zM rfl <| zA rfl <| zN <| cE <| eR <| eB <| eR <| eR <| eB <| eR <| ?_
   refine tR Tryz.results15 rfl ?_
   have e1 : heardD 0 t ((ms.drop k).map MsL.d) = (t, []) := (by rw [hdr, List.map_cons]; unfold heardD; rw [if_pos (hst4.symm.trans (Decidable.of_not_not (of_decide_eq_false hth4)))])
   have e2 : feedS s 0 bs = (t, fs.map EfL.d) := (by
     unfold feedS
     rw [if_neg hz, hfe]
     dsimp only
     rw [hee, e1, List.append_nil]
     unfold endF
     rw [if_pos (hst4.symm.trans (Decidable.of_not_not (of_decide_eq_false hth4)))])
   rw [e2]
   exact fun w' h => ⟨ad4, c4, fs, EF, KF, p4, E04, E14, d4, rfl, hV4, rfl, hA4, by dsimp only; rw [hnt]; exact h.dropK (.row g11 x.cells :: .row g8 (fltL (fltOf f).1 (fltOf f).2.1 (fltOf f).2.2) :: (Em ++ K)) ⟩
   refine zV (v_not rfl rfl rfl) rfl ?_
   have hc4 : p4.c0.m = t.c0 := (congrArg Se.c0 hA4.eq :)
   have hst4 : p4.c0.st = (t.c 0).st := (congrArg CnM.st hc4 :)
   refine zN <| cF rfl <| cK <| eN <| WC.region <| zM rfl <| zM rfl <| zM rfl <| zV (v_loadN rfl rfl many_39 rfl allAt) rfl <| zK ck_56 rfl <| ?_
   intro w1 hS
   refine (hear0_c w0 w1 g p4 t E04 E14 (.row g11 x.cells :: (EF ++ (KF ++ (.row g8 (fltL (fltOf f).1 (fltOf f).2.1 (fltOf f).2.2) :: (Em ++ (K ++ L)))))) d4 hA4 hG (by rw [hnt]; exact hS.permK ) x hxf.id (by have := hxf.hold; have e : x.d.hold = x.hold := rfl; omega)).mono ?_
   rintro e w' ⟨ad2, c2, gs, EG, KG, p2, E02, E12, d2, rfl, hV2, heg, hA2, hS'⟩
   have hgl := efs_len heg
   have hgb : gs.length ≤ 4 := (by rw [hgl, hearD_eq]; exact hearD_len _ _ _)
   have hn2 : (hearS t 0 x).1.now = s.now := (by rw [hearD_eq, hearD_now]; exact hnt)
   rw [hn2] at hS'
   refine ⟨_, EF ++ (EG ++ (KG ++ (KF ++ (.row g p2.cells :: (E02 ++ (E12 ++ d2.L p2.gC s.now (.row g11 x.cells :: .row g8 (fltL (fltOf f).1 (fltOf f).2.1 (fltOf f).2.2) :: (Em ++ (K ++ L))))))))), rfl, hS'.permK , ?_⟩
   refine WL.appendL rfl rfl rfl Tryz.underlying46 Tryz.underlying46 sz_54 by_54 zero_54 rfl rfl hV4.1 (new := efsL gs) (hV2.1.src (fun e he => List.mem_append_right _ (List.mem_append_left _ he)) |> fun f h => (f (by rw [efsL_len]; omega)).elim fun b1 h1 => h1.elim fun o1 h2 => ⟨b1, o1, h2.1, fun w hS => h2.2 _ _ w hS⟩) (efsL_len gs) (efsL_one gs) (by omega) (.none rfl) rfl rfl ?_
   intro ad43 c43 E43 hV43 hr43
   rw [efsL_app] at hV43
   rw [show fs.length + gs.length = (fs ++ gs).length from List.length_append.symm] at hV43 ⊢
   refine WL.to (L' := (⟨p2, E02, E12, d2, ad43, c43, fs ++ gs, E43, KG ++ KF⟩ : PS).L g s.now (.row g8 (fltL (fltOf f).1 (fltOf f).2.1 (fltOf f).2.2) :: (Em ++ (K ++ L)))) (fun w hS => hS.dropK (EG ++ [.row g11 x.cells]) ) <| zA rfl <| WL.nil <| eb <| eN <| WC.region <| ?_
   refine zV (v_add rfl rfl rfl (show _ = ((k + 1 : Nat) : Int) from (w_i64 (by omega) (by omega)).trans (by omega))) rfl ?_
   refine zM rfl ?_
   skip
   refine WL.nil ?_
   refine WE.next ⟨k + 1, ⟨p2, E02, E12, d2, ad43, c43, fs ++ gs, E43, KG ++ KF⟩, (hearS t 0 x).1⟩ (by dsimp only; omega) ⟨by dsimp only; omega, hA2, hn2, ⟨hV43, fun e he => ?_⟩, by dsimp only; rw [List.length_append]; omega, ?_⟩ (.cons rfl (.cons rfl (.cons rfl (.cons rfl (.cons rfl (.cons rfl (.cons rfl .nil))))))) (.refl _)
   · rcases List.mem_append.1 he with he | he
     · exact (hV4.2 e he).mono fun x hx => List.mem_append_right _ hx
     · exact (hV2.2 e he).mono fun x hx => List.mem_append_left _ hx
   · have hz4 : (t.c 0).st ≠ 0 := fun hh => of_decide_eq_true hth4 (hst4.trans hh)
     dsimp only
     rw [hee, hdr, List.map_cons, List.map_append, heg, List.append_assoc]
     conv => lhs; unfold heardD
     rw [if_neg hz4, hearD_eq]
   refine zN <| cS <| cF rfl <| cX <| eX <| eX <| eH <| eN <| cS <| cR <| zM rfl <| zM rfl <| ?_
   have hc4 : p4.c0.m = t.c0 := (congrArg Se.c0 hA4.eq :)
   have hst4 : p4.c0.st = (t.c 0).st := (congrArg CnM.st hc4 :)
   have hdn : ms.drop k = [] := List.drop_eq_nil_iff.2 (by omega)
   have e1 : feedS s 0 bs = endF 0 f (t, fs.map EfL.d) := (by
     unfold feedS
     rw [if_neg hz, hfe]
     dsimp only
     rw [hee, hdn]
     show endF _ _ (t, _ ++ []) = _
     rw [List.append_nil])
   refine zK ck_51 rfl ?_
   intro w hS
   refine Calls.then (there_c w g p4 (hS.row (g := g)) 0 (by decide)) hS ?_
   generalize hth5 : decide ((p4.c 0).st ≠ 0) = b47
   cases b47
   refine zM rfl <| WL.sk rfl <| ?_
   generalize hfs : f.isSome = bz
   have hbz := flt_zero hfo
   rw [hfs] at hbz
   iterate 2 refine WL.sk rfl ?_
   refine zQ rfl <| zN <| cF rfl <| cK <| eN <| cR <| zM rfl <| zA rfl <| zN <| cE <| tR Tryz.results15 rfl <| ?_
   have e2 : feedS s 0 bs = (t, fs.map EfL.d) := (by rw [e1]; unfold endF; rw [if_pos (hst4.symm.trans (Decidable.of_not_not (of_decide_eq_false hth5)))])
   rw [e2]
   exact fun w' h => ⟨ad4, c4, fs, EF, KF, p4, E04, E14, d4, rfl, hV4, rfl, hA4, by dsimp only; rw [hnt]; exact h.dropK (.row g8 (fltL (fltOf f).1 (fltOf f).2.1 (fltOf f).2.2) :: (Em ++ K)) ⟩
   refine zM rfl <| zS (v_loadN rfl rfl many_37 rfl allAt) rfl <| ?_
   generalize hfs : f.isSome = bz
   have hbz := flt_zero hfo
   rw [hfs] at hbz
   refine zS (v_build rfl rfl zero_37 plc_37 rfl) rfl <| zS (v_neq_aggB (b := bz) rfl rfl rfl eqk_37 eqg_37 rfl rfl hbz) rfl <| ?_
   cases bz
   refine zP rfl <| zN <| cF rfl <| cK <| eN <| cR <| zM rfl <| zA rfl <| zN <| cE <| tR Tryz.results15 rfl <| ?_
   have hz4 : (t.c 0).st ≠ 0 := fun hh => of_decide_eq_true hth5 (hst4.trans hh)
   have hfn0 : f = none := Option.isNone_iff_eq_none.1 (by rw [← Option.not_isSome, hfs]; rfl)
   have e2 : feedS s 0 bs = (t, fs.map EfL.d) := (by rw [e1, hfn0]; unfold endF; rw [if_neg hz4])
   rw [e2]
   exact fun w' h => ⟨ad4, c4, fs, EF, KF, p4, E04, E14, d4, rfl, hV4, rfl, hA4, by dsimp only; rw [hnt]; exact h.dropK (.row g8 (fltL (fltOf f).1 (fltOf f).2.1 (fltOf f).2.2) :: (Em ++ K)) ⟩
   refine zP rfl <| zN <| cT rfl <| WC.region <| zM rfl <| zM rfl <| zM rfl <| zV (v_loadN rfl rfl many_37 rfl allAt) rfl <| ?_
   obtain ⟨fv, rfl⟩ := Option.isSome_iff_exists.1 hfs
   have hfv := hfo fv rfl
   refine zK ck_57 rfl ?_
   intro w1 hS
   refine (end0_c w0 w1 g p4 t E04 E14 (EF ++ (KF ++ (.row g8 (fltL (fltOf (some fv)).1 (fltOf (some fv)).2.1 (fltOf (some fv)).2.2) :: (Em ++ (K ++ L))))) d4 hA4 hG (by rw [hnt]; exact hS.permK ) fv.1 fv.2.1 fv.2.2 (by have := hfv.1; constructor <;> omega) (by have := hfv.2.1; constructor <;> omega) (by have := hfv.2.2; omega)).mono ?_
   rintro e w' ⟨ad2, c2, gs, EG, KG, p2, E02, E12, d2, rfl, hV2, heg, hA2, hS'⟩
   have hgl := efs_len heg
   have hgb : gs.length ≤ 3 := (by rw [hgl]; exact endE_len _ _ _ _ _)
   have hn2 : (t.gone 0).now = s.now := (gone_now _ _).trans hnt
   rw [hn2] at hS'
   refine ⟨_, EF ++ (EG ++ (KG ++ (KF ++ (.row g p2.cells :: (E02 ++ (E12 ++ d2.L p2.gC s.now (.row g8 (fltL (fltOf (some fv)).1 (fltOf (some fv)).2.1 (fltOf (some fv)).2.2) :: (Em ++ (K ++ L))))))))), rfl, hS'.permK , ?_⟩
   refine WL.appendL rfl rfl rfl Tryz.underlying46 Tryz.underlying46 sz_54 by_54 zero_54 rfl rfl hV4.1 (new := efsL gs) (hV2.1.src (fun e he => List.mem_append_right _ (List.mem_append_left _ he)) |> fun f h => (f (by rw [efsL_len]; omega)).elim fun b1 h1 => h1.elim fun o1 h2 => ⟨b1, o1, h2.1, fun w hS => h2.2 _ _ w hS⟩) (efsL_len gs) (efsL_one gs) (by omega) (.none rfl) rfl rfl ?_
   intro ad58 c58 E58 hV58 hr58
   rw [efsL_app] at hV58
   rw [show fs.length + gs.length = (fs ++ gs).length from List.length_append.symm] at hV58 ⊢
   refine zA rfl <| zR <| zM rfl <| zA rfl <| zN <| cE <| tR Tryz.results15 rfl <| ?_
   have hz4 : (t.c 0).st ≠ 0 := fun hh => of_decide_eq_true hth5 (hst4.trans hh)
   have e2 : feedS s 0 bs = (t.gone 0, fs.map EfL.d ++ endE t 0 fv.1 fv.2.1 fv.2.2) := (by rw [e1]; unfold endF; rw [if_neg hz4])
   rw [e2]
   refine fun w' h => ⟨ad58, c58, fs ++ gs, E58, KG ++ KF, p2, E02, E12, d2, rfl, ⟨hV58, fun e he => ?_⟩, by rw [List.map_append, heg], hA2, by dsimp only; rw [hn2]; exact h.dropK (EG ++ (.row g8 (fltL (fltOf (some fv)).1 (fltOf (some fv)).2.1 (fltOf (some fv)).2.2) :: (Em ++ K))) ⟩
   rcases List.mem_append.1 he with he | he
   · exact (hV4.2 e he).mono fun x hx => List.mem_append_right _ hx
   · exact (hV2.2 e he).mono fun x hx => List.mem_append_left _ hx

def Se.Fit (s : Se) : Prop := ∀ n, n < 2 → (s.c n).hold = 0 ∨ 3 ≤ (s.c n).hold
def dueV (now : Int) (n : Nat) (later : Int) : Int := if maxT ≤ now ∧ n ≠ 1 ∧ n ≠ 2 then -1 else min (now + later) maxT


theorem feedM_one {m : MsL} (h : msgC m = 0) (hI : m.In) : feedM [] (msgB m) = ([bareD m], none, []) := by
  obtain ⟨j, rest, hj, e, _, hz⟩ := feedM_prefix [m] [] (msgB m) [] (fun x hx => by obtain rfl := List.mem_singleton.1 hx; exact ⟨h, hI⟩) (by unfold flatB; rw [List.flatMap_cons, List.flatMap_nil])
  obtain ⟨rfl, rfl⟩ := hz rfl
  exact e
theorem openM_code {a h i : Int} (ha : 1 ≤ a ∧ a ≤ 65535) (hh : h = 0 ∨ 3 ≤ h ∧ h ≤ 65535) (hi : i ≠ 0) : msgC (openM a h i) = 0 := by
  have e1 : badO (openM a h i) = false := by
    unfold badO
    exact decide_eq_false (show ¬ (a < 1 ∨ 65535 < a ∨ (h ≠ 0 ∧ (h < 3 ∨ 65535 < h)) ∨ i = 0 ∨ 32 < 0) by omega)
  have e2 : bodC (openM a h i) = 0 := by
    show openC (openM a h i) = 0
    unfold openC
    rw [e1]
    rfl
  have e3 : (bodB (openM a h i)).length = 10 := by
    show (openB (openM a h i)).length = 10
    unfold openB
    simp only [List.length_append, numB_len, List.length_cons, List.length_nil]
    rfl
  unfold msgC
  rw [if_pos e2, if_neg (by omega)]
theorem noteM_code {C S : Int} {d : ByteArray} (hC : 1 ≤ C ∧ C ≤ 255) (hS : 0 ≤ S ∧ S ≤ 255) (hd : d.size ≤ 4075) : msgC (noteM C S d) = 0 := by
  have e2 : bodC (noteM C S d) = 0 := by
    show noteC (noteM C S d) = 0
    show (if C < 1 ∨ 255 < C ∨ S < 0 ∨ 255 < S then (1 : Int) else if 4096 < d.size then 6 else 0) = 0
    rw [if_neg (show ¬ (C < 1 ∨ 255 < C ∨ S < 0 ∨ 255 < S) by omega), if_neg (show ¬ 4096 < d.size by omega)]
  have e3 : (bodB (noteM C S d)).length = 2 + d.size := by
    show (noteB (noteM C S d)).length = _
    unfold noteB
    rw [List.length_append, strI_len]
    rfl
  unfold msgC
  rw [if_pos e2, if_neg (by omega)]
theorem ka_code : msgC (MsL.zero 4) = 0 := by decide
theorem sendE_ok {n : Int} {m : MsL} (h : msgC m = 0) : sendE n m = [⟨2, n, msgB m, (MsL.zero 0).d⟩] := if_pos h
theorem noteM_in' {C S : Int} {d : ByteArray} (hC : 1 ≤ C ∧ C ≤ 255) (hS : 0 ≤ S ∧ S ≤ 255) (hd : d.size ≤ 4075) : (noteM C S d).In := noteM_in (by constructor <;> omega) (by constructor <;> omega) (by omega)
def whichD (xs : List Int) : Int × Int × Int := match decM xs with | .inl m => (m.kind, m.fc, m.fs) | .inr _ => (-1, 0, 0)
theorem which_msg {m : MsL} (h : msgC m = 0) (hI : m.In) : whichD (msgB m) = ((bareD m).kind, (bareD m).fc, (bareD m).fs) := by
  unfold whichD
  rw [decM_msgB h hI]
theorem which_note {C S : Int} {d : ByteArray} (hC : 1 ≤ C ∧ C ≤ 255) (hS : 0 ≤ S ∧ S ≤ 255) (hd : d.size ≤ 4075) : whichD (msgB (noteM C S d)) = (3, C, S) := which_msg (noteM_code hC hS hd) (noteM_in' hC hS hd)
theorem which_ka : whichD (msgB (MsL.zero 4)) = (4, 0, 0) := which_msg ka_code (zeroM_in ⟨by decide, by decide⟩)
theorem which_c (w : World) (ad : Option Addr) (c : Nat) (xs : List Int) (hC : CellsAt w ad (u8s xs)) (hB : Bys xs) (hle : xs.length ≤ c) (hn : xs.length ≤ 90000) :
    Calls Tryz.prog 17 #[.slice ad xs.length c] w fun e w' => e = .returned (.agg #[.int .i64 (whichD xs).1, .int .i64 (whichD xs).2.1, .int .i64 (whichD xs).2.2]) ∧ Frm (fun _ => False) w w' := by
  refine enter Tryz.func17 rfl Tryz.ntmps17 rfl (St.start (fun _ => False) w) ?_
  refine cR <| WL.alloc rfl zero_51 (.none rfl) rfl rfl <| ?_
  intro g2 hg2
  refine zR <| zM rfl <| zK ck_58 rfl <| ?_
  intro w1 hS
  refine (RDecAny_c w1 ad c xs (hC.frm (hS.rng fun _ h => h)) hB hle hn).mono ?_
  rintro e w' ⟨C, S, d, m, K, rfl, hM, hS', hD⟩
  refine ⟨_, _, rfl, hS.join hS', ?_⟩
  refine zM rfl <| zX rfl <| zX rfl <| WL.alloc rfl zero_122 (.none rfl) rfl rfl <| ?_
  intro g3 hg3
  refine WL.alloc rfl zero_120 (.none rfl) rfl rfl ?_
  intro g4 hg4
  refine zW many_122 rfl rfl <| zW many_120 rfl rfl <| zN <| cS <| cR <| zF rfl fld_120_0 <| zL rfl one_3 rfl <| ?_
  refine zT (v_neq rfl rfl rfl) rfl (fun h12 => ?_) (fun h12 => ?_)
  refine zN <| cT rfl <| cR <| zV (v_buildA rfl rfl zero_51 Tryz.underlying51 sz_3 rfl) rfl <| zW many_51 rfl rfl <| zN <| cE <| eR <| tR Tryz.results17 (resRow rfl many_51 rfl) <| ?_
  have e : whichD xs = (-1, 0, 0) := (by
    unfold whichD
    unfold DecIs at hD
    split
    · rename_i m2 hm
      rw [hm] at hD
      exact absurd hD.1 h12
    · rfl)
  exact fun w' h => ⟨by rw [e]; rfl, h.frm⟩
  refine zN <| cF rfl <| cK <| eN <| cR <| zF rfl fld_122_0 <| zL rfl one_3 rfl <| zF rfl fld_122_8 <| zV (v_fieldAddr rfl rfl fld_120_0) rfl <| zL rfl one_3 rfl <| zF rfl fld_122_8 <| zV (v_fieldAddr rfl rfl fld_120_1) rfl <| zL rfl one_3 rfl <| ?_
  refine zV (v_buildA rfl rfl zero_51 Tryz.underlying51 sz_3 rfl) rfl <| zW many_51 rfl rfl <| zN <| cE <| tR Tryz.results17 (resRow rfl many_51 rfl) <| ?_
  have e : whichD xs = (m.kind, m.fc, m.fs) := (by
    unfold whichD
    unfold DecIs at hD
    split
    · rename_i m2 hm
      rw [hm] at hD
      rw [← hD.2.2.2]
      rfl
    · rename_i f hm
      obtain ⟨C2, S2, d2⟩ := f
      rw [hm] at hD
      exact absurd ((congrArg Prod.fst hD.1 : C2 = C).trans (Decidable.of_not_not h12)) (decM_code hm))
  exact fun w' h => ⟨by rw [e]; rfl, h.frm⟩

theorem efs_kind {fs : List EfL} {es : List EfD} (h : fs.map EfL.d = es) : fs.map EfL.kind = es.map EfD.kind := by
  rw [← h, List.map_map]; rfl
theorem openS_as {s : Se} {n : Nat} {A H j : Int} (h1 : A ≠ s.their) : openS s n A H j = (s.gone n, endE s n 2 2 ⟨#[]⟩) := if_pos h1
theorem openS_id {s : Se} {n : Nat} {A H j : Int} (h1 : A = s.their) (h2 : j = s.id) : openS s n A H j = (s.gone n, endE s n 2 3 ⟨#[]⟩) := (if_neg (fun hh => hh h1)).trans (if_pos h2)
theorem openS_ok {s : Se} {n : Nat} {A H j : Int} (h1 : A = s.their) (h2 : j ≠ s.id) (h3 : (s.c (1 - n)).st ≠ 5) (h4 : (s.c (1 - n)).st ≠ 4) : openS s n A H j = (s.confirm n H j, sendE n (MsL.zero 4)) := (if_neg (fun hh => hh h1)).trans ((if_neg h2).trans ((if_neg h3).trans (if_neg h4)))
theorem hearD_open {s : Se} {n : Nat} {m : MsD} (h1 : m.kind = 1) (h2 : (s.c n).st = 3) : hearD s n m = openS s n m.asn m.hold m.id := (if_neg (by omega)).trans (if_pos ⟨h1, h2⟩)
theorem hearD_estab {s : Se} {n : Nat} {m : MsD} (h1 : m.kind = 4) (h2 : (s.c n).st = 4) : hearD s n m = (s.establish n, estabE s n) := (if_neg (by omega)).trans ((if_neg (by omega)).trans (if_pos ⟨h1, h2⟩))
theorem estab_one {s t : Se} {n : Nat} (h1 : s.up5 n = t) (h2 : (t.c (1 - n)).st = 0) : s.establish n = t ∧ estabE s n = [ef 4 n] := by
  subst h1
  exact ⟨if_pos h2, by unfold estabE; rw [if_pos h2]; rfl⟩
theorem confirm_on {s : Se} {n : Nat} {H j : Int} (h : min s.hold H ≠ 0) : s.confirm n H j = ((s.conf4 n H j).alive n).kept n := if_neg h
theorem alive_on {s : Se} {n : Nat} (h : (s.c n).hold ≠ 0) : s.alive n = s.due (1 + n) (s.c n).hold := if_neg h
theorem kept_on {s : Se} {n : Nat} (h : (s.c n).hold ≠ 0) : s.kept n = s.due (3 + n) ((s.c n).hold.tdiv 3) := if_neg h
section
variable (a i t h r : Int)
def sA : Se := ⟨a, i, t, h, r, 1, CnM.zero, CnM.zero, 0, [r, -1, -1, -1, -1]⟩
def sB : Se := ⟨a, i, t, h, r, 2, sentC, CnM.zero, 0, [-1, 240, -1, -1, -1]⟩
def cn4 (H j : Int) : CnM := ⟨4, [], 1, 0, 0, ⟨#[]⟩, H, j⟩
def cn5 (H j : Int) : CnM := ⟨5, [], 2, 0, 0, ⟨#[]⟩, H, j⟩
def sC (H j : Int) : Se := ⟨a, i, t, h, r, 2, cn4 H j, CnM.zero, 0, [-1, H, -1, H.tdiv 3, -1]⟩
def sD (H j : Int) : Se := ⟨a, i, t, h, r, 2, cn5 H j, CnM.zero, 0, [-1, H, -1, H.tdiv 3, -1]⟩
variable {a i t h r : Int}
theorem dueV_0 {n : Nat} {l : Int} (h0 : l ≤ 65535) : dueV 0 n l = l := by
  unfold dueV maxT
  rw [if_neg (by omega)]
  omega
theorem dial_new (hr : r ≤ 65535) : (Se.new a i t h r).dial = sA a i t h r := by
  show (⟨a, i, t, h, r, 1, CnM.zero, CnM.zero, 0, [dueV 0 0 r, -1, -1, -1, -1]⟩ : Se) = _
  rw [dueV_0 hr]
  rfl
theorem up_sA : (sA a i t h r).up 0 = sB a i t h r ∧ upE (sA a i t h r) 0 = sendE 0 (openM a h i) := by
  have hn : ¬ upNo (sA a i t h r) 0 := by
    rintro (h | h | ⟨_, h⟩)
    · exact absurd (show (1 : Int) = 0 from h) (by decide)
    · exact h rfl
    · exact h rfl
  exact ⟨(if_neg hn).trans rfl, if_neg hn⟩
theorem feedS_one {s : Se} {n : Nat} {m : MsL} (h0 : (s.c n).st ≠ 0) (hw : (s.c n).wait = []) (h : msgC m = 0) (hI : m.In) : feedS s n (msgB m) = hearD (s.set n { s.c n with wait := [], count := (s.c n).count + 1, fc := 0, fs := 0, fd := ⟨#[]⟩ }) n (bareD m) := by
  have e1 : feedM [] ((s.c n).wait ++ msgB m) = ([bareD m], none, []) := by rw [hw, List.nil_append]; exact feedM_one h hI
  unfold feedS
  rw [if_neg h0]
  have e2 : s.fed n (msgB m) = s.set n { s.c n with wait := [], count := (s.c n).count + 1, fc := 0, fs := 0, fd := ⟨#[]⟩ } := by
    unfold Se.fed CnM.fed
    rw [e1]
    rfl
  rw [e2, e1]
  dsimp only
  generalize he : s.set n _ = s'
  have e3 : (s'.c n).st = (s.c n).st := by
    rw [← he]
    unfold Se.set Se.c
    split <;> rfl
  have e4 : heardD n s' [bareD m] = hearD s' n (bareD m) := by
    unfold heardD
    rw [if_neg (by rw [e3]; exact h0)]
    unfold heardD
    rw [List.append_nil]
  rw [e4]
  unfold endF
  split <;> rfl
theorem feed_sB {A H j : Int} (hc : msgC (openM A H j) = 0) (hI : (openM A H j).In) : feedS (sB a i t h r) 0 (msgB (openM A H j)) = openS ⟨a, i, t, h, r, 2, ⟨3, [], 1, 0, 0, ⟨#[]⟩, 0, 0⟩, CnM.zero, 0, [-1, 240, -1, -1, -1]⟩ 0 A H j := by
  rw [feedS_one (s := sB a i t h r) (n := 0) (show (3 : Int) ≠ 0 by decide) rfl hc hI]
  exact hearD_open rfl rfl
theorem end_sB {C S : Int} (hC : 1 ≤ C ∧ C ≤ 255) (hS : 0 ≤ S ∧ S ≤ 255) {c : Int} : endE ⟨a, i, t, h, r, 2, ⟨3, [], c, 0, 0, ⟨#[]⟩, 0, 0⟩, CnM.zero, 0, [-1, 240, -1, -1, -1]⟩ 0 C S ⟨#[]⟩ = [⟨2, 0, msgB (noteM C S ⟨#[]⟩), (MsL.zero 0).d⟩, ef 3 0] := by
  unfold endE
  rw [if_neg (by omega)]
  rw [show sendE ((0 : Nat) : Int) (noteM C S ⟨#[]⟩) = _ from sendE_ok (noteM_code hC hS (Nat.zero_le _))]
  rfl
theorem confirm_sB {H j : Int} (hm : 3 ≤ min h H) (hh : min h H ≤ 65535) : Se.confirm ⟨a, i, t, h, r, 2, ⟨3, [], 1, 0, 0, ⟨#[]⟩, 0, 0⟩, CnM.zero, 0, [-1, 240, -1, -1, -1]⟩ 0 H j = sC a i t h r (min h H) j := by
  rw [confirm_on (show min h H ≠ 0 by omega)]
  refine (congrArg (fun z => Se.kept z 0) (alive_on ?_)).trans ?_
  · show min h H ≠ 0; omega
  refine (kept_on ?_).trans ?_
  · show min h H ≠ 0; omega
  show (⟨a, i, t, h, r, 2, cn4 (min h H) j, CnM.zero, 0, [-1, dueV 0 1 (min h H), -1, dueV 0 3 ((min h H).tdiv 3), -1]⟩ : Se) = _
  rw [dueV_0 hh, dueV_0 (tdiv3 (by omega) hh).2]
  rfl
theorem feed_sC {H j : Int} (hm : 3 ≤ H) (hh : H ≤ 65535) : feedS (sC a i t h r H j) 0 (msgB (MsL.zero 4)) = (sD a i t h r H j, [ef 4 0]) := by
  rw [feedS_one (s := sC a i t h r H j) (n := 0) (show (4 : Int) ≠ 0 by decide) rfl ka_code (zeroM_in ⟨by decide, by decide⟩)]
  refine (hearD_estab rfl rfl).trans ?_
  have e1 := estab_one (s := ⟨a, i, t, h, r, 2, ⟨4, [], 2, 0, 0, ⟨#[]⟩, H, j⟩, CnM.zero, 0, [-1, H, -1, H.tdiv 3, -1]⟩) (n := 0) (t := sD a i t h r H j) (by
    refine (alive_on (s := ⟨a, i, t, h, r, 2, ⟨5, [], 2, 0, 0, ⟨#[]⟩, H, j⟩, CnM.zero, 0, [-1, H, -1, H.tdiv 3, -1]⟩) (n := 0) (show H ≠ 0 by omega)).trans ?_
    show (⟨a, i, t, h, r, 2, cn5 H j, CnM.zero, 0, [-1, dueV 0 1 H, -1, H.tdiv 3, -1]⟩ : Se) = _
    rw [dueV_0 hh]
    rfl) rfl
  exact Prod.ext e1.1 e1.2
end
section
variable {a i t h r : Int} (w0 w : World) (g : Nat) (p : PeL) (E0 E1 L : List Ent) (d : Ck)
theorem start_new (hA : PeAt g p (Se.new a i t h r) E0 E1 d) (hS0 : St (fun _ => False) w0 w (.row g p.cells :: (E0 ++ (E1 ++ d.L p.gC 0 L)))) (hr : r ≤ 65535) : Calls Tryz.prog 13 #[.pointer (some ⟨g, 0, none⟩)] w fun e w' => EffC w0 w' g [ef 1 0] (sA a i t h r) L e := by
  have hc := start_c w0 w g p (Se.new a i t h r) E0 E1 L d hA hS0
  rw [if_pos (show (Se.new a i t h r).base = 0 from rfl), if_pos (show (Se.new a i t h r).base = 0 from rfl), dial_new hr] at hc
  exact hc
theorem up_new (hA : PeAt g p (sA a i t h r) E0 E1 d) (hG : GF w0) (hS0 : St (fun _ => False) w0 w (.row g p.cells :: (E0 ++ (E1 ++ d.L p.gC 0 L)))) (hok : confOk a i t h r) : Calls Tryz.prog 14 #[.pointer (some ⟨g, 0, none⟩), .int .i64 0] w fun e w' => EffC w0 w' g [⟨2, 0, msgB (openM a h i), (MsL.zero 0).d⟩] (sB a i t h r) L e := by
  have hc := up0_c w0 w g p (sA a i t h r) E0 E1 L d hA hG hS0 (by have := hok.1; show -9223372036854775808 ≤ a ∧ a ≤ 9223372036854775807; omega)
  rw [up_sA.1, up_sA.2, sendE_ok (openM_code hok.1 hok.2.2.2.1 hok.2.2.1)] at hc
  exact hc
end

theorem openM_in' {a h i : Int} (ha : 1 ≤ a ∧ a ≤ 65535) (hh : I64 h) (hi : U32 i) : (openM a h i).In := openM_in (by constructor <;> omega) hh hi
theorem msgB_le {m : MsL} (h : msgC m = 0) : (msgB m).length ≤ 4096 := by
  have := (msgC_bod h).2
  rw [msgB_len]; omega
theorem feed_sB_ok {a i t h r H j : Int} (hc : msgC (openM t H j) = 0) (hI : (openM t H j).In) (hj : j ≠ i) (hm : 3 ≤ min h H) (hh : min h H ≤ 65535) : feedS (sB a i t h r) 0 (msgB (openM t H j)) = (sC a i t h r (min h H) j, [⟨2, 0, msgB (MsL.zero 4), (MsL.zero 0).d⟩]) := by
  rw [feed_sB hc hI]
  refine (openS_ok rfl hj ?_ ?_).trans ?_
  · show (0 : Int) ≠ 5; decide
  · show (0 : Int) ≠ 4; decide
  · rw [confirm_sB hm hh]
    exact congrArg (Prod.mk _) (sendE_ok ka_code)
set_option maxHeartbeats 2000000 in
theorem Head10_c (w0 : World) (hG : GF w0) (hZ : GZ w0) : Calls Tryz.prog 9 #[] w0 fun e w' => e = .returned (.bool true) ∧ Frm (fun _ => False) w0 w' := by
  have hok : confOk 65000 5 65001 90 10 := by decide
  have hoc : msgC (openM 65001 30 9) = 0 := openM_code (by decide) (by decide) (by decide)
  have hoI : (openM 65001 30 9).In := openM_in' (by decide) ⟨by decide, by decide⟩ ⟨by decide, by decide⟩
  have hol : (msgB (openM 65001 30 9)).length ≤ 4096 := msgB_le hoc
  have hkI : (MsL.zero 4).In := zeroM_in ⟨by decide, by decide⟩
  have hkl : (msgB (MsL.zero 4)).length ≤ 4096 := msgB_le ka_code
  have f1 : feedS (sB 65000 5 65001 90 10) 0 (msgB (openM 65001 30 9)) = (sC 65000 5 65001 90 10 30 9, [⟨2, 0, msgB (MsL.zero 4), (MsL.zero 0).d⟩]) := feed_sB_ok (h := 90) hoc hoI (by decide) (by decide) (by decide)
  have f2 : feedS (sC 65000 5 65001 90 10 30 9) 0 (msgB (MsL.zero 4)) = (sD 65000 5 65001 90 10 30 9, [ef 4 0]) := feed_sC (by decide) (by decide)
  refine enter (vs := []) Tryz.func9 rfl Tryz.ntmps9 rfl (St.start (fun _ => False) w0) ?_
  refine cR <| zA rfl <| zR <| zK ck_12 rfl <| ?_
  intro w hS
  refine Calls.then (lconf_c w) hS ?_
  refine zK ck_11 rfl ?_
  intro w1 hS
  refine (new_c w0 w1 [] hS 65000 5 65001 90 10 hok ⟨by decide, by decide⟩).mono ?_
  rintro e w' ⟨g, p, d, rfl, hA, hS'⟩
  refine ⟨_, _, rfl, hS', ?_⟩
  refine zM rfl <| zX rfl <| zX rfl <| zA rfl <| zA rfl <| zN <| cS <| cR <| zM rfl <| ?_
  refine zV ((v_neq rfl rfl rfl).f ((by decide))) rfl ?_
  refine zM rfl <| zS (v_move rfl rfl) rfl <| zS (v_eql_nil false rfl rfl Tryz.underlying40 rfl) rfl <| zQ rfl <| zM rfl <| zS (v_move rfl rfl) rfl <| WL.call rfl rfl ck_13 (.some rfl rfl rfl) rfl rfl <| ?_
  intro w1 hS
  refine (start_new w0 w1 g p [] [] [] d hA hS (by decide)).mono ?_
  rintro e w' ⟨ad1, c1, fs1, EF1, KF1, p1, E01, E11, d1, rfl, hV1, he1, hA1, hS'⟩
  refine ⟨_, EF1 ++ (KF1 ++ (.row g p1.cells :: (E01 ++ (E11 ++ d1.L p1.gC 0 [])))), rfl, hS', ?_⟩
  refine WL.buildSlice rfl rfl Tryz.underlying32 sz_3 zero_3 rfl (by decide) rfl (.some rfl rfl rfl) rfl rfl ?_
  intro g17 hg17
  refine WL.as (L' := .row g17 [.int .i64 1] :: (EF1 ++ (KF1 ++ (.row g p1.cells :: (E01 ++ (E11 ++ d1.L p1.gC 0 [])))))) rfl <| WL.call rfl rfl ck_16 (.some rfl rfl rfl) rfl rfl <| ?_
  intro w hS
  refine Calls.then (kinds_c w ad1 c1 fs1 EF1 hV1.1 (fun e he => hS.holds e (by simp [Ck.L, clkL, he])) (some ⟨g17, 0, none⟩) 1 [1] (fun _ => ⟨g17, 0, rfl, allAt w hS⟩) (efs_kind he1) (by rw [efs_len he1]; decide)) hS ?_
  refine zS (v_not rfl rfl rfl) rfl <| zQ rfl <| zM rfl <| zS (v_move rfl rfl) rfl <| WL.call rfl rfl ck_14 (.some rfl rfl rfl) rfl rfl <| ?_
  intro w1 hS
  refine (up_new w0 w1 g p1 E01 E11 [] d1 hA1 hG (hS.dropK (.row g17 [.int .i64 1] :: (EF1 ++ KF1)) ) hok).mono ?_
  rintro e w' ⟨ad2, c2, fs2, EF2, KF2, p2, E02, E12, d2, rfl, hV2, he2, hA2, hS'⟩
  refine ⟨_, EF2 ++ (KF2 ++ (.row g p2.cells :: (E02 ++ (E12 ++ d2.L p2.gC 0 [])))), rfl, hS', ?_⟩
  refine WL.buildSlice rfl rfl Tryz.underlying32 sz_3 zero_3 rfl (by decide) rfl (.some rfl rfl rfl) rfl rfl ?_
  intro g24 hg24
  refine WL.as (L' := .row g24 [.int .i64 2] :: (EF2 ++ (KF2 ++ (.row g p2.cells :: (E02 ++ (E12 ++ d2.L p2.gC 0 [])))))) rfl <| WL.call rfl rfl ck_16 (.some rfl rfl rfl) rfl rfl <| ?_
  intro w hS
  refine Calls.then (kinds_c w ad2 c2 fs2 EF2 hV2.1 (fun e he => hS.holds e (by simp [Ck.L, clkL, he])) (some ⟨g24, 0, none⟩) 1 [2] (fun _ => ⟨g24, 0, rfl, allAt w hS⟩) (efs_kind he2) (by rw [efs_len he2]; decide)) hS ?_
  refine zS (v_not rfl rfl rfl) rfl <| zQ rfl <| zM rfl <| zS (v_move rfl rfl) rfl <| WL.call rfl rfl ck_22 (.some rfl rfl rfl) rfl rfl <| ?_
  intro w1 hS
  refine (lopen_c w1 9 30 ⟨by decide, by decide⟩ ⟨by decide, by decide⟩ (hG.keep (fun h => h) hS)).mono ?_
  rw [if_pos hoc]
  rintro e w' ⟨_, rfl, ad3, c3, E3, rfl, hV3, hS'⟩
  refine ⟨_, _, rfl, hS.join hS', ?_⟩
  refine WL.call rfl rfl ck_15 (.some rfl rfl rfl) rfl rfl ?_
  intro w1 hS
  have hf := feed0_c w0 w1 g p2 (sB 65000 5 65001 90 10) E02 E12 E3 d2 hA2 hG hZ (show St (fun _ => False) w0 w1 (.row g p2.cells :: (E02 ++ (E12 ++ d2.L p2.gC 0 E3))) from hS.dropK (.row g24 [.int .i64 2] :: (EF2 ++ KF2)) ) ad3 c3 (msgB (openM 65001 30 9)) (fun w h => hV3.cellsAt (fun e he => h.holds e (by simp [Ck.L, clkL, he]))) (msgB_bys hoI hoc) (by omega) ⟨rfl, rfl, rfl⟩ (by decide)
  rw [f1] at hf
  refine hf.mono ?_
  rintro e w' ⟨ad4, c4, fs4, EF4, KF4, p4, E04, E14, d4, rfl, hV4, he4, hA4, hS'⟩
  refine ⟨_, EF4 ++ (KF4 ++ (.row g p4.cells :: (E04 ++ (E14 ++ d4.L p4.gC 0 E3)))), rfl, hS', ?_⟩
  refine WL.buildSlice rfl rfl Tryz.underlying32 sz_3 zero_3 rfl (by decide) rfl (.some rfl rfl rfl) rfl rfl ?_
  intro g32 hg32
  refine WL.as (L' := .row g32 [.int .i64 2] :: (EF4 ++ (KF4 ++ (.row g p4.cells :: (E04 ++ (E14 ++ d4.L p4.gC 0 E3)))))) rfl <| WL.call rfl rfl ck_16 (.some rfl rfl rfl) rfl rfl <| ?_
  intro w hS
  refine Calls.then (kinds_c w ad4 c4 fs4 EF4 hV4.1 (fun e he => hS.holds e (by simp [Ck.L, clkL, he])) (some ⟨g32, 0, none⟩) 1 [2] (fun _ => ⟨g32, 0, rfl, allAt w hS⟩) (efs_kind he4) (by rw [efs_len he4]; decide)) hS ?_
  refine zS (v_not rfl rfl rfl) rfl <| zQ rfl <| zN <| cF rfl <| cK <| eN <| cR <| zM rfl <| ?_
  have b4 : p4.base = 2 := (congrArg Se.base hA4.eq :)
  have s4 : p4.c0.st = 4 := (congrArg (fun z : Se => z.c0.st) hA4.eq :)
  have t4 : p4.c1.st = 0 := (congrArg (fun z : Se => z.c1.st) hA4.eq :)
  refine zK ck_18 rfl ?_
  intro w hS
  refine Calls.then (state_c w g p4 (hS.row (g := g))) hS ?_
  refine zV ((v_eql rfl rfl rfl).t ((by rw [b4, s4, t4]; decide))) rfl ?_
  refine zM rfl <| zS (v_move rfl rfl) rfl <| zS (v_build rfl rfl zero_39 plc_39 rfl) rfl <| WL.call rfl rfl ck_23 (.some rfl rfl rfl) rfl rfl <| ?_
  intro w1 hS
  refine (lbytes_c w1 (MsL.zero 4) (zero4_at _) hkI (hG.keep (fun h => h) hS) (Nat.zero_le _) (Nat.zero_le _)).mono ?_
  rw [if_pos ka_code]
  rintro e w' ⟨_, rfl, ad5, c5, E5, rfl, hV5, hS'⟩
  refine ⟨_, _, rfl, hS.join hS', ?_⟩
  refine WL.call rfl rfl ck_15 (.some rfl rfl rfl) rfl rfl ?_
  intro w1 hS
  have hf := feed0_c w0 w1 g p4 (sC 65000 5 65001 90 10 30 9) E04 E14 E5 d4 hA4 hG hZ (show St (fun _ => False) w0 w1 (.row g p4.cells :: (E04 ++ (E14 ++ d4.L p4.gC 0 E5))) from hS.dropK (.row g32 [.int .i64 2] :: (EF4 ++ (KF4 ++ E3))) ) ad5 c5 (msgB (MsL.zero 4)) (fun w h => hV5.cellsAt (fun e he => h.holds e (by simp [Ck.L, clkL, he]))) (msgB_bys hkI ka_code) (by omega) ⟨rfl, rfl, rfl⟩ (by decide)
  rw [f2] at hf
  refine hf.mono ?_
  rintro e w' ⟨ad6, c6, fs6, EF6, KF6, p6, E06, E16, d6, rfl, hV6, he6, hA6, hS'⟩
  refine ⟨_, EF6 ++ (KF6 ++ (.row g p6.cells :: (E06 ++ (E16 ++ d6.L p6.gC 0 E5)))), rfl, hS', ?_⟩
  refine WL.buildSlice rfl rfl Tryz.underlying32 sz_3 zero_3 rfl (by decide) rfl (.some rfl rfl rfl) rfl rfl ?_
  intro g44 hg44
  refine WL.as (L' := .row g44 [.int .i64 4] :: (EF6 ++ (KF6 ++ (.row g p6.cells :: (E06 ++ (E16 ++ d6.L p6.gC 0 E5)))))) rfl <| WL.call rfl rfl ck_16 (.some rfl rfl rfl) rfl rfl <| ?_
  intro w hS
  refine Calls.then (kinds_c w ad6 c6 fs6 EF6 hV6.1 (fun e he => hS.holds e (by simp [Ck.L, clkL, he])) (some ⟨g44, 0, none⟩) 1 [4] (fun _ => ⟨g44, 0, rfl, allAt w hS⟩) (efs_kind he6) (by rw [efs_len he6]; decide)) hS ?_
  refine zP rfl <| zM rfl <| zS (v_move rfl rfl) rfl <| ?_
  have b6 : p6.base = 2 := (congrArg Se.base hA6.eq :)
  have s6 : p6.c0.st = 5 := (congrArg (fun z : Se => z.c0.st) hA6.eq :)
  have t6 : p6.c1.st = 0 := (congrArg (fun z : Se => z.c1.st) hA6.eq :)
  have i6 : p6.c0.id = 9 := (congrArg (fun z : Se => z.c0.id) hA6.eq :)
  refine WL.call rfl rfl ck_18 (.some rfl rfl rfl) rfl rfl ?_
  intro w hS
  refine Calls.then (state_c w g p6 (hS.row (g := g))) hS ?_
  refine zS ((v_eql rfl rfl rfl).t ((by rw [b6, s6, t6]; decide))) rfl ?_
  refine zP rfl <| zM rfl <| zS (v_move rfl rfl) rfl <| WL.call rfl rfl ck_21 (.some rfl rfl rfl) rfl rfl <| ?_
  intro w hS
  refine Calls.then (their_c w g p6 (hS.row (g := g))) hS ?_
  refine zS ((v_eql rfl rfl rfl).t ((by unfold theirP; rw [if_pos s6]; exact i6))) rfl ?_
  refine zP rfl <| zA rfl <| zN <| cE <| tR Tryz.results9 rfl <| ?_
  exact fun w' h => ⟨rfl, h.frm⟩

theorem which_at {w : World} {fs : List EfL} {E K : List Ent} {ad : Option Addr} {c : Nat} {x : EfL} (hV : EfsV ad c fs E K) (hx : x ∈ fs) (hK : ∀ e ∈ K, e.holds w) : CellsAt w x.ad (u8s x.bs) ∧ x.bs.length ≤ x.cap := by
  obtain ⟨⟨E2, h1, h2⟩⟩ := hV.2 x hx
  exact ⟨h1.cellsAt fun e he => hK e (h2 e he), by have := h1.len.2; exact this⟩
theorem list1 {α : Type} {D : List α} (h : D.length = 1) : ∃ a, D = [a] := by
  match D, h with
  | [a], _ => exact ⟨a, rfl⟩
theorem list2 {α : Type} {D : List α} (h : D.length = 2) : ∃ a b, D = [a, b] := by
  match D, h with
  | [a, b], _ => exact ⟨a, b, rfl⟩
theorem alive_cs (s : Se) (n : Nat) : (s.alive n).c0 = s.c0 ∧ (s.alive n).c1 = s.c1 ∧ (s.alive n).base = s.base := by unfold Se.alive; split <;> exact ⟨rfl, rfl, rfl⟩
theorem kept_cs (s : Se) (n : Nat) : (s.kept n).c0 = s.c0 ∧ (s.kept n).c1 = s.c1 ∧ (s.kept n).base = s.base := by unfold Se.kept; split <;> exact ⟨rfl, rfl, rfl⟩
theorem confirm_st (s : Se) (H j : Int) : (s.confirm 0 H j).base = s.base ∧ (s.confirm 0 H j).c0.st = 4 ∧ (s.confirm 0 H j).c1.st = s.c1.st := by
  unfold Se.confirm
  split
  · exact ⟨rfl, rfl, rfl⟩
  · have h1 := kept_cs ((s.conf4 0 H j).alive 0) 0
    have h2 := alive_cs (s.conf4 0 H j) 0
    rw [h1.1, h1.2.1, h1.2.2, h2.1, h2.2.1, h2.2.2]
    exact ⟨rfl, rfl, rfl⟩
set_option maxHeartbeats 4000000 in
theorem PeerRefuses_all (w0 : World) (hG : GF w0) (hZ : GZ w0) (A j H : Int) (hA0 : I64 A) (hj0 : U32 j) (hH0 : I64 H) : Calls Tryz.prog 3 #[.int .i64 A, .int .u32 j, .int .i64 H] w0 fun e w' => e = .returned (.bool true) ∧ Frm (fun _ => False) w0 w' := by
  have hok : confOk 65000 5 65001 90 10 := by decide
  have hoI : (openM A H j).In := openM_in hA0 hH0 hj0
  refine enter Tryz.func3 rfl Tryz.ntmps3 rfl (St.start (fun _ => False) w0) ?_
  refine cR <| zA rfl <| zN <| cS <| cR <| zK ck_9 rfl <| ?_
  intro w hS
  refine Calls.then (Head10_c w (hG.keep (fun h => h) hS) (hZ.keep (fun h => h) hS)) hS ?_
  refine zV (v_not rfl rfl rfl) rfl <| zN <| cF rfl <| cK <| eN <| cR <| zM rfl <| zM rfl <| zM rfl <| zV (v_build rfl rfl zero_39 plc_39 rfl) rfl <| zK ck_10 rfl <| ?_
  intro w1 hS
  refine (Enc_c w1 (openM A H j) (openM_at _ _ _ _) hoI (hG.keep (fun h => h) hS) (Nat.zero_le _) (Nat.zero_le _)).mono ?_
  rintro e w' ⟨_, rfl, ad1, c1, E1, rfl, hV1, hS'⟩
  refine ⟨_, _, rfl, hS.join hS', ?_⟩
  refine zM rfl <| zX rfl <| zX rfl <| zA rfl <| zA rfl <| zN <| cS <| cR <| zM rfl <| ?_
  refine zT (v_neq rfl rfl rfl) rfl (fun h23 => ?_) (fun h23 => ?_)
  refine zN <| cT rfl <| cR <| zA rfl <| zN <| cE <| eR <| tR Tryz.results3 rfl <| ?_
  exact fun w' h => ⟨rfl, h.frm⟩
  refine zN <| cF rfl <| cK <| eN <| cR <| ?_
  have hoc : msgC (openM A H j) = 0 := Decidable.of_not_not h23
  have hol : (msgB (openM A H j)).length ≤ 4096 := msgB_le hoc
  rw [if_pos hoc] at hV1 ⊢
  refine zK ck_12 rfl ?_
  intro w hS
  refine Calls.then (lconf_c w) hS ?_
  refine zK ck_11 rfl ?_
  intro w1 hS
  refine (new_c w0 w1 _ hS 65000 5 65001 90 10 hok ⟨by decide, by decide⟩).mono ?_
  rintro e w' ⟨g, p, d, rfl, hA, hS'⟩
  refine ⟨_, _, rfl, hS', ?_⟩
  refine zM rfl <| zX rfl <| zX rfl <| zA rfl <| zA rfl <| zN <| cS <| cR <| zM rfl <| ?_
  refine zV ((v_neq rfl rfl rfl).f ((by decide))) rfl ?_
  refine zN <| cF rfl <| cK <| eN <| cR <| zM rfl <| zK ck_13 rfl <| ?_
  intro w1 hS
  refine (start_new w0 w1 g p [] [] _ d hA hS (by decide)).mono ?_
  rintro e w' ⟨ad2, c2, fs2, EF2, KF2, p2, E02, E12, d2, rfl, hV2, he2, hA2, hS'⟩
  refine ⟨_, .row g p2.cells :: (E02 ++ (E12 ++ d2.L p2.gC 0 (E1 ++ []))), rfl, St.dropK (L := EF2 ++ (KF2 ++ (.row g p2.cells :: (E02 ++ (E12 ++ d2.L p2.gC 0 (E1 ++ [])))))) (EF2 ++ KF2) hS', ?_⟩
  refine zR <| zM rfl <| zK ck_14 rfl <| ?_
  intro w1 hS
  refine (up_new w0 w1 g p2 E02 E12 (E1 ++ []) d2 hA2 hG hS hok).mono ?_
  rintro e w' ⟨ad3, c3, fs3, EF3, KF3, p3, E03, E13, d3, rfl, hV3, he3, hA3, hS'⟩
  refine ⟨_, .row g p3.cells :: (E03 ++ (E13 ++ d3.L p3.gC 0 (E1 ++ []))), rfl, St.dropK (L := EF3 ++ (KF3 ++ (.row g p3.cells :: (E03 ++ (E13 ++ d3.L p3.gC 0 (E1 ++ [])))))) (EF3 ++ KF3) hS', ?_⟩
  refine zR <| zM rfl <| zM rfl <| zK ck_15 rfl <| ?_
  intro w1 hS
  have hf := feed0_c w0 w1 g p3 (sB 65000 5 65001 90 10) E03 E13 (E1 ++ []) d3 hA3 hG hZ hS ad1 c1 (msgB (openM A H j)) (fun w h => hV1.cellsAt (fun e he => h.holds e (by simp [Ck.L, clkL, he]))) (msgB_bys hoI hoc) (by omega) ⟨rfl, rfl, rfl⟩ (by decide)
  rw [feed_sB hoc hoI] at hf
  refine hf.mono ?_
  rintro e w' ⟨ad4, c4, fs4, EF4, KF4, p4, E04, E14, d4, rfl, hV4, he4, hA4, hS'⟩
  refine ⟨_, EF4 ++ (KF4 ++ (.row g p4.cells :: (E04 ++ (E14 ++ d4.L p4.gC _ (E1 ++ []))))), rfl, hS', ?_⟩
  refine zA rfl <| zN <| cS <| cB <| cR <| zM rfl <| ?_
  refine zT (v_neq rfl rfl rfl) rfl (fun h40 => ?_) (fun h40 => ?_)
  refine zA rfl <| zN <| cT rfl <| cR <| zM rfl <| ?_
  rw [openS_as (s := ⟨65000, 5, 65001, 90, 10, 2, ⟨3, [], 1, 0, 0, ⟨#[]⟩, 0, 0⟩, CnM.zero, 0, [-1, 240, -1, -1, -1]⟩) (n := 0) (H := H) (j := j) h40] at he4 hA4
  rw [end_sB (by decide) (by decide)] at he4
  have hl4 : fs4.length = 2 := (efs_len he4).trans rfl
  obtain ⟨x0, x1, e4⟩ := list2 hl4
  subst e4
  have hx0 : x0.bs = msgB (noteM 2 2 ⟨#[]⟩) := congrArg EfD.bs (List.cons.inj he4).1
  have hb4 : p4.base = 2 := (congrArg Se.base hA4.eq :)
  have hs4 : p4.c0.st = 0 := (congrArg (fun z : Se => z.c0.st) hA4.eq :)
  have ht4 : p4.c1.st = 0 := (congrArg (fun z : Se => z.c1.st) hA4.eq :)
  refine zB Tryz.underlying32 sz_3 zero_3 rfl rfl ?_
  intro g42 hg42
  refine WL.as (L' := .row g42 [.int .i64 2, .int .i64 3] :: (EF4 ++ (KF4 ++ (.row g p4.cells :: (E04 ++ (E14 ++ d4.L p4.gC _ (E1 ++ []))))))) rfl <| zK ck_16 rfl <| ?_
  intro w hS
  refine Calls.then (kinds_c w ad4 c4 [x0, x1] EF4 hV4.1 (fun e he => hS.holds e (by simp [he])) (some ⟨g42, 0, none⟩) 2 [2, 3] (fun _ => ⟨g42, 0, rfl, allAt w hS⟩) (efs_kind he4) (by show 2 ≤ 1000000; decide)) hS ?_
  refine zM rfl <| zS (v_move rfl rfl) rfl <| ?_
  obtain ⟨b5, o5, ea5, r5⟩ := hV4.1.src2 (by rw [efsL_len]; exact (by decide : 0 < 2 * 23))
  have hp0 : 0 < [x0, x1].length := Nat.succ_pos _
  refine zS ((v_indexAddr (b := b5) (off := o5) (lo := 0) rfl (by show some (Value.slice ad4 _ _) = _; rw [ea5]) rfl Tryz.underlying46 sz_54 rfl hp0)) rfl ?_
  refine zS (v_fieldAddr rfl rfl fld_54_2) rfl ?_
  refine zS (v_load1 rfl rfl one_25 (fun w hS => ef_kind (r5 w fun e he => hS.holds e (by simp [he])) (i := 0) (x := x0) rfl 2 (.slice x0.ad x0.bs.length x0.cap) rfl)) rfl ?_
  refine WL.call rfl rfl ck_17 (.some rfl rfl rfl) rfl rfl ?_
  intro w hS
  refine Calls.then (by have h := which_at (w := w) hV4 (x := x0) (by simp) (fun e he => hS.holds e (by simp [he])); exact which_c w x0.ad x0.cap x0.bs h.1 (by rw [hx0]; exact msgB_bys (noteM_in' (by decide) (by decide) (by decide)) (noteM_code (by decide) (by decide) (by decide))) h.2 (by rw [hx0]; have := msgB_le (noteM_code (C := 2) (S := 2) (d := ⟨#[]⟩) (by decide) (by decide) (by decide)); omega)) hS ?_
  refine zS (v_buildA rfl rfl zero_51 Tryz.underlying51 sz_3 rfl) rfl ?_
  refine zS (v_eql_aggT rfl rfl rfl eqk_51 eqg_51 rfl rfl (by rw [hx0, which_note (by decide) (by decide) (by decide)]; rfl)) rfl ?_
  refine zP rfl <| zM rfl <| zS (v_move rfl rfl) rfl <| WL.call rfl rfl ck_18 (.some rfl rfl rfl) rfl rfl <| ?_
  intro w hS
  refine Calls.then (state_c w g p4 (hS.row (g := g))) hS ?_
  refine zS ((v_eql rfl rfl rfl).t ((by rw [hb4, hs4, ht4]; decide))) rfl ?_
  refine zP rfl <| zA rfl <| zN <| cE <| eB <| eR <| tR Tryz.results3 rfl <| ?_
  exact fun w' h => ⟨rfl, h.frm⟩
  refine zA rfl <| zN <| cF rfl <| cR <| zM rfl <| ?_
  refine zT (v_eql rfl rfl rfl) rfl (fun h60 => ?_) (fun h60 => ?_)
  refine zA rfl <| zN <| cT rfl <| cR <| zM rfl <| ?_
  rw [openS_id (s := ⟨65000, 5, 65001, 90, 10, 2, ⟨3, [], 1, 0, 0, ⟨#[]⟩, 0, 0⟩, CnM.zero, 0, [-1, 240, -1, -1, -1]⟩) (n := 0) (H := H) (Decidable.of_not_not h40) h60] at he4 hA4
  rw [end_sB (by decide) (by decide)] at he4
  have hl4 : fs4.length = 2 := (efs_len he4).trans rfl
  obtain ⟨x0, x1, e4⟩ := list2 hl4
  subst e4
  have hx0 : x0.bs = msgB (noteM 2 3 ⟨#[]⟩) := congrArg EfD.bs (List.cons.inj he4).1
  refine zB Tryz.underlying32 sz_3 zero_3 rfl rfl ?_
  intro g62 hg62
  refine WL.as (L' := .row g62 [.int .i64 2, .int .i64 3] :: (EF4 ++ (KF4 ++ (.row g p4.cells :: (E04 ++ (E14 ++ d4.L p4.gC _ (E1 ++ []))))))) rfl <| zK ck_16 rfl <| ?_
  intro w hS
  refine Calls.then (kinds_c w ad4 c4 [x0, x1] EF4 hV4.1 (fun e he => hS.holds e (by simp [he])) (some ⟨g62, 0, none⟩) 2 [2, 3] (fun _ => ⟨g62, 0, rfl, allAt w hS⟩) (efs_kind he4) (by show 2 ≤ 1000000; decide)) hS ?_
  refine zM rfl <| zS (v_move rfl rfl) rfl <| ?_
  obtain ⟨b5, o5, ea5, r5⟩ := hV4.1.src2 (by rw [efsL_len]; exact (by decide : 0 < 2 * 23))
  have hp0 : 0 < [x0, x1].length := Nat.succ_pos _
  refine zS ((v_indexAddr (b := b5) (off := o5) (lo := 0) rfl (by show some (Value.slice ad4 _ _) = _; rw [ea5]) rfl Tryz.underlying46 sz_54 rfl hp0)) rfl ?_
  refine zS (v_fieldAddr rfl rfl fld_54_2) rfl ?_
  refine zS (v_load1 rfl rfl one_25 (fun w hS => ef_kind (r5 w fun e he => hS.holds e (by simp [he])) (i := 0) (x := x0) rfl 2 (.slice x0.ad x0.bs.length x0.cap) rfl)) rfl ?_
  refine WL.call rfl rfl ck_17 (.some rfl rfl rfl) rfl rfl ?_
  intro w hS
  refine Calls.then (by have h := which_at (w := w) hV4 (x := x0) (by simp) (fun e he => hS.holds e (by simp [he])); exact which_c w x0.ad x0.cap x0.bs h.1 (by rw [hx0]; exact msgB_bys (noteM_in' (by decide) (by decide) (by decide)) (noteM_code (by decide) (by decide) (by decide))) h.2 (by rw [hx0]; have := msgB_le (noteM_code (C := 2) (S := 3) (d := ⟨#[]⟩) (by decide) (by decide) (by decide)); omega)) hS ?_
  refine zS (v_buildA rfl rfl zero_51 Tryz.underlying51 sz_3 rfl) rfl ?_
  refine zS (v_eql_aggT rfl rfl rfl eqk_51 eqg_51 rfl rfl (by rw [hx0, which_note (by decide) (by decide) (by decide)]; rfl)) rfl ?_
  refine zP rfl <| zA rfl <| zN <| cE <| eB <| eR <| tR Tryz.results3 rfl <| ?_
  exact fun w' h => ⟨rfl, h.frm⟩
  refine zA rfl <| zN <| cF rfl <| cK <| eb <| eN <| cR <| zM rfl <| ?_
  have hAe : A = 65001 := Decidable.of_not_not h40
  rw [openS_ok (s := ⟨65000, 5, 65001, 90, 10, 2, ⟨3, [], 1, 0, 0, ⟨#[]⟩, 0, 0⟩, CnM.zero, 0, [-1, 240, -1, -1, -1]⟩) (n := 0) (H := H) hAe h60 (show (0 : Int) ≠ 5 by decide) (show (0 : Int) ≠ 4 by decide), show sendE ((0 : Nat) : Int) (MsL.zero 4) = _ from sendE_ok ka_code] at he4 hA4
  have hl4 : fs4.length = 1 := (efs_len he4).trans rfl
  obtain ⟨x0, e4⟩ := list1 hl4
  subst e4
  have hx0 : x0.bs = msgB (MsL.zero 4) := congrArg EfD.bs (List.cons.inj he4).1
  refine zB Tryz.underlying32 sz_3 zero_3 rfl rfl ?_
  intro g74 hg74
  refine WL.as (L' := .row g74 [.int .i64 2] :: (EF4 ++ (KF4 ++ (.row g p4.cells :: (E04 ++ (E14 ++ d4.L p4.gC _ (E1 ++ []))))))) rfl <| zK ck_16 rfl <| ?_
  intro w hS
  refine Calls.then (kinds_c w ad4 c4 [x0] EF4 hV4.1 (fun e he => hS.holds e (by simp [he])) (some ⟨g74, 0, none⟩) 1 [2] (fun _ => ⟨g74, 0, rfl, allAt w hS⟩) (efs_kind he4) (by show 1 ≤ 1000000; decide)) hS ?_
  refine zM rfl <| zS (v_move rfl rfl) rfl <| ?_
  obtain ⟨b5, o5, ea5, r5⟩ := hV4.1.src2 (by rw [efsL_len]; exact (by decide : 0 < 1 * 23))
  have hp0 : 0 < [x0].length := Nat.succ_pos _
  refine zS ((v_indexAddr (b := b5) (off := o5) (lo := 0) rfl (by show some (Value.slice ad4 _ _) = _; rw [ea5]) rfl Tryz.underlying46 sz_54 rfl hp0)) rfl ?_
  refine zS (v_fieldAddr rfl rfl fld_54_2) rfl ?_
  refine zS (v_load1 rfl rfl one_25 (fun w hS => ef_kind (r5 w fun e he => hS.holds e (by simp [he])) (i := 0) (x := x0) rfl 2 (.slice x0.ad x0.bs.length x0.cap) rfl)) rfl ?_
  refine WL.call rfl rfl ck_17 (.some rfl rfl rfl) rfl rfl ?_
  intro w hS
  refine Calls.then (by have h := which_at (w := w) hV4 (x := x0) (by simp) (fun e he => hS.holds e (by simp [he])); exact which_c w x0.ad x0.cap x0.bs h.1 (by rw [hx0]; exact msgB_bys (zeroM_in ⟨by decide, by decide⟩) ka_code) h.2 (by rw [hx0]; have := msgB_le ka_code; omega)) hS ?_
  refine zS (v_buildA rfl rfl zero_51 Tryz.underlying51 sz_3 rfl) rfl ?_
  refine zS (v_eql_aggT rfl rfl rfl eqk_51 eqg_51 rfl rfl (by rw [hx0, which_ka]; rfl)) rfl ?_
  refine zP rfl <| zM rfl <| zS (v_move rfl rfl) rfl <| ?_
  have hcf := confirm_st ⟨65000, 5, 65001, 90, 10, 2, ⟨3, [], 1, 0, 0, ⟨#[]⟩, 0, 0⟩, CnM.zero, 0, [-1, 240, -1, -1, -1]⟩ H j
  have hb4 : p4.base = 2 := (congrArg Se.base hA4.eq :).trans hcf.1
  have hs4 : p4.c0.st = 4 := (congrArg (fun z : Se => z.c0.st) hA4.eq :).trans hcf.2.1
  have ht4 : p4.c1.st = 0 := (congrArg (fun z : Se => z.c1.st) hA4.eq :).trans hcf.2.2
  refine WL.call rfl rfl ck_18 (.some rfl rfl rfl) rfl rfl ?_
  intro w hS
  refine Calls.then (state_c w g p4 (hS.row (g := g))) hS ?_
  refine zS ((v_eql rfl rfl rfl).t ((by rw [hb4, hs4, ht4]; decide))) rfl ?_
  refine zP rfl <| zA rfl <| zN <| cE <| tR Tryz.results3 rfl <| ?_
  exact fun w' h => ⟨rfl, h.frm⟩

end Go.Proofs.YtcmpamnhegndnaaGreatDoor
