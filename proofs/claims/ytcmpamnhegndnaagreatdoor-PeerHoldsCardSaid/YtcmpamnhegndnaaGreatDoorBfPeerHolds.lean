/- Texts joined: engine, contracts and laws, in the order in which they build. -/
import Derived.Test.YtcmpamnhegndnaaGreatDoorBePeerHolds
namespace Go.Proofs.YtcmpamnhegndnaaGreatDoor
open Go.RowKit

def hearD (s : Se) (n : Nat) (m : MsD) : Se × List EfD :=
  if m.kind = 3 then (s.gone n, closeE s n)
  else if m.kind = 1 ∧ (s.c n).st = 3 then openS s n m.asn m.hold m.id
  else if m.kind = 4 ∧ (s.c n).st = 4 then (s.establish n, estabE s n)
  else if m.kind = 4 ∧ (s.c n).st = 5 then (s.alive n, [])
  else if m.kind = 2 ∧ (s.c n).st = 5 then (s.alive n, [⟨6, n, [], m⟩])
  else (s.gone n, endE s n 5 ((s.c n).st - 2) ⟨#[]⟩)
theorem hearD_eq (s : Se) (n : Nat) (m : MsL) : hearS s n m = hearD s n m.d := rfl
def heardD (n : Nat) : Se → List MsD → Se × List EfD
  | s, [] => (s, [])
  | s, m :: ms => if (s.c n).st = 0 then (s, []) else ((heardD n (hearD s n m).1 ms).1, (hearD s n m).2 ++ (heardD n (hearD s n m).1 ms).2)
def CnM.fed (c : CnM) (x : List MsD × Option (Int × Int × ByteArray) × List Int) : CnM := { c with wait := x.2.2, count := c.count + x.1.length, fc := (fltOf x.2.1).1, fs := (fltOf x.2.1).2.1, fd := (fltOf x.2.1).2.2 }
def Se.fed (s : Se) (n : Nat) (bs : List Int) : Se := s.set n ((s.c n).fed (feedM [] ((s.c n).wait ++ bs)))
def endF (n : Nat) (f : Option (Int × Int × ByteArray)) (y : Se × List EfD) : Se × List EfD :=
  if (y.1.c n).st = 0 then y else match f with
  | none => y
  | some f => (y.1.gone n, y.2 ++ endE y.1 n f.1 f.2.1 f.2.2)
def feedS (s : Se) (n : Nat) (bs : List Int) : Se × List EfD :=
  if (s.c n).st = 0 then (s, []) else endF n (feedM [] ((s.c n).wait ++ bs)).2.1 (heardD n (s.fed n bs) (feedM [] ((s.c n).wait ++ bs)).1)
theorem confirm_now (s : Se) (n : Nat) (h i : Int) : (s.confirm n h i).now = s.now := by
  unfold Se.confirm
  split
  · exact set_now _ _ _
  · rw [kept_now, alive_now]; exact set_now _ _ _
theorem establish_now (s : Se) (n : Nat) : (s.establish n).now = s.now := by
  have h : (s.up5 n).now = s.now := by unfold Se.up5; rw [alive_now]; exact set_now _ _ _
  unfold Se.establish
  split
  · exact h
  · rw [gone_now]; exact h
theorem openS_now (s : Se) (n : Nat) (a h i : Int) : (openS s n a h i).1.now = s.now := by
  unfold openS
  repeat' split
  all_goals first | exact gone_now _ _ | exact confirm_now _ _ _ _ | (show Se.now (Se.confirm _ _ _ _) = _; rw [confirm_now, gone_now])
theorem hearD_now (s : Se) (n : Nat) (m : MsD) : (hearD s n m).1.now = s.now := by
  unfold hearD
  split
  · exact gone_now _ _
  split
  · exact openS_now _ _ _ _ _
  split
  · exact establish_now _ _
  split
  · exact alive_now _ _
  split
  · exact alive_now _ _
  · exact gone_now _ _
theorem closeE_len (s : Se) (n : Nat) : (closeE s n).length ≤ 2 := by
  unfold closeE
  rw [List.length_cons]
  have := goneE_len s n
  omega
theorem estabE_len (s : Se) (n : Nat) : (estabE s n).length ≤ 4 := by
  unfold estabE
  rw [List.length_append, List.length_singleton]
  split
  · rw [List.length_nil]; omega
  · have := endE_len (s.up5 n) (1 - n) 6 7 ⟨#[]⟩
    omega
theorem openS_len (s : Se) (n : Nat) (a h i : Int) : (openS s n a h i).2.length ≤ 4 := by
  have e1 := endE_len s n 2 2 ⟨#[]⟩
  have e2 := endE_len s n 2 3 ⟨#[]⟩
  have e3 := endE_len s n 6 7 ⟨#[]⟩
  have e4 := endE_len s (1 - n) 6 7 ⟨#[]⟩
  have e5 := sendE_len n (MsL.zero 4)
  unfold openS
  repeat' split
  all_goals (try dsimp only)
  all_goals first | omega | (rw [List.length_append]; omega)
theorem hearD_len (s : Se) (n : Nat) (m : MsD) : (hearD s n m).2.length ≤ 4 := by
  have e1 := closeE_len s n
  have e2 := endE_len s n 5 ((s.c n).st - 2) ⟨#[]⟩
  unfold hearD
  split
  · exact Nat.le_trans e1 (by decide)
  split
  · exact openS_len _ _ _ _ _
  split
  · exact estabE_len _ _
  split
  · exact Nat.zero_le _
  split
  · exact (by decide : 1 ≤ 4)
  · exact Nat.le_trans e2 (by decide)
theorem msgs_at {w : World} {b o : Nat} {ms : List MsL} {i : Nat} {x : MsL} (h : w.rangeAt b o (msgsL ms)) (hi : ms[i]? = some x) : w.rangeAt b (o + i * 20) x.cells := fun j v hj => by
  have hl := flatMap_seg (enc := MsL.cells) (s := 20) (fun _ => rfl) ms i x hi
  have hj2 : j < 20 := (List.getElem?_eq_some_iff.1 hj).1
  have h2 : (msgsL ms)[i * 20 + j]? = some v := by
    unfold msgsL
    rw [← List.getElem?_drop, ← hj, ← hl, List.getElem?_take, if_pos hj2]
  have := h _ _ h2
  rwa [Nat.add_assoc]
section
variable {P : Program} {C : World → Prop} {n : Nat} {o : Oper} {l : Kn}
theorem v_neq_aggB {t yt : TypeId} {x y : Operand} {xs ys : List Value} {ks : List CK} {b : Bool} (ho : o.op = .binOp .neq t x y yt) (hx : ev l x = some (.agg xs.toArray)) (hy : ev l y = some (.agg ys.toArray)) (hE : EqK P 10000 t true ks) (hg : P.eqGuardType P.depth t = false)
    (fx : fitsAll ks xs = true) (fy : fitsAll ks ys = true) (hb : b = true ↔ ¬ xs = ys) : Val P C n l o (.bool b) := by
  cases b with
  | true => exact v_neq_aggT ho hx hy hE hg fx fy (hb.1 rfl)
  | false => exact v_neq_aggF ho hx hy hE hg fx fy (Decidable.byContradiction (p := xs = ys) (dec := Classical.propDecidable _) fun h => by have := hb.2 h; cases this)
end
theorem flt_zero {f : Option (Int × Int × ByteArray)} (hf : ∀ x, f = some x → FltOk x) : f.isSome = true ↔ ¬ fltL (fltOf f).1 (fltOf f).2.1 (fltOf f).2.2 = fltL 0 0 ⟨#[]⟩ := by
  cases f with
  | none => exact ⟨fun h => (by cases h), fun h => absurd rfl h⟩
  | some x =>
    refine ⟨fun _ h => ?_, fun _ => rfl⟩
    have h1 := (hf x rfl).1
    have h2 : (Value.int .i64 x.1) = .int .i64 0 := (List.cons.inj h).1
    injection h2 with _ h3
    omega
structure FeS where
  k : Nat
  y : PS
  t : Se
set_option maxHeartbeats 4000000 in
theorem feed0_c (w0 w : World) (g : Nat) (p : PeL) (s : Se) (E0 E1 L : List Ent) (d : Ck) (hA : PeAt g p s E0 E1 d) (hG : GF w0) (hZ : GZ w0) (hS0 : St (fun _ => False) w0 w (.row g p.cells :: (E0 ++ (E1 ++ d.L p.gC s.now L)))) (ba : Option Addr) (bc : Nat) (bs : List Int) (hb : ∀ w, St (fun _ => False) w0 w (.row g p.cells :: (E0 ++ (E1 ++ d.L p.gC s.now L))) → CellsAt w ba (u8s bs)) (hB : Bys bs) (hn : bs.length ≤ 40000) (hcl : (s.c 0).fc = 0 ∧ (s.c 0).fs = 0 ∧ (s.c 0).fd = ⟨#[]⟩) (hct : (s.c 0).count ≤ 3000000000000000000) :
    Calls Tryz.prog 15 #[.pointer (some ⟨g, 0, none⟩), .int .i64 0, .slice ba bs.length bc] w fun e w' => EffC w0 w' g (feedS s 0 bs).2 (feedS s 0 bs).1 L e := by
  have hc : p.c0.m = s.c0 := (congrArg Se.c0 hA.eq :)
  have hst : p.c0.st = (s.c 0).st := (congrArg CnM.st hc :)
  have hwt : p.c0.rd.wait = (s.c 0).wait := (congrArg CnM.wait hc :)
  have hok := hA.ok0
  have hrd : p.c0.rd.fc = 0 ∧ p.c0.rd.fs = 0 ∧ p.c0.rd.fd = ⟨#[]⟩ := ⟨(congrArg CnM.fc hc :).trans hcl.1, (congrArg CnM.fs hc :).trans hcl.2.1, (congrArg CnM.fd hc :).trans hcl.2.2⟩
  have hcnt : p.c0.rd.count = (s.c 0).count := (congrArg CnM.count hc :)
  have hwl : (s.c 0).wait.length ≤ 4096 := hok.2.1
  have hc0 : 0 ≤ (s.c 0).count := hok.2.2.1.1
  have hBw : Bys ((s.c 0).wait ++ bs) := by rw [← hwt]; exact Bys.app hA.b0 hB
  have hln : ((s.c 0).wait ++ bs).length ≤ 44096 := by rw [List.length_append]; omega
  refine enter Tryz.func15 rfl Tryz.ntmps15 rfl hS0 ?_
  refine cR <| zA rfl <| zN <| cS <| cR <| zM rfl <| zM rfl <| zK ck_51 rfl <| ?_
  intro w hS
  refine Calls.then (there_c w g p (hS.row (g := g)) 0 (by decide)) hS ?_
  generalize hth : decide ((p.c 0).st ≠ 0) = b14
  cases b14
  refine zV (v_not rfl rfl rfl) rfl <| zN <| cT rfl <| cR <| zA rfl <| zN <| cE <| eR <| tR Tryz.results15 rfl <| ?_
  have e1 : feedS s 0 bs = (s, []) := (by unfold feedS; rw [if_pos (hst.symm.trans (Decidable.of_not_not (of_decide_eq_false hth)))])
  exact fun w' h => ⟨none, 0, [], [], [], p, E0, E1, d, rfl, ⟨Vec.nil 23, fun e he => by cases he⟩, by rw [e1]; rfl, by rw [e1]; exact hA, by rw [e1]; exact h⟩
  ·
   refine zV (v_not rfl rfl rfl) rfl <| zN <| cF rfl <| cK <| eN <| cR <| zM rfl <| zM rfl <| zC rfl <| zF rfl fld_106_3 <| ?_
   refine zV (v_indexAddrA (lo := 0) rfl rfl rfl Tryz.underlying104 sz_103 (by omega) (by omega)) rfl ?_
   refine zV (v_fieldAddr rfl rfl fld_103_1) rfl <| zM rfl <| ?_
   have hz : (s.c 0).st ≠ 0 := fun hh => of_decide_eq_true hth (hst.trans hh)
   refine zK ck_55 rfl ?_
   intro w1 hS
   refine (Feed8_c w0 w1 g (.int .i64 p.asn) (.int .u32 p.id) (.int .i64 p.their) (.int .i64 p.hold) (.int .i64 p.retry) (.pointer (some ⟨p.gC, 0, none⟩)) (.int .i64 p.base) (.int .i64 p.c0.st) [.int .i64 p.c0.hold, .int .u32 p.c0.id, .int .i64 p.c1.st, .slice p.c1.rd.ad p.c1.rd.wait.length p.c1.rd.cap, .int .i64 p.c1.rd.count, .int .i64 p.c1.rd.fc, .int .i64 p.c1.rd.fs, .string p.c1.rd.fd, .int .i64 p.c1.hold, .int .u32 p.c1.id] p.c0.rd ba bc bs E0 (E1 ++ d.L p.gC s.now L) hG hZ hrd hA.v0 (by rw [hwt]; exact hBw) (fun w h => hb w (St.permK (L := .row g p.cells :: (E0 ++ (E1 ++ d.L p.gC s.now L))) h )) (by rw [hwt]; omega) (by rw [hcnt]; omega) (show St (fun _ => False) w0 w1 (.row g p.cells :: (E0 ++ (E1 ++ d.L p.gC s.now L))) from hS.permK )).mono ?_
   rintro e w' ⟨mad, mc, ms, Em, K, wad, wc, rest, Ew, f, hfe, rfl, hVm, hMs, hVw, hBr, hS'⟩
   refine ⟨_, .row g ({ p with c0 := { p.c0 with rd := ⟨wad, wc, rest, p.c0.rd.count + ms.length, (fltOf f).1, (fltOf f).2.1, (fltOf f).2.2⟩ } } : PeL).cells :: (Ew ++ (E1 ++ d.L p.gC s.now (Em ++ (K ++ L)))), rfl, St.permK (L := .row g ({ p with c0 := { p.c0 with rd := ⟨wad, wc, rest, p.c0.rd.count + ms.length, (fltOf f).1, (fltOf f).2.1, (fltOf f).2.2⟩ } } : PeL).cells :: (Ew ++ (Em ++ (K ++ (E1 ++ d.L p.gC s.now L))))) hS' , ?_⟩
   rw [hwt] at hfe
   have hff := feedM_fit _ [] ((s.c 0).wait ++ bs) (Nat.le_refl _) hBw (fun m hm => by cases hm)
   have hbo := feedM_both _ [] ((s.c 0).wait ++ bs) _ _ _ (Nat.le_refl _) hfe
   have hre := feedM_rest _ [] ((s.c 0).wait ++ bs) (Nat.le_refl _)
   rw [hfe] at hff hre
   obtain ⟨hfm, hfo, _⟩ := hff
   dsimp only at hfm hfo hre
   rw [List.length_nil, List.length_map] at hbo
   have hA1 : PeAt g ({ p with c0 := { p.c0 with rd := ⟨wad, wc, rest, p.c0.rd.count + ms.length, (fltOf f).1, (fltOf f).2.1, (fltOf f).2.2⟩ } } : PeL) (s.fed 0 bs) Ew E1 d := (by
     have e1 : s.fed 0 bs = { s with c0 := { s.c0 with wait := rest, count := s.c0.count + ms.length, fc := (fltOf f).1, fs := (fltOf f).2.1, fd := (fltOf f).2.2 } } := (by
       show s.set 0 ((s.c 0).fed (feedM [] ((s.c 0).wait ++ bs))) = _
       rw [hfe]
       show s.set 0 { s.c0 with wait := rest, count := s.c0.count + ((ms.map MsL.d).length : Nat), fc := (fltOf f).1, fs := (fltOf f).2.1, fd := (fltOf f).2.2 } = _
       rw [List.length_map]
       rfl)
     rw [e1]
     refine ⟨?_, hA.ok, ?_, ?_, ?_, ?_, ?_, ?_, hA.bag⟩
     · exact (congrArg (fun z : Se => { z with c0 := { z.c0 with wait := rest, count := z.c0.count + ms.length, fc := (fltOf f).1, fs := (fltOf f).2.1, fd := (fltOf f).2.2 } }) hA.eq :)
     all_goals first | exact hA.ok1 | exact hA.v1 | exact hA.b1 | exact hVw | exact hBr | exact ⟨hok.1, hre, ⟨(by show 0 ≤ (s.c 0).count + (ms.length : Int); omega), (by show (s.c 0).count + (ms.length : Int) ≤ 4000000000000000000; omega)⟩, hok.2.2.2.1, hok.2.2.2.2⟩)
   have hfn : (s.fed 0 bs).now = s.now := set_now _ _ _
   refine zM rfl <| zX rfl <| zX rfl <| WL.alloc rfl zero_37 (.none rfl) rfl rfl <| ?_
   intro g8 hg8
   refine zA rfl <| zW many_37 rfl rfl <| zR <| zA rfl <| zN <| cS <| cR <| zM rfl <| zV (v_len_slice rfl rfl Tryz.underlying110) rfl <| zM rfl <| WL.to (L' := (⟨({ p with c0 := { p.c0 with rd := ⟨wad, wc, rest, p.c0.rd.count + ms.length, (fltOf f).1, (fltOf f).2.1, (fltOf f).2.2⟩ } } : PeL), Ew, E1, d, none, 0, [], [], []⟩ : PS).L g s.now (.row g8 (fltL (fltOf f).1 (fltOf f).2.1 (fltOf f).2.2) :: (Em ++ (K ++ L)))) (fun w hS => hS.permK ) <| ?_
   refine zN <| cB <| ?_
   refine WC.loop (fun x : FeS => [(27, .slice mad ms.length mc), (28, .int .i64 ms.length), (29, .int .i64 x.k), (9, .slice x.y.ad x.y.fs.length x.y.c), (8, .pointer (some ⟨g8, 0, none⟩)), (1, .int .i64 0), (0, .pointer (some ⟨g, 0, none⟩))]) (fun x => x.y.L g s.now (.row g8 (fltL (fltOf f).1 (fltOf f).2.1 (fltOf f).2.2) :: (Em ++ (K ++ L)))) (fun x => x.k ≤ ms.length ∧ PeAt g x.y.p x.t x.y.E0 x.y.E1 x.y.d ∧ x.t.now = s.now ∧ EfsV x.y.ad x.y.c x.y.fs x.y.E x.y.K ∧ x.y.fs.length ≤ 4 * x.k ∧ heardD 0 (s.fed 0 bs) (ms.map MsL.d) = ((heardD 0 x.t ((ms.drop x.k).map MsL.d)).1, x.y.fs.map EfL.d ++ (heardD 0 x.t ((ms.drop x.k).map MsL.d)).2)) (fun x => ms.length - x.k) ⟨0, ⟨({ p with c0 := { p.c0 with rd := ⟨wad, wc, rest, p.c0.rd.count + ms.length, (fltOf f).1, (fltOf f).2.1, (fltOf f).2.2⟩ } } : PeL), Ew, E1, d, none, 0, [], [], []⟩, s.fed 0 bs⟩ ⟨Nat.zero_le _, hA1, hfn, ⟨Vec.nil 23, fun e he => by cases he⟩, Nat.zero_le _, rfl⟩ (.cons rfl (.cons rfl (.cons rfl (.cons rfl (.cons rfl (.cons rfl (.cons rfl .nil))))))) (.refl _) ?_
   rintro ⟨k, ⟨p4, E04, E14, d4, ad4, c4, fs, EF, KF⟩, t⟩ ⟨hk, hA4, hnt, hV4, hfl, hee⟩
   dsimp only at hk hA4 hnt hV4 hfl hee
   unfold PS.L
   dsimp only
   refine cR ?_
   refine zT (v_lss rfl rfl rfl) rfl (fun h30 => ?_) (fun h30 => ?_)
   refine zN <| cS <| cT rfl <| cK <| eN <| cS <| cB <| cR <| ?_
   obtain ⟨x, hx⟩ : ∃ x, ms[k]? = some x := ⟨ms[k]'(by omega), List.getElem?_eq_getElem _⟩
   obtain ⟨b1, o1, ea1, r1⟩ := hVm.src2 (by rw [hVm.len.1]; omega)
   have hdr : ms.drop k = x :: ms.drop (k + 1) := (by rw [List.drop_eq_getElem_cons (by omega)]; congr 1; exact (List.getElem?_eq_some_iff.1 hx).2)
   have hxf := hfm x.d (List.mem_map_of_mem (List.mem_of_getElem? hx))
   refine zV ((v_indexAddr (b := b1) (off := o1) (lo := k) rfl (by show some (Value.slice mad _ _) = _; rw [ea1]) rfl Tryz.underlying110 sz_39 rfl (by omega))) rfl ?_
   refine zV (v_loadN rfl rfl many_39 rfl (fun w hS => msgs_at (r1 w fun e he => hS.holds e (by simp [Ck.L, clkL, he])) hx)) rfl ?_
   refine WL.alloc rfl zero_39 (.none rfl) rfl rfl ?_
   intro g11 hg11
   refine zW many_39 rfl rfl <| zN <| cS <| cR <| zM rfl <| zM rfl <| zK ck_51 rfl <| ?_
   intro w hS
   refine Calls.then (there_c w g p4 (hS.row (g := g)) 0 (by decide)) hS ?_
   generalize hth4 : decide ((p4.c 0).st ≠ 0) = b35
   cases b35
   refine zV (v_not rfl rfl rfl) rfl ?_
   have hc4 : p4.c0.m = t.c0 := (congrArg Se.c0 hA4.eq :)
   have hst4 : p4.c0.st = (t.c 0).st := (congrArg CnM.st hc4 :)
   refine zN <| cT rfl <| cR <| zM rfl <| zA rfl <| zN <| cE <| eR <| eB <| eR <| eR <| eB <| eR <| ?_
   refine tR Tryz.results15 rfl ?_
   have e1 : heardD 0 t ((ms.drop k).map MsL.d) = (t, []) := (by rw [hdr, List.map_cons]; unfold heardD; rw [if_pos (hst4.symm.trans (Decidable.of_not_not (of_decide_eq_false hth4)))])
   have e2 : feedS s 0 bs = (t, fs.map EfL.d) := (by
     unfold feedS
     rw [if_neg hz, hfe]
     dsimp only
     rw [hee, e1, List.append_nil]
     unfold endF
     rw [if_pos (hst4.symm.trans (Decidable.of_not_not (of_decide_eq_false hth4)))])
   rw [e2]
   exact fun w' h => ⟨ad4, c4, fs, EF, KF, p4, E04, E14, d4, rfl, hV4, rfl, hA4, by dsimp only; rw [hnt]; exact h.dropK (.row g11 x.cells :: .row g8 (fltL (fltOf f).1 (fltOf f).2.1 (fltOf f).2.2) :: (Em ++ K)) ⟩
   refine zV (v_not rfl rfl rfl) rfl ?_
   have hc4 : p4.c0.m = t.c0 := (congrArg Se.c0 hA4.eq :)
   have hst4 : p4.c0.st = (t.c 0).st := (congrArg CnM.st hc4 :)
   refine zN <| cF rfl <| cK <| eN <| WC.region <| zM rfl <| zM rfl <| zM rfl <| zV (v_loadN rfl rfl many_39 rfl allAt) rfl <| zK ck_56 rfl <| ?_
   intro w1 hS
   refine (hear0_c w0 w1 g p4 t E04 E14 (.row g11 x.cells :: (EF ++ (KF ++ (.row g8 (fltL (fltOf f).1 (fltOf f).2.1 (fltOf f).2.2) :: (Em ++ (K ++ L)))))) d4 hA4 hG (by rw [hnt]; exact hS.permK ) x hxf.id (by have := hxf.hold; have e : x.d.hold = x.hold := rfl; omega)).mono ?_
   rintro e w' ⟨ad2, c2, gs, EG, KG, p2, E02, E12, d2, rfl, hV2, heg, hA2, hS'⟩
   have hgl := efs_len heg
   have hgb : gs.length ≤ 4 := (by rw [hgl, hearD_eq]; exact hearD_len _ _ _)
   have hn2 : (hearS t 0 x).1.now = s.now := (by rw [hearD_eq, hearD_now]; exact hnt)
   rw [hn2] at hS'
   refine ⟨_, EF ++ (EG ++ (KG ++ (KF ++ (.row g p2.cells :: (E02 ++ (E12 ++ d2.L p2.gC s.now (.row g11 x.cells :: .row g8 (fltL (fltOf f).1 (fltOf f).2.1 (fltOf f).2.2) :: (Em ++ (K ++ L))))))))), rfl, hS'.permK , ?_⟩
   refine WL.appendL rfl rfl rfl Tryz.underlying46 Tryz.underlying46 sz_54 by_54 zero_54 rfl rfl hV4.1 (new := efsL gs) (hV2.1.src (fun e he => List.mem_append_right _ (List.mem_append_left _ he)) |> fun f h => (f (by rw [efsL_len]; omega)).elim fun b1 h1 => h1.elim fun o1 h2 => ⟨b1, o1, h2.1, fun w hS => h2.2 _ _ w hS⟩) (efsL_len gs) (efsL_one gs) (by omega) (.none rfl) rfl rfl ?_
   intro ad43 c43 E43 hV43 hr43
   rw [efsL_app] at hV43
   rw [show fs.length + gs.length = (fs ++ gs).length from List.length_append.symm] at hV43 ⊢
   refine WL.to (L' := (⟨p2, E02, E12, d2, ad43, c43, fs ++ gs, E43, KG ++ KF⟩ : PS).L g s.now (.row g8 (fltL (fltOf f).1 (fltOf f).2.1 (fltOf f).2.2) :: (Em ++ (K ++ L)))) (fun w hS => hS.dropK (EG ++ [.row g11 x.cells]) ) <| zA rfl <| WL.nil <| eY <| eN <| WC.region <| ?_
   refine zV (v_add rfl rfl rfl (show _ = ((k + 1 : Nat) : Int) from (w_i64 (by omega) (by omega)).trans (by omega))) rfl ?_
   refine zM rfl ?_
   skip
   refine WL.nil ?_
   refine WE.next ⟨k + 1, ⟨p2, E02, E12, d2, ad43, c43, fs ++ gs, E43, KG ++ KF⟩, (hearS t 0 x).1⟩ (by dsimp only; omega) ⟨by dsimp only; omega, hA2, hn2, ⟨hV43, fun e he => ?_⟩, by dsimp only; rw [List.length_append]; omega, ?_⟩ (.cons rfl (.cons rfl (.cons rfl (.cons rfl (.cons rfl (.cons rfl (.cons rfl .nil))))))) (.refl _)
   · rcases List.mem_append.1 he with he | he
     · exact (hV4.2 e he).mono fun x hx => List.mem_append_right _ hx
     · exact (hV2.2 e he).mono fun x hx => List.mem_append_left _ hx
   · have hz4 : (t.c 0).st ≠ 0 := fun hh => of_decide_eq_true hth4 (hst4.trans hh)
     dsimp only
     rw [hee, hdr, List.map_cons, List.map_append, heg, List.append_assoc]
     conv => lhs; unfold heardD
     rw [if_neg hz4, hearD_eq]
   refine zN <| cS <| cF rfl <| cX <| eX <| eX <| eH <| eN <| cS <| cR <| zM rfl <| zM rfl <| ?_
   have hc4 : p4.c0.m = t.c0 := (congrArg Se.c0 hA4.eq :)
   have hst4 : p4.c0.st = (t.c 0).st := (congrArg CnM.st hc4 :)
   have hdn : ms.drop k = [] := List.drop_eq_nil_iff.2 (by omega)
   have e1 : feedS s 0 bs = endF 0 f (t, fs.map EfL.d) := (by
     unfold feedS
     rw [if_neg hz, hfe]
     dsimp only
     rw [hee, hdn]
     show endF _ _ (t, _ ++ []) = _
     rw [List.append_nil])
   refine zK ck_51 rfl ?_
   intro w hS
   refine Calls.then (there_c w g p4 (hS.row (g := g)) 0 (by decide)) hS ?_
   generalize hth5 : decide ((p4.c 0).st ≠ 0) = b47
   cases b47
   refine zM rfl <| WL.sk rfl <| ?_
   generalize hfs : f.isSome = bz
   have hbz := flt_zero hfo
   rw [hfs] at hbz
   iterate 2 refine WL.sk rfl ?_
   refine zQ rfl <| zN <| cF rfl <| cK <| eN <| cR <| zM rfl <| zA rfl <| zN <| cE <| tR Tryz.results15 rfl <| ?_
   have e2 : feedS s 0 bs = (t, fs.map EfL.d) := (by rw [e1]; unfold endF; rw [if_pos (hst4.symm.trans (Decidable.of_not_not (of_decide_eq_false hth5)))])
   rw [e2]
   exact fun w' h => ⟨ad4, c4, fs, EF, KF, p4, E04, E14, d4, rfl, hV4, rfl, hA4, by dsimp only; rw [hnt]; exact h.dropK (.row g8 (fltL (fltOf f).1 (fltOf f).2.1 (fltOf f).2.2) :: (Em ++ K)) ⟩
   refine zM rfl <| zS (v_loadN rfl rfl many_37 rfl allAt) rfl <| ?_
   generalize hfs : f.isSome = bz
   have hbz := flt_zero hfo
   rw [hfs] at hbz
   refine zS (v_build rfl rfl zero_37 plc_37 rfl) rfl <| zS (v_neq_aggB (b := bz) rfl rfl rfl eqk_37 eqg_37 rfl rfl hbz) rfl <| ?_
   cases bz
   refine zP rfl <| zN <| cF rfl <| cK <| eN <| cR <| zM rfl <| zA rfl <| zN <| cE <| tR Tryz.results15 rfl <| ?_
   have hz4 : (t.c 0).st ≠ 0 := fun hh => of_decide_eq_true hth5 (hst4.trans hh)
   have hfn0 : f = none := Option.isNone_iff_eq_none.1 (by rw [← Option.not_isSome, hfs]; rfl)
   have e2 : feedS s 0 bs = (t, fs.map EfL.d) := (by rw [e1, hfn0]; unfold endF; rw [if_neg hz4])
   rw [e2]
   exact fun w' h => ⟨ad4, c4, fs, EF, KF, p4, E04, E14, d4, rfl, hV4, rfl, hA4, by dsimp only; rw [hnt]; exact h.dropK (.row g8 (fltL (fltOf f).1 (fltOf f).2.1 (fltOf f).2.2) :: (Em ++ K)) ⟩
   refine zP rfl <| zN <| cT rfl <| WC.region <| zM rfl <| zM rfl <| zM rfl <| zV (v_loadN rfl rfl many_37 rfl allAt) rfl <| ?_
   obtain ⟨fv, rfl⟩ := Option.isSome_iff_exists.1 hfs
   have hfv := hfo fv rfl
   refine zK ck_57 rfl ?_
   intro w1 hS
   refine (end0_c w0 w1 g p4 t E04 E14 (EF ++ (KF ++ (.row g8 (fltL (fltOf (some fv)).1 (fltOf (some fv)).2.1 (fltOf (some fv)).2.2) :: (Em ++ (K ++ L))))) d4 hA4 hG (by rw [hnt]; exact hS.permK ) fv.1 fv.2.1 fv.2.2 (by have := hfv.1; constructor <;> omega) (by have := hfv.2.1; constructor <;> omega) (by have := hfv.2.2; omega)).mono ?_
   rintro e w' ⟨ad2, c2, gs, EG, KG, p2, E02, E12, d2, rfl, hV2, heg, hA2, hS'⟩
   have hgl := efs_len heg
   have hgb : gs.length ≤ 3 := (by rw [hgl]; exact endE_len _ _ _ _ _)
   have hn2 : (t.gone 0).now = s.now := (gone_now _ _).trans hnt
   rw [hn2] at hS'
   refine ⟨_, EF ++ (EG ++ (KG ++ (KF ++ (.row g p2.cells :: (E02 ++ (E12 ++ d2.L p2.gC s.now (.row g8 (fltL (fltOf (some fv)).1 (fltOf (some fv)).2.1 (fltOf (some fv)).2.2) :: (Em ++ (K ++ L))))))))), rfl, hS'.permK , ?_⟩
   refine WL.appendL rfl rfl rfl Tryz.underlying46 Tryz.underlying46 sz_54 by_54 zero_54 rfl rfl hV4.1 (new := efsL gs) (hV2.1.src (fun e he => List.mem_append_right _ (List.mem_append_left _ he)) |> fun f h => (f (by rw [efsL_len]; omega)).elim fun b1 h1 => h1.elim fun o1 h2 => ⟨b1, o1, h2.1, fun w hS => h2.2 _ _ w hS⟩) (efsL_len gs) (efsL_one gs) (by omega) (.none rfl) rfl rfl ?_
   intro ad58 c58 E58 hV58 hr58
   rw [efsL_app] at hV58
   rw [show fs.length + gs.length = (fs ++ gs).length from List.length_append.symm] at hV58 ⊢
   refine zA rfl <| zR <| zM rfl <| zA rfl <| zN <| cE <| tR Tryz.results15 rfl <| ?_
   have hz4 : (t.c 0).st ≠ 0 := fun hh => of_decide_eq_true hth5 (hst4.trans hh)
   have e2 : feedS s 0 bs = (t.gone 0, fs.map EfL.d ++ endE t 0 fv.1 fv.2.1 fv.2.2) := (by rw [e1]; unfold endF; rw [if_neg hz4])
   rw [e2]
   refine fun w' h => ⟨ad58, c58, fs ++ gs, E58, KG ++ KF, p2, E02, E12, d2, rfl, ⟨hV58, fun e he => ?_⟩, by rw [List.map_append, heg], hA2, by dsimp only; rw [hn2]; exact h.dropK (EG ++ (.row g8 (fltL (fltOf (some fv)).1 (fltOf (some fv)).2.1 (fltOf (some fv)).2.2) :: (Em ++ K))) ⟩
   rcases List.mem_append.1 he with he | he
   · exact (hV4.2 e he).mono fun x hx => List.mem_append_right _ hx
   · exact (hV2.2 e he).mono fun x hx => List.mem_append_left _ hx

structure PT where
  k : Nat
  y : PS
  t : Se
def fireS (s : Se) (n : Nat) (t : Int) : Se × List EfD :=
  match n with
  | 0 => (({ s with now := t, D := s.D.set 0 (-1) } : Se).dial, [ef 1 0])
  | 1 => (({ s with now := t, D := s.D.set 1 (-1) } : Se).gone 0, endE { s with now := t, D := s.D.set 1 (-1) } 0 4 0 ⟨#[]⟩)
  | 2 => (({ s with now := t, D := s.D.set 2 (-1) } : Se).gone 1, endE { s with now := t, D := s.D.set 2 (-1) } 1 4 0 ⟨#[]⟩)
  | 3 => (({ s with now := t, D := s.D.set 3 (-1) } : Se).kept 0, sendE 0 (MsL.zero 4))
  | _ => (({ s with now := t, D := s.D.set 4 (-1) } : Se).kept 1, sendE 1 (MsL.zero 4))
inductive TickR (T : Int) : Se → List EfD → Se → Prop
  | done {s : Se} (h : ∀ t ∈ s.D, t < 0 ∨ T < t) : TickR T s [] { s with now := T }
  | fire {s s' : Se} {n : Nat} {t : Int} {es : List EfD} (h : FirstD s.D T n t) (hr : TickR T (fireS s n t).1 es s') : TickR T s ((fireS s n t).2 ++ es) s'
def tickT (s : Se) (u : Int) : Int := min (if s.now < u then min u (s.now + 4096) else s.now) maxT
def Se.Fit (s : Se) : Prop := ∀ n, n < 2 → (s.c n).hold = 0 ∨ 3 ≤ (s.c n).hold
def wD (T : Int) (D : List Int) : Nat := (D.map fun x => if 0 ≤ x then (T + 1 - x).toNat else 0).sum
theorem list5 {D : List Int} (h : D.length = 5) : ∃ a b c d e, D = [a, b, c, d, e] := by
  match D, h with
  | [a, b, c, d, e], _ => exact ⟨a, b, c, d, e, rfl⟩
theorem fireS_now (s : Se) (n : Nat) (t : Int) : (fireS s n t).1.now = t := by
  unfold fireS
  split
  · rfl
  · exact gone_now _ _
  · exact gone_now _ _
  · exact kept_now _ _
  · exact kept_now _ _
theorem fireS_len (s : Se) (n : Nat) (t : Int) : (fireS s n t).2.length ≤ 3 := by
  unfold fireS
  split
  · exact (by decide : 1 ≤ 3)
  · exact endE_len _ _ _ _ _
  · exact endE_len _ _ _ _ _
  · have := sendE_len 0 (MsL.zero 4); dsimp only; omega
  · have := sendE_len 1 (MsL.zero 4); dsimp only; omega
theorem gone_c (s : Se) (n k : Nat) (hn : n < 2) (hk : k < 2) : (s.gone n).c k = if k = n then CnM.zero else s.c k := by
  have key : (s.cut n).c k = if k = n then CnM.zero else s.c k := by
    match n, k, hn, hk with
    | 0, 0, _, _ => rfl
    | 0, 1, _, _ => rfl
    | 1, 0, _, _ => rfl
    | 1, 1, _, _ => rfl
  unfold Se.gone
  split
  · rw [← key]; rfl
  · exact key
theorem gone_fit {s : Se} (h : s.Fit) (n : Nat) (hn : n < 2) : (s.gone n).Fit := fun k hk => by
  rw [gone_c s n k hn hk]
  split
  · exact .inl rfl
  · exact h k hk
theorem kept_cn (s : Se) (n k : Nat) : (s.kept n).c k = s.c k := by unfold Se.kept; split <;> rfl
theorem fireS_fit {s : Se} (h : s.Fit) (n : Nat) (t : Int) : (fireS s n t).1.Fit := by
  have h' : ∀ n, ({ s with now := t, D := s.D.set n (-1) } : Se).Fit := fun _ => h
  unfold fireS
  split
  · exact h
  · exact gone_fit (h' 1) 0 (by decide)
  · exact gone_fit (h' 2) 1 (by decide)
  · intro k hk; dsimp only; rw [kept_cn]; exact h k hk
  · intro k hk; dsimp only; rw [kept_cn]; exact h k hk
theorem FirstD.now {s : Se} {T : Int} {n : Nat} {t : Int} (hF : FirstD s.D T n t) (h : s.Ok) : s.now ≤ t ∧ t ≤ maxT ∧ t ≤ T ∧ n < 5 ∧ ∀ y ∈ s.D.set n (-1), y = -1 ∨ t ≤ y ∧ y ≤ maxT := by
  obtain ⟨h1, h2, h3, h4⟩ := hF
  have hm := h.2.2.2.2.2.1
  have ht := hm t (List.mem_of_getElem? h1)
  have hn := (List.getElem?_eq_some_iff.1 h1).1
  rw [h.2.2.2.2.1] at hn
  refine ⟨by omega, by omega, h3, hn, fun y hy => ?_⟩
  obtain ⟨i, hi, e⟩ := List.getElem_of_mem hy
  rw [List.getElem_set] at e
  split at e
  · exact .inl e.symm
  · rename_i hne
    rw [List.length_set] at hi
    have hy2 := hm y (e ▸ List.getElem_mem _)
    rcases hy2 with h5 | h5
    · exact .inl h5
    · have hnow := h.2.2.2.1
      have h6 := h4 i y (fun h => hne h.symm) (List.getElem?_eq_some_iff.2 ⟨hi, e⟩) (by omega)
      unfold ltp at h6
      dsimp only at h6
      exact .inr ⟨by omega, h5.2⟩
theorem PeAt.at {g : Nat} {p : PeL} {s : Se} {E0 E1 : List Ent} {d d' : Ck} (hA : PeAt g p s E0 E1 d) {T : Int} {n : Nat} {t : Int} (hF : FirstD s.D T n t) (hd : Bag d' (dueF 0 (s.D.set n (-1)))) : PeAt g p { s with now := t, D := s.D.set n (-1) } E0 E1 d' := by
  have h := hF.now hA.ok
  have h0 := hA.ok.2.2.2.1
  exact ⟨congrArg (fun z : Se => { z with now := t, D := s.D.set n (-1) }) hA.eq, ⟨hA.ok.1, hA.ok.2.1, hA.ok.2.2.1, ⟨by dsimp only; omega, h.2.1⟩, (List.length_set ..).trans hA.ok.2.2.2.2.1, h.2.2.2.2, hA.ok.2.2.2.2.2.2⟩, hA.ok0, hA.ok1, hA.v0, hA.v1, hA.b0, hA.b1, hd⟩
theorem PeAt.till {g : Nat} {p : PeL} {s : Se} {E0 E1 : List Ent} {d : Ck} (hA : PeAt g p s E0 E1 d) {T : Int} (h : ∀ t ∈ s.D, t < 0 ∨ T < t) (h0 : s.now ≤ T) (h1 : T ≤ maxT) : PeAt g p { s with now := T } E0 E1 d := by
  have h2 := hA.ok.2.2.2.1
  refine ⟨congrArg (fun z : Se => { z with now := T }) hA.eq, ⟨hA.ok.1, hA.ok.2.1, hA.ok.2.2.1, ⟨by dsimp only; omega, h1⟩, hA.ok.2.2.2.2.1, fun t ht => ?_, hA.ok.2.2.2.2.2.2⟩, hA.ok0, hA.ok1, hA.v0, hA.v1, hA.b0, hA.b1, hA.bag⟩
  have h3 := hA.ok.2.2.2.2.2.1 t ht
  have h4 := h t ht
  dsimp only
  rcases h3 with h3 | h3
  · exact .inl h3
  · right; omega
def dueV (now : Int) (n : Nat) (later : Int) : Int := if maxT ≤ now ∧ n ≠ 1 ∧ n ≠ 2 then -1 else min (now + later) maxT
theorem due_DV (s : Se) (n : Nat) (later : Int) : (s.due n later).D = s.D.set n (dueV s.now n later) := rfl
theorem dueV_late {now later : Int} {n : Nat} (hn : n = 0 ∨ 3 ≤ n) (h1 : 1 ≤ later) (h2 : 0 ≤ now) : dueV now n later = -1 ∨ now < dueV now n later := by
  unfold dueV
  split
  · exact .inl rfl
  · unfold maxT at *
    right; omega
theorem gone_D (s : Se) (n : Nat) : (s.gone n).D = (s.D.set (1 + n) (-1)).set (3 + n) (-1) ∨ (s.gone n).D = ((s.D.set (1 + n) (-1)).set (3 + n) (-1)).set 0 (dueV s.now 0 s.retry) := by
  by_cases h : s.base ≠ 0 ∧ (s.c (1 - n)).st = 0
  · right
    have h2 := cut_base s n
    rw [gone_yes h.1 h.2, due_DV]
    show List.set (s.cut n).D 0 (dueV (s.cut n).now 0 s.retry) = _
    rw [h2.2.1]
    rfl
  · left; rw [gone_no h]; rfl
theorem kept_D (s : Se) (n : Nat) : (s.kept n).D = s.D ∨ ((s.c n).hold ≠ 0 ∧ (s.kept n).D = s.D.set (3 + n) (dueV s.now (3 + n) ((s.c n).hold.tdiv 3))) := by
  unfold Se.kept
  split
  · exact .inl rfl
  · rename_i h
    exact .inr ⟨h, rfl⟩
theorem fireS_less {s : Se} {T t : Int} {n : Nat} (hk : s.Ok) (hf : s.Fit) (hF : FirstD s.D T n t) : wD T (fireS s n t).1.D < wD T s.D := by
  obtain ⟨f1, f2, f3, f4, f5⟩ := hF.now hk
  obtain ⟨a, b, c, d, e, hD⟩ := list5 hk.2.2.2.2.1
  obtain ⟨g1, g2, g3, _⟩ := hF
  have hnow := hk.2.2.2.1
  have hrt := hk.1
  have hr := dueV_late (now := t) (n := 0) (later := s.retry) (.inl rfl) (by omega) (by omega)
  have hkp : ∀ k, k < 2 → (s.c k).hold ≠ 0 → dueV t (3 + k) ((s.c k).hold.tdiv 3) = -1 ∨ t < dueV t (3 + k) ((s.c k).hold.tdiv 3) := fun k hk0 hh => by
    have h3 := hf k hk0
    refine dueV_late (.inr (by omega)) ?_ (by omega)
    rw [Int.tdiv_eq_ediv_of_nonneg (by omega)]
    omega
  rw [hD] at g1
  have h01 := hkp 0 (by decide)
  have h02 := hkp 1 (by decide)
  match n, f4, g1 with
  | 0, _, g1 =>
    obtain rfl := Option.some.inj g1
    show wD T (List.set (List.set s.D 0 (-1)) 0 (dueV a 0 s.retry)) < _
    rw [hD]
    generalize dueV a 0 s.retry = v at hr
    simp only [wD, List.set_cons_zero, List.map_cons, List.map_nil, List.sum_cons, List.sum_nil]
    split <;> split <;> omega
  | 1, _, g1 =>
    obtain rfl := Option.some.inj g1
    rcases gone_D { s with now := b, D := s.D.set 1 (-1) } 0 with h | h
    all_goals
      show wD T (Se.gone _ _).D < _
      rw [h]
      dsimp only
      rw [hD]
      try generalize dueV b 0 s.retry = v at hr
      simp only [wD, List.set_cons_zero, List.set_cons_succ, Nat.add_zero, List.map_cons, List.map_nil, List.sum_cons, List.sum_nil]
      repeat' split
      all_goals omega
  | 2, _, g1 =>
    obtain rfl := Option.some.inj g1
    rcases gone_D { s with now := c, D := s.D.set 2 (-1) } 1 with h | h
    all_goals
      show wD T (Se.gone _ _).D < _
      rw [h]
      dsimp only
      rw [hD]
      try generalize dueV c 0 s.retry = v at hr
      simp only [wD, List.set_cons_zero, List.set_cons_succ, Nat.add_zero, List.map_cons, List.map_nil, List.sum_cons, List.sum_nil]
      repeat' split
      all_goals omega
  | 3, _, g1 =>
    obtain rfl := Option.some.inj g1
    rcases kept_D { s with now := d, D := s.D.set 3 (-1) } 0 with h | ⟨h0, h⟩
    · show wD T (Se.kept _ _).D < _
      rw [h]
      dsimp only
      rw [hD]
      simp only [wD, List.set_cons_zero, List.set_cons_succ, Nat.add_zero, List.map_cons, List.map_nil, List.sum_cons, List.sum_nil]
      repeat' split
      all_goals omega
    · have h2 := h01 h0
      show wD T (Se.kept _ _).D < _
      rw [h]
      show wD T (List.set (List.set s.D 3 (-1)) 3 (dueV d (3 + 0) ((s.c 0).hold.tdiv 3))) < _
      rw [hD]
      generalize dueV d (3 + 0) ((s.c 0).hold.tdiv 3) = v at h2
      simp only [wD, List.set_cons_zero, List.set_cons_succ, Nat.add_zero, List.map_cons, List.map_nil, List.sum_cons, List.sum_nil]
      repeat' split
      all_goals omega
  | 4, _, g1 =>
    obtain rfl := Option.some.inj g1
    rcases kept_D { s with now := e, D := s.D.set 4 (-1) } 1 with h | ⟨h0, h⟩
    · show wD T (Se.kept _ _).D < _
      rw [h]
      dsimp only
      rw [hD]
      simp only [wD, List.set_cons_zero, List.set_cons_succ, Nat.add_zero, List.map_cons, List.map_nil, List.sum_cons, List.sum_nil]
      repeat' split
      all_goals omega
    · have h2 := h02 h0
      show wD T (Se.kept _ _).D < _
      rw [h]
      show wD T (List.set (List.set s.D 4 (-1)) 4 (dueV e (3 + 1) ((s.c 1).hold.tdiv 3))) < _
      rw [hD]
      generalize dueV e (3 + 1) ((s.c 1).hold.tdiv 3) = v at h2
      simp only [wD, List.set_cons_zero, List.set_cons_succ, Nat.add_zero, List.map_cons, List.map_nil, List.sum_cons, List.sum_nil]
      repeat' split
      all_goals omega

theorem Next_any {w0 w : World} {gC : Nat} {now : Int} {R : List Ent} {d : Ck} {D : List Int} (hS : St (fun _ => False) w0 w (d.L gC now R)) (hb : Bag d (dueF 0 D)) (u : Int) :
    Calls Tryz.prog 62 #[.pointer (some ⟨gC, 0, none⟩), .int .i64 u] w fun e' w' => ∃ (ok : Bool) (n : Nat) (t : Int) (d' : Ck), e' = .returned (.tuple #[.int .i64 n, .bool ok]) ∧ (ok = true → FirstD D (till now u) n t) ∧ (ok = false → t = till now u ∧ ∀ t ∈ D, t < 0 ∨ till now u < t) ∧ Bag d' (dueF 0 (if ok then D.set n (-1) else D)) ∧ St (fun _ => False) w0 w' (d'.L gC t R) := by
  rcases first_or D (till now u) with ⟨n, t, hF⟩ | hno
  · refine (Next_d hS hb u hF).mono ?_
    rintro e' w' ⟨d', rfl, hb', hS'⟩
    exact ⟨true, n, t, d', rfl, fun _ => hF, fun e => (by cases e), hb', hS'⟩
  · refine (Next_dn hS hb u hno).mono ?_
    rintro e' w' ⟨rfl, hS'⟩
    exact ⟨false, 0, _, d, rfl, fun e => (by cases e), fun _ => ⟨rfl, hno⟩, hb, hS'⟩
theorem wD_le {T now : Int} {D : List Int} (h5 : D.length = 5) (h : ∀ t ∈ D, t = -1 ∨ now ≤ t ∧ t ≤ maxT) (hT : T ≤ now + 4096) : wD T D ≤ 20485 := by
  obtain ⟨a, b, c, d, e, rfl⟩ := list5 h5
  have ha := h a (by simp)
  have hb := h b (by simp)
  have hc := h c (by simp)
  have hd := h d (by simp)
  have he := h e (by simp)
  have key : ∀ x : Int, (x = -1 ∨ now ≤ x ∧ x ≤ maxT) → (if 0 ≤ x then (T + 1 - x).toNat else 0) ≤ 4097 := fun x hx => by
    split <;> omega
  have k1 := key a ha
  have k2 := key b hb
  have k3 := key c hc
  have k4 := key d hd
  have k5 := key e he
  simp only [wD, List.map_cons, List.map_nil, List.sum_cons, List.sum_nil]
  omega
theorem PeAt.bagged {g : Nat} {p : PeL} {s : Se} {E0 E1 : List Ent} {d d' : Ck} (hA : PeAt g p s E0 E1 d) (hb : Bag d' (dueF 0 s.D)) : PeAt g p s E0 E1 d' := ⟨hA.eq, hA.ok, hA.ok0, hA.ok1, hA.v0, hA.v1, hA.b0, hA.b1, hb⟩
set_option maxHeartbeats 4000000 in
theorem tick_c (w0 w : World) (g : Nat) (p : PeL) (s : Se) (E0 E1 L : List Ent) (d : Ck) (hA : PeAt g p s E0 E1 d) (hG : GF w0) (hS0 : St (fun _ => False) w0 w (.row g p.cells :: (E0 ++ (E1 ++ d.L p.gC s.now L)))) (hf : s.Fit) (u : Int) (_hu : I64 u) :
    Calls Tryz.prog 24 #[.pointer (some ⟨g, 0, none⟩), .int .i64 u] w fun e w' => ∃ es s', TickR (tickT s u) s es s' ∧ EffC w0 w' g es s' L e := by
  have hnow := hA.ok.2.2.2.1
  refine enter Tryz.func24 rfl Tryz.ntmps24 rfl hS0 ?_
  refine cR <| zA rfl <| zN <| cS <| cR <| zM rfl <| zV (v_eql_nil false rfl rfl Tryz.underlying40 rfl) rfl <| zN <| cF rfl <| cK <| eN <| cS <| ?_
  refine WC.region <| zM rfl <| zC rfl <| zF rfl fld_106_1 <| zL rfl one_98 rfl <| zK ck_61 rfl <| ?_
  intro w hS
  refine Calls.then (Now_k (hS.row (g := p.gC))) hS ?_
  refine zA rfl <| zN <| ?_
  refine WC.cut (fun U : Int => [(5, .int .i64 U), (0, .pointer (some ⟨g, 0, none⟩))]) (fun _ => .row g p.cells :: (E0 ++ (E1 ++ d.L p.gC s.now L))) (fun U => s.now ≤ U ∧ U ≤ s.now + 4096 ∧ min U maxT = tickT s u) ?_ ?_
  refine cR <| zM rfl <| zM rfl <| ?_
  refine zT (v_gtr rfl rfl rfl) rfl (fun h18 => ?_) (fun h18 => ?_)
  refine zN <| cT rfl <| WC.region <| zM rfl <| zM rfl <| ?_
  refine zV (v_add rfl rfl rfl (w_i64 (by unfold maxT at hnow; omega) (by unfold maxT at hnow; omega))) rfl ?_
  refine zV (v_min rfl rfl rfl) rfl <| zA rfl <| WL.nil <| ?_
  exact WE.mid (min u (s.now + 4096)) ⟨by omega, by omega, by unfold tickT; rw [if_pos (by omega)]⟩ (.cons rfl (.cons rfl .nil)) (.refl _)
  refine zN <| cF rfl <| cK <| ?_
  exact WE.mid s.now ⟨by omega, by omega, by unfold tickT; rw [if_neg (by omega)]⟩ (.cons rfl (.cons rfl .nil)) (.refl _)
  rintro U ⟨hU1, hU2, hUT⟩
  generalize hT : tickT s u = T at hUT
  have hT0 : s.now ≤ T ∧ T ≤ maxT ∧ T ≤ U := (by omega)
  refine cR <| zA rfl <| zN <| cB <| ?_
  refine WC.loop (fun x : PT => [(5, .int .i64 U), (6, .slice x.y.ad x.y.fs.length x.y.c), (0, .pointer (some ⟨g, 0, none⟩))]) (fun x => x.y.L g x.t.now L) (fun x => PeAt g x.y.p x.t x.y.E0 x.y.E1 x.y.d ∧ x.t.Fit ∧ (s.now ≤ x.t.now ∧ x.t.now ≤ T) ∧ EfsV x.y.ad x.y.c x.y.fs x.y.E x.y.K ∧ x.y.fs.length + 3 * wD T x.t.D ≤ 70000 ∧ ∀ es s', TickR T x.t es s' → TickR T s (x.y.fs.map EfL.d ++ es) s') (fun x => wD T x.t.D) ⟨0, ⟨p, E0, E1, d, none, 0, [], [], []⟩, s⟩ ⟨hA, hf, ⟨Int.le_refl _, hT0.1⟩, ⟨Vec.nil 23, fun e he => by cases he⟩, (by have := wD_le (T := T) hA.ok.2.2.2.2.1 hA.ok.2.2.2.2.2.1 (by omega); show 0 + 3 * wD T s.D ≤ 70000; omega), fun es s' h => h⟩ (.cons rfl (.cons rfl (.cons rfl .nil))) (.refl _) ?_
  rintro ⟨k, ⟨p4, E04, E14, d4, ad4, c4, fs, EF, KF⟩, t⟩ ⟨hA4, hfit, hnt, hV4, hfl, hR⟩
  dsimp only at hA4 hfit hnt hV4 hfl hR
  unfold PS.L
  dsimp only
  refine cB <| cR <| zM rfl <| zC rfl <| zF rfl fld_106_1 <| zL rfl one_98 rfl <| zM rfl <| zK ck_62 rfl <| ?_
  intro w1 hS
  refine (Next_any (gC := p4.gC) (now := t.now) (R := EF ++ (KF ++ (.row g p4.cells :: (E04 ++ (E14 ++ L))))) (hS.permK ) hA4.bag U).mono ?_
  rintro e w' ⟨ok, n, tt, d5, rfl, hyes, hno, hb5, hS'⟩
  have htl : till t.now U = T := (by unfold till; unfold maxT at *; omega)
  rw [htl] at hyes hno
  refine ⟨_, EF ++ (KF ++ (.row g p4.cells :: (E04 ++ (E14 ++ d5.L p4.gC tt L)))), rfl, hS'.permK , ?_⟩
  refine zM rfl <| zX rfl <| zX rfl <| ?_
  skip
  cases ok
  refine zA rfl <| zA rfl <| zN <| cS <| cR <| zM rfl <| zV (v_not rfl rfl rfl) rfl <| zN <| cT rfl <| cR <| zM rfl <| zA rfl <| ?_
  refine zN <| cE <| eR <| eB <| eR <| eB <| tR Tryz.results24 rfl <| ?_
  obtain ⟨e1, e2⟩ := hno rfl
  have e3 := hR _ _ (TickR.done e2)
  rw [List.append_nil] at e3
  rw [e1] at *
  exact fun w' h => ⟨_, _, e3, ad4, c4, fs, EF, KF, p4, E04, E14, d5, rfl, hV4, rfl, (hA4.bagged (by simpa using hb5)).till e2 hnt.2 hT0.2.1, h⟩
  refine zA rfl <| zA rfl <| zN <| cS <| cR <| zM rfl <| zV (v_not rfl rfl rfl) rfl <| zN <| cF rfl <| cK <| eN <| cR <| ?_
  refine zM rfl <| zN <| cB <| cR <| ?_
  refine zT (v_eql rfl rfl rfl) rfl (fun h37 => ?_) (fun h37 => ?_)
  obtain rfl : n = 0 := (by omega)
  have hF := hyes rfl
  have hA5 : PeAt g p4 { t with now := tt, D := t.D.set 0 (-1) } E04 E14 d5 := hA4.at hF (by simpa using hb5)
  have hls := fireS_less hA4.ok hfit hF
  have hF2 := hF.now hA4.ok
  clear hyes hno
  refine zA rfl <| zN <| cT rfl <| WC.region <| zM rfl <| zM rfl <| zK ck_50 rfl <| ?_
  intro w1 hS
  refine (dial_c w0 w1 g p4 { t with now := tt, D := t.D.set 0 (-1) } E04 E14 (EF ++ (KF ++ L)) d5 hA5 (hS.permK )).mono ?_
  rintro e w' ⟨ad2, c2, gs, EG, KG, p2, E02, E12, d2, rfl, hV2, heg, hA2, hS'⟩
  have hS2 : St (fun _ => False) w0 w' (EG ++ (KG ++ (.row g p2.cells :: (E02 ++ (E12 ++ d2.L p2.gC (fireS t 0 tt).1.now (EF ++ (KF ++ L))))))) := hS'
  have hgl := efs_len heg
  have hgb : gs.length ≤ 3 := (by rw [hgl]; exact fireS_len t 0 tt)
  refine ⟨_, EF ++ (EG ++ (KG ++ (KF ++ (.row g p2.cells :: (E02 ++ (E12 ++ d2.L p2.gC (fireS t 0 tt).1.now L)))))), rfl, hS2.permK , ?_⟩
  refine WL.appendL rfl rfl rfl Tryz.underlying46 Tryz.underlying46 sz_54 by_54 zero_54 rfl rfl hV4.1 (new := efsL gs) (hV2.1.src (fun e he => List.mem_append_right _ (List.mem_append_left _ he)) |> fun f h => (f (by rw [efsL_len]; omega)).elim fun b1 h1 => h1.elim fun o1 h2 => ⟨b1, o1, h2.1, fun w hS => h2.2 _ _ w hS⟩) (efsL_len gs) (efsL_one gs) (by omega) (.none rfl) rfl rfl ?_
  intro ad41 c41 E41 hV41 hr41
  rw [efsL_app] at hV41
  rw [show fs.length + gs.length = (fs ++ gs).length from List.length_append.symm] at hV41 ⊢
  refine WL.to (L' := (⟨p2, E02, E12, d2, ad41, c41, fs ++ gs, E41, KG ++ KF⟩ : PS).L g (fireS t 0 tt).1.now L) (fun w hS => hS.dropK EG ) <| zA rfl <| WL.nil <| eY <| eY <| ?_
  refine WE.next ⟨0, ⟨p2, E02, E12, d2, ad41, c41, fs ++ gs, E41, KG ++ KF⟩, (fireS t 0 tt).1⟩ hls ⟨hA2, fireS_fit hfit _ _, ⟨by rw [fireS_now]; omega, by rw [fireS_now]; omega⟩, ⟨hV41, fun e he => ?_⟩, by dsimp only; rw [List.length_append]; omega, fun es s' h => ?_⟩ (.cons rfl (.cons rfl (.cons rfl .nil))) (.refl _)
  · rcases List.mem_append.1 he with he | he
    · exact (hV4.2 e he).mono fun x hx => List.mem_append_right _ hx
    · exact (hV2.2 e he).mono fun x hx => List.mem_append_left _ hx
  · rw [List.map_append, heg, List.append_assoc]
    exact hR _ _ (.fire hF h)
  refine zA rfl <| zN <| cF rfl <| cS <| cR <| ?_
  refine zT (v_eql rfl rfl rfl) rfl (fun h43 => ?_) (fun h43 => ?_)
  obtain rfl : n = 1 := (by omega)
  have hF := hyes rfl
  have hA5 : PeAt g p4 { t with now := tt, D := t.D.set 1 (-1) } E04 E14 d5 := hA4.at hF (by simpa using hb5)
  have hls := fireS_less hA4.ok hfit hF
  have hF2 := hF.now hA4.ok
  clear hyes hno
  refine zA rfl <| zN <| cT rfl <| cK <| eN <| cT rfl <| WC.region <| zM rfl <| zM rfl <| zM rfl <| ?_
  refine zV (v_sub rfl rfl rfl (show _ = (0 : Int) from w_i64 (by decide) (by decide))) rfl ?_
  refine zK ck_63 rfl ?_
  intro w1 hS
  refine (fault0_c w0 w1 g p4 { t with now := tt, D := t.D.set 1 (-1) } E04 E14 (EF ++ (KF ++ L)) d5 hA5 hG (hS.permK ) 4 0 ⟨by decide, by decide⟩ ⟨by decide, by decide⟩).mono ?_
  rintro e w' ⟨ad2, c2, gs, EG, KG, p2, E02, E12, d2, rfl, hV2, heg, hA2, hS'⟩
  have hS2 : St (fun _ => False) w0 w' (EG ++ (KG ++ (.row g p2.cells :: (E02 ++ (E12 ++ d2.L p2.gC (fireS t 1 tt).1.now (EF ++ (KF ++ L))))))) := hS'
  have hgl := efs_len heg
  have hgb : gs.length ≤ 3 := (by rw [hgl]; exact fireS_len t 1 tt)
  refine ⟨_, EF ++ (EG ++ (KG ++ (KF ++ (.row g p2.cells :: (E02 ++ (E12 ++ d2.L p2.gC (fireS t 1 tt).1.now L)))))), rfl, hS2.permK , ?_⟩
  refine WL.appendL rfl rfl rfl Tryz.underlying46 Tryz.underlying46 sz_54 by_54 zero_54 rfl rfl hV4.1 (new := efsL gs) (hV2.1.src (fun e he => List.mem_append_right _ (List.mem_append_left _ he)) |> fun f h => (f (by rw [efsL_len]; omega)).elim fun b1 h1 => h1.elim fun o1 h2 => ⟨b1, o1, h2.1, fun w hS => h2.2 _ _ w hS⟩) (efsL_len gs) (efsL_one gs) (by omega) (.none rfl) rfl rfl ?_
  intro ad50 c50 E50 hV50 hr50
  rw [efsL_app] at hV50
  rw [show fs.length + gs.length = (fs ++ gs).length from List.length_append.symm] at hV50 ⊢
  refine WL.to (L' := (⟨p2, E02, E12, d2, ad50, c50, fs ++ gs, E50, KG ++ KF⟩ : PS).L g (fireS t 1 tt).1.now L) (fun w hS => hS.dropK EG ) <| zA rfl <| WL.nil <| eY <| eY <| ?_
  refine WE.next ⟨0, ⟨p2, E02, E12, d2, ad50, c50, fs ++ gs, E50, KG ++ KF⟩, (fireS t 1 tt).1⟩ hls ⟨hA2, fireS_fit hfit _ _, ⟨by rw [fireS_now]; omega, by rw [fireS_now]; omega⟩, ⟨hV50, fun e he => ?_⟩, by dsimp only; rw [List.length_append]; omega, fun es s' h => ?_⟩ (.cons rfl (.cons rfl (.cons rfl .nil))) (.refl _)
  · rcases List.mem_append.1 he with he | he
    · exact (hV4.2 e he).mono fun x hx => List.mem_append_right _ hx
    · exact (hV2.2 e he).mono fun x hx => List.mem_append_left _ hx
  · rw [List.map_append, heg, List.append_assoc]
    exact hR _ _ (.fire hF h)
  refine zA rfl <| zN <| cF rfl <| WC.region <| ?_
  refine zT (v_eql rfl rfl rfl) rfl (fun h44 => ?_) (fun h44 => ?_)
  obtain rfl : n = 2 := (by omega)
  have hF := hyes rfl
  have hA5 : PeAt g p4 { t with now := tt, D := t.D.set 2 (-1) } E04 E14 d5 := hA4.at hF (by simpa using hb5)
  have hls := fireS_less hA4.ok hfit hF
  have hF2 := hF.now hA4.ok
  clear hyes hno
  refine zA rfl <| zN <| cT rfl <| WC.region <| zM rfl <| zM rfl <| zM rfl <| ?_
  refine zV (v_sub rfl rfl rfl (show _ = (1 : Int) from w_i64 (by decide) (by decide))) rfl ?_
  refine zK ck_63 rfl ?_
  intro w1 hS
  refine (fault1_c w0 w1 g p4 { t with now := tt, D := t.D.set 2 (-1) } E04 E14 (EF ++ (KF ++ L)) d5 hA5 hG (hS.permK ) 4 0 ⟨by decide, by decide⟩ ⟨by decide, by decide⟩).mono ?_
  rintro e w' ⟨ad2, c2, gs, EG, KG, p2, E02, E12, d2, rfl, hV2, heg, hA2, hS'⟩
  have hS2 : St (fun _ => False) w0 w' (EG ++ (KG ++ (.row g p2.cells :: (E02 ++ (E12 ++ d2.L p2.gC (fireS t 2 tt).1.now (EF ++ (KF ++ L))))))) := hS'
  have hgl := efs_len heg
  have hgb : gs.length ≤ 3 := (by rw [hgl]; exact fireS_len t 2 tt)
  refine ⟨_, EF ++ (EG ++ (KG ++ (KF ++ (.row g p2.cells :: (E02 ++ (E12 ++ d2.L p2.gC (fireS t 2 tt).1.now L)))))), rfl, hS2.permK , ?_⟩
  refine WL.appendL rfl rfl rfl Tryz.underlying46 Tryz.underlying46 sz_54 by_54 zero_54 rfl rfl hV4.1 (new := efsL gs) (hV2.1.src (fun e he => List.mem_append_right _ (List.mem_append_left _ he)) |> fun f h => (f (by rw [efsL_len]; omega)).elim fun b1 h1 => h1.elim fun o1 h2 => ⟨b1, o1, h2.1, fun w hS => h2.2 _ _ w hS⟩) (efsL_len gs) (efsL_one gs) (by omega) (.none rfl) rfl rfl ?_
  intro ad50 c50 E50 hV50 hr50
  rw [efsL_app] at hV50
  rw [show fs.length + gs.length = (fs ++ gs).length from List.length_append.symm] at hV50 ⊢
  refine WL.to (L' := (⟨p2, E02, E12, d2, ad50, c50, fs ++ gs, E50, KG ++ KF⟩ : PS).L g (fireS t 2 tt).1.now L) (fun w hS => hS.dropK EG ) <| zA rfl <| WL.nil <| eY <| eY <| ?_
  refine WE.next ⟨0, ⟨p2, E02, E12, d2, ad50, c50, fs ++ gs, E50, KG ++ KF⟩, (fireS t 2 tt).1⟩ hls ⟨hA2, fireS_fit hfit _ _, ⟨by rw [fireS_now]; omega, by rw [fireS_now]; omega⟩, ⟨hV50, fun e he => ?_⟩, by dsimp only; rw [List.length_append]; omega, fun es s' h => ?_⟩ (.cons rfl (.cons rfl (.cons rfl .nil))) (.refl _)
  · rcases List.mem_append.1 he with he | he
    · exact (hV4.2 e he).mono fun x hx => List.mem_append_right _ hx
    · exact (hV2.2 e he).mono fun x hx => List.mem_append_left _ hx
  · rw [List.map_append, heg, List.append_assoc]
    exact hR _ _ (.fire hF h)
  refine zA rfl <| zN <| cF rfl <| cS <| cR <| ?_
  refine zT (v_eql rfl rfl rfl) rfl (fun h52 => ?_) (fun h52 => ?_)
  obtain rfl : n = 3 := (by omega)
  have hF := hyes rfl
  have hA5 : PeAt g p4 { t with now := tt, D := t.D.set 3 (-1) } E04 E14 d5 := hA4.at hF (by simpa using hb5)
  have hls := fireS_less hA4.ok hfit hF
  have hF2 := hF.now hA4.ok
  clear hyes hno
  refine zA rfl <| zN <| cT rfl <| cK <| eN <| cT rfl <| cR <| zM rfl <| zM rfl <| ?_
  refine zV (v_sub rfl rfl rfl (show _ = (0 : Int) from w_i64 (by decide) (by decide))) rfl ?_
  refine zV (v_build rfl rfl zero_39 plc_39 rfl) rfl <| zK ck_54 rfl <| ?_
  intro w1 hS
  refine (send_c w1 0 (MsL.zero 4) (zero4_at _) (zeroM_in ⟨by decide, by decide⟩) (hG.keep (fun h => h) hS) (Nat.zero_le _) (Nat.zero_le _)).mono ?_
  rintro e w' ⟨ad2, c2, gs, EG, KG, rfl, hV2, heg, hS'⟩
  have hgl := efs_len heg
  have hgb := sendE_len 0 (MsL.zero 4)
  refine ⟨_, EF ++ (EG ++ (KG ++ (KF ++ (.row g p4.cells :: (E04 ++ (E14 ++ d5.L p4.gC tt L)))))), rfl, (hS.join hS').permK , ?_⟩
  refine WL.appendL rfl rfl rfl Tryz.underlying46 Tryz.underlying46 sz_54 by_54 zero_54 rfl rfl hV4.1 (new := efsL gs) (hV2.1.src (fun e he => List.mem_append_right _ (List.mem_append_left _ he)) |> fun f h => (f (by rw [efsL_len]; omega)).elim fun b1 h1 => h1.elim fun o1 h2 => ⟨b1, o1, h2.1, fun w hS => h2.2 _ _ w hS⟩) (efsL_len gs) (efsL_one gs) (by omega) (.none rfl) rfl rfl ?_
  intro ad59 c59 E59 hV59 hr59
  rw [efsL_app] at hV59
  rw [show fs.length + gs.length = (fs ++ gs).length from List.length_append.symm] at hV59 ⊢
  refine zA rfl <| zN <| WC.region <| zM rfl <| zM rfl <| ?_
  refine zV (v_sub rfl rfl rfl (show _ = (0 : Int) from w_i64 (by decide) (by decide))) rfl ?_
  refine zK ck_64 rfl ?_
  intro w1 hS
  refine (kept0_c w0 w1 g p4 { t with now := tt, D := t.D.set 3 (-1) } E04 E14 (E59 ++ (EG ++ (KG ++ (KF ++ L)))) d5 hA5 (hS.permK )).mono ?_
  rintro e w' ⟨d6, rfl, hA6, hS'⟩
  have hS2 : St (fun _ => False) w0 w' (.row g p4.cells :: (E04 ++ (E14 ++ d6.L p4.gC tt (E59 ++ (EG ++ (KG ++ (KF ++ L))))))) := hS'
  have hnn : (fireS t 3 tt).1.now = tt := fireS_now _ _ _
  refine ⟨_, (⟨p4, E04, E14, d6, ad59, c59, fs ++ gs, E59, KG ++ KF⟩ : PS).L g (fireS t 3 tt).1.now L, rfl, (by rw [hnn]; exact hS2.dropK EG ), ?_⟩
  refine WL.nil <| eY <| eY <| ?_
  refine WE.next ⟨0, ⟨p4, E04, E14, d6, ad59, c59, fs ++ gs, E59, KG ++ KF⟩, (fireS t 3 tt).1⟩ hls ⟨hA6, fireS_fit hfit _ _, ⟨by rw [fireS_now]; omega, by rw [fireS_now]; omega⟩, ⟨hV59, fun e he => ?_⟩, by dsimp only; rw [List.length_append]; omega, fun es s' h => ?_⟩ (.cons rfl (.cons rfl (.cons rfl .nil))) (.refl _)
  · rcases List.mem_append.1 he with he | he
    · exact (hV4.2 e he).mono fun x hx => List.mem_append_right _ hx
    · exact (hV2.2 e he).mono fun x hx => List.mem_append_left _ hx
  · rw [List.map_append, heg, List.append_assoc]
    exact hR _ _ (.fire hF h)
  refine zA rfl <| zN <| cF rfl <| WC.region <| ?_
  refine zT (v_eql rfl rfl rfl) rfl (fun h53 => ?_) (fun h53 => ?_)
  obtain rfl : n = 4 := (by omega)
  have hF := hyes rfl
  have hA5 : PeAt g p4 { t with now := tt, D := t.D.set 4 (-1) } E04 E14 d5 := hA4.at hF (by simpa using hb5)
  have hls := fireS_less hA4.ok hfit hF
  have hF2 := hF.now hA4.ok
  clear hyes hno
  refine zA rfl <| zN <| cT rfl <| cR <| zM rfl <| zM rfl <| ?_
  refine zV (v_sub rfl rfl rfl (show _ = (1 : Int) from w_i64 (by decide) (by decide))) rfl ?_
  refine zV (v_build rfl rfl zero_39 plc_39 rfl) rfl <| zK ck_54 rfl <| ?_
  intro w1 hS
  refine (send_c w1 1 (MsL.zero 4) (zero4_at _) (zeroM_in ⟨by decide, by decide⟩) (hG.keep (fun h => h) hS) (Nat.zero_le _) (Nat.zero_le _)).mono ?_
  rintro e w' ⟨ad2, c2, gs, EG, KG, rfl, hV2, heg, hS'⟩
  have hgl := efs_len heg
  have hgb := sendE_len 1 (MsL.zero 4)
  refine ⟨_, EF ++ (EG ++ (KG ++ (KF ++ (.row g p4.cells :: (E04 ++ (E14 ++ d5.L p4.gC tt L)))))), rfl, (hS.join hS').permK , ?_⟩
  refine WL.appendL rfl rfl rfl Tryz.underlying46 Tryz.underlying46 sz_54 by_54 zero_54 rfl rfl hV4.1 (new := efsL gs) (hV2.1.src (fun e he => List.mem_append_right _ (List.mem_append_left _ he)) |> fun f h => (f (by rw [efsL_len]; omega)).elim fun b1 h1 => h1.elim fun o1 h2 => ⟨b1, o1, h2.1, fun w hS => h2.2 _ _ w hS⟩) (efsL_len gs) (efsL_one gs) (by omega) (.none rfl) rfl rfl ?_
  intro ad59 c59 E59 hV59 hr59
  rw [efsL_app] at hV59
  rw [show fs.length + gs.length = (fs ++ gs).length from List.length_append.symm] at hV59 ⊢
  refine zA rfl <| zN <| WC.region <| zM rfl <| zM rfl <| ?_
  refine zV (v_sub rfl rfl rfl (show _ = (1 : Int) from w_i64 (by decide) (by decide))) rfl ?_
  refine zK ck_64 rfl ?_
  intro w1 hS
  refine (kept1_c w0 w1 g p4 { t with now := tt, D := t.D.set 4 (-1) } E04 E14 (E59 ++ (EG ++ (KG ++ (KF ++ L)))) d5 hA5 (hS.permK )).mono ?_
  rintro e w' ⟨d6, rfl, hA6, hS'⟩
  have hS2 : St (fun _ => False) w0 w' (.row g p4.cells :: (E04 ++ (E14 ++ d6.L p4.gC tt (E59 ++ (EG ++ (KG ++ (KF ++ L))))))) := hS'
  have hnn : (fireS t 4 tt).1.now = tt := fireS_now _ _ _
  refine ⟨_, (⟨p4, E04, E14, d6, ad59, c59, fs ++ gs, E59, KG ++ KF⟩ : PS).L g (fireS t 4 tt).1.now L, rfl, (by rw [hnn]; exact hS2.dropK EG ), ?_⟩
  refine WL.nil <| eY <| eY <| ?_
  refine WE.next ⟨0, ⟨p4, E04, E14, d6, ad59, c59, fs ++ gs, E59, KG ++ KF⟩, (fireS t 4 tt).1⟩ hls ⟨hA6, fireS_fit hfit _ _, ⟨by rw [fireS_now]; omega, by rw [fireS_now]; omega⟩, ⟨hV59, fun e he => ?_⟩, by dsimp only; rw [List.length_append]; omega, fun es s' h => ?_⟩ (.cons rfl (.cons rfl (.cons rfl .nil))) (.refl _)
  · rcases List.mem_append.1 he with he | he
    · exact (hV4.2 e he).mono fun x hx => List.mem_append_right _ hx
    · exact (hV2.2 e he).mono fun x hx => List.mem_append_left _ hx
  · rw [List.map_append, heg, List.append_assoc]
    exact hR _ _ (.fire hF h)
  refine zA rfl <| zN <| cF rfl <| cK <| eY <| eY <| ?_
  exact absurd ((hyes rfl).now hA4.ok).2.2.2.1 (by omega)

theorem feedM_one {m : MsL} (h : msgC m = 0) (hI : m.In) : feedM [] (msgB m) = ([bareD m], none, []) := by
  obtain ⟨j, rest, hj, e, _, hz⟩ := feedM_prefix [m] [] (msgB m) [] (fun x hx => by obtain rfl := List.mem_singleton.1 hx; exact ⟨h, hI⟩) (by unfold flatB; rw [List.flatMap_cons, List.flatMap_nil])
  obtain ⟨rfl, rfl⟩ := hz rfl
  exact e
theorem openM_code {a h i : Int} (ha : 1 ≤ a ∧ a ≤ 65535) (hh : h = 0 ∨ 3 ≤ h ∧ h ≤ 65535) (hi : i ≠ 0) : msgC (openM a h i) = 0 := by
  have e1 : badO (openM a h i) = false := by
    unfold badO
    exact decide_eq_false (show ¬ (a < 1 ∨ 65535 < a ∨ (h ≠ 0 ∧ (h < 3 ∨ 65535 < h)) ∨ i = 0 ∨ 32 < 0) by omega)
  have e2 : bodC (openM a h i) = 0 := by
    show openC (openM a h i) = 0
    unfold openC
    rw [e1]
    rfl
  have e3 : (bodB (openM a h i)).length = 10 := by
    show (openB (openM a h i)).length = 10
    unfold openB
    simp only [List.length_append, numB_len, List.length_cons, List.length_nil]
    rfl
  unfold msgC
  rw [if_pos e2, if_neg (by omega)]
theorem noteM_code {C S : Int} {d : ByteArray} (hC : 1 ≤ C ∧ C ≤ 255) (hS : 0 ≤ S ∧ S ≤ 255) (hd : d.size ≤ 4075) : msgC (noteM C S d) = 0 := by
  have e2 : bodC (noteM C S d) = 0 := by
    show noteC (noteM C S d) = 0
    show (if C < 1 ∨ 255 < C ∨ S < 0 ∨ 255 < S then (1 : Int) else if 4096 < d.size then 6 else 0) = 0
    rw [if_neg (show ¬ (C < 1 ∨ 255 < C ∨ S < 0 ∨ 255 < S) by omega), if_neg (show ¬ 4096 < d.size by omega)]
  have e3 : (bodB (noteM C S d)).length = 2 + d.size := by
    show (noteB (noteM C S d)).length = _
    unfold noteB
    rw [List.length_append, strI_len]
    rfl
  unfold msgC
  rw [if_pos e2, if_neg (by omega)]
theorem ka_code : msgC (MsL.zero 4) = 0 := by decide
theorem sendE_ok {n : Int} {m : MsL} (h : msgC m = 0) : sendE n m = [⟨2, n, msgB m, (MsL.zero 0).d⟩] := if_pos h
theorem noteM_in' {C S : Int} {d : ByteArray} (hC : 1 ≤ C ∧ C ≤ 255) (hS : 0 ≤ S ∧ S ≤ 255) (hd : d.size ≤ 4075) : (noteM C S d).In := noteM_in (by constructor <;> omega) (by constructor <;> omega) (by omega)
def whichD (xs : List Int) : Int × Int × Int := match decM xs with | .inl m => (m.kind, m.fc, m.fs) | .inr _ => (-1, 0, 0)
theorem which_msg {m : MsL} (h : msgC m = 0) (hI : m.In) : whichD (msgB m) = ((bareD m).kind, (bareD m).fc, (bareD m).fs) := by
  unfold whichD
  rw [decM_msgB h hI]
theorem which_note {C S : Int} {d : ByteArray} (hC : 1 ≤ C ∧ C ≤ 255) (hS : 0 ≤ S ∧ S ≤ 255) (hd : d.size ≤ 4075) : whichD (msgB (noteM C S d)) = (3, C, S) := which_msg (noteM_code hC hS hd) (noteM_in' hC hS hd)
theorem which_ka : whichD (msgB (MsL.zero 4)) = (4, 0, 0) := which_msg ka_code (zeroM_in ⟨by decide, by decide⟩)

theorem efs_kind {fs : List EfL} {es : List EfD} (h : fs.map EfL.d = es) : fs.map EfL.kind = es.map EfD.kind := by
  rw [← h, List.map_map]; rfl
theorem openS_ok {s : Se} {n : Nat} {A H j : Int} (h1 : A = s.their) (h2 : j ≠ s.id) (h3 : (s.c (1 - n)).st ≠ 5) (h4 : (s.c (1 - n)).st ≠ 4) : openS s n A H j = (s.confirm n H j, sendE n (MsL.zero 4)) := (if_neg (fun hh => hh h1)).trans ((if_neg h2).trans ((if_neg h3).trans (if_neg h4)))
theorem hearD_open {s : Se} {n : Nat} {m : MsD} (h1 : m.kind = 1) (h2 : (s.c n).st = 3) : hearD s n m = openS s n m.asn m.hold m.id := (if_neg (by omega)).trans (if_pos ⟨h1, h2⟩)
theorem hearD_estab {s : Se} {n : Nat} {m : MsD} (h1 : m.kind = 4) (h2 : (s.c n).st = 4) : hearD s n m = (s.establish n, estabE s n) := (if_neg (by omega)).trans ((if_neg (by omega)).trans (if_pos ⟨h1, h2⟩))
theorem estab_one {s t : Se} {n : Nat} (h1 : s.up5 n = t) (h2 : (t.c (1 - n)).st = 0) : s.establish n = t ∧ estabE s n = [ef 4 n] := by
  subst h1
  exact ⟨if_pos h2, by unfold estabE; rw [if_pos h2]; rfl⟩
theorem confirm_on {s : Se} {n : Nat} {H j : Int} (h : min s.hold H ≠ 0) : s.confirm n H j = ((s.conf4 n H j).alive n).kept n := if_neg h
theorem alive_on {s : Se} {n : Nat} (h : (s.c n).hold ≠ 0) : s.alive n = s.due (1 + n) (s.c n).hold := if_neg h
theorem kept_on {s : Se} {n : Nat} (h : (s.c n).hold ≠ 0) : s.kept n = s.due (3 + n) ((s.c n).hold.tdiv 3) := if_neg h
section
variable (a i t h r : Int)
def sA : Se := ⟨a, i, t, h, r, 1, CnM.zero, CnM.zero, 0, [r, -1, -1, -1, -1]⟩
def sB : Se := ⟨a, i, t, h, r, 2, sentC, CnM.zero, 0, [-1, 240, -1, -1, -1]⟩
def cn4 (H j : Int) : CnM := ⟨4, [], 1, 0, 0, ⟨#[]⟩, H, j⟩
def cn5 (H j : Int) : CnM := ⟨5, [], 2, 0, 0, ⟨#[]⟩, H, j⟩
def sC (H j : Int) : Se := ⟨a, i, t, h, r, 2, cn4 H j, CnM.zero, 0, [-1, H, -1, H.tdiv 3, -1]⟩
def sD (H j : Int) : Se := ⟨a, i, t, h, r, 2, cn5 H j, CnM.zero, 0, [-1, H, -1, H.tdiv 3, -1]⟩
variable {a i t h r : Int}
theorem dueV_0 {n : Nat} {l : Int} (h0 : l ≤ 65535) : dueV 0 n l = l := by
  unfold dueV maxT
  rw [if_neg (by omega)]
  omega
theorem dial_new (hr : r ≤ 65535) : (Se.new a i t h r).dial = sA a i t h r := by
  show (⟨a, i, t, h, r, 1, CnM.zero, CnM.zero, 0, [dueV 0 0 r, -1, -1, -1, -1]⟩ : Se) = _
  rw [dueV_0 hr]
  rfl
theorem up_sA : (sA a i t h r).up 0 = sB a i t h r ∧ upE (sA a i t h r) 0 = sendE 0 (openM a h i) := by
  have hn : ¬ upNo (sA a i t h r) 0 := by
    rintro (h | h | ⟨_, h⟩)
    · exact absurd (show (1 : Int) = 0 from h) (by decide)
    · exact h rfl
    · exact h rfl
  exact ⟨(if_neg hn).trans rfl, if_neg hn⟩
theorem feedS_one {s : Se} {n : Nat} {m : MsL} (h0 : (s.c n).st ≠ 0) (hw : (s.c n).wait = []) (h : msgC m = 0) (hI : m.In) : feedS s n (msgB m) = hearD (s.set n { s.c n with wait := [], count := (s.c n).count + 1, fc := 0, fs := 0, fd := ⟨#[]⟩ }) n (bareD m) := by
  have e1 : feedM [] ((s.c n).wait ++ msgB m) = ([bareD m], none, []) := by rw [hw, List.nil_append]; exact feedM_one h hI
  unfold feedS
  rw [if_neg h0]
  have e2 : s.fed n (msgB m) = s.set n { s.c n with wait := [], count := (s.c n).count + 1, fc := 0, fs := 0, fd := ⟨#[]⟩ } := by
    unfold Se.fed CnM.fed
    rw [e1]
    rfl
  rw [e2, e1]
  dsimp only
  generalize he : s.set n _ = s'
  have e3 : (s'.c n).st = (s.c n).st := by
    rw [← he]
    unfold Se.set Se.c
    split <;> rfl
  have e4 : heardD n s' [bareD m] = hearD s' n (bareD m) := by
    unfold heardD
    rw [if_neg (by rw [e3]; exact h0)]
    unfold heardD
    rw [List.append_nil]
  rw [e4]
  unfold endF
  split <;> rfl
theorem feed_sB {A H j : Int} (hc : msgC (openM A H j) = 0) (hI : (openM A H j).In) : feedS (sB a i t h r) 0 (msgB (openM A H j)) = openS ⟨a, i, t, h, r, 2, ⟨3, [], 1, 0, 0, ⟨#[]⟩, 0, 0⟩, CnM.zero, 0, [-1, 240, -1, -1, -1]⟩ 0 A H j := by
  rw [feedS_one (s := sB a i t h r) (n := 0) (show (3 : Int) ≠ 0 by decide) rfl hc hI]
  exact hearD_open rfl rfl
theorem confirm_sB {H j : Int} (hm : 3 ≤ min h H) (hh : min h H ≤ 65535) : Se.confirm ⟨a, i, t, h, r, 2, ⟨3, [], 1, 0, 0, ⟨#[]⟩, 0, 0⟩, CnM.zero, 0, [-1, 240, -1, -1, -1]⟩ 0 H j = sC a i t h r (min h H) j := by
  rw [confirm_on (show min h H ≠ 0 by omega)]
  refine (congrArg (fun z => Se.kept z 0) (alive_on ?_)).trans ?_
  · show min h H ≠ 0; omega
  refine (kept_on ?_).trans ?_
  · show min h H ≠ 0; omega
  show (⟨a, i, t, h, r, 2, cn4 (min h H) j, CnM.zero, 0, [-1, dueV 0 1 (min h H), -1, dueV 0 3 ((min h H).tdiv 3), -1]⟩ : Se) = _
  rw [dueV_0 hh, dueV_0 (tdiv3 (by omega) hh).2]
  rfl
theorem feed_sC {H j : Int} (hm : 3 ≤ H) (hh : H ≤ 65535) : feedS (sC a i t h r H j) 0 (msgB (MsL.zero 4)) = (sD a i t h r H j, [ef 4 0]) := by
  rw [feedS_one (s := sC a i t h r H j) (n := 0) (show (4 : Int) ≠ 0 by decide) rfl ka_code (zeroM_in ⟨by decide, by decide⟩)]
  refine (hearD_estab rfl rfl).trans ?_
  have e1 := estab_one (s := ⟨a, i, t, h, r, 2, ⟨4, [], 2, 0, 0, ⟨#[]⟩, H, j⟩, CnM.zero, 0, [-1, H, -1, H.tdiv 3, -1]⟩) (n := 0) (t := sD a i t h r H j) (by
    refine (alive_on (s := ⟨a, i, t, h, r, 2, ⟨5, [], 2, 0, 0, ⟨#[]⟩, H, j⟩, CnM.zero, 0, [-1, H, -1, H.tdiv 3, -1]⟩) (n := 0) (show H ≠ 0 by omega)).trans ?_
    show (⟨a, i, t, h, r, 2, cn5 H j, CnM.zero, 0, [-1, dueV 0 1 H, -1, H.tdiv 3, -1]⟩ : Se) = _
    rw [dueV_0 hh]
    rfl) rfl
  exact Prod.ext e1.1 e1.2
end
section
variable {a i t h r : Int} (w0 w : World) (g : Nat) (p : PeL) (E0 E1 L : List Ent) (d : Ck)
theorem start_new (hA : PeAt g p (Se.new a i t h r) E0 E1 d) (hS0 : St (fun _ => False) w0 w (.row g p.cells :: (E0 ++ (E1 ++ d.L p.gC 0 L)))) (hr : r ≤ 65535) : Calls Tryz.prog 13 #[.pointer (some ⟨g, 0, none⟩)] w fun e w' => EffC w0 w' g [ef 1 0] (sA a i t h r) L e := by
  have hc := start_c w0 w g p (Se.new a i t h r) E0 E1 L d hA hS0
  rw [if_pos (show (Se.new a i t h r).base = 0 from rfl), if_pos (show (Se.new a i t h r).base = 0 from rfl), dial_new hr] at hc
  exact hc
theorem up_new (hA : PeAt g p (sA a i t h r) E0 E1 d) (hG : GF w0) (hS0 : St (fun _ => False) w0 w (.row g p.cells :: (E0 ++ (E1 ++ d.L p.gC 0 L)))) (hok : confOk a i t h r) : Calls Tryz.prog 14 #[.pointer (some ⟨g, 0, none⟩), .int .i64 0] w fun e w' => EffC w0 w' g [⟨2, 0, msgB (openM a h i), (MsL.zero 0).d⟩] (sB a i t h r) L e := by
  have hc := up0_c w0 w g p (sA a i t h r) E0 E1 L d hA hG hS0 (by have := hok.1; show -9223372036854775808 ≤ a ∧ a ≤ 9223372036854775807; omega)
  rw [up_sA.1, up_sA.2, sendE_ok (openM_code hok.1 hok.2.2.2.1 hok.2.2.1)] at hc
  exact hc
end

theorem openM_in' {a h i : Int} (ha : 1 ≤ a ∧ a ≤ 65535) (hh : I64 h) (hi : U32 i) : (openM a h i).In := openM_in (by constructor <;> omega) hh hi
theorem msgB_le {m : MsL} (h : msgC m = 0) : (msgB m).length ≤ 4096 := by
  have := (msgC_bod h).2
  rw [msgB_len]; omega
theorem feed_sB_ok {a i t h r H j : Int} (hc : msgC (openM t H j) = 0) (hI : (openM t H j).In) (hj : j ≠ i) (hm : 3 ≤ min h H) (hh : min h H ≤ 65535) : feedS (sB a i t h r) 0 (msgB (openM t H j)) = (sC a i t h r (min h H) j, [⟨2, 0, msgB (MsL.zero 4), (MsL.zero 0).d⟩]) := by
  rw [feed_sB hc hI]
  refine (openS_ok rfl hj ?_ ?_).trans ?_
  · show (0 : Int) ≠ 5; decide
  · show (0 : Int) ≠ 4; decide
  · rw [confirm_sB hm hh]
    exact congrArg (Prod.mk _) (sendE_ok ka_code)
set_option maxHeartbeats 2000000 in
theorem Head10_c (w0 : World) (hG : GF w0) (hZ : GZ w0) : Calls Tryz.prog 9 #[] w0 fun e w' => e = .returned (.bool true) ∧ Frm (fun _ => False) w0 w' := by
  have hok : confOk 65000 5 65001 90 10 := by decide
  have hoc : msgC (openM 65001 30 9) = 0 := openM_code (by decide) (by decide) (by decide)
  have hoI : (openM 65001 30 9).In := openM_in' (by decide) ⟨by decide, by decide⟩ ⟨by decide, by decide⟩
  have hol : (msgB (openM 65001 30 9)).length ≤ 4096 := msgB_le hoc
  have hkI : (MsL.zero 4).In := zeroM_in ⟨by decide, by decide⟩
  have hkl : (msgB (MsL.zero 4)).length ≤ 4096 := msgB_le ka_code
  have f1 : feedS (sB 65000 5 65001 90 10) 0 (msgB (openM 65001 30 9)) = (sC 65000 5 65001 90 10 30 9, [⟨2, 0, msgB (MsL.zero 4), (MsL.zero 0).d⟩]) := feed_sB_ok (h := 90) hoc hoI (by decide) (by decide) (by decide)
  have f2 : feedS (sC 65000 5 65001 90 10 30 9) 0 (msgB (MsL.zero 4)) = (sD 65000 5 65001 90 10 30 9, [ef 4 0]) := feed_sC (by decide) (by decide)
  refine enter (vs := []) Tryz.func9 rfl Tryz.ntmps9 rfl (St.start (fun _ => False) w0) ?_
  refine cR <| zA rfl <| zR <| zK ck_12 rfl <| ?_
  intro w hS
  refine Calls.then (lconf_c w) hS ?_
  refine zK ck_11 rfl ?_
  intro w1 hS
  refine (new_c w0 w1 [] hS 65000 5 65001 90 10 hok ⟨by decide, by decide⟩).mono ?_
  rintro e w' ⟨g, p, d, rfl, hA, hS'⟩
  refine ⟨_, _, rfl, hS', ?_⟩
  refine zM rfl <| zX rfl <| zX rfl <| zA rfl <| zA rfl <| zN <| cS <| cR <| zM rfl <| ?_
  refine zV ((v_neq rfl rfl rfl).f ((by decide))) rfl ?_
  refine zM rfl <| zS (v_move rfl rfl) rfl <| zS (v_eql_nil false rfl rfl Tryz.underlying40 rfl) rfl <| zQ rfl <| zM rfl <| zS (v_move rfl rfl) rfl <| WL.call rfl rfl ck_13 (.some rfl rfl rfl) rfl rfl <| ?_
  intro w1 hS
  refine (start_new w0 w1 g p [] [] [] d hA hS (by decide)).mono ?_
  rintro e w' ⟨ad1, c1, fs1, EF1, KF1, p1, E01, E11, d1, rfl, hV1, he1, hA1, hS'⟩
  refine ⟨_, EF1 ++ (KF1 ++ (.row g p1.cells :: (E01 ++ (E11 ++ d1.L p1.gC 0 [])))), rfl, hS', ?_⟩
  refine WL.buildSlice rfl rfl Tryz.underlying32 sz_3 zero_3 rfl (by decide) rfl (.some rfl rfl rfl) rfl rfl ?_
  intro g17 hg17
  refine WL.as (L' := .row g17 [.int .i64 1] :: (EF1 ++ (KF1 ++ (.row g p1.cells :: (E01 ++ (E11 ++ d1.L p1.gC 0 [])))))) rfl <| WL.call rfl rfl ck_16 (.some rfl rfl rfl) rfl rfl <| ?_
  intro w hS
  refine Calls.then (kinds_c w ad1 c1 fs1 EF1 hV1.1 (fun e he => hS.holds e (by simp [Ck.L, clkL, he])) (some ⟨g17, 0, none⟩) 1 [1] (fun _ => ⟨g17, 0, rfl, allAt w hS⟩) (efs_kind he1) (by rw [efs_len he1]; decide)) hS ?_
  refine zS (v_not rfl rfl rfl) rfl <| zQ rfl <| zM rfl <| zS (v_move rfl rfl) rfl <| WL.call rfl rfl ck_14 (.some rfl rfl rfl) rfl rfl <| ?_
  intro w1 hS
  refine (up_new w0 w1 g p1 E01 E11 [] d1 hA1 hG (hS.dropK (.row g17 [.int .i64 1] :: (EF1 ++ KF1)) ) hok).mono ?_
  rintro e w' ⟨ad2, c2, fs2, EF2, KF2, p2, E02, E12, d2, rfl, hV2, he2, hA2, hS'⟩
  refine ⟨_, EF2 ++ (KF2 ++ (.row g p2.cells :: (E02 ++ (E12 ++ d2.L p2.gC 0 [])))), rfl, hS', ?_⟩
  refine WL.buildSlice rfl rfl Tryz.underlying32 sz_3 zero_3 rfl (by decide) rfl (.some rfl rfl rfl) rfl rfl ?_
  intro g24 hg24
  refine WL.as (L' := .row g24 [.int .i64 2] :: (EF2 ++ (KF2 ++ (.row g p2.cells :: (E02 ++ (E12 ++ d2.L p2.gC 0 [])))))) rfl <| WL.call rfl rfl ck_16 (.some rfl rfl rfl) rfl rfl <| ?_
  intro w hS
  refine Calls.then (kinds_c w ad2 c2 fs2 EF2 hV2.1 (fun e he => hS.holds e (by simp [Ck.L, clkL, he])) (some ⟨g24, 0, none⟩) 1 [2] (fun _ => ⟨g24, 0, rfl, allAt w hS⟩) (efs_kind he2) (by rw [efs_len he2]; decide)) hS ?_
  refine zS (v_not rfl rfl rfl) rfl <| zQ rfl <| zM rfl <| zS (v_move rfl rfl) rfl <| WL.call rfl rfl ck_22 (.some rfl rfl rfl) rfl rfl <| ?_
  intro w1 hS
  refine (lopen_c w1 9 30 ⟨by decide, by decide⟩ ⟨by decide, by decide⟩ (hG.keep (fun h => h) hS)).mono ?_
  rw [if_pos hoc]
  rintro e w' ⟨_, rfl, ad3, c3, E3, rfl, hV3, hS'⟩
  refine ⟨_, _, rfl, hS.join hS', ?_⟩
  refine WL.call rfl rfl ck_15 (.some rfl rfl rfl) rfl rfl ?_
  intro w1 hS
  have hf := feed0_c w0 w1 g p2 (sB 65000 5 65001 90 10) E02 E12 E3 d2 hA2 hG hZ (show St (fun _ => False) w0 w1 (.row g p2.cells :: (E02 ++ (E12 ++ d2.L p2.gC 0 E3))) from hS.dropK (.row g24 [.int .i64 2] :: (EF2 ++ KF2)) ) ad3 c3 (msgB (openM 65001 30 9)) (fun w h => hV3.cellsAt (fun e he => h.holds e (by simp [Ck.L, clkL, he]))) (msgB_bys hoI hoc) (by omega) ⟨rfl, rfl, rfl⟩ (by decide)
  rw [f1] at hf
  refine hf.mono ?_
  rintro e w' ⟨ad4, c4, fs4, EF4, KF4, p4, E04, E14, d4, rfl, hV4, he4, hA4, hS'⟩
  refine ⟨_, EF4 ++ (KF4 ++ (.row g p4.cells :: (E04 ++ (E14 ++ d4.L p4.gC 0 E3)))), rfl, hS', ?_⟩
  refine WL.buildSlice rfl rfl Tryz.underlying32 sz_3 zero_3 rfl (by decide) rfl (.some rfl rfl rfl) rfl rfl ?_
  intro g32 hg32
  refine WL.as (L' := .row g32 [.int .i64 2] :: (EF4 ++ (KF4 ++ (.row g p4.cells :: (E04 ++ (E14 ++ d4.L p4.gC 0 E3)))))) rfl <| WL.call rfl rfl ck_16 (.some rfl rfl rfl) rfl rfl <| ?_
  intro w hS
  refine Calls.then (kinds_c w ad4 c4 fs4 EF4 hV4.1 (fun e he => hS.holds e (by simp [Ck.L, clkL, he])) (some ⟨g32, 0, none⟩) 1 [2] (fun _ => ⟨g32, 0, rfl, allAt w hS⟩) (efs_kind he4) (by rw [efs_len he4]; decide)) hS ?_
  refine zS (v_not rfl rfl rfl) rfl <| zQ rfl <| zN <| cF rfl <| cK <| eN <| cR <| zM rfl <| ?_
  have b4 : p4.base = 2 := (congrArg Se.base hA4.eq :)
  have s4 : p4.c0.st = 4 := (congrArg (fun z : Se => z.c0.st) hA4.eq :)
  have t4 : p4.c1.st = 0 := (congrArg (fun z : Se => z.c1.st) hA4.eq :)
  refine zK ck_18 rfl ?_
  intro w hS
  refine Calls.then (state_c w g p4 (hS.row (g := g))) hS ?_
  refine zV ((v_eql rfl rfl rfl).t ((by rw [b4, s4, t4]; decide))) rfl ?_
  refine zM rfl <| zS (v_move rfl rfl) rfl <| zS (v_build rfl rfl zero_39 plc_39 rfl) rfl <| WL.call rfl rfl ck_23 (.some rfl rfl rfl) rfl rfl <| ?_
  intro w1 hS
  refine (lbytes_c w1 (MsL.zero 4) (zero4_at _) hkI (hG.keep (fun h => h) hS) (Nat.zero_le _) (Nat.zero_le _)).mono ?_
  rw [if_pos ka_code]
  rintro e w' ⟨_, rfl, ad5, c5, E5, rfl, hV5, hS'⟩
  refine ⟨_, _, rfl, hS.join hS', ?_⟩
  refine WL.call rfl rfl ck_15 (.some rfl rfl rfl) rfl rfl ?_
  intro w1 hS
  have hf := feed0_c w0 w1 g p4 (sC 65000 5 65001 90 10 30 9) E04 E14 E5 d4 hA4 hG hZ (show St (fun _ => False) w0 w1 (.row g p4.cells :: (E04 ++ (E14 ++ d4.L p4.gC 0 E5))) from hS.dropK (.row g32 [.int .i64 2] :: (EF4 ++ (KF4 ++ E3))) ) ad5 c5 (msgB (MsL.zero 4)) (fun w h => hV5.cellsAt (fun e he => h.holds e (by simp [Ck.L, clkL, he]))) (msgB_bys hkI ka_code) (by omega) ⟨rfl, rfl, rfl⟩ (by decide)
  rw [f2] at hf
  refine hf.mono ?_
  rintro e w' ⟨ad6, c6, fs6, EF6, KF6, p6, E06, E16, d6, rfl, hV6, he6, hA6, hS'⟩
  refine ⟨_, EF6 ++ (KF6 ++ (.row g p6.cells :: (E06 ++ (E16 ++ d6.L p6.gC 0 E5)))), rfl, hS', ?_⟩
  refine WL.buildSlice rfl rfl Tryz.underlying32 sz_3 zero_3 rfl (by decide) rfl (.some rfl rfl rfl) rfl rfl ?_
  intro g44 hg44
  refine WL.as (L' := .row g44 [.int .i64 4] :: (EF6 ++ (KF6 ++ (.row g p6.cells :: (E06 ++ (E16 ++ d6.L p6.gC 0 E5)))))) rfl <| WL.call rfl rfl ck_16 (.some rfl rfl rfl) rfl rfl <| ?_
  intro w hS
  refine Calls.then (kinds_c w ad6 c6 fs6 EF6 hV6.1 (fun e he => hS.holds e (by simp [Ck.L, clkL, he])) (some ⟨g44, 0, none⟩) 1 [4] (fun _ => ⟨g44, 0, rfl, allAt w hS⟩) (efs_kind he6) (by rw [efs_len he6]; decide)) hS ?_
  refine zP rfl <| zM rfl <| zS (v_move rfl rfl) rfl <| ?_
  have b6 : p6.base = 2 := (congrArg Se.base hA6.eq :)
  have s6 : p6.c0.st = 5 := (congrArg (fun z : Se => z.c0.st) hA6.eq :)
  have t6 : p6.c1.st = 0 := (congrArg (fun z : Se => z.c1.st) hA6.eq :)
  have i6 : p6.c0.id = 9 := (congrArg (fun z : Se => z.c0.id) hA6.eq :)
  refine WL.call rfl rfl ck_18 (.some rfl rfl rfl) rfl rfl ?_
  intro w hS
  refine Calls.then (state_c w g p6 (hS.row (g := g))) hS ?_
  refine zS ((v_eql rfl rfl rfl).t ((by rw [b6, s6, t6]; decide))) rfl ?_
  refine zP rfl <| zM rfl <| zS (v_move rfl rfl) rfl <| WL.call rfl rfl ck_21 (.some rfl rfl rfl) rfl rfl <| ?_
  intro w hS
  refine Calls.then (their_c w g p6 (hS.row (g := g))) hS ?_
  refine zS ((v_eql rfl rfl rfl).t ((by unfold theirP; rw [if_pos s6]; exact i6))) rfl ?_
  refine zP rfl <| zA rfl <| zN <| cE <| tR Tryz.results9 rfl <| ?_
  exact fun w' h => ⟨rfl, h.frm⟩

theorem FirstD.uniq {D : List Int} {T : Int} {n n' : Nat} {t t' : Int} (h : FirstD D T n t) (h' : FirstD D T n' t') : n = n' ∧ t = t' := by
  obtain ⟨a1, a2, a3, a4⟩ := h
  obtain ⟨b1, b2, b3, b4⟩ := h'
  by_cases e : n = n'
  · subst e
    rw [a1] at b1
    exact ⟨rfl, Option.some.inj b1⟩
  · have h1 := a4 n' t' (fun h => e h.symm) b1 b2
    have h2 := b4 n t e a1 a2
    unfold ltp at h1 h2
    dsimp only at h1 h2
    omega
theorem TickR.none {T : Int} {s s' : Se} {es : List EfD} (hr : TickR T s es s') (h : ∀ t ∈ s.D, t < 0 ∨ T < t) : es = [] ∧ s' = { s with now := T } := by
  cases hr with
  | done _ => exact ⟨rfl, rfl⟩
  | fire hF _ =>
    have := h _ (List.mem_of_getElem? hF.1)
    have h2 := hF.2.1
    have h3 := hF.2.2.1
    omega
theorem TickR.first {T : Int} {s s' : Se} {es : List EfD} (hr : TickR T s es s') {n : Nat} {t : Int} (hF : FirstD s.D T n t) : ∃ es', es = (fireS s n t).2 ++ es' ∧ TickR T (fireS s n t).1 es' s' := by
  cases hr with
  | done h =>
    have := h _ (List.mem_of_getElem? hF.1)
    have h2 := hF.2.1
    have h3 := hF.2.2.1
    omega
  | fire hF' hr' =>
    obtain ⟨rfl, rfl⟩ := hF.uniq hF'
    exact ⟨_, rfl, hr'⟩
theorem tickT_eq {s : Se} {t : Int} (h1 : s.now < t) (h2 : t ≤ s.now + 4096) (h3 : t ≤ 1000000) : tickT s t = t := by
  unfold tickT maxT
  rw [if_pos h1]
  omega
theorem quo_of {n r q : Int} (hr : 1 ≤ r) (_h0 : 0 ≤ q) (h1 : n * r ≤ q) (h2 : q < n * r + r) : q / r = n := by
  have h3 : r ≠ 0 := by omega
  have e : q = (q - n * r) + n * r := by omega
  rw [e, Int.add_mul_ediv_right _ _ h3, Int.ediv_eq_zero_of_lt (by omega) (by omega)]
  omega

set_option maxHeartbeats 4000000 in
theorem RDec34_c (w0 : World) (b o c : Nat) (xs : List Int) (hW : Win w0 b o c xs) (hn : xs.length ≤ 90000) (hs : sizeR xs.length (fOf xs) = ((xs.length : Int), 0, 0, ⟨#[]⟩)) (h19 : 19 ≤ xs.length) (h18 : fOf xs 18 = 3 ∨ fOf xs 18 = 4) (hle2 : leastI (fOf xs 18) ≤ xs.length) :
    Calls Tryz.prog 58 #[.slice (some ⟨b, o, none⟩) xs.length c] w0 fun e w' => RMsP w0 w' xs e := by
  have hle := hW.le
  obtain ⟨ys, hys⟩ : ∃ ys, ys = xs.drop 19 := ⟨_, rfl⟩
  have e00 : decM xs = bodyM (fOf xs 18) ys := by rw [hys]; unfold decM; rw [hs]; dsimp only; rw [if_neg (by simp), if_neg (by simp)]
  have hdl : ys.length = xs.length - 19 := by rw [hys]; exact List.length_drop ..
  have hlst : leastI (fOf xs 18) = if fOf xs 18 = 1 then 29 else if fOf xs 18 = 2 then 23 else if fOf xs 18 = 3 then 21 else 19 := by unfold leastI; repeat' split; all_goals first | rfl | omega
  have hBy : Bys ys := fun y hy => hW.bys y (by rw [hys] at hy; exact List.mem_of_mem_drop hy)
  have hb : ∀ i, 0 ≤ fOf ys i ∧ fOf ys i ≤ 255 := fun i => fOf_b hBy i
  have hfx : ∀ i, fOf ys i = fOf xs (19 + i) := fun i => by rw [hys]; exact fOf_drop ..
  have hg : ∀ i, 19 + i < xs.length → xs[19 + i]? = some (fOf ys i) := fun i hi => by rw [hfx]; exact fOf_get hi
  have hgc : ∀ (w : World) (L : List Ent) (i : Nat), 19 + i < xs.length → St (fun _ => False) w0 w L → w.cell? ⟨b, o + (19 + i) * 1, none⟩ = some (.int .u8 (fOf ys i)) := fun w L i hi hS => (hW.st hS).get (hg i hi)
  refine enter Tryz.func58 rfl Tryz.ntmps58 rfl (St.start (fun _ => False) w0) ?_
  refine cR <| WL.alloc rfl zero_122 (.none rfl) rfl rfl <| ?_
  intro g2 hg2
  refine WL.alloc rfl zero_120 (.none rfl) rfl rfl ?_
  intro g3 hg3
  refine zR <| zM rfl <| zK ck_71 rfl <| ?_
  intro w hS
  refine Calls.then (by rw [show (Ending.returned (.tuple #[.int .i64 xs.length, .agg (fltL 0 0 ⟨#[]⟩).toArray])) = .returned (sizeV (sizeR xs.length (fOf xs))) by rw [hs]; rfl]; exact RSize_c w (some ⟨b, o, none⟩) xs.length c (fOf xs) (fOf_byt hW.bys) (fun _ => ⟨b, o, rfl, rd_u8s (hW.st hS).at_⟩) (by omega) hle) hS ?_
  refine zM rfl <| zX rfl <| zX rfl <| WL.alloc rfl zero_120 (.none rfl) rfl rfl <| ?_
  intro g5 hg5
  refine zA rfl <| zW many_120 rfl rfl <| zN <| cS <| cR <| zF rfl fld_120_0 <| zL rfl one_3 rfl <| ?_
  refine zV ((v_neq rfl rfl rfl).f (by omega)) rfl ?_
  refine zN <| cF rfl <| cK <| eN <| cS <| cR <| zM rfl <| zM rfl <| zV (v_len_slice rfl rfl Tryz.underlying25) rfl <| ?_
  refine zV ((v_neq rfl rfl rfl).f (by omega)) rfl ?_
  refine zN <| cF rfl <| cK <| eN <| cR <| zM rfl <| ?_
  refine zV (v_indexAddr (lo := 18) rfl rfl rfl Tryz.underlying25 sz_5 rfl (by omega)) rfl ?_
  refine zV (v_load1 rfl rfl one_5 (cellOld (fun h => h) (hW.get (fOf_get (by omega))))) rfl ?_
  refine zV (v_conv rfl rfl Tryz.underlying3 Tryz.underlying5 (w_i64 (by omega) (by omega))) rfl ?_
  refine zV (v_build rfl rfl zero_122 plc_122 rfl) rfl <| WL.alloc rfl zero_122 (.none rfl) rfl rfl <| ?_
  intro g6 hg6
  refine zW many_122 rfl rfl <| WL.as (L' := .row g6 (MsL.zero (fOf xs 18)).rcells :: .row g5 (fltL 0 0 ⟨#[]⟩) :: .row g3 (fltL 0 0 ⟨#[]⟩) :: [.row g2 (MsL.zero 0).rcells]) rfl <| zN <| cS <| cR <| zF rfl fld_122_0 <| zV (v_load1 rfl rfl one_3 (cellAt (v := .int .i64 (fOf xs 18)) rfl)) rfl <| ?_
  refine zV ((v_eql rfl rfl rfl).f ((by omega))) rfl ?_
  refine zN <| cF rfl <| cK <| eN <| cS <| cR <| zF rfl fld_122_0 <| zV (v_load1 rfl rfl one_3 (cellAt (v := .int .i64 (fOf xs 18)) rfl)) rfl <| ?_
  refine zV ((v_eql rfl rfl rfl).f ((by omega))) rfl ?_
  refine zN <| cF rfl <| cK <| eN <| cS <| cR <| zF rfl fld_122_0 <| zV (v_load1 rfl rfl one_3 (cellAt (v := .int .i64 (fOf xs 18)) rfl)) rfl <| ?_
  refine zT (v_eql rfl rfl rfl) rfl (fun h343 => ?_) (fun h343 => ?_)
  refine zN <| cT rfl <| WC.orders mixed <| rF 7 [0, 1, 4, 5, 8, 9] <| ?_
  have hl21 : 21 ≤ xs.length := (by rw [hlst, if_neg (by omega), if_neg (by omega), if_pos h343] at hle2; omega)
  have b0 := hb 0
  have b1 := hb 1
  refine pV (v_move rfl rfl) rfl ?_
  refine pV (v_indexAddr (lo := 19) rfl rfl rfl Tryz.underlying25 sz_5 rfl (by omega)) rfl ?_
  refine pV (v_move rfl rfl) rfl ?_
  refine pV (v_indexAddr (lo := 20) rfl rfl rfl Tryz.underlying25 sz_5 rfl (by omega)) rfl ?_
  refine pV (v_move rfl rfl) rfl ?_
  refine pV ((v_slice_lo (lo := 21) rfl rfl rfl Tryz.underlying25 sz_5 rfl (by omega))) rfl ?_
  refine WP.nil <| rA 1 [2, 3, 6, 7, 10, 11] rfl <| ?_
  refine qV (v_load1 rfl rfl one_5 ((fun w hS => hgc w _ 0 (by omega) hS))) rfl ?_
  refine qV (v_conv rfl rfl Tryz.underlying3 Tryz.underlying5 (w_i64 (by omega) (by omega))) rfl ?_
  refine qV (v_load1 rfl rfl one_5 ((fun w hS => hgc w _ 1 (by omega) hS))) rfl ?_
  refine qV (v_conv rfl rfl Tryz.underlying3 Tryz.underlying5 (w_i64 (by omega) (by omega))) rfl ?_
  refine WQ.call _ rfl rfl ck_91 (.none rfl) rfl rfl (fun w hS => Calls.still (RFault_c w (fOf ys 0) (fOf ys 1) (some ⟨b, sAddr o 21 c 1, none⟩) (xs.length - 21) (c - 21) (fun i => fOf ys (2 + i)) (fun _ => ⟨b, sAddr o 21 c 1, rfl, fun i hi => by
  have := ((hW.st hS).drop 21).get (i := i) (x := fOf ys (2 + i)) (by rw [List.getElem?_drop, show 21 + i = 19 + (2 + i) by omega]; exact hg (2 + i) (by omega))
  rwa [Nat.mul_one] at this⟩)) hS) ?_
  rw [show str (fun i => fOf ys (2 + i)) (xs.length - 21) = strD ys by unfold strD; rw [hdl, show xs.length - 19 - 2 = xs.length - 21 by omega]]
  refine qV (v_fieldAddr0 rfl rfl fld_122_8) rfl <| WQ.nilR <| rO 0 [12] <| ?_
  refine WL.storeN rfl rfl rfl rfl many_120 rfl (by first | exact Nat.le_of_ble_eq_true rfl | simp) (.none rfl) rfl ?_
  refine WL.as (L' := .row g6 (MsL.rcells { MsL.zero (fOf xs 18) with fc := fOf ys 0, fs := fOf ys 1, fd := strD ys }) :: .row g5 (fltL 0 0 ⟨#[]⟩) :: .row g3 (fltL 0 0 ⟨#[]⟩) :: [.row g2 (MsL.zero 0).rcells]) rfl <| zH <| rD <| eN <| cR <| zV (v_loadN rfl rfl many_122 rfl allAt) rfl <| zV (v_build rfl rfl zero_120 plc_120 rfl) rfl <| zW many_122 rfl rfl <| zW many_120 rfl rfl <| zN <| cE <| WE.ret2 (P := Tryz.prog) (.inl rfl) Tryz.results58 (resRow rfl many_122 rfl) (resRow rfl many_120 rfl) <| ?_
  skip
  exact fun w' h => by
    unfold RMsP
    rw [e00, show bodyM (fOf xs 18) ys = .inl (MsL.d { MsL.zero (fOf xs 18) with fc := fOf ys 0, fs := fOf ys 1, fd := strD ys }) by unfold bodyM; rw [if_neg (by omega), if_neg (by omega), if_pos h343]; rfl]
    exact ⟨{ MsL.zero (fOf xs 18) with fc := fOf ys 0, fs := fOf ys 1, fd := strD ys }, [], rfl, rfl, ⟨⟨[], Vec.nil 2, fun _ h => by cases h⟩, (fun _ h => by cases h), ⟨[], Vec.nil 2, fun _ h => by cases h⟩, ⟨[], Vec.nil 2, fun _ h => by cases h⟩, AtAll.zero⟩, h.sub (List.nil_sublist _)⟩
  refine zN <| cF rfl <| cK <| eN <| cR <| zV (v_loadN rfl rfl many_122 rfl allAt) rfl <| zV (v_build rfl rfl zero_120 plc_120 rfl) rfl <| zW many_122 rfl rfl <| zW many_120 rfl rfl <| zN <| cE <| WE.ret2 (P := Tryz.prog) (.inl rfl) Tryz.results58 (resRow rfl many_122 rfl) (resRow rfl many_120 rfl) <| ?_
  skip
  exact fun w' h => by
    unfold RMsP
    rw [e00, show bodyM (fOf xs 18) ys = .inl (MsL.d (MsL.zero (fOf xs 18))) by unfold bodyM; rw [if_neg (by omega), if_neg (by omega), if_neg h343]]
    exact ⟨MsL.zero (fOf xs 18), [], rfl, rfl, MsAll.zero _, h.sub (List.nil_sublist _)⟩
theorem which34_c (w : World) (ad : Option Addr) (c : Nat) (m : MsL) (hm : m.kind = 3 ∨ m.kind = 4) (hc : msgC m = 0) (hI : m.In) (hC : CellsAt w ad (u8s (msgB m))) (hle : (msgB m).length ≤ c) :
    Calls Tryz.prog 17 #[.slice ad (msgB m).length c] w fun e w' => e = .returned (.agg #[.int .i64 (bareD m).kind, .int .i64 (bareD m).fc, .int .i64 (bareD m).fs]) ∧ Frm (fun _ => False) w w' := by
  have hB := msgB_bys hI hc
  have hl := msgB_le hc
  have hd := decM_msgB hc hI
  have hl19 : 19 ≤ (msgB m).length := by rw [msgB_len]; omega
  obtain ⟨b, o, rfl, hr⟩ := hC (by rw [u8s_len]; omega)
  have h18 : fOf (msgB m) 18 = m.kind := by
    have h := msgB_head (m := m) (ys := []) (i := 18) (by decide)
    rw [List.append_nil, if_neg (by decide), if_neg (by decide), if_neg (by decide)] at h
    unfold fOf
    rw [List.getD_eq_getElem?_getD, h]
    rfl
  have hs : sizeR (msgB m).length (fOf (msgB m)) = (((msgB m).length : Int), 0, 0, ⟨#[]⟩) ∧ leastI (fOf (msgB m) 18) ≤ (msgB m).length := by
    unfold decM at hd
    split at hd
    · cases hd
    rename_i hz
    split at hd
    · cases hd
    rename_i hk
    rcases sizeR_cases (msgB m).length (fOf (msgB m)) with ⟨C, S, d, e, hC⟩ | ⟨e, _, _, _, _, _, _, h7, _⟩
    · rw [e] at hz; exact absurd hC hz
    · rw [e] at hk ⊢
      have hk' : lenI (fOf (msgB m)) = (msgB m).length := Decidable.of_not_not hk
      rw [hk'] at h7 ⊢
      exact ⟨rfl, h7⟩
  refine enter Tryz.func17 rfl Tryz.ntmps17 rfl (St.start (fun _ => False) w) ?_
  refine cR <| WL.alloc rfl zero_51 (.none rfl) rfl rfl <| ?_
  intro g2 hg2
  refine zR <| zM rfl <| zK ck_58 rfl <| ?_
  intro w1 hS
  refine (RDec34_c w1 b o c (msgB m) ⟨(hS.rng (fun _ h => h) _ _ _ hr), hB, hle⟩ (by omega) hs.1 hl19 (by rw [h18]; exact hm) hs.2).mono ?_
  intro e w' h
  unfold RMsP at h
  rw [hd] at h
  obtain ⟨m2, K, rfl, e2, hM, hS'⟩ := h
  refine ⟨_, _, rfl, hS.join hS', ?_⟩
  have ek : (bareD m).kind = m2.kind := (by rw [← e2]; rfl)
  have ec : (bareD m).fc = m2.fc := (by rw [← e2]; rfl)
  have es : (bareD m).fs = m2.fs := (by rw [← e2]; rfl)
  refine zM rfl <| zX rfl <| zX rfl <| WL.alloc rfl zero_122 (.none rfl) rfl rfl <| ?_
  intro g3 hg3
  refine WL.alloc rfl zero_120 (.none rfl) rfl rfl ?_
  intro g4 hg4
  refine zW many_122 rfl rfl <| zW many_120 rfl rfl <| zN <| cS <| cR <| zF rfl fld_120_0 <| zL rfl one_3 rfl <| ?_
  refine zV ((v_neq rfl rfl rfl).f ((by decide))) rfl ?_
  refine zN <| cF rfl <| cK <| eN <| cR <| zF rfl fld_122_0 <| zL rfl one_3 rfl <| zF rfl fld_122_8 <| zV (v_fieldAddr rfl rfl fld_120_0) rfl <| zL rfl one_3 rfl <| zF rfl fld_122_8 <| zV (v_fieldAddr rfl rfl fld_120_1) rfl <| zL rfl one_3 rfl <| ?_
  refine zV (v_buildA rfl rfl zero_51 Tryz.underlying51 sz_3 rfl) rfl <| zW many_51 rfl rfl <| zN <| cE <| tR Tryz.results17 (resRow rfl many_51 rfl) <| ?_
  exact fun w' h => ⟨by rw [ek, ec, es]; rfl, h.frm⟩
theorem which_at {w : World} {fs : List EfL} {E K : List Ent} {ad : Option Addr} {c : Nat} {x : EfL} (hV : EfsV ad c fs E K) (hx : x ∈ fs) (hK : ∀ e ∈ K, e.holds w) : CellsAt w x.ad (u8s x.bs) ∧ x.bs.length ≤ x.cap := by
  obtain ⟨⟨E2, h1, h2⟩⟩ := hV.2 x hx
  exact ⟨h1.cellsAt fun e he => hK e (h2 e he), by have := h1.len.2; exact this⟩
def Sent34 (bs : List Int) : Prop := ∃ m : MsL, (m.kind = 3 ∨ m.kind = 4) ∧ msgC m = 0 ∧ m.In ∧ bs = msgB m
theorem which34_x (w : World) (ad : Option Addr) (c : Nat) (bs : List Int) (h : Sent34 bs) (hC : CellsAt w ad (u8s bs)) (hle : bs.length ≤ c) :
    Calls Tryz.prog 17 #[.slice ad bs.length c] w fun e w' => e = .returned (.agg #[.int .i64 (whichD bs).1, .int .i64 (whichD bs).2.1, .int .i64 (whichD bs).2.2]) ∧ Frm (fun _ => False) w w' := by
  obtain ⟨m, hm, hc, hI, rfl⟩ := h
  rw [which_msg hc hI]
  exact which34_c w ad c m hm hc hI hC hle
theorem sent_note {C S : Int} {d : ByteArray} (hC : 1 ≤ C ∧ C ≤ 255) (hS : 0 ≤ S ∧ S ≤ 255) (hd : d.size ≤ 4075) : Sent34 (msgB (noteM C S d)) := ⟨_, .inl rfl, noteM_code hC hS hd, noteM_in' hC hS hd, rfl⟩
theorem sent_kas : Sent34 (msgB (MsL.zero 4)) := ⟨_, .inr rfl, ka_code, zeroM_in ⟨by decide, by decide⟩, rfl⟩

def sG (h b : Int) (c : CnM) (now D0 D1 D3 : Int) : Se := ⟨65000, 5, 65001, h, 10, b, c, CnM.zero, now, [D0, D1, -1, D3, -1]⟩
theorem dueV_on {now : Int} {n : Nat} {l : Int} (h0 : 0 ≤ now) (h1 : now ≤ 1000) (h2 : 0 ≤ l) (h3 : l ≤ 65535) : dueV now n l = now + l := by
  unfold dueV maxT
  rw [if_neg (by omega)]
  omega
theorem first5 {D0 D1 D3 T : Int} {n : Nat} {t : Int} (h : [D0, D1, -1, D3, -1][n]? = some t) (h0 : 0 ≤ t) (hT : t ≤ T) (a0 : n ≠ 0 → 0 ≤ D0 → ltp ((n : Int), t) (0, D0)) (a1 : n ≠ 1 → 0 ≤ D1 → ltp ((n : Int), t) (1, D1)) (a3 : n ≠ 3 → 0 ≤ D3 → ltp ((n : Int), t) (3, D3)) : FirstD [D0, D1, -1, D3, -1] T n t :=
  ⟨h, h0, hT, fun k y hk hy hy0 => by
    match k, hk, hy with
    | 0, hk, hy => obtain rfl := Option.some.inj hy; exact a0 (fun e => hk e.symm) hy0
    | 1, hk, hy => obtain rfl := Option.some.inj hy; exact a1 (fun e => hk e.symm) hy0
    | 2, _, hy => obtain rfl := Option.some.inj hy; omega
    | 3, hk, hy => obtain rfl := Option.some.inj hy; exact a3 (fun e => hk e.symm) hy0
    | 4, _, hy => obtain rfl := Option.some.inj hy; omega⟩
theorem none5 {h b : Int} {c : CnM} {now D0 D1 D3 T : Int} {es : List EfD} {s' : Se} (hr : TickR T (sG h b c now D0 D1 D3) es s') (h0 : D0 < 0 ∨ T < D0) (h1 : D1 < 0 ∨ T < D1) (h3 : D3 < 0 ∨ T < D3) : es = [] ∧ s' = sG h b c T D0 D1 D3 :=
  hr.none fun x hx => by
    rcases List.mem_cons.1 hx with rfl | hx
    · exact h0
    rcases List.mem_cons.1 hx with rfl | hx
    · exact h1
    rcases List.mem_cons.1 hx with rfl | hx
    · left; decide
    rcases List.mem_cons.1 hx with rfl | hx
    · exact h3
    · left
      simp at hx
      omega
def kaE (n : Int) : EfD := ⟨2, n, msgB (MsL.zero 4), (MsL.zero 0).d⟩
theorem sG_keep {h H j now K T : Int} {es : List EfD} {s' : Se} (hr : TickR T (sG h 2 (cn5 H j) now (-1) H K) es s') (h0 : 0 ≤ now) (hT : now < T) (hT1 : T ≤ 1000) (hH : T < H) (hH3 : 3 ≤ H) (hH2 : H ≤ 65535) (hK : T ≤ K) :
    (T < K ∧ es = [] ∧ s' = sG h 2 (cn5 H j) T (-1) H K) ∨ (T = K ∧ es = [kaE 0] ∧ s' = sG h 2 (cn5 H j) T (-1) H (T + H.tdiv 3)) := by
  have h3 := tdiv3 (x := H) (by omega) hH2
  by_cases hlt : T < K
  · left
    obtain ⟨h1, h2⟩ := none5 hr (.inl (by decide)) (.inr hH) (.inr hlt)
    exact ⟨hlt, h1, h2⟩
  · right
    have e : T = K := by omega
    subst e
    have hF : FirstD (sG h 2 (cn5 H j) now (-1) H T).D T 3 T := first5 rfl (by omega) (Int.le_refl _) (fun _ h => absurd h (by decide)) (fun _ _ => .inl (by dsimp only; omega)) (fun h => absurd rfl h)
    obtain ⟨es', rfl, hr'⟩ := hr.first hF
    have e1 : fireS (sG h 2 (cn5 H j) now (-1) H T) 3 T = (sG h 2 (cn5 H j) T (-1) H (T + H.tdiv 3), [kaE 0]) := by
      refine Prod.ext ?_ (sendE_ok ka_code)
      show Se.kept (sG h 2 (cn5 H j) T (-1) H (-1)) 0 = _
      refine (kept_on ?_).trans ?_
      · show H ≠ 0; omega
      · show (⟨65000, 5, 65001, h, 10, 2, cn5 H j, CnM.zero, T, [-1, H, -1, dueV T 3 (H.tdiv 3), -1]⟩ : Se) = _
        rw [dueV_on (by omega) hT1 h3.1 h3.2]
        rfl
    rw [e1] at hr' ⊢
    have hq : 1 ≤ H.tdiv 3 := by
      rw [Int.tdiv_eq_ediv_of_nonneg (by omega)]
      omega
    obtain ⟨h1, h2⟩ := none5 hr' (.inl (by decide)) (.inr hH) (.inr (by omega))
    subst h1
    exact ⟨rfl, rfl, h2⟩
def lostE (C : Int) : List EfD := [⟨2, 0, msgB (noteM C 0 ⟨#[]⟩), (MsL.zero 0).d⟩, ef 3 0, ef 5 0]
theorem sG_lost {h H j now K : Int} {es : List EfD} {s' : Se} (hr : TickR H (sG h 2 (cn5 H j) now (-1) H K) es s') (h0 : 0 ≤ now) (hT : now < H) (hT1 : H ≤ 1000) (hK : H ≤ K) :
    es = lostE 4 ∧ s' = sG h 2 CnM.zero H (H + 10) (-1) (-1) := by
  have hF : FirstD (sG h 2 (cn5 H j) now (-1) H K).D H 1 H := first5 rfl (by omega) (Int.le_refl _) (fun _ h => absurd h (by decide)) (fun h => absurd rfl h) (fun _ _ => by
    unfold ltp; dsimp only; omega)
  obtain ⟨es', rfl, hr'⟩ := hr.first hF
  have e1 : fireS (sG h 2 (cn5 H j) now (-1) H K) 1 H = (sG h 2 CnM.zero H (H + 10) (-1) (-1), lostE 4) := by
    refine Prod.ext ?_ ?_
    · show Se.gone (sG h 2 (cn5 H j) H (-1) (-1) K) 0 = _
      refine (gone_yes (by show (2 : Int) ≠ 0; decide) rfl).trans ?_
      show (⟨65000, 5, 65001, h, 10, 2, CnM.zero, CnM.zero, H, [dueV H 0 10, -1, -1, -1, -1]⟩ : Se) = _
      rw [dueV_on (by omega) hT1 (by decide) (by decide)]
      rfl
    · show endE (sG h 2 (cn5 H j) H (-1) (-1) K) 0 4 0 ⟨#[]⟩ = _
      unfold endE
      rw [if_neg (by decide), show sendE ((0 : Nat) : Int) (noteM 4 0 ⟨#[]⟩) = _ from sendE_ok (noteM_code (by decide) (by decide) (Nat.zero_le _))]
      rfl
  rw [e1] at hr' ⊢
  obtain ⟨h1, h2⟩ := none5 hr' (.inr (by omega)) (.inl (by decide)) (.inl (by decide))
  subst h1
  exact ⟨rfl, h2⟩
theorem sG_dial {h b now D T : Int} {es : List EfD} {s' : Se} (hr : TickR T (sG h b CnM.zero now D (-1) (-1)) es s') (h0 : 0 ≤ now) (hT : now < T) (hT1 : T ≤ 1000) (hD : T ≤ D) :
    (T < D ∧ es = [] ∧ s' = sG h b CnM.zero T D (-1) (-1)) ∨ (T = D ∧ es = [ef 1 0] ∧ s' = sG h 1 CnM.zero T (T + 10) (-1) (-1)) := by
  by_cases hlt : T < D
  · left
    obtain ⟨h1, h2⟩ := none5 hr (.inr hlt) (.inl (by decide)) (.inl (by decide))
    exact ⟨hlt, h1, h2⟩
  · right
    have e : T = D := by omega
    subst e
    have hF : FirstD (sG h b CnM.zero now T (-1) (-1)).D T 0 T := first5 rfl (by omega) (Int.le_refl _) (fun h => absurd rfl h) (fun _ h => absurd h (by decide)) (fun _ h => absurd h (by decide))
    obtain ⟨es', rfl, hr'⟩ := hr.first hF
    have e1 : fireS (sG h b CnM.zero now T (-1) (-1)) 0 T = (sG h 1 CnM.zero T (T + 10) (-1) (-1), [ef 1 0]) := by
      refine Prod.ext ?_ rfl
      show (⟨65000, 5, 65001, h, 10, 1, CnM.zero, CnM.zero, T, [dueV T 0 10, -1, -1, -1, -1]⟩ : Se) = _
      rw [dueV_on (by omega) hT1 (by decide) (by decide)]
      rfl
    rw [e1] at hr' ⊢
    obtain ⟨h1, h2⟩ := none5 hr' (.inr (by omega)) (.inl (by decide)) (.inl (by decide))
    subst h1
    exact ⟨rfl, rfl, h2⟩
def kaN (es : List EfD) : Nat := es.countP fun e => decide (e.kind = 2 ∧ (whichD e.bs).1 = 4)
theorem kaN_nil : kaN [] = 0 := rfl
theorem kaN_app (xs : List EfD) (e : EfD) : kaN (xs ++ [e]) = kaN xs + (if e.kind = 2 ∧ (whichD e.bs).1 = 4 then 1 else 0) := by
  unfold kaN
  rw [List.countP_append, List.countP_cons, List.countP_nil]
  by_cases h : e.kind = 2 ∧ (whichD e.bs).1 = 4
  · rw [if_pos h, decide_eq_true h]; rfl
  · rw [if_neg h, decide_eq_false h]; rfl
theorem kaN_ka : kaN [kaE 0] = 1 := by
  have := kaN_app [] (kaE 0)
  rw [if_pos ⟨rfl, congrArg Prod.fst which_ka⟩] at this
  exact this
theorem kaN_lost : kaN (lostE 4) = 0 := by
  have h1 := kaN_app [] (⟨2, 0, msgB (noteM 4 0 ⟨#[]⟩), (MsL.zero 0).d⟩ : EfD)
  rw [if_neg (fun h => by
    have h2 : (3 : Int) = 4 := (congrArg Prod.fst (which_note (C := 4) (S := 0) (d := ⟨#[]⟩) (by decide) (by decide) (by decide))).symm.trans h.2
    exact absurd h2 (by decide))] at h1
  have h2 := kaN_app [(⟨2, 0, msgB (noteM 4 0 ⟨#[]⟩), (MsL.zero 0).d⟩ : EfD)] (ef 3 0)
  rw [if_neg (fun h => absurd h.1 (by decide))] at h2
  have h3 := kaN_app [(⟨2, 0, msgB (noteM 4 0 ⟨#[]⟩), (MsL.zero 0).d⟩ : EfD), ef 3 0] (ef 5 0)
  rw [if_neg (fun h => absurd h.1 (by decide))] at h3
  exact h3.trans (h2.trans h1)
theorem kaN_dial : kaN [ef 1 0] = 0 := by
  have h1 := kaN_app [] (ef 1 0)
  rw [if_neg (fun h => absurd h.1 (by decide))] at h1
  exact h1
def SentOk (es : List EfD) : Prop := ∀ e ∈ es, e.kind = 2 → Sent34 e.bs
theorem sent_lost : SentOk (lostE 4) := fun e he hk => by
  rcases List.mem_cons.1 he with rfl | he
  · exact sent_note (by decide) (by decide) (by decide)
  rcases List.mem_cons.1 he with rfl | he
  · exact absurd hk (by decide)
  · obtain rfl := List.mem_singleton.1 he
    exact absurd hk (by decide)
theorem sent_ka : SentOk [kaE 0] := fun e he _ => by
  obtain rfl := List.mem_singleton.1 he
  exact sent_kas
def HoI (h H t n : Int) (s : Se) : Prop :=
  (t ≤ H ∧ ∃ K, s = sG h 2 (cn5 H 9) (t - 1) (-1) H K ∧ K = n * H.tdiv 3 + H.tdiv 3 ∧ n * H.tdiv 3 ≤ t - 1 ∧ t ≤ K) ∨
  (H < t ∧ ∃ b D, s = sG h b CnM.zero (t - 1) D (-1) (-1) ∧ (b = 1 ∨ b = 2) ∧ t ≤ D ∧ n * H.tdiv 3 ≤ H - 1 ∧ H - 1 < n * H.tdiv 3 + H.tdiv 3)
theorem hoI_now {h H t n : Int} {s : Se} (hI : HoI h H t n s) : s.now = t - 1 := by
  rcases hI with ⟨_, K, rfl, _⟩ | ⟨_, b, D, rfl, _⟩ <;> rfl
theorem hoI_fit {h H t n : Int} {s : Se} (hI : HoI h H t n s) (hH : 3 ≤ H) : s.Fit := fun k hk => by
  rcases hI with ⟨_, K, rfl, _⟩ | ⟨_, b, D, rfl, _⟩
  · match k, hk with
    | 0, _ => exact .inr hH
    | 1, _ => exact .inl rfl
  · match k, hk with
    | 0, _ => exact .inl rfl
    | 1, _ => exact .inl rfl
theorem hoStep {h H t n : Int} {s s' : Se} {es : List EfD} (hI : HoI h H t n s) (ht : 1 ≤ t ∧ t ≤ 500) (hH : 3 ≤ H ∧ H ≤ 100) (hr : TickR t s es s') :
    HoI h H (t + 1) (n + kaN es) s' ∧ SentOk es ∧ es.length ≤ 3 ∧ (max (max s'.base s'.c0.st) s'.c1.st = 5 ↔ t < H) := by
  have e1 : t + 1 - 1 = t := by omega
  have hk : 1 ≤ H.tdiv 3 := by rw [Int.tdiv_eq_ediv_of_nonneg (by omega)]; omega
  rcases hI with ⟨h1, K, rfl, h2, h3, h4⟩ | ⟨h1, b, D, rfl, h2, h3, h4, h5⟩
  · by_cases hlt : t < H
    · rcases sG_keep hr (by omega) (by omega) (by omega) hlt hH.1 (by omega) h4 with ⟨a1, rfl, rfl⟩ | ⟨a1, rfl, rfl⟩
      · refine ⟨.inl ⟨by omega, K, by rw [e1], ?_, ?_, by omega⟩, fun e he _ => (by cases he), Nat.zero_le _, ?_⟩
        · rw [kaN_nil, Int.natCast_zero, Int.add_zero]; exact h2
        · rw [kaN_nil, Int.natCast_zero, Int.add_zero]; omega
        · exact ⟨fun _ => hlt, fun _ => rfl⟩
      · refine ⟨.inl ⟨by omega, t + H.tdiv 3, by rw [e1], ?_, ?_, by omega⟩, sent_ka, by decide, ?_⟩
        · rw [kaN_ka, show ((1 : Nat) : Int) = 1 from rfl, Int.add_mul, Int.one_mul]; omega
        · rw [kaN_ka, show ((1 : Nat) : Int) = 1 from rfl, Int.add_mul, Int.one_mul]; omega
        · exact ⟨fun _ => hlt, fun _ => rfl⟩
    · obtain rfl : t = H := by omega
      obtain ⟨rfl, rfl⟩ := sG_lost hr (by omega) (by omega) (by omega) h4
      refine ⟨.inr ⟨by omega, 2, t + 10, by rw [e1], .inr rfl, by omega, ?_, ?_⟩, sent_lost, Nat.le_refl _, ?_⟩
      · rw [kaN_lost, Int.natCast_zero, Int.add_zero]; omega
      · rw [kaN_lost, Int.natCast_zero, Int.add_zero]; omega
      · exact ⟨fun hh => absurd hh (by show ¬ max (max (2 : Int) 0) 0 = 5; decide), fun hh => absurd hh hlt⟩
  · rcases sG_dial hr (by omega) (by omega) (by omega) h3 with ⟨a1, rfl, rfl⟩ | ⟨a1, rfl, rfl⟩
    · refine ⟨.inr ⟨by omega, b, D, by rw [e1], h2, by omega, ?_, ?_⟩, fun e he _ => (by cases he), Nat.zero_le _, ?_⟩
      · rw [kaN_nil, Int.natCast_zero, Int.add_zero]; exact h4
      · rw [kaN_nil, Int.natCast_zero, Int.add_zero]; exact h5
      · refine ⟨fun hh => absurd hh ?_, fun hh => by omega⟩
        show ¬ max (max b 0) 0 = 5
        omega
    · refine ⟨.inr ⟨by omega, 1, t + 10, by rw [e1], .inl rfl, by omega, ?_, ?_⟩, fun e he hk => (by obtain rfl := List.mem_singleton.1 he; exact absurd hk (by decide)), by decide, ?_⟩
      · rw [kaN_dial, Int.natCast_zero, Int.add_zero]; exact h4
      · rw [kaN_dial, Int.natCast_zero, Int.add_zero]; exact h5
      · refine ⟨fun hh => absurd hh (by show ¬ max (max (1 : Int) 0) 0 = 5; decide), fun hh => by omega⟩
structure HoS where
  t : Int
  n : Int
  s : Se
  p : PeL
  E0 : List Ent
  E1 : List Ent
  d : Ck

set_option maxHeartbeats 4000000 in
theorem PeerHolds_all (w0 : World) (hG : GF w0) (hZ : GZ w0) (am at_ aq : Int) : Calls Tryz.prog 5 #[.int .i64 am, .int .i64 at_, .int .i64 aq] w0 fun e w' => e = .returned (.bool true) ∧ Frm (fun _ => False) w0 w' := by
  have hkI : (MsL.zero 4).In := zeroM_in ⟨by decide, by decide⟩
  have hkl : (msgB (MsL.zero 4)).length ≤ 4096 := msgB_le ka_code
  refine enter Tryz.func5 rfl Tryz.ntmps5 rfl (St.start (fun _ => False) w0) ?_
  refine cR <| zA rfl <| zN <| cS <| cR <| zK ck_9 rfl <| ?_
  intro w hS
  refine Calls.then (Head10_c w (hG.keep (fun h => h) hS) (hZ.keep (fun h => h) hS)) hS ?_
  refine zV (v_not rfl rfl rfl) rfl <| zN <| cF rfl <| cK <| eN <| cR <| zM rfl <| ?_
  refine zV (v_and rfl rfl rfl (mask_i64' (i := 6) (m := 64) (by decide) (by decide) (by decide))) rfl ?_
  refine zV (v_add rfl rfl rfl (w_i64 (by omega) (by omega))) rfl ?_
  refine zA rfl ?_
  generalize hmm : 3 + am % 64 = mm
  have hm : 3 ≤ mm ∧ mm ≤ 66 := (by omega)
  refine zR <| zM rfl <| ?_
  refine zV (v_and rfl rfl rfl (mask_i64' (i := 6) (m := 64) (by decide) (by decide) (by decide))) rfl ?_
  refine zV (v_add rfl rfl rfl (w_i64 (by omega) (by omega))) rfl ?_
  refine zA rfl ?_
  generalize htt : 3 + at_ % 64 = tt
  have ht0 : 3 ≤ tt ∧ tt ≤ 66 := (by omega)
  refine zR <| zK ck_12 rfl <| ?_
  intro w hS
  refine Calls.then (lconf_c w) hS ?_
  refine WL.alloc rfl zero_44 (.none rfl) rfl rfl ?_
  intro g7 hg7
  refine zW many_44 rfl rfl <| zR <| zM rfl <| zF rfl fld_44_3 <| zO one_3 rfl rfl <| WL.as (L' := [.row g7 (confL 65000 5 65001 mm 10)]) rfl <| ?_
  have hok : confOk 65000 5 65001 mm 10 := ⟨by decide, by decide, by decide, .inr ⟨by omega, by omega⟩, by decide⟩
  refine zR <| zV (v_loadN rfl rfl many_44 rfl allAt) rfl <| zK ck_11 rfl <| ?_
  intro w1 hS
  refine (new_c w0 w1 [.row g7 (confL 65000 5 65001 mm 10)] hS 65000 5 65001 mm 10 hok ⟨by decide, by decide⟩).mono ?_
  rintro e w' ⟨g, p, d, rfl, hA, hS'⟩
  refine ⟨_, .row g p.cells :: ([] ++ ([] ++ d.L p.gC 0 [])), rfl, St.dropK (L := .row g p.cells :: ([] ++ ([] ++ d.L p.gC 0 [.row g7 (confL 65000 5 65001 mm 10)]))) [.row g7 (confL 65000 5 65001 mm 10)] hS', ?_⟩
  refine zM rfl <| zX rfl <| zX rfl <| zA rfl <| zA rfl <| zN <| cS <| cR <| zM rfl <| ?_
  refine zV ((v_neq rfl rfl rfl).f ((by decide))) rfl ?_
  refine zN <| cF rfl <| cK <| eN <| cR <| zM rfl <| zK ck_13 rfl <| ?_
  intro w1 hS
  refine (start_new w0 w1 g p [] [] [] d hA hS (by decide)).mono ?_
  rintro e w' ⟨ad2, c2, fs2, EF2, KF2, p2, E02, E12, d2, rfl, hV2, he2, hA2, hS'⟩
  refine ⟨_, .row g p2.cells :: (E02 ++ (E12 ++ d2.L p2.gC 0 [])), rfl, St.dropK (L := EF2 ++ (KF2 ++ (.row g p2.cells :: (E02 ++ (E12 ++ d2.L p2.gC 0 []))))) (EF2 ++ KF2) hS', ?_⟩
  refine zR <| zM rfl <| zK ck_14 rfl <| ?_
  intro w1 hS
  refine (up_new w0 w1 g p2 E02 E12 [] d2 hA2 hG hS hok).mono ?_
  rintro e w' ⟨ad3, c3, fs3, EF3, KF3, p3, E03, E13, d3, rfl, hV3, he3, hA3, hS'⟩
  refine ⟨_, .row g p3.cells :: (E03 ++ (E13 ++ d3.L p3.gC 0 [])), rfl, St.dropK (L := EF3 ++ (KF3 ++ (.row g p3.cells :: (E03 ++ (E13 ++ d3.L p3.gC 0 []))))) (EF3 ++ KF3) hS', ?_⟩
  have hoc : msgC (openM 65001 tt 9) = 0 := openM_code (by decide) (.inr ⟨by omega, by omega⟩) (by decide)
  have hoI : (openM 65001 tt 9).In := openM_in' (by decide) ⟨by omega, by omega⟩ ⟨by decide, by decide⟩
  have hol : (msgB (openM 65001 tt 9)).length ≤ 4096 := msgB_le hoc
  generalize hHH : min mm tt = H
  have hH : 3 ≤ H ∧ H ≤ 66 := (by omega)
  have f1 : feedS (sB 65000 5 65001 mm 10) 0 (msgB (openM 65001 tt 9)) = (sC 65000 5 65001 mm 10 H 9, [⟨2, 0, msgB (MsL.zero 4), (MsL.zero 0).d⟩]) := (by
    rw [← hHH]
    exact feed_sB_ok hoc hoI (by decide) (by omega) (by omega))
  have f2 : feedS (sC 65000 5 65001 mm 10 H 9) 0 (msgB (MsL.zero 4)) = (sD 65000 5 65001 mm 10 H 9, [ef 4 0]) := feed_sC hH.1 (by omega)
  refine zR <| zM rfl <| zM rfl <| zK ck_22 rfl <| ?_
  intro w1 hS
  refine (lopen_c w1 9 tt ⟨by decide, by decide⟩ ⟨by omega, by omega⟩ (hG.keep (fun h => h) hS)).mono ?_
  rw [if_pos hoc]
  rintro e w' ⟨_, rfl, ad4, c4, E4, rfl, hV4, hS'⟩
  refine ⟨_, .row g p3.cells :: (E03 ++ (E13 ++ d3.L p3.gC 0 E4)), rfl, (hS.join hS').permK, ?_⟩
  refine zK ck_15 rfl ?_
  intro w1 hS
  have hf := feed0_c w0 w1 g p3 (sB 65000 5 65001 mm 10) E03 E13 E4 d3 hA3 hG hZ hS ad4 c4 (msgB (openM 65001 tt 9)) (fun w h => hV4.cellsAt (fun e he => h.holds e (by simp [Ck.L, clkL, he]))) (msgB_bys hoI hoc) (by omega) ⟨rfl, rfl, rfl⟩ (by show (0 : Int) ≤ 3000000000000000000; decide)
  rw [f1] at hf
  refine hf.mono ?_
  rintro e w' ⟨ad5, c5, fs5, EF5, KF5, p5, E05, E15, d5, rfl, hV5, he5, hA5, hS'⟩
  refine ⟨_, .row g p5.cells :: (E05 ++ (E15 ++ d5.L p5.gC 0 [])), rfl, St.dropK (L := EF5 ++ (KF5 ++ (.row g p5.cells :: (E05 ++ (E15 ++ d5.L p5.gC 0 E4))))) (EF5 ++ (KF5 ++ E4)) hS', ?_⟩
  refine zR <| zM rfl <| zV (v_build rfl rfl zero_39 plc_39 rfl) rfl <| zK ck_23 rfl <| ?_
  intro w1 hS
  refine (lbytes_c w1 (MsL.zero 4) (zero4_at _) hkI (hG.keep (fun h => h) hS) (Nat.zero_le _) (Nat.zero_le _)).mono ?_
  rw [if_pos ka_code]
  rintro e w' ⟨_, rfl, ad6, c6, E6, rfl, hV6, hS'⟩
  refine ⟨_, .row g p5.cells :: (E05 ++ (E15 ++ d5.L p5.gC 0 E6)), rfl, (hS.join hS').permK, ?_⟩
  refine zK ck_15 rfl ?_
  intro w1 hS
  have hf := feed0_c w0 w1 g p5 (sC 65000 5 65001 mm 10 H 9) E05 E15 E6 d5 hA5 hG hZ hS ad6 c6 (msgB (MsL.zero 4)) (fun w h => hV6.cellsAt (fun e he => h.holds e (by simp [Ck.L, clkL, he]))) (msgB_bys hkI ka_code) (by omega) ⟨rfl, rfl, rfl⟩ (by show (1 : Int) ≤ 3000000000000000000; decide)
  rw [f2] at hf
  refine hf.mono ?_
  rintro e w' ⟨ad7, c7, fs7, EF7, KF7, p7, E07, E17, d7, rfl, hV7, he7, hA7, hS'⟩
  refine ⟨_, .row g p7.cells :: (E07 ++ (E17 ++ d7.L p7.gC 0 [])), rfl, St.dropK (L := EF7 ++ (KF7 ++ (.row g p7.cells :: (E07 ++ (E17 ++ d7.L p7.gC 0 E6))))) (EF7 ++ (KF7 ++ E6)) hS', ?_⟩
  refine zR <| zM rfl <| zM rfl <| zV (v_min rfl rfl rfl) rfl <| zA rfl <| ?_
  rw [hHH]
  refine zR <| zM rfl <| ?_
  refine zV (v_and rfl rfl rfl (mask_i64' (i := 7) (m := 128) (by decide) (by decide) (by decide))) rfl ?_
  refine zA rfl ?_
  generalize hqq : aq % 128 = qq
  have hq1 : 0 ≤ qq ∧ qq ≤ 127 := (by omega)
  have hk0 : 1 ≤ H.tdiv 3 := (by rw [Int.tdiv_eq_ediv_of_nonneg (by omega)]; omega)
  have hk1 : H.tdiv 3 ≤ 100 := (by rw [Int.tdiv_eq_ediv_of_nonneg (by omega)]; omega)
  refine zR <| zA rfl <| zN <| cS <| cR <| zA rfl <| zN <| cB <| ?_
  refine WC.loop (fun x : HoS => [(12, .int .i64 x.t), (11, .int .i64 x.n), (10, .int .i64 H), (8, .pointer (some ⟨g, 0, none⟩)), (2, .int .i64 qq)]) (fun x => .row g x.p.cells :: (x.E0 ++ (x.E1 ++ x.d.L x.p.gC x.s.now []))) (fun x => (1 ≤ x.t ∧ x.t ≤ qq + 1) ∧ (0 ≤ x.n ∧ x.n ≤ 3 * x.t) ∧ HoI mm H x.t x.n x.s ∧ PeAt g x.p x.s x.E0 x.E1 x.d) (fun x => (qq + 1 - x.t).toNat) ⟨1, 0, sD 65000 5 65001 mm 10 H 9, p7, E07, E17, d7⟩ ⟨by dsimp only; omega, by dsimp only; omega, .inl ⟨by dsimp only; omega, H.tdiv 3, rfl, by dsimp only; omega, by dsimp only; omega, hk0⟩, hA7⟩ (.cons rfl (.cons rfl (.cons rfl (.cons rfl (.cons rfl .nil))))) (.refl _) ?_
  rintro ⟨t, n, s, p2, E02, E12, d2⟩ ⟨ht, hn, hI, hA2⟩
  dsimp only at ht hn hI hA2
  dsimp only
  refine cS <| cR <| zM rfl <| zM rfl <| ?_
  refine zT (v_leq rfl rfl rfl) rfl (fun h53 => ?_) (fun h53 => ?_)
  refine zN <| cT rfl <| cK <| eN <| cS <| cB <| cR <| zM rfl <| zM rfl <| zK ck_24 rfl <| ?_
  intro w1 hS
  refine (tick_c w0 w1 g p2 s E02 E12 [] d2 hA2 hG hS (hoI_fit hI hH.1) t ⟨by omega, by omega⟩).mono ?_
  rintro e w' ⟨es, s', hR, ad3, c3, fs, EF, KF, p3, E03, E13, d3, rfl, hV3, he3, hA3, hS'⟩
  have hnw := hoI_now hI
  rw [tickT_eq (s := s) (by omega) (by omega) (by omega)] at hR
  obtain ⟨hI3, hso, hl3, hst3⟩ := hoStep hI (by omega) (by omega) hR
  have hlf : fs.length ≤ 3 := (by rw [efs_len he3]; exact hl3)
  have hb3 : p3.base = s'.base := (congrArg Se.base hA3.eq :)
  have hs3 : p3.c0.st = s'.c0.st := (congrArg (fun z : Se => z.c0.st) hA3.eq :)
  have hu3 : p3.c1.st = s'.c1.st := (congrArg (fun z : Se => z.c1.st) hA3.eq :)
  rw [← he3] at hI3 hso
  refine ⟨_, _, rfl, hS', ?_⟩
  refine zA rfl <| zN <| cS <| cR <| zM rfl <| zV (v_len_slice rfl rfl Tryz.underlying46) rfl <| zM rfl <| zN <| cB <| ?_
  refine WC.loop (fun k : Nat => [(61, .int .i64 k), (60, .int .i64 fs.length), (59, .slice ad3 fs.length c3), (12, .int .i64 t), (11, .int .i64 (n + kaN ((fs.take k).map EfL.d))), (10, .int .i64 H), (8, .pointer (some ⟨g, 0, none⟩)), (2, .int .i64 qq)]) (fun _ => EF ++ (KF ++ (.row g p3.cells :: (E03 ++ (E13 ++ d3.L p3.gC s'.now []))))) (fun k => k ≤ fs.length ∧ kaN ((fs.take k).map EfL.d) ≤ k) (fun k => fs.length - k) 0 ⟨Nat.zero_le _, Nat.le_refl _⟩ (.cons rfl (.cons rfl (.cons rfl (.cons rfl (.cons (by rw [List.take_zero, List.map_nil, kaN_nil, Int.natCast_zero, Int.add_zero]; rfl) (.cons rfl (.cons rfl (.cons rfl .nil)))))))) (.refl _) ?_
  rintro k ⟨hk, hkn⟩
  refine cR ?_
  refine zT (v_lss rfl rfl rfl) rfl (fun h62 => ?_) (fun h62 => ?_)
  refine zN <| cS <| cT rfl <| cK <| eN <| cS <| cB <| cR <| ?_
  obtain ⟨x, hx⟩ : ∃ x, fs[k]? = some x := ⟨fs[k]'(by omega), List.getElem?_eq_getElem _⟩
  obtain ⟨b1, o1, ea1, r1⟩ := hV3.1.src2 (by rw [efsL_len]; omega)
  have hxb := hso x.d (List.mem_map_of_mem (List.mem_of_getElem? hx))
  have htk : (fs.take (k + 1)).map EfL.d = (fs.take k).map EfL.d ++ [x.d] := (by
    rw [List.take_add_one, hx, List.map_append]; rfl)
  have hka := kaN_app ((fs.take k).map EfL.d) x.d
  rw [← htk] at hka
  refine zV ((v_indexAddr (b := b1) (off := o1) (lo := k) rfl (by show some (Value.slice ad3 _ _) = _; rw [ea1]) rfl Tryz.underlying46 sz_54 rfl (by omega))) rfl ?_
  refine zV (v_loadN rfl rfl many_54 rfl (fun w hS => ef_kind (r1 w fun e he => hS.holds e (by simp [he])) hx)) rfl ?_
  refine WL.alloc rfl zero_54 (.none rfl) rfl rfl ?_
  intro g15 hg15
  refine zW many_54 rfl rfl <| zR <| zF rfl fld_54_0 <| zV (v_load1 rfl rfl one_3 (cellAt (v := .int .i64 x.kind) rfl)) rfl <| ?_
  refine zT (v_eql rfl rfl rfl) rfl (fun h67 => ?_) (fun h67 => ?_)
  refine zM rfl <| zS (v_fieldAddr0 rfl rfl fld_54_2) rfl <| zS (v_load1 rfl rfl one_25 (cellAt (v := .slice x.ad x.bs.length x.cap) rfl)) rfl <| WL.call rfl rfl ck_17 (.some rfl rfl rfl) rfl rfl <| ?_
  intro w hS
  refine Calls.then (by have h := which_at (w := w) hV3 (x := x) (List.mem_of_getElem? hx) (fun e he => hS.holds e (by simp [he])); exact which34_x w x.ad x.cap x.bs (hxb h67) h.1 h.2) hS ?_
  refine zS (v_indexV (lo := 0) rfl rfl rfl Tryz.underlying51 one_3 rfl (by omega) rfl) rfl ?_
  refine WL.test (v_eql rfl rfl rfl) (.some rfl rfl rfl) rfl rfl (fun h73 => ?_) (fun h73 => ?_)
  refine zP rfl <| zN <| cT rfl <| WC.region <| zM rfl <| ?_
  refine zV (v_add rfl rfl rfl (show _ = n + kaN ((fs.take (k + 1)).map EfL.d) from (by rw [if_pos ⟨h67, h73⟩] at hka; rw [hka]; exact (w_i64 (by omega) (by omega)).trans (by omega)))) rfl ?_
  refine zA rfl <| WL.nil <| eY <| eN <| WC.region <| ?_
  refine zV (v_add rfl rfl rfl (show _ = ((k + 1 : Nat) : Int) from (w_i64 (by omega) (by omega)).trans (by omega))) rfl ?_
  refine zM rfl <| WL.nil <| ?_
  exact WE.next (k + 1) (by omega) ⟨by omega, by rw [if_pos ⟨h67, h73⟩] at hka; omega⟩ (.cons rfl (.cons rfl (.cons rfl (.cons rfl (.cons rfl (.cons rfl (.cons rfl (.cons rfl .nil)))))))) (.cons _ (.refl _))
  refine zP rfl <| zN <| cF rfl <| cK <| eY <| eN <| WC.region <| ?_
  refine zV (v_add rfl rfl rfl (show _ = ((k + 1 : Nat) : Int) from (w_i64 (by omega) (by omega)).trans (by omega))) rfl ?_
  refine zM rfl <| WL.nil <| ?_
  rw [if_neg (fun h => h73 h.2)] at hka
  exact WE.next (k + 1) (by omega) ⟨by omega, by omega⟩ (.cons rfl (.cons rfl (.cons rfl (.cons rfl (.cons (by rw [hka]; rfl) (.cons rfl (.cons rfl (.cons rfl .nil)))))))) (.cons _ (.refl _))
  refine zM rfl ?_
  iterate 5 refine WL.sk rfl ?_
  refine zQ rfl <| zN <| cF rfl <| cK <| eY <| eN <| WC.region <| ?_
  refine zV (v_add rfl rfl rfl (show _ = ((k + 1 : Nat) : Int) from (w_i64 (by omega) (by omega)).trans (by omega))) rfl ?_
  refine zM rfl <| WL.nil <| ?_
  rw [if_neg (fun h => h67 h.1)] at hka
  exact WE.next (k + 1) (by omega) ⟨by omega, by omega⟩ (.cons rfl (.cons rfl (.cons rfl (.cons rfl (.cons (by rw [hka]; rfl) (.cons rfl (.cons rfl (.cons rfl .nil)))))))) (.cons _ (.refl _))
  refine zN <| cS <| cF rfl <| cX <| eX <| eX <| eH <| eN <| cR <| zM rfl <| zK ck_18 rfl <| ?_
  intro w hS
  refine Calls.then (state_c w g p3 (hS.row (g := g))) hS ?_
  refine zV (v_eql rfl rfl rfl) rfl <| zM rfl <| zM rfl <| zV (v_lss rfl rfl rfl) rfl <| ?_
  refine zV ((v_neq_bool rfl rfl rfl Tryz.underlying4).f ((fun hne => hne (decide_eq_decide.2 (by rw [hb3, hs3, hu3]; exact hst3))))) rfl ?_
  refine zN <| cF rfl <| cK <| eY <| eN <| WC.region <| zM rfl <| ?_
  refine zV (v_add rfl rfl rfl (show _ = t + 1 from w_i64 (by omega) (by omega))) rfl ?_
  refine zA rfl <| WL.nil <| ?_
  have hkk : fs.take k = fs := List.take_of_length_le (by omega)
  rw [hkk] at hkn
  refine WE.next ⟨t + 1, n + kaN (fs.map EfL.d), s', p3, E03, E13, d3⟩ (by dsimp only; omega) ⟨by dsimp only; omega, by dsimp only; omega, hI3, hA3⟩ (.cons rfl (.cons (by rw [hkk]; rfl) (.cons rfl (.cons rfl (.cons rfl .nil))))) (List.sublist_append_of_sublist_right (List.sublist_append_right _ _))
  refine zN <| cF rfl <| cX <| eX <| eX <| eH <| eN <| cR <| ?_
  have hmin : 0 ≤ min qq (H - 1) ∧ min qq (H - 1) / H.tdiv 3 = n ∧ min qq (H - 1) ≤ 127 := (by
  rcases hI with ⟨a1, K, _, a2, a3, a4⟩ | ⟨a1, b, D, _, _, _, a4, a5⟩
  · rw [show min qq (H - 1) = qq by omega]
    exact ⟨by omega, quo_of hk0 (by omega) (by omega) (by omega), by omega⟩
  · rw [show min qq (H - 1) = H - 1 by omega]
    exact ⟨by omega, quo_of hk0 (by omega) a4 a5, by omega⟩)
  refine zM rfl <| zM rfl <| zM rfl <| ?_
  refine zV (v_sub rfl rfl rfl (show _ = H - 1 from w_i64 (by omega) (by omega))) rfl ?_
  refine zV (v_min rfl rfl rfl) rfl <| zM rfl <| ?_
  refine zV (v_quoT rfl rfl rfl (by first | decide | omega) (show _ = H.tdiv 3 from w_i64 (by omega) (by omega))) rfl ?_
  refine zV (v_quoT rfl rfl rfl (by first | decide | omega) (show _ = n from (by rw [Int.tdiv_eq_ediv_of_nonneg hmin.1, hmin.2.1]; exact w_i64 (by omega) (by omega)))) rfl ?_
  refine zV ((v_eql rfl rfl rfl).t (rfl)) rfl <| zM rfl <| ?_
  iterate 7 refine WL.sk rfl ?_
  refine zP rfl <| zA rfl <| zN <| cE <| tR Tryz.results5 rfl <| ?_
  exact fun w' h => ⟨rfl, h.frm⟩

end Go.Proofs.YtcmpamnhegndnaaGreatDoor
