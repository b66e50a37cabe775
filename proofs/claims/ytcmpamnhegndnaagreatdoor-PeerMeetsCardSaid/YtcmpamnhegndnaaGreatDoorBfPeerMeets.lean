/- Texts joined: engine, contracts and laws, in the order in which they build. -/
import Derived.Test.YtcmpamnhegndnaaGreatDoorBePeerMeets
namespace Go.Proofs.YtcmpamnhegndnaaGreatDoor
open Go.RowKit

def hearD (s : Se) (n : Nat) (m : MsD) : Se × List EfD :=
  if m.kind = 3 then (s.gone n, closeE s n)
  else if m.kind = 1 ∧ (s.c n).st = 3 then openS s n m.asn m.hold m.id
  else if m.kind = 4 ∧ (s.c n).st = 4 then (s.establish n, estabE s n)
  else if m.kind = 4 ∧ (s.c n).st = 5 then (s.alive n, [])
  else if m.kind = 2 ∧ (s.c n).st = 5 then (s.alive n, [⟨6, n, [], m⟩])
  else (s.gone n, endE s n 5 ((s.c n).st - 2) ⟨#[]⟩)
theorem hearD_eq (s : Se) (n : Nat) (m : MsL) : hearS s n m = hearD s n m.d := rfl
def heardD (n : Nat) : Se → List MsD → Se × List EfD
  | s, [] => (s, [])
  | s, m :: ms => if (s.c n).st = 0 then (s, []) else ((heardD n (hearD s n m).1 ms).1, (hearD s n m).2 ++ (heardD n (hearD s n m).1 ms).2)
def CnM.fed (c : CnM) (x : List MsD × Option (Int × Int × ByteArray) × List Int) : CnM := { c with wait := x.2.2, count := c.count + x.1.length, fc := (fltOf x.2.1).1, fs := (fltOf x.2.1).2.1, fd := (fltOf x.2.1).2.2 }
def Se.fed (s : Se) (n : Nat) (bs : List Int) : Se := s.set n ((s.c n).fed (feedM [] ((s.c n).wait ++ bs)))
def endF (n : Nat) (f : Option (Int × Int × ByteArray)) (y : Se × List EfD) : Se × List EfD :=
  if (y.1.c n).st = 0 then y else match f with
  | none => y
  | some f => (y.1.gone n, y.2 ++ endE y.1 n f.1 f.2.1 f.2.2)
def feedS (s : Se) (n : Nat) (bs : List Int) : Se × List EfD :=
  if (s.c n).st = 0 then (s, []) else endF n (feedM [] ((s.c n).wait ++ bs)).2.1 (heardD n (s.fed n bs) (feedM [] ((s.c n).wait ++ bs)).1)
theorem confirm_now (s : Se) (n : Nat) (h i : Int) : (s.confirm n h i).now = s.now := by
  unfold Se.confirm
  split
  · exact set_now _ _ _
  · rw [kept_now, alive_now]; exact set_now _ _ _
theorem establish_now (s : Se) (n : Nat) : (s.establish n).now = s.now := by
  have h : (s.up5 n).now = s.now := by unfold Se.up5; rw [alive_now]; exact set_now _ _ _
  unfold Se.establish
  split
  · exact h
  · rw [gone_now]; exact h
theorem openS_now (s : Se) (n : Nat) (a h i : Int) : (openS s n a h i).1.now = s.now := by
  unfold openS
  repeat' split
  all_goals first | exact gone_now _ _ | exact confirm_now _ _ _ _ | (show Se.now (Se.confirm _ _ _ _) = _; rw [confirm_now, gone_now])
theorem hearD_now (s : Se) (n : Nat) (m : MsD) : (hearD s n m).1.now = s.now := by
  unfold hearD
  split
  · exact gone_now _ _
  split
  · exact openS_now _ _ _ _ _
  split
  · exact establish_now _ _
  split
  · exact alive_now _ _
  split
  · exact alive_now _ _
  · exact gone_now _ _
theorem closeE_len (s : Se) (n : Nat) : (closeE s n).length ≤ 2 := by
  unfold closeE
  rw [List.length_cons]
  have := goneE_len s n
  omega
theorem estabE_len (s : Se) (n : Nat) : (estabE s n).length ≤ 4 := by
  unfold estabE
  rw [List.length_append, List.length_singleton]
  split
  · rw [List.length_nil]; omega
  · have := endE_len (s.up5 n) (1 - n) 6 7 ⟨#[]⟩
    omega
theorem openS_len (s : Se) (n : Nat) (a h i : Int) : (openS s n a h i).2.length ≤ 4 := by
  have e1 := endE_len s n 2 2 ⟨#[]⟩
  have e2 := endE_len s n 2 3 ⟨#[]⟩
  have e3 := endE_len s n 6 7 ⟨#[]⟩
  have e4 := endE_len s (1 - n) 6 7 ⟨#[]⟩
  have e5 := sendE_len n (MsL.zero 4)
  unfold openS
  repeat' split
  all_goals (try dsimp only)
  all_goals first | omega | (rw [List.length_append]; omega)
theorem hearD_len (s : Se) (n : Nat) (m : MsD) : (hearD s n m).2.length ≤ 4 := by
  have e1 := closeE_len s n
  have e2 := endE_len s n 5 ((s.c n).st - 2) ⟨#[]⟩
  unfold hearD
  split
  · exact Nat.le_trans e1 (by decide)
  split
  · exact openS_len _ _ _ _ _
  split
  · exact estabE_len _ _
  split
  · exact Nat.zero_le _
  split
  · exact (by decide : 1 ≤ 4)
  · exact Nat.le_trans e2 (by decide)
theorem msgs_at {w : World} {b o : Nat} {ms : List MsL} {i : Nat} {x : MsL} (h : w.rangeAt b o (msgsL ms)) (hi : ms[i]? = some x) : w.rangeAt b (o + i * 20) x.cells := fun j v hj => by
  have hl := flatMap_seg (enc := MsL.cells) (s := 20) (fun _ => rfl) ms i x hi
  have hj2 : j < 20 := (List.getElem?_eq_some_iff.1 hj).1
  have h2 : (msgsL ms)[i * 20 + j]? = some v := by
    unfold msgsL
    rw [← List.getElem?_drop, ← hj, ← hl, List.getElem?_take, if_pos hj2]
  have := h _ _ h2
  rwa [Nat.add_assoc]
section
variable {P : Program} {C : World → Prop} {n : Nat} {o : Oper} {l : Kn}
theorem v_neq_aggB {t yt : TypeId} {x y : Operand} {xs ys : List Value} {ks : List CK} {b : Bool} (ho : o.op = .binOp .neq t x y yt) (hx : ev l x = some (.agg xs.toArray)) (hy : ev l y = some (.agg ys.toArray)) (hE : EqK P 10000 t true ks) (hg : P.eqGuardType P.depth t = false)
    (fx : fitsAll ks xs = true) (fy : fitsAll ks ys = true) (hb : b = true ↔ ¬ xs = ys) : Val P C n l o (.bool b) := by
  cases b with
  | true => exact v_neq_aggT ho hx hy hE hg fx fy (hb.1 rfl)
  | false => exact v_neq_aggF ho hx hy hE hg fx fy (Decidable.byContradiction (p := xs = ys) (dec := Classical.propDecidable _) fun h => by have := hb.2 h; cases this)
end
theorem flt_zero {f : Option (Int × Int × ByteArray)} (hf : ∀ x, f = some x → FltOk x) : f.isSome = true ↔ ¬ fltL (fltOf f).1 (fltOf f).2.1 (fltOf f).2.2 = fltL 0 0 ⟨#[]⟩ := by
  cases f with
  | none => exact ⟨fun h => (by cases h), fun h => absurd rfl h⟩
  | some x =>
    refine ⟨fun _ h => ?_, fun _ => rfl⟩
    have h1 := (hf x rfl).1
    have h2 : (Value.int .i64 x.1) = .int .i64 0 := (List.cons.inj h).1
    injection h2 with _ h3
    omega
structure FeS where
  k : Nat
  y : PS
  t : Se
set_option maxHeartbeats 4000000 in
theorem feed0_c (w0 w : World) (g : Nat) (p : PeL) (s : Se) (E0 E1 L : List Ent) (d : Ck) (hA : PeAt g p s E0 E1 d) (hG : GF w0) (hZ : GZ w0) (hS0 : St (fun _ => False) w0 w (.row g p.cells :: (E0 ++ (E1 ++ d.L p.gC s.now L)))) (ba : Option Addr) (bc : Nat) (bs : List Int) (hb : ∀ w, St (fun _ => False) w0 w (.row g p.cells :: (E0 ++ (E1 ++ d.L p.gC s.now L))) → CellsAt w ba (u8s bs)) (hB : Bys bs) (hn : bs.length ≤ 40000) (hcl : (s.c 0).fc = 0 ∧ (s.c 0).fs = 0 ∧ (s.c 0).fd = ⟨#[]⟩) (hct : (s.c 0).count ≤ 3000000000000000000) :
    Calls Tryz.prog 15 #[.pointer (some ⟨g, 0, none⟩), .int .i64 0, .slice ba bs.length bc] w fun e w' => EffC w0 w' g (feedS s 0 bs).2 (feedS s 0 bs).1 L e := by
  have hc : p.c0.m = s.c0 := (congrArg Se.c0 hA.eq :)
  have hst : p.c0.st = (s.c 0).st := (congrArg CnM.st hc :)
  have hwt : p.c0.rd.wait = (s.c 0).wait := (congrArg CnM.wait hc :)
  have hok := hA.ok0
  have hrd : p.c0.rd.fc = 0 ∧ p.c0.rd.fs = 0 ∧ p.c0.rd.fd = ⟨#[]⟩ := ⟨(congrArg CnM.fc hc :).trans hcl.1, (congrArg CnM.fs hc :).trans hcl.2.1, (congrArg CnM.fd hc :).trans hcl.2.2⟩
  have hcnt : p.c0.rd.count = (s.c 0).count := (congrArg CnM.count hc :)
  have hwl : (s.c 0).wait.length ≤ 4096 := hok.2.1
  have hc0 : 0 ≤ (s.c 0).count := hok.2.2.1.1
  have hBw : Bys ((s.c 0).wait ++ bs) := by rw [← hwt]; exact Bys.app hA.b0 hB
  have hln : ((s.c 0).wait ++ bs).length ≤ 44096 := by rw [List.length_append]; omega
  refine enter Tryz.func15 rfl Tryz.ntmps15 rfl hS0 ?_
  refine cR <| zA rfl <| zN <| cS <| cR <| zM rfl <| zM rfl <| zK ck_51 rfl <| ?_
  intro w hS
  refine Calls.then (there_c w g p (hS.row (g := g)) 0 (by decide)) hS ?_
  generalize hth : decide ((p.c 0).st ≠ 0) = b14
  cases b14
  refine zV (v_not rfl rfl rfl) rfl <| zN <| cT rfl <| cR <| zA rfl <| zN <| cE <| eR <| tR Tryz.results15 rfl <| ?_
  have e1 : feedS s 0 bs = (s, []) := (by unfold feedS; rw [if_pos (hst.symm.trans (Decidable.of_not_not (of_decide_eq_false hth)))])
  exact fun w' h => ⟨none, 0, [], [], [], p, E0, E1, d, rfl, ⟨Vec.nil 23, fun e he => by cases he⟩, by rw [e1]; rfl, by rw [e1]; exact hA, by rw [e1]; exact h⟩
  ·
   refine zV (v_not rfl rfl rfl) rfl <| zN <| cF rfl <| cK <| eN <| cR <| zM rfl <| zM rfl <| zC rfl <| zF rfl fld_106_3 <| ?_
   refine zV (v_indexAddrA (lo := 0) rfl rfl rfl Tryz.underlying104 sz_103 (by omega) (by omega)) rfl ?_
   refine zV (v_fieldAddr rfl rfl fld_103_1) rfl <| zM rfl <| ?_
   have hz : (s.c 0).st ≠ 0 := fun hh => of_decide_eq_true hth (hst.trans hh)
   refine zK ck_55 rfl ?_
   intro w1 hS
   refine (Feed8_c w0 w1 g (.int .i64 p.asn) (.int .u32 p.id) (.int .i64 p.their) (.int .i64 p.hold) (.int .i64 p.retry) (.pointer (some ⟨p.gC, 0, none⟩)) (.int .i64 p.base) (.int .i64 p.c0.st) [.int .i64 p.c0.hold, .int .u32 p.c0.id, .int .i64 p.c1.st, .slice p.c1.rd.ad p.c1.rd.wait.length p.c1.rd.cap, .int .i64 p.c1.rd.count, .int .i64 p.c1.rd.fc, .int .i64 p.c1.rd.fs, .string p.c1.rd.fd, .int .i64 p.c1.hold, .int .u32 p.c1.id] p.c0.rd ba bc bs E0 (E1 ++ d.L p.gC s.now L) hG hZ hrd hA.v0 (by rw [hwt]; exact hBw) (fun w h => hb w (St.permK (L := .row g p.cells :: (E0 ++ (E1 ++ d.L p.gC s.now L))) h )) (by rw [hwt]; omega) (by rw [hcnt]; omega) (show St (fun _ => False) w0 w1 (.row g p.cells :: (E0 ++ (E1 ++ d.L p.gC s.now L))) from hS.permK )).mono ?_
   rintro e w' ⟨mad, mc, ms, Em, K, wad, wc, rest, Ew, f, hfe, rfl, hVm, hMs, hVw, hBr, hS'⟩
   refine ⟨_, .row g ({ p with c0 := { p.c0 with rd := ⟨wad, wc, rest, p.c0.rd.count + ms.length, (fltOf f).1, (fltOf f).2.1, (fltOf f).2.2⟩ } } : PeL).cells :: (Ew ++ (E1 ++ d.L p.gC s.now (Em ++ (K ++ L)))), rfl, St.permK (L := .row g ({ p with c0 := { p.c0 with rd := ⟨wad, wc, rest, p.c0.rd.count + ms.length, (fltOf f).1, (fltOf f).2.1, (fltOf f).2.2⟩ } } : PeL).cells :: (Ew ++ (Em ++ (K ++ (E1 ++ d.L p.gC s.now L))))) hS' , ?_⟩
   rw [hwt] at hfe
   have hff := feedM_fit _ [] ((s.c 0).wait ++ bs) (Nat.le_refl _) hBw (fun m hm => by cases hm)
   have hbo := feedM_both _ [] ((s.c 0).wait ++ bs) _ _ _ (Nat.le_refl _) hfe
   have hre := feedM_rest _ [] ((s.c 0).wait ++ bs) (Nat.le_refl _)
   rw [hfe] at hff hre
   obtain ⟨hfm, hfo, _⟩ := hff
   dsimp only at hfm hfo hre
   rw [List.length_nil, List.length_map] at hbo
   have hA1 : PeAt g ({ p with c0 := { p.c0 with rd := ⟨wad, wc, rest, p.c0.rd.count + ms.length, (fltOf f).1, (fltOf f).2.1, (fltOf f).2.2⟩ } } : PeL) (s.fed 0 bs) Ew E1 d := (by
     have e1 : s.fed 0 bs = { s with c0 := { s.c0 with wait := rest, count := s.c0.count + ms.length, fc := (fltOf f).1, fs := (fltOf f).2.1, fd := (fltOf f).2.2 } } := (by
       show s.set 0 ((s.c 0).fed (feedM [] ((s.c 0).wait ++ bs))) = _
       rw [hfe]
       show s.set 0 { s.c0 with wait := rest, count := s.c0.count + ((ms.map MsL.d).length : Nat), fc := (fltOf f).1, fs := (fltOf f).2.1, fd := (fltOf f).2.2 } = _
       rw [List.length_map]
       rfl)
     rw [e1]
     refine ⟨?_, hA.ok, ?_, ?_, ?_, ?_, ?_, ?_, hA.bag⟩
     · exact (congrArg (fun z : Se => { z with c0 := { z.c0 with wait := rest, count := z.c0.count + ms.length, fc := (fltOf f).1, fs := (fltOf f).2.1, fd := (fltOf f).2.2 } }) hA.eq :)
     all_goals first | exact hA.ok1 | exact hA.v1 | exact hA.b1 | exact hVw | exact hBr | exact ⟨hok.1, hre, ⟨(by show 0 ≤ (s.c 0).count + (ms.length : Int); omega), (by show (s.c 0).count + (ms.length : Int) ≤ 4000000000000000000; omega)⟩, hok.2.2.2.1, hok.2.2.2.2⟩)
   have hfn : (s.fed 0 bs).now = s.now := set_now _ _ _
   refine zM rfl <| zX rfl <| zX rfl <| WL.alloc rfl zero_37 (.none rfl) rfl rfl <| ?_
   intro g8 hg8
   refine zA rfl <| zW many_37 rfl rfl <| zR <| zA rfl <| zN <| cS <| cR <| zM rfl <| zV (v_len_slice rfl rfl Tryz.underlying110) rfl <| zM rfl <| WL.to (L' := (⟨({ p with c0 := { p.c0 with rd := ⟨wad, wc, rest, p.c0.rd.count + ms.length, (fltOf f).1, (fltOf f).2.1, (fltOf f).2.2⟩ } } : PeL), Ew, E1, d, none, 0, [], [], []⟩ : PS).L g s.now (.row g8 (fltL (fltOf f).1 (fltOf f).2.1 (fltOf f).2.2) :: (Em ++ (K ++ L)))) (fun w hS => hS.permK ) <| ?_
   refine zN <| cB <| ?_
   refine WC.loop (fun x : FeS => [(27, .slice mad ms.length mc), (28, .int .i64 ms.length), (29, .int .i64 x.k), (9, .slice x.y.ad x.y.fs.length x.y.c), (8, .pointer (some ⟨g8, 0, none⟩)), (1, .int .i64 0), (0, .pointer (some ⟨g, 0, none⟩))]) (fun x => x.y.L g s.now (.row g8 (fltL (fltOf f).1 (fltOf f).2.1 (fltOf f).2.2) :: (Em ++ (K ++ L)))) (fun x => x.k ≤ ms.length ∧ PeAt g x.y.p x.t x.y.E0 x.y.E1 x.y.d ∧ x.t.now = s.now ∧ EfsV x.y.ad x.y.c x.y.fs x.y.E x.y.K ∧ x.y.fs.length ≤ 4 * x.k ∧ heardD 0 (s.fed 0 bs) (ms.map MsL.d) = ((heardD 0 x.t ((ms.drop x.k).map MsL.d)).1, x.y.fs.map EfL.d ++ (heardD 0 x.t ((ms.drop x.k).map MsL.d)).2)) (fun x => ms.length - x.k) ⟨0, ⟨({ p with c0 := { p.c0 with rd := ⟨wad, wc, rest, p.c0.rd.count + ms.length, (fltOf f).1, (fltOf f).2.1, (fltOf f).2.2⟩ } } : PeL), Ew, E1, d, none, 0, [], [], []⟩, s.fed 0 bs⟩ ⟨Nat.zero_le _, hA1, hfn, ⟨Vec.nil 23, fun e he => by cases he⟩, Nat.zero_le _, rfl⟩ (.cons rfl (.cons rfl (.cons rfl (.cons rfl (.cons rfl (.cons rfl (.cons rfl .nil))))))) (.refl _) ?_
   rintro ⟨k, ⟨p4, E04, E14, d4, ad4, c4, fs, EF, KF⟩, t⟩ ⟨hk, hA4, hnt, hV4, hfl, hee⟩
   dsimp only at hk hA4 hnt hV4 hfl hee
   unfold PS.L
   dsimp only
   refine cR ?_
   refine zT (v_lss rfl rfl rfl) rfl (fun h30 => ?_) (fun h30 => ?_)
   refine zN <| cS <| cT rfl <| cK <| eN <| cS <| cB <| cR <| ?_
   obtain ⟨x, hx⟩ : ∃ x, ms[k]? = some x := ⟨ms[k]'(by omega), List.getElem?_eq_getElem _⟩
   obtain ⟨b1, o1, ea1, r1⟩ := hVm.src2 (by rw [hVm.len.1]; omega)
   have hdr : ms.drop k = x :: ms.drop (k + 1) := (by rw [List.drop_eq_getElem_cons (by omega)]; congr 1; exact (List.getElem?_eq_some_iff.1 hx).2)
   have hxf := hfm x.d (List.mem_map_of_mem (List.mem_of_getElem? hx))
   refine zV ((v_indexAddr (b := b1) (off := o1) (lo := k) rfl (by show some (Value.slice mad _ _) = _; rw [ea1]) rfl Tryz.underlying110 sz_39 rfl (by omega))) rfl ?_
   refine zV (v_loadN rfl rfl many_39 rfl (fun w hS => msgs_at (r1 w fun e he => hS.holds e (by simp [Ck.L, clkL, he])) hx)) rfl ?_
   refine WL.alloc rfl zero_39 (.none rfl) rfl rfl ?_
   intro g11 hg11
   refine zW many_39 rfl rfl <| zN <| cS <| cR <| zM rfl <| zM rfl <| zK ck_51 rfl <| ?_
   intro w hS
   refine Calls.then (there_c w g p4 (hS.row (g := g)) 0 (by decide)) hS ?_
   generalize hth4 : decide ((p4.c 0).st ≠ 0) = b35
   cases b35
   refine zV (v_not rfl rfl rfl) rfl ?_
   have hc4 : p4.c0.m = t.c0 := (congrArg Se.c0 hA4.eq :)
   have hst4 : p4.c0.st = (t.c 0).st := (congrArg CnM.st hc4 :)
   refine zN <| cT rfl <| cR <| zM rfl <| zA rfl <| zN <| cE <| eR <| eB <| eR <| eR <| eB <| eR <| ?_
   refine tR Tryz.results15 rfl ?_
   have e1 : heardD 0 t ((ms.drop k).map MsL.d) = (t, []) := (by rw [hdr, List.map_cons]; unfold heardD; rw [if_pos (hst4.symm.trans (Decidable.of_not_not (of_decide_eq_false hth4)))])
   have e2 : feedS s 0 bs = (t, fs.map EfL.d) := (by
     unfold feedS
     rw [if_neg hz, hfe]
     dsimp only
     rw [hee, e1, List.append_nil]
     unfold endF
     rw [if_pos (hst4.symm.trans (Decidable.of_not_not (of_decide_eq_false hth4)))])
   rw [e2]
   exact fun w' h => ⟨ad4, c4, fs, EF, KF, p4, E04, E14, d4, rfl, hV4, rfl, hA4, by dsimp only; rw [hnt]; exact h.dropK (.row g11 x.cells :: .row g8 (fltL (fltOf f).1 (fltOf f).2.1 (fltOf f).2.2) :: (Em ++ K)) ⟩
   refine zV (v_not rfl rfl rfl) rfl ?_
   have hc4 : p4.c0.m = t.c0 := (congrArg Se.c0 hA4.eq :)
   have hst4 : p4.c0.st = (t.c 0).st := (congrArg CnM.st hc4 :)
   refine zN <| cF rfl <| cK <| eN <| WC.region <| zM rfl <| zM rfl <| zM rfl <| zV (v_loadN rfl rfl many_39 rfl allAt) rfl <| zK ck_56 rfl <| ?_
   intro w1 hS
   refine (hear0_c w0 w1 g p4 t E04 E14 (.row g11 x.cells :: (EF ++ (KF ++ (.row g8 (fltL (fltOf f).1 (fltOf f).2.1 (fltOf f).2.2) :: (Em ++ (K ++ L)))))) d4 hA4 hG (by rw [hnt]; exact hS.permK ) x hxf.id (by have := hxf.hold; have e : x.d.hold = x.hold := rfl; omega)).mono ?_
   rintro e w' ⟨ad2, c2, gs, EG, KG, p2, E02, E12, d2, rfl, hV2, heg, hA2, hS'⟩
   have hgl := efs_len heg
   have hgb : gs.length ≤ 4 := (by rw [hgl, hearD_eq]; exact hearD_len _ _ _)
   have hn2 : (hearS t 0 x).1.now = s.now := (by rw [hearD_eq, hearD_now]; exact hnt)
   rw [hn2] at hS'
   refine ⟨_, EF ++ (EG ++ (KG ++ (KF ++ (.row g p2.cells :: (E02 ++ (E12 ++ d2.L p2.gC s.now (.row g11 x.cells :: .row g8 (fltL (fltOf f).1 (fltOf f).2.1 (fltOf f).2.2) :: (Em ++ (K ++ L))))))))), rfl, hS'.permK , ?_⟩
   refine WL.appendL rfl rfl rfl Tryz.underlying46 Tryz.underlying46 sz_54 by_54 zero_54 rfl rfl hV4.1 (new := efsL gs) (hV2.1.src (fun e he => List.mem_append_right _ (List.mem_append_left _ he)) |> fun f h => (f (by rw [efsL_len]; omega)).elim fun b1 h1 => h1.elim fun o1 h2 => ⟨b1, o1, h2.1, fun w hS => h2.2 _ _ w hS⟩) (efsL_len gs) (efsL_one gs) (by omega) (.none rfl) rfl rfl ?_
   intro ad43 c43 E43 hV43 hr43
   rw [efsL_app] at hV43
   rw [show fs.length + gs.length = (fs ++ gs).length from List.length_append.symm] at hV43 ⊢
   refine WL.to (L' := (⟨p2, E02, E12, d2, ad43, c43, fs ++ gs, E43, KG ++ KF⟩ : PS).L g s.now (.row g8 (fltL (fltOf f).1 (fltOf f).2.1 (fltOf f).2.2) :: (Em ++ (K ++ L)))) (fun w hS => hS.dropK (EG ++ [.row g11 x.cells]) ) <| zA rfl <| WL.nil <| eY <| eN <| WC.region <| ?_
   refine zV (v_add rfl rfl rfl (show _ = ((k + 1 : Nat) : Int) from (w_i64 (by omega) (by omega)).trans (by omega))) rfl ?_
   refine zM rfl ?_
   skip
   refine WL.nil ?_
   refine WE.next ⟨k + 1, ⟨p2, E02, E12, d2, ad43, c43, fs ++ gs, E43, KG ++ KF⟩, (hearS t 0 x).1⟩ (by dsimp only; omega) ⟨by dsimp only; omega, hA2, hn2, ⟨hV43, fun e he => ?_⟩, by dsimp only; rw [List.length_append]; omega, ?_⟩ (.cons rfl (.cons rfl (.cons rfl (.cons rfl (.cons rfl (.cons rfl (.cons rfl .nil))))))) (.refl _)
   · rcases List.mem_append.1 he with he | he
     · exact (hV4.2 e he).mono fun x hx => List.mem_append_right _ hx
     · exact (hV2.2 e he).mono fun x hx => List.mem_append_left _ hx
   · have hz4 : (t.c 0).st ≠ 0 := fun hh => of_decide_eq_true hth4 (hst4.trans hh)
     dsimp only
     rw [hee, hdr, List.map_cons, List.map_append, heg, List.append_assoc]
     conv => lhs; unfold heardD
     rw [if_neg hz4, hearD_eq]
   refine zN <| cS <| cF rfl <| cX <| eX <| eX <| eH <| eN <| cS <| cR <| zM rfl <| zM rfl <| ?_
   have hc4 : p4.c0.m = t.c0 := (congrArg Se.c0 hA4.eq :)
   have hst4 : p4.c0.st = (t.c 0).st := (congrArg CnM.st hc4 :)
   have hdn : ms.drop k = [] := List.drop_eq_nil_iff.2 (by omega)
   have e1 : feedS s 0 bs = endF 0 f (t, fs.map EfL.d) := (by
     unfold feedS
     rw [if_neg hz, hfe]
     dsimp only
     rw [hee, hdn]
     show endF _ _ (t, _ ++ []) = _
     rw [List.append_nil])
   refine zK ck_51 rfl ?_
   intro w hS
   refine Calls.then (there_c w g p4 (hS.row (g := g)) 0 (by decide)) hS ?_
   generalize hth5 : decide ((p4.c 0).st ≠ 0) = b47
   cases b47
   refine zM rfl <| WL.sk rfl <| ?_
   generalize hfs : f.isSome = bz
   have hbz := flt_zero hfo
   rw [hfs] at hbz
   iterate 2 refine WL.sk rfl ?_
   refine zQ rfl <| zN <| cF rfl <| cK <| eN <| cR <| zM rfl <| zA rfl <| zN <| cE <| tR Tryz.results15 rfl <| ?_
   have e2 : feedS s 0 bs = (t, fs.map EfL.d) := (by rw [e1]; unfold endF; rw [if_pos (hst4.symm.trans (Decidable.of_not_not (of_decide_eq_false hth5)))])
   rw [e2]
   exact fun w' h => ⟨ad4, c4, fs, EF, KF, p4, E04, E14, d4, rfl, hV4, rfl, hA4, by dsimp only; rw [hnt]; exact h.dropK (.row g8 (fltL (fltOf f).1 (fltOf f).2.1 (fltOf f).2.2) :: (Em ++ K)) ⟩
   refine zM rfl <| zS (v_loadN rfl rfl many_37 rfl allAt) rfl <| ?_
   generalize hfs : f.isSome = bz
   have hbz := flt_zero hfo
   rw [hfs] at hbz
   refine zS (v_build rfl rfl zero_37 plc_37 rfl) rfl <| zS (v_neq_aggB (b := bz) rfl rfl rfl eqk_37 eqg_37 rfl rfl hbz) rfl <| ?_
   cases bz
   refine zP rfl <| zN <| cF rfl <| cK <| eN <| cR <| zM rfl <| zA rfl <| zN <| cE <| tR Tryz.results15 rfl <| ?_
   have hz4 : (t.c 0).st ≠ 0 := fun hh => of_decide_eq_true hth5 (hst4.trans hh)
   have hfn0 : f = none := Option.isNone_iff_eq_none.1 (by rw [← Option.not_isSome, hfs]; rfl)
   have e2 : feedS s 0 bs = (t, fs.map EfL.d) := (by rw [e1, hfn0]; unfold endF; rw [if_neg hz4])
   rw [e2]
   exact fun w' h => ⟨ad4, c4, fs, EF, KF, p4, E04, E14, d4, rfl, hV4, rfl, hA4, by dsimp only; rw [hnt]; exact h.dropK (.row g8 (fltL (fltOf f).1 (fltOf f).2.1 (fltOf f).2.2) :: (Em ++ K)) ⟩
   refine zP rfl <| zN <| cT rfl <| WC.region <| zM rfl <| zM rfl <| zM rfl <| zV (v_loadN rfl rfl many_37 rfl allAt) rfl <| ?_
   obtain ⟨fv, rfl⟩ := Option.isSome_iff_exists.1 hfs
   have hfv := hfo fv rfl
   refine zK ck_57 rfl ?_
   intro w1 hS
   refine (end0_c w0 w1 g p4 t E04 E14 (EF ++ (KF ++ (.row g8 (fltL (fltOf (some fv)).1 (fltOf (some fv)).2.1 (fltOf (some fv)).2.2) :: (Em ++ (K ++ L))))) d4 hA4 hG (by rw [hnt]; exact hS.permK ) fv.1 fv.2.1 fv.2.2 (by have := hfv.1; constructor <;> omega) (by have := hfv.2.1; constructor <;> omega) (by have := hfv.2.2; omega)).mono ?_
   rintro e w' ⟨ad2, c2, gs, EG, KG, p2, E02, E12, d2, rfl, hV2, heg, hA2, hS'⟩
   have hgl := efs_len heg
   have hgb : gs.length ≤ 3 := (by rw [hgl]; exact endE_len _ _ _ _ _)
   have hn2 : (t.gone 0).now = s.now := (gone_now _ _).trans hnt
   rw [hn2] at hS'
   refine ⟨_, EF ++ (EG ++ (KG ++ (KF ++ (.row g p2.cells :: (E02 ++ (E12 ++ d2.L p2.gC s.now (.row g8 (fltL (fltOf (some fv)).1 (fltOf (some fv)).2.1 (fltOf (some fv)).2.2) :: (Em ++ (K ++ L))))))))), rfl, hS'.permK , ?_⟩
   refine WL.appendL rfl rfl rfl Tryz.underlying46 Tryz.underlying46 sz_54 by_54 zero_54 rfl rfl hV4.1 (new := efsL gs) (hV2.1.src (fun e he => List.mem_append_right _ (List.mem_append_left _ he)) |> fun f h => (f (by rw [efsL_len]; omega)).elim fun b1 h1 => h1.elim fun o1 h2 => ⟨b1, o1, h2.1, fun w hS => h2.2 _ _ w hS⟩) (efsL_len gs) (efsL_one gs) (by omega) (.none rfl) rfl rfl ?_
   intro ad58 c58 E58 hV58 hr58
   rw [efsL_app] at hV58
   rw [show fs.length + gs.length = (fs ++ gs).length from List.length_append.symm] at hV58 ⊢
   refine zA rfl <| zR <| zM rfl <| zA rfl <| zN <| cE <| tR Tryz.results15 rfl <| ?_
   have hz4 : (t.c 0).st ≠ 0 := fun hh => of_decide_eq_true hth5 (hst4.trans hh)
   have e2 : feedS s 0 bs = (t.gone 0, fs.map EfL.d ++ endE t 0 fv.1 fv.2.1 fv.2.2) := (by rw [e1]; unfold endF; rw [if_neg hz4])
   rw [e2]
   refine fun w' h => ⟨ad58, c58, fs ++ gs, E58, KG ++ KF, p2, E02, E12, d2, rfl, ⟨hV58, fun e he => ?_⟩, by rw [List.map_append, heg], hA2, by dsimp only; rw [hn2]; exact h.dropK (EG ++ (.row g8 (fltL (fltOf (some fv)).1 (fltOf (some fv)).2.1 (fltOf (some fv)).2.2) :: (Em ++ K))) ⟩
   rcases List.mem_append.1 he with he | he
   · exact (hV4.2 e he).mono fun x hx => List.mem_append_right _ hx
   · exact (hV2.2 e he).mono fun x hx => List.mem_append_left _ hx
set_option maxHeartbeats 4000000 in
theorem feed1_c (w0 w : World) (g : Nat) (p : PeL) (s : Se) (E0 E1 L : List Ent) (d : Ck) (hA : PeAt g p s E0 E1 d) (hG : GF w0) (hZ : GZ w0) (hS0 : St (fun _ => False) w0 w (.row g p.cells :: (E0 ++ (E1 ++ d.L p.gC s.now L)))) (ba : Option Addr) (bc : Nat) (bs : List Int) (hb : ∀ w, St (fun _ => False) w0 w (.row g p.cells :: (E0 ++ (E1 ++ d.L p.gC s.now L))) → CellsAt w ba (u8s bs)) (hB : Bys bs) (hn : bs.length ≤ 40000) (hcl : (s.c 1).fc = 0 ∧ (s.c 1).fs = 0 ∧ (s.c 1).fd = ⟨#[]⟩) (hct : (s.c 1).count ≤ 3000000000000000000) :
    Calls Tryz.prog 15 #[.pointer (some ⟨g, 0, none⟩), .int .i64 1, .slice ba bs.length bc] w fun e w' => EffC w0 w' g (feedS s 1 bs).2 (feedS s 1 bs).1 L e := by
  have hc : p.c1.m = s.c1 := (congrArg Se.c1 hA.eq :)
  have hst : p.c1.st = (s.c 1).st := (congrArg CnM.st hc :)
  have hwt : p.c1.rd.wait = (s.c 1).wait := (congrArg CnM.wait hc :)
  have hok := hA.ok1
  have hrd : p.c1.rd.fc = 0 ∧ p.c1.rd.fs = 0 ∧ p.c1.rd.fd = ⟨#[]⟩ := ⟨(congrArg CnM.fc hc :).trans hcl.1, (congrArg CnM.fs hc :).trans hcl.2.1, (congrArg CnM.fd hc :).trans hcl.2.2⟩
  have hcnt : p.c1.rd.count = (s.c 1).count := (congrArg CnM.count hc :)
  have hwl : (s.c 1).wait.length ≤ 4096 := hok.2.1
  have hc0 : 0 ≤ (s.c 1).count := hok.2.2.1.1
  have hBw : Bys ((s.c 1).wait ++ bs) := by rw [← hwt]; exact Bys.app hA.b1 hB
  have hln : ((s.c 1).wait ++ bs).length ≤ 44096 := by rw [List.length_append]; omega
  refine enter Tryz.func15 rfl Tryz.ntmps15 rfl hS0 ?_
  refine cR <| zA rfl <| zN <| cS <| cR <| zM rfl <| zM rfl <| zK ck_51 rfl <| ?_
  intro w hS
  refine Calls.then (there_c w g p (hS.row (g := g)) 1 (by decide)) hS ?_
  generalize hth : decide ((p.c 1).st ≠ 0) = b14
  cases b14
  refine zV (v_not rfl rfl rfl) rfl <| zN <| cT rfl <| cR <| zA rfl <| zN <| cE <| eR <| tR Tryz.results15 rfl <| ?_
  have e1 : feedS s 1 bs = (s, []) := (by unfold feedS; rw [if_pos (hst.symm.trans (Decidable.of_not_not (of_decide_eq_false hth)))])
  exact fun w' h => ⟨none, 0, [], [], [], p, E0, E1, d, rfl, ⟨Vec.nil 23, fun e he => by cases he⟩, by rw [e1]; rfl, by rw [e1]; exact hA, by rw [e1]; exact h⟩
  ·
   refine zV (v_not rfl rfl rfl) rfl <| zN <| cF rfl <| cK <| eN <| cR <| zM rfl <| zM rfl <| zC rfl <| zF rfl fld_106_3 <| ?_
   refine zV (v_indexAddrA (lo := 1) rfl rfl rfl Tryz.underlying104 sz_103 (by omega) (by omega)) rfl ?_
   refine zV (v_fieldAddr rfl rfl fld_103_1) rfl <| zM rfl <| ?_
   have hz : (s.c 1).st ≠ 0 := fun hh => of_decide_eq_true hth (hst.trans hh)
   refine zK ck_55 rfl ?_
   intro w1 hS
   refine (Feed16_c w0 w1 g (.int .i64 p.asn) (.int .u32 p.id) (.int .i64 p.their) (.int .i64 p.hold) (.int .i64 p.retry) (.pointer (some ⟨p.gC, 0, none⟩)) (.int .i64 p.base) (.int .i64 p.c0.st) (.slice p.c0.rd.ad p.c0.rd.wait.length p.c0.rd.cap) (.int .i64 p.c0.rd.count) (.int .i64 p.c0.rd.fc) (.int .i64 p.c0.rd.fs) (.string p.c0.rd.fd) (.int .i64 p.c0.hold) (.int .u32 p.c0.id) (.int .i64 p.c1.st) [.int .i64 p.c1.hold, .int .u32 p.c1.id] p.c1.rd ba bc bs E1 (E0 ++ d.L p.gC s.now L) hG hZ hrd hA.v1 (by rw [hwt]; exact hBw) (fun w h => hb w (St.permK (L := .row g p.cells :: (E1 ++ (E0 ++ d.L p.gC s.now L))) h )) (by rw [hwt]; omega) (by rw [hcnt]; omega) (show St (fun _ => False) w0 w1 (.row g p.cells :: (E1 ++ (E0 ++ d.L p.gC s.now L))) from hS.permK )).mono ?_
   rintro e w' ⟨mad, mc, ms, Em, K, wad, wc, rest, Ew, f, hfe, rfl, hVm, hMs, hVw, hBr, hS'⟩
   refine ⟨_, .row g ({ p with c1 := { p.c1 with rd := ⟨wad, wc, rest, p.c1.rd.count + ms.length, (fltOf f).1, (fltOf f).2.1, (fltOf f).2.2⟩ } } : PeL).cells :: (E0 ++ (Ew ++ d.L p.gC s.now (Em ++ (K ++ L)))), rfl, St.permK (L := .row g ({ p with c1 := { p.c1 with rd := ⟨wad, wc, rest, p.c1.rd.count + ms.length, (fltOf f).1, (fltOf f).2.1, (fltOf f).2.2⟩ } } : PeL).cells :: (Ew ++ (Em ++ (K ++ (E0 ++ d.L p.gC s.now L))))) hS' , ?_⟩
   rw [hwt] at hfe
   have hff := feedM_fit _ [] ((s.c 1).wait ++ bs) (Nat.le_refl _) hBw (fun m hm => by cases hm)
   have hbo := feedM_both _ [] ((s.c 1).wait ++ bs) _ _ _ (Nat.le_refl _) hfe
   have hre := feedM_rest _ [] ((s.c 1).wait ++ bs) (Nat.le_refl _)
   rw [hfe] at hff hre
   obtain ⟨hfm, hfo, _⟩ := hff
   dsimp only at hfm hfo hre
   rw [List.length_nil, List.length_map] at hbo
   have hA1 : PeAt g ({ p with c1 := { p.c1 with rd := ⟨wad, wc, rest, p.c1.rd.count + ms.length, (fltOf f).1, (fltOf f).2.1, (fltOf f).2.2⟩ } } : PeL) (s.fed 1 bs) E0 Ew d := (by
     have e1 : s.fed 1 bs = { s with c1 := { s.c1 with wait := rest, count := s.c1.count + ms.length, fc := (fltOf f).1, fs := (fltOf f).2.1, fd := (fltOf f).2.2 } } := (by
       show s.set 1 ((s.c 1).fed (feedM [] ((s.c 1).wait ++ bs))) = _
       rw [hfe]
       show s.set 1 { s.c1 with wait := rest, count := s.c1.count + ((ms.map MsL.d).length : Nat), fc := (fltOf f).1, fs := (fltOf f).2.1, fd := (fltOf f).2.2 } = _
       rw [List.length_map]
       rfl)
     rw [e1]
     refine ⟨?_, hA.ok, ?_, ?_, ?_, ?_, ?_, ?_, hA.bag⟩
     · exact (congrArg (fun z : Se => { z with c1 := { z.c1 with wait := rest, count := z.c1.count + ms.length, fc := (fltOf f).1, fs := (fltOf f).2.1, fd := (fltOf f).2.2 } }) hA.eq :)
     all_goals first | exact hA.ok0 | exact hA.v0 | exact hA.b0 | exact hVw | exact hBr | exact ⟨hok.1, hre, ⟨(by show 0 ≤ (s.c 1).count + (ms.length : Int); omega), (by show (s.c 1).count + (ms.length : Int) ≤ 4000000000000000000; omega)⟩, hok.2.2.2.1, hok.2.2.2.2⟩)
   have hfn : (s.fed 1 bs).now = s.now := set_now _ _ _
   refine zM rfl <| zX rfl <| zX rfl <| WL.alloc rfl zero_37 (.none rfl) rfl rfl <| ?_
   intro g8 hg8
   refine zA rfl <| zW many_37 rfl rfl <| zR <| zA rfl <| zN <| cS <| cR <| zM rfl <| zV (v_len_slice rfl rfl Tryz.underlying110) rfl <| zM rfl <| WL.to (L' := (⟨({ p with c1 := { p.c1 with rd := ⟨wad, wc, rest, p.c1.rd.count + ms.length, (fltOf f).1, (fltOf f).2.1, (fltOf f).2.2⟩ } } : PeL), E0, Ew, d, none, 0, [], [], []⟩ : PS).L g s.now (.row g8 (fltL (fltOf f).1 (fltOf f).2.1 (fltOf f).2.2) :: (Em ++ (K ++ L)))) (fun w hS => hS.permK ) <| ?_
   refine zN <| cB <| ?_
   refine WC.loop (fun x : FeS => [(27, .slice mad ms.length mc), (28, .int .i64 ms.length), (29, .int .i64 x.k), (9, .slice x.y.ad x.y.fs.length x.y.c), (8, .pointer (some ⟨g8, 0, none⟩)), (1, .int .i64 1), (0, .pointer (some ⟨g, 0, none⟩))]) (fun x => x.y.L g s.now (.row g8 (fltL (fltOf f).1 (fltOf f).2.1 (fltOf f).2.2) :: (Em ++ (K ++ L)))) (fun x => x.k ≤ ms.length ∧ PeAt g x.y.p x.t x.y.E0 x.y.E1 x.y.d ∧ x.t.now = s.now ∧ EfsV x.y.ad x.y.c x.y.fs x.y.E x.y.K ∧ x.y.fs.length ≤ 4 * x.k ∧ heardD 1 (s.fed 1 bs) (ms.map MsL.d) = ((heardD 1 x.t ((ms.drop x.k).map MsL.d)).1, x.y.fs.map EfL.d ++ (heardD 1 x.t ((ms.drop x.k).map MsL.d)).2)) (fun x => ms.length - x.k) ⟨0, ⟨({ p with c1 := { p.c1 with rd := ⟨wad, wc, rest, p.c1.rd.count + ms.length, (fltOf f).1, (fltOf f).2.1, (fltOf f).2.2⟩ } } : PeL), E0, Ew, d, none, 0, [], [], []⟩, s.fed 1 bs⟩ ⟨Nat.zero_le _, hA1, hfn, ⟨Vec.nil 23, fun e he => by cases he⟩, Nat.zero_le _, rfl⟩ (.cons rfl (.cons rfl (.cons rfl (.cons rfl (.cons rfl (.cons rfl (.cons rfl .nil))))))) (.refl _) ?_
   rintro ⟨k, ⟨p4, E04, E14, d4, ad4, c4, fs, EF, KF⟩, t⟩ ⟨hk, hA4, hnt, hV4, hfl, hee⟩
   dsimp only at hk hA4 hnt hV4 hfl hee
   unfold PS.L
   dsimp only
   refine cR ?_
   refine zT (v_lss rfl rfl rfl) rfl (fun h30 => ?_) (fun h30 => ?_)
   refine zN <| cS <| cT rfl <| cK <| eN <| cS <| cB <| cR <| ?_
   obtain ⟨x, hx⟩ : ∃ x, ms[k]? = some x := ⟨ms[k]'(by omega), List.getElem?_eq_getElem _⟩
   obtain ⟨b1, o1, ea1, r1⟩ := hVm.src2 (by rw [hVm.len.1]; omega)
   have hdr : ms.drop k = x :: ms.drop (k + 1) := (by rw [List.drop_eq_getElem_cons (by omega)]; congr 1; exact (List.getElem?_eq_some_iff.1 hx).2)
   have hxf := hfm x.d (List.mem_map_of_mem (List.mem_of_getElem? hx))
   refine zV ((v_indexAddr (b := b1) (off := o1) (lo := k) rfl (by show some (Value.slice mad _ _) = _; rw [ea1]) rfl Tryz.underlying110 sz_39 rfl (by omega))) rfl ?_
   refine zV (v_loadN rfl rfl many_39 rfl (fun w hS => msgs_at (r1 w fun e he => hS.holds e (by simp [Ck.L, clkL, he])) hx)) rfl ?_
   refine WL.alloc rfl zero_39 (.none rfl) rfl rfl ?_
   intro g11 hg11
   refine zW many_39 rfl rfl <| zN <| cS <| cR <| zM rfl <| zM rfl <| zK ck_51 rfl <| ?_
   intro w hS
   refine Calls.then (there_c w g p4 (hS.row (g := g)) 1 (by decide)) hS ?_
   generalize hth4 : decide ((p4.c 1).st ≠ 0) = b35
   cases b35
   refine zV (v_not rfl rfl rfl) rfl ?_
   have hc4 : p4.c1.m = t.c1 := (congrArg Se.c1 hA4.eq :)
   have hst4 : p4.c1.st = (t.c 1).st := (congrArg CnM.st hc4 :)
   refine zN <| cT rfl <| cR <| zM rfl <| zA rfl <| zN <| cE <| eR <| eB <| eR <| eR <| eB <| eR <| ?_
   refine tR Tryz.results15 rfl ?_
   have e1 : heardD 1 t ((ms.drop k).map MsL.d) = (t, []) := (by rw [hdr, List.map_cons]; unfold heardD; rw [if_pos (hst4.symm.trans (Decidable.of_not_not (of_decide_eq_false hth4)))])
   have e2 : feedS s 1 bs = (t, fs.map EfL.d) := (by
     unfold feedS
     rw [if_neg hz, hfe]
     dsimp only
     rw [hee, e1, List.append_nil]
     unfold endF
     rw [if_pos (hst4.symm.trans (Decidable.of_not_not (of_decide_eq_false hth4)))])
   rw [e2]
   exact fun w' h => ⟨ad4, c4, fs, EF, KF, p4, E04, E14, d4, rfl, hV4, rfl, hA4, by dsimp only; rw [hnt]; exact h.dropK (.row g11 x.cells :: .row g8 (fltL (fltOf f).1 (fltOf f).2.1 (fltOf f).2.2) :: (Em ++ K)) ⟩
   refine zV (v_not rfl rfl rfl) rfl ?_
   have hc4 : p4.c1.m = t.c1 := (congrArg Se.c1 hA4.eq :)
   have hst4 : p4.c1.st = (t.c 1).st := (congrArg CnM.st hc4 :)
   refine zN <| cF rfl <| cK <| eN <| WC.region <| zM rfl <| zM rfl <| zM rfl <| zV (v_loadN rfl rfl many_39 rfl allAt) rfl <| zK ck_56 rfl <| ?_
   intro w1 hS
   refine (hear1_c w0 w1 g p4 t E04 E14 (.row g11 x.cells :: (EF ++ (KF ++ (.row g8 (fltL (fltOf f).1 (fltOf f).2.1 (fltOf f).2.2) :: (Em ++ (K ++ L)))))) d4 hA4 hG (by rw [hnt]; exact hS.permK ) x hxf.id (by have := hxf.hold; have e : x.d.hold = x.hold := rfl; omega)).mono ?_
   rintro e w' ⟨ad2, c2, gs, EG, KG, p2, E02, E12, d2, rfl, hV2, heg, hA2, hS'⟩
   have hgl := efs_len heg
   have hgb : gs.length ≤ 4 := (by rw [hgl, hearD_eq]; exact hearD_len _ _ _)
   have hn2 : (hearS t 1 x).1.now = s.now := (by rw [hearD_eq, hearD_now]; exact hnt)
   rw [hn2] at hS'
   refine ⟨_, EF ++ (EG ++ (KG ++ (KF ++ (.row g p2.cells :: (E02 ++ (E12 ++ d2.L p2.gC s.now (.row g11 x.cells :: .row g8 (fltL (fltOf f).1 (fltOf f).2.1 (fltOf f).2.2) :: (Em ++ (K ++ L))))))))), rfl, hS'.permK , ?_⟩
   refine WL.appendL rfl rfl rfl Tryz.underlying46 Tryz.underlying46 sz_54 by_54 zero_54 rfl rfl hV4.1 (new := efsL gs) (hV2.1.src (fun e he => List.mem_append_right _ (List.mem_append_left _ he)) |> fun f h => (f (by rw [efsL_len]; omega)).elim fun b1 h1 => h1.elim fun o1 h2 => ⟨b1, o1, h2.1, fun w hS => h2.2 _ _ w hS⟩) (efsL_len gs) (efsL_one gs) (by omega) (.none rfl) rfl rfl ?_
   intro ad43 c43 E43 hV43 hr43
   rw [efsL_app] at hV43
   rw [show fs.length + gs.length = (fs ++ gs).length from List.length_append.symm] at hV43 ⊢
   refine WL.to (L' := (⟨p2, E02, E12, d2, ad43, c43, fs ++ gs, E43, KG ++ KF⟩ : PS).L g s.now (.row g8 (fltL (fltOf f).1 (fltOf f).2.1 (fltOf f).2.2) :: (Em ++ (K ++ L)))) (fun w hS => hS.dropK (EG ++ [.row g11 x.cells]) ) <| zA rfl <| WL.nil <| eY <| eN <| WC.region <| ?_
   refine zV (v_add rfl rfl rfl (show _ = ((k + 1 : Nat) : Int) from (w_i64 (by omega) (by omega)).trans (by omega))) rfl ?_
   refine zM rfl ?_
   skip
   refine WL.nil ?_
   refine WE.next ⟨k + 1, ⟨p2, E02, E12, d2, ad43, c43, fs ++ gs, E43, KG ++ KF⟩, (hearS t 1 x).1⟩ (by dsimp only; omega) ⟨by dsimp only; omega, hA2, hn2, ⟨hV43, fun e he => ?_⟩, by dsimp only; rw [List.length_append]; omega, ?_⟩ (.cons rfl (.cons rfl (.cons rfl (.cons rfl (.cons rfl (.cons rfl (.cons rfl .nil))))))) (.refl _)
   · rcases List.mem_append.1 he with he | he
     · exact (hV4.2 e he).mono fun x hx => List.mem_append_right _ hx
     · exact (hV2.2 e he).mono fun x hx => List.mem_append_left _ hx
   · have hz4 : (t.c 1).st ≠ 0 := fun hh => of_decide_eq_true hth4 (hst4.trans hh)
     dsimp only
     rw [hee, hdr, List.map_cons, List.map_append, heg, List.append_assoc]
     conv => lhs; unfold heardD
     rw [if_neg hz4, hearD_eq]
   refine zN <| cS <| cF rfl <| cX <| eX <| eX <| eH <| eN <| cS <| cR <| zM rfl <| zM rfl <| ?_
   have hc4 : p4.c1.m = t.c1 := (congrArg Se.c1 hA4.eq :)
   have hst4 : p4.c1.st = (t.c 1).st := (congrArg CnM.st hc4 :)
   have hdn : ms.drop k = [] := List.drop_eq_nil_iff.2 (by omega)
   have e1 : feedS s 1 bs = endF 1 f (t, fs.map EfL.d) := (by
     unfold feedS
     rw [if_neg hz, hfe]
     dsimp only
     rw [hee, hdn]
     show endF _ _ (t, _ ++ []) = _
     rw [List.append_nil])
   refine zK ck_51 rfl ?_
   intro w hS
   refine Calls.then (there_c w g p4 (hS.row (g := g)) 1 (by decide)) hS ?_
   generalize hth5 : decide ((p4.c 1).st ≠ 0) = b47
   cases b47
   refine zM rfl <| WL.sk rfl <| ?_
   generalize hfs : f.isSome = bz
   have hbz := flt_zero hfo
   rw [hfs] at hbz
   iterate 2 refine WL.sk rfl ?_
   refine zQ rfl <| zN <| cF rfl <| cK <| eN <| cR <| zM rfl <| zA rfl <| zN <| cE <| tR Tryz.results15 rfl <| ?_
   have e2 : feedS s 1 bs = (t, fs.map EfL.d) := (by rw [e1]; unfold endF; rw [if_pos (hst4.symm.trans (Decidable.of_not_not (of_decide_eq_false hth5)))])
   rw [e2]
   exact fun w' h => ⟨ad4, c4, fs, EF, KF, p4, E04, E14, d4, rfl, hV4, rfl, hA4, by dsimp only; rw [hnt]; exact h.dropK (.row g8 (fltL (fltOf f).1 (fltOf f).2.1 (fltOf f).2.2) :: (Em ++ K)) ⟩
   refine zM rfl <| zS (v_loadN rfl rfl many_37 rfl allAt) rfl <| ?_
   generalize hfs : f.isSome = bz
   have hbz := flt_zero hfo
   rw [hfs] at hbz
   refine zS (v_build rfl rfl zero_37 plc_37 rfl) rfl <| zS (v_neq_aggB (b := bz) rfl rfl rfl eqk_37 eqg_37 rfl rfl hbz) rfl <| ?_
   cases bz
   refine zP rfl <| zN <| cF rfl <| cK <| eN <| cR <| zM rfl <| zA rfl <| zN <| cE <| tR Tryz.results15 rfl <| ?_
   have hz4 : (t.c 1).st ≠ 0 := fun hh => of_decide_eq_true hth5 (hst4.trans hh)
   have hfn0 : f = none := Option.isNone_iff_eq_none.1 (by rw [← Option.not_isSome, hfs]; rfl)
   have e2 : feedS s 1 bs = (t, fs.map EfL.d) := (by rw [e1, hfn0]; unfold endF; rw [if_neg hz4])
   rw [e2]
   exact fun w' h => ⟨ad4, c4, fs, EF, KF, p4, E04, E14, d4, rfl, hV4, rfl, hA4, by dsimp only; rw [hnt]; exact h.dropK (.row g8 (fltL (fltOf f).1 (fltOf f).2.1 (fltOf f).2.2) :: (Em ++ K)) ⟩
   refine zP rfl <| zN <| cT rfl <| WC.region <| zM rfl <| zM rfl <| zM rfl <| zV (v_loadN rfl rfl many_37 rfl allAt) rfl <| ?_
   obtain ⟨fv, rfl⟩ := Option.isSome_iff_exists.1 hfs
   have hfv := hfo fv rfl
   refine zK ck_57 rfl ?_
   intro w1 hS
   refine (end1_c w0 w1 g p4 t E04 E14 (EF ++ (KF ++ (.row g8 (fltL (fltOf (some fv)).1 (fltOf (some fv)).2.1 (fltOf (some fv)).2.2) :: (Em ++ (K ++ L))))) d4 hA4 hG (by rw [hnt]; exact hS.permK ) fv.1 fv.2.1 fv.2.2 (by have := hfv.1; constructor <;> omega) (by have := hfv.2.1; constructor <;> omega) (by have := hfv.2.2; omega)).mono ?_
   rintro e w' ⟨ad2, c2, gs, EG, KG, p2, E02, E12, d2, rfl, hV2, heg, hA2, hS'⟩
   have hgl := efs_len heg
   have hgb : gs.length ≤ 3 := (by rw [hgl]; exact endE_len _ _ _ _ _)
   have hn2 : (t.gone 1).now = s.now := (gone_now _ _).trans hnt
   rw [hn2] at hS'
   refine ⟨_, EF ++ (EG ++ (KG ++ (KF ++ (.row g p2.cells :: (E02 ++ (E12 ++ d2.L p2.gC s.now (.row g8 (fltL (fltOf (some fv)).1 (fltOf (some fv)).2.1 (fltOf (some fv)).2.2) :: (Em ++ (K ++ L))))))))), rfl, hS'.permK , ?_⟩
   refine WL.appendL rfl rfl rfl Tryz.underlying46 Tryz.underlying46 sz_54 by_54 zero_54 rfl rfl hV4.1 (new := efsL gs) (hV2.1.src (fun e he => List.mem_append_right _ (List.mem_append_left _ he)) |> fun f h => (f (by rw [efsL_len]; omega)).elim fun b1 h1 => h1.elim fun o1 h2 => ⟨b1, o1, h2.1, fun w hS => h2.2 _ _ w hS⟩) (efsL_len gs) (efsL_one gs) (by omega) (.none rfl) rfl rfl ?_
   intro ad58 c58 E58 hV58 hr58
   rw [efsL_app] at hV58
   rw [show fs.length + gs.length = (fs ++ gs).length from List.length_append.symm] at hV58 ⊢
   refine zA rfl <| zR <| zM rfl <| zA rfl <| zN <| cE <| tR Tryz.results15 rfl <| ?_
   have hz4 : (t.c 1).st ≠ 0 := fun hh => of_decide_eq_true hth5 (hst4.trans hh)
   have e2 : feedS s 1 bs = (t.gone 1, fs.map EfL.d ++ endE t 1 fv.1 fv.2.1 fv.2.2) := (by rw [e1]; unfold endF; rw [if_neg hz4])
   rw [e2]
   refine fun w' h => ⟨ad58, c58, fs ++ gs, E58, KG ++ KF, p2, E02, E12, d2, rfl, ⟨hV58, fun e he => ?_⟩, by rw [List.map_append, heg], hA2, by dsimp only; rw [hn2]; exact h.dropK (EG ++ (.row g8 (fltL (fltOf (some fv)).1 (fltOf (some fv)).2.1 (fltOf (some fv)).2.2) :: (Em ++ K))) ⟩
   rcases List.mem_append.1 he with he | he
   · exact (hV4.2 e he).mono fun x hx => List.mem_append_right _ hx
   · exact (hV2.2 e he).mono fun x hx => List.mem_append_left _ hx

theorem PeAt.st {g : Nat} {p : PeL} {s : Se} {E0 E1 : List Ent} {d : Ck} (hA : PeAt g p s E0 E1 d) (n : Nat) : (p.c n).st = (s.c n).st := by
  have h0 : p.c0.m = s.c0 := (congrArg Se.c0 hA.eq :)
  have h1 : p.c1.m = s.c1 := (congrArg Se.c1 hA.eq :)
  unfold PeL.c Se.c
  split
  · exact (congrArg CnM.st h0 :)
  · exact (congrArg CnM.st h1 :)
def Se.Fit (s : Se) : Prop := ∀ n, n < 2 → (s.c n).hold = 0 ∨ 3 ≤ (s.c n).hold
def dueV (now : Int) (n : Nat) (later : Int) : Int := if maxT ≤ now ∧ n ≠ 1 ∧ n ≠ 2 then -1 else min (now + later) maxT


theorem feedM_one {m : MsL} (h : msgC m = 0) (hI : m.In) : feedM [] (msgB m) = ([bareD m], none, []) := by
  obtain ⟨j, rest, hj, e, _, hz⟩ := feedM_prefix [m] [] (msgB m) [] (fun x hx => by obtain rfl := List.mem_singleton.1 hx; exact ⟨h, hI⟩) (by unfold flatB; rw [List.flatMap_cons, List.flatMap_nil])
  obtain ⟨rfl, rfl⟩ := hz rfl
  exact e
theorem openM_code {a h i : Int} (ha : 1 ≤ a ∧ a ≤ 65535) (hh : h = 0 ∨ 3 ≤ h ∧ h ≤ 65535) (hi : i ≠ 0) : msgC (openM a h i) = 0 := by
  have e1 : badO (openM a h i) = false := by
    unfold badO
    exact decide_eq_false (show ¬ (a < 1 ∨ 65535 < a ∨ (h ≠ 0 ∧ (h < 3 ∨ 65535 < h)) ∨ i = 0 ∨ 32 < 0) by omega)
  have e2 : bodC (openM a h i) = 0 := by
    show openC (openM a h i) = 0
    unfold openC
    rw [e1]
    rfl
  have e3 : (bodB (openM a h i)).length = 10 := by
    show (openB (openM a h i)).length = 10
    unfold openB
    simp only [List.length_append, numB_len, List.length_cons, List.length_nil]
    rfl
  unfold msgC
  rw [if_pos e2, if_neg (by omega)]
theorem noteM_code {C S : Int} {d : ByteArray} (hC : 1 ≤ C ∧ C ≤ 255) (hS : 0 ≤ S ∧ S ≤ 255) (hd : d.size ≤ 4075) : msgC (noteM C S d) = 0 := by
  have e2 : bodC (noteM C S d) = 0 := by
    show noteC (noteM C S d) = 0
    show (if C < 1 ∨ 255 < C ∨ S < 0 ∨ 255 < S then (1 : Int) else if 4096 < d.size then 6 else 0) = 0
    rw [if_neg (show ¬ (C < 1 ∨ 255 < C ∨ S < 0 ∨ 255 < S) by omega), if_neg (show ¬ 4096 < d.size by omega)]
  have e3 : (bodB (noteM C S d)).length = 2 + d.size := by
    show (noteB (noteM C S d)).length = _
    unfold noteB
    rw [List.length_append, strI_len]
    rfl
  unfold msgC
  rw [if_pos e2, if_neg (by omega)]
theorem ka_code : msgC (MsL.zero 4) = 0 := by decide
theorem sendE_ok {n : Int} {m : MsL} (h : msgC m = 0) : sendE n m = [⟨2, n, msgB m, (MsL.zero 0).d⟩] := if_pos h
theorem noteM_in' {C S : Int} {d : ByteArray} (hC : 1 ≤ C ∧ C ≤ 255) (hS : 0 ≤ S ∧ S ≤ 255) (hd : d.size ≤ 4075) : (noteM C S d).In := noteM_in (by constructor <;> omega) (by constructor <;> omega) (by omega)

theorem efs_kind {fs : List EfL} {es : List EfD} (h : fs.map EfL.d = es) : fs.map EfL.kind = es.map EfD.kind := by
  rw [← h, List.map_map]; rfl
theorem openS_ok {s : Se} {n : Nat} {A H j : Int} (h1 : A = s.their) (h2 : j ≠ s.id) (h3 : (s.c (1 - n)).st ≠ 5) (h4 : (s.c (1 - n)).st ≠ 4) : openS s n A H j = (s.confirm n H j, sendE n (MsL.zero 4)) := (if_neg (fun hh => hh h1)).trans ((if_neg h2).trans ((if_neg h3).trans (if_neg h4)))
theorem hearD_open {s : Se} {n : Nat} {m : MsD} (h1 : m.kind = 1) (h2 : (s.c n).st = 3) : hearD s n m = openS s n m.asn m.hold m.id := (if_neg (by omega)).trans (if_pos ⟨h1, h2⟩)
theorem hearD_estab {s : Se} {n : Nat} {m : MsD} (h1 : m.kind = 4) (h2 : (s.c n).st = 4) : hearD s n m = (s.establish n, estabE s n) := (if_neg (by omega)).trans ((if_neg (by omega)).trans (if_pos ⟨h1, h2⟩))
theorem estab_one {s t : Se} {n : Nat} (h1 : s.up5 n = t) (h2 : (t.c (1 - n)).st = 0) : s.establish n = t ∧ estabE s n = [ef 4 n] := by
  subst h1
  exact ⟨if_pos h2, by unfold estabE; rw [if_pos h2]; rfl⟩
theorem confirm_on {s : Se} {n : Nat} {H j : Int} (h : min s.hold H ≠ 0) : s.confirm n H j = ((s.conf4 n H j).alive n).kept n := if_neg h
theorem alive_on {s : Se} {n : Nat} (h : (s.c n).hold ≠ 0) : s.alive n = s.due (1 + n) (s.c n).hold := if_neg h
theorem kept_on {s : Se} {n : Nat} (h : (s.c n).hold ≠ 0) : s.kept n = s.due (3 + n) ((s.c n).hold.tdiv 3) := if_neg h
section
variable (a i t h r : Int)
def sA : Se := ⟨a, i, t, h, r, 1, CnM.zero, CnM.zero, 0, [r, -1, -1, -1, -1]⟩
def sB : Se := ⟨a, i, t, h, r, 2, sentC, CnM.zero, 0, [-1, 240, -1, -1, -1]⟩
def cn4 (H j : Int) : CnM := ⟨4, [], 1, 0, 0, ⟨#[]⟩, H, j⟩
def cn5 (H j : Int) : CnM := ⟨5, [], 2, 0, 0, ⟨#[]⟩, H, j⟩
def sC (H j : Int) : Se := ⟨a, i, t, h, r, 2, cn4 H j, CnM.zero, 0, [-1, H, -1, H.tdiv 3, -1]⟩
def sD (H j : Int) : Se := ⟨a, i, t, h, r, 2, cn5 H j, CnM.zero, 0, [-1, H, -1, H.tdiv 3, -1]⟩
variable {a i t h r : Int}
theorem dueV_0 {n : Nat} {l : Int} (h0 : l ≤ 65535) : dueV 0 n l = l := by
  unfold dueV maxT
  rw [if_neg (by omega)]
  omega
theorem dial_new (hr : r ≤ 65535) : (Se.new a i t h r).dial = sA a i t h r := by
  show (⟨a, i, t, h, r, 1, CnM.zero, CnM.zero, 0, [dueV 0 0 r, -1, -1, -1, -1]⟩ : Se) = _
  rw [dueV_0 hr]
  rfl
theorem up_sA : (sA a i t h r).up 0 = sB a i t h r ∧ upE (sA a i t h r) 0 = sendE 0 (openM a h i) := by
  have hn : ¬ upNo (sA a i t h r) 0 := by
    rintro (h | h | ⟨_, h⟩)
    · exact absurd (show (1 : Int) = 0 from h) (by decide)
    · exact h rfl
    · exact h rfl
  exact ⟨(if_neg hn).trans rfl, if_neg hn⟩
theorem feedS_one {s : Se} {n : Nat} {m : MsL} (h0 : (s.c n).st ≠ 0) (hw : (s.c n).wait = []) (h : msgC m = 0) (hI : m.In) : feedS s n (msgB m) = hearD (s.set n { s.c n with wait := [], count := (s.c n).count + 1, fc := 0, fs := 0, fd := ⟨#[]⟩ }) n (bareD m) := by
  have e1 : feedM [] ((s.c n).wait ++ msgB m) = ([bareD m], none, []) := by rw [hw, List.nil_append]; exact feedM_one h hI
  unfold feedS
  rw [if_neg h0]
  have e2 : s.fed n (msgB m) = s.set n { s.c n with wait := [], count := (s.c n).count + 1, fc := 0, fs := 0, fd := ⟨#[]⟩ } := by
    unfold Se.fed CnM.fed
    rw [e1]
    rfl
  rw [e2, e1]
  dsimp only
  generalize he : s.set n _ = s'
  have e3 : (s'.c n).st = (s.c n).st := by
    rw [← he]
    unfold Se.set Se.c
    split <;> rfl
  have e4 : heardD n s' [bareD m] = hearD s' n (bareD m) := by
    unfold heardD
    rw [if_neg (by rw [e3]; exact h0)]
    unfold heardD
    rw [List.append_nil]
  rw [e4]
  unfold endF
  split <;> rfl
theorem feed_sB {A H j : Int} (hc : msgC (openM A H j) = 0) (hI : (openM A H j).In) : feedS (sB a i t h r) 0 (msgB (openM A H j)) = openS ⟨a, i, t, h, r, 2, ⟨3, [], 1, 0, 0, ⟨#[]⟩, 0, 0⟩, CnM.zero, 0, [-1, 240, -1, -1, -1]⟩ 0 A H j := by
  rw [feedS_one (s := sB a i t h r) (n := 0) (show (3 : Int) ≠ 0 by decide) rfl hc hI]
  exact hearD_open rfl rfl
theorem confirm_sB {H j : Int} (hm : 3 ≤ min h H) (hh : min h H ≤ 65535) : Se.confirm ⟨a, i, t, h, r, 2, ⟨3, [], 1, 0, 0, ⟨#[]⟩, 0, 0⟩, CnM.zero, 0, [-1, 240, -1, -1, -1]⟩ 0 H j = sC a i t h r (min h H) j := by
  rw [confirm_on (show min h H ≠ 0 by omega)]
  refine (congrArg (fun z => Se.kept z 0) (alive_on ?_)).trans ?_
  · show min h H ≠ 0; omega
  refine (kept_on ?_).trans ?_
  · show min h H ≠ 0; omega
  show (⟨a, i, t, h, r, 2, cn4 (min h H) j, CnM.zero, 0, [-1, dueV 0 1 (min h H), -1, dueV 0 3 ((min h H).tdiv 3), -1]⟩ : Se) = _
  rw [dueV_0 hh, dueV_0 (tdiv3 (by omega) hh).2]
  rfl
theorem feed_sC {H j : Int} (hm : 3 ≤ H) (hh : H ≤ 65535) : feedS (sC a i t h r H j) 0 (msgB (MsL.zero 4)) = (sD a i t h r H j, [ef 4 0]) := by
  rw [feedS_one (s := sC a i t h r H j) (n := 0) (show (4 : Int) ≠ 0 by decide) rfl ka_code (zeroM_in ⟨by decide, by decide⟩)]
  refine (hearD_estab rfl rfl).trans ?_
  have e1 := estab_one (s := ⟨a, i, t, h, r, 2, ⟨4, [], 2, 0, 0, ⟨#[]⟩, H, j⟩, CnM.zero, 0, [-1, H, -1, H.tdiv 3, -1]⟩) (n := 0) (t := sD a i t h r H j) (by
    refine (alive_on (s := ⟨a, i, t, h, r, 2, ⟨5, [], 2, 0, 0, ⟨#[]⟩, H, j⟩, CnM.zero, 0, [-1, H, -1, H.tdiv 3, -1]⟩) (n := 0) (show H ≠ 0 by omega)).trans ?_
    show (⟨a, i, t, h, r, 2, cn5 H j, CnM.zero, 0, [-1, dueV 0 1 H, -1, H.tdiv 3, -1]⟩ : Se) = _
    rw [dueV_0 hh]
    rfl) rfl
  exact Prod.ext e1.1 e1.2
end
section
variable {a i t h r : Int} (w0 w : World) (g : Nat) (p : PeL) (E0 E1 L : List Ent) (d : Ck)
theorem start_new (hA : PeAt g p (Se.new a i t h r) E0 E1 d) (hS0 : St (fun _ => False) w0 w (.row g p.cells :: (E0 ++ (E1 ++ d.L p.gC 0 L)))) (hr : r ≤ 65535) : Calls Tryz.prog 13 #[.pointer (some ⟨g, 0, none⟩)] w fun e w' => EffC w0 w' g [ef 1 0] (sA a i t h r) L e := by
  have hc := start_c w0 w g p (Se.new a i t h r) E0 E1 L d hA hS0
  rw [if_pos (show (Se.new a i t h r).base = 0 from rfl), if_pos (show (Se.new a i t h r).base = 0 from rfl), dial_new hr] at hc
  exact hc
theorem up_new (hA : PeAt g p (sA a i t h r) E0 E1 d) (hG : GF w0) (hS0 : St (fun _ => False) w0 w (.row g p.cells :: (E0 ++ (E1 ++ d.L p.gC 0 L)))) (hok : confOk a i t h r) : Calls Tryz.prog 14 #[.pointer (some ⟨g, 0, none⟩), .int .i64 0] w fun e w' => EffC w0 w' g [⟨2, 0, msgB (openM a h i), (MsL.zero 0).d⟩] (sB a i t h r) L e := by
  have hc := up0_c w0 w g p (sA a i t h r) E0 E1 L d hA hG hS0 (by have := hok.1; show -9223372036854775808 ≤ a ∧ a ≤ 9223372036854775807; omega)
  rw [up_sA.1, up_sA.2, sendE_ok (openM_code hok.1 hok.2.2.2.1 hok.2.2.1)] at hc
  exact hc
end

theorem openM_in' {a h i : Int} (ha : 1 ≤ a ∧ a ≤ 65535) (hh : I64 h) (hi : U32 i) : (openM a h i).In := openM_in (by constructor <;> omega) hh hi
theorem msgB_le {m : MsL} (h : msgC m = 0) : (msgB m).length ≤ 4096 := by
  have := (msgC_bod h).2
  rw [msgB_len]; omega
theorem feed_sB_ok {a i t h r H j : Int} (hc : msgC (openM t H j) = 0) (hI : (openM t H j).In) (hj : j ≠ i) (hm : 3 ≤ min h H) (hh : min h H ≤ 65535) : feedS (sB a i t h r) 0 (msgB (openM t H j)) = (sC a i t h r (min h H) j, [⟨2, 0, msgB (MsL.zero 4), (MsL.zero 0).d⟩]) := by
  rw [feed_sB hc hI]
  refine (openS_ok rfl hj ?_ ?_).trans ?_
  · show (0 : Int) ≠ 5; decide
  · show (0 : Int) ≠ 4; decide
  · rw [confirm_sB hm hh]
    exact congrArg (Prod.mk _) (sendE_ok ka_code)
set_option maxHeartbeats 2000000 in
theorem Head10_c (w0 : World) (hG : GF w0) (hZ : GZ w0) : Calls Tryz.prog 9 #[] w0 fun e w' => e = .returned (.bool true) ∧ Frm (fun _ => False) w0 w' := by
  have hok : confOk 65000 5 65001 90 10 := by decide
  have hoc : msgC (openM 65001 30 9) = 0 := openM_code (by decide) (by decide) (by decide)
  have hoI : (openM 65001 30 9).In := openM_in' (by decide) ⟨by decide, by decide⟩ ⟨by decide, by decide⟩
  have hol : (msgB (openM 65001 30 9)).length ≤ 4096 := msgB_le hoc
  have hkI : (MsL.zero 4).In := zeroM_in ⟨by decide, by decide⟩
  have hkl : (msgB (MsL.zero 4)).length ≤ 4096 := msgB_le ka_code
  have f1 : feedS (sB 65000 5 65001 90 10) 0 (msgB (openM 65001 30 9)) = (sC 65000 5 65001 90 10 30 9, [⟨2, 0, msgB (MsL.zero 4), (MsL.zero 0).d⟩]) := feed_sB_ok (h := 90) hoc hoI (by decide) (by decide) (by decide)
  have f2 : feedS (sC 65000 5 65001 90 10 30 9) 0 (msgB (MsL.zero 4)) = (sD 65000 5 65001 90 10 30 9, [ef 4 0]) := feed_sC (by decide) (by decide)
  refine enter (vs := []) Tryz.func9 rfl Tryz.ntmps9 rfl (St.start (fun _ => False) w0) ?_
  refine cR <| zA rfl <| zR <| zK ck_12 rfl <| ?_
  intro w hS
  refine Calls.then (lconf_c w) hS ?_
  refine zK ck_11 rfl ?_
  intro w1 hS
  refine (new_c w0 w1 [] hS 65000 5 65001 90 10 hok ⟨by decide, by decide⟩).mono ?_
  rintro e w' ⟨g, p, d, rfl, hA, hS'⟩
  refine ⟨_, _, rfl, hS', ?_⟩
  refine zM rfl <| zX rfl <| zX rfl <| zA rfl <| zA rfl <| zN <| cS <| cR <| zM rfl <| ?_
  refine zV ((v_neq rfl rfl rfl).f ((by decide))) rfl ?_
  refine zM rfl <| zS (v_move rfl rfl) rfl <| zS (v_eql_nil false rfl rfl Tryz.underlying40 rfl) rfl <| zQ rfl <| zM rfl <| zS (v_move rfl rfl) rfl <| WL.call rfl rfl ck_13 (.some rfl rfl rfl) rfl rfl <| ?_
  intro w1 hS
  refine (start_new w0 w1 g p [] [] [] d hA hS (by decide)).mono ?_
  rintro e w' ⟨ad1, c1, fs1, EF1, KF1, p1, E01, E11, d1, rfl, hV1, he1, hA1, hS'⟩
  refine ⟨_, EF1 ++ (KF1 ++ (.row g p1.cells :: (E01 ++ (E11 ++ d1.L p1.gC 0 [])))), rfl, hS', ?_⟩
  refine WL.buildSlice rfl rfl Tryz.underlying32 sz_3 zero_3 rfl (by decide) rfl (.some rfl rfl rfl) rfl rfl ?_
  intro g17 hg17
  refine WL.as (L' := .row g17 [.int .i64 1] :: (EF1 ++ (KF1 ++ (.row g p1.cells :: (E01 ++ (E11 ++ d1.L p1.gC 0 [])))))) rfl <| WL.call rfl rfl ck_16 (.some rfl rfl rfl) rfl rfl <| ?_
  intro w hS
  refine Calls.then (kinds_c w ad1 c1 fs1 EF1 hV1.1 (fun e he => hS.holds e (by simp [Ck.L, clkL, he])) (some ⟨g17, 0, none⟩) 1 [1] (fun _ => ⟨g17, 0, rfl, allAt w hS⟩) (efs_kind he1) (by rw [efs_len he1]; decide)) hS ?_
  refine zS (v_not rfl rfl rfl) rfl <| zQ rfl <| zM rfl <| zS (v_move rfl rfl) rfl <| WL.call rfl rfl ck_14 (.some rfl rfl rfl) rfl rfl <| ?_
  intro w1 hS
  refine (up_new w0 w1 g p1 E01 E11 [] d1 hA1 hG (hS.dropK (.row g17 [.int .i64 1] :: (EF1 ++ KF1)) ) hok).mono ?_
  rintro e w' ⟨ad2, c2, fs2, EF2, KF2, p2, E02, E12, d2, rfl, hV2, he2, hA2, hS'⟩
  refine ⟨_, EF2 ++ (KF2 ++ (.row g p2.cells :: (E02 ++ (E12 ++ d2.L p2.gC 0 [])))), rfl, hS', ?_⟩
  refine WL.buildSlice rfl rfl Tryz.underlying32 sz_3 zero_3 rfl (by decide) rfl (.some rfl rfl rfl) rfl rfl ?_
  intro g24 hg24
  refine WL.as (L' := .row g24 [.int .i64 2] :: (EF2 ++ (KF2 ++ (.row g p2.cells :: (E02 ++ (E12 ++ d2.L p2.gC 0 [])))))) rfl <| WL.call rfl rfl ck_16 (.some rfl rfl rfl) rfl rfl <| ?_
  intro w hS
  refine Calls.then (kinds_c w ad2 c2 fs2 EF2 hV2.1 (fun e he => hS.holds e (by simp [Ck.L, clkL, he])) (some ⟨g24, 0, none⟩) 1 [2] (fun _ => ⟨g24, 0, rfl, allAt w hS⟩) (efs_kind he2) (by rw [efs_len he2]; decide)) hS ?_
  refine zS (v_not rfl rfl rfl) rfl <| zQ rfl <| zM rfl <| zS (v_move rfl rfl) rfl <| WL.call rfl rfl ck_22 (.some rfl rfl rfl) rfl rfl <| ?_
  intro w1 hS
  refine (lopen_c w1 9 30 ⟨by decide, by decide⟩ ⟨by decide, by decide⟩ (hG.keep (fun h => h) hS)).mono ?_
  rw [if_pos hoc]
  rintro e w' ⟨_, rfl, ad3, c3, E3, rfl, hV3, hS'⟩
  refine ⟨_, _, rfl, hS.join hS', ?_⟩
  refine WL.call rfl rfl ck_15 (.some rfl rfl rfl) rfl rfl ?_
  intro w1 hS
  have hf := feed0_c w0 w1 g p2 (sB 65000 5 65001 90 10) E02 E12 E3 d2 hA2 hG hZ (show St (fun _ => False) w0 w1 (.row g p2.cells :: (E02 ++ (E12 ++ d2.L p2.gC 0 E3))) from hS.dropK (.row g24 [.int .i64 2] :: (EF2 ++ KF2)) ) ad3 c3 (msgB (openM 65001 30 9)) (fun w h => hV3.cellsAt (fun e he => h.holds e (by simp [Ck.L, clkL, he]))) (msgB_bys hoI hoc) (by omega) ⟨rfl, rfl, rfl⟩ (by decide)
  rw [f1] at hf
  refine hf.mono ?_
  rintro e w' ⟨ad4, c4, fs4, EF4, KF4, p4, E04, E14, d4, rfl, hV4, he4, hA4, hS'⟩
  refine ⟨_, EF4 ++ (KF4 ++ (.row g p4.cells :: (E04 ++ (E14 ++ d4.L p4.gC 0 E3)))), rfl, hS', ?_⟩
  refine WL.buildSlice rfl rfl Tryz.underlying32 sz_3 zero_3 rfl (by decide) rfl (.some rfl rfl rfl) rfl rfl ?_
  intro g32 hg32
  refine WL.as (L' := .row g32 [.int .i64 2] :: (EF4 ++ (KF4 ++ (.row g p4.cells :: (E04 ++ (E14 ++ d4.L p4.gC 0 E3)))))) rfl <| WL.call rfl rfl ck_16 (.some rfl rfl rfl) rfl rfl <| ?_
  intro w hS
  refine Calls.then (kinds_c w ad4 c4 fs4 EF4 hV4.1 (fun e he => hS.holds e (by simp [Ck.L, clkL, he])) (some ⟨g32, 0, none⟩) 1 [2] (fun _ => ⟨g32, 0, rfl, allAt w hS⟩) (efs_kind he4) (by rw [efs_len he4]; decide)) hS ?_
  refine zS (v_not rfl rfl rfl) rfl <| zQ rfl <| zN <| cF rfl <| cK <| eN <| cR <| zM rfl <| ?_
  have b4 : p4.base = 2 := (congrArg Se.base hA4.eq :)
  have s4 : p4.c0.st = 4 := (congrArg (fun z : Se => z.c0.st) hA4.eq :)
  have t4 : p4.c1.st = 0 := (congrArg (fun z : Se => z.c1.st) hA4.eq :)
  refine zK ck_18 rfl ?_
  intro w hS
  refine Calls.then (state_c w g p4 (hS.row (g := g))) hS ?_
  refine zV ((v_eql rfl rfl rfl).t ((by rw [b4, s4, t4]; decide))) rfl ?_
  refine zM rfl <| zS (v_move rfl rfl) rfl <| zS (v_build rfl rfl zero_39 plc_39 rfl) rfl <| WL.call rfl rfl ck_23 (.some rfl rfl rfl) rfl rfl <| ?_
  intro w1 hS
  refine (lbytes_c w1 (MsL.zero 4) (zero4_at _) hkI (hG.keep (fun h => h) hS) (Nat.zero_le _) (Nat.zero_le _)).mono ?_
  rw [if_pos ka_code]
  rintro e w' ⟨_, rfl, ad5, c5, E5, rfl, hV5, hS'⟩
  refine ⟨_, _, rfl, hS.join hS', ?_⟩
  refine WL.call rfl rfl ck_15 (.some rfl rfl rfl) rfl rfl ?_
  intro w1 hS
  have hf := feed0_c w0 w1 g p4 (sC 65000 5 65001 90 10 30 9) E04 E14 E5 d4 hA4 hG hZ (show St (fun _ => False) w0 w1 (.row g p4.cells :: (E04 ++ (E14 ++ d4.L p4.gC 0 E5))) from hS.dropK (.row g32 [.int .i64 2] :: (EF4 ++ (KF4 ++ E3))) ) ad5 c5 (msgB (MsL.zero 4)) (fun w h => hV5.cellsAt (fun e he => h.holds e (by simp [Ck.L, clkL, he]))) (msgB_bys hkI ka_code) (by omega) ⟨rfl, rfl, rfl⟩ (by decide)
  rw [f2] at hf
  refine hf.mono ?_
  rintro e w' ⟨ad6, c6, fs6, EF6, KF6, p6, E06, E16, d6, rfl, hV6, he6, hA6, hS'⟩
  refine ⟨_, EF6 ++ (KF6 ++ (.row g p6.cells :: (E06 ++ (E16 ++ d6.L p6.gC 0 E5)))), rfl, hS', ?_⟩
  refine WL.buildSlice rfl rfl Tryz.underlying32 sz_3 zero_3 rfl (by decide) rfl (.some rfl rfl rfl) rfl rfl ?_
  intro g44 hg44
  refine WL.as (L' := .row g44 [.int .i64 4] :: (EF6 ++ (KF6 ++ (.row g p6.cells :: (E06 ++ (E16 ++ d6.L p6.gC 0 E5)))))) rfl <| WL.call rfl rfl ck_16 (.some rfl rfl rfl) rfl rfl <| ?_
  intro w hS
  refine Calls.then (kinds_c w ad6 c6 fs6 EF6 hV6.1 (fun e he => hS.holds e (by simp [Ck.L, clkL, he])) (some ⟨g44, 0, none⟩) 1 [4] (fun _ => ⟨g44, 0, rfl, allAt w hS⟩) (efs_kind he6) (by rw [efs_len he6]; decide)) hS ?_
  refine zP rfl <| zM rfl <| zS (v_move rfl rfl) rfl <| ?_
  have b6 : p6.base = 2 := (congrArg Se.base hA6.eq :)
  have s6 : p6.c0.st = 5 := (congrArg (fun z : Se => z.c0.st) hA6.eq :)
  have t6 : p6.c1.st = 0 := (congrArg (fun z : Se => z.c1.st) hA6.eq :)
  have i6 : p6.c0.id = 9 := (congrArg (fun z : Se => z.c0.id) hA6.eq :)
  refine WL.call rfl rfl ck_18 (.some rfl rfl rfl) rfl rfl ?_
  intro w hS
  refine Calls.then (state_c w g p6 (hS.row (g := g))) hS ?_
  refine zS ((v_eql rfl rfl rfl).t ((by rw [b6, s6, t6]; decide))) rfl ?_
  refine zP rfl <| zM rfl <| zS (v_move rfl rfl) rfl <| WL.call rfl rfl ck_21 (.some rfl rfl rfl) rfl rfl <| ?_
  intro w hS
  refine Calls.then (their_c w g p6 (hS.row (g := g))) hS ?_
  refine zS ((v_eql rfl rfl rfl).t ((by unfold theirP; rw [if_pos s6]; exact i6))) rfl ?_
  refine zP rfl <| zA rfl <| zN <| cE <| tR Tryz.results9 rfl <| ?_
  exact fun w' h => ⟨rfl, h.frm⟩

structure Keeps (P : Se → Prop) : Prop where
  free : ∀ s b now D, P s → P { s with base := b, now := now, D := D }
  zero : ∀ s n, n < 2 → P s → P (s.set n CnM.zero)
  sent : ∀ s n, n < 2 → P s → P (s.set n sentC)
  conf : ∀ s n h i, n < 2 → (h = 0 ∨ 3 ≤ h) → P s → P (s.set n { s.c n with st := 4, hold := min s.hold h, id := i })
  est : ∀ s n, n < 2 → (s.c n).st ≠ 0 → P s → P (s.set n { s.c n with st := 5 })
section
variable {P : Se → Prop} (K : Keeps P)
include K
end
def CnM.Wf (N : Int) (c : CnM) : Prop := (c.hold = 0 ∨ 3 ≤ c.hold) ∧ (c.st = 0 → c = CnM.zero) ∧ c.count ≤ N
structure Se.Wf (N : Int) (s : Se) : Prop where
  asn : I64 s.asn
  hold : s.hold = 0 ∨ 3 ≤ s.hold
  c : ∀ n, n < 2 → (s.c n).Wf N
def Clean (n : Nat) (s : Se) : Prop := (s.c n).fc = 0 ∧ (s.c n).fs = 0 ∧ (s.c n).fd = ⟨#[]⟩
structure Se.Fine (N : Int) (s : Se) : Prop where
  wf : s.Wf N
  c0 : Clean 0 s
  c1 : Clean 1 s

section
variable (w0 w : World) (g : Nat) (p : PeL) (s : Se) (E0 E1 L : List Ent) (d : Ck) (hA : PeAt g p s E0 E1 d) (hS0 : St (fun _ => False) w0 w (.row g p.cells :: (E0 ++ (E1 ++ d.L p.gC s.now L)))) (n : Int) (h : n ≠ 0 ∧ n ≠ 1)
include hA hS0 h
theorem up_out : Calls Tryz.prog 14 #[.pointer (some ⟨g, 0, none⟩), .int .i64 n] w fun e w' => EffC w0 w' g [] s L e := by
  refine enter Tryz.func14 rfl Tryz.ntmps14 rfl hS0 ?_
  refine cR <| zA rfl <| zN <| cS <| cR <| zM rfl <| zV (v_eql_nil false rfl rfl Tryz.underlying40 rfl) rfl <| zM rfl <| zS (v_move rfl rfl) rfl <| zS ((v_neq rfl rfl rfl).t (h.1)) rfl <| zS (v_move rfl rfl) rfl <| zS (v_move rfl rfl) rfl <| ?_
  refine zS ((v_neq rfl rfl rfl).t (h.2)) rfl <| zS (v_pick_t rfl rfl rfl) rfl <| zQ rfl <| zN <| cT rfl <| cR <| zA rfl <| zN <| cE <| eR <| tR Tryz.results14 rfl <| ?_
  exact fun w' h => ⟨none, 0, [], [], [], p, E0, E1, d, rfl, ⟨Vec.nil 23, fun e he => by cases he⟩, rfl, hA, h⟩
theorem down_out : Calls Tryz.prog 20 #[.pointer (some ⟨g, 0, none⟩), .int .i64 n] w fun e w' => EffC w0 w' g [] s L e := by
  refine enter Tryz.func20 rfl Tryz.ntmps20 rfl hS0 ?_
  refine cR <| zA rfl <| zN <| cS <| cR <| zM rfl <| zM rfl <| zK ck_51 rfl <| ?_
  intro w hS
  refine Calls.then (there_out w g n h) hS ?_
  refine zN <| cF rfl <| cK <| eN <| cS <| cR <| zM rfl <| zV (v_eql_nil false rfl rfl Tryz.underlying40 rfl) rfl <| zM rfl <| zS (v_move rfl rfl) rfl <| zS ((v_neq rfl rfl rfl).t (h.1)) rfl <| zQ rfl <| zM rfl <| ?_
  iterate 5 refine WL.sk rfl ?_
  refine zP rfl <| zN <| cT rfl <| cR <| zA rfl <| zN <| cE <| eR <| tR Tryz.results20 rfl <| ?_
  exact fun w' h => ⟨none, 0, [], [], [], p, E0, E1, d, rfl, ⟨Vec.nil 23, fun e he => by cases he⟩, rfl, hA, h⟩
theorem feed_out (v : Value) : Calls Tryz.prog 15 #[.pointer (some ⟨g, 0, none⟩), .int .i64 n, v] w fun e w' => EffC w0 w' g [] s L e := by
  refine enter Tryz.func15 rfl Tryz.ntmps15 rfl hS0 ?_
  refine cR <| zA rfl <| zN <| cS <| cR <| zM rfl <| zM rfl <| zK ck_51 rfl <| ?_
  intro w hS
  refine Calls.then (there_out w g n h) hS ?_
  refine zV (v_not rfl rfl rfl) rfl <| zN <| cT rfl <| cR <| zA rfl <| zN <| cE <| eR <| tR Tryz.results15 rfl <| ?_
  exact fun w' h => ⟨none, 0, [], [], [], p, E0, E1, d, rfl, ⟨Vec.nil 23, fun e he => by cases he⟩, rfl, hA, h⟩
end
def upA (s : Se) (n : Int) : Se × List EfD := if n = 0 then (s.up 0, upE s 0) else if n = 1 then (s.up 1, upE s 1) else (s, [])
def downA (s : Se) (n : Int) : Se × List EfD := if n = 0 then (s.down 0, downE s 0) else if n = 1 then (s.down 1, downE s 1) else (s, [])
def feedA (s : Se) (n : Int) (bs : List Int) : Se × List EfD := if n = 0 then feedS s 0 bs else if n = 1 then feedS s 1 bs else (s, [])
section
variable (w0 w : World) (g : Nat) (p : PeL) (s : Se) (E0 E1 L : List Ent) (d : Ck) (hA : PeAt g p s E0 E1 d) (hG : GF w0) (hS0 : St (fun _ => False) w0 w (.row g p.cells :: (E0 ++ (E1 ++ d.L p.gC s.now L)))) (n : Int)
include hA hG hS0
theorem up_any (ha : I64 s.asn) : Calls Tryz.prog 14 #[.pointer (some ⟨g, 0, none⟩), .int .i64 n] w fun e w' => EffC w0 w' g (upA s n).2 (upA s n).1 L e := by
  unfold upA
  split
  · rename_i e; subst e; exact up0_c w0 w g p s E0 E1 L d hA hG hS0 ha
  split
  · rename_i e; subst e; exact up1_c w0 w g p s E0 E1 L d hA hG hS0 ha
  · exact up_out w0 w g p s E0 E1 L d hA hS0 n ⟨by assumption, by assumption⟩
omit hG in
theorem down_any : Calls Tryz.prog 20 #[.pointer (some ⟨g, 0, none⟩), .int .i64 n] w fun e w' => EffC w0 w' g (downA s n).2 (downA s n).1 L e := by
  unfold downA
  split
  · rename_i e; subst e; exact down0_c w0 w g p s E0 E1 L d hA hS0
  split
  · rename_i e; subst e; exact down1_c w0 w g p s E0 E1 L d hA hS0
  · exact down_out w0 w g p s E0 E1 L d hA hS0 n ⟨by assumption, by assumption⟩
theorem feed_any (hZ : GZ w0) {N : Int} (hF : s.Fine N) (hN : N ≤ 3000000000000000000) (ba : Option Addr) (bc : Nat) (bs : List Int) (hb : ∀ w, St (fun _ => False) w0 w (.row g p.cells :: (E0 ++ (E1 ++ d.L p.gC s.now L))) → CellsAt w ba (u8s bs)) (hB : Bys bs) (hn : bs.length ≤ 40000) :
    Calls Tryz.prog 15 #[.pointer (some ⟨g, 0, none⟩), .int .i64 n, .slice ba bs.length bc] w fun e w' => EffC w0 w' g (feedA s n bs).2 (feedA s n bs).1 L e := by
  unfold feedA
  split
  · rename_i e; subst e; exact feed0_c w0 w g p s E0 E1 L d hA hG hZ hS0 ba bc bs hb hB hn hF.c0 (Int.le_trans (hF.wf.c 0 (by decide)).2.2 hN)
  split
  · rename_i e; subst e; exact feed1_c w0 w g p s E0 E1 L d hA hG hZ hS0 ba bc bs hb hB hn hF.c1 (Int.le_trans (hF.wf.c 1 (by decide)).2.2 hN)
  · exact feed_out w0 w g p s E0 E1 L d hA hS0 n ⟨by assumption, by assumption⟩ _
end
theorem PeAt.waits {g : Nat} {p : PeL} {s : Se} {E0 E1 : List Ent} {d : Ck} (hA : PeAt g p s E0 E1 d) : ∀ k, k < 2 → Bys (s.c k).wait ∧ (s.c k).wait.length ≤ 4096 := fun k hk => by
  have h0 : p.c0.m = s.c0 := (congrArg Se.c0 hA.eq :)
  have h1 : p.c1.m = s.c1 := (congrArg Se.c1 hA.eq :)
  match k, hk with
  | 0, _ => exact ⟨by rw [show (s.c 0).wait = p.c0.rd.wait from (congrArg CnM.wait h0 :).symm]; exact hA.b0, hA.ok0.2.1⟩
  | 1, _ => exact ⟨by rw [show (s.c 1).wait = p.c1.rd.wait from (congrArg CnM.wait h1 :).symm]; exact hA.b1, hA.ok1.2.1⟩

structure PtD where
  to_ : Int
  n : Int
  bs : List Int
  end_ : Bool
structure Sys where
  x : Se
  y : Se
  mail : List PtD
  ups : Int
def ptOf (src : Int) (e : EfD) : List PtD := (if e.kind = 2 then [⟨1 - src, 1 - e.conn, e.bs, false⟩] else []) ++ (if e.kind = 3 then [⟨1 - src, 1 - e.conn, [], true⟩] else [])
def upOf (e : EfD) : Int := if e.kind = 4 then 1 else 0
def postD (src : Int) : List EfD → List PtD → List PtD
  | [], ms => ms
  | e :: es, ms => postD src es (ms ++ ptOf src e)
def upsD : List EfD → Int → Int
  | [], u => u
  | e :: es, u => upsD es (u + upOf e)
def Sys.at_ (σ : Sys) (src : Int) : Se := if src = 0 then σ.x else σ.y
def Sys.put (σ : Sys) (src : Int) (r : Se × List EfD) : Sys := ⟨if src = 0 then r.1 else σ.x, if src = 0 then σ.y else r.1, postD src r.2 σ.mail, upsD r.2 σ.ups⟩
def Sys.turn (σ : Sys) : Sys := match σ.mail with
  | [] => σ
  | m :: ms => ({ σ with mail := ms } : Sys).put m.to_ (if m.end_ = true then downA (σ.at_ m.to_) m.n else feedA (σ.at_ m.to_) m.n m.bs)
def Sys.turns (σ : Sys) : Nat → Sys
  | 0 => σ
  | k + 1 => (σ.turns k).turn
/-! ### How a session turns -/
def cn (st c h i : Int) : CnM := ⟨st, [], c, 0, 0, ⟨#[]⟩, h, i⟩
def ss (a i t : Int) (base : Int) (c0 c1 : CnM) (D : List Int) : Se := ⟨a, i, t, 9, 5, base, c0, c1, 0, D⟩
def oB (a i : Int) : List Int := msgB (openM a 9 i)
def kB : List Int := msgB (MsL.zero 4)
def nB : List Int := msgB (noteM 6 7 ⟨#[]⟩)
theorem feed_st0 {s : Se} {n : Nat} (h : (s.c n).st = 0) (bs : List Int) : feedS s n bs = (s, []) := if_pos h
theorem feed_msg {s : Se} {n : Nat} {m : MsL} {st c h i : Int} (hc : s.c n = cn st c h i) (h0 : st ≠ 0) (hm : msgC m = 0) (hI : m.In) : feedS s n (msgB m) = hearD (s.set n (cn st (c + 1) h i)) n (bareD m) := by
  rw [feedS_one (by rw [hc]; exact h0) (by rw [hc]; rfl) hm hI, hc]
  rfl
section
variable {a i t j base c : Int} {D : List Int}
theorem openIn {a i : Int} (ha : 1 ≤ a ∧ a ≤ 65535) (hi : 1 ≤ i ∧ i ≤ 4294967295) : msgC (openM a 9 i) = 0 ∧ (openM a 9 i).In := by
  exact ⟨openM_code ha (.inr ⟨by decide, by decide⟩) (by omega), openM_in (by unfold I64; omega) (by unfold I64; omega) (by unfold U32; omega)⟩
end

theorem hear_open {s : Se} {n : Nat} {a h i : Int} (hs : (s.c n).st = 3) : hearD s n (bareD (openM a h i)) = openS s n a h i := by
  have k1 : (bareD (openM a h i)).kind = 1 := rfl
  have k2 : (bareD (openM a h i)).asn = a := rfl
  have k3 : (bareD (openM a h i)).hold = h := rfl
  have k4 : (bareD (openM a h i)).id = i := rfl
  unfold hearD
  rw [k1, k2, k3, k4, if_neg (by decide), if_pos ⟨rfl, hs⟩]
theorem openS_plain {s : Se} {n : Nat} {a h i : Int} (h1 : a = s.their) (h2 : i ≠ s.id) (h3 : (s.c (1 - n)).st ≠ 5) (h4 : (s.c (1 - n)).st ≠ 4) : openS s n a h i = (s.confirm n h i, sendE n (MsL.zero 4)) := by
  unfold openS
  rw [if_neg (fun k => k h1), if_neg h2, if_neg h3, if_neg h4]
theorem openS_stay {s : Se} {n : Nat} {a h i : Int} (h1 : a = s.their) (h2 : i ≠ s.id) (h4 : (s.c (1 - n)).st = 4) (h5 : (if s.id < i then 1 else 0) = (n : Int)) : openS s n a h i = ((s.gone (1 - n)).confirm n h i, endE s (1 - n) 6 7 ⟨#[]⟩ ++ sendE n (MsL.zero 4)) := by
  unfold openS
  rw [if_neg (fun k => k h1), if_neg h2, if_neg (by rw [h4]; decide), if_pos h4, if_neg (fun k => k h5)]
theorem openS_go {s : Se} {n : Nat} {a h i : Int} (h1 : a = s.their) (h2 : i ≠ s.id) (h4 : (s.c (1 - n)).st = 4) (h5 : (if s.id < i then 1 else 0) ≠ (n : Int)) : openS s n a h i = (s.gone n, endE s n 6 7 ⟨#[]⟩) := by
  unfold openS
  rw [if_neg (fun k => k h1), if_neg h2, if_neg (by rw [h4]; decide), if_pos h4, if_pos h5]
def Sys.up (σ : Sys) (src n : Int) : Sys := σ.put src (upA (σ.at_ src) n)
theorem upA_go {s : Se} {n : Nat} {asn hold id : Int} (hn : n < 2) (h : ¬ upNo s n) (h1 : s.asn = asn) (h2 : s.hold = hold) (h3 : s.id = id) (hm : msgC (openM asn hold id) = 0) : upA s n = ((s.sent n).due (1 + n) 240, [⟨2, n, msgB (openM asn hold id), (MsL.zero 0).d⟩]) := by
  subst h1 h2 h3
  have e1 : s.up n = (s.sent n).due (1 + n) 240 := if_neg h
  have e2 : upE s n = [⟨2, n, msgB (openM s.asn s.hold s.id), (MsL.zero 0).d⟩] := (if_neg h).trans (sendE_ok hm)
  unfold upA
  match n, hn with
  | 0, _ => show (s.up 0, upE s 0) = _; rw [e1, e2]
  | 1, _ => show (s.up 1, upE s 1) = _; rw [e1, e2]
theorem cn_wf {N st c h i : Int} (h1 : h = 0 ∨ 3 ≤ h) (h2 : st = 0 → c = 0 ∧ h = 0 ∧ i = 0) (h3 : c ≤ N) : (cn st c h i).Wf N := ⟨h1, fun (k : st = 0) => by
  obtain ⟨rfl, rfl, rfl⟩ := h2 k
  subst k; rfl, h3⟩
theorem ss_fine {N asn i t base : Int} {st c h j st' c' h' j' : Int} {D : List Int} (h0 : I64 asn) (h1 : (cn st c h j).Wf N) (h2 : (cn st' c' h' j').Wf N) : (ss asn i t base (cn st c h j) (cn st' c' h' j') D).Fine N :=
  ⟨⟨h0, .inr (by show (3 : Int) ≤ 9; decide), fun n hn => by
    match n, hn with
    | 0, _ => exact h1
    | 1, _ => exact h2⟩, ⟨rfl, rfl, rfl⟩, ⟨rfl, rfl, rfl⟩⟩
structure PtOk (m : PtD) : Prop where
  bys : Bys m.bs
  len : m.bs.length ≤ 100
  to_ : m.to_ = 0 ∨ m.to_ = 1
  n : m.n = 0 ∨ m.n = 1
structure SysOk (σ : Sys) : Prop where
  x : σ.x.Fine 10
  y : σ.y.Fine 10
  m : ∀ p ∈ σ.mail, PtOk p
theorem ok_nil : ∀ p ∈ ([] : List PtD), PtOk p := fun p h => by cases h
theorem ok_cons {m : PtD} {ms : List PtD} (h : PtOk m) (hs : ∀ p ∈ ms, PtOk p) : ∀ p ∈ m :: ms, PtOk p := fun p hp => by
  rcases List.mem_cons.1 hp with rfl | hp
  · exact h
  · exact hs p hp
theorem ok_open {t n a i : Int} (ha : 1 ≤ a ∧ a ≤ 65535) (hi : 1 ≤ i ∧ i ≤ 4294967295) (ht : t = 0 ∨ t = 1) (hn : n = 0 ∨ n = 1) : PtOk ⟨t, n, oB a i, false⟩ := by
  obtain ⟨hc, hI⟩ := openIn ha hi
  refine ⟨msgB_bys hI hc, ?_, ht, hn⟩
  have e3 : (bodB (openM a 9 i)).length = 10 := by
    show (openB (openM a 9 i)).length = 10
    unfold openB
    simp only [List.length_append, numB_len, List.length_cons, List.length_nil]
    rfl
  show (msgB (openM a 9 i)).length ≤ 100
  rw [msgB_len, e3]; decide
theorem ok_ka {t n : Int} (ht : t = 0 ∨ t = 1) (hn : n = 0 ∨ n = 1) : PtOk ⟨t, n, kB, false⟩ := ⟨msgB_bys (zeroM_in ⟨by decide, by decide⟩) ka_code, by show (msgB (MsL.zero 4)).length ≤ 100; rw [msgB_len]; decide, ht, hn⟩
theorem ok_note {t n : Int} (ht : t = 0 ∨ t = 1) (hn : n = 0 ∨ n = 1) : PtOk ⟨t, n, nB, false⟩ := ⟨msgB_bys (noteM_in' (by decide) (by decide) (by decide)) (noteM_code (by decide) (by decide) (by decide)), by show (msgB (noteM 6 7 ⟨#[]⟩)).length ≤ 100; rw [msgB_len]; decide, ht, hn⟩
theorem ok_end {t n : Int} (ht : t = 0 ∨ t = 1) (hn : n = 0 ∨ n = 1) : PtOk ⟨t, n, [], true⟩ := ⟨fun x h => (by cases h), by show 0 ≤ 100; decide, ht, hn⟩
theorem kaIn : msgC (MsL.zero 4) = 0 ∧ (MsL.zero 4).In := ⟨ka_code, zeroM_in ⟨by decide, by decide⟩⟩
def mab0 (a b : Int) : Sys := ⟨(ss 1 a 2 2 (cn 3 0 0 0) (cn 3 0 0 0) [(-1), 240, 240, (-1), (-1)]), (ss 2 b 1 2 (cn 3 0 0 0) (cn 3 0 0 0) [(-1), 240, 240, (-1), (-1)]), [⟨1, 1, (oB 1 a), false⟩, ⟨0, 0, (oB 2 b), false⟩, ⟨0, 1, (oB 2 b), false⟩, ⟨1, 0, (oB 1 a), false⟩], 0⟩
theorem mab0_ok {a b : Int} (ha : 1 ≤ a ∧ a ≤ 4294967295) (hb : 1 ≤ b ∧ b ≤ 4294967295) : SysOk (mab0 a b) := ⟨ss_fine (by unfold I64; decide) (cn_wf (by decide) (fun h => absurd h (by decide)) (by decide)) (cn_wf (by decide) (fun h => absurd h (by decide)) (by decide)), ss_fine (by unfold I64; decide) (cn_wf (by decide) (fun h => absurd h (by decide)) (by decide)) (cn_wf (by decide) (fun h => absurd h (by decide)) (by decide)), (ok_cons (ok_open (by decide) ha (by decide) (by decide)) (ok_cons (ok_open (by decide) hb (by decide) (by decide)) (ok_cons (ok_open (by decide) hb (by decide) (by decide)) (ok_cons (ok_open (by decide) ha (by decide) (by decide)) ok_nil))))⟩
def mab1 (a b : Int) : Sys := ⟨(ss 1 a 2 2 (cn 3 0 0 0) (cn 3 0 0 0) [(-1), 240, 240, (-1), (-1)]), (ss 2 b 1 2 (cn 3 0 0 0) (cn 4 1 9 a) [(-1), 240, 9, (-1), 3]), [⟨0, 0, (oB 2 b), false⟩, ⟨0, 1, (oB 2 b), false⟩, ⟨1, 0, (oB 1 a), false⟩, ⟨0, 0, kB, false⟩], 0⟩
theorem mab1_ok {a b : Int} (ha : 1 ≤ a ∧ a ≤ 4294967295) (hb : 1 ≤ b ∧ b ≤ 4294967295) : SysOk (mab1 a b) := ⟨ss_fine (by unfold I64; decide) (cn_wf (by decide) (fun h => absurd h (by decide)) (by decide)) (cn_wf (by decide) (fun h => absurd h (by decide)) (by decide)), ss_fine (by unfold I64; decide) (cn_wf (by decide) (fun h => absurd h (by decide)) (by decide)) (cn_wf (by decide) (fun h => absurd h (by decide)) (by decide)), (ok_cons (ok_open (by decide) hb (by decide) (by decide)) (ok_cons (ok_open (by decide) hb (by decide) (by decide)) (ok_cons (ok_open (by decide) ha (by decide) (by decide)) (ok_cons (ok_ka (by decide) (by decide)) ok_nil))))⟩
def mab2 (a b : Int) : Sys := ⟨(ss 1 a 2 2 (cn 4 1 9 b) (cn 3 0 0 0) [(-1), 9, 240, 3, (-1)]), (ss 2 b 1 2 (cn 3 0 0 0) (cn 4 1 9 a) [(-1), 240, 9, (-1), 3]), [⟨0, 1, (oB 2 b), false⟩, ⟨1, 0, (oB 1 a), false⟩, ⟨0, 0, kB, false⟩, ⟨1, 1, kB, false⟩], 0⟩
theorem mab2_ok {a b : Int} (ha : 1 ≤ a ∧ a ≤ 4294967295) (hb : 1 ≤ b ∧ b ≤ 4294967295) : SysOk (mab2 a b) := ⟨ss_fine (by unfold I64; decide) (cn_wf (by decide) (fun h => absurd h (by decide)) (by decide)) (cn_wf (by decide) (fun h => absurd h (by decide)) (by decide)), ss_fine (by unfold I64; decide) (cn_wf (by decide) (fun h => absurd h (by decide)) (by decide)) (cn_wf (by decide) (fun h => absurd h (by decide)) (by decide)), (ok_cons (ok_open (by decide) hb (by decide) (by decide)) (ok_cons (ok_open (by decide) ha (by decide) (by decide)) (ok_cons (ok_ka (by decide) (by decide)) (ok_cons (ok_ka (by decide) (by decide)) ok_nil))))⟩
def mab3 (a b : Int) : Sys := ⟨(ss 1 a 2 2 (cn 0 0 0 0) (cn 4 1 9 b) [(-1), (-1), 9, (-1), 3]), (ss 2 b 1 2 (cn 3 0 0 0) (cn 4 1 9 a) [(-1), 240, 9, (-1), 3]), [⟨1, 0, (oB 1 a), false⟩, ⟨0, 0, kB, false⟩, ⟨1, 1, kB, false⟩, ⟨1, 1, nB, false⟩, ⟨1, 1, [], true⟩, ⟨1, 0, kB, false⟩], 0⟩
theorem mab3_ok {a b : Int} (ha : 1 ≤ a ∧ a ≤ 4294967295) : SysOk (mab3 a b) := ⟨ss_fine (by unfold I64; decide) (cn_wf (by decide) (fun _ => ⟨rfl, rfl, rfl⟩) (by decide)) (cn_wf (by decide) (fun h => absurd h (by decide)) (by decide)), ss_fine (by unfold I64; decide) (cn_wf (by decide) (fun h => absurd h (by decide)) (by decide)) (cn_wf (by decide) (fun h => absurd h (by decide)) (by decide)), (ok_cons (ok_open (by decide) ha (by decide) (by decide)) (ok_cons (ok_ka (by decide) (by decide)) (ok_cons (ok_ka (by decide) (by decide)) (ok_cons (ok_note (by decide) (by decide)) (ok_cons (ok_end (by decide) (by decide)) (ok_cons (ok_ka (by decide) (by decide)) ok_nil))))))⟩
def mab4 (a b : Int) : Sys := ⟨(ss 1 a 2 2 (cn 0 0 0 0) (cn 4 1 9 b) [(-1), (-1), 9, (-1), 3]), (ss 2 b 1 2 (cn 4 1 9 a) (cn 0 0 0 0) [(-1), 9, (-1), 3, (-1)]), [⟨0, 0, kB, false⟩, ⟨1, 1, kB, false⟩, ⟨1, 1, nB, false⟩, ⟨1, 1, [], true⟩, ⟨1, 0, kB, false⟩, ⟨0, 0, nB, false⟩, ⟨0, 0, [], true⟩, ⟨0, 1, kB, false⟩], 0⟩
theorem mab4_ok {a b : Int} : SysOk (mab4 a b) := ⟨ss_fine (by unfold I64; decide) (cn_wf (by decide) (fun _ => ⟨rfl, rfl, rfl⟩) (by decide)) (cn_wf (by decide) (fun h => absurd h (by decide)) (by decide)), ss_fine (by unfold I64; decide) (cn_wf (by decide) (fun h => absurd h (by decide)) (by decide)) (cn_wf (by decide) (fun _ => ⟨rfl, rfl, rfl⟩) (by decide)), (ok_cons (ok_ka (by decide) (by decide)) (ok_cons (ok_ka (by decide) (by decide)) (ok_cons (ok_note (by decide) (by decide)) (ok_cons (ok_end (by decide) (by decide)) (ok_cons (ok_ka (by decide) (by decide)) (ok_cons (ok_note (by decide) (by decide)) (ok_cons (ok_end (by decide) (by decide)) (ok_cons (ok_ka (by decide) (by decide)) ok_nil))))))))⟩
def mab5 (a b : Int) : Sys := ⟨(ss 1 a 2 2 (cn 0 0 0 0) (cn 4 1 9 b) [(-1), (-1), 9, (-1), 3]), (ss 2 b 1 2 (cn 4 1 9 a) (cn 0 0 0 0) [(-1), 9, (-1), 3, (-1)]), [⟨1, 1, kB, false⟩, ⟨1, 1, nB, false⟩, ⟨1, 1, [], true⟩, ⟨1, 0, kB, false⟩, ⟨0, 0, nB, false⟩, ⟨0, 0, [], true⟩, ⟨0, 1, kB, false⟩], 0⟩
theorem mab5_ok {a b : Int} : SysOk (mab5 a b) := ⟨ss_fine (by unfold I64; decide) (cn_wf (by decide) (fun _ => ⟨rfl, rfl, rfl⟩) (by decide)) (cn_wf (by decide) (fun h => absurd h (by decide)) (by decide)), ss_fine (by unfold I64; decide) (cn_wf (by decide) (fun h => absurd h (by decide)) (by decide)) (cn_wf (by decide) (fun _ => ⟨rfl, rfl, rfl⟩) (by decide)), (ok_cons (ok_ka (by decide) (by decide)) (ok_cons (ok_note (by decide) (by decide)) (ok_cons (ok_end (by decide) (by decide)) (ok_cons (ok_ka (by decide) (by decide)) (ok_cons (ok_note (by decide) (by decide)) (ok_cons (ok_end (by decide) (by decide)) (ok_cons (ok_ka (by decide) (by decide)) ok_nil)))))))⟩
def mab6 (a b : Int) : Sys := ⟨(ss 1 a 2 2 (cn 0 0 0 0) (cn 4 1 9 b) [(-1), (-1), 9, (-1), 3]), (ss 2 b 1 2 (cn 4 1 9 a) (cn 0 0 0 0) [(-1), 9, (-1), 3, (-1)]), [⟨1, 1, nB, false⟩, ⟨1, 1, [], true⟩, ⟨1, 0, kB, false⟩, ⟨0, 0, nB, false⟩, ⟨0, 0, [], true⟩, ⟨0, 1, kB, false⟩], 0⟩
theorem mab6_ok {a b : Int} : SysOk (mab6 a b) := ⟨ss_fine (by unfold I64; decide) (cn_wf (by decide) (fun _ => ⟨rfl, rfl, rfl⟩) (by decide)) (cn_wf (by decide) (fun h => absurd h (by decide)) (by decide)), ss_fine (by unfold I64; decide) (cn_wf (by decide) (fun h => absurd h (by decide)) (by decide)) (cn_wf (by decide) (fun _ => ⟨rfl, rfl, rfl⟩) (by decide)), (ok_cons (ok_note (by decide) (by decide)) (ok_cons (ok_end (by decide) (by decide)) (ok_cons (ok_ka (by decide) (by decide)) (ok_cons (ok_note (by decide) (by decide)) (ok_cons (ok_end (by decide) (by decide)) (ok_cons (ok_ka (by decide) (by decide)) ok_nil))))))⟩
def mab7 (a b : Int) : Sys := ⟨(ss 1 a 2 2 (cn 0 0 0 0) (cn 4 1 9 b) [(-1), (-1), 9, (-1), 3]), (ss 2 b 1 2 (cn 4 1 9 a) (cn 0 0 0 0) [(-1), 9, (-1), 3, (-1)]), [⟨1, 1, [], true⟩, ⟨1, 0, kB, false⟩, ⟨0, 0, nB, false⟩, ⟨0, 0, [], true⟩, ⟨0, 1, kB, false⟩], 0⟩
theorem mab7_ok {a b : Int} : SysOk (mab7 a b) := ⟨ss_fine (by unfold I64; decide) (cn_wf (by decide) (fun _ => ⟨rfl, rfl, rfl⟩) (by decide)) (cn_wf (by decide) (fun h => absurd h (by decide)) (by decide)), ss_fine (by unfold I64; decide) (cn_wf (by decide) (fun h => absurd h (by decide)) (by decide)) (cn_wf (by decide) (fun _ => ⟨rfl, rfl, rfl⟩) (by decide)), (ok_cons (ok_end (by decide) (by decide)) (ok_cons (ok_ka (by decide) (by decide)) (ok_cons (ok_note (by decide) (by decide)) (ok_cons (ok_end (by decide) (by decide)) (ok_cons (ok_ka (by decide) (by decide)) ok_nil)))))⟩
def mab8 (a b : Int) : Sys := ⟨(ss 1 a 2 2 (cn 0 0 0 0) (cn 4 1 9 b) [(-1), (-1), 9, (-1), 3]), (ss 2 b 1 2 (cn 4 1 9 a) (cn 0 0 0 0) [(-1), 9, (-1), 3, (-1)]), [⟨1, 0, kB, false⟩, ⟨0, 0, nB, false⟩, ⟨0, 0, [], true⟩, ⟨0, 1, kB, false⟩], 0⟩
theorem mab8_ok {a b : Int} : SysOk (mab8 a b) := ⟨ss_fine (by unfold I64; decide) (cn_wf (by decide) (fun _ => ⟨rfl, rfl, rfl⟩) (by decide)) (cn_wf (by decide) (fun h => absurd h (by decide)) (by decide)), ss_fine (by unfold I64; decide) (cn_wf (by decide) (fun h => absurd h (by decide)) (by decide)) (cn_wf (by decide) (fun _ => ⟨rfl, rfl, rfl⟩) (by decide)), (ok_cons (ok_ka (by decide) (by decide)) (ok_cons (ok_note (by decide) (by decide)) (ok_cons (ok_end (by decide) (by decide)) (ok_cons (ok_ka (by decide) (by decide)) ok_nil))))⟩
def mab9 (a b : Int) : Sys := ⟨(ss 1 a 2 2 (cn 0 0 0 0) (cn 4 1 9 b) [(-1), (-1), 9, (-1), 3]), (ss 2 b 1 2 (cn 5 2 9 a) (cn 0 0 0 0) [(-1), 9, (-1), 3, (-1)]), [⟨0, 0, nB, false⟩, ⟨0, 0, [], true⟩, ⟨0, 1, kB, false⟩], 1⟩
theorem mab9_ok {a b : Int} : SysOk (mab9 a b) := ⟨ss_fine (by unfold I64; decide) (cn_wf (by decide) (fun _ => ⟨rfl, rfl, rfl⟩) (by decide)) (cn_wf (by decide) (fun h => absurd h (by decide)) (by decide)), ss_fine (by unfold I64; decide) (cn_wf (by decide) (fun h => absurd h (by decide)) (by decide)) (cn_wf (by decide) (fun _ => ⟨rfl, rfl, rfl⟩) (by decide)), (ok_cons (ok_note (by decide) (by decide)) (ok_cons (ok_end (by decide) (by decide)) (ok_cons (ok_ka (by decide) (by decide)) ok_nil)))⟩
def mab10 (a b : Int) : Sys := ⟨(ss 1 a 2 2 (cn 0 0 0 0) (cn 4 1 9 b) [(-1), (-1), 9, (-1), 3]), (ss 2 b 1 2 (cn 5 2 9 a) (cn 0 0 0 0) [(-1), 9, (-1), 3, (-1)]), [⟨0, 0, [], true⟩, ⟨0, 1, kB, false⟩], 1⟩
theorem mab10_ok {a b : Int} : SysOk (mab10 a b) := ⟨ss_fine (by unfold I64; decide) (cn_wf (by decide) (fun _ => ⟨rfl, rfl, rfl⟩) (by decide)) (cn_wf (by decide) (fun h => absurd h (by decide)) (by decide)), ss_fine (by unfold I64; decide) (cn_wf (by decide) (fun h => absurd h (by decide)) (by decide)) (cn_wf (by decide) (fun _ => ⟨rfl, rfl, rfl⟩) (by decide)), (ok_cons (ok_end (by decide) (by decide)) (ok_cons (ok_ka (by decide) (by decide)) ok_nil))⟩
def mab11 (a b : Int) : Sys := ⟨(ss 1 a 2 2 (cn 0 0 0 0) (cn 4 1 9 b) [(-1), (-1), 9, (-1), 3]), (ss 2 b 1 2 (cn 5 2 9 a) (cn 0 0 0 0) [(-1), 9, (-1), 3, (-1)]), [⟨0, 1, kB, false⟩], 1⟩
theorem mab11_ok {a b : Int} : SysOk (mab11 a b) := ⟨ss_fine (by unfold I64; decide) (cn_wf (by decide) (fun _ => ⟨rfl, rfl, rfl⟩) (by decide)) (cn_wf (by decide) (fun h => absurd h (by decide)) (by decide)), ss_fine (by unfold I64; decide) (cn_wf (by decide) (fun h => absurd h (by decide)) (by decide)) (cn_wf (by decide) (fun _ => ⟨rfl, rfl, rfl⟩) (by decide)), (ok_cons (ok_ka (by decide) (by decide)) ok_nil)⟩
def mab12 (a b : Int) : Sys := ⟨(ss 1 a 2 2 (cn 0 0 0 0) (cn 5 2 9 b) [(-1), (-1), 9, (-1), 3]), (ss 2 b 1 2 (cn 5 2 9 a) (cn 0 0 0 0) [(-1), 9, (-1), 3, (-1)]), [], 2⟩
theorem mab12_ok {a b : Int} : SysOk (mab12 a b) := ⟨ss_fine (by unfold I64; decide) (cn_wf (by decide) (fun _ => ⟨rfl, rfl, rfl⟩) (by decide)) (cn_wf (by decide) (fun h => absurd h (by decide)) (by decide)), ss_fine (by unfold I64; decide) (cn_wf (by decide) (fun h => absurd h (by decide)) (by decide)) (cn_wf (by decide) (fun _ => ⟨rfl, rfl, rfl⟩) (by decide)), ok_nil⟩
theorem mab0_turn {a b : Int} (hl : a < b) (ha : 1 ≤ a ∧ a ≤ 4294967295) : (mab0 a b).turn = mab1 a b := by
  obtain ⟨hc, hI⟩ := openIn (a := 1) (i := a) ⟨by decide, by decide⟩ ha
  show Sys.put _ 1 (feedS (ss 2 b 1 2 (cn 3 0 0 0) (cn 3 0 0 0) [(-1), 240, 240, (-1), (-1)]) 1 (msgB (openM 1 9 a))) = _
  rw [feed_msg (st := 3) (c := 0) (h := 0) (i := 0) rfl (by decide) hc hI, hear_open rfl]
  rw [openS_plain (s := Se.set (ss 2 b 1 2 (cn 3 0 0 0) (cn 3 0 0 0) [(-1), 240, 240, (-1), (-1)]) 1 (cn 3 (0 + 1) 0 0)) (n := 1) (a := 1) (h := 9) (i := a) rfl (show a ≠ b by omega) (by show (3 : Int) ≠ 5; decide) (by show (3 : Int) ≠ 4; decide)]
  kernel_rfl
theorem mab1_turn {a b : Int} (hl : a < b) (hb : 1 ≤ b ∧ b ≤ 4294967295) : (mab1 a b).turn = mab2 a b := by
  obtain ⟨hc, hI⟩ := openIn (a := 2) (i := b) ⟨by decide, by decide⟩ hb
  show Sys.put _ 0 (feedS (ss 1 a 2 2 (cn 3 0 0 0) (cn 3 0 0 0) [(-1), 240, 240, (-1), (-1)]) 0 (msgB (openM 2 9 b))) = _
  rw [feed_msg (st := 3) (c := 0) (h := 0) (i := 0) rfl (by decide) hc hI, hear_open rfl]
  rw [openS_plain (s := Se.set (ss 1 a 2 2 (cn 3 0 0 0) (cn 3 0 0 0) [(-1), 240, 240, (-1), (-1)]) 0 (cn 3 (0 + 1) 0 0)) (n := 0) (a := 2) (h := 9) (i := b) rfl (show b ≠ a by omega) (by show (3 : Int) ≠ 5; decide) (by show (3 : Int) ≠ 4; decide)]
  kernel_rfl
theorem mab2_turn {a b : Int} (hl : a < b) (hb : 1 ≤ b ∧ b ≤ 4294967295) : (mab2 a b).turn = mab3 a b := by
  obtain ⟨hc, hI⟩ := openIn (a := 2) (i := b) ⟨by decide, by decide⟩ hb
  show Sys.put _ 0 (feedS (ss 1 a 2 2 (cn 4 1 9 b) (cn 3 0 0 0) [(-1), 9, 240, 3, (-1)]) 1 (msgB (openM 2 9 b))) = _
  rw [feed_msg (st := 3) (c := 0) (h := 0) (i := 0) rfl (by decide) hc hI, hear_open rfl]
  rw [openS_stay (s := Se.set (ss 1 a 2 2 (cn 4 1 9 b) (cn 3 0 0 0) [(-1), 9, 240, 3, (-1)]) 1 (cn 3 (0 + 1) 0 0)) (n := 1) (a := 2) (h := 9) (i := b) rfl (show b ≠ a by omega) rfl (if_pos (show a < b by omega))]
  kernel_rfl
theorem mab3_turn {a b : Int} (hl : a < b) (ha : 1 ≤ a ∧ a ≤ 4294967295) : (mab3 a b).turn = mab4 a b := by
  obtain ⟨hc, hI⟩ := openIn (a := 1) (i := a) ⟨by decide, by decide⟩ ha
  show Sys.put _ 1 (feedS (ss 2 b 1 2 (cn 3 0 0 0) (cn 4 1 9 a) [(-1), 240, 9, (-1), 3]) 0 (msgB (openM 1 9 a))) = _
  rw [feed_msg (st := 3) (c := 0) (h := 0) (i := 0) rfl (by decide) hc hI, hear_open rfl]
  rw [openS_stay (s := Se.set (ss 2 b 1 2 (cn 3 0 0 0) (cn 4 1 9 a) [(-1), 240, 9, (-1), 3]) 0 (cn 3 (0 + 1) 0 0)) (n := 0) (a := 1) (h := 9) (i := a) rfl (show a ≠ b by omega) rfl (if_neg (show ¬ b < a by omega))]
  kernel_rfl
theorem mab4_turn (a b : Int) : (mab4 a b).turn = mab5 a b := by
  show Sys.put _ 0 (feedS (ss 1 a 2 2 (cn 0 0 0 0) (cn 4 1 9 b) [(-1), (-1), 9, (-1), 3]) 0 kB) = _
  rw [feed_st0 (s := (ss 1 a 2 2 (cn 0 0 0 0) (cn 4 1 9 b) [(-1), (-1), 9, (-1), 3])) (n := 0) rfl kB]
  kernel_rfl
theorem mab5_turn (a b : Int) : (mab5 a b).turn = mab6 a b := by
  show Sys.put _ 1 (feedS (ss 2 b 1 2 (cn 4 1 9 a) (cn 0 0 0 0) [(-1), 9, (-1), 3, (-1)]) 1 kB) = _
  rw [feed_st0 (s := (ss 2 b 1 2 (cn 4 1 9 a) (cn 0 0 0 0) [(-1), 9, (-1), 3, (-1)])) (n := 1) rfl kB]
  kernel_rfl
theorem mab6_turn (a b : Int) : (mab6 a b).turn = mab7 a b := by
  show Sys.put _ 1 (feedS (ss 2 b 1 2 (cn 4 1 9 a) (cn 0 0 0 0) [(-1), 9, (-1), 3, (-1)]) 1 nB) = _
  rw [feed_st0 (s := (ss 2 b 1 2 (cn 4 1 9 a) (cn 0 0 0 0) [(-1), 9, (-1), 3, (-1)])) (n := 1) rfl nB]
  kernel_rfl
theorem mab7_turn (a b : Int) : (mab7 a b).turn = mab8 a b := by
  kernel_rfl
theorem mab8_turn (a b : Int) : (mab8 a b).turn = mab9 a b := by
  show Sys.put _ 1 (feedS (ss 2 b 1 2 (cn 4 1 9 a) (cn 0 0 0 0) [(-1), 9, (-1), 3, (-1)]) 0 (msgB (MsL.zero 4))) = _
  rw [feed_msg (st := 4) (c := 1) (h := 9) (i := a) rfl (by decide) kaIn.1 kaIn.2]
  kernel_rfl
theorem mab9_turn (a b : Int) : (mab9 a b).turn = mab10 a b := by
  show Sys.put _ 0 (feedS (ss 1 a 2 2 (cn 0 0 0 0) (cn 4 1 9 b) [(-1), (-1), 9, (-1), 3]) 0 nB) = _
  rw [feed_st0 (s := (ss 1 a 2 2 (cn 0 0 0 0) (cn 4 1 9 b) [(-1), (-1), 9, (-1), 3])) (n := 0) rfl nB]
  kernel_rfl
theorem mab10_turn (a b : Int) : (mab10 a b).turn = mab11 a b := by
  kernel_rfl
theorem mab11_turn (a b : Int) : (mab11 a b).turn = mab12 a b := by
  show Sys.put _ 0 (feedS (ss 1 a 2 2 (cn 0 0 0 0) (cn 4 1 9 b) [(-1), (-1), 9, (-1), 3]) 1 (msgB (MsL.zero 4))) = _
  rw [feed_msg (st := 4) (c := 1) (h := 9) (i := b) rfl (by decide) kaIn.1 kaIn.2]
  kernel_rfl
def mba0 (a b : Int) : Sys := ⟨(ss 1 a 2 2 (cn 3 0 0 0) (cn 3 0 0 0) [(-1), 240, 240, (-1), (-1)]), (ss 2 b 1 2 (cn 3 0 0 0) (cn 3 0 0 0) [(-1), 240, 240, (-1), (-1)]), [⟨1, 1, (oB 1 a), false⟩, ⟨0, 0, (oB 2 b), false⟩, ⟨0, 1, (oB 2 b), false⟩, ⟨1, 0, (oB 1 a), false⟩], 0⟩
theorem mba0_ok {a b : Int} (ha : 1 ≤ a ∧ a ≤ 4294967295) (hb : 1 ≤ b ∧ b ≤ 4294967295) : SysOk (mba0 a b) := ⟨ss_fine (by unfold I64; decide) (cn_wf (by decide) (fun h => absurd h (by decide)) (by decide)) (cn_wf (by decide) (fun h => absurd h (by decide)) (by decide)), ss_fine (by unfold I64; decide) (cn_wf (by decide) (fun h => absurd h (by decide)) (by decide)) (cn_wf (by decide) (fun h => absurd h (by decide)) (by decide)), (ok_cons (ok_open (by decide) ha (by decide) (by decide)) (ok_cons (ok_open (by decide) hb (by decide) (by decide)) (ok_cons (ok_open (by decide) hb (by decide) (by decide)) (ok_cons (ok_open (by decide) ha (by decide) (by decide)) ok_nil))))⟩
def mba1 (a b : Int) : Sys := ⟨(ss 1 a 2 2 (cn 3 0 0 0) (cn 3 0 0 0) [(-1), 240, 240, (-1), (-1)]), (ss 2 b 1 2 (cn 3 0 0 0) (cn 4 1 9 a) [(-1), 240, 9, (-1), 3]), [⟨0, 0, (oB 2 b), false⟩, ⟨0, 1, (oB 2 b), false⟩, ⟨1, 0, (oB 1 a), false⟩, ⟨0, 0, kB, false⟩], 0⟩
theorem mba1_ok {a b : Int} (ha : 1 ≤ a ∧ a ≤ 4294967295) (hb : 1 ≤ b ∧ b ≤ 4294967295) : SysOk (mba1 a b) := ⟨ss_fine (by unfold I64; decide) (cn_wf (by decide) (fun h => absurd h (by decide)) (by decide)) (cn_wf (by decide) (fun h => absurd h (by decide)) (by decide)), ss_fine (by unfold I64; decide) (cn_wf (by decide) (fun h => absurd h (by decide)) (by decide)) (cn_wf (by decide) (fun h => absurd h (by decide)) (by decide)), (ok_cons (ok_open (by decide) hb (by decide) (by decide)) (ok_cons (ok_open (by decide) hb (by decide) (by decide)) (ok_cons (ok_open (by decide) ha (by decide) (by decide)) (ok_cons (ok_ka (by decide) (by decide)) ok_nil))))⟩
def mba2 (a b : Int) : Sys := ⟨(ss 1 a 2 2 (cn 4 1 9 b) (cn 3 0 0 0) [(-1), 9, 240, 3, (-1)]), (ss 2 b 1 2 (cn 3 0 0 0) (cn 4 1 9 a) [(-1), 240, 9, (-1), 3]), [⟨0, 1, (oB 2 b), false⟩, ⟨1, 0, (oB 1 a), false⟩, ⟨0, 0, kB, false⟩, ⟨1, 1, kB, false⟩], 0⟩
theorem mba2_ok {a b : Int} (ha : 1 ≤ a ∧ a ≤ 4294967295) (hb : 1 ≤ b ∧ b ≤ 4294967295) : SysOk (mba2 a b) := ⟨ss_fine (by unfold I64; decide) (cn_wf (by decide) (fun h => absurd h (by decide)) (by decide)) (cn_wf (by decide) (fun h => absurd h (by decide)) (by decide)), ss_fine (by unfold I64; decide) (cn_wf (by decide) (fun h => absurd h (by decide)) (by decide)) (cn_wf (by decide) (fun h => absurd h (by decide)) (by decide)), (ok_cons (ok_open (by decide) hb (by decide) (by decide)) (ok_cons (ok_open (by decide) ha (by decide) (by decide)) (ok_cons (ok_ka (by decide) (by decide)) (ok_cons (ok_ka (by decide) (by decide)) ok_nil))))⟩
def mba3 (a b : Int) : Sys := ⟨(ss 1 a 2 2 (cn 4 1 9 b) (cn 0 0 0 0) [(-1), 9, (-1), 3, (-1)]), (ss 2 b 1 2 (cn 3 0 0 0) (cn 4 1 9 a) [(-1), 240, 9, (-1), 3]), [⟨1, 0, (oB 1 a), false⟩, ⟨0, 0, kB, false⟩, ⟨1, 1, kB, false⟩, ⟨1, 0, nB, false⟩, ⟨1, 0, [], true⟩], 0⟩
theorem mba3_ok {a b : Int} (ha : 1 ≤ a ∧ a ≤ 4294967295) : SysOk (mba3 a b) := ⟨ss_fine (by unfold I64; decide) (cn_wf (by decide) (fun h => absurd h (by decide)) (by decide)) (cn_wf (by decide) (fun _ => ⟨rfl, rfl, rfl⟩) (by decide)), ss_fine (by unfold I64; decide) (cn_wf (by decide) (fun h => absurd h (by decide)) (by decide)) (cn_wf (by decide) (fun h => absurd h (by decide)) (by decide)), (ok_cons (ok_open (by decide) ha (by decide) (by decide)) (ok_cons (ok_ka (by decide) (by decide)) (ok_cons (ok_ka (by decide) (by decide)) (ok_cons (ok_note (by decide) (by decide)) (ok_cons (ok_end (by decide) (by decide)) ok_nil)))))⟩
def mba4 (a b : Int) : Sys := ⟨(ss 1 a 2 2 (cn 4 1 9 b) (cn 0 0 0 0) [(-1), 9, (-1), 3, (-1)]), (ss 2 b 1 2 (cn 0 0 0 0) (cn 4 1 9 a) [(-1), (-1), 9, (-1), 3]), [⟨0, 0, kB, false⟩, ⟨1, 1, kB, false⟩, ⟨1, 0, nB, false⟩, ⟨1, 0, [], true⟩, ⟨0, 1, nB, false⟩, ⟨0, 1, [], true⟩], 0⟩
theorem mba4_ok {a b : Int} : SysOk (mba4 a b) := ⟨ss_fine (by unfold I64; decide) (cn_wf (by decide) (fun h => absurd h (by decide)) (by decide)) (cn_wf (by decide) (fun _ => ⟨rfl, rfl, rfl⟩) (by decide)), ss_fine (by unfold I64; decide) (cn_wf (by decide) (fun _ => ⟨rfl, rfl, rfl⟩) (by decide)) (cn_wf (by decide) (fun h => absurd h (by decide)) (by decide)), (ok_cons (ok_ka (by decide) (by decide)) (ok_cons (ok_ka (by decide) (by decide)) (ok_cons (ok_note (by decide) (by decide)) (ok_cons (ok_end (by decide) (by decide)) (ok_cons (ok_note (by decide) (by decide)) (ok_cons (ok_end (by decide) (by decide)) ok_nil))))))⟩
def mba5 (a b : Int) : Sys := ⟨(ss 1 a 2 2 (cn 5 2 9 b) (cn 0 0 0 0) [(-1), 9, (-1), 3, (-1)]), (ss 2 b 1 2 (cn 0 0 0 0) (cn 4 1 9 a) [(-1), (-1), 9, (-1), 3]), [⟨1, 1, kB, false⟩, ⟨1, 0, nB, false⟩, ⟨1, 0, [], true⟩, ⟨0, 1, nB, false⟩, ⟨0, 1, [], true⟩], 1⟩
theorem mba5_ok {a b : Int} : SysOk (mba5 a b) := ⟨ss_fine (by unfold I64; decide) (cn_wf (by decide) (fun h => absurd h (by decide)) (by decide)) (cn_wf (by decide) (fun _ => ⟨rfl, rfl, rfl⟩) (by decide)), ss_fine (by unfold I64; decide) (cn_wf (by decide) (fun _ => ⟨rfl, rfl, rfl⟩) (by decide)) (cn_wf (by decide) (fun h => absurd h (by decide)) (by decide)), (ok_cons (ok_ka (by decide) (by decide)) (ok_cons (ok_note (by decide) (by decide)) (ok_cons (ok_end (by decide) (by decide)) (ok_cons (ok_note (by decide) (by decide)) (ok_cons (ok_end (by decide) (by decide)) ok_nil)))))⟩
def mba6 (a b : Int) : Sys := ⟨(ss 1 a 2 2 (cn 5 2 9 b) (cn 0 0 0 0) [(-1), 9, (-1), 3, (-1)]), (ss 2 b 1 2 (cn 0 0 0 0) (cn 5 2 9 a) [(-1), (-1), 9, (-1), 3]), [⟨1, 0, nB, false⟩, ⟨1, 0, [], true⟩, ⟨0, 1, nB, false⟩, ⟨0, 1, [], true⟩], 2⟩
theorem mba6_ok {a b : Int} : SysOk (mba6 a b) := ⟨ss_fine (by unfold I64; decide) (cn_wf (by decide) (fun h => absurd h (by decide)) (by decide)) (cn_wf (by decide) (fun _ => ⟨rfl, rfl, rfl⟩) (by decide)), ss_fine (by unfold I64; decide) (cn_wf (by decide) (fun _ => ⟨rfl, rfl, rfl⟩) (by decide)) (cn_wf (by decide) (fun h => absurd h (by decide)) (by decide)), (ok_cons (ok_note (by decide) (by decide)) (ok_cons (ok_end (by decide) (by decide)) (ok_cons (ok_note (by decide) (by decide)) (ok_cons (ok_end (by decide) (by decide)) ok_nil))))⟩
def mba7 (a b : Int) : Sys := ⟨(ss 1 a 2 2 (cn 5 2 9 b) (cn 0 0 0 0) [(-1), 9, (-1), 3, (-1)]), (ss 2 b 1 2 (cn 0 0 0 0) (cn 5 2 9 a) [(-1), (-1), 9, (-1), 3]), [⟨1, 0, [], true⟩, ⟨0, 1, nB, false⟩, ⟨0, 1, [], true⟩], 2⟩
theorem mba7_ok {a b : Int} : SysOk (mba7 a b) := ⟨ss_fine (by unfold I64; decide) (cn_wf (by decide) (fun h => absurd h (by decide)) (by decide)) (cn_wf (by decide) (fun _ => ⟨rfl, rfl, rfl⟩) (by decide)), ss_fine (by unfold I64; decide) (cn_wf (by decide) (fun _ => ⟨rfl, rfl, rfl⟩) (by decide)) (cn_wf (by decide) (fun h => absurd h (by decide)) (by decide)), (ok_cons (ok_end (by decide) (by decide)) (ok_cons (ok_note (by decide) (by decide)) (ok_cons (ok_end (by decide) (by decide)) ok_nil)))⟩
def mba8 (a b : Int) : Sys := ⟨(ss 1 a 2 2 (cn 5 2 9 b) (cn 0 0 0 0) [(-1), 9, (-1), 3, (-1)]), (ss 2 b 1 2 (cn 0 0 0 0) (cn 5 2 9 a) [(-1), (-1), 9, (-1), 3]), [⟨0, 1, nB, false⟩, ⟨0, 1, [], true⟩], 2⟩
theorem mba8_ok {a b : Int} : SysOk (mba8 a b) := ⟨ss_fine (by unfold I64; decide) (cn_wf (by decide) (fun h => absurd h (by decide)) (by decide)) (cn_wf (by decide) (fun _ => ⟨rfl, rfl, rfl⟩) (by decide)), ss_fine (by unfold I64; decide) (cn_wf (by decide) (fun _ => ⟨rfl, rfl, rfl⟩) (by decide)) (cn_wf (by decide) (fun h => absurd h (by decide)) (by decide)), (ok_cons (ok_note (by decide) (by decide)) (ok_cons (ok_end (by decide) (by decide)) ok_nil))⟩
def mba9 (a b : Int) : Sys := ⟨(ss 1 a 2 2 (cn 5 2 9 b) (cn 0 0 0 0) [(-1), 9, (-1), 3, (-1)]), (ss 2 b 1 2 (cn 0 0 0 0) (cn 5 2 9 a) [(-1), (-1), 9, (-1), 3]), [⟨0, 1, [], true⟩], 2⟩
theorem mba9_ok {a b : Int} : SysOk (mba9 a b) := ⟨ss_fine (by unfold I64; decide) (cn_wf (by decide) (fun h => absurd h (by decide)) (by decide)) (cn_wf (by decide) (fun _ => ⟨rfl, rfl, rfl⟩) (by decide)), ss_fine (by unfold I64; decide) (cn_wf (by decide) (fun _ => ⟨rfl, rfl, rfl⟩) (by decide)) (cn_wf (by decide) (fun h => absurd h (by decide)) (by decide)), (ok_cons (ok_end (by decide) (by decide)) ok_nil)⟩
def mba10 (a b : Int) : Sys := ⟨(ss 1 a 2 2 (cn 5 2 9 b) (cn 0 0 0 0) [(-1), 9, (-1), 3, (-1)]), (ss 2 b 1 2 (cn 0 0 0 0) (cn 5 2 9 a) [(-1), (-1), 9, (-1), 3]), [], 2⟩
theorem mba10_ok {a b : Int} : SysOk (mba10 a b) := ⟨ss_fine (by unfold I64; decide) (cn_wf (by decide) (fun h => absurd h (by decide)) (by decide)) (cn_wf (by decide) (fun _ => ⟨rfl, rfl, rfl⟩) (by decide)), ss_fine (by unfold I64; decide) (cn_wf (by decide) (fun _ => ⟨rfl, rfl, rfl⟩) (by decide)) (cn_wf (by decide) (fun h => absurd h (by decide)) (by decide)), ok_nil⟩
theorem mba0_turn {a b : Int} (hl : b < a) (ha : 1 ≤ a ∧ a ≤ 4294967295) : (mba0 a b).turn = mba1 a b := by
  obtain ⟨hc, hI⟩ := openIn (a := 1) (i := a) ⟨by decide, by decide⟩ ha
  show Sys.put _ 1 (feedS (ss 2 b 1 2 (cn 3 0 0 0) (cn 3 0 0 0) [(-1), 240, 240, (-1), (-1)]) 1 (msgB (openM 1 9 a))) = _
  rw [feed_msg (st := 3) (c := 0) (h := 0) (i := 0) rfl (by decide) hc hI, hear_open rfl]
  rw [openS_plain (s := Se.set (ss 2 b 1 2 (cn 3 0 0 0) (cn 3 0 0 0) [(-1), 240, 240, (-1), (-1)]) 1 (cn 3 (0 + 1) 0 0)) (n := 1) (a := 1) (h := 9) (i := a) rfl (show a ≠ b by omega) (by show (3 : Int) ≠ 5; decide) (by show (3 : Int) ≠ 4; decide)]
  kernel_rfl
theorem mba1_turn {a b : Int} (hl : b < a) (hb : 1 ≤ b ∧ b ≤ 4294967295) : (mba1 a b).turn = mba2 a b := by
  obtain ⟨hc, hI⟩ := openIn (a := 2) (i := b) ⟨by decide, by decide⟩ hb
  show Sys.put _ 0 (feedS (ss 1 a 2 2 (cn 3 0 0 0) (cn 3 0 0 0) [(-1), 240, 240, (-1), (-1)]) 0 (msgB (openM 2 9 b))) = _
  rw [feed_msg (st := 3) (c := 0) (h := 0) (i := 0) rfl (by decide) hc hI, hear_open rfl]
  rw [openS_plain (s := Se.set (ss 1 a 2 2 (cn 3 0 0 0) (cn 3 0 0 0) [(-1), 240, 240, (-1), (-1)]) 0 (cn 3 (0 + 1) 0 0)) (n := 0) (a := 2) (h := 9) (i := b) rfl (show b ≠ a by omega) (by show (3 : Int) ≠ 5; decide) (by show (3 : Int) ≠ 4; decide)]
  kernel_rfl
theorem mba2_turn {a b : Int} (hl : b < a) (hb : 1 ≤ b ∧ b ≤ 4294967295) : (mba2 a b).turn = mba3 a b := by
  obtain ⟨hc, hI⟩ := openIn (a := 2) (i := b) ⟨by decide, by decide⟩ hb
  show Sys.put _ 0 (feedS (ss 1 a 2 2 (cn 4 1 9 b) (cn 3 0 0 0) [(-1), 9, 240, 3, (-1)]) 1 (msgB (openM 2 9 b))) = _
  rw [feed_msg (st := 3) (c := 0) (h := 0) (i := 0) rfl (by decide) hc hI, hear_open rfl]
  rw [openS_go (s := Se.set (ss 1 a 2 2 (cn 4 1 9 b) (cn 3 0 0 0) [(-1), 9, 240, 3, (-1)]) 1 (cn 3 (0 + 1) 0 0)) (n := 1) (a := 2) (h := 9) (i := b) rfl (show b ≠ a by omega) rfl (by show (if a < b then 1 else 0) ≠ _; rw [if_neg (show ¬ a < b by omega)]; decide)]
  kernel_rfl
theorem mba3_turn {a b : Int} (hl : b < a) (ha : 1 ≤ a ∧ a ≤ 4294967295) : (mba3 a b).turn = mba4 a b := by
  obtain ⟨hc, hI⟩ := openIn (a := 1) (i := a) ⟨by decide, by decide⟩ ha
  show Sys.put _ 1 (feedS (ss 2 b 1 2 (cn 3 0 0 0) (cn 4 1 9 a) [(-1), 240, 9, (-1), 3]) 0 (msgB (openM 1 9 a))) = _
  rw [feed_msg (st := 3) (c := 0) (h := 0) (i := 0) rfl (by decide) hc hI, hear_open rfl]
  rw [openS_go (s := Se.set (ss 2 b 1 2 (cn 3 0 0 0) (cn 4 1 9 a) [(-1), 240, 9, (-1), 3]) 0 (cn 3 (0 + 1) 0 0)) (n := 0) (a := 1) (h := 9) (i := a) rfl (show a ≠ b by omega) rfl (by show (if b < a then 1 else 0) ≠ _; rw [if_pos (show b < a by omega)]; decide)]
  kernel_rfl
theorem mba4_turn (a b : Int) : (mba4 a b).turn = mba5 a b := by
  show Sys.put _ 0 (feedS (ss 1 a 2 2 (cn 4 1 9 b) (cn 0 0 0 0) [(-1), 9, (-1), 3, (-1)]) 0 (msgB (MsL.zero 4))) = _
  rw [feed_msg (st := 4) (c := 1) (h := 9) (i := b) rfl (by decide) kaIn.1 kaIn.2]
  kernel_rfl
theorem mba5_turn (a b : Int) : (mba5 a b).turn = mba6 a b := by
  show Sys.put _ 1 (feedS (ss 2 b 1 2 (cn 0 0 0 0) (cn 4 1 9 a) [(-1), (-1), 9, (-1), 3]) 1 (msgB (MsL.zero 4))) = _
  rw [feed_msg (st := 4) (c := 1) (h := 9) (i := a) rfl (by decide) kaIn.1 kaIn.2]
  kernel_rfl
theorem mba6_turn (a b : Int) : (mba6 a b).turn = mba7 a b := by
  show Sys.put _ 1 (feedS (ss 2 b 1 2 (cn 0 0 0 0) (cn 5 2 9 a) [(-1), (-1), 9, (-1), 3]) 0 nB) = _
  rw [feed_st0 (s := (ss 2 b 1 2 (cn 0 0 0 0) (cn 5 2 9 a) [(-1), (-1), 9, (-1), 3])) (n := 0) rfl nB]
  kernel_rfl
theorem mba7_turn (a b : Int) : (mba7 a b).turn = mba8 a b := by
  kernel_rfl
theorem mba8_turn (a b : Int) : (mba8 a b).turn = mba9 a b := by
  show Sys.put _ 0 (feedS (ss 1 a 2 2 (cn 5 2 9 b) (cn 0 0 0 0) [(-1), 9, (-1), 3, (-1)]) 1 nB) = _
  rw [feed_st0 (s := (ss 1 a 2 2 (cn 5 2 9 b) (cn 0 0 0 0) [(-1), 9, (-1), 3, (-1)])) (n := 1) rfl nB]
  kernel_rfl
theorem mba9_turn (a b : Int) : (mba9 a b).turn = mba10 a b := by
  kernel_rfl
def mlab0 (a b : Int) : Sys := ⟨(ss 1 a 2 2 (cn 4 1 9 b) (cn 3 0 0 0) [(-1), 9, 240, 3, (-1)]), (ss 2 b 1 2 (cn 3 0 0 0) (cn 4 1 9 a) [(-1), 240, 9, (-1), 3]), [⟨0, 0, kB, false⟩, ⟨1, 1, kB, false⟩, ⟨0, 1, (oB 2 b), false⟩, ⟨1, 0, (oB 1 a), false⟩], 0⟩
theorem mlab0_ok {a b : Int} (ha : 1 ≤ a ∧ a ≤ 4294967295) (hb : 1 ≤ b ∧ b ≤ 4294967295) : SysOk (mlab0 a b) := ⟨ss_fine (by unfold I64; decide) (cn_wf (by decide) (fun h => absurd h (by decide)) (by decide)) (cn_wf (by decide) (fun h => absurd h (by decide)) (by decide)), ss_fine (by unfold I64; decide) (cn_wf (by decide) (fun h => absurd h (by decide)) (by decide)) (cn_wf (by decide) (fun h => absurd h (by decide)) (by decide)), (ok_cons (ok_ka (by decide) (by decide)) (ok_cons (ok_ka (by decide) (by decide)) (ok_cons (ok_open (by decide) hb (by decide) (by decide)) (ok_cons (ok_open (by decide) ha (by decide) (by decide)) ok_nil))))⟩
def mlab1 (a b : Int) : Sys := ⟨(ss 1 a 2 2 (cn 5 2 9 b) (cn 0 0 0 0) [(-1), 9, (-1), 3, (-1)]), (ss 2 b 1 2 (cn 3 0 0 0) (cn 4 1 9 a) [(-1), 240, 9, (-1), 3]), [⟨1, 1, kB, false⟩, ⟨0, 1, (oB 2 b), false⟩, ⟨1, 0, (oB 1 a), false⟩, ⟨1, 0, nB, false⟩, ⟨1, 0, [], true⟩], 1⟩
theorem mlab1_ok {a b : Int} (ha : 1 ≤ a ∧ a ≤ 4294967295) (hb : 1 ≤ b ∧ b ≤ 4294967295) : SysOk (mlab1 a b) := ⟨ss_fine (by unfold I64; decide) (cn_wf (by decide) (fun h => absurd h (by decide)) (by decide)) (cn_wf (by decide) (fun _ => ⟨rfl, rfl, rfl⟩) (by decide)), ss_fine (by unfold I64; decide) (cn_wf (by decide) (fun h => absurd h (by decide)) (by decide)) (cn_wf (by decide) (fun h => absurd h (by decide)) (by decide)), (ok_cons (ok_ka (by decide) (by decide)) (ok_cons (ok_open (by decide) hb (by decide) (by decide)) (ok_cons (ok_open (by decide) ha (by decide) (by decide)) (ok_cons (ok_note (by decide) (by decide)) (ok_cons (ok_end (by decide) (by decide)) ok_nil)))))⟩
def mlab2 (a b : Int) : Sys := ⟨(ss 1 a 2 2 (cn 5 2 9 b) (cn 0 0 0 0) [(-1), 9, (-1), 3, (-1)]), (ss 2 b 1 2 (cn 0 0 0 0) (cn 5 2 9 a) [(-1), (-1), 9, (-1), 3]), [⟨0, 1, (oB 2 b), false⟩, ⟨1, 0, (oB 1 a), false⟩, ⟨1, 0, nB, false⟩, ⟨1, 0, [], true⟩, ⟨0, 1, nB, false⟩, ⟨0, 1, [], true⟩], 2⟩
theorem mlab2_ok {a b : Int} (ha : 1 ≤ a ∧ a ≤ 4294967295) (hb : 1 ≤ b ∧ b ≤ 4294967295) : SysOk (mlab2 a b) := ⟨ss_fine (by unfold I64; decide) (cn_wf (by decide) (fun h => absurd h (by decide)) (by decide)) (cn_wf (by decide) (fun _ => ⟨rfl, rfl, rfl⟩) (by decide)), ss_fine (by unfold I64; decide) (cn_wf (by decide) (fun _ => ⟨rfl, rfl, rfl⟩) (by decide)) (cn_wf (by decide) (fun h => absurd h (by decide)) (by decide)), (ok_cons (ok_open (by decide) hb (by decide) (by decide)) (ok_cons (ok_open (by decide) ha (by decide) (by decide)) (ok_cons (ok_note (by decide) (by decide)) (ok_cons (ok_end (by decide) (by decide)) (ok_cons (ok_note (by decide) (by decide)) (ok_cons (ok_end (by decide) (by decide)) ok_nil))))))⟩
def mlab3 (a b : Int) : Sys := ⟨(ss 1 a 2 2 (cn 5 2 9 b) (cn 0 0 0 0) [(-1), 9, (-1), 3, (-1)]), (ss 2 b 1 2 (cn 0 0 0 0) (cn 5 2 9 a) [(-1), (-1), 9, (-1), 3]), [⟨1, 0, (oB 1 a), false⟩, ⟨1, 0, nB, false⟩, ⟨1, 0, [], true⟩, ⟨0, 1, nB, false⟩, ⟨0, 1, [], true⟩], 2⟩
theorem mlab3_ok {a b : Int} (ha : 1 ≤ a ∧ a ≤ 4294967295) : SysOk (mlab3 a b) := ⟨ss_fine (by unfold I64; decide) (cn_wf (by decide) (fun h => absurd h (by decide)) (by decide)) (cn_wf (by decide) (fun _ => ⟨rfl, rfl, rfl⟩) (by decide)), ss_fine (by unfold I64; decide) (cn_wf (by decide) (fun _ => ⟨rfl, rfl, rfl⟩) (by decide)) (cn_wf (by decide) (fun h => absurd h (by decide)) (by decide)), (ok_cons (ok_open (by decide) ha (by decide) (by decide)) (ok_cons (ok_note (by decide) (by decide)) (ok_cons (ok_end (by decide) (by decide)) (ok_cons (ok_note (by decide) (by decide)) (ok_cons (ok_end (by decide) (by decide)) ok_nil)))))⟩
def mlab4 (a b : Int) : Sys := ⟨(ss 1 a 2 2 (cn 5 2 9 b) (cn 0 0 0 0) [(-1), 9, (-1), 3, (-1)]), (ss 2 b 1 2 (cn 0 0 0 0) (cn 5 2 9 a) [(-1), (-1), 9, (-1), 3]), [⟨1, 0, nB, false⟩, ⟨1, 0, [], true⟩, ⟨0, 1, nB, false⟩, ⟨0, 1, [], true⟩], 2⟩
theorem mlab4_ok {a b : Int} : SysOk (mlab4 a b) := ⟨ss_fine (by unfold I64; decide) (cn_wf (by decide) (fun h => absurd h (by decide)) (by decide)) (cn_wf (by decide) (fun _ => ⟨rfl, rfl, rfl⟩) (by decide)), ss_fine (by unfold I64; decide) (cn_wf (by decide) (fun _ => ⟨rfl, rfl, rfl⟩) (by decide)) (cn_wf (by decide) (fun h => absurd h (by decide)) (by decide)), (ok_cons (ok_note (by decide) (by decide)) (ok_cons (ok_end (by decide) (by decide)) (ok_cons (ok_note (by decide) (by decide)) (ok_cons (ok_end (by decide) (by decide)) ok_nil))))⟩
def mlab5 (a b : Int) : Sys := ⟨(ss 1 a 2 2 (cn 5 2 9 b) (cn 0 0 0 0) [(-1), 9, (-1), 3, (-1)]), (ss 2 b 1 2 (cn 0 0 0 0) (cn 5 2 9 a) [(-1), (-1), 9, (-1), 3]), [⟨1, 0, [], true⟩, ⟨0, 1, nB, false⟩, ⟨0, 1, [], true⟩], 2⟩
theorem mlab5_ok {a b : Int} : SysOk (mlab5 a b) := ⟨ss_fine (by unfold I64; decide) (cn_wf (by decide) (fun h => absurd h (by decide)) (by decide)) (cn_wf (by decide) (fun _ => ⟨rfl, rfl, rfl⟩) (by decide)), ss_fine (by unfold I64; decide) (cn_wf (by decide) (fun _ => ⟨rfl, rfl, rfl⟩) (by decide)) (cn_wf (by decide) (fun h => absurd h (by decide)) (by decide)), (ok_cons (ok_end (by decide) (by decide)) (ok_cons (ok_note (by decide) (by decide)) (ok_cons (ok_end (by decide) (by decide)) ok_nil)))⟩
def mlab6 (a b : Int) : Sys := ⟨(ss 1 a 2 2 (cn 5 2 9 b) (cn 0 0 0 0) [(-1), 9, (-1), 3, (-1)]), (ss 2 b 1 2 (cn 0 0 0 0) (cn 5 2 9 a) [(-1), (-1), 9, (-1), 3]), [⟨0, 1, nB, false⟩, ⟨0, 1, [], true⟩], 2⟩
theorem mlab6_ok {a b : Int} : SysOk (mlab6 a b) := ⟨ss_fine (by unfold I64; decide) (cn_wf (by decide) (fun h => absurd h (by decide)) (by decide)) (cn_wf (by decide) (fun _ => ⟨rfl, rfl, rfl⟩) (by decide)), ss_fine (by unfold I64; decide) (cn_wf (by decide) (fun _ => ⟨rfl, rfl, rfl⟩) (by decide)) (cn_wf (by decide) (fun h => absurd h (by decide)) (by decide)), (ok_cons (ok_note (by decide) (by decide)) (ok_cons (ok_end (by decide) (by decide)) ok_nil))⟩
def mlab7 (a b : Int) : Sys := ⟨(ss 1 a 2 2 (cn 5 2 9 b) (cn 0 0 0 0) [(-1), 9, (-1), 3, (-1)]), (ss 2 b 1 2 (cn 0 0 0 0) (cn 5 2 9 a) [(-1), (-1), 9, (-1), 3]), [⟨0, 1, [], true⟩], 2⟩
theorem mlab7_ok {a b : Int} : SysOk (mlab7 a b) := ⟨ss_fine (by unfold I64; decide) (cn_wf (by decide) (fun h => absurd h (by decide)) (by decide)) (cn_wf (by decide) (fun _ => ⟨rfl, rfl, rfl⟩) (by decide)), ss_fine (by unfold I64; decide) (cn_wf (by decide) (fun _ => ⟨rfl, rfl, rfl⟩) (by decide)) (cn_wf (by decide) (fun h => absurd h (by decide)) (by decide)), (ok_cons (ok_end (by decide) (by decide)) ok_nil)⟩
def mlab8 (a b : Int) : Sys := ⟨(ss 1 a 2 2 (cn 5 2 9 b) (cn 0 0 0 0) [(-1), 9, (-1), 3, (-1)]), (ss 2 b 1 2 (cn 0 0 0 0) (cn 5 2 9 a) [(-1), (-1), 9, (-1), 3]), [], 2⟩
theorem mlab8_ok {a b : Int} : SysOk (mlab8 a b) := ⟨ss_fine (by unfold I64; decide) (cn_wf (by decide) (fun h => absurd h (by decide)) (by decide)) (cn_wf (by decide) (fun _ => ⟨rfl, rfl, rfl⟩) (by decide)), ss_fine (by unfold I64; decide) (cn_wf (by decide) (fun _ => ⟨rfl, rfl, rfl⟩) (by decide)) (cn_wf (by decide) (fun h => absurd h (by decide)) (by decide)), ok_nil⟩
theorem mlab0_turn (a b : Int) : (mlab0 a b).turn = mlab1 a b := by
  show Sys.put _ 0 (feedS (ss 1 a 2 2 (cn 4 1 9 b) (cn 3 0 0 0) [(-1), 9, 240, 3, (-1)]) 0 (msgB (MsL.zero 4))) = _
  rw [feed_msg (st := 4) (c := 1) (h := 9) (i := b) rfl (by decide) kaIn.1 kaIn.2]
  kernel_rfl
theorem mlab1_turn (a b : Int) : (mlab1 a b).turn = mlab2 a b := by
  show Sys.put _ 1 (feedS (ss 2 b 1 2 (cn 3 0 0 0) (cn 4 1 9 a) [(-1), 240, 9, (-1), 3]) 1 (msgB (MsL.zero 4))) = _
  rw [feed_msg (st := 4) (c := 1) (h := 9) (i := a) rfl (by decide) kaIn.1 kaIn.2]
  kernel_rfl
theorem mlab2_turn (a b : Int) : (mlab2 a b).turn = mlab3 a b := by
  show Sys.put _ 0 (feedS (ss 1 a 2 2 (cn 5 2 9 b) (cn 0 0 0 0) [(-1), 9, (-1), 3, (-1)]) 1 (oB 2 b)) = _
  rw [feed_st0 (s := (ss 1 a 2 2 (cn 5 2 9 b) (cn 0 0 0 0) [(-1), 9, (-1), 3, (-1)])) (n := 1) rfl (oB 2 b)]
  kernel_rfl
theorem mlab3_turn (a b : Int) : (mlab3 a b).turn = mlab4 a b := by
  show Sys.put _ 1 (feedS (ss 2 b 1 2 (cn 0 0 0 0) (cn 5 2 9 a) [(-1), (-1), 9, (-1), 3]) 0 (oB 1 a)) = _
  rw [feed_st0 (s := (ss 2 b 1 2 (cn 0 0 0 0) (cn 5 2 9 a) [(-1), (-1), 9, (-1), 3])) (n := 0) rfl (oB 1 a)]
  kernel_rfl
theorem mlab4_turn (a b : Int) : (mlab4 a b).turn = mlab5 a b := by
  show Sys.put _ 1 (feedS (ss 2 b 1 2 (cn 0 0 0 0) (cn 5 2 9 a) [(-1), (-1), 9, (-1), 3]) 0 nB) = _
  rw [feed_st0 (s := (ss 2 b 1 2 (cn 0 0 0 0) (cn 5 2 9 a) [(-1), (-1), 9, (-1), 3])) (n := 0) rfl nB]
  kernel_rfl
theorem mlab5_turn (a b : Int) : (mlab5 a b).turn = mlab6 a b := by
  kernel_rfl
theorem mlab6_turn (a b : Int) : (mlab6 a b).turn = mlab7 a b := by
  show Sys.put _ 0 (feedS (ss 1 a 2 2 (cn 5 2 9 b) (cn 0 0 0 0) [(-1), 9, (-1), 3, (-1)]) 1 nB) = _
  rw [feed_st0 (s := (ss 1 a 2 2 (cn 5 2 9 b) (cn 0 0 0 0) [(-1), 9, (-1), 3, (-1)])) (n := 1) rfl nB]
  kernel_rfl
theorem mlab7_turn (a b : Int) : (mlab7 a b).turn = mlab8 a b := by
  kernel_rfl
def mlabE0 (a b : Int) : Sys := ⟨(ss 1 a 2 2 (cn 3 0 0 0) (cn 0 0 0 0) [(-1), 240, (-1), (-1), (-1)]), (ss 2 b 1 1 (cn 0 0 0 0) (cn 3 0 0 0) [(-1), (-1), 240, (-1), (-1)]), [⟨1, 1, (oB 1 a), false⟩, ⟨0, 0, (oB 2 b), false⟩], 0⟩
theorem mlabE0_ok {a b : Int} (ha : 1 ≤ a ∧ a ≤ 4294967295) (hb : 1 ≤ b ∧ b ≤ 4294967295) : SysOk (mlabE0 a b) := ⟨ss_fine (by unfold I64; decide) (cn_wf (by decide) (fun h => absurd h (by decide)) (by decide)) (cn_wf (by decide) (fun _ => ⟨rfl, rfl, rfl⟩) (by decide)), ss_fine (by unfold I64; decide) (cn_wf (by decide) (fun _ => ⟨rfl, rfl, rfl⟩) (by decide)) (cn_wf (by decide) (fun h => absurd h (by decide)) (by decide)), (ok_cons (ok_open (by decide) ha (by decide) (by decide)) (ok_cons (ok_open (by decide) hb (by decide) (by decide)) ok_nil))⟩
def mlabE1 (a b : Int) : Sys := ⟨(ss 1 a 2 2 (cn 3 0 0 0) (cn 0 0 0 0) [(-1), 240, (-1), (-1), (-1)]), (ss 2 b 1 1 (cn 0 0 0 0) (cn 4 1 9 a) [(-1), (-1), 9, (-1), 3]), [⟨0, 0, (oB 2 b), false⟩, ⟨0, 0, kB, false⟩], 0⟩
theorem mlabE1_ok {a b : Int} (hb : 1 ≤ b ∧ b ≤ 4294967295) : SysOk (mlabE1 a b) := ⟨ss_fine (by unfold I64; decide) (cn_wf (by decide) (fun h => absurd h (by decide)) (by decide)) (cn_wf (by decide) (fun _ => ⟨rfl, rfl, rfl⟩) (by decide)), ss_fine (by unfold I64; decide) (cn_wf (by decide) (fun _ => ⟨rfl, rfl, rfl⟩) (by decide)) (cn_wf (by decide) (fun h => absurd h (by decide)) (by decide)), (ok_cons (ok_open (by decide) hb (by decide) (by decide)) (ok_cons (ok_ka (by decide) (by decide)) ok_nil))⟩
def mlabE2 (a b : Int) : Sys := ⟨(ss 1 a 2 2 (cn 4 1 9 b) (cn 0 0 0 0) [(-1), 9, (-1), 3, (-1)]), (ss 2 b 1 1 (cn 0 0 0 0) (cn 4 1 9 a) [(-1), (-1), 9, (-1), 3]), [⟨0, 0, kB, false⟩, ⟨1, 1, kB, false⟩], 0⟩
theorem mlabE2_ok {a b : Int} : SysOk (mlabE2 a b) := ⟨ss_fine (by unfold I64; decide) (cn_wf (by decide) (fun h => absurd h (by decide)) (by decide)) (cn_wf (by decide) (fun _ => ⟨rfl, rfl, rfl⟩) (by decide)), ss_fine (by unfold I64; decide) (cn_wf (by decide) (fun _ => ⟨rfl, rfl, rfl⟩) (by decide)) (cn_wf (by decide) (fun h => absurd h (by decide)) (by decide)), (ok_cons (ok_ka (by decide) (by decide)) (ok_cons (ok_ka (by decide) (by decide)) ok_nil))⟩
theorem mlabE0_turn {a b : Int} (hl : a < b) (ha : 1 ≤ a ∧ a ≤ 4294967295) : (mlabE0 a b).turn = mlabE1 a b := by
  obtain ⟨hc, hI⟩ := openIn (a := 1) (i := a) ⟨by decide, by decide⟩ ha
  show Sys.put _ 1 (feedS (ss 2 b 1 1 (cn 0 0 0 0) (cn 3 0 0 0) [(-1), (-1), 240, (-1), (-1)]) 1 (msgB (openM 1 9 a))) = _
  rw [feed_msg (st := 3) (c := 0) (h := 0) (i := 0) rfl (by decide) hc hI, hear_open rfl]
  rw [openS_plain (s := Se.set (ss 2 b 1 1 (cn 0 0 0 0) (cn 3 0 0 0) [(-1), (-1), 240, (-1), (-1)]) 1 (cn 3 (0 + 1) 0 0)) (n := 1) (a := 1) (h := 9) (i := a) rfl (show a ≠ b by omega) (by show (0 : Int) ≠ 5; decide) (by show (0 : Int) ≠ 4; decide)]
  kernel_rfl
theorem mlabE1_turn {a b : Int} (hl : a < b) (hb : 1 ≤ b ∧ b ≤ 4294967295) : (mlabE1 a b).turn = mlabE2 a b := by
  obtain ⟨hc, hI⟩ := openIn (a := 2) (i := b) ⟨by decide, by decide⟩ hb
  show Sys.put _ 0 (feedS (ss 1 a 2 2 (cn 3 0 0 0) (cn 0 0 0 0) [(-1), 240, (-1), (-1), (-1)]) 0 (msgB (openM 2 9 b))) = _
  rw [feed_msg (st := 3) (c := 0) (h := 0) (i := 0) rfl (by decide) hc hI, hear_open rfl]
  rw [openS_plain (s := Se.set (ss 1 a 2 2 (cn 3 0 0 0) (cn 0 0 0 0) [(-1), 240, (-1), (-1), (-1)]) 0 (cn 3 (0 + 1) 0 0)) (n := 0) (a := 2) (h := 9) (i := b) rfl (show b ≠ a by omega) (by show (0 : Int) ≠ 5; decide) (by show (0 : Int) ≠ 4; decide)]
  kernel_rfl
def mlba0 (a b : Int) : Sys := ⟨(ss 1 a 2 2 (cn 4 1 9 b) (cn 3 0 0 0) [(-1), 9, 240, 3, (-1)]), (ss 2 b 1 2 (cn 3 0 0 0) (cn 4 1 9 a) [(-1), 240, 9, (-1), 3]), [⟨0, 0, kB, false⟩, ⟨1, 1, kB, false⟩, ⟨0, 1, (oB 2 b), false⟩, ⟨1, 0, (oB 1 a), false⟩], 0⟩
theorem mlba0_ok {a b : Int} (ha : 1 ≤ a ∧ a ≤ 4294967295) (hb : 1 ≤ b ∧ b ≤ 4294967295) : SysOk (mlba0 a b) := ⟨ss_fine (by unfold I64; decide) (cn_wf (by decide) (fun h => absurd h (by decide)) (by decide)) (cn_wf (by decide) (fun h => absurd h (by decide)) (by decide)), ss_fine (by unfold I64; decide) (cn_wf (by decide) (fun h => absurd h (by decide)) (by decide)) (cn_wf (by decide) (fun h => absurd h (by decide)) (by decide)), (ok_cons (ok_ka (by decide) (by decide)) (ok_cons (ok_ka (by decide) (by decide)) (ok_cons (ok_open (by decide) hb (by decide) (by decide)) (ok_cons (ok_open (by decide) ha (by decide) (by decide)) ok_nil))))⟩
def mlba1 (a b : Int) : Sys := ⟨(ss 1 a 2 2 (cn 5 2 9 b) (cn 0 0 0 0) [(-1), 9, (-1), 3, (-1)]), (ss 2 b 1 2 (cn 3 0 0 0) (cn 4 1 9 a) [(-1), 240, 9, (-1), 3]), [⟨1, 1, kB, false⟩, ⟨0, 1, (oB 2 b), false⟩, ⟨1, 0, (oB 1 a), false⟩, ⟨1, 0, nB, false⟩, ⟨1, 0, [], true⟩], 1⟩
theorem mlba1_ok {a b : Int} (ha : 1 ≤ a ∧ a ≤ 4294967295) (hb : 1 ≤ b ∧ b ≤ 4294967295) : SysOk (mlba1 a b) := ⟨ss_fine (by unfold I64; decide) (cn_wf (by decide) (fun h => absurd h (by decide)) (by decide)) (cn_wf (by decide) (fun _ => ⟨rfl, rfl, rfl⟩) (by decide)), ss_fine (by unfold I64; decide) (cn_wf (by decide) (fun h => absurd h (by decide)) (by decide)) (cn_wf (by decide) (fun h => absurd h (by decide)) (by decide)), (ok_cons (ok_ka (by decide) (by decide)) (ok_cons (ok_open (by decide) hb (by decide) (by decide)) (ok_cons (ok_open (by decide) ha (by decide) (by decide)) (ok_cons (ok_note (by decide) (by decide)) (ok_cons (ok_end (by decide) (by decide)) ok_nil)))))⟩
def mlba2 (a b : Int) : Sys := ⟨(ss 1 a 2 2 (cn 5 2 9 b) (cn 0 0 0 0) [(-1), 9, (-1), 3, (-1)]), (ss 2 b 1 2 (cn 0 0 0 0) (cn 5 2 9 a) [(-1), (-1), 9, (-1), 3]), [⟨0, 1, (oB 2 b), false⟩, ⟨1, 0, (oB 1 a), false⟩, ⟨1, 0, nB, false⟩, ⟨1, 0, [], true⟩, ⟨0, 1, nB, false⟩, ⟨0, 1, [], true⟩], 2⟩
theorem mlba2_ok {a b : Int} (ha : 1 ≤ a ∧ a ≤ 4294967295) (hb : 1 ≤ b ∧ b ≤ 4294967295) : SysOk (mlba2 a b) := ⟨ss_fine (by unfold I64; decide) (cn_wf (by decide) (fun h => absurd h (by decide)) (by decide)) (cn_wf (by decide) (fun _ => ⟨rfl, rfl, rfl⟩) (by decide)), ss_fine (by unfold I64; decide) (cn_wf (by decide) (fun _ => ⟨rfl, rfl, rfl⟩) (by decide)) (cn_wf (by decide) (fun h => absurd h (by decide)) (by decide)), (ok_cons (ok_open (by decide) hb (by decide) (by decide)) (ok_cons (ok_open (by decide) ha (by decide) (by decide)) (ok_cons (ok_note (by decide) (by decide)) (ok_cons (ok_end (by decide) (by decide)) (ok_cons (ok_note (by decide) (by decide)) (ok_cons (ok_end (by decide) (by decide)) ok_nil))))))⟩
def mlba3 (a b : Int) : Sys := ⟨(ss 1 a 2 2 (cn 5 2 9 b) (cn 0 0 0 0) [(-1), 9, (-1), 3, (-1)]), (ss 2 b 1 2 (cn 0 0 0 0) (cn 5 2 9 a) [(-1), (-1), 9, (-1), 3]), [⟨1, 0, (oB 1 a), false⟩, ⟨1, 0, nB, false⟩, ⟨1, 0, [], true⟩, ⟨0, 1, nB, false⟩, ⟨0, 1, [], true⟩], 2⟩
theorem mlba3_ok {a b : Int} (ha : 1 ≤ a ∧ a ≤ 4294967295) : SysOk (mlba3 a b) := ⟨ss_fine (by unfold I64; decide) (cn_wf (by decide) (fun h => absurd h (by decide)) (by decide)) (cn_wf (by decide) (fun _ => ⟨rfl, rfl, rfl⟩) (by decide)), ss_fine (by unfold I64; decide) (cn_wf (by decide) (fun _ => ⟨rfl, rfl, rfl⟩) (by decide)) (cn_wf (by decide) (fun h => absurd h (by decide)) (by decide)), (ok_cons (ok_open (by decide) ha (by decide) (by decide)) (ok_cons (ok_note (by decide) (by decide)) (ok_cons (ok_end (by decide) (by decide)) (ok_cons (ok_note (by decide) (by decide)) (ok_cons (ok_end (by decide) (by decide)) ok_nil)))))⟩
def mlba4 (a b : Int) : Sys := ⟨(ss 1 a 2 2 (cn 5 2 9 b) (cn 0 0 0 0) [(-1), 9, (-1), 3, (-1)]), (ss 2 b 1 2 (cn 0 0 0 0) (cn 5 2 9 a) [(-1), (-1), 9, (-1), 3]), [⟨1, 0, nB, false⟩, ⟨1, 0, [], true⟩, ⟨0, 1, nB, false⟩, ⟨0, 1, [], true⟩], 2⟩
theorem mlba4_ok {a b : Int} : SysOk (mlba4 a b) := ⟨ss_fine (by unfold I64; decide) (cn_wf (by decide) (fun h => absurd h (by decide)) (by decide)) (cn_wf (by decide) (fun _ => ⟨rfl, rfl, rfl⟩) (by decide)), ss_fine (by unfold I64; decide) (cn_wf (by decide) (fun _ => ⟨rfl, rfl, rfl⟩) (by decide)) (cn_wf (by decide) (fun h => absurd h (by decide)) (by decide)), (ok_cons (ok_note (by decide) (by decide)) (ok_cons (ok_end (by decide) (by decide)) (ok_cons (ok_note (by decide) (by decide)) (ok_cons (ok_end (by decide) (by decide)) ok_nil))))⟩
def mlba5 (a b : Int) : Sys := ⟨(ss 1 a 2 2 (cn 5 2 9 b) (cn 0 0 0 0) [(-1), 9, (-1), 3, (-1)]), (ss 2 b 1 2 (cn 0 0 0 0) (cn 5 2 9 a) [(-1), (-1), 9, (-1), 3]), [⟨1, 0, [], true⟩, ⟨0, 1, nB, false⟩, ⟨0, 1, [], true⟩], 2⟩
theorem mlba5_ok {a b : Int} : SysOk (mlba5 a b) := ⟨ss_fine (by unfold I64; decide) (cn_wf (by decide) (fun h => absurd h (by decide)) (by decide)) (cn_wf (by decide) (fun _ => ⟨rfl, rfl, rfl⟩) (by decide)), ss_fine (by unfold I64; decide) (cn_wf (by decide) (fun _ => ⟨rfl, rfl, rfl⟩) (by decide)) (cn_wf (by decide) (fun h => absurd h (by decide)) (by decide)), (ok_cons (ok_end (by decide) (by decide)) (ok_cons (ok_note (by decide) (by decide)) (ok_cons (ok_end (by decide) (by decide)) ok_nil)))⟩
def mlba6 (a b : Int) : Sys := ⟨(ss 1 a 2 2 (cn 5 2 9 b) (cn 0 0 0 0) [(-1), 9, (-1), 3, (-1)]), (ss 2 b 1 2 (cn 0 0 0 0) (cn 5 2 9 a) [(-1), (-1), 9, (-1), 3]), [⟨0, 1, nB, false⟩, ⟨0, 1, [], true⟩], 2⟩
theorem mlba6_ok {a b : Int} : SysOk (mlba6 a b) := ⟨ss_fine (by unfold I64; decide) (cn_wf (by decide) (fun h => absurd h (by decide)) (by decide)) (cn_wf (by decide) (fun _ => ⟨rfl, rfl, rfl⟩) (by decide)), ss_fine (by unfold I64; decide) (cn_wf (by decide) (fun _ => ⟨rfl, rfl, rfl⟩) (by decide)) (cn_wf (by decide) (fun h => absurd h (by decide)) (by decide)), (ok_cons (ok_note (by decide) (by decide)) (ok_cons (ok_end (by decide) (by decide)) ok_nil))⟩
def mlba7 (a b : Int) : Sys := ⟨(ss 1 a 2 2 (cn 5 2 9 b) (cn 0 0 0 0) [(-1), 9, (-1), 3, (-1)]), (ss 2 b 1 2 (cn 0 0 0 0) (cn 5 2 9 a) [(-1), (-1), 9, (-1), 3]), [⟨0, 1, [], true⟩], 2⟩
theorem mlba7_ok {a b : Int} : SysOk (mlba7 a b) := ⟨ss_fine (by unfold I64; decide) (cn_wf (by decide) (fun h => absurd h (by decide)) (by decide)) (cn_wf (by decide) (fun _ => ⟨rfl, rfl, rfl⟩) (by decide)), ss_fine (by unfold I64; decide) (cn_wf (by decide) (fun _ => ⟨rfl, rfl, rfl⟩) (by decide)) (cn_wf (by decide) (fun h => absurd h (by decide)) (by decide)), (ok_cons (ok_end (by decide) (by decide)) ok_nil)⟩
def mlba8 (a b : Int) : Sys := ⟨(ss 1 a 2 2 (cn 5 2 9 b) (cn 0 0 0 0) [(-1), 9, (-1), 3, (-1)]), (ss 2 b 1 2 (cn 0 0 0 0) (cn 5 2 9 a) [(-1), (-1), 9, (-1), 3]), [], 2⟩
theorem mlba8_ok {a b : Int} : SysOk (mlba8 a b) := ⟨ss_fine (by unfold I64; decide) (cn_wf (by decide) (fun h => absurd h (by decide)) (by decide)) (cn_wf (by decide) (fun _ => ⟨rfl, rfl, rfl⟩) (by decide)), ss_fine (by unfold I64; decide) (cn_wf (by decide) (fun _ => ⟨rfl, rfl, rfl⟩) (by decide)) (cn_wf (by decide) (fun h => absurd h (by decide)) (by decide)), ok_nil⟩
theorem mlba0_turn (a b : Int) : (mlba0 a b).turn = mlba1 a b := by
  show Sys.put _ 0 (feedS (ss 1 a 2 2 (cn 4 1 9 b) (cn 3 0 0 0) [(-1), 9, 240, 3, (-1)]) 0 (msgB (MsL.zero 4))) = _
  rw [feed_msg (st := 4) (c := 1) (h := 9) (i := b) rfl (by decide) kaIn.1 kaIn.2]
  kernel_rfl
theorem mlba1_turn (a b : Int) : (mlba1 a b).turn = mlba2 a b := by
  show Sys.put _ 1 (feedS (ss 2 b 1 2 (cn 3 0 0 0) (cn 4 1 9 a) [(-1), 240, 9, (-1), 3]) 1 (msgB (MsL.zero 4))) = _
  rw [feed_msg (st := 4) (c := 1) (h := 9) (i := a) rfl (by decide) kaIn.1 kaIn.2]
  kernel_rfl
theorem mlba2_turn (a b : Int) : (mlba2 a b).turn = mlba3 a b := by
  show Sys.put _ 0 (feedS (ss 1 a 2 2 (cn 5 2 9 b) (cn 0 0 0 0) [(-1), 9, (-1), 3, (-1)]) 1 (oB 2 b)) = _
  rw [feed_st0 (s := (ss 1 a 2 2 (cn 5 2 9 b) (cn 0 0 0 0) [(-1), 9, (-1), 3, (-1)])) (n := 1) rfl (oB 2 b)]
  kernel_rfl
theorem mlba3_turn (a b : Int) : (mlba3 a b).turn = mlba4 a b := by
  show Sys.put _ 1 (feedS (ss 2 b 1 2 (cn 0 0 0 0) (cn 5 2 9 a) [(-1), (-1), 9, (-1), 3]) 0 (oB 1 a)) = _
  rw [feed_st0 (s := (ss 2 b 1 2 (cn 0 0 0 0) (cn 5 2 9 a) [(-1), (-1), 9, (-1), 3])) (n := 0) rfl (oB 1 a)]
  kernel_rfl
theorem mlba4_turn (a b : Int) : (mlba4 a b).turn = mlba5 a b := by
  show Sys.put _ 1 (feedS (ss 2 b 1 2 (cn 0 0 0 0) (cn 5 2 9 a) [(-1), (-1), 9, (-1), 3]) 0 nB) = _
  rw [feed_st0 (s := (ss 2 b 1 2 (cn 0 0 0 0) (cn 5 2 9 a) [(-1), (-1), 9, (-1), 3])) (n := 0) rfl nB]
  kernel_rfl
theorem mlba5_turn (a b : Int) : (mlba5 a b).turn = mlba6 a b := by
  kernel_rfl
theorem mlba6_turn (a b : Int) : (mlba6 a b).turn = mlba7 a b := by
  show Sys.put _ 0 (feedS (ss 1 a 2 2 (cn 5 2 9 b) (cn 0 0 0 0) [(-1), 9, (-1), 3, (-1)]) 1 nB) = _
  rw [feed_st0 (s := (ss 1 a 2 2 (cn 5 2 9 b) (cn 0 0 0 0) [(-1), 9, (-1), 3, (-1)])) (n := 1) rfl nB]
  kernel_rfl
theorem mlba7_turn (a b : Int) : (mlba7 a b).turn = mlba8 a b := by
  kernel_rfl
def mlbaE0 (a b : Int) : Sys := ⟨(ss 1 a 2 2 (cn 3 0 0 0) (cn 0 0 0 0) [(-1), 240, (-1), (-1), (-1)]), (ss 2 b 1 1 (cn 0 0 0 0) (cn 3 0 0 0) [(-1), (-1), 240, (-1), (-1)]), [⟨1, 1, (oB 1 a), false⟩, ⟨0, 0, (oB 2 b), false⟩], 0⟩
theorem mlbaE0_ok {a b : Int} (ha : 1 ≤ a ∧ a ≤ 4294967295) (hb : 1 ≤ b ∧ b ≤ 4294967295) : SysOk (mlbaE0 a b) := ⟨ss_fine (by unfold I64; decide) (cn_wf (by decide) (fun h => absurd h (by decide)) (by decide)) (cn_wf (by decide) (fun _ => ⟨rfl, rfl, rfl⟩) (by decide)), ss_fine (by unfold I64; decide) (cn_wf (by decide) (fun _ => ⟨rfl, rfl, rfl⟩) (by decide)) (cn_wf (by decide) (fun h => absurd h (by decide)) (by decide)), (ok_cons (ok_open (by decide) ha (by decide) (by decide)) (ok_cons (ok_open (by decide) hb (by decide) (by decide)) ok_nil))⟩
def mlbaE1 (a b : Int) : Sys := ⟨(ss 1 a 2 2 (cn 3 0 0 0) (cn 0 0 0 0) [(-1), 240, (-1), (-1), (-1)]), (ss 2 b 1 1 (cn 0 0 0 0) (cn 4 1 9 a) [(-1), (-1), 9, (-1), 3]), [⟨0, 0, (oB 2 b), false⟩, ⟨0, 0, kB, false⟩], 0⟩
theorem mlbaE1_ok {a b : Int} (hb : 1 ≤ b ∧ b ≤ 4294967295) : SysOk (mlbaE1 a b) := ⟨ss_fine (by unfold I64; decide) (cn_wf (by decide) (fun h => absurd h (by decide)) (by decide)) (cn_wf (by decide) (fun _ => ⟨rfl, rfl, rfl⟩) (by decide)), ss_fine (by unfold I64; decide) (cn_wf (by decide) (fun _ => ⟨rfl, rfl, rfl⟩) (by decide)) (cn_wf (by decide) (fun h => absurd h (by decide)) (by decide)), (ok_cons (ok_open (by decide) hb (by decide) (by decide)) (ok_cons (ok_ka (by decide) (by decide)) ok_nil))⟩
def mlbaE2 (a b : Int) : Sys := ⟨(ss 1 a 2 2 (cn 4 1 9 b) (cn 0 0 0 0) [(-1), 9, (-1), 3, (-1)]), (ss 2 b 1 1 (cn 0 0 0 0) (cn 4 1 9 a) [(-1), (-1), 9, (-1), 3]), [⟨0, 0, kB, false⟩, ⟨1, 1, kB, false⟩], 0⟩
theorem mlbaE2_ok {a b : Int} : SysOk (mlbaE2 a b) := ⟨ss_fine (by unfold I64; decide) (cn_wf (by decide) (fun h => absurd h (by decide)) (by decide)) (cn_wf (by decide) (fun _ => ⟨rfl, rfl, rfl⟩) (by decide)), ss_fine (by unfold I64; decide) (cn_wf (by decide) (fun _ => ⟨rfl, rfl, rfl⟩) (by decide)) (cn_wf (by decide) (fun h => absurd h (by decide)) (by decide)), (ok_cons (ok_ka (by decide) (by decide)) (ok_cons (ok_ka (by decide) (by decide)) ok_nil))⟩
theorem mlbaE0_turn {a b : Int} (hl : b < a) (ha : 1 ≤ a ∧ a ≤ 4294967295) : (mlbaE0 a b).turn = mlbaE1 a b := by
  obtain ⟨hc, hI⟩ := openIn (a := 1) (i := a) ⟨by decide, by decide⟩ ha
  show Sys.put _ 1 (feedS (ss 2 b 1 1 (cn 0 0 0 0) (cn 3 0 0 0) [(-1), (-1), 240, (-1), (-1)]) 1 (msgB (openM 1 9 a))) = _
  rw [feed_msg (st := 3) (c := 0) (h := 0) (i := 0) rfl (by decide) hc hI, hear_open rfl]
  rw [openS_plain (s := Se.set (ss 2 b 1 1 (cn 0 0 0 0) (cn 3 0 0 0) [(-1), (-1), 240, (-1), (-1)]) 1 (cn 3 (0 + 1) 0 0)) (n := 1) (a := 1) (h := 9) (i := a) rfl (show a ≠ b by omega) (by show (0 : Int) ≠ 5; decide) (by show (0 : Int) ≠ 4; decide)]
  kernel_rfl
theorem mlbaE1_turn {a b : Int} (hl : b < a) (hb : 1 ≤ b ∧ b ≤ 4294967295) : (mlbaE1 a b).turn = mlbaE2 a b := by
  obtain ⟨hc, hI⟩ := openIn (a := 2) (i := b) ⟨by decide, by decide⟩ hb
  show Sys.put _ 0 (feedS (ss 1 a 2 2 (cn 3 0 0 0) (cn 0 0 0 0) [(-1), 240, (-1), (-1), (-1)]) 0 (msgB (openM 2 9 b))) = _
  rw [feed_msg (st := 3) (c := 0) (h := 0) (i := 0) rfl (by decide) hc hI, hear_open rfl]
  rw [openS_plain (s := Se.set (ss 1 a 2 2 (cn 3 0 0 0) (cn 0 0 0 0) [(-1), 240, (-1), (-1), (-1)]) 0 (cn 3 (0 + 1) 0 0)) (n := 0) (a := 2) (h := 9) (i := b) rfl (show b ≠ a by omega) (by show (0 : Int) ≠ 5; decide) (by show (0 : Int) ≠ 4; decide)]
  kernel_rfl
def mst0 (a b : Int) : Sys := ⟨(ss 1 a 2 1 (cn 0 0 0 0) (cn 0 0 0 0) [5, (-1), (-1), (-1), (-1)]), (ss 2 b 1 1 (cn 0 0 0 0) (cn 0 0 0 0) [5, (-1), (-1), (-1), (-1)]), [], 0⟩
theorem mst0_ok {a b : Int} : SysOk (mst0 a b) := ⟨ss_fine (by unfold I64; decide) (cn_wf (by decide) (fun _ => ⟨rfl, rfl, rfl⟩) (by decide)) (cn_wf (by decide) (fun _ => ⟨rfl, rfl, rfl⟩) (by decide)), ss_fine (by unfold I64; decide) (cn_wf (by decide) (fun _ => ⟨rfl, rfl, rfl⟩) (by decide)) (cn_wf (by decide) (fun _ => ⟨rfl, rfl, rfl⟩) (by decide)), ok_nil⟩
def mst1 (a b : Int) : Sys := ⟨(ss 1 a 2 2 (cn 3 0 0 0) (cn 0 0 0 0) [(-1), 240, (-1), (-1), (-1)]), (ss 2 b 1 1 (cn 0 0 0 0) (cn 0 0 0 0) [5, (-1), (-1), (-1), (-1)]), [⟨1, 1, (oB 1 a), false⟩], 0⟩
theorem mst1_ok {a b : Int} (ha : 1 ≤ a ∧ a ≤ 4294967295) : SysOk (mst1 a b) := ⟨ss_fine (by unfold I64; decide) (cn_wf (by decide) (fun h => absurd h (by decide)) (by decide)) (cn_wf (by decide) (fun _ => ⟨rfl, rfl, rfl⟩) (by decide)), ss_fine (by unfold I64; decide) (cn_wf (by decide) (fun _ => ⟨rfl, rfl, rfl⟩) (by decide)) (cn_wf (by decide) (fun _ => ⟨rfl, rfl, rfl⟩) (by decide)), (ok_cons (ok_open (by decide) ha (by decide) (by decide)) ok_nil)⟩
def mst2 (a b : Int) : Sys := ⟨(ss 1 a 2 2 (cn 3 0 0 0) (cn 0 0 0 0) [(-1), 240, (-1), (-1), (-1)]), (ss 2 b 1 1 (cn 0 0 0 0) (cn 3 0 0 0) [(-1), (-1), 240, (-1), (-1)]), [⟨1, 1, (oB 1 a), false⟩, ⟨0, 0, (oB 2 b), false⟩], 0⟩
theorem mst2_ok {a b : Int} (ha : 1 ≤ a ∧ a ≤ 4294967295) (hb : 1 ≤ b ∧ b ≤ 4294967295) : SysOk (mst2 a b) := ⟨ss_fine (by unfold I64; decide) (cn_wf (by decide) (fun h => absurd h (by decide)) (by decide)) (cn_wf (by decide) (fun _ => ⟨rfl, rfl, rfl⟩) (by decide)), ss_fine (by unfold I64; decide) (cn_wf (by decide) (fun _ => ⟨rfl, rfl, rfl⟩) (by decide)) (cn_wf (by decide) (fun h => absurd h (by decide)) (by decide)), (ok_cons (ok_open (by decide) ha (by decide) (by decide)) (ok_cons (ok_open (by decide) hb (by decide) (by decide)) ok_nil))⟩
def mst3 (a b : Int) : Sys := ⟨(ss 1 a 2 2 (cn 3 0 0 0) (cn 0 0 0 0) [(-1), 240, (-1), (-1), (-1)]), (ss 2 b 1 2 (cn 3 0 0 0) (cn 3 0 0 0) [(-1), 240, 240, (-1), (-1)]), [⟨1, 1, (oB 1 a), false⟩, ⟨0, 0, (oB 2 b), false⟩, ⟨0, 1, (oB 2 b), false⟩], 0⟩
theorem mst3_ok {a b : Int} (ha : 1 ≤ a ∧ a ≤ 4294967295) (hb : 1 ≤ b ∧ b ≤ 4294967295) : SysOk (mst3 a b) := ⟨ss_fine (by unfold I64; decide) (cn_wf (by decide) (fun h => absurd h (by decide)) (by decide)) (cn_wf (by decide) (fun _ => ⟨rfl, rfl, rfl⟩) (by decide)), ss_fine (by unfold I64; decide) (cn_wf (by decide) (fun h => absurd h (by decide)) (by decide)) (cn_wf (by decide) (fun h => absurd h (by decide)) (by decide)), (ok_cons (ok_open (by decide) ha (by decide) (by decide)) (ok_cons (ok_open (by decide) hb (by decide) (by decide)) (ok_cons (ok_open (by decide) hb (by decide) (by decide)) ok_nil)))⟩
def mst4 (a b : Int) : Sys := ⟨(ss 1 a 2 2 (cn 3 0 0 0) (cn 3 0 0 0) [(-1), 240, 240, (-1), (-1)]), (ss 2 b 1 2 (cn 3 0 0 0) (cn 3 0 0 0) [(-1), 240, 240, (-1), (-1)]), [⟨1, 1, (oB 1 a), false⟩, ⟨0, 0, (oB 2 b), false⟩, ⟨0, 1, (oB 2 b), false⟩, ⟨1, 0, (oB 1 a), false⟩], 0⟩
theorem mst4_ok {a b : Int} (ha : 1 ≤ a ∧ a ≤ 4294967295) (hb : 1 ≤ b ∧ b ≤ 4294967295) : SysOk (mst4 a b) := ⟨ss_fine (by unfold I64; decide) (cn_wf (by decide) (fun h => absurd h (by decide)) (by decide)) (cn_wf (by decide) (fun h => absurd h (by decide)) (by decide)), ss_fine (by unfold I64; decide) (cn_wf (by decide) (fun h => absurd h (by decide)) (by decide)) (cn_wf (by decide) (fun h => absurd h (by decide)) (by decide)), (ok_cons (ok_open (by decide) ha (by decide) (by decide)) (ok_cons (ok_open (by decide) hb (by decide) (by decide)) (ok_cons (ok_open (by decide) hb (by decide) (by decide)) (ok_cons (ok_open (by decide) ha (by decide) (by decide)) ok_nil))))⟩
theorem mst_new (a b : Int) : mst0 a b = ⟨(Se.new 1 a 2 9 5).dial, (Se.new 2 b 1 9 5).dial, [], 0⟩ := by kernel_rfl
theorem mst0_up {a b : Int} (ha : 1 ≤ a ∧ a ≤ 4294967295) : (mst0 a b).up 0 0 = mst1 a b := by
  show Sys.put _ 0 (upA (ss 1 a 2 1 (cn 0 0 0 0) (cn 0 0 0 0) [5, (-1), (-1), (-1), (-1)]) ((0 : Nat) : Int)) = _
  rw [upA_go (s := (ss 1 a 2 1 (cn 0 0 0 0) (cn 0 0 0 0) [5, (-1), (-1), (-1), (-1)])) (n := 0) (asn := 1) (hold := 9) (id := a) (by decide) (show ¬ ((1 : Int) = 0 ∨ (0 : Int) ≠ 0 ∨ ((0 : Nat) = 0 ∧ (1 : Int) ≠ 1)) by decide) rfl rfl rfl (openIn (a := 1) (i := a) ⟨by decide, by decide⟩ ha).1]
  kernel_rfl
theorem mst1_up {a b : Int} (hb : 1 ≤ b ∧ b ≤ 4294967295) : (mst1 a b).up 1 1 = mst2 a b := by
  show Sys.put _ 1 (upA (ss 2 b 1 1 (cn 0 0 0 0) (cn 0 0 0 0) [5, (-1), (-1), (-1), (-1)]) ((1 : Nat) : Int)) = _
  rw [upA_go (s := (ss 2 b 1 1 (cn 0 0 0 0) (cn 0 0 0 0) [5, (-1), (-1), (-1), (-1)])) (n := 1) (asn := 2) (hold := 9) (id := b) (by decide) (show ¬ ((1 : Int) = 0 ∨ (0 : Int) ≠ 0 ∨ ((1 : Nat) = 0 ∧ (1 : Int) ≠ 1)) by decide) rfl rfl rfl (openIn (a := 2) (i := b) ⟨by decide, by decide⟩ hb).1]
  kernel_rfl
theorem mst2_up {a b : Int} (hb : 1 ≤ b ∧ b ≤ 4294967295) : (mst2 a b).up 1 0 = mst3 a b := by
  show Sys.put _ 1 (upA (ss 2 b 1 1 (cn 0 0 0 0) (cn 3 0 0 0) [(-1), (-1), 240, (-1), (-1)]) ((0 : Nat) : Int)) = _
  rw [upA_go (s := (ss 2 b 1 1 (cn 0 0 0 0) (cn 3 0 0 0) [(-1), (-1), 240, (-1), (-1)])) (n := 0) (asn := 2) (hold := 9) (id := b) (by decide) (show ¬ ((1 : Int) = 0 ∨ (0 : Int) ≠ 0 ∨ ((0 : Nat) = 0 ∧ (1 : Int) ≠ 1)) by decide) rfl rfl rfl (openIn (a := 2) (i := b) ⟨by decide, by decide⟩ hb).1]
  kernel_rfl
theorem mst3_up {a b : Int} (ha : 1 ≤ a ∧ a ≤ 4294967295) : (mst3 a b).up 0 1 = mst4 a b := by
  show Sys.put _ 0 (upA (ss 1 a 2 2 (cn 3 0 0 0) (cn 0 0 0 0) [(-1), 240, (-1), (-1), (-1)]) ((1 : Nat) : Int)) = _
  rw [upA_go (s := (ss 1 a 2 2 (cn 3 0 0 0) (cn 0 0 0 0) [(-1), 240, (-1), (-1), (-1)])) (n := 1) (asn := 1) (hold := 9) (id := a) (by decide) (show ¬ ((2 : Int) = 0 ∨ (0 : Int) ≠ 0 ∨ ((1 : Nat) = 0 ∧ (2 : Int) ≠ 1)) by decide) rfl rfl rfl (openIn (a := 1) (i := a) ⟨by decide, by decide⟩ ha).1]
  kernel_rfl
theorem mst_both (a b : Int) : mst4 a b = mab0 a b ∧ mst4 a b = mba0 a b ∧ mst2 a b = mlabE0 a b ∧ mst2 a b = mlbaE0 a b := ⟨rfl, rfl, rfl, rfl⟩
def mlabM (a b : Int) : Sys := ⟨(ss 1 a 2 2 (cn 4 1 9 b) (cn 0 0 0 0) [(-1), 9, (-1), 3, (-1)]), (ss 2 b 1 2 (cn 3 0 0 0) (cn 4 1 9 a) [(-1), 240, 9, (-1), 3]), [⟨0, 0, kB, false⟩, ⟨1, 1, kB, false⟩, ⟨0, 1, (oB 2 b), false⟩], 0⟩
theorem mlabM_ok {a b : Int} (hb : 1 ≤ b ∧ b ≤ 4294967295) : SysOk (mlabM a b) := ⟨ss_fine (by unfold I64; decide) (cn_wf (by decide) (fun h => absurd h (by decide)) (by decide)) (cn_wf (by decide) (fun _ => ⟨rfl, rfl, rfl⟩) (by decide)), ss_fine (by unfold I64; decide) (cn_wf (by decide) (fun h => absurd h (by decide)) (by decide)) (cn_wf (by decide) (fun h => absurd h (by decide)) (by decide)), (ok_cons (ok_ka (by decide) (by decide)) (ok_cons (ok_ka (by decide) (by decide)) (ok_cons (ok_open (by decide) hb (by decide) (by decide)) ok_nil)))⟩
theorem mlabE2_up {a b : Int} (hb : 1 ≤ b ∧ b ≤ 4294967295) : (mlabE2 a b).up 1 0 = mlabM a b := by
  show Sys.put _ 1 (upA (ss 2 b 1 1 (cn 0 0 0 0) (cn 4 1 9 a) [(-1), (-1), 9, (-1), 3]) ((0 : Nat) : Int)) = _
  rw [upA_go (s := (ss 2 b 1 1 (cn 0 0 0 0) (cn 4 1 9 a) [(-1), (-1), 9, (-1), 3])) (n := 0) (asn := 2) (hold := 9) (id := b) (by decide) (show ¬ ((1 : Int) = 0 ∨ (0 : Int) ≠ 0 ∨ ((0 : Nat) = 0 ∧ (1 : Int) ≠ 1)) by decide) rfl rfl rfl (openIn (a := 2) (i := b) ⟨by decide, by decide⟩ hb).1]
  kernel_rfl
theorem mlabM_up {a b : Int} (ha : 1 ≤ a ∧ a ≤ 4294967295) : (mlabM a b).up 0 1 = mlab0 a b := by
  show Sys.put _ 0 (upA (ss 1 a 2 2 (cn 4 1 9 b) (cn 0 0 0 0) [(-1), 9, (-1), 3, (-1)]) ((1 : Nat) : Int)) = _
  rw [upA_go (s := (ss 1 a 2 2 (cn 4 1 9 b) (cn 0 0 0 0) [(-1), 9, (-1), 3, (-1)])) (n := 1) (asn := 1) (hold := 9) (id := a) (by decide) (show ¬ ((2 : Int) = 0 ∨ (0 : Int) ≠ 0 ∨ ((1 : Nat) = 0 ∧ (2 : Int) ≠ 1)) by decide) rfl rfl rfl (openIn (a := 1) (i := a) ⟨by decide, by decide⟩ ha).1]
  kernel_rfl
def mlbaM (a b : Int) : Sys := ⟨(ss 1 a 2 2 (cn 4 1 9 b) (cn 0 0 0 0) [(-1), 9, (-1), 3, (-1)]), (ss 2 b 1 2 (cn 3 0 0 0) (cn 4 1 9 a) [(-1), 240, 9, (-1), 3]), [⟨0, 0, kB, false⟩, ⟨1, 1, kB, false⟩, ⟨0, 1, (oB 2 b), false⟩], 0⟩
theorem mlbaM_ok {a b : Int} (hb : 1 ≤ b ∧ b ≤ 4294967295) : SysOk (mlbaM a b) := ⟨ss_fine (by unfold I64; decide) (cn_wf (by decide) (fun h => absurd h (by decide)) (by decide)) (cn_wf (by decide) (fun _ => ⟨rfl, rfl, rfl⟩) (by decide)), ss_fine (by unfold I64; decide) (cn_wf (by decide) (fun h => absurd h (by decide)) (by decide)) (cn_wf (by decide) (fun h => absurd h (by decide)) (by decide)), (ok_cons (ok_ka (by decide) (by decide)) (ok_cons (ok_ka (by decide) (by decide)) (ok_cons (ok_open (by decide) hb (by decide) (by decide)) ok_nil)))⟩
theorem mlbaE2_up {a b : Int} (hb : 1 ≤ b ∧ b ≤ 4294967295) : (mlbaE2 a b).up 1 0 = mlbaM a b := by
  show Sys.put _ 1 (upA (ss 2 b 1 1 (cn 0 0 0 0) (cn 4 1 9 a) [(-1), (-1), 9, (-1), 3]) ((0 : Nat) : Int)) = _
  rw [upA_go (s := (ss 2 b 1 1 (cn 0 0 0 0) (cn 4 1 9 a) [(-1), (-1), 9, (-1), 3])) (n := 0) (asn := 2) (hold := 9) (id := b) (by decide) (show ¬ ((1 : Int) = 0 ∨ (0 : Int) ≠ 0 ∨ ((0 : Nat) = 0 ∧ (1 : Int) ≠ 1)) by decide) rfl rfl rfl (openIn (a := 2) (i := b) ⟨by decide, by decide⟩ hb).1]
  kernel_rfl
theorem mlbaM_up {a b : Int} (ha : 1 ≤ a ∧ a ≤ 4294967295) : (mlbaM a b).up 0 1 = mlba0 a b := by
  show Sys.put _ 0 (upA (ss 1 a 2 2 (cn 4 1 9 b) (cn 0 0 0 0) [(-1), 9, (-1), 3, (-1)]) ((1 : Nat) : Int)) = _
  rw [upA_go (s := (ss 1 a 2 2 (cn 4 1 9 b) (cn 0 0 0 0) [(-1), 9, (-1), 3, (-1)])) (n := 1) (asn := 1) (hold := 9) (id := a) (by decide) (show ¬ ((2 : Int) = 0 ∨ (0 : Int) ≠ 0 ∨ ((1 : Nat) = 0 ∧ (2 : Int) ≠ 1)) by decide) rfl rfl rfl (openIn (a := 1) (i := a) ⟨by decide, by decide⟩ ha).1]
  kernel_rfl
theorem mab_runs {a b : Int} (hl : a < b) (ha : 1 ≤ a ∧ a ≤ 4294967295) (hb : 1 ≤ b ∧ b ≤ 4294967295) : (∀ k, k < 12 → ((mab0 a b).turns k).mail ≠ []) ∧ (∀ k, k ≤ 12 → SysOk ((mab0 a b).turns k)) ∧ (mab0 a b).turns 12 = mab12 a b := by
  have e0 : (mab0 a b).turns 0 = mab0 a b := rfl
  have e1 : (mab0 a b).turns 1 = mab1 a b := by show ((mab0 a b).turns 0).turn = _; rw [e0]; first | exact mab0_turn hl ha | exact mab0_turn hl hb | exact mab0_turn a b
  have e2 : (mab0 a b).turns 2 = mab2 a b := by show ((mab0 a b).turns 1).turn = _; rw [e1]; first | exact mab1_turn hl ha | exact mab1_turn hl hb | exact mab1_turn a b
  have e3 : (mab0 a b).turns 3 = mab3 a b := by show ((mab0 a b).turns 2).turn = _; rw [e2]; first | exact mab2_turn hl ha | exact mab2_turn hl hb | exact mab2_turn a b
  have e4 : (mab0 a b).turns 4 = mab4 a b := by show ((mab0 a b).turns 3).turn = _; rw [e3]; first | exact mab3_turn hl ha | exact mab3_turn hl hb | exact mab3_turn a b
  have e5 : (mab0 a b).turns 5 = mab5 a b := by show ((mab0 a b).turns 4).turn = _; rw [e4]; first | exact mab4_turn hl ha | exact mab4_turn hl hb | exact mab4_turn a b
  have e6 : (mab0 a b).turns 6 = mab6 a b := by show ((mab0 a b).turns 5).turn = _; rw [e5]; first | exact mab5_turn hl ha | exact mab5_turn hl hb | exact mab5_turn a b
  have e7 : (mab0 a b).turns 7 = mab7 a b := by show ((mab0 a b).turns 6).turn = _; rw [e6]; first | exact mab6_turn hl ha | exact mab6_turn hl hb | exact mab6_turn a b
  have e8 : (mab0 a b).turns 8 = mab8 a b := by show ((mab0 a b).turns 7).turn = _; rw [e7]; first | exact mab7_turn hl ha | exact mab7_turn hl hb | exact mab7_turn a b
  have e9 : (mab0 a b).turns 9 = mab9 a b := by show ((mab0 a b).turns 8).turn = _; rw [e8]; first | exact mab8_turn hl ha | exact mab8_turn hl hb | exact mab8_turn a b
  have e10 : (mab0 a b).turns 10 = mab10 a b := by show ((mab0 a b).turns 9).turn = _; rw [e9]; first | exact mab9_turn hl ha | exact mab9_turn hl hb | exact mab9_turn a b
  have e11 : (mab0 a b).turns 11 = mab11 a b := by show ((mab0 a b).turns 10).turn = _; rw [e10]; first | exact mab10_turn hl ha | exact mab10_turn hl hb | exact mab10_turn a b
  have e12 : (mab0 a b).turns 12 = mab12 a b := by show ((mab0 a b).turns 11).turn = _; rw [e11]; first | exact mab11_turn hl ha | exact mab11_turn hl hb | exact mab11_turn a b
  refine ⟨fun k hk => ?_, fun k hk => ?_, e12⟩
  · match k, hk with
    | 0, _ => rw [e0]; exact List.cons_ne_nil _ _
    | 1, _ => rw [e1]; exact List.cons_ne_nil _ _
    | 2, _ => rw [e2]; exact List.cons_ne_nil _ _
    | 3, _ => rw [e3]; exact List.cons_ne_nil _ _
    | 4, _ => rw [e4]; exact List.cons_ne_nil _ _
    | 5, _ => rw [e5]; exact List.cons_ne_nil _ _
    | 6, _ => rw [e6]; exact List.cons_ne_nil _ _
    | 7, _ => rw [e7]; exact List.cons_ne_nil _ _
    | 8, _ => rw [e8]; exact List.cons_ne_nil _ _
    | 9, _ => rw [e9]; exact List.cons_ne_nil _ _
    | 10, _ => rw [e10]; exact List.cons_ne_nil _ _
    | 11, _ => rw [e11]; exact List.cons_ne_nil _ _
  · match k, hk with
    | 0, _ => rw [e0]; exact mab0_ok ha hb
    | 1, _ => rw [e1]; exact mab1_ok ha hb
    | 2, _ => rw [e2]; exact mab2_ok ha hb
    | 3, _ => rw [e3]; exact mab3_ok ha
    | 4, _ => rw [e4]; exact mab4_ok 
    | 5, _ => rw [e5]; exact mab5_ok 
    | 6, _ => rw [e6]; exact mab6_ok 
    | 7, _ => rw [e7]; exact mab7_ok 
    | 8, _ => rw [e8]; exact mab8_ok 
    | 9, _ => rw [e9]; exact mab9_ok 
    | 10, _ => rw [e10]; exact mab10_ok 
    | 11, _ => rw [e11]; exact mab11_ok 
    | 12, _ => rw [e12]; exact mab12_ok 
theorem mba_runs {a b : Int} (hl : b < a) (ha : 1 ≤ a ∧ a ≤ 4294967295) (hb : 1 ≤ b ∧ b ≤ 4294967295) : (∀ k, k < 10 → ((mba0 a b).turns k).mail ≠ []) ∧ (∀ k, k ≤ 10 → SysOk ((mba0 a b).turns k)) ∧ (mba0 a b).turns 10 = mba10 a b := by
  have e0 : (mba0 a b).turns 0 = mba0 a b := rfl
  have e1 : (mba0 a b).turns 1 = mba1 a b := by show ((mba0 a b).turns 0).turn = _; rw [e0]; first | exact mba0_turn hl ha | exact mba0_turn hl hb | exact mba0_turn a b
  have e2 : (mba0 a b).turns 2 = mba2 a b := by show ((mba0 a b).turns 1).turn = _; rw [e1]; first | exact mba1_turn hl ha | exact mba1_turn hl hb | exact mba1_turn a b
  have e3 : (mba0 a b).turns 3 = mba3 a b := by show ((mba0 a b).turns 2).turn = _; rw [e2]; first | exact mba2_turn hl ha | exact mba2_turn hl hb | exact mba2_turn a b
  have e4 : (mba0 a b).turns 4 = mba4 a b := by show ((mba0 a b).turns 3).turn = _; rw [e3]; first | exact mba3_turn hl ha | exact mba3_turn hl hb | exact mba3_turn a b
  have e5 : (mba0 a b).turns 5 = mba5 a b := by show ((mba0 a b).turns 4).turn = _; rw [e4]; first | exact mba4_turn hl ha | exact mba4_turn hl hb | exact mba4_turn a b
  have e6 : (mba0 a b).turns 6 = mba6 a b := by show ((mba0 a b).turns 5).turn = _; rw [e5]; first | exact mba5_turn hl ha | exact mba5_turn hl hb | exact mba5_turn a b
  have e7 : (mba0 a b).turns 7 = mba7 a b := by show ((mba0 a b).turns 6).turn = _; rw [e6]; first | exact mba6_turn hl ha | exact mba6_turn hl hb | exact mba6_turn a b
  have e8 : (mba0 a b).turns 8 = mba8 a b := by show ((mba0 a b).turns 7).turn = _; rw [e7]; first | exact mba7_turn hl ha | exact mba7_turn hl hb | exact mba7_turn a b
  have e9 : (mba0 a b).turns 9 = mba9 a b := by show ((mba0 a b).turns 8).turn = _; rw [e8]; first | exact mba8_turn hl ha | exact mba8_turn hl hb | exact mba8_turn a b
  have e10 : (mba0 a b).turns 10 = mba10 a b := by show ((mba0 a b).turns 9).turn = _; rw [e9]; first | exact mba9_turn hl ha | exact mba9_turn hl hb | exact mba9_turn a b
  refine ⟨fun k hk => ?_, fun k hk => ?_, e10⟩
  · match k, hk with
    | 0, _ => rw [e0]; exact List.cons_ne_nil _ _
    | 1, _ => rw [e1]; exact List.cons_ne_nil _ _
    | 2, _ => rw [e2]; exact List.cons_ne_nil _ _
    | 3, _ => rw [e3]; exact List.cons_ne_nil _ _
    | 4, _ => rw [e4]; exact List.cons_ne_nil _ _
    | 5, _ => rw [e5]; exact List.cons_ne_nil _ _
    | 6, _ => rw [e6]; exact List.cons_ne_nil _ _
    | 7, _ => rw [e7]; exact List.cons_ne_nil _ _
    | 8, _ => rw [e8]; exact List.cons_ne_nil _ _
    | 9, _ => rw [e9]; exact List.cons_ne_nil _ _
  · match k, hk with
    | 0, _ => rw [e0]; exact mba0_ok ha hb
    | 1, _ => rw [e1]; exact mba1_ok ha hb
    | 2, _ => rw [e2]; exact mba2_ok ha hb
    | 3, _ => rw [e3]; exact mba3_ok ha
    | 4, _ => rw [e4]; exact mba4_ok 
    | 5, _ => rw [e5]; exact mba5_ok 
    | 6, _ => rw [e6]; exact mba6_ok 
    | 7, _ => rw [e7]; exact mba7_ok 
    | 8, _ => rw [e8]; exact mba8_ok 
    | 9, _ => rw [e9]; exact mba9_ok 
    | 10, _ => rw [e10]; exact mba10_ok 
theorem mlab_runs {a b : Int} (ha : 1 ≤ a ∧ a ≤ 4294967295) (hb : 1 ≤ b ∧ b ≤ 4294967295) : (∀ k, k < 8 → ((mlab0 a b).turns k).mail ≠ []) ∧ (∀ k, k ≤ 8 → SysOk ((mlab0 a b).turns k)) ∧ (mlab0 a b).turns 8 = mlab8 a b := by
  have e0 : (mlab0 a b).turns 0 = mlab0 a b := rfl
  have e1 : (mlab0 a b).turns 1 = mlab1 a b := by show ((mlab0 a b).turns 0).turn = _; rw [e0]; exact mlab0_turn a b
  have e2 : (mlab0 a b).turns 2 = mlab2 a b := by show ((mlab0 a b).turns 1).turn = _; rw [e1]; exact mlab1_turn a b
  have e3 : (mlab0 a b).turns 3 = mlab3 a b := by show ((mlab0 a b).turns 2).turn = _; rw [e2]; exact mlab2_turn a b
  have e4 : (mlab0 a b).turns 4 = mlab4 a b := by show ((mlab0 a b).turns 3).turn = _; rw [e3]; exact mlab3_turn a b
  have e5 : (mlab0 a b).turns 5 = mlab5 a b := by show ((mlab0 a b).turns 4).turn = _; rw [e4]; exact mlab4_turn a b
  have e6 : (mlab0 a b).turns 6 = mlab6 a b := by show ((mlab0 a b).turns 5).turn = _; rw [e5]; exact mlab5_turn a b
  have e7 : (mlab0 a b).turns 7 = mlab7 a b := by show ((mlab0 a b).turns 6).turn = _; rw [e6]; exact mlab6_turn a b
  have e8 : (mlab0 a b).turns 8 = mlab8 a b := by show ((mlab0 a b).turns 7).turn = _; rw [e7]; exact mlab7_turn a b
  refine ⟨fun k hk => ?_, fun k hk => ?_, e8⟩
  · match k, hk with
    | 0, _ => rw [e0]; exact List.cons_ne_nil _ _
    | 1, _ => rw [e1]; exact List.cons_ne_nil _ _
    | 2, _ => rw [e2]; exact List.cons_ne_nil _ _
    | 3, _ => rw [e3]; exact List.cons_ne_nil _ _
    | 4, _ => rw [e4]; exact List.cons_ne_nil _ _
    | 5, _ => rw [e5]; exact List.cons_ne_nil _ _
    | 6, _ => rw [e6]; exact List.cons_ne_nil _ _
    | 7, _ => rw [e7]; exact List.cons_ne_nil _ _
  · match k, hk with
    | 0, _ => rw [e0]; exact mlab0_ok ha hb
    | 1, _ => rw [e1]; exact mlab1_ok ha hb
    | 2, _ => rw [e2]; exact mlab2_ok ha hb
    | 3, _ => rw [e3]; exact mlab3_ok ha
    | 4, _ => rw [e4]; exact mlab4_ok 
    | 5, _ => rw [e5]; exact mlab5_ok 
    | 6, _ => rw [e6]; exact mlab6_ok 
    | 7, _ => rw [e7]; exact mlab7_ok 
    | 8, _ => rw [e8]; exact mlab8_ok 
theorem mlba_runs {a b : Int} (ha : 1 ≤ a ∧ a ≤ 4294967295) (hb : 1 ≤ b ∧ b ≤ 4294967295) : (∀ k, k < 8 → ((mlba0 a b).turns k).mail ≠ []) ∧ (∀ k, k ≤ 8 → SysOk ((mlba0 a b).turns k)) ∧ (mlba0 a b).turns 8 = mlba8 a b := by
  have e0 : (mlba0 a b).turns 0 = mlba0 a b := rfl
  have e1 : (mlba0 a b).turns 1 = mlba1 a b := by show ((mlba0 a b).turns 0).turn = _; rw [e0]; exact mlba0_turn a b
  have e2 : (mlba0 a b).turns 2 = mlba2 a b := by show ((mlba0 a b).turns 1).turn = _; rw [e1]; exact mlba1_turn a b
  have e3 : (mlba0 a b).turns 3 = mlba3 a b := by show ((mlba0 a b).turns 2).turn = _; rw [e2]; exact mlba2_turn a b
  have e4 : (mlba0 a b).turns 4 = mlba4 a b := by show ((mlba0 a b).turns 3).turn = _; rw [e3]; exact mlba3_turn a b
  have e5 : (mlba0 a b).turns 5 = mlba5 a b := by show ((mlba0 a b).turns 4).turn = _; rw [e4]; exact mlba4_turn a b
  have e6 : (mlba0 a b).turns 6 = mlba6 a b := by show ((mlba0 a b).turns 5).turn = _; rw [e5]; exact mlba5_turn a b
  have e7 : (mlba0 a b).turns 7 = mlba7 a b := by show ((mlba0 a b).turns 6).turn = _; rw [e6]; exact mlba6_turn a b
  have e8 : (mlba0 a b).turns 8 = mlba8 a b := by show ((mlba0 a b).turns 7).turn = _; rw [e7]; exact mlba7_turn a b
  refine ⟨fun k hk => ?_, fun k hk => ?_, e8⟩
  · match k, hk with
    | 0, _ => rw [e0]; exact List.cons_ne_nil _ _
    | 1, _ => rw [e1]; exact List.cons_ne_nil _ _
    | 2, _ => rw [e2]; exact List.cons_ne_nil _ _
    | 3, _ => rw [e3]; exact List.cons_ne_nil _ _
    | 4, _ => rw [e4]; exact List.cons_ne_nil _ _
    | 5, _ => rw [e5]; exact List.cons_ne_nil _ _
    | 6, _ => rw [e6]; exact List.cons_ne_nil _ _
    | 7, _ => rw [e7]; exact List.cons_ne_nil _ _
  · match k, hk with
    | 0, _ => rw [e0]; exact mlba0_ok ha hb
    | 1, _ => rw [e1]; exact mlba1_ok ha hb
    | 2, _ => rw [e2]; exact mlba2_ok ha hb
    | 3, _ => rw [e3]; exact mlba3_ok ha
    | 4, _ => rw [e4]; exact mlba4_ok 
    | 5, _ => rw [e5]; exact mlba5_ok 
    | 6, _ => rw [e6]; exact mlba6_ok 
    | 7, _ => rw [e7]; exact mlba7_ok 
    | 8, _ => rw [e8]; exact mlba8_ok 

def VecP (s : Nat) (ad : Option Addr) (k c : Nat) (xs : List Value) (E : List Ent) : Prop :=
  (ad = none ∧ k = 0 ∧ c = 0 ∧ xs = [] ∧ E = []) ∨ ∃ g o cs, ad = some ⟨g, o, none⟩ ∧ E = [.row g cs] ∧ xs.length = k * s ∧ k ≤ c ∧ o + c * s ≤ cs.length ∧ ∀ i v, xs[i]? = some v → cs[o + i]? = some v
theorem VecP.of {s : Nat} {ad : Option Addr} {k c : Nat} {xs : List Value} {E : List Ent} (h : Vec s ad k c xs E) : VecP s ad k c xs E := by
  have hl := h.len
  rcases h with ⟨ha, hn, hc, hx, hE⟩ | ⟨g, cs, ha, hE, hx, hq, hk⟩
  · exact .inl ⟨ha, hn, hc, hx, hE⟩
  · refine .inr ⟨g, 0, cs, ha, hE, hl.1, hk, by omega, fun i v hi => ?_⟩
    rw [Nat.zero_add]
    rw [← hx, List.getElem?_take] at hi
    split at hi
    · exact hi
    · cases hi
theorem VecP.len {s : Nat} {ad : Option Addr} {k c : Nat} {xs : List Value} {E : List Ent} (h : VecP s ad k c xs E) : xs.length = k * s ∧ k ≤ c := by
  rcases h with ⟨_, rfl, rfl, rfl, _⟩ | ⟨_, _, _, _, _, h, hk, _⟩
  · simp
  · exact ⟨h, hk⟩
theorem VecP.src {s : Nat} {ad : Option Addr} {k c : Nat} {xs : List Value} {E : List Ent} (h : VecP s ad k c xs E) (h0 : 0 < k) : ∃ b o, ad = some ⟨b, o, none⟩ ∧ ∀ w, (∀ e ∈ E, e.holds w) → w.rangeAt b o xs := by
  rcases h with ⟨_, rfl, _⟩ | ⟨g, o, cs, rfl, rfl, _, _, _, hx⟩
  · exact absurd h0 (Nat.lt_irrefl 0)
  · refine ⟨g, o, rfl, fun w hw j v hj => ?_⟩
    have hR : Row w g cs := hw (.row g cs) (List.mem_cons_self ..)
    exact hR.cell (hx j v hj)
theorem VecP.tail {s g o k c : Nat} {xs : List Value} {E : List Ent} (h : VecP s (some ⟨g, o, none⟩) (k + 1) c xs E) : VecP s (some ⟨g, sAddr o 1 c s, none⟩) k (c - 1) (xs.drop s) E := by
  rcases h with ⟨h, _⟩ | ⟨g', o', cs, e, rfl, hl, hk, hb, hx⟩
  · cases h
  · cases e
    have h1 : (k + 1) * s = k * s + s := Nat.succ_mul ..
    have h2 : c * s = (c - 1) * s + s := by rw [← Nat.succ_mul]; congr 1; omega
    refine .inr ⟨g, sAddr o 1 c s, cs, rfl, rfl, by rw [List.length_drop]; omega, by omega, by unfold sAddr; split <;> omega, fun i v hi => ?_⟩
    unfold sAddr
    rw [List.getElem?_drop] at hi
    split
    · rename_i hck
      have hk0 : k = 0 := by omega
      subst hk0
      rw [List.getElem?_eq_none (by omega)] at hi
      cases hi
    · have := hx (s + i) v hi
      rw [Nat.one_mul, Nat.add_assoc]; exact this
section
variable {P : Program} {ops : Array Oper} {Q : Exit → Act → World → Prop} {n : Nat} {p : Nat → Prop} {w0 : World} {o : Oper} {rest : List Oper} {l : Kn} {E L0 : List Ent}
theorem WL.appendP {t tx e s by_ d k m c mc : Nat} {ad sa : Option Addr} {xs new zs : List Value} {x y : Operand} (ho : o.op = .call { callee := .builtin .append, args := #[x, y], argTypes := #[t, tx] }) (hx : ev l x = some (.slice ad k c)) (hy : ev l y = some (.slice sa m mc))
    (hu : P.underlying t = some (.slice e)) {e' : TypeId} (hux : P.underlying tx = some (.slice e')) (hs : (P.info? e).map (·.size) = some s) (hb : (P.info? e).map (·.bytes) = some by_) (hz : Zero P e zs) (hzl : zs.length = s) (hby : Nat.blt 0 by_ = true)
    (hV : VecP s ad k c xs E) (hc : 0 < m → ∃ b so, sa = some ⟨b, so, none⟩ ∧ ∀ w, St p w0 w (E ++ L0) → w.rangeAt b so new) (hnl : new.length = m * s) (hall : new.all one = true) (hbig : (3 * (k + m) + 1200) * by_ ≤ 281474976710656)
    (hg : On ops o l) (hd : o.dst = some d) (hn : Nat.blt d n = true)
    (h : ∀ ad' c' E', VecP s ad' (k + m) c' (xs ++ new) E' → WL P ops Q n p w0 rest ((d, .slice ad' (k + m) c') :: l) (E' ++ L0)) : WL P ops Q n p w0 (o :: rest) l (E ++ L0) := by
  refine WL.op hg hd hn fun a w ha hS => ?_
  have hxy : evs l [x, y] = some [.slice ad k c, .slice sa m mc] := by simp [evs, hx, hy]
  obtain ⟨cc, hr⟩ := run_builtin (P := P) (w := w) (xs := [x, y]) ho hxy ha
  have first : ∀ {q : Option Addr} {j jc : Nat} {us : List Value}, us.length = j * s → (0 < j → ∃ b so, q = some ⟨b, so, none⟩ ∧ ∀ w, St p w0 w (E ++ L0) → w.rangeAt b so us) → ∀ w', St p w0 w' (E ++ L0) → (Builtin.firstCells s j (.slice q j jc)).run P w' = .ok us.toArray w' := fun {q j jc us} hl hcs w' hS' => by
    by_cases hm : 0 < j
    · obtain ⟨b, so, eq, hcs2⟩ := hcs hm
      rw [eq]
      exact run_loadRange (P := P) hl (hcs2 w' hS')
    · obtain rfl : j = 0 := by omega
      have hn0 : us = [] := List.length_eq_zero_iff.1 (by omega)
      subst hn0
      cases q with
      | none => rfl
      | some q => simp [Builtin.firstCells, loadCells, loadCellsFrom]
  have hold : 0 < k → ∃ b so, ad = some ⟨b, so, none⟩ ∧ ∀ w, St p w0 w (E ++ L0) → w.rangeAt b so xs := fun h0 => by
    obtain ⟨b, so, e1, h1⟩ := hV.src h0
    exact ⟨b, so, e1, fun w hS => h1 w fun e he => hS.holds e (List.mem_append_left _ he)⟩
  have hxl := hV.len.1
  by_cases hroom : k + m ≤ c
  · have hf := first (q := sa) (jc := mc) (us := new) hnl hc w hS
    rcases hV with ⟨rfl, rfl, rfl, rfl, rfl⟩ | ⟨g, off, cs, rfl, rfl, hl, hkc, hoc, hcx⟩
    · obtain rfl : m = 0 := by omega
      have hn0 : new = [] := List.length_eq_zero_iff.1 (by omega)
      subst hn0
      refine ⟨_, w, L0, ?_, hS, h none 0 [] (.inl ⟨rfl, rfl, rfl, rfl, rfl⟩)⟩
      rw [hr]
      simp [builtin, Builtin.append_, run_underlying hu, run_underlying hux, run_sizeOf hs, Builtin.lenOf, hf]
    · replace hS : St p w0 w (.row g cs :: L0) := hS
      have hks : (k + m) * s = k * s + m * s := Nat.add_mul ..
      have hcs' : (k + m) * s ≤ c * s := Nat.mul_le_mul_right s hroom
      obtain ⟨w', hst, hR', hF⟩ := run_storeCells_row (P := P) new 0 (off + k * s) cs w (hS.row (g := g) (cs := cs)) (by omega) hall
      have hV' : VecP s (some ⟨g, off, none⟩) (k + m) c (xs ++ new) [.row g (splice cs (off + k * s) new)] := by
        refine .inr ⟨g, off, _, rfl, rfl, by rw [List.length_append]; omega, hroom, by rw [splice_length _ _ _ (by omega)]; exact hoc, fun i v hi => ?_⟩
        rw [splice_eq _ _ _ (by omega)]
        by_cases hi2 : i < xs.length
        · rw [List.getElem?_append_left hi2] at hi
          rw [List.getElem?_append_left (by rw [List.length_append, List.length_take]; omega), List.getElem?_append_left (by rw [List.length_take]; omega), List.getElem?_take, if_pos (by omega)]
          exact hcx i v hi
        · rw [List.getElem?_append_right (by omega)] at hi
          have hin := (List.getElem?_eq_some_iff.1 hi).1
          have htk : (cs.take (off + k * s)).length = off + k * s := by rw [List.length_take]; omega
          rw [List.getElem?_append_left (by rw [List.length_append, htk]; omega), List.getElem?_append_right (by omega), htk, show off + i - (off + k * s) = i - xs.length by omega]
          exact hi
      refine ⟨_, w', .row g (splice cs (off + k * s) new) :: L0, ?_, hS.put (L' := .row g (splice cs (off + k * s) new) :: L0) (g := g) (e := .row g (splice cs (off + k * s) new)) rfl hF (show Row _ _ _ by simpa using hR'), h _ c _ hV'⟩
      rw [hr]
      simp [builtin, Builtin.append_, run_underlying hu, run_underlying hux, run_sizeOf hs, Builtin.lenOf, hf, hroom, addr_add, hst]
  · obtain ⟨ad', c', E', w', h1, h2, h3⟩ := append_new (P := P) (ty := o.type) (y := .slice sa m mc) hu hux hs hb hz hzl (by simpa using hby) hroom hxl (fun w' hS' => first hxl hold w' hS') hS (by simp [Builtin.lenOf]) (fun w' hS' => first hnl hc w' hS') hnl hbig
    refine ⟨_, w', E' ++ L0, ?_, h3.sub (List.Sublist.append_left (List.sublist_append_right _ _) _), h ad' c' E' (VecP.of h2)⟩
    rw [hr]
    simp [builtin, h1]
end

def turnE : Bool → List EfD → Option Bool
  | u, [] => some u
  | u, e :: es => if e.kind = 4 then (if u = true then none else turnE true es) else if e.kind = 5 then (if u = true then turnE false es else none) else if e.kind = 6 then (if u = true then turnE u es else none) else turnE u es
def lv (s : Se) : Bool := decide ((s.c 0).st = 5 ∨ (s.c 1).st = 5)
def Jt (s : Se) : Prop := ∀ n, n < 2 → (s.c n).st = 5 → (s.c (1 - n)).st ≠ 5 ∧ (s.c (1 - n)).st ≠ 4
def Turn (s : Se) (es : List EfD) (t : Se) : Prop := turnE (lv s) es = some (lv t) ∧ Jt t
theorem turnE_cons (u : Bool) (e : EfD) (es : List EfD) : turnE u (e :: es) = if e.kind = 4 then (if u = true then none else turnE true es) else if e.kind = 5 then (if u = true then turnE false es else none) else if e.kind = 6 then (if u = true then turnE u es else none) else turnE u es := rfl
theorem most_lv {g : Nat} {p : PeL} {s : Se} {E0 E1 : List Ent} {d : Ck} (hA : PeAt g p s E0 E1 d) : (max (max p.base p.c0.st) p.c1.st = 5) = (lv s = true) := by
  have hb : p.base = s.base := (congrArg Se.base hA.eq :)
  have h0 := hA.st 0
  have h1 := hA.st 1
  have b := hA.ok.2.2.1
  have k0 := hA.ok0.1
  have k1 := hA.ok1.1
  rw [show s.c0.st = (s.c 0).st from rfl] at k0
  rw [show s.c1.st = (s.c 1).st from rfl] at k1
  rw [show p.c0.st = (p.c 0).st from rfl, show p.c1.st = (p.c 1).st from rfl, h0, h1, hb]
  unfold lv
  rw [decide_eq_true_eq]
  apply propext
  constructor
  · intro h; omega
  · intro h; omega


structure StpL where
  k : Int
  n : Int
  m : MsL
  ra : Option Addr
  rc : Nat
  raw : List Int
  sec : Int
  tm : Int
  fc : Int
  fs : Int
  fd : ByteArray
def StpL.cells (x : StpL) : List Value := .int .i64 x.k :: .int .i64 x.n :: (x.m.cells ++ [.slice x.ra x.raw.length x.rc, .int .i64 x.sec, .int .i64 x.tm, .int .i64 x.fc, .int .i64 x.fs, .string x.fd])
structure StpL.Ok (w : World) (x : StpL) : Prop where
  n : I64 x.n
  m : x.m.At w
  mi : x.m.In
  raw : CellsAt w x.ra (u8s x.raw)
  bys : Bys x.raw
  len : x.raw.length ≤ x.rc
  sec : I64 x.sec
  tm : I64 x.tm
  fc : I64 x.fc
  fs : I64 x.fs
theorem heardD_len (n : Nat) : ∀ (ms : List MsD) (s : Se), (heardD n s ms).2.length ≤ 4 * ms.length
  | [], s => Nat.le_refl _
  | m :: ms, s => by
    unfold heardD
    split
    · exact Nat.zero_le _
    · rw [List.length_append, List.length_cons]
      have h1 := hearD_len s n m
      have h2 := heardD_len n ms (hearD s n m).1
      omega
theorem feedS_len (s : Se) (n : Nat) (bs : List Int) : (feedS s n bs).2.length ≤ 4 * ((s.c n).wait ++ bs).length + 3 := by
  unfold feedS
  split
  · exact Nat.zero_le _
  · have h1 := heardD_len n (feedM [] ((s.c n).wait ++ bs)).1 (s.fed n bs)
    have h2 := feedM_both _ [] ((s.c n).wait ++ bs) _ _ _ (Nat.le_refl _) rfl
    rw [List.length_nil] at h2
    unfold endF
    split
    · omega
    · split
      · omega
      · rename_i f _
        have h3 := endE_len (heardD n (s.fed n bs) (feedM [] ((s.c n).wait ++ bs)).1).1 n f.1 f.2.1 f.2.2
        dsimp only
        rw [List.length_append]
        omega
theorem feedA_len (s : Se) (n : Int) (bs : List Int) (hw : ∀ k, k < 2 → Bys (s.c k).wait ∧ (s.c k).wait.length ≤ 4096) (hl : bs.length ≤ 40000) : (feedA s n bs).2.length ≤ 200000 := by
  have h0 := feedS_len s 0 bs
  have h1 := feedS_len s 1 bs
  have w0 := (hw 0 (by decide)).2
  have w1 := (hw 1 (by decide)).2
  rw [List.length_append] at h0 h1
  unfold feedA
  split
  · omega
  split
  · omega
  · exact Nat.zero_le _
theorem upA_len (s : Se) (n : Int) : (upA s n).2.length ≤ 1 := by
  have h : ∀ k, (upE s k).length ≤ 1 := fun k => by
    unfold upE
    split
    · exact Nat.le_refl _
    · exact sendE_len _ _
  unfold upA
  split
  · exact h 0
  split
  · exact h 1
  · exact Nat.zero_le _
theorem downA_len (s : Se) (n : Int) : (downA s n).2.length ≤ 1 := by
  have h : ∀ k, (downE s k).length ≤ 1 := fun k => by
    unfold downE
    split
    · exact goneE_len _ _
    · exact Nat.zero_le _
  unfold downA
  split
  · exact h 0
  split
  · exact h 1
  · exact Nat.zero_le _

structure PtL where
  to_ : Int
  n : Int
  ad : Option Addr
  cap : Nat
  bs : List Int
  end_ : Bool
def PtL.cells (p : PtL) : List Value := [.int .i64 p.to_, .int .i64 p.n, .slice p.ad p.bs.length p.cap, .bool p.end_]
def PtL.d (p : PtL) : PtD := ⟨p.to_, p.n, p.bs, p.end_⟩
def ptsL (ps : List PtL) : List Value := ps.flatMap PtL.cells
def MailV (am : Option Addr) (cm : Nat) (ps : List PtL) (E M : List Ent) : Prop := VecP 4 am ps.length cm (ptsL ps) E ∧ ∀ p ∈ ps, ∃ E', BV p.ad p.cap p.bs E' ∧ ∀ x ∈ E', x ∈ M
theorem MailV.snoc {am am' : Option Addr} {cm cm' : Nat} {ps : List PtL} {E E' M : List Ent} (h : MailV am cm ps E M) (q : PtL) (hq : ∃ E', BV q.ad q.cap q.bs E' ∧ ∀ x ∈ E', x ∈ M) (hV : VecP 4 am' (ps.length + 1) cm' (ptsL ps ++ q.cells) E') : MailV am' cm' (ps ++ [q]) E' M := by
  refine ⟨?_, fun p hp => ?_⟩
  · have e : ptsL (ps ++ [q]) = ptsL ps ++ q.cells := by unfold ptsL; rw [List.flatMap_append, List.flatMap_cons, List.flatMap_nil, List.append_nil]
    rw [e, List.length_append]; exact hV
  · rcases List.mem_append.1 hp with hp | hp
    · exact h.2 p hp
    · obtain rfl := List.mem_singleton.1 hp; exact hq
theorem MailV.mono {am : Option Addr} {cm : Nat} {ps : List PtL} {E M M' : List Ent} (h : MailV am cm ps E M) (hm : ∀ e ∈ M, e ∈ M') : MailV am cm ps E M' :=
  ⟨h.1, fun p hp => by obtain ⟨E', h1, h2⟩ := h.2 p hp; exact ⟨E', h1, fun x hx => hm x (h2 x hx)⟩⟩
theorem upsD_le : ∀ (es : List EfD) (u : Int), u ≤ upsD es u ∧ upsD es u ≤ u + es.length
  | [], u => by simp [upsD]
  | e :: es, u => by
    have h := upsD_le es (u + upOf e)
    have h1 : 0 ≤ upOf e ∧ upOf e ≤ 1 := by unfold upOf; split <;> omega
    unfold upsD
    rw [List.length_cons]
    omega
theorem postD_mem : ∀ (src : Int) (es : List EfD) (ms : List PtD) (q : PtD), q ∈ ms → q ∈ postD src es ms
  | _, [], _, _, h => h
  | src, e :: es, ms, q, h => postD_mem src es _ q (List.mem_append_left _ h)
theorem postD_new : ∀ (src : Int) (es : List EfD) (ms : List PtD) (e : EfD), e ∈ es → ∀ q ∈ ptOf src e, q ∈ postD src es ms
  | _, [], _, _, h, _, _ => by cases h
  | src, x :: es, ms, e, h, q, hq => by
    have e0 : postD src (x :: es) ms = postD src es (ms ++ ptOf src x) := rfl
    rw [e0]
    rcases List.mem_cons.1 h with h | h
    · rw [h] at hq
      exact postD_mem src es (ms ++ ptOf src x) q (List.mem_append_right ms hq)
    · exact postD_new src es (ms ++ ptOf src x) e h q hq
theorem pts_snoc (q : PtL) (ps : List PtL) : (ps ++ [q]).map PtL.d = ps.map PtL.d ++ [q.d] := by rw [List.map_append]; rfl
structure SdS where
  k : Nat
  am : Option Addr
  cm : Nat
  ps : List PtL
  E : List Ent
  u : Int
set_option maxHeartbeats 2000000 in
theorem mail_c (w0 w : World) (gm gu : Nat) (src : Int) (hsrc : src = 0 ∨ src = 1) (ad : Option Addr) (c : Nat) (fs : List EfL) (E : List Ent) (am : Option Addr) (cm : Nat) (ps : List PtL) (Em M L : List Ent) (u : Int)
    (hV : Vec 23 ad fs.length c (efsL fs) E) (hE : ∀ e ∈ E, e ∈ L) (hO : ∀ e ∈ fs, EfOwn M e) (hM : MailV am cm ps Em M) (hl : fs.length ≤ 1000000) (hpl : ps.length ≤ 100000000) (hu : 0 ≤ u ∧ u ≤ 1000000000)
    (hok : ∀ q ∈ postD src (fs.map EfL.d) (ps.map PtL.d), PtOk q) (hS0 : St (fun _ => False) w0 w (Em ++ (.row gm [.slice am ps.length cm] :: .row gu [.int .i64 u] :: L))) :
    Calls Tryz.prog 19 #[.int .i64 src, .slice ad fs.length c, .pointer (some ⟨gm, 0, none⟩), .pointer (some ⟨gu, 0, none⟩)] w fun e w' => ∃ am' cm' ps' Em', e = .returned (.tuple #[]) ∧ MailV am' cm' ps' Em' M ∧ ps'.map PtL.d = postD src (fs.map EfL.d) (ps.map PtL.d) ∧
      St (fun _ => False) w0 w' (Em' ++ (.row gm [.slice am' ps'.length cm'] :: .row gu [.int .i64 (upsD (fs.map EfL.d) u)] :: L)) := by
  have hcn : ∀ x ∈ fs, (x.kind = 2 ∨ x.kind = 3) → 0 ≤ x.conn ∧ x.conn ≤ 1 := fun x hx hk => by
    have hm : (⟨1 - src, 1 - x.conn, if x.kind = 2 then x.bs else [], decide (x.kind = 3)⟩ : PtD) ∈ ptOf src x.d := by
      unfold ptOf
      rw [show x.d.kind = x.kind from rfl, show x.d.conn = x.conn from rfl, show x.d.bs = x.bs from rfl]
      rcases hk with hk | hk <;> simp [hk]
    have := (hok _ (postD_new src _ (ps.map PtL.d) x.d (List.mem_map_of_mem hx) _ hm)).n
    dsimp only at this
    omega
  refine enter Tryz.func19 rfl Tryz.ntmps19 rfl hS0 ?_
  refine cR <| zM rfl <| zV (v_len_slice rfl rfl Tryz.underlying46) rfl <| zM rfl <| zN <| cB <| ?_
  refine WC.loop (fun x : SdS => [(10, .int .i64 x.k), (9, .int .i64 fs.length), (8, .slice ad fs.length c), (3, .pointer (some ⟨gu, 0, none⟩)), (2, .pointer (some ⟨gm, 0, none⟩)), (0, .int .i64 src)]) (fun x => x.E ++ (.row gm [.slice x.am x.ps.length x.cm] :: .row gu [.int .i64 x.u] :: L)) (fun x => x.k ≤ fs.length ∧ MailV x.am x.cm x.ps x.E M ∧ x.ps.length ≤ ps.length + 2 * x.k ∧ (0 ≤ x.u ∧ x.u ≤ u + x.k) ∧ postD src ((fs.drop x.k).map EfL.d) (x.ps.map PtL.d) = postD src (fs.map EfL.d) (ps.map PtL.d) ∧ upsD ((fs.drop x.k).map EfL.d) x.u = upsD (fs.map EfL.d) u) (fun x => fs.length - x.k) ⟨0, am, cm, ps, Em, u⟩ ⟨Nat.zero_le _, hM, Nat.le_refl _, ⟨hu.1, by dsimp only; omega⟩, rfl, rfl⟩ (.cons rfl (.cons rfl (.cons rfl (.cons rfl (.cons rfl (.cons rfl .nil)))))) (.refl _) ?_
  rintro ⟨k, am1, cm1, ps1, E1, u1⟩ ⟨hk, hM1, hl1, hu1, hP, hU⟩
  dsimp only at hk hM1 hl1 hu1 hP hU
  dsimp only
  refine cR ?_
  refine zT (v_lss rfl rfl rfl) rfl (fun h11 => ?_) (fun h11 => ?_)
  refine zN <| cS <| cT rfl <| cK <| eN <| cS <| cB <| cR <| ?_
  obtain ⟨x, hx⟩ : ∃ x, fs[k]? = some x := ⟨fs[k]'(by omega), List.getElem?_eq_getElem _⟩
  obtain ⟨b1, o1, ea1, r1⟩ := hV.src2 (by rw [efsL_len]; omega)
  have hdr : fs.drop k = x :: fs.drop (k + 1) := (by rw [List.drop_eq_getElem_cons (by omega)]; congr 1; exact (List.getElem?_eq_some_iff.1 hx).2)
  have hxm := List.mem_of_getElem? hx
  have hxc := hcn x hxm
  rw [hdr, List.map_cons] at hP hU
  replace hP : postD src ((fs.drop (k + 1)).map EfL.d) (ps1.map PtL.d ++ ptOf src x.d) = postD src (fs.map EfL.d) (ps.map PtL.d) := hP
  replace hU : upsD ((fs.drop (k + 1)).map EfL.d) (u1 + upOf x.d) = upsD (fs.map EfL.d) u := hU
  unfold ptOf at hP
  unfold upOf at hU
  rw [show x.d.kind = x.kind from rfl, show x.d.conn = x.conn from rfl, show x.d.bs = x.bs from rfl] at hP
  rw [show x.d.kind = x.kind from rfl] at hU
  refine WL.to (L' := .row gm [.slice am1 ps1.length cm1] :: .row gu [.int .i64 u1] :: (E1 ++ L)) (fun w hS => hS.permK) ?_
  refine zV ((v_indexAddr (b := b1) (off := o1) (lo := k) rfl (by show some (Value.slice ad _ _) = _; rw [ea1]) rfl Tryz.underlying46 sz_54 rfl (by omega))) rfl ?_
  refine zV ((v_loadN (cs := x.cells) rfl rfl many_54 rfl (fun w hS => ef_kind (r1 w fun e he => hS.holds e (List.mem_cons_of_mem _ (List.mem_cons_of_mem _ (List.mem_append_right _ (hE e he))))) hx))) rfl <| WL.alloc rfl zero_54 (.none rfl) rfl rfl <| ?_
  intro g7 hg7
  refine zW many_54 rfl rfl <| WL.as (L' := .row g7 x.cells :: .row gm [.slice am1 ps1.length cm1] :: .row gu [.int .i64 u1] :: (E1 ++ L)) rfl <| zN <| cS <| cR <| zF rfl fld_54_0 <| zV (v_load1 rfl rfl one_3 (cellAt (v := .int .i64 x.kind) rfl)) rfl <| ?_
  refine zT (v_eql rfl rfl rfl) rfl (fun h16 => ?_) (fun h16 => ?_)
  refine zN <| cT rfl <| WC.region <| zV (v_load1 rfl rfl one_58 (cellAt (v := .slice am1 ps1.length cm1) rfl)) rfl <| zM rfl <| ?_
  refine zV (v_sub rfl rfl rfl (w_i64 (by omega) (by omega))) rfl ?_
  refine zF rfl fld_54_1 <| zV (v_load1 rfl rfl one_3 (cellAt (v := .int .i64 x.conn) rfl)) rfl <| ?_
  refine zV (v_sub rfl rfl rfl (w_i64 (by omega) (by omega))) rfl ?_
  refine zF rfl fld_54_2 <| zV (v_load1 rfl rfl one_25 (cellAt (v := .slice x.ad x.bs.length x.cap) rfl)) rfl <| zV (v_build rfl rfl zero_60 plc_60 rfl) rfl <| zB Tryz.underlying58 sz_60 zero_60 rfl rfl <| ?_
  intro g26 hg26
  refine WL.as (L' := .row g26 (⟨1 - src, 1 - x.conn, x.ad, x.cap, x.bs, false⟩ : PtL).cells :: .row g7 x.cells :: .row gm [.slice am1 ps1.length cm1] :: .row gu [.int .i64 u1] :: (E1 ++ L)) rfl <| WL.to (L' := E1 ++ (.row g26 (⟨1 - src, 1 - x.conn, x.ad, x.cap, x.bs, false⟩ : PtL).cells :: .row g7 x.cells :: .row gm [.slice am1 ps1.length cm1] :: .row gu [.int .i64 u1] :: L)) (fun w hS => hS.permK) <| ?_
  refine WL.appendP (m := 1) (new := (⟨1 - src, 1 - x.conn, x.ad, x.cap, x.bs, false⟩ : PtL).cells) rfl rfl rfl Tryz.underlying58 Tryz.underlying58 sz_60 by_60 zero_60 rfl rfl hM1.1 (fun _ => ⟨g26, 0, rfl, fun w hS => allAt (g := g26) w hS⟩) rfl rfl (by omega) (.none rfl) rfl rfl ?_
  intro am2 cm2 E2 hV2
  replace hV2 := hM1.snoc ⟨1 - src, 1 - x.conn, x.ad, x.cap, x.bs, false⟩ (hO x hxm).bytes hV2
  refine WL.to (L' := .row gm [.slice am1 ps1.length cm1] :: .row g7 x.cells :: .row gu [.int .i64 u1] :: (E2 ++ L)) (fun w hS => hS.dropK [.row g26 (⟨1 - src, 1 - x.conn, x.ad, x.cap, x.bs, false⟩ : PtL).cells]) <| zO one_58 rfl rfl <| WL.as (L' := .row gm [.slice am2 (ps1.length + 1) cm2] :: .row g7 x.cells :: .row gu [.int .i64 u1] :: (E2 ++ L)) rfl <| zN <| cS <| cR <| zF rfl fld_54_0 <| zV (v_load1 rfl rfl one_3 (cellAt (v := .int .i64 x.kind) rfl)) rfl <| ?_
  refine zV ((v_eql rfl rfl rfl).f ((by omega))) rfl ?_
  refine zN <| cF rfl <| cK <| eN <| cR <| zF rfl fld_54_0 <| zV (v_load1 rfl rfl one_3 (cellAt (v := .int .i64 x.kind) rfl)) rfl <| ?_
  refine zV ((v_eql rfl rfl rfl).f ((by omega))) rfl ?_
  refine zN <| cF rfl <| cK <| eY <| eN <| WC.region <| ?_
  refine zV (v_add rfl rfl rfl (show _ = ((k + 1 : Nat) : Int) from (w_i64 (by omega) (by omega)).trans (by omega))) rfl ?_
  refine zM rfl <| WL.nil <| WE.to (L' := E2 ++ (.row gm [.slice am2 (ps1.length + 1) cm2] :: .row gu [.int .i64 u1] :: L)) (fun w hS => hS.dropK [.row g7 x.cells]) <| ?_
  rw [if_pos h16, if_neg (by omega), List.append_nil] at hP
  replace hP : postD src ((fs.drop (k + 1)).map EfL.d) ((ps1 ++ [(⟨1 - src, 1 - x.conn, x.ad, x.cap, x.bs, false⟩ : PtL)]).map PtL.d) = postD src (fs.map EfL.d) (ps.map PtL.d) := (by rw [pts_snoc]; exact hP)
  rw [if_neg (by omega), Int.add_zero] at hU
  exact WE.next ⟨k + 1, am2, cm2, ps1 ++ [⟨1 - src, 1 - x.conn, x.ad, x.cap, x.bs, false⟩], E2, u1⟩ (by dsimp only; omega) ⟨by dsimp only; omega, hV2, by dsimp only; rw [List.length_append, List.length_singleton]; omega, by dsimp only; omega, hP, hU⟩ (.cons rfl (.cons rfl (.cons rfl (.cons rfl (.cons rfl (.cons rfl .nil)))))) (by dsimp only; rw [List.length_append]; exact .refl _)
  refine zN <| cF rfl <| cK <| eN <| cS <| cR <| zF rfl fld_54_0 <| zV (v_load1 rfl rfl one_3 (cellAt (v := .int .i64 x.kind) rfl)) rfl <| ?_
  refine zT (v_eql rfl rfl rfl) rfl (fun h30 => ?_) (fun h30 => ?_)
  refine zN <| cT rfl <| WC.region <| zV (v_load1 rfl rfl one_58 (cellAt (v := .slice am1 ps1.length cm1) rfl)) rfl <| zM rfl <| ?_
  refine zV (v_sub rfl rfl rfl (w_i64 (by omega) (by omega))) rfl ?_
  refine zF rfl fld_54_1 <| zV (v_load1 rfl rfl one_3 (cellAt (v := .int .i64 x.conn) rfl)) rfl <| ?_
  refine zV (v_sub rfl rfl rfl (w_i64 (by omega) (by omega))) rfl ?_
  refine zV (v_build rfl rfl zero_60 plc_60 rfl) rfl <| zB Tryz.underlying58 sz_60 zero_60 rfl rfl <| ?_
  intro g38 hg38
  refine WL.as (L' := .row g38 (⟨1 - src, 1 - x.conn, none, 0, [], true⟩ : PtL).cells :: .row g7 x.cells :: .row gm [.slice am1 ps1.length cm1] :: .row gu [.int .i64 u1] :: (E1 ++ L)) rfl <| WL.to (L' := E1 ++ (.row g38 (⟨1 - src, 1 - x.conn, none, 0, [], true⟩ : PtL).cells :: .row g7 x.cells :: .row gm [.slice am1 ps1.length cm1] :: .row gu [.int .i64 u1] :: L)) (fun w hS => hS.permK) <| ?_
  refine WL.appendP (m := 1) (new := (⟨1 - src, 1 - x.conn, none, 0, [], true⟩ : PtL).cells) rfl rfl rfl Tryz.underlying58 Tryz.underlying58 sz_60 by_60 zero_60 rfl rfl hM1.1 (fun _ => ⟨g38, 0, rfl, fun w hS => allAt (g := g38) w hS⟩) rfl rfl (by omega) (.none rfl) rfl rfl ?_
  intro am2 cm2 E2 hV2
  replace hV2 := hM1.snoc ⟨1 - src, 1 - x.conn, none, 0, [], true⟩ ⟨[], Vec.nil 1, fun _ h => by cases h⟩ hV2
  refine WL.to (L' := .row gm [.slice am1 ps1.length cm1] :: .row g7 x.cells :: .row gu [.int .i64 u1] :: (E2 ++ L)) (fun w hS => hS.dropK [.row g38 (⟨1 - src, 1 - x.conn, none, 0, [], true⟩ : PtL).cells]) <| zO one_58 rfl rfl <| WL.as (L' := .row gm [.slice am2 (ps1.length + 1) cm2] :: .row g7 x.cells :: .row gu [.int .i64 u1] :: (E2 ++ L)) rfl <| zR <| zF rfl fld_54_0 <| zV (v_load1 rfl rfl one_3 (cellAt (v := .int .i64 x.kind) rfl)) rfl <| ?_
  refine zV ((v_eql rfl rfl rfl).f ((by omega))) rfl ?_
  refine zN <| cF rfl <| cK <| eY <| eN <| WC.region <| ?_
  refine zV (v_add rfl rfl rfl (show _ = ((k + 1 : Nat) : Int) from (w_i64 (by omega) (by omega)).trans (by omega))) rfl ?_
  refine zM rfl <| WL.nil <| WE.to (L' := E2 ++ (.row gm [.slice am2 (ps1.length + 1) cm2] :: .row gu [.int .i64 u1] :: L)) (fun w hS => hS.dropK [.row g7 x.cells]) <| ?_
  rw [if_neg h16, if_pos h30, List.nil_append] at hP
  replace hP : postD src ((fs.drop (k + 1)).map EfL.d) ((ps1 ++ [(⟨1 - src, 1 - x.conn, none, 0, [], true⟩ : PtL)]).map PtL.d) = postD src (fs.map EfL.d) (ps.map PtL.d) := (by rw [pts_snoc]; exact hP)
  rw [if_neg (by omega), Int.add_zero] at hU
  exact WE.next ⟨k + 1, am2, cm2, ps1 ++ [⟨1 - src, 1 - x.conn, none, 0, [], true⟩], E2, u1⟩ (by dsimp only; omega) ⟨by dsimp only; omega, hV2, by dsimp only; rw [List.length_append, List.length_singleton]; omega, by dsimp only; omega, hP, hU⟩ (.cons rfl (.cons rfl (.cons rfl (.cons rfl (.cons rfl (.cons rfl .nil)))))) (by dsimp only; rw [List.length_append]; exact .refl _)
  refine zN <| cF rfl <| cK <| eN <| cR <| zF rfl fld_54_0 <| zV (v_load1 rfl rfl one_3 (cellAt (v := .int .i64 x.kind) rfl)) rfl <| ?_
  refine zT (v_eql rfl rfl rfl) rfl (fun h42 => ?_) (fun h42 => ?_)
  refine zN <| cT rfl <| WC.region <| zV (v_load1 rfl rfl one_3 (cellAt (v := .int .i64 u1) rfl)) rfl <| ?_
  refine zV (v_add rfl rfl rfl (w_i64 (by omega) (by omega))) rfl ?_
  refine zO one_3 rfl rfl <| WL.as (L' := .row g7 x.cells :: .row gm [.slice am1 ps1.length cm1] :: .row gu [.int .i64 (u1 + 1)] :: (E1 ++ L)) rfl <| WL.nil <| eY <| eN <| WC.region <| ?_
  refine zV (v_add rfl rfl rfl (show _ = ((k + 1 : Nat) : Int) from (w_i64 (by omega) (by omega)).trans (by omega))) rfl ?_
  refine zM rfl <| WL.nil <| WE.to (L' := E1 ++ (.row gm [.slice am1 ps1.length cm1] :: .row gu [.int .i64 (u1 + 1)] :: L)) (fun w hS => hS.dropK [.row g7 x.cells]) <| ?_
  rw [if_neg h16, if_neg h30, List.append_nil, List.append_nil] at hP
  rw [if_pos h42] at hU
  exact WE.next ⟨k + 1, am1, cm1, ps1, E1, u1 + 1⟩ (by dsimp only; omega) ⟨by dsimp only; omega, hM1, by dsimp only; omega, by dsimp only; omega, hP, hU⟩ (.cons rfl (.cons rfl (.cons rfl (.cons rfl (.cons rfl (.cons rfl .nil)))))) (.refl _)
  refine zN <| cF rfl <| cK <| eY <| eN <| WC.region <| ?_
  refine zV (v_add rfl rfl rfl (show _ = ((k + 1 : Nat) : Int) from (w_i64 (by omega) (by omega)).trans (by omega))) rfl ?_
  refine zM rfl <| WL.nil <| WE.to (L' := E1 ++ (.row gm [.slice am1 ps1.length cm1] :: .row gu [.int .i64 u1] :: L)) (fun w hS => hS.dropK [.row g7 x.cells]) <| ?_
  rw [if_neg h16, if_neg h30, List.append_nil, List.append_nil] at hP
  rw [if_neg h42, Int.add_zero] at hU
  exact WE.next ⟨k + 1, am1, cm1, ps1, E1, u1⟩ (by dsimp only; omega) ⟨by dsimp only; omega, hM1, by dsimp only; omega, by dsimp only; omega, hP, hU⟩ (.cons rfl (.cons rfl (.cons rfl (.cons rfl (.cons rfl (.cons rfl .nil)))))) (.refl _)
  refine zN <| cS <| cF rfl <| cX <| eX <| eX <| eH <| WE.ret0 (P := Tryz.prog) (.inr rfl) Tryz.results19  <| ?_
  have hkk : fs.drop k = [] := List.drop_eq_nil_iff.2 (by omega)
  rw [hkk] at hP hU
  replace hP : ps1.map PtL.d = _ := hP
  replace hU : u1 = _ := hU
  subst hU
  exact fun w' h => ⟨am1, cm1, ps1, E1, rfl, hM1, hP, h⟩

structure Sy where
  px : PeL
  X0 : List Ent
  X1 : List Ent
  dx : Ck
  py : PeL
  Y0 : List Ent
  Y1 : List Ent
  dy : Ck
def Sy.L (y : Sy) (gx gy : Nat) (nx ny : Int) (L : List Ent) : List Ent := .row gx y.px.cells :: (y.X0 ++ (y.X1 ++ y.dx.L y.px.gC nx (.row gy y.py.cells :: (y.Y0 ++ (y.Y1 ++ y.dy.L y.py.gC ny L)))))
structure SyAt (gx gy : Nat) (y : Sy) (σ : Sys) : Prop where
  x : PeAt gx y.px σ.x y.X0 y.X1 y.dx
  y : PeAt gy y.py σ.y y.Y0 y.Y1 y.dy
def EffP (w0 w' : World) (gx gy : Nat) (es : List EfD) (σ' : Sys) (L : List Ent) (e : Ending) : Prop :=
  ∃ ad c fs E K y', e = .returned (.slice ad (List.length fs) c) ∧ EfsV ad c fs E K ∧ fs.map EfL.d = es ∧ SyAt gx gy y' σ' ∧ St (fun _ => False) w0 w' (E ++ (K ++ y'.L gx gy σ'.x.now σ'.y.now L))
theorem pair_c (w0 w : World) (gx gy : Nat) (y : Sy) (σ : Sys) (L : List Ent) (hA : SyAt gx gy y σ) (hS : St (fun _ => False) w0 w (y.L gx gy σ.x.now σ.y.now L)) (src : Int) (hsrc : src = 0 ∨ src = 1) (F : Se → Se × List EfD) (f : FuncId) (args : List Value)
    (h : ∀ g p E0 E1 L' d, PeAt g p (σ.at_ src) E0 E1 d → (∀ e ∈ L, e ∈ L') → St (fun _ => False) w0 w (.row g p.cells :: (E0 ++ (E1 ++ d.L p.gC (σ.at_ src).now L'))) → Calls Tryz.prog f (Value.pointer (some ⟨g, 0, none⟩) :: args).toArray w fun e w' => EffC w0 w' g (F (σ.at_ src)).2 (F (σ.at_ src)).1 L' e) :
    Calls Tryz.prog f (Value.pointer (some ⟨if src = 0 then gx else gy, 0, none⟩) :: args).toArray w fun e w' => EffP w0 w' gx gy (F (σ.at_ src)).2 (σ.put src (F (σ.at_ src))) L e := by
  obtain ⟨px, X0, X1, dx, py, Y0, Y1, dy⟩ := y
  obtain ⟨hx, hy⟩ := hA
  dsimp only at hx hy
  unfold Sy.L at hS
  dsimp only at hS
  rcases hsrc with rfl | rfl
  · refine (h gx px X0 X1 (.row gy py.cells :: (Y0 ++ (Y1 ++ dy.L py.gC σ.y.now L))) dx hx (fun e he => by simp [Ck.L, clkL, he]) hS).mono ?_
    rintro e w' ⟨ad, c, fs, E, K, p', E0', E1', d', he, hV, hd, hp, hS'⟩
    exact ⟨ad, c, fs, E, K, ⟨p', E0', E1', d', py, Y0, Y1, dy⟩, he, hV, hd, ⟨hp, hy⟩, hS'⟩
  · refine (h gy py Y0 Y1 (.row gx px.cells :: (X0 ++ (X1 ++ dx.L px.gC σ.x.now L))) dy hy (fun e he => by simp [Ck.L, clkL, he]) (show St (fun _ => False) w0 w (.row gy py.cells :: (Y0 ++ (Y1 ++ dy.L py.gC σ.y.now (.row gx px.cells :: (X0 ++ (X1 ++ dx.L px.gC σ.x.now L)))))) from hS.permK)).mono ?_
    rintro e w' ⟨ad, c, fs, E, K, p', E0', E1', d', he, hV, hd, hp, hS'⟩
    refine ⟨ad, c, fs, E, K, ⟨px, X0, X1, dx, p', E0', E1', d'⟩, he, hV, hd, ⟨hx, hp⟩, ?_⟩
    show St (fun _ => False) w0 w' (E ++ (K ++ (.row gx px.cells :: (X0 ++ (X1 ++ dx.L px.gC σ.x.now (.row gy p'.cells :: (E0' ++ (E1' ++ d'.L p'.gC (F (σ.at_ 1)).1.now L))))))))
    exact hS'.permK
/-! ### The sessions and the mail -/
structure MtS where
  σ : Sys
  y : Sy
  am : Option Addr
  cm : Nat
  ps : List PtL
  Em : List Ent
  M : List Ent
def twoL (gx gy : Nat) : List Value := [.pointer (some ⟨gx, 0, none⟩), .pointer (some ⟨gy, 0, none⟩)]
def MtS.L (s : MtS) (gx gy gm gu gps : Nat) : List Ent := s.Em ++ (.row gm [.slice s.am s.ps.length s.cm] :: .row gu [.int .i64 s.σ.ups] :: s.y.L gx gy s.σ.x.now s.σ.y.now (.row gps (twoL gx gy) :: s.M))
structure MtOk (gx gy : Nat) (B : Nat) (s : MtS) : Prop where
  at_ : SyAt gx gy s.y s.σ
  mail : MailV s.am s.cm s.ps s.Em s.M
  data : s.ps.map PtL.d = s.σ.mail
  len : s.ps.length ≤ 400000 * B
  ups : 0 ≤ s.σ.ups ∧ s.σ.ups ≤ 200000 * (B : Int)
structure MtE where
  y : Sy
  ad : Option Addr
  c : Nat
  fs : List EfL
  E : List Ent
  K : List Ent
def MtE.L (e : MtE) (s : MtS) (gx gy gm gu gps : Nat) (σ' : Sys) : List Ent := e.E ++ (e.K ++ e.y.L gx gy σ'.x.now σ'.y.now (s.Em ++ (.row gm [.slice s.am s.ps.length s.cm] :: .row gu [.int .i64 s.σ.ups] :: .row gps (twoL gx gy) :: s.M)))
structure MtEOk (gx gy : Nat) (e : MtE) (es : List EfD) (σ' : Sys) : Prop where
  at_ : SyAt gx gy e.y σ'
  efs : EfsV e.ad e.c e.fs e.E e.K
  data : e.fs.map EfL.d = es
theorem call2_c (w0 w : World) (gx gy gm gu gps : Nat) (s : MtS) (hA : SyAt gx gy s.y s.σ) (hS : St (fun _ => False) w0 w (s.L gx gy gm gu gps)) (src : Int) (hsrc : src = 0 ∨ src = 1) (gp : Nat) (hgp : (if src = 0 then gx else gy) = gp) (F : Se → Se × List EfD) (f : FuncId) (args : List Value)
    (h : ∀ g p E0 E1 L' d, PeAt g p (s.σ.at_ src) E0 E1 d → (∀ e ∈ s.M, e ∈ L') → St (fun _ => False) w0 w (.row g p.cells :: (E0 ++ (E1 ++ d.L p.gC (s.σ.at_ src).now L'))) → Calls Tryz.prog f (Value.pointer (some ⟨g, 0, none⟩) :: args).toArray w fun e w' => EffC w0 w' g (F (s.σ.at_ src)).2 (F (s.σ.at_ src)).1 L' e) :
    Calls Tryz.prog f (Value.pointer (some ⟨gp, 0, none⟩) :: args).toArray w fun e w' => ∃ q : MtE, e = .returned (.slice q.ad q.fs.length q.c) ∧ MtEOk gx gy q (F (s.σ.at_ src)).2 (s.σ.put src (F (s.σ.at_ src))) ∧ St (fun _ => False) w0 w' (q.L s gx gy gm gu gps (s.σ.put src (F (s.σ.at_ src)))) := by
  subst hgp
  obtain ⟨σ, y, am, cm, ps, Em, M⟩ := s
  unfold MtS.L at hS
  dsimp only at hA hS h ⊢
  refine (pair_c w0 w gx gy y σ (Em ++ (.row gm [.slice am ps.length cm] :: .row gu [.int .i64 σ.ups] :: .row gps (twoL gx gy) :: M)) hA ?_ src hsrc F f args fun g p E0 E1 L' d hp hm hS' => h g p E0 E1 L' d hp (fun e he => hm e (by simp [he])) hS').mono ?_
  · unfold Sy.L at hS ⊢
    exact hS.permK
  · rintro e w' ⟨ad, c, fs, E, K, y', rfl, hV, hd, hA', hS'⟩
    exact ⟨⟨y', ad, c, fs, E, K⟩, rfl, ⟨hA', hV, hd⟩, hS'⟩
theorem postD_len : ∀ (src : Int) (es : List EfD) (ms : List PtD), (postD src es ms).length ≤ ms.length + 2 * es.length
  | _, [], ms => by unfold postD; omega
  | src, e :: es, ms => by
    have h := postD_len src es (ms ++ ptOf src e)
    have h1 : (ptOf src e).length ≤ 2 := by
      unfold ptOf
      rw [List.length_append]
      have : ∀ (c : Prop) [Decidable c] (q : PtD), (if c then [q] else []).length ≤ 1 := fun c _ q => by split <;> simp
      exact Nat.add_le_add (this _ _) (this _ _)
    unfold postD
    rw [List.length_append] at h
    rw [List.length_cons]
    omega
theorem send2_c (w0 w : World) (gx gy gm gu gps : Nat) (B : Nat) (hB : B ≤ 100) (s : MtS) (hs : MtOk gx gy B s) (q : MtE) (src : Int) (hsrc : src = 0 ∨ src = 1) (r : Se × List EfD) (hq : MtEOk gx gy q r.2 (s.σ.put src r)) (hr : r.2.length ≤ 200000) (hok : SysOk (s.σ.put src r))
    (hS : St (fun _ => False) w0 w (q.L s gx gy gm gu gps (s.σ.put src r))) :
    Calls Tryz.prog 19 #[.int .i64 src, .slice q.ad q.fs.length q.c, .pointer (some ⟨gm, 0, none⟩), .pointer (some ⟨gu, 0, none⟩)] w fun e w' => ∃ (s' : MtS) (K' : List Ent), e = .returned (.tuple #[]) ∧ s'.σ = s.σ.put src r ∧ MtOk gx gy (B + 1) s' ∧ s'.M = K' ++ s.M ∧ St (fun _ => False) w0 w' (s'.L gx gy gm gu gps) := by
  obtain ⟨σ, y, am, cm, ps, Em, M⟩ := s
  obtain ⟨hA, hM, hD, hl, hu⟩ := hs
  obtain ⟨qy, ad, c, fs, E, K⟩ := q
  obtain ⟨hA', ⟨hV, hO⟩, hd⟩ := hq
  unfold MtE.L at hS
  dsimp only at hA hM hD hl hu hA' hV hO hd hS hok ⊢
  have hfl : fs.length = r.2.length := by rw [← hd, List.length_map]
  have hml : (σ.put src r).mail = postD src r.2 σ.mail := rfl
  refine (mail_c w0 w gm gu src hsrc ad c fs E am cm ps Em (K ++ M) (E ++ (K ++ qy.L gx gy (σ.put src r).x.now (σ.put src r).y.now (.row gps (twoL gx gy) :: M))) σ.ups hV (fun e he => List.mem_append_left _ he) (fun e he => by obtain ⟨E', h1, h2⟩ := (hO e he).bytes; exact ⟨E', h1, fun x hx => List.mem_append_left _ (h2 x hx)⟩) (hM.mono fun e he => List.mem_append_right _ he) (by omega) (by omega) ⟨hu.1, by omega⟩ (by rw [hd, hD]; exact hok.m) ?_).mono ?_
  · unfold Sy.L at hS ⊢
    exact hS.permK
  · rintro e w' ⟨am', cm', ps', Em', rfl, hM', hP, hS'⟩
    rw [hd, hD] at hP
    rw [hd] at hS'
    have hpl : ps'.length ≤ ps.length + 2 * fs.length := by
      have h1 := postD_len src r.2 σ.mail
      rw [← hP, ← hD, List.length_map, List.length_map] at h1
      omega
    have hul := upsD_le r.2 σ.ups
    refine ⟨⟨σ.put src r, qy, am', cm', ps', Em', K ++ M⟩, K, rfl, rfl, ⟨hA', hM', hP, by dsimp only; omega, ?_⟩, rfl, ?_⟩
    · show 0 ≤ upsD r.2 σ.ups ∧ upsD r.2 σ.ups ≤ _
      omega
    · unfold MtS.L
      unfold Sy.L at hS' ⊢
      dsimp only at hS' ⊢
      rw [show (σ.put src r).ups = upsD r.2 σ.ups from rfl]
      exact hS'.dropK E
theorem MtEOk.drop {gx gy gm gu gps B : Nat} {s : MtS} (hs : MtOk gx gy B s) {q : MtE} {es : List EfD} {σ' : Sys} (hq : MtEOk gx gy q es σ') (hm : σ'.mail = s.σ.mail) (hu : σ'.ups = s.σ.ups) :
    ∃ s' : MtS, s'.σ = σ' ∧ MtOk gx gy B s' ∧ (∀ p w0 w, St p w0 w (q.L s gx gy gm gu gps σ') → St p w0 w (s'.L gx gy gm gu gps)) := by
  obtain ⟨σ, y, am, cm, ps, Em, M⟩ := s
  obtain ⟨hA, hM, hD, hl, hU⟩ := hs
  obtain ⟨qy, ad, c, fs, E, K⟩ := q
  dsimp only at hA hM hD hl hU hm hu
  refine ⟨⟨σ', qy, am, cm, ps, Em, M⟩, rfl, ⟨hq.at_, hM, by rw [hD, hm], hl, by rw [hu]; exact hU⟩, fun p w0 w hS => ?_⟩
  unfold MtE.L Sy.L at hS
  unfold MtS.L Sy.L
  dsimp only at hS ⊢
  rw [hu]
  exact hS.dropK (E ++ K)
/-! ### What the whole does, as data -/
def theirS (s : Se) : Int := if s.c0.st = 5 then s.c0.id else if s.c1.st = 5 then s.c1.id else 0
theorem theirP_of {g : Nat} {p : PeL} {s : Se} {E0 E1 : List Ent} {d : Ck} (hA : PeAt g p s E0 E1 d) : theirP p = theirS s := by
  have h0 : p.c0.m = s.c0 := (congrArg Se.c0 hA.eq :)
  have h1 : p.c1.m = s.c1 := (congrArg Se.c1 hA.eq :)
  unfold theirP theirS
  rw [← h0, ← h1]
  rfl
def Ends (a b : Int) (σ : Sys) : Prop := ∃ N, N ≤ 12 ∧ (∀ k, k < N → (σ.turns k).mail ≠ []) ∧ (∀ k, k ≤ N → SysOk (σ.turns k)) ∧
  ((σ.turns N).mail = [] ∧ (σ.turns N).ups = 2 ∧ lv (σ.turns N).x = true ∧ lv (σ.turns N).y = true ∧ theirS (σ.turns N).x = b ∧ theirS (σ.turns N).y = a)
def Late (a b : Int) (σ : Sys) : Prop := SysOk σ ∧ SysOk (σ.up 1 0) ∧ SysOk ((σ.up 1 0).up 0 1) ∧ Ends a b ((σ.up 1 0).up 0 1)
section
variable {a b : Int} (ha : 1 ≤ a ∧ a ≤ 4294967295) (hb : 1 ≤ b ∧ b ≤ 4294967295) (hab : a ≠ b)
include ha hb hab
theorem ends_mst4 : Ends a b (mst4 a b) := by
  by_cases hl : a < b
  · obtain ⟨h1, h2, h3⟩ := mab_runs hl ha hb
    rw [(mst_both a b).1]
    exact ⟨12, by decide, h1, h2, by rw [h3]; exact ⟨rfl, rfl, rfl, rfl, rfl, rfl⟩⟩
  · have hl' : b < a := by omega
    obtain ⟨h1, h2, h3⟩ := mba_runs hl' ha hb
    rw [(mst_both a b).2.1]
    exact ⟨10, by decide, h1, h2, by rw [h3]; exact ⟨rfl, rfl, rfl, rfl, rfl, rfl⟩⟩
theorem late_no : Late a b (mst2 a b) := by
  unfold Late
  rw [mst2_up hb, mst3_up ha]
  exact ⟨mst2_ok ha hb, mst3_ok ha hb, mst4_ok ha hb, ends_mst4 ha hb hab⟩
theorem late_yes : (∀ k, k < 2 → ((mst2 a b).turns k).mail ≠ []) ∧ (∀ k, k ≤ 2 → SysOk ((mst2 a b).turns k)) ∧ (∀ k, k < 2 → ∃ m ms, ((mst2 a b).turns k).mail = m :: ms ∧ m.end_ = false) ∧ Late a b ((mst2 a b).turns 2) := by
  by_cases hl : a < b
  · obtain ⟨h1, h2, h3⟩ := mlab_runs ha hb
    rw [(mst_both a b).2.2.1]
    have e0 : (mlabE0 a b).turns 0 = mlabE0 a b := rfl
    have e1 : (mlabE0 a b).turns 1 = mlabE1 a b := mlabE0_turn hl ha
    have e2 : (mlabE0 a b).turns 2 = mlabE2 a b := by show ((mlabE0 a b).turns 1).turn = _; rw [e1]; exact mlabE1_turn hl hb
    refine ⟨fun k hk => ?_, fun k hk => ?_, fun k hk => ?_, ?_⟩
    · match k, hk with
      | 0, _ => rw [e0]; exact List.cons_ne_nil _ _
      | 1, _ => rw [e1]; exact List.cons_ne_nil _ _
    · match k, hk with
      | 0, _ => rw [e0]; exact mlabE0_ok ha hb
      | 1, _ => rw [e1]; exact mlabE1_ok hb
      | 2, _ => rw [e2]; exact mlabE2_ok
    · match k, hk with
      | 0, _ => rw [e0]; exact ⟨_, _, rfl, rfl⟩
      | 1, _ => rw [e1]; exact ⟨_, _, rfl, rfl⟩
    · rw [e2]
      unfold Late
      rw [mlabE2_up hb, mlabM_up ha]
      exact ⟨mlabE2_ok, mlabM_ok hb, mlab0_ok ha hb, 8, by decide, h1, h2, by rw [h3]; exact ⟨rfl, rfl, rfl, rfl, rfl, rfl⟩⟩
  · have hl' : b < a := by omega
    obtain ⟨h1, h2, h3⟩ := mlba_runs ha hb
    rw [(mst_both a b).2.2.2]
    have e0 : (mlbaE0 a b).turns 0 = mlbaE0 a b := rfl
    have e1 : (mlbaE0 a b).turns 1 = mlbaE1 a b := mlbaE0_turn hl' ha
    have e2 : (mlbaE0 a b).turns 2 = mlbaE2 a b := by show ((mlbaE0 a b).turns 1).turn = _; rw [e1]; exact mlbaE1_turn hl' hb
    refine ⟨fun k hk => ?_, fun k hk => ?_, fun k hk => ?_, ?_⟩
    · match k, hk with
      | 0, _ => rw [e0]; exact List.cons_ne_nil _ _
      | 1, _ => rw [e1]; exact List.cons_ne_nil _ _
    · match k, hk with
      | 0, _ => rw [e0]; exact mlbaE0_ok ha hb
      | 1, _ => rw [e1]; exact mlbaE1_ok hb
      | 2, _ => rw [e2]; exact mlbaE2_ok
    · match k, hk with
      | 0, _ => rw [e0]; exact ⟨_, _, rfl, rfl⟩
      | 1, _ => rw [e1]; exact ⟨_, _, rfl, rfl⟩
    · rw [e2]
      unfold Late
      rw [mlbaE2_up hb, mlbaM_up ha]
      exact ⟨mlbaE2_ok, mlbaM_ok hb, mlba0_ok ha hb, 8, by decide, h1, h2, by rw [h3]; exact ⟨rfl, rfl, rfl, rfl, rfl, rfl⟩⟩
end

theorem MtOk.le {gx gy B B' : Nat} {s : MtS} (h : MtOk gx gy B s) (hB : B ≤ B') : MtOk gx gy B' s := ⟨h.at_, h.mail, h.data, Nat.le_trans h.len (Nat.mul_le_mul_left _ hB), h.ups.1, by have := h.ups.2; omega⟩
theorem SysOk.fine {σ : Sys} (h : SysOk σ) (src : Int) : (σ.at_ src).Fine 10 := by
  unfold Sys.at_
  split
  · exact h.x
  · exact h.y
theorem SysOk.asn {σ : Sys} (h : SysOk σ) (src : Int) : I64 (σ.at_ src).asn := (h.fine src).wf.asn
theorem SyAt.waits {gx gy : Nat} {y : Sy} {σ : Sys} (h : SyAt gx gy y σ) (src : Int) : ∀ k, k < 2 → Bys ((σ.at_ src).c k).wait ∧ ((σ.at_ src).c k).wait.length ≤ 4096 := by
  unfold Sys.at_
  split
  · exact h.x.waits
  · exact h.y.waits
theorem turn_of {σ : Sys} {q : PtL} {ms : List PtD} (h : σ.mail = q.d :: ms) {r : Se × List EfD} (hr : (if q.end_ = true then downA (σ.at_ q.to_) q.n else feedA (σ.at_ q.to_) q.n q.bs) = r) : σ.turn = ({ σ with mail := ms } : Sys).put q.to_ r := by
  unfold Sys.turn
  rw [h, ← hr]
  rfl
theorem pts_head {q : PtL} {ps : List PtL} {j : Nat} {v : Value} (h : q.cells[j]? = some v) : (ptsL (q :: ps))[j]? = some v := by
  unfold ptsL
  rw [List.flatMap_cons, List.getElem?_append_left (List.getElem?_eq_some_iff.1 h).1]
  exact h
set_option maxHeartbeats 8000000 in
theorem PeerMeets_all (w0 : World) (hG : GF w0) (hZ : GZ w0) (a b : Int) (hua : U32 a) (hub : U32 b) (late : Bool) : Calls Tryz.prog 4 #[.int .u32 a, .int .u32 b, .bool late] w0 fun e w' => e = .returned (.bool true) ∧ Frm (fun _ => False) w0 w' := by
  refine enter Tryz.func4 rfl Tryz.ntmps4 rfl (St.start (fun _ => False) w0) ?_
  refine cR <| zA rfl <| zN <| cS <| cR <| zK ck_9 rfl <| ?_
  intro w hS
  refine Calls.then (Head10_c w (hG.keep (fun h => h) hS) (hZ.keep (fun h => h) hS)) hS ?_
  refine zV (v_not rfl rfl rfl) rfl <| zN <| cF rfl <| cK <| eN <| cS <| cR <| zM rfl <| ?_
  refine zT (v_eql rfl rfl rfl) rfl (fun h22 => ?_) (fun h22 => ?_)
  refine zM rfl ?_
  iterate 2 refine WL.sk rfl ?_
  refine zP rfl <| zM rfl <| ?_
  iterate 3 refine WL.sk rfl ?_
  refine zP rfl <| zN <| cT rfl <| cR <| zA rfl <| zN <| cE <| eR <| tR Tryz.results4 rfl <| ?_
  exact fun w' h => ⟨rfl, h.frm⟩
  refine zM rfl <| zS (v_move rfl rfl) rfl <| ?_
  refine WL.test (v_eql rfl rfl rfl) (.some rfl rfl rfl) rfl rfl (fun h25 => ?_) (fun h25 => ?_)
  refine zQ rfl <| zM rfl <| ?_
  iterate 3 refine WL.sk rfl ?_
  refine zP rfl <| zN <| cT rfl <| cR <| zA rfl <| zN <| cE <| eR <| tR Tryz.results4 rfl <| ?_
  exact fun w' h => ⟨rfl, h.frm⟩
  refine zQ rfl <| zM rfl <| zS (v_move rfl rfl) rfl <| zS (v_move rfl rfl) rfl <| ?_
  refine WL.test (v_eql rfl rfl rfl) (.some rfl rfl rfl) rfl rfl (fun h30 => ?_) (fun h30 => ?_)
  refine zQ rfl <| zN <| cT rfl <| cR <| zA rfl <| zN <| cE <| eR <| tR Tryz.results4 rfl <| ?_
  exact fun w' h => ⟨rfl, h.frm⟩
  refine zQ rfl <| zN <| cF rfl <| cK <| eN <| cR <| ?_
  have ha : 1 ≤ a ∧ a ≤ 4294967295 := by unfold U32 at hua; omega
  have hb : 1 ≤ b ∧ b ≤ 4294967295 := by unfold U32 at hub; omega
  refine zM rfl <| zV (v_build rfl rfl zero_44 plc_44 rfl) rfl <| zK ck_11 rfl <| ?_
  intro w1 hS
  refine (new_c w0 w1 [] hS 1 a 2 9 5 (by unfold confOk; omega) hua).mono ?_
  rintro e w' ⟨gx, px, dx, rfl, hAx, hS'⟩
  refine ⟨_, _, rfl, hS', ?_⟩
  refine zM rfl <| zX rfl <| zX rfl <| zA rfl <| zA rfl <| zR <| zM rfl <| zV (v_build rfl rfl zero_44 plc_44 rfl) rfl <| zK ck_11 rfl <| ?_
  intro w1 hS
  refine (new_c w0 w1 (.row gx px.cells :: ([] ++ ([] ++ dx.L px.gC 0 []))) hS 2 b 1 9 5 (by unfold confOk; omega) hub).mono ?_
  rintro e w' ⟨gy, py, dy, rfl, hAy, hS'⟩
  refine ⟨_, _, rfl, hS', ?_⟩
  refine zM rfl <| zX rfl <| zX rfl <| zA rfl <| zA rfl <| zN <| cS <| cR <| zM rfl <| ?_
  refine zV ((v_neq rfl rfl rfl).f ((by decide))) rfl ?_
  refine zM rfl <| zS (v_move rfl rfl) rfl <| ?_
  refine zS ((v_neq rfl rfl rfl).f ((by decide))) rfl ?_
  refine zQ rfl <| zN <| cF rfl <| cK <| eN <| cR <| zM rfl <| zM rfl <| zB Tryz.underlying57 sz_40 zero_40 rfl rfl <| ?_
  intro g52 hg52
  refine zA rfl <| zR <| zB Tryz.underlying58 sz_60 zero_60 rfl rfl <| ?_
  intro g53 hg53
  refine WL.alloc rfl zero_58 (.none rfl) rfl rfl ?_
  intro g12 hg12
  refine zO one_58 rfl rfl <| zR <| WL.alloc rfl zero_3 (.none rfl) rfl rfl <| ?_
  intro g13 hg13
  refine zO one_3 rfl rfl <| WL.as (L' := .row g13 [.int .i64 0] :: .row g12 [.slice (some ⟨g53, 0, none⟩) 0 0] :: .row g53 [] :: .row g52 (twoL gx gy) :: .row gy py.cells :: ([] ++ ([] ++ dy.L py.gC 0 (.row gx px.cells :: ([] ++ ([] ++ dx.L px.gC 0 [])))))) rfl <| ?_
  refine WL.to (L' := (⟨⟨Se.new 1 a 2 9 5, Se.new 2 b 1 9 5, [], 0⟩, ⟨px, [], [], dx, py, [], [], dy⟩, some ⟨g53, 0, none⟩, 0, [], [.row g53 []], []⟩ : MtS).L gx gy g12 g13 g52) (fun w hS => by
    show St (fun _ => False) w0 w ([.row g53 []] ++ (.row g12 [.slice (some ⟨g53, 0, none⟩) 0 0] :: .row g13 [.int .i64 0] :: .row gx px.cells :: ([] ++ ([] ++ dx.L px.gC 0 (.row gy py.cells :: ([] ++ ([] ++ dy.L py.gC 0 [.row g52 (twoL gx gy)])))))))
    exact hS.permK) ?_
  obtain ⟨s0, es0⟩ : ∃ s : MtS, s = ⟨⟨Se.new 1 a 2 9 5, Se.new 2 b 1 9 5, [], 0⟩, ⟨px, [], [], dx, py, [], [], dy⟩, some ⟨g53, 0, none⟩, 0, [], [.row g53 []], []⟩ := ⟨_, rfl⟩
  have hs0 : MtOk gx gy 0 s0 := by
    rw [es0]
    exact ⟨⟨hAx, hAy⟩, ⟨.inr ⟨g53, 0, [], rfl, rfl, rfl, Nat.le_refl _, Nat.le_refl _, fun i v hi => by cases hi⟩, fun p hp => by cases hp⟩, rfl, Nat.le_refl _, ⟨Int.le_refl _, by show (0 : Int) ≤ 200000 * ((0 : Nat) : Int); decide⟩⟩
  have eσ0 : s0.σ = ⟨Se.new 1 a 2 9 5, Se.new 2 b 1 9 5, [], 0⟩ := by rw [es0]
  rw [← es0]
  clear es0
  refine zR <| zV (v_makeFunc rfl rfl rfl) rfl <| zA rfl <| zR <| zM rfl <| zK ck_13 rfl <| ?_
  intro w1 hS
  refine (call2_c w0 w1 gx gy g12 g13 g52 s0 hs0.at_ hS 0 (.inl rfl) gx rfl (fun z => (if z.base = 0 then z.dial else z, if z.base = 0 then [ef 1 0] else [])) 13 [] (fun g p E0 E1 L' d hp hm hS' => start_c w0 w1 g p _ E0 E1 L' d hp hS')).mono ?_
  rintro e w' ⟨q1, rfl, hq1, hS'⟩
  obtain ⟨s1, es1, hs1, hd1⟩ := hq1.drop hs0 (by rw [eσ0]; rfl) (by rw [eσ0]; rfl)
  rw [eσ0] at es1
  refine ⟨_, _, rfl, hd1 _ _ _ hS', ?_⟩
  refine zR <| zM rfl <| zK ck_13 rfl <| ?_
  intro w1 hS
  refine (call2_c w0 w1 gx gy g12 g13 g52 s1 hs1.at_ hS 1 (.inr rfl) gy rfl (fun z => (if z.base = 0 then z.dial else z, if z.base = 0 then [ef 1 0] else [])) 13 [] (fun g p E0 E1 L' d hp hm hS' => start_c w0 w1 g p _ E0 E1 L' d hp hS')).mono ?_
  rintro e w' ⟨q2, rfl, hq2, hS'⟩
  obtain ⟨s2, es2, hs2, hd2⟩ := hq2.drop hs1 (by rw [es1]; rfl) (by rw [es1]; rfl)
  rw [es1] at es2
  replace es2 : s2.σ = mst0 a b := es2.trans (mst_new a b).symm
  have ok0 : SysOk s2.σ := by rw [es2]; exact mst0_ok
  refine ⟨_, _, rfl, hd2 _ _ _ hS', ?_⟩
  refine zR <| zM rfl <| zM rfl <| zK ck_14 rfl <| ?_
  intro w1 hS
  refine (call2_c w0 w1 gx gy g12 g13 g52 s2 hs2.at_ hS 0 (.inl rfl) gx rfl (fun z => upA z 0) 14 [.int .i64 0] (fun g p E0 E1 L' d hp hm hS' => up_any w0 w1 g p _ E0 E1 L' d hp hG hS' 0 (ok0.asn 0))).mono ?_
  rintro e w' ⟨qs3, rfl, hqs3, hS'⟩
  refine ⟨_, _, rfl, hS', ?_⟩
  refine WL.callV rfl rfl rfl ck_19 (.none rfl) rfl rfl ?_
  intro w1 hS
  refine (send2_c w0 w1 gx gy g12 g13 g52 0 (by decide) s2 hs2 qs3 0 (.inl rfl) (upA (s2.σ.at_ 0) 0) hqs3 (Nat.le_trans (upA_len _ _) (by decide)) (by show SysOk (s2.σ.up 0 0); rw [es2, mst0_up ha]; exact mst1_ok ha) hS).mono ?_
  rintro e w' ⟨s3, _, rfl, es3, hs3, _, hS'⟩
  refine ⟨_, _, rfl, hS', ?_⟩
  replace es3 : s3.σ = mst1 a b := by rw [es3, ← mst0_up ha, ← es2]; rfl
  have ok1 : SysOk s3.σ := by rw [es3]; exact mst1_ok ha
  refine zR <| zM rfl <| zM rfl <| zK ck_14 rfl <| ?_
  intro w1 hS
  refine (call2_c w0 w1 gx gy g12 g13 g52 s3 hs3.at_ hS 1 (.inr rfl) gy rfl (fun z => upA z 1) 14 [.int .i64 1] (fun g p E0 E1 L' d hp hm hS' => up_any w0 w1 g p _ E0 E1 L' d hp hG hS' 1 (ok1.asn 1))).mono ?_
  rintro e w' ⟨qs4, rfl, hqs4, hS'⟩
  refine ⟨_, _, rfl, hS', ?_⟩
  refine WL.callV rfl rfl rfl ck_19 (.none rfl) rfl rfl ?_
  intro w1 hS
  refine (send2_c w0 w1 gx gy g12 g13 g52 1 (by decide) s3 hs3 qs4 1 (.inr rfl) (upA (s3.σ.at_ 1) 1) hqs4 (Nat.le_trans (upA_len _ _) (by decide)) (by show SysOk (s3.σ.up 1 1); rw [es3, mst1_up hb]; exact mst2_ok ha hb) hS).mono ?_
  rintro e w' ⟨s4, _, rfl, es4, hs4, _, hS'⟩
  refine ⟨_, _, rfl, hS', ?_⟩
  replace es4 : s4.σ = mst2 a b := by rw [es4, ← mst1_up hb, ← es3]; rfl
  refine zN ?_
  refine WC.cut (fun _ : MtS => [(14, .func (.func 19) #[] #[.pointer (some ⟨g12, 0, none⟩), .pointer (some ⟨g13, 0, none⟩)]), (13, .pointer (some ⟨g13, 0, none⟩)), (12, .pointer (some ⟨g12, 0, none⟩)), (11, .slice (some ⟨g52, 0, none⟩) 2 2), (9, .pointer (some ⟨gy, 0, none⟩)), (7, .pointer (some ⟨gx, 0, none⟩)), (1, .int .u32 b), (0, .int .u32 a)]) (fun s => s.L gx gy g12 g13 g52) (fun s => MtOk gx gy 10 s ∧ Late a b s.σ) ?_ ?_
  refine cR <| zM rfl <| ?_
  skip
  cases late
  refine zN <| cF rfl <| cK <| ?_
  exact WE.mid s4 ⟨hs4.le (by decide), by rw [es4]; exact late_no ha hb (by omega)⟩ (.cons rfl (.cons rfl (.cons rfl (.cons rfl (.cons rfl (.cons rfl (.cons rfl (.cons rfl .nil)))))))) (.refl _)
  refine zN <| cT rfl <| cR <| zA rfl <| zN <| cB <| WC.loop (fun x : Nat × MtS => [(15, .int .i64 x.1), (14, .func (.func 19) #[] #[.pointer (some ⟨g12, 0, none⟩), .pointer (some ⟨g13, 0, none⟩)]), (13, .pointer (some ⟨g13, 0, none⟩)), (12, .pointer (some ⟨g12, 0, none⟩)), (11, .slice (some ⟨g52, 0, none⟩) 2 2), (9, .pointer (some ⟨gy, 0, none⟩)), (7, .pointer (some ⟨gx, 0, none⟩)), (1, .int .u32 b), (0, .int .u32 a)]) (fun x => x.2.L gx gy g12 g13 g52) (fun x => x.1 ≤ 2 ∧ x.2.σ = (mst2 a b).turns x.1 ∧ MtOk gx gy (2 + x.1) x.2) (fun x => 2 - x.1) (0, s4) ⟨Nat.zero_le _, es4, hs4⟩ (.cons rfl (.cons rfl (.cons rfl (.cons rfl (.cons rfl (.cons rfl (.cons rfl (.cons rfl (.cons rfl .nil))))))))) (.refl _) <| ?_
  rintro ⟨k, ⟨σ, y, am, cm, ps, Em, M⟩⟩ ⟨hk, hσ, hs1⟩
  dsimp only at hk hσ hs1
  dsimp only
  unfold MtS.L
  dsimp only
  obtain ⟨l1, l2, l3, l4⟩ := late_yes (a := a) (b := b) ha hb (by omega)
  have hlen : k < 2 → 0 < ps.length := fun h => List.length_pos_iff.2 fun e => l1 k h (by rw [← hσ, ← hs1.data]; dsimp only; rw [e]; rfl)
  refine cS <| cR <| zM rfl <| ?_
  refine zT (v_lss rfl rfl rfl) rfl (fun h69 => ?_) (fun h69 => ?_)
  refine zM rfl <| zS (v_load1 rfl rfl one_58 (cellAt (v := .slice am ps.length cm) rfl)) rfl <| zS (v_len_slice rfl rfl Tryz.underlying58) rfl <| ?_
  refine zS ((v_gtr rfl rfl rfl).t ((by have := hlen (by omega); omega))) rfl ?_
  refine zP rfl <| zN <| cT rfl <| cK <| eN <| cS <| cB <| cR <| ?_
  obtain ⟨q, ps', rfl⟩ : ∃ q ps', ps = q :: ps' := by
    cases ps with
    | nil => exact absurd (hlen (by omega)) (Nat.lt_irrefl 0)
    | cons q ps' => exact ⟨q, ps', rfl⟩
  have hsok := (by rw [hσ]; exact l2 k hk : SysOk σ)
  obtain ⟨bm, om, eam, hrm⟩ := hs1.mail.1.src (hlen (by omega))
  subst eam
  have hqd : σ.mail = q.d :: ps'.map PtL.d := hs1.data.symm
  have hqo : PtOk q.d := hsok.m q.d (by rw [hqd]; exact List.mem_cons_self ..)
  obtain ⟨kt, hkt, hkt2⟩ : ∃ kt : Nat, q.to_ = (kt : Int) ∧ kt < 2 := by
    rcases hqo.to_ with h | h
    · exact ⟨0, h, by decide⟩
    · exact ⟨1, h, by decide⟩
  have hgp : (twoL gx gy)[kt]? = some (.pointer (some ⟨if q.to_ = 0 then gx else gy, 0, none⟩)) := by
    rw [hkt]
    match kt, hkt2 with
    | 0, _ => rfl
    | 1, _ => rfl
  obtain ⟨Eq, hBV, hEq⟩ := hs1.mail.2 q (List.mem_cons_self ..)
  have hm0 : MailV (some ⟨bm, sAddr om 1 cm 4, none⟩) (cm - 1) ps' Em M := ⟨by
    have := VecP.tail (k := ps'.length) hs1.mail.1
    exact this, fun p hp => by obtain ⟨E', h1, h2⟩ := hs1.mail.2 p (List.mem_cons_of_mem _ hp); exact ⟨E', h1, h2⟩⟩
  refine zV (v_load1 rfl rfl one_58 (cellAt (v := .slice (some ⟨bm, om, none⟩) (q :: ps').length cm) rfl)) rfl ?_
  refine zV ((v_indexAddr (b := bm) (off := om) (lo := 0) rfl rfl rfl Tryz.underlying58 sz_60 rfl (by omega))) rfl ?_
  refine zV ((v_loadN (cs := q.cells) rfl rfl many_60 rfl (fun w hS j v hj => by rw [Nat.zero_mul, Nat.add_zero]; exact hrm w (fun e he => hS.holds e (List.mem_append_left _ he)) j v (pts_head hj)))) rfl ?_
  refine WL.alloc rfl zero_60 (.none rfl) rfl rfl ?_
  intro g16 hg16
  refine zW many_60 rfl rfl ?_
  have hsok' : SysOk σ.turn := by rw [hσ]; exact l2 (k + 1) (by omega)
  have hend : q.end_ = false := by
    obtain ⟨m', ms', h1, h2⟩ := l3 k (by omega)
    rw [← hσ, hqd] at h1
    injection h1 with h1 _
    rw [← h1] at h2; exact h2
  refine zR <| zV (v_load1 rfl rfl one_58 (cellAt (v := .slice (some ⟨bm, om, none⟩) (q :: ps').length cm) rfl)) rfl <| ?_
  refine zV ((v_slice_lo (lo := 1) rfl rfl rfl Tryz.underlying58 sz_60 rfl (by simp))) rfl ?_
  refine zO one_58 rfl rfl <| WL.rowAs (g := g12) (cs' := [.slice (some ⟨bm, sAddr om 1 cm 4, none⟩) ps'.length (cm - 1)]) rfl <| ?_
  refine WL.to (L' := (⟨{ σ with mail := ps'.map PtL.d }, y, some ⟨bm, sAddr om 1 cm 4, none⟩, cm - 1, ps', Em, .row g16 q.cells :: M⟩ : MtS).L gx gy g12 g13 g52) (fun w hS => by
    unfold MtS.L
    unfold Sy.L at hS ⊢
    exact hS.permK) ?_
  have hs2 : MtOk gx gy (2 + k) (⟨{ σ with mail := ps'.map PtL.d }, y, some ⟨bm, sAddr om 1 cm 4, none⟩, cm - 1, ps', Em, .row g16 q.cells :: M⟩ : MtS) := ⟨⟨hs1.at_.x, hs1.at_.y⟩, hm0.mono fun e he => List.mem_cons_of_mem _ he, rfl, by have := hs1.len; rw [List.length_cons] at this; dsimp only; omega, hs1.ups⟩
  refine zN <| WC.held (.row g52 (twoL gx gy) :: [.row g16 q.cells]) mixed <| ?_
  refine WRH.first (g := 2) [0, 1, 2, 3, 4, 5, 6, 7, 8, 9, 10, 11] (by kernel_rfl) (by kernel_rfl) (fun w hS => hS.sub (by repeat (first | exact List.Sublist.refl _ | exact List.nil_sublist _ | refine List.Sublist.cons_cons _ ?_ | refine List.Sublist.cons _ ?_ | refine List.sublist_append_of_sublist_right ?_))) ?_
  refine WH.val (v_move rfl rfl) (.none rfl) rfl rfl <| WH.val (v_fieldAddr0 rfl rfl fld_60_0) (.none rfl) rfl rfl <| WH.val (v_load1 rfl rfl one_3 (cellAt (v := .int .i64 q.to_) rfl)) (.none rfl) rfl rfl <| WH.val (v_move rfl rfl) (.none rfl) rfl rfl <| WH.val (v_fieldAddr0 rfl rfl fld_60_0) (.none rfl) rfl rfl <| WH.val (v_load1 rfl rfl one_3 (cellAt (v := .int .i64 q.to_) rfl)) (.none rfl) rfl rfl <| WH.val ((v_indexAddr (b := g52) (off := 0) (lo := kt) rfl rfl rfl Tryz.underlying57 sz_40 hkt hkt2)) (.none rfl) rfl rfl <| ?_
  refine WH.val (v_load1 rfl rfl one_40 (fun w hS => (hS.row (g := g52)).cell (by rw [Nat.zero_add, Nat.mul_one]; exact hgp))) (.none rfl) rfl rfl ?_
  refine WH.val (v_fieldAddr0 rfl rfl fld_60_1) (.none rfl) rfl rfl <| WH.val (v_load1 rfl rfl one_3 (cellAt (v := .int .i64 q.n) rfl)) (.none rfl) rfl rfl <| WH.val (v_fieldAddr0 rfl rfl fld_60_2) (.none rfl) rfl rfl <| WH.val (v_load1 rfl rfl one_25 (cellAt (v := .slice q.ad q.bs.length q.cap) rfl)) (.none rfl) rfl rfl <| WH.nil <| ?_
  refine WRH.one (g := 1) 12 (by kernel_rfl) ?_
  refine zK ck_15 rfl ?_
  have hturn : σ.turn = ({ σ with mail := ps'.map PtL.d } : Sys).put q.to_ (feedA (σ.at_ q.to_) q.n q.bs) := turn_of hqd (by rw [hend]; rfl)
  intro w1 hS
  refine (call2_c w0 w1 gx gy g12 g13 g52 (⟨{ σ with mail := ps'.map PtL.d }, y, some ⟨bm, sAddr om 1 cm 4, none⟩, cm - 1, ps', Em, .row g16 q.cells :: M⟩ : MtS) hs2.at_ hS q.to_ hqo.to_ _ rfl (fun z => feedA z q.n q.bs) 15 [.int .i64 q.n, .slice q.ad q.bs.length q.cap] (fun g p E0 E1 L' d hp hm hS' => feed_any w0 w1 g p _ E0 E1 L' d hp hG hS' q.n hZ (hsok.fine q.to_) (by decide) q.ad q.cap q.bs (fun w h => hBV.cellsAt (fun e he => h.holds e (by simp [Ck.L, clkL, hm e (List.mem_cons_of_mem _ (hEq e he))]))) hqo.bys (Nat.le_trans hqo.len (by decide)))).mono ?_
  rintro e w' ⟨qe, rfl, hqe, hS'⟩
  refine ⟨_, _, rfl, hS', ?_⟩
  refine WL.nilH (fun w hS => hS.sub (by repeat (first | exact List.Sublist.refl _ | exact List.nil_sublist _ | refine List.Sublist.cons_cons _ ?_ | refine List.Sublist.cons _ ?_ | refine List.sublist_append_of_sublist_right ?_))) ?_
  refine WRH.one (g := 0) 13 (by kernel_rfl) ?_
  refine WL.callV rfl rfl rfl ck_19 (.none rfl) rfl rfl ?_
  intro w1 hS
  refine (send2_c w0 w1 gx gy g12 g13 g52 (2 + k) (by omega) (⟨{ σ with mail := ps'.map PtL.d }, y, some ⟨bm, sAddr om 1 cm 4, none⟩, cm - 1, ps', Em, .row g16 q.cells :: M⟩ : MtS) hs2 qe q.to_ hqo.to_ (feedA (σ.at_ q.to_) q.n q.bs) hqe (feedA_len _ _ _ (hs1.at_.waits q.to_) (Nat.le_trans hqo.len (by decide))) (by rw [← hturn]; exact hsok') hS).mono ?_
  rintro e w' ⟨⟨σ3, y3, am3, cm3, ps3, Em3, M3⟩, K3, rfl, e3, hs3, eM, hS'⟩
  dsimp only at e3 eM
  subst eM
  refine ⟨_, _, rfl, hS', ?_⟩
  replace e3 : σ3 = σ.turn := e3.trans hturn.symm
  refine WL.nilH (fun w hS => hS.sub (by repeat (first | exact List.Sublist.refl _ | exact List.nil_sublist _ | refine List.Sublist.cons_cons _ ?_ | refine List.Sublist.cons _ ?_ | refine List.sublist_append_of_sublist_right ?_))) ?_
  refine WRH.done (by kernel_rfl) ?_
  refine eY <| eN <| WC.region <| zM rfl <| ?_
  refine zV (v_add rfl rfl rfl (show _ = ((k + 1 : Nat) : Int) from (w_i64 (by omega) (by omega)).trans (by omega))) rfl ?_
  refine zA rfl <| WL.nil <| ?_
  exact WE.next (k + 1, (⟨σ3, y3, am3, cm3, ps3, Em3, K3 ++ (.row g16 q.cells :: M)⟩ : MtS)) (by dsimp only; omega) ⟨by dsimp only; omega, by dsimp only; rw [e3, hσ]; rfl, hs3⟩ (.cons rfl (.cons rfl (.cons rfl (.cons rfl (.cons rfl (.cons rfl (.cons rfl (.cons rfl (.cons rfl .nil))))))))) (.refl _)
  refine zM rfl ?_
  iterate 3 refine WL.sk rfl ?_
  refine zQ rfl <| zN <| cF rfl <| cX <| eX <| eX <| eH <| ?_
  obtain rfl : k = 2 := by omega
  exact WE.mid (⟨σ, y, am, cm, ps, Em, M⟩ : MtS) ⟨hs1.le (by decide), by dsimp only; rw [hσ]; exact l4⟩ (.cons rfl (.cons rfl (.cons rfl (.cons rfl (.cons rfl (.cons rfl (.cons rfl (.cons rfl .nil)))))))) (.refl _)
  rintro s5 ⟨hs5, ok5, ok6, ok7, hE⟩
  refine cR <| zM rfl <| zM rfl <| zK ck_14 rfl <| ?_
  intro w1 hS
  refine (call2_c w0 w1 gx gy g12 g13 g52 s5 hs5.at_ hS 1 (.inr rfl) gy rfl (fun z => upA z 0) 14 [.int .i64 0] (fun g p E0 E1 L' d hp hm hS' => up_any w0 w1 g p _ E0 E1 L' d hp hG hS' 0 (ok5.asn 1))).mono ?_
  rintro e w' ⟨qs6, rfl, hqs6, hS'⟩
  refine ⟨_, _, rfl, hS', ?_⟩
  refine WL.callV rfl rfl rfl ck_19 (.none rfl) rfl rfl ?_
  intro w1 hS
  refine (send2_c w0 w1 gx gy g12 g13 g52 10 (by decide) s5 hs5 qs6 1 (.inr rfl) (upA (s5.σ.at_ 1) 0) hqs6 (Nat.le_trans (upA_len _ _) (by decide)) (ok6) hS).mono ?_
  rintro e w' ⟨s6, _, rfl, es6, hs6, _, hS'⟩
  refine ⟨_, _, rfl, hS', ?_⟩
  replace es6 : s6.σ = s5.σ.up 1 0 := es6
  have ok6' : SysOk s6.σ := by rw [es6]; exact ok6
  refine zR <| zM rfl <| zM rfl <| zK ck_14 rfl <| ?_
  intro w1 hS
  refine (call2_c w0 w1 gx gy g12 g13 g52 s6 hs6.at_ hS 0 (.inl rfl) gx rfl (fun z => upA z 1) 14 [.int .i64 1] (fun g p E0 E1 L' d hp hm hS' => up_any w0 w1 g p _ E0 E1 L' d hp hG hS' 1 (ok6'.asn 0))).mono ?_
  rintro e w' ⟨qs7, rfl, hqs7, hS'⟩
  refine ⟨_, _, rfl, hS', ?_⟩
  refine WL.callV rfl rfl rfl ck_19 (.none rfl) rfl rfl ?_
  intro w1 hS
  refine (send2_c w0 w1 gx gy g12 g13 g52 11 (by decide) s6 hs6 qs7 0 (.inl rfl) (upA (s6.σ.at_ 0) 1) hqs7 (Nat.le_trans (upA_len _ _) (by decide)) (by show SysOk (s6.σ.up 0 1); rw [es6]; exact ok7) hS).mono ?_
  rintro e w' ⟨s7, _, rfl, es7, hs7, _, hS'⟩
  refine ⟨_, _, rfl, hS', ?_⟩
  replace es7 : s7.σ = (s5.σ.up 1 0).up 0 1 := by rw [es7, ← es6]; rfl
  obtain ⟨N, hN, n1, n2, n3⟩ := hE
  rw [← es7] at n1 n2 n3
  refine zN <| cS <| cR <| zA rfl <| zN <| cB <| WC.loop (fun x : Nat × MtS => [(17, .int .i64 x.1), (14, .func (.func 19) #[] #[.pointer (some ⟨g12, 0, none⟩), .pointer (some ⟨g13, 0, none⟩)]), (13, .pointer (some ⟨g13, 0, none⟩)), (12, .pointer (some ⟨g12, 0, none⟩)), (11, .slice (some ⟨g52, 0, none⟩) 2 2), (9, .pointer (some ⟨gy, 0, none⟩)), (7, .pointer (some ⟨gx, 0, none⟩)), (1, .int .u32 b), (0, .int .u32 a)]) (fun x => x.2.L gx gy g12 g13 g52) (fun x => x.1 ≤ N ∧ x.2.σ = s7.σ.turns x.1 ∧ MtOk gx gy (12 + x.1) x.2) (fun x => N - x.1) (0, s7) ⟨Nat.zero_le _, rfl, hs7⟩ (.cons rfl (.cons rfl (.cons rfl (.cons rfl (.cons rfl (.cons rfl (.cons rfl (.cons rfl (.cons rfl .nil))))))))) (.refl _) <| ?_
  rintro ⟨k, ⟨σ, y, am, cm, ps, Em, M⟩⟩ ⟨hk, hσ, hs1⟩
  dsimp only at hk hσ hs1
  dsimp only
  unfold MtS.L
  dsimp only
  have hlt : 0 < ps.length → k < N := fun h => by
    rcases Nat.lt_or_ge k N with h' | h'
    · exact h'
    · have hkN : k = N := by omega
      rw [hkN] at hσ
      have h0 : ps.map PtL.d = [] := hs1.data.trans ((congrArg Sys.mail hσ).trans n3.1)
      rw [List.map_eq_nil_iff.1 h0] at h
      exact absurd h (Nat.lt_irrefl 0)
  have hge : ¬ 0 < ps.length → k = N := fun h => by
    rcases Nat.lt_or_ge k N with h' | h'
    · exact absurd (List.length_pos_iff.2 fun e => n1 k h' (by rw [← hσ, ← hs1.data]; dsimp only; rw [e]; rfl)) h
    · omega
  refine cS <| cR <| zV (v_load1 rfl rfl one_58 (cellAt (v := .slice am ps.length cm) rfl)) rfl <| zV (v_len_slice rfl rfl Tryz.underlying58) rfl <| ?_
  refine zT (v_gtr rfl rfl rfl) rfl (fun h106 => ?_) (fun h106 => ?_)
  refine zM rfl <| zS (v_move rfl rfl) rfl <| ?_
  refine zS ((v_lss rfl rfl rfl).t ((by have := hlt (by omega); omega))) rfl ?_
  refine zP rfl <| zN <| cT rfl <| cK <| eN <| cS <| cB <| cR <| ?_
  have hlen : 0 < ps.length := by omega
  obtain ⟨q, ps', rfl⟩ : ∃ q ps', ps = q :: ps' := by
    cases ps with
    | nil => exact absurd hlen (Nat.lt_irrefl 0)
    | cons q ps' => exact ⟨q, ps', rfl⟩
  have hsok := (by rw [hσ]; exact n2 k hk : SysOk σ)
  obtain ⟨bm, om, eam, hrm⟩ := hs1.mail.1.src hlen
  subst eam
  have hqd : σ.mail = q.d :: ps'.map PtL.d := hs1.data.symm
  have hqo : PtOk q.d := hsok.m q.d (by rw [hqd]; exact List.mem_cons_self ..)
  obtain ⟨kt, hkt, hkt2⟩ : ∃ kt : Nat, q.to_ = (kt : Int) ∧ kt < 2 := by
    rcases hqo.to_ with h | h
    · exact ⟨0, h, by decide⟩
    · exact ⟨1, h, by decide⟩
  have hgp : (twoL gx gy)[kt]? = some (.pointer (some ⟨if q.to_ = 0 then gx else gy, 0, none⟩)) := by
    rw [hkt]
    match kt, hkt2 with
    | 0, _ => rfl
    | 1, _ => rfl
  obtain ⟨Eq, hBV, hEq⟩ := hs1.mail.2 q (List.mem_cons_self ..)
  have hm0 : MailV (some ⟨bm, sAddr om 1 cm 4, none⟩) (cm - 1) ps' Em M := ⟨by
    have := VecP.tail (k := ps'.length) hs1.mail.1
    exact this, fun p hp => by obtain ⟨E', h1, h2⟩ := hs1.mail.2 p (List.mem_cons_of_mem _ hp); exact ⟨E', h1, h2⟩⟩
  refine zV (v_load1 rfl rfl one_58 (cellAt (v := .slice (some ⟨bm, om, none⟩) (q :: ps').length cm) rfl)) rfl ?_
  refine zV ((v_indexAddr (b := bm) (off := om) (lo := 0) rfl rfl rfl Tryz.underlying58 sz_60 rfl (by omega))) rfl ?_
  refine zV ((v_loadN (cs := q.cells) rfl rfl many_60 rfl (fun w hS j v hj => by rw [Nat.zero_mul, Nat.add_zero]; exact hrm w (fun e he => hS.holds e (List.mem_append_left _ he)) j v (pts_head hj)))) rfl ?_
  refine WL.alloc rfl zero_60 (.none rfl) rfl rfl ?_
  intro g18 hg18
  refine zW many_60 rfl rfl ?_
  have hsok' : SysOk σ.turn := by rw [hσ]; exact n2 (k + 1) (by have := hlt hlen; omega)
  refine zR <| zV (v_load1 rfl rfl one_58 (cellAt (v := .slice (some ⟨bm, om, none⟩) (q :: ps').length cm) rfl)) rfl <| ?_
  refine zV ((v_slice_lo (lo := 1) rfl rfl rfl Tryz.underlying58 sz_60 rfl (by simp))) rfl ?_
  refine zO one_58 rfl rfl <| WL.rowAs (g := g12) (cs' := [.slice (some ⟨bm, sAddr om 1 cm 4, none⟩) ps'.length (cm - 1)]) rfl <| ?_
  refine WL.to (L' := (⟨{ σ with mail := ps'.map PtL.d }, y, some ⟨bm, sAddr om 1 cm 4, none⟩, cm - 1, ps', Em, .row g18 q.cells :: M⟩ : MtS).L gx gy g12 g13 g52) (fun w hS => by
    unfold MtS.L
    unfold Sy.L at hS ⊢
    exact hS.permK) ?_
  have hs2 : MtOk gx gy (12 + k) (⟨{ σ with mail := ps'.map PtL.d }, y, some ⟨bm, sAddr om 1 cm 4, none⟩, cm - 1, ps', Em, .row g18 q.cells :: M⟩ : MtS) := ⟨⟨hs1.at_.x, hs1.at_.y⟩, hm0.mono fun e he => List.mem_cons_of_mem _ he, rfl, by have := hs1.len; rw [List.length_cons] at this; dsimp only; omega, hs1.ups⟩
  refine zR <| zF rfl fld_60_3 <| ?_
  refine zV (v_load1 rfl rfl one_4 (fun w hS => Row.cell (g := g18) (cs := q.cells) (v := .bool q.end_) (hS.holds (.row g18 q.cells) (by simp [MtS.L, Sy.L, Ck.L, clkL])) rfl)) rfl ?_
  generalize hend : q.end_ = qe
  cases qe
  refine zN <| cF rfl <| WC.held (.row g52 (twoL gx gy) :: [.row g18 q.cells]) mixed <| ?_
  refine WRH.first (g := 2) [0, 1, 2, 3, 4, 5, 6, 7, 8, 9, 10, 11] (by kernel_rfl) (by kernel_rfl) (fun w hS => hS.sub (by repeat (first | exact List.Sublist.refl _ | exact List.nil_sublist _ | refine List.Sublist.cons_cons _ ?_ | refine List.Sublist.cons _ ?_ | refine List.sublist_append_of_sublist_right ?_))) ?_
  refine WH.val (v_move rfl rfl) (.none rfl) rfl rfl <| WH.val (v_fieldAddr0 rfl rfl fld_60_0) (.none rfl) rfl rfl <| WH.val (v_load1 rfl rfl one_3 (cellAt (v := .int .i64 q.to_) rfl)) (.none rfl) rfl rfl <| WH.val (v_move rfl rfl) (.none rfl) rfl rfl <| WH.val (v_fieldAddr0 rfl rfl fld_60_0) (.none rfl) rfl rfl <| WH.val (v_load1 rfl rfl one_3 (cellAt (v := .int .i64 q.to_) rfl)) (.none rfl) rfl rfl <| WH.val ((v_indexAddr (b := g52) (off := 0) (lo := kt) rfl rfl rfl Tryz.underlying57 sz_40 hkt hkt2)) (.none rfl) rfl rfl <| ?_
  refine WH.val (v_load1 rfl rfl one_40 (fun w hS => (hS.row (g := g52)).cell (by rw [Nat.zero_add, Nat.mul_one]; exact hgp))) (.none rfl) rfl rfl ?_
  refine WH.val (v_fieldAddr0 rfl rfl fld_60_1) (.none rfl) rfl rfl <| WH.val (v_load1 rfl rfl one_3 (cellAt (v := .int .i64 q.n) rfl)) (.none rfl) rfl rfl <| WH.val (v_fieldAddr0 rfl rfl fld_60_2) (.none rfl) rfl rfl <| WH.val (v_load1 rfl rfl one_25 (cellAt (v := .slice q.ad q.bs.length q.cap) rfl)) (.none rfl) rfl rfl <| WH.nil <| ?_
  refine WRH.one (g := 1) 12 (by kernel_rfl) ?_
  refine zK ck_15 rfl ?_
  have hturn : σ.turn = ({ σ with mail := ps'.map PtL.d } : Sys).put q.to_ (feedA (σ.at_ q.to_) q.n q.bs) := turn_of hqd (by rw [hend]; rfl)
  intro w1 hS
  refine (call2_c w0 w1 gx gy g12 g13 g52 (⟨{ σ with mail := ps'.map PtL.d }, y, some ⟨bm, sAddr om 1 cm 4, none⟩, cm - 1, ps', Em, .row g18 q.cells :: M⟩ : MtS) hs2.at_ hS q.to_ hqo.to_ _ rfl (fun z => feedA z q.n q.bs) 15 [.int .i64 q.n, .slice q.ad q.bs.length q.cap] (fun g p E0 E1 L' d hp hm hS' => feed_any w0 w1 g p _ E0 E1 L' d hp hG hS' q.n hZ (hsok.fine q.to_) (by decide) q.ad q.cap q.bs (fun w h => hBV.cellsAt (fun e he => h.holds e (by simp [Ck.L, clkL, hm e (List.mem_cons_of_mem _ (hEq e he))]))) hqo.bys (Nat.le_trans hqo.len (by decide)))).mono ?_
  rintro e w' ⟨qe, rfl, hqe, hS'⟩
  refine ⟨_, _, rfl, hS', ?_⟩
  refine WL.nilH (fun w hS => hS.sub (by repeat (first | exact List.Sublist.refl _ | exact List.nil_sublist _ | refine List.Sublist.cons_cons _ ?_ | refine List.Sublist.cons _ ?_ | refine List.sublist_append_of_sublist_right ?_))) ?_
  refine WRH.one (g := 0) 13 (by kernel_rfl) ?_
  refine WL.callV rfl rfl rfl ck_19 (.none rfl) rfl rfl ?_
  intro w1 hS
  refine (send2_c w0 w1 gx gy g12 g13 g52 (12 + k) (by omega) (⟨{ σ with mail := ps'.map PtL.d }, y, some ⟨bm, sAddr om 1 cm 4, none⟩, cm - 1, ps', Em, .row g18 q.cells :: M⟩ : MtS) hs2 qe q.to_ hqo.to_ (feedA (σ.at_ q.to_) q.n q.bs) hqe (feedA_len _ _ _ (hs1.at_.waits q.to_) (Nat.le_trans hqo.len (by decide))) (by rw [← hturn]; exact hsok') hS).mono ?_
  rintro e w' ⟨⟨σ3, y3, am3, cm3, ps3, Em3, M3⟩, K3, rfl, e3, hs3, eM, hS'⟩
  dsimp only at e3 eM
  subst eM
  refine ⟨_, _, rfl, hS', ?_⟩
  replace e3 : σ3 = σ.turn := e3.trans hturn.symm
  refine WL.nilH (fun w hS => hS.sub (by repeat (first | exact List.Sublist.refl _ | exact List.nil_sublist _ | refine List.Sublist.cons_cons _ ?_ | refine List.Sublist.cons _ ?_ | refine List.sublist_append_of_sublist_right ?_))) ?_
  refine WRH.done (by kernel_rfl) ?_
  refine eY <| eN <| WC.region <| zM rfl <| ?_
  refine zV (v_add rfl rfl rfl (show _ = ((k + 1 : Nat) : Int) from (w_i64 (by omega) (by omega)).trans (by omega))) rfl ?_
  refine zA rfl <| WL.nil <| ?_
  exact WE.next (k + 1, (⟨σ3, y3, am3, cm3, ps3, Em3, K3 ++ (.row g18 q.cells :: M)⟩ : MtS)) (by have := hlt hlen; dsimp only; omega) ⟨by have := hlt hlen; dsimp only; omega, by dsimp only; rw [e3, hσ]; rfl, hs3⟩ (.cons rfl (.cons rfl (.cons rfl (.cons rfl (.cons rfl (.cons rfl (.cons rfl (.cons rfl (.cons rfl .nil))))))))) (.refl _)
  refine zN <| cT rfl <| WC.held (.row g52 (twoL gx gy) :: [.row g18 q.cells]) mixed <| ?_
  refine WRH.first (g := 2) [0, 1, 2, 3, 4, 5, 6, 7, 8, 9] (by kernel_rfl) (by kernel_rfl) (fun w hS => hS.sub (by repeat (first | exact List.Sublist.refl _ | exact List.nil_sublist _ | refine List.Sublist.cons_cons _ ?_ | refine List.Sublist.cons _ ?_ | refine List.sublist_append_of_sublist_right ?_))) ?_
  refine WH.val (v_move rfl rfl) (.none rfl) rfl rfl <| WH.val (v_fieldAddr0 rfl rfl fld_60_0) (.none rfl) rfl rfl <| WH.val (v_load1 rfl rfl one_3 (cellAt (v := .int .i64 q.to_) rfl)) (.none rfl) rfl rfl <| WH.val (v_move rfl rfl) (.none rfl) rfl rfl <| WH.val (v_fieldAddr0 rfl rfl fld_60_0) (.none rfl) rfl rfl <| WH.val (v_load1 rfl rfl one_3 (cellAt (v := .int .i64 q.to_) rfl)) (.none rfl) rfl rfl <| WH.val ((v_indexAddr (b := g52) (off := 0) (lo := kt) rfl rfl rfl Tryz.underlying57 sz_40 hkt hkt2)) (.none rfl) rfl rfl <| ?_
  refine WH.val (v_load1 rfl rfl one_40 (fun w hS => (hS.row (g := g52)).cell (by rw [Nat.zero_add, Nat.mul_one]; exact hgp))) (.none rfl) rfl rfl ?_
  refine WH.val (v_fieldAddr0 rfl rfl fld_60_1) (.none rfl) rfl rfl <| WH.val (v_load1 rfl rfl one_3 (cellAt (v := .int .i64 q.n) rfl)) (.none rfl) rfl rfl <| WH.nil <| ?_
  refine WRH.one (g := 1) 10 (by kernel_rfl) ?_
  refine zK ck_20 rfl ?_
  have hturn : σ.turn = ({ σ with mail := ps'.map PtL.d } : Sys).put q.to_ (downA (σ.at_ q.to_) q.n) := turn_of hqd (by rw [hend]; rfl)
  intro w1 hS
  refine (call2_c w0 w1 gx gy g12 g13 g52 (⟨{ σ with mail := ps'.map PtL.d }, y, some ⟨bm, sAddr om 1 cm 4, none⟩, cm - 1, ps', Em, .row g18 q.cells :: M⟩ : MtS) hs2.at_ hS q.to_ hqo.to_ _ rfl (fun z => downA z q.n) 20 [.int .i64 q.n] (fun g p E0 E1 L' d hp hm hS' => down_any w0 w1 g p _ E0 E1 L' d hp hS' q.n)).mono ?_
  rintro e w' ⟨qe, rfl, hqe, hS'⟩
  refine ⟨_, _, rfl, hS', ?_⟩
  refine WL.nilH (fun w hS => hS.sub (by repeat (first | exact List.Sublist.refl _ | exact List.nil_sublist _ | refine List.Sublist.cons_cons _ ?_ | refine List.Sublist.cons _ ?_ | refine List.sublist_append_of_sublist_right ?_))) ?_
  refine WRH.one (g := 0) 11 (by kernel_rfl) ?_
  refine WL.callV rfl rfl rfl ck_19 (.none rfl) rfl rfl ?_
  intro w1 hS
  refine (send2_c w0 w1 gx gy g12 g13 g52 (12 + k) (by omega) (⟨{ σ with mail := ps'.map PtL.d }, y, some ⟨bm, sAddr om 1 cm 4, none⟩, cm - 1, ps', Em, .row g18 q.cells :: M⟩ : MtS) hs2 qe q.to_ hqo.to_ (downA (σ.at_ q.to_) q.n) hqe (Nat.le_trans (downA_len _ _) (by decide)) (by rw [← hturn]; exact hsok') hS).mono ?_
  rintro e w' ⟨⟨σ3, y3, am3, cm3, ps3, Em3, M3⟩, K3, rfl, e3, hs3, eM, hS'⟩
  dsimp only at e3 eM
  subst eM
  refine ⟨_, _, rfl, hS', ?_⟩
  replace e3 : σ3 = σ.turn := e3.trans hturn.symm
  refine WL.nilH (fun w hS => hS.sub (by repeat (first | exact List.Sublist.refl _ | exact List.nil_sublist _ | refine List.Sublist.cons_cons _ ?_ | refine List.Sublist.cons _ ?_ | refine List.sublist_append_of_sublist_right ?_))) ?_
  refine WRH.done (by kernel_rfl) ?_
  refine eY <| eN <| WC.region <| zM rfl <| ?_
  refine zV (v_add rfl rfl rfl (show _ = ((k + 1 : Nat) : Int) from (w_i64 (by omega) (by omega)).trans (by omega))) rfl ?_
  refine zA rfl <| WL.nil <| ?_
  exact WE.next (k + 1, (⟨σ3, y3, am3, cm3, ps3, Em3, K3 ++ (.row g18 q.cells :: M)⟩ : MtS)) (by have := hlt hlen; dsimp only; omega) ⟨by have := hlt hlen; dsimp only; omega, by dsimp only; rw [e3, hσ]; rfl, hs3⟩ (.cons rfl (.cons rfl (.cons rfl (.cons rfl (.cons rfl (.cons rfl (.cons rfl (.cons rfl (.cons rfl .nil))))))))) (.refl _)
  refine zM rfl ?_
  iterate 2 refine WL.sk rfl ?_
  refine zQ rfl <| zN <| cF rfl <| cX <| eX <| eX <| eH <| eN <| cR <| ?_
  obtain rfl : k = N := hge (by omega)
  rw [← hσ] at n3
  obtain ⟨m1, m2, m3, m4, m5, m6⟩ := n3
  have hps : ps = [] := List.map_eq_nil_iff.1 (hs1.data.trans m1)
  obtain ⟨px1, X0, X1, dx1, py1, Y0, Y1, dy1⟩ := y
  have hx1 := hs1.at_.x
  have hy1 := hs1.at_.y
  dsimp only at hx1 hy1
  have tx := theirP_of hx1
  have ty := theirP_of hy1
  refine WL.to (L' := .row g12 [.slice am ps.length cm] :: .row g13 [.int .i64 2] :: .row gx px1.cells :: [.row gy py1.cells]) (fun w hS => by
    unfold Sy.L at hS
    rw [m2] at hS
    exact hS.dropK (Em ++ (X0 ++ (X1 ++ dx1.L px1.gC σ.x.now (Y0 ++ (Y1 ++ dy1.L py1.gC σ.y.now (.row g52 (twoL gx gy) :: M))))))) ?_
  refine zV (v_load1 rfl rfl one_58 (cellAt (v := .slice am ps.length cm) rfl)) rfl <| zV (v_len_slice rfl rfl Tryz.underlying58) rfl <| ?_
  refine zV ((v_eql rfl rfl rfl).t ((by rw [hps]; rfl))) rfl ?_
  refine zM rfl <| zS (v_move rfl rfl) rfl <| WL.call rfl rfl ck_18 (.some rfl rfl rfl) rfl rfl <| ?_
  intro w hS
  refine Calls.then (state_c w gx px1 (hS.row (g := gx))) hS ?_
  refine zS ((v_eql rfl rfl rfl).t ((by rw [most_lv hx1]; exact m3))) rfl ?_
  refine zP rfl <| zM rfl <| zS (v_move rfl rfl) rfl <| WL.call rfl rfl ck_18 (.some rfl rfl rfl) rfl rfl <| ?_
  intro w hS
  refine Calls.then (state_c w gy py1 (hS.row (g := gy))) hS ?_
  refine zS ((v_eql rfl rfl rfl).t ((by rw [most_lv hy1]; exact m4))) rfl ?_
  refine zP rfl <| zM rfl <| zS (v_move rfl rfl) rfl <| WL.call rfl rfl ck_21 (.some rfl rfl rfl) rfl rfl <| ?_
  intro w hS
  refine Calls.then (their_c w gx px1 (hS.row (g := gx))) hS ?_
  refine zS (v_move rfl rfl) rfl ?_
  refine zS ((v_eql rfl rfl rfl).t ((by rw [tx]; exact m5))) rfl ?_
  refine zP rfl <| zM rfl <| zS (v_move rfl rfl) rfl <| WL.call rfl rfl ck_21 (.some rfl rfl rfl) rfl rfl <| ?_
  intro w hS
  refine Calls.then (their_c w gy py1 (hS.row (g := gy))) hS ?_
  refine zS (v_move rfl rfl) rfl ?_
  refine zS ((v_eql rfl rfl rfl).t ((by rw [ty]; exact m6))) rfl ?_
  refine zP rfl <| zM rfl <| zS (v_load1 rfl rfl one_3 (cellAt (v := .int .i64 2) rfl)) rfl <| ?_
  refine zS ((v_eql rfl rfl rfl).t ((by decide))) rfl ?_
  refine zP rfl <| zA rfl <| zN <| cE <| tR Tryz.results4 rfl <| ?_
  exact fun w' h => ⟨rfl, h.frm⟩

end Go.Proofs.YtcmpamnhegndnaaGreatDoor
