/- Texts joined: engine, contracts and laws, in the order in which they build. -/
import Derived.ProofKit
import Derived.Test.YtkeonnnhogaggaaGreatDoorBdStageNone
/- stage: compile. -/
namespace Go.Proofs.YtkeonnnhogaggaaGreatDoor
open Go.RowKit

/-- A tree whose rules may be made. -/
def Lt (t : Nd) : Prop := (walkT t 1 false 0).1 = 0 → (weighT t).2 ≤ 64 → (weighT t).1 ≤ 4096 → (weighT t).1 ≤ 300
theorem code_walk {t : Nd} (h : codeC t = 0) : (walkT t 1 false 0).1 = 0 := Decidable.byContradiction fun k => by
  unfold codeC at h
  rw [if_pos k] at h
  exact k h
theorem size_of_walk {t : Nd} (h : (walkT t 1 false 0).1 = 0) : sizeN t ≤ 64 := by
  have h1 := walkT_size t 1 false 0 h
  have h2 := walkT_le t 1 false 0 (by omega) h
  omega
structure CmS where
  k : Nat
  us : List Nd
  ad : Option Addr
  c : Nat
  E : List Ent
  M : List Ent
  xa : Option Addr
  xc : Nat
  xs : List Value
  X : List Ent
set_option maxRecDepth 8000 in
set_option maxHeartbeats 4000000 in
theorem compile_c (w : World) (ta : Option Addr) (tc : Nat) (ts : List Nd) (hA : KidsAt w ta 0 ts) (hI : KidsIn ts) (hG : GW w) (hL : ∀ t ∈ ts, Lt t) (hn : ts.length ≤ 1000) :
    Calls Tryz.prog 70 #[.slice ta ts.length tc] w fun e w' => ∃ (ka : Option Addr) (kc : Nat) (us : List Nd) (xa : Option Addr) (xn xc : Nat) (M : List Ent), e = .returned (.tuple #[.slice ka us.length kc, .slice xa xn xc, .int .i64 (errs codeC ts)]) ∧ (errs codeC ts = 0 → us.map er = ts.map er) ∧ (errs codeC ts ≠ 0 → us = []) ∧ (∀ w2, (∀ e ∈ M, e.holds w2) → KidsAt w2 ka 0 us) ∧ KidsIn us ∧ St (fun _ => False) w w' M := by
  generalize hC : errs codeC ts = C
  refine enter Tryz.func70 rfl Tryz.ntmps70 rfl (St.start (fun _ => False) w) ?_
  refine WC.seq <| WC.region <| WL.v (v_assign rfl rfl) rfl <| WL.v (v_assign rfl rfl) rfl <| WL.v (v_assign rfl rfl) rfl <| WL.nt <| WC.seq <| WC.region <| WL.v (v_move rfl rfl) rfl <| WL.v (v_len_slice rfl rfl Tryz.underlying24) rfl <| ?_
  refine WL.makeN (m := 0) (c := ts.length) rfl rfl rfl (by omega) (by omega) (by omega) Tryz.underlying24 by_26 (by omega) (by omega) sz_26 zero_26 rfl (.none rfl) rfl rfl ?_
  intro g13 hg13
  generalize hZ : List.flatten _ = Z
  have hV0 : Vec 5 (some ⟨g13, 0, none⟩) 0 ts.length [] [.row g13 Z] := Vec.row (by rw [Nat.zero_mul]; rfl) (by rw [← hZ]; exact flat_len rfl _) (Nat.zero_le _)
  refine WL.v (v_assign rfl rfl) rfl <| WL.nt <| WC.seq <| WC.region <| WL.v (v_move rfl rfl) rfl <| WL.v (v_len_slice rfl rfl Tryz.underlying24) rfl <| ?_
  refine WL.makeN (m := 0) (c := ts.length) rfl rfl rfl (by omega) (by omega) (by omega) Tryz.underlying89 by_34 (by omega) (by omega) sz_34 zero_34 rfl (.none rfl) rfl rfl ?_
  intro g16 hg16
  generalize hZ2 : List.flatten _ = Z2
  have hX0 : Vec 1 (some ⟨g16, 0, none⟩) 0 ts.length [] [.row g16 Z2] := Vec.row (by rw [Nat.zero_mul]; rfl) (by rw [← hZ2]; exact flat_len rfl _) (Nat.zero_le _)
  refine WL.v (v_assign rfl rfl) rfl <| WL.nt <| WC.seq <| WC.seq <| WC.region <| WL.v (v_move rfl rfl) rfl <| WL.v (v_len_slice rfl rfl Tryz.underlying24) rfl <| WL.v (v_move rfl rfl) rfl <| WL.nt <| WC.block <| ?_
  refine WC.loop (fun x : CmS => [(19, .int .i64 x.k), (18, .int .i64 ts.length), (17, .slice ta ts.length tc), (5, .slice x.ad x.us.length x.c), (6, .slice x.xa x.k x.xc)]) (fun x => x.X ++ (x.E ++ x.M)) (fun x => x.k ≤ ts.length ∧ x.us.map er = (ts.take x.k).map er ∧ (∀ u ∈ x.us, u.In) ∧ errs codeC (ts.drop x.k) = C ∧ Vec 5 x.ad x.us.length x.c (ndsL x.us) x.E ∧ Vec 1 x.xa x.k x.xc x.xs x.X ∧ ∀ w', (∀ e ∈ x.M, e.holds w') → ∀ u ∈ x.us, u.At w') (fun x => ts.length - x.k) ⟨0, [], some ⟨g13, 0, none⟩, ts.length, [.row g13 Z], [], some ⟨g16, 0, none⟩, ts.length, [], [.row g16 Z2]⟩ ⟨Nat.zero_le _, rfl, fun u h => (by cases h), by dsimp only; rw [List.drop_zero]; exact hC, hV0, hX0, fun w' _ u h => (by cases h)⟩ (.cons rfl (.cons rfl (.cons rfl (.cons rfl (.cons rfl .nil))))) (.refl _) ?_
  rintro ⟨k, us, ad, c, E, M, xa, xc, xs, X⟩ ⟨hk, hmap, hIn, hc, hV, hX, hAt⟩
  dsimp only at hk hmap hIn hc hV hX hAt
  dsimp only
  refine WC.seq <| WC.region <| ?_
  refine WL.test (v_lss rfl rfl rfl) (.none rfl) rfl rfl (fun h20 => ?_) (fun h20 => ?_)
  ·
   refine WL.nt <| WC.seq <| WC.cond_t rfl <| WC.skip <| WE.then_n <| WC.seq <| WC.block <| WC.seq <| WC.region <| ?_
   obtain ⟨t, ht⟩ : ∃ x, ts[k]? = some x := ⟨ts[k]'(by omega), List.getElem?_eq_getElem _⟩
   obtain ⟨⟨b, o, ea, _⟩, htA⟩ := hA.get ts 0 k t ht
   have htI := hI.get ts k t ht
   rw [drop_cons ht] at hc
   have hul : us.length = k := (by have := congrArg List.length hmap; rw [List.length_map, List.length_map, List.length_take] at this; omega)
   have hc : (if codeC t ≠ 0 then codeC t else errs codeC (ts.drop (k + 1))) = C := hc
   refine WL.v (v_indexAddr (b := b) (off := o) (lo := k) rfl (by show some (Value.slice ta _ _) = _; rw [ea]) rfl Tryz.underlying24 sz_26 rfl (by omega)) rfl ?_
   refine WL.v (v_loadN (cs := ndL t) rfl rfl many_26 rfl (rangeIn (fun h => h) (hA.kidAt ht ea))) rfl <| WL.alloc rfl zero_26 (.none rfl) rfl rfl <| ?_
   intro g8 hg8
   refine WL.storeW rfl rfl rfl rfl many_26 rfl rfl (.none rfl) rfl <| WL.as (L' := .row g8 (ndL t) :: (X ++ (E ++ M))) rfl <| WL.nt <| WC.seq <| WC.region <| WL.v (v_loadN rfl rfl many_26 rfl allAt) rfl <| WL.call rfl rfl ck_15 (.none rfl) rfl rfl <| ?_
   intro w1 hS
   refine (Compile_c w1 t htI (htA.st (fun _ h => h) hS) (hG.keep (fun h => h) hS) (hL t (List.mem_of_getElem? ht))).mono ?_
   rintro e w' ⟨rad, rc, RE, RK, ls, rfl, hd, hVr, hKr, hFr, hlr, hS'⟩
   refine ⟨_, _, rfl, hS.join hS', ?_⟩
   refine WL.v (v_move rfl rfl) rfl <| WL.v (v_extract rfl rfl rfl) rfl <| WL.v (v_extract rfl rfl rfl) rfl <| WL.v (v_assign rfl rfl) rfl <| WL.v (v_assign rfl rfl) rfl <| WL.nt <| WC.seq <| WC.seq <| WC.region <| WL.v (v_move rfl rfl) rfl <| ?_
   refine WL.test (v_neq rfl rfl rfl) (.none rfl) rfl rfl (fun h29 => ?_) (fun h29 => ?_)
   ·
    refine WL.nt <| WC.cond_t rfl <| WC.seq <| WC.region <| WL.v (v_move rfl rfl) rfl <| WL.v (v_assign rfl rfl) rfl <| WL.v (v_assign rfl rfl) rfl <| WL.v (v_assign rfl rfl) rfl <| WL.nt <| WC.ret <| WE.then_ret <| WE.block_ret <| WE.then_ret <| WE.then_ret <| ?_
    refine WE.block_ret <| WE.then_ret <| WE.ret3 (P := Tryz.prog) (.inl rfl) Tryz.results70 rfl rfl rfl <| ?_
    rw [if_pos h29] at hc
    rw [hc]
    exact fun w' h => ⟨none, 0, [], none, 0, 0, [], rfl, fun k => absurd (hc.trans k) h29, fun _ => rfl, (fun _ _ => by unfold KidsAt; trivial), KidsIn.nil, h.sub (List.nil_sublist _)⟩
   ·
    refine WL.nt <| WC.cond_f rfl <| WC.skip <| WE.then_n <| WC.seq <| WC.region <| ?_
    rw [if_neg h29] at hc
    have h0 := code_walk (Decidable.of_not_not h29)
    have hsz := size_of_walk h0
    refine WL.v (v_move rfl rfl) rfl <| WL.v (v_loadN rfl rfl many_26 rfl allAt) rfl <| WL.call rfl rfl ck_117 (.none rfl) rfl rfl <| ?_
    intro w1 hS
    refine (Clone_c _ t (Nat.le_refl _) w1 htI (htA.st (fun _ h => h) hS) (by omega)).mono ?_
    rintro e w' ⟨u, UE, UM, rfl, heru, hOwn, hS'⟩
    refine ⟨_, _, rfl, hS.join hS', ?_⟩
    refine WL.buildSlice rfl rfl Tryz.underlying24 sz_26 zero_26 rfl (by decide) (by show some (splice (List.replicate 1 _).flatten 0 (ndL u)) = some (ndL u); exact congrArg some (splice_all rfl)) (.none rfl) rfl rfl ?_
    intro g34 hg34
    refine WL.to (L' := E ++ (.row g34 (ndL u) :: (X ++ ((UE ++ UM) ++ M)))) (fun w hS => hS.dropX ((RE ++ RK) ++ [.row g8 (ndL t)])) ?_
    refine WL.appendL rfl rfl rfl Tryz.underlying24 Tryz.underlying24 sz_26 by_26 zero_26 rfl rfl hV (new := ndL u) (fun _ => ⟨g34, 0, rfl, fun w hS => allAt (g := g34) w hS⟩) rfl rfl (by omega) (.none rfl) rfl rfl ?_
    intro ad35 c35 E35 hV35 hr35
    refine WL.v (v_assign rfl rfl) rfl <| WL.nt <| WC.region <| WL.v (v_move rfl rfl) rfl <| WL.v (v_move rfl rfl) rfl <| ?_
    refine WL.buildSlice rfl rfl Tryz.underlying89 sz_34 zero_34 rfl (by decide) (by show some (splice (List.replicate 1 _).flatten 0 [Value.slice rad ls.length rc]) = some [Value.slice rad ls.length rc]; exact congrArg some (splice_all rfl)) (.none rfl) rfl rfl ?_
    intro g38 hg38
    refine WL.to (L' := X ++ (.row g38 [Value.slice rad ls.length rc] :: (E35 ++ ((UE ++ UM) ++ M)))) (fun w hS => hS.dropX [.row g34 (ndL u)]) ?_
    refine WL.appendL rfl rfl rfl Tryz.underlying89 Tryz.underlying89 sz_34 by_34 zero_34 rfl rfl hX (new := [Value.slice rad ls.length rc]) (fun _ => ⟨g38, 0, rfl, fun w hS => allAt (g := g38) w hS⟩) rfl rfl (by omega) (.none rfl) rfl rfl ?_
    intro ad39 c39 E39 hV39 hr39
    refine WL.v (v_assign rfl rfl) rfl <| WL.nil <| WE.block_n <| WE.then_n <| WC.region <| ?_
    refine WL.v (v_add rfl rfl rfl (w_i64 (by omega) (by omega))) rfl ?_
    refine WL.v (v_move rfl rfl) rfl <| WL.nil <| WE.to (L' := E39 ++ (E35 ++ ((UE ++ UM) ++ M))) (fun w hS => hS.dropX [.row g38 [Value.slice rad ls.length rc]]) <| ?_
    refine WE.next ⟨k + 1, us ++ [u], ad35, c35, E35, (UE ++ UM) ++ M, ad39, c39, xs ++ [Value.slice rad ls.length rc], E39⟩ (by dsimp only; omega) ⟨by dsimp only; omega, map_snoc hmap ht heru, fun x hx => ?_, hc, by dsimp only; rw [← ndsL_snoc, List.length_append]; exact hV35, hV39, fun w' hw x hx => ?_⟩ (.int rfl (by dsimp only; omega) (.cons rfl (.cons rfl (.eq rfl (by dsimp only; rw [List.length_append]; rfl) (.cons rfl .nil))))) (.refl _)
    · rcases List.mem_append.1 hx with hx | hx
      · exact hIn x hx
      · rw [List.mem_singleton.1 hx]; exact hOwn.isIn
    · rcases List.mem_append.1 hx with hx | hx
      · exact hAt w' (fun e he => hw e (List.mem_append_right _ he)) x hx
      · rw [List.mem_singleton.1 hx]; exact hOwn.at_ w' (fun e he => hw e (List.mem_append_left _ he))
  ·
   refine WL.nt <| WC.seq <| WC.cond_f rfl <| WC.exit <| WE.then_exit <| WE.then_exit <| WE.block_hit <| WE.then_n <| WC.seq <| WC.region <| WL.v (v_move rfl rfl) rfl <| WL.v (v_move rfl rfl) rfl <| WL.v (v_assign rfl rfl) rfl <| WL.v (v_assign rfl rfl) rfl <| ?_
   refine WL.v (v_assign rfl rfl) rfl <| WL.nt <| WC.ret <| WE.ret3 (P := Tryz.prog) (.inl rfl) Tryz.results70 rfl rfl rfl <| ?_
   obtain rfl : k = ts.length := (by omega)
   rw [List.drop_length] at hc
   have hc : (0 : Int) = C := hc
   rw [List.take_length] at hmap
   rw [← hc]
   exact fun w' h => ⟨ad, c, us, xa, ts.length, xc, X ++ (E ++ M), rfl, fun _ => hmap, fun k => absurd rfl k, fun w2 hw => Vec.kidsAt hV (fun e he => hw e (by simp [he])) (hAt w2 fun e he => hw e (by simp [he])), KidsIn.of' hIn, h⟩
end Go.Proofs.YtkeonnnhogaggaaGreatDoor
/- stage.Make. -/
namespace Go.Proofs.YtkeonnnhogaggaaGreatDoor
open Go.RowKit

theorem CloneMac_c (w : World) (ad : Option Addr) (c : Nat) (xs : List (Nat → Int)) (hr : Rg w ad (macsL xs)) (hn : xs.length ≤ 100000) :
    Calls Tryz.prog 69 #[.slice ad xs.length c] w fun e w' => ∃ ad' c' E, e = .returned (.slice ad' xs.length c') ∧ Vec 6 ad' xs.length c' (macsL xs) E ∧ St (fun _ => False) w w' E := by
  cases ad with
  | none =>
    obtain rfl : xs = [] := Classical.byContradiction fun h => by
      obtain ⟨b, o, e, _⟩ := hr (fun hn => h (List.length_eq_zero_iff.1 (by have := macsL_len xs; rw [hn] at this; simp at this; omega)))
      cases e
    refine enter Tryz.func69 rfl Tryz.ntmps69 rfl (St.start (fun _ => False) w) ?_
    refine WC.seq <| WC.region <| WL.v (v_assign rfl rfl) rfl <| WL.nt <| WC.seq <| WC.seq <| WC.region <| WL.v (v_move rfl rfl) rfl <| WL.v (v_eql_nil true rfl rfl Tryz.underlying88 rfl) rfl <| WL.nt <| WC.cond_t rfl <| WC.seq <| WC.region <| WL.v (v_assign rfl rfl) rfl <| ?_
    refine WL.nt <| WC.ret <| WE.then_ret <| WE.ret1 (P := Tryz.prog) (.inl rfl) Tryz.results69 rfl <| ?_
    exact fun w' h => ⟨none, 0, [], rfl, Vec.nil 6, h⟩
  | some a =>
    have hl := macsL_len xs
    refine enter Tryz.func69 rfl Tryz.ntmps69 rfl (St.start (fun _ => False) w) ?_
    refine WC.seq <| WC.region <| WL.v (v_assign rfl rfl) rfl <| WL.nt <| WC.seq <| WC.seq <| WC.region <| WL.v (v_move rfl rfl) rfl <| WL.v (v_eql_nil false rfl rfl Tryz.underlying88 rfl) rfl <| WL.nt <| WC.cond_f rfl <| WC.skip <| WE.then_n <| WC.seq <| ?_
    refine WC.region ?_
    refine WL.buildSlice rfl rfl Tryz.underlying88 sz_55 zero_55 rfl (by decide) rfl (.none rfl) rfl rfl ?_
    intro g5 hg5
    refine WL.v (v_move rfl rfl) rfl ?_
    refine WL.appendL rfl rfl rfl Tryz.underlying88 Tryz.underlying88 sz_55 by_55 zero_55 rfl rfl (E := [.row g5 []]) (Vec.row (k := 0) (s := 6) (c := 0) rfl rfl (by omega)) (new := macsL xs) (fun h => by obtain ⟨b', o', e', hr'⟩ := hr (fun hn => by rw [hn] at hl; simp at hl; omega); exact ⟨b', o', e', rgIn (fun h => h) hr'⟩) hl (encL_one mcL_one xs) (by omega) (.none rfl) rfl rfl ?_
    intro ad7 c7 E7 hV7 hr7
    refine WL.v (v_assign rfl rfl) rfl <| WL.nt <| WC.ret <| WE.ret1 (P := Tryz.prog) (.inl rfl) Tryz.results69 rfl <| ?_
    exact fun w' h => ⟨ad7, c7, E7, by rw [Nat.zero_add], by simpa using hV7, h.sub (List.sublist_append_left _ _)⟩
theorem WL.rowTo {P : Program} {ops : Array Oper} {Q : Exit → Act → World → Prop} {n : Nat} {p : Nat → Prop} {w0 : World} {rest : List Oper} {l : Kn} {L L' : List Ent} {g : Nat} {cs cs' : List Value} [ha : At L g cs] [hp : Put L g (.row g cs') L'] (e : cs = cs')
    (h : WL P ops Q n p w0 rest l L') : WL P ops Q n p w0 rest l L := fun a w hA hS => h a w hA (by
  have hm := ha.mem
  rw [e] at hm
  obtain ⟨A, B, e', h1, h2, h3⟩ := hp.ok rfl
  rw [h2]
  have hd : (A ++ Ent.row g cs' :: B).map Ent.at = L.map Ent.at := by
    rw [h1, List.map_append, List.map_append, List.map_cons, List.map_cons, h3]
    rfl
  have hin : ∀ x ∈ A ++ Ent.row g cs' :: B, x ∈ L := fun x hx => by
    rcases List.mem_append.1 hx with hx | hx
    · rw [h1]; exact List.mem_append_left _ hx
    · rcases List.mem_cons.1 hx with rfl | hx
      · exact hm
      · rw [h1]; exact List.mem_append_right _ (List.mem_cons_of_mem _ hx)
  exact ⟨hS.frm, fun x hx => hS.holds x (hin x hx), by rw [hd]; exact hS.dist, fun x hx => hS.mine x (hin x hx)⟩)
set_option maxHeartbeats 8000000 in
def makeF (p : PlN) : Prop := p.macs.length = 0 ∨ 16 < p.macs.length ∨ p.outs.length ≠ p.macs.length ∨ p.ins.length ≠ p.macs.length
instance (p : PlN) : Decidable (makeF p) := by unfold makeF; infer_instance
def makeE (p : PlN) : Int := if makeF p then 1 else if errs codeC p.outs ≠ 0 then errs codeC p.outs else errs codeC p.ins
def plZ : PlN := ⟨none, 0, [], none, 0, [], none, 0, [], none, 0, 0, none, 0, 0, none, 0, 0⟩
theorem plZ_at (w : World) : plZ.At w := ⟨by unfold KidsAt; trivial, by unfold KidsAt; trivial, fun h => absurd rfl h⟩
theorem plZ_in : plZ.In := ⟨KidsIn.nil, KidsIn.nil, fun f h => (by cases h), by decide⟩
structure MkS where
  za : Option Addr
  zc : Nat
  Z : List Ent
  ma : Option Addr
  mc : Nat
  E : List Ent
  g : Nat
set_option maxRecDepth 8000 in
set_option maxHeartbeats 4000000 in
theorem Make_c (w : World) (p : PlN) (hA : p.At w) (hI : p.In) (hG : GW w) (h1 : ∀ t ∈ p.outs, Lt t) (h2 : ∀ t ∈ p.ins, Lt t) :
    Calls Tryz.prog 32 #[.agg p.cells.toArray] w fun e w' => ∃ (q : PlN) (M : List Ent), e = .returned (.tuple #[.agg q.cells.toArray, .int .i64 (makeE p)]) ∧ (makeE p = 0 → q.outs.map er = p.outs.map er ∧ q.ins.map er = p.ins.map er ∧ q.macs = p.macs) ∧ (makeE p ≠ 0 → q.macs = []) ∧ (∀ w2, (∀ e ∈ M, e.holds w2) → q.At w2) ∧ q.In ∧ St (fun _ => False) w w' M := by
  obtain ⟨f1, f2, f3⟩ := hI.few
  refine enter Tryz.func32 rfl Tryz.ntmps32 rfl (St.start (fun _ => False) w) ?_
  refine WC.seq <| WC.region <| WL.box rfl rfl rfl (.none rfl) rfl rfl <| ?_
  intro g1 hg1
  refine WL.alloc rfl zero_91 (.none rfl) rfl rfl ?_
  intro g2 hg2
  refine WL.v (v_assign rfl rfl) rfl <| WL.nt <| WC.seq <| WC.region <| WL.v (v_fieldAddr0 rfl rfl fld_91_2) rfl <| WL.v (v_load1 rfl rfl one_88 (cellAt (v := .slice p.ma p.macs.length p.mc) rfl)) rfl <| WL.v (v_len_slice rfl rfl Tryz.underlying88) rfl <| WL.v (v_assign rfl rfl) rfl <| WL.nt <| ?_
  refine WC.cut (fun _ : Unit => [(1, .pointer (some ⟨g1, 0, none⟩)), (2, .pointer (some ⟨g2, 0, none⟩))]) (fun _ => [.row g2 plZ.cells, .row g1 p.cells]) (fun _ => ¬ makeF p) ?_ ?_
  ·
   refine WC.seq <| WC.region <| WL.v (v_move rfl rfl) rfl <| ?_
   refine WL.test (v_eql rfl rfl rfl) (.none rfl) rfl rfl (fun h11 => ?_) (fun h11 => ?_)
   ·
    refine WL.v (v_move rfl rfl) rfl ?_
    iterate 2 refine WL.sk rfl ?_
    refine WL.v (v_pick_t rfl rfl rfl) rfl <| WL.v (v_move rfl rfl) rfl <| ?_
    iterate 5 refine WL.sk rfl ?_
    refine WL.v (v_pick_t rfl rfl rfl) rfl <| WL.v (v_move rfl rfl) rfl <| ?_
    iterate 5 refine WL.sk rfl ?_
    refine WL.v (v_pick_t rfl rfl rfl) rfl <| WL.nt <| WC.cond_t rfl <| WC.seq <| WC.region <| WL.v (v_build rfl rfl zero_91 plc_91 rfl) rfl <| WL.storeW rfl rfl rfl rfl many_91 rfl rfl (.none rfl) rfl <| WL.v (v_assign rfl rfl) rfl <| WL.nt <| WC.ret <| WE.then_ret <| WE.ret2 (P := Tryz.prog) (.inl rfl) Tryz.results32 (resRow rfl many_91 rfl) rfl <| ?_
    have e : makeE p = 1 := (by unfold makeE; exact if_pos (by unfold makeF; omega))
    rw [e]
    exact fun w' h => ⟨plZ, _, rfl, fun k => (by cases k), fun _ => rfl, fun w2 _ => plZ_at w2, plZ_in, h⟩
   ·
    refine WL.v (v_move rfl rfl) rfl <| WL.val (v_move rfl rfl) (.some rfl rfl rfl) rfl rfl <| ?_
    refine WL.test (v_gtr rfl rfl rfl) (.some rfl rfl rfl) rfl rfl (fun h14 => ?_) (fun h14 => ?_)
    ·
     refine WL.v (v_pick_f rfl rfl rfl) rfl <| WL.v (v_move rfl rfl) rfl <| ?_
     iterate 5 refine WL.sk rfl ?_
     refine WL.v (v_pick_t rfl rfl rfl) rfl <| WL.v (v_move rfl rfl) rfl <| ?_
     iterate 5 refine WL.sk rfl ?_
     refine WL.v (v_pick_t rfl rfl rfl) rfl <| WL.nt <| WC.cond_t rfl <| WC.seq <| WC.region <| WL.v (v_build rfl rfl zero_91 plc_91 rfl) rfl <| WL.storeW rfl rfl rfl rfl many_91 rfl rfl (.none rfl) rfl <| WL.v (v_assign rfl rfl) rfl <| WL.nt <| WC.ret <| WE.then_ret <| WE.ret2 (P := Tryz.prog) (.inl rfl) Tryz.results32 (resRow rfl many_91 rfl) rfl <| ?_
     have e : makeE p = 1 := (by unfold makeE; exact if_pos (by unfold makeF; omega))
     rw [e]
     exact fun w' h => ⟨plZ, _, rfl, fun k => (by cases k), fun _ => rfl, fun w2 _ => plZ_at w2, plZ_in, h⟩
    ·
     refine WL.v (v_pick_f rfl rfl rfl) rfl <| WL.v (v_move rfl rfl) rfl <| WL.val (v_fieldAddr0 rfl rfl fld_91_0) (.some rfl rfl rfl) rfl rfl <| WL.val (v_load1 rfl rfl one_24 (cellAt (v := .slice p.oa p.outs.length p.oc) rfl)) (.some rfl rfl rfl) rfl rfl <| WL.val (v_len_slice rfl rfl Tryz.underlying24) (.some rfl rfl rfl) rfl rfl <| WL.val (v_move rfl rfl) (.some rfl rfl rfl) rfl rfl <| ?_
     refine WL.test (v_neq rfl rfl rfl) (.some rfl rfl rfl) rfl rfl (fun h21 => ?_) (fun h21 => ?_)
     ·
      refine WL.v (v_pick_f rfl rfl rfl) rfl <| WL.v (v_move rfl rfl) rfl <| ?_
      iterate 5 refine WL.sk rfl ?_
      refine WL.v (v_pick_t rfl rfl rfl) rfl <| WL.nt <| WC.cond_t rfl <| WC.seq <| WC.region <| WL.v (v_build rfl rfl zero_91 plc_91 rfl) rfl <| WL.storeW rfl rfl rfl rfl many_91 rfl rfl (.none rfl) rfl <| WL.v (v_assign rfl rfl) rfl <| WL.nt <| WC.ret <| WE.then_ret <| WE.ret2 (P := Tryz.prog) (.inl rfl) Tryz.results32 (resRow rfl many_91 rfl) rfl <| ?_
      have e : makeE p = 1 := (by unfold makeE; exact if_pos (by unfold makeF; omega))
      rw [e]
      exact fun w' h => ⟨plZ, _, rfl, fun k => (by cases k), fun _ => rfl, fun w2 _ => plZ_at w2, plZ_in, h⟩
     ·
      refine WL.v (v_pick_f rfl rfl rfl) rfl <| WL.v (v_move rfl rfl) rfl <| WL.val (v_fieldAddr0 rfl rfl fld_91_1) (.some rfl rfl rfl) rfl rfl <| WL.val (v_load1 rfl rfl one_24 (cellAt (v := .slice p.ia p.ins.length p.ic) rfl)) (.some rfl rfl rfl) rfl rfl <| WL.val (v_len_slice rfl rfl Tryz.underlying24) (.some rfl rfl rfl) rfl rfl <| WL.val (v_move rfl rfl) (.some rfl rfl rfl) rfl rfl <| ?_
      refine WL.test (v_neq rfl rfl rfl) (.some rfl rfl rfl) rfl rfl (fun h28 => ?_) (fun h28 => ?_)
      ·
       refine WL.v (v_pick_f rfl rfl rfl) rfl <| WL.nt <| WC.cond_t rfl <| WC.seq <| WC.region <| WL.v (v_build rfl rfl zero_91 plc_91 rfl) rfl <| WL.storeW rfl rfl rfl rfl many_91 rfl rfl (.none rfl) rfl <| WL.v (v_assign rfl rfl) rfl <| WL.nt <| WC.ret <| WE.then_ret <| WE.ret2 (P := Tryz.prog) (.inl rfl) Tryz.results32 (resRow rfl many_91 rfl) rfl <| ?_
       have e : makeE p = 1 := (by unfold makeE; exact if_pos (by unfold makeF; omega))
       rw [e]
       exact fun w' h => ⟨plZ, _, rfl, fun k => (by cases k), fun _ => rfl, fun w2 _ => plZ_at w2, plZ_in, h⟩
      ·
       refine WL.v (v_pick_f rfl rfl rfl) rfl <| WL.nt <| WC.cond_f rfl <| WC.skip <| ?_
       exact WE.mid () (by unfold makeF; omega) (.cons rfl (.cons rfl .nil)) (.refl _)
  ·
   intro _ hmf
   refine WC.cut (fun x : MkS => [(5, .pointer (some ⟨x.g, 0, none⟩)), (1, .pointer (some ⟨g1, 0, none⟩)), (2, .pointer (some ⟨g2, 0, none⟩))]) (fun x => .row x.g [.slice none 0 0, .slice none 0 0, .slice x.ma p.macs.length x.mc, .slice none 0 0, .slice none 0 0, .slice x.za p.macs.length x.zc] :: (x.E ++ (x.Z ++ [.row g2 plZ.cells, .row g1 p.cells]))) (fun x => Vec 6 x.ma p.macs.length x.mc (macsL p.macs) x.E) ?_ ?_
   ·
    refine WC.held ([.row g1 p.cells]) mixed ?_
    refine WRH.first (g := 5) [0, 1, 3, 4] (by kernel_rfl) (by kernel_rfl) (fun w hS => hS.sub (by repeat (first | exact List.Sublist.refl _ | exact List.nil_sublist _ | refine List.Sublist.cons_cons _ ?_ | refine List.Sublist.cons _ ?_ | refine List.sublist_append_of_sublist_right ?_))) ?_
    refine WH.val (v_fieldAddr0 rfl rfl fld_91_2) (.none rfl) rfl rfl <| WH.val (v_load1 rfl rfl one_88 (cellAt (v := .slice p.ma p.macs.length p.mc) rfl)) (.none rfl) rfl rfl <| WH.val (v_fieldAddr0 rfl rfl fld_91_2) (.none rfl) rfl rfl <| WH.val (v_load1 rfl rfl one_88 (cellAt (v := .slice p.ma p.macs.length p.mc) rfl)) (.none rfl) rfl rfl <| WH.nil <| ?_
    refine WRH.each (g := 4) [2, 7] (by kernel_rfl) (by decide) ?_
    refine ⟨?_, ?_⟩
    ·
     refine WL.call rfl rfl ck_69 (.none rfl) rfl rfl ?_
     intro w1 hS
     refine (CloneMac_c w1 p.ma p.mc p.macs (hA.macs.frm hS.frm (fun _ _ _ h => h)) (by omega)).mono ?_
     rintro e w' ⟨ma, mc, Em, rfl, hVm, hS'⟩
     refine ⟨_, _, rfl, hS.join hS', ?_⟩
     refine WL.nilH (fun w hS => hS.sub (by repeat (first | exact List.Sublist.refl _ | exact List.nil_sublist _ | refine List.Sublist.cons_cons _ ?_ | refine List.Sublist.cons _ ?_ | refine List.sublist_append_of_sublist_right ?_))) ?_
     refine WRH.each (g := 3) [5, 7] (by kernel_rfl) (by decide) ?_
     refine ⟨?_, ?_⟩
     ·
      refine WL.call rfl rfl ck_69 (.none rfl) rfl rfl ?_
      intro w1 hS
      refine (CloneMac_c w1 p.ma p.mc p.macs (hA.macs.frm hS.frm (fun _ _ _ h => h)) (by omega)).mono ?_
      rintro e w' ⟨za, zc, Ez, rfl, hVz, hS'⟩
      refine ⟨_, _, rfl, hS.join hS', ?_⟩
      refine WL.nilH (fun w hS => hS.sub (by repeat (first | exact List.Sublist.refl _ | exact List.nil_sublist _ | refine List.Sublist.cons_cons _ ?_ | refine List.Sublist.cons _ ?_ | refine List.sublist_append_of_sublist_right ?_))) ?_
      refine WRH.first (g := 2) [6] (by kernel_rfl) (by kernel_rfl) (fun w hS => hS.sub (by repeat (first | exact List.Sublist.refl _ | exact List.nil_sublist _ | refine List.Sublist.cons_cons _ ?_ | refine List.Sublist.cons _ ?_ | refine List.sublist_append_of_sublist_right ?_))) ?_
      refine WH.val (v_build rfl rfl zero_91 plc_91 rfl) (.none rfl) rfl rfl <| WH.nil <| ?_
      refine WRH.one (g := 1) 7 (by kernel_rfl) ?_
      refine WL.alloc rfl zero_91 (.none rfl) rfl rfl ?_
      intro g5 hg5
      refine WL.nilH (fun w hS => hS.sub (by repeat (first | exact List.Sublist.refl _ | exact List.nil_sublist _ | refine List.Sublist.cons_cons _ ?_ | refine List.Sublist.cons _ ?_ | refine List.sublist_append_of_sublist_right ?_))) ?_
      refine WRH.one (g := 0) 8 (by kernel_rfl) ?_
      refine WL.storeW rfl rfl rfl rfl many_91 rfl rfl (.none rfl) rfl <| WL.rowTo (g := g5) (cs' := [.slice none 0 0, .slice none 0 0, .slice ma p.macs.length mc, .slice none 0 0, .slice none 0 0, .slice za p.macs.length zc]) rfl <| ?_
      refine WL.nilH (fun w hS => hS.sub (by repeat (first | exact List.Sublist.refl _ | exact List.nil_sublist _ | refine List.Sublist.cons_cons _ ?_ | refine List.Sublist.cons _ ?_ | refine List.sublist_append_of_sublist_right ?_))) ?_
      refine WRH.done (by kernel_rfl) ?_
      exact WE.to (L' := .row g5 [.slice none 0 0, .slice none 0 0, .slice ma p.macs.length mc, .slice none 0 0, .slice none 0 0, .slice za p.macs.length zc] :: (Em ++ (Ez ++ [.row g2 plZ.cells, .row g1 p.cells]))) (fun w hS => hS.permX) (WE.mid ⟨za, zc, Ez, ma, mc, Em, g5⟩ hVm (.cons rfl (.cons rfl (.cons rfl .nil))) (.refl _))
     ·
      refine WL.alloc rfl zero_91 (.none rfl) rfl rfl ?_
      intro g5 hg5
      refine WL.nilH (fun w hS => hS.sub (by repeat (first | exact List.Sublist.refl _ | exact List.nil_sublist _ | refine List.Sublist.cons_cons _ ?_ | refine List.Sublist.cons _ ?_ | refine List.sublist_append_of_sublist_right ?_))) ?_
      refine WRH.one (g := 2) 5 (by kernel_rfl) ?_
      refine WL.call rfl rfl ck_69 (.none rfl) rfl rfl ?_
      intro w1 hS
      refine (CloneMac_c w1 p.ma p.mc p.macs (hA.macs.frm hS.frm (fun _ _ _ h => h)) (by omega)).mono ?_
      rintro e w' ⟨za, zc, Ez, rfl, hVz, hS'⟩
      refine ⟨_, _, rfl, hS.join hS', ?_⟩
      refine WL.nilH (fun w hS => hS.sub (by repeat (first | exact List.Sublist.refl _ | exact List.nil_sublist _ | refine List.Sublist.cons_cons _ ?_ | refine List.Sublist.cons _ ?_ | refine List.sublist_append_of_sublist_right ?_))) ?_
      refine WRH.first (g := 1) [6] (by kernel_rfl) (by kernel_rfl) (fun w hS => hS.sub (by repeat (first | exact List.Sublist.refl _ | exact List.nil_sublist _ | refine List.Sublist.cons_cons _ ?_ | refine List.Sublist.cons _ ?_ | refine List.sublist_append_of_sublist_right ?_))) ?_
      refine WH.val (v_build rfl rfl zero_91 plc_91 rfl) (.none rfl) rfl rfl <| WH.nil <| ?_
      refine WRH.one (g := 0) 8 (by kernel_rfl) ?_
      refine WL.storeW rfl rfl rfl rfl many_91 rfl rfl (.none rfl) rfl <| WL.rowTo (g := g5) (cs' := [.slice none 0 0, .slice none 0 0, .slice ma p.macs.length mc, .slice none 0 0, .slice none 0 0, .slice za p.macs.length zc]) rfl <| ?_
      refine WL.nilH (fun w hS => hS.sub (by repeat (first | exact List.Sublist.refl _ | exact List.nil_sublist _ | refine List.Sublist.cons_cons _ ?_ | refine List.Sublist.cons _ ?_ | refine List.sublist_append_of_sublist_right ?_))) ?_
      refine WRH.done (by kernel_rfl) ?_
      exact WE.to (L' := .row g5 [.slice none 0 0, .slice none 0 0, .slice ma p.macs.length mc, .slice none 0 0, .slice none 0 0, .slice za p.macs.length zc] :: (Em ++ (Ez ++ [.row g2 plZ.cells, .row g1 p.cells]))) (fun w hS => hS.permX) (WE.mid ⟨za, zc, Ez, ma, mc, Em, g5⟩ hVm (.cons rfl (.cons rfl (.cons rfl .nil))) (.refl _))
    ·
     refine WL.alloc rfl zero_91 (.none rfl) rfl rfl ?_
     intro g5 hg5
     refine WL.nilH (fun w hS => hS.sub (by repeat (first | exact List.Sublist.refl _ | exact List.nil_sublist _ | refine List.Sublist.cons_cons _ ?_ | refine List.Sublist.cons _ ?_ | refine List.sublist_append_of_sublist_right ?_))) ?_
     refine WRH.one (g := 3) 2 (by kernel_rfl) ?_
     refine WL.call rfl rfl ck_69 (.none rfl) rfl rfl ?_
     intro w1 hS
     refine (CloneMac_c w1 p.ma p.mc p.macs (hA.macs.frm hS.frm (fun _ _ _ h => h)) (by omega)).mono ?_
     rintro e w' ⟨ma, mc, Em, rfl, hVm, hS'⟩
     refine ⟨_, _, rfl, hS.join hS', ?_⟩
     refine WL.nilH (fun w hS => hS.sub (by repeat (first | exact List.Sublist.refl _ | exact List.nil_sublist _ | refine List.Sublist.cons_cons _ ?_ | refine List.Sublist.cons _ ?_ | refine List.sublist_append_of_sublist_right ?_))) ?_
     refine WRH.one (g := 2) 5 (by kernel_rfl) ?_
     refine WL.call rfl rfl ck_69 (.none rfl) rfl rfl ?_
     intro w1 hS
     refine (CloneMac_c w1 p.ma p.mc p.macs (hA.macs.frm hS.frm (fun _ _ _ h => h)) (by omega)).mono ?_
     rintro e w' ⟨za, zc, Ez, rfl, hVz, hS'⟩
     refine ⟨_, _, rfl, hS.join hS', ?_⟩
     refine WL.nilH (fun w hS => hS.sub (by repeat (first | exact List.Sublist.refl _ | exact List.nil_sublist _ | refine List.Sublist.cons_cons _ ?_ | refine List.Sublist.cons _ ?_ | refine List.sublist_append_of_sublist_right ?_))) ?_
     refine WRH.first (g := 1) [6] (by kernel_rfl) (by kernel_rfl) (fun w hS => hS.sub (by repeat (first | exact List.Sublist.refl _ | exact List.nil_sublist _ | refine List.Sublist.cons_cons _ ?_ | refine List.Sublist.cons _ ?_ | refine List.sublist_append_of_sublist_right ?_))) ?_
     refine WH.val (v_build rfl rfl zero_91 plc_91 rfl) (.none rfl) rfl rfl <| WH.nil <| ?_
     refine WRH.one (g := 0) 8 (by kernel_rfl) ?_
     refine WL.storeW rfl rfl rfl rfl many_91 rfl rfl (.none rfl) rfl <| WL.rowTo (g := g5) (cs' := [.slice none 0 0, .slice none 0 0, .slice ma p.macs.length mc, .slice none 0 0, .slice none 0 0, .slice za p.macs.length zc]) rfl <| ?_
     refine WL.nilH (fun w hS => hS.sub (by repeat (first | exact List.Sublist.refl _ | exact List.nil_sublist _ | refine List.Sublist.cons_cons _ ?_ | refine List.Sublist.cons _ ?_ | refine List.sublist_append_of_sublist_right ?_))) ?_
     refine WRH.done (by kernel_rfl) ?_
     exact WE.to (L' := .row g5 [.slice none 0 0, .slice none 0 0, .slice ma p.macs.length mc, .slice none 0 0, .slice none 0 0, .slice za p.macs.length zc] :: (Em ++ (Ez ++ [.row g2 plZ.cells, .row g1 p.cells]))) (fun w hS => hS.permX) (WE.mid ⟨za, zc, Ez, ma, mc, Em, g5⟩ hVm (.cons rfl (.cons rfl (.cons rfl .nil))) (.refl _))
   ·
    rintro ⟨za, zc, Z, ma, mc, E, g5⟩ hVm
    dsimp only at hVm
    dsimp only
    refine WC.seq <| WC.region <| WL.v (v_assign rfl rfl) rfl <| WL.nt <| WC.seq <| WC.seq <| WC.region <| WL.v (v_fieldAddr0 rfl rfl fld_91_0) rfl <| WL.v (v_load1 rfl rfl one_24 (cellAt (v := .slice p.oa p.outs.length p.oc) rfl)) rfl <| WL.call rfl rfl ck_70 (.none rfl) rfl rfl <| ?_
    intro w1 hS
    refine (compile_c w1 p.oa p.oc p.outs (hA.outs.frm hS.frm) hI.outs (hG.keep (fun h => h) hS) h1 f1).mono ?_
    rintro e w' ⟨oa, oc, us, xa, xn, xc, M1, rfl, hu0, hu1, huA, huI, hS'⟩
    refine ⟨_, M1 ++ (.row g5 [.slice none 0 0, .slice none 0 0, .slice ma p.macs.length mc, .slice none 0 0, .slice none 0 0, .slice za p.macs.length zc] :: (E ++ (Z ++ [.row g2 plZ.cells, .row g1 p.cells]))), rfl, hS.join hS', ?_⟩
    refine WL.v (v_move rfl rfl) rfl <| WL.v (v_extract rfl rfl rfl) rfl <| WL.v (v_extract rfl rfl rfl) rfl <| WL.v (v_extract rfl rfl rfl) rfl <| WL.v (v_fieldAddr0 rfl rfl fld_91_0) rfl <| WL.store1 rfl rfl rfl rfl one_24 (Nat.le_of_ble_eq_true rfl) (.none rfl) rfl <| WL.v (v_fieldAddr0 rfl rfl fld_91_3) rfl <| WL.store1 rfl rfl rfl rfl one_89 (Nat.le_of_ble_eq_true rfl) (.none rfl) rfl <| WL.v (v_assign rfl rfl) rfl <| WL.nt <| WC.seq <| WC.region <| WL.v (v_move rfl rfl) rfl <| ?_
    refine WL.test (v_neq rfl rfl rfl) (.none rfl) rfl rfl (fun h48 => ?_) (fun h48 => ?_)
    ·
     refine WL.nt <| WC.cond_t rfl <| WC.seq <| WC.region <| WL.v (v_build rfl rfl zero_91 plc_91 rfl) rfl <| WL.v (v_move rfl rfl) rfl <| WL.storeW rfl rfl rfl rfl many_91 rfl rfl (.none rfl) rfl <| WL.v (v_assign rfl rfl) rfl <| WL.nt <| WC.ret <| WE.then_ret <| WE.ret2 (P := Tryz.prog) (.inl rfl) Tryz.results32 (resRow rfl many_91 rfl) rfl <| ?_
     have e : makeE p = errs codeC p.outs := (by unfold makeE; rw [if_neg hmf, if_pos h48])
     rw [e]
     exact fun w' h => ⟨plZ, _, rfl, fun k => absurd k h48, fun _ => rfl, fun w2 _ => plZ_at w2, plZ_in, h⟩
    ·
     refine WL.nt <| WC.cond_f rfl <| WC.skip <| WE.then_n <| WC.seq <| WC.seq <| WC.region <| WL.v (v_fieldAddr0 rfl rfl fld_91_1) rfl <| WL.v (v_load1 rfl rfl one_24 (cellAt (v := .slice p.ia p.ins.length p.ic) rfl)) rfl <| WL.call rfl rfl ck_70 (.none rfl) rfl rfl <| ?_
     intro w1 hS
     refine (compile_c w1 p.ia p.ic p.ins (hA.ins.frm hS.frm) hI.ins (hG.keep (fun h => h) hS) h2 f2).mono ?_
     rintro e w' ⟨ia, ic, vs, ya, yn, yc, M2, rfl, hv0, hv1, hvA, hvI, hS'⟩
     refine ⟨_, M2 ++ (M1 ++ (.row g5 [.slice oa us.length oc, .slice none 0 0, .slice ma p.macs.length mc, .slice xa xn xc, .slice none 0 0, .slice za p.macs.length zc] :: (E ++ (Z ++ [.row g2 plZ.cells, .row g1 p.cells])))), rfl, hS.join hS', ?_⟩
     refine WL.v (v_move rfl rfl) rfl <| WL.v (v_extract rfl rfl rfl) rfl <| WL.v (v_extract rfl rfl rfl) rfl <| WL.v (v_extract rfl rfl rfl) rfl <| WL.v (v_fieldAddr0 rfl rfl fld_91_1) rfl <| WL.store1 rfl rfl rfl rfl one_24 (Nat.le_of_ble_eq_true rfl) (.none rfl) rfl <| WL.v (v_fieldAddr0 rfl rfl fld_91_4) rfl <| WL.store1 rfl rfl rfl rfl one_89 (Nat.le_of_ble_eq_true rfl) (.none rfl) rfl <| WL.v (v_assign rfl rfl) rfl <| WL.nt <| WC.seq <| WC.region <| WL.v (v_move rfl rfl) rfl <| ?_
     refine WL.test (v_neq rfl rfl rfl) (.none rfl) rfl rfl (fun h61 => ?_) (fun h61 => ?_)
     ·
      refine WL.nt <| WC.cond_t rfl <| WC.seq <| WC.region <| WL.v (v_build rfl rfl zero_91 plc_91 rfl) rfl <| WL.v (v_move rfl rfl) rfl <| WL.storeW rfl rfl rfl rfl many_91 rfl rfl (.none rfl) rfl <| WL.v (v_assign rfl rfl) rfl <| WL.nt <| WC.ret <| WE.then_ret <| WE.ret2 (P := Tryz.prog) (.inl rfl) Tryz.results32 (resRow rfl many_91 rfl) rfl <| ?_
      have e : makeE p = errs codeC p.ins := (by unfold makeE; rw [if_neg hmf, if_neg h48])
      rw [e]
      exact fun w' h => ⟨plZ, _, rfl, fun k => absurd k h61, fun _ => rfl, fun w2 _ => plZ_at w2, plZ_in, h⟩
     ·
      refine WL.nt <| WC.cond_f rfl <| WC.skip <| WE.then_n <| WC.seq <| WC.region <| ?_
      have e1 : errs codeC p.outs = 0 := Decidable.of_not_not h48
      have e2 : errs codeC p.ins = 0 := Decidable.of_not_not h61
      have hul : us.length = p.outs.length := (by have := congrArg List.length (hu0 e1); rwa [List.length_map, List.length_map] at this)
      have hvl : vs.length = p.ins.length := (by have := congrArg List.length (hv0 e2); rwa [List.length_map, List.length_map] at this)
      have e : makeE p = 0 := (by unfold makeE; rw [if_neg hmf, if_neg h48]; exact e2)
      rw [e]
      refine WL.v (v_loadN rfl rfl many_91 rfl (segAt (m := 6) rfl)) rfl <| WL.storeW rfl rfl rfl rfl many_91 rfl rfl (.none rfl) rfl <| WL.v (v_assign rfl rfl) rfl <| WL.nt <| WC.ret <| WE.ret2 (P := Tryz.prog) (.inl rfl) Tryz.results32 (resRow rfl many_91 rfl) rfl <| ?_
      exact fun w' h => ⟨⟨oa, oc, us, ia, ic, vs, ma, mc, p.macs, xa, xn, xc, ya, yn, yc, za, p.macs.length, zc⟩, M2 ++ (M1 ++ E), rfl, fun _ => ⟨hu0 e1, hv0 e2, rfl⟩, fun k => absurd rfl k, fun w2 hw => ⟨huA w2 fun e he => hw e (by simp [he]), hvA w2 fun e he => hw e (by simp [he]), hVm.rg fun e he => hw e (by simp [he])⟩, ⟨huI, hvI, hI.macs, by dsimp only; omega⟩, St.dropX (L := M2 ++ (M1 ++ (.row g5 [.slice oa us.length oc, .slice ia vs.length ic, .slice ma p.macs.length mc, .slice xa xn xc, .slice ya yn yc, .slice za p.macs.length zc] :: (E ++ (Z ++ [.row g2 [.slice oa us.length oc, .slice ia vs.length ic, .slice ma p.macs.length mc, .slice xa xn xc, .slice ya yn yc, .slice za p.macs.length zc], .row g1 p.cells]))))) (.row g5 [.slice oa us.length oc, .slice ia vs.length ic, .slice ma p.macs.length mc, .slice xa xn xc, .slice ya yn yc, .slice za p.macs.length zc] :: (Z ++ [.row g2 [.slice oa us.length oc, .slice ia vs.length ic, .slice ma p.macs.length mc, .slice xa xn xc, .slice ya yn yc, .slice za p.macs.length zc], .row g1 p.cells])) h⟩
end Go.Proofs.YtkeonnnhogaggaaGreatDoor
/- stage: has, picks; fec.Key.Can; slices.DeleteFunc of one header at most. -/
namespace Go.Proofs.YtkeonnnhogaggaaGreatDoor
open Go.RowKit

structure Ky3 where
  from_ : Int
  best : Int
  may : Int
def Ky3.cells (k : Ky3) : List Value := [.int .i64 k.from_, .int .i64 k.best, .int .i64 k.may]
def canF (may port : Int) : Prop := 0 ≤ port ∧ port < 16 ∧ may / 2 ^ port.toNat % 2 = 1
instance (may port : Int) : Decidable (canF may port) := by unfold canF; infer_instance
def hasF (p : PlN) (n : Int) : Prop := 0 ≤ n ∧ n < p.macs.length ∧ n < p.outs.length ∧ n < p.ins.length
instance (p : PlN) (n : Int) : Decidable (hasF p n) := by unfold hasF; infer_instance
def picksF (k : Ky3) (port : Int) : Prop := port ≠ k.from_ ∧ canF k.may port
instance (k : Ky3) (port : Int) : Decidable (picksF k port) := by unfold picksF; infer_instance
theorem Can_c (w : World) (k : Ky3) (port : Int) : Calls Tryz.prog 37 #[.agg k.cells.toArray, .int .i64 port] w fun e w' => e = .returned (.bool (decide (canF k.may port))) ∧ Frm (fun _ => False) w w' := by
  refine enter Tryz.func37 rfl Tryz.ntmps37 rfl (St.start (fun _ => False) w) ?_
  refine WC.seq <| WC.region <| WL.box rfl rfl rfl (.none rfl) rfl rfl <| ?_
  intro g2 hg2
  refine WL.v (v_assign rfl rfl) rfl <| WL.nt <| WC.seq <| WC.region <| WL.v (v_move rfl rfl) rfl <| ?_
  refine WL.test (v_geq rfl rfl rfl) (.none rfl) rfl rfl (fun h6 => ?_) (fun h6 => ?_)
  ·
   refine WL.v (v_move rfl rfl) rfl <| WL.val (v_move rfl rfl) (.some rfl rfl rfl) rfl rfl <| ?_
   refine WL.test (v_lss rfl rfl rfl) (.some rfl rfl rfl) rfl rfl (fun h9 => ?_) (fun h9 => ?_)
   ·
    refine WL.v (v_pick_t rfl rfl rfl) rfl <| WL.v (v_move rfl rfl) rfl <| ?_
    obtain ⟨pn, hpn⟩ : ∃ pn : Nat, port = pn := ⟨port.toNat, by omega⟩
    have hp2 : port.toNat = pn := by omega
    refine WL.val (v_fieldAddr0 rfl rfl fld_83_2) (.some rfl rfl rfl) rfl rfl <| WL.val (v_load1 rfl rfl one_3 (cellAt (v := .int .i64 k.may) rfl)) (.some rfl rfl rfl) rfl rfl <| WL.val (v_move rfl rfl) (.some rfl rfl rfl) rfl rfl <| ?_
    refine WL.val (v_shr (m := pn) (c := (2 : Int) ^ pn) rfl rfl rfl hpn (by show pn ≤ 64; omega) rfl) (.some rfl rfl rfl) rfl rfl ?_
    refine WL.val (v_and rfl rfl rfl (mask_i64' (i := 1) (m := 2) (by decide) (by decide) (by decide))) (.some rfl rfl rfl) rfl rfl ?_
    refine WL.test (v_eql rfl rfl rfl) (.some rfl rfl rfl) rfl rfl (fun h17 => ?_) (fun h17 => ?_)
    ·
     refine WL.v (v_pick_t rfl rfl rfl) rfl <| WL.v (v_assign rfl rfl) rfl <| WL.nt <| WC.ret <| WE.ret1 (P := Tryz.prog) (.inl rfl) Tryz.results37 rfl <| ?_
     exact fun w' h => ⟨by rw [decide_eq_true (p := canF k.may port) ⟨h6, h9, by rw [hp2]; exact h17⟩], h.frm⟩
    ·
     refine WL.v (v_pick_t rfl rfl rfl) rfl <| WL.v (v_assign rfl rfl) rfl <| WL.nt <| WC.ret <| WE.ret1 (P := Tryz.prog) (.inl rfl) Tryz.results37 rfl <| ?_
     exact fun w' h => ⟨by rw [decide_eq_false (fun q : canF k.may port => h17 (by have := q.2.2; rw [hp2] at this; exact this))], h.frm⟩
   ·
    refine WL.v (v_pick_t rfl rfl rfl) rfl <| WL.v (v_move rfl rfl) rfl <| ?_
    iterate 6 refine WL.sk rfl ?_
    refine WL.v (v_pick_f rfl rfl rfl) rfl <| WL.v (v_assign rfl rfl) rfl <| WL.nt <| WC.ret <| WE.ret1 (P := Tryz.prog) (.inl rfl) Tryz.results37 rfl <| ?_
    exact fun w' h => ⟨by rw [decide_eq_false (fun q : canF k.may port => h9 q.2.1)], h.frm⟩
  ·
   refine WL.v (v_move rfl rfl) rfl ?_
   iterate 2 refine WL.sk rfl ?_
   refine WL.v (v_pick_f rfl rfl rfl) rfl <| WL.v (v_move rfl rfl) rfl <| ?_
   iterate 6 refine WL.sk rfl ?_
   refine WL.v (v_pick_f rfl rfl rfl) rfl <| WL.v (v_assign rfl rfl) rfl <| WL.nt <| WC.ret <| WE.ret1 (P := Tryz.prog) (.inl rfl) Tryz.results37 rfl <| ?_
   exact fun w' h => ⟨by rw [decide_eq_false (fun q : canF k.may port => h6 q.1)], h.frm⟩
theorem picks_c (w : World) (k : Ky3) (port : Int) : Calls Tryz.prog 76 #[.agg k.cells.toArray, .int .i64 port] w fun e w' => e = .returned (.bool (decide (picksF k port))) ∧ Frm (fun _ => False) w w' := by
  refine enter Tryz.func76 rfl Tryz.ntmps76 rfl (St.start (fun _ => False) w) ?_
  refine WC.seq <| WC.region <| WL.box rfl rfl rfl (.none rfl) rfl rfl <| ?_
  intro g2 hg2
  refine WL.v (v_assign rfl rfl) rfl <| WL.nt <| WC.seq <| WC.region <| WL.v (v_move rfl rfl) rfl <| WL.v (v_fieldAddr0 rfl rfl fld_83_0) rfl <| WL.v (v_load1 rfl rfl one_3 (cellAt (v := .int .i64 k.from_) rfl)) rfl <| ?_
  refine WL.test (v_neq rfl rfl rfl) (.none rfl) rfl rfl (fun h8 => ?_) (fun h8 => ?_)
  ·
   refine WL.v (v_move rfl rfl) rfl <| WL.val (v_loadN rfl rfl many_83 rfl allAt) (.some rfl rfl rfl) rfl rfl <| WL.val (v_move rfl rfl) (.some rfl rfl rfl) rfl rfl <| WL.call rfl rfl ck_37 (.some rfl rfl rfl) rfl rfl <| ?_
   intro w hS
   refine Calls.then (Can_c w k port) hS ?_
   refine WL.v (v_pick_t rfl rfl rfl) rfl <| WL.v (v_assign rfl rfl) rfl <| WL.nt <| WC.ret <| WE.ret1 (P := Tryz.prog) (.inl rfl) Tryz.results76 rfl <| ?_
   exact fun w' h => ⟨by
   by_cases hc : canF k.may port
   · rw [decide_eq_true hc, decide_eq_true (p := picksF k port) ⟨h8, hc⟩]
   · rw [decide_eq_false hc, decide_eq_false (fun q : picksF k port => hc q.2)], h.frm⟩
  ·
   refine WL.v (v_move rfl rfl) rfl ?_
   iterate 3 refine WL.sk rfl ?_
   refine WL.v (v_pick_f rfl rfl rfl) rfl <| WL.v (v_assign rfl rfl) rfl <| WL.nt <| WC.ret <| WE.ret1 (P := Tryz.prog) (.inl rfl) Tryz.results76 rfl <| ?_
   exact fun w' h => ⟨by rw [decide_eq_false (fun q : picksF k port => h8 q.1)], h.frm⟩
theorem has_c (w : World) (p : PlN) (n : Int) : Calls Tryz.prog 72 #[.agg p.cells.toArray, .int .i64 n] w fun e w' => e = .returned (.bool (decide (hasF p n))) ∧ Frm (fun _ => False) w w' := by
  refine enter Tryz.func72 rfl Tryz.ntmps72 rfl (St.start (fun _ => False) w) ?_
  refine WC.seq <| WC.region <| WL.box rfl rfl rfl (.none rfl) rfl rfl <| ?_
  intro g2 hg2
  refine WL.v (v_assign rfl rfl) rfl <| WL.nt <| WC.seq <| WC.region <| WL.v (v_move rfl rfl) rfl <| ?_
  refine WL.test (v_geq rfl rfl rfl) (.none rfl) rfl rfl (fun h6 => ?_) (fun h6 => ?_)
  ·
   refine WL.v (v_move rfl rfl) rfl <| WL.val (v_move rfl rfl) (.some rfl rfl rfl) rfl rfl <| WL.val (v_fieldAddr0 rfl rfl fld_91_2) (.some rfl rfl rfl) rfl rfl <| WL.val (v_load1 rfl rfl one_88 (cellAt (v := .slice p.ma p.macs.length p.mc) rfl)) (.some rfl rfl rfl) rfl rfl <| WL.val (v_len_slice rfl rfl Tryz.underlying88) (.some rfl rfl rfl) rfl rfl <| ?_
   refine WL.test (v_lss rfl rfl rfl) (.some rfl rfl rfl) rfl rfl (fun h12 => ?_) (fun h12 => ?_)
   ·
    refine WL.v (v_pick_t rfl rfl rfl) rfl <| WL.v (v_move rfl rfl) rfl <| WL.val (v_move rfl rfl) (.some rfl rfl rfl) rfl rfl <| WL.val (v_fieldAddr0 rfl rfl fld_91_0) (.some rfl rfl rfl) rfl rfl <| WL.val (v_load1 rfl rfl one_24 (cellAt (v := .slice p.oa p.outs.length p.oc) rfl)) (.some rfl rfl rfl) rfl rfl <| WL.val (v_len_slice rfl rfl Tryz.underlying24) (.some rfl rfl rfl) rfl rfl <| ?_
    refine WL.test (v_lss rfl rfl rfl) (.some rfl rfl rfl) rfl rfl (fun h19 => ?_) (fun h19 => ?_)
    ·
     refine WL.v (v_pick_t rfl rfl rfl) rfl <| WL.v (v_move rfl rfl) rfl <| WL.val (v_move rfl rfl) (.some rfl rfl rfl) rfl rfl <| WL.val (v_fieldAddr0 rfl rfl fld_91_1) (.some rfl rfl rfl) rfl rfl <| WL.val (v_load1 rfl rfl one_24 (cellAt (v := .slice p.ia p.ins.length p.ic) rfl)) (.some rfl rfl rfl) rfl rfl <| WL.val (v_len_slice rfl rfl Tryz.underlying24) (.some rfl rfl rfl) rfl rfl <| ?_
     refine WL.test (v_lss rfl rfl rfl) (.some rfl rfl rfl) rfl rfl (fun h26 => ?_) (fun h26 => ?_)
     ·
      refine WL.v (v_pick_t rfl rfl rfl) rfl <| WL.v (v_assign rfl rfl) rfl <| WL.nt <| WC.ret <| WE.ret1 (P := Tryz.prog) (.inl rfl) Tryz.results72 rfl <| ?_
      exact fun w' h => ⟨by rw [decide_eq_true (p := hasF p n) ⟨h6, h12, h19, h26⟩], h.frm⟩
     ·
      refine WL.v (v_pick_t rfl rfl rfl) rfl <| WL.v (v_assign rfl rfl) rfl <| WL.nt <| WC.ret <| WE.ret1 (P := Tryz.prog) (.inl rfl) Tryz.results72 rfl <| ?_
      exact fun w' h => ⟨by rw [decide_eq_false (fun q : hasF p n => h26 q.2.2.2)], h.frm⟩
    ·
     refine WL.v (v_pick_t rfl rfl rfl) rfl <| WL.v (v_move rfl rfl) rfl <| ?_
     iterate 5 refine WL.sk rfl ?_
     refine WL.v (v_pick_f rfl rfl rfl) rfl <| WL.v (v_assign rfl rfl) rfl <| WL.nt <| WC.ret <| WE.ret1 (P := Tryz.prog) (.inl rfl) Tryz.results72 rfl <| ?_
     exact fun w' h => ⟨by rw [decide_eq_false (fun q : hasF p n => h19 q.2.2.1)], h.frm⟩
   ·
    refine WL.v (v_pick_t rfl rfl rfl) rfl <| WL.v (v_move rfl rfl) rfl <| ?_
    iterate 5 refine WL.sk rfl ?_
    refine WL.v (v_pick_f rfl rfl rfl) rfl <| WL.v (v_move rfl rfl) rfl <| ?_
    iterate 5 refine WL.sk rfl ?_
    refine WL.v (v_pick_f rfl rfl rfl) rfl <| WL.v (v_assign rfl rfl) rfl <| WL.nt <| WC.ret <| WE.ret1 (P := Tryz.prog) (.inl rfl) Tryz.results72 rfl <| ?_
    exact fun w' h => ⟨by rw [decide_eq_false (fun q : hasF p n => h12 q.2.1)], h.frm⟩
  ·
   refine WL.v (v_move rfl rfl) rfl ?_
   iterate 5 refine WL.sk rfl ?_
   refine WL.v (v_pick_f rfl rfl rfl) rfl <| WL.v (v_move rfl rfl) rfl <| ?_
   iterate 5 refine WL.sk rfl ?_
   refine WL.v (v_pick_f rfl rfl rfl) rfl <| WL.v (v_move rfl rfl) rfl <| ?_
   iterate 5 refine WL.sk rfl ?_
   refine WL.v (v_pick_f rfl rfl rfl) rfl <| WL.v (v_assign rfl rfl) rfl <| WL.nt <| WC.ret <| WE.ret1 (P := Tryz.prog) (.inl rfl) Tryz.results72 rfl <| ?_
   exact fun w' h => ⟨by rw [decide_eq_false (fun q : hasF p n => h6 q.1)], h.frm⟩
/-- Does a header stay that a sender sends there? -/
def stayF (p : PlN) (k : Ky3) (port : Int) : Prop := hasF p port ∧ picksF k port
instance (p : PlN) (k : Ky3) (port : Int) : Decidable (stayF p k port) := by unfold stayF; infer_instance
theorem gone_fc (w : World) (g3 g5 : Nat) (p : PlN) (k : Ky3) (H : Hd) (h3 : w.rangeAt g3 0 p.cells) (h5 : w.rangeAt g5 0 k.cells) :
    Calls Tryz.prog 75 #[.agg (hdCells H), .pointer (some ⟨g3, 0, none⟩), .pointer (some ⟨g5, 0, none⟩)] w fun e w' => e = .returned (.bool (decide (¬ stayF p k H.port))) ∧ Frm (fun _ => False) w w' := by
  refine enter Tryz.func75 rfl Tryz.ntmps75 rfl (St.start (fun _ => False) w) ?_
  refine WC.seq <| WC.region <| WL.box rfl rfl rfl (.none rfl) rfl rfl <| ?_
  intro g3 hg3
  refine WL.v (v_assign rfl rfl) rfl <| WL.nt <| WC.seq <| WC.region <| WL.v (v_loadN (cs := p.cells) rfl rfl many_91 rfl (rgIn (fun h => h) h3)) rfl <| WL.v (v_fieldAddr0 rfl rfl fld_59_0) rfl <| WL.v (v_load1 rfl rfl one_3 (cellAt (v := .int .i64 H.port) rfl)) rfl <| WL.call rfl rfl ck_72 (.none rfl) rfl rfl <| ?_
  intro w hS
  refine Calls.then (has_c w p H.port) hS ?_
  generalize hb8 : decide (hasF p H.port) = bb
  cases bb
  ·
   refine WL.v (v_not rfl rfl rfl) rfl <| WL.v (v_move rfl rfl) rfl <| ?_
   iterate 5 refine WL.sk rfl ?_
   refine WL.v (v_pick_t rfl rfl rfl) rfl <| WL.v (v_assign rfl rfl) rfl <| WL.nt <| WC.ret <| WE.ret1 (P := Tryz.prog) (.inl rfl) Tryz.results75 rfl <| ?_
   exact fun w' h => ⟨by rw [decide_eq_true (p := ¬ stayF p k H.port) (fun q => of_decide_eq_false hb8 q.1)], h.frm⟩
  ·
   refine WL.v (v_not rfl rfl rfl) rfl <| WL.v (v_move rfl rfl) rfl <| WL.val (v_loadN (cs := k.cells) rfl rfl many_83 rfl (rgIn (fun h => h) h5)) (.some rfl rfl rfl) rfl rfl <| WL.val (v_fieldAddr0 rfl rfl fld_59_0) (.some rfl rfl rfl) rfl rfl <| WL.val (v_load1 rfl rfl one_3 (cellAt (v := .int .i64 H.port) rfl)) (.some rfl rfl rfl) rfl rfl <| WL.call rfl rfl ck_76 (.some rfl rfl rfl) rfl rfl <| ?_
   intro w hS
   refine Calls.then (picks_c w k H.port) hS ?_
   generalize hb14 : decide (picksF k H.port) = bb
   cases bb
   ·
    refine WL.val (v_not rfl rfl rfl) (.some rfl rfl rfl) rfl rfl <| WL.v (v_pick_f rfl rfl rfl) rfl <| WL.v (v_assign rfl rfl) rfl <| WL.nt <| WC.ret <| WE.ret1 (P := Tryz.prog) (.inl rfl) Tryz.results75 rfl <| ?_
    exact fun w' h => ⟨by rw [decide_eq_true (p := ¬ stayF p k H.port) (fun q => of_decide_eq_false hb14 q.2)]; rfl, h.frm⟩
   ·
    refine WL.val (v_not rfl rfl rfl) (.some rfl rfl rfl) rfl rfl <| WL.v (v_pick_f rfl rfl rfl) rfl <| WL.v (v_assign rfl rfl) rfl <| WL.nt <| WC.ret <| WE.ret1 (P := Tryz.prog) (.inl rfl) Tryz.results75 rfl <| ?_
    exact fun w' h => ⟨by rw [decide_eq_false (p := ¬ stayF p k H.port) (fun q => q ⟨of_decide_eq_true hb8, of_decide_eq_true hb14⟩)]; rfl, h.frm⟩
/-- One header, or none. -/
abbrev oL (o : Option Hd) : List Value := encL hdL o.toList
theorem oL_hds (o : Option Hd) : hdsL o.toList = oL o := by cases o <;> rfl
theorem o_len (o : Option Hd) : o.toList.length ≤ 1 := by cases o <;> simp
theorem Idx1_c (w : World) (ad : Option Addr) (c : Nat) (o : Option Hd) (hr : Rg w ad (oL o)) (fn : FuncId) (ck_fn : callOk Tryz.prog fn) (cap : Array Value) (del : Hd → Bool) (hdel : ∀ w1 H, Frm (fun _ => False) w w1 → o = some H → Calls Tryz.prog fn (#[.agg (hdCells H)] ++ cap) w1 fun e w' => e = .returned (.bool (del H)) ∧ Frm (fun _ => False) w1 w') :
    Calls Tryz.prog 119 #[.slice ad o.toList.length c, .func (.func fn) #[] cap] w fun e w' => e = .returned (.int .i64 (if o.any del then 0 else -1)) ∧ Frm (fun _ => False) w w' := by
  refine enter Tryz.func119 rfl Tryz.ntmps119 rfl (St.start (fun _ => False) w) ?_
  refine WC.seq <| WC.region <| WL.v (v_assign rfl rfl) rfl <| WL.nt <| WC.seq <| WC.seq <| WC.region <| WL.v (v_move rfl rfl) rfl <| WL.v (v_len_slice rfl rfl Tryz.underlying64) rfl <| WL.v (v_move rfl rfl) rfl <| WL.nt <| WC.block <| ?_
  refine WC.loop (fun i : Nat => [(8, .int .i64 i), (7, .int .i64 o.toList.length), (0, .slice ad o.toList.length c), (1, .func (.func fn) #[] cap)]) (fun _ => []) (fun i => i ≤ o.toList.length ∧ (i = 1 → o.any del = false)) (fun i => o.toList.length - i) 0 ⟨Nat.zero_le _, fun h => (by cases h)⟩ (.cons rfl (.cons rfl (.cons rfl (.cons rfl .nil)))) (.refl _) ?_
  rintro i ⟨hi, hno⟩
  have hol := o_len o
  refine WC.seq <| WC.region <| ?_
  refine WL.test (v_lss rfl rfl rfl) (.none rfl) rfl rfl (fun h9 => ?_) (fun h9 => ?_)
  ·
   refine WL.nt <| WC.seq <| WC.cond_t rfl <| WC.skip <| WE.then_n <| WC.seq <| WC.block <| WC.seq <| WC.region <| WL.v (v_move rfl rfl) rfl <| WL.v (v_assign rfl rfl) rfl <| WL.nt <| WC.seq <| WC.region <| ?_
   refine WL.v (v_move rfl rfl) rfl <| WL.v (v_move rfl rfl) rfl <| WL.v (v_move rfl rfl) rfl <| ?_
   obtain ⟨H, ho⟩ : ∃ H, o = some H := (by cases o with | none => simp at h9; omega | some H => exact ⟨H, rfl⟩)
   obtain ⟨b1, o1, ea1, r1⟩ := hr (by rw [ho]; show hdL H ++ [] ≠ []; rw [List.append_nil]; intro hh; have := hdL_len H; rw [hh] at this; cases this)
   have hi0 : i = 0 := (by rw [ho] at h9; have h9 : (i : Int) < 1 := h9; omega)
   have hx : o.toList[i]? = some H := (by rw [ho, hi0]; rfl)
   refine WL.v ((v_indexAddr (b := b1) (off := o1) (lo := i) rfl (by show some (Value.slice ad _ _) = _; rw [ea1]) rfl Tryz.underlying64 sz_59 rfl (by omega))) rfl ?_
   refine WL.v (v_loadN (cs := hdL H) rfl rfl many_59 (hdL_len H) (rgIn (fun h => h) (Rg.seg hdL_len r1 hx))) rfl <| WL.callV rfl rfl rfl ck_fn (.none rfl) rfl rfl <| ?_
   intro w hS
   refine Calls.then (hdel w H hS.frm ho) hS ?_
   generalize hb16 : del H = bb
   cases bb
   ·
    refine WL.nt <| WC.cond_f rfl <| WC.skip <| WE.block_n <| WE.then_n <| WC.region <| ?_
    refine WL.v (v_add rfl rfl rfl (w_i64 (by omega) (by omega))) rfl ?_
    refine WL.v (v_move rfl rfl) rfl <| WL.nil <| ?_
    exact WE.next (i + 1) (by omega) ⟨by omega, fun _ => by rw [ho]; exact hb16⟩ (.int rfl (by omega) (.cons rfl (.cons rfl (.cons rfl .nil)))) (.refl _)
   ·
    refine WL.nt <| WC.cond_t rfl <| WC.seq <| WC.region <| WL.v (v_move rfl rfl) rfl <| WL.v (v_assign rfl rfl) rfl <| WL.nt <| WC.ret <| WE.block_ret <| WE.then_ret <| WE.then_ret <| WE.block_ret <| WE.then_ret <| WE.ret1 (P := Tryz.prog) (.inl rfl) Tryz.results119 rfl <| ?_
    exact fun w' h => ⟨by rw [ho]; show _ = Ending.returned (.int .i64 (if del H then 0 else -1)); rw [hb16, hi0]; rfl, h.frm⟩
  ·
   refine WL.nt <| WC.seq <| WC.cond_f rfl <| WC.exit <| WE.then_exit <| WE.then_exit <| WE.block_hit <| WE.then_n <| WC.seq <| WC.region <| WL.v (v_assign rfl rfl) rfl <| WL.nt <| WC.ret <| WE.ret1 (P := Tryz.prog) (.inl rfl) Tryz.results119 rfl <| ?_
   exact fun w' h => ⟨by
   have hf : o.any del = false := (by
     cases o with
     | none => rfl
     | some H => exact hno (by have h9 : ¬ (i : Int) < 1 := h9; have hi : i ≤ 1 := hi; omega))
   rw [hf]; rfl, h.frm⟩
set_option maxHeartbeats 1000000 in
theorem Del1_c {p : Nat → Prop} {w0 w : World} {L E : List Ent} (ad : Option Addr) (c : Nat) (o : Option Hd) (hV : Vec 19 ad o.toList.length c (oL o) E) (hS : St p w0 w (E ++ L)) (fn : FuncId) (ck_fn : callOk Tryz.prog fn) (cap : Array Value) (del : Hd → Bool) (hdel : ∀ w1 H, St p w0 w1 (E ++ L) → o = some H → Calls Tryz.prog fn (#[.agg (hdCells H)] ++ cap) w1 fun e w' => e = .returned (.bool (del H)) ∧ Frm (fun _ => False) w1 w') :
    Calls Tryz.prog 74 #[.slice ad o.toList.length c, .func (.func fn) #[] cap] w fun e w' => ∃ E', e = .returned (.slice ad (o.filter fun h => !del h).toList.length c) ∧ Vec 19 ad (o.filter fun h => !del h).toList.length c (oL (o.filter fun h => !del h)) E' ∧ St p w0 w' (E' ++ L) := by
  refine enter Tryz.func74 rfl Tryz.ntmps74 rfl hS ?_
  refine WC.seq <| WC.region <| WL.v (v_assign rfl rfl) rfl <| WL.nt <| WC.seq <| WC.region <| WL.v (v_move rfl rfl) rfl <| WL.v (v_move rfl rfl) rfl <| WL.call rfl rfl ck_119 (.none rfl) rfl rfl <| ?_
  intro w hS
  refine Calls.then (Idx1_c w ad c o (hV.rg fun e he => hS.holds e (List.mem_append_left _ he)) fn ck_fn cap del (fun w1 H hF ho => hdel w1 H (hS.ext hF) ho)) hS ?_
  refine WL.v (v_assign rfl rfl) rfl <| WL.nt <| WC.seq <| WC.seq <| WC.region <| WL.v (v_move rfl rfl) rfl <| ?_
  refine WL.test (v_eql rfl rfl rfl) (.none rfl) rfl rfl (fun h12 => ?_) (fun h12 => ?_)
  ·
   refine WL.nt <| WC.cond_t rfl <| WC.seq <| WC.region <| WL.v (v_move rfl rfl) rfl <| WL.v (v_assign rfl rfl) rfl <| WL.nt <| WC.ret <| WE.then_ret <| WE.ret1 (P := Tryz.prog) (.inl rfl) Tryz.results74 rfl <| ?_
   have hf : o.filter (fun h => !del h) = o := (by
     cases o with
     | none => rfl
     | some H =>
       have h12 : (if del H then (0 : Int) else -1) = -1 := h12
       cases hd : del H with
       | true => rw [hd] at h12; cases h12
       | false => show (if !del H then some H else none) = some H; rw [hd]; rfl)
   rw [hf]
   exact fun w' h => ⟨E, rfl, hV, h⟩
  ·
   refine WL.nt <| WC.cond_f rfl <| WC.skip <| WE.then_n <| WC.seq <| WC.seq <| WC.region <| ?_
   obtain ⟨H, ho, hdt⟩ : ∃ H, o = some H ∧ del H = true := (by
     cases o with
     | none => exact absurd rfl h12
     | some H =>
       refine ⟨H, rfl, ?_⟩
       cases hd : del H with
       | true => rfl
       | false => exact absurd (by show (if del H then (0 : Int) else -1) = -1; rw [hd]; rfl) h12)
   subst ho
   have hf : (some H).filter (fun h => !del h) = none := (by show (if !del H then some H else none) = none; rw [hdt]; rfl)
   rw [hf]
   have hany : (Option.any del (some H)) = true := hdt
   rw [if_pos hany]
   rcases hV with ⟨-, hh, -⟩ | ⟨g, cs, ead, eE, hx, hcl, hkc⟩
   · cases hh
   rw [eE]
   rw [ead]
   have hkc : 1 ≤ c := hkc
   refine WL.as (L' := .row g cs :: L) rfl <| WL.v (v_move rfl rfl) rfl <| ?_
   refine WL.v (v_add rfl rfl rfl (w_i64 (by omega) (by omega))) rfl ?_
   refine WL.v (v_assign rfl rfl) rfl <| WL.nt <| WC.block <| WC.loop (fun _ : Unit => [(6, .int .i64 1), (5, .int .i64 0), (0, .slice (some ⟨g, 0, none⟩) 1 c)]) (fun _ => .row g cs :: L) (fun _ => True) (fun _ => 0) () trivial (.cons rfl (.cons rfl (.cons rfl .nil))) (.refl _) <| ?_
   intro _ _
   refine WC.seq <| WC.seq <| WC.region <| WL.v (v_move rfl rfl) rfl <| WL.v (v_move rfl rfl) rfl <| WL.v (v_len_slice rfl rfl Tryz.underlying64) rfl <| ?_
   refine WL.v ((v_lss rfl rfl rfl).f ((by show ¬ (1 : Int) < ((1 : Nat) : Int); omega))) rfl ?_
   refine WL.nt <| WC.cond_f rfl <| WC.exit <| WE.then_exit <| WE.then_exit <| WE.block_hit <| WE.then_n <| WC.seq <| WC.region <| WL.v (v_move rfl rfl) rfl <| WL.v (v_move rfl rfl) rfl <| ?_
   refine WL.v (v_slice_loS (lo := 0) rfl rfl rfl Tryz.underlying64 sz_59 (by omega) (by omega) (by omega)) rfl ?_
   refine WL.clear (s := 19) rfl rfl Tryz.underlying64 zero_59 rfl rfl (by have hkc : 1 ≤ c := hkc; have hcl : cs.length = c * 19 := hcl; omega) (.none rfl) rfl ?_
   refine WL.nt <| WC.seq <| WC.region <| WL.v (v_move rfl rfl) rfl <| WL.v (v_move rfl rfl) rfl <| ?_
   refine WL.v (v_slice_hi (hi := 0) rfl rfl rfl Tryz.underlying64 sz_59 (by omega) (by omega)) rfl ?_
   refine WL.v (v_assign rfl rfl) rfl <| WL.nt <| WC.ret <| WE.ret1 (P := Tryz.prog) (.inl rfl) Tryz.results74 rfl <| ?_
   exact fun w' h => ⟨[.row g (splice cs (0 + 0 * 19) (zrs (hdL Hd.zero) 1))], rfl, Vec.row rfl (by rw [splice_length _ _ _ (by rw [zrs_len]; show _ + 1 * 19 ≤ _; omega)]; exact hcl) (Nat.zero_le _), h⟩
end Go.Proofs.YtkeonnnhogaggaaGreatDoor
/- stage.Plan.Goes where each policy makes one header or none. -/
namespace Go.Proofs.YtkeonnnhogaggaaGreatDoor
open Go.RowKit

/-- A run that makes one header or none. -/
def Run1 (t : Nd) (H : Hd) (o : Option Hd) : Prop := ∀ Rs er, RunIs t H Rs er → er = 0 ∧ Rs = o.toList
def goG (p : PlN) (k : Ky3) (H : Hd) (o : Option Hd) : Hd := (o.filter fun x => !decide (¬ stayF p k x.port)).getD { H with port := k.best }
def goO (g : Hd) (fm : Nat → Int) (o2 : Option Hd) : Option Hd := (o2.filter fun y => decide (y.port = g.port)).map fun y => { y with dst := fm }
structure GoS where
  ad : Option Addr
  c : Nat
  E : List Ent
structure GoT where
  i : Nat
  ad : Option Addr
  c : Nat
  E : List Ent
  r : Option Hd
set_option maxRecDepth 8000 in
set_option maxHeartbeats 4000000 in
theorem Goes1_c (w0 : World) (p : PlN) (hA : p.At w0) (hI : p.In) (hG : GW w0) (H : Hd) (hH : H.In) (fn bn : Nat) (may : Int) (hf : hasF p fn) (hb : hasF p bn) (hport : H.port = fn) (tf : Nd) (htf : p.outs[fn]? = some tf) (o : Option Hd) (hr : Run1 tf H o) (g : Hd) (hg : goG p ⟨fn, bn, may⟩ H o = g) (hgI : g.In) (gn : Nat) (hgn : g.port = gn) (ti : Nd) (hti : p.ins[gn]? = some ti) (o2 : Option Hd) (hr2 : Run1 ti g o2) (fm : Nat → Int) (hfm : p.macs[gn]? = some fm) :
    Calls Tryz.prog 34 #[.agg p.cells.toArray, .agg (hdCells H), .agg (Ky3.cells ⟨fn, bn, may⟩).toArray] w0 fun e w' => ∃ ad c E, e = .returned (.tuple #[.slice ad (goO g fm o2).toList.length c, .int .i64 0]) ∧ Vec 19 ad (goO g fm o2).toList.length c (oL (goO g fm o2)) E ∧ St (fun _ => False) w0 w' E := by
  obtain ⟨⟨b, of, ea, _⟩, htA⟩ := hA.outs.get p.outs 0 fn tf htf
  have htI := hI.outs.get p.outs fn tf htf
  obtain ⟨⟨b2, of2, ea2, _⟩, htA2⟩ := hA.ins.get p.ins 0 gn ti hti
  have htI2 := hI.ins.get p.ins gn ti hti
  have hml : gn < p.macs.length := (List.getElem?_eq_some_iff.1 hfm).1
  have hil : gn < p.ins.length := (List.getElem?_eq_some_iff.1 hti).1
  have hol : fn < p.outs.length := (List.getElem?_eq_some_iff.1 htf).1
  obtain ⟨b3, of3, ea3, r3⟩ := hA.macs (by intro hh; have := macsL_len p.macs; rw [hh] at this; simp at this; omega)
  refine enter Tryz.func34 rfl Tryz.ntmps34 rfl (St.start (fun _ => False) w0) ?_
  refine WC.seq <| WC.region <| WL.box rfl rfl rfl (.none rfl) rfl rfl <| ?_
  intro g3 hg3
  refine WL.box rfl rfl rfl (.none rfl) rfl rfl ?_
  intro g4 hg4
  refine WL.box rfl rfl rfl (.none rfl) rfl rfl ?_
  intro g5 hg5
  refine WL.v (v_assign rfl rfl) rfl <| WL.v (v_assign rfl rfl) rfl <| WL.nt <| WC.seq <| WC.seq <| WC.region <| WL.v (v_loadN rfl rfl many_91 rfl allAt) rfl <| WL.v (v_fieldAddr0 rfl rfl fld_83_0) rfl <| WL.v (v_load1 rfl rfl one_3 (cellAt (v := .int .i64 (fn : Int)) rfl)) rfl <| WL.call rfl rfl ck_72 (.none rfl) rfl rfl <| ?_
  intro w hS
  refine Calls.then (has_c w p fn) hS ?_
  rw [decide_eq_true hf]
  refine WL.v (v_not rfl rfl rfl) rfl <| WL.v (v_move rfl rfl) rfl <| WL.val (v_loadN rfl rfl many_91 rfl allAt) (.some rfl rfl rfl) rfl rfl <| WL.val (v_fieldAddr0 rfl rfl fld_83_1) (.some rfl rfl rfl) rfl rfl <| WL.val (v_load1 rfl rfl one_3 (cellAt (v := .int .i64 (bn : Int)) rfl)) (.some rfl rfl rfl) rfl rfl <| WL.call rfl rfl ck_72 (.some rfl rfl rfl) rfl rfl <| ?_
  intro w hS
  refine Calls.then (has_c w p bn) hS ?_
  rw [decide_eq_true hb]
  refine WL.val (v_not rfl rfl rfl) (.some rfl rfl rfl) rfl rfl <| WL.v (v_pick_f rfl rfl rfl) rfl <| WL.v (v_move rfl rfl) rfl <| WL.val (v_fieldAddr0 rfl rfl fld_59_0) (.some rfl rfl rfl) rfl rfl <| WL.val (v_load1 rfl rfl one_3 (cellAt (v := .int .i64 H.port) rfl)) (.some rfl rfl rfl) rfl rfl <| WL.val (v_fieldAddr0 rfl rfl fld_83_0) (.some rfl rfl rfl) rfl rfl <| WL.val (v_load1 rfl rfl one_3 (cellAt (v := .int .i64 (fn : Int)) rfl)) (.some rfl rfl rfl) rfl rfl <| ?_
  refine WL.val ((v_neq rfl rfl rfl).f ((by show ¬ H.port ≠ fn; omega))) (.some rfl rfl rfl) rfl rfl ?_
  refine WL.v (v_pick_f rfl rfl rfl) rfl <| WL.nt <| WC.cond_f rfl <| WC.skip <| WE.then_n <| WC.seq <| WC.orders mixed <| ?_
  refine WR.first (g := 11) [0, 2] (by kernel_rfl) (by kernel_rfl) ?_
  refine WP.val (v_fieldAddr0 rfl rfl fld_91_0) (.none rfl) rfl rfl <| WP.val (v_fieldAddr0 rfl rfl fld_83_0) (.none rfl) rfl rfl <| WP.nil <| ?_
  refine WR.read (g := 6) [1, 3, 4, 5, 6] (by kernel_rfl) (by kernel_rfl) (by kernel_rfl) (by kernel_rfl) rfl ?_
  refine WQ.val (v_load1 rfl rfl one_24 (cellAt (v := .slice p.oa p.outs.length p.oc) rfl)) (.none rfl) rfl rfl <| WQ.val (v_load1 rfl rfl one_3 (cellAt (v := .int .i64 (fn : Int)) rfl)) (.none rfl) rfl rfl <| ?_
  refine WQ.val (v_indexAddr (b := b) (off := of) (lo := fn) rfl (by show some (Value.slice p.oa _ _) = _; rw [ea]) rfl Tryz.underlying24 sz_26 rfl hol) (.none rfl) rfl rfl ?_
  refine WQ.val (v_loadN (cs := ndL tf) rfl rfl many_26 rfl (rangeIn (fun h => h) (hA.outs.kidAt htf ea))) (.none rfl) rfl rfl <| WQ.val (v_loadN rfl rfl many_59 rfl allAt) (.none rfl) rfl rfl <| WQ.nilR <| ?_
  refine WR.ones (g := 5) [7] (by kernel_rfl) ?_
  refine WL.call rfl rfl ck_73 (.none rfl) rfl rfl ?_
  intro w1 hS
  refine (Run_c (fun _ => False) (fun _ h => h) w0 hG _ w1 tf H htI (fun w' hS' => htA.st (fun _ h => h) hS') hH hS).mono ?_
  rintro e w' ⟨Rs, ad, c, E, er, rfl, hV, hS', hrr⟩
  obtain ⟨rfl, rfl⟩ := hr _ _ hrr
  rw [oL_hds] at hV
  refine ⟨_, _, rfl, hS', ?_⟩
  refine WL.nilR ?_
  refine WR.first (g := 0) [8, 9, 10, 11, 12] (by kernel_rfl) (by kernel_rfl) ?_
  refine WP.val (v_move rfl rfl) (.none rfl) rfl rfl <| WP.val (v_extract rfl rfl rfl) (.none rfl) rfl rfl <| WP.val (v_extract rfl rfl rfl) (.none rfl) rfl rfl <| WP.val (v_assign rfl rfl) (.none rfl) rfl rfl <| WP.val (v_assign rfl rfl) (.none rfl) rfl rfl <| WP.nil <| ?_
  refine WR.done (by kernel_rfl) ?_
  refine WE.then_n <| WC.seq <| WC.seq <| WC.region <| WL.v (v_move rfl rfl) rfl <| ?_
  refine WL.v ((v_neq rfl rfl rfl).f ((by omega))) rfl ?_
  refine WL.nt <| WC.cond_f rfl <| WC.skip <| WE.then_n <| WC.seq <| WC.region <| WL.v (v_move rfl rfl) rfl <| WL.v (v_makeFunc rfl rfl rfl) rfl <| WL.call rfl rfl ck_74 (.none rfl) rfl rfl <| ?_
  intro w1 hS
  refine (Del1_c ad c o hV hS 75 ck_75 #[.pointer (some ⟨g3, 0, none⟩), .pointer (some ⟨g5, 0, none⟩)] (fun x => decide (¬ stayF p ⟨fn, bn, may⟩ x.port)) (fun w2 x hS2 _ => gone_fc w2 g3 g5 p ⟨fn, bn, may⟩ x (allAt (g := g3) w2 hS2) (allAt (g := g5) w2 hS2))).mono ?_
  rintro e w' ⟨E', rfl, hV', hS'⟩
  refine ⟨_, _, rfl, hS', ?_⟩
  refine WL.v (v_assign rfl rfl) rfl <| WL.nt <| ?_
  refine WC.cut (fun x : GoS => [(8, .slice x.ad 1 x.c), (3, .pointer (some ⟨g3, 0, none⟩))]) (fun x => x.E ++ [.row g3 p.cells]) (fun x => Vec 19 x.ad 1 x.c (hdL g) x.E) ?_ ?_
  ·
   refine WC.seq <| WC.region <| WL.v (v_move rfl rfl) rfl <| WL.v (v_len_slice rfl rfl Tryz.underlying64) rfl <| ?_
   generalize hq : o.filter (fun x => !decide (¬ stayF p ⟨fn, bn, may⟩ x.port)) = q at hV'
   have hg : q.getD { H with port := (bn : Int) } = g := (by rw [← hq]; exact hg)
   refine WL.test (v_eql rfl rfl rfl) (.none rfl) rfl rfl (fun h55 => ?_) (fun h55 => ?_)
   ·
    refine WL.nt <| WC.cond_t rfl <| WC.seq <| WC.region <| ?_
    obtain rfl : q = none := (by cases q with | none => rfl | some x => exact absurd h55 (by show ¬ ((1 : Nat) : Int) = 0; omega))
    have hg : { H with port := (bn : Int) } = g := hg
    refine WL.v (v_fieldAddr0 rfl rfl fld_83_1) rfl <| WL.v (v_load1 rfl rfl one_3 (cellAt rfl)) rfl <| WL.v (v_fieldAddr0 rfl rfl fld_59_0) rfl <| WL.store1 rfl rfl rfl rfl one_3 (Nat.le_of_ble_eq_true rfl) (.none rfl) rfl <| ?_
    refine WL.rowTo (g := g4) (cs' := hdL g) (by rw [← hg]; rfl) ?_
    refine WL.nt <| WC.region <| WL.v (v_move rfl rfl) rfl <| WL.v (v_loadN rfl rfl many_59 rfl allAt) rfl <| ?_
    refine WL.buildSlice rfl rfl Tryz.underlying64 sz_59 zero_59 rfl (by decide) (by show some (splice (List.replicate 1 _).flatten 0 (hdL g)) = some (hdL g); exact congrArg some (splice_all rfl)) (.none rfl) rfl rfl ?_
    intro g61 hg61
    refine WL.to (L' := E' ++ (.row g61 (hdL g) :: [.row g3 p.cells])) (fun w hS => hS.dropX [.row g5 (Ky3.cells ⟨fn, bn, may⟩), .row g4 (hdL g)]) ?_
    refine WL.appendL rfl rfl rfl Tryz.underlying64 Tryz.underlying64 sz_59 by_59 zero_59 rfl rfl hV' (new := hdL g) (fun _ => ⟨g61, 0, rfl, fun w hS => allAt (g := g61) w hS⟩) rfl rfl (by show (3 * (0 + 1) + 1200) * 64 ≤ 281474976710656; omega) (.none rfl) rfl rfl ?_
    intro ad62 c62 E62 hV62 hr62
    refine WL.v (v_assign rfl rfl) rfl <| WL.nil <| ?_
    exact WE.to (L' := E62 ++ [.row g3 p.cells]) (fun w hS => hS.dropX [.row g61 (hdL g)]) (WE.mid ⟨ad62, c62, E62⟩ hV62 (.cons rfl (.cons rfl .nil)) (.refl _))
   ·
    refine WL.nt <| WC.cond_f rfl <| WC.skip <| ?_
    obtain rfl : q = some g := (by
      cases q with
      | none => exact absurd rfl h55
      | some x => exact congrArg some hg)
    exact WE.to (L' := E' ++ [.row g3 p.cells]) (fun w hS => hS.dropX [.row g5 (Ky3.cells ⟨fn, bn, may⟩), .row g4 (hdL H)]) (WE.mid ⟨ad, c, E'⟩ (by have h : Vec 19 ad 1 c (hdL g ++ []) E' := hV'; rwa [List.append_nil] at h) (.cons rfl (.cons rfl .nil)) (.refl _))
  ·
   rintro ⟨ad0, c0, E0⟩ hV0
   dsimp only at hV0
   dsimp only
   rcases hV0 with ⟨-, hh, -⟩ | ⟨g0, cs, ead, eE, hx, hcl, hkc⟩
   · cases hh
   rw [eE]
   rw [ead]
   have hkc : 1 ≤ c0 := hkc
   have hx : cs.take (1 * 19) = hdL g := hx
   refine WC.seq <| WC.region <| WL.v (v_assign rfl rfl) rfl <| WL.nt <| WC.seq <| WC.seq <| WC.region <| WL.v (v_move rfl rfl) rfl <| WL.v (v_len_slice rfl rfl Tryz.underlying64) rfl <| WL.v (v_move rfl rfl) rfl <| WL.nt <| WC.block <| ?_
   refine WC.loop (fun x : GoT => [(65, .int .i64 x.i), (64, .int .i64 1), (63, .slice (some ⟨g0, 0, none⟩) 1 c0), (10, .slice x.ad x.r.toList.length x.c), (3, .pointer (some ⟨g3, 0, none⟩))]) (fun x => x.E ++ (.row g0 cs :: [.row g3 p.cells])) (fun x => x.i ≤ 1 ∧ (x.i = 0 → x.r = none) ∧ (x.i = 1 → x.r = goO g fm o2) ∧ Vec 19 x.ad x.r.toList.length x.c (oL x.r) x.E) (fun x => 1 - x.i) ⟨0, none, 0, [], none⟩ ⟨Nat.zero_le _, fun _ => rfl, fun h => (by cases h), Vec.nil 19⟩ (.cons rfl (.cons rfl (.cons rfl (.cons rfl (.cons rfl .nil))))) (.refl _) ?_
   rintro ⟨i, ad1, c1, E1, r⟩ ⟨hi, hr0, hr1, hV1⟩
   dsimp only at hi hr0 hr1 hV1
   dsimp only
   refine WC.seq <| WC.region <| ?_
   refine WL.test (v_lss rfl rfl rfl) (.none rfl) rfl rfl (fun h66 => ?_) (fun h66 => ?_)
   ·
    refine WL.nt <| WC.seq <| WC.cond_t rfl <| WC.skip <| WE.then_n <| WC.seq <| WC.block <| WC.seq <| WC.region <| ?_
    obtain rfl : i = 0 := (by omega)
    obtain rfl := hr0 rfl
    refine WL.v (v_indexAddr (lo := 0) rfl rfl rfl Tryz.underlying64 sz_59 (by omega) (by omega)) rfl ?_
    refine WL.v (v_loadN (cs := hdL g) rfl rfl many_59 (hdL_len g) (segAt (m := 19) (by show (cs.drop (0 + 0 * 19)).take 19 = _; exact hx))) rfl ?_
    refine WL.alloc rfl zero_59 (.none rfl) rfl rfl ?_
    intro g12 hg12
    refine WL.storeW rfl rfl rfl rfl many_59 rfl rfl (.none rfl) rfl <| WL.nt <| WC.seq <| WC.orders mixed <| ?_
    refine WR.first (g := 11) [0, 2] (by kernel_rfl) (by kernel_rfl) ?_
    refine WP.val (v_fieldAddr0 rfl rfl fld_91_1) (.none rfl) rfl rfl <| WP.val (v_fieldAddr0 rfl rfl fld_59_0) (.none rfl) rfl rfl <| WP.nil <| ?_
    refine WR.read (g := 6) [1, 3, 4, 5, 6] (by kernel_rfl) (by kernel_rfl) (by kernel_rfl) (by kernel_rfl) rfl ?_
    refine WQ.val (v_load1 rfl rfl one_24 (cellAt (v := .slice p.ia p.ins.length p.ic) rfl)) (.none rfl) rfl rfl <| WQ.val (v_load1 rfl rfl one_3 (cellAt (v := .int .i64 g.port) rfl)) (.none rfl) rfl rfl <| ?_
    refine WQ.val (v_indexAddr (b := b2) (off := of2) (lo := gn) rfl (by show some (Value.slice p.ia _ _) = _; rw [ea2]) (by show some (Value.int .i64 g.port) = _; rw [hgn]) Tryz.underlying24 sz_26 rfl hil) (.none rfl) rfl rfl ?_
    refine WQ.val (v_loadN (cs := ndL ti) rfl rfl many_26 rfl (rangeIn (fun h => h) (hA.ins.kidAt hti ea2))) (.none rfl) rfl rfl <| WQ.val (v_loadN rfl rfl many_59 rfl allAt) (.none rfl) rfl rfl <| WQ.nilR <| ?_
    refine WR.ones (g := 5) [7] (by kernel_rfl) ?_
    refine WL.call rfl rfl ck_73 (.none rfl) rfl rfl ?_
    intro w1 hS
    refine (Run_c (fun _ => False) (fun _ h => h) w0 hG _ w1 ti g htI2 (fun w' hS' => htA2.st (fun _ h => h) hS') hgI hS).mono ?_
    rintro e w' ⟨Rs2, ad2, c2, E2, er2, rfl, hV2, hS', hrr2⟩
    obtain ⟨rfl, rfl⟩ := hr2 _ _ hrr2
    rw [oL_hds] at hV2
    refine ⟨_, _, rfl, hS', ?_⟩
    refine WL.nilR ?_
    refine WR.first (g := 0) [8, 9, 10, 11, 12] (by kernel_rfl) (by kernel_rfl) ?_
    refine WP.val (v_move rfl rfl) (.none rfl) rfl rfl <| WP.val (v_extract rfl rfl rfl) (.none rfl) rfl rfl <| WP.val (v_extract rfl rfl rfl) (.none rfl) rfl rfl <| WP.val (v_assign rfl rfl) (.none rfl) rfl rfl <| WP.val (v_assign rfl rfl) (.none rfl) rfl rfl <| WP.nil <| ?_
    refine WR.done (by kernel_rfl) ?_
    refine WE.then_n <| WC.seq <| WC.seq <| WC.region <| WL.v (v_move rfl rfl) rfl <| ?_
    refine WL.v ((v_neq rfl rfl rfl).f ((by omega))) rfl ?_
    refine WL.nt <| WC.cond_f rfl <| WC.skip <| WE.then_n <| WC.seq <| WC.region <| WL.v (v_move rfl rfl) rfl <| WL.v (v_len_slice rfl rfl Tryz.underlying64) rfl <| WL.v (v_move rfl rfl) rfl <| WL.nt <| WC.block <| ?_
    refine WC.loop (fun x : GoT => [(85, .int .i64 x.i), (84, .int .i64 o2.toList.length), (83, .slice ad2 o2.toList.length c2), (12, .pointer (some ⟨g12, 0, none⟩)), (65, .int .i64 ((0 : Nat) : Int)), (64, .int .i64 1), (63, .slice (some ⟨g0, 0, none⟩) 1 c0), (10, .slice x.ad x.r.toList.length x.c), (3, .pointer (some ⟨g3, 0, none⟩))]) (fun x => E2 ++ (.row g12 (hdL g) :: (x.E ++ (.row g0 cs :: [.row g3 p.cells])))) (fun x => x.i ≤ o2.toList.length ∧ (x.i = 0 → x.r = none) ∧ (x.i = 1 → x.r = goO g fm o2) ∧ Vec 19 x.ad x.r.toList.length x.c (oL x.r) x.E) (fun x => o2.toList.length - x.i) ⟨0, ad1, c1, E1, none⟩ ⟨Nat.zero_le _, fun _ => rfl, fun h => (by cases h), hV1⟩ (.cons rfl (.cons rfl (.cons rfl (.cons rfl (.cons rfl (.cons rfl (.cons rfl (.cons rfl (.cons rfl .nil))))))))) (.refl _) ?_
    rintro ⟨j, ad3, c3, E3, r⟩ ⟨hj, hj0, hj1, hV3⟩
    dsimp only at hj hj0 hj1 hV3
    dsimp only
    have hol2 := o_len o2
    refine WC.seq <| WC.region <| ?_
    refine WL.test (v_lss rfl rfl rfl) (.none rfl) rfl rfl (fun h86 => ?_) (fun h86 => ?_)
    ·
     refine WL.nt <| WC.seq <| WC.cond_t rfl <| WC.skip <| WE.then_n <| WC.seq <| WC.block <| WC.seq <| WC.region <| ?_
     obtain ⟨y, hy⟩ : ∃ y, o2 = some y := (by cases o2 with | none => exact absurd h86 (by show ¬ (j : Int) < ((0 : Nat) : Int); omega) | some y => exact ⟨y, rfl⟩)
     subst hy
     obtain rfl : j = 0 := (by have h86 : (j : Int) < ((1 : Nat) : Int) := h86; omega)
     obtain rfl := hj0 rfl
     rcases hV2 with ⟨-, hh, -⟩ | ⟨gy, cy, eady, eEy, hxy, hcly, hkcy⟩
     · cases hh
     rw [eEy, eady]
     have hkcy : 1 ≤ c2 := hkcy
     have hxy : cy.take (1 * 19) = hdL y := hxy
     refine WL.as (L' := .row gy cy :: (.row g12 (hdL g) :: (E3 ++ (.row g0 cs :: [.row g3 p.cells])))) rfl ?_
     refine WL.v (v_indexAddr (lo := 0) rfl rfl rfl Tryz.underlying64 sz_59 (by omega) (by omega)) rfl ?_
     refine WL.v (v_loadN (cs := hdL y) rfl rfl many_59 (hdL_len y) (segAt (m := 19) (by show (cy.drop (0 + 0 * 19)).take 19 = _; exact hxy))) rfl ?_
     refine WL.alloc rfl zero_59 (.none rfl) rfl rfl ?_
     intro g16 hg16
     refine WL.storeW rfl rfl rfl rfl many_59 rfl rfl (.none rfl) rfl <| WL.nt <| WC.seq <| WC.region <| WL.v (v_fieldAddr0 rfl rfl fld_59_0) rfl <| WL.v (v_load1 rfl rfl one_3 (cellAt (v := .int .i64 y.port) rfl)) rfl <| WL.v (v_fieldAddr0 rfl rfl fld_59_0) rfl <| WL.v (v_load1 rfl rfl one_3 (cellAt (v := .int .i64 g.port) rfl)) rfl <| ?_
     refine WL.test (v_eql rfl rfl rfl) (.none rfl) rfl rfl (fun h93 => ?_) (fun h93 => ?_)
     ·
      refine WL.nt <| WC.cond_t rfl <| WC.seq <| WC.region <| WL.v (v_fieldAddr0 rfl rfl fld_91_2) rfl <| WL.v (v_load1 rfl rfl one_88 (cellAt (v := .slice p.ma p.macs.length p.mc) rfl)) rfl <| WL.v (v_fieldAddr0 rfl rfl fld_59_0) rfl <| WL.v (v_load1 rfl rfl one_3 (cellAt (v := .int .i64 g.port) rfl)) rfl <| ?_
      refine WL.v (v_indexAddr (b := b3) (off := of3) (lo := gn) rfl (by show some (Value.slice p.ma _ _) = _; rw [ea3]) (by show some (Value.int .i64 g.port) = _; rw [hgn]) Tryz.underlying88 sz_55 rfl hml) rfl ?_
      refine WL.v (v_loadN (cs := mcL fm) rfl rfl many_55 (mcL_len fm) (rgIn (fun h => h) (Rg.seg mcL_len r3 hfm))) rfl <| WL.v (v_fieldAddr0 rfl rfl fld_59_2) rfl <| ?_
      refine WL.storeN rfl rfl rfl rfl many_55 rfl (by first | exact Nat.le_of_ble_eq_true rfl | simp) (.none rfl) rfl ?_
      refine WL.rowTo (g := g16) (cs' := hdL { y with dst := fm }) rfl <| WL.nt <| WC.region <| WL.v (v_move rfl rfl) rfl <| WL.v (v_loadN rfl rfl many_59 rfl allAt) rfl <| ?_
      refine WL.buildSlice rfl rfl Tryz.underlying64 sz_59 zero_59 rfl (by decide) (by show some (splice (List.replicate 1 _).flatten 0 (hdL { y with dst := fm })) = some (hdL { y with dst := fm }); exact congrArg some (splice_all rfl)) (.none rfl) rfl rfl ?_
      intro g103 hg103
      refine WL.to (L' := E3 ++ (.row g103 (hdL { y with dst := fm }) :: (.row gy cy :: (.row g12 (hdL g) :: (.row g0 cs :: [.row g3 p.cells]))))) (fun w hS => hS.dropX [.row g16 (hdL { y with dst := fm })]) ?_
      refine WL.appendL rfl rfl rfl Tryz.underlying64 Tryz.underlying64 sz_59 by_59 zero_59 rfl rfl hV3 (new := hdL { y with dst := fm }) (fun _ => ⟨g103, 0, rfl, fun w hS => allAt (g := g103) w hS⟩) rfl rfl (by show (3 * (0 + 1) + 1200) * 64 ≤ 281474976710656; omega) (.none rfl) rfl rfl ?_
      intro ad104 c104 E104 hV104 hr104
      refine WL.v (v_assign rfl rfl) rfl <| WL.nil <| WE.block_n <| WE.then_n <| WC.region <| ?_
      refine WL.v (v_add rfl rfl rfl (w_i64 (by omega) (by omega))) rfl ?_
      refine WL.v (v_move rfl rfl) rfl <| WL.nil <| WE.to (L' := .row gy cy :: (.row g12 (hdL g) :: (E104 ++ (.row g0 cs :: [.row g3 p.cells])))) (fun w hS => hS.dropX [.row g103 (hdL { y with dst := fm })]) <| ?_
      exact WE.next ⟨1, ad104, c104, E104, some { y with dst := fm }⟩ (by dsimp only; show 1 - 1 < 1 - 0; omega) ⟨Nat.le_refl _, fun h => (by cases h), fun _ => (by dsimp only; unfold goO; show _ = ((if decide (y.port = g.port) = true then some y else none).map _); rw [if_pos (decide_eq_true h93)]; rfl), by dsimp only; exact (by rw [List.append_nil]; exact hV104 : Vec 19 ad104 1 c104 (hdL { y with dst := fm } ++ []) E104)⟩ (.cons rfl (.cons rfl (.cons rfl (.cons rfl (.cons rfl (.cons rfl (.cons rfl (.cons rfl (.cons rfl .nil))))))))) (.refl _)
     ·
      refine WL.nt <| WC.cond_f rfl <| WC.skip <| WE.block_n <| WE.then_n <| WC.region <| ?_
      refine WL.v (v_add rfl rfl rfl (w_i64 (by omega) (by omega))) rfl ?_
      refine WL.v (v_move rfl rfl) rfl <| WL.nil <| WE.to (L' := .row gy cy :: (.row g12 (hdL g) :: (E3 ++ (.row g0 cs :: [.row g3 p.cells])))) (fun w hS => hS.dropX [.row g16 (hdL y)]) <| ?_
      exact WE.next ⟨1, ad3, c3, E3, none⟩ (by dsimp only; show 1 - 1 < 1 - 0; omega) ⟨Nat.le_refl _, fun h => (by cases h), fun _ => (by dsimp only; unfold goO; show _ = ((if decide (y.port = g.port) = true then some y else none).map _); rw [if_neg (fun q => h93 (of_decide_eq_true q))]; rfl), hV3⟩ (.cons rfl (.cons rfl (.cons rfl (.cons rfl (.cons rfl (.cons rfl (.cons rfl (.cons rfl (.cons rfl .nil))))))))) (.refl _)
    ·
     refine WL.nt <| WC.seq <| WC.cond_f rfl <| WC.exit <| WE.then_exit <| WE.then_exit <| WE.block_hit <| WE.block_n <| WE.then_n <| WC.region <| ?_
     refine WL.v (v_add rfl rfl rfl (w_i64 (by omega) (by omega))) rfl ?_
     refine WL.v (v_move rfl rfl) rfl <| WL.nil <| ?_
     have hrr : r = goO g fm o2 := (by
       cases o2 with
       | none =>
         obtain rfl := hj0 (by have : j ≤ 0 := hj; omega)
         rfl
       | some y => exact hj1 (by have h86 : ¬ (j : Int) < ((1 : Nat) : Int) := h86; have hj : j ≤ 1 := hj; omega))
     refine WE.to (L' := E3 ++ (.row g0 cs :: [.row g3 p.cells])) (fun w hS => hS.dropX (.row g12 (hdL g) :: E2)) ?_
     exact WE.next ⟨1, ad3, c3, E3, r⟩ (by dsimp only; omega) ⟨Nat.le_refl _, fun h => (by cases h), fun _ => hrr, hV3⟩ (.cons rfl (.cons rfl (.cons rfl (.cons rfl (.cons rfl .nil))))) (.refl _)
   ·
    refine WL.nt <| WC.seq <| WC.cond_f rfl <| WC.exit <| WE.then_exit <| WE.then_exit <| WE.block_hit <| WE.then_n <| WC.seq <| WC.region <| ?_
    obtain rfl : i = 1 := (by omega)
    obtain rfl := hr1 rfl
    refine WL.v (v_move rfl rfl) rfl <| WL.call rfl rfl ck_77 (.none rfl) rfl rfl <| ?_
    intro w hS
    refine Calls.then (Sort_s w ad1 (goO g fm o2).toList.length c1 (.func (.func 78) #[] #[]) (o_len _)) hS ?_
    refine WL.nt <| WC.seq <| WC.region <| WL.v (v_move rfl rfl) rfl <| WL.call rfl rfl ck_79 (.none rfl) rfl rfl <| ?_
    intro w hS
    refine Calls.then (Compact_s w ad1 (goO g fm o2).toList.length c1 (o_len _)) hS ?_
    refine WL.v (v_assign rfl rfl) rfl <| WL.v (v_assign rfl rfl) rfl <| WL.nt <| WC.ret <| WE.ret2 (P := Tryz.prog) (.inl rfl) Tryz.results34 rfl rfl <| ?_
    exact fun w' h => ⟨ad1, c1, E1, rfl, hV1, h.sub (List.sublist_append_left _ _)⟩
end Go.Proofs.YtkeonnnhogaggaaGreatDoor
/- stage: what a plan that was made of wishes makes of a header; the document's example. -/
namespace Go.Proofs.YtkeonnnhogaggaaGreatDoor
open Go.RowKit

theorem run1_er {t u : Nd} {H : Hd} {o : Option Hd} (h : er u = er t) (hw : (walkT t 1 false 0).1 = 0) (hok : H.okB = true) (hr : runT t H = some o.toList) : Run1 u H o := fun Rs q hq => by
  have hu : (walkT u 1 false 0).1 = 0 := by
    rw [walk_erD t u 16 1 false 0 (by rw [h, erD_er t 16 1 false 0 hw (by omega)]) (by omega)]
    exact hw
  unfold RunIs at hq
  rw [if_neg (by omega), if_neg (by rw [hok]; decide), runT_er t u H h, hr] at hq
  obtain ⟨rfl, hp, -⟩ := hq
  refine ⟨rfl, ?_⟩
  cases o with
  | none => exact hp.eq_nil
  | some x => exact List.perm_singleton.1 hp
structure PlnR (q : PlN) (Ps : List (Nd × Nd)) : Prop where
  outs : q.outs.map er = Ps.map fun x => er x.1
  ins : q.ins.map er = Ps.map fun x => er x.2
  macs : q.macs = (List.range Ps.length).map fun i : Nat => macN (i : Int)
theorem PlnR.len {q : PlN} {Ps : List (Nd × Nd)} (h : PlnR q Ps) : q.outs.length = Ps.length ∧ q.ins.length = Ps.length ∧ q.macs.length = Ps.length := by
  have h1 := congrArg List.length h.outs
  have h2 := congrArg List.length h.ins
  rw [List.length_map, List.length_map] at h1 h2
  exact ⟨h1, h2, by rw [h.macs, List.length_map, List.length_range]⟩
theorem map_get {α β γ : Type} {f : α → γ} {g : β → γ} {us : List α} {vs : List β} (h : us.map f = vs.map g) {i : Nat} {b : β} (hb : vs[i]? = some b) : ∃ a, us[i]? = some a ∧ f a = g b := by
  have e := congrArg (fun l => l[i]?) h
  rw [List.getElem?_map, List.getElem?_map, hb] at e
  cases ha : us[i]? with
  | none => rw [ha] at e; cases e
  | some a => rw [ha] at e; exact ⟨a, rfl, by injection e⟩
def stayN (n : Nat) (k : Ky3) (port : Int) : Prop := (0 ≤ port ∧ port < n) ∧ picksF k port
instance (n : Nat) (k : Ky3) (port : Int) : Decidable (stayN n k port) := by unfold stayN; infer_instance
def goN (n : Nat) (k : Ky3) (H : Hd) (o : Option Hd) : Hd := (o.filter fun x => decide (stayN n k x.port)).getD { H with port := k.best }
theorem PlnR.has {q : PlN} {Ps : List (Nd × Nd)} (h : PlnR q Ps) (i : Int) : hasF q i ↔ 0 ≤ i ∧ i < Ps.length := by
  obtain ⟨a, b, c⟩ := h.len
  unfold hasF
  rw [a, b, c]
  constructor
  · rintro ⟨x, y, -, -⟩; exact ⟨x, y⟩
  · rintro ⟨x, y⟩; exact ⟨x, y, y, y⟩
theorem PlnR.goG {q : PlN} {Ps : List (Nd × Nd)} (h : PlnR q Ps) (k : Ky3) (H : Hd) (o : Option Hd) : YtkeonnnhogaggaaGreatDoor.goG q k H o = goN Ps.length k H o := by
  have e : (fun x : Hd => !decide (¬ stayF q k x.port)) = fun x : Hd => decide (stayN Ps.length k x.port) := by
    funext x
    by_cases hs : stayN Ps.length k x.port
    · rw [decide_eq_true hs, decide_eq_false (fun hn => hn ⟨(h.has _).2 hs.1, hs.2⟩)]; rfl
    · rw [decide_eq_false hs, decide_eq_true (p := ¬ stayF q k x.port) (fun hy => hs ⟨(h.has _).1 hy.1, hy.2⟩)]; rfl
  unfold YtkeonnnhogaggaaGreatDoor.goG goN
  rw [e]
/-- What a plan that was made of wishes makes of a header. -/
theorem Goes2_c (w : World) (q : PlN) (Ps : List (Nd × Nd)) (hq : PlnR q Ps) (hA : q.At w) (hI : q.In) (hG : GW w) (H : Hd) (hH : H.In) (hok : H.okB = true) (fn bn : Nat) (may : Int) (hb : bn < Ps.length) (hport : H.port = fn) (tf tf' : Nd) (htf : Ps[fn]? = some (tf, tf')) (hwf : (walkT tf 1 false 0).1 = 0) (o : Option Hd) (hr : runT tf H = some o.toList) (g : Hd) (hg : goN Ps.length ⟨fn, bn, may⟩ H o = g) (hgI : g.In) (hgok : g.okB = true) (gn : Nat) (hgn : g.port = gn) (ti ti' : Nd) (hti : Ps[gn]? = some (ti', ti)) (hwi : (walkT ti 1 false 0).1 = 0) (o2 : Option Hd) (hr2 : runT ti g = some o2.toList) :
    Calls Tryz.prog 34 #[.agg q.cells.toArray, .agg (hdCells H), .agg (Ky3.cells ⟨fn, bn, may⟩).toArray] w fun e w' => ∃ ad c E, e = .returned (.tuple #[.slice ad (goO g (macN gn) o2).toList.length c, .int .i64 0]) ∧ Vec 19 ad (goO g (macN gn) o2).toList.length c (oL (goO g (macN gn) o2)) E ∧ St (fun _ => False) w w' E := by
  obtain ⟨uf, huf, ef⟩ := map_get hq.outs htf
  obtain ⟨ui, hui, ei⟩ := map_get hq.ins hti
  have hfl := (List.getElem?_eq_some_iff.1 htf).1
  have hgl := (List.getElem?_eq_some_iff.1 hti).1
  exact Goes1_c w q hA hI hG H hH fn bn may ((hq.has _).2 ⟨by omega, by omega⟩) ((hq.has _).2 ⟨by omega, by omega⟩) hport uf huf o (run1_er ef hwf hok hr) g (by rw [hq.goG]; exact hg) hgI gn hgn ui hui o2 (run1_er ei hwi hgok hr2) (macN gn) (by
    rw [hq.macs, List.getElem?_map, List.getElem?_range hgl]; rfl)
def makeW (Ps : List (Nd × Nd)) : Prop := 0 < Ps.length ∧ Ps.length ≤ 16 ∧ errs codeC (Ps.map (·.1)) = 0 ∧ errs codeC (Ps.map (·.2)) = 0
theorem makeE_zero {p : PlN} {Ps : List (Nd × Nd)} (h1 : p.outs = Ps.map (·.1)) (h2 : p.ins = Ps.map (·.2)) (h3 : p.macs = (List.range Ps.length).map fun i : Nat => macN (i : Int)) (hm : makeW Ps) : makeE p = 0 := by
  obtain ⟨a, b, c, d⟩ := hm
  unfold makeE
  rw [if_neg (by unfold makeF; rw [h1, h2, h3, List.length_map, List.length_map, List.length_map, List.length_range]; omega), h1, h2, c]
  rw [if_neg (fun k => k rfl)]
  exact d
theorem PlnR.of {p q : PlN} {Ps : List (Nd × Nd)} (h1 : p.outs = Ps.map (·.1)) (h2 : p.ins = Ps.map (·.2)) (h3 : p.macs = (List.range Ps.length).map fun i : Nat => macN (i : Int)) (hq : q.outs.map er = p.outs.map er ∧ q.ins.map er = p.ins.map er ∧ q.macs = p.macs) : PlnR q Ps :=
  ⟨by rw [hq.1, h1, List.map_map]; rfl, by rw [hq.2.1, h2, List.map_map]; rfl, by rw [hq.2.2, h3]⟩
end Go.Proofs.YtkeonnnhogaggaaGreatDoor
/- stage: the document's example. -/
namespace Go.Proofs.YtkeonnnhogaggaaGreatDoor
open Go.RowKit

theorem wshAt_row {w : World} {g : Nat} {Ps : List (Nd × Nd)} (hr : w.rangeAt g 0 (encL wishL Ps)) (h : ∀ x ∈ Ps, x.1.At w ∧ x.2.At w) : WshAt w (some ⟨g, 0, none⟩) Ps := ⟨fun _ => ⟨g, 0, rfl, hr⟩, h⟩
theorem rowRg {w : World} {g : Nat} {cs : List Value} (h : (Ent.row g cs).holds w) : w.rangeAt g 0 cs := fun j v hj => by
  rw [Nat.zero_add]; exact Row.cell h hj
abbrev psX (g g' : Nat) : List (Nd × Nd) := [(webN g g' 2, idN), (idN, idN), (idN, idN)]
theorem idN_in : idN.In := Nd.In_mk (by omega) (by omega) (by omega) (by omega) (by show 0 ≤ _; omega) KidsIn.nil
theorem psX_in (g g' : Nat) : ∀ x ∈ psX g g', x.1.In ∧ x.2.In := fun x hx => by
  rcases List.mem_cons.1 hx with rfl | hx
  · exact ⟨webN_in g g' 2, idN_in⟩
  rcases List.mem_cons.1 hx with rfl | hx
  · exact ⟨idN_in, idN_in⟩
  rcases List.mem_cons.1 hx with rfl | hx
  · exact ⟨idN_in, idN_in⟩
  cases hx
theorem psX_at {w : World} {g g' : Nat} (h : w.rangeAt g' 0 (ndL (exT g) ++ ndL (fwdN (2 % 256)))) (h2 : w.rangeAt g 0 (ndL tst80)) : ∀ x ∈ psX g g', x.1.At w ∧ x.2.At w := fun x hx => by
  rcases List.mem_cons.1 hx with rfl | hx
  · exact ⟨webN_at h h2, Nd.At_leaf⟩
  rcases List.mem_cons.1 hx with rfl | hx
  · exact ⟨Nd.At_leaf, Nd.At_leaf⟩
  rcases List.mem_cons.1 hx with rfl | hx
  · exact ⟨Nd.At_leaf, Nd.At_leaf⟩
  cases hx
theorem id_lt : Lt idN := fun _ _ _ => by
  have : (weighT idN).1 = 1 := by kernel_rfl
  omega
theorem web_lt (g g' : Nat) : Lt (webN g g' 2) := fun _ _ _ => by
  have : (weighT (webN g g' 2)).1 = 2 := by kernel_rfl
  omega
theorem psX_lt1 (g g' : Nat) : ∀ t ∈ (psX g g').map (·.1), Lt t := fun t ht => by
  rcases List.mem_cons.1 ht with rfl | ht
  · exact web_lt g g'
  rcases List.mem_cons.1 ht with rfl | ht
  · exact id_lt
  rcases List.mem_cons.1 ht with rfl | ht
  · exact id_lt
  cases ht
theorem psX_lt2 (g g' : Nat) : ∀ t ∈ (psX g g').map (·.2), Lt t := fun t ht => by
  rcases List.mem_cons.1 ht with rfl | ht
  · exact id_lt
  rcases List.mem_cons.1 ht with rfl | ht
  · exact id_lt
  rcases List.mem_cons.1 ht with rfl | ht
  · exact id_lt
  cases ht
theorem psX_make (g g' : Nat) : makeW (psX g g') := ⟨by show 0 < 3; omega, by show 3 ≤ 16; omega, by kernel_rfl, by kernel_rfl⟩
def hX (d : Int) : Hd := { Hd.zero with ty := 2048, dp := d }
theorem hX_in : (hX 80).In ∧ (hX 81).In := ⟨by constructor <;> (try intro k) <;> first | decide | exact ⟨Int.le_refl _, (by decide : (0 : Int) ≤ 255)⟩, by constructor <;> (try intro k) <;> first | decide | exact ⟨Int.le_refl _, (by decide : (0 : Int) ≤ 255)⟩⟩
theorem web_walk (g g' : Nat) : (walkT (webN g g' 2) 1 false 0).1 = 0 := by kernel_rfl
theorem id_walk : (walkT idN 1 false 0).1 = 0 := by kernel_rfl
theorem id_run (H : Hd) : runT idN H = some [H] := by kernel_rfl
abbrev hY : Hd := { hX 80 with port := 2 }
abbrev hZ : Hd := { hX 81 with port := 1 }
theorem hY_in : hY.In := { hX_in.1 with port := by decide }
theorem hZ_in : hZ.In := { hX_in.2 with port := by decide }
theorem web_run80 (g g' : Nat) : runT (webN g g' 2) (hX 80) = some [hY] := by kernel_rfl
theorem web_run81 (g g' : Nat) : runT (webN g g' 2) (hX 81) = some [] := by kernel_rfl
set_option maxRecDepth 8000 in
set_option maxHeartbeats 4000000 in
theorem Ex24_c (w0 : World) (hG : GW w0) : Calls Tryz.prog 29 #[] w0 fun e w' => e = .returned (.bool true) ∧ Frm (fun _ => False) w0 w' := by
  refine enter Tryz.func29 rfl Tryz.ntmps29 rfl (St.start (fun _ => False) w0) ?_
  refine WC.seq <| WC.region <| WL.v (v_assign rfl rfl) rfl <| WL.nt <| WC.seq <| WC.region <| WL.call rfl rfl ck_68 (.none rfl) rfl rfl <| ?_
  intro w1 hS
  refine (web_c w1 2).mono ?_
  rintro e w' ⟨g, g', rfl, hS'⟩
  refine ⟨_, _, rfl, hS.join hS', ?_⟩
  refine WL.call rfl rfl ck_30 (.none rfl) rfl rfl ?_
  intro w hS
  refine Calls.then (id_c w) hS ?_
  refine WL.v (v_build rfl rfl zero_87 plc_87 rfl) rfl <| WL.call rfl rfl ck_30 (.none rfl) rfl rfl <| ?_
  intro w hS
  refine Calls.then (id_c w) hS ?_
  refine WL.call rfl rfl ck_30 (.none rfl) rfl rfl ?_
  intro w hS
  refine Calls.then (id_c w) hS ?_
  refine WL.v (v_build rfl rfl zero_87 plc_87 rfl) rfl <| WL.call rfl rfl ck_30 (.none rfl) rfl rfl <| ?_
  intro w hS
  refine Calls.then (id_c w) hS ?_
  refine WL.call rfl rfl ck_30 (.none rfl) rfl rfl ?_
  intro w hS
  refine Calls.then (id_c w) hS ?_
  refine WL.v (v_build rfl rfl zero_87 plc_87 rfl) rfl ?_
  refine WL.buildSlice rfl rfl Tryz.underlying84 sz_87 zero_87 rfl (by decide) rfl (.none rfl) rfl rfl ?_
  intro g18 hg18
  refine WL.as (L' := [.row g18 (encL wishL (psX g g')), .row g' (ndL (exT g) ++ ndL (fwdN (2 % 256))), .row g (ndL tst80)]) rfl <| WL.call rfl rfl ck_31 (.none rfl) rfl rfl <| ?_
  intro w1 hS
  have hWs : ∀ L : List Ent, (∀ e ∈ [.row g18 (encL wishL (psX g g')), .row g' (ndL (exT g) ++ ndL (fwdN (2 % 256))), .row g (ndL tst80)], e ∈ L) → ∀ w2, St (fun _ => False) w0 w2 L → WshAt w2 (some ⟨g18, 0, none⟩) (psX g g') := fun L hL w2 h2 => wshAt_row (rowRg (h2.holds _ (hL (.row g18 (encL wishL (psX g g'))) (List.mem_cons_self ..)))) (psX_at (rowRg (h2.holds _ (hL (.row g' (ndL (exT g) ++ ndL (fwdN (2 % 256)))) (List.mem_cons_of_mem _ (List.mem_cons_self ..))))) (rowRg (h2.holds _ (hL (.row g (ndL tst80)) (List.mem_cons_of_mem _ (List.mem_cons_of_mem _ (List.mem_cons_self ..)))))))
  refine (plan_c w1 (some ⟨g18, 0, none⟩) 3 (psX g g') (hWs _ (fun e he => he) w1 hS) (psX_in g g') (by show 3 ≤ 1000; omega)).mono ?_
  rintro e w' ⟨p, M, rfl, p1, p2, p3, hpA, hpI, hS'⟩
  refine ⟨_, _, rfl, hS.join hS', ?_⟩
  refine WL.call rfl rfl ck_32 (.none rfl) rfl rfl ?_
  intro w1 hS
  refine (Make_c w1 p (hpA w1 (fun e he => hS.holds e (List.mem_append_left _ he)) (hWs _ (fun e he => List.mem_append_right _ he) w1 hS)) hpI (hG.keep (fun h => h) hS) (fun t ht => by rw [p1] at ht; exact psX_lt1 g g' t ht) (fun t ht => by rw [p2] at ht; exact psX_lt2 g g' t ht)).mono ?_
  rintro e w' ⟨q, M2, rfl, hq, -, hqA, hqI, hS'⟩
  rw [makeE_zero p1 p2 p3 (psX_make g g')] at hq ⊢
  have hP : PlnR q (psX g g') := PlnR.of p1 p2 p3 (hq rfl)
  refine ⟨_, M2, rfl, (hS.join hS').sub (List.sublist_append_left _ _), ?_⟩
  refine WL.v (v_move rfl rfl) rfl <| WL.v (v_extract rfl rfl rfl) rfl <| WL.v (v_extract rfl rfl rfl) rfl <| WL.alloc rfl zero_91 (.none rfl) rfl rfl <| ?_
  intro g1 hg1
  refine WL.storeW rfl rfl rfl rfl many_91 rfl rfl (.none rfl) rfl <| WL.as (L' := .row g1 q.cells :: M2) rfl <| WL.v (v_assign rfl rfl) rfl <| WL.nt <| WC.seq <| WC.region <| WL.v (v_build rfl rfl zero_83 plc_83 rfl) rfl <| WL.alloc rfl zero_83 (.none rfl) rfl rfl <| ?_
  intro g3 hg3
  refine WL.storeW rfl rfl rfl rfl many_83 rfl rfl (.none rfl) rfl <| WL.as (L' := .row g3 (Ky3.cells ⟨0, 1, 6⟩) :: .row g1 q.cells :: M2) rfl <| WL.nt <| WC.seq <| WC.seq <| WC.region <| WL.v (v_move rfl rfl) rfl <| ?_
  refine WL.v ((v_neq rfl rfl rfl).f (by omega)) rfl ?_
  refine WL.nt <| WC.cond_f rfl <| WC.skip <| WE.then_n <| WC.seq <| WC.region <| WL.v (v_loadN rfl rfl many_91 rfl allAt) rfl <| WL.v (v_build rfl rfl zero_59 plc_59 rfl) rfl <| WL.v (v_loadN rfl rfl many_83 rfl allAt) rfl <| WL.call rfl rfl ck_34 (.none rfl) rfl rfl <| ?_
  intro w1 hS
  refine (Goes2_c w1 q (psX g g') hP (hqA w1 fun e he => hS.holds e (List.mem_cons_of_mem _ (List.mem_cons_of_mem _ he))) hqI (hG.keep (fun h => h) hS) (hX 80) hX_in.1 (by decide) 0 1 6 (by show 1 < 3; omega) rfl _ _ rfl (web_walk g g') (some hY) (web_run80 g g') hY (by kernel_rfl) hY_in (by decide) 2 rfl _ _ rfl id_walk (some hY) (id_run hY)).mono ?_
  rintro e w' ⟨ad, c, E, rfl, hV, hS'⟩
  rw [show goO hY (macN ((2 : Nat) : Int)) (some hY) = some { hY with dst := macN 2 } from rfl] at hV ⊢
  obtain ⟨ga, Ra, eaa, eEa, -, -⟩ := Vec.split (enc := hdL) hV (fun h => by cases h)
  subst eaa eEa
  refine ⟨.tuple #[.slice (some ⟨ga, 0, none⟩) 1 c, .int .i64 0], .row ga (hdL { hY with dst := macN 2 } ++ Ra) :: (.row g3 (Ky3.cells ⟨0, 1, 6⟩) :: .row g1 q.cells :: M2), rfl, hS.join hS', ?_⟩
  refine WL.v (v_move rfl rfl) rfl <| WL.v (v_extract rfl rfl rfl) rfl <| WL.v (v_extract rfl rfl rfl) rfl <| WL.v (v_assign rfl rfl) rfl <| WL.v (v_assign rfl rfl) rfl <| WL.nt <| WC.seq <| WC.region <| WL.v (v_loadN rfl rfl many_91 rfl allAt) rfl <| WL.v (v_build rfl rfl zero_59 plc_59 rfl) rfl <| WL.v (v_loadN rfl rfl many_83 rfl allAt) rfl <| WL.call rfl rfl ck_34 (.none rfl) rfl rfl <| ?_
  intro w1 hS
  refine (Goes2_c w1 q (psX g g') hP (hqA w1 fun e he => hS.holds e (List.mem_cons_of_mem _ (List.mem_cons_of_mem _ (List.mem_cons_of_mem _ he)))) hqI (hG.keep (fun h => h) hS) (hX 81) hX_in.2 (by decide) 0 1 6 (by show 1 < 3; omega) rfl _ _ rfl (web_walk g g') none (web_run81 g g') hZ (by kernel_rfl) hZ_in (by decide) 1 rfl _ _ rfl id_walk (some hZ) (id_run hZ)).mono ?_
  rintro e w' ⟨ad2, c2, E2, rfl, hV2, hS'⟩
  rw [show goO hZ (macN ((1 : Nat) : Int)) (some hZ) = some { hZ with dst := macN 1 } from rfl] at hV2 ⊢
  obtain ⟨gb, Rb, eab, eEb, -, -⟩ := Vec.split (enc := hdL) hV2 (fun h => by cases h)
  subst eab eEb
  refine ⟨.tuple #[.slice (some ⟨gb, 0, none⟩) 1 c2, .int .i64 0], .row gb (hdL { hZ with dst := macN 1 } ++ Rb) :: (.row ga (hdL { hY with dst := macN 2 } ++ Ra) :: (.row g3 (Ky3.cells ⟨0, 1, 6⟩) :: .row g1 q.cells :: M2)), rfl, hS.join hS', ?_⟩
  refine WL.v (v_move rfl rfl) rfl <| WL.v (v_extract rfl rfl rfl) rfl <| WL.v (v_extract rfl rfl rfl) rfl <| WL.v (v_assign rfl rfl) rfl <| WL.v (v_assign rfl rfl) rfl <| WL.nt <| WC.seq <| ?_
  refine WC.quiet mixed (by kernel_rfl) ?_
  refine WQ.val (v_move rfl rfl) (.none rfl) rfl rfl <| WQ.val ((v_eql rfl rfl rfl).t (rfl)) (.none rfl) rfl rfl <| WQ.val (v_move rfl rfl) (.none rfl) rfl rfl <| WQ.val (v_move rfl rfl) (.some rfl rfl rfl) rfl rfl <| WQ.val ((v_eql rfl rfl rfl).t (rfl)) (.some rfl rfl rfl) rfl rfl <| WQ.val (v_pick_t rfl rfl rfl) (.none rfl) rfl rfl <| WQ.val (v_move rfl rfl) (.none rfl) rfl rfl <| WQ.val (v_move rfl rfl) (.some rfl rfl rfl) rfl rfl <| WQ.val (v_len_slice rfl rfl Tryz.underlying64) (.some rfl rfl rfl) rfl rfl <| WQ.val ((v_eql rfl rfl rfl).t (rfl)) (.some rfl rfl rfl) rfl rfl <| WQ.val (v_pick_t rfl rfl rfl) (.none rfl) rfl rfl <| WQ.val (v_move rfl rfl) (.none rfl) rfl rfl <| WQ.val (v_move rfl rfl) (.some rfl rfl rfl) rfl rfl <| ?_
  refine WQ.val (v_indexAddr (lo := 0) rfl rfl rfl Tryz.underlying64 sz_59 rfl (by omega)) (.some rfl rfl rfl) rfl rfl ?_
  refine WQ.val (v_fieldAddr rfl rfl fld_59_0) (.some rfl rfl rfl) rfl rfl <| WQ.val (v_load1 rfl rfl one_3 (cellAt (v := .int .i64 2) rfl)) (.some rfl rfl rfl) rfl rfl <| WQ.val ((v_eql rfl rfl rfl).t (rfl)) (.some rfl rfl rfl) rfl rfl <| WQ.val (v_pick_t rfl rfl rfl) (.none rfl) rfl rfl <| WQ.val (v_move rfl rfl) (.none rfl) rfl rfl <| WQ.val (v_move rfl rfl) (.some rfl rfl rfl) rfl rfl <| ?_
  refine WQ.val (v_indexAddr (lo := 0) rfl rfl rfl Tryz.underlying64 sz_59 rfl (by omega)) (.some rfl rfl rfl) rfl rfl ?_
  refine WQ.val (v_fieldAddr rfl rfl fld_59_2) (.some rfl rfl rfl) rfl rfl <| WQ.val (v_loadN (cs := mcL (macN 2)) rfl rfl many_55 rfl (segAt (m := 6) rfl)) (.some rfl rfl rfl) rfl rfl <| WQ.call _ rfl rfl ck_35 (.some rfl rfl rfl) rfl rfl (fun w hS => Calls.still (mac_c w 2) hS) <| WQ.val (v_eql_aggT rfl rfl rfl eqk_55 eqg_55 rfl rfl rfl) (.some rfl rfl rfl) rfl rfl <| ?_
  skip
  refine WQ.val (v_pick_t rfl rfl rfl) (.none rfl) rfl rfl <| WQ.val (v_move rfl rfl) (.none rfl) rfl rfl <| WQ.val (v_move rfl rfl) (.some rfl rfl rfl) rfl rfl <| WQ.val (v_len_slice rfl rfl Tryz.underlying64) (.some rfl rfl rfl) rfl rfl <| WQ.val ((v_eql rfl rfl rfl).t (rfl)) (.some rfl rfl rfl) rfl rfl <| WQ.val (v_pick_t rfl rfl rfl) (.none rfl) rfl rfl <| WQ.val (v_move rfl rfl) (.none rfl) rfl rfl <| WQ.val (v_move rfl rfl) (.some rfl rfl rfl) rfl rfl <| ?_
  refine WQ.val (v_indexAddr (lo := 0) rfl rfl rfl Tryz.underlying64 sz_59 rfl (by omega)) (.some rfl rfl rfl) rfl rfl ?_
  refine WQ.val (v_fieldAddr rfl rfl fld_59_0) (.some rfl rfl rfl) rfl rfl <| WQ.val (v_load1 rfl rfl one_3 (cellAt (v := .int .i64 1) rfl)) (.some rfl rfl rfl) rfl rfl <| WQ.val ((v_eql rfl rfl rfl).t (rfl)) (.some rfl rfl rfl) rfl rfl <| WQ.val (v_pick_t rfl rfl rfl) (.none rfl) rfl rfl <| WQ.val (v_assign rfl rfl) (.none rfl) rfl rfl <| WQ.nil <| WE.then_n <| WC.ret <| WE.ret1 (P := Tryz.prog) (.inl rfl) Tryz.results29 rfl <| ?_
  exact fun w' h => ⟨rfl, h.frm⟩
end Go.Proofs.YtkeonnnhogaggaaGreatDoor
/- StageBest: with no wishes all goes to who is best. -/
namespace Go.Proofs.YtkeonnnhogaggaaGreatDoor
open Go.RowKit

theorem okB_port {H : Hd} {v : Int} (h : H.okB = true) (h0 : 0 ≤ v) (h1 : v ≤ 255) : ({ H with port := v } : Hd).okB = true :=
  (okB_with (k := 0) (by omega) h0 (by rw [show fullI 0 = 255 by decide]; exact h1) h : (wthF 0 v H).okB = true)
theorem in_port {H : Hd} {v : Int} (h : H.In) (h0 : -9223372036854775808 ≤ v) (h1 : v ≤ 9223372036854775807) : ({ H with port := v } : Hd).In := { h with port := ⟨h0, h1⟩ }
structure WsS where
  Ps : List (Nd × Nd)
  ad : Option Addr
  c : Nat
  E : List Ent
theorem id_code : codeC idN = 0 := by kernel_rfl
theorem goO_self (G : Hd) (f : Nat → Int) : goO G f (some G) = some { G with dst := f } := by
  show ((if decide (G.port = G.port) = true then some G else none).map _) = _
  rw [if_pos (decide_eq_true rfl)]; rfl
end Go.Proofs.YtkeonnnhogaggaaGreatDoor
/- StageNone: who wants nothing is sent nothing; who may not be chosen isn't. -/
namespace Go.Proofs.YtkeonnnhogaggaaGreatDoor
open Go.RowKit

abbrev drN : Nd := .mk 11 0 0 0 none 0 []
abbrev fwN (tn : Nat) : Nd := fwdN ((1 + (tn : Int)) % 256)
theorem drN_in : drN.In := Nd.In_mk (by omega) (by omega) (by omega) (by omega) (by show 0 ≤ _; omega) KidsIn.nil
theorem drop_walk : (walkT drN 1 false 0).1 = 0 := by kernel_rfl
theorem drop_run (H : Hd) : runT drN H = some [] := by kernel_rfl
theorem drop_lt : Lt drN := fun _ _ _ => by
  have : (weighT drN).1 = 1 := by kernel_rfl
  omega
theorem drop_code : codeC drN = 0 := by kernel_rfl
theorem fw_lt {tn : Nat} (h : tn ≤ 1) : Lt (fwN tn) := fun _ _ _ => by
  match tn, h with
  | 0, _ => have : (weighT (fwN 0)).1 = 1 := (by kernel_rfl); omega
  | 1, _ => have : (weighT (fwN 1)).1 = 1 := (by kernel_rfl); omega
theorem fw_code {tn : Nat} (h : tn ≤ 1) : codeC (fwN tn) = 0 := by
  match tn, h with
  | 0, _ => show codeC (fwN 0) = 0; kernel_rfl
  | 1, _ => show codeC (fwN 1) = 0; kernel_rfl
theorem fw_walk {tn : Nat} (h : tn ≤ 1) : (walkT (fwN tn) 1 false 0).1 = 0 := by
  match tn, h with
  | 0, _ => show (walkT (fwN 0) 1 false 0).1 = 0; kernel_rfl
  | 1, _ => show (walkT (fwN 1) 1 false 0).1 = 0; kernel_rfl
theorem fw_run {tn : Nat} (h : tn ≤ 1) (H : Hd) : runT (fwN tn) H = some [{ H with port := 1 + (tn : Int) }] := by
  match tn, h with
  | 0, _ => show runT (fwN 0) H = some [{ H with port := 1 + ((0 : Nat) : Int) }]; kernel_rfl
  | 1, _ => show runT (fwN 1) H = some [{ H with port := 1 + ((1 : Nat) : Int) }]; kernel_rfl
abbrev psN (tn : Nat) (Qs : List (Nd × Nd)) : List (Nd × Nd) := (fwN tn, idN) :: (idN, idN) :: (idN, drN) :: Qs
theorem psN_all {P : Nd × Nd → Prop} {tn : Nat} {Qs : List (Nd × Nd)} (hQ : ∀ y ∈ Qs, y = (idN, idN)) (h1 : P (fwN tn, idN)) (h2 : P (idN, idN)) (h3 : P (idN, drN)) : ∀ x ∈ psN tn Qs, P x := fun x hx => by
  rcases List.mem_cons.1 hx with rfl | hx
  · exact h1
  rcases List.mem_cons.1 hx with rfl | hx
  · exact h2
  rcases List.mem_cons.1 hx with rfl | hx
  · exact h3
  rw [hQ x hx]; exact h2
theorem psN_make {tn : Nat} (ht : tn ≤ 1) {Qs : List (Nd × Nd)} (hQ : ∀ y ∈ Qs, y = (idN, idN)) (hl : Qs.length ≤ 1) : makeW (psN tn Qs) := ⟨by show 0 < Qs.length + 3; omega, by show Qs.length + 3 ≤ 16; omega, errs_zero.2 fun t h => by
    obtain ⟨x, hx, rfl⟩ := List.mem_map.1 h
    exact psN_all (P := fun x => codeC x.1 = 0) hQ (fw_code ht) id_code id_code x hx, errs_zero.2 fun t h => by
    obtain ⟨x, hx, rfl⟩ := List.mem_map.1 h
    exact psN_all (P := fun x => codeC x.2 = 0) hQ id_code id_code drop_code x hx⟩
theorem psN_at {w : World} {g : Nat} {tn : Nat} {Qs : List (Nd × Nd)} {R : List Value} (hQ : ∀ y ∈ Qs, y = (idN, idN)) (h : w.rangeAt g 0 (encL wishL (psN tn Qs) ++ R)) : WshAt w (some ⟨g, 0, none⟩) (psN tn Qs) :=
  wshAt_row (fun j v hj => h j v (by rw [List.getElem?_append_left (List.getElem?_eq_some_iff.1 hj).1]; exact hj)) (psN_all (P := fun x => x.1.At w ∧ x.2.At w) hQ ⟨Nd.At_leaf, Nd.At_leaf⟩ ⟨Nd.At_leaf, Nd.At_leaf⟩ ⟨Nd.At_leaf, Nd.At_leaf⟩)
theorem psN_set (tn : Nat) (Qs : List (Nd × Nd)) (R : List Value) : splice (encL wishL ((fwN tn, idN) :: (idN, idN) :: (idN, idN) :: Qs) ++ R) 25 (ndL drN) = encL wishL (psN tn Qs) ++ R := by
  rw [splice_eq _ _ _ (by rw [List.length_append, encL_len wishL_len]; show 25 + 5 ≤ (Qs.length + 3) * 10 + _; omega)]
  rfl
theorem GoesNone_c (w : World) (q : PlN) (tn : Nat) (ht : tn ≤ 1) (Qs : List (Nd × Nd)) (hq : PlnR q (psN tn Qs)) (hA : q.At w) (hI : q.In) (hG : GW w) (H : Hd) (hH : H.In) (hok : H.okB = true) (may : Int) (hport : H.port = 0) :
    Calls Tryz.prog 34 #[.agg q.cells.toArray, .agg (hdCells H), .agg (Ky3.cells ⟨0, 1, may⟩).toArray] w fun e w' => ∃ ad c E, ∃ o : Option Hd, e = .returned (.tuple #[.slice ad o.toList.length c, .int .i64 0]) ∧ Vec 19 ad o.toList.length c (oL o) E ∧ (tn = 1 → canF may 2 → o = none) ∧ (¬ (tn = 1 ∧ canF may 2) → o = some { H with port := 1, dst := macN 1 }) ∧ St (fun _ => False) w w' E := by
  have hl3 : (psN tn Qs).length = Qs.length + 3 := rfl
  by_cases hc : tn = 1 ∧ canF may 2
  · obtain ⟨rfl, hc⟩ := hc
    have hs : stayN (psN 1 Qs).length ⟨0, 1, may⟩ 2 := ⟨⟨by omega, by omega⟩, by show (2 : Int) ≠ 0; omega, hc⟩
    refine (Goes2_c w q _ hq hA hI hG H hH hok 0 1 may (by omega) hport _ _ rfl (fw_walk ht) (some { H with port := 2 }) (fw_run ht H) { H with port := 2 } ?_ (in_port hH (by omega) (by omega)) (okB_port hok (by omega) (by omega)) 2 rfl _ _ rfl drop_walk none (drop_run _)).mono ?_
    · show ((if decide (stayN (psN 1 Qs).length ⟨0, 1, may⟩ 2) = true then some _ else none).getD _) = _
      rw [if_pos (decide_eq_true hs)]; rfl
    · rintro e w' ⟨ad, c, E, rfl, hV, hS'⟩
      exact ⟨ad, c, E, none, rfl, hV, fun _ _ => rfl, fun k => absurd ⟨rfl, hc⟩ k, hS'⟩
  · refine (Goes2_c w q _ hq hA hI hG H hH hok 0 1 may (by omega) hport _ _ rfl (fw_walk ht) (some { H with port := 1 + (tn : Int) }) (fw_run ht H) { H with port := 1 } ?_ (in_port hH (by omega) (by omega)) (okB_port hok (by omega) (by omega)) 1 rfl _ _ rfl id_walk (some { H with port := 1 }) (id_run _)).mono ?_
    · show ((if decide (stayN (psN tn Qs).length ⟨0, 1, may⟩ (1 + (tn : Int))) = true then some _ else none).getD _) = _
      by_cases hs : stayN (psN tn Qs).length ⟨0, 1, may⟩ (1 + (tn : Int))
      · rw [if_pos (decide_eq_true hs)]
        match tn, ht with
        | 0, _ => rfl
        | 1, _ => exact absurd ⟨rfl, hs.2.2⟩ hc
      · rw [if_neg (fun k => hs (of_decide_eq_true k))]; rfl
    · rintro e w' ⟨ad, c, E, rfl, hV, hS'⟩
      rw [goO_self] at hV ⊢
      exact ⟨ad, c, E, _, rfl, hV, fun k1 k2 => absurd ⟨k1, k2⟩ hc, fun _ => rfl, hS'⟩
set_option maxRecDepth 8000 in
set_option maxHeartbeats 4000000 in
theorem StageNone_all (w0 : World) (hG : GW w0) (n to may : Int) (H : Hd) (hH : H.In) : Calls Tryz.prog 9 #[.int .i64 n, .int .i64 to, .int .i64 may, .agg (hdCells H)] w0 fun e w' => e = .returned (.bool true) ∧ Frm (fun _ => False) w0 w' := by
  obtain ⟨m, hm⟩ : ∃ m : Nat, n % 2 = m := ⟨(n % 2).toNat, by omega⟩
  have hm1 : m ≤ 1 := by omega
  obtain ⟨tn, htn⟩ : ∃ m : Nat, to % 2 = m := ⟨(to % 2).toNat, by omega⟩
  have ht : tn ≤ 1 := by omega
  have hH0 : ({ H with port := 0 } : Hd).In := in_port hH (by omega) (by omega)
  refine enter Tryz.func9 rfl Tryz.ntmps9 rfl (St.start (fun _ => False) w0) ?_
  refine WC.seq <| WC.region <| WL.box rfl rfl rfl (.none rfl) rfl rfl <| ?_
  intro g7 hg7
  refine WL.v (v_assign rfl rfl) rfl <| WL.nt <| WC.seq <| WC.seq <| WC.region <| WL.call rfl rfl ck_29 (.none rfl) rfl rfl <| ?_
  intro w hS
  refine Calls.then (Ex24_c w (hG.keep (fun h => h) hS)) hS ?_
  refine WL.v (v_not rfl rfl rfl) rfl <| WL.nt <| WC.cond_f rfl <| WC.skip <| WE.then_n <| WC.seq <| WC.region <| WL.v (v_move rfl rfl) rfl <| ?_
  refine WL.v ((v_and rfl rfl rfl (mask_i64' (i := 1) (m := 2) (by decide) (by decide) (by decide))).int hm) rfl ?_
  refine WL.v (v_add rfl rfl rfl (w_i64 (by omega) (by omega))) rfl ?_
  refine WL.v (v_assign rfl rfl) rfl <| WL.nt <| WC.seq <| WC.region <| WL.v (v_move rfl rfl) rfl <| ?_
  refine WL.v ((v_and rfl rfl rfl (mask_i64' (i := 1) (m := 2) (by decide) (by decide) (by decide))).int htn) rfl ?_
  refine WL.v (v_add rfl rfl rfl (w_i64 (by omega) (by omega))) rfl ?_
  refine WL.v (v_assign rfl rfl) rfl <| WL.nt <| WC.seq <| WC.region <| WL.v (v_move rfl rfl) rfl <| WL.call rfl rfl ck_36 (.none rfl) rfl rfl <| ?_
  intro w hS
  refine Calls.then (Fwd_c w (1 + (tn : Int))) hS ?_
  refine WL.call rfl rfl ck_30 (.none rfl) rfl rfl ?_
  intro w hS
  refine Calls.then (id_c w) hS ?_
  refine WL.v (v_build rfl rfl zero_87 plc_87 rfl) rfl ?_
  refine WL.buildSlice rfl rfl Tryz.underlying84 sz_87 zero_87 rfl (by decide) rfl (.none rfl) rfl rfl ?_
  intro g28 hg28
  refine WL.v (v_assign rfl rfl) rfl <| WL.nt <| WC.seq <| WC.seq <| WC.region <| WL.v (v_assign rfl rfl) rfl <| WL.nt <| WC.block <| ?_
  refine WC.loop (fun x : WsS => [(10, .int .i64 x.Ps.length), (0, .int .i64 (3 + (m : Int))), (1, .int .i64 (1 + (tn : Int))), (2, .int .i64 may), (9, .slice x.ad x.Ps.length x.c), (7, .pointer (some ⟨g7, 0, none⟩))]) (fun x => x.E ++ [.row g7 (hdL H)]) (fun x => x.Ps.length ≤ m + 3 ∧ (∃ Qs, x.Ps = (fwN tn, idN) :: Qs ∧ ∀ y ∈ Qs, y = (idN, idN)) ∧ Vec 10 x.ad x.Ps.length x.c (encL wishL x.Ps) x.E) (fun x => m + 3 - x.Ps.length) ⟨[(fwN tn, idN)], some ⟨g28, 0, none⟩, 1, [.row g28 (wishL (fwN tn, idN))]⟩ ⟨by show 1 ≤ _; omega, ⟨[], rfl, fun y h => (by cases h)⟩, Vec.row (k := 1) (s := 10) (c := 1) rfl rfl (by omega)⟩ (.cons rfl (.cons rfl (.cons rfl (.cons rfl (.cons rfl (.cons rfl .nil)))))) (.refl _) ?_
  rintro ⟨Ps, ad, c, E⟩ ⟨hl, ⟨Qs, hPs, hall⟩, hV⟩
  dsimp only at hl hPs hall hV
  dsimp only
  refine WC.seq <| WC.seq <| WC.region <| WL.v (v_move rfl rfl) rfl <| WL.v (v_move rfl rfl) rfl <| ?_
  refine WL.test (v_lss rfl rfl rfl) (.none rfl) rfl rfl (fun h31 => ?_) (fun h31 => ?_)
  ·
   refine WL.nt <| WC.cond_t rfl <| WC.skip <| WE.then_n <| WC.seq <| WC.block <| WC.region <| WL.v (v_move rfl rfl) rfl <| WL.call rfl rfl ck_30 (.none rfl) rfl rfl <| ?_
   intro w hS
   refine Calls.then (id_c w) hS ?_
   refine WL.call rfl rfl ck_30 (.none rfl) rfl rfl ?_
   intro w hS
   refine Calls.then (id_c w) hS ?_
   refine WL.v (v_build rfl rfl zero_87 plc_87 rfl) rfl ?_
   refine WL.buildSlice rfl rfl Tryz.underlying84 sz_87 zero_87 rfl (by decide) (by show some (splice (List.replicate 1 _).flatten 0 (wishL (idN, idN))) = some (wishL (idN, idN)); exact congrArg some (splice_all rfl)) (.none rfl) rfl rfl ?_
   intro g38 hg38
   refine WL.to (L' := E ++ (.row g38 (wishL (idN, idN)) :: [.row g7 (hdL H)])) (fun w hS => hS.permX) ?_
   refine WL.appendL rfl rfl rfl Tryz.underlying84 Tryz.underlying84 sz_87 by_87 zero_87 rfl rfl hV (new := wishL (idN, idN)) (fun _ => ⟨g38, 0, rfl, fun w hS => allAt (g := g38) w hS⟩) rfl rfl (by omega) (.none rfl) rfl rfl ?_
   intro ad39 c39 E39 hV39 hr39
   refine WL.v (v_assign rfl rfl) rfl <| WL.nil <| WE.block_n <| WE.then_n <| WC.region <| WL.v (v_move rfl rfl) rfl <| ?_
   refine WL.v (v_add rfl rfl rfl (w_i64 (by omega) (by omega))) rfl ?_
   refine WL.v (v_assign rfl rfl) rfl <| WL.nil <| WE.to (L' := E39 ++ [.row g7 (hdL H)]) (fun w hS => hS.dropX [.row g38 (wishL (idN, idN))]) <| ?_
   have hln : (Ps ++ [(idN, idN)]).length = Ps.length + 1 := List.length_append
   exact WE.next ⟨Ps ++ [(idN, idN)], ad39, c39, E39⟩ (by dsimp only; omega) ⟨by dsimp only; omega, ⟨Qs ++ [(idN, idN)], by dsimp only; rw [hPs]; rfl, fun y hy => (by
     rcases List.mem_append.1 hy with hy | hy
     · exact hall y hy
     · exact List.mem_singleton.1 hy)⟩, by dsimp only; rw [hln, show encL wishL (Ps ++ [(idN, idN)]) = encL wishL Ps ++ wishL (idN, idN) from encL_snoc _ _ _]; exact hV39⟩ (.int rfl (by dsimp only; rw [hln]; omega) (.cons rfl (.cons rfl (.cons rfl (.eq rfl (by dsimp only; rw [hln]) (.cons rfl .nil)))))) (.refl _)
  ·
   refine WL.nt <| WC.cond_f rfl <| WC.exit <| WE.then_exit <| WE.then_exit <| WE.block_hit <| WE.then_n <| WC.seq <| WC.region <| ?_
   have hl : Ps.length = m + 3 := (by omega)
   obtain ⟨Rs, rfl⟩ : ∃ Rs, Qs = (idN, idN) :: (idN, idN) :: Rs := (by
     rw [hPs] at hl
     match Qs, hl, hall with
     | [], hl, _ => have hl : 1 = m + 3 := hl; omega
     | [_], hl, _ => have hl : 2 = m + 3 := hl; omega
     | a :: b :: Rs, _, hall => exact ⟨Rs, by rw [hall a (List.mem_cons_self ..), hall b (List.mem_cons_of_mem _ (List.mem_cons_self ..))]⟩)
   subst hPs
   have hQ : ∀ y ∈ Rs, y = (idN, idN) := fun y hy => hall y (List.mem_cons_of_mem _ (List.mem_cons_of_mem _ hy))
   have hRl : Rs.length ≤ 1 := (by have hl : Rs.length + 3 = m + 3 := hl; omega)
   obtain ⟨gw, Rw, eaw, eEw, -, -⟩ := Vec.split (enc := wishL) hV (fun h => by cases h)
   subst eaw eEw
   refine WL.as (L' := .row gw (encL wishL ((fwN tn, idN) :: (idN, idN) :: (idN, idN) :: Rs) ++ Rw) :: [.row g7 (hdL H)]) rfl <| WL.v (v_move rfl rfl) rfl <| WL.v (v_build rfl rfl zero_26 plc_26 rfl) rfl <| ?_
   refine WL.v (v_indexAddr (lo := 2) rfl rfl rfl Tryz.underlying84 sz_87 rfl (by omega)) rfl ?_
   refine WL.v (v_fieldAddr rfl rfl fld_87_1) rfl ?_
   refine WL.storeN rfl rfl rfl rfl many_26 rfl (by first | exact Nat.le_of_ble_eq_true rfl | simp) (.none rfl) rfl ?_
   refine WL.as (L' := .row gw (encL wishL (psN tn Rs) ++ Rw) :: [.row g7 (hdL H)]) (by rw [← psN_set]; rfl) ?_
   refine WL.nt <| WC.seq <| WC.region <| WL.v (v_move rfl rfl) rfl <| WL.call rfl rfl ck_31 (.none rfl) rfl rfl <| ?_
   intro w1 hS
   refine (plan_c w1 (some ⟨gw, 0, none⟩) c (psN tn Rs) (psN_at hQ (allAt (g := gw) w1 hS)) (psN_all (P := fun x => x.1.In ∧ x.2.In) hQ ⟨fwdN_in (by omega), idN_in⟩ ⟨idN_in, idN_in⟩ ⟨idN_in, drN_in⟩) (by show Rs.length + 3 ≤ _; omega)).mono ?_
   rintro e w' ⟨p, M, rfl, p1, p2, p3, hpA, hpI, hS'⟩
   refine ⟨_, _, rfl, hS.join hS', ?_⟩
   refine WL.call rfl rfl ck_32 (.none rfl) rfl rfl ?_
   intro w1 hS
   refine (Make_c w1 p (hpA w1 (fun e he => hS.holds e (List.mem_append_left _ he)) (psN_at hQ (rowRg (hS.holds (.row gw (encL wishL (psN tn Rs) ++ Rw)) (List.mem_append_right _ (List.mem_cons_self ..)))))) hpI (hG.keep (fun h => h) hS) (fun t h => by rw [p1] at h; obtain ⟨x, hx, rfl⟩ := List.mem_map.1 h; exact psN_all (P := fun x => Lt x.1) hQ (fw_lt ht) id_lt id_lt x hx) (fun t h => by rw [p2] at h; obtain ⟨x, hx, rfl⟩ := List.mem_map.1 h; exact psN_all (P := fun x => Lt x.2) hQ id_lt id_lt drop_lt x hx)).mono ?_
   rintro e w' ⟨q, M2, rfl, hq, -, hqA, hqI, hS'⟩
   rw [makeE_zero p1 p2 p3 (psN_make ht hQ hRl)] at hq ⊢
   have hP : PlnR q (psN tn Rs) := PlnR.of p1 p2 p3 (hq rfl)
   refine ⟨_, .row g7 (hdL H) :: M2, rfl, St.dropX (L := M2 ++ (M ++ (.row gw (encL wishL (psN tn Rs) ++ Rw) :: [.row g7 (hdL H)]))) (M ++ [.row gw (encL wishL (psN tn Rs) ++ Rw)]) (hS.join hS'), ?_⟩
   refine WL.v (v_move rfl rfl) rfl <| WL.v (v_extract rfl rfl rfl) rfl <| WL.v (v_extract rfl rfl rfl) rfl <| WL.alloc rfl zero_91 (.none rfl) rfl rfl <| ?_
   intro g11 hg11
   refine WL.storeW rfl rfl rfl rfl many_91 rfl rfl (.none rfl) rfl <| WL.v (v_assign rfl rfl) rfl <| WL.nt <| WC.seq <| WC.region <| WL.v (v_fieldAddr0 rfl rfl fld_59_0) rfl <| WL.store1 rfl rfl rfl rfl one_3 (Nat.le_of_ble_eq_true rfl) (.none rfl) rfl <| WL.rowTo (g := g7) (cs' := hdL { H with port := 0 }) rfl <| WL.nt <| WC.seq <| WC.seq <| WC.region <| WL.v (v_move rfl rfl) rfl <| ?_
   refine WL.v ((v_neq rfl rfl rfl).f (by omega)) rfl ?_
   refine WL.v (v_move rfl rfl) rfl <| WL.val (v_loadN rfl rfl many_59 rfl allAt) (.some rfl rfl rfl) rfl rfl <| WL.call rfl rfl ck_33 (.some rfl rfl rfl) rfl rfl <| ?_
   intro w hS
   refine Calls.then (HCheck_c w { H with port := 0 } hH0 (hG.keep (fun h => h) hS)) hS ?_
   generalize hok : ({ H with port := 0 } : Hd).okB = okb
   cases okb
   ·
    refine WL.val ((v_neq rfl rfl rfl).t ((fun h => absurd h (by decide)))) (.some rfl rfl rfl) rfl rfl ?_
    refine WL.v (v_pick_f rfl rfl rfl) rfl <| WL.nt <| WC.cond_t rfl <| WC.seq <| WC.region <| WL.v (v_move rfl rfl) rfl <| WL.v ((v_eql rfl rfl rfl).t (rfl)) rfl <| WL.v (v_assign rfl rfl) rfl <| WL.nt <| WC.ret <| WE.then_ret <| WE.ret1 (P := Tryz.prog) (.inl rfl) Tryz.results9 rfl <| ?_
    exact fun w' h => ⟨rfl, h.frm⟩
   ·
    refine WL.val ((v_neq rfl rfl rfl).f (fun h => h rfl)) (.some rfl rfl rfl) rfl rfl <| WL.v (v_pick_f rfl rfl rfl) rfl <| WL.nt <| WC.cond_f rfl <| WC.skip <| WE.then_n <| WC.seq <| WC.region <| WL.v (v_move rfl rfl) rfl <| WL.v (v_and rfl rfl rfl rfl) rfl <| WL.v (v_or rfl rfl rfl rfl) rfl <| ?_
    generalize bits .or .i64 (bits .and .i64 may 15) 2 = my
    refine WL.v (v_build rfl rfl zero_83 plc_83 rfl) rfl <| WL.alloc rfl zero_83 (.none rfl) rfl rfl <| ?_
    intro g13 hg13
    refine WL.storeW rfl rfl rfl rfl many_83 rfl rfl (.none rfl) rfl <| WL.as (L' := .row g13 (Ky3.cells ⟨0, 1, my⟩) :: .row g11 q.cells :: .row g7 (hdL { H with port := 0 }) :: M2) rfl <| WL.nt <| WC.seq <| WC.region <| WL.v (v_loadN rfl rfl many_91 rfl allAt) rfl <| WL.v (v_loadN rfl rfl many_59 rfl allAt) rfl <| WL.v (v_loadN rfl rfl many_83 rfl allAt) rfl <| WL.call rfl rfl ck_34 (.none rfl) rfl rfl <| ?_
    intro w1 hS
    refine (GoesNone_c w1 q tn ht Rs hP (hqA w1 fun e he => hS.holds e (List.mem_cons_of_mem _ (List.mem_cons_of_mem _ (List.mem_cons_of_mem _ he)))) hqI (hG.keep (fun h => h) hS) { H with port := 0 } hH0 hok my rfl).mono ?_
    rintro e w' ⟨ad2, c2, E2, o, rfl, hV2, ho1, ho2, hS'⟩
    refine ⟨_, _, rfl, hS.join hS', ?_⟩
    refine WL.v (v_move rfl rfl) rfl <| WL.v (v_extract rfl rfl rfl) rfl <| WL.v (v_extract rfl rfl rfl) rfl <| WL.v (v_assign rfl rfl) rfl <| WL.v (v_assign rfl rfl) rfl <| WL.nt <| WC.seq <| WC.seq <| WC.region <| WL.v (v_move rfl rfl) rfl <| ?_
    refine WL.v ((v_neq rfl rfl rfl).f (by omega)) rfl ?_
    refine WL.nt <| WC.cond_f rfl <| WC.skip <| WE.then_n <| WC.seq <| WC.seq <| WC.region <| WL.v (v_move rfl rfl) rfl <| ?_
    refine WL.test (v_eql rfl rfl rfl) (.none rfl) rfl rfl (fun h74 => ?_) (fun h74 => ?_)
    ·
     refine WL.v (v_move rfl rfl) rfl <| WL.val (v_loadN rfl rfl many_83 rfl allAt) (.some rfl rfl rfl) rfl rfl <| WL.call rfl rfl ck_37 (.some rfl rfl rfl) rfl rfl <| ?_
     intro w hS
     refine Calls.then (Can_c w ⟨0, 1, my⟩ 2) hS ?_
     generalize hcn : decide (canF my 2) = bb
     cases bb
     ·
      refine WL.v (v_pick_t rfl rfl rfl) rfl <| WL.nt <| WC.cond_f rfl <| WC.skip <| WE.then_n <| WC.seq <| ?_
      refine WC.quiet mixed (by kernel_rfl) ?_
      obtain rfl := ho2 (fun k => by first | exact h74 (by omega) | exact (of_decide_eq_false hcn) k.2)
      obtain ⟨ga, Ra, eaa, eEa, -, -⟩ := Vec.split (enc := hdL) hV2 (fun h => by cases h)
      subst eaa eEa
      refine WQ.as (L' := .row ga (hdL { H with port := 1, dst := macN 1 } ++ Ra) :: (.row g13 (Ky3.cells ⟨0, 1, my⟩) :: .row g11 q.cells :: .row g7 (hdL { H with port := 0 }) :: M2)) rfl <| WQ.val (v_move rfl rfl) (.none rfl) rfl rfl <| WQ.val (v_len_slice rfl rfl Tryz.underlying64) (.none rfl) rfl rfl <| WQ.val ((v_eql rfl rfl rfl).t (rfl)) (.none rfl) rfl rfl <| WQ.val (v_move rfl rfl) (.none rfl) rfl rfl <| WQ.val (v_move rfl rfl) (.some rfl rfl rfl) rfl rfl <| ?_
      refine WQ.val (v_indexAddr (lo := 0) rfl rfl rfl Tryz.underlying64 sz_59 rfl (by show 0 < 1; omega)) (.some rfl rfl rfl) rfl rfl ?_
      refine WQ.val (v_fieldAddr rfl rfl fld_59_0) (.some rfl rfl rfl) rfl rfl <| WQ.val (v_load1 rfl rfl one_3 (cellAt (v := .int .i64 1) rfl)) (.some rfl rfl rfl) rfl rfl <| WQ.val ((v_eql rfl rfl rfl).t (rfl)) (.some rfl rfl rfl) rfl rfl <| WQ.val (v_pick_t rfl rfl rfl) (.none rfl) rfl rfl <| WQ.val (v_move rfl rfl) (.none rfl) rfl rfl <| WQ.val (v_move rfl rfl) (.some rfl rfl rfl) rfl rfl <| ?_
      refine WQ.val (v_indexAddr (lo := 0) rfl rfl rfl Tryz.underlying64 sz_59 rfl (by show 0 < 1; omega)) (.some rfl rfl rfl) rfl rfl ?_
      refine WQ.val (v_fieldAddr rfl rfl fld_59_2) (.some rfl rfl rfl) rfl rfl <| WQ.val (v_loadN (cs := mcL (macN 1)) rfl rfl many_55 rfl (segAt (m := 6) rfl)) (.some rfl rfl rfl) rfl rfl <| WQ.call _ rfl rfl ck_35 (.some rfl rfl rfl) rfl rfl (fun w hS => Calls.still (mac_c w 1) hS) <| WQ.val (v_eql_aggT rfl rfl rfl eqk_55 eqg_55 rfl rfl rfl) (.some rfl rfl rfl) rfl rfl <| ?_
      skip
      refine WQ.val (v_pick_t rfl rfl rfl) (.none rfl) rfl rfl <| WQ.val (v_assign rfl rfl) (.none rfl) rfl rfl <| WQ.nil <| WE.then_n <| WC.ret <| WE.ret1 (P := Tryz.prog) (.inl rfl) Tryz.results9 rfl <| ?_
      exact fun w' h => ⟨rfl, h.frm⟩
     ·
      refine WL.v (v_pick_t rfl rfl rfl) rfl <| WL.nt <| WC.cond_t rfl <| WC.seq <| WC.region <| WL.v (v_move rfl rfl) rfl <| WL.v (v_len_slice rfl rfl Tryz.underlying64) rfl <| ?_
      obtain rfl := ho1 (by omega) (of_decide_eq_true hcn)
      refine WL.v ((v_eql rfl rfl rfl).t (rfl)) rfl <| WL.v (v_assign rfl rfl) rfl <| WL.nt <| WC.ret <| WE.then_ret <| WE.ret1 (P := Tryz.prog) (.inl rfl) Tryz.results9 rfl <| ?_
      exact fun w' h => ⟨rfl, h.frm⟩
    ·
     refine WL.v (v_move rfl rfl) rfl ?_
     iterate 2 refine WL.sk rfl ?_
     generalize hcn : decide (canF my 2) = bb
     cases bb
     ·
      refine WL.v (v_pick_f rfl rfl rfl) rfl <| WL.nt <| WC.cond_f rfl <| WC.skip <| WE.then_n <| WC.seq <| ?_
      refine WC.quiet mixed (by kernel_rfl) ?_
      obtain rfl := ho2 (fun k => by first | exact h74 (by omega) | exact (of_decide_eq_false hcn) k.2)
      obtain ⟨ga, Ra, eaa, eEa, -, -⟩ := Vec.split (enc := hdL) hV2 (fun h => by cases h)
      subst eaa eEa
      refine WQ.as (L' := .row ga (hdL { H with port := 1, dst := macN 1 } ++ Ra) :: (.row g13 (Ky3.cells ⟨0, 1, my⟩) :: .row g11 q.cells :: .row g7 (hdL { H with port := 0 }) :: M2)) rfl <| WQ.val (v_move rfl rfl) (.none rfl) rfl rfl <| WQ.val (v_len_slice rfl rfl Tryz.underlying64) (.none rfl) rfl rfl <| WQ.val ((v_eql rfl rfl rfl).t (rfl)) (.none rfl) rfl rfl <| WQ.val (v_move rfl rfl) (.none rfl) rfl rfl <| WQ.val (v_move rfl rfl) (.some rfl rfl rfl) rfl rfl <| ?_
      refine WQ.val (v_indexAddr (lo := 0) rfl rfl rfl Tryz.underlying64 sz_59 rfl (by show 0 < 1; omega)) (.some rfl rfl rfl) rfl rfl ?_
      refine WQ.val (v_fieldAddr rfl rfl fld_59_0) (.some rfl rfl rfl) rfl rfl <| WQ.val (v_load1 rfl rfl one_3 (cellAt (v := .int .i64 1) rfl)) (.some rfl rfl rfl) rfl rfl <| WQ.val ((v_eql rfl rfl rfl).t (rfl)) (.some rfl rfl rfl) rfl rfl <| WQ.val (v_pick_t rfl rfl rfl) (.none rfl) rfl rfl <| WQ.val (v_move rfl rfl) (.none rfl) rfl rfl <| WQ.val (v_move rfl rfl) (.some rfl rfl rfl) rfl rfl <| ?_
      refine WQ.val (v_indexAddr (lo := 0) rfl rfl rfl Tryz.underlying64 sz_59 rfl (by show 0 < 1; omega)) (.some rfl rfl rfl) rfl rfl ?_
      refine WQ.val (v_fieldAddr rfl rfl fld_59_2) (.some rfl rfl rfl) rfl rfl <| WQ.val (v_loadN (cs := mcL (macN 1)) rfl rfl many_55 rfl (segAt (m := 6) rfl)) (.some rfl rfl rfl) rfl rfl <| WQ.call _ rfl rfl ck_35 (.some rfl rfl rfl) rfl rfl (fun w hS => Calls.still (mac_c w 1) hS) <| WQ.val (v_eql_aggT rfl rfl rfl eqk_55 eqg_55 rfl rfl rfl) (.some rfl rfl rfl) rfl rfl <| ?_
      skip
      refine WQ.val (v_pick_t rfl rfl rfl) (.none rfl) rfl rfl <| WQ.val (v_assign rfl rfl) (.none rfl) rfl rfl <| WQ.nil <| WE.then_n <| WC.ret <| WE.ret1 (P := Tryz.prog) (.inl rfl) Tryz.results9 rfl <| ?_
      exact fun w' h => ⟨rfl, h.frm⟩
     ·
      refine WL.v (v_pick_f rfl rfl rfl) rfl <| WL.nt <| WC.cond_f rfl <| WC.skip <| WE.then_n <| WC.seq <| ?_
      refine WC.quiet mixed (by kernel_rfl) ?_
      obtain rfl := ho2 (fun k => by first | exact h74 (by omega) | exact (of_decide_eq_false hcn) k.2)
      obtain ⟨ga, Ra, eaa, eEa, -, -⟩ := Vec.split (enc := hdL) hV2 (fun h => by cases h)
      subst eaa eEa
      refine WQ.as (L' := .row ga (hdL { H with port := 1, dst := macN 1 } ++ Ra) :: (.row g13 (Ky3.cells ⟨0, 1, my⟩) :: .row g11 q.cells :: .row g7 (hdL { H with port := 0 }) :: M2)) rfl <| WQ.val (v_move rfl rfl) (.none rfl) rfl rfl <| WQ.val (v_len_slice rfl rfl Tryz.underlying64) (.none rfl) rfl rfl <| WQ.val ((v_eql rfl rfl rfl).t (rfl)) (.none rfl) rfl rfl <| WQ.val (v_move rfl rfl) (.none rfl) rfl rfl <| WQ.val (v_move rfl rfl) (.some rfl rfl rfl) rfl rfl <| ?_
      refine WQ.val (v_indexAddr (lo := 0) rfl rfl rfl Tryz.underlying64 sz_59 rfl (by show 0 < 1; omega)) (.some rfl rfl rfl) rfl rfl ?_
      refine WQ.val (v_fieldAddr rfl rfl fld_59_0) (.some rfl rfl rfl) rfl rfl <| WQ.val (v_load1 rfl rfl one_3 (cellAt (v := .int .i64 1) rfl)) (.some rfl rfl rfl) rfl rfl <| WQ.val ((v_eql rfl rfl rfl).t (rfl)) (.some rfl rfl rfl) rfl rfl <| WQ.val (v_pick_t rfl rfl rfl) (.none rfl) rfl rfl <| WQ.val (v_move rfl rfl) (.none rfl) rfl rfl <| WQ.val (v_move rfl rfl) (.some rfl rfl rfl) rfl rfl <| ?_
      refine WQ.val (v_indexAddr (lo := 0) rfl rfl rfl Tryz.underlying64 sz_59 rfl (by show 0 < 1; omega)) (.some rfl rfl rfl) rfl rfl ?_
      refine WQ.val (v_fieldAddr rfl rfl fld_59_2) (.some rfl rfl rfl) rfl rfl <| WQ.val (v_loadN (cs := mcL (macN 1)) rfl rfl many_55 rfl (segAt (m := 6) rfl)) (.some rfl rfl rfl) rfl rfl <| WQ.call _ rfl rfl ck_35 (.some rfl rfl rfl) rfl rfl (fun w hS => Calls.still (mac_c w 1) hS) <| WQ.val (v_eql_aggT rfl rfl rfl eqk_55 eqg_55 rfl rfl rfl) (.some rfl rfl rfl) rfl rfl <| ?_
      skip
      refine WQ.val (v_pick_t rfl rfl rfl) (.none rfl) rfl rfl <| WQ.val (v_assign rfl rfl) (.none rfl) rfl rfl <| WQ.nil <| WE.then_n <| WC.ret <| WE.ret1 (P := Tryz.prog) (.inl rfl) Tryz.results9 rfl <| ?_
      exact fun w' h => ⟨rfl, h.frm⟩
end Go.Proofs.YtkeonnnhogaggaaGreatDoor
/- carrefourref05.Copy and Same. -/
namespace Go.Proofs.YtkeonnnhogaggaaGreatDoor
open Go.RowKit

end Go.Proofs.YtkeonnnhogaggaaGreatDoor
/- What is known of an argument that came in: its cells, leaf by leaf. -/
namespace Go.Proofs.YtkeonnnhogaggaaGreatDoor
open Go.RowKit

section
variable {P : Program} {w : World}

/-- These cells read as data of this type. -/
def Tree (P : Program) (w : World) (t : TypeId) (cs : List Value) : Prop := ∃ (H : Type) (enc : TypeId × Value → H) (m : Nat) (x : DataW H × List MemPlace), DataW.trod enc P w 0 (fun _ => true) true m t cs = some x
/-- A value that came in as an argument. -/
def Arg (P : Program) (w : World) (t : TypeId) (v : Value) : Prop := (∃ base, Value.okWide P w .any base t v) ∧ Tree P w t v.cells.toList

theorem Tree.step {t : TypeId} {cs : List Value} (h : Tree P w t cs) : ∃ (H : Type) (enc : TypeId × Value → H) (m : Nat) (x : DataW H × List MemPlace), DataW.trodStep enc P w 0 (fun _ => true) true (DataW.trod enc P w 0 (fun _ => true) true m) t cs = some x := by
  obtain ⟨H, enc, m, x, hx⟩ := h
  cases m with
  | zero => simp [DataW.trod] at hx
  | succ m => exact ⟨H, enc, m, x, hx⟩
theorem Tree.int {t : TypeId} {k : IntKind} {x : Value} (hu : P.underlying t = some (.int k)) (h : Tree P w t [x]) : ∃ n, x = .int k n ∧ (Lit.int k n).wf = true := by
  obtain ⟨H, enc, m, y, hy⟩ := h.step
  unfold DataW.trodStep at hy
  simp only [hu] at hy
  cases x <;> simp at hy
  obtain ⟨⟨rfl, hw⟩, _⟩ := hy
  exact ⟨_, rfl, hw⟩
theorem mapM_all {α β : Type} {f : α → Option β} : ∀ {l : List α} {r : List β}, l.mapM f = some r → ∀ x ∈ l, ∃ y, f x = some y
  | [], _, _, x, hx => by cases hx
  | a :: l, r, h, x, hx => by
    rw [List.mapM_cons] at h
    cases ha : f a with
    | none => simp [ha] at h
    | some y =>
      cases hl : l.mapM f with
      | none => simp [ha, hl] at h
      | some ys =>
        rcases List.mem_cons.1 hx with rfl | hx
        · exact ⟨y, ha⟩
        · exact mapM_all hl x hx

def Leaves (P : Program) (w : World) : List TypeId → List Value → Prop
  | [], cs => cs = []
  | t :: ts, cs => ∃ x xs, cs = x :: xs ∧ Tree P w t [x] ∧ Leaves P w ts xs
theorem Leaves.append : ∀ {ts : List TypeId} {cs : List Value} {ts' : List TypeId} {cs' : List Value}, Leaves P w ts cs → Leaves P w ts' cs' → Leaves P w (ts ++ ts') (cs ++ cs')
  | [], cs, ts', cs', h, h' => by
    have : cs = [] := h
    subst this; exact h'
  | t :: ts, cs, ts', cs', ⟨x, xs, e, hx, hxs⟩, h' => by
    subst e; exact ⟨x, xs ++ cs', rfl, hx, hxs.append h'⟩

def flat (P : Program) : Nat → TypeId → List TypeId
  | 0, t => [t]
  | n + 1, t => match P.underlying t with
    | some (.struct fs) => fs.toList.flatMap fun f => flat P n f.type
    | some (.array m e) => (List.replicate m (flat P n e)).flatten
    | _ => [t]
def contigB (P : Program) (total : Nat) : Nat → List Field → Bool
  | k, [] => k == total
  | k, f :: fs => f.offset == k && contigB P total (k + P.cellsOf f.type) fs
def layB (P : Program) : Nat → TypeId → Bool
  | 0, _ => false
  | n + 1, t => match P.underlying t with
    | some (.struct fs) => contigB P (P.cellsOf t) 0 fs.toList && fs.toList.all fun f => layB P n f.type
    | some (.array m e) => m * P.cellsOf e == P.cellsOf t && layB P n e
    | _ => true

theorem single_of_step {H : Type} {enc : TypeId × Value → H} {r : TypeId → List Value → Option (DataW H × List MemPlace)} {t : TypeId} {cs : List Value} {x : DataW H × List MemPlace} (hs : ∀ fs, P.underlying t ≠ some (.struct fs)) (ha : ∀ n e, P.underlying t ≠ some (.array n e))
    (h : DataW.trodStep enc P w 0 (fun _ => true) true r t cs = some x) : ∃ v, cs = [v] := by
  unfold DataW.trodStep at h
  split at h <;> first | exact ⟨_, rfl⟩ | (rename_i hu; exact absurd hu (hs _)) | (rename_i hu; exact absurd hu (ha _ _)) | cases h

theorem Tree.leaves : ∀ (F : Nat) (t : TypeId) (cs : List Value), layB P F t = true → Tree P w t cs → Leaves P w (flat P F t) cs
  | 0, _, _, hl, _ => by cases hl
  | F + 1, t, cs, hl, h => by
    obtain ⟨H, enc, m, x, hx⟩ := h.step
    cases hu : P.underlying t with
    | none =>
      obtain ⟨v, rfl⟩ := single_of_step (by simp [hu]) (by simp [hu]) hx
      simp only [flat, hu]
      exact ⟨v, [], rfl, h, rfl⟩
    | some d =>
      by_cases hs : ∃ fs, d = .struct fs
      · obtain ⟨fs, rfl⟩ := hs
        simp only [layB, hu, Bool.and_eq_true] at hl
        simp only [flat, hu]
        unfold DataW.trodStep at hx
        simp only [hu] at hx
        split at hx
        · rename_i hlen
          simp only [Option.map_eq_some_iff] at hx
          obtain ⟨xs, hm, _⟩ := hx
          have hT : ∀ f ∈ fs.toList, Tree P w f.type ((cs.drop f.offset).take (P.cellsOf f.type)) := fun f hf => by
            obtain ⟨y, hy⟩ := mapM_all hm f hf
            exact ⟨H, enc, m, y, hy⟩
          have key : ∀ (gs : List Field) (k : Nat), (∀ f ∈ gs, f ∈ fs.toList) → contigB P (P.cellsOf t) k gs = true → Leaves P w (gs.flatMap fun f => flat P F f.type) (cs.drop k) := by
            intro gs
            induction gs with
            | nil =>
              intro k _ hk
              have hk' : k = P.cellsOf t := by simpa [contigB] using hk
              show cs.drop k = []
              rw [List.drop_eq_nil_iff]; omega
            | cons f gs ih =>
              intro k hmem hk
              simp only [contigB, Bool.and_eq_true, beq_iff_eq] at hk
              have h1 := Tree.leaves F f.type _ (List.all_eq_true.1 hl.2 f (hmem f (by simp))) (hT f (hmem f (by simp)))
              have h2 := ih (k + P.cellsOf f.type) (fun g hg => hmem g (by simp [hg])) hk.2
              rw [hk.1] at h1
              have := h1.append h2
              rw [List.flatMap_cons]
              have e : cs.drop k = (cs.drop k).take (P.cellsOf f.type) ++ cs.drop (k + P.cellsOf f.type) := by
                rw [← List.drop_drop, List.take_append_drop]
              rw [e]; exact this
          have := key fs.toList 0 (fun _ h => h) hl.1
          rwa [List.drop_zero] at this
        · cases hx
      · by_cases ha : ∃ n e, d = .array n e
        · obtain ⟨n, e, rfl⟩ := ha
          simp only [layB, hu, Bool.and_eq_true, beq_iff_eq] at hl
          simp only [flat, hu]
          unfold DataW.trodStep at hx
          simp only [hu] at hx
          split at hx
          · rename_i hlen
            simp only [Option.map_eq_some_iff] at hx
            obtain ⟨xs, hm, _⟩ := hx
            have key : ∀ j i, i + j = n → Leaves P w (List.replicate j (flat P F e)).flatten (cs.drop (i * P.cellsOf e)) := by
              intro j
              induction j with
              | zero =>
                intro i hi
                have : i = n := by omega
                subst this
                show cs.drop _ = []
                rw [List.drop_eq_nil_iff]; omega
              | succ j ih =>
                intro i hi
                obtain ⟨y, hy⟩ := mapM_all hm i (List.mem_range.2 (by omega))
                have h1 := Tree.leaves F e _ hl.2 ⟨H, enc, m, y, hy⟩
                have h2 := ih (i + 1) (by omega)
                rw [Nat.add_mul, Nat.one_mul] at h2
                have := h1.append h2
                rw [List.replicate_succ, List.flatten_cons]
                have e2 : cs.drop (i * P.cellsOf e) = (cs.drop (i * P.cellsOf e)).take (P.cellsOf e) ++ cs.drop (i * P.cellsOf e + P.cellsOf e) := by
                  rw [← List.drop_drop, List.take_append_drop]
                rw [e2]; exact this
            have := key n 0 (by omega)
            rwa [Nat.zero_mul, List.drop_zero] at this
          · cases hx
        · have hs' : ∀ fs, P.underlying t ≠ some (.struct fs) := fun fs he => hs ⟨fs, by rw [hu] at he; exact Option.some.inj he⟩
          have ha' : ∀ n e, P.underlying t ≠ some (.array n e) := fun n e he => ha ⟨n, e, by rw [hu] at he; exact Option.some.inj he⟩
          obtain ⟨v, rfl⟩ := single_of_step hs' ha' hx
          have hf : flat P (F + 1) t = [t] := by
            unfold flat
            split
            · rename_i fs he; exact absurd he (hs' _)
            · rename_i n e he; exact absurd he (ha' _ _)
            · rfl
          rw [hf]
          exact ⟨v, [], rfl, h, rfl⟩

/-! ### Arguments -/
theorem Arg.agg {t : TypeId} {v : Value} (h : Arg P w t v) (F : Nat) {ts : List TypeId} (hl : layB P F t = true) (hf : flat P F t = ts) (hrow : (match P.underlying t with | some (.struct _) | some (.array _ _) => true | _ => false) = true) : ∃ cs, v = .agg cs.toArray ∧ Leaves P w ts cs := by
  obtain ⟨⟨base, ho⟩, hT⟩ := h
  unfold Value.okWide at ho
  have : ∃ cs, v = .agg cs := by
    split at ho
    · obtain ⟨cs, rfl, _⟩ := ho; exact ⟨cs, rfl⟩
    · obtain ⟨cs, rfl, _⟩ := ho; exact ⟨cs, rfl⟩
    · rename_i h1 h2
      split at hrow
      · rename_i fs he; exact absurd he (h1 fs)
      · rename_i n e he; exact absurd he (h2 n e)
      · cases hrow
  obtain ⟨cs, rfl⟩ := this
  exact ⟨cs.toList, by simp, hf ▸ Tree.leaves F t _ hl hT⟩
theorem Arg.int {t : TypeId} {k : IntKind} {v : Value} (hu : P.underlying t = some (.int k)) (h : Arg P w t v) : ∃ n, v = .int k n ∧ (Lit.int k n).wf = true := by
  obtain ⟨⟨base, ho⟩, hT⟩ := h
  obtain ⟨n, rfl⟩ := WideShapes.okWide_int hu ho
  exact Tree.int hu hT
/-- A slice's elements: each reads as data. -/
def Elems (P : Program) (w : World) (e s : Nat) (a : Option Addr) (len : Nat) : Prop :=
  0 < len → ∃ b off, a = some ⟨b, off, none⟩ ∧ ∀ i, i < len → ∃ cs, cs.length = s ∧ w.rangeAt b (off + i * s) cs ∧ Tree P w e cs
theorem wf_u8 {n : Int} (h : (Lit.int .u8 n).wf = true) : 0 ≤ n ∧ n ≤ 255 := by
  simp [Lit.wf, IntKind.min, IntKind.max, IntKind.signed, IntKind.bits] at h; exact h
theorem wf_u32 {n : Int} (h : (Lit.int .u32 n).wf = true) : 0 ≤ n ∧ n ≤ 4294967295 := by
  simp [Lit.wf, IntKind.min, IntKind.max, IntKind.signed, IntKind.bits] at h; exact h
theorem wf_i64 {n : Int} (h : (Lit.int .i64 n).wf = true) : -9223372036854775808 ≤ n ∧ n ≤ 9223372036854775807 := by
  simp [Lit.wf, IntKind.min, IntKind.max, IntKind.signed, IntKind.bits] at h; exact h
end
end Go.Proofs.YtkeonnnhogaggaaGreatDoor
/- A header that came in as an argument. -/
namespace Go.Proofs.YtkeonnnhogaggaaGreatDoor
open Go.RowKit

def sixOf (a b c d e f : Int) (i : Nat) : Int := [a, b, c, d, e, f].getD i 0
theorem sixOf_byt {a b c d e f : Int} (ha : 0 ≤ a ∧ a ≤ 255) (hb : 0 ≤ b ∧ b ≤ 255) (hc : 0 ≤ c ∧ c ≤ 255) (hd : 0 ≤ d ∧ d ≤ 255) (he : 0 ≤ e ∧ e ≤ 255) (hf : 0 ≤ f ∧ f ≤ 255) : Byt (sixOf a b c d e f) := fun i => by
  match i with
  | 0 => exact ha
  | 1 => exact hb
  | 2 => exact hc
  | 3 => exact hd
  | 4 => exact he
  | 5 => exact hf
  | _ + 6 => exact ⟨Int.le_refl _, show (0 : Int) ≤ 255 by decide⟩
theorem hd_leaves {w : World} {cs : List Value} (hL : Leaves Tryz.prog w [3, 5, 5, 5, 5, 5, 5, 5, 5, 5, 5, 5, 5, 3, 57, 57, 3, 3, 3] cs) : ∃ H : Hd, cs = hdL H ∧ H.In := by
  obtain ⟨x0, _, rfl, h0, x1, _, rfl, h1, x2, _, rfl, h2, x3, _, rfl, h3, x4, _, rfl, h4, x5, _, rfl, h5, x6, _, rfl, h6, x7, _, rfl, h7, x8, _, rfl, h8, x9, _, rfl, h9, x10, _, rfl, h10, x11, _, rfl, h11, x12, _, rfl, h12, x13, _, rfl, h13, x14, _, rfl, h14, x15, _, rfl, h15, x16, _, rfl, h16, x17, _, rfl, h17, x18, _, rfl, h18, rfl⟩ := hL
  obtain ⟨n0, rfl, w0⟩ := Tree.int Tryz.underlying3 h0
  obtain ⟨n1, rfl, w1⟩ := Tree.int Tryz.underlying5 h1
  obtain ⟨n2, rfl, w2⟩ := Tree.int Tryz.underlying5 h2
  obtain ⟨n3, rfl, w3⟩ := Tree.int Tryz.underlying5 h3
  obtain ⟨n4, rfl, w4⟩ := Tree.int Tryz.underlying5 h4
  obtain ⟨n5, rfl, w5⟩ := Tree.int Tryz.underlying5 h5
  obtain ⟨n6, rfl, w6⟩ := Tree.int Tryz.underlying5 h6
  obtain ⟨n7, rfl, w7⟩ := Tree.int Tryz.underlying5 h7
  obtain ⟨n8, rfl, w8⟩ := Tree.int Tryz.underlying5 h8
  obtain ⟨n9, rfl, w9⟩ := Tree.int Tryz.underlying5 h9
  obtain ⟨n10, rfl, w10⟩ := Tree.int Tryz.underlying5 h10
  obtain ⟨n11, rfl, w11⟩ := Tree.int Tryz.underlying5 h11
  obtain ⟨n12, rfl, w12⟩ := Tree.int Tryz.underlying5 h12
  obtain ⟨n13, rfl, w13⟩ := Tree.int Tryz.underlying3 h13
  obtain ⟨n14, rfl, w14⟩ := Tree.int Tryz.underlying57 h14
  obtain ⟨n15, rfl, w15⟩ := Tree.int Tryz.underlying57 h15
  obtain ⟨n16, rfl, w16⟩ := Tree.int Tryz.underlying3 h16
  obtain ⟨n17, rfl, w17⟩ := Tree.int Tryz.underlying3 h17
  obtain ⟨n18, rfl, w18⟩ := Tree.int Tryz.underlying3 h18
  exact ⟨⟨n0, sixOf n1 n2 n3 n4 n5 n6, sixOf n7 n8 n9 n10 n11 n12, n13, n14, n15, n16, n17, n18⟩, rfl, wf_i64 w0, wf_i64 w13, wf_i64 w16, wf_i64 w17, wf_i64 w18, wf_u32 w14, wf_u32 w15, sixOf_byt (wf_u8 w1) (wf_u8 w2) (wf_u8 w3) (wf_u8 w4) (wf_u8 w5) (wf_u8 w6), sixOf_byt (wf_u8 w7) (wf_u8 w8) (wf_u8 w9) (wf_u8 w10) (wf_u8 w11) (wf_u8 w12)⟩
theorem Arg.hd {w : World} {v : Value} (h : Arg Tryz.prog w 59 v) : ∃ H : Hd, v = .agg (hdCells H) ∧ H.In := by
  obtain ⟨cs, rfl, hL⟩ := h.agg 8 (ts := [3, 5, 5, 5, 5, 5, 5, 5, 5, 5, 5, 5, 5, 3, 57, 57, 3, 3, 3]) (by kernel_rfl) (by kernel_rfl) (by kernel_rfl)
  obtain ⟨H, rfl, hH⟩ := hd_leaves hL
  exact ⟨H, rfl, hH⟩
end Go.Proofs.YtkeonnnhogaggaaGreatDoor
