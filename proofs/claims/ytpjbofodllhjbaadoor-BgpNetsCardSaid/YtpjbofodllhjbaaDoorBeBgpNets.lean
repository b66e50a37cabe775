/- Texts joined: engine, contracts and laws, in the order in which they build. -/
import Derived.Test.YtpjbofodllhjbaaDoorRows
import Derived.Lib.LaidTab
import Derived.Test.YtpjbofodllhjbaaDoorBdBgpNets
/- attr.Decode, walked. -/
namespace Go.Proofs.YtpjbofodllhjbaaDoor
open Go.RowKit

theorem cut_u (w : World) (b o c : Nat) (xs : List Int) (hW : Win w b o c xs) (hn : xs.length ≤ 1000000) :
    Calls Tryd.prog 80 #[.slice (some ⟨b, o, none⟩) xs.length c] w fun e w' => ∃ (f t : Nat) (ok : Bool), e = .returned (.tuple #[.int .i64 f, .int .i64 t, .bool ok]) ∧ Frm (fun _ => False) w w' ∧
      (ok = false → xs.length < fromN xs ∨ xs.length < toN xs) ∧ (ok = true → f = fromN xs ∧ t = toN xs ∧ fromN xs ≤ xs.length ∧ toN xs ≤ xs.length) :=
  (cut_c w b o c xs hW hn).mono fun e w' h => by
    obtain ⟨rfl, hF⟩ := h
    unfold cutV
    split
    · rename_i h1
      exact ⟨0, 0, false, rfl, hF, fun _ => .inl h1, fun e => by cases e⟩
    · rename_i h1
      exact ⟨fromN xs, toN xs, decide (toN xs ≤ xs.length), rfl, hF, fun e => .inr (by have := of_decide_eq_false e; omega), fun e => ⟨rfl, rfl, by omega, of_decide_eq_true e⟩⟩
theorem take_u (w0 w1 : World) (ga b oa ca ov cv : Nat) (all v : List Int) (a : AtL) (K L : List Ent) (hG : GF w0) (hZ : GZ w0) (hWa : Win w0 b oa ca all) (hWv : Win w0 b ov cv v) (hn : all.length ≤ 100000) (hnv : v.length ≤ 100000) (h2 : 2 ≤ all.length) (ht : 1 ≤ fOf all 1 ∧ fOf all 1 ≤ 8)
    (hA : AtOwn K a) (hh0 : 0 ≤ a.has) (hh1 : a.has ≤ 511) (hb : ∀ t : Nat, fOf all 1 = t → a.has / 2 ^ t % 2 = 0) (h8 : fOf all 1 = 8 → a.cad = none ∧ a.cc = 0 ∧ a.comms = []) (hS0 : St (fun _ => False) w0 w1 (.row ga a.cells :: (K ++ L))) :
    Calls Tryd.prog 82 #[.pointer (some ⟨ga, 0, none⟩), .slice (some ⟨b, oa, none⟩) all.length ca, .slice (some ⟨b, ov, none⟩) v.length cv] w1 fun e w' => ∃ (ok : Bool) (s : Int) (d : ByteArray) (a' : AtL) (K' : List Ent),
      e = .returned (.agg (fltL (if ok then 0 else 3) s d).toArray) ∧ AtOwn K' a' ∧ a'.others = a.others ∧ a'.oad = a.oad ∧ a'.oc = a.oc ∧ (fOf all 1 = 8 ∨ (a'.cad = a.cad ∧ a'.cc = a.cc)) ∧ St (fun _ => False) w0 w' (.row ga a'.cells :: (K' ++ L)) ∧
      (ok = false → stepD a.d all v = .inr (s, d)) ∧ (ok = true → s = 0 ∧ d = ⟨#[]⟩ ∧ stepD a.d all v = .inl a'.d) := by
  obtain ⟨t, et⟩ := Int.eq_ofNat_of_zero_le (show 0 ≤ fOf all 1 by omega)
  have es : stepD a.d all v = takeD a.d all v := by unfold stepD; rw [if_pos ht]
  rw [es]
  refine (take_c w0 w1 ga b oa ca ov cv all v a K L hG hZ hWa hWv hn hnv h2 t et (by omega) (by omega) hA hh0 hh1 (hb t et) (fun e => h8 (by omega)) hS0).mono ?_
  rintro e w' ⟨a', K', hA', q1, q2, q3, q4, hS', hK, hD⟩
  cases hq : takeD a.d all v with
  | inr x =>
    obtain ⟨s, d⟩ := x
    rw [hq] at hD
    exact ⟨false, s, d, a', K', hD, hA', q1, q2, q3, q4, hS', fun _ => rfl, fun e => by cases e⟩
  | inl d =>
    rw [hq] at hD
    exact ⟨true, 0, ⟨#[]⟩, a', K', hD.1, hA', q1, q2, q3, q4, hS', (fun e => by cases e), fun _ => ⟨rfl, rfl, by rw [hD.2]⟩⟩
theorem other_u (w0 w1 : World) (ga b oa ca ov cv : Nat) (all v : List Int) (a : AtL) (E L : List Ent) (hWa : Win w0 b oa ca all) (hWv : Win w0 b ov cv v) (hn : all.length ≤ 100000) (hnv : v.length ≤ 100000) (h2 : 2 ≤ all.length) (ht : ¬ (1 ≤ fOf all 1 ∧ fOf all 1 ≤ 8))
    (hV : Vec 2 a.oad a.others.length a.oc (othsL a.others) E) (hol : a.others.length ≤ 100000) (hS0 : St (fun _ => False) w0 w1 (E ++ (.row ga a.cells :: L))) :
    Calls Tryd.prog 83 #[.pointer (some ⟨ga, 0, none⟩), .slice (some ⟨b, oa, none⟩) all.length ca, .slice (some ⟨b, ov, none⟩) v.length cv] w1 fun e w' => ∃ (ok : Bool) (s : Int) (d : ByteArray) (ad : Option Addr) (oc : Nat) (os : List OthL) (E' K : List Ent),
      e = .returned (.agg (fltL (if ok then 0 else 3) s d).toArray) ∧ Vec 2 ad os.length oc (othsL os) E' ∧ os.length ≤ a.others.length + 1 ∧ (∀ KO, (∀ o ∈ a.others, OthOwn KO o) → ∀ o ∈ os, OthOwn (K ++ KO) o) ∧ St (fun _ => False) w0 w' (E' ++ (K ++ (.row ga (AtL.cells { a with oad := ad, oc := oc, others := os }) :: L))) ∧
      (ok = false → stepD a.d all v = .inr (s, d)) ∧ (ok = true → s = 0 ∧ d = ⟨#[]⟩ ∧ stepD a.d all v = .inl (AtL.d { a with oad := ad, oc := oc, others := os })) := by
  have es : stepD a.d all v = otherD a.d all v := by unfold stepD; rw [if_neg ht]
  rw [es]
  refine (other_c w0 w1 ga b oa ca ov cv all v a E L hWa hWv hn hnv h2 hV hol hS0).mono ?_
  rintro e w' ⟨ad, oc, os, E', K, hV', hol', hO', hS', hD⟩
  cases hq : otherD a.d all v with
  | inr x =>
    obtain ⟨s, d⟩ := x
    rw [hq] at hD
    exact ⟨false, s, d, ad, oc, os, E', K, hD, hV', hol', hO', hS', fun _ => rfl, fun e => by cases e⟩
  | inl d =>
    rw [hq] at hD
    exact ⟨true, 0, ⟨#[]⟩, ad, oc, os, E', K, hD.1, hV', hol', hO', hS', (fun e => by cases e), fun _ => ⟨rfl, rfl, by rw [hD.2]⟩⟩
/-- Which have been seen. -/
def seenL (seen : List Int) : List Value := (List.range 256).map fun (i : Nat) => .bool (decide ((i : Int) ∈ seen))
theorem seenL_get (seen : List Int) {k : Nat} (hk : k < 256) : (seenL seen)[k]? = some (.bool (decide ((k : Int) ∈ seen))) := by
  unfold seenL; rw [List.getElem?_map, List.getElem?_range hk]; rfl
theorem seenL_set (seen : List Int) {x : Int} (h0 : 0 ≤ x) (h1 : x ≤ 255) : (seenL seen).set x.toNat (.bool true) = seenL (x :: seen) := by
  apply List.ext_getElem?
  intro i
  rw [List.getElem?_set]
  by_cases hi : i < 256
  · rw [seenL_get _ hi, seenL_get _ hi]
    split
    · rename_i e
      rw [if_pos (by rw [show (seenL seen).length = 256 by simp [seenL]]; omega)]
      rw [decide_eq_true (show (i : Int) ∈ x :: seen by rw [show (i : Int) = x by omega]; exact List.mem_cons_self ..)]
    · rename_i e
      congr 2
      have : (i : Int) ≠ x := by omega
      exact decide_eq_decide.2 (by simp [this])
  · have l1 : (seenL seen).length = 256 := by simp [seenL]
    have l2 : (seenL (x :: seen)).length = 256 := by simp [seenL]
    rw [if_neg (by omega), List.getElem?_eq_none (by omega), List.getElem?_eq_none (by omega)]
theorem zero_149 : Zero Tryd.prog 149 (seenL []) := Zero.mk (z := .agg (seenL []).toArray) (by kernel_rfl) rfl
/-- All that an Attrs holds lies in blocks of K. -/
structure AtAll (K : List Ent) (a : AtL) : Prop where
  own : AtOwn K a
  oths : ∃ E, Vec 2 a.oad a.others.length a.oc (othsL a.others) E ∧ ∀ e ∈ E, e ∈ K
  vals : ∀ o ∈ a.others, OthOwn K o
structure DecS where
  a : AtL
  K : List Ent
  E : List Ent
  KO : List Ent
def AtDecP (w0 w' : World) (xs : List Int) (e : Ending) : Prop :=
  match decD AtL.zero.d [] xs with
  | .inr (s, d) => e = .returned (.tuple #[.agg AtL.zero.cells.toArray, .agg (fltL 3 s d).toArray]) ∧ Frm (fun _ => False) w0 w'
  | .inl d => ∃ a K, e = .returned (.tuple #[.agg a.cells.toArray, .agg (fltL 0 0 ⟨#[]⟩).toArray]) ∧ a.d = { d with others := sortO d.others } ∧ AtAll K a ∧ St (fun _ => False) w0 w' K
set_option maxHeartbeats 4000000 in
theorem AtDecode_c (w0 : World) (b o c : Nat) (xs : List Int) (hG : GF w0) (hZ : GZ w0) (hW : Win w0 b o c xs) (hn : xs.length ≤ 90000) :
    Calls Tryd.prog 62 #[.slice (some ⟨b, o, none⟩) xs.length c] w0 fun e w' => AtDecP w0 w' xs e := by
  refine enter Tryd.func62 rfl Tryd.ntmps62 rfl (St.start (fun _ => False) w0) ?_
  refine WC.seq ?_
  refine WC.region ?_
  refine WL.alloc rfl zero_41 (.none rfl) rfl rfl ?_
  intro g2 hg2
  refine WL.alloc rfl zero_25 (.none rfl) rfl rfl ?_
  intro g3 hg3
  refine WL.nil ?_
  refine WE.then_n ?_
  refine WC.seq ?_
  refine WC.region ?_
  refine WL.alloc rfl zero_41 (.none rfl) rfl rfl ?_
  intro g4 hg4
  refine WL.nil ?_
  refine WE.then_n ?_
  refine WC.seq ?_
  refine WC.region ?_
  refine WL.alloc rfl zero_149 (.none rfl) rfl rfl ?_
  intro g5 hg5
  refine WL.as (L' := .row g5 (seenL []) :: .row g4 AtL.zero.cells :: [.row g3 (fltL 0 0 ⟨#[]⟩), .row g2 AtL.zero.cells]) (by kernel_rfl) ?_
  refine WL.to (L' := .row g4 AtL.zero.cells :: [.row g5 (seenL []), .row g3 (fltL 0 0 ⟨#[]⟩), .row g2 AtL.zero.cells]) (fun w hS => hS.perm (List.Perm.swap _ _ _)) ?_
  refine WL.nil ?_
  refine WE.then_n ?_
  refine WC.seq ?_
  refine WC.block ?_
  refine WC.loop (fun x : List Int × Nat × Nat × List Int × DecS => [(0, .slice (some ⟨b, x.2.1, none⟩) x.1.length x.2.2.1), (2, .pointer (some ⟨g2, 0, none⟩)), (3, .pointer (some ⟨g3, 0, none⟩)), (4, .pointer (some ⟨g4, 0, none⟩)), (5, .pointer (some ⟨g5, 0, none⟩))]) (fun x => .row g4 x.2.2.2.2.a.cells :: (x.2.2.2.2.K ++ (x.2.2.2.2.E ++ (x.2.2.2.2.KO ++ [.row g5 (seenL x.2.2.2.1), .row g3 (fltL 0 0 ⟨#[]⟩), .row g2 AtL.zero.cells])))) (fun x => x.1.length + x.2.2.2.2.a.others.length ≤ xs.length ∧ Win w0 b x.2.1 x.2.2.1 x.1 ∧ decD AtL.zero.d [] xs = decD x.2.2.2.2.a.d x.2.2.2.1 x.1 ∧ AtOwn x.2.2.2.2.K x.2.2.2.2.a ∧ Vec 2 x.2.2.2.2.a.oad x.2.2.2.2.a.others.length x.2.2.2.2.a.oc (othsL x.2.2.2.2.a.others) x.2.2.2.2.E ∧ (∀ o ∈ x.2.2.2.2.a.others, OthOwn x.2.2.2.2.KO o) ∧ SeenI x.2.2.2.2.a.d x.2.2.2.1 ∧ ((8 : Int) ∉ x.2.2.2.1 → x.2.2.2.2.a.cad = none ∧ x.2.2.2.2.a.cc = 0)) (fun x => x.1.length) (xs, o, c, [], ⟨.zero, [], [], []⟩) ⟨Nat.le_refl _, hW, rfl, AtOwn.zero, Vec.nil 2, (fun _ h => by cases h), ⟨by show (0 : Int) ≤ 0; decide, by show (0 : Int) ≤ 511; decide, fun t _ _ => by show (0 : Int) / _ % 2 = 0; simp, fun _ => rfl, List.nodup_nil, fun _ h => by cases h⟩, fun _ => ⟨rfl, rfl⟩⟩ (.cons rfl (.cons rfl (.cons rfl (.cons rfl (.cons rfl .nil))))) (.refl _) ?_
  rintro ⟨ys, o2, c2, seen, ⟨a, K, E, KO⟩⟩ ⟨hl, hW2, hy, hA, hV, hO, hSn, h8⟩
  dsimp only at hl hW2 hy hA hV hO hSn h8
  dsimp only
  have hle := hW2.le
  have h1 := fOf_b hW2.bys 1
  have hfr := fromN_b ys
  refine WC.seq ?_
  refine WC.seq ?_
  refine WC.region ?_
  refine WL.val (v_move rfl rfl) (.none rfl) rfl rfl ?_
  refine WL.val (v_len_slice rfl rfl Tryd.underlying22) (.none rfl) rfl rfl ?_
  refine WL.test (v_gtr rfl rfl rfl) (.none rfl) rfl rfl (fun h12 => ?_) (fun h12 => ?_)
  · -- 12T
    refine WL.nil ?_
    refine WE.then_n ?_
    refine WC.cond_t rfl ?_
    refine WC.skip ?_
    refine WE.then_n ?_
    refine WC.block ?_
    refine WC.seq ?_
    refine WC.region ?_
    refine WL.val (v_move rfl rfl) (.none rfl) rfl rfl ?_
    refine WL.call rfl rfl ck_80 (.none rfl) rfl rfl ?_
    intro w1 hS
    refine (cut_u w1 b o2 c2 ys (hW2.st hS) (by omega)).mono ?_
    rintro e w' ⟨f, t, ok, rfl, hF, hok0, hok1⟩
    refine ⟨_, _, rfl, hS.ext hF, ?_⟩
    refine WL.val (v_move rfl rfl) (.none rfl) rfl rfl ?_
    refine WL.val (v_extract rfl rfl rfl) (.none rfl) rfl rfl ?_
    refine WL.val (v_extract rfl rfl rfl) (.none rfl) rfl rfl ?_
    refine WL.val (v_extract rfl rfl rfl) (.none rfl) rfl rfl ?_
    refine WL.val (v_assign rfl rfl) (.none rfl) rfl rfl ?_
    refine WL.val (v_assign rfl rfl) (.none rfl) rfl rfl ?_
    refine WL.val (v_assign rfl rfl) (.none rfl) rfl rfl ?_
    refine WL.nil ?_
    refine WE.then_n ?_
    refine WC.cut (fun _ : Unit => [(0, .slice (some ⟨b, o2, none⟩) ys.length c2), (2, .pointer (some ⟨g2, 0, none⟩)), (3, .pointer (some ⟨g3, 0, none⟩)), (4, .pointer (some ⟨g4, 0, none⟩)), (5, .pointer (some ⟨g5, 0, none⟩)), (6, .int .i64 (fromN ys)), (7, .int .i64 (toN ys))]) (fun _ => .row g4 a.cells :: (K ++ (E ++ (KO ++ [.row g5 (seenL seen), .row g3 (fltL 0 0 ⟨#[]⟩), .row g2 AtL.zero.cells])))) (fun _ => 0 < ys.length ∧ fromN ys ≤ ys.length ∧ toN ys ≤ ys.length ∧ fOf ys 1 ∉ seen) ?_ ?_
    · -- cut27
      refine WC.seq ?_
      refine WC.region ?_
      refine WL.val (v_move rfl rfl) (.none rfl) rfl rfl ?_
      skip
      cases ok
      · -- 19F
        refine WL.val (v_not rfl rfl rfl) (.none rfl) rfl rfl ?_
        refine WL.val (v_move rfl rfl) (.none rfl) rfl rfl ?_
        refine WL.skip rfl rfl rfl rfl rfl rfl ?_
        refine WL.skip rfl rfl rfl rfl rfl rfl ?_
        refine WL.skip rfl rfl rfl rfl rfl rfl ?_
        refine WL.skip rfl rfl rfl rfl rfl rfl ?_
        refine WL.skip rfl rfl rfl rfl rfl rfl ?_
        generalize hsn : decide ((((fOf ys 1).toNat : Nat) : Int) ∈ seen) = bs
        cases bs
        · -- 26F
          refine WL.val (v_pick_t rfl rfl rfl) (.none rfl) rfl rfl ?_
          refine WL.nil ?_
          refine WE.then_n ?_
          refine WC.cond_t rfl ?_
          refine WC.seq ?_
          refine WC.region ?_
          refine WL.val (v_build rfl rfl zero_41 plc_41 rfl) (.none rfl) rfl rfl ?_
          refine WL.val (v_build rfl rfl zero_25 plc_25 rfl) (.none rfl) rfl rfl ?_
          refine WL.storeW rfl rfl rfl rfl many_41 rfl rfl (.none rfl) rfl ?_
          refine WL.storeW rfl rfl rfl rfl many_25 rfl rfl (.none rfl) rfl ?_
          refine WL.nil ?_
          refine WE.then_n ?_
          refine WC.ret ?_
          refine WE.then_ret ?_
          refine WE.block_ret ?_
          refine WE.then_ret ?_
          refine WE.block_ret ?_
          refine WE.then_ret ?_
          refine WE.ret2 (P := Tryd.prog) (.inl rfl) Tryd.results62 (resRow rfl many_41 rfl) (resRow rfl many_25 rfl) ?_
          have e0 : decD AtL.zero.d [] xs = .inr (1, ⟨#[]⟩) := (by rw [hy]; exact decD_bad (by omega) ((hok0 rfl).elim .inl fun h => .inr (.inl h)))
          exact fun w' h => by unfold AtDecP; rw [e0]; exact ⟨rfl, h.frm⟩
        · -- 26T
          refine WL.val (v_pick_t rfl rfl rfl) (.none rfl) rfl rfl ?_
          refine WL.nil ?_
          refine WE.then_n ?_
          refine WC.cond_t rfl ?_
          refine WC.seq ?_
          refine WC.region ?_
          refine WL.val (v_build rfl rfl zero_41 plc_41 rfl) (.none rfl) rfl rfl ?_
          refine WL.val (v_build rfl rfl zero_25 plc_25 rfl) (.none rfl) rfl rfl ?_
          refine WL.storeW rfl rfl rfl rfl many_41 rfl rfl (.none rfl) rfl ?_
          refine WL.storeW rfl rfl rfl rfl many_25 rfl rfl (.none rfl) rfl ?_
          refine WL.nil ?_
          refine WE.then_n ?_
          refine WC.ret ?_
          refine WE.then_ret ?_
          refine WE.block_ret ?_
          refine WE.then_ret ?_
          refine WE.block_ret ?_
          refine WE.then_ret ?_
          refine WE.ret2 (P := Tryd.prog) (.inl rfl) Tryd.results62 (resRow rfl many_41 rfl) (resRow rfl many_25 rfl) ?_
          have e0 : decD AtL.zero.d [] xs = .inr (1, ⟨#[]⟩) := (by rw [hy]; exact decD_bad (by omega) ((hok0 rfl).elim .inl fun h => .inr (.inl h)))
          exact fun w' h => by unfold AtDecP; rw [e0]; exact ⟨rfl, h.frm⟩
      · -- 19T
        refine WL.val (v_not rfl rfl rfl) (.none rfl) rfl rfl ?_
        refine WL.val (v_move rfl rfl) (.none rfl) rfl rfl ?_
        obtain ⟨rfl, rfl, hf2, ht2⟩ := hok1 rfl
        refine WL.val (v_move rfl rfl) (.some rfl rfl rfl) rfl rfl ?_
        refine WL.val (v_indexAddr (lo := 1) rfl rfl rfl Tryd.underlying22 sz_5 rfl (by omega)) (.some rfl rfl rfl) rfl rfl ?_
        refine WL.val (v_load1 rfl rfl one_5 (cellOld (fun h => h) (hW2.get (fOf_get (by omega))))) (.some rfl rfl rfl) rfl rfl ?_
        refine WL.val (v_indexAddrA (lo := (fOf ys 1).toNat) rfl rfl rfl Tryd.underlying149 sz_4 (by omega) (by omega)) (.some rfl rfl rfl) rfl rfl ?_
        refine WL.val (v_load1 rfl rfl one_4 (cellAt (by rw [Nat.zero_add, Nat.mul_one]; exact seenL_get seen (by omega)))) (.some rfl rfl rfl) rfl rfl ?_
        generalize hsn : decide ((((fOf ys 1).toNat : Nat) : Int) ∈ seen) = bs
        cases bs
        · -- 26F
          refine WL.val (v_pick_f rfl rfl rfl) (.none rfl) rfl rfl ?_
          refine WL.nil ?_
          refine WE.then_n ?_
          refine WC.cond_f rfl ?_
          refine WC.skip ?_
          exact WE.mid () ⟨by omega, hf2, ht2, by rw [show fOf ys 1 = (((fOf ys 1).toNat : Nat) : Int) by omega]; exact of_decide_eq_false hsn⟩ (.cons rfl (.cons rfl (.cons rfl (.cons rfl (.cons rfl (.cons rfl (.cons rfl .nil))))))) (.refl _)
        · -- 26T
          refine WL.val (v_pick_f rfl rfl rfl) (.none rfl) rfl rfl ?_
          refine WL.nil ?_
          refine WE.then_n ?_
          refine WC.cond_t rfl ?_
          refine WC.seq ?_
          refine WC.region ?_
          refine WL.val (v_build rfl rfl zero_41 plc_41 rfl) (.none rfl) rfl rfl ?_
          refine WL.val (v_build rfl rfl zero_25 plc_25 rfl) (.none rfl) rfl rfl ?_
          refine WL.storeW rfl rfl rfl rfl many_41 rfl rfl (.none rfl) rfl ?_
          refine WL.storeW rfl rfl rfl rfl many_25 rfl rfl (.none rfl) rfl ?_
          refine WL.nil ?_
          refine WE.then_n ?_
          refine WC.ret ?_
          refine WE.then_ret ?_
          refine WE.block_ret ?_
          refine WE.then_ret ?_
          refine WE.block_ret ?_
          refine WE.then_ret ?_
          refine WE.ret2 (P := Tryd.prog) (.inl rfl) Tryd.results62 (resRow rfl many_41 rfl) (resRow rfl many_25 rfl) ?_
          have e0 : decD AtL.zero.d [] xs = .inr (1, ⟨#[]⟩) := (by rw [hy]; exact decD_bad (by omega) (.inr (.inr (by rw [show fOf ys 1 = (((fOf ys 1).toNat : Nat) : Int) by omega]; exact of_decide_eq_true hsn))))
          exact fun w' h => by unfold AtDecP; rw [e0]; exact ⟨rfl, h.frm⟩
    · -- behind cut27
      rintro _ ⟨h0, hf2, ht2, hns⟩
      have htg := toN_ge ys
      have hst := decD_step (d := a.d) (seen := seen) (xs := ys) h0 (fun h => by rcases h with h | h | h <;> first | omega | exact hns h)
      have hWa := hW2.take (toN ys)
      have hWv := hWa.drop (fromN ys)
      have hal : (ys.take (toN ys)).length = toN ys := (by rw [List.length_take]; omega)
      have hvl : ((ys.take (toN ys)).drop (fromN ys)).length = toN ys - fromN ys := (by rw [List.length_drop, hal])
      have hf1 : fOf (ys.take (toN ys)) 1 = fOf ys 1 := (by rw [fOf_take, if_pos (by omega)])
      refine WC.seq ?_
      refine WC.region ?_
      refine WL.val (v_move rfl rfl) (.none rfl) rfl rfl ?_
      refine WL.val (v_indexAddr (lo := 1) rfl rfl rfl Tryd.underlying22 sz_5 rfl (by omega)) (.none rfl) rfl rfl ?_
      refine WL.val (v_load1 rfl rfl one_5 (cellOld (fun h => h) (hW2.get (fOf_get (by omega))))) (.none rfl) rfl rfl ?_
      refine WL.val (v_indexAddrA (lo := (fOf ys 1).toNat) rfl rfl rfl Tryd.underlying149 sz_4 (by omega) (by omega)) (.none rfl) rfl rfl ?_
      refine WL.store1 rfl rfl rfl rfl one_4 (by rw [show (seenL seen).length = 256 by simp [seenL]]; omega) (.none rfl) rfl ?_
      refine WL.as (L' := .row g4 a.cells :: (K ++ (E ++ (KO ++ [.row g5 (seenL (fOf ys 1 :: seen)), .row g3 (fltL 0 0 ⟨#[]⟩), .row g2 AtL.zero.cells])))) (by rw [← seenL_set seen h1.1 h1.2, Nat.zero_add, Nat.mul_one]) ?_
      refine WL.nil ?_
      refine WE.then_n ?_
      refine WC.seq ?_
      refine WC.region ?_
      refine WL.val (v_build rfl rfl zero_25 plc_25 rfl) (.none rfl) rfl rfl ?_
      refine WL.alloc rfl zero_25 (.none rfl) rfl rfl ?_
      intro g9 hg9
      refine WL.storeW rfl rfl rfl rfl many_25 rfl rfl (.none rfl) rfl ?_
      refine WL.nil ?_
      refine WE.then_n ?_
      refine WC.cut (fun y : Bool × Int × ByteArray × DecS => [(0, .slice (some ⟨b, o2, none⟩) ys.length c2), (2, .pointer (some ⟨g2, 0, none⟩)), (3, .pointer (some ⟨g3, 0, none⟩)), (4, .pointer (some ⟨g4, 0, none⟩)), (5, .pointer (some ⟨g5, 0, none⟩)), (7, .int .i64 (toN ys)), (9, .pointer (some ⟨g9, 0, none⟩))]) (fun y => .row g9 (fltL (if y.1 then 0 else 3) y.2.1 y.2.2.1) :: .row g4 y.2.2.2.a.cells :: (y.2.2.2.K ++ (y.2.2.2.E ++ (y.2.2.2.KO ++ [.row g5 (seenL (fOf ys 1 :: seen)), .row g3 (fltL 0 0 ⟨#[]⟩), .row g2 AtL.zero.cells])))) (fun y => AtOwn y.2.2.2.K y.2.2.2.a ∧ Vec 2 y.2.2.2.a.oad y.2.2.2.a.others.length y.2.2.2.a.oc (othsL y.2.2.2.a.others) y.2.2.2.E ∧ (∀ o ∈ y.2.2.2.a.others, OthOwn y.2.2.2.KO o) ∧ y.2.2.2.a.others.length ≤ a.others.length + 1 ∧ ((8 : Int) ∉ fOf ys 1 :: seen → y.2.2.2.a.cad = none ∧ y.2.2.2.a.cc = 0) ∧
      (y.1 = false → stepD a.d (ys.take (toN ys)) ((ys.take (toN ys)).drop (fromN ys)) = .inr (y.2.1, y.2.2.1)) ∧ (y.1 = true → y.2.1 = 0 ∧ y.2.2.1 = ⟨#[]⟩ ∧ stepD a.d (ys.take (toN ys)) ((ys.take (toN ys)).drop (fromN ys)) = .inl y.2.2.2.a.d)) ?_ ?_
      · -- cut39
        refine WC.seq ?_
        refine WC.region ?_
        refine WL.val (v_move rfl rfl) (.none rfl) rfl rfl ?_
        refine WL.val (v_indexAddr (lo := 1) rfl rfl rfl Tryd.underlying22 sz_5 rfl (by omega)) (.none rfl) rfl rfl ?_
        refine WL.val (v_load1 rfl rfl one_5 (cellOld (fun h => h) (hW2.get (fOf_get (by omega))))) (.none rfl) rfl rfl ?_
        refine WL.val (v_conv rfl rfl Tryd.underlying3 Tryd.underlying5 (w_i64 (by omega) (by omega))) (.none rfl) rfl rfl ?_
        refine WL.call rfl rfl ck_81 (.none rfl) rfl rfl ?_
        intro w hS
        refine Calls.then (isKnown_c w (fOf ys 1)) hS ?_
        refine WL.nil ?_
        refine WE.then_n ?_
        refine WC.cond_d rfl (fun h39 => ?_) (fun h39 => ?_)
        · -- 39T
          refine WC.orders mixed ?_
          refine WR.first (g := 2) [0, 1, 2, 3, 4, 5, 6] (by kernel_rfl) (by kernel_rfl) ?_
          refine WP.val (v_move rfl rfl) (.none rfl) rfl rfl ?_
          refine WP.val (v_move rfl rfl) (.none rfl) rfl rfl ?_
          refine WP.val ((v_slice_hi (hi := toN ys) rfl rfl rfl Tryd.underlying22 sz_5 rfl (by omega))) (.none rfl) rfl rfl ?_
          refine WP.val (v_move rfl rfl) (.none rfl) rfl rfl ?_
          refine WP.val (v_move rfl rfl) (.none rfl) rfl rfl ?_
          refine WP.val (v_move rfl rfl) (.none rfl) rfl rfl ?_
          refine WP.val ((v_slice_lh (lo := fromN ys) (hi := toN ys) rfl rfl rfl rfl Tryd.underlying22 sz_5 rfl rfl (by omega) (by omega))) (.none rfl) rfl rfl ?_
          refine WP.nil ?_
          refine WR.ones (g := 0) [7, 8] (by kernel_rfl) ?_
          refine WL.call rfl rfl ck_82 (.none rfl) rfl rfl ?_
          intro w1 hS
          have hc := take_u w0 w1 g4 b o2 c2 (sAddr o2 (fromN ys) c2 1) (c2 - fromN ys) (ys.take (toN ys)) ((ys.take (toN ys)).drop (fromN ys)) a K (.row g9 (fltL 0 0 ⟨#[]⟩) :: (E ++ (KO ++ [.row g5 (seenL (fOf ys 1 :: seen)), .row g3 (fltL 0 0 ⟨#[]⟩), .row g2 AtL.zero.cells]))) hG hZ hWa hWv (by omega) (by omega) (by omega) (by rw [hf1]; exact h39) hA hSn.h0 hSn.h1 (fun t et => hSn.bit t (by omega) (.inr (by rw [← et, hf1]; exact hns))) (fun e8 => by
            rw [hf1] at e8
            rw [e8] at hns
            exact ⟨(h8 hns).1, (h8 hns).2, hSn.com hns⟩) (St.front (R := .row g4 a.cells :: K) (L := E ++ (KO ++ [.row g5 (seenL (fOf ys 1 :: seen)), .row g3 (fltL 0 0 ⟨#[]⟩), .row g2 AtL.zero.cells])) [.row g9 (fltL 0 0 ⟨#[]⟩)] hS)
          rw [hal, hvl] at hc
          refine hc.mono ?_
          rintro e w' ⟨ok, s, d, a', K', rfl, hA', q1, q2, q3, q4, hS', hF, hT⟩
          refine ⟨_, _, rfl, hS', ?_⟩
          refine WL.storeW rfl rfl rfl rfl many_25 rfl rfl (.none rfl) rfl ?_
          refine WL.as (L' := .row g4 a'.cells :: (K' ++ (.row g9 (fltL (if ok then 0 else 3) s d) :: (E ++ (KO ++ [.row g5 (seenL (fOf ys 1 :: seen)), .row g3 (fltL 0 0 ⟨#[]⟩), .row g2 AtL.zero.cells]))))) rfl ?_
          refine WL.to (L' := .row g9 (fltL (if ok then 0 else 3) s d) :: .row g4 a'.cells :: (K' ++ (E ++ (KO ++ [.row g5 (seenL (fOf ys 1 :: seen)), .row g3 (fltL 0 0 ⟨#[]⟩), .row g2 AtL.zero.cells])))) (fun w hS => St.front (R := [.row g9 (fltL (if ok then 0 else 3) s d)]) (L := E ++ (KO ++ [.row g5 (seenL (fOf ys 1 :: seen)), .row g3 (fltL 0 0 ⟨#[]⟩), .row g2 AtL.zero.cells])) (.row g4 a'.cells :: K') hS) ?_
          refine WL.nilR ?_
          refine WR.done (by kernel_rfl) ?_
          exact WE.mid (ok, s, d, ⟨a', K', E, KO⟩) ⟨hA', by dsimp only; rw [q1, q2, q3]; exact hV, by dsimp only; rw [q1]; exact hO, by dsimp only; rw [q1]; omega, fun hn8 => by
          dsimp only
          rcases q4 with q4 | q4
          · rw [hf1] at q4; rw [q4] at hn8; exact absurd (List.mem_cons_self ..) hn8
          · rw [q4.1, q4.2]; exact h8 fun hm => hn8 (List.mem_cons_of_mem _ hm), hF, hT⟩ (.cons rfl (.cons rfl (.cons rfl (.cons rfl (.cons rfl (.cons rfl (.cons rfl .nil))))))) (.refl _)
        · -- 39F
          refine WC.orders mixed ?_
          refine WR.first (g := 2) [0, 1, 2, 3, 4, 5, 6] (by kernel_rfl) (by kernel_rfl) ?_
          refine WP.val (v_move rfl rfl) (.none rfl) rfl rfl ?_
          refine WP.val (v_move rfl rfl) (.none rfl) rfl rfl ?_
          refine WP.val ((v_slice_hi (hi := toN ys) rfl rfl rfl Tryd.underlying22 sz_5 rfl (by omega))) (.none rfl) rfl rfl ?_
          refine WP.val (v_move rfl rfl) (.none rfl) rfl rfl ?_
          refine WP.val (v_move rfl rfl) (.none rfl) rfl rfl ?_
          refine WP.val (v_move rfl rfl) (.none rfl) rfl rfl ?_
          refine WP.val ((v_slice_lh (lo := fromN ys) (hi := toN ys) rfl rfl rfl rfl Tryd.underlying22 sz_5 rfl rfl (by omega) (by omega))) (.none rfl) rfl rfl ?_
          refine WP.nil ?_
          refine WR.ones (g := 0) [7, 8] (by kernel_rfl) ?_
          refine WL.call rfl rfl ck_83 (.none rfl) rfl rfl ?_
          intro w1 hS
          have hc := other_u w0 w1 g4 b o2 c2 (sAddr o2 (fromN ys) c2 1) (c2 - fromN ys) (ys.take (toN ys)) ((ys.take (toN ys)).drop (fromN ys)) a E (.row g9 (fltL 0 0 ⟨#[]⟩) :: (K ++ (KO ++ [.row g5 (seenL (fOf ys 1 :: seen)), .row g3 (fltL 0 0 ⟨#[]⟩), .row g2 AtL.zero.cells]))) hWa hWv (by omega) (by omega) (by omega) (by rw [hf1]; exact h39) hV (by omega)
            ((St.front (R := E) (L := KO ++ [.row g5 (seenL (fOf ys 1 :: seen)), .row g3 (fltL 0 0 ⟨#[]⟩), .row g2 AtL.zero.cells]) (.row g9 (fltL 0 0 ⟨#[]⟩) :: .row g4 a.cells :: K) hS).perm (List.Perm.append_left E (List.Perm.swap _ _ _)))
          rw [hal, hvl] at hc
          refine hc.mono ?_
          rintro e w' ⟨ok, s, d, ad, oc, os, E', K2, rfl, hV', hol', hO', hS', hF, hT⟩
          refine ⟨_, _, rfl, hS', ?_⟩
          refine WL.storeW rfl rfl rfl rfl many_25 rfl rfl (.none rfl) rfl ?_
          refine WL.as (L' := E' ++ (K2 ++ (.row g4 (AtL.cells { a with oad := ad, oc := oc, others := os }) :: .row g9 (fltL (if ok then 0 else 3) s d) :: (K ++ (KO ++ [.row g5 (seenL (fOf ys 1 :: seen)), .row g3 (fltL 0 0 ⟨#[]⟩), .row g2 AtL.zero.cells]))))) rfl ?_
          refine WL.to (L' := .row g9 (fltL (if ok then 0 else 3) s d) :: .row g4 (AtL.cells { a with oad := ad, oc := oc, others := os }) :: (K ++ (E' ++ ((K2 ++ KO) ++ [.row g5 (seenL (fOf ys 1 :: seen)), .row g3 (fltL 0 0 ⟨#[]⟩), .row g2 AtL.zero.cells])))) (fun w hS => by
            have := St.front (R := .row g4 (AtL.cells { a with oad := ad, oc := oc, others := os }) :: .row g9 (fltL (if ok then 0 else 3) s d) :: K) (L := KO ++ [.row g5 (seenL (fOf ys 1 :: seen)), .row g3 (fltL 0 0 ⟨#[]⟩), .row g2 AtL.zero.cells]) (E' ++ K2) (by simpa only [List.cons_append, List.append_assoc, List.nil_append] using hS)
            refine St.perm ?_ (List.Perm.swap _ _ _)
            simpa only [List.cons_append, List.append_assoc, List.nil_append] using this) ?_
          refine WL.nilR ?_
          refine WR.done (by kernel_rfl) ?_
          exact WE.mid (ok, s, d, ⟨{ a with oad := ad, oc := oc, others := os }, K, E', K2 ++ KO⟩) ⟨⟨hA.path, hA.segs, hA.comms⟩, hV', hO' KO hO, hol', fun hn8 => h8 fun hm => hn8 (List.mem_cons_of_mem _ hm), hF, hT⟩ (.cons rfl (.cons rfl (.cons rfl (.cons rfl (.cons rfl (.cons rfl (.cons rfl .nil))))))) (.refl _)
      · -- behind cut39
        rintro ⟨ok, s, d, ⟨a', K', E', KO'⟩⟩ ⟨hA', hV', hO', hlo, h8', hF, hT⟩
        dsimp only at hA' hV' hO' hlo h8' hF hT
        dsimp only
        refine WC.seq ?_
        refine WC.seq ?_
        refine WC.region ?_
        refine WL.val (v_loadN rfl rfl many_25 rfl allAt) (.none rfl) rfl rfl ?_
        skip
        cases ok
        · -- 56F
          refine WL.val (v_build rfl rfl zero_25 plc_25 rfl) (.none rfl) rfl rfl ?_
          refine WL.val (v_neq_aggT rfl rfl rfl eqk_25 eqg_25 rfl rfl (by (intro h; simp [fltL] at h))) (.none rfl) rfl rfl ?_
          refine WL.nil ?_
          refine WE.then_n ?_
          refine WC.cond_t rfl ?_
          refine WC.seq ?_
          refine WC.orders mixed ?_
          refine WR.first (g := 3) [0] (by kernel_rfl) (by kernel_rfl) ?_
          refine WP.val (v_build rfl rfl zero_41 plc_41 rfl) (.none rfl) rfl rfl ?_
          refine WP.nil ?_
          refine WR.each (g := 2) [1, 2] (by kernel_rfl) (by decide) ?_
          refine ⟨?_, ?_⟩
          · -- next 1
            refine WL.val (v_loadN rfl rfl many_25 rfl allAt) (.none rfl) rfl rfl ?_
            refine WL.nilR ?_
            refine WR.ones (g := 0) [2, 3] (by kernel_rfl) ?_
            refine WL.storeW rfl rfl rfl rfl many_41 rfl rfl (.none rfl) rfl ?_
            refine WL.storeW rfl rfl rfl rfl many_25 rfl rfl (.none rfl) rfl ?_
            refine WL.nilR ?_
            refine WR.done (by kernel_rfl) ?_
            refine WE.then_n ?_
            refine WC.ret ?_
            refine WE.then_ret ?_
            refine WE.block_ret ?_
            refine WE.then_ret ?_
            refine WE.block_ret ?_
            refine WE.then_ret ?_
            refine WE.ret2 (P := Tryd.prog) (.inl rfl) Tryd.results62 (resRow rfl many_41 rfl) (resRow rfl many_25 rfl) ?_
            have e0 : decD AtL.zero.d [] xs = .inr (s, d) := (by rw [hy, hst, hF rfl])
            exact fun w' h => by unfold AtDecP; rw [e0]; exact ⟨rfl, h.frm⟩
          · -- next 2
            refine WL.storeW rfl rfl rfl rfl many_41 rfl rfl (.none rfl) rfl ?_
            refine WL.nilR ?_
            refine WR.read (g := 1) [1] (by kernel_rfl) (by kernel_rfl) (by kernel_rfl) (by kernel_rfl) rfl ?_
            refine WQ.val (v_loadN rfl rfl many_25 rfl allAt) (.none rfl) rfl rfl ?_
            refine WQ.nilR ?_
            refine WR.ones (g := 0) [3] (by kernel_rfl) ?_
            refine WL.storeW rfl rfl rfl rfl many_25 rfl rfl (.none rfl) rfl ?_
            refine WL.nilR ?_
            refine WR.done (by kernel_rfl) ?_
            refine WE.then_n ?_
            refine WC.ret ?_
            refine WE.then_ret ?_
            refine WE.block_ret ?_
            refine WE.then_ret ?_
            refine WE.block_ret ?_
            refine WE.then_ret ?_
            refine WE.ret2 (P := Tryd.prog) (.inl rfl) Tryd.results62 (resRow rfl many_41 rfl) (resRow rfl many_25 rfl) ?_
            have e0 : decD AtL.zero.d [] xs = .inr (s, d) := (by rw [hy, hst, hF rfl])
            exact fun w' h => by unfold AtDecP; rw [e0]; exact ⟨rfl, h.frm⟩
        · -- 56T
          obtain ⟨rfl, rfl, hst2⟩ := hT rfl
          refine WL.val (v_build rfl rfl zero_25 plc_25 rfl) (.none rfl) rfl rfl ?_
          refine WL.val (v_neq_aggF rfl rfl rfl eqk_25 eqg_25 rfl rfl (by rfl)) (.none rfl) rfl rfl ?_
          refine WL.nil ?_
          refine WE.then_n ?_
          refine WC.cond_f rfl ?_
          refine WC.skip ?_
          refine WE.then_n ?_
          refine WC.region ?_
          refine WL.val (v_move rfl rfl) (.none rfl) rfl rfl ?_
          refine WL.val (v_move rfl rfl) (.none rfl) rfl rfl ?_
          refine WL.val ((v_slice_lo (lo := toN ys) rfl rfl rfl Tryd.underlying22 sz_5 rfl (by omega))) (.none rfl) rfl rfl ?_
          refine WL.val (v_assign rfl rfl) (.none rfl) rfl rfl ?_
          refine WL.nil ?_
          refine WE.block_n ?_
          exact WE.next (ys.drop (toN ys), sAddr o2 (toN ys) c2 1, c2 - toN ys, fOf ys 1 :: seen, ⟨a', K', E', KO'⟩) (by dsimp only; rw [List.length_drop]; omega) ⟨by dsimp only; rw [List.length_drop]; omega, hW2.drop (toN ys), by dsimp only; rw [hy, hst, hst2], hA', hV', hO', by
          have := hSn.step (all := ys.take (toN ys)) (v := (ys.take (toN ys)).drop (fromN ys)) hWa.bys (by rw [hf1]; exact hns) hst2
          rwa [hf1] at this, h8'⟩ (.eq rfl (by dsimp only; rw [List.length_drop]) (.cons rfl (.cons rfl (.cons rfl (.cons rfl .nil))))) (.cons _ (.refl _))
  · -- 12F
    refine WL.nil ?_
    refine WE.then_n ?_
    refine WC.cond_f rfl ?_
    refine WC.exit ?_
    refine WE.then_exit ?_
    refine WE.then_exit ?_
    refine WE.block_hit ?_
    refine WE.then_n ?_
    refine WC.seq ?_
    refine WC.region ?_
    refine WL.val (v_fieldAddr0 rfl rfl fld_41_9) (.none rfl) rfl rfl ?_
    refine WL.val (v_load1 rfl rfl one_39 (cellAt rfl)) (.none rfl) rfl rfl ?_
    refine WL.call rfl rfl ck_84 (.none rfl) rfl rfl ?_
    intro w1 hS
    refine (SortOth_c w0 w1 ((.row g4 a.cells :: K) ++ (KO ++ [.row g5 (seenL seen), .row g3 (fltL 0 0 ⟨#[]⟩), .row g2 AtL.zero.cells])) E a.oad a.oc a.others hV (St.front (R := E) (L := KO ++ [.row g5 (seenL seen), .row g3 (fltL 0 0 ⟨#[]⟩), .row g2 AtL.zero.cells]) (.row g4 a.cells :: K) hS) (by omega)).mono ?_
    rintro e w' ⟨rfl, zs, E2, hp, ha, hV2, hS'⟩
    refine ⟨_, E2 ++ (.row g4 a.cells :: (K ++ (KO ++ [.row g5 (seenL seen), .row g3 (fltL 0 0 ⟨#[]⟩), .row g2 AtL.zero.cells]))), rfl, hS', ?_⟩
    refine WL.nil ?_
    refine WE.then_n ?_
    refine WC.seq ?_
    refine WC.region ?_
    refine WL.val (v_loadN rfl rfl many_41 rfl allAt) (.none rfl) rfl rfl ?_
    refine WL.val (v_build rfl rfl zero_25 plc_25 rfl) (.none rfl) rfl rfl ?_
    refine WL.storeW rfl rfl rfl rfl many_41 rfl rfl (.none rfl) rfl ?_
    refine WL.storeW rfl rfl rfl rfl many_25 rfl rfl (.none rfl) rfl ?_
    refine WL.nil ?_
    refine WE.then_n ?_
    refine WC.ret ?_
    refine WE.ret2 (P := Tryd.prog) (.inl rfl) Tryd.results62 (resRow rfl many_41 rfl) (resRow rfl many_25 rfl) ?_
    obtain rfl : ys = [] := List.length_eq_zero_iff.1 (by omega)
    have e0 : decD AtL.zero.d [] xs = .inl a.d := (by rw [hy, decD_nil])
    have hzl : a.others.length = zs.length := hp.length_eq.symm
    have ez : AtL.cells { a with others := zs } = a.cells := (by unfold AtL.cells; rw [hzl])
    refine fun w' h => ?_
    unfold AtDecP
    rw [e0]
    refine ⟨{ a with others := zs }, E2 ++ (K ++ KO), by rw [ez]; rfl, ?_, ⟨⟨?_, ?_, ?_⟩, ⟨E2, by rw [hzl] at hV2; exact hV2, fun e he => List.mem_append_left _ he⟩, ?_⟩, h.sub (List.Sublist.append_left (.cons _ (List.Sublist.append_left (List.sublist_append_left _ _) _)) _)⟩
    · have eo : zs.map othD = sortO (a.others.map othD) := sortO_is (hp.map _) hSn.nd ha
      show AtD.mk _ _ _ _ _ _ _ _ _ (zs.map othD) = AtD.mk _ _ _ _ _ _ _ _ _ (sortO (a.others.map othD))
      rw [eo]
      rfl
    · obtain ⟨E', r1, r2⟩ := hA.path
      exact ⟨E', r1, fun e he => List.mem_append_right _ (List.mem_append_left _ (r2 e he))⟩
    · intro s hs
      obtain ⟨E', r1, r2⟩ := hA.segs s hs
      exact ⟨E', r1, fun e he => List.mem_append_right _ (List.mem_append_left _ (r2 e he))⟩
    · obtain ⟨E', r1, r2⟩ := hA.comms
      exact ⟨E', r1, fun e he => List.mem_append_right _ (List.mem_append_left _ (r2 e he))⟩
    · intro o ho
      obtain ⟨E', r1, r2⟩ := hO o (hp.mem_iff.1 ho)
      exact ⟨E', r1, fun e he => List.mem_append_right _ (List.mem_append_right _ (r2 e he))⟩
end Go.Proofs.YtpjbofodllhjbaaDoor
/- bgp: what an Open has behind its head. -/
namespace Go.Proofs.YtpjbofodllhjbaaDoor
open Go.RowKit

theorem fOf_drop (xs : List Int) (k i : Nat) : fOf (xs.drop k) i = fOf xs (k + i) := by
  unfold fOf; rw [List.getD_eq_getElem?_getD, List.getD_eq_getElem?_getD, List.getElem?_drop]
def capD (c : CapL) : Int × List Int := (c.code, c.val)
def capsL (cs : List CapL) : List Value := cs.flatMap CapL.cells
theorem capsL_snoc (cs : List CapL) (c : CapL) : capsL (cs ++ [c]) = capsL cs ++ c.cells := by unfold capsL; rw [List.flatMap_append, List.flatMap_cons, List.flatMap_nil, List.append_nil]
def CapOwn (K : List Ent) (c : CapL) : Prop := ∃ E, BV c.ad c.cap c.val E ∧ ∀ e ∈ E, e ∈ K
/-- The capabilities of an option, behind others. -/
def capsR (acc : List (Int × List Int)) : List Int → Option (List (Int × List Int))
  | [] => some acc
  | [_] => none
  | x :: n :: xs => if xs.length < n.toNat then none else capsR (acc ++ [(x, xs.take n.toNat)]) (xs.drop n.toNat)
termination_by xs => xs.length
decreasing_by simp only [List.length_drop, List.length_cons]; omega
theorem capsR_nil (acc : List (Int × List Int)) : capsR acc [] = some acc := by rw [capsR]
theorem capsR_cons (acc : List (Int × List Int)) (x n : Int) (xs : List Int) : capsR acc (x :: n :: xs) = if xs.length < n.toNat then none else capsR (acc ++ [(x, xs.take n.toNat)]) (xs.drop n.toNat) := by rw [capsR]
theorem capsR_bad (acc : List (Int × List Int)) {ys : List Int} (h0 : 0 < ys.length) (h : ys.length < 2 ∨ (ys.length : Int) < 2 + fOf ys 1) : capsR acc ys = none := by
  match ys, h0, h with
  | [y], _, _ => rw [capsR]
  | x :: n :: zs, _, h =>
    rw [capsR_cons, if_pos]
    have e : fOf (x :: n :: zs) 1 = n := rfl
    rw [e] at h
    simp only [List.length_cons] at h
    omega
/-- The capabilities of all options, behind others; or what is wrong. -/
def optsR (acc : List (Int × List Int)) : List Int → List (Int × List Int) ⊕ Int
  | [] => .inl acc
  | [_] => .inr 0
  | x :: n :: xs => if xs.length < n.toNat then .inr 0 else if x ≠ 2 then .inr 4 else match capsR acc (xs.take n.toNat) with
    | none => .inr 0
    | some acc' => optsR acc' (xs.drop n.toNat)
termination_by xs => xs.length
decreasing_by simp only [List.length_drop, List.length_cons]; omega
theorem optsR_nil (acc : List (Int × List Int)) : optsR acc [] = .inl acc := by rw [optsR]
theorem optsR_cons (acc : List (Int × List Int)) (x n : Int) (xs : List Int) : optsR acc (x :: n :: xs) = if xs.length < n.toNat then .inr 0 else if x ≠ 2 then .inr 4 else match capsR acc (xs.take n.toNat) with
    | none => .inr 0
    | some acc' => optsR acc' (xs.drop n.toNat) := by rw [optsR]
theorem optsR_bad (acc : List (Int × List Int)) {ys : List Int} (h0 : 0 < ys.length) (h : ys.length < 2 ∨ (ys.length : Int) < 2 + fOf ys 1) : optsR acc ys = .inr 0 := by
  match ys, h0, h with
  | [y], _, _ => rw [optsR]
  | x :: n :: zs, _, h =>
    rw [optsR_cons, if_pos]
    have e : fOf (x :: n :: zs) 1 = n := rfl
    rw [e] at h
    simp only [List.length_cons] at h
    omega
def asnB (xs : List Int) : Int := fOf xs 1 * 256 + fOf xs 2
def holdB (xs : List Int) : Int := fOf xs 3 * 256 + fOf xs 4
def idB (xs : List Int) : Int := addrI ((xs.take 9).drop 5)
def s04 : ByteArray := ⟨#[0, 4]⟩
/-- The capabilities of an Open, or what is wrong: the sub, the data. -/
def openR (xs : List Int) : List (Int × List Int) ⊕ (Int × ByteArray) :=
  if fOf xs 0 ≠ 4 then .inr (1, s04)
  else if asnB xs = 0 then .inr (2, ⟨#[]⟩)
  else if holdB xs = 1 ∨ holdB xs = 2 then .inr (6, ⟨#[]⟩)
  else if idB xs = 0 then .inr (3, ⟨#[]⟩)
  else if fOf xs 9 ≠ ((xs.drop 10).length : Int) then .inr (0, ⟨#[]⟩)
  else match optsR [] (xs.drop 10) with | .inl cs => .inl cs | .inr s => .inr (s, ⟨#[]⟩)
/-- What part says, and whether. -/
theorem part_u (w : World) (b o c : Nat) (xs : List Int) (hW : Win w b o c xs) (hn : xs.length ≤ 1000000) :
    Calls Tryd.prog 59 #[.slice (some ⟨b, o, none⟩) xs.length c] w fun e w' => ∃ (x : Int) (u r : Value) (ok : Bool), e = .returned (.tuple #[.int .i64 x, u, r, .bool ok]) ∧ Frm (fun _ => False) w w' ∧
      (ok = false → xs.length < 2 ∨ (xs.length : Int) < 2 + fOf xs 1) ∧
      (ok = true → ∃ (n : Nat) (zs : List Int), xs = x :: (n : Int) :: zs ∧ n ≤ zs.length ∧ u = .slice (some ⟨b, sAddr o 2 c 1, none⟩) (zs.take n).length (c - 2) ∧ r = .slice (some ⟨b, sAddr o (2 + n) c 1, none⟩) (zs.drop n).length (c - (2 + n))) := by
  by_cases h : xs.length < 2 ∨ (xs.length : Int) < 2 + fOf xs 1
  · exact (part_no w b o c xs hW hn h).mono fun e w' ⟨he, hF⟩ => ⟨0, _, _, false, he, hF, fun _ => h, fun e => by cases e⟩
  · obtain ⟨n, en⟩ := Int.eq_ofNat_of_zero_le (fOf_b hW.bys 1).1
    refine (part_ok w b o c xs hW hn (by omega) n en.symm (by omega)).mono fun e w' ⟨he, hF⟩ => ⟨fOf xs 0, _, _, true, he, hF, fun e => (by cases e), fun _ => ?_⟩
    obtain ⟨x, y, zs, rfl⟩ := two_of (ys := xs) (by omega)
    have ey : y = n := en
    subst ey
    have hl : (x :: (n : Int) :: zs).length = zs.length + 2 := rfl
    refine ⟨n, zs, rfl, by omega, ?_, ?_⟩
    · unfold winV; rw [List.length_take, Nat.min_eq_left (by omega), Nat.add_sub_cancel_left]
    · unfold winV; rw [List.length_drop, hl]; congr 1; omega
end Go.Proofs.YtpjbofodllhjbaaDoor
/- bgp: what an Open has behind its head, walked. -/
namespace Go.Proofs.YtpjbofodllhjbaaDoor
open Go.RowKit

theorem Win.get2d {w : World} {b o c : Nat} {xs : List Int} (h : Win w b o c xs) (k : Nat) (hk : k + 2 ≤ xs.length) : Calls Tryd.prog 37 #[.slice (some ⟨b, sAddr o k c 1, none⟩) (xs.length - k) (c - k)] w fun e w' => e = .returned (.int .i64 (fOf xs k * 256 + fOf xs (k + 1))) ∧ Frm (fun _ => False) w w' := by
  have e := (h.drop k).get2 (by rw [List.length_drop]; omega)
  rw [List.length_drop, fOf_drop, fOf_drop] at e
  exact e
theorem Win.addrd {w : World} {b o c : Nat} {xs : List Int} (h : Win w b o c xs) (hk : 9 ≤ xs.length) : Calls Tryd.prog 58 #[.slice (some ⟨b, sAddr o 5 c 1, none⟩) (9 - 5) (c - 5)] w fun e w' => e = .returned (.int .u32 (idB xs)) ∧ Frm (fun _ => False) w w' := by
  have hl : ((xs.take 9).drop 5).length = 9 - 5 := by rw [List.length_drop, List.length_take]; omega
  have e := getAddr_c w b (sAddr o 5 c 1) (c - 5) ((xs.take 9).drop 5) ((h.take 9).drop 5) (by omega)
  rw [hl] at e
  exact e
structure CapS where
  ys : List Int
  o : Nat
  c : Nat
  cs : List CapL
  ad : Option Addr
  kc : Nat
  E : List Ent
  KO : List Ent
def MsL.opened (k : Int) (xs : List Int) (ad : Option Addr) (kc : Nat) (cs : List CapL) : MsL := { MsL.zero k with asn := asnB xs, hold := holdB xs, id := idB xs, kad := ad, kc := kc, caps := cs }
def OpenP (w0 w' : World) (gm : Nat) (k : Int) (xs : List Int) (L : List Ent) (e : Ending) : Prop :=
  ∃ (ok : Bool) (s : Int) (d : ByteArray) (ad : Option Addr) (kc : Nat) (cs : List CapL) (E K : List Ent), e = .returned (.agg (fltL (if ok then 0 else 2) s d).toArray) ∧ St (fun _ => False) w0 w' (.row gm (MsL.opened k xs ad kc cs).cells :: (E ++ (K ++ L))) ∧
    Vec 2 ad cs.length kc (capsL cs) E ∧ (∀ c ∈ cs, CapOwn K c) ∧ (ok = false → openR xs = .inr (s, d)) ∧ (ok = true → s = 0 ∧ d = ⟨#[]⟩ ∧ openR xs = .inl (cs.map capD))
set_option maxHeartbeats 4000000 in
theorem readOpen_c (w0 w1 : World) (gm b o c : Nat) (k : Int) (xs : List Int) (L : List Ent) (hW : Win w0 b o c xs) (h10 : 10 ≤ xs.length) (hn : xs.length ≤ 90000) (hS0 : St (fun _ => False) w0 w1 (.row gm (MsL.zero k).cells :: L)) :
    Calls Tryd.prog 41 #[.pointer (some ⟨gm, 0, none⟩), .slice (some ⟨b, o, none⟩) xs.length c] w1 fun e w' => OpenP w0 w' gm k xs L e := by
  have hle := hW.le
  have h9 := fOf_b hW.bys 9
  refine enter Tryd.func41 rfl Tryd.ntmps41 rfl hS0 ?_
  refine WC.seq ?_
  refine WC.region ?_
  refine WL.alloc rfl zero_25 (.none rfl) rfl rfl ?_
  intro g4 hg4
  refine WL.nil ?_
  refine WE.then_n ?_
  refine WC.seq ?_
  refine WC.orders mixed ?_
  refine WR.first (g := 12) [0, 1, 2, 3, 4, 6, 7, 9, 10] (by kernel_rfl) (by kernel_rfl) ?_
  refine WP.val (v_move rfl rfl) (.none rfl) rfl rfl ?_
  refine WP.val (v_move rfl rfl) (.none rfl) rfl rfl ?_
  refine WP.val (v_move rfl rfl) (.none rfl) rfl rfl ?_
  refine WP.val (v_move rfl rfl) (.none rfl) rfl rfl ?_
  refine WP.val ((v_slice_lo (lo := 1) rfl rfl rfl Tryd.underlying22 sz_5 rfl (by omega))) (.none rfl) rfl rfl ?_
  refine WP.val (v_move rfl rfl) (.none rfl) rfl rfl ?_
  refine WP.val ((v_slice_lo (lo := 3) rfl rfl rfl Tryd.underlying22 sz_5 rfl (by omega))) (.none rfl) rfl rfl ?_
  refine WP.val (v_move rfl rfl) (.none rfl) rfl rfl ?_
  refine WP.val ((v_slice_lh (lo := 5) (hi := 9) rfl rfl rfl rfl Tryd.underlying22 sz_5 rfl rfl (by omega) (by omega))) (.none rfl) rfl rfl ?_
  refine WP.nil ?_
  refine WR.read (g := 7) [5, 8, 11, 12, 13] (by kernel_rfl) (by kernel_rfl) (by kernel_rfl) (by kernel_rfl) rfl ?_
  refine WQ.call _ rfl rfl ck_37 (.none rfl) rfl rfl (fun w hS => Calls.still ((hW.st hS).get2d 1 (by omega)) hS) ?_
  refine WQ.call _ rfl rfl ck_37 (.none rfl) rfl rfl (fun w hS => Calls.still ((hW.st hS).get2d 3 (by omega)) hS) ?_
  refine WQ.call _ rfl rfl ck_58 (.none rfl) rfl rfl (fun w hS => Calls.still ((hW.st hS).addrd (by omega)) hS) ?_
  refine WQ.val (v_nilCheck rfl rfl) (.none rfl) rfl rfl ?_
  refine WQ.val (v_fieldAddr0 rfl rfl fld_43_1) (.none rfl) rfl rfl ?_
  refine WQ.nilR ?_
  refine WR.ones (g := 6) [14] (by kernel_rfl) ?_
  refine WL.store1 rfl rfl rfl rfl one_3 (Nat.le_of_ble_eq_true rfl) (.none rfl) rfl ?_
  refine WL.nilR ?_
  refine WR.first (g := 4) [15, 16] (by kernel_rfl) (by kernel_rfl) ?_
  refine WP.val (v_nilCheck rfl rfl) (.none rfl) rfl rfl ?_
  refine WP.val (v_fieldAddr0 rfl rfl fld_43_2) (.none rfl) rfl rfl ?_
  refine WP.nil ?_
  refine WR.ones (g := 3) [17] (by kernel_rfl) ?_
  refine WL.store1 rfl rfl rfl rfl one_3 (Nat.le_of_ble_eq_true rfl) (.none rfl) rfl ?_
  refine WL.nilR ?_
  refine WR.first (g := 1) [18, 19] (by kernel_rfl) (by kernel_rfl) ?_
  refine WP.val (v_nilCheck rfl rfl) (.none rfl) rfl rfl ?_
  refine WP.val (v_fieldAddr0 rfl rfl fld_43_3) (.none rfl) rfl rfl ?_
  refine WP.nil ?_
  refine WR.ones (g := 0) [20] (by kernel_rfl) ?_
  refine WL.store1 rfl rfl rfl rfl one_34 (Nat.le_of_ble_eq_true rfl) (.none rfl) rfl ?_
  refine WL.as (L' := .row g4 (fltL 0 0 ⟨#[]⟩) :: .row gm (MsL.opened k xs none 0 []).cells :: L) rfl ?_
  refine WL.nilR ?_
  refine WR.done (by kernel_rfl) ?_
  refine WE.then_n ?_
  refine WC.seq ?_
  refine WC.region ?_
  refine WL.val (v_move rfl rfl) (.none rfl) rfl rfl ?_
  refine WL.val ((v_slice_lo (lo := 10) rfl rfl rfl Tryd.underlying22 sz_5 rfl (by omega))) (.none rfl) rfl rfl ?_
  rw [show xs.length - 10 = (xs.drop 10).length by rw [List.length_drop]]
  refine WL.val (v_assign rfl rfl) (.none rfl) rfl rfl ?_
  refine WL.nil ?_
  refine WE.then_n ?_
  refine WC.cut (fun _ : Unit => [(0, .pointer (some ⟨gm, 0, none⟩)), (4, .pointer (some ⟨g4, 0, none⟩)), (5, .slice (some ⟨b, sAddr o 10 c 1, none⟩) (xs.drop 10).length (c - 10))]) (fun _ => .row g4 (fltL 0 0 ⟨#[]⟩) :: .row gm (MsL.opened k xs none 0 []).cells :: L) (fun _ => openR xs = match optsR [] (xs.drop 10) with | .inl cs => .inl cs | .inr s => .inr (s, ⟨#[]⟩)) ?_ ?_
  · -- cutb0
    refine WC.block ?_
    refine WC.seq ?_
    refine WC.region ?_
    refine WL.val (v_move rfl rfl) (.none rfl) rfl rfl ?_
    refine WL.val (v_indexAddr (lo := 0) rfl rfl rfl Tryd.underlying22 sz_5 rfl (by omega)) (.none rfl) rfl rfl ?_
    refine WL.val (v_load1 rfl rfl one_5 (cellOld (fun h => h) (hW.get (fOf_get (by omega))))) (.none rfl) rfl rfl ?_
    refine WL.test (v_neq rfl rfl rfl) (.none rfl) rfl rfl (fun h38 => ?_) (fun h38 => ?_)
    · -- 38T
      refine WL.val (v_assign rfl rfl) (.none rfl) rfl rfl ?_
      refine WL.nil ?_
      refine WE.then_n ?_
      refine WC.cond_t rfl ?_
      refine WC.seq ?_
      refine WC.region ?_
      refine WL.val (v_build rfl rfl zero_25 plc_25 rfl) (.none rfl) rfl rfl ?_
      refine WL.storeW rfl rfl rfl rfl many_25 rfl rfl (.none rfl) rfl ?_
      refine WL.nil ?_
      refine WE.then_n ?_
      refine WC.ret ?_
      refine WE.block_ret ?_
      refine WE.then_ret ?_
      refine WE.ret1 (P := Tryd.prog) (.inl rfl) Tryd.results41 (resRow rfl many_25 rfl) ?_
      have e0 : openR xs = .inr (1, s04) := (by unfold openR; rw [if_pos h38])
      exact fun w' h => ⟨false, 1, s04, none, 0, [], [], [], rfl, h.sub (.cons _ (.refl _)), Vec.nil 2, (fun _ h => by cases h), fun _ => e0, fun e => by cases e⟩
    · -- 38F
      refine WL.val (v_assign rfl rfl) (.none rfl) rfl rfl ?_
      refine WL.nil ?_
      refine WE.then_n ?_
      refine WC.cond_f rfl ?_
      refine WC.seq ?_
      refine WC.region ?_
      refine WL.val (v_move rfl rfl) (.none rfl) rfl rfl ?_
      refine WL.val (v_nilCheck rfl rfl) (.none rfl) rfl rfl ?_
      refine WL.val (v_fieldAddr0 rfl rfl fld_43_1) (.none rfl) rfl rfl ?_
      refine WL.val (v_load1 rfl rfl one_3 (cellAt rfl)) (.none rfl) rfl rfl ?_
      refine WL.test (v_eql rfl rfl rfl) (.none rfl) rfl rfl (fun h45 => ?_) (fun h45 => ?_)
      · -- 45T
        refine WL.val (v_assign rfl rfl) (.none rfl) rfl rfl ?_
        refine WL.nil ?_
        refine WE.then_n ?_
        refine WC.cond_t rfl ?_
        refine WC.seq ?_
        refine WC.region ?_
        refine WL.val (v_build rfl rfl zero_25 plc_25 rfl) (.none rfl) rfl rfl ?_
        refine WL.storeW rfl rfl rfl rfl many_25 rfl rfl (.none rfl) rfl ?_
        refine WL.nil ?_
        refine WE.then_n ?_
        refine WC.ret ?_
        refine WE.block_ret ?_
        refine WE.then_ret ?_
        refine WE.ret1 (P := Tryd.prog) (.inl rfl) Tryd.results41 (resRow rfl many_25 rfl) ?_
        have e0 : openR xs = .inr (2, ⟨#[]⟩) := (by unfold openR; rw [if_neg h38, if_pos (show asnB xs = 0 from h45)])
        exact fun w' h => ⟨false, 2, _, none, 0, [], [], [], rfl, h.sub (.cons _ (.refl _)), Vec.nil 2, (fun _ h => by cases h), fun _ => e0, fun e => by cases e⟩
      · -- 45F
        refine WL.val (v_assign rfl rfl) (.none rfl) rfl rfl ?_
        refine WL.nil ?_
        refine WE.then_n ?_
        refine WC.cond_f rfl ?_
        refine WC.seq ?_
        refine WC.region ?_
        refine WL.val (v_move rfl rfl) (.none rfl) rfl rfl ?_
        refine WL.val (v_nilCheck rfl rfl) (.none rfl) rfl rfl ?_
        refine WL.val (v_fieldAddr0 rfl rfl fld_43_2) (.none rfl) rfl rfl ?_
        refine WL.val (v_load1 rfl rfl one_3 (cellAt rfl)) (.none rfl) rfl rfl ?_
        refine WL.test (v_eql rfl rfl rfl) (.none rfl) rfl rfl (fun h52 => ?_) (fun h52 => ?_)
        · -- 52T
          refine WL.val (v_move rfl rfl) (.none rfl) rfl rfl ?_
          refine WL.skip rfl rfl rfl rfl rfl rfl ?_
          refine WL.skip rfl rfl rfl rfl rfl rfl ?_
          refine WL.skip rfl rfl rfl rfl rfl rfl ?_
          refine WL.skip rfl rfl rfl rfl rfl rfl ?_
          refine WL.skip rfl rfl rfl rfl rfl rfl ?_
          refine WL.val (v_pick_t rfl rfl rfl) (.none rfl) rfl rfl ?_
          refine WL.val (v_assign rfl rfl) (.none rfl) rfl rfl ?_
          refine WL.nil ?_
          refine WE.then_n ?_
          refine WC.cond_t rfl ?_
          refine WC.seq ?_
          refine WC.region ?_
          refine WL.val (v_build rfl rfl zero_25 plc_25 rfl) (.none rfl) rfl rfl ?_
          refine WL.storeW rfl rfl rfl rfl many_25 rfl rfl (.none rfl) rfl ?_
          refine WL.nil ?_
          refine WE.then_n ?_
          refine WC.ret ?_
          refine WE.block_ret ?_
          refine WE.then_ret ?_
          refine WE.ret1 (P := Tryd.prog) (.inl rfl) Tryd.results41 (resRow rfl many_25 rfl) ?_
          have e0 : openR xs = .inr (6, ⟨#[]⟩) := (by unfold openR; rw [if_neg h38, if_neg (show ¬ asnB xs = 0 from h45), if_pos (show holdB xs = 1 ∨ holdB xs = 2 from .inl h52)])
          exact fun w' h => ⟨false, 6, _, none, 0, [], [], [], rfl, h.sub (.cons _ (.refl _)), Vec.nil 2, (fun _ h => by cases h), fun _ => e0, fun e => by cases e⟩
        · -- 52F
          refine WL.val (v_move rfl rfl) (.none rfl) rfl rfl ?_
          refine WL.val (v_move rfl rfl) (.some rfl rfl rfl) rfl rfl ?_
          refine WL.val (v_nilCheck rfl rfl) (.some rfl rfl rfl) rfl rfl ?_
          refine WL.val (v_fieldAddr0 rfl rfl fld_43_2) (.some rfl rfl rfl) rfl rfl ?_
          refine WL.val (v_load1 rfl rfl one_3 (cellAt rfl)) (.some rfl rfl rfl) rfl rfl ?_
          refine WL.test (v_eql rfl rfl rfl) (.some rfl rfl rfl) rfl rfl (fun h58 => ?_) (fun h58 => ?_)
          · -- 58T
            refine WL.val (v_pick_f rfl rfl rfl) (.none rfl) rfl rfl ?_
            refine WL.val (v_assign rfl rfl) (.none rfl) rfl rfl ?_
            refine WL.nil ?_
            refine WE.then_n ?_
            refine WC.cond_t rfl ?_
            refine WC.seq ?_
            refine WC.region ?_
            refine WL.val (v_build rfl rfl zero_25 plc_25 rfl) (.none rfl) rfl rfl ?_
            refine WL.storeW rfl rfl rfl rfl many_25 rfl rfl (.none rfl) rfl ?_
            refine WL.nil ?_
            refine WE.then_n ?_
            refine WC.ret ?_
            refine WE.block_ret ?_
            refine WE.then_ret ?_
            refine WE.ret1 (P := Tryd.prog) (.inl rfl) Tryd.results41 (resRow rfl many_25 rfl) ?_
            have e0 : openR xs = .inr (6, ⟨#[]⟩) := (by unfold openR; rw [if_neg h38, if_neg (show ¬ asnB xs = 0 from h45), if_pos (show holdB xs = 1 ∨ holdB xs = 2 from .inr h58)])
            exact fun w' h => ⟨false, 6, _, none, 0, [], [], [], rfl, h.sub (.cons _ (.refl _)), Vec.nil 2, (fun _ h => by cases h), fun _ => e0, fun e => by cases e⟩
          · -- 58F
            refine WL.val (v_pick_f rfl rfl rfl) (.none rfl) rfl rfl ?_
            refine WL.val (v_assign rfl rfl) (.none rfl) rfl rfl ?_
            refine WL.nil ?_
            refine WE.then_n ?_
            refine WC.cond_f rfl ?_
            refine WC.seq ?_
            refine WC.region ?_
            refine WL.val (v_move rfl rfl) (.none rfl) rfl rfl ?_
            refine WL.val (v_nilCheck rfl rfl) (.none rfl) rfl rfl ?_
            refine WL.val (v_fieldAddr0 rfl rfl fld_43_3) (.none rfl) rfl rfl ?_
            refine WL.val (v_load1 rfl rfl one_34 (cellAt rfl)) (.none rfl) rfl rfl ?_
            refine WL.test (v_eql rfl rfl rfl) (.none rfl) rfl rfl (fun h66 => ?_) (fun h66 => ?_)
            · -- 66T
              refine WL.val (v_assign rfl rfl) (.none rfl) rfl rfl ?_
              refine WL.nil ?_
              refine WE.then_n ?_
              refine WC.cond_t rfl ?_
              refine WC.seq ?_
              refine WC.region ?_
              refine WL.val (v_build rfl rfl zero_25 plc_25 rfl) (.none rfl) rfl rfl ?_
              refine WL.storeW rfl rfl rfl rfl many_25 rfl rfl (.none rfl) rfl ?_
              refine WL.nil ?_
              refine WE.then_n ?_
              refine WC.ret ?_
              refine WE.block_ret ?_
              refine WE.then_ret ?_
              refine WE.ret1 (P := Tryd.prog) (.inl rfl) Tryd.results41 (resRow rfl many_25 rfl) ?_
              have e0 : openR xs = .inr (3, ⟨#[]⟩) := (by unfold openR; rw [if_neg h38, if_neg (show ¬ asnB xs = 0 from h45), if_neg (show ¬ (holdB xs = 1 ∨ holdB xs = 2) from fun h => h.elim h52 h58), if_pos (show idB xs = 0 from h66)])
              exact fun w' h => ⟨false, 3, _, none, 0, [], [], [], rfl, h.sub (.cons _ (.refl _)), Vec.nil 2, (fun _ h => by cases h), fun _ => e0, fun e => by cases e⟩
            · -- 66F
              refine WL.val (v_assign rfl rfl) (.none rfl) rfl rfl ?_
              refine WL.nil ?_
              refine WE.then_n ?_
              refine WC.cond_f rfl ?_
              refine WC.seq ?_
              refine WC.region ?_
              refine WL.val (v_move rfl rfl) (.none rfl) rfl rfl ?_
              refine WL.val (v_indexAddr (lo := 9) rfl rfl rfl Tryd.underlying22 sz_5 rfl (by omega)) (.none rfl) rfl rfl ?_
              refine WL.val (v_load1 rfl rfl one_5 (cellOld (fun h => h) (hW.get (fOf_get (by omega))))) (.none rfl) rfl rfl ?_
              refine WL.val (v_conv rfl rfl Tryd.underlying3 Tryd.underlying5 (w_i64 (by omega) (by omega))) (.none rfl) rfl rfl ?_
              refine WL.val (v_move rfl rfl) (.none rfl) rfl rfl ?_
              refine WL.val (v_len_slice rfl rfl Tryd.underlying22) (.none rfl) rfl rfl ?_
              refine WL.test (v_neq rfl rfl rfl) (.none rfl) rfl rfl (fun h75 => ?_) (fun h75 => ?_)
              · -- 75T
                refine WL.val (v_assign rfl rfl) (.none rfl) rfl rfl ?_
                refine WL.nil ?_
                refine WE.then_n ?_
                refine WC.cond_t rfl ?_
                refine WC.seq ?_
                refine WC.region ?_
                refine WL.val (v_build rfl rfl zero_25 plc_25 rfl) (.none rfl) rfl rfl ?_
                refine WL.storeW rfl rfl rfl rfl many_25 rfl rfl (.none rfl) rfl ?_
                refine WL.nil ?_
                refine WE.then_n ?_
                refine WC.ret ?_
                refine WE.block_ret ?_
                refine WE.then_ret ?_
                refine WE.ret1 (P := Tryd.prog) (.inl rfl) Tryd.results41 (resRow rfl many_25 rfl) ?_
                have e0 : openR xs = .inr (0, ⟨#[]⟩) := (by unfold openR; rw [if_neg h38, if_neg (show ¬ asnB xs = 0 from h45), if_neg (show ¬ (holdB xs = 1 ∨ holdB xs = 2) from fun h => h.elim h52 h58), if_neg (show ¬ idB xs = 0 from h66), if_pos h75])
                exact fun w' h => ⟨false, 0, _, none, 0, [], [], [], rfl, h.sub (.cons _ (.refl _)), Vec.nil 2, (fun _ h => by cases h), fun _ => e0, fun e => by cases e⟩
              · -- 75F
                refine WL.val (v_assign rfl rfl) (.none rfl) rfl rfl ?_
                refine WL.nil ?_
                refine WE.then_n ?_
                refine WC.cond_f rfl ?_
                refine WC.skip ?_
                refine WE.block_n ?_
                exact WE.mid () (by unfold openR; rw [if_neg h38, if_neg (show ¬ asnB xs = 0 from h45), if_neg (show ¬ (holdB xs = 1 ∨ holdB xs = 2) from fun h => h.elim h52 h58), if_neg (show ¬ idB xs = 0 from h66), if_neg h75]; try (cases optsR [] (xs.drop 10) <;> rfl)) (.cons rfl (.cons rfl (.cons rfl .nil))) (.refl _)
  · -- behind cutb0
    intro _ hop
    refine WC.seq ?_
    refine WC.block ?_
    refine WC.loop (fun x : CapS => [(0, .pointer (some ⟨gm, 0, none⟩)), (4, .pointer (some ⟨g4, 0, none⟩)), (5, .slice (some ⟨b, x.o, none⟩) x.ys.length x.c)]) (fun x => x.E ++ (.row g4 (fltL 0 0 ⟨#[]⟩) :: .row gm (MsL.opened k xs x.ad x.kc x.cs).cells :: (x.KO ++ L))) (fun x => x.cs.length + x.ys.length ≤ xs.length ∧ Win w0 b x.o x.c x.ys ∧ optsR [] (xs.drop 10) = optsR (x.cs.map capD) x.ys ∧ Vec 2 x.ad x.cs.length x.kc (capsL x.cs) x.E ∧ ∀ c ∈ x.cs, CapOwn x.KO c) (fun x => x.ys.length) ⟨xs.drop 10, sAddr o 10 c 1, c - 10, [], none, 0, [], []⟩ ⟨by simp, hW.drop 10, rfl, Vec.nil 2, fun _ h => by cases h⟩ (.cons rfl (.cons rfl (.cons rfl .nil))) (.refl _) ?_
    rintro ⟨ys, o2, c2, cs, ad, kc, E, KO⟩ ⟨hl, hW2, hy, hV, hO⟩
    dsimp only at hl hW2 hy hV hO
    dsimp only
    refine WC.seq ?_
    refine WC.seq ?_
    refine WC.region ?_
    refine WL.val (v_move rfl rfl) (.none rfl) rfl rfl ?_
    refine WL.val (v_len_slice rfl rfl Tryd.underlying22) (.none rfl) rfl rfl ?_
    refine WL.test (v_gtr rfl rfl rfl) (.none rfl) rfl rfl (fun h79 => ?_) (fun h79 => ?_)
    · -- 79T
      refine WL.nil ?_
      refine WE.then_n ?_
      refine WC.cond_t rfl ?_
      refine WC.skip ?_
      refine WE.then_n ?_
      refine WC.block ?_
      refine WC.seq ?_
      refine WC.region ?_
      refine WL.val (v_move rfl rfl) (.none rfl) rfl rfl ?_
      refine WL.call rfl rfl ck_59 (.none rfl) rfl rfl ?_
      intro w1 hS
      refine (part_u w1 b o2 c2 ys (hW2.st hS) (by omega)).mono ?_
      rintro e w' ⟨x, u, r, ok, rfl, hF, hbad, hok⟩
      refine ⟨_, _, rfl, hS.ext hF, ?_⟩
      refine WL.val (v_move rfl rfl) (.none rfl) rfl rfl ?_
      refine WL.val (v_extract rfl rfl rfl) (.none rfl) rfl rfl ?_
      refine WL.val (v_extract rfl rfl rfl) (.none rfl) rfl rfl ?_
      refine WL.val (v_extract rfl rfl rfl) (.none rfl) rfl rfl ?_
      refine WL.val (v_extract rfl rfl rfl) (.none rfl) rfl rfl ?_
      refine WL.val (v_assign rfl rfl) (.none rfl) rfl rfl ?_
      refine WL.val (v_assign rfl rfl) (.none rfl) rfl rfl ?_
      refine WL.val (v_assign rfl rfl) (.none rfl) rfl rfl ?_
      refine WL.val (v_assign rfl rfl) (.none rfl) rfl rfl ?_
      refine WL.nil ?_
      refine WE.then_n ?_
      refine WC.seq ?_
      refine WC.seq ?_
      refine WC.region ?_
      refine WL.val (v_move rfl rfl) (.none rfl) rfl rfl ?_
      skip
      cases ok
      · -- 87F
        refine WL.val (v_not rfl rfl rfl) (.none rfl) rfl rfl ?_
        refine WL.nil ?_
        refine WE.then_n ?_
        refine WC.cond_t rfl ?_
        refine WC.seq ?_
        refine WC.region ?_
        refine WL.val (v_build rfl rfl zero_25 plc_25 rfl) (.none rfl) rfl rfl ?_
        refine WL.storeW rfl rfl rfl rfl many_25 rfl rfl (.none rfl) rfl ?_
        refine WL.nil ?_
        refine WE.then_n ?_
        refine WC.ret ?_
        refine WE.then_ret ?_
        refine WE.block_ret ?_
        refine WE.then_ret ?_
        refine WE.block_ret ?_
        refine WE.then_ret ?_
        refine WE.ret1 (P := Tryd.prog) (.inl rfl) Tryd.results41 (resRow rfl many_25 rfl) ?_
        have e0 : openR xs = .inr (0, ⟨#[]⟩) := (by rw [hop, hy, optsR_bad _ (by omega) (hbad rfl)])
        exact fun w' h => ⟨false, 0, _, ad, kc, cs, E, KO, rfl, by
          have := St.front (R := [.row gm (MsL.opened k xs ad kc cs).cells]) (L := KO ++ L) E (h.sub (List.Sublist.append_left (.cons _ (.refl _)) _))
          exact this, hV, hO, fun _ => e0, fun e => by cases e⟩
      · -- 87T
        refine WL.val (v_not rfl rfl rfl) (.none rfl) rfl rfl ?_
        refine WL.nil ?_
        refine WE.then_n ?_
        refine WC.cond_f rfl ?_
        refine WC.skip ?_
        refine WE.then_n ?_
        refine WC.seq ?_
        refine WC.seq ?_
        refine WC.region ?_
        obtain ⟨n, zs, rfl, hnz, rfl, rfl⟩ := hok rfl
        have hcl : (x :: (n : Int) :: zs).length = zs.length + 2 := rfl
        rw [optsR_cons, Int.toNat_natCast, if_neg (by omega)] at hy
        have htl : (zs.take n).length = n := (by rw [List.length_take]; omega)
        have hdl : (zs.drop n).length = zs.length - n := (by rw [List.length_drop])
        refine WL.val (v_move rfl rfl) (.none rfl) rfl rfl ?_
        refine WL.test (v_neq rfl rfl rfl) (.none rfl) rfl rfl (fun h91 => ?_) (fun h91 => ?_)
        · -- 91T
          refine WL.nil ?_
          refine WE.then_n ?_
          refine WC.cond_t rfl ?_
          refine WC.seq ?_
          refine WC.region ?_
          refine WL.val (v_build rfl rfl zero_25 plc_25 rfl) (.none rfl) rfl rfl ?_
          refine WL.storeW rfl rfl rfl rfl many_25 rfl rfl (.none rfl) rfl ?_
          refine WL.nil ?_
          refine WE.then_n ?_
          refine WC.ret ?_
          refine WE.then_ret ?_
          refine WE.block_ret ?_
          refine WE.then_ret ?_
          refine WE.block_ret ?_
          refine WE.then_ret ?_
          refine WE.ret1 (P := Tryd.prog) (.inl rfl) Tryd.results41 (resRow rfl many_25 rfl) ?_
          have e0 : openR xs = .inr (4, ⟨#[]⟩) := (by rw [hop, hy, if_pos h91])
          exact fun w' h => ⟨false, 4, _, ad, kc, cs, E, KO, rfl, by
            have := St.front (R := [.row gm (MsL.opened k xs ad kc cs).cells]) (L := KO ++ L) E (h.sub (List.Sublist.append_left (.cons _ (.refl _)) _))
            exact this, hV, hO, fun _ => e0, fun e => by cases e⟩
        · -- 91F
          refine WL.nil ?_
          refine WE.then_n ?_
          refine WC.cond_f rfl ?_
          refine WC.skip ?_
          refine WE.then_n ?_
          refine WC.seq ?_
          refine WC.block ?_
          refine WC.loop (fun y : CapS => [(0, .pointer (some ⟨gm, 0, none⟩)), (4, .pointer (some ⟨g4, 0, none⟩)), (7, .slice (some ⟨b, y.o, none⟩) y.ys.length y.c), (8, .slice (some ⟨b, sAddr o2 (2 + n) c2 1, none⟩) (zs.drop n).length (c2 - (2 + n)))]) (fun y => y.E ++ (.row g4 (fltL 0 0 ⟨#[]⟩) :: .row gm (MsL.opened k xs y.ad y.kc y.cs).cells :: (y.KO ++ L))) (fun y => y.cs.length + y.ys.length + (zs.drop n).length ≤ xs.length ∧ Win w0 b y.o y.c y.ys ∧ capsR (cs.map capD) (zs.take n) = capsR (y.cs.map capD) y.ys ∧ Vec 2 y.ad y.cs.length y.kc (capsL y.cs) y.E ∧ ∀ c ∈ y.cs, CapOwn y.KO c) (fun y => y.ys.length) ⟨zs.take n, sAddr o2 2 c2 1, c2 - 2, cs, ad, kc, E, KO⟩ ⟨by dsimp only; omega, by
          have h1 := (hW2.take (2 + n)).drop 2
          rwa [show ((x :: (n : Int) :: zs).take (2 + n)).drop 2 = zs.take n by rw [show 2 + n = n + 1 + 1 by omega]; rfl] at h1, rfl, hV, hO⟩ (.cons rfl (.cons rfl (.cons rfl (.cons rfl .nil)))) (.refl _) ?_
          rintro ⟨vs, o3, c3, ds, ad2, kc2, E2, KO2⟩ ⟨hl3, hW3, hy3, hV3, hO3⟩
          dsimp only at hl3 hW3 hy3 hV3 hO3
          dsimp only
          refine WC.seq ?_
          refine WC.seq ?_
          refine WC.region ?_
          refine WL.val (v_move rfl rfl) (.none rfl) rfl rfl ?_
          refine WL.val (v_len_slice rfl rfl Tryd.underlying22) (.none rfl) rfl rfl ?_
          refine WL.test (v_gtr rfl rfl rfl) (.none rfl) rfl rfl (fun h95 => ?_) (fun h95 => ?_)
          · -- 95T
            refine WL.nil ?_
            refine WE.then_n ?_
            refine WC.cond_t rfl ?_
            refine WC.skip ?_
            refine WE.then_n ?_
            refine WC.block ?_
            refine WC.seq ?_
            refine WC.region ?_
            refine WL.val (v_move rfl rfl) (.none rfl) rfl rfl ?_
            refine WL.call rfl rfl ck_59 (.none rfl) rfl rfl ?_
            intro w1 hS
            refine (part_u w1 b o3 c3 vs (hW3.st hS) (by omega)).mono ?_
            rintro e w' ⟨x3, u3, r3, ok3, rfl, hF3, hbad3, hok3⟩
            refine ⟨_, _, rfl, hS.ext hF3, ?_⟩
            refine WL.val (v_move rfl rfl) (.none rfl) rfl rfl ?_
            refine WL.val (v_extract rfl rfl rfl) (.none rfl) rfl rfl ?_
            refine WL.val (v_extract rfl rfl rfl) (.none rfl) rfl rfl ?_
            refine WL.val (v_extract rfl rfl rfl) (.none rfl) rfl rfl ?_
            refine WL.val (v_extract rfl rfl rfl) (.none rfl) rfl rfl ?_
            refine WL.val (v_assign rfl rfl) (.none rfl) rfl rfl ?_
            refine WL.val (v_assign rfl rfl) (.none rfl) rfl rfl ?_
            refine WL.val (v_assign rfl rfl) (.none rfl) rfl rfl ?_
            refine WL.val (v_assign rfl rfl) (.none rfl) rfl rfl ?_
            refine WL.nil ?_
            refine WE.then_n ?_
            refine WC.seq ?_
            refine WC.seq ?_
            refine WC.region ?_
            refine WL.val (v_move rfl rfl) (.none rfl) rfl rfl ?_
            skip
            cases ok3
            · -- 103F
              refine WL.val (v_not rfl rfl rfl) (.none rfl) rfl rfl ?_
              refine WL.nil ?_
              refine WE.then_n ?_
              refine WC.cond_t rfl ?_
              refine WC.seq ?_
              refine WC.region ?_
              refine WL.val (v_build rfl rfl zero_25 plc_25 rfl) (.none rfl) rfl rfl ?_
              refine WL.storeW rfl rfl rfl rfl many_25 rfl rfl (.none rfl) rfl ?_
              refine WL.nil ?_
              refine WE.then_n ?_
              refine WC.ret ?_
              refine WE.then_ret ?_
              refine WE.block_ret ?_
              refine WE.then_ret ?_
              refine WE.block_ret ?_
              refine WE.then_ret ?_
              refine WE.block_ret ?_
              refine WE.then_ret ?_
              refine WE.block_ret ?_
              refine WE.then_ret ?_
              refine WE.ret1 (P := Tryd.prog) (.inl rfl) Tryd.results41 (resRow rfl many_25 rfl) ?_
              have e0 : openR xs = .inr (0, ⟨#[]⟩) := (by rw [hop, hy, if_neg (by omega), hy3, capsR_bad _ (by omega) (hbad3 rfl)])
              exact fun w' h => ⟨false, 0, _, ad2, kc2, ds, E2, KO2, rfl, by
                have := St.front (R := [.row gm (MsL.opened k xs ad2 kc2 ds).cells]) (L := KO2 ++ L) E2 (h.sub (List.Sublist.append_left (.cons _ (.refl _)) _))
                exact this, hV3, hO3, fun _ => e0, fun e => by cases e⟩
            · -- 103T
              refine WL.val (v_not rfl rfl rfl) (.none rfl) rfl rfl ?_
              refine WL.nil ?_
              refine WE.then_n ?_
              refine WC.cond_f rfl ?_
              refine WC.skip ?_
              refine WE.then_n ?_
              refine WC.seq ?_
              refine WC.orders mixed ?_
              refine WR.first (g := 8) [0, 1, 2, 3, 5, 6] (by kernel_rfl) (by kernel_rfl) ?_
              obtain ⟨n3, zs3, rfl, hnz3, rfl, rfl⟩ := hok3 rfl
              have hcl3 : (x3 :: (n3 : Int) :: zs3).length = zs3.length + 2 := rfl
              rw [capsR_cons, Int.toNat_natCast, if_neg (by omega)] at hy3
              have htl3 : (zs3.take n3).length = n3 := (by rw [List.length_take]; omega)
              have hdl3 : (zs3.drop n3).length = zs3.length - n3 := (by rw [List.length_drop])
              have hx3 := hW3.bys x3 (List.mem_cons_self ..)
              have hWv : Win w0 b (sAddr o3 2 c3 1) (c3 - 2) (zs3.take n3) := (by
                have h1 := (hW3.take (2 + n3)).drop 2
                rwa [show ((x3 :: (n3 : Int) :: zs3).take (2 + n3)).drop 2 = zs3.take n3 by rw [show 2 + n3 = n3 + 1 + 1 by omega]; rfl] at h1)
              refine WP.val (v_move rfl rfl) (.none rfl) rfl rfl ?_
              refine WP.val (v_move rfl rfl) (.none rfl) rfl rfl ?_
              refine WP.val (v_nilCheck rfl rfl) (.none rfl) rfl rfl ?_
              refine WP.val (v_fieldAddr0 rfl rfl fld_43_4) (.none rfl) rfl rfl ?_
              refine WP.val (v_move rfl rfl) (.none rfl) rfl rfl ?_
              refine WP.val (v_move rfl rfl) (.none rfl) rfl rfl ?_
              refine WP.nil ?_
              refine WR.each (g := 7) [4, 7] (by kernel_rfl) (by decide) ?_
              refine ⟨?_, ?_⟩
              · -- next 4
                refine WL.val (v_load1 rfl rfl one_35 (cellAt (v := .slice ad2 ds.length kc2) rfl)) (.none rfl) rfl rfl ?_
                refine WL.nilR ?_
                refine WR.ones (g := 6) [7] (by kernel_rfl) ?_
                refine WL.call rfl rfl ck_57 (.none rfl) rfl rfl ?_
                intro w1 hS
                refine (CloneB_c w1 b (sAddr o3 2 c3 1) (c3 - 2) (zs3.take n3) (hWv.st hS) (by omega)).mono ?_
                rintro e w' ⟨_, rfl, ad113, c113, E113, rfl, hV113, hS'⟩
                refine ⟨_, _, rfl, hS.join hS', ?_⟩
                refine WL.nilR ?_
                refine WR.first (g := 5) [8] (by kernel_rfl) (by kernel_rfl) ?_
                refine WP.val (v_build rfl rfl zero_109 plc_109 rfl) (.none rfl) rfl rfl ?_
                refine WP.nil ?_
                refine WR.ones (g := 3) [9, 10] (by kernel_rfl) ?_
                refine WL.buildSlice rfl rfl Tryd.underlying35 sz_109 zero_109 rfl (by decide) rfl (.none rfl) rfl rfl ?_
                intro g115 hg115
                refine WL.as (L' := .row g115 (CapL.cells ⟨x3, ad113, c113, zs3.take n3⟩) :: (E113 ++ (E2 ++ (.row g4 (fltL 0 0 ⟨#[]⟩) :: .row gm (MsL.opened k xs ad2 kc2 ds).cells :: (KO2 ++ L))))) rfl ?_
                refine WL.to (L' := E2 ++ (.row g115 (CapL.cells ⟨x3, ad113, c113, zs3.take n3⟩) :: (E113 ++ (.row g4 (fltL 0 0 ⟨#[]⟩) :: .row gm (MsL.opened k xs ad2 kc2 ds).cells :: (KO2 ++ L))))) (fun w hS => by
                  have := St.front (R := E2) (L := .row g4 (fltL 0 0 ⟨#[]⟩) :: .row gm (MsL.opened k xs ad2 kc2 ds).cells :: (KO2 ++ L)) (.row g115 (CapL.cells ⟨x3, ad113, c113, zs3.take n3⟩) :: E113) (by simpa only [List.cons_append, List.append_assoc, List.nil_append] using hS)
                  simpa only [List.cons_append, List.append_assoc, List.nil_append] using this) ?_
                refine WL.appendL rfl rfl rfl Tryd.underlying35 Tryd.underlying35 sz_109 by_109 zero_109 rfl rfl hV3 (new := CapL.cells ⟨x3, ad113, c113, zs3.take n3⟩) (fun _ => ⟨g115, 0, rfl, fun w hS => allAt (g := g115) w hS⟩) rfl rfl (by omega) (.none rfl) rfl rfl ?_
                intro ad116 c116 E116 hV116 hr116
                rw [← capsL_snoc] at hV116
                rw [show ds.length + 1 = (ds ++ [(⟨x3, ad113, c113, zs3.take n3⟩ : CapL)]).length by rw [List.length_append]; rfl] at hV116 ⊢
                refine WL.nilR ?_
                refine WR.first (g := 1) [11, 12] (by kernel_rfl) (by kernel_rfl) ?_
                refine WP.val (v_nilCheck rfl rfl) (.none rfl) rfl rfl ?_
                refine WP.val (v_fieldAddr0 rfl rfl fld_43_4) (.none rfl) rfl rfl ?_
                refine WP.nil ?_
                refine WR.ones (g := 0) [13] (by kernel_rfl) ?_
                refine WL.store1 rfl rfl rfl rfl one_35 (Nat.le_of_ble_eq_true rfl) (.none rfl) rfl ?_
                refine WL.as (L' := E116 ++ (.row g115 (CapL.cells ⟨x3, ad113, c113, zs3.take n3⟩) :: (E113 ++ (.row g4 (fltL 0 0 ⟨#[]⟩) :: .row gm (MsL.opened k xs ad116 c116 (ds ++ [⟨x3, ad113, c113, zs3.take n3⟩])).cells :: (KO2 ++ L))))) rfl ?_
                refine WL.to (L' := E116 ++ (.row g4 (fltL 0 0 ⟨#[]⟩) :: .row gm (MsL.opened k xs ad116 c116 (ds ++ [⟨x3, ad113, c113, zs3.take n3⟩])).cells :: ((E113 ++ KO2) ++ L))) (fun w hS => by
                  have h1 : St (fun _ => False) w0 w (E116 ++ (E113 ++ (.row g4 (fltL 0 0 ⟨#[]⟩) :: .row gm (MsL.opened k xs ad116 c116 (ds ++ [⟨x3, ad113, c113, zs3.take n3⟩])).cells :: (KO2 ++ L)))) := hS.sub (List.Sublist.append_left (.cons _ (.refl _)) _)
                  refine h1.perm (List.Perm.append_left E116 ?_)
                  have := List.perm_append_comm_assoc E113 [.row g4 (fltL 0 0 ⟨#[]⟩), .row gm (MsL.opened k xs ad116 c116 (ds ++ [⟨x3, ad113, c113, zs3.take n3⟩])).cells] (KO2 ++ L)
                  simpa only [List.cons_append, List.append_assoc, List.nil_append] using this.symm) ?_
                refine WL.nilR ?_
                refine WR.done (by kernel_rfl) ?_
                refine WE.then_n ?_
                refine WC.region ?_
                refine WL.val (v_move rfl rfl) (.none rfl) rfl rfl ?_
                refine WL.val (v_assign rfl rfl) (.none rfl) rfl rfl ?_
                refine WL.nil ?_
                refine WE.block_n ?_
                exact WE.next ⟨zs3.drop n3, sAddr o3 (2 + n3) c3 1, c3 - (2 + n3), ds ++ [⟨x3, ad113, c113, zs3.take n3⟩], ad116, c116, E116, E113 ++ KO2⟩ (by dsimp only; omega) ⟨by dsimp only; rw [List.length_append, List.length_cons, List.length_nil]; omega, by
                have h1 := hW3.drop (2 + n3)
                rwa [show (x3 :: (n3 : Int) :: zs3).drop (2 + n3) = zs3.drop n3 by rw [show 2 + n3 = n3 + 1 + 1 by omega]; rfl] at h1, by dsimp only; rw [hy3, List.map_append]; rfl, hV116, fun c hc => by
                rcases List.mem_append.1 hc with hc | hc
                · obtain ⟨E', r1, r2⟩ := hO3 c hc
                  exact ⟨E', r1, fun e he => List.mem_append_right _ (r2 e he)⟩
                · rcases List.mem_cons.1 hc with rfl | hc
                  · exact ⟨E113, hV113, fun e he => List.mem_append_left _ he⟩
                  · cases hc⟩ (.cons rfl (.cons rfl (.cons rfl (.cons rfl .nil)))) (.refl _)
              · -- next 7
                refine WL.call rfl rfl ck_57 (.none rfl) rfl rfl ?_
                intro w1 hS
                refine (CloneB_c w1 b (sAddr o3 2 c3 1) (c3 - 2) (zs3.take n3) (hWv.st hS) (by omega)).mono ?_
                rintro e w' ⟨_, rfl, ad113, c113, E113, rfl, hV113, hS'⟩
                refine ⟨_, _, rfl, hS.join hS', ?_⟩
                refine WL.nilR ?_
                refine WR.first (g := 6) [8] (by kernel_rfl) (by kernel_rfl) ?_
                refine WP.val (v_build rfl rfl zero_109 plc_109 rfl) (.none rfl) rfl rfl ?_
                refine WP.nil ?_
                refine WR.each (g := 5) [4, 9] (by kernel_rfl) (by decide) ?_
                refine ⟨?_, ?_⟩
                · -- next 4
                  refine WL.val (v_load1 rfl rfl one_35 (cellAt (v := .slice ad2 ds.length kc2) rfl)) (.none rfl) rfl rfl ?_
                  refine WL.nilR ?_
                  refine WR.ones (g := 3) [9, 10] (by kernel_rfl) ?_
                  refine WL.buildSlice rfl rfl Tryd.underlying35 sz_109 zero_109 rfl (by decide) rfl (.none rfl) rfl rfl ?_
                  intro g115 hg115
                  refine WL.as (L' := .row g115 (CapL.cells ⟨x3, ad113, c113, zs3.take n3⟩) :: (E113 ++ (E2 ++ (.row g4 (fltL 0 0 ⟨#[]⟩) :: .row gm (MsL.opened k xs ad2 kc2 ds).cells :: (KO2 ++ L))))) rfl ?_
                  refine WL.to (L' := E2 ++ (.row g115 (CapL.cells ⟨x3, ad113, c113, zs3.take n3⟩) :: (E113 ++ (.row g4 (fltL 0 0 ⟨#[]⟩) :: .row gm (MsL.opened k xs ad2 kc2 ds).cells :: (KO2 ++ L))))) (fun w hS => by
                    have := St.front (R := E2) (L := .row g4 (fltL 0 0 ⟨#[]⟩) :: .row gm (MsL.opened k xs ad2 kc2 ds).cells :: (KO2 ++ L)) (.row g115 (CapL.cells ⟨x3, ad113, c113, zs3.take n3⟩) :: E113) (by simpa only [List.cons_append, List.append_assoc, List.nil_append] using hS)
                    simpa only [List.cons_append, List.append_assoc, List.nil_append] using this) ?_
                  refine WL.appendL rfl rfl rfl Tryd.underlying35 Tryd.underlying35 sz_109 by_109 zero_109 rfl rfl hV3 (new := CapL.cells ⟨x3, ad113, c113, zs3.take n3⟩) (fun _ => ⟨g115, 0, rfl, fun w hS => allAt (g := g115) w hS⟩) rfl rfl (by omega) (.none rfl) rfl rfl ?_
                  intro ad116 c116 E116 hV116 hr116
                  rw [← capsL_snoc] at hV116
                  rw [show ds.length + 1 = (ds ++ [(⟨x3, ad113, c113, zs3.take n3⟩ : CapL)]).length by rw [List.length_append]; rfl] at hV116 ⊢
                  refine WL.nilR ?_
                  refine WR.first (g := 1) [11, 12] (by kernel_rfl) (by kernel_rfl) ?_
                  refine WP.val (v_nilCheck rfl rfl) (.none rfl) rfl rfl ?_
                  refine WP.val (v_fieldAddr0 rfl rfl fld_43_4) (.none rfl) rfl rfl ?_
                  refine WP.nil ?_
                  refine WR.ones (g := 0) [13] (by kernel_rfl) ?_
                  refine WL.store1 rfl rfl rfl rfl one_35 (Nat.le_of_ble_eq_true rfl) (.none rfl) rfl ?_
                  refine WL.as (L' := E116 ++ (.row g115 (CapL.cells ⟨x3, ad113, c113, zs3.take n3⟩) :: (E113 ++ (.row g4 (fltL 0 0 ⟨#[]⟩) :: .row gm (MsL.opened k xs ad116 c116 (ds ++ [⟨x3, ad113, c113, zs3.take n3⟩])).cells :: (KO2 ++ L))))) rfl ?_
                  refine WL.to (L' := E116 ++ (.row g4 (fltL 0 0 ⟨#[]⟩) :: .row gm (MsL.opened k xs ad116 c116 (ds ++ [⟨x3, ad113, c113, zs3.take n3⟩])).cells :: ((E113 ++ KO2) ++ L))) (fun w hS => by
                    have h1 : St (fun _ => False) w0 w (E116 ++ (E113 ++ (.row g4 (fltL 0 0 ⟨#[]⟩) :: .row gm (MsL.opened k xs ad116 c116 (ds ++ [⟨x3, ad113, c113, zs3.take n3⟩])).cells :: (KO2 ++ L)))) := hS.sub (List.Sublist.append_left (.cons _ (.refl _)) _)
                    refine h1.perm (List.Perm.append_left E116 ?_)
                    have := List.perm_append_comm_assoc E113 [.row g4 (fltL 0 0 ⟨#[]⟩), .row gm (MsL.opened k xs ad116 c116 (ds ++ [⟨x3, ad113, c113, zs3.take n3⟩])).cells] (KO2 ++ L)
                    simpa only [List.cons_append, List.append_assoc, List.nil_append] using this.symm) ?_
                  refine WL.nilR ?_
                  refine WR.done (by kernel_rfl) ?_
                  refine WE.then_n ?_
                  refine WC.region ?_
                  refine WL.val (v_move rfl rfl) (.none rfl) rfl rfl ?_
                  refine WL.val (v_assign rfl rfl) (.none rfl) rfl rfl ?_
                  refine WL.nil ?_
                  refine WE.block_n ?_
                  exact WE.next ⟨zs3.drop n3, sAddr o3 (2 + n3) c3 1, c3 - (2 + n3), ds ++ [⟨x3, ad113, c113, zs3.take n3⟩], ad116, c116, E116, E113 ++ KO2⟩ (by dsimp only; omega) ⟨by dsimp only; rw [List.length_append, List.length_cons, List.length_nil]; omega, by
                  have h1 := hW3.drop (2 + n3)
                  rwa [show (x3 :: (n3 : Int) :: zs3).drop (2 + n3) = zs3.drop n3 by rw [show 2 + n3 = n3 + 1 + 1 by omega]; rfl] at h1, by dsimp only; rw [hy3, List.map_append]; rfl, hV116, fun c hc => by
                  rcases List.mem_append.1 hc with hc | hc
                  · obtain ⟨E', r1, r2⟩ := hO3 c hc
                    exact ⟨E', r1, fun e he => List.mem_append_right _ (r2 e he)⟩
                  · rcases List.mem_cons.1 hc with rfl | hc
                    · exact ⟨E113, hV113, fun e he => List.mem_append_left _ he⟩
                    · cases hc⟩ (.cons rfl (.cons rfl (.cons rfl (.cons rfl .nil)))) (.refl _)
                · -- next 9
                  refine WL.buildSlice rfl rfl Tryd.underlying35 sz_109 zero_109 rfl (by decide) rfl (.none rfl) rfl rfl ?_
                  intro g115 hg115
                  refine WL.as (L' := .row g115 (CapL.cells ⟨x3, ad113, c113, zs3.take n3⟩) :: (E113 ++ (E2 ++ (.row g4 (fltL 0 0 ⟨#[]⟩) :: .row gm (MsL.opened k xs ad2 kc2 ds).cells :: (KO2 ++ L))))) rfl ?_
                  refine WL.to (L' := E2 ++ (.row g115 (CapL.cells ⟨x3, ad113, c113, zs3.take n3⟩) :: (E113 ++ (.row g4 (fltL 0 0 ⟨#[]⟩) :: .row gm (MsL.opened k xs ad2 kc2 ds).cells :: (KO2 ++ L))))) (fun w hS => by
                    have := St.front (R := E2) (L := .row g4 (fltL 0 0 ⟨#[]⟩) :: .row gm (MsL.opened k xs ad2 kc2 ds).cells :: (KO2 ++ L)) (.row g115 (CapL.cells ⟨x3, ad113, c113, zs3.take n3⟩) :: E113) (by simpa only [List.cons_append, List.append_assoc, List.nil_append] using hS)
                    simpa only [List.cons_append, List.append_assoc, List.nil_append] using this) ?_
                  refine WL.nilR ?_
                  refine WR.read (g := 4) [4] (by kernel_rfl) (by kernel_rfl) (by kernel_rfl) (by kernel_rfl) rfl ?_
                  refine WQ.val (v_load1 rfl rfl one_35 (cellAt (v := .slice ad2 ds.length kc2) rfl)) (.none rfl) rfl rfl ?_
                  refine WQ.nilR ?_
                  refine WR.ones (g := 3) [10] (by kernel_rfl) ?_
                  refine WL.appendL rfl rfl rfl Tryd.underlying35 Tryd.underlying35 sz_109 by_109 zero_109 rfl rfl hV3 (new := CapL.cells ⟨x3, ad113, c113, zs3.take n3⟩) (fun _ => ⟨g115, 0, rfl, fun w hS => allAt (g := g115) w hS⟩) rfl rfl (by omega) (.none rfl) rfl rfl ?_
                  intro ad116 c116 E116 hV116 hr116
                  rw [← capsL_snoc] at hV116
                  rw [show ds.length + 1 = (ds ++ [(⟨x3, ad113, c113, zs3.take n3⟩ : CapL)]).length by rw [List.length_append]; rfl] at hV116 ⊢
                  refine WL.nilR ?_
                  refine WR.first (g := 1) [11, 12] (by kernel_rfl) (by kernel_rfl) ?_
                  refine WP.val (v_nilCheck rfl rfl) (.none rfl) rfl rfl ?_
                  refine WP.val (v_fieldAddr0 rfl rfl fld_43_4) (.none rfl) rfl rfl ?_
                  refine WP.nil ?_
                  refine WR.ones (g := 0) [13] (by kernel_rfl) ?_
                  refine WL.store1 rfl rfl rfl rfl one_35 (Nat.le_of_ble_eq_true rfl) (.none rfl) rfl ?_
                  refine WL.as (L' := E116 ++ (.row g115 (CapL.cells ⟨x3, ad113, c113, zs3.take n3⟩) :: (E113 ++ (.row g4 (fltL 0 0 ⟨#[]⟩) :: .row gm (MsL.opened k xs ad116 c116 (ds ++ [⟨x3, ad113, c113, zs3.take n3⟩])).cells :: (KO2 ++ L))))) rfl ?_
                  refine WL.to (L' := E116 ++ (.row g4 (fltL 0 0 ⟨#[]⟩) :: .row gm (MsL.opened k xs ad116 c116 (ds ++ [⟨x3, ad113, c113, zs3.take n3⟩])).cells :: ((E113 ++ KO2) ++ L))) (fun w hS => by
                    have h1 : St (fun _ => False) w0 w (E116 ++ (E113 ++ (.row g4 (fltL 0 0 ⟨#[]⟩) :: .row gm (MsL.opened k xs ad116 c116 (ds ++ [⟨x3, ad113, c113, zs3.take n3⟩])).cells :: (KO2 ++ L)))) := hS.sub (List.Sublist.append_left (.cons _ (.refl _)) _)
                    refine h1.perm (List.Perm.append_left E116 ?_)
                    have := List.perm_append_comm_assoc E113 [.row g4 (fltL 0 0 ⟨#[]⟩), .row gm (MsL.opened k xs ad116 c116 (ds ++ [⟨x3, ad113, c113, zs3.take n3⟩])).cells] (KO2 ++ L)
                    simpa only [List.cons_append, List.append_assoc, List.nil_append] using this.symm) ?_
                  refine WL.nilR ?_
                  refine WR.done (by kernel_rfl) ?_
                  refine WE.then_n ?_
                  refine WC.region ?_
                  refine WL.val (v_move rfl rfl) (.none rfl) rfl rfl ?_
                  refine WL.val (v_assign rfl rfl) (.none rfl) rfl rfl ?_
                  refine WL.nil ?_
                  refine WE.block_n ?_
                  exact WE.next ⟨zs3.drop n3, sAddr o3 (2 + n3) c3 1, c3 - (2 + n3), ds ++ [⟨x3, ad113, c113, zs3.take n3⟩], ad116, c116, E116, E113 ++ KO2⟩ (by dsimp only; omega) ⟨by dsimp only; rw [List.length_append, List.length_cons, List.length_nil]; omega, by
                  have h1 := hW3.drop (2 + n3)
                  rwa [show (x3 :: (n3 : Int) :: zs3).drop (2 + n3) = zs3.drop n3 by rw [show 2 + n3 = n3 + 1 + 1 by omega]; rfl] at h1, by dsimp only; rw [hy3, List.map_append]; rfl, hV116, fun c hc => by
                  rcases List.mem_append.1 hc with hc | hc
                  · obtain ⟨E', r1, r2⟩ := hO3 c hc
                    exact ⟨E', r1, fun e he => List.mem_append_right _ (r2 e he)⟩
                  · rcases List.mem_cons.1 hc with rfl | hc
                    · exact ⟨E113, hV113, fun e he => List.mem_append_left _ he⟩
                    · cases hc⟩ (.cons rfl (.cons rfl (.cons rfl (.cons rfl .nil)))) (.refl _)
          · -- 95F
            refine WL.nil ?_
            refine WE.then_n ?_
            refine WC.cond_f rfl ?_
            refine WC.exit ?_
            refine WE.then_exit ?_
            refine WE.then_exit ?_
            refine WE.block_hit ?_
            refine WE.then_n ?_
            refine WC.region ?_
            refine WL.val (v_move rfl rfl) (.none rfl) rfl rfl ?_
            refine WL.val (v_assign rfl rfl) (.none rfl) rfl rfl ?_
            refine WL.nil ?_
            refine WE.block_n ?_
            obtain rfl : vs = [] := List.length_eq_zero_iff.1 (by omega)
            exact WE.next ⟨zs.drop n, sAddr o2 (2 + n) c2 1, c2 - (2 + n), ds, ad2, kc2, E2, KO2⟩ (by dsimp only; omega) ⟨by dsimp only; simp only [List.length_nil] at hl3; omega, by
              have h1 := hW2.drop (2 + n)
              rwa [show (x :: (n : Int) :: zs).drop (2 + n) = zs.drop n by rw [show 2 + n = n + 1 + 1 by omega]; rfl] at h1, by dsimp only; rw [hy, if_neg h91, hy3, capsR_nil], hV3, hO3⟩ (.cons rfl (.cons rfl (.cons rfl .nil))) (.refl _)
    · -- 79F
      refine WL.nil ?_
      refine WE.then_n ?_
      refine WC.cond_f rfl ?_
      refine WC.exit ?_
      refine WE.then_exit ?_
      refine WE.then_exit ?_
      refine WE.block_hit ?_
      refine WE.then_n ?_
      refine WC.seq ?_
      refine WC.region ?_
      refine WL.val (v_build rfl rfl zero_25 plc_25 rfl) (.none rfl) rfl rfl ?_
      refine WL.storeW rfl rfl rfl rfl many_25 rfl rfl (.none rfl) rfl ?_
      refine WL.nil ?_
      refine WE.then_n ?_
      refine WC.ret ?_
      refine WE.ret1 (P := Tryd.prog) (.inl rfl) Tryd.results41 (resRow rfl many_25 rfl) ?_
      obtain rfl : ys = [] := List.length_eq_zero_iff.1 (by omega)
      have e0 : openR xs = .inl (cs.map capD) := (by rw [hop, hy, optsR_nil])
      exact fun w' h => ⟨true, 0, _, ad, kc, cs, E, KO, rfl, by
        have := St.front (R := [.row gm (MsL.opened k xs ad kc cs).cells]) (L := KO ++ L) E (h.sub (List.Sublist.append_left (.cons _ (.refl _)) _))
        exact this, hV, hO, fun e => (by cases e), fun _ => ⟨rfl, rfl, e0⟩⟩
end Go.Proofs.YtpjbofodllhjbaaDoor
/- bgp: what an Update has behind its head. -/
namespace Go.Proofs.YtpjbofodllhjbaaDoor
open Go.RowKit

/-- The bytes behind a length of two bytes, and what is behind them. -/
def countR (xs : List Int) : Option (List Int × List Int) :=
  if xs.length < 2 ∨ (xs.length : Int) < 2 + (fOf xs 0 * 256 + fOf xs 1) then none else some ((xs.drop 2).take (fOf xs 0 * 256 + fOf xs 1).toNat, xs.drop (2 + (fOf xs 0 * 256 + fOf xs 1).toNat))
theorem netsR_len : ∀ (n : Nat) {xs : List Int} {ps : List PfL}, xs.length ≤ n → netsR xs = some ps → ps.length ≤ xs.length
  | _, [], ps, _, h => by rw [netsR] at h; cases h; exact Nat.le_refl _
  | 0, x :: xs, ps, hn, h => by simp at hn
  | n + 1, x :: xs, ps, hn, h => by
    rw [netsR_cons] at h
    split at h
    · cases h
    · obtain ⟨q, hq, rfl⟩ := Option.map_eq_some_iff.1 h
      rw [List.length_cons] at hn
      have := netsR_len n (by rw [List.length_drop]; omega) hq
      rw [List.length_drop] at this
      simp only [List.length_cons]; omega
theorem counted_u (w : World) (b o c : Nat) (xs : List Int) (hW : Win w b o c xs) (hn : xs.length ≤ 1000000) :
    Calls Tryd.prog 60 #[.slice (some ⟨b, o, none⟩) xs.length c] w fun e w' => ∃ (u r : Value) (ok : Bool), e = .returned (.tuple #[u, r, .bool ok]) ∧ Frm (fun _ => False) w w' ∧ (ok = false → countR xs = none) ∧
      (ok = true → ∃ (y z : List Int) (o1 c1 o2 c2 : Nat), countR xs = some (y, z) ∧ y.length ≤ xs.length ∧ z.length ≤ xs.length ∧ u = .slice (some ⟨b, o1, none⟩) y.length c1 ∧ r = .slice (some ⟨b, o2, none⟩) z.length c2 ∧ ∀ w0, Win w0 b o c xs → Win w0 b o1 c1 y ∧ Win w0 b o2 c2 z) := by
  by_cases h : xs.length < 2 ∨ (xs.length : Int) < 2 + (fOf xs 0 * 256 + fOf xs 1)
  · exact (counted_no w b o c xs hW hn h).mono fun e w' ⟨he, hF⟩ => ⟨_, _, false, he, hF, fun _ => by unfold countR; rw [if_pos h], fun e => by cases e⟩
  · have b0 := fOf_b hW.bys 0
    have b1 := fOf_b hW.bys 1
    obtain ⟨k, ek⟩ := Int.eq_ofNat_of_zero_le (show 0 ≤ fOf xs 0 * 256 + fOf xs 1 by omega)
    refine (counted_ok w b o c xs hW hn (by omega) k ek.symm (by omega)).mono fun e w' ⟨he, hF⟩ => ⟨_, _, true, he, hF, fun e => (by cases e), fun _ => ?_⟩
    have hl : ((xs.drop 2).take k).length = k := by rw [List.length_take, List.length_drop]; omega
    refine ⟨(xs.drop 2).take k, xs.drop (2 + k), sAddr o 2 c 1, c - 2, sAddr o (2 + k) c 1, c - (2 + k), by unfold countR; rw [if_neg h, ek, Int.toNat_natCast], by omega, by rw [List.length_drop]; omega, ?_, ?_, fun w0 hW0 => ⟨(hW0.drop 2).take k, hW0.drop (2 + k)⟩⟩
    · unfold winV; rw [hl, Nat.add_sub_cancel_left]
    · unfold winV; rw [List.length_drop]
theorem getNets_u (w0 : World) (b o c : Nat) (xs : List Int) (hW : Win w0 b o c xs) (hn : xs.length ≤ 100000) :
    Calls Tryd.prog 61 #[.slice (some ⟨b, o, none⟩) xs.length c] w0 fun e w' => ∃ (ps : List PfL) (ad : Option Addr) (c' : Nat) (E : List Ent) (ok : Bool), e = .returned (.tuple #[.slice ad ps.length c', .bool ok]) ∧ Vec 2 ad ps.length c' (pfsL ps) E ∧ St (fun _ => False) w0 w' E ∧ (ok = false → netsR xs = none) ∧ (ok = true → netsR xs = some ps) :=
  (getNets_c w0 b o c xs hW hn).mono fun e w' h => by
    unfold NetsP at h
    cases hp : netsR xs with
    | none =>
      rw [hp] at h
      exact ⟨[], none, 0, [], false, h.1, Vec.nil 2, (St.start _ _).ext h.2, fun _ => rfl, fun e => by cases e⟩
    | some ps =>
      rw [hp] at h
      obtain ⟨ad, c', E, he, hV, hS⟩ := h
      exact ⟨ps, ad, c', E, true, he, hV, hS, (fun e => by cases e), fun _ => rfl⟩
theorem AtDecode_u (w0 : World) (b o c : Nat) (xs : List Int) (hG : GF w0) (hZ : GZ w0) (hW : Win w0 b o c xs) (hn : xs.length ≤ 90000) :
    Calls Tryd.prog 62 #[.slice (some ⟨b, o, none⟩) xs.length c] w0 fun e w' => ∃ (ok : Bool) (s : Int) (d : ByteArray) (a : AtL) (K : List Ent), e = .returned (.tuple #[.agg a.cells.toArray, .agg (fltL (if ok then 0 else 3) s d).toArray]) ∧ AtAll K a ∧ St (fun _ => False) w0 w' K ∧
      (ok = false → decD AtL.zero.d [] xs = .inr (s, d)) ∧ (ok = true → s = 0 ∧ d = ⟨#[]⟩ ∧ ∃ dd, decD AtL.zero.d [] xs = .inl dd ∧ a.d = { dd with others := sortO dd.others }) :=
  (AtDecode_c w0 b o c xs hG hZ hW hn).mono fun e w' h => by
    unfold AtDecP at h
    cases hp : decD AtL.zero.d [] xs with
    | inr x =>
      obtain ⟨s, d⟩ := x
      rw [hp] at h
      exact ⟨false, s, d, .zero, [], h.1, ⟨AtOwn.zero, ⟨[], Vec.nil 2, fun _ h => by cases h⟩, fun _ h => by cases h⟩, (St.start _ _).ext h.2, fun _ => rfl, fun e => by cases e⟩
    | inl dd =>
      rw [hp] at h
      obtain ⟨a, K, he, ha, hA, hS⟩ := h
      exact ⟨true, 0, ⟨#[]⟩, a, K, he, hA, hS, (fun e => by cases e), fun _ => ⟨rfl, rfl, dd, rfl, ha⟩⟩
theorem AtAll.mono {K K' : List Ent} {a : AtL} (h : AtAll K a) (hm : ∀ e ∈ K, e ∈ K') : AtAll K' a := by
  obtain ⟨h1, ⟨E, r1, r2⟩, h3⟩ := h
  exact ⟨h1.mono hm, ⟨E, r1, fun e he => hm e (r2 e he)⟩, fun o ho => by obtain ⟨E, q1, q2⟩ := h3 o ho; exact ⟨E, q1, fun e he => hm e (q2 e he)⟩⟩
/-- All that a message holds lies in blocks of K. -/
structure MsAll (K : List Ent) (m : MsL) : Prop where
  caps : ∃ E, Vec 2 m.kad m.caps.length m.kc (capsL m.caps) E ∧ ∀ e ∈ E, e ∈ K
  vals : ∀ c ∈ m.caps, CapOwn K c
  gone : ∃ E, Vec 2 m.gad m.gone.length m.gc (pfsL m.gone) E ∧ ∀ e ∈ E, e ∈ K
  nets : ∃ E, Vec 2 m.nad m.nets.length m.nc (pfsL m.nets) E ∧ ∀ e ∈ E, e ∈ K
  at_ : AtAll K m.atr
theorem AtAll.zero : AtAll [] .zero := ⟨AtOwn.zero, ⟨[], Vec.nil 2, fun _ h => by cases h⟩, fun _ h => by cases h⟩
theorem MsAll.zero (k : Int) : MsAll [] (.zero k) := ⟨⟨[], Vec.nil 2, fun _ h => by cases h⟩, (fun _ h => by cases h), ⟨[], Vec.nil 2, fun _ h => by cases h⟩, ⟨[], Vec.nil 2, fun _ h => by cases h⟩, AtAll.zero⟩
def oneS (x : Int) : ByteArray := str (fun _ => x) 1
/-- The routes of an Update, or what is wrong. -/
def updR (xs : List Int) : (List PfL × AtD × List PfL) ⊕ (Int × Int × ByteArray) :=
  match countR xs with
  | none => .inr (3, 1, ⟨#[]⟩)
  | some (g, r) => match countR r with
    | none => .inr (3, 1, ⟨#[]⟩)
    | some (s, n) => match netsR g with
      | none => .inr (3, 1, ⟨#[]⟩)
      | some gs => match decD AtL.zero.d [] s with
        | .inr (s, d) => .inr (3, s, d)
        | .inl a => match netsR n with
          | none => .inr (3, 10, ⟨#[]⟩)
          | some ns => if 200 < gs.length ∨ 200 < ns.length then .inr (6, 1, ⟨#[]⟩) else if missI a.has ≠ 0 ∧ 0 < ns.length then .inr (3, 3, oneS (missI a.has)) else .inl (gs, { a with others := sortO a.others }, ns)
theorem missI_b (h : Int) : 0 ≤ missI h ∧ missI h ≤ 3 := by unfold missI; split <;> (try split) <;> (try split) <;> omega
def MsL.upd (k : Int) (gad : Option Addr) (gc : Nat) (gone : List PfL) (atr : AtL) (nad : Option Addr) (nc : Nat) (nets : List PfL) : MsL := { MsL.zero k with gad := gad, gc := gc, gone := gone, atr := atr, nad := nad, nc := nc, nets := nets }
def UpdP (w0 w' : World) (gm : Nat) (k : Int) (xs : List Int) (L : List Ent) (e : Ending) : Prop :=
  ∃ (ok : Bool) (c s : Int) (d : ByteArray) (gad : Option Addr) (gc : Nat) (gs : List PfL) (a : AtL) (nad : Option Addr) (nc : Nat) (ns : List PfL) (K : List Ent), e = .returned (.agg (fltL c s d).toArray) ∧ St (fun _ => False) w0 w' (.row gm (MsL.upd k gad gc gs a nad nc ns).cells :: (K ++ L)) ∧ MsAll K (MsL.upd k gad gc gs a nad nc ns) ∧
    (ok = false → c ≠ 0 ∧ updR xs = .inr (c, s, d)) ∧ (ok = true → c = 0 ∧ s = 0 ∧ d = ⟨#[]⟩ ∧ updR xs = .inl (gs, a.d, ns))
set_option maxHeartbeats 4000000 in
theorem readUpdate_c (w0 w1 : World) (gm b o c : Nat) (k : Int) (xs : List Int) (L : List Ent) (hG : GF w0) (hZ : GZ w0) (hW : Win w0 b o c xs) (hn : xs.length ≤ 90000) (hS0 : St (fun _ => False) w0 w1 (.row gm (MsL.zero k).cells :: L)) :
    Calls Tryd.prog 42 #[.pointer (some ⟨gm, 0, none⟩), .slice (some ⟨b, o, none⟩) xs.length c] w1 fun e w' => UpdP w0 w' gm k xs L e := by
  refine enter Tryd.func42 rfl Tryd.ntmps42 rfl hS0 ?_
  refine WC.seq ?_
  refine WC.region ?_
  refine WL.alloc rfl zero_25 (.none rfl) rfl rfl ?_
  intro g4 hg4
  refine WL.nil ?_
  refine WE.then_n ?_
  refine WC.seq ?_
  refine WC.region ?_
  refine WL.val (v_move rfl rfl) (.none rfl) rfl rfl ?_
  refine WL.call rfl rfl ck_60 (.none rfl) rfl rfl ?_
  intro w1 hS
  refine (counted_u w1 b o c xs (hW.st hS) (by omega)).mono ?_
  rintro e w' ⟨u1, r1, ok1, rfl, hF, hbad1, hok1⟩
  refine ⟨_, _, rfl, hS.ext hF, ?_⟩
  refine WL.val (v_move rfl rfl) (.none rfl) rfl rfl ?_
  refine WL.val (v_extract rfl rfl rfl) (.none rfl) rfl rfl ?_
  refine WL.val (v_extract rfl rfl rfl) (.none rfl) rfl rfl ?_
  refine WL.val (v_extract rfl rfl rfl) (.none rfl) rfl rfl ?_
  refine WL.val (v_assign rfl rfl) (.none rfl) rfl rfl ?_
  refine WL.val (v_assign rfl rfl) (.none rfl) rfl rfl ?_
  refine WL.val (v_assign rfl rfl) (.none rfl) rfl rfl ?_
  refine WL.nil ?_
  refine WE.then_n ?_
  refine WC.seq ?_
  refine WC.seq ?_
  refine WC.region ?_
  refine WL.val (v_move rfl rfl) (.none rfl) rfl rfl ?_
  skip
  cases ok1
  · -- 18F
    refine WL.val (v_not rfl rfl rfl) (.none rfl) rfl rfl ?_
    refine WL.nil ?_
    refine WE.then_n ?_
    refine WC.cond_t rfl ?_
    refine WC.seq ?_
    refine WC.region ?_
    refine WL.val (v_build rfl rfl zero_25 plc_25 rfl) (.none rfl) rfl rfl ?_
    refine WL.storeW rfl rfl rfl rfl many_25 rfl rfl (.none rfl) rfl ?_
    refine WL.nil ?_
    refine WE.then_n ?_
    refine WC.ret ?_
    refine WE.then_ret ?_
    refine WE.ret1 (P := Tryd.prog) (.inl rfl) Tryd.results42 (resRow rfl many_25 rfl) ?_
    have e0 : updR xs = .inr (3, 1, ⟨#[]⟩) := (by unfold updR; rw [hbad1 rfl])
    exact fun w' h => ⟨false, 3, 1, _, none, 0, [], .zero, none, 0, [], [], rfl, h.sub (.cons _ (.refl _)), MsAll.zero k, fun _ => ⟨by decide, e0⟩, fun e => by cases e⟩
  · -- 18T
    refine WL.val (v_not rfl rfl rfl) (.none rfl) rfl rfl ?_
    refine WL.nil ?_
    refine WE.then_n ?_
    refine WC.cond_f rfl ?_
    refine WC.skip ?_
    refine WE.then_n ?_
    refine WC.seq ?_
    refine WC.region ?_
    obtain ⟨xg, xr, o1, c1, o2, c2, ec1, lg, lr, rfl, rfl, hWW⟩ := hok1 rfl
    obtain ⟨hWg, hWr⟩ := hWW w0 hW
    refine WL.val (v_move rfl rfl) (.none rfl) rfl rfl ?_
    refine WL.call rfl rfl ck_60 (.none rfl) rfl rfl ?_
    intro w1 hS
    refine (counted_u w1 b o2 c2 xr (hWr.st hS) (by omega)).mono ?_
    rintro e w' ⟨u2, r2, ok2, rfl, hF2, hbad2, hok2⟩
    refine ⟨_, _, rfl, hS.ext hF2, ?_⟩
    refine WL.val (v_move rfl rfl) (.none rfl) rfl rfl ?_
    refine WL.val (v_extract rfl rfl rfl) (.none rfl) rfl rfl ?_
    refine WL.val (v_extract rfl rfl rfl) (.none rfl) rfl rfl ?_
    refine WL.val (v_extract rfl rfl rfl) (.none rfl) rfl rfl ?_
    refine WL.val (v_assign rfl rfl) (.none rfl) rfl rfl ?_
    refine WL.val (v_assign rfl rfl) (.none rfl) rfl rfl ?_
    refine WL.val (v_assign rfl rfl) (.none rfl) rfl rfl ?_
    refine WL.nil ?_
    refine WE.then_n ?_
    refine WC.seq ?_
    refine WC.seq ?_
    refine WC.region ?_
    refine WL.val (v_move rfl rfl) (.none rfl) rfl rfl ?_
    skip
    cases ok2
    · -- 27F
      refine WL.val (v_not rfl rfl rfl) (.none rfl) rfl rfl ?_
      refine WL.nil ?_
      refine WE.then_n ?_
      refine WC.cond_t rfl ?_
      refine WC.seq ?_
      refine WC.region ?_
      refine WL.val (v_build rfl rfl zero_25 plc_25 rfl) (.none rfl) rfl rfl ?_
      refine WL.storeW rfl rfl rfl rfl many_25 rfl rfl (.none rfl) rfl ?_
      refine WL.nil ?_
      refine WE.then_n ?_
      refine WC.ret ?_
      refine WE.then_ret ?_
      refine WE.ret1 (P := Tryd.prog) (.inl rfl) Tryd.results42 (resRow rfl many_25 rfl) ?_
      have e0 : updR xs = .inr (3, 1, ⟨#[]⟩) := (by unfold updR; rw [ec1]; dsimp only; rw [hbad2 rfl])
      exact fun w' h => ⟨false, 3, 1, _, none, 0, [], .zero, none, 0, [], [], rfl, h.sub (.cons _ (.refl _)), MsAll.zero k, fun _ => ⟨by decide, e0⟩, fun e => by cases e⟩
    · -- 27T
      refine WL.val (v_not rfl rfl rfl) (.none rfl) rfl rfl ?_
      refine WL.nil ?_
      refine WE.then_n ?_
      refine WC.cond_f rfl ?_
      refine WC.skip ?_
      refine WE.then_n ?_
      refine WC.seq ?_
      refine WC.seq ?_
      refine WC.region ?_
      obtain ⟨xs2, xn, o3, c3, o4, c4, ec2, ls, ln, rfl, rfl, hWW2⟩ := hok2 rfl
      obtain ⟨hWs, hWn⟩ := hWW2 w0 hWr
      refine WL.val (v_move rfl rfl) (.none rfl) rfl rfl ?_
      refine WL.val (v_move rfl rfl) (.none rfl) rfl rfl ?_
      refine WL.call rfl rfl ck_61 (.none rfl) rfl rfl ?_
      intro w1 hS
      refine (getNets_u w1 b o1 c1 xg (hWg.st hS) (by omega)).mono ?_
      rintro e w' ⟨gs, gad, gc, Eg, ok3, rfl, hVg, hSg, hbad3, hok3⟩
      refine ⟨_, _, rfl, hS.join hSg, ?_⟩
      refine WL.val (v_move rfl rfl) (.none rfl) rfl rfl ?_
      refine WL.val (v_extract rfl rfl rfl) (.none rfl) rfl rfl ?_
      refine WL.val (v_extract rfl rfl rfl) (.none rfl) rfl rfl ?_
      refine WL.val (v_nilCheck rfl rfl) (.none rfl) rfl rfl ?_
      refine WL.val (v_fieldAddr0 rfl rfl fld_43_5) (.none rfl) rfl rfl ?_
      refine WL.store1 rfl rfl rfl rfl one_36 (Nat.le_of_ble_eq_true rfl) (.none rfl) rfl ?_
      refine WL.as (L' := Eg ++ (.row g4 (fltL 0 0 ⟨#[]⟩) :: .row gm (MsL.upd k gad gc gs .zero none 0 []).cells :: L)) rfl ?_
      refine WL.val (v_assign rfl rfl) (.none rfl) rfl rfl ?_
      refine WL.nil ?_
      refine WE.then_n ?_
      refine WC.seq ?_
      refine WC.region ?_
      refine WL.val (v_move rfl rfl) (.none rfl) rfl rfl ?_
      skip
      cases ok3
      · -- 38F
        refine WL.val (v_not rfl rfl rfl) (.none rfl) rfl rfl ?_
        refine WL.nil ?_
        refine WE.then_n ?_
        refine WC.cond_t rfl ?_
        refine WC.seq ?_
        refine WC.region ?_
        refine WL.val (v_build rfl rfl zero_25 plc_25 rfl) (.none rfl) rfl rfl ?_
        refine WL.storeW rfl rfl rfl rfl many_25 rfl rfl (.none rfl) rfl ?_
        refine WL.nil ?_
        refine WE.then_n ?_
        refine WC.ret ?_
        refine WE.then_ret ?_
        refine WE.ret1 (P := Tryd.prog) (.inl rfl) Tryd.results42 (resRow rfl many_25 rfl) ?_
        have e0 : updR xs = .inr (3, 1, ⟨#[]⟩) := (by unfold updR; rw [ec1]; dsimp only; rw [ec2]; dsimp only; rw [hbad3 rfl])
        exact fun w' h => ⟨false, 3, 1, _, gad, gc, gs, .zero, none, 0, [], Eg, rfl, St.front (R := [.row gm (MsL.upd k gad gc gs .zero none 0 []).cells]) (L := L) Eg (h.sub (List.Sublist.append_left (.cons _ (.refl _)) _)), ⟨⟨[], Vec.nil 2, fun _ h => by cases h⟩, (fun _ h => by cases h), ⟨Eg, hVg, fun _ h => h⟩, ⟨[], Vec.nil 2, fun _ h => by cases h⟩, AtAll.zero.mono fun _ h => by cases h⟩, fun _ => ⟨by decide, e0⟩, fun e => by cases e⟩
      · -- 38T
        refine WL.val (v_not rfl rfl rfl) (.none rfl) rfl rfl ?_
        refine WL.nil ?_
        refine WE.then_n ?_
        refine WC.cond_f rfl ?_
        refine WC.skip ?_
        refine WE.then_n ?_
        refine WC.seq ?_
        refine WC.region ?_
        refine WL.val (v_move rfl rfl) (.none rfl) rfl rfl ?_
        refine WL.call rfl rfl ck_62 (.none rfl) rfl rfl ?_
        intro w1 hS
        refine (AtDecode_u w1 b o3 c3 xs2 (hG.keep (fun h => h) hS) (hZ.keep (fun h => h) hS) (hWs.st hS) (by omega)).mono ?_
        rintro e w' ⟨ok4, s4, d4, a, Ka, rfl, hAa, hSa, hbad4, hok4⟩
        refine ⟨_, _, rfl, hS.join hSa, ?_⟩
        refine WL.val (v_move rfl rfl) (.none rfl) rfl rfl ?_
        refine WL.val (v_extract rfl rfl rfl) (.none rfl) rfl rfl ?_
        refine WL.val (v_extract rfl rfl rfl) (.none rfl) rfl rfl ?_
        refine WL.alloc rfl zero_41 (.none rfl) rfl rfl ?_
        intro g9 hg9
        refine WL.alloc rfl zero_25 (.none rfl) rfl rfl ?_
        intro g10 hg10
        refine WL.storeW rfl rfl rfl rfl many_41 rfl rfl (.none rfl) rfl ?_
        refine WL.storeW rfl rfl rfl rfl many_25 rfl rfl (.none rfl) rfl ?_
        refine WL.as (L' := .row g10 (fltL (if ok4 then 0 else 3) s4 d4) :: .row g9 a.cells :: (Ka ++ (Eg ++ (.row g4 (fltL 0 0 ⟨#[]⟩) :: .row gm (MsL.upd k gad gc gs .zero none 0 []).cells :: L)))) rfl ?_
        refine WL.nil ?_
        refine WE.then_n ?_
        refine WC.seq ?_
        refine WC.seq ?_
        refine WC.region ?_
        refine WL.val (v_loadN rfl rfl many_25 rfl allAt) (.none rfl) rfl rfl ?_
        skip
        cases ok4
        · -- 46F
          refine WL.val (v_build rfl rfl zero_25 plc_25 rfl) (.none rfl) rfl rfl ?_
          refine WL.val (v_neq_aggT rfl rfl rfl eqk_25 eqg_25 rfl rfl (by (intro h; simp [fltL] at h))) (.none rfl) rfl rfl ?_
          refine WL.nil ?_
          refine WE.then_n ?_
          refine WC.cond_t rfl ?_
          refine WC.seq ?_
          refine WC.region ?_
          refine WL.val (v_loadN rfl rfl many_25 rfl allAt) (.none rfl) rfl rfl ?_
          refine WL.storeW rfl rfl rfl rfl many_25 rfl rfl (.none rfl) rfl ?_
          refine WL.nil ?_
          refine WE.then_n ?_
          refine WC.ret ?_
          refine WE.then_ret ?_
          refine WE.ret1 (P := Tryd.prog) (.inl rfl) Tryd.results42 (resRow rfl many_25 rfl) ?_
          have e0 : updR xs = .inr (3, s4, d4) := (by unfold updR; rw [ec1]; dsimp only; rw [ec2]; dsimp only; rw [hok3 rfl]; dsimp only; rw [hbad4 rfl])
          exact fun w' h => ⟨false, 3, s4, d4, gad, gc, gs, .zero, none, 0, [], Eg, rfl, St.front (R := [.row gm (MsL.upd k gad gc gs .zero none 0 []).cells]) (L := L) Eg (h.sub (.cons _ (.cons _ (List.sublist_append_of_sublist_right (List.Sublist.append_left (.cons _ (.refl _)) _))))), ⟨⟨[], Vec.nil 2, fun _ h => by cases h⟩, (fun _ h => by cases h), ⟨Eg, hVg, fun _ h => h⟩, ⟨[], Vec.nil 2, fun _ h => by cases h⟩, AtAll.zero.mono fun _ h => by cases h⟩, fun _ => ⟨by decide, e0⟩, fun e => by cases e⟩
        · -- 46T
          obtain ⟨rfl, rfl, dd, ed, ea⟩ := hok4 rfl
          refine WL.val (v_build rfl rfl zero_25 plc_25 rfl) (.none rfl) rfl rfl ?_
          refine WL.val (v_neq_aggF rfl rfl rfl eqk_25 eqg_25 rfl rfl (by rfl)) (.none rfl) rfl rfl ?_
          refine WL.nil ?_
          refine WE.then_n ?_
          refine WC.cond_f rfl ?_
          refine WC.skip ?_
          refine WE.then_n ?_
          refine WC.seq ?_
          refine WC.region ?_
          refine WL.val (v_move rfl rfl) (.none rfl) rfl rfl ?_
          refine WL.val (v_loadN rfl rfl many_41 rfl allAt) (.none rfl) rfl rfl ?_
          refine WL.val (v_nilCheck rfl rfl) (.none rfl) rfl rfl ?_
          refine WL.val (v_fieldAddr0 rfl rfl fld_43_6) (.none rfl) rfl rfl ?_
          refine WL.storeN rfl rfl rfl rfl many_41 rfl (by first | exact Nat.le_of_ble_eq_true rfl | simp) (.none rfl) rfl ?_
          refine WL.as (L' := .row g10 (fltL 0 0 ⟨#[]⟩) :: .row g9 a.cells :: (Ka ++ (Eg ++ (.row g4 (fltL 0 0 ⟨#[]⟩) :: .row gm (MsL.upd k gad gc gs a none 0 []).cells :: L)))) rfl ?_
          refine WL.nil ?_
          refine WE.then_n ?_
          refine WC.seq ?_
          refine WC.seq ?_
          refine WC.region ?_
          refine WL.val (v_move rfl rfl) (.none rfl) rfl rfl ?_
          refine WL.val (v_move rfl rfl) (.none rfl) rfl rfl ?_
          refine WL.call rfl rfl ck_61 (.none rfl) rfl rfl ?_
          intro w1 hS
          refine (getNets_u w1 b o4 c4 xn (hWn.st hS) (by omega)).mono ?_
          rintro e w' ⟨ns, nad, nc, En, ok5, rfl, hVn, hSn, hbad5, hok5⟩
          refine ⟨_, _, rfl, hS.join hSn, ?_⟩
          refine WL.val (v_move rfl rfl) (.none rfl) rfl rfl ?_
          refine WL.val (v_extract rfl rfl rfl) (.none rfl) rfl rfl ?_
          refine WL.val (v_extract rfl rfl rfl) (.none rfl) rfl rfl ?_
          refine WL.val (v_nilCheck rfl rfl) (.none rfl) rfl rfl ?_
          refine WL.val (v_fieldAddr0 rfl rfl fld_43_7) (.none rfl) rfl rfl ?_
          refine WL.store1 rfl rfl rfl rfl one_36 (Nat.le_of_ble_eq_true rfl) (.none rfl) rfl ?_
          refine WL.as (L' := En ++ (.row g10 (fltL 0 0 ⟨#[]⟩) :: .row g9 a.cells :: (Ka ++ (Eg ++ (.row g4 (fltL 0 0 ⟨#[]⟩) :: .row gm (MsL.upd k gad gc gs a nad nc ns).cells :: L))))) rfl ?_
          refine WL.to (L' := .row g4 (fltL 0 0 ⟨#[]⟩) :: .row gm (MsL.upd k gad gc gs a nad nc ns).cells :: ((En ++ (.row g9 a.cells :: (Ka ++ Eg))) ++ L)) (fun w hS => by
            have := St.front (R := [.row g4 (fltL 0 0 ⟨#[]⟩), .row gm (MsL.upd k gad gc gs a nad nc ns).cells]) (L := L) (En ++ (.row g9 a.cells :: (Ka ++ Eg))) (by
              have h1 := hS.sub (List.Sublist.append_left (List.sublist_cons_self _ _) En)
              simpa only [List.cons_append, List.append_assoc, List.nil_append] using h1)
            exact this) ?_
          refine WL.as (L' := .row g4 (fltL 0 0 ⟨#[]⟩) :: .row gm (MsL.upd k gad gc gs a nad nc ns).cells :: (En ++ (.row g9 a.cells :: (Ka ++ (Eg ++ L))))) (by simp only [List.cons_append, List.append_assoc]) ?_
          refine WL.val (v_assign rfl rfl) (.none rfl) rfl rfl ?_
          refine WL.nil ?_
          refine WE.then_n ?_
          refine WC.seq ?_
          refine WC.region ?_
          skip
          have hAll : MsAll (En ++ (.row g9 a.cells :: (Ka ++ Eg))) (MsL.upd k gad gc gs a nad nc ns) := ⟨⟨[], Vec.nil 2, fun _ h => by cases h⟩, (fun _ h => by cases h), ⟨Eg, hVg, fun e he => List.mem_append_right _ (List.mem_cons_of_mem _ (List.mem_append_right _ he))⟩, ⟨En, hVn, fun e he => List.mem_append_left _ he⟩, hAa.mono fun e he => List.mem_append_right _ (List.mem_cons_of_mem _ (List.mem_append_left _ he))⟩
          have hfin : ∀ w', St (fun _ => False) w0 w' (.row gm (MsL.upd k gad gc gs a nad nc ns).cells :: (En ++ (.row g9 a.cells :: (Ka ++ (Eg ++ L))))) → St (fun _ => False) w0 w' (.row gm (MsL.upd k gad gc gs a nad nc ns).cells :: ((En ++ (.row g9 a.cells :: (Ka ++ Eg))) ++ L)) := (fun w' h => by simpa only [List.cons_append, List.append_assoc, List.nil_append] using h)
          have e1 : updR xs = match netsR xn with
              | none => .inr (3, 10, ⟨#[]⟩)
              | some ns => if 200 < gs.length ∨ 200 < ns.length then .inr (6, 1, ⟨#[]⟩) else if missI dd.has ≠ 0 ∧ 0 < ns.length then .inr (3, 3, oneS (missI dd.has)) else .inl (gs, { dd with others := sortO dd.others }, ns) := (by
            unfold updR; rw [ec1]; dsimp only; rw [ec2]; dsimp only; rw [hok3 rfl]; dsimp only; rw [ed])
          have hah : dd.has = a.has := (by have := congrArg AtD.has ea; exact this.symm)
          rw [← ea, hah] at e1
          have hmi := missI_b a.has
          have hgl := netsR_len _ (Nat.le_refl _) (hok3 rfl)
          refine WL.val (v_move rfl rfl) (.none rfl) rfl rfl ?_
          skip
          cases ok5
          · -- 62F
            refine WL.val (v_not rfl rfl rfl) (.none rfl) rfl rfl ?_
            refine WL.nil ?_
            refine WE.then_n ?_
            refine WC.cond_t rfl ?_
            refine WC.seq ?_
            refine WC.region ?_
            refine WL.val (v_build rfl rfl zero_25 plc_25 rfl) (.none rfl) rfl rfl ?_
            refine WL.storeW rfl rfl rfl rfl many_25 rfl rfl (.none rfl) rfl ?_
            refine WL.nil ?_
            refine WE.then_n ?_
            refine WC.ret ?_
            refine WE.then_ret ?_
            refine WE.ret1 (P := Tryd.prog) (.inl rfl) Tryd.results42 (resRow rfl many_25 rfl) ?_
            rw [hbad5 rfl] at e1
            exact fun w' h => ⟨false, 3, 10, _, gad, gc, gs, a, nad, nc, ns, _, rfl, hfin _ (h.sub (.cons _ (.refl _))), hAll, fun _ => ⟨by decide, e1⟩, fun e => by cases e⟩
          · -- 62T
            refine WL.val (v_not rfl rfl rfl) (.none rfl) rfl rfl ?_
            refine WL.nil ?_
            refine WE.then_n ?_
            refine WC.cond_f rfl ?_
            refine WC.skip ?_
            refine WE.then_n ?_
            refine WC.seq ?_
            refine WC.seq ?_
            refine WC.region ?_
            have hnl := netsR_len _ (Nat.le_refl _) (hok5 rfl)
            rw [hok5 rfl] at e1
            dsimp only at e1
            refine WL.val (v_move rfl rfl) (.none rfl) rfl rfl ?_
            refine WL.val (v_nilCheck rfl rfl) (.none rfl) rfl rfl ?_
            refine WL.val (v_fieldAddr0 rfl rfl fld_43_5) (.none rfl) rfl rfl ?_
            refine WL.val (v_load1 rfl rfl one_36 (cellAt (v := .slice gad gs.length gc) rfl)) (.none rfl) rfl rfl ?_
            refine WL.val (v_len_slice rfl rfl Tryd.underlying36) (.none rfl) rfl rfl ?_
            refine WL.test (v_gtr rfl rfl rfl) (.none rfl) rfl rfl (fun h70 => ?_) (fun h70 => ?_)
            · -- 70T
              refine WL.val (v_move rfl rfl) (.none rfl) rfl rfl ?_
              refine WL.skip rfl rfl rfl rfl rfl rfl ?_
              refine WL.skip rfl rfl rfl rfl rfl rfl ?_
              refine WL.skip rfl rfl rfl rfl rfl rfl ?_
              refine WL.skip rfl rfl rfl rfl rfl rfl ?_
              refine WL.skip rfl rfl rfl rfl rfl rfl ?_
              refine WL.skip rfl rfl rfl rfl rfl rfl ?_
              refine WL.val (v_pick_t rfl rfl rfl) (.none rfl) rfl rfl ?_
              refine WL.nil ?_
              refine WE.then_n ?_
              refine WC.cond_t rfl ?_
              refine WC.seq ?_
              refine WC.region ?_
              refine WL.val (v_build rfl rfl zero_25 plc_25 rfl) (.none rfl) rfl rfl ?_
              refine WL.storeW rfl rfl rfl rfl many_25 rfl rfl (.none rfl) rfl ?_
              refine WL.nil ?_
              refine WE.then_n ?_
              refine WC.ret ?_
              refine WE.then_ret ?_
              refine WE.ret1 (P := Tryd.prog) (.inl rfl) Tryd.results42 (resRow rfl many_25 rfl) ?_
              rw [if_pos (.inl (by omega))] at e1
              exact fun w' h => ⟨false, 6, 1, _, gad, gc, gs, a, nad, nc, ns, _, rfl, hfin _ (h.sub (.cons _ (.refl _))), hAll, fun _ => ⟨by decide, e1⟩, fun e => by cases e⟩
            · -- 70F
              refine WL.val (v_move rfl rfl) (.none rfl) rfl rfl ?_
              refine WL.val (v_move rfl rfl) (.some rfl rfl rfl) rfl rfl ?_
              refine WL.val (v_nilCheck rfl rfl) (.some rfl rfl rfl) rfl rfl ?_
              refine WL.val (v_fieldAddr0 rfl rfl fld_43_7) (.some rfl rfl rfl) rfl rfl ?_
              refine WL.val (v_load1 rfl rfl one_36 (cellAt (v := .slice nad ns.length nc) rfl)) (.some rfl rfl rfl) rfl rfl ?_
              refine WL.val (v_len_slice rfl rfl Tryd.underlying36) (.some rfl rfl rfl) rfl rfl ?_
              refine WL.test (v_gtr rfl rfl rfl) (.some rfl rfl rfl) rfl rfl (fun h77 => ?_) (fun h77 => ?_)
              · -- 77T
                refine WL.val (v_pick_f rfl rfl rfl) (.none rfl) rfl rfl ?_
                refine WL.nil ?_
                refine WE.then_n ?_
                refine WC.cond_t rfl ?_
                refine WC.seq ?_
                refine WC.region ?_
                refine WL.val (v_build rfl rfl zero_25 plc_25 rfl) (.none rfl) rfl rfl ?_
                refine WL.storeW rfl rfl rfl rfl many_25 rfl rfl (.none rfl) rfl ?_
                refine WL.nil ?_
                refine WE.then_n ?_
                refine WC.ret ?_
                refine WE.then_ret ?_
                refine WE.ret1 (P := Tryd.prog) (.inl rfl) Tryd.results42 (resRow rfl many_25 rfl) ?_
                rw [if_pos (.inr (by omega))] at e1
                exact fun w' h => ⟨false, 6, 1, _, gad, gc, gs, a, nad, nc, ns, _, rfl, hfin _ (h.sub (.cons _ (.refl _))), hAll, fun _ => ⟨by decide, e1⟩, fun e => by cases e⟩
              · -- 77F
                refine WL.val (v_pick_f rfl rfl rfl) (.none rfl) rfl rfl ?_
                refine WL.nil ?_
                refine WE.then_n ?_
                refine WC.cond_f rfl ?_
                refine WC.skip ?_
                refine WE.then_n ?_
                refine WC.seq ?_
                refine WC.seq ?_
                refine WC.region ?_
                rw [if_neg (by omega)] at e1
                refine WL.val (v_loadN rfl rfl many_41 rfl allAt) (.none rfl) rfl rfl ?_
                refine WL.call rfl rfl ck_63 (.none rfl) rfl rfl ?_
                intro w hS
                refine Calls.then (Missing_c w a) hS ?_
                refine WL.val (v_assign rfl rfl) (.none rfl) rfl rfl ?_
                refine WL.nil ?_
                refine WE.then_n ?_
                refine WC.seq ?_
                refine WC.region ?_
                refine WL.val (v_move rfl rfl) (.none rfl) rfl rfl ?_
                refine WL.test (v_neq rfl rfl rfl) (.none rfl) rfl rfl (fun h83 => ?_) (fun h83 => ?_)
                · -- 83T
                  refine WL.val (v_move rfl rfl) (.none rfl) rfl rfl ?_
                  refine WL.val (v_move rfl rfl) (.some rfl rfl rfl) rfl rfl ?_
                  refine WL.val (v_nilCheck rfl rfl) (.some rfl rfl rfl) rfl rfl ?_
                  refine WL.val (v_fieldAddr0 rfl rfl fld_43_7) (.some rfl rfl rfl) rfl rfl ?_
                  refine WL.val (v_load1 rfl rfl one_36 (cellAt (v := .slice nad ns.length nc) rfl)) (.some rfl rfl rfl) rfl rfl ?_
                  refine WL.val (v_len_slice rfl rfl Tryd.underlying36) (.some rfl rfl rfl) rfl rfl ?_
                  refine WL.test (v_gtr rfl rfl rfl) (.some rfl rfl rfl) rfl rfl (fun h90 => ?_) (fun h90 => ?_)
                  · -- 90T
                    refine WL.val (v_pick_t rfl rfl rfl) (.none rfl) rfl rfl ?_
                    refine WL.nil ?_
                    refine WE.then_n ?_
                    refine WC.cond_t rfl ?_
                    refine WC.seq ?_
                    refine WC.region ?_
                    refine WL.val (v_move rfl rfl) (.none rfl) rfl rfl ?_
                    refine WL.val (v_conv rfl rfl Tryd.underlying5 Tryd.underlying3 (by first | exact w_u8 (by omega) (by omega) | exact w_u8m _)) (.none rfl) rfl rfl ?_
                    refine WL.buildSlice rfl rfl Tryd.underlying22 sz_5 zero_5 rfl (by decide) rfl (.none rfl) rfl rfl ?_
                    intro g94 hg94
                    refine WL.val (v_convBS ((fun _ => missI a.has)) rfl rfl Tryd.underlying22 Tryd.underlying5 Tryd.underlying9 (fun w' hS' _ => ⟨g94, 0, rfl, fun i hi => by
                    obtain rfl : i = 0 := (by omega)
                    exact hS'.cell (g := g94) rfl⟩)) (.none rfl) rfl rfl ?_
                    refine WL.val (v_build rfl rfl zero_25 plc_25 rfl) (.none rfl) rfl rfl ?_
                    refine WL.storeW rfl rfl rfl rfl many_25 rfl rfl (.none rfl) rfl ?_
                    refine WL.nil ?_
                    refine WE.then_n ?_
                    refine WC.ret ?_
                    refine WE.then_ret ?_
                    refine WE.ret1 (P := Tryd.prog) (.inl rfl) Tryd.results42 (resRow rfl many_25 rfl) ?_
                    rw [if_pos ⟨h83, by omega⟩] at e1
                    exact fun w' h => ⟨false, 3, 3, _, gad, gc, gs, a, nad, nc, ns, _, rfl, hfin _ (h.sub (.cons _ (.cons _ (.refl _)))), hAll, fun _ => ⟨by decide, e1⟩, fun e => by cases e⟩
                  · -- 90F
                    refine WL.val (v_pick_t rfl rfl rfl) (.none rfl) rfl rfl ?_
                    refine WL.nil ?_
                    refine WE.then_n ?_
                    refine WC.cond_f rfl ?_
                    refine WC.skip ?_
                    refine WE.then_n ?_
                    refine WC.seq ?_
                    refine WC.region ?_
                    refine WL.val (v_build rfl rfl zero_25 plc_25 rfl) (.none rfl) rfl rfl ?_
                    refine WL.storeW rfl rfl rfl rfl many_25 rfl rfl (.none rfl) rfl ?_
                    refine WL.nil ?_
                    refine WE.then_n ?_
                    refine WC.ret ?_
                    refine WE.ret1 (P := Tryd.prog) (.inl rfl) Tryd.results42 (resRow rfl many_25 rfl) ?_
                    rw [if_neg (fun h => h90 (by omega))] at e1
                    exact fun w' h => ⟨true, 0, 0, _, gad, gc, gs, a, nad, nc, ns, _, rfl, hfin _ (h.sub (.cons _ (.refl _))), hAll, fun e => (by cases e), fun _ => ⟨rfl, rfl, rfl, e1⟩⟩
                · -- 83F
                  refine WL.val (v_move rfl rfl) (.none rfl) rfl rfl ?_
                  refine WL.skip rfl rfl rfl rfl rfl rfl ?_
                  refine WL.skip rfl rfl rfl rfl rfl rfl ?_
                  refine WL.skip rfl rfl rfl rfl rfl rfl ?_
                  refine WL.skip rfl rfl rfl rfl rfl rfl ?_
                  refine WL.skip rfl rfl rfl rfl rfl rfl ?_
                  refine WL.skip rfl rfl rfl rfl rfl rfl ?_
                  refine WL.val (v_pick_f rfl rfl rfl) (.none rfl) rfl rfl ?_
                  refine WL.nil ?_
                  refine WE.then_n ?_
                  refine WC.cond_f rfl ?_
                  refine WC.skip ?_
                  refine WE.then_n ?_
                  refine WC.seq ?_
                  refine WC.region ?_
                  refine WL.val (v_build rfl rfl zero_25 plc_25 rfl) (.none rfl) rfl rfl ?_
                  refine WL.storeW rfl rfl rfl rfl many_25 rfl rfl (.none rfl) rfl ?_
                  refine WL.nil ?_
                  refine WE.then_n ?_
                  refine WC.ret ?_
                  refine WE.ret1 (P := Tryd.prog) (.inl rfl) Tryd.results42 (resRow rfl many_25 rfl) ?_
                  rw [if_neg (fun h => h.1 (by omega))] at e1
                  exact fun w' h => ⟨true, 0, 0, _, gad, gc, gs, a, nad, nc, ns, _, rfl, hfin _ (h.sub (.cons _ (.refl _))), hAll, fun e => (by cases e), fun _ => ⟨rfl, rfl, rfl, e1⟩⟩
end Go.Proofs.YtpjbofodllhjbaaDoor
/- bgp.Decode, exactly. -/
namespace Go.Proofs.YtpjbofodllhjbaaDoor
open Go.RowKit

/-- A message as plain numbers and lists. -/
structure MsD where
  kind : Int
  asn : Int
  hold : Int
  id : Int
  caps : List (Int × List Int)
  gone : List PfL
  atr : AtD
  nets : List PfL
  fc : Int
  fs : Int
  fd : ByteArray
def MsL.d (m : MsL) : MsD := ⟨m.kind, m.asn, m.hold, m.id, m.caps.map capD, m.gone, m.atr.d, m.nets, m.fc, m.fs, m.fd⟩
def strD (xs : List Int) : ByteArray := str (fun i => fOf xs (2 + i)) (xs.length - 2)
/-- A message of a kind and what it has behind its head, or what is wrong. -/
def bodyM (k : Int) (xs : List Int) : MsD ⊕ (Int × Int × ByteArray) :=
  if k = 1 then match openR xs with
    | .inl cs => .inl { (MsL.zero k).d with asn := asnB xs, hold := holdB xs, id := idB xs, caps := cs }
    | .inr (s, d) => .inr (2, s, d)
  else if k = 2 then match updR xs with
    | .inl (g, a, n) => .inl { (MsL.zero k).d with gone := g, atr := a, nets := n }
    | .inr f => .inr f
  else if k = 3 then .inl { (MsL.zero k).d with fc := fOf xs 0, fs := fOf xs 1, fd := strD xs }
  else .inl (MsL.zero k).d
/-- The message of bytes, or what is wrong. -/
def decM (xs : List Int) : MsD ⊕ (Int × Int × ByteArray) :=
  if (sizeR xs.length (fOf xs)).2.1 ≠ 0 then .inr (sizeR xs.length (fOf xs)).2
  else if (sizeR xs.length (fOf xs)).1 ≠ xs.length then .inr (1, 2, str (fun i => fOf xs (16 + i)) 2)
  else bodyM (fOf xs 18) (xs.drop 19)
theorem sizeR_cases (n : Nat) (f : Nat → Int) : (∃ C S d, sizeR n f = (0, C, S, d) ∧ C ≠ 0) ∨ (sizeR n f = (lenI f, 0, 0, ⟨#[]⟩) ∧ 19 ≤ n ∧ mark255 f = true ∧ 19 ≤ lenI f ∧ lenI f ≤ 4096 ∧ 1 ≤ f 18 ∧ f 18 ≤ 4 ∧ leastI (f 18) ≤ lenI f ∧ (f 18 = 4 → lenI f = 19)) := by
  by_cases h1 : n < 19
  · left; exact ⟨1, 2, ⟨#[]⟩, by unfold sizeR; rw [if_pos h1], by decide⟩
  by_cases h2 : mark255 f = true
  · rw [sizeR_on h1 h2]
    split
    · left; exact ⟨1, 2, _, rfl, by decide⟩
    split
    · left; exact ⟨1, 3, _, rfl, by decide⟩
    split
    · left; exact ⟨1, 2, _, rfl, by decide⟩
    · rename_i h3 h4 h5
      right
      have := Classical.byContradiction fun h => h4 (leastI_zero.2 h)
      refine ⟨rfl, by omega, h2, by omega, by omega, by omega, by omega, by omega, fun e => by omega⟩
  · left; exact ⟨1, 1, ⟨#[]⟩, by unfold sizeR; rw [if_neg h1]; simp [h2], by decide⟩
def DecP (w0 w' : World) (xs : List Int) (e : Ending) : Prop :=
  match decM xs with
  | .inr (c, s, d) => e = .returned (.tuple #[.agg (MsL.zero 0).cells.toArray, .agg (fltL c s d).toArray]) ∧ Frm (fun _ => False) w0 w'
  | .inl md => ∃ m K, e = .returned (.tuple #[.agg m.cells.toArray, .agg (fltL 0 0 ⟨#[]⟩).toArray]) ∧ m.d = md ∧ MsAll K m ∧ St (fun _ => False) w0 w' K
structure DecT where
  ok : Bool
  c : Int
  s : Int
  d : ByteArray
  m : MsL
  K : List Ent
set_option maxHeartbeats 4000000 in
theorem DecOk_c (w0 : World) (b o c : Nat) (xs : List Int) (hG : GF w0) (hZ : GZ w0) (hW : Win w0 b o c xs) (hn : xs.length ≤ 90000) (hs : sizeR xs.length (fOf xs) = ((xs.length : Int), 0, 0, ⟨#[]⟩)) (h19 : 19 ≤ xs.length) (h18 : 1 ≤ fOf xs 18 ∧ fOf xs 18 ≤ 4) (hle2 : leastI (fOf xs 18) ≤ xs.length) :
    Calls Tryd.prog 17 #[.slice (some ⟨b, o, none⟩) xs.length c] w0 fun e w' => DecP w0 w' xs e := by
  have hle := hW.le
  have e00 : decM xs = bodyM (fOf xs 18) (xs.drop 19) := by unfold decM; rw [hs]; dsimp only; rw [if_neg (by simp), if_neg (by simp)]
  have hWd := hW.drop 19
  have hdl : (xs.drop 19).length = xs.length - 19 := List.length_drop ..
  have hlst : leastI (fOf xs 18) = if fOf xs 18 = 1 then 29 else if fOf xs 18 = 2 then 23 else if fOf xs 18 = 3 then 21 else 19 := by unfold leastI; repeat' split; all_goals first | rfl | omega
  refine enter Tryd.func17 rfl Tryd.ntmps17 rfl (St.start (fun _ => False) w0) ?_
  refine WC.seq ?_
  refine WC.region ?_
  refine WL.alloc rfl zero_43 (.none rfl) rfl rfl ?_
  intro g2 hg2
  refine WL.alloc rfl zero_25 (.none rfl) rfl rfl ?_
  intro g3 hg3
  refine WL.nil ?_
  refine WE.then_n ?_
  refine WC.seq ?_
  refine WC.region ?_
  refine WL.val (v_move rfl rfl) (.none rfl) rfl rfl ?_
  refine WL.call rfl rfl ck_14 (.none rfl) rfl rfl ?_
  intro w hS
  refine Calls.then (by rw [show (Ending.returned (.tuple #[.int .i64 xs.length, .agg (fltL 0 0 ⟨#[]⟩).toArray])) = .returned (sizeV (sizeR xs.length (fOf xs))) by rw [hs]; rfl]; exact Size_c w (some ⟨b, o, none⟩) xs.length c (fOf xs) (fOf_byt hW.bys) (fun _ => ⟨b, o, rfl, rd_u8s (hW.st hS).at_⟩) (by omega) hle) hS ?_
  refine WL.val (v_move rfl rfl) (.none rfl) rfl rfl ?_
  refine WL.val (v_extract rfl rfl rfl) (.none rfl) rfl rfl ?_
  refine WL.val (v_extract rfl rfl rfl) (.none rfl) rfl rfl ?_
  refine WL.alloc rfl zero_25 (.none rfl) rfl rfl ?_
  intro g5 hg5
  refine WL.val (v_assign rfl rfl) (.none rfl) rfl rfl ?_
  refine WL.storeW rfl rfl rfl rfl many_25 rfl rfl (.none rfl) rfl ?_
  refine WL.nil ?_
  refine WE.then_n ?_
  refine WC.seq ?_
  refine WC.seq ?_
  refine WC.region ?_
  refine WL.val (v_loadN rfl rfl many_25 rfl allAt) (.none rfl) rfl rfl ?_
  refine WL.val (v_build rfl rfl zero_25 plc_25 rfl) (.none rfl) rfl rfl ?_
  refine WL.val (v_neq_aggF rfl rfl rfl eqk_25 eqg_25 rfl rfl (by rfl)) (.none rfl) rfl rfl ?_
  refine WL.nil ?_
  refine WE.then_n ?_
  refine WC.cond_f rfl ?_
  refine WC.skip ?_
  refine WE.then_n ?_
  refine WC.seq ?_
  refine WC.seq ?_
  refine WC.region ?_
  refine WL.val (v_move rfl rfl) (.none rfl) rfl rfl ?_
  refine WL.val (v_move rfl rfl) (.none rfl) rfl rfl ?_
  refine WL.val (v_len_slice rfl rfl Tryd.underlying22) (.none rfl) rfl rfl ?_
  refine WL.val ((v_neq rfl rfl rfl).f (by omega)) (.none rfl) rfl rfl ?_
  refine WL.nil ?_
  refine WE.then_n ?_
  refine WC.cond_f rfl ?_
  refine WC.skip ?_
  refine WE.then_n ?_
  refine WC.seq ?_
  refine WC.region ?_
  refine WL.val (v_move rfl rfl) (.none rfl) rfl rfl ?_
  refine WL.val (v_indexAddr (lo := 18) rfl rfl rfl Tryd.underlying22 sz_5 rfl (by omega)) (.none rfl) rfl rfl ?_
  refine WL.val (v_load1 rfl rfl one_5 (cellOld (fun h => h) (hW.get (fOf_get (by omega))))) (.none rfl) rfl rfl ?_
  refine WL.val (v_conv rfl rfl Tryd.underlying3 Tryd.underlying5 (w_i64 (by omega) (by omega))) (.none rfl) rfl rfl ?_
  refine WL.val (v_build rfl rfl zero_43 plc_43 rfl) (.none rfl) rfl rfl ?_
  refine WL.alloc rfl zero_43 (.none rfl) rfl rfl ?_
  intro g6 hg6
  refine WL.storeW rfl rfl rfl rfl many_43 rfl rfl (.none rfl) rfl ?_
  refine WL.as (L' := .row g6 (MsL.zero (fOf xs 18)).cells :: .row g5 (fltL 0 0 ⟨#[]⟩) :: .row g3 (fltL 0 0 ⟨#[]⟩) :: [.row g2 (MsL.zero 0).cells]) rfl ?_
  refine WL.nil ?_
  refine WE.then_n ?_
  refine WC.seq ?_
  refine WC.region ?_
  refine WL.val (v_move rfl rfl) (.none rfl) rfl rfl ?_
  refine WL.val ((v_slice_lo (lo := 19) rfl rfl rfl Tryd.underlying22 sz_5 rfl (by omega))) (.none rfl) rfl rfl ?_
  rw [show xs.length - 19 = (xs.drop 19).length by rw [List.length_drop]]
  refine WL.val (v_assign rfl rfl) (.none rfl) rfl rfl ?_
  refine WL.nil ?_
  refine WE.then_n ?_
  refine WC.cut (fun y : DecT => [(2, .pointer (some ⟨g2, 0, none⟩)), (3, .pointer (some ⟨g3, 0, none⟩)), (5, .pointer (some ⟨g5, 0, none⟩)), (6, .pointer (some ⟨g6, 0, none⟩))]) (fun y => .row g6 y.m.cells :: (y.K ++ (.row g5 (fltL y.c y.s y.d) :: .row g3 (fltL 0 0 ⟨#[]⟩) :: [.row g2 (MsL.zero 0).cells]))) (fun y => MsAll y.K y.m ∧ (y.ok = false → y.c ≠ 0 ∧ bodyM (fOf xs 18) (xs.drop 19) = .inr (y.c, y.s, y.d)) ∧ (y.ok = true → y.c = 0 ∧ y.s = 0 ∧ y.d = ⟨#[]⟩ ∧ bodyM (fOf xs 18) (xs.drop 19) = .inl y.m.d)) ?_ ?_
  · -- cutb0
    refine WC.seq ?_
    refine WC.region ?_
    refine WL.val (v_fieldAddr0 rfl rfl fld_43_0) (.none rfl) rfl rfl ?_
    refine WL.val (v_load1 rfl rfl one_3 (cellAt (v := .int .i64 (fOf xs 18)) rfl)) (.none rfl) rfl rfl ?_
    refine WL.nil ?_
    refine WE.then_n ?_
    refine WC.block ?_
    refine WC.seq ?_
    refine WC.region ?_
    refine WL.test (v_eql rfl rfl rfl) (.none rfl) rfl rfl (fun h35 => ?_) (fun h35 => ?_)
    · -- 35T
      refine WL.val (v_assign rfl rfl) (.none rfl) rfl rfl ?_
      refine WL.nil ?_
      refine WE.then_n ?_
      refine WC.cond_t rfl ?_
      refine WC.region ?_
      refine WL.val (v_move rfl rfl) (.none rfl) rfl rfl ?_
      refine WL.call rfl rfl ck_41 (.none rfl) rfl rfl ?_
      intro w1 hS
      refine (readOpen_c w0 w1 g6 b (sAddr o 19 c 1) (c - 19) (fOf xs 18) (xs.drop 19) (.row g5 (fltL 0 0 ⟨#[]⟩) :: .row g3 (fltL 0 0 ⟨#[]⟩) :: [.row g2 (MsL.zero 0).cells]) hWd (by rw [hlst, if_pos h35] at hle2; omega) (by omega) hS).mono ?_
      rintro e w' ⟨ok, s, d, ad, kc, cs, E, K, rfl, hS', hV, hO, hF, hT⟩
      refine ⟨_, _, rfl, hS', ?_⟩
      refine WL.storeW rfl rfl rfl rfl many_25 rfl rfl (.none rfl) rfl ?_
      refine WL.as (L' := .row g6 (MsL.opened (fOf xs 18) (xs.drop 19) ad kc cs).cells :: (E ++ (K ++ (.row g5 (fltL (if ok then 0 else 2) s d) :: .row g3 (fltL 0 0 ⟨#[]⟩) :: [.row g2 (MsL.zero 0).cells])))) rfl ?_
      refine WL.nil ?_
      refine WE.block_n ?_
      exact WE.mid ⟨ok, if ok then 0 else 2, s, d, MsL.opened (fOf xs 18) (xs.drop 19) ad kc cs, E ++ K⟩ ⟨⟨⟨E, hV, fun e he => List.mem_append_left _ he⟩, fun c hc => (by
      obtain ⟨E', r1, r2⟩ := hO c hc
      exact ⟨E', r1, fun e he => List.mem_append_right _ (r2 e he)⟩), ⟨[], Vec.nil 2, fun _ h => by cases h⟩, ⟨[], Vec.nil 2, fun _ h => by cases h⟩, AtAll.zero.mono fun _ h => by cases h⟩, fun e => (by
      cases e
      exact ⟨by show (2 : Int) ≠ 0; decide, by unfold bodyM; rw [if_pos h35, hF rfl]; rfl⟩), fun e => by
      cases e
      obtain ⟨rfl, rfl, e1⟩ := hT rfl
      exact ⟨rfl, rfl, rfl, by unfold bodyM; rw [if_pos h35, e1]; rfl⟩⟩ (.cons rfl (.cons rfl (.cons rfl (.cons rfl .nil)))) (by dsimp only; rw [List.append_assoc]; exact .refl _)
    · -- 35F
      refine WL.val (v_assign rfl rfl) (.none rfl) rfl rfl ?_
      refine WL.nil ?_
      refine WE.then_n ?_
      refine WC.cond_f rfl ?_
      refine WC.seq ?_
      refine WC.region ?_
      refine WL.test (v_eql rfl rfl rfl) (.none rfl) rfl rfl (fun h39 => ?_) (fun h39 => ?_)
      · -- 39T
        refine WL.val (v_assign rfl rfl) (.none rfl) rfl rfl ?_
        refine WL.nil ?_
        refine WE.then_n ?_
        refine WC.cond_t rfl ?_
        refine WC.region ?_
        refine WL.val (v_move rfl rfl) (.none rfl) rfl rfl ?_
        refine WL.call rfl rfl ck_42 (.none rfl) rfl rfl ?_
        intro w1 hS
        refine (readUpdate_c w0 w1 g6 b (sAddr o 19 c 1) (c - 19) (fOf xs 18) (xs.drop 19) (.row g5 (fltL 0 0 ⟨#[]⟩) :: .row g3 (fltL 0 0 ⟨#[]⟩) :: [.row g2 (MsL.zero 0).cells]) hG hZ hWd (by omega) hS).mono ?_
        rintro e w' ⟨ok, fc, s, d, gad, gc, gs, a, nad, nc, ns, K, rfl, hS', hM, hF, hT⟩
        refine ⟨_, _, rfl, hS', ?_⟩
        refine WL.storeW rfl rfl rfl rfl many_25 rfl rfl (.none rfl) rfl ?_
        refine WL.as (L' := .row g6 (MsL.upd (fOf xs 18) gad gc gs a nad nc ns).cells :: (K ++ (.row g5 (fltL fc s d) :: .row g3 (fltL 0 0 ⟨#[]⟩) :: [.row g2 (MsL.zero 0).cells]))) rfl ?_
        refine WL.nil ?_
        refine WE.block_n ?_
        exact WE.mid ⟨ok, fc, s, d, MsL.upd (fOf xs 18) gad gc gs a nad nc ns, K⟩ ⟨hM, fun e => (by
        have := hF e
        exact ⟨this.1, by unfold bodyM; rw [if_neg h35, if_pos h39, this.2]⟩), fun e => by
        obtain ⟨e1, e2, e3, e4⟩ := hT e
        exact ⟨e1, e2, e3, by unfold bodyM; rw [if_neg h35, if_pos h39, e4]; rfl⟩⟩ (.cons rfl (.cons rfl (.cons rfl (.cons rfl .nil)))) (.refl _)
      · -- 39F
        refine WL.val (v_assign rfl rfl) (.none rfl) rfl rfl ?_
        refine WL.nil ?_
        refine WE.then_n ?_
        refine WC.cond_f rfl ?_
        refine WC.seq ?_
        refine WC.region ?_
        refine WL.test (v_eql rfl rfl rfl) (.none rfl) rfl rfl (fun h43 => ?_) (fun h43 => ?_)
        · -- 43T
          refine WL.val (v_assign rfl rfl) (.none rfl) rfl rfl ?_
          refine WL.nil ?_
          refine WE.then_n ?_
          refine WC.cond_t rfl ?_
          refine WC.orders mixed ?_
          refine WR.first (g := 8) [0, 1, 4, 5, 8, 9] (by kernel_rfl) (by kernel_rfl) ?_
          have h2l : 2 ≤ (xs.drop 19).length := (by rw [hlst, if_neg h35, if_neg h39, if_pos h43] at hle2; omega)
          have b0 := fOf_b hWd.bys 0
          have b1 := fOf_b hWd.bys 1
          refine WP.val (v_move rfl rfl) (.none rfl) rfl rfl ?_
          refine WP.val (v_indexAddr (lo := 0) rfl rfl rfl Tryd.underlying22 sz_5 rfl (by omega)) (.none rfl) rfl rfl ?_
          refine WP.val (v_move rfl rfl) (.none rfl) rfl rfl ?_
          refine WP.val (v_indexAddr (lo := 1) rfl rfl rfl Tryd.underlying22 sz_5 rfl (by omega)) (.none rfl) rfl rfl ?_
          refine WP.val (v_move rfl rfl) (.none rfl) rfl rfl ?_
          refine WP.val ((v_slice_lo (lo := 2) rfl rfl rfl Tryd.underlying22 sz_5 rfl (by omega))) (.none rfl) rfl rfl ?_
          refine WP.nil ?_
          refine WR.read (g := 1) [2, 3, 6, 7, 10, 11, 12] (by kernel_rfl) (by kernel_rfl) (by kernel_rfl) (by kernel_rfl) rfl ?_
          refine WQ.val (v_load1 rfl rfl one_5 (cellOld (fun h => h) (hWd.get (fOf_get (by omega))))) (.none rfl) rfl rfl ?_
          refine WQ.val (v_conv rfl rfl Tryd.underlying3 Tryd.underlying5 (w_i64 (by omega) (by omega))) (.none rfl) rfl rfl ?_
          refine WQ.val (v_load1 rfl rfl one_5 (cellOld (fun h => h) (hWd.get (fOf_get (by omega))))) (.none rfl) rfl rfl ?_
          refine WQ.val (v_conv rfl rfl Tryd.underlying3 Tryd.underlying5 (w_i64 (by omega) (by omega))) (.none rfl) rfl rfl ?_
          refine WQ.val (v_convBS ((fun i => fOf (xs.drop 19) (2 + i))) rfl rfl Tryd.underlying22 Tryd.underlying5 Tryd.underlying9 (fun w' hS' _ => ⟨b, sAddr (sAddr o 19 c 1) 2 (c - 19) 1, rfl, fun i hi => by
          have := ((hWd.st hS').drop 2).get (i := i) (x := fOf (xs.drop 19) (2 + i)) (by rw [List.getElem?_drop]; exact fOf_get (by omega))
          rwa [Nat.mul_one] at this⟩)) (.none rfl) rfl rfl ?_
          refine WQ.val (v_build rfl rfl zero_25 plc_25 rfl) (.none rfl) rfl rfl ?_
          refine WQ.val (v_fieldAddr0 rfl rfl fld_43_8) (.none rfl) rfl rfl ?_
          refine WQ.nilR ?_
          refine WR.ones (g := 0) [13] (by kernel_rfl) ?_
          refine WL.storeN rfl rfl rfl rfl many_25 rfl (by first | exact Nat.le_of_ble_eq_true rfl | simp) (.none rfl) rfl ?_
          refine WL.as (L' := .row g6 (MsL.cells { MsL.zero (fOf xs 18) with fc := fOf (xs.drop 19) 0, fs := fOf (xs.drop 19) 1, fd := strD (xs.drop 19) }) :: .row g5 (fltL 0 0 ⟨#[]⟩) :: .row g3 (fltL 0 0 ⟨#[]⟩) :: [.row g2 (MsL.zero 0).cells]) rfl ?_
          refine WL.nilR ?_
          refine WR.done (by kernel_rfl) ?_
          refine WE.block_n ?_
          exact WE.mid ⟨true, 0, 0, ⟨#[]⟩, { MsL.zero (fOf xs 18) with fc := fOf (xs.drop 19) 0, fs := fOf (xs.drop 19) 1, fd := strD (xs.drop 19) }, []⟩ ⟨⟨⟨[], Vec.nil 2, fun _ h => by cases h⟩, (fun _ h => by cases h), ⟨[], Vec.nil 2, fun _ h => by cases h⟩, ⟨[], Vec.nil 2, fun _ h => by cases h⟩, AtAll.zero⟩, fun e => (by cases e), fun _ => ⟨rfl, rfl, rfl, by unfold bodyM; rw [if_neg h35, if_neg h39, if_pos h43]; rfl⟩⟩ (.cons rfl (.cons rfl (.cons rfl (.cons rfl .nil)))) (.refl _)
        · -- 43F
          refine WL.val (v_assign rfl rfl) (.none rfl) rfl rfl ?_
          refine WL.nil ?_
          refine WE.then_n ?_
          refine WC.cond_f rfl ?_
          refine WC.skip ?_
          refine WE.block_n ?_
          exact WE.mid ⟨true, 0, 0, ⟨#[]⟩, MsL.zero (fOf xs 18), []⟩ ⟨MsAll.zero _, fun e => (by cases e), fun _ => ⟨rfl, rfl, rfl, by unfold bodyM; rw [if_neg h35, if_neg h39, if_neg h43]⟩⟩ (.cons rfl (.cons rfl (.cons rfl (.cons rfl .nil)))) (.refl _)
  · -- behind cutb0
    rintro ⟨ok, fc, s, d, m, K⟩ ⟨hM, hF, hT⟩
    dsimp only at hM hF hT
    dsimp only
    refine WC.seq ?_
    refine WC.seq ?_
    refine WC.region ?_
    refine WL.val (v_loadN rfl rfl many_25 rfl allAt) (.none rfl) rfl rfl ?_
    skip
    cases ok
    · -- 57F
      refine WL.val (v_build rfl rfl zero_25 plc_25 rfl) (.none rfl) rfl rfl ?_
      refine WL.val (v_neq_aggT rfl rfl rfl eqk_25 eqg_25 rfl rfl (by exact fun h => by injection h with h1 _; injection h1 with _ h1; exact (hF rfl).1 h1)) (.none rfl) rfl rfl ?_
      refine WL.nil ?_
      refine WE.then_n ?_
      refine WC.cond_t rfl ?_
      refine WC.seq ?_
      refine WC.orders mixed ?_
      refine WR.first (g := 3) [0] (by kernel_rfl) (by kernel_rfl) ?_
      refine WP.val (v_build rfl rfl zero_43 plc_43 rfl) (.none rfl) rfl rfl ?_
      refine WP.nil ?_
      refine WR.each (g := 2) [1, 2] (by kernel_rfl) (by decide) ?_
      refine ⟨?_, ?_⟩
      · -- next 1
        refine WL.val (v_loadN rfl rfl many_25 rfl allAt) (.none rfl) rfl rfl ?_
        refine WL.nilR ?_
        refine WR.ones (g := 0) [2, 3] (by kernel_rfl) ?_
        refine WL.storeW rfl rfl rfl rfl many_43 rfl rfl (.none rfl) rfl ?_
        refine WL.storeW rfl rfl rfl rfl many_25 rfl rfl (.none rfl) rfl ?_
        refine WL.nilR ?_
        refine WR.done (by kernel_rfl) ?_
        refine WE.then_n ?_
        refine WC.ret ?_
        refine WE.then_ret ?_
        refine WE.ret2 (P := Tryd.prog) (.inl rfl) Tryd.results17 (resRow rfl many_43 rfl) (resRow rfl many_25 rfl) ?_
        exact fun w' h => by unfold DecP; rw [e00, (hF rfl).2]; exact ⟨rfl, h.frm⟩
      · -- next 2
        refine WL.storeW rfl rfl rfl rfl many_43 rfl rfl (.none rfl) rfl ?_
        refine WL.nilR ?_
        refine WR.read (g := 1) [1] (by kernel_rfl) (by kernel_rfl) (by kernel_rfl) (by kernel_rfl) rfl ?_
        refine WQ.val (v_loadN rfl rfl many_25 rfl allAt) (.none rfl) rfl rfl ?_
        refine WQ.nilR ?_
        refine WR.ones (g := 0) [3] (by kernel_rfl) ?_
        refine WL.storeW rfl rfl rfl rfl many_25 rfl rfl (.none rfl) rfl ?_
        refine WL.nilR ?_
        refine WR.done (by kernel_rfl) ?_
        refine WE.then_n ?_
        refine WC.ret ?_
        refine WE.then_ret ?_
        refine WE.ret2 (P := Tryd.prog) (.inl rfl) Tryd.results17 (resRow rfl many_43 rfl) (resRow rfl many_25 rfl) ?_
        exact fun w' h => by unfold DecP; rw [e00, (hF rfl).2]; exact ⟨rfl, h.frm⟩
    · -- 57T
      obtain ⟨rfl, rfl, rfl, e1⟩ := hT rfl
      refine WL.val (v_build rfl rfl zero_25 plc_25 rfl) (.none rfl) rfl rfl ?_
      refine WL.val (v_neq_aggF rfl rfl rfl eqk_25 eqg_25 rfl rfl (by rfl)) (.none rfl) rfl rfl ?_
      refine WL.nil ?_
      refine WE.then_n ?_
      refine WC.cond_f rfl ?_
      refine WC.skip ?_
      refine WE.then_n ?_
      refine WC.seq ?_
      refine WC.region ?_
      refine WL.val (v_loadN rfl rfl many_43 rfl allAt) (.none rfl) rfl rfl ?_
      refine WL.val (v_build rfl rfl zero_25 plc_25 rfl) (.none rfl) rfl rfl ?_
      refine WL.storeW rfl rfl rfl rfl many_43 rfl rfl (.none rfl) rfl ?_
      refine WL.storeW rfl rfl rfl rfl many_25 rfl rfl (.none rfl) rfl ?_
      refine WL.nil ?_
      refine WE.then_n ?_
      refine WC.ret ?_
      refine WE.ret2 (P := Tryd.prog) (.inl rfl) Tryd.results17 (resRow rfl many_43 rfl) (resRow rfl many_25 rfl) ?_
      exact fun w' h => by unfold DecP; rw [e00, e1]; exact ⟨m, K, rfl, rfl, hM, (h.sub (List.sublist_cons_self _ _)).sub (List.sublist_append_left _ _)⟩
/-- bgp.Decode, whatever bytes. -/
theorem Decode_c (w0 : World) (b o c : Nat) (xs : List Int) (hG : GF w0) (hZ : GZ w0) (hW : Win w0 b o c xs) (hn : xs.length ≤ 90000) :
    Calls Tryd.prog 17 #[.slice (some ⟨b, o, none⟩) xs.length c] w0 fun e w' => DecP w0 w' xs e := by
  rcases sizeR_cases xs.length (fOf xs) with ⟨C, S, d, e, hC⟩ | ⟨e, h1, h2, h3, h4, h5, h6, h7, h8⟩
  · refine (DecBad_c w0 _ xs.length c (fOf xs) (fOf_byt hW.bys) (fun _ => ⟨b, o, rfl, rd_u8s hW.at_⟩) (by omega) hW.le C S d e hC).mono fun en w' h => ?_
    have e0 : decM xs = .inr (C, S, d) := by unfold decM; rw [e]; exact if_pos hC
    unfold DecP; rw [e0]; exact h
  · by_cases hk : lenI (fOf xs) = xs.length
    · rw [hk] at e
      exact DecOk_c w0 b o c xs hG hZ hW hn e h1 ⟨h5, h6⟩ (by omega)
    · refine (DecLong_c w0 b o xs.length c (fOf xs) (fOf_byt hW.bys) (rd_u8s hW.at_) (by omega) hW.le h1 _ e hk).mono fun en w' h => ?_
      have e0 : decM xs = .inr (1, 2, str (fun i => fOf xs (16 + i)) 2) := by unfold decM; rw [e]; dsimp only; rw [if_neg (by simp), if_pos hk]
      unfold DecP; rw [e0]; exact h
end Go.Proofs.YtpjbofodllhjbaaDoor
/- bgp: routes as they are said; the plain law of BgpNets. -/
namespace Go.Proofs.YtpjbofodllhjbaaDoor
open Go.RowKit

theorem numB4 (a : Int) : numB a 4 = [a / 16777216 % 256, a / 65536 % 256, a / 256 % 256, a % 256] := by
  show [a / 2 ^ 24 % 256, a / 2 ^ 16 % 256, a / 2 ^ 8 % 256, a / 2 ^ 0 % 256] = _
  rw [show (2 : Int) ^ 24 = 16777216 by decide, show (2 : Int) ^ 16 = 65536 by decide, show (2 : Int) ^ 8 = 256 by decide, show (2 : Int) ^ 0 = 1 by decide, Int.ediv_one]
set_option maxHeartbeats 4000000 in
/-- The last byte of a prefix, with junk behind the length. -/
theorem netJ (k : Nat) (h1 : 1 ≤ k) (h2 : k ≤ 32) (a J : Int) (ha : 0 ≤ a ∧ a ≤ 4294967295) (hc : a = cutI a k) (hJ : 0 ≤ J ∧ J < 2 ^ (8 - ((k - 1) % 8 + 1))) :
    fOf (addrB a ((k + 7) / 8)) ((k + 7) / 8 - 1) % 2 ^ (8 - ((k - 1) % 8 + 1)) = 0 ∧ cutI (addrI ((addrB a ((k + 7) / 8)).set ((k + 7) / 8 - 1) (fOf (addrB a ((k + 7) / 8)) ((k + 7) / 8 - 1) + J))) k = a := by
  unfold addrB
  rw [numB4]
  obtain rfl | rfl | rfl | rfl | rfl | rfl | rfl | rfl | rfl | rfl | rfl | rfl | rfl | rfl | rfl | rfl | rfl | rfl | rfl | rfl | rfl | rfl | rfl | rfl | rfl | rfl | rfl | rfl | rfl | rfl | rfl | rfl : k = 1 ∨ k = 2 ∨ k = 3 ∨ k = 4 ∨ k = 5 ∨ k = 6 ∨ k = 7 ∨ k = 8 ∨ k = 9 ∨ k = 10 ∨ k = 11 ∨ k = 12 ∨ k = 13 ∨ k = 14 ∨ k = 15 ∨ k = 16 ∨ k = 17 ∨ k = 18 ∨ k = 19 ∨ k = 20 ∨ k = 21 ∨ k = 22 ∨ k = 23 ∨ k = 24 ∨ k = 25 ∨ k = 26 ∨ k = 27 ∨ k = 28 ∨ k = 29 ∨ k = 30 ∨ k = 31 ∨ k = 32 := by omega
  · have e1 : ∀ x : Int, cutI x ((1 : Nat) : Int) = x - x % 2147483648 := fun _ => rfl
    have hJ2 : 0 ≤ J ∧ J < 128 := hJ
    rw [e1] at hc
    rw [e1]
    show (a / 16777216 % 256) % 128 = 0 ∧ ((a / 16777216 % 256 + J) * 16777216 + 0 * 65536 + 0 * 256 + 0) - ((a / 16777216 % 256 + J) * 16777216 + 0 * 65536 + 0 * 256 + 0) % 2147483648 = a
    omega
  · have e1 : ∀ x : Int, cutI x ((2 : Nat) : Int) = x - x % 1073741824 := fun _ => rfl
    have hJ2 : 0 ≤ J ∧ J < 64 := hJ
    rw [e1] at hc
    rw [e1]
    show (a / 16777216 % 256) % 64 = 0 ∧ ((a / 16777216 % 256 + J) * 16777216 + 0 * 65536 + 0 * 256 + 0) - ((a / 16777216 % 256 + J) * 16777216 + 0 * 65536 + 0 * 256 + 0) % 1073741824 = a
    omega
  · have e1 : ∀ x : Int, cutI x ((3 : Nat) : Int) = x - x % 536870912 := fun _ => rfl
    have hJ2 : 0 ≤ J ∧ J < 32 := hJ
    rw [e1] at hc
    rw [e1]
    show (a / 16777216 % 256) % 32 = 0 ∧ ((a / 16777216 % 256 + J) * 16777216 + 0 * 65536 + 0 * 256 + 0) - ((a / 16777216 % 256 + J) * 16777216 + 0 * 65536 + 0 * 256 + 0) % 536870912 = a
    omega
  · have e1 : ∀ x : Int, cutI x ((4 : Nat) : Int) = x - x % 268435456 := fun _ => rfl
    have hJ2 : 0 ≤ J ∧ J < 16 := hJ
    rw [e1] at hc
    rw [e1]
    show (a / 16777216 % 256) % 16 = 0 ∧ ((a / 16777216 % 256 + J) * 16777216 + 0 * 65536 + 0 * 256 + 0) - ((a / 16777216 % 256 + J) * 16777216 + 0 * 65536 + 0 * 256 + 0) % 268435456 = a
    omega
  · have e1 : ∀ x : Int, cutI x ((5 : Nat) : Int) = x - x % 134217728 := fun _ => rfl
    have hJ2 : 0 ≤ J ∧ J < 8 := hJ
    rw [e1] at hc
    rw [e1]
    show (a / 16777216 % 256) % 8 = 0 ∧ ((a / 16777216 % 256 + J) * 16777216 + 0 * 65536 + 0 * 256 + 0) - ((a / 16777216 % 256 + J) * 16777216 + 0 * 65536 + 0 * 256 + 0) % 134217728 = a
    omega
  · have e1 : ∀ x : Int, cutI x ((6 : Nat) : Int) = x - x % 67108864 := fun _ => rfl
    have hJ2 : 0 ≤ J ∧ J < 4 := hJ
    rw [e1] at hc
    rw [e1]
    show (a / 16777216 % 256) % 4 = 0 ∧ ((a / 16777216 % 256 + J) * 16777216 + 0 * 65536 + 0 * 256 + 0) - ((a / 16777216 % 256 + J) * 16777216 + 0 * 65536 + 0 * 256 + 0) % 67108864 = a
    omega
  · have e1 : ∀ x : Int, cutI x ((7 : Nat) : Int) = x - x % 33554432 := fun _ => rfl
    have hJ2 : 0 ≤ J ∧ J < 2 := hJ
    rw [e1] at hc
    rw [e1]
    show (a / 16777216 % 256) % 2 = 0 ∧ ((a / 16777216 % 256 + J) * 16777216 + 0 * 65536 + 0 * 256 + 0) - ((a / 16777216 % 256 + J) * 16777216 + 0 * 65536 + 0 * 256 + 0) % 33554432 = a
    omega
  · have e1 : ∀ x : Int, cutI x ((8 : Nat) : Int) = x - x % 16777216 := fun _ => rfl
    have hJ2 : 0 ≤ J ∧ J < 1 := hJ
    rw [e1] at hc
    rw [e1]
    show (a / 16777216 % 256) % 1 = 0 ∧ ((a / 16777216 % 256 + J) * 16777216 + 0 * 65536 + 0 * 256 + 0) - ((a / 16777216 % 256 + J) * 16777216 + 0 * 65536 + 0 * 256 + 0) % 16777216 = a
    omega
  · have e1 : ∀ x : Int, cutI x ((9 : Nat) : Int) = x - x % 8388608 := fun _ => rfl
    have hJ2 : 0 ≤ J ∧ J < 128 := hJ
    rw [e1] at hc
    rw [e1]
    show (a / 65536 % 256) % 128 = 0 ∧ ((a / 16777216 % 256) * 16777216 + (a / 65536 % 256 + J) * 65536 + 0 * 256 + 0) - ((a / 16777216 % 256) * 16777216 + (a / 65536 % 256 + J) * 65536 + 0 * 256 + 0) % 8388608 = a
    omega
  · have e1 : ∀ x : Int, cutI x ((10 : Nat) : Int) = x - x % 4194304 := fun _ => rfl
    have hJ2 : 0 ≤ J ∧ J < 64 := hJ
    rw [e1] at hc
    rw [e1]
    show (a / 65536 % 256) % 64 = 0 ∧ ((a / 16777216 % 256) * 16777216 + (a / 65536 % 256 + J) * 65536 + 0 * 256 + 0) - ((a / 16777216 % 256) * 16777216 + (a / 65536 % 256 + J) * 65536 + 0 * 256 + 0) % 4194304 = a
    omega
  · have e1 : ∀ x : Int, cutI x ((11 : Nat) : Int) = x - x % 2097152 := fun _ => rfl
    have hJ2 : 0 ≤ J ∧ J < 32 := hJ
    rw [e1] at hc
    rw [e1]
    show (a / 65536 % 256) % 32 = 0 ∧ ((a / 16777216 % 256) * 16777216 + (a / 65536 % 256 + J) * 65536 + 0 * 256 + 0) - ((a / 16777216 % 256) * 16777216 + (a / 65536 % 256 + J) * 65536 + 0 * 256 + 0) % 2097152 = a
    omega
  · have e1 : ∀ x : Int, cutI x ((12 : Nat) : Int) = x - x % 1048576 := fun _ => rfl
    have hJ2 : 0 ≤ J ∧ J < 16 := hJ
    rw [e1] at hc
    rw [e1]
    show (a / 65536 % 256) % 16 = 0 ∧ ((a / 16777216 % 256) * 16777216 + (a / 65536 % 256 + J) * 65536 + 0 * 256 + 0) - ((a / 16777216 % 256) * 16777216 + (a / 65536 % 256 + J) * 65536 + 0 * 256 + 0) % 1048576 = a
    omega
  · have e1 : ∀ x : Int, cutI x ((13 : Nat) : Int) = x - x % 524288 := fun _ => rfl
    have hJ2 : 0 ≤ J ∧ J < 8 := hJ
    rw [e1] at hc
    rw [e1]
    show (a / 65536 % 256) % 8 = 0 ∧ ((a / 16777216 % 256) * 16777216 + (a / 65536 % 256 + J) * 65536 + 0 * 256 + 0) - ((a / 16777216 % 256) * 16777216 + (a / 65536 % 256 + J) * 65536 + 0 * 256 + 0) % 524288 = a
    omega
  · have e1 : ∀ x : Int, cutI x ((14 : Nat) : Int) = x - x % 262144 := fun _ => rfl
    have hJ2 : 0 ≤ J ∧ J < 4 := hJ
    rw [e1] at hc
    rw [e1]
    show (a / 65536 % 256) % 4 = 0 ∧ ((a / 16777216 % 256) * 16777216 + (a / 65536 % 256 + J) * 65536 + 0 * 256 + 0) - ((a / 16777216 % 256) * 16777216 + (a / 65536 % 256 + J) * 65536 + 0 * 256 + 0) % 262144 = a
    omega
  · have e1 : ∀ x : Int, cutI x ((15 : Nat) : Int) = x - x % 131072 := fun _ => rfl
    have hJ2 : 0 ≤ J ∧ J < 2 := hJ
    rw [e1] at hc
    rw [e1]
    show (a / 65536 % 256) % 2 = 0 ∧ ((a / 16777216 % 256) * 16777216 + (a / 65536 % 256 + J) * 65536 + 0 * 256 + 0) - ((a / 16777216 % 256) * 16777216 + (a / 65536 % 256 + J) * 65536 + 0 * 256 + 0) % 131072 = a
    omega
  · have e1 : ∀ x : Int, cutI x ((16 : Nat) : Int) = x - x % 65536 := fun _ => rfl
    have hJ2 : 0 ≤ J ∧ J < 1 := hJ
    rw [e1] at hc
    rw [e1]
    show (a / 65536 % 256) % 1 = 0 ∧ ((a / 16777216 % 256) * 16777216 + (a / 65536 % 256 + J) * 65536 + 0 * 256 + 0) - ((a / 16777216 % 256) * 16777216 + (a / 65536 % 256 + J) * 65536 + 0 * 256 + 0) % 65536 = a
    omega
  · have e1 : ∀ x : Int, cutI x ((17 : Nat) : Int) = x - x % 32768 := fun _ => rfl
    have hJ2 : 0 ≤ J ∧ J < 128 := hJ
    rw [e1] at hc
    rw [e1]
    show (a / 256 % 256) % 128 = 0 ∧ ((a / 16777216 % 256) * 16777216 + (a / 65536 % 256) * 65536 + (a / 256 % 256 + J) * 256 + 0) - ((a / 16777216 % 256) * 16777216 + (a / 65536 % 256) * 65536 + (a / 256 % 256 + J) * 256 + 0) % 32768 = a
    omega
  · have e1 : ∀ x : Int, cutI x ((18 : Nat) : Int) = x - x % 16384 := fun _ => rfl
    have hJ2 : 0 ≤ J ∧ J < 64 := hJ
    rw [e1] at hc
    rw [e1]
    show (a / 256 % 256) % 64 = 0 ∧ ((a / 16777216 % 256) * 16777216 + (a / 65536 % 256) * 65536 + (a / 256 % 256 + J) * 256 + 0) - ((a / 16777216 % 256) * 16777216 + (a / 65536 % 256) * 65536 + (a / 256 % 256 + J) * 256 + 0) % 16384 = a
    omega
  · have e1 : ∀ x : Int, cutI x ((19 : Nat) : Int) = x - x % 8192 := fun _ => rfl
    have hJ2 : 0 ≤ J ∧ J < 32 := hJ
    rw [e1] at hc
    rw [e1]
    show (a / 256 % 256) % 32 = 0 ∧ ((a / 16777216 % 256) * 16777216 + (a / 65536 % 256) * 65536 + (a / 256 % 256 + J) * 256 + 0) - ((a / 16777216 % 256) * 16777216 + (a / 65536 % 256) * 65536 + (a / 256 % 256 + J) * 256 + 0) % 8192 = a
    omega
  · have e1 : ∀ x : Int, cutI x ((20 : Nat) : Int) = x - x % 4096 := fun _ => rfl
    have hJ2 : 0 ≤ J ∧ J < 16 := hJ
    rw [e1] at hc
    rw [e1]
    show (a / 256 % 256) % 16 = 0 ∧ ((a / 16777216 % 256) * 16777216 + (a / 65536 % 256) * 65536 + (a / 256 % 256 + J) * 256 + 0) - ((a / 16777216 % 256) * 16777216 + (a / 65536 % 256) * 65536 + (a / 256 % 256 + J) * 256 + 0) % 4096 = a
    omega
  · have e1 : ∀ x : Int, cutI x ((21 : Nat) : Int) = x - x % 2048 := fun _ => rfl
    have hJ2 : 0 ≤ J ∧ J < 8 := hJ
    rw [e1] at hc
    rw [e1]
    show (a / 256 % 256) % 8 = 0 ∧ ((a / 16777216 % 256) * 16777216 + (a / 65536 % 256) * 65536 + (a / 256 % 256 + J) * 256 + 0) - ((a / 16777216 % 256) * 16777216 + (a / 65536 % 256) * 65536 + (a / 256 % 256 + J) * 256 + 0) % 2048 = a
    omega
  · have e1 : ∀ x : Int, cutI x ((22 : Nat) : Int) = x - x % 1024 := fun _ => rfl
    have hJ2 : 0 ≤ J ∧ J < 4 := hJ
    rw [e1] at hc
    rw [e1]
    show (a / 256 % 256) % 4 = 0 ∧ ((a / 16777216 % 256) * 16777216 + (a / 65536 % 256) * 65536 + (a / 256 % 256 + J) * 256 + 0) - ((a / 16777216 % 256) * 16777216 + (a / 65536 % 256) * 65536 + (a / 256 % 256 + J) * 256 + 0) % 1024 = a
    omega
  · have e1 : ∀ x : Int, cutI x ((23 : Nat) : Int) = x - x % 512 := fun _ => rfl
    have hJ2 : 0 ≤ J ∧ J < 2 := hJ
    rw [e1] at hc
    rw [e1]
    show (a / 256 % 256) % 2 = 0 ∧ ((a / 16777216 % 256) * 16777216 + (a / 65536 % 256) * 65536 + (a / 256 % 256 + J) * 256 + 0) - ((a / 16777216 % 256) * 16777216 + (a / 65536 % 256) * 65536 + (a / 256 % 256 + J) * 256 + 0) % 512 = a
    omega
  · have e1 : ∀ x : Int, cutI x ((24 : Nat) : Int) = x - x % 256 := fun _ => rfl
    have hJ2 : 0 ≤ J ∧ J < 1 := hJ
    rw [e1] at hc
    rw [e1]
    show (a / 256 % 256) % 1 = 0 ∧ ((a / 16777216 % 256) * 16777216 + (a / 65536 % 256) * 65536 + (a / 256 % 256 + J) * 256 + 0) - ((a / 16777216 % 256) * 16777216 + (a / 65536 % 256) * 65536 + (a / 256 % 256 + J) * 256 + 0) % 256 = a
    omega
  · have e1 : ∀ x : Int, cutI x ((25 : Nat) : Int) = x - x % 128 := fun _ => rfl
    have hJ2 : 0 ≤ J ∧ J < 128 := hJ
    rw [e1] at hc
    rw [e1]
    show (a % 256) % 128 = 0 ∧ ((a / 16777216 % 256) * 16777216 + (a / 65536 % 256) * 65536 + (a / 256 % 256) * 256 + (a % 256 + J)) - ((a / 16777216 % 256) * 16777216 + (a / 65536 % 256) * 65536 + (a / 256 % 256) * 256 + (a % 256 + J)) % 128 = a
    omega
  · have e1 : ∀ x : Int, cutI x ((26 : Nat) : Int) = x - x % 64 := fun _ => rfl
    have hJ2 : 0 ≤ J ∧ J < 64 := hJ
    rw [e1] at hc
    rw [e1]
    show (a % 256) % 64 = 0 ∧ ((a / 16777216 % 256) * 16777216 + (a / 65536 % 256) * 65536 + (a / 256 % 256) * 256 + (a % 256 + J)) - ((a / 16777216 % 256) * 16777216 + (a / 65536 % 256) * 65536 + (a / 256 % 256) * 256 + (a % 256 + J)) % 64 = a
    omega
  · have e1 : ∀ x : Int, cutI x ((27 : Nat) : Int) = x - x % 32 := fun _ => rfl
    have hJ2 : 0 ≤ J ∧ J < 32 := hJ
    rw [e1] at hc
    rw [e1]
    show (a % 256) % 32 = 0 ∧ ((a / 16777216 % 256) * 16777216 + (a / 65536 % 256) * 65536 + (a / 256 % 256) * 256 + (a % 256 + J)) - ((a / 16777216 % 256) * 16777216 + (a / 65536 % 256) * 65536 + (a / 256 % 256) * 256 + (a % 256 + J)) % 32 = a
    omega
  · have e1 : ∀ x : Int, cutI x ((28 : Nat) : Int) = x - x % 16 := fun _ => rfl
    have hJ2 : 0 ≤ J ∧ J < 16 := hJ
    rw [e1] at hc
    rw [e1]
    show (a % 256) % 16 = 0 ∧ ((a / 16777216 % 256) * 16777216 + (a / 65536 % 256) * 65536 + (a / 256 % 256) * 256 + (a % 256 + J)) - ((a / 16777216 % 256) * 16777216 + (a / 65536 % 256) * 65536 + (a / 256 % 256) * 256 + (a % 256 + J)) % 16 = a
    omega
  · have e1 : ∀ x : Int, cutI x ((29 : Nat) : Int) = x - x % 8 := fun _ => rfl
    have hJ2 : 0 ≤ J ∧ J < 8 := hJ
    rw [e1] at hc
    rw [e1]
    show (a % 256) % 8 = 0 ∧ ((a / 16777216 % 256) * 16777216 + (a / 65536 % 256) * 65536 + (a / 256 % 256) * 256 + (a % 256 + J)) - ((a / 16777216 % 256) * 16777216 + (a / 65536 % 256) * 65536 + (a / 256 % 256) * 256 + (a % 256 + J)) % 8 = a
    omega
  · have e1 : ∀ x : Int, cutI x ((30 : Nat) : Int) = x - x % 4 := fun _ => rfl
    have hJ2 : 0 ≤ J ∧ J < 4 := hJ
    rw [e1] at hc
    rw [e1]
    show (a % 256) % 4 = 0 ∧ ((a / 16777216 % 256) * 16777216 + (a / 65536 % 256) * 65536 + (a / 256 % 256) * 256 + (a % 256 + J)) - ((a / 16777216 % 256) * 16777216 + (a / 65536 % 256) * 65536 + (a / 256 % 256) * 256 + (a % 256 + J)) % 4 = a
    omega
  · have e1 : ∀ x : Int, cutI x ((31 : Nat) : Int) = x - x % 2 := fun _ => rfl
    have hJ2 : 0 ≤ J ∧ J < 2 := hJ
    rw [e1] at hc
    rw [e1]
    show (a % 256) % 2 = 0 ∧ ((a / 16777216 % 256) * 16777216 + (a / 65536 % 256) * 65536 + (a / 256 % 256) * 256 + (a % 256 + J)) - ((a / 16777216 % 256) * 16777216 + (a / 65536 % 256) * 65536 + (a / 256 % 256) * 256 + (a % 256 + J)) % 2 = a
    omega
  · have e1 : ∀ x : Int, cutI x ((32 : Nat) : Int) = x - x % 1 := fun _ => rfl
    have hJ2 : 0 ≤ J ∧ J < 1 := hJ
    rw [e1] at hc
    rw [e1]
    show (a % 256) % 1 = 0 ∧ ((a / 16777216 % 256) * 16777216 + (a / 65536 % 256) * 65536 + (a / 256 % 256) * 256 + (a % 256 + J)) - ((a / 16777216 % 256) * 16777216 + (a / 65536 % 256) * 65536 + (a / 256 % 256) * 256 + (a % 256 + J)) % 1 = a
    omega
/-- A message's bytes: its kind, what it has behind its head. -/
def msgOf (k : Int) (body : List Int) : List Int := List.replicate 16 255 ++ numB (19 + body.length : Nat) 2 ++ [k] ++ body
theorem msgB_of (m : MsL) : msgB m = msgOf m.kind (bodB m) := rfl
theorem msgOf_len (k : Int) (body : List Int) : (msgOf k body).length = 19 + body.length := by unfold msgOf; simp only [List.length_append, List.length_replicate, numB_len, List.length_cons, List.length_nil]
theorem msgOf_head {k : Int} {body : List Int} {i : Nat} (hi : i < 19) : (msgOf k body)[i]? = if i < 16 then some 255 else if i = 16 then some (((19 + body.length : Nat) : Int) / 256 % 256) else if i = 17 then some (((19 + body.length : Nat) : Int) % 256) else some k := by
  unfold msgOf
  rw [show numB (((19 + body.length : Nat) : Int)) 2 = [((19 + body.length : Nat) : Int) / 256 % 256, ((19 + body.length : Nat) : Int) % 256] by
    show [_ / 2 ^ 8 % 256, _ / 2 ^ 0 % 256] = _
    rw [show (2 : Int) ^ 8 = 256 by decide, show (2 : Int) ^ 0 = 1 by decide, Int.ediv_one]]
  by_cases h : i < 16
  · rw [if_pos h, List.getElem?_append_left (by simp; omega), List.getElem?_append_left (by simp; omega), List.getElem?_append_left (by simp; omega), List.getElem?_replicate, if_pos h]
  · rw [if_neg h]
    have : i = 16 ∨ i = 17 ∨ i = 18 := by omega
    rcases this with rfl | rfl | rfl <;> rfl
theorem msgOf_drop (k : Int) (body : List Int) : (msgOf k body).drop 19 = body := by
  unfold msgOf
  exact List.drop_left' (by simp [numB_len])
theorem decM_of (k : Int) (body : List Int) (hk : 1 ≤ k ∧ k ≤ 4) (hl : 19 + body.length ≤ 4096) (hle : leastI k ≤ 19 + body.length) (h4 : k = 4 → body = []) : decM (msgOf k body) = bodyM k body := by
  have hh := head_of (zs := msgOf k body) (L := 19 + body.length) (k := k) (fun i hi => msgOf_head hi) (by omega)
  have hs : sizeR (msgOf k body).length (fOf (msgOf k body)) = (((msgOf k body).length : Int), 0, 0, ⟨#[]⟩) := by
    rw [msgOf_len, sizeR_on (by omega) hh.1, hh.2.1, hh.2.2, if_neg (by omega), if_neg (fun h => leastI_zero.1 h hk), if_neg (by
      rintro (h | ⟨h, h'⟩)
      · omega
      · rw [h4 h] at h'; exact h' rfl)]
  unfold decM
  rw [hs, msgOf_drop, hh.2.2]
  dsimp only
  rw [if_neg (by simp), if_neg (by simp)]
end Go.Proofs.YtpjbofodllhjbaaDoor
/- bgp: BgpNets. -/
namespace Go.Proofs.YtpjbofodllhjbaaDoor
open Go.RowKit

theorem updR_one (p : PfL) (zs : List Int) (hz : zs.length = needN p.len) (hl : 0 ≤ p.len ∧ p.len ≤ 32) (hc : cutI (addrI zs) p.len = p.addr) :
    updR (0 :: (1 + (needN p.len : Int)) :: p.len :: (zs ++ [0, 0])) = .inl ([p], AtL.zero.d, []) := by
  have hn : needN p.len ≤ 4 := by unfold needN; omega
  have e1 : fOf (0 :: (1 + (needN p.len : Int)) :: p.len :: (zs ++ [0, 0])) 0 * 256 + fOf (0 :: (1 + (needN p.len : Int)) :: p.len :: (zs ++ [0, 0])) 1 = ((1 + needN p.len : Nat) : Int) := by
    show (0 : Int) * 256 + (1 + (needN p.len : Int)) = _; omega
  have c1 : countR (0 :: (1 + (needN p.len : Int)) :: p.len :: (zs ++ [0, 0])) = some (p.len :: zs, [0, 0]) := by
    unfold countR
    rw [e1, if_neg (by simp only [List.length_cons, List.length_append, List.length_nil]; omega), Int.toNat_natCast]
    congr 2
    · show (p.len :: (zs ++ [0, 0])).take (1 + needN p.len) = _
      rw [Nat.add_comm, List.take_succ_cons, List.take_left' hz]
    · rw [show 2 + (1 + needN p.len) = needN p.len + 1 + 1 + 1 by omega]
      show (zs ++ [0, 0]).drop (needN p.len) = _
      exact List.drop_left' hz
  have c2 : countR [0, 0] = some ([], []) := by decide
  have n1 : netsR (p.len :: zs) = some [p] := by
    rw [netsR_cons, if_neg (by omega), ← hz, List.take_length, List.drop_length, netsR]
    have : inI p.len = p.len := by unfold inI; omega
    rw [this, hc]
    rfl
  have n2 : netsR [] = some [] := by rw [netsR]
  unfold updR
  rw [c1]
  dsimp only
  rw [c2]
  dsimp only
  rw [n1]
  dsimp only
  rw [decD_nil]
  dsimp only
  rw [n2]
  dsimp only
  rw [if_neg (by simp), if_neg (by simp)]
  have e5 : sortO ([] : List (Int × List Int)) = [] := by simp [sortO]
  show Sum.inl ([p], { AtL.zero.d with others := sortO [] }, []) = _
  rw [e5]
  rfl
/-- The message with one route withdrawn. -/
def oneM (g : Nat) (p : PfL) : MsL := MsL.upd 2 (some ⟨g, 0, none⟩) 1 [p] .zero none 0 []
theorem oneM_body (g : Nat) {p : PfL} (h : pfOk p = true) : bodB (oneM g p) = 0 :: (1 + (needN p.len : Int)) :: p.len :: (addrB p.addr (needN p.len) ++ [0, 0]) := by
  have hl := pfOk_len h
  have hn : needN p.len ≤ 4 := by unfold needN; omega
  have e1 : netsE [p] = p.len :: addrB p.addr (needN p.len) := by
    unfold netsE
    rw [List.flatMap_cons, List.flatMap_nil, List.append_nil]
    show [p.len / 2 ^ 0 % 256] ++ addrB p.addr (needN p.len) = _
    rw [show p.len / 2 ^ 0 % 256 = p.len by rw [show (2 : Int) ^ 0 = 1 by decide, Int.ediv_one]; omega]
    rfl
  have e2 : bodyA AtL.zero = [] := by decide
  have e3 : (netsE [p]).length = 1 + needN p.len := by rw [e1, List.length_cons, addrB_len _ hn]; omega
  show updB (oneM g p) = _
  unfold updB
  show numB (netsE [p]).length 2 ++ netsE [p] ++ numB (bodyA AtL.zero).length 2 ++ bodyA AtL.zero ++ netsE [] = _
  rw [e2, e3, e1]
  show [((1 + needN p.len : Nat) : Int) / 2 ^ 8 % 256, ((1 + needN p.len : Nat) : Int) / 2 ^ 0 % 256] ++ (p.len :: addrB p.addr (needN p.len)) ++ [0, 0] ++ [] ++ [] = _
  rw [show (2 : Int) ^ 8 = 256 by decide, show (2 : Int) ^ 0 = 1 by decide, Int.ediv_one, show ((1 + needN p.len : Nat) : Int) / 256 % 256 = 0 by omega, show ((1 + needN p.len : Nat) : Int) % 256 = 1 + (needN p.len : Int) by omega]
  simp
theorem oneM_code (g : Nat) {p : PfL} (h : pfOk p = true) : msgC (oneM g p) = 0 := by
  have hl := pfOk_len h
  have hn : needN p.len ≤ 4 := by unfold needN; omega
  have e0 : bodC (oneM g p) = 0 := by
    show updC (oneM g p) = 0
    unfold updC
    rw [if_neg (by show ¬ (200 < 1 ∨ 200 < 0); omega)]
    have e1 : badN (oneM g p) = false := by
      show (!([p].all pfOk) || !(([] : List PfL).all pfOk) || decide (0 < 0 ∧ missI 0 ≠ 0)) = false
      simp [h]
    rw [e1]
    show encE AtL.zero = 0
    decide
  unfold msgC
  rw [if_pos e0, if_neg (by rw [oneM_body g h]; simp only [List.length_cons, List.length_append, addrB_len _ hn, List.length_nil]; omega)]
theorem decM_one (p : PfL) (zs : List Int) (hz : zs.length = needN p.len) (hl : 0 ≤ p.len ∧ p.len ≤ 32) (hc : cutI (addrI zs) p.len = p.addr) :
    decM (msgOf 2 (0 :: (1 + (needN p.len : Int)) :: p.len :: (zs ++ [0, 0]))) = .inl { (MsL.zero 2).d with gone := [p] } := by
  have hn : needN p.len ≤ 4 := by unfold needN; omega
  rw [decM_of 2 _ (by omega) (by simp only [List.length_cons, List.length_append, List.length_nil]; omega) (by show (23 : Int) ≤ _; simp only [List.length_cons, List.length_append, List.length_nil]; omega) (by omega)]
  unfold bodyM
  rw [if_neg (by omega), if_pos rfl, updR_one p zs hz hl hc]
  rfl
theorem and_lo : ∀ s : Nat, s ≤ 8 → ∀ n : Nat, n < 256 → bits .and .u8 (n : Int) (255 / 2 ^ s) = (n : Int) % 2 ^ (8 - s) := by
  set_option maxRecDepth 20000 in decide +kernel
end Go.Proofs.YtpjbofodllhjbaaDoor
/- bgp: BgpNets, walked. -/
namespace Go.Proofs.YtpjbofodllhjbaaDoor
open Go.RowKit

theorem byte_join {L J : Int} (s : Nat) (hs : s ≤ 7) (hL : 0 ≤ L ∧ L ≤ 255) (h1 : L % 2 ^ s = 0) (hJ : 0 ≤ J ∧ J < 2 ^ s) : 0 ≤ L + J ∧ L + J ≤ 255 := by
  have : s = 0 ∨ s = 1 ∨ s = 2 ∨ s = 3 ∨ s = 4 ∨ s = 5 ∨ s = 6 ∨ s = 7 := by omega
  rcases this with rfl | rfl | rfl | rfl | rfl | rfl | rfl | rfl <;> omega
theorem msgOf_set (k a b c v : Int) (xs ys : List Int) (n : Nat) (hn : 1 ≤ n) (hl : xs.length = n) : (msgOf k (a :: b :: c :: (xs ++ ys))).set (21 + n) v = msgOf k (a :: b :: c :: (xs.set (n - 1) v ++ ys)) := by
  unfold msgOf
  rw [List.set_append_right _ _ (by simp [numB_len]; omega)]
  congr 1
  · simp
  · rw [show 21 + n - (List.replicate 16 (255 : Int) ++ numB ((19 + (a :: b :: c :: (xs ++ ys)).length : Nat) : Int) 2 ++ [k]).length = n - 1 + 1 + 1 + 1 by simp [numB_len]; omega]
    rw [List.set_cons_succ, List.set_cons_succ, List.set_cons_succ, List.set_append_left _ _ (by omega)]
theorem u8s_set (xs : List Int) (i : Nat) (v : Int) : (u8s xs).set i (.int .u8 v) = u8s (xs.set i v) := by unfold u8s; rw [List.map_set]
theorem msgOf_bys {k : Int} {body : List Int} (hk : 0 ≤ k ∧ k ≤ 255) (h : Bys body) : Bys (msgOf k body) := by
  unfold msgOf
  exact Bys.app (Bys.app (Bys.app (fun x hx => by rw [List.mem_replicate] at hx; omega) (numB_bys _ _)) (Bys.one hk.1 hk.2)) h
theorem Win.row {p : Nat → Prop} {w0 w : World} {L : List Ent} {g c : Nat} {cs : List Value} {xs : List Int} [At L g cs] (hS : St p w0 w L) (hx : cs.take xs.length = u8s xs) (hb : Bys xs) (hl : xs.length ≤ c) : Win w g 0 c xs :=
  ⟨fun j v hj => allAt (g := g) w hS j v (by
    rw [← hx, List.getElem?_take] at hj
    split at hj
    · exact hj
    · cases hj), hb, hl⟩
theorem BgpNets_bad (w0 : World) (p : PfL) (junk : Int) (hp : U32 p.addr) (hpk : pfOk p = false) :
    Calls Tryd.prog 7 #[.agg p.cells.toArray, .int .u32 junk] w0 fun e w' => e = .returned (.bool true) ∧ Frm (fun _ => False) w0 w' := by
  refine enter Tryd.func7 rfl Tryd.ntmps7 rfl (St.start (fun _ => False) w0) ?_
  refine WC.seq ?_
  refine WC.region ?_
  refine WL.box rfl rfl rfl (.none rfl) rfl rfl ?_
  intro g2 hg2
  refine WL.val (v_assign rfl rfl) (.none rfl) rfl rfl ?_
  refine WL.nil ?_
  refine WE.then_n ?_
  refine WC.seq ?_
  refine WC.seq ?_
  refine WC.region ?_
  refine WL.call rfl rfl ck_13 (.none rfl) rfl rfl ?_
  intro w hS
  refine Calls.then (Head07_c w) hS ?_
  refine WL.val (v_not rfl rfl rfl) (.none rfl) rfl rfl ?_
  refine WL.nil ?_
  refine WE.then_n ?_
  refine WC.cond_f rfl ?_
  refine WC.skip ?_
  refine WE.then_n ?_
  refine WC.seq ?_
  refine WC.seq ?_
  refine WC.region ?_
  refine WL.val (v_loadN rfl rfl many_65 rfl allAt) (.none rfl) rfl rfl ?_
  refine WL.call rfl rfl ck_23 (.none rfl) rfl rfl ?_
  intro w hS
  refine Calls.then (PCheck_c w p hp) hS ?_
  rw [hpk]
  refine WL.val ((v_neq rfl rfl rfl).t (by simp)) (.none rfl) rfl rfl ?_
  refine WL.nil ?_
  refine WE.then_n ?_
  refine WC.cond_t rfl ?_
  refine WC.seq ?_
  refine WC.region ?_
  refine WL.val (v_assign rfl rfl) (.none rfl) rfl rfl ?_
  refine WL.nil ?_
  refine WE.then_n ?_
  refine WC.ret ?_
  refine WE.then_ret ?_
  refine WE.ret1 (P := Tryd.prog) (.inl rfl) Tryd.results7 rfl ?_
  exact fun w' h => ⟨rfl, h.frm⟩
theorem oneM_at {w : World} {g : Nat} {p : PfL} (h : w.rangeAt g 0 p.cells) : (oneM g p).At w :=
  ⟨(fun i x hi => by cases hi), (fun c hc => by cases hc), (fun i x hi => by
    match i, hi with
    | 0, hi => cases hi; exact ⟨g, 0, rfl, h⟩), (fun i x hi => by cases hi), ⟨(fun i x hi => by cases hi), (fun c hc => by cases hc), (fun h => absurd h (Nat.lt_irrefl 0)), (fun i x hi => by cases hi), (fun c hc => by cases hc)⟩⟩
theorem zero_i : I64 0 := ⟨(by show (-9223372036854775808 : Int) ≤ 0; decide), (by show (0 : Int) ≤ 9223372036854775807; decide)⟩
theorem zero_u : U32 0 := ⟨(by show (0 : Int) ≤ 0; decide), (by show (0 : Int) ≤ 4294967295; decide)⟩
theorem AtL.zero_in : AtL.zero.In := ⟨zero_i, zero_i, zero_u, zero_i, zero_i, zero_i, zero_u, (fun c hc => by cases hc), (fun c hc => by cases hc), (fun c hc => by cases hc), ⟨Nat.zero_le _, Nat.zero_le _, Nat.zero_le _⟩⟩
theorem oneM_in {g : Nat} {p : PfL} (h : U32 p.addr ∧ I64 p.len) : (oneM g p).In :=
  ⟨⟨(by show (-9223372036854775808 : Int) ≤ 2; decide), (by show (2 : Int) ≤ 9223372036854775807; decide)⟩, zero_i, zero_i, zero_u, zero_i, zero_i, (fun c hc => by cases hc), (fun c hc => by cases hc with | head => exact h | tail _ h => cases h), (fun c hc => by cases hc), AtL.zero_in, ⟨Nat.zero_le _, (by show 1 ≤ _; decide), Nat.zero_le _, Nat.zero_le _⟩⟩
set_option maxHeartbeats 4000000 in
theorem BgpNets_ok (w0 : World) (p : PfL) (junk : Int) (hp : U32 p.addr ∧ I64 p.len) (hG : GF w0) (hZ : GZ w0) (hpk : pfOk p = true) :
    Calls Tryd.prog 7 #[.agg p.cells.toArray, .int .u32 junk] w0 fun e w' => e = .returned (.bool true) ∧ Frm (fun _ => False) w0 w' := by
  have hlen := pfOk_len hpk
  obtain ⟨k, hk⟩ := Int.eq_ofNat_of_zero_le hlen.1
  have hnn : needN p.len = (k + 7) / 8 := by unfold needN; rw [hk, Int.toNat_natCast]
  have hcut : p.addr = cutI p.addr p.len := (of_decide_eq_true hpk).1
  refine enter Tryd.func7 rfl Tryd.ntmps7 rfl (St.start (fun _ => False) w0) ?_
  refine WC.seq ?_
  refine WC.region ?_
  refine WL.box rfl rfl rfl (.none rfl) rfl rfl ?_
  intro g2 hg2
  refine WL.val (v_assign rfl rfl) (.none rfl) rfl rfl ?_
  refine WL.nil ?_
  refine WE.then_n ?_
  refine WC.seq ?_
  refine WC.seq ?_
  refine WC.region ?_
  refine WL.call rfl rfl ck_13 (.none rfl) rfl rfl ?_
  intro w hS
  refine Calls.then (Head07_c w) hS ?_
  refine WL.val (v_not rfl rfl rfl) (.none rfl) rfl rfl ?_
  refine WL.nil ?_
  refine WE.then_n ?_
  refine WC.cond_f rfl ?_
  refine WC.skip ?_
  refine WE.then_n ?_
  refine WC.seq ?_
  refine WC.seq ?_
  refine WC.region ?_
  refine WL.val (v_loadN rfl rfl many_65 rfl allAt) (.none rfl) rfl rfl ?_
  refine WL.call rfl rfl ck_23 (.none rfl) rfl rfl ?_
  intro w hS
  refine Calls.then (PCheck_c w p hp.1) hS ?_
  rw [hpk]
  refine WL.val ((v_neq rfl rfl rfl).f (by simp)) (.none rfl) rfl rfl ?_
  refine WL.nil ?_
  refine WE.then_n ?_
  refine WC.cond_f rfl ?_
  refine WC.skip ?_
  refine WE.then_n ?_
  refine WC.seq ?_
  refine WC.region ?_
  refine WL.val (v_loadN rfl rfl many_65 rfl allAt) (.none rfl) rfl rfl ?_
  refine WL.buildSlice rfl rfl Tryd.underlying36 sz_65 zero_65 rfl (by decide) rfl (.none rfl) rfl rfl ?_
  intro g17 hg17
  refine WL.val (v_build rfl rfl zero_43 plc_43 rfl) (.none rfl) rfl rfl ?_
  refine WL.call rfl rfl ck_21 (.none rfl) rfl rfl ?_
  intro w1 hS
  refine (Enc_c w1 (oneM g17 p) (oneM_at (allAt (g := g17) w1 hS)) (oneM_in hp) (hG.keep (fun h => h) hS) (by show 0 ≤ 1000; omega) (by show 0 ≤ 90; omega)).mono ?_
  rintro e w' ⟨_, rfl, ad19, c19, E19, rfl, hV19, hS'⟩
  refine ⟨_, _, rfl, hS.join hS', ?_⟩
  refine WL.val (v_move rfl rfl) (.none rfl) rfl rfl ?_
  refine WL.val (v_extract rfl rfl rfl) (.none rfl) rfl rfl ?_
  refine WL.val (v_extract rfl rfl rfl) (.none rfl) rfl rfl ?_
  rw [oneM_code g17 hpk] at hV19 ⊢
  rw [if_pos rfl] at hV19 ⊢
  have hml : (msgB (oneM g17 p)).length = 24 + (k + 7) / 8 := (by rw [msgB_len, oneM_body g17 hpk, hnn]; simp only [List.length_cons, List.length_append, List.length_nil, addrB_len _ (show (k + 7) / 8 ≤ 4 by omega)]; omega)
  have hby : Bys (msgB (oneM g17 p)) := msgB_bys (oneM_in hp) (oneM_code g17 hpk)
  rcases hV19 with ⟨_, h0, _⟩ | ⟨gb, cs, rfl, rfl, hx, hcl, hkc⟩
  · omega
  refine WL.as (L' := .row gb cs :: .row g17 p.cells :: [.row g2 p.cells]) rfl ?_
  have hbl : cs.length = c19 := (by rw [hcl, Nat.mul_one])
  refine WL.val (v_assign rfl rfl) (.none rfl) rfl rfl ?_
  refine WL.val (v_assign rfl rfl) (.none rfl) rfl rfl ?_
  refine WL.nil ?_
  refine WE.then_n ?_
  refine WC.seq ?_
  refine WC.seq ?_
  refine WC.region ?_
  refine WL.val (v_move rfl rfl) (.none rfl) rfl rfl ?_
  refine WL.val ((v_neq rfl rfl rfl).f (by omega)) (.none rfl) rfl rfl ?_
  refine WL.nil ?_
  refine WE.then_n ?_
  refine WC.cond_f rfl ?_
  refine WC.skip ?_
  refine WE.then_n ?_
  refine WC.seq ?_
  refine WC.region ?_
  refine WL.val (v_fieldAddr0 rfl rfl fld_65_1) (.none rfl) rfl rfl ?_
  refine WL.val (v_load1 rfl rfl one_3 (cellAt rfl)) (.none rfl) rfl rfl ?_
  refine WL.val (v_add rfl rfl rfl (w_i64 (by omega) (by omega))) (.none rfl) rfl rfl ?_
  refine WL.val (v_quo rfl rfl rfl (by omega) (by omega) (w_i64 (by omega) (by omega))) (.none rfl) rfl rfl ?_
  rw [show ((p.len + 7) / 8 : Int) = (((k + 7) / 8 : Nat) : Int) by omega]
  refine WL.val (v_assign rfl rfl) (.none rfl) rfl rfl ?_
  refine WL.nil ?_
  refine WE.then_n ?_
  refine WC.cut (fun y : List Int × List Value => [(2, .pointer (some ⟨g2, 0, none⟩)), (5, .slice (some ⟨gb, 0, none⟩) (24 + (k + 7) / 8) c19)]) (fun y => .row gb y.2 :: .row g17 p.cells :: [.row g2 p.cells]) (fun y => y.1.length = (k + 7) / 8 ∧ Bys y.1 ∧ cutI (addrI y.1) p.len = p.addr ∧ y.2.take (24 + (k + 7) / 8) = u8s (msgOf 2 (0 :: (1 + (needN p.len : Int)) :: p.len :: (y.1 ++ [0, 0]))) ∧ 24 + (k + 7) / 8 ≤ c19) ?_ ?_
  · -- cut29
    refine WC.seq ?_
    refine WC.region ?_
    refine WL.val (v_move rfl rfl) (.none rfl) rfl rfl ?_
    refine WL.test (v_gtr rfl rfl rfl) (.none rfl) rfl rfl (fun h29 => ?_) (fun h29 => ?_)
    · -- 29T
      refine WL.nil ?_
      refine WE.then_n ?_
      refine WC.cond_t rfl ?_
      refine WC.orders mixed ?_
      refine WR.first (g := 11) [0, 1, 2, 3, 5, 6, 7] (by kernel_rfl) (by kernel_rfl) ?_
      have hk1 : 1 ≤ k := (by omega)
      have hk2 : k ≤ 32 := (by omega)
      have hget : cs[21 + (k + 7) / 8]? = some (.int .u8 (fOf (msgB (oneM g17 p)) (21 + (k + 7) / 8))) := (by
        have h1 : (cs.take ((msgB (oneM g17 p)).length * 1))[21 + (k + 7) / 8]? = cs[21 + (k + 7) / 8]? := (by rw [List.getElem?_take, if_pos (by omega)])
        rw [← h1, hx]
        exact u8s_get (fOf_get (by omega)))
      have hB := fOf_b hby (21 + (k + 7) / 8)
      have hrb : (k - 1) % 8 + 1 ≤ 8 := (by omega)
      have hMb : msgB (oneM g17 p) = msgOf 2 (0 :: (1 + (needN p.len : Int)) :: p.len :: (addrB p.addr ((k + 7) / 8) ++ [0, 0])) := (by rw [msgB_of, oneM_body g17 hpk, hnn]; rfl)
      have hal : (addrB p.addr ((k + 7) / 8)).length = (k + 7) / 8 := addrB_len _ (by omega)
      have hLf : fOf (msgB (oneM g17 p)) (21 + (k + 7) / 8) = fOf (addrB p.addr ((k + 7) / 8)) ((k + 7) / 8 - 1) := (by
        have h1 := congrArg (fun l => fOf l (2 + (k + 7) / 8)) (msgOf_drop 2 (0 :: (1 + (needN p.len : Int)) :: p.len :: (addrB p.addr ((k + 7) / 8) ++ [0, 0])))
        rw [fOf_drop, ← hMb, show 19 + (2 + (k + 7) / 8) = 21 + (k + 7) / 8 by omega] at h1
        rw [h1, show 2 + (k + 7) / 8 = (k + 7) / 8 - 1 + 1 + 1 + 1 by omega]
        show fOf (addrB p.addr ((k + 7) / 8) ++ [0, 0]) ((k + 7) / 8 - 1) = _
        unfold fOf
        rw [List.getD_eq_getElem?_getD, List.getD_eq_getElem?_getD, List.getElem?_append_left (by omega)])
      have hJ0 := Int.emod_nonneg (junk % 256) (show (2 : Int) ^ (8 - ((k - 1) % 8 + 1)) ≠ 0 from (by have := Int.pow_pos (n := 2) (m := 8 - ((k - 1) % 8 + 1)) (by decide); omega))
      have hJ1 := Int.emod_lt_of_pos (junk % 256) (show 0 < (2 : Int) ^ (8 - ((k - 1) % 8 + 1)) from Int.pow_pos (by decide))
      obtain ⟨nj1, nj2⟩ := netJ k hk1 hk2 p.addr (junk % 256 % 2 ^ (8 - ((k - 1) % 8 + 1))) hp.1 (by rw [← hk]; exact hcut) ⟨hJ0, hJ1⟩
      rw [← hLf] at nj1 nj2
      have hpw : (2 : Int) ^ (8 - ((k - 1) % 8 + 1)) ≤ 128 := (by
        have h1 : 8 - ((k - 1) % 8 + 1) ≤ 7 := by omega
        generalize 8 - ((k - 1) % 8 + 1) = z at h1
        have : z = 0 ∨ z = 1 ∨ z = 2 ∨ z = 3 ∨ z = 4 ∨ z = 5 ∨ z = 6 ∨ z = 7 := by omega
        rcases this with rfl | rfl | rfl | rfl | rfl | rfl | rfl | rfl <;> decide)
      obtain ⟨jn, hjn⟩ := Int.eq_ofNat_of_zero_le (Int.emod_nonneg junk (show (256 : Int) ≠ 0 by decide))
      refine WP.val (v_move rfl rfl) (.none rfl) rfl rfl ?_
      refine WP.val (v_move rfl rfl) (.none rfl) rfl rfl ?_
      refine WP.val (v_add rfl rfl rfl (w_i64 (by omega) (by omega))) (.none rfl) rfl rfl ?_
      refine WP.val (v_indexAddr (lo := 21 + (k + 7) / 8) rfl rfl rfl Tryd.underlying22 sz_5 (by omega) (by omega)) (.none rfl) rfl rfl ?_
      refine WP.val (v_move rfl rfl) (.none rfl) rfl rfl ?_
      refine WP.val (v_conv rfl rfl Tryd.underlying5 Tryd.underlying33 (by first | exact w_u8 (by omega) (by omega) | exact w_u8m _)) (.none rfl) rfl rfl ?_
      refine WP.val (v_fieldAddr0 rfl rfl fld_65_1) (.none rfl) rfl rfl ?_
      refine WP.nil ?_
      refine WR.read (g := 1) [4, 8, 9, 10, 11, 12, 13, 14, 15, 16] (by kernel_rfl) (by kernel_rfl) (by kernel_rfl) (by kernel_rfl) rfl ?_
      refine WQ.val (v_load1 rfl rfl one_5 (cellAt (by rw [Nat.zero_add, Nat.mul_one]; exact hget))) (.none rfl) rfl rfl ?_
      refine WQ.val (v_load1 rfl rfl one_3 (cellAt rfl)) (.none rfl) rfl rfl ?_
      refine WQ.val (v_sub rfl rfl rfl (w_i64 (by omega) (by omega))) (.none rfl) rfl rfl ?_
      refine WQ.val (v_rem rfl rfl rfl (by omega) (by omega)) (.none rfl) rfl rfl ?_
      refine WQ.val (v_add rfl rfl rfl (w_i64 (by omega) (by omega))) (.none rfl) rfl rfl ?_
      refine WQ.val (v_conv rfl rfl Tryd.underlying67 Tryd.underlying3 (by first | exact w_u64 (by omega) (by omega) | exact w_u64m _)) (.none rfl) rfl rfl ?_
      refine WQ.val ((v_shr (m := (k - 1) % 8 + 1) (c := 2 ^ ((k - 1) % 8 + 1)) rfl rfl rfl (by omega) (by show _ ≤ 8; omega) rfl)) (.none rfl) rfl rfl ?_
      refine WQ.val (v_and rfl rfl rfl (show _ = junk % 256 % 2 ^ (8 - ((k - 1) % 8 + 1)) from by
      rw [hjn]
      exact and_lo _ hrb jn (by omega))) (.none rfl) rfl rfl ?_
      refine WQ.val (v_or rfl rfl rfl (bits_join .u8 8 (by decide) (fun n h1 h2 => by rw [IntKind.wrap_u8']; omega) (8 - ((k - 1) % 8 + 1)) _ _ (by omega) nj1 (by omega) hJ0 hJ1 (by omega))) (.none rfl) rfl rfl ?_
      refine WQ.val (v_indexAddr (lo := 21 + (k + 7) / 8) rfl rfl rfl Tryd.underlying22 sz_5 (by omega) (by omega)) (.none rfl) rfl rfl ?_
      refine WQ.nilR ?_
      refine WR.ones (g := 0) [17] (by kernel_rfl) ?_
      refine WL.store1 rfl rfl rfl rfl one_5 (by omega) (.none rfl) rfl ?_
      refine WL.nilR ?_
      refine WR.done (by kernel_rfl) ?_
      exact WE.mid ((addrB p.addr ((k + 7) / 8)).set ((k + 7) / 8 - 1) (fOf (msgB (oneM g17 p)) (21 + (k + 7) / 8) + junk % 256 % 2 ^ (8 - ((k - 1) % 8 + 1))), cs.set (0 + (21 + (k + 7) / 8) * 1) (.int .u8 (fOf (msgB (oneM g17 p)) (21 + (k + 7) / 8) + junk % 256 % 2 ^ (8 - ((k - 1) % 8 + 1))))) ⟨by rw [List.length_set, hal], by
      intro x hx
      rcases List.mem_or_eq_of_mem_set hx with hx | rfl
      · exact addrB_bys _ _ x hx
      · exact byte_join _ (by omega) hB nj1 ⟨hJ0, hJ1⟩, by rw [hk]; exact nj2, by
      rw [← msgOf_set _ _ _ _ _ _ _ _ (by omega) hal, ← hMb, ← u8s_set, ← hx, Nat.zero_add, Nat.mul_one, Nat.mul_one, hml]
      rw [List.take_set], by omega⟩ (.cons rfl (.eq rfl (by rw [hml]) .nil)) (.refl _)
    · -- 29F
      refine WL.nil ?_
      refine WE.then_n ?_
      refine WC.cond_f rfl ?_
      refine WC.skip ?_
      obtain rfl : k = 0 := (by omega)
      have hc0 : p.addr = 0 := (by
        rw [hk] at hcut
        have e1 : cutI p.addr ((0 : Nat) : Int) = p.addr - p.addr % 4294967296 := rfl
        rw [e1] at hcut
        have := hp.1
        unfold U32 at this
        omega)
      have hMb : msgB (oneM g17 p) = msgOf 2 (0 :: (1 + (needN p.len : Int)) :: p.len :: ([] ++ [0, 0])) := (by rw [msgB_of, oneM_body g17 hpk, hnn]; rfl)
      exact WE.mid ([], cs) ⟨rfl, Bys.nil, by rw [hk, hc0]; rfl, by
          rw [← hMb, ← hx, Nat.mul_one, hml], by omega⟩ (.cons rfl (.eq rfl (by rw [hml]) .nil)) (.refl _)
  · -- behind cut29
    rintro ⟨zs, cs2⟩ ⟨hz1, hz2, hz3, hz4, hz5⟩
    dsimp only at hz1 hz2 hz3 hz4 hz5
    dsimp only
    have hMl : (msgOf 2 (0 :: (1 + (needN p.len : Int)) :: p.len :: (zs ++ [0, 0]))).length = 24 + (k + 7) / 8 := (by rw [msgOf_len]; simp only [List.length_cons, List.length_append, List.length_nil]; omega)
    have hMd := decM_one p zs (by rw [hz1, hnn]) hlen hz3
    refine WC.seq ?_
    refine WC.region ?_
    refine WL.val (v_move rfl rfl) (.none rfl) rfl rfl ?_
    refine WL.call rfl rfl ck_17 (.none rfl) rfl rfl ?_
    intro w1 hS
    have hc := Decode_c w1 gb 0 c19 (msgOf 2 (0 :: (1 + (needN p.len : Int)) :: p.len :: (zs ++ [0, 0]))) (hG.keep (fun h => h) hS) (hZ.keep (fun h => h) hS) (Win.row hS (by rw [hMl]; exact hz4) (msgOf_bys (by decide) (Bys.cons (by decide) (Bys.cons (by omega) (Bys.cons (by omega) (hz2.app (Bys.cons (by decide) (Bys.cons (by decide) Bys.nil))))))) (by omega)) (by omega)
    rw [hMl] at hc
    refine hc.mono ?_
    intro e w' hD
    unfold DecP at hD
    rw [hMd] at hD
    obtain ⟨m, K, rfl, hmd, hM, hS'⟩ := hD
    have g1 : m.gone = [p] := congrArg MsD.gone hmd
    have g2' : m.nets = [] := congrArg MsD.nets hmd
    have g3 : m.fc = 0 := congrArg MsD.fc hmd
    have hgl : m.gone.length = 1 := (by rw [g1]; rfl)
    have hnl : m.nets.length = 0 := (by rw [g2']; rfl)
    obtain ⟨Eg, hVg, hmE⟩ := hM.gone
    obtain ⟨b', o', ea, hr⟩ := hVg.src (L := Eg) (fun e h => h) (by rw [hVg.len.1]; omega)
    refine ⟨_, _, rfl, hS.join hS', ?_⟩
    refine WL.val (v_move rfl rfl) (.none rfl) rfl rfl ?_
    refine WL.val (v_extract rfl rfl rfl) (.none rfl) rfl rfl ?_
    refine WL.val (v_extract rfl rfl rfl) (.none rfl) rfl rfl ?_
    refine WL.alloc rfl zero_43 (.none rfl) rfl rfl ?_
    intro g8 hg8
    refine WL.alloc rfl zero_25 (.none rfl) rfl rfl ?_
    intro g9 hg9
    refine WL.storeW rfl rfl rfl rfl many_43 rfl rfl (.none rfl) rfl ?_
    refine WL.storeW rfl rfl rfl rfl many_25 rfl rfl (.none rfl) rfl ?_
    refine WL.nil ?_
    refine WE.then_n ?_
    refine WC.seq ?_
    refine WC.quiet mixed (by kernel_rfl) ?_
    refine WQ.val (v_fieldAddr0 rfl rfl fld_25_0) (.none rfl) rfl rfl ?_
    refine WQ.val (v_load1 rfl rfl one_3 (cellAt rfl)) (.none rfl) rfl rfl ?_
    refine WQ.val ((v_eql rfl rfl rfl).t (by omega)) (.none rfl) rfl rfl ?_
    refine WQ.val (v_move rfl rfl) (.none rfl) rfl rfl ?_
    refine WQ.val (v_fieldAddr0 rfl rfl fld_43_5) (.some rfl rfl rfl) rfl rfl ?_
    refine WQ.val (v_load1 rfl rfl one_36 (cellAt rfl)) (.some rfl rfl rfl) rfl rfl ?_
    refine WQ.val (v_len_slice rfl rfl Tryd.underlying36) (.some rfl rfl rfl) rfl rfl ?_
    refine WQ.val ((v_eql rfl rfl rfl).t (by omega)) (.some rfl rfl rfl) rfl rfl ?_
    refine WQ.val (v_pick_t rfl rfl rfl) (.none rfl) rfl rfl ?_
    refine WQ.val (v_move rfl rfl) (.none rfl) rfl rfl ?_
    refine WQ.val (v_fieldAddr0 rfl rfl fld_43_5) (.some rfl rfl rfl) rfl rfl ?_
    refine WQ.val (v_load1 rfl rfl one_36 (cellAt rfl)) (.some rfl rfl rfl) rfl rfl ?_
    refine WQ.val (v_indexAddr (b := b') (off := o') (lo := 0) rfl (by show some (Value.slice m.gad _ _) = _; rw [ea]) rfl Tryd.underlying36 sz_65 rfl (by omega)) (.some rfl rfl rfl) rfl rfl ?_
    refine WQ.val (v_loadN (cs := p.cells) rfl rfl many_65 rfl (fun w' hS' => by
    have h1 := hr _ w0 w' ⟨hS'.frm, fun e he => hS'.holds e (.tail _ (.tail _ (List.mem_append_left _ (hmE e he)))), by
      rcases hVg with ⟨_, h, _⟩ | ⟨g, cs, _, rfl, _⟩
      · omega
      · simp, fun e he => hS'.mine e (.tail _ (.tail _ (List.mem_append_left _ (hmE e he))))⟩
    rw [g1] at h1
    exact h1)) (.some rfl rfl rfl) rfl rfl ?_
    refine WQ.val (v_loadN rfl rfl many_65 rfl allAt) (.some rfl rfl rfl) rfl rfl ?_
    refine WQ.val (v_eql_aggT rfl rfl rfl eqk_65 eqg_65 rfl rfl (by rfl)) (.some rfl rfl rfl) rfl rfl ?_
    refine WQ.val (v_pick_t rfl rfl rfl) (.none rfl) rfl rfl ?_
    refine WQ.val (v_move rfl rfl) (.none rfl) rfl rfl ?_
    refine WQ.val (v_fieldAddr0 rfl rfl fld_43_7) (.some rfl rfl rfl) rfl rfl ?_
    refine WQ.val (v_load1 rfl rfl one_36 (cellAt rfl)) (.some rfl rfl rfl) rfl rfl ?_
    refine WQ.val (v_len_slice rfl rfl Tryd.underlying36) (.some rfl rfl rfl) rfl rfl ?_
    refine WQ.val ((v_eql rfl rfl rfl).t (by omega)) (.some rfl rfl rfl) rfl rfl ?_
    refine WQ.val (v_pick_t rfl rfl rfl) (.none rfl) rfl rfl ?_
    refine WQ.val (v_assign rfl rfl) (.none rfl) rfl rfl ?_
    refine WQ.nil ?_
    refine WE.then_n ?_
    refine WC.ret ?_
    refine WE.ret1 (P := Tryd.prog) (.inl rfl) Tryd.results7 rfl ?_
    exact fun w' h => ⟨rfl, h.frm⟩
theorem BgpNets_all (w0 : World) (p : PfL) (junk : Int) (hp : U32 p.addr ∧ I64 p.len) (hG : GF w0) (hZ : GZ w0) :
    Calls Tryd.prog 7 #[.agg p.cells.toArray, .int .u32 junk] w0 fun e w' => e = .returned (.bool true) ∧ Frm (fun _ => False) w0 w' := by
  cases h : pfOk p
  · exact BgpNets_bad w0 p junk hp.1 h
  · exact BgpNets_ok w0 p junk hp hG hZ h
end Go.Proofs.YtpjbofodllhjbaaDoor
/- attr: the two tables that lie there. -/
namespace Go.Proofs.YtpjbofodllhjbaaDoor
open Go.RowKit

theorem laid_tail {P : Program} {x : String × DataW Unit} {r : List (String × DataW Unit)} {w : World} (h : laidMet P (x :: r) w) : laidMet P r w := by
  obtain ⟨ps, ⟨g, t, cs, fuel, p, q, _, _, _, _, hq, rfl⟩, hn, hc⟩ := h
  exact ⟨q, hq, (List.nodup_append.1 hn).2.1, fun b off hm => hc b off (List.mem_append_right _ hm)⟩
theorem laid_attr {w : World} (hL : laidMet Tryd.prog [("carrefour/attr.flags", Rows.laid_carrefour_attr_flags), ("carrefour/attr.sizes", Rows.laid_carrefour_attr_sizes)] w) : GF w ∧ GZ w := by
  constructor
  · have hT := Lib.tabIs_of_head (zs := [0, 64, 64, 64, 128, 64, 64, 192, 192]) (k := .i64) (show Tryd.prog.globalNamed "carrefour/attr.flags" = some 0 by kernel_rfl) (show (Tryd.prog.globals[0]?).map (·.type) = some 157 by kernel_rfl) Tryd.underlying157 Tryd.underlying3 (by kernel_rfl) (by kernel_rfl) hL
    intro i hi
    have := hT.cell (show Tryd.prog.globalNamed "carrefour/attr.flags" = some 0 by kernel_rfl) i hi
    match i, hi with
    | 0, _ | 1, _ | 2, _ | 3, _ | 4, _ | 5, _ | 6, _ | 7, _ | 8, _ => exact this
  · have hT := Lib.tabIs_of_head (zs := [0, 1, -1, 4, 4, 4, 0, 6, -1]) (k := .i64) (show Tryd.prog.globalNamed "carrefour/attr.sizes" = some 2 by kernel_rfl) (show (Tryd.prog.globals[2]?).map (·.type) = some 157 by kernel_rfl) Tryd.underlying157 Tryd.underlying3 (by kernel_rfl) (by kernel_rfl) (laid_tail hL)
    intro i hi
    have := hT.cell (show Tryd.prog.globalNamed "carrefour/attr.sizes" = some 2 by kernel_rfl) i hi
    match i, hi with
    | 0, _ | 1, _ | 2, _ | 3, _ | 4, _ | 5, _ | 6, _ | 7, _ | 8, _ => exact this
end Go.Proofs.YtpjbofodllhjbaaDoor
/- Arguments: a message of BGP. -/
namespace Go.Proofs.YtpjbofodllhjbaaDoor
open Go.RowKit

theorem rows_of {P : Program} {w : World} {e s len : Nat} {a : Option Addr} {α : Type} {enc : α → List Value} {good : α → Prop} (hx : ∀ cs, cs.length = s → Tree P w e cs → ∃ x, cs = enc x ∧ good x) (h : Elems P w e s a len) : ∃ xs : List α, xs.length = len ∧ RowsAt w a s enc xs ∧ ∀ x ∈ xs, good x := by
  by_cases hl : 0 < len
  · obtain ⟨b, off, rfl, hE⟩ := h hl
    have hE' : ∀ i : Fin len, ∃ x, w.rangeAt b (off + i.1 * s) (enc x) ∧ good x := fun i => by
      obtain ⟨cs, hc, hr, hT⟩ := hE i.1 i.2
      obtain ⟨x, rfl, hg⟩ := hx cs hc hT
      exact ⟨x, hr, hg⟩
    refine ⟨List.ofFn fun i => Classical.choose (hE' i), List.length_ofFn, fun i x hi => ?_, fun x hm => ?_⟩
    · rw [List.getElem?_ofFn] at hi
      split at hi
      · rename_i hlt
        obtain rfl := Option.some.inj hi
        exact ⟨b, off, rfl, (Classical.choose_spec (hE' ⟨i, hlt⟩)).1⟩
      · cases hi
    · obtain ⟨i, rfl⟩ := List.mem_ofFn.1 hm
      exact (Classical.choose_spec (hE' i)).2
  · refine ⟨[], by rw [List.length_nil]; omega, fun i x hi => by simp at hi, fun x hm => by cases hm⟩
theorem CellsAt.of_rows {w : World} {a : Option Addr} {f : Int → Value} {xs : List Int} (h : RowsAt w a 1 (fun x => [f x]) xs) : CellsAt w a (xs.map f) := fun hn => by
  rw [List.length_map] at hn
  obtain ⟨b, o, e, _⟩ := h 0 _ (List.getElem?_eq_getElem hn)
  refine ⟨b, o, e, fun j v hj => ?_⟩
  rw [List.getElem?_map] at hj
  cases hx : xs[j]? with
  | none => rw [hx] at hj; cases hj
  | some x =>
    rw [hx] at hj
    obtain rfl := Option.some.inj hj
    obtain ⟨b', o', e', hr⟩ := h j x hx
    rw [e] at e'
    cases e'
    have := hr 0 _ rfl
    rwa [Nat.mul_one, Nat.add_zero] at this
theorem Elems.u8 {w : World} {len : Nat} {a : Option Addr} (h : Elems Tryd.prog w 5 1 a len) : ∃ xs : List Int, xs.length = len ∧ CellsAt w a (u8s xs) ∧ Bys xs := by
  obtain ⟨xs, hl, hr, hg⟩ := rows_of (enc := fun x => [.int .u8 x]) (good := fun x => 0 ≤ x ∧ x ≤ 255) (fun cs hc hT => by
    match cs, hc with
    | [x], _ =>
      obtain ⟨n, rfl, hw⟩ := Tree.int Tryd.underlying5 hT
      exact ⟨n, rfl, wf_u8 hw⟩) h
  exact ⟨xs, hl, CellsAt.of_rows hr, hg⟩
theorem Elems.i64 {w : World} {len : Nat} {a : Option Addr} (h : Elems Tryd.prog w 3 1 a len) : ∃ xs : List Int, xs.length = len ∧ CellsAt w a (i64s xs) ∧ ∀ x ∈ xs, I64 x := by
  obtain ⟨xs, hl, hr, hg⟩ := rows_of (enc := fun x => [.int .i64 x]) (good := fun x => I64 x) (fun cs hc hT => by
    match cs, hc with
    | [x], _ =>
      obtain ⟨n, rfl, hw⟩ := Tree.int Tryd.underlying3 hT
      exact ⟨n, rfl, wf_i64 hw⟩) h
  exact ⟨xs, hl, CellsAt.of_rows hr, hg⟩
theorem Tree.u8sl {w : World} {x : Value} (h : Tree Tryd.prog w 22 [x]) : ∃ a cap, ∃ xs : List Int, x = .slice a xs.length cap ∧ xs.length ≤ cap ∧ cap ≤ maxLen ∧ CellsAt w a (u8s xs) ∧ Bys xs := by
  obtain ⟨a, len, cap, rfl, h1, h2, hE⟩ := Tree.slice (s := 1) Tryd.underlying22 (by kernel_rfl) (by decide) h
  obtain ⟨xs, rfl, hc, hb⟩ := Elems.u8 hE
  exact ⟨a, cap, xs, rfl, h1, h2, hc, hb⟩
theorem Tree.i64sl {w : World} {x : Value} (h : Tree Tryd.prog w 38 [x]) : ∃ a cap, ∃ xs : List Int, x = .slice a xs.length cap ∧ xs.length ≤ cap ∧ cap ≤ maxLen ∧ CellsAt w a (i64s xs) ∧ ∀ x ∈ xs, I64 x := by
  obtain ⟨a, len, cap, rfl, h1, h2, hE⟩ := Tree.slice (s := 1) Tryd.underlying38 (by kernel_rfl) (by decide) h
  obtain ⟨xs, rfl, hc, hb⟩ := Elems.i64 hE
  exact ⟨a, cap, xs, rfl, h1, h2, hc, hb⟩
theorem Tree.flatL {P : Program} {w : World} {t : TypeId} {cs : List Value} {ts : List TypeId} (h : Tree P w t cs) (F : Nat) (hl : layB P F t = true) (hf : flat P F t = ts) : Leaves P w ts cs := hf ▸ Tree.leaves F t cs hl h
theorem maxLen_le : maxLen ≤ 9223372036854775807 := by decide
theorem Tree.caps {w : World} {x : Value} (h : Tree Tryd.prog w 35 [x]) : ∃ a cap, ∃ xs : List CapL, x = .slice a xs.length cap ∧ xs.length ≤ 9223372036854775807 ∧ RowsAt w a 2 CapL.cells xs ∧ ∀ c ∈ xs, CellsAt w c.ad (u8s c.val) ∧ I64 c.code ∧ c.val.length ≤ 9223372036854775807 ∧ Bys c.val := by
  obtain ⟨a, len, cap, rfl, h1, h2, hE⟩ := Tree.slice (s := 2) Tryd.underlying35 (by kernel_rfl) (by decide) h
  have hm := maxLen_le
  obtain ⟨xs, rfl, hr, hg⟩ := rows_of (enc := CapL.cells) (good := fun c => CellsAt w c.ad (u8s c.val) ∧ I64 c.code ∧ c.val.length ≤ 9223372036854775807 ∧ Bys c.val) (fun cs hc hT => by
    have hL := Tree.flatL (ts := [3, 22]) hT 4 (by kernel_rfl) (by kernel_rfl)
    obtain ⟨x, _, rfl, hx, y, _, rfl, hy, rfl⟩ := hL
    obtain ⟨n, rfl, hw⟩ := Tree.int Tryd.underlying3 hx
    obtain ⟨a', cap', ys, rfl, k1, k2, k3, k4⟩ := Tree.u8sl hy
    exact ⟨⟨n, a', cap', ys⟩, rfl, k3, wf_i64 hw, by dsimp only; omega, k4⟩) hE
  exact ⟨a, cap, xs, rfl, by omega, hr, hg⟩
theorem Tree.segs {w : World} {x : Value} (h : Tree Tryd.prog w 37 [x]) : ∃ a cap, ∃ xs : List SegL, x = .slice a xs.length cap ∧ xs.length ≤ 9223372036854775807 ∧ RowsAt w a 2 SegL.cells xs ∧ ∀ c ∈ xs, CellsAt w c.ad (i64s c.asl) ∧ c.asl.length ≤ 9223372036854775807 ∧ ∀ x ∈ c.asl, I64 x := by
  obtain ⟨a, len, cap, rfl, h1, h2, hE⟩ := Tree.slice (s := 2) Tryd.underlying37 (by kernel_rfl) (by decide) h
  have hm := maxLen_le
  obtain ⟨xs, rfl, hr, hg⟩ := rows_of (enc := SegL.cells) (good := fun c => CellsAt w c.ad (i64s c.asl) ∧ c.asl.length ≤ 9223372036854775807 ∧ ∀ x ∈ c.asl, I64 x) (fun cs hc hT => by
    have hL := Tree.flatL (ts := [4, 38]) hT 4 (by kernel_rfl) (by kernel_rfl)
    obtain ⟨x, _, rfl, hx, y, _, rfl, hy, rfl⟩ := hL
    obtain ⟨n, rfl⟩ := Tree.bool Tryd.underlying4 hx
    obtain ⟨a', cap', ys, rfl, k1, k2, k3, k4⟩ := Tree.i64sl hy
    exact ⟨⟨n, a', cap', ys⟩, rfl, k3, by dsimp only; omega, k4⟩) hE
  exact ⟨a, cap, xs, rfl, by omega, hr, hg⟩
theorem Tree.oths {w : World} {x : Value} (h : Tree Tryd.prog w 39 [x]) : ∃ a cap, ∃ xs : List OthL, x = .slice a xs.length cap ∧ xs.length ≤ 9223372036854775807 ∧ RowsAt w a 2 OthL.cells xs ∧ ∀ c ∈ xs, CellsAt w c.ad (u8s c.val) ∧ I64 c.ty ∧ c.val.length ≤ 9223372036854775807 ∧ Bys c.val := by
  obtain ⟨a, len, cap, rfl, h1, h2, hE⟩ := Tree.slice (s := 2) Tryd.underlying39 (by kernel_rfl) (by decide) h
  have hm := maxLen_le
  obtain ⟨xs, rfl, hr, hg⟩ := rows_of (enc := OthL.cells) (good := fun c => CellsAt w c.ad (u8s c.val) ∧ I64 c.ty ∧ c.val.length ≤ 9223372036854775807 ∧ Bys c.val) (fun cs hc hT => by
    have hL := Tree.flatL (ts := [3, 22]) hT 4 (by kernel_rfl) (by kernel_rfl)
    obtain ⟨x, _, rfl, hx, y, _, rfl, hy, rfl⟩ := hL
    obtain ⟨n, rfl, hw⟩ := Tree.int Tryd.underlying3 hx
    obtain ⟨a', cap', ys, rfl, k1, k2, k3, k4⟩ := Tree.u8sl hy
    exact ⟨⟨n, a', cap', ys⟩, rfl, k3, wf_i64 hw, by dsimp only; omega, k4⟩) hE
  exact ⟨a, cap, xs, rfl, by omega, hr, hg⟩
end Go.Proofs.YtpjbofodllhjbaaDoor
