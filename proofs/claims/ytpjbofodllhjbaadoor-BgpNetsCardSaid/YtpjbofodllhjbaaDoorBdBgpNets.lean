/- Texts joined: engine, contracts and laws, in the order in which they build. -/
import Derived.Test.YtpjbofodllhjbaaDoorBcBgpNets
/- attr: the bytes of a value. -/
namespace Go.Proofs.YtpjbofodllhjbaaDoor
open Go.RowKit

/-- A slice of bytes, as long as the list says. -/
abbrev BV (ad : Option Addr) (c : Nat) (xs : List Int) (E : List Ent) : Prop := Vec 1 ad xs.length c (u8s xs) E
/-- The same, made by a call beside what was there. -/
def OwnB (w w' : World) (xs : List Int) (v : Value) : Prop := ∃ ad c E, v = .slice ad xs.length c ∧ BV ad c xs E ∧ St (fun _ => False) w w' E
theorem Vec.toB {ad : Option Addr} {k c : Nat} {xs : List Int} {E : List Ent} (h : Vec 1 ad k c (u8s xs) E) : k = xs.length := by
  have := h.len.1
  rw [u8s_len] at this
  omega
theorem num_n (p : Nat → Prop) (w0 w1 : World) (L E : List Ent) (ad : Option Addr) (c : Nat) (xs : List Int) (n : Int) (s : Nat) (hV : BV ad c xs E) (hS0 : St p w0 w1 (E ++ L)) (hk : xs.length ≤ 1000000) (hs : s ≤ 4) :
    Calls Tryd.prog 100 #[.slice ad xs.length c, .int .i64 n, .int .i64 s] w1 fun e w' => ∃ ad' c' E', e = .returned (.slice ad' (xs ++ numB n s).length c') ∧ BV ad' c' (xs ++ numB n s) E' ∧ St p w0 w' (E' ++ L) :=
  (num_c p w0 w1 L E ad _ c xs n s hV hS0 hk hs).mono (by
    rintro e w' ⟨ad', c', E', rfl, hV', hS'⟩
    have := hV'.toB
    rw [this] at hV' ⊢
    exact ⟨ad', c', E', rfl, hV', hS'⟩)
def segE (s : SegL) : List Int := numB (if s.set then 1 else 2) 1 ++ numB s.asl.length 1 ++ s.asl.flatMap fun x => numB x 2
def valE (a : AtL) (t : Nat) : List Int :=
  if t = 1 then numB a.origin 1 else if t = 2 then a.path.flatMap segE else if t = 3 then numB a.hop 4 else if t = 4 then numB a.med 4
  else if t = 5 then numB a.loc 4 else if t = 7 then numB a.aas 2 ++ numB a.aid 4 else if t = 8 then a.comms.flatMap fun x => numB x 4 else []
theorem drop_cons' {α : Type} {xs : List α} {k : Nat} {x : α} (h : xs[k]? = some x) : xs.drop k = x :: xs.drop (k + 1) := by
  obtain ⟨hlt, e⟩ := List.getElem?_eq_some_iff.1 h
  rw [← e]; exact List.drop_eq_getElem_cons hlt
theorem OwnB.of {w w' : World} {ad : Option Addr} {c : Nat} {xs ys : List Int} {E L : List Ent} (hV : BV ad c xs E) (h : St (fun _ => False) w w' (E ++ L)) (e : xs = ys) : OwnB w w' ys (.slice ad xs.length c) := by
  subst e; exact ⟨ad, c, E, rfl, hV, h.sub (List.sublist_append_left _ _)⟩
theorem flat_len2 (xs : List Int) (m : Nat) : (xs.flatMap fun x => numB x m).length = m * xs.length := by
  induction xs with
  | nil => rfl
  | cons x xs ih => rw [List.flatMap_cons, List.length_append, ih, numB_len, List.length_cons, Nat.mul_succ]; omega
theorem segE_len (s : SegL) : (segE s).length = 2 + 2 * s.asl.length := by
  unfold segE
  rw [List.length_append, List.length_append, numB_len, numB_len, flat_len2]
set_option maxHeartbeats 4000000 in
theorem value_c (w : World) (a : AtL) (t : Nat) (hA : a.At w) (hI : a.In) (hB : (valE a t).length ≤ 900000) :
    Calls Tryd.prog 90 #[.agg a.cells.toArray, .int .i64 t] w fun e w' => ∃ v, e = .returned v ∧ OwnB w w' (valE a t) v := by
  refine enter Tryd.func90 rfl Tryd.ntmps90 rfl (St.start (fun _ => False) w) ?_
  refine WC.seq ?_
  refine WC.region ?_
  refine WL.box rfl rfl rfl (.none rfl) rfl rfl ?_
  intro g2 hg2
  refine WL.val (v_assign rfl rfl) (.none rfl) rfl rfl ?_
  refine WL.nil ?_
  refine WE.then_n ?_
  refine WC.seq ?_
  refine WC.region ?_
  refine WL.val (v_assign rfl rfl) (.none rfl) rfl rfl ?_
  refine WL.nil ?_
  refine WE.then_n ?_
  refine WC.seq ?_
  refine WC.seq ?_
  refine WC.region ?_
  refine WL.val (v_move rfl rfl) (.none rfl) rfl rfl ?_
  refine WL.nil ?_
  refine WE.then_n ?_
  refine WC.block ?_
  refine WC.seq ?_
  refine WC.region ?_
  refine WL.test (v_eql rfl rfl rfl) (.none rfl) rfl rfl (fun h15 => ?_) (fun h15 => ?_)
  · -- 15T
    refine WL.val (v_assign rfl rfl) (.none rfl) rfl rfl ?_
    refine WL.nil ?_
    refine WE.then_n ?_
    refine WC.cond_t rfl ?_
    refine WC.region ?_
    refine WL.val (v_move rfl rfl) (.none rfl) rfl rfl ?_
    refine WL.val (v_fieldAddr0 rfl rfl fld_41_1) (.none rfl) rfl rfl ?_
    refine WL.val (v_load1 rfl rfl one_3 (cellAt rfl)) (.none rfl) rfl rfl ?_
    refine WL.call rfl rfl ck_100 (.none rfl) rfl rfl ?_
    intro w1 hS
    refine (num_n (fun _ => False) w w1 _ [] none 0 [] a.origin 1 (Vec.nil 1) hS (by decide) (by decide)).mono ?_
    rintro e w' ⟨ad19, c19, E19, rfl, hV19, hS'⟩
    refine ⟨_, _, rfl, hS', ?_⟩
    refine WL.val (v_assign rfl rfl) (.none rfl) rfl rfl ?_
    refine WL.nil ?_
    refine WE.block_n ?_
    refine WE.then_n ?_
    refine WC.seq ?_
    refine WC.region ?_
    refine WL.val (v_move rfl rfl) (.none rfl) rfl rfl ?_
    refine WL.val (v_assign rfl rfl) (.none rfl) rfl rfl ?_
    refine WL.nil ?_
    refine WE.then_n ?_
    refine WC.ret ?_
    refine WE.ret1 (P := Tryd.prog) (.inl rfl) Tryd.results90 rfl ?_
    exact fun w' h => ⟨_, rfl, OwnB.of hV19 h (by unfold valE; rw [if_pos (by omega)]; rfl)⟩
  · -- 15F
    refine WL.val (v_assign rfl rfl) (.none rfl) rfl rfl ?_
    refine WL.nil ?_
    refine WE.then_n ?_
    refine WC.cond_f rfl ?_
    refine WC.seq ?_
    refine WC.region ?_
    refine WL.test (v_eql rfl rfl rfl) (.none rfl) rfl rfl (fun h21 => ?_) (fun h21 => ?_)
    · -- 21T
      refine WL.val (v_assign rfl rfl) (.none rfl) rfl rfl ?_
      refine WL.nil ?_
      refine WE.then_n ?_
      refine WC.cond_t rfl ?_
      refine WC.seq ?_
      refine WC.region ?_
      have e0 : valE a t = a.path.flatMap segE := (by unfold valE; rw [if_neg (by omega), if_pos (by omega)])
      rw [e0] at hB ⊢
      refine WL.val (v_fieldAddr0 rfl rfl fld_41_2) (.none rfl) rfl rfl ?_
      refine WL.val (v_load1 rfl rfl one_37 (cellAt rfl)) (.none rfl) rfl rfl ?_
      refine WL.val (v_len_slice rfl rfl Tryd.underlying37) (.none rfl) rfl rfl ?_
      refine WL.val (v_move rfl rfl) (.none rfl) rfl rfl ?_
      refine WL.nil ?_
      refine WE.then_n ?_
      refine WC.block ?_
      refine WC.loop (fun x : Nat × List Int × Option Addr × Nat × List Ent => [(25, .int .i64 x.1), (24, .int .i64 a.path.length), (23, .slice a.pad a.path.length a.pc), (5, .slice x.2.2.1 x.2.1.length x.2.2.2.1)]) (fun x => x.2.2.2.2 ++ []) (fun x => x.1 ≤ a.path.length ∧ x.2.1 ++ (a.path.drop x.1).flatMap segE = a.path.flatMap segE ∧ BV x.2.2.1 x.2.2.2.1 x.2.1 x.2.2.2.2) (fun x => a.path.length - x.1) (0, [], none, 0, []) ⟨Nat.zero_le _, rfl, Vec.nil 1⟩ (.cons rfl (.cons rfl (.cons rfl (.cons rfl .nil)))) (List.nil_sublist _) ?_
      rintro ⟨k, ys, ad, c, E⟩ ⟨hk, hy, hV⟩
      dsimp only at hk hy hV
      dsimp only
      have hlenP := hI.lens.1
      refine WC.seq ?_
      refine WC.region ?_
      refine WL.test (v_lss rfl rfl rfl) (.none rfl) rfl rfl (fun h26 => ?_) (fun h26 => ?_)
      · -- 26T
        refine WL.nil ?_
        refine WE.then_n ?_
        refine WC.seq ?_
        refine WC.cond_t rfl ?_
        refine WC.skip ?_
        refine WE.then_n ?_
        refine WC.seq ?_
        refine WC.block ?_
        refine WC.seq ?_
        refine WC.region ?_
        obtain ⟨s, hs⟩ : ∃ s, a.path[k]? = some s := ⟨a.path[k]'(by omega), List.getElem?_eq_getElem _⟩
        obtain ⟨b, o, ea, hr⟩ := hA.path k s hs
        have hsm := List.mem_of_getElem? hs
        have hsI := hI.segs s hsm
        rw [drop_cons' hs, List.flatMap_cons] at hy
        have hyl : ys.length + 2 + 2 * s.asl.length ≤ 900000 := (by
          rw [← hy, List.length_append, List.length_append, segE_len] at hB
          omega)
        refine WL.val ((v_indexAddr (b := b) (off := o) (lo := k) rfl (by show some (Value.slice a.pad _ _) = _; rw [ea]) rfl Tryd.underlying37 sz_113 rfl (by omega))) (.none rfl) rfl rfl ?_
        refine WL.val ((v_loadN (cs := s.cells) rfl rfl many_113 rfl (rgIn (fun h => h) hr))) (.none rfl) rfl rfl ?_
        refine WL.alloc rfl zero_113 (.none rfl) rfl rfl ?_
        intro g7 hg7
        refine WL.storeW rfl rfl rfl rfl many_113 rfl rfl (.none rfl) rfl ?_
        refine WL.to (L' := E ++ [.row g7 s.cells]) (fun w hS => hS.front [_]) ?_
        refine WL.nil ?_
        refine WE.then_n ?_
        refine WC.seq ?_
        refine WC.region ?_
        refine WL.val (v_assign rfl rfl) (.none rfl) rfl rfl ?_
        refine WL.nil ?_
        refine WE.then_n ?_
        refine WC.seq ?_
        refine WC.seq ?_
        refine WC.region ?_
        refine WL.val (v_fieldAddr0 rfl rfl fld_113_0) (.none rfl) rfl rfl ?_
        refine WL.val (v_load1 rfl rfl one_4 (cellAt rfl)) (.none rfl) rfl rfl ?_
        generalize hset : s.set = b30
        cases b30
        · -- 30F
          refine WL.nil ?_
          refine WE.then_n ?_
          refine WC.cond_f rfl ?_
          refine WC.skip ?_
          refine WE.then_n ?_
          refine WC.cut (fun x : List Int × Option Addr × Nat × List Ent => [(5, .slice x.2.1 x.1.length x.2.2.1), (25, .int .i64 k), (24, .int .i64 a.path.length), (23, .slice a.pad a.path.length a.pc), (7, .pointer (some ⟨g7, 0, none⟩))]) (fun x => x.2.2.2 ++ [.row g7 s.cells]) (fun x => x.1 = ys ++ numB (if s.set then 1 else 2) 1 ++ numB s.asl.length 1 ∧ BV x.2.1 x.2.2.1 x.1 x.2.2.2) ?_ ?_
          · -- cutr12
            refine WC.orders mixed ?_
            refine WR.first (g := 5) [0, 1, 3] (by kernel_rfl) (by kernel_rfl) ?_
            refine WP.val (v_move rfl rfl) (.none rfl) rfl rfl ?_
            refine WP.val (v_move rfl rfl) (.none rfl) rfl rfl ?_
            refine WP.val (v_fieldAddr0 rfl rfl fld_113_1) (.none rfl) rfl rfl ?_
            refine WP.nil ?_
            refine WR.each (g := 4) [2, 4] (by kernel_rfl) (by decide) ?_
            refine ⟨?_, ?_⟩
            · -- next 2
              refine WL.call rfl rfl ck_100 (.none rfl) rfl rfl ?_
              intro w1 hS
              refine (num_n (fun _ => False) w w1 _ _ _ _ _ 2 1 hV hS (by first | omega | decide) (by omega)).mono ?_
              rintro e w' ⟨ad33, c33, E33, rfl, hV33, hS'⟩
              refine ⟨_, _, rfl, hS', ?_⟩
              refine WL.nilR ?_
              refine WR.read (g := 2) [4, 5] (by kernel_rfl) (by kernel_rfl) (by kernel_rfl) (by kernel_rfl) rfl ?_
              refine WQ.val (v_load1 rfl rfl one_38 (cellAt rfl)) (.none rfl) rfl rfl ?_
              refine WQ.val (v_len_slice rfl rfl Tryd.underlying38) (.none rfl) rfl rfl ?_
              refine WQ.nilR ?_
              refine WR.ones (g := 1) [6] (by kernel_rfl) ?_
              refine WL.call rfl rfl ck_100 (.none rfl) rfl rfl ?_
              intro w1 hS
              refine (num_n (fun _ => False) w w1 _ _ _ _ _ s.asl.length 1 hV33 hS (by rw [List.length_append, numB_len]; omega) (by omega)).mono ?_
              rintro e w' ⟨ad37, c37, E37, rfl, hV37, hS'⟩
              refine ⟨_, _, rfl, hS', ?_⟩
              refine WL.nilR ?_
              refine WR.first (g := 0) [7] (by kernel_rfl) (by kernel_rfl) ?_
              refine WP.val (v_assign rfl rfl) (.none rfl) rfl rfl ?_
              refine WP.nil ?_
              refine WR.done (by kernel_rfl) ?_
              exact WE.mid (_, ad37, c37, E37) ⟨by dsimp only; rw [hset]; rfl, hV37⟩ (.cons rfl (.cons rfl (.cons rfl (.cons rfl (.cons rfl .nil))))) (.refl _)
            · -- next 4
              refine WL.val (v_load1 rfl rfl one_38 (cellAt rfl)) (.none rfl) rfl rfl ?_
              refine WL.nilR ?_
              refine WR.first (g := 3) [5] (by kernel_rfl) (by kernel_rfl) ?_
              refine WP.val (v_len_slice rfl rfl Tryd.underlying38) (.none rfl) rfl rfl ?_
              refine WP.nil ?_
              refine WR.ones (g := 1) [2, 6] (by kernel_rfl) ?_
              refine WL.call rfl rfl ck_100 (.none rfl) rfl rfl ?_
              intro w1 hS
              refine (num_n (fun _ => False) w w1 _ _ _ _ _ 2 1 hV hS (by first | omega | decide) (by omega)).mono ?_
              rintro e w' ⟨ad33, c33, E33, rfl, hV33, hS'⟩
              refine ⟨_, _, rfl, hS', ?_⟩
              refine WL.call rfl rfl ck_100 (.none rfl) rfl rfl ?_
              intro w1 hS
              refine (num_n (fun _ => False) w w1 _ _ _ _ _ s.asl.length 1 hV33 hS (by rw [List.length_append, numB_len]; omega) (by omega)).mono ?_
              rintro e w' ⟨ad37, c37, E37, rfl, hV37, hS'⟩
              refine ⟨_, _, rfl, hS', ?_⟩
              refine WL.nilR ?_
              refine WR.first (g := 0) [7] (by kernel_rfl) (by kernel_rfl) ?_
              refine WP.val (v_assign rfl rfl) (.none rfl) rfl rfl ?_
              refine WP.nil ?_
              refine WR.done (by kernel_rfl) ?_
              exact WE.mid (_, ad37, c37, E37) ⟨by dsimp only; rw [hset]; rfl, hV37⟩ (.cons rfl (.cons rfl (.cons rfl (.cons rfl (.cons rfl .nil))))) (.refl _)
          · -- behind cutr12
            rintro ⟨zs, ad2, c2, E2⟩ ⟨hz, hV2⟩
            dsimp only at hz hV2
            dsimp only
            refine WC.seq ?_
            refine WC.region ?_
            refine WL.val (v_fieldAddr0 rfl rfl fld_113_1) (.none rfl) rfl rfl ?_
            refine WL.val (v_load1 rfl rfl one_38 (cellAt rfl)) (.none rfl) rfl rfl ?_
            refine WL.val (v_len_slice rfl rfl Tryd.underlying38) (.none rfl) rfl rfl ?_
            refine WL.val (v_move rfl rfl) (.none rfl) rfl rfl ?_
            refine WL.nil ?_
            refine WE.then_n ?_
            refine WC.block ?_
            refine WC.loop (fun x : Nat × List Int × Option Addr × Nat × List Ent => [(41, .int .i64 x.1), (40, .int .i64 s.asl.length), (39, .slice s.ad s.asl.length s.cap), (5, .slice x.2.2.1 x.2.1.length x.2.2.2.1), (25, .int .i64 k), (24, .int .i64 a.path.length), (23, .slice a.pad a.path.length a.pc)]) (fun x => x.2.2.2.2 ++ []) (fun x => x.1 ≤ s.asl.length ∧ x.2.1.length = ys.length + 2 + 2 * x.1 ∧ x.2.1 ++ (s.asl.drop x.1).flatMap (fun y => numB y 2) = ys ++ segE s ∧ BV x.2.2.1 x.2.2.2.1 x.2.1 x.2.2.2.2) (fun x => s.asl.length - x.1) (0, zs, ad2, c2, E2) ⟨Nat.zero_le _, by dsimp only; rw [hz, List.length_append, List.length_append, numB_len, numB_len], by dsimp only; rw [hz, List.append_assoc, List.append_assoc]; rfl, hV2⟩ (.cons rfl (.cons rfl (.cons rfl (.cons rfl (.cons rfl (.cons rfl (.cons rfl .nil))))))) (List.Sublist.append_left (List.nil_sublist _) _) ?_
            rintro ⟨i, us, ad3, c3, E3⟩ ⟨hi, hul, hu, hV3⟩
            dsimp only at hi hul hu hV3
            dsimp only
            refine WC.seq ?_
            refine WC.region ?_
            refine WL.test (v_lss rfl rfl rfl) (.none rfl) rfl rfl (fun h42 => ?_) (fun h42 => ?_)
            · -- 42T
              refine WL.nil ?_
              refine WE.then_n ?_
              refine WC.seq ?_
              refine WC.cond_t rfl ?_
              refine WC.skip ?_
              refine WE.then_n ?_
              refine WC.seq ?_
              refine WC.block ?_
              refine WC.seq ?_
              refine WC.region ?_
              obtain ⟨x, hx⟩ : ∃ x, s.asl[i]? = some x := ⟨s.asl[i]'(by omega), List.getElem?_eq_getElem _⟩
              obtain ⟨b2, o2, ea2, hr2⟩ := hA.segs s hsm (by rw [i64s_len]; omega)
              rw [drop_cons' hx, List.flatMap_cons] at hu
              refine WL.val ((v_indexAddr (b := b2) (off := o2) (lo := i) rfl (by show some (Value.slice s.ad _ _) = _; rw [ea2]) rfl Tryd.underlying38 sz_3 rfl (by omega))) (.none rfl) rfl rfl ?_
              refine WL.val (v_load1 rfl rfl one_3 (cellOld (v := .int .i64 x) (fun h => h) (by rw [Nat.mul_one]; exact hr2 i _ (i64s_get hx)))) (.none rfl) rfl rfl ?_
              refine WL.val (v_assign rfl rfl) (.none rfl) rfl rfl ?_
              refine WL.nil ?_
              refine WE.then_n ?_
              refine WC.region ?_
              refine WL.val (v_move rfl rfl) (.none rfl) rfl rfl ?_
              refine WL.val (v_move rfl rfl) (.none rfl) rfl rfl ?_
              refine WL.call rfl rfl ck_100 (.none rfl) rfl rfl ?_
              intro w1 hS
              refine (num_n (fun _ => False) w w1 _ _ _ _ _ x 2 hV3 hS (by first | omega | decide) (by omega)).mono ?_
              rintro e w' ⟨ad47, c47, E47, rfl, hV47, hS'⟩
              refine ⟨_, _, rfl, hS', ?_⟩
              refine WL.val (v_assign rfl rfl) (.none rfl) rfl rfl ?_
              refine WL.nil ?_
              refine WE.block_n ?_
              refine WE.then_n ?_
              refine WC.region ?_
              refine WL.val (v_add rfl rfl rfl (w_i64 (by omega) (by omega))) (.none rfl) rfl rfl ?_
              refine WL.val (v_move rfl rfl) (.none rfl) rfl rfl ?_
              refine WL.nil ?_
              exact WE.next (i + 1, us ++ numB x 2, ad47, c47, E47) (by dsimp only; omega) ⟨by dsimp only; omega, by dsimp only; rw [List.length_append, numB_len]; omega, by dsimp only; rw [List.append_assoc]; exact hu, hV47⟩ (.int rfl (by dsimp only; omega) (.cons rfl (.cons rfl (.cons rfl (.cons rfl (.cons rfl (.cons rfl .nil))))))) (.refl _)
            · -- 42F
              refine WL.nil ?_
              refine WE.then_n ?_
              refine WC.seq ?_
              refine WC.cond_f rfl ?_
              refine WC.exit ?_
              refine WE.then_exit ?_
              refine WE.then_exit ?_
              refine WE.block_hit ?_
              refine WE.block_n ?_
              refine WE.then_n ?_
              refine WC.region ?_
              obtain rfl : i = s.asl.length := (by omega)
              rw [List.drop_length, List.flatMap_nil, List.append_nil] at hu
              refine WL.val (v_add rfl rfl rfl (w_i64 (by omega) (by omega))) (.none rfl) rfl rfl ?_
              refine WL.val (v_move rfl rfl) (.none rfl) rfl rfl ?_
              refine WL.nil ?_
              exact WE.next (k + 1, us, ad3, c3, E3) (by dsimp only; omega) ⟨by dsimp only; omega, by dsimp only; rw [hu, List.append_assoc]; exact hy, hV3⟩ (.int rfl (by dsimp only; omega) (.cons rfl (.cons rfl (.cons rfl .nil)))) (.refl _)
        · -- 30T
          refine WL.nil ?_
          refine WE.then_n ?_
          refine WC.cond_t rfl ?_
          refine WC.region ?_
          refine WL.val (v_assign rfl rfl) (.none rfl) rfl rfl ?_
          refine WL.nil ?_
          refine WE.then_n ?_
          refine WC.cut (fun x : List Int × Option Addr × Nat × List Ent => [(5, .slice x.2.1 x.1.length x.2.2.1), (25, .int .i64 k), (24, .int .i64 a.path.length), (23, .slice a.pad a.path.length a.pc), (7, .pointer (some ⟨g7, 0, none⟩))]) (fun x => x.2.2.2 ++ [.row g7 s.cells]) (fun x => x.1 = ys ++ numB (if s.set then 1 else 2) 1 ++ numB s.asl.length 1 ∧ BV x.2.1 x.2.2.1 x.1 x.2.2.2) ?_ ?_
          · -- cutr12
            refine WC.orders mixed ?_
            refine WR.first (g := 5) [0, 1, 3] (by kernel_rfl) (by kernel_rfl) ?_
            refine WP.val (v_move rfl rfl) (.none rfl) rfl rfl ?_
            refine WP.val (v_move rfl rfl) (.none rfl) rfl rfl ?_
            refine WP.val (v_fieldAddr0 rfl rfl fld_113_1) (.none rfl) rfl rfl ?_
            refine WP.nil ?_
            refine WR.each (g := 4) [2, 4] (by kernel_rfl) (by decide) ?_
            refine ⟨?_, ?_⟩
            · -- next 2
              refine WL.call rfl rfl ck_100 (.none rfl) rfl rfl ?_
              intro w1 hS
              refine (num_n (fun _ => False) w w1 _ _ _ _ _ 1 1 hV hS (by first | omega | decide) (by omega)).mono ?_
              rintro e w' ⟨ad33, c33, E33, rfl, hV33, hS'⟩
              refine ⟨_, _, rfl, hS', ?_⟩
              refine WL.nilR ?_
              refine WR.read (g := 2) [4, 5] (by kernel_rfl) (by kernel_rfl) (by kernel_rfl) (by kernel_rfl) rfl ?_
              refine WQ.val (v_load1 rfl rfl one_38 (cellAt rfl)) (.none rfl) rfl rfl ?_
              refine WQ.val (v_len_slice rfl rfl Tryd.underlying38) (.none rfl) rfl rfl ?_
              refine WQ.nilR ?_
              refine WR.ones (g := 1) [6] (by kernel_rfl) ?_
              refine WL.call rfl rfl ck_100 (.none rfl) rfl rfl ?_
              intro w1 hS
              refine (num_n (fun _ => False) w w1 _ _ _ _ _ s.asl.length 1 hV33 hS (by rw [List.length_append, numB_len]; omega) (by omega)).mono ?_
              rintro e w' ⟨ad37, c37, E37, rfl, hV37, hS'⟩
              refine ⟨_, _, rfl, hS', ?_⟩
              refine WL.nilR ?_
              refine WR.first (g := 0) [7] (by kernel_rfl) (by kernel_rfl) ?_
              refine WP.val (v_assign rfl rfl) (.none rfl) rfl rfl ?_
              refine WP.nil ?_
              refine WR.done (by kernel_rfl) ?_
              exact WE.mid (_, ad37, c37, E37) ⟨by dsimp only; rw [hset]; rfl, hV37⟩ (.cons rfl (.cons rfl (.cons rfl (.cons rfl (.cons rfl .nil))))) (.refl _)
            · -- next 4
              refine WL.val (v_load1 rfl rfl one_38 (cellAt rfl)) (.none rfl) rfl rfl ?_
              refine WL.nilR ?_
              refine WR.first (g := 3) [5] (by kernel_rfl) (by kernel_rfl) ?_
              refine WP.val (v_len_slice rfl rfl Tryd.underlying38) (.none rfl) rfl rfl ?_
              refine WP.nil ?_
              refine WR.ones (g := 1) [2, 6] (by kernel_rfl) ?_
              refine WL.call rfl rfl ck_100 (.none rfl) rfl rfl ?_
              intro w1 hS
              refine (num_n (fun _ => False) w w1 _ _ _ _ _ 1 1 hV hS (by first | omega | decide) (by omega)).mono ?_
              rintro e w' ⟨ad33, c33, E33, rfl, hV33, hS'⟩
              refine ⟨_, _, rfl, hS', ?_⟩
              refine WL.call rfl rfl ck_100 (.none rfl) rfl rfl ?_
              intro w1 hS
              refine (num_n (fun _ => False) w w1 _ _ _ _ _ s.asl.length 1 hV33 hS (by rw [List.length_append, numB_len]; omega) (by omega)).mono ?_
              rintro e w' ⟨ad37, c37, E37, rfl, hV37, hS'⟩
              refine ⟨_, _, rfl, hS', ?_⟩
              refine WL.nilR ?_
              refine WR.first (g := 0) [7] (by kernel_rfl) (by kernel_rfl) ?_
              refine WP.val (v_assign rfl rfl) (.none rfl) rfl rfl ?_
              refine WP.nil ?_
              refine WR.done (by kernel_rfl) ?_
              exact WE.mid (_, ad37, c37, E37) ⟨by dsimp only; rw [hset]; rfl, hV37⟩ (.cons rfl (.cons rfl (.cons rfl (.cons rfl (.cons rfl .nil))))) (.refl _)
          · -- behind cutr12
            rintro ⟨zs, ad2, c2, E2⟩ ⟨hz, hV2⟩
            dsimp only at hz hV2
            dsimp only
            refine WC.seq ?_
            refine WC.region ?_
            refine WL.val (v_fieldAddr0 rfl rfl fld_113_1) (.none rfl) rfl rfl ?_
            refine WL.val (v_load1 rfl rfl one_38 (cellAt rfl)) (.none rfl) rfl rfl ?_
            refine WL.val (v_len_slice rfl rfl Tryd.underlying38) (.none rfl) rfl rfl ?_
            refine WL.val (v_move rfl rfl) (.none rfl) rfl rfl ?_
            refine WL.nil ?_
            refine WE.then_n ?_
            refine WC.block ?_
            refine WC.loop (fun x : Nat × List Int × Option Addr × Nat × List Ent => [(41, .int .i64 x.1), (40, .int .i64 s.asl.length), (39, .slice s.ad s.asl.length s.cap), (5, .slice x.2.2.1 x.2.1.length x.2.2.2.1), (25, .int .i64 k), (24, .int .i64 a.path.length), (23, .slice a.pad a.path.length a.pc)]) (fun x => x.2.2.2.2 ++ []) (fun x => x.1 ≤ s.asl.length ∧ x.2.1.length = ys.length + 2 + 2 * x.1 ∧ x.2.1 ++ (s.asl.drop x.1).flatMap (fun y => numB y 2) = ys ++ segE s ∧ BV x.2.2.1 x.2.2.2.1 x.2.1 x.2.2.2.2) (fun x => s.asl.length - x.1) (0, zs, ad2, c2, E2) ⟨Nat.zero_le _, by dsimp only; rw [hz, List.length_append, List.length_append, numB_len, numB_len], by dsimp only; rw [hz, List.append_assoc, List.append_assoc]; rfl, hV2⟩ (.cons rfl (.cons rfl (.cons rfl (.cons rfl (.cons rfl (.cons rfl (.cons rfl .nil))))))) (List.Sublist.append_left (List.nil_sublist _) _) ?_
            rintro ⟨i, us, ad3, c3, E3⟩ ⟨hi, hul, hu, hV3⟩
            dsimp only at hi hul hu hV3
            dsimp only
            refine WC.seq ?_
            refine WC.region ?_
            refine WL.test (v_lss rfl rfl rfl) (.none rfl) rfl rfl (fun h42 => ?_) (fun h42 => ?_)
            · -- 42T
              refine WL.nil ?_
              refine WE.then_n ?_
              refine WC.seq ?_
              refine WC.cond_t rfl ?_
              refine WC.skip ?_
              refine WE.then_n ?_
              refine WC.seq ?_
              refine WC.block ?_
              refine WC.seq ?_
              refine WC.region ?_
              obtain ⟨x, hx⟩ : ∃ x, s.asl[i]? = some x := ⟨s.asl[i]'(by omega), List.getElem?_eq_getElem _⟩
              obtain ⟨b2, o2, ea2, hr2⟩ := hA.segs s hsm (by rw [i64s_len]; omega)
              rw [drop_cons' hx, List.flatMap_cons] at hu
              refine WL.val ((v_indexAddr (b := b2) (off := o2) (lo := i) rfl (by show some (Value.slice s.ad _ _) = _; rw [ea2]) rfl Tryd.underlying38 sz_3 rfl (by omega))) (.none rfl) rfl rfl ?_
              refine WL.val (v_load1 rfl rfl one_3 (cellOld (v := .int .i64 x) (fun h => h) (by rw [Nat.mul_one]; exact hr2 i _ (i64s_get hx)))) (.none rfl) rfl rfl ?_
              refine WL.val (v_assign rfl rfl) (.none rfl) rfl rfl ?_
              refine WL.nil ?_
              refine WE.then_n ?_
              refine WC.region ?_
              refine WL.val (v_move rfl rfl) (.none rfl) rfl rfl ?_
              refine WL.val (v_move rfl rfl) (.none rfl) rfl rfl ?_
              refine WL.call rfl rfl ck_100 (.none rfl) rfl rfl ?_
              intro w1 hS
              refine (num_n (fun _ => False) w w1 _ _ _ _ _ x 2 hV3 hS (by first | omega | decide) (by omega)).mono ?_
              rintro e w' ⟨ad47, c47, E47, rfl, hV47, hS'⟩
              refine ⟨_, _, rfl, hS', ?_⟩
              refine WL.val (v_assign rfl rfl) (.none rfl) rfl rfl ?_
              refine WL.nil ?_
              refine WE.block_n ?_
              refine WE.then_n ?_
              refine WC.region ?_
              refine WL.val (v_add rfl rfl rfl (w_i64 (by omega) (by omega))) (.none rfl) rfl rfl ?_
              refine WL.val (v_move rfl rfl) (.none rfl) rfl rfl ?_
              refine WL.nil ?_
              exact WE.next (i + 1, us ++ numB x 2, ad47, c47, E47) (by dsimp only; omega) ⟨by dsimp only; omega, by dsimp only; rw [List.length_append, numB_len]; omega, by dsimp only; rw [List.append_assoc]; exact hu, hV47⟩ (.int rfl (by dsimp only; omega) (.cons rfl (.cons rfl (.cons rfl (.cons rfl (.cons rfl (.cons rfl .nil))))))) (.refl _)
            · -- 42F
              refine WL.nil ?_
              refine WE.then_n ?_
              refine WC.seq ?_
              refine WC.cond_f rfl ?_
              refine WC.exit ?_
              refine WE.then_exit ?_
              refine WE.then_exit ?_
              refine WE.block_hit ?_
              refine WE.block_n ?_
              refine WE.then_n ?_
              refine WC.region ?_
              obtain rfl : i = s.asl.length := (by omega)
              rw [List.drop_length, List.flatMap_nil, List.append_nil] at hu
              refine WL.val (v_add rfl rfl rfl (w_i64 (by omega) (by omega))) (.none rfl) rfl rfl ?_
              refine WL.val (v_move rfl rfl) (.none rfl) rfl rfl ?_
              refine WL.nil ?_
              exact WE.next (k + 1, us, ad3, c3, E3) (by dsimp only; omega) ⟨by dsimp only; omega, by dsimp only; rw [hu, List.append_assoc]; exact hy, hV3⟩ (.int rfl (by dsimp only; omega) (.cons rfl (.cons rfl (.cons rfl .nil)))) (.refl _)
      · -- 26F
        refine WL.nil ?_
        refine WE.then_n ?_
        refine WC.seq ?_
        refine WC.cond_f rfl ?_
        refine WC.exit ?_
        refine WE.then_exit ?_
        refine WE.then_exit ?_
        refine WE.block_hit ?_
        refine WE.block_n ?_
        refine WE.then_n ?_
        refine WC.seq ?_
        refine WC.region ?_
        refine WL.val (v_move rfl rfl) (.none rfl) rfl rfl ?_
        refine WL.val (v_assign rfl rfl) (.none rfl) rfl rfl ?_
        refine WL.nil ?_
        refine WE.then_n ?_
        refine WC.ret ?_
        refine WE.ret1 (P := Tryd.prog) (.inl rfl) Tryd.results90 rfl ?_
        obtain rfl : k = a.path.length := (by omega)
        rw [List.drop_length, List.flatMap_nil, List.append_nil] at hy
        exact fun w' h => ⟨_, rfl, OwnB.of hV h hy⟩
    · -- 21F
      refine WL.val (v_assign rfl rfl) (.none rfl) rfl rfl ?_
      refine WL.nil ?_
      refine WE.then_n ?_
      refine WC.cond_f rfl ?_
      refine WC.seq ?_
      refine WC.region ?_
      refine WL.test (v_eql rfl rfl rfl) (.none rfl) rfl rfl (fun h51 => ?_) (fun h51 => ?_)
      · -- 51T
        refine WL.val (v_assign rfl rfl) (.none rfl) rfl rfl ?_
        refine WL.nil ?_
        refine WE.then_n ?_
        refine WC.cond_t rfl ?_
        refine WC.region ?_
        refine WL.val (v_move rfl rfl) (.none rfl) rfl rfl ?_
        refine WL.val (v_fieldAddr0 rfl rfl fld_41_3) (.none rfl) rfl rfl ?_
        refine WL.val (v_load1 rfl rfl one_34 (cellAt rfl)) (.none rfl) rfl rfl ?_
        have := hI.hop
        unfold U32 at this
        refine WL.val (v_conv rfl rfl Tryd.underlying3 Tryd.underlying34 (w_i64 (by omega) (by omega))) (.none rfl) rfl rfl ?_
        refine WL.call rfl rfl ck_100 (.none rfl) rfl rfl ?_
        intro w1 hS
        refine (num_n (fun _ => False) w w1 _ [] none 0 [] a.hop 4 (Vec.nil 1) hS (by first | omega | decide) (by omega)).mono ?_
        rintro e w' ⟨ad56, c56, E56, rfl, hV56, hS'⟩
        refine ⟨_, _, rfl, hS', ?_⟩
        refine WL.val (v_assign rfl rfl) (.none rfl) rfl rfl ?_
        refine WL.nil ?_
        refine WE.block_n ?_
        refine WE.then_n ?_
        refine WC.seq ?_
        refine WC.region ?_
        refine WL.val (v_move rfl rfl) (.none rfl) rfl rfl ?_
        refine WL.val (v_assign rfl rfl) (.none rfl) rfl rfl ?_
        refine WL.nil ?_
        refine WE.then_n ?_
        refine WC.ret ?_
        refine WE.ret1 (P := Tryd.prog) (.inl rfl) Tryd.results90 rfl ?_
        exact fun w' h => ⟨_, rfl, OwnB.of hV56 h (by unfold valE; rw [if_neg (by omega), if_neg (by omega), if_pos (by omega)]; rfl)⟩
      · -- 51F
        refine WL.val (v_assign rfl rfl) (.none rfl) rfl rfl ?_
        refine WL.nil ?_
        refine WE.then_n ?_
        refine WC.cond_f rfl ?_
        refine WC.seq ?_
        refine WC.region ?_
        refine WL.test (v_eql rfl rfl rfl) (.none rfl) rfl rfl (fun h58 => ?_) (fun h58 => ?_)
        · -- 58T
          refine WL.val (v_assign rfl rfl) (.none rfl) rfl rfl ?_
          refine WL.nil ?_
          refine WE.then_n ?_
          refine WC.cond_t rfl ?_
          refine WC.region ?_
          refine WL.val (v_move rfl rfl) (.none rfl) rfl rfl ?_
          refine WL.val (v_fieldAddr0 rfl rfl fld_41_4) (.none rfl) rfl rfl ?_
          refine WL.val (v_load1 rfl rfl one_3 (cellAt rfl)) (.none rfl) rfl rfl ?_
          refine WL.call rfl rfl ck_100 (.none rfl) rfl rfl ?_
          intro w1 hS
          refine (num_n (fun _ => False) w w1 _ [] none 0 [] a.med 4 (Vec.nil 1) hS (by first | omega | decide) (by omega)).mono ?_
          rintro e w' ⟨ad62, c62, E62, rfl, hV62, hS'⟩
          refine ⟨_, _, rfl, hS', ?_⟩
          refine WL.val (v_assign rfl rfl) (.none rfl) rfl rfl ?_
          refine WL.nil ?_
          refine WE.block_n ?_
          refine WE.then_n ?_
          refine WC.seq ?_
          refine WC.region ?_
          refine WL.val (v_move rfl rfl) (.none rfl) rfl rfl ?_
          refine WL.val (v_assign rfl rfl) (.none rfl) rfl rfl ?_
          refine WL.nil ?_
          refine WE.then_n ?_
          refine WC.ret ?_
          refine WE.ret1 (P := Tryd.prog) (.inl rfl) Tryd.results90 rfl ?_
          exact fun w' h => ⟨_, rfl, OwnB.of hV62 h (by unfold valE; rw [if_neg (by omega), if_neg (by omega), if_neg (by omega), if_pos (by omega)]; rfl)⟩
        · -- 58F
          refine WL.val (v_assign rfl rfl) (.none rfl) rfl rfl ?_
          refine WL.nil ?_
          refine WE.then_n ?_
          refine WC.cond_f rfl ?_
          refine WC.seq ?_
          refine WC.region ?_
          refine WL.test (v_eql rfl rfl rfl) (.none rfl) rfl rfl (fun h64 => ?_) (fun h64 => ?_)
          · -- 64T
            refine WL.val (v_assign rfl rfl) (.none rfl) rfl rfl ?_
            refine WL.nil ?_
            refine WE.then_n ?_
            refine WC.cond_t rfl ?_
            refine WC.region ?_
            refine WL.val (v_move rfl rfl) (.none rfl) rfl rfl ?_
            refine WL.val (v_fieldAddr0 rfl rfl fld_41_5) (.none rfl) rfl rfl ?_
            refine WL.val (v_load1 rfl rfl one_3 (cellAt rfl)) (.none rfl) rfl rfl ?_
            refine WL.call rfl rfl ck_100 (.none rfl) rfl rfl ?_
            intro w1 hS
            refine (num_n (fun _ => False) w w1 _ [] none 0 [] a.loc 4 (Vec.nil 1) hS (by first | omega | decide) (by omega)).mono ?_
            rintro e w' ⟨ad68, c68, E68, rfl, hV68, hS'⟩
            refine ⟨_, _, rfl, hS', ?_⟩
            refine WL.val (v_assign rfl rfl) (.none rfl) rfl rfl ?_
            refine WL.nil ?_
            refine WE.block_n ?_
            refine WE.then_n ?_
            refine WC.seq ?_
            refine WC.region ?_
            refine WL.val (v_move rfl rfl) (.none rfl) rfl rfl ?_
            refine WL.val (v_assign rfl rfl) (.none rfl) rfl rfl ?_
            refine WL.nil ?_
            refine WE.then_n ?_
            refine WC.ret ?_
            refine WE.ret1 (P := Tryd.prog) (.inl rfl) Tryd.results90 rfl ?_
            exact fun w' h => ⟨_, rfl, OwnB.of hV68 h (by unfold valE; rw [if_neg (by omega), if_neg (by omega), if_neg (by omega), if_neg (by omega), if_pos (by omega)]; rfl)⟩
          · -- 64F
            refine WL.val (v_assign rfl rfl) (.none rfl) rfl rfl ?_
            refine WL.nil ?_
            refine WE.then_n ?_
            refine WC.cond_f rfl ?_
            refine WC.seq ?_
            refine WC.region ?_
            refine WL.test (v_eql rfl rfl rfl) (.none rfl) rfl rfl (fun h70 => ?_) (fun h70 => ?_)
            · -- 70T
              refine WL.val (v_assign rfl rfl) (.none rfl) rfl rfl ?_
              refine WL.nil ?_
              refine WE.then_n ?_
              refine WC.cond_t rfl ?_
              refine WC.orders mixed ?_
              refine WR.first (g := 6) [0, 1, 4] (by kernel_rfl) (by kernel_rfl) ?_
              refine WP.val (v_move rfl rfl) (.none rfl) rfl rfl ?_
              refine WP.val (v_fieldAddr0 rfl rfl fld_41_6) (.none rfl) rfl rfl ?_
              refine WP.val (v_fieldAddr0 rfl rfl fld_41_7) (.none rfl) rfl rfl ?_
              refine WP.nil ?_
              refine WR.each (g := 5) [2, 5] (by kernel_rfl) (by decide) ?_
              refine ⟨?_, ?_⟩
              · -- next 2
                refine WL.val (v_load1 rfl rfl one_3 (cellAt rfl)) (.none rfl) rfl rfl ?_
                refine WL.nilR ?_
                refine WR.each (g := 4) [3, 5] (by kernel_rfl) (by decide) ?_
                refine ⟨?_, ?_⟩
                · -- next 3
                  refine WL.call rfl rfl ck_100 (.none rfl) rfl rfl ?_
                  intro w1 hS
                  refine (num_n (fun _ => False) w w1 _ [] none 0 [] a.aas 2 (Vec.nil 1) hS (by first | omega | decide) (by omega)).mono ?_
                  rintro e w' ⟨ad74, c74, E74, rfl, hV74, hS'⟩
                  refine ⟨_, _, rfl, hS', ?_⟩
                  refine WL.nilR ?_
                  refine WR.read (g := 2) [5, 6] (by kernel_rfl) (by kernel_rfl) (by kernel_rfl) (by kernel_rfl) rfl ?_
                  refine WQ.val (v_load1 rfl rfl one_34 (cellAt rfl)) (.none rfl) rfl rfl ?_
                  have := hI.aid
                  unfold U32 at this
                  refine WQ.val (v_conv rfl rfl Tryd.underlying3 Tryd.underlying34 (w_i64 (by omega) (by omega))) (.none rfl) rfl rfl ?_
                  refine WQ.nilR ?_
                  refine WR.ones (g := 1) [7] (by kernel_rfl) ?_
                  refine WL.call rfl rfl ck_100 (.none rfl) rfl rfl ?_
                  intro w1 hS
                  refine (num_n (fun _ => False) w w1 _ _ _ _ _ a.aid 4 hV74 hS (by rw [List.length_append, numB_len]; decide) (by omega)).mono ?_
                  rintro e w' ⟨ad78, c78, E78, rfl, hV78, hS'⟩
                  refine ⟨_, _, rfl, hS', ?_⟩
                  refine WL.nilR ?_
                  refine WR.first (g := 0) [8] (by kernel_rfl) (by kernel_rfl) ?_
                  refine WP.val (v_assign rfl rfl) (.none rfl) rfl rfl ?_
                  refine WP.nil ?_
                  refine WR.done (by kernel_rfl) ?_
                  refine WE.block_n ?_
                  refine WE.then_n ?_
                  refine WC.seq ?_
                  refine WC.region ?_
                  refine WL.val (v_move rfl rfl) (.none rfl) rfl rfl ?_
                  refine WL.val (v_assign rfl rfl) (.none rfl) rfl rfl ?_
                  refine WL.nil ?_
                  refine WE.then_n ?_
                  refine WC.ret ?_
                  refine WE.ret1 (P := Tryd.prog) (.inl rfl) Tryd.results90 rfl ?_
                  exact fun w' h => ⟨_, rfl, OwnB.of hV78 h (by unfold valE; rw [if_neg (by omega), if_neg (by omega), if_neg (by omega), if_neg (by omega), if_neg (by omega), if_pos (by omega)]; rfl)⟩
                · -- next 5
                  refine WL.val (v_load1 rfl rfl one_34 (cellAt rfl)) (.none rfl) rfl rfl ?_
                  refine WL.nilR ?_
                  refine WR.first (g := 3) [6] (by kernel_rfl) (by kernel_rfl) ?_
                  have := hI.aid
                  unfold U32 at this
                  refine WP.val (v_conv rfl rfl Tryd.underlying3 Tryd.underlying34 (w_i64 (by omega) (by omega))) (.none rfl) rfl rfl ?_
                  refine WP.nil ?_
                  refine WR.ones (g := 1) [3, 7] (by kernel_rfl) ?_
                  refine WL.call rfl rfl ck_100 (.none rfl) rfl rfl ?_
                  intro w1 hS
                  refine (num_n (fun _ => False) w w1 _ [] none 0 [] a.aas 2 (Vec.nil 1) hS (by first | omega | decide) (by omega)).mono ?_
                  rintro e w' ⟨ad74, c74, E74, rfl, hV74, hS'⟩
                  refine ⟨_, _, rfl, hS', ?_⟩
                  refine WL.call rfl rfl ck_100 (.none rfl) rfl rfl ?_
                  intro w1 hS
                  refine (num_n (fun _ => False) w w1 _ _ _ _ _ a.aid 4 hV74 hS (by rw [List.length_append, numB_len]; decide) (by omega)).mono ?_
                  rintro e w' ⟨ad78, c78, E78, rfl, hV78, hS'⟩
                  refine ⟨_, _, rfl, hS', ?_⟩
                  refine WL.nilR ?_
                  refine WR.first (g := 0) [8] (by kernel_rfl) (by kernel_rfl) ?_
                  refine WP.val (v_assign rfl rfl) (.none rfl) rfl rfl ?_
                  refine WP.nil ?_
                  refine WR.done (by kernel_rfl) ?_
                  refine WE.block_n ?_
                  refine WE.then_n ?_
                  refine WC.seq ?_
                  refine WC.region ?_
                  refine WL.val (v_move rfl rfl) (.none rfl) rfl rfl ?_
                  refine WL.val (v_assign rfl rfl) (.none rfl) rfl rfl ?_
                  refine WL.nil ?_
                  refine WE.then_n ?_
                  refine WC.ret ?_
                  refine WE.ret1 (P := Tryd.prog) (.inl rfl) Tryd.results90 rfl ?_
                  exact fun w' h => ⟨_, rfl, OwnB.of hV78 h (by unfold valE; rw [if_neg (by omega), if_neg (by omega), if_neg (by omega), if_neg (by omega), if_neg (by omega), if_pos (by omega)]; rfl)⟩
              · -- next 5
                refine WL.val (v_load1 rfl rfl one_34 (cellAt rfl)) (.none rfl) rfl rfl ?_
                refine WL.nilR ?_
                refine WR.first (g := 4) [6] (by kernel_rfl) (by kernel_rfl) ?_
                have := hI.aid
                unfold U32 at this
                refine WP.val (v_conv rfl rfl Tryd.underlying3 Tryd.underlying34 (w_i64 (by omega) (by omega))) (.none rfl) rfl rfl ?_
                refine WP.nil ?_
                refine WR.read (g := 3) [2] (by kernel_rfl) (by kernel_rfl) (by kernel_rfl) (by kernel_rfl) rfl ?_
                refine WQ.val (v_load1 rfl rfl one_3 (cellAt rfl)) (.none rfl) rfl rfl ?_
                refine WQ.nilR ?_
                refine WR.ones (g := 1) [3, 7] (by kernel_rfl) ?_
                refine WL.call rfl rfl ck_100 (.none rfl) rfl rfl ?_
                intro w1 hS
                refine (num_n (fun _ => False) w w1 _ [] none 0 [] a.aas 2 (Vec.nil 1) hS (by first | omega | decide) (by omega)).mono ?_
                rintro e w' ⟨ad74, c74, E74, rfl, hV74, hS'⟩
                refine ⟨_, _, rfl, hS', ?_⟩
                refine WL.call rfl rfl ck_100 (.none rfl) rfl rfl ?_
                intro w1 hS
                refine (num_n (fun _ => False) w w1 _ _ _ _ _ a.aid 4 hV74 hS (by rw [List.length_append, numB_len]; decide) (by omega)).mono ?_
                rintro e w' ⟨ad78, c78, E78, rfl, hV78, hS'⟩
                refine ⟨_, _, rfl, hS', ?_⟩
                refine WL.nilR ?_
                refine WR.first (g := 0) [8] (by kernel_rfl) (by kernel_rfl) ?_
                refine WP.val (v_assign rfl rfl) (.none rfl) rfl rfl ?_
                refine WP.nil ?_
                refine WR.done (by kernel_rfl) ?_
                refine WE.block_n ?_
                refine WE.then_n ?_
                refine WC.seq ?_
                refine WC.region ?_
                refine WL.val (v_move rfl rfl) (.none rfl) rfl rfl ?_
                refine WL.val (v_assign rfl rfl) (.none rfl) rfl rfl ?_
                refine WL.nil ?_
                refine WE.then_n ?_
                refine WC.ret ?_
                refine WE.ret1 (P := Tryd.prog) (.inl rfl) Tryd.results90 rfl ?_
                exact fun w' h => ⟨_, rfl, OwnB.of hV78 h (by unfold valE; rw [if_neg (by omega), if_neg (by omega), if_neg (by omega), if_neg (by omega), if_neg (by omega), if_pos (by omega)]; rfl)⟩
            · -- 70F
              refine WL.val (v_assign rfl rfl) (.none rfl) rfl rfl ?_
              refine WL.nil ?_
              refine WE.then_n ?_
              refine WC.cond_f rfl ?_
              refine WC.seq ?_
              refine WC.region ?_
              refine WL.test (v_eql rfl rfl rfl) (.none rfl) rfl rfl (fun h80 => ?_) (fun h80 => ?_)
              · -- 80T
                refine WL.val (v_assign rfl rfl) (.none rfl) rfl rfl ?_
                refine WL.nil ?_
                refine WE.then_n ?_
                refine WC.cond_t rfl ?_
                refine WC.seq ?_
                refine WC.region ?_
                have e0 : valE a t = a.comms.flatMap fun x => numB x 4 := (by unfold valE; rw [if_neg (by omega), if_neg (by omega), if_neg (by omega), if_neg (by omega), if_neg (by omega), if_neg (by omega), if_pos (by omega)])
                rw [e0] at hB ⊢
                refine WL.val (v_fieldAddr0 rfl rfl fld_41_8) (.none rfl) rfl rfl ?_
                refine WL.val (v_load1 rfl rfl one_38 (cellAt rfl)) (.none rfl) rfl rfl ?_
                refine WL.val (v_len_slice rfl rfl Tryd.underlying38) (.none rfl) rfl rfl ?_
                refine WL.val (v_move rfl rfl) (.none rfl) rfl rfl ?_
                refine WL.nil ?_
                refine WE.then_n ?_
                refine WC.block ?_
                refine WC.loop (fun x : Nat × List Int × Option Addr × Nat × List Ent => [(84, .int .i64 x.1), (83, .int .i64 a.comms.length), (82, .slice a.cad a.comms.length a.cc), (5, .slice x.2.2.1 x.2.1.length x.2.2.2.1)]) (fun x => x.2.2.2.2 ++ []) (fun x => x.1 ≤ a.comms.length ∧ x.2.1 ++ (a.comms.drop x.1).flatMap (fun y => numB y 4) = a.comms.flatMap (fun y => numB y 4) ∧ BV x.2.2.1 x.2.2.2.1 x.2.1 x.2.2.2.2) (fun x => a.comms.length - x.1) (0, [], none, 0, []) ⟨Nat.zero_le _, rfl, Vec.nil 1⟩ (.cons rfl (.cons rfl (.cons rfl (.cons rfl .nil)))) (List.nil_sublist _) ?_
                rintro ⟨k, ys, ad, c, E⟩ ⟨hk, hy, hV⟩
                dsimp only at hk hy hV
                dsimp only
                have hlenP := hI.lens.2.1
                refine WC.seq ?_
                refine WC.region ?_
                refine WL.test (v_lss rfl rfl rfl) (.none rfl) rfl rfl (fun h85 => ?_) (fun h85 => ?_)
                · -- 85T
                  refine WL.nil ?_
                  refine WE.then_n ?_
                  refine WC.seq ?_
                  refine WC.cond_t rfl ?_
                  refine WC.skip ?_
                  refine WE.then_n ?_
                  refine WC.seq ?_
                  refine WC.block ?_
                  refine WC.seq ?_
                  refine WC.region ?_
                  obtain ⟨x, hx⟩ : ∃ x, a.comms[k]? = some x := ⟨a.comms[k]'(by omega), List.getElem?_eq_getElem _⟩
                  obtain ⟨b, o, ea, hr⟩ := hA.comms (by rw [i64s_len]; omega)
                  rw [drop_cons' hx, List.flatMap_cons] at hy
                  have hyl : ys.length ≤ 900000 := (by rw [← hy, List.length_append] at hB; omega)
                  refine WL.val ((v_indexAddr (b := b) (off := o) (lo := k) rfl (by show some (Value.slice a.cad _ _) = _; rw [ea]) rfl Tryd.underlying38 sz_3 rfl (by omega))) (.none rfl) rfl rfl ?_
                  refine WL.val (v_load1 rfl rfl one_3 (cellOld (v := .int .i64 x) (fun h => h) (by rw [Nat.mul_one]; exact hr k _ (i64s_get hx)))) (.none rfl) rfl rfl ?_
                  refine WL.val (v_assign rfl rfl) (.none rfl) rfl rfl ?_
                  refine WL.nil ?_
                  refine WE.then_n ?_
                  refine WC.region ?_
                  refine WL.val (v_move rfl rfl) (.none rfl) rfl rfl ?_
                  refine WL.val (v_move rfl rfl) (.none rfl) rfl rfl ?_
                  refine WL.call rfl rfl ck_100 (.none rfl) rfl rfl ?_
                  intro w1 hS
                  refine (num_n (fun _ => False) w w1 _ _ _ _ _ x 4 hV hS (by first | omega | decide) (by omega)).mono ?_
                  rintro e w' ⟨ad90, c90, E90, rfl, hV90, hS'⟩
                  refine ⟨_, _, rfl, hS', ?_⟩
                  refine WL.val (v_assign rfl rfl) (.none rfl) rfl rfl ?_
                  refine WL.nil ?_
                  refine WE.block_n ?_
                  refine WE.then_n ?_
                  refine WC.region ?_
                  refine WL.val (v_add rfl rfl rfl (w_i64 (by omega) (by omega))) (.none rfl) rfl rfl ?_
                  refine WL.val (v_move rfl rfl) (.none rfl) rfl rfl ?_
                  refine WL.nil ?_
                  exact WE.next (k + 1, ys ++ numB x 4, ad90, c90, E90) (by dsimp only; omega) ⟨by dsimp only; omega, by dsimp only; rw [List.append_assoc]; exact hy, hV90⟩ (.int rfl (by dsimp only; omega) (.cons rfl (.cons rfl (.cons rfl .nil)))) (.refl _)
                · -- 85F
                  refine WL.nil ?_
                  refine WE.then_n ?_
                  refine WC.seq ?_
                  refine WC.cond_f rfl ?_
                  refine WC.exit ?_
                  refine WE.then_exit ?_
                  refine WE.then_exit ?_
                  refine WE.block_hit ?_
                  refine WE.block_n ?_
                  refine WE.then_n ?_
                  refine WC.seq ?_
                  refine WC.region ?_
                  refine WL.val (v_move rfl rfl) (.none rfl) rfl rfl ?_
                  refine WL.val (v_assign rfl rfl) (.none rfl) rfl rfl ?_
                  refine WL.nil ?_
                  refine WE.then_n ?_
                  refine WC.ret ?_
                  refine WE.ret1 (P := Tryd.prog) (.inl rfl) Tryd.results90 rfl ?_
                  obtain rfl : k = a.comms.length := (by omega)
                  rw [List.drop_length, List.flatMap_nil, List.append_nil] at hy
                  exact fun w' h => ⟨_, rfl, OwnB.of hV h hy⟩
              · -- 80F
                refine WL.val (v_assign rfl rfl) (.none rfl) rfl rfl ?_
                refine WL.nil ?_
                refine WE.then_n ?_
                refine WC.cond_f rfl ?_
                refine WC.skip ?_
                refine WE.block_n ?_
                refine WE.then_n ?_
                refine WC.seq ?_
                refine WC.region ?_
                refine WL.val (v_move rfl rfl) (.none rfl) rfl rfl ?_
                refine WL.val (v_assign rfl rfl) (.none rfl) rfl rfl ?_
                refine WL.nil ?_
                refine WE.then_n ?_
                refine WC.ret ?_
                refine WE.ret1 (P := Tryd.prog) (.inl rfl) Tryd.results90 rfl ?_
                exact fun w' h => ⟨_, rfl, OwnB.of (E := []) (xs := []) (ys := valE a t) (Vec.nil 1) h (by unfold valE; rw [if_neg (by omega), if_neg (by omega), if_neg (by omega), if_neg (by omega), if_neg (by omega), if_neg (by omega), if_neg (by omega)])⟩
end Go.Proofs.YtpjbofodllhjbaaDoor
/- attr: an attribute behind others; all of them. -/
namespace Go.Proofs.YtpjbofodllhjbaaDoor
open Go.RowKit

def putE (fl t : Int) (vs : List Int) : List Int :=
  if 255 < vs.length then numB (fl + 16) 1 ++ numB t 1 ++ numB vs.length 2 ++ vs else numB fl 1 ++ numB t 1 ++ numB vs.length 1 ++ vs
theorem putE_len (fl t : Int) (vs : List Int) : (putE fl t vs).length = vs.length + (if 255 < vs.length then 4 else 3) := by
  unfold putE
  split <;> simp only [List.length_append, numB_len] <;> omega
set_option maxHeartbeats 1000000 in
theorem put_c (p : Nat → Prop) (w0 w1 : World) (L E : List Ent) (ad : Option Addr) (c : Nat) (xs : List Int) (fl t : Int) (va : Option Addr) (vc : Nat) (vs : List Int) (hV : BV ad c xs E)
    (hv : 0 < vs.length → ∃ b o, va = some ⟨b, o, none⟩ ∧ ∀ w, St p w0 w L → w.rangeAt b o (u8s vs)) (hS0 : St p w0 w1 (E ++ L)) (hk : xs.length + vs.length ≤ 990000) (hf : fl = 64 ∨ fl = 128 ∨ fl = 192 ∨ fl = 224) :
    Calls Tryd.prog 89 #[.slice ad xs.length c, .int .i64 fl, .int .i64 t, .slice va vs.length vc] w1 fun e w' => ∃ ad' c' E', e = .returned (.slice ad' (xs ++ putE fl t vs).length c') ∧ BV ad' c' (xs ++ putE fl t vs) E' ∧ St p w0 w' (E' ++ L) := by
  refine enter Tryd.func89 rfl Tryd.ntmps89 rfl hS0 ?_
  refine WC.seq ?_
  refine WC.region ?_
  refine WL.val (v_assign rfl rfl) (.none rfl) rfl rfl ?_
  refine WL.nil ?_
  refine WE.then_n ?_
  refine WC.seq ?_
  refine WC.seq ?_
  refine WC.region ?_
  refine WL.val (v_move rfl rfl) (.none rfl) rfl rfl ?_
  refine WL.val (v_len_slice rfl rfl Tryd.underlying22) (.none rfl) rfl rfl ?_
  refine WL.test (v_gtr rfl rfl rfl) (.none rfl) rfl rfl (fun h11 => ?_) (fun h11 => ?_)
  · -- 11T
    refine WL.nil ?_
    refine WE.then_n ?_
    refine WC.cond_t rfl ?_
    refine WC.region ?_
    refine WL.val (v_move rfl rfl) (.none rfl) rfl rfl ?_
    refine WL.val (v_move rfl rfl) (.none rfl) rfl rfl ?_
    refine WL.val (v_or rfl rfl rfl (show _ = fl + 16 from by rcases hf with rfl | rfl | rfl | rfl <;> decide)) (.none rfl) rfl rfl ?_
    refine WL.call rfl rfl ck_100 (.none rfl) rfl rfl ?_
    intro w1 hS
    refine (num_n p w0 w1 _ _ _ _ _ (fl + 16) 1 hV hS (by first | omega | (simp only [List.length_append, numB_len]; omega)) (by omega)).mono ?_
    rintro e w' ⟨ad15, c15, E15, rfl, hV15, hS'⟩
    refine ⟨_, _, rfl, hS', ?_⟩
    refine WL.val (v_move rfl rfl) (.none rfl) rfl rfl ?_
    refine WL.call rfl rfl ck_100 (.none rfl) rfl rfl ?_
    intro w1 hS
    refine (num_n p w0 w1 _ _ _ _ _ t 1 hV15 hS (by first | omega | (simp only [List.length_append, numB_len]; omega)) (by omega)).mono ?_
    rintro e w' ⟨ad17, c17, E17, rfl, hV17, hS'⟩
    refine ⟨_, _, rfl, hS', ?_⟩
    refine WL.val (v_move rfl rfl) (.none rfl) rfl rfl ?_
    refine WL.val (v_len_slice rfl rfl Tryd.underlying22) (.none rfl) rfl rfl ?_
    refine WL.call rfl rfl ck_100 (.none rfl) rfl rfl ?_
    intro w1 hS
    refine (num_n p w0 w1 _ _ _ _ _ vs.length 2 hV17 hS (by first | omega | (simp only [List.length_append, numB_len]; omega)) (by omega)).mono ?_
    rintro e w' ⟨ad20, c20, E20, rfl, hV20, hS'⟩
    refine ⟨_, _, rfl, hS', ?_⟩
    refine WL.val (v_assign rfl rfl) (.none rfl) rfl rfl ?_
    refine WL.nil ?_
    refine WE.then_n ?_
    refine WC.seq ?_
    refine WC.region ?_
    refine WL.val (v_move rfl rfl) (.none rfl) rfl rfl ?_
    refine WL.val (v_move rfl rfl) (.none rfl) rfl rfl ?_
    refine WL.appendL rfl rfl rfl Tryd.underlying22 Tryd.underlying22 sz_5 by_5 zero_5 rfl rfl hV20 (new := u8s vs) (fun h => by obtain ⟨b, o, e, hr⟩ := hv h; exact ⟨b, o, e, fun w hS => hr w (hS.sub (List.sublist_append_right _ _))⟩) (by rw [u8s_len]; omega) (u8s_one _) (by simp only [List.length_append, numB_len]; omega) (.none rfl) rfl rfl ?_
    intro ad31 c31 E31 hV31 hr31
    refine WL.val (v_assign rfl rfl) (.none rfl) rfl rfl ?_
    refine WL.nil ?_
    refine WE.then_n ?_
    refine WC.ret ?_
    refine WE.ret1 (P := Tryd.prog) (.inl rfl) Tryd.results89 rfl ?_
    rw [← u8s_app] at hV31
    have e1 := hV31.toB
    have e2 : xs ++ numB (fl + 16) 1 ++ numB t 1 ++ numB vs.length 2 ++ vs = xs ++ putE fl t vs := (by unfold putE; rw [if_pos (by omega)]; simp only [List.append_assoc])
    rw [e1, e2]
    rw [e1, e2] at hV31
    exact fun w' h => ⟨ad31, c31, E31, rfl, hV31, h⟩
  · -- 11F
    refine WL.nil ?_
    refine WE.then_n ?_
    refine WC.cond_f rfl ?_
    refine WC.region ?_
    refine WL.val (v_move rfl rfl) (.none rfl) rfl rfl ?_
    refine WL.val (v_move rfl rfl) (.none rfl) rfl rfl ?_
    refine WL.call rfl rfl ck_100 (.none rfl) rfl rfl ?_
    intro w1 hS
    refine (num_n p w0 w1 _ _ _ _ _ fl 1 hV hS (by first | omega | (simp only [List.length_append, numB_len]; omega)) (by omega)).mono ?_
    rintro e w' ⟨ad23, c23, E23, rfl, hV23, hS'⟩
    refine ⟨_, _, rfl, hS', ?_⟩
    refine WL.val (v_move rfl rfl) (.none rfl) rfl rfl ?_
    refine WL.call rfl rfl ck_100 (.none rfl) rfl rfl ?_
    intro w1 hS
    refine (num_n p w0 w1 _ _ _ _ _ t 1 hV23 hS (by first | omega | (simp only [List.length_append, numB_len]; omega)) (by omega)).mono ?_
    rintro e w' ⟨ad25, c25, E25, rfl, hV25, hS'⟩
    refine ⟨_, _, rfl, hS', ?_⟩
    refine WL.val (v_move rfl rfl) (.none rfl) rfl rfl ?_
    refine WL.val (v_len_slice rfl rfl Tryd.underlying22) (.none rfl) rfl rfl ?_
    refine WL.call rfl rfl ck_100 (.none rfl) rfl rfl ?_
    intro w1 hS
    refine (num_n p w0 w1 _ _ _ _ _ vs.length 1 hV25 hS (by first | omega | (simp only [List.length_append, numB_len]; omega)) (by omega)).mono ?_
    rintro e w' ⟨ad28, c28, E28, rfl, hV28, hS'⟩
    refine ⟨_, _, rfl, hS', ?_⟩
    refine WL.val (v_assign rfl rfl) (.none rfl) rfl rfl ?_
    refine WL.nil ?_
    refine WE.then_n ?_
    refine WC.seq ?_
    refine WC.region ?_
    refine WL.val (v_move rfl rfl) (.none rfl) rfl rfl ?_
    refine WL.val (v_move rfl rfl) (.none rfl) rfl rfl ?_
    refine WL.appendL rfl rfl rfl Tryd.underlying22 Tryd.underlying22 sz_5 by_5 zero_5 rfl rfl hV28 (new := u8s vs) (fun h => by obtain ⟨b, o, e, hr⟩ := hv h; exact ⟨b, o, e, fun w hS => hr w (hS.sub (List.sublist_append_right _ _))⟩) (by rw [u8s_len]; omega) (u8s_one _) (by simp only [List.length_append, numB_len]; omega) (.none rfl) rfl rfl ?_
    intro ad31 c31 E31 hV31 hr31
    refine WL.val (v_assign rfl rfl) (.none rfl) rfl rfl ?_
    refine WL.nil ?_
    refine WE.then_n ?_
    refine WC.ret ?_
    refine WE.ret1 (P := Tryd.prog) (.inl rfl) Tryd.results89 rfl ?_
    rw [← u8s_app] at hV31
    have e1 := hV31.toB
    have e2 : xs ++ numB fl 1 ++ numB t 1 ++ numB vs.length 1 ++ vs = xs ++ putE fl t vs := (by unfold putE; rw [if_neg (by omega)]; simp only [List.append_assoc])
    rw [e1, e2]
    rw [e1, e2] at hV31
    exact fun w' h => ⟨ad31, c31, E31, rfl, hV31, h⟩
end Go.Proofs.YtpjbofodllhjbaaDoor
/- attr: all attributes' bytes. -/
namespace Go.Proofs.YtpjbofodllhjbaaDoor
open Go.RowKit

theorem Vec.src {s k c : Nat} {ad : Option Addr} {xs : List Value} {E L : List Ent} (hV : Vec s ad k c xs E) (hm : ∀ e ∈ E, e ∈ L) : 0 < xs.length → ∃ b o, ad = some ⟨b, o, none⟩ ∧ ∀ (p : Nat → Prop) (w0 w : World), St p w0 w L → w.rangeAt b o xs := fun hn => by
  rcases hV with ⟨_, _, _, rfl, _⟩ | ⟨g, cs, rfl, rfl, hx, hcl, hk⟩
  · simp at hn
  · refine ⟨g, 0, rfl, fun p w0 w hS j v hj => ?_⟩
    have hR : Row w g cs := hS.holds (.row g cs) (hm _ (List.mem_cons_self ..))
    rw [← hx, List.getElem?_take] at hj
    split at hj
    · rw [Nat.zero_add]; exact hR.cell hj
    · cases hj
def flagI (k : Nat) : Int := if k = 0 then 0 else if k = 4 then 128 else if k = 7 then 192 else if k = 8 then 192 else 64
theorem flagI_ok {k : Nat} (h : 1 ≤ k) : flagI k = 64 ∨ flagI k = 128 ∨ flagI k = 192 ∨ flagI k = 224 := by
  unfold flagI
  repeat' split
  all_goals omega
/-- The flags of the attributes, as the program has them. -/
def GF (w : World) : Prop := ∀ i, i < 9 → w.cell? ⟨0, i, none⟩ = some (.int .i64 (flagI i))
theorem GF.keep {p : Nat → Prop} {w0 w : World} {L : List Ent} (hp : ¬ p 0) (h : GF w0) (hS : St p w0 w L) : GF w := fun i hi => hS.old hp (h i hi)
def knownE (a : AtL) (t : Nat) : List Int := if hasB a.has t then putE (flagI t) t (valE a t) else []
def bodyA (a : AtL) : List Int := ((List.range' 1 8).flatMap (knownE a)) ++ a.others.flatMap fun o => putE 224 o.ty o.val
def encE (a : AtL) : Int := if chkA a then if (a.others.any fun o => decide (4096 < o.val.length)) || decide (4096 < (bodyA a).length) then 6 else 0 else 1
def outA (a : AtL) : List Int := if encE a = 0 then bodyA a else []
theorem segs_len {ss : List SegL} (h : ss.all segB = true) : (ss.flatMap segE).length ≤ 512 * ss.length := by
  induction ss with
  | nil => simp
  | cons s ss ih =>
    rw [List.all_cons, Bool.and_eq_true] at h
    have h1 := ih h.2
    have h2 := h.1
    unfold segB at h2
    rw [Bool.and_eq_true] at h2
    have h3 := of_decide_eq_true h2.1
    rw [List.flatMap_cons, List.length_append, segE_len, List.length_cons]
    omega
theorem valE_len {a : AtL} {t : Nat} (h : goodB a t = true) : (valE a t).length ≤ if t = 2 then 512 * a.path.length else 1024 := by
  unfold goodB at h
  unfold valE
  by_cases h1 : t = 1
  · subst h1; simp [numB_len]
  by_cases h2 : t = 2
  · subst h2
    rw [if_neg (by decide), if_pos rfl] at h
    rw [if_neg (by decide), if_pos rfl, if_pos rfl]
    exact segs_len h
  by_cases h3 : t = 3
  · subst h3; simp [numB_len]
  by_cases h4 : t = 4
  · subst h4; simp [numB_len]
  by_cases h5 : t = 5
  · subst h5; simp [numB_len]
  by_cases h7 : t = 7
  · subst h7; simp [numB_len]
  by_cases h8 : t = 8
  · subst h8
    rw [if_neg (by decide), if_neg (by decide), if_neg (by decide), if_neg (by decide), if_neg (by decide), if_neg (by decide), if_pos rfl] at h
    unfold commsB at h
    rw [Bool.and_eq_true] at h
    have := of_decide_eq_true h.2
    rw [if_neg (by decide), if_neg (by decide), if_neg (by decide), if_neg (by decide), if_neg (by decide), if_neg (by decide), if_pos rfl, flat_len2, if_neg (by decide)]
    omega
  · simp [h1, h2, h3, h4, h5, h7, h8]
theorem chk_good {a : AtL} (h : chkA a = true) {t : Nat} (h1 : 1 ≤ t) (h2 : t ≤ 8) (hb : hasB a.has t = true) : goodB a t = true := by
  unfold chkA at h
  rw [Bool.and_eq_true, Bool.and_eq_true] at h
  have := List.all_eq_true.1 h.1.2 t (List.mem_range'_1.2 ⟨h1, by omega⟩)
  unfold eachB at this
  rw [hb] at this
  exact this
set_option maxHeartbeats 2000000 in
theorem AEnc_c (w0 : World) (a : AtL) (hA : a.At w0) (hI : a.In) (hG : GF w0) (hP : a.path.length ≤ 1000) (hO : a.others.length ≤ 90) :
    Calls Tryd.prog 72 #[.agg a.cells.toArray] w0 fun e w' => ∃ v, e = .returned (.tuple #[v, .int .i64 (encE a)]) ∧ OwnB w0 w' (outA a) v := by
  refine enter Tryd.func72 rfl Tryd.ntmps72 rfl (St.start (fun _ => False) w0) ?_
  refine WC.seq ?_
  refine WC.region ?_
  refine WL.box rfl rfl rfl (.none rfl) rfl rfl ?_
  intro g1 hg1
  refine WL.val (v_assign rfl rfl) (.none rfl) rfl rfl ?_
  refine WL.val (v_assign rfl rfl) (.none rfl) rfl rfl ?_
  refine WL.nil ?_
  refine WE.then_n ?_
  refine WC.seq ?_
  refine WC.seq ?_
  refine WC.region ?_
  refine WL.val (v_loadN rfl rfl many_41 rfl allAt) (.none rfl) rfl rfl ?_
  refine WL.call rfl rfl ck_88 (.none rfl) rfl rfl ?_
  intro w hS
  refine Calls.then (ACheck_c w a (hA.st hS) hI) hS ?_
  generalize hc : chkA a = bc
  cases bc
  · -- 10F
    refine WL.val (v_assign rfl rfl) (.none rfl) rfl rfl ?_
    refine WL.nil ?_
    refine WE.then_n ?_
    refine WC.seq ?_
    refine WC.region ?_
    refine WL.val (v_move rfl rfl) (.none rfl) rfl rfl ?_
    refine WL.val ((v_neq rfl rfl rfl).t ((by decide))) (.none rfl) rfl rfl ?_
    refine WL.nil ?_
    refine WE.then_n ?_
    refine WC.cond_t rfl ?_
    refine WC.seq ?_
    refine WC.region ?_
    refine WL.val (v_move rfl rfl) (.none rfl) rfl rfl ?_
    refine WL.val (v_assign rfl rfl) (.none rfl) rfl rfl ?_
    refine WL.val (v_assign rfl rfl) (.none rfl) rfl rfl ?_
    refine WL.nil ?_
    refine WE.then_n ?_
    refine WC.ret ?_
    refine WE.then_ret ?_
    refine WE.ret2 (P := Tryd.prog) (.inl rfl) Tryd.results72 rfl rfl ?_
    have he : encE a = 1 := (by unfold encE; rw [hc]; rfl)
    have ho : outA a = [] := (by unfold outA; rw [he]; rfl)
    rw [he, ho]
    exact fun w' h => ⟨_, rfl, OwnB.of (E := []) (xs := []) (Vec.nil 1) h rfl⟩
  · -- 10T
    refine WL.val (v_assign rfl rfl) (.none rfl) rfl rfl ?_
    refine WL.nil ?_
    refine WE.then_n ?_
    refine WC.seq ?_
    refine WC.region ?_
    refine WL.val (v_move rfl rfl) (.none rfl) rfl rfl ?_
    refine WL.val ((v_neq rfl rfl rfl).f ((by decide))) (.none rfl) rfl rfl ?_
    refine WL.nil ?_
    refine WE.then_n ?_
    refine WC.cond_f rfl ?_
    refine WC.skip ?_
    refine WE.then_n ?_
    refine WC.seq ?_
    refine WC.region ?_
    refine WL.val (v_assign rfl rfl) (.none rfl) rfl rfl ?_
    refine WL.nil ?_
    refine WE.then_n ?_
    refine WC.seq ?_
    refine WC.seq ?_
    refine WC.region ?_
    refine WL.val (v_assign rfl rfl) (.none rfl) rfl rfl ?_
    refine WL.nil ?_
    refine WE.then_n ?_
    refine WC.block ?_
    refine WC.loop (fun x : Nat × List Int × Option Addr × Nat × List Ent => [(6, .int .i64 x.1), (5, .slice x.2.2.1 x.2.1.length x.2.2.2.1), (1, .pointer (some ⟨g1, 0, none⟩))]) (fun x => x.2.2.2.2 ++ [.row g1 a.cells]) (fun x => 1 ≤ x.1 ∧ x.1 ≤ 9 ∧ x.2.1.length ≤ 1100 * x.1 + (if 2 < x.1 then 512000 else 0) ∧ x.2.1 ++ (List.range' x.1 (9 - x.1)).flatMap (knownE a) = (List.range' 1 8).flatMap (knownE a) ∧ BV x.2.2.1 x.2.2.2.1 x.2.1 x.2.2.2.2) (fun x => 9 - x.1) (1, [], none, 0, []) ⟨Nat.le_refl _, by decide, by decide, rfl, Vec.nil 1⟩ (.cons rfl (.cons rfl (.cons rfl .nil))) (.refl _) ?_
    rintro ⟨t, xs, ad, c, E⟩ ⟨ht1, ht9, hl, hx, hV⟩
    dsimp only at ht1 ht9 hl hx hV
    dsimp only
    refine WC.seq ?_
    refine WC.seq ?_
    refine WC.region ?_
    refine WL.val (v_move rfl rfl) (.none rfl) rfl rfl ?_
    refine WL.test (v_leq rfl rfl rfl) (.none rfl) rfl rfl (fun h15 => ?_) (fun h15 => ?_)
    · -- 15T
      refine WL.nil ?_
      refine WE.then_n ?_
      refine WC.cond_t rfl ?_
      refine WC.skip ?_
      refine WE.then_n ?_
      refine WC.seq ?_
      refine WC.block ?_
      refine WC.seq ?_
      refine WC.region ?_
      refine WL.val (v_loadN rfl rfl many_41 rfl allAt) (.none rfl) rfl rfl ?_
      refine WL.val (v_move rfl rfl) (.none rfl) rfl rfl ?_
      rw [show 9 - t = 8 - t + 1 by omega, List.range'_succ, List.flatMap_cons] at hx
      refine WL.call rfl rfl ck_87 (.none rfl) rfl rfl ?_
      intro w hS
      refine Calls.then (Is_c w a t (by omega)) hS ?_
      generalize hb : hasB a.has t = bb
      cases bb
      · -- 20F
        refine WL.nil ?_
        refine WE.then_n ?_
        refine WC.cond_f rfl ?_
        refine WC.skip ?_
        refine WE.block_n ?_
        refine WE.then_n ?_
        refine WC.region ?_
        refine WL.val (v_move rfl rfl) (.none rfl) rfl rfl ?_
        refine WL.val (v_add rfl rfl rfl (w_i64 (by omega) (by omega))) (.none rfl) rfl rfl ?_
        refine WL.val (v_assign rfl rfl) (.none rfl) rfl rfl ?_
        refine WL.nil ?_
        exact WE.next (t + 1, xs, ad, c, E) (by dsimp only; omega) ⟨by dsimp only; omega, by dsimp only; omega, by dsimp only; split at hl <;> split <;> omega, by
        dsimp only
        rw [show 9 - (t + 1) = 8 - t by omega, ← hx]
        unfold knownE
        rw [hb]; rfl, hV⟩ (.int rfl (by dsimp only; omega) (.cons rfl (.cons rfl .nil))) (.refl _)
      · -- 20T
        refine WL.nil ?_
        refine WE.then_n ?_
        refine WC.cond_t rfl ?_
        refine WC.orders mixed ?_
        refine WR.first (g := 5) [0, 1, 2, 4, 6] (by kernel_rfl) (by kernel_rfl) ?_
        refine WP.val (v_move rfl rfl) (.none rfl) rfl rfl ?_
        refine WP.val (v_move rfl rfl) (.none rfl) rfl rfl ?_
        refine WP.val (v_indexAddrA (lo := t) rfl rfl rfl Tryd.underlying157 sz_3 (by omega) (by omega)) (.none rfl) rfl rfl ?_
        refine WP.val (v_move rfl rfl) (.none rfl) rfl rfl ?_
        refine WP.val (v_move rfl rfl) (.none rfl) rfl rfl ?_
        refine WP.nil ?_
        refine WR.each (g := 4) [3, 5] (by kernel_rfl) (by decide) ?_
        refine ⟨?_, ?_⟩
        · -- next 3
          refine WL.val (v_load1 rfl rfl one_3 (cellOld (v := .int .i64 (flagI t)) (fun h => h) (by rw [Nat.zero_add, Nat.mul_one]; exact hG t (by omega)))) (.none rfl) rfl rfl ?_
          refine WL.nilR ?_
          refine WR.read (g := 3) [5] (by kernel_rfl) (by kernel_rfl) (by kernel_rfl) (by kernel_rfl) rfl ?_
          refine WQ.val (v_loadN rfl rfl many_41 rfl allAt) (.none rfl) rfl rfl ?_
          refine WQ.nilR ?_
          refine WR.ones (g := 1) [7, 8] (by kernel_rfl) ?_
          have hgl := valE_len (chk_good hc ht1 (by omega) hb)
          have hle : (valE a t).length ≤ 512000 := (by split at hgl <;> omega)
          refine WL.call rfl rfl ck_90 (.none rfl) rfl rfl ?_
          intro w1 hS
          refine (value_c w1 a t (hA.st hS) hI (by omega)).mono ?_
          rintro e w' ⟨_, rfl, ad28, c28, E28, rfl, hV28, hS'⟩
          refine ⟨_, _, rfl, hS.join hS', ?_⟩
          refine WL.to (L' := E ++ (E28 ++ [.row g1 a.cells])) (fun w hS => St.front (R := E) E28 hS) ?_
          have hpl := putE_len (flagI t) t (valE a t)
          have hgl := valE_len (chk_good hc ht1 (by omega) hb)
          refine WL.call rfl rfl ck_89 (.none rfl) rfl rfl ?_
          intro w1 hS
          refine (put_c (fun _ => False) w0 w1 _ _ _ _ _ (flagI t) t _ _ _ hV (fun h => by
            obtain ⟨b, o, e, hr⟩ := hV28.src (L := E28 ++ [.row g1 a.cells]) (fun e he => List.mem_append_left _ he) (by rw [u8s_len]; exact h)
            exact ⟨b, o, e, fun w hS => hr _ _ w hS⟩) hS (by split at hl <;> split at hgl <;> omega) (flagI_ok ht1)).mono ?_
          rintro e w' ⟨ad29, c29, E29, rfl, hV29, hS'⟩
          refine ⟨_, _, rfl, hS', ?_⟩
          refine WL.nilR ?_
          refine WR.first (g := 0) [9] (by kernel_rfl) (by kernel_rfl) ?_
          refine WP.val (v_assign rfl rfl) (.none rfl) rfl rfl ?_
          refine WP.nil ?_
          refine WR.done (by kernel_rfl) ?_
          refine WE.block_n ?_
          refine WE.then_n ?_
          refine WC.region ?_
          refine WL.val (v_move rfl rfl) (.none rfl) rfl rfl ?_
          refine WL.val (v_add rfl rfl rfl (w_i64 (by omega) (by omega))) (.none rfl) rfl rfl ?_
          refine WL.val (v_assign rfl rfl) (.none rfl) rfl rfl ?_
          refine WL.nil ?_
          exact WE.next (t + 1, xs ++ putE (flagI t) t (valE a t), ad29, c29, E29) (by dsimp only; omega) ⟨by dsimp only; omega, by dsimp only; omega, by
          dsimp only
          rw [List.length_append, hpl]
          split at hl <;> split at hgl <;> split <;> split <;> omega, by
          dsimp only
          rw [show 9 - (t + 1) = 8 - t by omega, ← hx]
          unfold knownE
          rw [hb, List.append_assoc]; rfl, hV29⟩ (.int rfl (by dsimp only; omega) (.cons rfl (.cons rfl .nil))) (List.Sublist.append_left (List.sublist_append_right _ _) _)
        · -- next 5
          refine WL.val (v_loadN rfl rfl many_41 rfl allAt) (.none rfl) rfl rfl ?_
          refine WL.nilR ?_
          refine WR.each (g := 3) [3, 7] (by kernel_rfl) (by decide) ?_
          refine ⟨?_, ?_⟩
          · -- next 3
            refine WL.val (v_load1 rfl rfl one_3 (cellOld (v := .int .i64 (flagI t)) (fun h => h) (by rw [Nat.zero_add, Nat.mul_one]; exact hG t (by omega)))) (.none rfl) rfl rfl ?_
            refine WL.nilR ?_
            refine WR.ones (g := 1) [7, 8] (by kernel_rfl) ?_
            have hgl := valE_len (chk_good hc ht1 (by omega) hb)
            have hle : (valE a t).length ≤ 512000 := (by split at hgl <;> omega)
            refine WL.call rfl rfl ck_90 (.none rfl) rfl rfl ?_
            intro w1 hS
            refine (value_c w1 a t (hA.st hS) hI (by omega)).mono ?_
            rintro e w' ⟨_, rfl, ad28, c28, E28, rfl, hV28, hS'⟩
            refine ⟨_, _, rfl, hS.join hS', ?_⟩
            refine WL.to (L' := E ++ (E28 ++ [.row g1 a.cells])) (fun w hS => St.front (R := E) E28 hS) ?_
            have hpl := putE_len (flagI t) t (valE a t)
            have hgl := valE_len (chk_good hc ht1 (by omega) hb)
            refine WL.call rfl rfl ck_89 (.none rfl) rfl rfl ?_
            intro w1 hS
            refine (put_c (fun _ => False) w0 w1 _ _ _ _ _ (flagI t) t _ _ _ hV (fun h => by
              obtain ⟨b, o, e, hr⟩ := hV28.src (L := E28 ++ [.row g1 a.cells]) (fun e he => List.mem_append_left _ he) (by rw [u8s_len]; exact h)
              exact ⟨b, o, e, fun w hS => hr _ _ w hS⟩) hS (by split at hl <;> split at hgl <;> omega) (flagI_ok ht1)).mono ?_
            rintro e w' ⟨ad29, c29, E29, rfl, hV29, hS'⟩
            refine ⟨_, _, rfl, hS', ?_⟩
            refine WL.nilR ?_
            refine WR.first (g := 0) [9] (by kernel_rfl) (by kernel_rfl) ?_
            refine WP.val (v_assign rfl rfl) (.none rfl) rfl rfl ?_
            refine WP.nil ?_
            refine WR.done (by kernel_rfl) ?_
            refine WE.block_n ?_
            refine WE.then_n ?_
            refine WC.region ?_
            refine WL.val (v_move rfl rfl) (.none rfl) rfl rfl ?_
            refine WL.val (v_add rfl rfl rfl (w_i64 (by omega) (by omega))) (.none rfl) rfl rfl ?_
            refine WL.val (v_assign rfl rfl) (.none rfl) rfl rfl ?_
            refine WL.nil ?_
            exact WE.next (t + 1, xs ++ putE (flagI t) t (valE a t), ad29, c29, E29) (by dsimp only; omega) ⟨by dsimp only; omega, by dsimp only; omega, by
            dsimp only
            rw [List.length_append, hpl]
            split at hl <;> split at hgl <;> split <;> split <;> omega, by
            dsimp only
            rw [show 9 - (t + 1) = 8 - t by omega, ← hx]
            unfold knownE
            rw [hb, List.append_assoc]; rfl, hV29⟩ (.int rfl (by dsimp only; omega) (.cons rfl (.cons rfl .nil))) (List.Sublist.append_left (List.sublist_append_right _ _) _)
          · -- next 7
            have hgl := valE_len (chk_good hc ht1 (by omega) hb)
            have hle : (valE a t).length ≤ 512000 := (by split at hgl <;> omega)
            refine WL.call rfl rfl ck_90 (.none rfl) rfl rfl ?_
            intro w1 hS
            refine (value_c w1 a t (hA.st hS) hI (by omega)).mono ?_
            rintro e w' ⟨_, rfl, ad28, c28, E28, rfl, hV28, hS'⟩
            refine ⟨_, _, rfl, hS.join hS', ?_⟩
            refine WL.to (L' := E ++ (E28 ++ [.row g1 a.cells])) (fun w hS => St.front (R := E) E28 hS) ?_
            refine WL.nilR ?_
            refine WR.read (g := 2) [3] (by kernel_rfl) (by kernel_rfl) (by kernel_rfl) (by kernel_rfl) rfl ?_
            refine WQ.val (v_load1 rfl rfl one_3 (cellOld (v := .int .i64 (flagI t)) (fun h => h) (by rw [Nat.zero_add, Nat.mul_one]; exact hG t (by omega)))) (.none rfl) rfl rfl ?_
            refine WQ.nilR ?_
            refine WR.ones (g := 1) [8] (by kernel_rfl) ?_
            have hpl := putE_len (flagI t) t (valE a t)
            have hgl := valE_len (chk_good hc ht1 (by omega) hb)
            refine WL.call rfl rfl ck_89 (.none rfl) rfl rfl ?_
            intro w1 hS
            refine (put_c (fun _ => False) w0 w1 _ _ _ _ _ (flagI t) t _ _ _ hV (fun h => by
              obtain ⟨b, o, e, hr⟩ := hV28.src (L := E28 ++ [.row g1 a.cells]) (fun e he => List.mem_append_left _ he) (by rw [u8s_len]; exact h)
              exact ⟨b, o, e, fun w hS => hr _ _ w hS⟩) hS (by split at hl <;> split at hgl <;> omega) (flagI_ok ht1)).mono ?_
            rintro e w' ⟨ad29, c29, E29, rfl, hV29, hS'⟩
            refine ⟨_, _, rfl, hS', ?_⟩
            refine WL.nilR ?_
            refine WR.first (g := 0) [9] (by kernel_rfl) (by kernel_rfl) ?_
            refine WP.val (v_assign rfl rfl) (.none rfl) rfl rfl ?_
            refine WP.nil ?_
            refine WR.done (by kernel_rfl) ?_
            refine WE.block_n ?_
            refine WE.then_n ?_
            refine WC.region ?_
            refine WL.val (v_move rfl rfl) (.none rfl) rfl rfl ?_
            refine WL.val (v_add rfl rfl rfl (w_i64 (by omega) (by omega))) (.none rfl) rfl rfl ?_
            refine WL.val (v_assign rfl rfl) (.none rfl) rfl rfl ?_
            refine WL.nil ?_
            exact WE.next (t + 1, xs ++ putE (flagI t) t (valE a t), ad29, c29, E29) (by dsimp only; omega) ⟨by dsimp only; omega, by dsimp only; omega, by
            dsimp only
            rw [List.length_append, hpl]
            split at hl <;> split at hgl <;> split <;> split <;> omega, by
            dsimp only
            rw [show 9 - (t + 1) = 8 - t by omega, ← hx]
            unfold knownE
            rw [hb, List.append_assoc]; rfl, hV29⟩ (.int rfl (by dsimp only; omega) (.cons rfl (.cons rfl .nil))) (List.Sublist.append_left (List.sublist_append_right _ _) _)
    · -- 15F
      refine WL.nil ?_
      refine WE.then_n ?_
      refine WC.cond_f rfl ?_
      refine WC.exit ?_
      refine WE.then_exit ?_
      refine WE.then_exit ?_
      refine WE.block_hit ?_
      refine WE.then_n ?_
      refine WC.seq ?_
      refine WC.seq ?_
      refine WC.region ?_
      refine WL.val (v_fieldAddr0 rfl rfl fld_41_9) (.none rfl) rfl rfl ?_
      refine WL.val (v_load1 rfl rfl one_39 (cellAt rfl)) (.none rfl) rfl rfl ?_
      refine WL.val (v_len_slice rfl rfl Tryd.underlying39) (.none rfl) rfl rfl ?_
      refine WL.val (v_move rfl rfl) (.none rfl) rfl rfl ?_
      refine WL.nil ?_
      refine WE.then_n ?_
      refine WC.block ?_
      refine WC.loop (fun x : Nat × List Int × Option Addr × Nat × List Ent => [(33, .int .i64 x.1), (32, .int .i64 a.others.length), (31, .slice a.oad a.others.length a.oc), (5, .slice x.2.2.1 x.2.1.length x.2.2.2.1)]) (fun x => x.2.2.2.2 ++ []) (fun x => x.1 ≤ a.others.length ∧ x.2.1.length ≤ 522000 + 4100 * x.1 ∧ x.2.1 ++ (a.others.drop x.1).flatMap (fun o => putE 224 o.ty o.val) = bodyA a ∧ (∀ j o, j < x.1 → a.others[j]? = some o → decide (4096 < o.val.length) = false) ∧ BV x.2.2.1 x.2.2.2.1 x.2.1 x.2.2.2.2) (fun x => a.others.length - x.1) (0, xs, ad, c, E) ⟨Nat.zero_le _, by dsimp only; split at hl <;> omega, by
      dsimp only
      rw [show 9 - t = 0 by omega] at hx
      rw [List.range'_zero, List.flatMap_nil, List.append_nil] at hx
      rw [hx]; rfl, fun j _ h => absurd h (by dsimp only; omega), hV⟩ (.cons rfl (.cons rfl (.cons rfl (.cons rfl .nil)))) (List.Sublist.append_left (List.nil_sublist _) _) ?_
      rintro ⟨k, ys, ad2, c2, E2⟩ ⟨hk, hl2, hy, hsm, hV2⟩
      dsimp only at hk hl2 hy hsm hV2
      dsimp only
      refine WC.seq ?_
      refine WC.region ?_
      refine WL.test (v_lss rfl rfl rfl) (.none rfl) rfl rfl (fun h34 => ?_) (fun h34 => ?_)
      · -- 34T
        refine WL.nil ?_
        refine WE.then_n ?_
        refine WC.seq ?_
        refine WC.cond_t rfl ?_
        refine WC.skip ?_
        refine WE.then_n ?_
        refine WC.seq ?_
        refine WC.block ?_
        refine WC.seq ?_
        refine WC.region ?_
        obtain ⟨o, hs⟩ : ∃ o, a.others[k]? = some o := ⟨a.others[k]'(by omega), List.getElem?_eq_getElem _⟩
        obtain ⟨b, off, ea, hr⟩ := hA.oths k o hs
        have hom := List.mem_of_getElem? hs
        have hoI := hI.oths o hom
        rw [drop_cons' hs, List.flatMap_cons] at hy
        refine WL.val ((v_indexAddr (b := b) (off := off) (lo := k) rfl (by show some (Value.slice a.oad _ _) = _; rw [ea]) rfl Tryd.underlying39 sz_115 rfl (by omega))) (.none rfl) rfl rfl ?_
        refine WL.val ((v_loadN (cs := o.cells) rfl rfl many_115 rfl (rgIn (fun h => h) hr))) (.none rfl) rfl rfl ?_
        refine WL.alloc rfl zero_115 (.none rfl) rfl rfl ?_
        intro g8 hg8
        refine WL.storeW rfl rfl rfl rfl many_115 rfl rfl (.none rfl) rfl ?_
        refine WL.to (L' := E2 ++ [.row g8 o.cells]) (fun w hS => hS.front [_]) ?_
        refine WL.nil ?_
        refine WE.then_n ?_
        refine WC.seq ?_
        refine WC.seq ?_
        refine WC.region ?_
        refine WL.val (v_fieldAddr0 rfl rfl fld_115_1) (.none rfl) rfl rfl ?_
        refine WL.val (v_load1 rfl rfl one_22 (cellAt rfl)) (.none rfl) rfl rfl ?_
        refine WL.val (v_len_slice rfl rfl Tryd.underlying22) (.none rfl) rfl rfl ?_
        refine WL.test (v_gtr rfl rfl rfl) (.none rfl) rfl rfl (fun h40 => ?_) (fun h40 => ?_)
        · -- 40T
          refine WL.nil ?_
          refine WE.then_n ?_
          refine WC.cond_t rfl ?_
          refine WC.seq ?_
          refine WC.region ?_
          refine WL.val (v_assign rfl rfl) (.none rfl) rfl rfl ?_
          refine WL.val (v_assign rfl rfl) (.none rfl) rfl rfl ?_
          refine WL.nil ?_
          refine WE.then_n ?_
          refine WC.ret ?_
          refine WE.then_ret ?_
          refine WE.block_ret ?_
          refine WE.then_ret ?_
          refine WE.then_ret ?_
          refine WE.block_ret ?_
          refine WE.then_ret ?_
          refine WE.ret2 (P := Tryd.prog) (.inl rfl) Tryd.results72 rfl rfl ?_
          have he : encE a = 6 := (by
            have : (a.others.any fun o => decide (4096 < o.val.length)) = true := List.any_eq_true.2 ⟨o, hom, decide_eq_true (by omega)⟩
            unfold encE; rw [hc, this]; rfl)
          have ho : outA a = [] := (by unfold outA; rw [he]; rfl)
          rw [he, ho]
          exact fun w' h => ⟨_, rfl, OwnB.of (E := []) (xs := []) (Vec.nil 1) (h.sub (List.nil_sublist _)) rfl⟩
        · -- 40F
          refine WL.nil ?_
          refine WE.then_n ?_
          refine WC.cond_f rfl ?_
          refine WC.skip ?_
          refine WE.then_n ?_
          refine WC.region ?_
          refine WL.val (v_move rfl rfl) (.none rfl) rfl rfl ?_
          refine WL.val (v_fieldAddr0 rfl rfl fld_115_0) (.none rfl) rfl rfl ?_
          refine WL.val (v_load1 rfl rfl one_3 (cellAt rfl)) (.none rfl) rfl rfl ?_
          refine WL.val (v_fieldAddr0 rfl rfl fld_115_1) (.none rfl) rfl rfl ?_
          refine WL.val (v_load1 rfl rfl one_22 (cellAt rfl)) (.none rfl) rfl rfl ?_
          have hpl := putE_len 224 o.ty o.val
          refine WL.call rfl rfl ck_89 (.none rfl) rfl rfl ?_
          intro w1 hS
          refine (put_c (fun _ => False) w0 w1 _ _ _ _ _ 224 o.ty _ _ _ hV2 (fun h => by
            obtain ⟨b', o', e, hr'⟩ := hA.vals o hom (by rw [u8s_len]; exact h)
            exact ⟨b', o', e, rgIn (fun h => h) hr'⟩) hS (by omega) (by omega)).mono ?_
          rintro e w' ⟨ad46, c46, E46, rfl, hV46, hS'⟩
          refine ⟨_, _, rfl, hS', ?_⟩
          refine WL.val (v_assign rfl rfl) (.none rfl) rfl rfl ?_
          refine WL.nil ?_
          refine WE.block_n ?_
          refine WE.then_n ?_
          refine WC.region ?_
          refine WL.val (v_add rfl rfl rfl (w_i64 (by omega) (by omega))) (.none rfl) rfl rfl ?_
          refine WL.val (v_move rfl rfl) (.none rfl) rfl rfl ?_
          refine WL.nil ?_
          exact WE.next (k + 1, ys ++ putE 224 o.ty o.val, ad46, c46, E46) (by dsimp only; omega) ⟨by dsimp only; omega, by
          dsimp only
          rw [List.length_append, hpl]
          split <;> omega, by dsimp only; rw [List.append_assoc]; exact hy, fun j o' hj hjo => by
          by_cases e : j = k
          · subst e; rw [hs] at hjo; obtain rfl := Option.some.inj hjo; exact decide_eq_false (by omega)
          · exact hsm j o' (by dsimp only at hj; omega) hjo, hV46⟩ (.int rfl (by dsimp only; omega) (.cons rfl (.cons rfl (.cons rfl .nil)))) (List.Sublist.append_left (List.nil_sublist _) _)
      · -- 34F
        refine WL.nil ?_
        refine WE.then_n ?_
        refine WC.seq ?_
        refine WC.cond_f rfl ?_
        refine WC.exit ?_
        refine WE.then_exit ?_
        refine WE.then_exit ?_
        refine WE.block_hit ?_
        refine WE.then_n ?_
        refine WC.seq ?_
        refine WC.seq ?_
        refine WC.region ?_
        refine WL.val (v_move rfl rfl) (.none rfl) rfl rfl ?_
        obtain rfl : k = a.others.length := (by omega)
        rw [List.drop_length, List.flatMap_nil, List.append_nil] at hy
        have hna : (a.others.any fun o => decide (4096 < o.val.length)) = false := List.any_eq_false.2 fun o ho => by
          obtain ⟨j, hj, e⟩ := List.getElem_of_mem ho
          rw [hsm j o (by omega) (by rw [List.getElem?_eq_getElem hj, e])]; decide
        refine WL.val (v_len_slice rfl rfl Tryd.underlying22) (.none rfl) rfl rfl ?_
        refine WL.test (v_gtr rfl rfl rfl) (.none rfl) rfl rfl (fun h50 => ?_) (fun h50 => ?_)
        · -- 50T
          refine WL.nil ?_
          refine WE.then_n ?_
          refine WC.cond_t rfl ?_
          refine WC.seq ?_
          refine WC.region ?_
          refine WL.val (v_assign rfl rfl) (.none rfl) rfl rfl ?_
          refine WL.val (v_assign rfl rfl) (.none rfl) rfl rfl ?_
          refine WL.nil ?_
          refine WE.then_n ?_
          refine WC.ret ?_
          refine WE.then_ret ?_
          refine WE.ret2 (P := Tryd.prog) (.inl rfl) Tryd.results72 rfl rfl ?_
          have he : encE a = 6 := (by
            unfold encE; rw [hc, hna, decide_eq_true (show 4096 < (bodyA a).length by rw [← hy]; omega)]; rfl)
          have ho : outA a = [] := (by unfold outA; rw [he]; rfl)
          rw [he, ho]
          exact fun w' h => ⟨_, rfl, OwnB.of (E := []) (xs := []) (Vec.nil 1) (h.sub (List.nil_sublist _)) rfl⟩
        · -- 50F
          refine WL.nil ?_
          refine WE.then_n ?_
          refine WC.cond_f rfl ?_
          refine WC.skip ?_
          refine WE.then_n ?_
          refine WC.seq ?_
          refine WC.region ?_
          refine WL.val (v_move rfl rfl) (.none rfl) rfl rfl ?_
          refine WL.val (v_assign rfl rfl) (.none rfl) rfl rfl ?_
          refine WL.val (v_assign rfl rfl) (.none rfl) rfl rfl ?_
          refine WL.nil ?_
          refine WE.then_n ?_
          refine WC.ret ?_
          refine WE.ret2 (P := Tryd.prog) (.inl rfl) Tryd.results72 rfl rfl ?_
          have he : encE a = 0 := (by
            unfold encE; rw [hc, hna, decide_eq_false (show ¬ 4096 < (bodyA a).length by rw [← hy]; omega)]; rfl)
          have ho : outA a = ys := (by unfold outA; rw [he, ← hy]; rfl)
          rw [he, ho]
          exact fun w' h => ⟨_, rfl, OwnB.of hV2 h rfl⟩
end Go.Proofs.YtpjbofodllhjbaaDoor
/- bgp: addresses and prefixes as bytes. -/
namespace Go.Proofs.YtpjbofodllhjbaaDoor
open Go.RowKit

theorem n2_eq (m : Int) : n2 m = u8s (numB m 2) := by
  show n2 m = [.int .u8 (m / 2 ^ (8 * 1) % 256), .int .u8 (m / 2 ^ (8 * 0) % 256)]
  rw [show (2 : Int) ^ (8 * 1) = 256 by decide, show (2 : Int) ^ (8 * 0) = 1 by decide, Int.ediv_one]
  rfl
theorem put2_b (p : Nat → Prop) (w0 w1 : World) (L E : List Ent) (ad : Option Addr) (c : Nat) (xs : List Int) (m : Int) (hV : BV ad c xs E) (hS0 : St p w0 w1 (E ++ L)) (hk : xs.length ≤ 1000000) (h0 : 0 ≤ m) (h1 : m ≤ 9223372036854775807) :
    Calls Tryd.prog 54 #[.slice ad xs.length c, .int .i64 m] w1 fun e w' => ∃ ad' c' E', e = .returned (.slice ad' (xs ++ numB m 2).length c') ∧ BV ad' c' (xs ++ numB m 2) E' ∧ St p w0 w' (E' ++ L) :=
  (put2_c p w0 w1 L E ad _ c _ m hV hS0 hk h0 h1).mono (by
    rintro e w' ⟨ad', c', E', rfl, hV', hS'⟩
    rw [n2_eq, ← u8s_app] at hV'
    have := hV'.toB
    rw [this] at hV' ⊢
    exact ⟨ad', c', E', rfl, hV', hS'⟩)
theorem numB_get (n : Int) : ∀ (s i : Nat), i < s → (numB n s)[i]? = some (n / 2 ^ (8 * (s - 1 - i)) % 256)
  | s + 1, 0, _ => by simp [numB]
  | s + 1, i + 1, h => by
    rw [show numB n (s + 1) = n / 2 ^ (8 * s) % 256 :: numB n s from rfl, List.getElem?_cons_succ, numB_get n s i (by omega)]
    rw [show s + 1 - 1 - (i + 1) = s - 1 - i by omega]
theorem take_succ_get {α : Type} {xs : List α} {i : Nat} {x : α} (h : xs[i]? = some x) : xs.take (i + 1) = xs.take i ++ [x] := by
  rw [List.take_add_one, h]; rfl
/-- The first bytes of an address. -/
def addrB (a : Int) (n : Nat) : List Int := (numB a 4).take n
theorem addrB_len (a : Int) {n : Nat} (h : n ≤ 4) : (addrB a n).length = n := by unfold addrB; rw [List.length_take, numB_len]; omega
set_option maxHeartbeats 1000000 in
theorem putAddr_c (p : Nat → Prop) (w0 w1 : World) (L E : List Ent) (ad : Option Addr) (c : Nat) (xs : List Int) (a : Int) (n : Nat) (hV : BV ad c xs E) (hS0 : St p w0 w1 (E ++ L)) (hk : xs.length ≤ 1000000) (hn : n ≤ 4) :
    Calls Tryd.prog 70 #[.slice ad xs.length c, .int .u32 a, .int .i64 n] w1 fun e w' => ∃ ad' c' E', e = .returned (.slice ad' (xs ++ addrB a n).length c') ∧ BV ad' c' (xs ++ addrB a n) E' ∧ St p w0 w' (E' ++ L) := by
  refine enter Tryd.func70 rfl Tryd.ntmps70 rfl hS0 ?_
  refine WC.seq ?_
  refine WC.region ?_
  refine WL.val (v_assign rfl rfl) (.none rfl) rfl rfl ?_
  refine WL.nil ?_
  refine WE.then_n ?_
  refine WC.seq ?_
  refine WC.seq ?_
  refine WC.region ?_
  refine WL.val (v_move rfl rfl) (.none rfl) rfl rfl ?_
  refine WL.val (v_move rfl rfl) (.none rfl) rfl rfl ?_
  refine WL.nil ?_
  refine WE.then_n ?_
  refine WC.block ?_
  refine WC.loop (fun x : Nat × Option Addr × Nat × List Ent => [(9, .int .i64 x.1), (8, .int .i64 n), (1, .int .u32 a), (0, .slice x.2.1 (xs ++ addrB a x.1).length x.2.2.1)]) (fun x => x.2.2.2 ++ L) (fun x => x.1 ≤ n ∧ BV x.2.1 x.2.2.1 (xs ++ addrB a x.1) x.2.2.2) (fun x => n - x.1) (0, ad, c, E) ⟨Nat.zero_le _, by dsimp only; rw [show addrB a 0 = [] from rfl, List.append_nil]; exact hV⟩ (.cons rfl (.cons rfl (.cons rfl (.eq rfl (by dsimp only; rw [show addrB a 0 = [] from rfl, List.append_nil]) .nil)))) (.refl _) ?_
  rintro ⟨i, ad2, c2, E2⟩ ⟨hi, hV2⟩
  dsimp only at hi hV2
  dsimp only
  have hal := addrB_len a (n := i) (by omega)
  refine WC.seq ?_
  refine WC.region ?_
  refine WL.test (v_lss rfl rfl rfl) (.none rfl) rfl rfl (fun h10 => ?_) (fun h10 => ?_)
  · -- 10T
    refine WL.nil ?_
    refine WE.then_n ?_
    refine WC.seq ?_
    refine WC.cond_t rfl ?_
    refine WC.skip ?_
    refine WE.then_n ?_
    refine WC.seq ?_
    refine WC.block ?_
    refine WC.seq ?_
    refine WC.region ?_
    refine WL.val (v_move rfl rfl) (.none rfl) rfl rfl ?_
    refine WL.val (v_assign rfl rfl) (.none rfl) rfl rfl ?_
    refine WL.nil ?_
    refine WE.then_n ?_
    refine WC.region ?_
    refine WL.val (v_move rfl rfl) (.none rfl) rfl rfl ?_
    refine WL.val (v_move rfl rfl) (.none rfl) rfl rfl ?_
    refine WL.val (v_move rfl rfl) (.none rfl) rfl rfl ?_
    refine WL.val (v_mul rfl rfl rfl (show _ = ((8 * i : Nat) : Int) from (w_i64 (by omega) (by omega)).trans (by omega))) (.none rfl) rfl rfl ?_
    refine WL.val (v_sub rfl rfl rfl (show _ = ((8 * (3 - i) : Nat) : Int) from (w_i64 (by omega) (by omega)).trans (by omega))) (.none rfl) rfl rfl ?_
    refine WL.val ((v_shr (m := 8 * (3 - i)) (c := (2 : Int) ^ (8 * (3 - i))) rfl rfl rfl rfl (by show 8 * (3 - i) ≤ 32; omega) rfl)) (.none rfl) rfl rfl ?_
    refine WL.val (v_conv rfl rfl Tryd.underlying5 Tryd.underlying34 (w_u8m _)) (.none rfl) rfl rfl ?_
    refine WL.buildSlice rfl rfl Tryd.underlying22 sz_5 zero_5 rfl (by decide) rfl (.none rfl) rfl rfl ?_
    intro g19 hg19
    refine WL.as (L' := .row g19 (u8s [a / 2 ^ (8 * (3 - i)) % 256]) :: (E2 ++ L)) rfl ?_
    refine WL.to (L' := E2 ++ (.row g19 (u8s [a / 2 ^ (8 * (3 - i)) % 256]) :: L)) (fun w hS => hS.front [_]) ?_
    refine WL.appendL rfl rfl rfl Tryd.underlying22 Tryd.underlying22 sz_5 by_5 zero_5 rfl rfl hV2 (new := u8s [a / 2 ^ (8 * (3 - i)) % 256]) (fun _ => ⟨g19, 0, rfl, fun w hS => allAt (g := g19) w hS⟩) rfl (u8s_one _) (by rw [List.length_append, hal]; omega) (.none rfl) rfl rfl ?_
    intro ad20 c20 E20 hV20 hr20
    have e0 : xs ++ addrB a (i + 1) = xs ++ addrB a i ++ [a / 2 ^ (8 * (3 - i)) % 256] := (by
      unfold addrB
      rw [take_succ_get (numB_get a 4 i (by omega)), show 4 - 1 - i = 3 - i by omega, List.append_assoc])
    have e1 : (xs ++ addrB a (i + 1)).length = (xs ++ addrB a i).length + 1 := (by rw [e0, List.length_append]; rfl)
    rw [← u8s_app, ← e0, ← e1] at hV20
    rw [← e1]
    refine WL.val (v_assign rfl rfl) (.none rfl) rfl rfl ?_
    refine WL.nil ?_
    refine WE.block_n ?_
    refine WE.then_n ?_
    refine WC.region ?_
    refine WL.val (v_add rfl rfl rfl (w_i64 (by omega) (by omega))) (.none rfl) rfl rfl ?_
    refine WL.val (v_move rfl rfl) (.none rfl) rfl rfl ?_
    refine WL.nil ?_
    exact WE.next (i + 1, ad20, c20, E20) (by dsimp only; omega) ⟨by dsimp only; omega, hV20⟩ (.int rfl (by dsimp only; omega) (.cons rfl (.cons rfl (.cons rfl .nil)))) (List.Sublist.append_left (.cons _ (.refl _)) _)
  · -- 10F
    refine WL.nil ?_
    refine WE.then_n ?_
    refine WC.seq ?_
    refine WC.cond_f rfl ?_
    refine WC.exit ?_
    refine WE.then_exit ?_
    refine WE.then_exit ?_
    refine WE.block_hit ?_
    refine WE.then_n ?_
    refine WC.seq ?_
    refine WC.region ?_
    refine WL.val (v_move rfl rfl) (.none rfl) rfl rfl ?_
    refine WL.val (v_assign rfl rfl) (.none rfl) rfl rfl ?_
    refine WL.nil ?_
    refine WE.then_n ?_
    refine WC.ret ?_
    refine WE.ret1 (P := Tryd.prog) (.inl rfl) Tryd.results70 rfl ?_
    obtain rfl : i = n := (by omega)
    exact fun w' h => ⟨ad2, c2, E2, rfl, hV2, h⟩
theorem needs_c (w : World) (n : Int) (h0 : 0 ≤ n) (h1 : n ≤ 1000) : Calls Tryd.prog 79 #[.int .i64 n] w fun e w' => e = .returned (.int .i64 (((n.toNat + 7) / 8 : Nat) : Int)) ∧ Frm (fun _ => False) w w' := by
  refine enter Tryd.func79 rfl Tryd.ntmps79 rfl (St.start (fun _ => False) w) ?_
  refine WC.seq ?_
  refine WC.region ?_
  refine WL.val (v_assign rfl rfl) (.none rfl) rfl rfl ?_
  refine WL.nil ?_
  refine WE.then_n ?_
  refine WC.seq ?_
  refine WC.region ?_
  refine WL.val (v_move rfl rfl) (.none rfl) rfl rfl ?_
  refine WL.val (v_add rfl rfl rfl (w_i64 (by omega) (by omega))) (.none rfl) rfl rfl ?_
  refine WL.val (v_quo rfl rfl rfl (by omega) (by omega) (w_i64 (by omega) (by omega))) (.none rfl) rfl rfl ?_
  refine WL.val (v_assign rfl rfl) (.none rfl) rfl rfl ?_
  refine WL.nil ?_
  refine WE.then_n ?_
  refine WC.ret ?_
  refine WE.ret1 (P := Tryd.prog) (.inl rfl) Tryd.results79 rfl ?_
  exact fun w' h => ⟨by congr 3; omega, h.frm⟩
theorem formed_c (w : World) (ad : Option Addr) (c : Nat) (ps : List PfL) (hR : RowsAt w ad 2 PfL.cells ps) (hn : ps.length ≤ 9223372036854775807) (hI : ∀ p ∈ ps, U32 p.addr ∧ I64 p.len) :
    Calls Tryd.prog 71 #[.slice ad ps.length c] w fun e w' => e = .returned (.bool (ps.all pfOk)) ∧ Frm (fun _ => False) w w' := by
  refine enter Tryd.func71 rfl Tryd.ntmps71 rfl (St.start (fun _ => False) w) ?_
  refine WC.seq ?_
  refine WC.region ?_
  refine WL.val (v_assign rfl rfl) (.none rfl) rfl rfl ?_
  refine WL.nil ?_
  refine WE.then_n ?_
  refine WC.seq ?_
  refine WC.seq ?_
  refine WC.region ?_
  refine WL.val (v_move rfl rfl) (.none rfl) rfl rfl ?_
  refine WL.val (v_len_slice rfl rfl Tryd.underlying36) (.none rfl) rfl rfl ?_
  refine WL.val (v_move rfl rfl) (.none rfl) rfl rfl ?_
  refine WL.nil ?_
  refine WE.then_n ?_
  refine WC.block ?_
  refine WC.loop (fun k : Nat => [(7, .int .i64 k), (6, .int .i64 ps.length), (5, .slice ad ps.length c)]) (fun _ => []) (fun k => k ≤ ps.length ∧ ∀ j x, j < k → ps[j]? = some x → pfOk x = true) (fun k => ps.length - k) 0 ⟨Nat.zero_le _, fun j _ h => absurd h (by omega)⟩ (.cons rfl (.cons rfl (.cons rfl .nil))) (.refl _) ?_
  rintro k ⟨hk, hall⟩
  refine WC.seq ?_
  refine WC.region ?_
  refine WL.test (v_lss rfl rfl rfl) (.none rfl) rfl rfl (fun h8 => ?_) (fun h8 => ?_)
  · -- 8T
    refine WL.nil ?_
    refine WE.then_n ?_
    refine WC.seq ?_
    refine WC.cond_t rfl ?_
    refine WC.skip ?_
    refine WE.then_n ?_
    refine WC.seq ?_
    refine WC.block ?_
    refine WC.seq ?_
    refine WC.region ?_
    obtain ⟨x, hx⟩ : ∃ x, ps[k]? = some x := ⟨ps[k]'(by omega), List.getElem?_eq_getElem _⟩
    obtain ⟨b, o, ea, hr⟩ := hR k x hx
    refine WL.val ((v_indexAddr (b := b) (off := o) (lo := k) rfl (by show some (Value.slice ad _ _) = _; rw [ea]) rfl Tryd.underlying36 sz_65 rfl (by omega))) (.none rfl) rfl rfl ?_
    refine WL.val ((v_loadN (cs := x.cells) rfl rfl many_65 rfl (rgIn (fun h => h) hr))) (.none rfl) rfl rfl ?_
    refine WL.alloc rfl zero_65 (.none rfl) rfl rfl ?_
    intro g4 hg4
    refine WL.storeW rfl rfl rfl rfl many_65 rfl rfl (.none rfl) rfl ?_
    refine WL.nil ?_
    refine WE.then_n ?_
    refine WC.seq ?_
    refine WC.region ?_
    refine WL.val (v_loadN rfl rfl many_65 rfl allAt) (.none rfl) rfl rfl ?_
    refine WL.call rfl rfl ck_23 (.none rfl) rfl rfl ?_
    intro w hS
    refine Calls.then (PCheck_c w x (hI x (List.mem_of_getElem? hx)).1) hS ?_
    generalize hb : pfOk x = bb
    cases bb
    · -- 12F
      refine WL.val ((v_neq rfl rfl rfl).t ((by decide))) (.none rfl) rfl rfl ?_
      refine WL.nil ?_
      refine WE.then_n ?_
      refine WC.cond_t rfl ?_
      refine WC.seq ?_
      refine WC.region ?_
      refine WL.val (v_assign rfl rfl) (.none rfl) rfl rfl ?_
      refine WL.nil ?_
      refine WE.then_n ?_
      refine WC.ret ?_
      refine WE.block_ret ?_
      refine WE.then_ret ?_
      refine WE.then_ret ?_
      refine WE.block_ret ?_
      refine WE.then_ret ?_
      refine WE.ret1 (P := Tryd.prog) (.inl rfl) Tryd.results71 rfl ?_
      exact fun w' h => ⟨by rw [not_all hx hb], h.frm⟩
    · -- 12T
      refine WL.val ((v_neq rfl rfl rfl).f ((by decide))) (.none rfl) rfl rfl ?_
      refine WL.nil ?_
      refine WE.then_n ?_
      refine WC.cond_f rfl ?_
      refine WC.skip ?_
      refine WE.block_n ?_
      refine WE.then_n ?_
      refine WC.region ?_
      refine WL.val (v_add rfl rfl rfl (w_i64 (by omega) (by omega))) (.none rfl) rfl rfl ?_
      refine WL.val (v_move rfl rfl) (.none rfl) rfl rfl ?_
      refine WL.nil ?_
      exact WE.next (k + 1) (by omega) ⟨by omega, fun j y hj hy => by
      by_cases e : j = k
      · subst e; rw [hx] at hy; obtain rfl := Option.some.inj hy; exact hb
      · exact hall j y (by omega) hy⟩ (.int rfl (by omega) (.cons rfl (.cons rfl .nil))) (List.nil_sublist _)
  · -- 8F
    refine WL.nil ?_
    refine WE.then_n ?_
    refine WC.seq ?_
    refine WC.cond_f rfl ?_
    refine WC.exit ?_
    refine WE.then_exit ?_
    refine WE.then_exit ?_
    refine WE.block_hit ?_
    refine WE.then_n ?_
    refine WC.seq ?_
    refine WC.region ?_
    refine WL.val (v_assign rfl rfl) (.none rfl) rfl rfl ?_
    refine WL.nil ?_
    refine WE.then_n ?_
    refine WC.ret ?_
    refine WE.ret1 (P := Tryd.prog) (.inl rfl) Tryd.results71 rfl ?_
    exact fun w' h => ⟨by rw [all_of fun j x hj hx => hall j x (by omega) hx], h.frm⟩
def netE (p : PfL) : List Int := numB p.len 1 ++ addrB p.addr ((p.len.toNat + 7) / 8)
def netsE (ps : List PfL) : List Int := ps.flatMap netE
theorem pfOk_len {p : PfL} (h : pfOk p = true) : 0 ≤ p.len ∧ p.len ≤ 32 := by
  have := of_decide_eq_true h
  have h2 := inI_b p.len
  omega
theorem netE_len {p : PfL} (h : pfOk p = true) : (netE p).length ≤ 5 := by
  have := pfOk_len h
  unfold netE
  rw [List.length_append, numB_len, addrB_len _ (by omega)]
  omega
set_option maxHeartbeats 4000000 in
theorem putNets_c (w0 w1 : World) (L E : List Ent) (ad : Option Addr) (c : Nat) (xs : List Int) (ps : List PfL) (pa : Option Addr) (pc : Nat) (hV : BV ad c xs E) (hR : RowsAt w0 pa 2 PfL.cells ps) (hS0 : St (fun _ => False) w0 w1 (E ++ L)) (hk : xs.length + 5 * ps.length ≤ 1000000) (ho : ps.all pfOk = true) :
    Calls Tryd.prog 73 #[.slice ad xs.length c, .slice pa ps.length pc] w1 fun e w' => ∃ ad' c' E', e = .returned (.slice ad' (xs ++ netsE ps).length c') ∧ BV ad' c' (xs ++ netsE ps) E' ∧ St (fun _ => False) w0 w' (E' ++ L) := by
  refine enter Tryd.func73 rfl Tryd.ntmps73 rfl hS0 ?_
  refine WC.seq ?_
  refine WC.region ?_
  refine WL.val (v_assign rfl rfl) (.none rfl) rfl rfl ?_
  refine WL.nil ?_
  refine WE.then_n ?_
  refine WC.seq ?_
  refine WC.seq ?_
  refine WC.region ?_
  refine WL.val (v_move rfl rfl) (.none rfl) rfl rfl ?_
  refine WL.val (v_len_slice rfl rfl Tryd.underlying36) (.none rfl) rfl rfl ?_
  refine WL.val (v_move rfl rfl) (.none rfl) rfl rfl ?_
  refine WL.nil ?_
  refine WE.then_n ?_
  refine WC.block ?_
  refine WC.loop (fun x : Nat × List Int × Option Addr × Nat × List Ent => [(9, .int .i64 x.1), (8, .int .i64 ps.length), (7, .slice pa ps.length pc), (0, .slice x.2.2.1 x.2.1.length x.2.2.2.1)]) (fun x => x.2.2.2.2 ++ L) (fun x => x.1 ≤ ps.length ∧ x.2.1.length ≤ xs.length + 5 * x.1 ∧ x.2.1 ++ netsE (ps.drop x.1) = xs ++ netsE ps ∧ BV x.2.2.1 x.2.2.2.1 x.2.1 x.2.2.2.2) (fun x => ps.length - x.1) (0, xs, ad, c, E) ⟨Nat.zero_le _, Nat.le_refl _, rfl, hV⟩ (.cons rfl (.cons rfl (.cons rfl (.cons rfl .nil)))) (.refl _) ?_
  rintro ⟨k, ys, ad2, c2, E2⟩ ⟨hk2, hl2, hy, hV2⟩
  dsimp only at hk2 hl2 hy hV2
  dsimp only
  refine WC.seq ?_
  refine WC.region ?_
  refine WL.test (v_lss rfl rfl rfl) (.none rfl) rfl rfl (fun h10 => ?_) (fun h10 => ?_)
  · -- 10T
    refine WL.nil ?_
    refine WE.then_n ?_
    refine WC.seq ?_
    refine WC.cond_t rfl ?_
    refine WC.skip ?_
    refine WE.then_n ?_
    refine WC.seq ?_
    refine WC.block ?_
    refine WC.seq ?_
    refine WC.region ?_
    obtain ⟨x, hx⟩ : ∃ x, ps[k]? = some x := ⟨ps[k]'(by omega), List.getElem?_eq_getElem _⟩
    have hxo := List.all_eq_true.1 ho x (List.mem_of_getElem? hx)
    have hxl := pfOk_len hxo
    have hnl := netE_len hxo
    unfold netsE at hy
    rw [drop_cons' hx, List.flatMap_cons] at hy
    obtain ⟨b, o, ea, hr⟩ := hR k x hx
    refine WL.val ((v_indexAddr (b := b) (off := o) (lo := k) rfl (by show some (Value.slice pa _ _) = _; rw [ea]) rfl Tryd.underlying36 sz_65 rfl (by omega))) (.none rfl) rfl rfl ?_
    refine WL.val ((v_loadN (cs := x.cells) rfl rfl many_65 rfl (rgIn (fun h => h) hr))) (.none rfl) rfl rfl ?_
    refine WL.alloc rfl zero_65 (.none rfl) rfl rfl ?_
    intro g6 hg6
    refine WL.storeW rfl rfl rfl rfl many_65 rfl rfl (.none rfl) rfl ?_
    refine WL.as (L' := .row g6 x.cells :: (E2 ++ L)) rfl ?_
    refine WL.to (L' := E2 ++ (.row g6 x.cells :: L)) (fun w hS => hS.front [_]) ?_
    refine WL.nil ?_
    refine WE.then_n ?_
    refine WC.orders mixed ?_
    refine WR.first (g := 9) [0, 1, 6, 8] (by kernel_rfl) (by kernel_rfl) ?_
    refine WP.val (v_move rfl rfl) (.none rfl) rfl rfl ?_
    refine WP.val (v_fieldAddr0 rfl rfl fld_65_1) (.none rfl) rfl rfl ?_
    refine WP.val (v_fieldAddr0 rfl rfl fld_65_0) (.none rfl) rfl rfl ?_
    refine WP.val (v_fieldAddr0 rfl rfl fld_65_1) (.none rfl) rfl rfl ?_
    refine WP.nil ?_
    refine WR.each (g := 8) [2, 7, 9] (by kernel_rfl) (by decide) ?_
    refine ⟨?_, ⟨?_, ?_⟩⟩
    · -- next 2
      refine WL.val (v_load1 rfl rfl one_3 (cellAt rfl)) (.none rfl) rfl rfl ?_
      refine WL.nilR ?_
      refine WR.first (g := 7) [3] (by kernel_rfl) (by kernel_rfl) ?_
      refine WP.val (v_conv rfl rfl Tryd.underlying5 Tryd.underlying3 (w_u8m _)) (.none rfl) rfl rfl ?_
      refine WP.nil ?_
      refine WR.each (g := 6) [4, 7, 9] (by kernel_rfl) (by decide) ?_
      refine ⟨?_, ⟨?_, ?_⟩⟩
      · -- next 4
        refine WL.buildSlice rfl rfl Tryd.underlying22 sz_5 zero_5 rfl (by decide) rfl (.none rfl) rfl rfl ?_
        intro g17 hg17
        refine WL.as (L' := .row g17 (u8s [x.len % 256]) :: (E2 ++ (.row g6 x.cells :: L))) rfl ?_
        refine WL.to (L' := E2 ++ (.row g17 (u8s [x.len % 256]) :: .row g6 x.cells :: L)) (fun w hS => hS.front [_]) ?_
        refine WL.nilR ?_
        refine WR.each (g := 5) [5, 7, 9] (by kernel_rfl) (by decide) ?_
        refine ⟨?_, ⟨?_, ?_⟩⟩
        · -- next 5
          refine WL.appendL rfl rfl rfl Tryd.underlying22 Tryd.underlying22 sz_5 by_5 zero_5 rfl rfl hV2 (new := u8s [x.len % 256]) (fun _ => ⟨g17, 0, rfl, fun w hS => allAt (g := g17) w hS⟩) rfl (u8s_one _) (by omega) (.none rfl) rfl rfl ?_
          intro ad18 c18 E18 hV18 hr18
          rw [← u8s_app] at hV18
          rw [show ys.length + 1 = (ys ++ [x.len % 256]).length by rw [List.length_append]; rfl] at hV18 ⊢
          refine WL.nilR ?_
          refine WR.read (g := 2) [7, 9, 10] (by kernel_rfl) (by kernel_rfl) (by kernel_rfl) (by kernel_rfl) rfl ?_
          refine WQ.val (v_load1 rfl rfl one_34 (cellAt rfl)) (.none rfl) rfl rfl ?_
          refine WQ.val (v_load1 rfl rfl one_3 (cellAt rfl)) (.none rfl) rfl rfl ?_
          refine WQ.call _ rfl rfl ck_79 (.none rfl) rfl rfl (fun w hS => Calls.still (needs_c w x.len (by omega) (by omega)) hS) ?_
          refine WQ.nilR ?_
          refine WR.ones (g := 1) [11] (by kernel_rfl) ?_
          refine WL.call rfl rfl ck_70 (.none rfl) rfl rfl ?_
          intro w1 hS
          refine (putAddr_c (fun _ => False) w0 w1 _ _ _ _ _ x.addr ((x.len.toNat + 7) / 8) hV18 hS (by rw [List.length_append]; show ys.length + 1 ≤ _; omega) (by omega)).mono ?_
          rintro e w' ⟨ad24, c24, E24, rfl, hV24, hS'⟩
          refine ⟨_, _, rfl, hS', ?_⟩
          refine WL.nilR ?_
          refine WR.first (g := 0) [12] (by kernel_rfl) (by kernel_rfl) ?_
          refine WP.val (v_assign rfl rfl) (.none rfl) rfl rfl ?_
          refine WP.nil ?_
          refine WR.done (by kernel_rfl) ?_
          refine WE.block_n ?_
          refine WE.then_n ?_
          refine WC.region ?_
          refine WL.val (v_add rfl rfl rfl (w_i64 (by omega) (by omega))) (.none rfl) rfl rfl ?_
          refine WL.val (v_move rfl rfl) (.none rfl) rfl rfl ?_
          refine WL.nil ?_
          have hz : ys ++ [x.len % 256] ++ addrB x.addr ((x.len.toNat + 7) / 8) = ys ++ netE x := (by unfold netE; rw [List.append_assoc]; congr 2; show [_] = [_]; rw [show (2 : Int) ^ (8 * 0) = 1 by decide, Int.ediv_one])
          exact WE.next (k + 1, _, ad24, c24, E24) (by dsimp only; omega) ⟨by dsimp only; omega, by dsimp only; rw [hz, List.length_append]; omega, by dsimp only; rw [hz, List.append_assoc]; exact hy, hV24⟩ (.int rfl (by dsimp only; omega) (.cons rfl (.cons rfl (.cons rfl .nil)))) (List.Sublist.append_left (.cons _ (.cons _ (.refl _))) _)
        · -- next 7
          refine WL.val (v_load1 rfl rfl one_34 (cellAt rfl)) (.none rfl) rfl rfl ?_
          refine WL.nilR ?_
          refine WR.each (g := 4) [5, 9] (by kernel_rfl) (by decide) ?_
          refine ⟨?_, ?_⟩
          · -- next 5
            refine WL.appendL rfl rfl rfl Tryd.underlying22 Tryd.underlying22 sz_5 by_5 zero_5 rfl rfl hV2 (new := u8s [x.len % 256]) (fun _ => ⟨g17, 0, rfl, fun w hS => allAt (g := g17) w hS⟩) rfl (u8s_one _) (by omega) (.none rfl) rfl rfl ?_
            intro ad18 c18 E18 hV18 hr18
            rw [← u8s_app] at hV18
            rw [show ys.length + 1 = (ys ++ [x.len % 256]).length by rw [List.length_append]; rfl] at hV18 ⊢
            refine WL.nilR ?_
            refine WR.read (g := 2) [9, 10] (by kernel_rfl) (by kernel_rfl) (by kernel_rfl) (by kernel_rfl) rfl ?_
            refine WQ.val (v_load1 rfl rfl one_3 (cellAt rfl)) (.none rfl) rfl rfl ?_
            refine WQ.call _ rfl rfl ck_79 (.none rfl) rfl rfl (fun w hS => Calls.still (needs_c w x.len (by omega) (by omega)) hS) ?_
            refine WQ.nilR ?_
            refine WR.ones (g := 1) [11] (by kernel_rfl) ?_
            refine WL.call rfl rfl ck_70 (.none rfl) rfl rfl ?_
            intro w1 hS
            refine (putAddr_c (fun _ => False) w0 w1 _ _ _ _ _ x.addr ((x.len.toNat + 7) / 8) hV18 hS (by rw [List.length_append]; show ys.length + 1 ≤ _; omega) (by omega)).mono ?_
            rintro e w' ⟨ad24, c24, E24, rfl, hV24, hS'⟩
            refine ⟨_, _, rfl, hS', ?_⟩
            refine WL.nilR ?_
            refine WR.first (g := 0) [12] (by kernel_rfl) (by kernel_rfl) ?_
            refine WP.val (v_assign rfl rfl) (.none rfl) rfl rfl ?_
            refine WP.nil ?_
            refine WR.done (by kernel_rfl) ?_
            refine WE.block_n ?_
            refine WE.then_n ?_
            refine WC.region ?_
            refine WL.val (v_add rfl rfl rfl (w_i64 (by omega) (by omega))) (.none rfl) rfl rfl ?_
            refine WL.val (v_move rfl rfl) (.none rfl) rfl rfl ?_
            refine WL.nil ?_
            have hz : ys ++ [x.len % 256] ++ addrB x.addr ((x.len.toNat + 7) / 8) = ys ++ netE x := (by unfold netE; rw [List.append_assoc]; congr 2; show [_] = [_]; rw [show (2 : Int) ^ (8 * 0) = 1 by decide, Int.ediv_one])
            exact WE.next (k + 1, _, ad24, c24, E24) (by dsimp only; omega) ⟨by dsimp only; omega, by dsimp only; rw [hz, List.length_append]; omega, by dsimp only; rw [hz, List.append_assoc]; exact hy, hV24⟩ (.int rfl (by dsimp only; omega) (.cons rfl (.cons rfl (.cons rfl .nil)))) (List.Sublist.append_left (.cons _ (.cons _ (.refl _))) _)
          · -- next 9
            refine WL.val (v_load1 rfl rfl one_3 (cellAt rfl)) (.none rfl) rfl rfl ?_
            refine WL.nilR ?_
            refine WR.ones (g := 3) [5] (by kernel_rfl) ?_
            refine WL.appendL rfl rfl rfl Tryd.underlying22 Tryd.underlying22 sz_5 by_5 zero_5 rfl rfl hV2 (new := u8s [x.len % 256]) (fun _ => ⟨g17, 0, rfl, fun w hS => allAt (g := g17) w hS⟩) rfl (u8s_one _) (by omega) (.none rfl) rfl rfl ?_
            intro ad18 c18 E18 hV18 hr18
            rw [← u8s_app] at hV18
            rw [show ys.length + 1 = (ys ++ [x.len % 256]).length by rw [List.length_append]; rfl] at hV18 ⊢
            refine WL.nilR ?_
            refine WR.read (g := 2) [10] (by kernel_rfl) (by kernel_rfl) (by kernel_rfl) (by kernel_rfl) rfl ?_
            refine WQ.call _ rfl rfl ck_79 (.none rfl) rfl rfl (fun w hS => Calls.still (needs_c w x.len (by omega) (by omega)) hS) ?_
            refine WQ.nilR ?_
            refine WR.ones (g := 1) [11] (by kernel_rfl) ?_
            refine WL.call rfl rfl ck_70 (.none rfl) rfl rfl ?_
            intro w1 hS
            refine (putAddr_c (fun _ => False) w0 w1 _ _ _ _ _ x.addr ((x.len.toNat + 7) / 8) hV18 hS (by rw [List.length_append]; show ys.length + 1 ≤ _; omega) (by omega)).mono ?_
            rintro e w' ⟨ad24, c24, E24, rfl, hV24, hS'⟩
            refine ⟨_, _, rfl, hS', ?_⟩
            refine WL.nilR ?_
            refine WR.first (g := 0) [12] (by kernel_rfl) (by kernel_rfl) ?_
            refine WP.val (v_assign rfl rfl) (.none rfl) rfl rfl ?_
            refine WP.nil ?_
            refine WR.done (by kernel_rfl) ?_
            refine WE.block_n ?_
            refine WE.then_n ?_
            refine WC.region ?_
            refine WL.val (v_add rfl rfl rfl (w_i64 (by omega) (by omega))) (.none rfl) rfl rfl ?_
            refine WL.val (v_move rfl rfl) (.none rfl) rfl rfl ?_
            refine WL.nil ?_
            have hz : ys ++ [x.len % 256] ++ addrB x.addr ((x.len.toNat + 7) / 8) = ys ++ netE x := (by unfold netE; rw [List.append_assoc]; congr 2; show [_] = [_]; rw [show (2 : Int) ^ (8 * 0) = 1 by decide, Int.ediv_one])
            exact WE.next (k + 1, _, ad24, c24, E24) (by dsimp only; omega) ⟨by dsimp only; omega, by dsimp only; rw [hz, List.length_append]; omega, by dsimp only; rw [hz, List.append_assoc]; exact hy, hV24⟩ (.int rfl (by dsimp only; omega) (.cons rfl (.cons rfl (.cons rfl .nil)))) (List.Sublist.append_left (.cons _ (.cons _ (.refl _))) _)
        · -- next 9
          refine WL.val (v_load1 rfl rfl one_3 (cellAt rfl)) (.none rfl) rfl rfl ?_
          refine WL.nilR ?_
          refine WR.each (g := 4) [5, 7] (by kernel_rfl) (by decide) ?_
          refine ⟨?_, ?_⟩
          · -- next 5
            refine WL.appendL rfl rfl rfl Tryd.underlying22 Tryd.underlying22 sz_5 by_5 zero_5 rfl rfl hV2 (new := u8s [x.len % 256]) (fun _ => ⟨g17, 0, rfl, fun w hS => allAt (g := g17) w hS⟩) rfl (u8s_one _) (by omega) (.none rfl) rfl rfl ?_
            intro ad18 c18 E18 hV18 hr18
            rw [← u8s_app] at hV18
            rw [show ys.length + 1 = (ys ++ [x.len % 256]).length by rw [List.length_append]; rfl] at hV18 ⊢
            refine WL.nilR ?_
            refine WR.read (g := 2) [7, 10] (by kernel_rfl) (by kernel_rfl) (by kernel_rfl) (by kernel_rfl) rfl ?_
            refine WQ.val (v_load1 rfl rfl one_34 (cellAt rfl)) (.none rfl) rfl rfl ?_
            refine WQ.call _ rfl rfl ck_79 (.none rfl) rfl rfl (fun w hS => Calls.still (needs_c w x.len (by omega) (by omega)) hS) ?_
            refine WQ.nilR ?_
            refine WR.ones (g := 1) [11] (by kernel_rfl) ?_
            refine WL.call rfl rfl ck_70 (.none rfl) rfl rfl ?_
            intro w1 hS
            refine (putAddr_c (fun _ => False) w0 w1 _ _ _ _ _ x.addr ((x.len.toNat + 7) / 8) hV18 hS (by rw [List.length_append]; show ys.length + 1 ≤ _; omega) (by omega)).mono ?_
            rintro e w' ⟨ad24, c24, E24, rfl, hV24, hS'⟩
            refine ⟨_, _, rfl, hS', ?_⟩
            refine WL.nilR ?_
            refine WR.first (g := 0) [12] (by kernel_rfl) (by kernel_rfl) ?_
            refine WP.val (v_assign rfl rfl) (.none rfl) rfl rfl ?_
            refine WP.nil ?_
            refine WR.done (by kernel_rfl) ?_
            refine WE.block_n ?_
            refine WE.then_n ?_
            refine WC.region ?_
            refine WL.val (v_add rfl rfl rfl (w_i64 (by omega) (by omega))) (.none rfl) rfl rfl ?_
            refine WL.val (v_move rfl rfl) (.none rfl) rfl rfl ?_
            refine WL.nil ?_
            have hz : ys ++ [x.len % 256] ++ addrB x.addr ((x.len.toNat + 7) / 8) = ys ++ netE x := (by unfold netE; rw [List.append_assoc]; congr 2; show [_] = [_]; rw [show (2 : Int) ^ (8 * 0) = 1 by decide, Int.ediv_one])
            exact WE.next (k + 1, _, ad24, c24, E24) (by dsimp only; omega) ⟨by dsimp only; omega, by dsimp only; rw [hz, List.length_append]; omega, by dsimp only; rw [hz, List.append_assoc]; exact hy, hV24⟩ (.int rfl (by dsimp only; omega) (.cons rfl (.cons rfl (.cons rfl .nil)))) (List.Sublist.append_left (.cons _ (.cons _ (.refl _))) _)
          · -- next 7
            refine WL.val (v_load1 rfl rfl one_34 (cellAt rfl)) (.none rfl) rfl rfl ?_
            refine WL.nilR ?_
            refine WR.ones (g := 3) [5] (by kernel_rfl) ?_
            refine WL.appendL rfl rfl rfl Tryd.underlying22 Tryd.underlying22 sz_5 by_5 zero_5 rfl rfl hV2 (new := u8s [x.len % 256]) (fun _ => ⟨g17, 0, rfl, fun w hS => allAt (g := g17) w hS⟩) rfl (u8s_one _) (by omega) (.none rfl) rfl rfl ?_
            intro ad18 c18 E18 hV18 hr18
            rw [← u8s_app] at hV18
            rw [show ys.length + 1 = (ys ++ [x.len % 256]).length by rw [List.length_append]; rfl] at hV18 ⊢
            refine WL.nilR ?_
            refine WR.read (g := 2) [10] (by kernel_rfl) (by kernel_rfl) (by kernel_rfl) (by kernel_rfl) rfl ?_
            refine WQ.call _ rfl rfl ck_79 (.none rfl) rfl rfl (fun w hS => Calls.still (needs_c w x.len (by omega) (by omega)) hS) ?_
            refine WQ.nilR ?_
            refine WR.ones (g := 1) [11] (by kernel_rfl) ?_
            refine WL.call rfl rfl ck_70 (.none rfl) rfl rfl ?_
            intro w1 hS
            refine (putAddr_c (fun _ => False) w0 w1 _ _ _ _ _ x.addr ((x.len.toNat + 7) / 8) hV18 hS (by rw [List.length_append]; show ys.length + 1 ≤ _; omega) (by omega)).mono ?_
            rintro e w' ⟨ad24, c24, E24, rfl, hV24, hS'⟩
            refine ⟨_, _, rfl, hS', ?_⟩
            refine WL.nilR ?_
            refine WR.first (g := 0) [12] (by kernel_rfl) (by kernel_rfl) ?_
            refine WP.val (v_assign rfl rfl) (.none rfl) rfl rfl ?_
            refine WP.nil ?_
            refine WR.done (by kernel_rfl) ?_
            refine WE.block_n ?_
            refine WE.then_n ?_
            refine WC.region ?_
            refine WL.val (v_add rfl rfl rfl (w_i64 (by omega) (by omega))) (.none rfl) rfl rfl ?_
            refine WL.val (v_move rfl rfl) (.none rfl) rfl rfl ?_
            refine WL.nil ?_
            have hz : ys ++ [x.len % 256] ++ addrB x.addr ((x.len.toNat + 7) / 8) = ys ++ netE x := (by unfold netE; rw [List.append_assoc]; congr 2; show [_] = [_]; rw [show (2 : Int) ^ (8 * 0) = 1 by decide, Int.ediv_one])
            exact WE.next (k + 1, _, ad24, c24, E24) (by dsimp only; omega) ⟨by dsimp only; omega, by dsimp only; rw [hz, List.length_append]; omega, by dsimp only; rw [hz, List.append_assoc]; exact hy, hV24⟩ (.int rfl (by dsimp only; omega) (.cons rfl (.cons rfl (.cons rfl .nil)))) (List.Sublist.append_left (.cons _ (.cons _ (.refl _))) _)
      · -- next 7
        refine WL.val (v_load1 rfl rfl one_34 (cellAt rfl)) (.none rfl) rfl rfl ?_
        refine WL.nilR ?_
        refine WR.each (g := 5) [4, 9] (by kernel_rfl) (by decide) ?_
        refine ⟨?_, ?_⟩
        · -- next 4
          refine WL.buildSlice rfl rfl Tryd.underlying22 sz_5 zero_5 rfl (by decide) rfl (.none rfl) rfl rfl ?_
          intro g17 hg17
          refine WL.as (L' := .row g17 (u8s [x.len % 256]) :: (E2 ++ (.row g6 x.cells :: L))) rfl ?_
          refine WL.to (L' := E2 ++ (.row g17 (u8s [x.len % 256]) :: .row g6 x.cells :: L)) (fun w hS => hS.front [_]) ?_
          refine WL.nilR ?_
          refine WR.each (g := 4) [5, 9] (by kernel_rfl) (by decide) ?_
          refine ⟨?_, ?_⟩
          · -- next 5
            refine WL.appendL rfl rfl rfl Tryd.underlying22 Tryd.underlying22 sz_5 by_5 zero_5 rfl rfl hV2 (new := u8s [x.len % 256]) (fun _ => ⟨g17, 0, rfl, fun w hS => allAt (g := g17) w hS⟩) rfl (u8s_one _) (by omega) (.none rfl) rfl rfl ?_
            intro ad18 c18 E18 hV18 hr18
            rw [← u8s_app] at hV18
            rw [show ys.length + 1 = (ys ++ [x.len % 256]).length by rw [List.length_append]; rfl] at hV18 ⊢
            refine WL.nilR ?_
            refine WR.read (g := 2) [9, 10] (by kernel_rfl) (by kernel_rfl) (by kernel_rfl) (by kernel_rfl) rfl ?_
            refine WQ.val (v_load1 rfl rfl one_3 (cellAt rfl)) (.none rfl) rfl rfl ?_
            refine WQ.call _ rfl rfl ck_79 (.none rfl) rfl rfl (fun w hS => Calls.still (needs_c w x.len (by omega) (by omega)) hS) ?_
            refine WQ.nilR ?_
            refine WR.ones (g := 1) [11] (by kernel_rfl) ?_
            refine WL.call rfl rfl ck_70 (.none rfl) rfl rfl ?_
            intro w1 hS
            refine (putAddr_c (fun _ => False) w0 w1 _ _ _ _ _ x.addr ((x.len.toNat + 7) / 8) hV18 hS (by rw [List.length_append]; show ys.length + 1 ≤ _; omega) (by omega)).mono ?_
            rintro e w' ⟨ad24, c24, E24, rfl, hV24, hS'⟩
            refine ⟨_, _, rfl, hS', ?_⟩
            refine WL.nilR ?_
            refine WR.first (g := 0) [12] (by kernel_rfl) (by kernel_rfl) ?_
            refine WP.val (v_assign rfl rfl) (.none rfl) rfl rfl ?_
            refine WP.nil ?_
            refine WR.done (by kernel_rfl) ?_
            refine WE.block_n ?_
            refine WE.then_n ?_
            refine WC.region ?_
            refine WL.val (v_add rfl rfl rfl (w_i64 (by omega) (by omega))) (.none rfl) rfl rfl ?_
            refine WL.val (v_move rfl rfl) (.none rfl) rfl rfl ?_
            refine WL.nil ?_
            have hz : ys ++ [x.len % 256] ++ addrB x.addr ((x.len.toNat + 7) / 8) = ys ++ netE x := (by unfold netE; rw [List.append_assoc]; congr 2; show [_] = [_]; rw [show (2 : Int) ^ (8 * 0) = 1 by decide, Int.ediv_one])
            exact WE.next (k + 1, _, ad24, c24, E24) (by dsimp only; omega) ⟨by dsimp only; omega, by dsimp only; rw [hz, List.length_append]; omega, by dsimp only; rw [hz, List.append_assoc]; exact hy, hV24⟩ (.int rfl (by dsimp only; omega) (.cons rfl (.cons rfl (.cons rfl .nil)))) (List.Sublist.append_left (.cons _ (.cons _ (.refl _))) _)
          · -- next 9
            refine WL.val (v_load1 rfl rfl one_3 (cellAt rfl)) (.none rfl) rfl rfl ?_
            refine WL.nilR ?_
            refine WR.ones (g := 3) [5] (by kernel_rfl) ?_
            refine WL.appendL rfl rfl rfl Tryd.underlying22 Tryd.underlying22 sz_5 by_5 zero_5 rfl rfl hV2 (new := u8s [x.len % 256]) (fun _ => ⟨g17, 0, rfl, fun w hS => allAt (g := g17) w hS⟩) rfl (u8s_one _) (by omega) (.none rfl) rfl rfl ?_
            intro ad18 c18 E18 hV18 hr18
            rw [← u8s_app] at hV18
            rw [show ys.length + 1 = (ys ++ [x.len % 256]).length by rw [List.length_append]; rfl] at hV18 ⊢
            refine WL.nilR ?_
            refine WR.read (g := 2) [10] (by kernel_rfl) (by kernel_rfl) (by kernel_rfl) (by kernel_rfl) rfl ?_
            refine WQ.call _ rfl rfl ck_79 (.none rfl) rfl rfl (fun w hS => Calls.still (needs_c w x.len (by omega) (by omega)) hS) ?_
            refine WQ.nilR ?_
            refine WR.ones (g := 1) [11] (by kernel_rfl) ?_
            refine WL.call rfl rfl ck_70 (.none rfl) rfl rfl ?_
            intro w1 hS
            refine (putAddr_c (fun _ => False) w0 w1 _ _ _ _ _ x.addr ((x.len.toNat + 7) / 8) hV18 hS (by rw [List.length_append]; show ys.length + 1 ≤ _; omega) (by omega)).mono ?_
            rintro e w' ⟨ad24, c24, E24, rfl, hV24, hS'⟩
            refine ⟨_, _, rfl, hS', ?_⟩
            refine WL.nilR ?_
            refine WR.first (g := 0) [12] (by kernel_rfl) (by kernel_rfl) ?_
            refine WP.val (v_assign rfl rfl) (.none rfl) rfl rfl ?_
            refine WP.nil ?_
            refine WR.done (by kernel_rfl) ?_
            refine WE.block_n ?_
            refine WE.then_n ?_
            refine WC.region ?_
            refine WL.val (v_add rfl rfl rfl (w_i64 (by omega) (by omega))) (.none rfl) rfl rfl ?_
            refine WL.val (v_move rfl rfl) (.none rfl) rfl rfl ?_
            refine WL.nil ?_
            have hz : ys ++ [x.len % 256] ++ addrB x.addr ((x.len.toNat + 7) / 8) = ys ++ netE x := (by unfold netE; rw [List.append_assoc]; congr 2; show [_] = [_]; rw [show (2 : Int) ^ (8 * 0) = 1 by decide, Int.ediv_one])
            exact WE.next (k + 1, _, ad24, c24, E24) (by dsimp only; omega) ⟨by dsimp only; omega, by dsimp only; rw [hz, List.length_append]; omega, by dsimp only; rw [hz, List.append_assoc]; exact hy, hV24⟩ (.int rfl (by dsimp only; omega) (.cons rfl (.cons rfl (.cons rfl .nil)))) (List.Sublist.append_left (.cons _ (.cons _ (.refl _))) _)
        · -- next 9
          refine WL.val (v_load1 rfl rfl one_3 (cellAt rfl)) (.none rfl) rfl rfl ?_
          refine WL.nilR ?_
          refine WR.ones (g := 3) [4, 5] (by kernel_rfl) ?_
          refine WL.buildSlice rfl rfl Tryd.underlying22 sz_5 zero_5 rfl (by decide) rfl (.none rfl) rfl rfl ?_
          intro g17 hg17
          refine WL.as (L' := .row g17 (u8s [x.len % 256]) :: (E2 ++ (.row g6 x.cells :: L))) rfl ?_
          refine WL.to (L' := E2 ++ (.row g17 (u8s [x.len % 256]) :: .row g6 x.cells :: L)) (fun w hS => hS.front [_]) ?_
          refine WL.appendL rfl rfl rfl Tryd.underlying22 Tryd.underlying22 sz_5 by_5 zero_5 rfl rfl hV2 (new := u8s [x.len % 256]) (fun _ => ⟨g17, 0, rfl, fun w hS => allAt (g := g17) w hS⟩) rfl (u8s_one _) (by omega) (.none rfl) rfl rfl ?_
          intro ad18 c18 E18 hV18 hr18
          rw [← u8s_app] at hV18
          rw [show ys.length + 1 = (ys ++ [x.len % 256]).length by rw [List.length_append]; rfl] at hV18 ⊢
          refine WL.nilR ?_
          refine WR.read (g := 2) [10] (by kernel_rfl) (by kernel_rfl) (by kernel_rfl) (by kernel_rfl) rfl ?_
          refine WQ.call _ rfl rfl ck_79 (.none rfl) rfl rfl (fun w hS => Calls.still (needs_c w x.len (by omega) (by omega)) hS) ?_
          refine WQ.nilR ?_
          refine WR.ones (g := 1) [11] (by kernel_rfl) ?_
          refine WL.call rfl rfl ck_70 (.none rfl) rfl rfl ?_
          intro w1 hS
          refine (putAddr_c (fun _ => False) w0 w1 _ _ _ _ _ x.addr ((x.len.toNat + 7) / 8) hV18 hS (by rw [List.length_append]; show ys.length + 1 ≤ _; omega) (by omega)).mono ?_
          rintro e w' ⟨ad24, c24, E24, rfl, hV24, hS'⟩
          refine ⟨_, _, rfl, hS', ?_⟩
          refine WL.nilR ?_
          refine WR.first (g := 0) [12] (by kernel_rfl) (by kernel_rfl) ?_
          refine WP.val (v_assign rfl rfl) (.none rfl) rfl rfl ?_
          refine WP.nil ?_
          refine WR.done (by kernel_rfl) ?_
          refine WE.block_n ?_
          refine WE.then_n ?_
          refine WC.region ?_
          refine WL.val (v_add rfl rfl rfl (w_i64 (by omega) (by omega))) (.none rfl) rfl rfl ?_
          refine WL.val (v_move rfl rfl) (.none rfl) rfl rfl ?_
          refine WL.nil ?_
          have hz : ys ++ [x.len % 256] ++ addrB x.addr ((x.len.toNat + 7) / 8) = ys ++ netE x := (by unfold netE; rw [List.append_assoc]; congr 2; show [_] = [_]; rw [show (2 : Int) ^ (8 * 0) = 1 by decide, Int.ediv_one])
          exact WE.next (k + 1, _, ad24, c24, E24) (by dsimp only; omega) ⟨by dsimp only; omega, by dsimp only; rw [hz, List.length_append]; omega, by dsimp only; rw [hz, List.append_assoc]; exact hy, hV24⟩ (.int rfl (by dsimp only; omega) (.cons rfl (.cons rfl (.cons rfl .nil)))) (List.Sublist.append_left (.cons _ (.cons _ (.refl _))) _)
      · -- next 9
        refine WL.val (v_load1 rfl rfl one_3 (cellAt rfl)) (.none rfl) rfl rfl ?_
        refine WL.nilR ?_
        refine WR.each (g := 5) [4, 7] (by kernel_rfl) (by decide) ?_
        refine ⟨?_, ?_⟩
        · -- next 4
          refine WL.buildSlice rfl rfl Tryd.underlying22 sz_5 zero_5 rfl (by decide) rfl (.none rfl) rfl rfl ?_
          intro g17 hg17
          refine WL.as (L' := .row g17 (u8s [x.len % 256]) :: (E2 ++ (.row g6 x.cells :: L))) rfl ?_
          refine WL.to (L' := E2 ++ (.row g17 (u8s [x.len % 256]) :: .row g6 x.cells :: L)) (fun w hS => hS.front [_]) ?_
          refine WL.nilR ?_
          refine WR.each (g := 4) [5, 7] (by kernel_rfl) (by decide) ?_
          refine ⟨?_, ?_⟩
          · -- next 5
            refine WL.appendL rfl rfl rfl Tryd.underlying22 Tryd.underlying22 sz_5 by_5 zero_5 rfl rfl hV2 (new := u8s [x.len % 256]) (fun _ => ⟨g17, 0, rfl, fun w hS => allAt (g := g17) w hS⟩) rfl (u8s_one _) (by omega) (.none rfl) rfl rfl ?_
            intro ad18 c18 E18 hV18 hr18
            rw [← u8s_app] at hV18
            rw [show ys.length + 1 = (ys ++ [x.len % 256]).length by rw [List.length_append]; rfl] at hV18 ⊢
            refine WL.nilR ?_
            refine WR.read (g := 2) [7, 10] (by kernel_rfl) (by kernel_rfl) (by kernel_rfl) (by kernel_rfl) rfl ?_
            refine WQ.val (v_load1 rfl rfl one_34 (cellAt rfl)) (.none rfl) rfl rfl ?_
            refine WQ.call _ rfl rfl ck_79 (.none rfl) rfl rfl (fun w hS => Calls.still (needs_c w x.len (by omega) (by omega)) hS) ?_
            refine WQ.nilR ?_
            refine WR.ones (g := 1) [11] (by kernel_rfl) ?_
            refine WL.call rfl rfl ck_70 (.none rfl) rfl rfl ?_
            intro w1 hS
            refine (putAddr_c (fun _ => False) w0 w1 _ _ _ _ _ x.addr ((x.len.toNat + 7) / 8) hV18 hS (by rw [List.length_append]; show ys.length + 1 ≤ _; omega) (by omega)).mono ?_
            rintro e w' ⟨ad24, c24, E24, rfl, hV24, hS'⟩
            refine ⟨_, _, rfl, hS', ?_⟩
            refine WL.nilR ?_
            refine WR.first (g := 0) [12] (by kernel_rfl) (by kernel_rfl) ?_
            refine WP.val (v_assign rfl rfl) (.none rfl) rfl rfl ?_
            refine WP.nil ?_
            refine WR.done (by kernel_rfl) ?_
            refine WE.block_n ?_
            refine WE.then_n ?_
            refine WC.region ?_
            refine WL.val (v_add rfl rfl rfl (w_i64 (by omega) (by omega))) (.none rfl) rfl rfl ?_
            refine WL.val (v_move rfl rfl) (.none rfl) rfl rfl ?_
            refine WL.nil ?_
            have hz : ys ++ [x.len % 256] ++ addrB x.addr ((x.len.toNat + 7) / 8) = ys ++ netE x := (by unfold netE; rw [List.append_assoc]; congr 2; show [_] = [_]; rw [show (2 : Int) ^ (8 * 0) = 1 by decide, Int.ediv_one])
            exact WE.next (k + 1, _, ad24, c24, E24) (by dsimp only; omega) ⟨by dsimp only; omega, by dsimp only; rw [hz, List.length_append]; omega, by dsimp only; rw [hz, List.append_assoc]; exact hy, hV24⟩ (.int rfl (by dsimp only; omega) (.cons rfl (.cons rfl (.cons rfl .nil)))) (List.Sublist.append_left (.cons _ (.cons _ (.refl _))) _)
          · -- next 7
            refine WL.val (v_load1 rfl rfl one_34 (cellAt rfl)) (.none rfl) rfl rfl ?_
            refine WL.nilR ?_
            refine WR.ones (g := 3) [5] (by kernel_rfl) ?_
            refine WL.appendL rfl rfl rfl Tryd.underlying22 Tryd.underlying22 sz_5 by_5 zero_5 rfl rfl hV2 (new := u8s [x.len % 256]) (fun _ => ⟨g17, 0, rfl, fun w hS => allAt (g := g17) w hS⟩) rfl (u8s_one _) (by omega) (.none rfl) rfl rfl ?_
            intro ad18 c18 E18 hV18 hr18
            rw [← u8s_app] at hV18
            rw [show ys.length + 1 = (ys ++ [x.len % 256]).length by rw [List.length_append]; rfl] at hV18 ⊢
            refine WL.nilR ?_
            refine WR.read (g := 2) [10] (by kernel_rfl) (by kernel_rfl) (by kernel_rfl) (by kernel_rfl) rfl ?_
            refine WQ.call _ rfl rfl ck_79 (.none rfl) rfl rfl (fun w hS => Calls.still (needs_c w x.len (by omega) (by omega)) hS) ?_
            refine WQ.nilR ?_
            refine WR.ones (g := 1) [11] (by kernel_rfl) ?_
            refine WL.call rfl rfl ck_70 (.none rfl) rfl rfl ?_
            intro w1 hS
            refine (putAddr_c (fun _ => False) w0 w1 _ _ _ _ _ x.addr ((x.len.toNat + 7) / 8) hV18 hS (by rw [List.length_append]; show ys.length + 1 ≤ _; omega) (by omega)).mono ?_
            rintro e w' ⟨ad24, c24, E24, rfl, hV24, hS'⟩
            refine ⟨_, _, rfl, hS', ?_⟩
            refine WL.nilR ?_
            refine WR.first (g := 0) [12] (by kernel_rfl) (by kernel_rfl) ?_
            refine WP.val (v_assign rfl rfl) (.none rfl) rfl rfl ?_
            refine WP.nil ?_
            refine WR.done (by kernel_rfl) ?_
            refine WE.block_n ?_
            refine WE.then_n ?_
            refine WC.region ?_
            refine WL.val (v_add rfl rfl rfl (w_i64 (by omega) (by omega))) (.none rfl) rfl rfl ?_
            refine WL.val (v_move rfl rfl) (.none rfl) rfl rfl ?_
            refine WL.nil ?_
            have hz : ys ++ [x.len % 256] ++ addrB x.addr ((x.len.toNat + 7) / 8) = ys ++ netE x := (by unfold netE; rw [List.append_assoc]; congr 2; show [_] = [_]; rw [show (2 : Int) ^ (8 * 0) = 1 by decide, Int.ediv_one])
            exact WE.next (k + 1, _, ad24, c24, E24) (by dsimp only; omega) ⟨by dsimp only; omega, by dsimp only; rw [hz, List.length_append]; omega, by dsimp only; rw [hz, List.append_assoc]; exact hy, hV24⟩ (.int rfl (by dsimp only; omega) (.cons rfl (.cons rfl (.cons rfl .nil)))) (List.Sublist.append_left (.cons _ (.cons _ (.refl _))) _)
        · -- next 7
          refine WL.val (v_load1 rfl rfl one_34 (cellAt rfl)) (.none rfl) rfl rfl ?_
          refine WL.nilR ?_
          refine WR.ones (g := 3) [4, 5] (by kernel_rfl) ?_
          refine WL.buildSlice rfl rfl Tryd.underlying22 sz_5 zero_5 rfl (by decide) rfl (.none rfl) rfl rfl ?_
          intro g17 hg17
          refine WL.as (L' := .row g17 (u8s [x.len % 256]) :: (E2 ++ (.row g6 x.cells :: L))) rfl ?_
          refine WL.to (L' := E2 ++ (.row g17 (u8s [x.len % 256]) :: .row g6 x.cells :: L)) (fun w hS => hS.front [_]) ?_
          refine WL.appendL rfl rfl rfl Tryd.underlying22 Tryd.underlying22 sz_5 by_5 zero_5 rfl rfl hV2 (new := u8s [x.len % 256]) (fun _ => ⟨g17, 0, rfl, fun w hS => allAt (g := g17) w hS⟩) rfl (u8s_one _) (by omega) (.none rfl) rfl rfl ?_
          intro ad18 c18 E18 hV18 hr18
          rw [← u8s_app] at hV18
          rw [show ys.length + 1 = (ys ++ [x.len % 256]).length by rw [List.length_append]; rfl] at hV18 ⊢
          refine WL.nilR ?_
          refine WR.read (g := 2) [10] (by kernel_rfl) (by kernel_rfl) (by kernel_rfl) (by kernel_rfl) rfl ?_
          refine WQ.call _ rfl rfl ck_79 (.none rfl) rfl rfl (fun w hS => Calls.still (needs_c w x.len (by omega) (by omega)) hS) ?_
          refine WQ.nilR ?_
          refine WR.ones (g := 1) [11] (by kernel_rfl) ?_
          refine WL.call rfl rfl ck_70 (.none rfl) rfl rfl ?_
          intro w1 hS
          refine (putAddr_c (fun _ => False) w0 w1 _ _ _ _ _ x.addr ((x.len.toNat + 7) / 8) hV18 hS (by rw [List.length_append]; show ys.length + 1 ≤ _; omega) (by omega)).mono ?_
          rintro e w' ⟨ad24, c24, E24, rfl, hV24, hS'⟩
          refine ⟨_, _, rfl, hS', ?_⟩
          refine WL.nilR ?_
          refine WR.first (g := 0) [12] (by kernel_rfl) (by kernel_rfl) ?_
          refine WP.val (v_assign rfl rfl) (.none rfl) rfl rfl ?_
          refine WP.nil ?_
          refine WR.done (by kernel_rfl) ?_
          refine WE.block_n ?_
          refine WE.then_n ?_
          refine WC.region ?_
          refine WL.val (v_add rfl rfl rfl (w_i64 (by omega) (by omega))) (.none rfl) rfl rfl ?_
          refine WL.val (v_move rfl rfl) (.none rfl) rfl rfl ?_
          refine WL.nil ?_
          have hz : ys ++ [x.len % 256] ++ addrB x.addr ((x.len.toNat + 7) / 8) = ys ++ netE x := (by unfold netE; rw [List.append_assoc]; congr 2; show [_] = [_]; rw [show (2 : Int) ^ (8 * 0) = 1 by decide, Int.ediv_one])
          exact WE.next (k + 1, _, ad24, c24, E24) (by dsimp only; omega) ⟨by dsimp only; omega, by dsimp only; rw [hz, List.length_append]; omega, by dsimp only; rw [hz, List.append_assoc]; exact hy, hV24⟩ (.int rfl (by dsimp only; omega) (.cons rfl (.cons rfl (.cons rfl .nil)))) (List.Sublist.append_left (.cons _ (.cons _ (.refl _))) _)
    · -- next 7
      refine WL.val (v_load1 rfl rfl one_34 (cellAt rfl)) (.none rfl) rfl rfl ?_
      refine WL.nilR ?_
      refine WR.each (g := 7) [2, 9] (by kernel_rfl) (by decide) ?_
      refine ⟨?_, ?_⟩
      · -- next 2
        refine WL.val (v_load1 rfl rfl one_3 (cellAt rfl)) (.none rfl) rfl rfl ?_
        refine WL.nilR ?_
        refine WR.first (g := 6) [3] (by kernel_rfl) (by kernel_rfl) ?_
        refine WP.val (v_conv rfl rfl Tryd.underlying5 Tryd.underlying3 (w_u8m _)) (.none rfl) rfl rfl ?_
        refine WP.nil ?_
        refine WR.each (g := 5) [4, 9] (by kernel_rfl) (by decide) ?_
        refine ⟨?_, ?_⟩
        · -- next 4
          refine WL.buildSlice rfl rfl Tryd.underlying22 sz_5 zero_5 rfl (by decide) rfl (.none rfl) rfl rfl ?_
          intro g17 hg17
          refine WL.as (L' := .row g17 (u8s [x.len % 256]) :: (E2 ++ (.row g6 x.cells :: L))) rfl ?_
          refine WL.to (L' := E2 ++ (.row g17 (u8s [x.len % 256]) :: .row g6 x.cells :: L)) (fun w hS => hS.front [_]) ?_
          refine WL.nilR ?_
          refine WR.each (g := 4) [5, 9] (by kernel_rfl) (by decide) ?_
          refine ⟨?_, ?_⟩
          · -- next 5
            refine WL.appendL rfl rfl rfl Tryd.underlying22 Tryd.underlying22 sz_5 by_5 zero_5 rfl rfl hV2 (new := u8s [x.len % 256]) (fun _ => ⟨g17, 0, rfl, fun w hS => allAt (g := g17) w hS⟩) rfl (u8s_one _) (by omega) (.none rfl) rfl rfl ?_
            intro ad18 c18 E18 hV18 hr18
            rw [← u8s_app] at hV18
            rw [show ys.length + 1 = (ys ++ [x.len % 256]).length by rw [List.length_append]; rfl] at hV18 ⊢
            refine WL.nilR ?_
            refine WR.read (g := 2) [9, 10] (by kernel_rfl) (by kernel_rfl) (by kernel_rfl) (by kernel_rfl) rfl ?_
            refine WQ.val (v_load1 rfl rfl one_3 (cellAt rfl)) (.none rfl) rfl rfl ?_
            refine WQ.call _ rfl rfl ck_79 (.none rfl) rfl rfl (fun w hS => Calls.still (needs_c w x.len (by omega) (by omega)) hS) ?_
            refine WQ.nilR ?_
            refine WR.ones (g := 1) [11] (by kernel_rfl) ?_
            refine WL.call rfl rfl ck_70 (.none rfl) rfl rfl ?_
            intro w1 hS
            refine (putAddr_c (fun _ => False) w0 w1 _ _ _ _ _ x.addr ((x.len.toNat + 7) / 8) hV18 hS (by rw [List.length_append]; show ys.length + 1 ≤ _; omega) (by omega)).mono ?_
            rintro e w' ⟨ad24, c24, E24, rfl, hV24, hS'⟩
            refine ⟨_, _, rfl, hS', ?_⟩
            refine WL.nilR ?_
            refine WR.first (g := 0) [12] (by kernel_rfl) (by kernel_rfl) ?_
            refine WP.val (v_assign rfl rfl) (.none rfl) rfl rfl ?_
            refine WP.nil ?_
            refine WR.done (by kernel_rfl) ?_
            refine WE.block_n ?_
            refine WE.then_n ?_
            refine WC.region ?_
            refine WL.val (v_add rfl rfl rfl (w_i64 (by omega) (by omega))) (.none rfl) rfl rfl ?_
            refine WL.val (v_move rfl rfl) (.none rfl) rfl rfl ?_
            refine WL.nil ?_
            have hz : ys ++ [x.len % 256] ++ addrB x.addr ((x.len.toNat + 7) / 8) = ys ++ netE x := (by unfold netE; rw [List.append_assoc]; congr 2; show [_] = [_]; rw [show (2 : Int) ^ (8 * 0) = 1 by decide, Int.ediv_one])
            exact WE.next (k + 1, _, ad24, c24, E24) (by dsimp only; omega) ⟨by dsimp only; omega, by dsimp only; rw [hz, List.length_append]; omega, by dsimp only; rw [hz, List.append_assoc]; exact hy, hV24⟩ (.int rfl (by dsimp only; omega) (.cons rfl (.cons rfl (.cons rfl .nil)))) (List.Sublist.append_left (.cons _ (.cons _ (.refl _))) _)
          · -- next 9
            refine WL.val (v_load1 rfl rfl one_3 (cellAt rfl)) (.none rfl) rfl rfl ?_
            refine WL.nilR ?_
            refine WR.ones (g := 3) [5] (by kernel_rfl) ?_
            refine WL.appendL rfl rfl rfl Tryd.underlying22 Tryd.underlying22 sz_5 by_5 zero_5 rfl rfl hV2 (new := u8s [x.len % 256]) (fun _ => ⟨g17, 0, rfl, fun w hS => allAt (g := g17) w hS⟩) rfl (u8s_one _) (by omega) (.none rfl) rfl rfl ?_
            intro ad18 c18 E18 hV18 hr18
            rw [← u8s_app] at hV18
            rw [show ys.length + 1 = (ys ++ [x.len % 256]).length by rw [List.length_append]; rfl] at hV18 ⊢
            refine WL.nilR ?_
            refine WR.read (g := 2) [10] (by kernel_rfl) (by kernel_rfl) (by kernel_rfl) (by kernel_rfl) rfl ?_
            refine WQ.call _ rfl rfl ck_79 (.none rfl) rfl rfl (fun w hS => Calls.still (needs_c w x.len (by omega) (by omega)) hS) ?_
            refine WQ.nilR ?_
            refine WR.ones (g := 1) [11] (by kernel_rfl) ?_
            refine WL.call rfl rfl ck_70 (.none rfl) rfl rfl ?_
            intro w1 hS
            refine (putAddr_c (fun _ => False) w0 w1 _ _ _ _ _ x.addr ((x.len.toNat + 7) / 8) hV18 hS (by rw [List.length_append]; show ys.length + 1 ≤ _; omega) (by omega)).mono ?_
            rintro e w' ⟨ad24, c24, E24, rfl, hV24, hS'⟩
            refine ⟨_, _, rfl, hS', ?_⟩
            refine WL.nilR ?_
            refine WR.first (g := 0) [12] (by kernel_rfl) (by kernel_rfl) ?_
            refine WP.val (v_assign rfl rfl) (.none rfl) rfl rfl ?_
            refine WP.nil ?_
            refine WR.done (by kernel_rfl) ?_
            refine WE.block_n ?_
            refine WE.then_n ?_
            refine WC.region ?_
            refine WL.val (v_add rfl rfl rfl (w_i64 (by omega) (by omega))) (.none rfl) rfl rfl ?_
            refine WL.val (v_move rfl rfl) (.none rfl) rfl rfl ?_
            refine WL.nil ?_
            have hz : ys ++ [x.len % 256] ++ addrB x.addr ((x.len.toNat + 7) / 8) = ys ++ netE x := (by unfold netE; rw [List.append_assoc]; congr 2; show [_] = [_]; rw [show (2 : Int) ^ (8 * 0) = 1 by decide, Int.ediv_one])
            exact WE.next (k + 1, _, ad24, c24, E24) (by dsimp only; omega) ⟨by dsimp only; omega, by dsimp only; rw [hz, List.length_append]; omega, by dsimp only; rw [hz, List.append_assoc]; exact hy, hV24⟩ (.int rfl (by dsimp only; omega) (.cons rfl (.cons rfl (.cons rfl .nil)))) (List.Sublist.append_left (.cons _ (.cons _ (.refl _))) _)
        · -- next 9
          refine WL.val (v_load1 rfl rfl one_3 (cellAt rfl)) (.none rfl) rfl rfl ?_
          refine WL.nilR ?_
          refine WR.ones (g := 3) [4, 5] (by kernel_rfl) ?_
          refine WL.buildSlice rfl rfl Tryd.underlying22 sz_5 zero_5 rfl (by decide) rfl (.none rfl) rfl rfl ?_
          intro g17 hg17
          refine WL.as (L' := .row g17 (u8s [x.len % 256]) :: (E2 ++ (.row g6 x.cells :: L))) rfl ?_
          refine WL.to (L' := E2 ++ (.row g17 (u8s [x.len % 256]) :: .row g6 x.cells :: L)) (fun w hS => hS.front [_]) ?_
          refine WL.appendL rfl rfl rfl Tryd.underlying22 Tryd.underlying22 sz_5 by_5 zero_5 rfl rfl hV2 (new := u8s [x.len % 256]) (fun _ => ⟨g17, 0, rfl, fun w hS => allAt (g := g17) w hS⟩) rfl (u8s_one _) (by omega) (.none rfl) rfl rfl ?_
          intro ad18 c18 E18 hV18 hr18
          rw [← u8s_app] at hV18
          rw [show ys.length + 1 = (ys ++ [x.len % 256]).length by rw [List.length_append]; rfl] at hV18 ⊢
          refine WL.nilR ?_
          refine WR.read (g := 2) [10] (by kernel_rfl) (by kernel_rfl) (by kernel_rfl) (by kernel_rfl) rfl ?_
          refine WQ.call _ rfl rfl ck_79 (.none rfl) rfl rfl (fun w hS => Calls.still (needs_c w x.len (by omega) (by omega)) hS) ?_
          refine WQ.nilR ?_
          refine WR.ones (g := 1) [11] (by kernel_rfl) ?_
          refine WL.call rfl rfl ck_70 (.none rfl) rfl rfl ?_
          intro w1 hS
          refine (putAddr_c (fun _ => False) w0 w1 _ _ _ _ _ x.addr ((x.len.toNat + 7) / 8) hV18 hS (by rw [List.length_append]; show ys.length + 1 ≤ _; omega) (by omega)).mono ?_
          rintro e w' ⟨ad24, c24, E24, rfl, hV24, hS'⟩
          refine ⟨_, _, rfl, hS', ?_⟩
          refine WL.nilR ?_
          refine WR.first (g := 0) [12] (by kernel_rfl) (by kernel_rfl) ?_
          refine WP.val (v_assign rfl rfl) (.none rfl) rfl rfl ?_
          refine WP.nil ?_
          refine WR.done (by kernel_rfl) ?_
          refine WE.block_n ?_
          refine WE.then_n ?_
          refine WC.region ?_
          refine WL.val (v_add rfl rfl rfl (w_i64 (by omega) (by omega))) (.none rfl) rfl rfl ?_
          refine WL.val (v_move rfl rfl) (.none rfl) rfl rfl ?_
          refine WL.nil ?_
          have hz : ys ++ [x.len % 256] ++ addrB x.addr ((x.len.toNat + 7) / 8) = ys ++ netE x := (by unfold netE; rw [List.append_assoc]; congr 2; show [_] = [_]; rw [show (2 : Int) ^ (8 * 0) = 1 by decide, Int.ediv_one])
          exact WE.next (k + 1, _, ad24, c24, E24) (by dsimp only; omega) ⟨by dsimp only; omega, by dsimp only; rw [hz, List.length_append]; omega, by dsimp only; rw [hz, List.append_assoc]; exact hy, hV24⟩ (.int rfl (by dsimp only; omega) (.cons rfl (.cons rfl (.cons rfl .nil)))) (List.Sublist.append_left (.cons _ (.cons _ (.refl _))) _)
      · -- next 9
        refine WL.val (v_load1 rfl rfl one_3 (cellAt rfl)) (.none rfl) rfl rfl ?_
        refine WL.nilR ?_
        refine WR.read (g := 5) [2, 3] (by kernel_rfl) (by kernel_rfl) (by kernel_rfl) (by kernel_rfl) rfl ?_
        refine WQ.val (v_load1 rfl rfl one_3 (cellAt rfl)) (.none rfl) rfl rfl ?_
        refine WQ.val (v_conv rfl rfl Tryd.underlying5 Tryd.underlying3 (w_u8m _)) (.none rfl) rfl rfl ?_
        refine WQ.nilR ?_
        refine WR.ones (g := 3) [4, 5] (by kernel_rfl) ?_
        refine WL.buildSlice rfl rfl Tryd.underlying22 sz_5 zero_5 rfl (by decide) rfl (.none rfl) rfl rfl ?_
        intro g17 hg17
        refine WL.as (L' := .row g17 (u8s [x.len % 256]) :: (E2 ++ (.row g6 x.cells :: L))) rfl ?_
        refine WL.to (L' := E2 ++ (.row g17 (u8s [x.len % 256]) :: .row g6 x.cells :: L)) (fun w hS => hS.front [_]) ?_
        refine WL.appendL rfl rfl rfl Tryd.underlying22 Tryd.underlying22 sz_5 by_5 zero_5 rfl rfl hV2 (new := u8s [x.len % 256]) (fun _ => ⟨g17, 0, rfl, fun w hS => allAt (g := g17) w hS⟩) rfl (u8s_one _) (by omega) (.none rfl) rfl rfl ?_
        intro ad18 c18 E18 hV18 hr18
        rw [← u8s_app] at hV18
        rw [show ys.length + 1 = (ys ++ [x.len % 256]).length by rw [List.length_append]; rfl] at hV18 ⊢
        refine WL.nilR ?_
        refine WR.read (g := 2) [10] (by kernel_rfl) (by kernel_rfl) (by kernel_rfl) (by kernel_rfl) rfl ?_
        refine WQ.call _ rfl rfl ck_79 (.none rfl) rfl rfl (fun w hS => Calls.still (needs_c w x.len (by omega) (by omega)) hS) ?_
        refine WQ.nilR ?_
        refine WR.ones (g := 1) [11] (by kernel_rfl) ?_
        refine WL.call rfl rfl ck_70 (.none rfl) rfl rfl ?_
        intro w1 hS
        refine (putAddr_c (fun _ => False) w0 w1 _ _ _ _ _ x.addr ((x.len.toNat + 7) / 8) hV18 hS (by rw [List.length_append]; show ys.length + 1 ≤ _; omega) (by omega)).mono ?_
        rintro e w' ⟨ad24, c24, E24, rfl, hV24, hS'⟩
        refine ⟨_, _, rfl, hS', ?_⟩
        refine WL.nilR ?_
        refine WR.first (g := 0) [12] (by kernel_rfl) (by kernel_rfl) ?_
        refine WP.val (v_assign rfl rfl) (.none rfl) rfl rfl ?_
        refine WP.nil ?_
        refine WR.done (by kernel_rfl) ?_
        refine WE.block_n ?_
        refine WE.then_n ?_
        refine WC.region ?_
        refine WL.val (v_add rfl rfl rfl (w_i64 (by omega) (by omega))) (.none rfl) rfl rfl ?_
        refine WL.val (v_move rfl rfl) (.none rfl) rfl rfl ?_
        refine WL.nil ?_
        have hz : ys ++ [x.len % 256] ++ addrB x.addr ((x.len.toNat + 7) / 8) = ys ++ netE x := (by unfold netE; rw [List.append_assoc]; congr 2; show [_] = [_]; rw [show (2 : Int) ^ (8 * 0) = 1 by decide, Int.ediv_one])
        exact WE.next (k + 1, _, ad24, c24, E24) (by dsimp only; omega) ⟨by dsimp only; omega, by dsimp only; rw [hz, List.length_append]; omega, by dsimp only; rw [hz, List.append_assoc]; exact hy, hV24⟩ (.int rfl (by dsimp only; omega) (.cons rfl (.cons rfl (.cons rfl .nil)))) (List.Sublist.append_left (.cons _ (.cons _ (.refl _))) _)
    · -- next 9
      refine WL.val (v_load1 rfl rfl one_3 (cellAt rfl)) (.none rfl) rfl rfl ?_
      refine WL.nilR ?_
      refine WR.each (g := 7) [2, 7] (by kernel_rfl) (by decide) ?_
      refine ⟨?_, ?_⟩
      · -- next 2
        refine WL.val (v_load1 rfl rfl one_3 (cellAt rfl)) (.none rfl) rfl rfl ?_
        refine WL.nilR ?_
        refine WR.first (g := 6) [3] (by kernel_rfl) (by kernel_rfl) ?_
        refine WP.val (v_conv rfl rfl Tryd.underlying5 Tryd.underlying3 (w_u8m _)) (.none rfl) rfl rfl ?_
        refine WP.nil ?_
        refine WR.each (g := 5) [4, 7] (by kernel_rfl) (by decide) ?_
        refine ⟨?_, ?_⟩
        · -- next 4
          refine WL.buildSlice rfl rfl Tryd.underlying22 sz_5 zero_5 rfl (by decide) rfl (.none rfl) rfl rfl ?_
          intro g17 hg17
          refine WL.as (L' := .row g17 (u8s [x.len % 256]) :: (E2 ++ (.row g6 x.cells :: L))) rfl ?_
          refine WL.to (L' := E2 ++ (.row g17 (u8s [x.len % 256]) :: .row g6 x.cells :: L)) (fun w hS => hS.front [_]) ?_
          refine WL.nilR ?_
          refine WR.each (g := 4) [5, 7] (by kernel_rfl) (by decide) ?_
          refine ⟨?_, ?_⟩
          · -- next 5
            refine WL.appendL rfl rfl rfl Tryd.underlying22 Tryd.underlying22 sz_5 by_5 zero_5 rfl rfl hV2 (new := u8s [x.len % 256]) (fun _ => ⟨g17, 0, rfl, fun w hS => allAt (g := g17) w hS⟩) rfl (u8s_one _) (by omega) (.none rfl) rfl rfl ?_
            intro ad18 c18 E18 hV18 hr18
            rw [← u8s_app] at hV18
            rw [show ys.length + 1 = (ys ++ [x.len % 256]).length by rw [List.length_append]; rfl] at hV18 ⊢
            refine WL.nilR ?_
            refine WR.read (g := 2) [7, 10] (by kernel_rfl) (by kernel_rfl) (by kernel_rfl) (by kernel_rfl) rfl ?_
            refine WQ.val (v_load1 rfl rfl one_34 (cellAt rfl)) (.none rfl) rfl rfl ?_
            refine WQ.call _ rfl rfl ck_79 (.none rfl) rfl rfl (fun w hS => Calls.still (needs_c w x.len (by omega) (by omega)) hS) ?_
            refine WQ.nilR ?_
            refine WR.ones (g := 1) [11] (by kernel_rfl) ?_
            refine WL.call rfl rfl ck_70 (.none rfl) rfl rfl ?_
            intro w1 hS
            refine (putAddr_c (fun _ => False) w0 w1 _ _ _ _ _ x.addr ((x.len.toNat + 7) / 8) hV18 hS (by rw [List.length_append]; show ys.length + 1 ≤ _; omega) (by omega)).mono ?_
            rintro e w' ⟨ad24, c24, E24, rfl, hV24, hS'⟩
            refine ⟨_, _, rfl, hS', ?_⟩
            refine WL.nilR ?_
            refine WR.first (g := 0) [12] (by kernel_rfl) (by kernel_rfl) ?_
            refine WP.val (v_assign rfl rfl) (.none rfl) rfl rfl ?_
            refine WP.nil ?_
            refine WR.done (by kernel_rfl) ?_
            refine WE.block_n ?_
            refine WE.then_n ?_
            refine WC.region ?_
            refine WL.val (v_add rfl rfl rfl (w_i64 (by omega) (by omega))) (.none rfl) rfl rfl ?_
            refine WL.val (v_move rfl rfl) (.none rfl) rfl rfl ?_
            refine WL.nil ?_
            have hz : ys ++ [x.len % 256] ++ addrB x.addr ((x.len.toNat + 7) / 8) = ys ++ netE x := (by unfold netE; rw [List.append_assoc]; congr 2; show [_] = [_]; rw [show (2 : Int) ^ (8 * 0) = 1 by decide, Int.ediv_one])
            exact WE.next (k + 1, _, ad24, c24, E24) (by dsimp only; omega) ⟨by dsimp only; omega, by dsimp only; rw [hz, List.length_append]; omega, by dsimp only; rw [hz, List.append_assoc]; exact hy, hV24⟩ (.int rfl (by dsimp only; omega) (.cons rfl (.cons rfl (.cons rfl .nil)))) (List.Sublist.append_left (.cons _ (.cons _ (.refl _))) _)
          · -- next 7
            refine WL.val (v_load1 rfl rfl one_34 (cellAt rfl)) (.none rfl) rfl rfl ?_
            refine WL.nilR ?_
            refine WR.ones (g := 3) [5] (by kernel_rfl) ?_
            refine WL.appendL rfl rfl rfl Tryd.underlying22 Tryd.underlying22 sz_5 by_5 zero_5 rfl rfl hV2 (new := u8s [x.len % 256]) (fun _ => ⟨g17, 0, rfl, fun w hS => allAt (g := g17) w hS⟩) rfl (u8s_one _) (by omega) (.none rfl) rfl rfl ?_
            intro ad18 c18 E18 hV18 hr18
            rw [← u8s_app] at hV18
            rw [show ys.length + 1 = (ys ++ [x.len % 256]).length by rw [List.length_append]; rfl] at hV18 ⊢
            refine WL.nilR ?_
            refine WR.read (g := 2) [10] (by kernel_rfl) (by kernel_rfl) (by kernel_rfl) (by kernel_rfl) rfl ?_
            refine WQ.call _ rfl rfl ck_79 (.none rfl) rfl rfl (fun w hS => Calls.still (needs_c w x.len (by omega) (by omega)) hS) ?_
            refine WQ.nilR ?_
            refine WR.ones (g := 1) [11] (by kernel_rfl) ?_
            refine WL.call rfl rfl ck_70 (.none rfl) rfl rfl ?_
            intro w1 hS
            refine (putAddr_c (fun _ => False) w0 w1 _ _ _ _ _ x.addr ((x.len.toNat + 7) / 8) hV18 hS (by rw [List.length_append]; show ys.length + 1 ≤ _; omega) (by omega)).mono ?_
            rintro e w' ⟨ad24, c24, E24, rfl, hV24, hS'⟩
            refine ⟨_, _, rfl, hS', ?_⟩
            refine WL.nilR ?_
            refine WR.first (g := 0) [12] (by kernel_rfl) (by kernel_rfl) ?_
            refine WP.val (v_assign rfl rfl) (.none rfl) rfl rfl ?_
            refine WP.nil ?_
            refine WR.done (by kernel_rfl) ?_
            refine WE.block_n ?_
            refine WE.then_n ?_
            refine WC.region ?_
            refine WL.val (v_add rfl rfl rfl (w_i64 (by omega) (by omega))) (.none rfl) rfl rfl ?_
            refine WL.val (v_move rfl rfl) (.none rfl) rfl rfl ?_
            refine WL.nil ?_
            have hz : ys ++ [x.len % 256] ++ addrB x.addr ((x.len.toNat + 7) / 8) = ys ++ netE x := (by unfold netE; rw [List.append_assoc]; congr 2; show [_] = [_]; rw [show (2 : Int) ^ (8 * 0) = 1 by decide, Int.ediv_one])
            exact WE.next (k + 1, _, ad24, c24, E24) (by dsimp only; omega) ⟨by dsimp only; omega, by dsimp only; rw [hz, List.length_append]; omega, by dsimp only; rw [hz, List.append_assoc]; exact hy, hV24⟩ (.int rfl (by dsimp only; omega) (.cons rfl (.cons rfl (.cons rfl .nil)))) (List.Sublist.append_left (.cons _ (.cons _ (.refl _))) _)
        · -- next 7
          refine WL.val (v_load1 rfl rfl one_34 (cellAt rfl)) (.none rfl) rfl rfl ?_
          refine WL.nilR ?_
          refine WR.ones (g := 3) [4, 5] (by kernel_rfl) ?_
          refine WL.buildSlice rfl rfl Tryd.underlying22 sz_5 zero_5 rfl (by decide) rfl (.none rfl) rfl rfl ?_
          intro g17 hg17
          refine WL.as (L' := .row g17 (u8s [x.len % 256]) :: (E2 ++ (.row g6 x.cells :: L))) rfl ?_
          refine WL.to (L' := E2 ++ (.row g17 (u8s [x.len % 256]) :: .row g6 x.cells :: L)) (fun w hS => hS.front [_]) ?_
          refine WL.appendL rfl rfl rfl Tryd.underlying22 Tryd.underlying22 sz_5 by_5 zero_5 rfl rfl hV2 (new := u8s [x.len % 256]) (fun _ => ⟨g17, 0, rfl, fun w hS => allAt (g := g17) w hS⟩) rfl (u8s_one _) (by omega) (.none rfl) rfl rfl ?_
          intro ad18 c18 E18 hV18 hr18
          rw [← u8s_app] at hV18
          rw [show ys.length + 1 = (ys ++ [x.len % 256]).length by rw [List.length_append]; rfl] at hV18 ⊢
          refine WL.nilR ?_
          refine WR.read (g := 2) [10] (by kernel_rfl) (by kernel_rfl) (by kernel_rfl) (by kernel_rfl) rfl ?_
          refine WQ.call _ rfl rfl ck_79 (.none rfl) rfl rfl (fun w hS => Calls.still (needs_c w x.len (by omega) (by omega)) hS) ?_
          refine WQ.nilR ?_
          refine WR.ones (g := 1) [11] (by kernel_rfl) ?_
          refine WL.call rfl rfl ck_70 (.none rfl) rfl rfl ?_
          intro w1 hS
          refine (putAddr_c (fun _ => False) w0 w1 _ _ _ _ _ x.addr ((x.len.toNat + 7) / 8) hV18 hS (by rw [List.length_append]; show ys.length + 1 ≤ _; omega) (by omega)).mono ?_
          rintro e w' ⟨ad24, c24, E24, rfl, hV24, hS'⟩
          refine ⟨_, _, rfl, hS', ?_⟩
          refine WL.nilR ?_
          refine WR.first (g := 0) [12] (by kernel_rfl) (by kernel_rfl) ?_
          refine WP.val (v_assign rfl rfl) (.none rfl) rfl rfl ?_
          refine WP.nil ?_
          refine WR.done (by kernel_rfl) ?_
          refine WE.block_n ?_
          refine WE.then_n ?_
          refine WC.region ?_
          refine WL.val (v_add rfl rfl rfl (w_i64 (by omega) (by omega))) (.none rfl) rfl rfl ?_
          refine WL.val (v_move rfl rfl) (.none rfl) rfl rfl ?_
          refine WL.nil ?_
          have hz : ys ++ [x.len % 256] ++ addrB x.addr ((x.len.toNat + 7) / 8) = ys ++ netE x := (by unfold netE; rw [List.append_assoc]; congr 2; show [_] = [_]; rw [show (2 : Int) ^ (8 * 0) = 1 by decide, Int.ediv_one])
          exact WE.next (k + 1, _, ad24, c24, E24) (by dsimp only; omega) ⟨by dsimp only; omega, by dsimp only; rw [hz, List.length_append]; omega, by dsimp only; rw [hz, List.append_assoc]; exact hy, hV24⟩ (.int rfl (by dsimp only; omega) (.cons rfl (.cons rfl (.cons rfl .nil)))) (List.Sublist.append_left (.cons _ (.cons _ (.refl _))) _)
      · -- next 7
        refine WL.val (v_load1 rfl rfl one_34 (cellAt rfl)) (.none rfl) rfl rfl ?_
        refine WL.nilR ?_
        refine WR.read (g := 5) [2, 3] (by kernel_rfl) (by kernel_rfl) (by kernel_rfl) (by kernel_rfl) rfl ?_
        refine WQ.val (v_load1 rfl rfl one_3 (cellAt rfl)) (.none rfl) rfl rfl ?_
        refine WQ.val (v_conv rfl rfl Tryd.underlying5 Tryd.underlying3 (w_u8m _)) (.none rfl) rfl rfl ?_
        refine WQ.nilR ?_
        refine WR.ones (g := 3) [4, 5] (by kernel_rfl) ?_
        refine WL.buildSlice rfl rfl Tryd.underlying22 sz_5 zero_5 rfl (by decide) rfl (.none rfl) rfl rfl ?_
        intro g17 hg17
        refine WL.as (L' := .row g17 (u8s [x.len % 256]) :: (E2 ++ (.row g6 x.cells :: L))) rfl ?_
        refine WL.to (L' := E2 ++ (.row g17 (u8s [x.len % 256]) :: .row g6 x.cells :: L)) (fun w hS => hS.front [_]) ?_
        refine WL.appendL rfl rfl rfl Tryd.underlying22 Tryd.underlying22 sz_5 by_5 zero_5 rfl rfl hV2 (new := u8s [x.len % 256]) (fun _ => ⟨g17, 0, rfl, fun w hS => allAt (g := g17) w hS⟩) rfl (u8s_one _) (by omega) (.none rfl) rfl rfl ?_
        intro ad18 c18 E18 hV18 hr18
        rw [← u8s_app] at hV18
        rw [show ys.length + 1 = (ys ++ [x.len % 256]).length by rw [List.length_append]; rfl] at hV18 ⊢
        refine WL.nilR ?_
        refine WR.read (g := 2) [10] (by kernel_rfl) (by kernel_rfl) (by kernel_rfl) (by kernel_rfl) rfl ?_
        refine WQ.call _ rfl rfl ck_79 (.none rfl) rfl rfl (fun w hS => Calls.still (needs_c w x.len (by omega) (by omega)) hS) ?_
        refine WQ.nilR ?_
        refine WR.ones (g := 1) [11] (by kernel_rfl) ?_
        refine WL.call rfl rfl ck_70 (.none rfl) rfl rfl ?_
        intro w1 hS
        refine (putAddr_c (fun _ => False) w0 w1 _ _ _ _ _ x.addr ((x.len.toNat + 7) / 8) hV18 hS (by rw [List.length_append]; show ys.length + 1 ≤ _; omega) (by omega)).mono ?_
        rintro e w' ⟨ad24, c24, E24, rfl, hV24, hS'⟩
        refine ⟨_, _, rfl, hS', ?_⟩
        refine WL.nilR ?_
        refine WR.first (g := 0) [12] (by kernel_rfl) (by kernel_rfl) ?_
        refine WP.val (v_assign rfl rfl) (.none rfl) rfl rfl ?_
        refine WP.nil ?_
        refine WR.done (by kernel_rfl) ?_
        refine WE.block_n ?_
        refine WE.then_n ?_
        refine WC.region ?_
        refine WL.val (v_add rfl rfl rfl (w_i64 (by omega) (by omega))) (.none rfl) rfl rfl ?_
        refine WL.val (v_move rfl rfl) (.none rfl) rfl rfl ?_
        refine WL.nil ?_
        have hz : ys ++ [x.len % 256] ++ addrB x.addr ((x.len.toNat + 7) / 8) = ys ++ netE x := (by unfold netE; rw [List.append_assoc]; congr 2; show [_] = [_]; rw [show (2 : Int) ^ (8 * 0) = 1 by decide, Int.ediv_one])
        exact WE.next (k + 1, _, ad24, c24, E24) (by dsimp only; omega) ⟨by dsimp only; omega, by dsimp only; rw [hz, List.length_append]; omega, by dsimp only; rw [hz, List.append_assoc]; exact hy, hV24⟩ (.int rfl (by dsimp only; omega) (.cons rfl (.cons rfl (.cons rfl .nil)))) (List.Sublist.append_left (.cons _ (.cons _ (.refl _))) _)
  · -- 10F
    refine WL.nil ?_
    refine WE.then_n ?_
    refine WC.seq ?_
    refine WC.cond_f rfl ?_
    refine WC.exit ?_
    refine WE.then_exit ?_
    refine WE.then_exit ?_
    refine WE.block_hit ?_
    refine WE.then_n ?_
    refine WC.seq ?_
    refine WC.region ?_
    refine WL.val (v_move rfl rfl) (.none rfl) rfl rfl ?_
    refine WL.val (v_assign rfl rfl) (.none rfl) rfl rfl ?_
    refine WL.nil ?_
    refine WE.then_n ?_
    refine WC.ret ?_
    refine WE.ret1 (P := Tryd.prog) (.inl rfl) Tryd.results73 rfl ?_
    obtain rfl : k = ps.length := (by omega)
    rw [List.drop_length] at hy
    have hy' : ys = xs ++ netsE ps := (by rw [← hy]; exact (List.append_nil _).symm)
    rw [← hy']
    exact fun w' h => ⟨ad2, c2, E2, rfl, hV2, h⟩
end Go.Proofs.YtpjbofodllhjbaaDoor
