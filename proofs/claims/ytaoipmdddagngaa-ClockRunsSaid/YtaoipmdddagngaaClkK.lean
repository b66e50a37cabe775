/- carrefourlaw09.ClockRuns. -/
import Derived.Test.YtaoipmdddagngaaClkJ
namespace Go.Proofs.Ytaoipmdddagngaa
open Go.RowKit

structure Opv where
  k : Int
  name : Int
  by_ : Int
  at_ : Int
def opL (o : Opv) : List Value := [.int .i64 o.k, .int .i64 o.name, .int .i64 o.by_, .int .i64 o.at_]
theorem op_tree {w : World} {cs : List Value} (h : Tree Try.prog w 38 cs) : ∃ o, cs = opL o := by
  have hf : flat Try.prog 8 38 = [3, 3, 3, 3] := by kernel_rfl
  have hL := hf ▸ Tree.leaves 8 _ _ (by kernel_rfl) h
  obtain ⟨x0, _, rfl, h0, x1, _, rfl, h1, x2, _, rfl, h2, x3, _, rfl, h3, rfl⟩ := hL
  obtain ⟨n0, rfl, _⟩ := Tree.int Try.underlying3 h0
  obtain ⟨n1, rfl, _⟩ := Tree.int Try.underlying3 h1
  obtain ⟨n2, rfl, _⟩ := Tree.int Try.underlying3 h2
  obtain ⟨n3, rfl, _⟩ := Tree.int Try.underlying3 h3
  exact ⟨⟨n0, n1, n2, n3⟩, rfl⟩
theorem Elems.ops {w : World} {len : Nat} {a : Option Addr} (h : Elems Try.prog w 38 4 a len) : ∃ (b off : Nat) (f : Nat → Opv), (0 < len → a = some ⟨b, off, none⟩) ∧ ∀ i, i < len → w.rangeAt b (off + i * 4) (opL (f i)) := by
  by_cases hl : 0 < len
  · obtain ⟨b, off, rfl, hE⟩ := h hl
    have hx : ∀ i, i < len → ∃ o : Opv, w.rangeAt b (off + i * 4) (opL o) := fun i hi => by
      obtain ⟨cs, hc, hr, hT⟩ := hE i hi
      obtain ⟨o, rfl⟩ := op_tree hT
      exact ⟨o, hr⟩
    refine ⟨b, off, fun i => if h : i < len then Classical.choose (hx i h) else ⟨0, 0, 0, 0⟩, fun _ => rfl, fun i hi => ?_⟩
    dsimp only; rw [dif_pos hi]; exact Classical.choose_spec (hx i hi)
  · exact ⟨0, 0, fun _ => ⟨0, 0, 0, 0⟩, fun h => absurd h hl, fun i hi => absurd hi (by omega)⟩
theorem rangeKeep2 {p : Nat → Prop} {w0 : World} {L : List Ent} {b off : Nat} {cs : List Value} (hp : ¬ p b) (h : w0.rangeAt b off cs) : ∀ w, St p w0 w L → w.rangeAt b off cs := fun _ hS j v hj => hS.old hp (h j v hj)
structure RnI where
  i : Nat
  now : Int
  d : Ck
  S : List (Int × Int)
  ad : Option Addr
  c : Nat
  E : List Ent
structure RnI.Ok (x : RnI) (m : Nat) : Prop where
  bag : Bag x.d x.S
  lo : 0 ≤ x.now
  hi : x.now ≤ 1073741824
  len : x.S.length ≤ m
  le : x.i ≤ 80
  vec : Vec 2 x.ad x.S.length x.c (cells2 x.S) x.E
  tm : ∀ z ∈ x.S, 0 ≤ z.2 ∧ z.2 ≤ 1073741824
theorem cells2_seg0 {S : List (Int × Int)} {k : Nat} (h : k ≤ S.length) (r : List Value) : seg (cells2 S ++ r) 0 (k * 2) = cells2 (S.take k) := by
  have hl : (cells2 (S.take k)).length = k * 2 := by rw [cells2_len, List.length_take]; omega
  unfold seg
  conv => lhs; rw [← List.take_append_drop k S, cells2_append, List.append_assoc]
  rw [List.drop_zero, List.take_left' hl]
theorem cells2_seg1 {S : List (Int × Int)} {k : Nat} (h : k ≤ S.length) (r : List Value) : seg (cells2 S ++ r) (k * 2) ((S.length - k) * 2) = cells2 (S.drop k) := by
  have hl : (cells2 (S.take k)).length = k * 2 := by rw [cells2_len, List.length_take]; omega
  have hl2 : (cells2 (S.drop k)).length = (S.length - k) * 2 := by rw [cells2_len, List.length_drop]
  unfold seg
  conv => lhs; rw [← List.take_append_drop k S, cells2_append, List.append_assoc]
  rw [List.drop_left' hl, List.length_append, List.length_take, List.length_drop, show min k S.length + (S.length - k) - k = S.length - k by omega, List.take_left' hl2]
theorem tm_del {S : List (Int × Int)} {k : Nat} (h : ∀ z ∈ S, 0 ≤ z.2 ∧ z.2 ≤ 1073741824) : ∀ z ∈ S.take k ++ S.drop (k + 1), 0 ≤ z.2 ∧ z.2 ≤ 1073741824 := fun z hz => by
  rcases List.mem_append.1 hz with h' | h'
  · exact h z (List.mem_of_mem_take h')
  · exact h z (List.mem_of_mem_drop h')
theorem len_del {S : List (Int × Int)} {k : Nat} (h : k < S.length) : (S.take k ++ S.drop (k + 1)).length = 0 + k + (S.length - (k + 1)) := by
  rw [List.length_append, List.length_take, List.length_drop]; omega
def opAt (o : Opv) (now : Int) : Int := if 4 ≤ o.k then o.at_ else now + o.by_ % 256
def clip (t now : Int) : Int := min (max t now) 1073741824
set_option maxHeartbeats 4000000 in
theorem ClockRuns_c (w : World) (a : Option Addr) (n cap b off : Nat) (f : Nat → Opv) (hb : 0 < n → a = some ⟨b, off, none⟩) (hr : ∀ i, i < n → w.rangeAt b (off + i * 4) (opL (f i))) (hcp : n ≤ cap) (hmx : n ≤ 9223372036854775807) : Calls Try.prog 5 #[.slice a n cap] w fun e w' => e = .returned (.bool true) ∧ Frm (fun _ => False) w w' := by
  refine enter Try.func5 rfl Try.ntmps5 rfl (St.start (fun _ => False) w) ?_
  refine WC.seq ?_
  refine WC.region ?_
  refine WL.val (v_assign rfl rfl) (.none rfl) rfl rfl ?_
  refine WL.nil ?_
  refine WE.then_n ?_
  refine WC.seq ?_
  refine WC.seq ?_
  refine WC.region ?_
  refine WL.call rfl rfl ck_7 (.none rfl) rfl rfl ?_
  intro w hS
  refine Calls.then (ckhead_c w) hS ?_
  refine WL.val (v_not rfl rfl rfl) (.none rfl) rfl rfl ?_
  refine WL.nil ?_
  refine WE.then_n ?_
  refine WC.cond_f rfl ?_
  refine WC.skip ?_
  refine WE.then_n ?_
  refine WC.seq ?_
  refine WC.region ?_
  refine WL.call rfl rfl ck_8 (.none rfl) rfl rfl ?_
  intro w1 hS
  refine (New_b hS).mono ?_
  rintro e w' ⟨gC, d0, rfl, hb0, hS'⟩
  refine ⟨_, _, rfl, hS', ?_⟩
  refine WL.val (v_assign rfl rfl) (.none rfl) rfl rfl ?_
  refine WL.nil ?_
  refine WE.then_n ?_
  refine WC.seq ?_
  refine WC.region ?_
  refine WL.val (v_assign rfl rfl) (.none rfl) rfl rfl ?_
  refine WL.nil ?_
  refine WE.then_n ?_
  refine WC.seq ?_
  refine WC.region ?_
  refine WL.buildSlice rfl rfl Try.underlying36 sz_40 zero_40 rfl (by decide) rfl (.none rfl) rfl rfl ?_
  intro g23 hg23
  refine WL.val (v_assign rfl rfl) (.none rfl) rfl rfl ?_
  refine WL.nil ?_
  refine WE.then_n ?_
  refine WC.seq ?_
  refine WC.seq ?_
  refine WC.region ?_
  refine WL.val (v_assign rfl rfl) (.none rfl) rfl rfl ?_
  refine WL.nil ?_
  refine WE.then_n ?_
  refine WC.block ?_
  refine WC.loop (fun x : RnI => [(3, .pointer (some ⟨gC, 0, none⟩)), (4, .int .i64 x.now), (5, .slice x.ad x.S.length x.c), (6, .int .i64 x.i), (0, .slice a n cap)]) (fun x => x.E ++ x.d.L gC x.now []) (fun x => x.Ok x.i) (fun x => 80 - x.i) ⟨0, 0, d0, [], some ⟨g23, 0, none⟩, 0, [.row g23 []]⟩ ⟨hb0, by dsimp only; omega, by dsimp only; omega, Nat.le_refl _, Nat.zero_le _, Vec.row rfl rfl (Nat.le_refl _), fun z hz => by cases hz⟩ (.cons rfl (.cons rfl (.cons rfl (.cons rfl (.cons rfl .nil))))) (.refl _) ?_
  rintro ⟨i, now, d, S, ad, c, E⟩ ⟨hbg, hlo, hhi, hlen, hi, hV, htm⟩
  dsimp only at hbg hlo hhi hlen hi hV htm
  dsimp only
  refine WC.seq ?_
  refine WC.seq ?_
  refine WC.region ?_
  refine WL.val (v_move rfl rfl) (.none rfl) rfl rfl ?_
  refine WL.val (v_move rfl rfl) (.none rfl) rfl rfl ?_
  refine WL.val (v_len_slice rfl rfl Try.underlying35) (.none rfl) rfl rfl ?_
  refine WL.test (v_lss rfl rfl rfl) (.none rfl) rfl rfl (fun h27 => ?_) (fun h27 => ?_)
  · -- 27T
    refine WL.val (v_move rfl rfl) (.none rfl) rfl rfl ?_
    refine WL.val (v_move rfl rfl) (.some rfl rfl rfl) rfl rfl ?_
    refine WL.test (v_lss rfl rfl rfl) (.some rfl rfl rfl) rfl rfl (fun h30 => ?_) (fun h30 => ?_)
    · -- 30T
      refine WL.val (v_pick_t rfl rfl rfl) (.none rfl) rfl rfl ?_
      refine WL.nil ?_
      refine WE.then_n ?_
      refine WC.cond_t rfl ?_
      refine WC.skip ?_
      refine WE.then_n ?_
      refine WC.seq ?_
      refine WC.block ?_
      refine WC.seq ?_
      refine WC.region ?_
      refine WL.val (v_move rfl rfl) (.none rfl) rfl rfl ?_
      refine WL.val (v_move rfl rfl) (.none rfl) rfl rfl ?_
      refine WL.val (v_indexAddr (b := b) (off := off) (lo := i) rfl (by rw [← hb (by omega)]; rfl) rfl Try.underlying35 sz_38 rfl (by omega)) (.none rfl) rfl rfl ?_
      refine WL.val (v_loadN rfl rfl many_38 rfl (rangeKeep2 (fun h => h) (hr i (by omega)))) (.none rfl) rfl rfl ?_
      refine WL.alloc rfl zero_38 (.none rfl) rfl rfl ?_
      intro g7 hg7
      refine WL.storeW rfl rfl rfl rfl many_38 rfl rfl (.none rfl) rfl ?_
      refine WL.as (L' := .row g7 (opL (f i)) :: (E ++ d.L gC now [])) rfl ?_
      refine WL.nil ?_
      refine WE.then_n ?_
      refine WC.seq ?_
      refine WC.region ?_
      refine WL.val (v_move rfl rfl) (.none rfl) rfl rfl ?_
      refine WL.val (v_fieldAddr0 rfl rfl fld_38_2) (.none rfl) rfl rfl ?_
      refine WL.val (v_load1 rfl rfl one_3 (cellAt rfl)) (.none rfl) rfl rfl ?_
      refine WL.val (v_and rfl rfl rfl (mask_i64' (i := 8) (m := 256) (by decide) (by decide) (by decide))) (.none rfl) rfl rfl ?_
      refine WL.val (v_add rfl rfl rfl (w_i64 (by omega) (by omega))) (.none rfl) rfl rfl ?_
      refine WL.val (v_assign rfl rfl) (.none rfl) rfl rfl ?_
      refine WL.nil ?_
      refine WE.then_n ?_
      refine WC.cut (fun t : Int => [(8, .int .i64 t), (7, .pointer (some ⟨g7, 0, none⟩)), (3, .pointer (some ⟨gC, 0, none⟩)), (4, .int .i64 now), (5, .slice ad S.length c), (6, .int .i64 i), (0, .slice a n cap)]) (fun _ => .row g7 (opL (f i)) :: (E ++ d.L gC now [])) (fun t => t = opAt (f i) now) ?_ ?_
      · -- cut45
        refine WC.seq ?_
        refine WC.region ?_
        refine WL.val (v_fieldAddr0 rfl rfl fld_38_0) (.none rfl) rfl rfl ?_
        refine WL.val (v_load1 rfl rfl one_3 (cellAt rfl)) (.none rfl) rfl rfl ?_
        refine WL.val (v_geq rfl rfl rfl) (.none rfl) rfl rfl ?_
        refine WL.nil ?_
        refine WE.then_n ?_
        refine WC.cond_d rfl (fun h45 => ?_) (fun h45 => ?_)
        · -- 45T
          refine WC.region ?_
          refine WL.val (v_fieldAddr0 rfl rfl fld_38_3) (.none rfl) rfl rfl ?_
          refine WL.val (v_load1 rfl rfl one_3 (cellAt rfl)) (.none rfl) rfl rfl ?_
          refine WL.val (v_assign rfl rfl) (.none rfl) rfl rfl ?_
          refine WL.nil ?_
          exact WE.mid _ (by unfold opAt; rw [if_pos h45]) (.cons rfl (.cons rfl (.cons rfl (.cons rfl (.cons rfl (.cons rfl (.cons rfl .nil))))))) (.refl _)
        · -- 45F
          refine WC.skip ?_
          exact WE.mid _ (by unfold opAt; rw [if_neg h45]) (.cons rfl (.cons rfl (.cons rfl (.cons rfl (.cons rfl (.cons rfl (.cons rfl .nil))))))) (.refl _)
      · -- behind cut45
        intro t ht
        refine WC.seq ?_
        refine WC.region ?_
        refine WL.val (v_assign rfl rfl) (.none rfl) rfl rfl ?_
        refine WL.nil ?_
        refine WE.then_n ?_
        refine WC.cut (fun k : Int => [(9, .int .i64 k), (8, .int .i64 t), (7, .pointer (some ⟨g7, 0, none⟩)), (3, .pointer (some ⟨gC, 0, none⟩)), (4, .int .i64 now), (5, .slice ad S.length c), (6, .int .i64 i), (0, .slice a n cap)]) (fun _ => .row g7 (opL (f i)) :: (E ++ d.L gC now [])) (fun k => KInv S (f i).name S.length k) ?_ ?_
        · -- cutb2
          refine WC.seq ?_
          refine WC.region ?_
          refine WL.val (v_move rfl rfl) (.none rfl) rfl rfl ?_
          refine WL.val (v_len_slice rfl rfl Try.underlying36) (.none rfl) rfl rfl ?_
          refine WL.val (v_move rfl rfl) (.none rfl) rfl rfl ?_
          refine WL.nil ?_
          refine WE.then_n ?_
          refine WC.block ?_
          refine WC.loop (fun x : Nat × Int => [(50, .int .i64 x.1), (49, .int .i64 S.length), (48, .slice ad S.length c), (9, .int .i64 x.2), (8, .int .i64 t), (7, .pointer (some ⟨g7, 0, none⟩)), (3, .pointer (some ⟨gC, 0, none⟩)), (4, .int .i64 now), (5, .slice ad S.length c), (6, .int .i64 i), (0, .slice a n cap)]) (fun _ => .row g7 (opL (f i)) :: (E ++ d.L gC now [])) (fun x => x.1 ≤ S.length ∧ KInv S (f i).name x.1 x.2) (fun x => S.length - x.1) (0, -1) ⟨Nat.zero_le _, .inl ⟨rfl, fun t ht => absurd ht (by dsimp only; omega)⟩⟩ (.cons rfl (.cons rfl (.cons rfl (.cons rfl (.cons rfl (.cons rfl (.cons rfl (.cons rfl (.cons rfl (.cons rfl (.cons rfl .nil))))))))))) (.refl _) ?_
          rintro ⟨j, k⟩ ⟨hj, hk⟩
          dsimp only at hj hk
          dsimp only
          refine WC.seq ?_
          refine WC.region ?_
          refine WL.test (v_lss rfl rfl rfl) (.none rfl) rfl rfl (fun h51 => ?_) (fun h51 => ?_)
          · -- 51T
            refine WL.nil ?_
            refine WE.then_n ?_
            refine WC.seq ?_
            refine WC.cond_t rfl ?_
            refine WC.skip ?_
            refine WE.then_n ?_
            refine WC.seq ?_
            refine WC.block ?_
            refine WC.seq ?_
            refine WC.region ?_
            refine WL.val (v_move rfl rfl) (.none rfl) rfl rfl ?_
            obtain ⟨ga, r, ea, eE, hrc, hcc⟩ := hV.cells2 (by omega)
            subst ea eE
            refine WL.as (L' := .row g7 (opL (f i)) :: .row ga (cells2 S ++ r) :: d.L gC now []) rfl ?_
            refine WL.val (v_indexAddr (lo := j) rfl rfl rfl Try.underlying36 sz_40 (by omega) (by omega)) (.none rfl) rfl rfl ?_
            refine WL.val (v_loadN (cs := [.int .i64 (at2 S j).1, .int .i64 (at2 S j).2]) rfl rfl many_40 rfl (fun w hS q v hq => by
            have h1 := cells2_get (S := S) (i := j) (by omega) r
            match q, hq with
            | 0, hq => simp only [List.getElem?_cons_zero, Option.some.injEq] at hq; subst hq; rw [Nat.zero_add]; exact hS.cell (g := ga) h1.1
            | 1, hq => simp only [List.getElem?_cons_succ, List.getElem?_cons_zero, Option.some.injEq] at hq; subst hq; rw [Nat.zero_add]; exact hS.cell (g := ga) h1.2
            | q + 2, hq => simp at hq)) (.none rfl) rfl rfl ?_
            refine WL.alloc rfl zero_40 (.none rfl) rfl rfl ?_
            intro g11 hg11
            refine WL.val (v_assign rfl rfl) (.none rfl) rfl rfl ?_
            refine WL.storeW rfl rfl rfl rfl many_40 rfl rfl (.none rfl) rfl ?_
            refine WL.nil ?_
            refine WE.then_n ?_
            refine WC.seq ?_
            refine WC.region ?_
            refine WL.val (v_fieldAddr0 rfl rfl fld_40_0) (.none rfl) rfl rfl ?_
            refine WL.val (v_load1 rfl rfl one_3 (cellAt rfl)) (.none rfl) rfl rfl ?_
            refine WL.val (v_fieldAddr0 rfl rfl fld_38_1) (.none rfl) rfl rfl ?_
            refine WL.val (v_load1 rfl rfl one_3 (cellAt rfl)) (.none rfl) rfl rfl ?_
            refine WL.val (v_eql rfl rfl rfl) (.none rfl) rfl rfl ?_
            refine WL.nil ?_
            refine WE.then_n ?_
            refine WC.cond_d rfl (fun h59 => ?_) (fun h59 => ?_)
            · -- 59T
              refine WC.region ?_
              refine WL.val (v_move rfl rfl) (.none rfl) rfl rfl ?_
              refine WL.val (v_assign rfl rfl) (.none rfl) rfl rfl ?_
              refine WL.nil ?_
              refine WE.block_n ?_
              refine WE.then_n ?_
              refine WC.region ?_
              refine WL.val (v_add rfl rfl rfl (w_i64 (by omega) (by omega))) (.none rfl) rfl rfl ?_
              refine WL.val (v_move rfl rfl) (.none rfl) rfl rfl ?_
              refine WL.nil ?_
              exact WE.next (j + 1, (j : Int)) (by dsimp only; omega) ⟨by dsimp only; omega, .inr ⟨by dsimp only; omega, by dsimp only; omega, by dsimp only; rw [show ((j : Int)).toNat = j by omega]; exact h59⟩⟩ (.int rfl (by dsimp only; omega) (.cons rfl (.cons rfl (.cons rfl (.cons rfl (.cons rfl (.cons rfl (.cons rfl (.cons rfl (.cons rfl (.cons rfl .nil))))))))))) (.cons _ (.refl _))
            · -- 59F
              refine WC.skip ?_
              refine WE.block_n ?_
              refine WE.then_n ?_
              refine WC.region ?_
              refine WL.val (v_add rfl rfl rfl (w_i64 (by omega) (by omega))) (.none rfl) rfl rfl ?_
              refine WL.val (v_move rfl rfl) (.none rfl) rfl rfl ?_
              refine WL.nil ?_
              refine WE.next (j + 1, k) (by dsimp only; omega) ⟨by dsimp only; omega, ?_⟩ (.int rfl (by dsimp only; omega) (.cons rfl (.cons rfl (.cons rfl (.cons rfl (.cons rfl (.cons rfl (.cons rfl (.cons rfl (.cons rfl (.cons rfl .nil))))))))))) (.cons _ (.refl _))
              dsimp only
              rcases hk with ⟨k1, k2⟩ | ⟨k1, k2, k3⟩
              · exact .inl ⟨k1, fun q hq => by
                  by_cases e : q = j
                  · subst e; exact h59
                  · exact k2 q (by omega)⟩
              · exact .inr ⟨k1, by omega, k3⟩
          · -- 51F
            refine WL.nil ?_
            refine WE.then_n ?_
            refine WC.seq ?_
            refine WC.cond_f rfl ?_
            refine WC.exit ?_
            refine WE.then_exit ?_
            refine WE.then_exit ?_
            refine WE.block_hit ?_
            obtain rfl : j = S.length := (by omega)
            exact WE.mid k hk (.cons rfl (.cons rfl (.cons rfl (.cons rfl (.cons rfl (.cons rfl (.cons rfl (.cons rfl .nil)))))))) (.refl _)
        · -- behind cutb2
          intro k hk
          refine WC.cut (fun x : RnI => [(3, .pointer (some ⟨gC, 0, none⟩)), (4, .int .i64 x.now), (5, .slice x.ad x.S.length x.c), (6, .int .i64 x.i), (0, .slice a n cap)]) (fun x => x.E ++ x.d.L gC x.now []) (fun x => x.Ok (i + 1) ∧ x.i = i) ?_ ?_
          · -- cutb4
            refine WC.seq ?_
            refine WC.region ?_
            refine WL.val (v_fieldAddr0 rfl rfl fld_38_0) (.none rfl) rfl rfl ?_
            refine WL.val (v_load1 rfl rfl one_3 (cellAt rfl)) (.none rfl) rfl rfl ?_
            refine WL.nil ?_
            refine WE.then_n ?_
            refine WC.block ?_
            refine WC.seq ?_
            refine WC.seq ?_
            refine WC.region ?_
            refine WL.test (v_eql rfl rfl rfl) (.none rfl) rfl rfl (fun h65 => ?_) (fun h65 => ?_)
            · -- 65T
              refine WL.val (v_assign rfl rfl) (.none rfl) rfl rfl ?_
              refine WL.nil ?_
              refine WE.then_n ?_
              refine WC.cond_t rfl ?_
              refine WC.skip ?_
              refine WE.then_n ?_
              refine WC.cond_t rfl ?_
              refine WC.seq ?_
              refine WC.region ?_
              refine WL.val (v_move rfl rfl) (.none rfl) rfl rfl ?_
              refine WL.val (v_fieldAddr0 rfl rfl fld_38_1) (.none rfl) rfl rfl ?_
              refine WL.val (v_load1 rfl rfl one_3 (cellAt rfl)) (.none rfl) rfl rfl ?_
              refine WL.val (v_move rfl rfl) (.none rfl) rfl rfl ?_
              refine WL.call rfl rfl ck_9 (.none rfl) rfl rfl ?_
              intro w1 hS
              refine (Set_r (X := .row g7 (opL (f i)) :: E) (t := t) hS hbg hk (by omega)).mono ?_
              rintro e w' ⟨r1, d', S', rfl, hb', hbad, hgood, hS'⟩
              refine ⟨_, .row g7 (opL (f i)) :: (E ++ d'.L gC now []), rfl, hS', ?_⟩
              refine WL.val (v_assign rfl rfl) (.none rfl) rfl rfl ?_
              refine WL.nil ?_
              refine WE.then_n ?_
              refine WC.block ?_
              refine WC.seq ?_
              refine WC.region ?_
              refine WL.val (v_move rfl rfl) (.none rfl) rfl rfl ?_
              refine WL.val (v_move rfl rfl) (.none rfl) rfl rfl ?_
              refine WL.test (v_lss rfl rfl rfl) (.none rfl) rfl rfl (fun h82 => ?_) (fun h82 => ?_)
              · -- 82T
                refine WL.val (v_move rfl rfl) (.none rfl) rfl rfl ?_
                refine WL.skip rfl rfl rfl rfl rfl rfl ?_
                refine WL.skip rfl rfl rfl rfl rfl rfl ?_
                refine WL.val (v_pick_t rfl rfl rfl) (.none rfl) rfl rfl ?_
                refine WL.val (v_assign rfl rfl) (.none rfl) rfl rfl ?_
                refine WL.nil ?_
                refine WE.then_n ?_
                refine WC.cond_t rfl ?_
                refine WC.seq ?_
                refine WC.region ?_
                refine WL.val (v_move rfl rfl) (.none rfl) rfl rfl ?_
                refine WL.val ((v_neq rfl rfl rfl).f (fun h => h (hbad (.inl h82)).1)) (.none rfl) rfl rfl ?_
                refine WL.nil ?_
                refine WE.then_n ?_
                refine WC.cond_f rfl ?_
                refine WC.skip ?_
                refine WE.block_n ?_
                refine WE.block_n ?_
                obtain rfl := (hbad (.inl h82)).2
                exact WE.mid ⟨i, now, d', S', ad, c, E⟩ ⟨⟨hb', hlo, hhi, by dsimp only; omega, hi, hV, htm⟩, rfl⟩ (.cons rfl (.cons rfl (.cons rfl (.cons rfl (.cons rfl .nil))))) (.cons _ (.refl _))
              · -- 82F
                refine WL.val (v_move rfl rfl) (.none rfl) rfl rfl ?_
                refine WL.val (v_move rfl rfl) (.some rfl rfl rfl) rfl rfl ?_
                refine WL.test (v_gtr rfl rfl rfl) (.some rfl rfl rfl) rfl rfl (fun h85 => ?_) (fun h85 => ?_)
                · -- 85T
                  refine WL.val (v_pick_f rfl rfl rfl) (.none rfl) rfl rfl ?_
                  refine WL.val (v_assign rfl rfl) (.none rfl) rfl rfl ?_
                  refine WL.nil ?_
                  refine WE.then_n ?_
                  refine WC.cond_t rfl ?_
                  refine WC.seq ?_
                  refine WC.region ?_
                  refine WL.val (v_move rfl rfl) (.none rfl) rfl rfl ?_
                  refine WL.val ((v_neq rfl rfl rfl).f (fun h => h (hbad (.inr h85)).1)) (.none rfl) rfl rfl ?_
                  refine WL.nil ?_
                  refine WE.then_n ?_
                  refine WC.cond_f rfl ?_
                  refine WC.skip ?_
                  refine WE.block_n ?_
                  refine WE.block_n ?_
                  obtain rfl := (hbad (.inr h85)).2
                  exact WE.mid ⟨i, now, d', S', ad, c, E⟩ ⟨⟨hb', hlo, hhi, by dsimp only; omega, hi, hV, htm⟩, rfl⟩ (.cons rfl (.cons rfl (.cons rfl (.cons rfl (.cons rfl .nil))))) (.cons _ (.refl _))
                · -- 85F
                  refine WL.val (v_pick_f rfl rfl rfl) (.none rfl) rfl rfl ?_
                  refine WL.val (v_assign rfl rfl) (.none rfl) rfl rfl ?_
                  refine WL.nil ?_
                  refine WE.then_n ?_
                  refine WC.cond_f rfl ?_
                  refine WC.seq ?_
                  refine WC.region ?_
                  refine WL.val (v_move rfl rfl) (.none rfl) rfl rfl ?_
                  refine WL.val ((v_neq rfl rfl rfl).f (fun h => h (hgood (by omega)).1)) (.none rfl) rfl rfl ?_
                  refine WL.val (v_assign rfl rfl) (.none rfl) rfl rfl ?_
                  refine WL.nil ?_
                  refine WE.then_n ?_
                  refine WC.cond_f rfl ?_
                  refine WC.seq ?_
                  refine WC.region ?_
                  refine WL.val (v_move rfl rfl) (.none rfl) rfl rfl ?_
                  refine WL.test (v_geq rfl rfl rfl) (.none rfl) rfl rfl (fun h94 => ?_) (fun h94 => ?_)
                  · -- 94T
                    refine WL.val (v_assign rfl rfl) (.none rfl) rfl rfl ?_
                    refine WL.nil ?_
                    refine WE.then_n ?_
                    refine WC.cond_t rfl ?_
                    refine WC.region ?_
                    refine WL.val (v_move rfl rfl) (.none rfl) rfl rfl ?_
                    obtain ⟨hk1, hk2⟩ := hk.yes h94
                    obtain ⟨ga, r, ea, eE, hrc, hcc⟩ := hV.cells2 (by omega)
                    subst ea eE
                    refine WL.as (L' := .row g7 (opL (f i)) :: .row ga (cells2 S ++ r) :: d'.L gC now []) rfl ?_
                    refine WL.val (v_move rfl rfl) (.none rfl) rfl rfl ?_
                    refine WL.val (v_move rfl rfl) (.none rfl) rfl rfl ?_
                    refine WL.val (v_indexAddr (lo := k.toNat) rfl rfl rfl Try.underlying36 sz_40 (by omega) (by omega)) (.none rfl) rfl rfl ?_
                    refine WL.val (v_fieldAddr rfl rfl fld_40_1) (.none rfl) rfl rfl ?_
                    refine WL.store1 rfl rfl rfl rfl one_3 (by rw [List.length_append, cells2_len]; omega) (.none rfl) rfl ?_
                    have hS3 := (hgood (by omega)).2.1 h94
                    subst hS3
                    refine WL.as (L' := .row g7 (opL (f i)) :: .row ga (cells2 (S.take k.toNat ++ (((f i).name, t) :: S.drop (k.toNat + 1))) ++ r) :: d'.L gC now []) (by rw [Nat.zero_add, cells2_set hk1, hk2]) ?_
                    have hl9 : (S.take k.toNat ++ (((f i).name, t) :: S.drop (k.toNat + 1))).length = S.length := (by rw [List.length_append, List.length_cons, List.length_take, List.length_drop]; omega)
                    have htm9 : ∀ z ∈ S.take k.toNat ++ (((f i).name, t) :: S.drop (k.toNat + 1)), 0 ≤ z.2 ∧ z.2 ≤ 1073741824 := (by
                      intro z hz
                      rcases List.mem_append.1 hz with h' | h'
                      · exact htm z (List.mem_of_mem_take h')
                      · rcases List.mem_cons.1 h' with rfl | h'
                        · exact ⟨by dsimp only; omega, by dsimp only; omega⟩
                        · exact htm z (List.mem_of_mem_drop h'))
                    refine WL.nil ?_
                    refine WE.block_n ?_
                    refine WE.block_n ?_
                    exact WE.mid ⟨i, now, d', S.take k.toNat ++ (((f i).name, t) :: S.drop (k.toNat + 1)), some ⟨ga, 0, none⟩, c, [.row ga (cells2 (S.take k.toNat ++ (((f i).name, t) :: S.drop (k.toNat + 1))) ++ r)]⟩ ⟨⟨hb', hlo, hhi, by dsimp only; omega, hi, vec2 (by rw [hl9]; exact hrc), htm9⟩, rfl⟩ (.cons rfl (.cons rfl (.eq rfl (by dsimp only; rw [hl9]) (.cons rfl (.cons rfl .nil))))) (.cons _ (.refl _))
                  · -- 94F
                    refine WL.val (v_assign rfl rfl) (.none rfl) rfl rfl ?_
                    refine WL.nil ?_
                    refine WE.then_n ?_
                    refine WC.cond_f rfl ?_
                    refine WC.region ?_
                    refine WL.val (v_move rfl rfl) (.none rfl) rfl rfl ?_
                    refine WL.val (v_fieldAddr0 rfl rfl fld_38_1) (.none rfl) rfl rfl ?_
                    refine WL.val (v_load1 rfl rfl one_3 (cellAt rfl)) (.none rfl) rfl rfl ?_
                    refine WL.val (v_move rfl rfl) (.none rfl) rfl rfl ?_
                    refine WL.val (v_build rfl rfl zero_40 plc_40 rfl) (.none rfl) rfl rfl ?_
                    refine WL.buildSlice rfl rfl Try.underlying36 sz_40 zero_40 rfl (by decide) rfl (.none rfl) rfl rfl ?_
                    intro g77 hg77
                    refine WL.to (L' := E ++ (.row g77 [.int .i64 (f i).name, .int .i64 t] :: .row g7 (opL (f i)) :: d'.L gC now [])) (fun w hS => hS.front [_, _]) ?_
                    refine WL.appendL rfl rfl rfl Try.underlying36 Try.underlying36 sz_40 by_40 zero_40 rfl rfl hV (new := [.int .i64 (f i).name, .int .i64 t]) (fun _ => ⟨g77, 0, rfl, fun w hS => allAt (g := g77) w hS⟩) rfl rfl (by omega) (.none rfl) rfl rfl ?_
                    intro ad78 c78 E78 hV78 hr78
                    have hS3 := (hgood (by omega)).2.2 h94
                    subst hS3
                    have hcc : cells2 S ++ [.int .i64 (f i).name, .int .i64 t] = cells2 (S ++ [((f i).name, t)]) := (by rw [cells2_append]; rfl)
                    rw [hcc] at hV78
                    have hl9 : (S ++ [((f i).name, t)]).length = S.length + 1 := (by simp)
                    have htm9 : ∀ z ∈ S ++ [((f i).name, t)], 0 ≤ z.2 ∧ z.2 ≤ 1073741824 := (by
                      intro z hz
                      rcases List.mem_append.1 hz with h' | h'
                      · exact htm z h'
                      · have : z = ((f i).name, t) := (by simpa using h')
                        subst this
                        exact ⟨by dsimp only; omega, by dsimp only; omega⟩)
                    refine WL.val (v_assign rfl rfl) (.none rfl) rfl rfl ?_
                    refine WL.nil ?_
                    refine WE.block_n ?_
                    refine WE.block_n ?_
                    exact WE.mid ⟨i, now, d', S ++ [((f i).name, t)], ad78, c78, E78⟩ ⟨⟨hb', hlo, hhi, by dsimp only; omega, hi, by rw [← hl9] at hV78; exact hV78, htm9⟩, rfl⟩ (.cons rfl (.cons rfl (.eq rfl (by dsimp only; rw [hl9]) (.cons rfl (.cons rfl .nil))))) (List.Sublist.append_left (.cons _ (.cons _ (.refl _))) _)
            · -- 65F
              refine WL.val (v_assign rfl rfl) (.none rfl) rfl rfl ?_
              refine WL.nil ?_
              refine WE.then_n ?_
              refine WC.cond_f rfl ?_
              refine WC.region ?_
              refine WL.test (v_eql rfl rfl rfl) (.none rfl) rfl rfl (fun h66 => ?_) (fun h66 => ?_)
              · -- 66T
                refine WL.val (v_assign rfl rfl) (.none rfl) rfl rfl ?_
                refine WL.nil ?_
                refine WE.then_n ?_
                refine WC.cond_t rfl ?_
                refine WC.seq ?_
                refine WC.region ?_
                refine WL.val (v_move rfl rfl) (.none rfl) rfl rfl ?_
                refine WL.val (v_fieldAddr0 rfl rfl fld_38_1) (.none rfl) rfl rfl ?_
                refine WL.val (v_load1 rfl rfl one_3 (cellAt rfl)) (.none rfl) rfl rfl ?_
                refine WL.val (v_move rfl rfl) (.none rfl) rfl rfl ?_
                refine WL.call rfl rfl ck_9 (.none rfl) rfl rfl ?_
                intro w1 hS
                refine (Set_r (X := .row g7 (opL (f i)) :: E) (t := t) hS hbg hk (by omega)).mono ?_
                rintro e w' ⟨r1, d', S', rfl, hb', hbad, hgood, hS'⟩
                refine ⟨_, .row g7 (opL (f i)) :: (E ++ d'.L gC now []), rfl, hS', ?_⟩
                refine WL.val (v_assign rfl rfl) (.none rfl) rfl rfl ?_
                refine WL.nil ?_
                refine WE.then_n ?_
                refine WC.block ?_
                refine WC.seq ?_
                refine WC.region ?_
                refine WL.val (v_move rfl rfl) (.none rfl) rfl rfl ?_
                refine WL.val (v_move rfl rfl) (.none rfl) rfl rfl ?_
                refine WL.test (v_lss rfl rfl rfl) (.none rfl) rfl rfl (fun h82 => ?_) (fun h82 => ?_)
                · -- 82T
                  refine WL.val (v_move rfl rfl) (.none rfl) rfl rfl ?_
                  refine WL.skip rfl rfl rfl rfl rfl rfl ?_
                  refine WL.skip rfl rfl rfl rfl rfl rfl ?_
                  refine WL.val (v_pick_t rfl rfl rfl) (.none rfl) rfl rfl ?_
                  refine WL.val (v_assign rfl rfl) (.none rfl) rfl rfl ?_
                  refine WL.nil ?_
                  refine WE.then_n ?_
                  refine WC.cond_t rfl ?_
                  refine WC.seq ?_
                  refine WC.region ?_
                  refine WL.val (v_move rfl rfl) (.none rfl) rfl rfl ?_
                  refine WL.val ((v_neq rfl rfl rfl).f (fun h => h (hbad (.inl h82)).1)) (.none rfl) rfl rfl ?_
                  refine WL.nil ?_
                  refine WE.then_n ?_
                  refine WC.cond_f rfl ?_
                  refine WC.skip ?_
                  refine WE.block_n ?_
                  refine WE.block_n ?_
                  obtain rfl := (hbad (.inl h82)).2
                  exact WE.mid ⟨i, now, d', S', ad, c, E⟩ ⟨⟨hb', hlo, hhi, by dsimp only; omega, hi, hV, htm⟩, rfl⟩ (.cons rfl (.cons rfl (.cons rfl (.cons rfl (.cons rfl .nil))))) (.cons _ (.refl _))
                · -- 82F
                  refine WL.val (v_move rfl rfl) (.none rfl) rfl rfl ?_
                  refine WL.val (v_move rfl rfl) (.some rfl rfl rfl) rfl rfl ?_
                  refine WL.test (v_gtr rfl rfl rfl) (.some rfl rfl rfl) rfl rfl (fun h85 => ?_) (fun h85 => ?_)
                  · -- 85T
                    refine WL.val (v_pick_f rfl rfl rfl) (.none rfl) rfl rfl ?_
                    refine WL.val (v_assign rfl rfl) (.none rfl) rfl rfl ?_
                    refine WL.nil ?_
                    refine WE.then_n ?_
                    refine WC.cond_t rfl ?_
                    refine WC.seq ?_
                    refine WC.region ?_
                    refine WL.val (v_move rfl rfl) (.none rfl) rfl rfl ?_
                    refine WL.val ((v_neq rfl rfl rfl).f (fun h => h (hbad (.inr h85)).1)) (.none rfl) rfl rfl ?_
                    refine WL.nil ?_
                    refine WE.then_n ?_
                    refine WC.cond_f rfl ?_
                    refine WC.skip ?_
                    refine WE.block_n ?_
                    refine WE.block_n ?_
                    obtain rfl := (hbad (.inr h85)).2
                    exact WE.mid ⟨i, now, d', S', ad, c, E⟩ ⟨⟨hb', hlo, hhi, by dsimp only; omega, hi, hV, htm⟩, rfl⟩ (.cons rfl (.cons rfl (.cons rfl (.cons rfl (.cons rfl .nil))))) (.cons _ (.refl _))
                  · -- 85F
                    refine WL.val (v_pick_f rfl rfl rfl) (.none rfl) rfl rfl ?_
                    refine WL.val (v_assign rfl rfl) (.none rfl) rfl rfl ?_
                    refine WL.nil ?_
                    refine WE.then_n ?_
                    refine WC.cond_f rfl ?_
                    refine WC.seq ?_
                    refine WC.region ?_
                    refine WL.val (v_move rfl rfl) (.none rfl) rfl rfl ?_
                    refine WL.val ((v_neq rfl rfl rfl).f (fun h => h (hgood (by omega)).1)) (.none rfl) rfl rfl ?_
                    refine WL.val (v_assign rfl rfl) (.none rfl) rfl rfl ?_
                    refine WL.nil ?_
                    refine WE.then_n ?_
                    refine WC.cond_f rfl ?_
                    refine WC.seq ?_
                    refine WC.region ?_
                    refine WL.val (v_move rfl rfl) (.none rfl) rfl rfl ?_
                    refine WL.test (v_geq rfl rfl rfl) (.none rfl) rfl rfl (fun h94 => ?_) (fun h94 => ?_)
                    · -- 94T
                      refine WL.val (v_assign rfl rfl) (.none rfl) rfl rfl ?_
                      refine WL.nil ?_
                      refine WE.then_n ?_
                      refine WC.cond_t rfl ?_
                      refine WC.region ?_
                      refine WL.val (v_move rfl rfl) (.none rfl) rfl rfl ?_
                      obtain ⟨hk1, hk2⟩ := hk.yes h94
                      obtain ⟨ga, r, ea, eE, hrc, hcc⟩ := hV.cells2 (by omega)
                      subst ea eE
                      refine WL.as (L' := .row g7 (opL (f i)) :: .row ga (cells2 S ++ r) :: d'.L gC now []) rfl ?_
                      refine WL.val (v_move rfl rfl) (.none rfl) rfl rfl ?_
                      refine WL.val (v_move rfl rfl) (.none rfl) rfl rfl ?_
                      refine WL.val (v_indexAddr (lo := k.toNat) rfl rfl rfl Try.underlying36 sz_40 (by omega) (by omega)) (.none rfl) rfl rfl ?_
                      refine WL.val (v_fieldAddr rfl rfl fld_40_1) (.none rfl) rfl rfl ?_
                      refine WL.store1 rfl rfl rfl rfl one_3 (by rw [List.length_append, cells2_len]; omega) (.none rfl) rfl ?_
                      have hS3 := (hgood (by omega)).2.1 h94
                      subst hS3
                      refine WL.as (L' := .row g7 (opL (f i)) :: .row ga (cells2 (S.take k.toNat ++ (((f i).name, t) :: S.drop (k.toNat + 1))) ++ r) :: d'.L gC now []) (by rw [Nat.zero_add, cells2_set hk1, hk2]) ?_
                      have hl9 : (S.take k.toNat ++ (((f i).name, t) :: S.drop (k.toNat + 1))).length = S.length := (by rw [List.length_append, List.length_cons, List.length_take, List.length_drop]; omega)
                      have htm9 : ∀ z ∈ S.take k.toNat ++ (((f i).name, t) :: S.drop (k.toNat + 1)), 0 ≤ z.2 ∧ z.2 ≤ 1073741824 := (by
                        intro z hz
                        rcases List.mem_append.1 hz with h' | h'
                        · exact htm z (List.mem_of_mem_take h')
                        · rcases List.mem_cons.1 h' with rfl | h'
                          · exact ⟨by dsimp only; omega, by dsimp only; omega⟩
                          · exact htm z (List.mem_of_mem_drop h'))
                      refine WL.nil ?_
                      refine WE.block_n ?_
                      refine WE.block_n ?_
                      exact WE.mid ⟨i, now, d', S.take k.toNat ++ (((f i).name, t) :: S.drop (k.toNat + 1)), some ⟨ga, 0, none⟩, c, [.row ga (cells2 (S.take k.toNat ++ (((f i).name, t) :: S.drop (k.toNat + 1))) ++ r)]⟩ ⟨⟨hb', hlo, hhi, by dsimp only; omega, hi, vec2 (by rw [hl9]; exact hrc), htm9⟩, rfl⟩ (.cons rfl (.cons rfl (.eq rfl (by dsimp only; rw [hl9]) (.cons rfl (.cons rfl .nil))))) (.cons _ (.refl _))
                    · -- 94F
                      refine WL.val (v_assign rfl rfl) (.none rfl) rfl rfl ?_
                      refine WL.nil ?_
                      refine WE.then_n ?_
                      refine WC.cond_f rfl ?_
                      refine WC.region ?_
                      refine WL.val (v_move rfl rfl) (.none rfl) rfl rfl ?_
                      refine WL.val (v_fieldAddr0 rfl rfl fld_38_1) (.none rfl) rfl rfl ?_
                      refine WL.val (v_load1 rfl rfl one_3 (cellAt rfl)) (.none rfl) rfl rfl ?_
                      refine WL.val (v_move rfl rfl) (.none rfl) rfl rfl ?_
                      refine WL.val (v_build rfl rfl zero_40 plc_40 rfl) (.none rfl) rfl rfl ?_
                      refine WL.buildSlice rfl rfl Try.underlying36 sz_40 zero_40 rfl (by decide) rfl (.none rfl) rfl rfl ?_
                      intro g77 hg77
                      refine WL.to (L' := E ++ (.row g77 [.int .i64 (f i).name, .int .i64 t] :: .row g7 (opL (f i)) :: d'.L gC now [])) (fun w hS => hS.front [_, _]) ?_
                      refine WL.appendL rfl rfl rfl Try.underlying36 Try.underlying36 sz_40 by_40 zero_40 rfl rfl hV (new := [.int .i64 (f i).name, .int .i64 t]) (fun _ => ⟨g77, 0, rfl, fun w hS => allAt (g := g77) w hS⟩) rfl rfl (by omega) (.none rfl) rfl rfl ?_
                      intro ad78 c78 E78 hV78 hr78
                      have hS3 := (hgood (by omega)).2.2 h94
                      subst hS3
                      have hcc : cells2 S ++ [.int .i64 (f i).name, .int .i64 t] = cells2 (S ++ [((f i).name, t)]) := (by rw [cells2_append]; rfl)
                      rw [hcc] at hV78
                      have hl9 : (S ++ [((f i).name, t)]).length = S.length + 1 := (by simp)
                      have htm9 : ∀ z ∈ S ++ [((f i).name, t)], 0 ≤ z.2 ∧ z.2 ≤ 1073741824 := (by
                        intro z hz
                        rcases List.mem_append.1 hz with h' | h'
                        · exact htm z h'
                        · have : z = ((f i).name, t) := (by simpa using h')
                          subst this
                          exact ⟨by dsimp only; omega, by dsimp only; omega⟩)
                      refine WL.val (v_assign rfl rfl) (.none rfl) rfl rfl ?_
                      refine WL.nil ?_
                      refine WE.block_n ?_
                      refine WE.block_n ?_
                      exact WE.mid ⟨i, now, d', S ++ [((f i).name, t)], ad78, c78, E78⟩ ⟨⟨hb', hlo, hhi, by dsimp only; omega, hi, by rw [← hl9] at hV78; exact hV78, htm9⟩, rfl⟩ (.cons rfl (.cons rfl (.eq rfl (by dsimp only; rw [hl9]) (.cons rfl (.cons rfl .nil))))) (List.Sublist.append_left (.cons _ (.cons _ (.refl _))) _)
              · -- 66F
                refine WL.val (v_assign rfl rfl) (.none rfl) rfl rfl ?_
                refine WL.nil ?_
                refine WE.then_n ?_
                refine WC.cond_f rfl ?_
                refine WC.seq ?_
                refine WC.region ?_
                refine WL.test (v_eql rfl rfl rfl) (.none rfl) rfl rfl (fun h101 => ?_) (fun h101 => ?_)
                · -- 101T
                  refine WL.val (v_assign rfl rfl) (.none rfl) rfl rfl ?_
                  refine WL.nil ?_
                  refine WE.then_n ?_
                  refine WC.cond_t rfl ?_
                  refine WC.seq ?_
                  refine WC.seq ?_
                  refine WC.region ?_
                  refine WL.val (v_move rfl rfl) (.none rfl) rfl rfl ?_
                  refine WL.val (v_fieldAddr0 rfl rfl fld_38_1) (.none rfl) rfl rfl ?_
                  refine WL.val (v_load1 rfl rfl one_3 (cellAt rfl)) (.none rfl) rfl rfl ?_
                  refine WL.call rfl rfl ck_13 (.none rfl) rfl rfl ?_
                  intro w1 hS
                  refine (Stop_r (X := .row g7 (opL (f i)) :: E) hS hbg hk).mono ?_
                  rintro e w' ⟨d', S', rfl, hb', hdel, hkeep, hS'⟩
                  refine ⟨_, .row g7 (opL (f i)) :: (E ++ d'.L gC now []), rfl, hS', ?_⟩
                  refine WL.val (v_move rfl rfl) (.none rfl) rfl rfl ?_
                  refine WL.val (v_geq rfl rfl rfl) (.none rfl) rfl rfl ?_
                  refine WL.val ((v_neq_bool rfl rfl rfl Try.underlying4).f (fun h => h rfl)) (.none rfl) rfl rfl ?_
                  refine WL.nil ?_
                  refine WE.then_n ?_
                  refine WC.cond_f rfl ?_
                  refine WC.skip ?_
                  refine WE.then_n ?_
                  refine WC.seq ?_
                  refine WC.region ?_
                  refine WL.val (v_move rfl rfl) (.none rfl) rfl rfl ?_
                  refine WL.test (v_geq rfl rfl rfl) (.none rfl) rfl rfl (fun h110 => ?_) (fun h110 => ?_)
                  · -- 110T
                    refine WL.nil ?_
                    refine WE.then_n ?_
                    refine WC.cond_t rfl ?_
                    refine WC.orders mixed ?_
                    refine WR.first (g := 4) [1, 2, 3, 5, 6, 7, 8] (by kernel_rfl) (by kernel_rfl) ?_
                    refine WP.val (v_move rfl rfl) (.none rfl) rfl rfl ?_
                    obtain ⟨hk1, hk2⟩ := hk.yes h110
                    obtain ⟨ga, r, ea, eE, hrc, hcc⟩ := hV.cells2 (by omega)
                    subst ea eE
                    have hS3 := hdel h110
                    subst hS3
                    refine WP.val (v_move rfl rfl) (.none rfl) rfl rfl ?_
                    refine WP.val (v_slice_hi (hi := k.toNat) rfl rfl rfl Try.underlying36 sz_40 (by omega) (by omega)) (.none rfl) rfl rfl ?_
                    refine WP.val (v_move rfl rfl) (.none rfl) rfl rfl ?_
                    refine WP.val (v_move rfl rfl) (.none rfl) rfl rfl ?_
                    refine WP.val (v_add rfl rfl rfl (w_i64 (by omega) (by omega))) (.none rfl) rfl rfl ?_
                    refine WP.val (v_slice_lo (lo := k.toNat + 1) rfl rfl rfl Try.underlying36 sz_40 (by omega) (by omega)) (.none rfl) rfl rfl ?_
                    refine WP.nil ?_
                    refine WR.ones (g := 1) [0, 4, 9] (by kernel_rfl) ?_
                    refine WL.buildSlice rfl rfl Try.underlying36 sz_40 zero_40 rfl (by decide) rfl (.none rfl) rfl rfl ?_
                    intro g111 hg111
                    refine WL.as (L' := .row g111 [] :: .row g7 (opL (f i)) :: .row ga (cells2 S ++ r) :: d'.L gC now []) rfl ?_
                    refine WL.appendL rfl rfl rfl Try.underlying36 Try.underlying36 sz_40 by_40 zero_40 rfl rfl (E := [.row g111 []]) (Vec.row (k := 0) (s := 2) (c := 0) rfl rfl (by omega)) (new := cells2 (S.take k.toNat)) (fun _ => ⟨ga, 0, rfl, segAt (g := ga) (cells2_seg0 (by omega) r)⟩) (by rw [cells2_len, List.length_take]; omega) (cells2_one _) (by omega) (.none rfl) rfl rfl ?_
                    intro ad115 c115 E115 hV115 hr115
                    refine WL.appendL rfl rfl rfl Try.underlying36 Try.underlying36 sz_40 by_40 zero_40 rfl rfl hV115 (new := cells2 (S.drop (k.toNat + 1))) (fun h => ⟨ga, _, rfl, by rw [show sAddr 0 (k.toNat + 1) c 2 = (k.toNat + 1) * 2 by unfold sAddr; rw [if_neg (by omega)]; omega]; exact segAt (g := ga) (cells2_seg1 (by omega) r)⟩) (by rw [cells2_len, List.length_drop]) (cells2_one _) (by omega) (.none rfl) rfl rfl ?_
                    intro ad120 c120 E120 hV120 hr120
                    refine WL.nilR ?_
                    refine WR.first (g := 0) [10] (by kernel_rfl) (by kernel_rfl) ?_
                    refine WP.val (v_assign rfl rfl) (.none rfl) rfl rfl ?_
                    refine WP.nil ?_
                    refine WR.done (by kernel_rfl) ?_
                    refine WE.block_n ?_
                    exact WE.mid ⟨i, now, d', S.take k.toNat ++ S.drop (k.toNat + 1), ad120, c120, E120⟩ ⟨⟨hb', hlo, hhi, by dsimp only; rw [len_del hk1]; omega, hi, by dsimp only; rw [len_del hk1, cells2_append]; exact hV120, tm_del htm⟩, rfl⟩ (.cons rfl (.cons rfl (.eq rfl (by dsimp only; rw [len_del hk1]) (.cons rfl (.cons rfl .nil))))) (List.Sublist.append_left (.cons _ (.cons _ (.refl _))) _)
                  · -- 110F
                    refine WL.nil ?_
                    refine WE.then_n ?_
                    refine WC.cond_f rfl ?_
                    refine WC.skip ?_
                    refine WE.block_n ?_
                    obtain rfl := hkeep h110
                    exact WE.mid ⟨i, now, d', S', ad, c, E⟩ ⟨⟨hb', hlo, hhi, by dsimp only; omega, hi, hV, htm⟩, rfl⟩ (.cons rfl (.cons rfl (.cons rfl (.cons rfl (.cons rfl .nil))))) (.cons _ (.refl _))
                · -- 101F
                  refine WL.val (v_assign rfl rfl) (.none rfl) rfl rfl ?_
                  refine WL.nil ?_
                  refine WE.then_n ?_
                  refine WC.cond_f rfl ?_
                  refine WC.seq ?_
                  refine WC.region ?_
                  refine WL.test (v_eql rfl rfl rfl) (.none rfl) rfl rfl (fun h122 => ?_) (fun h122 => ?_)
                  · -- 122T
                    refine WL.val (v_assign rfl rfl) (.none rfl) rfl rfl ?_
                    refine WL.nil ?_
                    refine WE.then_n ?_
                    refine WC.cond_t rfl ?_
                    refine WC.seq ?_
                    refine WC.region ?_
                    refine WL.val (v_move rfl rfl) (.none rfl) rfl rfl ?_
                    refine WL.val (v_fieldAddr0 rfl rfl fld_38_1) (.none rfl) rfl rfl ?_
                    refine WL.val (v_load1 rfl rfl one_3 (cellAt rfl)) (.none rfl) rfl rfl ?_
                    refine WL.call rfl rfl ck_14 (.none rfl) rfl rfl ?_
                    intro w1 hS
                    refine (When_r (X := .row g7 (opL (f i)) :: E) hS hbg hk).mono ?_
                    rintro e w' ⟨b3, t3, rfl, hbt, hbf, hF⟩
                    refine ⟨_, _, rfl, hS.ext hF, ?_⟩
                    refine WL.val (v_move rfl rfl) (.none rfl) rfl rfl ?_
                    refine WL.val (v_extract rfl rfl rfl) (.none rfl) rfl rfl ?_
                    refine WL.val (v_extract rfl rfl rfl) (.none rfl) rfl rfl ?_
                    cases b3
                    · -- 129F
                      refine WL.val (v_assign rfl rfl) (.none rfl) rfl rfl ?_
                      refine WL.val (v_assign rfl rfl) (.none rfl) rfl rfl ?_
                      refine WL.nil ?_
                      refine WE.then_n ?_
                      refine WC.seq ?_
                      refine WC.region ?_
                      refine WL.val (v_move rfl rfl) (.none rfl) rfl rfl ?_
                      refine WL.val (v_move rfl rfl) (.none rfl) rfl rfl ?_
                      refine WL.val (v_geq rfl rfl rfl) (.none rfl) rfl rfl ?_
                      refine WL.val ((v_neq_bool rfl rfl rfl Try.underlying4).f (by simp [(hbf rfl).1])) (.none rfl) rfl rfl ?_
                      refine WL.val (v_move rfl rfl) (.none rfl) rfl rfl ?_
                      refine WL.val (v_move rfl rfl) (.some rfl rfl rfl) rfl rfl ?_
                      refine WL.val (v_move rfl rfl) (.some rfl rfl rfl) rfl rfl ?_
                      refine WL.skip rfl rfl rfl rfl rfl rfl ?_
                      refine WL.skip rfl rfl rfl rfl rfl rfl ?_
                      refine WL.skip rfl rfl rfl rfl rfl rfl ?_
                      refine WL.skip rfl rfl rfl rfl rfl rfl ?_
                      refine WL.skip rfl rfl rfl rfl rfl rfl ?_
                      refine WL.skip rfl rfl rfl rfl rfl rfl ?_
                      refine WL.skip rfl rfl rfl rfl rfl rfl ?_
                      refine WL.val (v_pick_f rfl rfl rfl) (.some rfl rfl rfl) rfl rfl ?_
                      refine WL.val (v_pick_f rfl rfl rfl) (.none rfl) rfl rfl ?_
                      refine WL.val (v_move rfl rfl) (.none rfl) rfl rfl ?_
                      refine WL.val (v_move rfl rfl) (.some rfl rfl rfl) rfl rfl ?_
                      refine WL.val (v_not rfl rfl rfl) (.some rfl rfl rfl) rfl rfl ?_
                      refine WL.val (v_move rfl rfl) (.some rfl rfl rfl) rfl rfl ?_
                      refine WL.val (v_move rfl rfl) (.some rfl rfl rfl) rfl rfl ?_
                      refine WL.val ((v_neq rfl rfl rfl).f (fun h => h (hbf rfl).2)) (.some rfl rfl rfl) rfl rfl ?_
                      refine WL.val (v_pick_t rfl rfl rfl) (.some rfl rfl rfl) rfl rfl ?_
                      refine WL.val (v_pick_f rfl rfl rfl) (.none rfl) rfl rfl ?_
                      refine WL.nil ?_
                      refine WE.then_n ?_
                      refine WC.cond_f rfl ?_
                      refine WC.skip ?_
                      refine WE.block_n ?_
                      exact WE.mid ⟨i, now, d, S, ad, c, E⟩ ⟨⟨hbg, hlo, hhi, by dsimp only; omega, hi, hV, htm⟩, rfl⟩ (.cons rfl (.cons rfl (.cons rfl (.cons rfl (.cons rfl .nil))))) (.cons _ (.refl _))
                    · -- 129T
                      refine WL.val (v_assign rfl rfl) (.none rfl) rfl rfl ?_
                      refine WL.val (v_assign rfl rfl) (.none rfl) rfl rfl ?_
                      refine WL.nil ?_
                      refine WE.then_n ?_
                      refine WC.seq ?_
                      refine WC.region ?_
                      refine WL.val (v_move rfl rfl) (.none rfl) rfl rfl ?_
                      refine WL.val (v_move rfl rfl) (.none rfl) rfl rfl ?_
                      refine WL.val (v_geq rfl rfl rfl) (.none rfl) rfl rfl ?_
                      refine WL.val ((v_neq_bool rfl rfl rfl Try.underlying4).f (by simp [(hbt rfl).1])) (.none rfl) rfl rfl ?_
                      refine WL.val (v_move rfl rfl) (.none rfl) rfl rfl ?_
                      refine WL.val (v_move rfl rfl) (.some rfl rfl rfl) rfl rfl ?_
                      refine WL.val (v_move rfl rfl) (.some rfl rfl rfl) rfl rfl ?_
                      refine WL.val (v_move rfl rfl) (.some rfl rfl rfl) rfl rfl ?_
                      have hk0 := (hbt rfl).1
                      obtain ⟨hk1, hk2⟩ := hk.yes (hbt rfl).1
                      obtain ⟨ga, r, ea, eE, hrc, hcc⟩ := hV.cells2 (by omega)
                      subst ea eE
                      refine WL.as (L' := .row g7 (opL (f i)) :: .row ga (cells2 S ++ r) :: d.L gC now []) rfl ?_
                      refine WL.val (v_move rfl rfl) (.some rfl rfl rfl) rfl rfl ?_
                      refine WL.val (v_move rfl rfl) (.some rfl rfl rfl) rfl rfl ?_
                      refine WL.val (v_indexAddr (lo := k.toNat) rfl rfl rfl Try.underlying36 sz_40 (by omega) (by omega)) (.some rfl rfl rfl) rfl rfl ?_
                      refine WL.val (v_fieldAddr rfl rfl fld_40_1) (.some rfl rfl rfl) rfl rfl ?_
                      refine WL.val (v_load1 rfl rfl one_3 (cellAt (by rw [Nat.zero_add]; exact (cells2_get hk1 r).2))) (.some rfl rfl rfl) rfl rfl ?_
                      refine WL.val ((v_neq rfl rfl rfl).f (fun h => h (hbt rfl).2)) (.some rfl rfl rfl) rfl rfl ?_
                      refine WL.val (v_pick_t rfl rfl rfl) (.some rfl rfl rfl) rfl rfl ?_
                      refine WL.val (v_pick_f rfl rfl rfl) (.none rfl) rfl rfl ?_
                      refine WL.val (v_move rfl rfl) (.none rfl) rfl rfl ?_
                      refine WL.val (v_move rfl rfl) (.some rfl rfl rfl) rfl rfl ?_
                      refine WL.val (v_not rfl rfl rfl) (.some rfl rfl rfl) rfl rfl ?_
                      refine WL.val (v_move rfl rfl) (.some rfl rfl rfl) rfl rfl ?_
                      refine WL.skip rfl rfl rfl rfl rfl rfl ?_
                      refine WL.skip rfl rfl rfl rfl rfl rfl ?_
                      refine WL.val (v_pick_f rfl rfl rfl) (.some rfl rfl rfl) rfl rfl ?_
                      refine WL.val (v_pick_f rfl rfl rfl) (.none rfl) rfl rfl ?_
                      refine WL.nil ?_
                      refine WE.then_n ?_
                      refine WC.cond_f rfl ?_
                      refine WC.skip ?_
                      refine WE.block_n ?_
                      exact WE.mid ⟨i, now, d, S, some ⟨ga, 0, none⟩, c, [.row ga (cells2 S ++ r)]⟩ ⟨⟨hbg, hlo, hhi, by dsimp only; omega, hi, vec2 hrc, htm⟩, rfl⟩ (.cons rfl (.cons rfl (.cons rfl (.cons rfl (.cons rfl .nil))))) (.cons _ (.refl _))
                  · -- 122F
                    refine WL.val (v_assign rfl rfl) (.none rfl) rfl rfl ?_
                    refine WL.nil ?_
                    refine WE.then_n ?_
                    refine WC.cond_f rfl ?_
                    refine WC.seq ?_
                    refine WC.seq ?_
                    refine WC.region ?_
                    refine WL.test (v_eql rfl rfl rfl) (.none rfl) rfl rfl (fun h155 => ?_) (fun h155 => ?_)
                    · -- 155T
                      refine WL.val (v_assign rfl rfl) (.none rfl) rfl rfl ?_
                      refine WL.nil ?_
                      refine WE.then_n ?_
                      refine WC.cond_t rfl ?_
                      refine WC.skip ?_
                      refine WE.then_n ?_
                      refine WC.cond_t rfl ?_
                      refine WC.seq ?_
                      refine WC.seq ?_
                      refine WC.region ?_
                      refine WL.val (v_move rfl rfl) (.none rfl) rfl rfl ?_
                      refine WL.val (v_move rfl rfl) (.none rfl) rfl rfl ?_
                      refine WL.val (v_lss rfl rfl rfl) (.none rfl) rfl rfl ?_
                      refine WL.nil ?_
                      refine WE.then_n ?_
                      refine WC.cond_d rfl (fun h159 => ?_) (fun h159 => ?_)
                      · -- 159T
                        refine WC.region ?_
                        refine WL.val (v_move rfl rfl) (.none rfl) rfl rfl ?_
                        refine WL.val (v_assign rfl rfl) (.none rfl) rfl rfl ?_
                        refine WL.nil ?_
                        refine WE.then_n ?_
                        refine WC.cut (fun u : Int => [(8, .int .i64 u), (7, .pointer (some ⟨g7, 0, none⟩)), (3, .pointer (some ⟨gC, 0, none⟩)), (4, .int .i64 now), (5, .slice ad S.length c), (6, .int .i64 i), (0, .slice a n cap)]) (fun _ => .row g7 (opL (f i)) :: (E ++ d.L gC now [])) (fun u => u = clip t now) ?_ ?_
                        · -- cut162
                          refine WC.seq ?_
                          refine WC.region ?_
                          refine WL.val (v_move rfl rfl) (.none rfl) rfl rfl ?_
                          refine WL.val (v_gtr rfl rfl rfl) (.none rfl) rfl rfl ?_
                          refine WL.nil ?_
                          refine WE.then_n ?_
                          refine WC.cond_d rfl (fun h162 => ?_) (fun h162 => ?_)
                          · -- 162T
                            refine WC.region ?_
                            refine WL.val (v_assign rfl rfl) (.none rfl) rfl rfl ?_
                            refine WL.nil ?_
                            exact WE.mid _ (by unfold clip; omega) (.cons rfl (.cons rfl (.cons rfl (.cons rfl (.cons rfl (.cons rfl (.cons rfl .nil))))))) (.refl _)
                          · -- 162F
                            refine WC.skip ?_
                            exact WE.mid _ (by unfold clip; omega) (.cons rfl (.cons rfl (.cons rfl (.cons rfl (.cons rfl (.cons rfl (.cons rfl .nil))))))) (.refl _)
                        · -- behind cut162
                          intro u hu
                          have hu0 : now ≤ u ∧ u ≤ 1073741824 := (by rw [hu]; unfold clip; omega)
                          refine WC.seq ?_
                          refine WC.region ?_
                          refine WL.val (v_assign rfl rfl) (.none rfl) rfl rfl ?_
                          refine WL.nil ?_
                          refine WE.then_n ?_
                          refine WC.seq ?_
                          refine WC.seq ?_
                          refine WC.region ?_
                          refine WL.val (v_move rfl rfl) (.none rfl) rfl rfl ?_
                          refine WL.val (v_len_slice rfl rfl Try.underlying36) (.none rfl) rfl rfl ?_
                          refine WL.val (v_move rfl rfl) (.none rfl) rfl rfl ?_
                          refine WL.nil ?_
                          refine WE.then_n ?_
                          refine WC.block ?_
                          refine WC.loop (fun x : Nat × Int => [(165, .int .i64 x.1), (164, .int .i64 S.length), (163, .slice ad S.length c), (15, .int .i64 x.2), (8, .int .i64 u), (7, .pointer (some ⟨g7, 0, none⟩)), (3, .pointer (some ⟨gC, 0, none⟩)), (4, .int .i64 now), (5, .slice ad S.length c), (6, .int .i64 i), (0, .slice a n cap)]) (fun _ => .row g7 (opL (f i)) :: (E ++ d.L gC now [])) (fun x => x.1 ≤ S.length ∧ FInv S u x.1 x.2) (fun x => S.length - x.1) (0, -1) ⟨Nat.zero_le _, .inl ⟨rfl, fun t ht => absurd ht (by dsimp only; omega)⟩⟩ (.cons rfl (.cons rfl (.cons rfl (.cons rfl (.cons rfl (.cons rfl (.cons rfl (.cons rfl (.cons rfl (.cons rfl (.cons rfl .nil))))))))))) (.refl _) ?_
                          rintro ⟨j, ff⟩ ⟨hj, hf⟩
                          dsimp only at hj hf
                          dsimp only
                          have hfn : 0 ≤ ff → ff.toNat < j := (by rcases hf with ⟨h, _⟩ | ⟨_, h, _⟩; omega; exact fun _ => h)
                          refine WC.seq ?_
                          refine WC.region ?_
                          refine WL.test (v_lss rfl rfl rfl) (.none rfl) rfl rfl (fun h166 => ?_) (fun h166 => ?_)
                          · -- 166T
                            refine WL.nil ?_
                            refine WE.then_n ?_
                            refine WC.seq ?_
                            refine WC.cond_t rfl ?_
                            refine WC.skip ?_
                            refine WE.then_n ?_
                            refine WC.seq ?_
                            refine WC.block ?_
                            refine WC.seq ?_
                            refine WC.region ?_
                            refine WL.val (v_move rfl rfl) (.none rfl) rfl rfl ?_
                            obtain ⟨ga, r, ea, eE, hrc, hcc⟩ := hV.cells2 (by omega)
                            subst ea eE
                            refine WL.as (L' := .row g7 (opL (f i)) :: .row ga (cells2 S ++ r) :: d.L gC now []) rfl ?_
                            refine WL.val (v_indexAddr (lo := j) rfl rfl rfl Try.underlying36 sz_40 (by omega) (by omega)) (.none rfl) rfl rfl ?_
                            refine WL.val (v_loadN (cs := [.int .i64 (at2 S j).1, .int .i64 (at2 S j).2]) rfl rfl many_40 rfl (fun w hS q v hq => by
                            have h1 := cells2_get (S := S) (i := j) (by omega) r
                            match q, hq with
                            | 0, hq => simp only [List.getElem?_cons_zero, Option.some.injEq] at hq; subst hq; rw [Nat.zero_add]; exact hS.cell (g := ga) h1.1
                            | 1, hq => simp only [List.getElem?_cons_succ, List.getElem?_cons_zero, Option.some.injEq] at hq; subst hq; rw [Nat.zero_add]; exact hS.cell (g := ga) h1.2
                            | q + 2, hq => simp at hq)) (.none rfl) rfl rfl ?_
                            refine WL.alloc rfl zero_40 (.none rfl) rfl rfl ?_
                            intro g17 hg17
                            refine WL.val (v_assign rfl rfl) (.none rfl) rfl rfl ?_
                            refine WL.storeW rfl rfl rfl rfl many_40 rfl rfl (.none rfl) rfl ?_
                            refine WL.nil ?_
                            refine WE.then_n ?_
                            refine WC.seq ?_
                            refine WC.quiet mixed (by kernel_rfl) ?_
                            refine WQ.val (v_fieldAddr0 rfl rfl fld_40_1) (.none rfl) rfl rfl ?_
                            refine WQ.val (v_load1 rfl rfl one_3 (cellAt rfl)) (.none rfl) rfl rfl ?_
                            refine WQ.val (v_move rfl rfl) (.none rfl) rfl rfl ?_
                            refine WQ.test (v_leq rfl rfl rfl) (.none rfl) rfl rfl (fun h173 => ?_) (fun h173 => ?_)
                            · -- 173T
                              refine WQ.val (v_move rfl rfl) (.none rfl) rfl rfl ?_
                              refine WQ.val (v_move rfl rfl) (.some rfl rfl rfl) rfl rfl ?_
                              refine WQ.test (v_lss rfl rfl rfl) (.some rfl rfl rfl) rfl rfl (fun h176 => ?_) (fun h176 => ?_)
                              · -- 176T
                                refine WQ.val (v_move rfl rfl) (.some rfl rfl rfl) rfl rfl ?_
                                refine WQ.skip rfl rfl rfl rfl rfl rfl ?_
                                refine WQ.skip rfl rfl rfl rfl rfl rfl ?_
                                refine WQ.skip rfl rfl rfl rfl rfl rfl ?_
                                refine WQ.skip rfl rfl rfl rfl rfl rfl ?_
                                refine WQ.skip rfl rfl rfl rfl rfl rfl ?_
                                refine WQ.skip rfl rfl rfl rfl rfl rfl ?_
                                refine WQ.skip rfl rfl rfl rfl rfl rfl ?_
                                refine WQ.skip rfl rfl rfl rfl rfl rfl ?_
                                refine WQ.val (v_pick_t rfl rfl rfl) (.some rfl rfl rfl) rfl rfl ?_
                                refine WQ.val (v_move rfl rfl) (.some rfl rfl rfl) rfl rfl ?_
                                refine WQ.skip rfl rfl rfl rfl rfl rfl ?_
                                refine WQ.skip rfl rfl rfl rfl rfl rfl ?_
                                refine WQ.skip rfl rfl rfl rfl rfl rfl ?_
                                refine WQ.skip rfl rfl rfl rfl rfl rfl ?_
                                refine WQ.skip rfl rfl rfl rfl rfl rfl ?_
                                refine WQ.skip rfl rfl rfl rfl rfl rfl ?_
                                refine WQ.skip rfl rfl rfl rfl rfl rfl ?_
                                refine WQ.skip rfl rfl rfl rfl rfl rfl ?_
                                refine WQ.skip rfl rfl rfl rfl rfl rfl ?_
                                refine WQ.skip rfl rfl rfl rfl rfl rfl ?_
                                refine WQ.skip rfl rfl rfl rfl rfl rfl ?_
                                refine WQ.skip rfl rfl rfl rfl rfl rfl ?_
                                refine WQ.skip rfl rfl rfl rfl rfl rfl ?_
                                refine WQ.skip rfl rfl rfl rfl rfl rfl ?_
                                refine WQ.skip rfl rfl rfl rfl rfl rfl ?_
                                refine WQ.skip rfl rfl rfl rfl rfl rfl ?_
                                refine WQ.skip rfl rfl rfl rfl rfl rfl ?_
                                refine WQ.skip rfl rfl rfl rfl rfl rfl ?_
                                refine WQ.val (v_pick_t rfl rfl rfl) (.some rfl rfl rfl) rfl rfl ?_
                                refine WQ.val (v_pick_t rfl rfl rfl) (.none rfl) rfl rfl ?_
                                refine WQ.nil ?_
                                refine WE.then_n ?_
                                refine WC.cond_t rfl ?_
                                refine WC.region ?_
                                refine WL.val (v_move rfl rfl) (.none rfl) rfl rfl ?_
                                refine WL.val (v_assign rfl rfl) (.none rfl) rfl rfl ?_
                                refine WL.nil ?_
                                refine WE.block_n ?_
                                refine WE.then_n ?_
                                refine WC.region ?_
                                refine WL.val (v_add rfl rfl rfl (w_i64 (by omega) (by omega))) (.none rfl) rfl rfl ?_
                                refine WL.val (v_move rfl rfl) (.none rfl) rfl rfl ?_
                                refine WL.nil ?_
                                exact WE.next (j + 1, (j : Int)) (by dsimp only; omega) ⟨by dsimp only; omega, hf.take h173 (.inl h176)⟩ (.int rfl (by dsimp only; omega) (.cons rfl (.cons rfl (.cons rfl (.cons rfl (.cons rfl (.cons rfl (.cons rfl (.cons rfl (.cons rfl (.cons rfl .nil))))))))))) (.cons _ (.refl _))
                              · -- 176F
                                refine WQ.val (v_move rfl rfl) (.some rfl rfl rfl) rfl rfl ?_
                                refine WQ.val (v_fieldAddr0 rfl rfl fld_40_1) (.some rfl rfl rfl) rfl rfl ?_
                                refine WQ.val (v_load1 rfl rfl one_3 (cellAt rfl)) (.some rfl rfl rfl) rfl rfl ?_
                                refine WQ.val (v_move rfl rfl) (.some rfl rfl rfl) rfl rfl ?_
                                refine WQ.val (v_move rfl rfl) (.some rfl rfl rfl) rfl rfl ?_
                                refine WQ.val (v_indexAddr (lo := ff.toNat) rfl rfl rfl Try.underlying36 sz_40 (by omega) (by have := hfn (by omega); omega)) (.some rfl rfl rfl) rfl rfl ?_
                                refine WQ.val (v_fieldAddr rfl rfl fld_40_1) (.some rfl rfl rfl) rfl rfl ?_
                                refine WQ.val (v_load1 rfl rfl one_3 (cellAt (by rw [Nat.zero_add]; exact (cells2_get (by have := hfn (by omega); omega) r).2))) (.some rfl rfl rfl) rfl rfl ?_
                                refine WQ.test (v_lss rfl rfl rfl) (.some rfl rfl rfl) rfl rfl (fun h185 => ?_) (fun h185 => ?_)
                                · -- 185T
                                  refine WQ.val (v_pick_f rfl rfl rfl) (.some rfl rfl rfl) rfl rfl ?_
                                  refine WQ.val (v_move rfl rfl) (.some rfl rfl rfl) rfl rfl ?_
                                  refine WQ.skip rfl rfl rfl rfl rfl rfl ?_
                                  refine WQ.skip rfl rfl rfl rfl rfl rfl ?_
                                  refine WQ.skip rfl rfl rfl rfl rfl rfl ?_
                                  refine WQ.skip rfl rfl rfl rfl rfl rfl ?_
                                  refine WQ.skip rfl rfl rfl rfl rfl rfl ?_
                                  refine WQ.skip rfl rfl rfl rfl rfl rfl ?_
                                  refine WQ.skip rfl rfl rfl rfl rfl rfl ?_
                                  refine WQ.skip rfl rfl rfl rfl rfl rfl ?_
                                  refine WQ.skip rfl rfl rfl rfl rfl rfl ?_
                                  refine WQ.skip rfl rfl rfl rfl rfl rfl ?_
                                  refine WQ.skip rfl rfl rfl rfl rfl rfl ?_
                                  refine WQ.skip rfl rfl rfl rfl rfl rfl ?_
                                  refine WQ.skip rfl rfl rfl rfl rfl rfl ?_
                                  refine WQ.skip rfl rfl rfl rfl rfl rfl ?_
                                  refine WQ.skip rfl rfl rfl rfl rfl rfl ?_
                                  refine WQ.skip rfl rfl rfl rfl rfl rfl ?_
                                  refine WQ.skip rfl rfl rfl rfl rfl rfl ?_
                                  refine WQ.skip rfl rfl rfl rfl rfl rfl ?_
                                  refine WQ.val (v_pick_t rfl rfl rfl) (.some rfl rfl rfl) rfl rfl ?_
                                  refine WQ.val (v_pick_t rfl rfl rfl) (.none rfl) rfl rfl ?_
                                  refine WQ.nil ?_
                                  refine WE.then_n ?_
                                  refine WC.cond_t rfl ?_
                                  refine WC.region ?_
                                  refine WL.val (v_move rfl rfl) (.none rfl) rfl rfl ?_
                                  refine WL.val (v_assign rfl rfl) (.none rfl) rfl rfl ?_
                                  refine WL.nil ?_
                                  refine WE.block_n ?_
                                  refine WE.then_n ?_
                                  refine WC.region ?_
                                  refine WL.val (v_add rfl rfl rfl (w_i64 (by omega) (by omega))) (.none rfl) rfl rfl ?_
                                  refine WL.val (v_move rfl rfl) (.none rfl) rfl rfl ?_
                                  refine WL.nil ?_
                                  exact WE.next (j + 1, (j : Int)) (by dsimp only; omega) ⟨by dsimp only; omega, hf.take h173 (.inr (.inl h185))⟩ (.int rfl (by dsimp only; omega) (.cons rfl (.cons rfl (.cons rfl (.cons rfl (.cons rfl (.cons rfl (.cons rfl (.cons rfl (.cons rfl (.cons rfl .nil))))))))))) (.cons _ (.refl _))
                                · -- 185F
                                  refine WQ.val (v_pick_f rfl rfl rfl) (.some rfl rfl rfl) rfl rfl ?_
                                  refine WQ.val (v_move rfl rfl) (.some rfl rfl rfl) rfl rfl ?_
                                  refine WQ.val (v_fieldAddr0 rfl rfl fld_40_1) (.some rfl rfl rfl) rfl rfl ?_
                                  refine WQ.val (v_load1 rfl rfl one_3 (cellAt rfl)) (.some rfl rfl rfl) rfl rfl ?_
                                  refine WQ.val (v_move rfl rfl) (.some rfl rfl rfl) rfl rfl ?_
                                  refine WQ.val (v_move rfl rfl) (.some rfl rfl rfl) rfl rfl ?_
                                  refine WQ.val (v_indexAddr (lo := ff.toNat) rfl rfl rfl Try.underlying36 sz_40 (by omega) (by have := hfn (by omega); omega)) (.some rfl rfl rfl) rfl rfl ?_
                                  refine WQ.val (v_fieldAddr rfl rfl fld_40_1) (.some rfl rfl rfl) rfl rfl ?_
                                  refine WQ.val (v_load1 rfl rfl one_3 (cellAt (by rw [Nat.zero_add]; exact (cells2_get (by have := hfn (by omega); omega) r).2))) (.some rfl rfl rfl) rfl rfl ?_
                                  refine WQ.test (v_eql rfl rfl rfl) (.some rfl rfl rfl) rfl rfl (fun h195 => ?_) (fun h195 => ?_)
                                  · -- 195T
                                    refine WQ.val (v_move rfl rfl) (.some rfl rfl rfl) rfl rfl ?_
                                    refine WQ.val (v_fieldAddr0 rfl rfl fld_40_0) (.some rfl rfl rfl) rfl rfl ?_
                                    refine WQ.val (v_load1 rfl rfl one_3 (cellAt rfl)) (.some rfl rfl rfl) rfl rfl ?_
                                    refine WQ.val (v_move rfl rfl) (.some rfl rfl rfl) rfl rfl ?_
                                    refine WQ.val (v_move rfl rfl) (.some rfl rfl rfl) rfl rfl ?_
                                    refine WQ.val (v_indexAddr (lo := ff.toNat) rfl rfl rfl Try.underlying36 sz_40 (by omega) (by have := hfn (by omega); omega)) (.some rfl rfl rfl) rfl rfl ?_
                                    refine WQ.val (v_fieldAddr rfl rfl fld_40_0) (.some rfl rfl rfl) rfl rfl ?_
                                    refine WQ.val (v_load1 rfl rfl one_3 (cellAt (by rw [Nat.zero_add]; exact (cells2_get (by have := hfn (by omega); omega) r).1))) (.some rfl rfl rfl) rfl rfl ?_
                                    refine WQ.test (v_lss rfl rfl rfl) (.some rfl rfl rfl) rfl rfl (fun h204 => ?_) (fun h204 => ?_)
                                    · -- 204T
                                      refine WQ.val (v_pick_t rfl rfl rfl) (.some rfl rfl rfl) rfl rfl ?_
                                      refine WQ.val (v_pick_f rfl rfl rfl) (.some rfl rfl rfl) rfl rfl ?_
                                      refine WQ.val (v_pick_t rfl rfl rfl) (.none rfl) rfl rfl ?_
                                      refine WQ.nil ?_
                                      refine WE.then_n ?_
                                      refine WC.cond_t rfl ?_
                                      refine WC.region ?_
                                      refine WL.val (v_move rfl rfl) (.none rfl) rfl rfl ?_
                                      refine WL.val (v_assign rfl rfl) (.none rfl) rfl rfl ?_
                                      refine WL.nil ?_
                                      refine WE.block_n ?_
                                      refine WE.then_n ?_
                                      refine WC.region ?_
                                      refine WL.val (v_add rfl rfl rfl (w_i64 (by omega) (by omega))) (.none rfl) rfl rfl ?_
                                      refine WL.val (v_move rfl rfl) (.none rfl) rfl rfl ?_
                                      refine WL.nil ?_
                                      exact WE.next (j + 1, (j : Int)) (by dsimp only; omega) ⟨by dsimp only; omega, hf.take h173 (.inr (.inr ⟨h195, h204⟩))⟩ (.int rfl (by dsimp only; omega) (.cons rfl (.cons rfl (.cons rfl (.cons rfl (.cons rfl (.cons rfl (.cons rfl (.cons rfl (.cons rfl (.cons rfl .nil))))))))))) (.cons _ (.refl _))
                                    · -- 204F
                                      refine WQ.val (v_pick_t rfl rfl rfl) (.some rfl rfl rfl) rfl rfl ?_
                                      refine WQ.val (v_pick_f rfl rfl rfl) (.some rfl rfl rfl) rfl rfl ?_
                                      refine WQ.val (v_pick_t rfl rfl rfl) (.none rfl) rfl rfl ?_
                                      refine WQ.nil ?_
                                      refine WE.then_n ?_
                                      refine WC.cond_f rfl ?_
                                      refine WC.skip ?_
                                      refine WE.block_n ?_
                                      refine WE.then_n ?_
                                      refine WC.region ?_
                                      refine WL.val (v_add rfl rfl rfl (w_i64 (by omega) (by omega))) (.none rfl) rfl rfl ?_
                                      refine WL.val (v_move rfl rfl) (.none rfl) rfl rfl ?_
                                      refine WL.nil ?_
                                      exact WE.next (j + 1, ff) (by dsimp only; omega) ⟨by dsimp only; omega, hf.keep (.inr ⟨by omega, by unfold ltp; omega⟩)⟩ (.int rfl (by dsimp only; omega) (.cons rfl (.cons rfl (.cons rfl (.cons rfl (.cons rfl (.cons rfl (.cons rfl (.cons rfl (.cons rfl (.cons rfl .nil))))))))))) (.cons _ (.refl _))
                                  · -- 195F
                                    refine WQ.val (v_move rfl rfl) (.some rfl rfl rfl) rfl rfl ?_
                                    refine WQ.skip rfl rfl rfl rfl rfl rfl ?_
                                    refine WQ.skip rfl rfl rfl rfl rfl rfl ?_
                                    refine WQ.skip rfl rfl rfl rfl rfl rfl ?_
                                    refine WQ.skip rfl rfl rfl rfl rfl rfl ?_
                                    refine WQ.skip rfl rfl rfl rfl rfl rfl ?_
                                    refine WQ.skip rfl rfl rfl rfl rfl rfl ?_
                                    refine WQ.skip rfl rfl rfl rfl rfl rfl ?_
                                    refine WQ.skip rfl rfl rfl rfl rfl rfl ?_
                                    refine WQ.val (v_pick_f rfl rfl rfl) (.some rfl rfl rfl) rfl rfl ?_
                                    refine WQ.val (v_pick_f rfl rfl rfl) (.some rfl rfl rfl) rfl rfl ?_
                                    refine WQ.val (v_pick_t rfl rfl rfl) (.none rfl) rfl rfl ?_
                                    refine WQ.nil ?_
                                    refine WE.then_n ?_
                                    refine WC.cond_f rfl ?_
                                    refine WC.skip ?_
                                    refine WE.block_n ?_
                                    refine WE.then_n ?_
                                    refine WC.region ?_
                                    refine WL.val (v_add rfl rfl rfl (w_i64 (by omega) (by omega))) (.none rfl) rfl rfl ?_
                                    refine WL.val (v_move rfl rfl) (.none rfl) rfl rfl ?_
                                    refine WL.nil ?_
                                    exact WE.next (j + 1, ff) (by dsimp only; omega) ⟨by dsimp only; omega, hf.keep (.inr ⟨by omega, by unfold ltp; omega⟩)⟩ (.int rfl (by dsimp only; omega) (.cons rfl (.cons rfl (.cons rfl (.cons rfl (.cons rfl (.cons rfl (.cons rfl (.cons rfl (.cons rfl (.cons rfl .nil))))))))))) (.cons _ (.refl _))
                            · -- 173F
                              refine WQ.val (v_move rfl rfl) (.none rfl) rfl rfl ?_
                              refine WQ.skip rfl rfl rfl rfl rfl rfl ?_
                              refine WQ.skip rfl rfl rfl rfl rfl rfl ?_
                              refine WQ.skip rfl rfl rfl rfl rfl rfl ?_
                              refine WQ.skip rfl rfl rfl rfl rfl rfl ?_
                              refine WQ.skip rfl rfl rfl rfl rfl rfl ?_
                              refine WQ.skip rfl rfl rfl rfl rfl rfl ?_
                              refine WQ.skip rfl rfl rfl rfl rfl rfl ?_
                              refine WQ.skip rfl rfl rfl rfl rfl rfl ?_
                              refine WQ.skip rfl rfl rfl rfl rfl rfl ?_
                              refine WQ.skip rfl rfl rfl rfl rfl rfl ?_
                              refine WQ.skip rfl rfl rfl rfl rfl rfl ?_
                              refine WQ.skip rfl rfl rfl rfl rfl rfl ?_
                              refine WQ.skip rfl rfl rfl rfl rfl rfl ?_
                              refine WQ.skip rfl rfl rfl rfl rfl rfl ?_
                              refine WQ.skip rfl rfl rfl rfl rfl rfl ?_
                              refine WQ.skip rfl rfl rfl rfl rfl rfl ?_
                              refine WQ.skip rfl rfl rfl rfl rfl rfl ?_
                              refine WQ.skip rfl rfl rfl rfl rfl rfl ?_
                              refine WQ.skip rfl rfl rfl rfl rfl rfl ?_
                              refine WQ.skip rfl rfl rfl rfl rfl rfl ?_
                              refine WQ.skip rfl rfl rfl rfl rfl rfl ?_
                              refine WQ.skip rfl rfl rfl rfl rfl rfl ?_
                              refine WQ.skip rfl rfl rfl rfl rfl rfl ?_
                              refine WQ.skip rfl rfl rfl rfl rfl rfl ?_
                              refine WQ.skip rfl rfl rfl rfl rfl rfl ?_
                              refine WQ.skip rfl rfl rfl rfl rfl rfl ?_
                              refine WQ.skip rfl rfl rfl rfl rfl rfl ?_
                              refine WQ.skip rfl rfl rfl rfl rfl rfl ?_
                              refine WQ.skip rfl rfl rfl rfl rfl rfl ?_
                              refine WQ.skip rfl rfl rfl rfl rfl rfl ?_
                              refine WQ.skip rfl rfl rfl rfl rfl rfl ?_
                              refine WQ.skip rfl rfl rfl rfl rfl rfl ?_
                              refine WQ.val (v_pick_f rfl rfl rfl) (.none rfl) rfl rfl ?_
                              refine WQ.nil ?_
                              refine WE.then_n ?_
                              refine WC.cond_f rfl ?_
                              refine WC.skip ?_
                              refine WE.block_n ?_
                              refine WE.then_n ?_
                              refine WC.region ?_
                              refine WL.val (v_add rfl rfl rfl (w_i64 (by omega) (by omega))) (.none rfl) rfl rfl ?_
                              refine WL.val (v_move rfl rfl) (.none rfl) rfl rfl ?_
                              refine WL.nil ?_
                              exact WE.next (j + 1, ff) (by dsimp only; omega) ⟨by dsimp only; omega, hf.keep (.inl (by omega))⟩ (.int rfl (by dsimp only; omega) (.cons rfl (.cons rfl (.cons rfl (.cons rfl (.cons rfl (.cons rfl (.cons rfl (.cons rfl (.cons rfl (.cons rfl .nil))))))))))) (.cons _ (.refl _))
                          · -- 166F
                            refine WL.nil ?_
                            refine WE.then_n ?_
                            refine WC.seq ?_
                            refine WC.cond_f rfl ?_
                            refine WC.exit ?_
                            refine WE.then_exit ?_
                            refine WE.then_exit ?_
                            refine WE.block_hit ?_
                            refine WE.then_n ?_
                            refine WC.seq ?_
                            refine WC.region ?_
                            refine WL.val (v_move rfl rfl) (.none rfl) rfl rfl ?_
                            refine WL.val (v_move rfl rfl) (.none rfl) rfl rfl ?_
                            refine WL.call rfl rfl ck_10 (.none rfl) rfl rfl ?_
                            intro w1 hS
                            obtain rfl : j = S.length := (by omega)
                            refine (Next_r (X := .row g7 (opL (f i)) :: E) hS hbg hu0.1 hu0.2 hf).mono ?_
                            rintro e w' ⟨b4, x4, d', S', now', rfl, hb', hbt, hbf, hS'⟩
                            refine ⟨_, .row g7 (opL (f i)) :: (E ++ d'.L gC now' []), rfl, hS', ?_⟩
                            refine WL.val (v_move rfl rfl) (.none rfl) rfl rfl ?_
                            refine WL.val (v_extract rfl rfl rfl) (.none rfl) rfl rfl ?_
                            refine WL.val (v_extract rfl rfl rfl) (.none rfl) rfl rfl ?_
                            cases b4
                            · -- 215F
                              refine WL.val (v_assign rfl rfl) (.none rfl) rfl rfl ?_
                              refine WL.val (v_assign rfl rfl) (.none rfl) rfl rfl ?_
                              refine WL.nil ?_
                              refine WE.then_n ?_
                              refine WC.seq ?_
                              refine WC.seq ?_
                              refine WC.region ?_
                              refine WL.val (v_move rfl rfl) (.none rfl) rfl rfl ?_
                              refine WL.val (v_move rfl rfl) (.none rfl) rfl rfl ?_
                              refine WL.val (v_geq rfl rfl rfl) (.none rfl) rfl rfl ?_
                              refine WL.val ((v_neq_bool rfl rfl rfl Try.underlying4).f (by simp [(hbf rfl).1])) (.none rfl) rfl rfl ?_
                              refine WL.nil ?_
                              refine WE.then_n ?_
                              refine WC.cond_f rfl ?_
                              refine WC.skip ?_
                              refine WE.then_n ?_
                              refine WC.seq ?_
                              refine WC.seq ?_
                              refine WC.region ?_
                              refine WL.val (v_move rfl rfl) (.none rfl) rfl rfl ?_
                              refine WL.val (v_not rfl rfl rfl) (.none rfl) rfl rfl ?_
                              refine WL.nil ?_
                              refine WE.then_n ?_
                              refine WC.cond_t rfl ?_
                              refine WC.seq ?_
                              refine WC.region ?_
                              refine WL.val (v_move rfl rfl) (.none rfl) rfl rfl ?_
                              refine WL.val (v_assign rfl rfl) (.none rfl) rfl rfl ?_
                              refine WL.nil ?_
                              refine WE.then_n ?_
                              refine WC.seq ?_
                              refine WC.seq ?_
                              refine WC.region ?_
                              refine WL.val (v_move rfl rfl) (.none rfl) rfl rfl ?_
                              refine WL.val ((v_neq rfl rfl rfl).f (fun h => h (hbf rfl).2.1)) (.none rfl) rfl rfl ?_
                              refine WL.nil ?_
                              refine WE.then_n ?_
                              refine WC.cond_f rfl ?_
                              refine WC.skip ?_
                              refine WE.then_n ?_
                              refine WC.exit ?_
                              refine WE.then_exit ?_
                              refine WE.block_hit ?_
                              obtain ⟨_, _, e1, e2⟩ := hbf rfl
                              subst e1 e2
                              exact WE.mid ⟨i, now', d', S', ad, c, E⟩ ⟨⟨hb', by dsimp only; omega, by dsimp only; omega, by dsimp only; omega, hi, hV, htm⟩, rfl⟩ (.cons rfl (.cons rfl (.cons rfl (.cons rfl (.cons rfl .nil))))) (.cons _ (.refl _))
                            · -- 215T
                              refine WL.val (v_assign rfl rfl) (.none rfl) rfl rfl ?_
                              refine WL.val (v_assign rfl rfl) (.none rfl) rfl rfl ?_
                              refine WL.nil ?_
                              refine WE.then_n ?_
                              refine WC.seq ?_
                              refine WC.seq ?_
                              refine WC.region ?_
                              refine WL.val (v_move rfl rfl) (.none rfl) rfl rfl ?_
                              refine WL.val (v_move rfl rfl) (.none rfl) rfl rfl ?_
                              refine WL.val (v_geq rfl rfl rfl) (.none rfl) rfl rfl ?_
                              refine WL.val ((v_neq_bool rfl rfl rfl Try.underlying4).f (by simp [(hbt rfl).1])) (.none rfl) rfl rfl ?_
                              refine WL.nil ?_
                              refine WE.then_n ?_
                              refine WC.cond_f rfl ?_
                              refine WC.skip ?_
                              refine WE.then_n ?_
                              refine WC.seq ?_
                              refine WC.seq ?_
                              refine WC.region ?_
                              refine WL.val (v_move rfl rfl) (.none rfl) rfl rfl ?_
                              refine WL.val (v_not rfl rfl rfl) (.none rfl) rfl rfl ?_
                              refine WL.nil ?_
                              refine WE.then_n ?_
                              refine WC.cond_f rfl ?_
                              refine WC.skip ?_
                              refine WE.then_n ?_
                              refine WC.seq ?_
                              refine WC.seq ?_
                              refine WC.region ?_
                              refine WL.val (v_move rfl rfl) (.none rfl) rfl rfl ?_
                              obtain ⟨f0, f1, f2, f3, f4, f5⟩ := hbt rfl
                              obtain ⟨ga, r, ea, eE, hrc, hcc⟩ := hV.cells2 (by omega)
                              subst ea eE
                              refine WL.as (L' := .row g7 (opL (f i)) :: .row ga (cells2 S ++ r) :: d'.L gC now' []) rfl ?_
                              refine WL.val (v_move rfl rfl) (.none rfl) rfl rfl ?_
                              refine WL.val (v_move rfl rfl) (.none rfl) rfl rfl ?_
                              refine WL.val (v_indexAddr (lo := ff.toNat) rfl rfl rfl Try.underlying36 sz_40 (by omega) (by omega)) (.none rfl) rfl rfl ?_
                              refine WL.val (v_fieldAddr rfl rfl fld_40_0) (.none rfl) rfl rfl ?_
                              refine WL.val (v_load1 rfl rfl one_3 (cellAt (by rw [Nat.zero_add]; exact (cells2_get f1 r).1))) (.none rfl) rfl rfl ?_
                              refine WL.val ((v_neq rfl rfl rfl).f (fun h => h f2)) (.none rfl) rfl rfl ?_
                              refine WL.nil ?_
                              refine WE.then_n ?_
                              refine WC.cond_f rfl ?_
                              refine WC.skip ?_
                              refine WE.then_n ?_
                              refine WC.seq ?_
                              refine WC.region ?_
                              refine WL.val (v_move rfl rfl) (.none rfl) rfl rfl ?_
                              refine WL.val (v_move rfl rfl) (.none rfl) rfl rfl ?_
                              refine WL.val (v_indexAddr (lo := ff.toNat) rfl rfl rfl Try.underlying36 sz_40 (by omega) (by omega)) (.none rfl) rfl rfl ?_
                              refine WL.val (v_fieldAddr rfl rfl fld_40_1) (.none rfl) rfl rfl ?_
                              refine WL.val (v_load1 rfl rfl one_3 (cellAt (by rw [Nat.zero_add]; exact (cells2_get f1 r).2))) (.none rfl) rfl rfl ?_
                              refine WL.val (v_assign rfl rfl) (.none rfl) rfl rfl ?_
                              refine WL.nil ?_
                              refine WE.then_n ?_
                              refine WC.orders mixed ?_
                              refine WR.first (g := 4) [1, 2, 3, 5, 6, 7, 8] (by kernel_rfl) (by kernel_rfl) ?_
                              refine WP.val (v_move rfl rfl) (.none rfl) rfl rfl ?_
                              subst f5
                              refine WP.val (v_move rfl rfl) (.none rfl) rfl rfl ?_
                              refine WP.val (v_slice_hi (hi := ff.toNat) rfl rfl rfl Try.underlying36 sz_40 (by omega) (by omega)) (.none rfl) rfl rfl ?_
                              refine WP.val (v_move rfl rfl) (.none rfl) rfl rfl ?_
                              refine WP.val (v_move rfl rfl) (.none rfl) rfl rfl ?_
                              refine WP.val (v_add rfl rfl rfl (w_i64 (by omega) (by omega))) (.none rfl) rfl rfl ?_
                              refine WP.val (v_slice_lo (lo := ff.toNat + 1) rfl rfl rfl Try.underlying36 sz_40 (by omega) (by omega)) (.none rfl) rfl rfl ?_
                              refine WP.nil ?_
                              refine WR.ones (g := 1) [0, 4, 9] (by kernel_rfl) ?_
                              refine WL.buildSlice rfl rfl Try.underlying36 sz_40 zero_40 rfl (by decide) rfl (.none rfl) rfl rfl ?_
                              intro g237 hg237
                              refine WL.as (L' := .row g237 [] :: .row g7 (opL (f i)) :: .row ga (cells2 S ++ r) :: d'.L gC now' []) rfl ?_
                              refine WL.appendL rfl rfl rfl Try.underlying36 Try.underlying36 sz_40 by_40 zero_40 rfl rfl (E := [.row g237 []]) (Vec.row (k := 0) (s := 2) (c := 0) rfl rfl (by omega)) (new := cells2 (S.take ff.toNat)) (fun _ => ⟨ga, 0, rfl, segAt (g := ga) (cells2_seg0 (by omega) r)⟩) (by rw [cells2_len, List.length_take]; omega) (cells2_one _) (by omega) (.none rfl) rfl rfl ?_
                              intro ad241 c241 E241 hV241 hr241
                              refine WL.appendL rfl rfl rfl Try.underlying36 Try.underlying36 sz_40 by_40 zero_40 rfl rfl hV241 (new := cells2 (S.drop (ff.toNat + 1))) (fun h => ⟨ga, _, rfl, by rw [show sAddr 0 (ff.toNat + 1) c 2 = (ff.toNat + 1) * 2 by unfold sAddr; rw [if_neg (by omega)]; omega]; exact segAt (g := ga) (cells2_seg1 (by omega) r)⟩) (by rw [cells2_len, List.length_drop]) (cells2_one _) (by omega) (.none rfl) rfl rfl ?_
                              intro ad246 c246 E246 hV246 hr246
                              refine WL.nilR ?_
                              refine WR.first (g := 0) [10] (by kernel_rfl) (by kernel_rfl) ?_
                              refine WP.val (v_assign rfl rfl) (.none rfl) rfl rfl ?_
                              refine WP.nil ?_
                              refine WR.done (by kernel_rfl) ?_
                              refine WE.block_n ?_
                              have ht9 := htm _ (at2_mem f1)
                              subst f3
                              exact WE.mid ⟨i, (at2 S ff.toNat).2, d', S.take ff.toNat ++ S.drop (ff.toNat + 1), ad246, c246, E246⟩ ⟨⟨hb', ht9.1, ht9.2, by dsimp only; rw [len_del f1]; omega, hi, by dsimp only; rw [len_del f1, cells2_append]; exact hV246, tm_del htm⟩, rfl⟩ (.cons rfl (.cons rfl (.eq rfl (by dsimp only; rw [len_del f1]) (.cons rfl (.cons rfl .nil))))) (List.Sublist.append_left (.cons _ (.cons _ (.refl _))) _)
                      · -- 159F
                        refine WC.skip ?_
                        refine WE.then_n ?_
                        refine WC.cut (fun u : Int => [(8, .int .i64 u), (7, .pointer (some ⟨g7, 0, none⟩)), (3, .pointer (some ⟨gC, 0, none⟩)), (4, .int .i64 now), (5, .slice ad S.length c), (6, .int .i64 i), (0, .slice a n cap)]) (fun _ => .row g7 (opL (f i)) :: (E ++ d.L gC now [])) (fun u => u = clip t now) ?_ ?_
                        · -- cut162
                          refine WC.seq ?_
                          refine WC.region ?_
                          refine WL.val (v_move rfl rfl) (.none rfl) rfl rfl ?_
                          refine WL.val (v_gtr rfl rfl rfl) (.none rfl) rfl rfl ?_
                          refine WL.nil ?_
                          refine WE.then_n ?_
                          refine WC.cond_d rfl (fun h162 => ?_) (fun h162 => ?_)
                          · -- 162T
                            refine WC.region ?_
                            refine WL.val (v_assign rfl rfl) (.none rfl) rfl rfl ?_
                            refine WL.nil ?_
                            exact WE.mid _ (by unfold clip; omega) (.cons rfl (.cons rfl (.cons rfl (.cons rfl (.cons rfl (.cons rfl (.cons rfl .nil))))))) (.refl _)
                          · -- 162F
                            refine WC.skip ?_
                            exact WE.mid _ (by unfold clip; omega) (.cons rfl (.cons rfl (.cons rfl (.cons rfl (.cons rfl (.cons rfl (.cons rfl .nil))))))) (.refl _)
                        · -- behind cut162
                          intro u hu
                          have hu0 : now ≤ u ∧ u ≤ 1073741824 := (by rw [hu]; unfold clip; omega)
                          refine WC.seq ?_
                          refine WC.region ?_
                          refine WL.val (v_assign rfl rfl) (.none rfl) rfl rfl ?_
                          refine WL.nil ?_
                          refine WE.then_n ?_
                          refine WC.seq ?_
                          refine WC.seq ?_
                          refine WC.region ?_
                          refine WL.val (v_move rfl rfl) (.none rfl) rfl rfl ?_
                          refine WL.val (v_len_slice rfl rfl Try.underlying36) (.none rfl) rfl rfl ?_
                          refine WL.val (v_move rfl rfl) (.none rfl) rfl rfl ?_
                          refine WL.nil ?_
                          refine WE.then_n ?_
                          refine WC.block ?_
                          refine WC.loop (fun x : Nat × Int => [(165, .int .i64 x.1), (164, .int .i64 S.length), (163, .slice ad S.length c), (15, .int .i64 x.2), (8, .int .i64 u), (7, .pointer (some ⟨g7, 0, none⟩)), (3, .pointer (some ⟨gC, 0, none⟩)), (4, .int .i64 now), (5, .slice ad S.length c), (6, .int .i64 i), (0, .slice a n cap)]) (fun _ => .row g7 (opL (f i)) :: (E ++ d.L gC now [])) (fun x => x.1 ≤ S.length ∧ FInv S u x.1 x.2) (fun x => S.length - x.1) (0, -1) ⟨Nat.zero_le _, .inl ⟨rfl, fun t ht => absurd ht (by dsimp only; omega)⟩⟩ (.cons rfl (.cons rfl (.cons rfl (.cons rfl (.cons rfl (.cons rfl (.cons rfl (.cons rfl (.cons rfl (.cons rfl (.cons rfl .nil))))))))))) (.refl _) ?_
                          rintro ⟨j, ff⟩ ⟨hj, hf⟩
                          dsimp only at hj hf
                          dsimp only
                          have hfn : 0 ≤ ff → ff.toNat < j := (by rcases hf with ⟨h, _⟩ | ⟨_, h, _⟩; omega; exact fun _ => h)
                          refine WC.seq ?_
                          refine WC.region ?_
                          refine WL.test (v_lss rfl rfl rfl) (.none rfl) rfl rfl (fun h166 => ?_) (fun h166 => ?_)
                          · -- 166T
                            refine WL.nil ?_
                            refine WE.then_n ?_
                            refine WC.seq ?_
                            refine WC.cond_t rfl ?_
                            refine WC.skip ?_
                            refine WE.then_n ?_
                            refine WC.seq ?_
                            refine WC.block ?_
                            refine WC.seq ?_
                            refine WC.region ?_
                            refine WL.val (v_move rfl rfl) (.none rfl) rfl rfl ?_
                            obtain ⟨ga, r, ea, eE, hrc, hcc⟩ := hV.cells2 (by omega)
                            subst ea eE
                            refine WL.as (L' := .row g7 (opL (f i)) :: .row ga (cells2 S ++ r) :: d.L gC now []) rfl ?_
                            refine WL.val (v_indexAddr (lo := j) rfl rfl rfl Try.underlying36 sz_40 (by omega) (by omega)) (.none rfl) rfl rfl ?_
                            refine WL.val (v_loadN (cs := [.int .i64 (at2 S j).1, .int .i64 (at2 S j).2]) rfl rfl many_40 rfl (fun w hS q v hq => by
                            have h1 := cells2_get (S := S) (i := j) (by omega) r
                            match q, hq with
                            | 0, hq => simp only [List.getElem?_cons_zero, Option.some.injEq] at hq; subst hq; rw [Nat.zero_add]; exact hS.cell (g := ga) h1.1
                            | 1, hq => simp only [List.getElem?_cons_succ, List.getElem?_cons_zero, Option.some.injEq] at hq; subst hq; rw [Nat.zero_add]; exact hS.cell (g := ga) h1.2
                            | q + 2, hq => simp at hq)) (.none rfl) rfl rfl ?_
                            refine WL.alloc rfl zero_40 (.none rfl) rfl rfl ?_
                            intro g17 hg17
                            refine WL.val (v_assign rfl rfl) (.none rfl) rfl rfl ?_
                            refine WL.storeW rfl rfl rfl rfl many_40 rfl rfl (.none rfl) rfl ?_
                            refine WL.nil ?_
                            refine WE.then_n ?_
                            refine WC.seq ?_
                            refine WC.quiet mixed (by kernel_rfl) ?_
                            refine WQ.val (v_fieldAddr0 rfl rfl fld_40_1) (.none rfl) rfl rfl ?_
                            refine WQ.val (v_load1 rfl rfl one_3 (cellAt rfl)) (.none rfl) rfl rfl ?_
                            refine WQ.val (v_move rfl rfl) (.none rfl) rfl rfl ?_
                            refine WQ.test (v_leq rfl rfl rfl) (.none rfl) rfl rfl (fun h173 => ?_) (fun h173 => ?_)
                            · -- 173T
                              refine WQ.val (v_move rfl rfl) (.none rfl) rfl rfl ?_
                              refine WQ.val (v_move rfl rfl) (.some rfl rfl rfl) rfl rfl ?_
                              refine WQ.test (v_lss rfl rfl rfl) (.some rfl rfl rfl) rfl rfl (fun h176 => ?_) (fun h176 => ?_)
                              · -- 176T
                                refine WQ.val (v_move rfl rfl) (.some rfl rfl rfl) rfl rfl ?_
                                refine WQ.skip rfl rfl rfl rfl rfl rfl ?_
                                refine WQ.skip rfl rfl rfl rfl rfl rfl ?_
                                refine WQ.skip rfl rfl rfl rfl rfl rfl ?_
                                refine WQ.skip rfl rfl rfl rfl rfl rfl ?_
                                refine WQ.skip rfl rfl rfl rfl rfl rfl ?_
                                refine WQ.skip rfl rfl rfl rfl rfl rfl ?_
                                refine WQ.skip rfl rfl rfl rfl rfl rfl ?_
                                refine WQ.skip rfl rfl rfl rfl rfl rfl ?_
                                refine WQ.val (v_pick_t rfl rfl rfl) (.some rfl rfl rfl) rfl rfl ?_
                                refine WQ.val (v_move rfl rfl) (.some rfl rfl rfl) rfl rfl ?_
                                refine WQ.skip rfl rfl rfl rfl rfl rfl ?_
                                refine WQ.skip rfl rfl rfl rfl rfl rfl ?_
                                refine WQ.skip rfl rfl rfl rfl rfl rfl ?_
                                refine WQ.skip rfl rfl rfl rfl rfl rfl ?_
                                refine WQ.skip rfl rfl rfl rfl rfl rfl ?_
                                refine WQ.skip rfl rfl rfl rfl rfl rfl ?_
                                refine WQ.skip rfl rfl rfl rfl rfl rfl ?_
                                refine WQ.skip rfl rfl rfl rfl rfl rfl ?_
                                refine WQ.skip rfl rfl rfl rfl rfl rfl ?_
                                refine WQ.skip rfl rfl rfl rfl rfl rfl ?_
                                refine WQ.skip rfl rfl rfl rfl rfl rfl ?_
                                refine WQ.skip rfl rfl rfl rfl rfl rfl ?_
                                refine WQ.skip rfl rfl rfl rfl rfl rfl ?_
                                refine WQ.skip rfl rfl rfl rfl rfl rfl ?_
                                refine WQ.skip rfl rfl rfl rfl rfl rfl ?_
                                refine WQ.skip rfl rfl rfl rfl rfl rfl ?_
                                refine WQ.skip rfl rfl rfl rfl rfl rfl ?_
                                refine WQ.skip rfl rfl rfl rfl rfl rfl ?_
                                refine WQ.val (v_pick_t rfl rfl rfl) (.some rfl rfl rfl) rfl rfl ?_
                                refine WQ.val (v_pick_t rfl rfl rfl) (.none rfl) rfl rfl ?_
                                refine WQ.nil ?_
                                refine WE.then_n ?_
                                refine WC.cond_t rfl ?_
                                refine WC.region ?_
                                refine WL.val (v_move rfl rfl) (.none rfl) rfl rfl ?_
                                refine WL.val (v_assign rfl rfl) (.none rfl) rfl rfl ?_
                                refine WL.nil ?_
                                refine WE.block_n ?_
                                refine WE.then_n ?_
                                refine WC.region ?_
                                refine WL.val (v_add rfl rfl rfl (w_i64 (by omega) (by omega))) (.none rfl) rfl rfl ?_
                                refine WL.val (v_move rfl rfl) (.none rfl) rfl rfl ?_
                                refine WL.nil ?_
                                exact WE.next (j + 1, (j : Int)) (by dsimp only; omega) ⟨by dsimp only; omega, hf.take h173 (.inl h176)⟩ (.int rfl (by dsimp only; omega) (.cons rfl (.cons rfl (.cons rfl (.cons rfl (.cons rfl (.cons rfl (.cons rfl (.cons rfl (.cons rfl (.cons rfl .nil))))))))))) (.cons _ (.refl _))
                              · -- 176F
                                refine WQ.val (v_move rfl rfl) (.some rfl rfl rfl) rfl rfl ?_
                                refine WQ.val (v_fieldAddr0 rfl rfl fld_40_1) (.some rfl rfl rfl) rfl rfl ?_
                                refine WQ.val (v_load1 rfl rfl one_3 (cellAt rfl)) (.some rfl rfl rfl) rfl rfl ?_
                                refine WQ.val (v_move rfl rfl) (.some rfl rfl rfl) rfl rfl ?_
                                refine WQ.val (v_move rfl rfl) (.some rfl rfl rfl) rfl rfl ?_
                                refine WQ.val (v_indexAddr (lo := ff.toNat) rfl rfl rfl Try.underlying36 sz_40 (by omega) (by have := hfn (by omega); omega)) (.some rfl rfl rfl) rfl rfl ?_
                                refine WQ.val (v_fieldAddr rfl rfl fld_40_1) (.some rfl rfl rfl) rfl rfl ?_
                                refine WQ.val (v_load1 rfl rfl one_3 (cellAt (by rw [Nat.zero_add]; exact (cells2_get (by have := hfn (by omega); omega) r).2))) (.some rfl rfl rfl) rfl rfl ?_
                                refine WQ.test (v_lss rfl rfl rfl) (.some rfl rfl rfl) rfl rfl (fun h185 => ?_) (fun h185 => ?_)
                                · -- 185T
                                  refine WQ.val (v_pick_f rfl rfl rfl) (.some rfl rfl rfl) rfl rfl ?_
                                  refine WQ.val (v_move rfl rfl) (.some rfl rfl rfl) rfl rfl ?_
                                  refine WQ.skip rfl rfl rfl rfl rfl rfl ?_
                                  refine WQ.skip rfl rfl rfl rfl rfl rfl ?_
                                  refine WQ.skip rfl rfl rfl rfl rfl rfl ?_
                                  refine WQ.skip rfl rfl rfl rfl rfl rfl ?_
                                  refine WQ.skip rfl rfl rfl rfl rfl rfl ?_
                                  refine WQ.skip rfl rfl rfl rfl rfl rfl ?_
                                  refine WQ.skip rfl rfl rfl rfl rfl rfl ?_
                                  refine WQ.skip rfl rfl rfl rfl rfl rfl ?_
                                  refine WQ.skip rfl rfl rfl rfl rfl rfl ?_
                                  refine WQ.skip rfl rfl rfl rfl rfl rfl ?_
                                  refine WQ.skip rfl rfl rfl rfl rfl rfl ?_
                                  refine WQ.skip rfl rfl rfl rfl rfl rfl ?_
                                  refine WQ.skip rfl rfl rfl rfl rfl rfl ?_
                                  refine WQ.skip rfl rfl rfl rfl rfl rfl ?_
                                  refine WQ.skip rfl rfl rfl rfl rfl rfl ?_
                                  refine WQ.skip rfl rfl rfl rfl rfl rfl ?_
                                  refine WQ.skip rfl rfl rfl rfl rfl rfl ?_
                                  refine WQ.skip rfl rfl rfl rfl rfl rfl ?_
                                  refine WQ.val (v_pick_t rfl rfl rfl) (.some rfl rfl rfl) rfl rfl ?_
                                  refine WQ.val (v_pick_t rfl rfl rfl) (.none rfl) rfl rfl ?_
                                  refine WQ.nil ?_
                                  refine WE.then_n ?_
                                  refine WC.cond_t rfl ?_
                                  refine WC.region ?_
                                  refine WL.val (v_move rfl rfl) (.none rfl) rfl rfl ?_
                                  refine WL.val (v_assign rfl rfl) (.none rfl) rfl rfl ?_
                                  refine WL.nil ?_
                                  refine WE.block_n ?_
                                  refine WE.then_n ?_
                                  refine WC.region ?_
                                  refine WL.val (v_add rfl rfl rfl (w_i64 (by omega) (by omega))) (.none rfl) rfl rfl ?_
                                  refine WL.val (v_move rfl rfl) (.none rfl) rfl rfl ?_
                                  refine WL.nil ?_
                                  exact WE.next (j + 1, (j : Int)) (by dsimp only; omega) ⟨by dsimp only; omega, hf.take h173 (.inr (.inl h185))⟩ (.int rfl (by dsimp only; omega) (.cons rfl (.cons rfl (.cons rfl (.cons rfl (.cons rfl (.cons rfl (.cons rfl (.cons rfl (.cons rfl (.cons rfl .nil))))))))))) (.cons _ (.refl _))
                                · -- 185F
                                  refine WQ.val (v_pick_f rfl rfl rfl) (.some rfl rfl rfl) rfl rfl ?_
                                  refine WQ.val (v_move rfl rfl) (.some rfl rfl rfl) rfl rfl ?_
                                  refine WQ.val (v_fieldAddr0 rfl rfl fld_40_1) (.some rfl rfl rfl) rfl rfl ?_
                                  refine WQ.val (v_load1 rfl rfl one_3 (cellAt rfl)) (.some rfl rfl rfl) rfl rfl ?_
                                  refine WQ.val (v_move rfl rfl) (.some rfl rfl rfl) rfl rfl ?_
                                  refine WQ.val (v_move rfl rfl) (.some rfl rfl rfl) rfl rfl ?_
                                  refine WQ.val (v_indexAddr (lo := ff.toNat) rfl rfl rfl Try.underlying36 sz_40 (by omega) (by have := hfn (by omega); omega)) (.some rfl rfl rfl) rfl rfl ?_
                                  refine WQ.val (v_fieldAddr rfl rfl fld_40_1) (.some rfl rfl rfl) rfl rfl ?_
                                  refine WQ.val (v_load1 rfl rfl one_3 (cellAt (by rw [Nat.zero_add]; exact (cells2_get (by have := hfn (by omega); omega) r).2))) (.some rfl rfl rfl) rfl rfl ?_
                                  refine WQ.test (v_eql rfl rfl rfl) (.some rfl rfl rfl) rfl rfl (fun h195 => ?_) (fun h195 => ?_)
                                  · -- 195T
                                    refine WQ.val (v_move rfl rfl) (.some rfl rfl rfl) rfl rfl ?_
                                    refine WQ.val (v_fieldAddr0 rfl rfl fld_40_0) (.some rfl rfl rfl) rfl rfl ?_
                                    refine WQ.val (v_load1 rfl rfl one_3 (cellAt rfl)) (.some rfl rfl rfl) rfl rfl ?_
                                    refine WQ.val (v_move rfl rfl) (.some rfl rfl rfl) rfl rfl ?_
                                    refine WQ.val (v_move rfl rfl) (.some rfl rfl rfl) rfl rfl ?_
                                    refine WQ.val (v_indexAddr (lo := ff.toNat) rfl rfl rfl Try.underlying36 sz_40 (by omega) (by have := hfn (by omega); omega)) (.some rfl rfl rfl) rfl rfl ?_
                                    refine WQ.val (v_fieldAddr rfl rfl fld_40_0) (.some rfl rfl rfl) rfl rfl ?_
                                    refine WQ.val (v_load1 rfl rfl one_3 (cellAt (by rw [Nat.zero_add]; exact (cells2_get (by have := hfn (by omega); omega) r).1))) (.some rfl rfl rfl) rfl rfl ?_
                                    refine WQ.test (v_lss rfl rfl rfl) (.some rfl rfl rfl) rfl rfl (fun h204 => ?_) (fun h204 => ?_)
                                    · -- 204T
                                      refine WQ.val (v_pick_t rfl rfl rfl) (.some rfl rfl rfl) rfl rfl ?_
                                      refine WQ.val (v_pick_f rfl rfl rfl) (.some rfl rfl rfl) rfl rfl ?_
                                      refine WQ.val (v_pick_t rfl rfl rfl) (.none rfl) rfl rfl ?_
                                      refine WQ.nil ?_
                                      refine WE.then_n ?_
                                      refine WC.cond_t rfl ?_
                                      refine WC.region ?_
                                      refine WL.val (v_move rfl rfl) (.none rfl) rfl rfl ?_
                                      refine WL.val (v_assign rfl rfl) (.none rfl) rfl rfl ?_
                                      refine WL.nil ?_
                                      refine WE.block_n ?_
                                      refine WE.then_n ?_
                                      refine WC.region ?_
                                      refine WL.val (v_add rfl rfl rfl (w_i64 (by omega) (by omega))) (.none rfl) rfl rfl ?_
                                      refine WL.val (v_move rfl rfl) (.none rfl) rfl rfl ?_
                                      refine WL.nil ?_
                                      exact WE.next (j + 1, (j : Int)) (by dsimp only; omega) ⟨by dsimp only; omega, hf.take h173 (.inr (.inr ⟨h195, h204⟩))⟩ (.int rfl (by dsimp only; omega) (.cons rfl (.cons rfl (.cons rfl (.cons rfl (.cons rfl (.cons rfl (.cons rfl (.cons rfl (.cons rfl (.cons rfl .nil))))))))))) (.cons _ (.refl _))
                                    · -- 204F
                                      refine WQ.val (v_pick_t rfl rfl rfl) (.some rfl rfl rfl) rfl rfl ?_
                                      refine WQ.val (v_pick_f rfl rfl rfl) (.some rfl rfl rfl) rfl rfl ?_
                                      refine WQ.val (v_pick_t rfl rfl rfl) (.none rfl) rfl rfl ?_
                                      refine WQ.nil ?_
                                      refine WE.then_n ?_
                                      refine WC.cond_f rfl ?_
                                      refine WC.skip ?_
                                      refine WE.block_n ?_
                                      refine WE.then_n ?_
                                      refine WC.region ?_
                                      refine WL.val (v_add rfl rfl rfl (w_i64 (by omega) (by omega))) (.none rfl) rfl rfl ?_
                                      refine WL.val (v_move rfl rfl) (.none rfl) rfl rfl ?_
                                      refine WL.nil ?_
                                      exact WE.next (j + 1, ff) (by dsimp only; omega) ⟨by dsimp only; omega, hf.keep (.inr ⟨by omega, by unfold ltp; omega⟩)⟩ (.int rfl (by dsimp only; omega) (.cons rfl (.cons rfl (.cons rfl (.cons rfl (.cons rfl (.cons rfl (.cons rfl (.cons rfl (.cons rfl (.cons rfl .nil))))))))))) (.cons _ (.refl _))
                                  · -- 195F
                                    refine WQ.val (v_move rfl rfl) (.some rfl rfl rfl) rfl rfl ?_
                                    refine WQ.skip rfl rfl rfl rfl rfl rfl ?_
                                    refine WQ.skip rfl rfl rfl rfl rfl rfl ?_
                                    refine WQ.skip rfl rfl rfl rfl rfl rfl ?_
                                    refine WQ.skip rfl rfl rfl rfl rfl rfl ?_
                                    refine WQ.skip rfl rfl rfl rfl rfl rfl ?_
                                    refine WQ.skip rfl rfl rfl rfl rfl rfl ?_
                                    refine WQ.skip rfl rfl rfl rfl rfl rfl ?_
                                    refine WQ.skip rfl rfl rfl rfl rfl rfl ?_
                                    refine WQ.val (v_pick_f rfl rfl rfl) (.some rfl rfl rfl) rfl rfl ?_
                                    refine WQ.val (v_pick_f rfl rfl rfl) (.some rfl rfl rfl) rfl rfl ?_
                                    refine WQ.val (v_pick_t rfl rfl rfl) (.none rfl) rfl rfl ?_
                                    refine WQ.nil ?_
                                    refine WE.then_n ?_
                                    refine WC.cond_f rfl ?_
                                    refine WC.skip ?_
                                    refine WE.block_n ?_
                                    refine WE.then_n ?_
                                    refine WC.region ?_
                                    refine WL.val (v_add rfl rfl rfl (w_i64 (by omega) (by omega))) (.none rfl) rfl rfl ?_
                                    refine WL.val (v_move rfl rfl) (.none rfl) rfl rfl ?_
                                    refine WL.nil ?_
                                    exact WE.next (j + 1, ff) (by dsimp only; omega) ⟨by dsimp only; omega, hf.keep (.inr ⟨by omega, by unfold ltp; omega⟩)⟩ (.int rfl (by dsimp only; omega) (.cons rfl (.cons rfl (.cons rfl (.cons rfl (.cons rfl (.cons rfl (.cons rfl (.cons rfl (.cons rfl (.cons rfl .nil))))))))))) (.cons _ (.refl _))
                            · -- 173F
                              refine WQ.val (v_move rfl rfl) (.none rfl) rfl rfl ?_
                              refine WQ.skip rfl rfl rfl rfl rfl rfl ?_
                              refine WQ.skip rfl rfl rfl rfl rfl rfl ?_
                              refine WQ.skip rfl rfl rfl rfl rfl rfl ?_
                              refine WQ.skip rfl rfl rfl rfl rfl rfl ?_
                              refine WQ.skip rfl rfl rfl rfl rfl rfl ?_
                              refine WQ.skip rfl rfl rfl rfl rfl rfl ?_
                              refine WQ.skip rfl rfl rfl rfl rfl rfl ?_
                              refine WQ.skip rfl rfl rfl rfl rfl rfl ?_
                              refine WQ.skip rfl rfl rfl rfl rfl rfl ?_
                              refine WQ.skip rfl rfl rfl rfl rfl rfl ?_
                              refine WQ.skip rfl rfl rfl rfl rfl rfl ?_
                              refine WQ.skip rfl rfl rfl rfl rfl rfl ?_
                              refine WQ.skip rfl rfl rfl rfl rfl rfl ?_
                              refine WQ.skip rfl rfl rfl rfl rfl rfl ?_
                              refine WQ.skip rfl rfl rfl rfl rfl rfl ?_
                              refine WQ.skip rfl rfl rfl rfl rfl rfl ?_
                              refine WQ.skip rfl rfl rfl rfl rfl rfl ?_
                              refine WQ.skip rfl rfl rfl rfl rfl rfl ?_
                              refine WQ.skip rfl rfl rfl rfl rfl rfl ?_
                              refine WQ.skip rfl rfl rfl rfl rfl rfl ?_
                              refine WQ.skip rfl rfl rfl rfl rfl rfl ?_
                              refine WQ.skip rfl rfl rfl rfl rfl rfl ?_
                              refine WQ.skip rfl rfl rfl rfl rfl rfl ?_
                              refine WQ.skip rfl rfl rfl rfl rfl rfl ?_
                              refine WQ.skip rfl rfl rfl rfl rfl rfl ?_
                              refine WQ.skip rfl rfl rfl rfl rfl rfl ?_
                              refine WQ.skip rfl rfl rfl rfl rfl rfl ?_
                              refine WQ.skip rfl rfl rfl rfl rfl rfl ?_
                              refine WQ.skip rfl rfl rfl rfl rfl rfl ?_
                              refine WQ.skip rfl rfl rfl rfl rfl rfl ?_
                              refine WQ.skip rfl rfl rfl rfl rfl rfl ?_
                              refine WQ.skip rfl rfl rfl rfl rfl rfl ?_
                              refine WQ.val (v_pick_f rfl rfl rfl) (.none rfl) rfl rfl ?_
                              refine WQ.nil ?_
                              refine WE.then_n ?_
                              refine WC.cond_f rfl ?_
                              refine WC.skip ?_
                              refine WE.block_n ?_
                              refine WE.then_n ?_
                              refine WC.region ?_
                              refine WL.val (v_add rfl rfl rfl (w_i64 (by omega) (by omega))) (.none rfl) rfl rfl ?_
                              refine WL.val (v_move rfl rfl) (.none rfl) rfl rfl ?_
                              refine WL.nil ?_
                              exact WE.next (j + 1, ff) (by dsimp only; omega) ⟨by dsimp only; omega, hf.keep (.inl (by omega))⟩ (.int rfl (by dsimp only; omega) (.cons rfl (.cons rfl (.cons rfl (.cons rfl (.cons rfl (.cons rfl (.cons rfl (.cons rfl (.cons rfl (.cons rfl .nil))))))))))) (.cons _ (.refl _))
                          · -- 166F
                            refine WL.nil ?_
                            refine WE.then_n ?_
                            refine WC.seq ?_
                            refine WC.cond_f rfl ?_
                            refine WC.exit ?_
                            refine WE.then_exit ?_
                            refine WE.then_exit ?_
                            refine WE.block_hit ?_
                            refine WE.then_n ?_
                            refine WC.seq ?_
                            refine WC.region ?_
                            refine WL.val (v_move rfl rfl) (.none rfl) rfl rfl ?_
                            refine WL.val (v_move rfl rfl) (.none rfl) rfl rfl ?_
                            refine WL.call rfl rfl ck_10 (.none rfl) rfl rfl ?_
                            intro w1 hS
                            obtain rfl : j = S.length := (by omega)
                            refine (Next_r (X := .row g7 (opL (f i)) :: E) hS hbg hu0.1 hu0.2 hf).mono ?_
                            rintro e w' ⟨b4, x4, d', S', now', rfl, hb', hbt, hbf, hS'⟩
                            refine ⟨_, .row g7 (opL (f i)) :: (E ++ d'.L gC now' []), rfl, hS', ?_⟩
                            refine WL.val (v_move rfl rfl) (.none rfl) rfl rfl ?_
                            refine WL.val (v_extract rfl rfl rfl) (.none rfl) rfl rfl ?_
                            refine WL.val (v_extract rfl rfl rfl) (.none rfl) rfl rfl ?_
                            cases b4
                            · -- 215F
                              refine WL.val (v_assign rfl rfl) (.none rfl) rfl rfl ?_
                              refine WL.val (v_assign rfl rfl) (.none rfl) rfl rfl ?_
                              refine WL.nil ?_
                              refine WE.then_n ?_
                              refine WC.seq ?_
                              refine WC.seq ?_
                              refine WC.region ?_
                              refine WL.val (v_move rfl rfl) (.none rfl) rfl rfl ?_
                              refine WL.val (v_move rfl rfl) (.none rfl) rfl rfl ?_
                              refine WL.val (v_geq rfl rfl rfl) (.none rfl) rfl rfl ?_
                              refine WL.val ((v_neq_bool rfl rfl rfl Try.underlying4).f (by simp [(hbf rfl).1])) (.none rfl) rfl rfl ?_
                              refine WL.nil ?_
                              refine WE.then_n ?_
                              refine WC.cond_f rfl ?_
                              refine WC.skip ?_
                              refine WE.then_n ?_
                              refine WC.seq ?_
                              refine WC.seq ?_
                              refine WC.region ?_
                              refine WL.val (v_move rfl rfl) (.none rfl) rfl rfl ?_
                              refine WL.val (v_not rfl rfl rfl) (.none rfl) rfl rfl ?_
                              refine WL.nil ?_
                              refine WE.then_n ?_
                              refine WC.cond_t rfl ?_
                              refine WC.seq ?_
                              refine WC.region ?_
                              refine WL.val (v_move rfl rfl) (.none rfl) rfl rfl ?_
                              refine WL.val (v_assign rfl rfl) (.none rfl) rfl rfl ?_
                              refine WL.nil ?_
                              refine WE.then_n ?_
                              refine WC.seq ?_
                              refine WC.seq ?_
                              refine WC.region ?_
                              refine WL.val (v_move rfl rfl) (.none rfl) rfl rfl ?_
                              refine WL.val ((v_neq rfl rfl rfl).f (fun h => h (hbf rfl).2.1)) (.none rfl) rfl rfl ?_
                              refine WL.nil ?_
                              refine WE.then_n ?_
                              refine WC.cond_f rfl ?_
                              refine WC.skip ?_
                              refine WE.then_n ?_
                              refine WC.exit ?_
                              refine WE.then_exit ?_
                              refine WE.block_hit ?_
                              obtain ⟨_, _, e1, e2⟩ := hbf rfl
                              subst e1 e2
                              exact WE.mid ⟨i, now', d', S', ad, c, E⟩ ⟨⟨hb', by dsimp only; omega, by dsimp only; omega, by dsimp only; omega, hi, hV, htm⟩, rfl⟩ (.cons rfl (.cons rfl (.cons rfl (.cons rfl (.cons rfl .nil))))) (.cons _ (.refl _))
                            · -- 215T
                              refine WL.val (v_assign rfl rfl) (.none rfl) rfl rfl ?_
                              refine WL.val (v_assign rfl rfl) (.none rfl) rfl rfl ?_
                              refine WL.nil ?_
                              refine WE.then_n ?_
                              refine WC.seq ?_
                              refine WC.seq ?_
                              refine WC.region ?_
                              refine WL.val (v_move rfl rfl) (.none rfl) rfl rfl ?_
                              refine WL.val (v_move rfl rfl) (.none rfl) rfl rfl ?_
                              refine WL.val (v_geq rfl rfl rfl) (.none rfl) rfl rfl ?_
                              refine WL.val ((v_neq_bool rfl rfl rfl Try.underlying4).f (by simp [(hbt rfl).1])) (.none rfl) rfl rfl ?_
                              refine WL.nil ?_
                              refine WE.then_n ?_
                              refine WC.cond_f rfl ?_
                              refine WC.skip ?_
                              refine WE.then_n ?_
                              refine WC.seq ?_
                              refine WC.seq ?_
                              refine WC.region ?_
                              refine WL.val (v_move rfl rfl) (.none rfl) rfl rfl ?_
                              refine WL.val (v_not rfl rfl rfl) (.none rfl) rfl rfl ?_
                              refine WL.nil ?_
                              refine WE.then_n ?_
                              refine WC.cond_f rfl ?_
                              refine WC.skip ?_
                              refine WE.then_n ?_
                              refine WC.seq ?_
                              refine WC.seq ?_
                              refine WC.region ?_
                              refine WL.val (v_move rfl rfl) (.none rfl) rfl rfl ?_
                              obtain ⟨f0, f1, f2, f3, f4, f5⟩ := hbt rfl
                              obtain ⟨ga, r, ea, eE, hrc, hcc⟩ := hV.cells2 (by omega)
                              subst ea eE
                              refine WL.as (L' := .row g7 (opL (f i)) :: .row ga (cells2 S ++ r) :: d'.L gC now' []) rfl ?_
                              refine WL.val (v_move rfl rfl) (.none rfl) rfl rfl ?_
                              refine WL.val (v_move rfl rfl) (.none rfl) rfl rfl ?_
                              refine WL.val (v_indexAddr (lo := ff.toNat) rfl rfl rfl Try.underlying36 sz_40 (by omega) (by omega)) (.none rfl) rfl rfl ?_
                              refine WL.val (v_fieldAddr rfl rfl fld_40_0) (.none rfl) rfl rfl ?_
                              refine WL.val (v_load1 rfl rfl one_3 (cellAt (by rw [Nat.zero_add]; exact (cells2_get f1 r).1))) (.none rfl) rfl rfl ?_
                              refine WL.val ((v_neq rfl rfl rfl).f (fun h => h f2)) (.none rfl) rfl rfl ?_
                              refine WL.nil ?_
                              refine WE.then_n ?_
                              refine WC.cond_f rfl ?_
                              refine WC.skip ?_
                              refine WE.then_n ?_
                              refine WC.seq ?_
                              refine WC.region ?_
                              refine WL.val (v_move rfl rfl) (.none rfl) rfl rfl ?_
                              refine WL.val (v_move rfl rfl) (.none rfl) rfl rfl ?_
                              refine WL.val (v_indexAddr (lo := ff.toNat) rfl rfl rfl Try.underlying36 sz_40 (by omega) (by omega)) (.none rfl) rfl rfl ?_
                              refine WL.val (v_fieldAddr rfl rfl fld_40_1) (.none rfl) rfl rfl ?_
                              refine WL.val (v_load1 rfl rfl one_3 (cellAt (by rw [Nat.zero_add]; exact (cells2_get f1 r).2))) (.none rfl) rfl rfl ?_
                              refine WL.val (v_assign rfl rfl) (.none rfl) rfl rfl ?_
                              refine WL.nil ?_
                              refine WE.then_n ?_
                              refine WC.orders mixed ?_
                              refine WR.first (g := 4) [1, 2, 3, 5, 6, 7, 8] (by kernel_rfl) (by kernel_rfl) ?_
                              refine WP.val (v_move rfl rfl) (.none rfl) rfl rfl ?_
                              subst f5
                              refine WP.val (v_move rfl rfl) (.none rfl) rfl rfl ?_
                              refine WP.val (v_slice_hi (hi := ff.toNat) rfl rfl rfl Try.underlying36 sz_40 (by omega) (by omega)) (.none rfl) rfl rfl ?_
                              refine WP.val (v_move rfl rfl) (.none rfl) rfl rfl ?_
                              refine WP.val (v_move rfl rfl) (.none rfl) rfl rfl ?_
                              refine WP.val (v_add rfl rfl rfl (w_i64 (by omega) (by omega))) (.none rfl) rfl rfl ?_
                              refine WP.val (v_slice_lo (lo := ff.toNat + 1) rfl rfl rfl Try.underlying36 sz_40 (by omega) (by omega)) (.none rfl) rfl rfl ?_
                              refine WP.nil ?_
                              refine WR.ones (g := 1) [0, 4, 9] (by kernel_rfl) ?_
                              refine WL.buildSlice rfl rfl Try.underlying36 sz_40 zero_40 rfl (by decide) rfl (.none rfl) rfl rfl ?_
                              intro g237 hg237
                              refine WL.as (L' := .row g237 [] :: .row g7 (opL (f i)) :: .row ga (cells2 S ++ r) :: d'.L gC now' []) rfl ?_
                              refine WL.appendL rfl rfl rfl Try.underlying36 Try.underlying36 sz_40 by_40 zero_40 rfl rfl (E := [.row g237 []]) (Vec.row (k := 0) (s := 2) (c := 0) rfl rfl (by omega)) (new := cells2 (S.take ff.toNat)) (fun _ => ⟨ga, 0, rfl, segAt (g := ga) (cells2_seg0 (by omega) r)⟩) (by rw [cells2_len, List.length_take]; omega) (cells2_one _) (by omega) (.none rfl) rfl rfl ?_
                              intro ad241 c241 E241 hV241 hr241
                              refine WL.appendL rfl rfl rfl Try.underlying36 Try.underlying36 sz_40 by_40 zero_40 rfl rfl hV241 (new := cells2 (S.drop (ff.toNat + 1))) (fun h => ⟨ga, _, rfl, by rw [show sAddr 0 (ff.toNat + 1) c 2 = (ff.toNat + 1) * 2 by unfold sAddr; rw [if_neg (by omega)]; omega]; exact segAt (g := ga) (cells2_seg1 (by omega) r)⟩) (by rw [cells2_len, List.length_drop]) (cells2_one _) (by omega) (.none rfl) rfl rfl ?_
                              intro ad246 c246 E246 hV246 hr246
                              refine WL.nilR ?_
                              refine WR.first (g := 0) [10] (by kernel_rfl) (by kernel_rfl) ?_
                              refine WP.val (v_assign rfl rfl) (.none rfl) rfl rfl ?_
                              refine WP.nil ?_
                              refine WR.done (by kernel_rfl) ?_
                              refine WE.block_n ?_
                              have ht9 := htm _ (at2_mem f1)
                              subst f3
                              exact WE.mid ⟨i, (at2 S ff.toNat).2, d', S.take ff.toNat ++ S.drop (ff.toNat + 1), ad246, c246, E246⟩ ⟨⟨hb', ht9.1, ht9.2, by dsimp only; rw [len_del f1]; omega, hi, by dsimp only; rw [len_del f1, cells2_append]; exact hV246, tm_del htm⟩, rfl⟩ (.cons rfl (.cons rfl (.eq rfl (by dsimp only; rw [len_del f1]) (.cons rfl (.cons rfl .nil))))) (List.Sublist.append_left (.cons _ (.cons _ (.refl _))) _)
                    · -- 155F
                      refine WL.val (v_assign rfl rfl) (.none rfl) rfl rfl ?_
                      refine WL.nil ?_
                      refine WE.then_n ?_
                      refine WC.cond_f rfl ?_
                      refine WC.region ?_
                      refine WL.test (v_eql rfl rfl rfl) (.none rfl) rfl rfl (fun h156 => ?_) (fun h156 => ?_)
                      · -- 156T
                        refine WL.val (v_assign rfl rfl) (.none rfl) rfl rfl ?_
                        refine WL.nil ?_
                        refine WE.then_n ?_
                        refine WC.cond_t rfl ?_
                        refine WC.seq ?_
                        refine WC.seq ?_
                        refine WC.region ?_
                        refine WL.val (v_move rfl rfl) (.none rfl) rfl rfl ?_
                        refine WL.val (v_move rfl rfl) (.none rfl) rfl rfl ?_
                        refine WL.val (v_lss rfl rfl rfl) (.none rfl) rfl rfl ?_
                        refine WL.nil ?_
                        refine WE.then_n ?_
                        refine WC.cond_d rfl (fun h159 => ?_) (fun h159 => ?_)
                        · -- 159T
                          refine WC.region ?_
                          refine WL.val (v_move rfl rfl) (.none rfl) rfl rfl ?_
                          refine WL.val (v_assign rfl rfl) (.none rfl) rfl rfl ?_
                          refine WL.nil ?_
                          refine WE.then_n ?_
                          refine WC.cut (fun u : Int => [(8, .int .i64 u), (7, .pointer (some ⟨g7, 0, none⟩)), (3, .pointer (some ⟨gC, 0, none⟩)), (4, .int .i64 now), (5, .slice ad S.length c), (6, .int .i64 i), (0, .slice a n cap)]) (fun _ => .row g7 (opL (f i)) :: (E ++ d.L gC now [])) (fun u => u = clip t now) ?_ ?_
                          · -- cut162
                            refine WC.seq ?_
                            refine WC.region ?_
                            refine WL.val (v_move rfl rfl) (.none rfl) rfl rfl ?_
                            refine WL.val (v_gtr rfl rfl rfl) (.none rfl) rfl rfl ?_
                            refine WL.nil ?_
                            refine WE.then_n ?_
                            refine WC.cond_d rfl (fun h162 => ?_) (fun h162 => ?_)
                            · -- 162T
                              refine WC.region ?_
                              refine WL.val (v_assign rfl rfl) (.none rfl) rfl rfl ?_
                              refine WL.nil ?_
                              exact WE.mid _ (by unfold clip; omega) (.cons rfl (.cons rfl (.cons rfl (.cons rfl (.cons rfl (.cons rfl (.cons rfl .nil))))))) (.refl _)
                            · -- 162F
                              refine WC.skip ?_
                              exact WE.mid _ (by unfold clip; omega) (.cons rfl (.cons rfl (.cons rfl (.cons rfl (.cons rfl (.cons rfl (.cons rfl .nil))))))) (.refl _)
                          · -- behind cut162
                            intro u hu
                            have hu0 : now ≤ u ∧ u ≤ 1073741824 := (by rw [hu]; unfold clip; omega)
                            refine WC.seq ?_
                            refine WC.region ?_
                            refine WL.val (v_assign rfl rfl) (.none rfl) rfl rfl ?_
                            refine WL.nil ?_
                            refine WE.then_n ?_
                            refine WC.seq ?_
                            refine WC.seq ?_
                            refine WC.region ?_
                            refine WL.val (v_move rfl rfl) (.none rfl) rfl rfl ?_
                            refine WL.val (v_len_slice rfl rfl Try.underlying36) (.none rfl) rfl rfl ?_
                            refine WL.val (v_move rfl rfl) (.none rfl) rfl rfl ?_
                            refine WL.nil ?_
                            refine WE.then_n ?_
                            refine WC.block ?_
                            refine WC.loop (fun x : Nat × Int => [(165, .int .i64 x.1), (164, .int .i64 S.length), (163, .slice ad S.length c), (15, .int .i64 x.2), (8, .int .i64 u), (7, .pointer (some ⟨g7, 0, none⟩)), (3, .pointer (some ⟨gC, 0, none⟩)), (4, .int .i64 now), (5, .slice ad S.length c), (6, .int .i64 i), (0, .slice a n cap)]) (fun _ => .row g7 (opL (f i)) :: (E ++ d.L gC now [])) (fun x => x.1 ≤ S.length ∧ FInv S u x.1 x.2) (fun x => S.length - x.1) (0, -1) ⟨Nat.zero_le _, .inl ⟨rfl, fun t ht => absurd ht (by dsimp only; omega)⟩⟩ (.cons rfl (.cons rfl (.cons rfl (.cons rfl (.cons rfl (.cons rfl (.cons rfl (.cons rfl (.cons rfl (.cons rfl (.cons rfl .nil))))))))))) (.refl _) ?_
                            rintro ⟨j, ff⟩ ⟨hj, hf⟩
                            dsimp only at hj hf
                            dsimp only
                            have hfn : 0 ≤ ff → ff.toNat < j := (by rcases hf with ⟨h, _⟩ | ⟨_, h, _⟩; omega; exact fun _ => h)
                            refine WC.seq ?_
                            refine WC.region ?_
                            refine WL.test (v_lss rfl rfl rfl) (.none rfl) rfl rfl (fun h166 => ?_) (fun h166 => ?_)
                            · -- 166T
                              refine WL.nil ?_
                              refine WE.then_n ?_
                              refine WC.seq ?_
                              refine WC.cond_t rfl ?_
                              refine WC.skip ?_
                              refine WE.then_n ?_
                              refine WC.seq ?_
                              refine WC.block ?_
                              refine WC.seq ?_
                              refine WC.region ?_
                              refine WL.val (v_move rfl rfl) (.none rfl) rfl rfl ?_
                              obtain ⟨ga, r, ea, eE, hrc, hcc⟩ := hV.cells2 (by omega)
                              subst ea eE
                              refine WL.as (L' := .row g7 (opL (f i)) :: .row ga (cells2 S ++ r) :: d.L gC now []) rfl ?_
                              refine WL.val (v_indexAddr (lo := j) rfl rfl rfl Try.underlying36 sz_40 (by omega) (by omega)) (.none rfl) rfl rfl ?_
                              refine WL.val (v_loadN (cs := [.int .i64 (at2 S j).1, .int .i64 (at2 S j).2]) rfl rfl many_40 rfl (fun w hS q v hq => by
                              have h1 := cells2_get (S := S) (i := j) (by omega) r
                              match q, hq with
                              | 0, hq => simp only [List.getElem?_cons_zero, Option.some.injEq] at hq; subst hq; rw [Nat.zero_add]; exact hS.cell (g := ga) h1.1
                              | 1, hq => simp only [List.getElem?_cons_succ, List.getElem?_cons_zero, Option.some.injEq] at hq; subst hq; rw [Nat.zero_add]; exact hS.cell (g := ga) h1.2
                              | q + 2, hq => simp at hq)) (.none rfl) rfl rfl ?_
                              refine WL.alloc rfl zero_40 (.none rfl) rfl rfl ?_
                              intro g17 hg17
                              refine WL.val (v_assign rfl rfl) (.none rfl) rfl rfl ?_
                              refine WL.storeW rfl rfl rfl rfl many_40 rfl rfl (.none rfl) rfl ?_
                              refine WL.nil ?_
                              refine WE.then_n ?_
                              refine WC.seq ?_
                              refine WC.quiet mixed (by kernel_rfl) ?_
                              refine WQ.val (v_fieldAddr0 rfl rfl fld_40_1) (.none rfl) rfl rfl ?_
                              refine WQ.val (v_load1 rfl rfl one_3 (cellAt rfl)) (.none rfl) rfl rfl ?_
                              refine WQ.val (v_move rfl rfl) (.none rfl) rfl rfl ?_
                              refine WQ.test (v_leq rfl rfl rfl) (.none rfl) rfl rfl (fun h173 => ?_) (fun h173 => ?_)
                              · -- 173T
                                refine WQ.val (v_move rfl rfl) (.none rfl) rfl rfl ?_
                                refine WQ.val (v_move rfl rfl) (.some rfl rfl rfl) rfl rfl ?_
                                refine WQ.test (v_lss rfl rfl rfl) (.some rfl rfl rfl) rfl rfl (fun h176 => ?_) (fun h176 => ?_)
                                · -- 176T
                                  refine WQ.val (v_move rfl rfl) (.some rfl rfl rfl) rfl rfl ?_
                                  refine WQ.skip rfl rfl rfl rfl rfl rfl ?_
                                  refine WQ.skip rfl rfl rfl rfl rfl rfl ?_
                                  refine WQ.skip rfl rfl rfl rfl rfl rfl ?_
                                  refine WQ.skip rfl rfl rfl rfl rfl rfl ?_
                                  refine WQ.skip rfl rfl rfl rfl rfl rfl ?_
                                  refine WQ.skip rfl rfl rfl rfl rfl rfl ?_
                                  refine WQ.skip rfl rfl rfl rfl rfl rfl ?_
                                  refine WQ.skip rfl rfl rfl rfl rfl rfl ?_
                                  refine WQ.val (v_pick_t rfl rfl rfl) (.some rfl rfl rfl) rfl rfl ?_
                                  refine WQ.val (v_move rfl rfl) (.some rfl rfl rfl) rfl rfl ?_
                                  refine WQ.skip rfl rfl rfl rfl rfl rfl ?_
                                  refine WQ.skip rfl rfl rfl rfl rfl rfl ?_
                                  refine WQ.skip rfl rfl rfl rfl rfl rfl ?_
                                  refine WQ.skip rfl rfl rfl rfl rfl rfl ?_
                                  refine WQ.skip rfl rfl rfl rfl rfl rfl ?_
                                  refine WQ.skip rfl rfl rfl rfl rfl rfl ?_
                                  refine WQ.skip rfl rfl rfl rfl rfl rfl ?_
                                  refine WQ.skip rfl rfl rfl rfl rfl rfl ?_
                                  refine WQ.skip rfl rfl rfl rfl rfl rfl ?_
                                  refine WQ.skip rfl rfl rfl rfl rfl rfl ?_
                                  refine WQ.skip rfl rfl rfl rfl rfl rfl ?_
                                  refine WQ.skip rfl rfl rfl rfl rfl rfl ?_
                                  refine WQ.skip rfl rfl rfl rfl rfl rfl ?_
                                  refine WQ.skip rfl rfl rfl rfl rfl rfl ?_
                                  refine WQ.skip rfl rfl rfl rfl rfl rfl ?_
                                  refine WQ.skip rfl rfl rfl rfl rfl rfl ?_
                                  refine WQ.skip rfl rfl rfl rfl rfl rfl ?_
                                  refine WQ.skip rfl rfl rfl rfl rfl rfl ?_
                                  refine WQ.val (v_pick_t rfl rfl rfl) (.some rfl rfl rfl) rfl rfl ?_
                                  refine WQ.val (v_pick_t rfl rfl rfl) (.none rfl) rfl rfl ?_
                                  refine WQ.nil ?_
                                  refine WE.then_n ?_
                                  refine WC.cond_t rfl ?_
                                  refine WC.region ?_
                                  refine WL.val (v_move rfl rfl) (.none rfl) rfl rfl ?_
                                  refine WL.val (v_assign rfl rfl) (.none rfl) rfl rfl ?_
                                  refine WL.nil ?_
                                  refine WE.block_n ?_
                                  refine WE.then_n ?_
                                  refine WC.region ?_
                                  refine WL.val (v_add rfl rfl rfl (w_i64 (by omega) (by omega))) (.none rfl) rfl rfl ?_
                                  refine WL.val (v_move rfl rfl) (.none rfl) rfl rfl ?_
                                  refine WL.nil ?_
                                  exact WE.next (j + 1, (j : Int)) (by dsimp only; omega) ⟨by dsimp only; omega, hf.take h173 (.inl h176)⟩ (.int rfl (by dsimp only; omega) (.cons rfl (.cons rfl (.cons rfl (.cons rfl (.cons rfl (.cons rfl (.cons rfl (.cons rfl (.cons rfl (.cons rfl .nil))))))))))) (.cons _ (.refl _))
                                · -- 176F
                                  refine WQ.val (v_move rfl rfl) (.some rfl rfl rfl) rfl rfl ?_
                                  refine WQ.val (v_fieldAddr0 rfl rfl fld_40_1) (.some rfl rfl rfl) rfl rfl ?_
                                  refine WQ.val (v_load1 rfl rfl one_3 (cellAt rfl)) (.some rfl rfl rfl) rfl rfl ?_
                                  refine WQ.val (v_move rfl rfl) (.some rfl rfl rfl) rfl rfl ?_
                                  refine WQ.val (v_move rfl rfl) (.some rfl rfl rfl) rfl rfl ?_
                                  refine WQ.val (v_indexAddr (lo := ff.toNat) rfl rfl rfl Try.underlying36 sz_40 (by omega) (by have := hfn (by omega); omega)) (.some rfl rfl rfl) rfl rfl ?_
                                  refine WQ.val (v_fieldAddr rfl rfl fld_40_1) (.some rfl rfl rfl) rfl rfl ?_
                                  refine WQ.val (v_load1 rfl rfl one_3 (cellAt (by rw [Nat.zero_add]; exact (cells2_get (by have := hfn (by omega); omega) r).2))) (.some rfl rfl rfl) rfl rfl ?_
                                  refine WQ.test (v_lss rfl rfl rfl) (.some rfl rfl rfl) rfl rfl (fun h185 => ?_) (fun h185 => ?_)
                                  · -- 185T
                                    refine WQ.val (v_pick_f rfl rfl rfl) (.some rfl rfl rfl) rfl rfl ?_
                                    refine WQ.val (v_move rfl rfl) (.some rfl rfl rfl) rfl rfl ?_
                                    refine WQ.skip rfl rfl rfl rfl rfl rfl ?_
                                    refine WQ.skip rfl rfl rfl rfl rfl rfl ?_
                                    refine WQ.skip rfl rfl rfl rfl rfl rfl ?_
                                    refine WQ.skip rfl rfl rfl rfl rfl rfl ?_
                                    refine WQ.skip rfl rfl rfl rfl rfl rfl ?_
                                    refine WQ.skip rfl rfl rfl rfl rfl rfl ?_
                                    refine WQ.skip rfl rfl rfl rfl rfl rfl ?_
                                    refine WQ.skip rfl rfl rfl rfl rfl rfl ?_
                                    refine WQ.skip rfl rfl rfl rfl rfl rfl ?_
                                    refine WQ.skip rfl rfl rfl rfl rfl rfl ?_
                                    refine WQ.skip rfl rfl rfl rfl rfl rfl ?_
                                    refine WQ.skip rfl rfl rfl rfl rfl rfl ?_
                                    refine WQ.skip rfl rfl rfl rfl rfl rfl ?_
                                    refine WQ.skip rfl rfl rfl rfl rfl rfl ?_
                                    refine WQ.skip rfl rfl rfl rfl rfl rfl ?_
                                    refine WQ.skip rfl rfl rfl rfl rfl rfl ?_
                                    refine WQ.skip rfl rfl rfl rfl rfl rfl ?_
                                    refine WQ.skip rfl rfl rfl rfl rfl rfl ?_
                                    refine WQ.val (v_pick_t rfl rfl rfl) (.some rfl rfl rfl) rfl rfl ?_
                                    refine WQ.val (v_pick_t rfl rfl rfl) (.none rfl) rfl rfl ?_
                                    refine WQ.nil ?_
                                    refine WE.then_n ?_
                                    refine WC.cond_t rfl ?_
                                    refine WC.region ?_
                                    refine WL.val (v_move rfl rfl) (.none rfl) rfl rfl ?_
                                    refine WL.val (v_assign rfl rfl) (.none rfl) rfl rfl ?_
                                    refine WL.nil ?_
                                    refine WE.block_n ?_
                                    refine WE.then_n ?_
                                    refine WC.region ?_
                                    refine WL.val (v_add rfl rfl rfl (w_i64 (by omega) (by omega))) (.none rfl) rfl rfl ?_
                                    refine WL.val (v_move rfl rfl) (.none rfl) rfl rfl ?_
                                    refine WL.nil ?_
                                    exact WE.next (j + 1, (j : Int)) (by dsimp only; omega) ⟨by dsimp only; omega, hf.take h173 (.inr (.inl h185))⟩ (.int rfl (by dsimp only; omega) (.cons rfl (.cons rfl (.cons rfl (.cons rfl (.cons rfl (.cons rfl (.cons rfl (.cons rfl (.cons rfl (.cons rfl .nil))))))))))) (.cons _ (.refl _))
                                  · -- 185F
                                    refine WQ.val (v_pick_f rfl rfl rfl) (.some rfl rfl rfl) rfl rfl ?_
                                    refine WQ.val (v_move rfl rfl) (.some rfl rfl rfl) rfl rfl ?_
                                    refine WQ.val (v_fieldAddr0 rfl rfl fld_40_1) (.some rfl rfl rfl) rfl rfl ?_
                                    refine WQ.val (v_load1 rfl rfl one_3 (cellAt rfl)) (.some rfl rfl rfl) rfl rfl ?_
                                    refine WQ.val (v_move rfl rfl) (.some rfl rfl rfl) rfl rfl ?_
                                    refine WQ.val (v_move rfl rfl) (.some rfl rfl rfl) rfl rfl ?_
                                    refine WQ.val (v_indexAddr (lo := ff.toNat) rfl rfl rfl Try.underlying36 sz_40 (by omega) (by have := hfn (by omega); omega)) (.some rfl rfl rfl) rfl rfl ?_
                                    refine WQ.val (v_fieldAddr rfl rfl fld_40_1) (.some rfl rfl rfl) rfl rfl ?_
                                    refine WQ.val (v_load1 rfl rfl one_3 (cellAt (by rw [Nat.zero_add]; exact (cells2_get (by have := hfn (by omega); omega) r).2))) (.some rfl rfl rfl) rfl rfl ?_
                                    refine WQ.test (v_eql rfl rfl rfl) (.some rfl rfl rfl) rfl rfl (fun h195 => ?_) (fun h195 => ?_)
                                    · -- 195T
                                      refine WQ.val (v_move rfl rfl) (.some rfl rfl rfl) rfl rfl ?_
                                      refine WQ.val (v_fieldAddr0 rfl rfl fld_40_0) (.some rfl rfl rfl) rfl rfl ?_
                                      refine WQ.val (v_load1 rfl rfl one_3 (cellAt rfl)) (.some rfl rfl rfl) rfl rfl ?_
                                      refine WQ.val (v_move rfl rfl) (.some rfl rfl rfl) rfl rfl ?_
                                      refine WQ.val (v_move rfl rfl) (.some rfl rfl rfl) rfl rfl ?_
                                      refine WQ.val (v_indexAddr (lo := ff.toNat) rfl rfl rfl Try.underlying36 sz_40 (by omega) (by have := hfn (by omega); omega)) (.some rfl rfl rfl) rfl rfl ?_
                                      refine WQ.val (v_fieldAddr rfl rfl fld_40_0) (.some rfl rfl rfl) rfl rfl ?_
                                      refine WQ.val (v_load1 rfl rfl one_3 (cellAt (by rw [Nat.zero_add]; exact (cells2_get (by have := hfn (by omega); omega) r).1))) (.some rfl rfl rfl) rfl rfl ?_
                                      refine WQ.test (v_lss rfl rfl rfl) (.some rfl rfl rfl) rfl rfl (fun h204 => ?_) (fun h204 => ?_)
                                      · -- 204T
                                        refine WQ.val (v_pick_t rfl rfl rfl) (.some rfl rfl rfl) rfl rfl ?_
                                        refine WQ.val (v_pick_f rfl rfl rfl) (.some rfl rfl rfl) rfl rfl ?_
                                        refine WQ.val (v_pick_t rfl rfl rfl) (.none rfl) rfl rfl ?_
                                        refine WQ.nil ?_
                                        refine WE.then_n ?_
                                        refine WC.cond_t rfl ?_
                                        refine WC.region ?_
                                        refine WL.val (v_move rfl rfl) (.none rfl) rfl rfl ?_
                                        refine WL.val (v_assign rfl rfl) (.none rfl) rfl rfl ?_
                                        refine WL.nil ?_
                                        refine WE.block_n ?_
                                        refine WE.then_n ?_
                                        refine WC.region ?_
                                        refine WL.val (v_add rfl rfl rfl (w_i64 (by omega) (by omega))) (.none rfl) rfl rfl ?_
                                        refine WL.val (v_move rfl rfl) (.none rfl) rfl rfl ?_
                                        refine WL.nil ?_
                                        exact WE.next (j + 1, (j : Int)) (by dsimp only; omega) ⟨by dsimp only; omega, hf.take h173 (.inr (.inr ⟨h195, h204⟩))⟩ (.int rfl (by dsimp only; omega) (.cons rfl (.cons rfl (.cons rfl (.cons rfl (.cons rfl (.cons rfl (.cons rfl (.cons rfl (.cons rfl (.cons rfl .nil))))))))))) (.cons _ (.refl _))
                                      · -- 204F
                                        refine WQ.val (v_pick_t rfl rfl rfl) (.some rfl rfl rfl) rfl rfl ?_
                                        refine WQ.val (v_pick_f rfl rfl rfl) (.some rfl rfl rfl) rfl rfl ?_
                                        refine WQ.val (v_pick_t rfl rfl rfl) (.none rfl) rfl rfl ?_
                                        refine WQ.nil ?_
                                        refine WE.then_n ?_
                                        refine WC.cond_f rfl ?_
                                        refine WC.skip ?_
                                        refine WE.block_n ?_
                                        refine WE.then_n ?_
                                        refine WC.region ?_
                                        refine WL.val (v_add rfl rfl rfl (w_i64 (by omega) (by omega))) (.none rfl) rfl rfl ?_
                                        refine WL.val (v_move rfl rfl) (.none rfl) rfl rfl ?_
                                        refine WL.nil ?_
                                        exact WE.next (j + 1, ff) (by dsimp only; omega) ⟨by dsimp only; omega, hf.keep (.inr ⟨by omega, by unfold ltp; omega⟩)⟩ (.int rfl (by dsimp only; omega) (.cons rfl (.cons rfl (.cons rfl (.cons rfl (.cons rfl (.cons rfl (.cons rfl (.cons rfl (.cons rfl (.cons rfl .nil))))))))))) (.cons _ (.refl _))
                                    · -- 195F
                                      refine WQ.val (v_move rfl rfl) (.some rfl rfl rfl) rfl rfl ?_
                                      refine WQ.skip rfl rfl rfl rfl rfl rfl ?_
                                      refine WQ.skip rfl rfl rfl rfl rfl rfl ?_
                                      refine WQ.skip rfl rfl rfl rfl rfl rfl ?_
                                      refine WQ.skip rfl rfl rfl rfl rfl rfl ?_
                                      refine WQ.skip rfl rfl rfl rfl rfl rfl ?_
                                      refine WQ.skip rfl rfl rfl rfl rfl rfl ?_
                                      refine WQ.skip rfl rfl rfl rfl rfl rfl ?_
                                      refine WQ.skip rfl rfl rfl rfl rfl rfl ?_
                                      refine WQ.val (v_pick_f rfl rfl rfl) (.some rfl rfl rfl) rfl rfl ?_
                                      refine WQ.val (v_pick_f rfl rfl rfl) (.some rfl rfl rfl) rfl rfl ?_
                                      refine WQ.val (v_pick_t rfl rfl rfl) (.none rfl) rfl rfl ?_
                                      refine WQ.nil ?_
                                      refine WE.then_n ?_
                                      refine WC.cond_f rfl ?_
                                      refine WC.skip ?_
                                      refine WE.block_n ?_
                                      refine WE.then_n ?_
                                      refine WC.region ?_
                                      refine WL.val (v_add rfl rfl rfl (w_i64 (by omega) (by omega))) (.none rfl) rfl rfl ?_
                                      refine WL.val (v_move rfl rfl) (.none rfl) rfl rfl ?_
                                      refine WL.nil ?_
                                      exact WE.next (j + 1, ff) (by dsimp only; omega) ⟨by dsimp only; omega, hf.keep (.inr ⟨by omega, by unfold ltp; omega⟩)⟩ (.int rfl (by dsimp only; omega) (.cons rfl (.cons rfl (.cons rfl (.cons rfl (.cons rfl (.cons rfl (.cons rfl (.cons rfl (.cons rfl (.cons rfl .nil))))))))))) (.cons _ (.refl _))
                              · -- 173F
                                refine WQ.val (v_move rfl rfl) (.none rfl) rfl rfl ?_
                                refine WQ.skip rfl rfl rfl rfl rfl rfl ?_
                                refine WQ.skip rfl rfl rfl rfl rfl rfl ?_
                                refine WQ.skip rfl rfl rfl rfl rfl rfl ?_
                                refine WQ.skip rfl rfl rfl rfl rfl rfl ?_
                                refine WQ.skip rfl rfl rfl rfl rfl rfl ?_
                                refine WQ.skip rfl rfl rfl rfl rfl rfl ?_
                                refine WQ.skip rfl rfl rfl rfl rfl rfl ?_
                                refine WQ.skip rfl rfl rfl rfl rfl rfl ?_
                                refine WQ.skip rfl rfl rfl rfl rfl rfl ?_
                                refine WQ.skip rfl rfl rfl rfl rfl rfl ?_
                                refine WQ.skip rfl rfl rfl rfl rfl rfl ?_
                                refine WQ.skip rfl rfl rfl rfl rfl rfl ?_
                                refine WQ.skip rfl rfl rfl rfl rfl rfl ?_
                                refine WQ.skip rfl rfl rfl rfl rfl rfl ?_
                                refine WQ.skip rfl rfl rfl rfl rfl rfl ?_
                                refine WQ.skip rfl rfl rfl rfl rfl rfl ?_
                                refine WQ.skip rfl rfl rfl rfl rfl rfl ?_
                                refine WQ.skip rfl rfl rfl rfl rfl rfl ?_
                                refine WQ.skip rfl rfl rfl rfl rfl rfl ?_
                                refine WQ.skip rfl rfl rfl rfl rfl rfl ?_
                                refine WQ.skip rfl rfl rfl rfl rfl rfl ?_
                                refine WQ.skip rfl rfl rfl rfl rfl rfl ?_
                                refine WQ.skip rfl rfl rfl rfl rfl rfl ?_
                                refine WQ.skip rfl rfl rfl rfl rfl rfl ?_
                                refine WQ.skip rfl rfl rfl rfl rfl rfl ?_
                                refine WQ.skip rfl rfl rfl rfl rfl rfl ?_
                                refine WQ.skip rfl rfl rfl rfl rfl rfl ?_
                                refine WQ.skip rfl rfl rfl rfl rfl rfl ?_
                                refine WQ.skip rfl rfl rfl rfl rfl rfl ?_
                                refine WQ.skip rfl rfl rfl rfl rfl rfl ?_
                                refine WQ.skip rfl rfl rfl rfl rfl rfl ?_
                                refine WQ.skip rfl rfl rfl rfl rfl rfl ?_
                                refine WQ.val (v_pick_f rfl rfl rfl) (.none rfl) rfl rfl ?_
                                refine WQ.nil ?_
                                refine WE.then_n ?_
                                refine WC.cond_f rfl ?_
                                refine WC.skip ?_
                                refine WE.block_n ?_
                                refine WE.then_n ?_
                                refine WC.region ?_
                                refine WL.val (v_add rfl rfl rfl (w_i64 (by omega) (by omega))) (.none rfl) rfl rfl ?_
                                refine WL.val (v_move rfl rfl) (.none rfl) rfl rfl ?_
                                refine WL.nil ?_
                                exact WE.next (j + 1, ff) (by dsimp only; omega) ⟨by dsimp only; omega, hf.keep (.inl (by omega))⟩ (.int rfl (by dsimp only; omega) (.cons rfl (.cons rfl (.cons rfl (.cons rfl (.cons rfl (.cons rfl (.cons rfl (.cons rfl (.cons rfl (.cons rfl .nil))))))))))) (.cons _ (.refl _))
                            · -- 166F
                              refine WL.nil ?_
                              refine WE.then_n ?_
                              refine WC.seq ?_
                              refine WC.cond_f rfl ?_
                              refine WC.exit ?_
                              refine WE.then_exit ?_
                              refine WE.then_exit ?_
                              refine WE.block_hit ?_
                              refine WE.then_n ?_
                              refine WC.seq ?_
                              refine WC.region ?_
                              refine WL.val (v_move rfl rfl) (.none rfl) rfl rfl ?_
                              refine WL.val (v_move rfl rfl) (.none rfl) rfl rfl ?_
                              refine WL.call rfl rfl ck_10 (.none rfl) rfl rfl ?_
                              intro w1 hS
                              obtain rfl : j = S.length := (by omega)
                              refine (Next_r (X := .row g7 (opL (f i)) :: E) hS hbg hu0.1 hu0.2 hf).mono ?_
                              rintro e w' ⟨b4, x4, d', S', now', rfl, hb', hbt, hbf, hS'⟩
                              refine ⟨_, .row g7 (opL (f i)) :: (E ++ d'.L gC now' []), rfl, hS', ?_⟩
                              refine WL.val (v_move rfl rfl) (.none rfl) rfl rfl ?_
                              refine WL.val (v_extract rfl rfl rfl) (.none rfl) rfl rfl ?_
                              refine WL.val (v_extract rfl rfl rfl) (.none rfl) rfl rfl ?_
                              cases b4
                              · -- 215F
                                refine WL.val (v_assign rfl rfl) (.none rfl) rfl rfl ?_
                                refine WL.val (v_assign rfl rfl) (.none rfl) rfl rfl ?_
                                refine WL.nil ?_
                                refine WE.then_n ?_
                                refine WC.seq ?_
                                refine WC.seq ?_
                                refine WC.region ?_
                                refine WL.val (v_move rfl rfl) (.none rfl) rfl rfl ?_
                                refine WL.val (v_move rfl rfl) (.none rfl) rfl rfl ?_
                                refine WL.val (v_geq rfl rfl rfl) (.none rfl) rfl rfl ?_
                                refine WL.val ((v_neq_bool rfl rfl rfl Try.underlying4).f (by simp [(hbf rfl).1])) (.none rfl) rfl rfl ?_
                                refine WL.nil ?_
                                refine WE.then_n ?_
                                refine WC.cond_f rfl ?_
                                refine WC.skip ?_
                                refine WE.then_n ?_
                                refine WC.seq ?_
                                refine WC.seq ?_
                                refine WC.region ?_
                                refine WL.val (v_move rfl rfl) (.none rfl) rfl rfl ?_
                                refine WL.val (v_not rfl rfl rfl) (.none rfl) rfl rfl ?_
                                refine WL.nil ?_
                                refine WE.then_n ?_
                                refine WC.cond_t rfl ?_
                                refine WC.seq ?_
                                refine WC.region ?_
                                refine WL.val (v_move rfl rfl) (.none rfl) rfl rfl ?_
                                refine WL.val (v_assign rfl rfl) (.none rfl) rfl rfl ?_
                                refine WL.nil ?_
                                refine WE.then_n ?_
                                refine WC.seq ?_
                                refine WC.seq ?_
                                refine WC.region ?_
                                refine WL.val (v_move rfl rfl) (.none rfl) rfl rfl ?_
                                refine WL.val ((v_neq rfl rfl rfl).f (fun h => h (hbf rfl).2.1)) (.none rfl) rfl rfl ?_
                                refine WL.nil ?_
                                refine WE.then_n ?_
                                refine WC.cond_f rfl ?_
                                refine WC.skip ?_
                                refine WE.then_n ?_
                                refine WC.exit ?_
                                refine WE.then_exit ?_
                                refine WE.block_hit ?_
                                obtain ⟨_, _, e1, e2⟩ := hbf rfl
                                subst e1 e2
                                exact WE.mid ⟨i, now', d', S', ad, c, E⟩ ⟨⟨hb', by dsimp only; omega, by dsimp only; omega, by dsimp only; omega, hi, hV, htm⟩, rfl⟩ (.cons rfl (.cons rfl (.cons rfl (.cons rfl (.cons rfl .nil))))) (.cons _ (.refl _))
                              · -- 215T
                                refine WL.val (v_assign rfl rfl) (.none rfl) rfl rfl ?_
                                refine WL.val (v_assign rfl rfl) (.none rfl) rfl rfl ?_
                                refine WL.nil ?_
                                refine WE.then_n ?_
                                refine WC.seq ?_
                                refine WC.seq ?_
                                refine WC.region ?_
                                refine WL.val (v_move rfl rfl) (.none rfl) rfl rfl ?_
                                refine WL.val (v_move rfl rfl) (.none rfl) rfl rfl ?_
                                refine WL.val (v_geq rfl rfl rfl) (.none rfl) rfl rfl ?_
                                refine WL.val ((v_neq_bool rfl rfl rfl Try.underlying4).f (by simp [(hbt rfl).1])) (.none rfl) rfl rfl ?_
                                refine WL.nil ?_
                                refine WE.then_n ?_
                                refine WC.cond_f rfl ?_
                                refine WC.skip ?_
                                refine WE.then_n ?_
                                refine WC.seq ?_
                                refine WC.seq ?_
                                refine WC.region ?_
                                refine WL.val (v_move rfl rfl) (.none rfl) rfl rfl ?_
                                refine WL.val (v_not rfl rfl rfl) (.none rfl) rfl rfl ?_
                                refine WL.nil ?_
                                refine WE.then_n ?_
                                refine WC.cond_f rfl ?_
                                refine WC.skip ?_
                                refine WE.then_n ?_
                                refine WC.seq ?_
                                refine WC.seq ?_
                                refine WC.region ?_
                                refine WL.val (v_move rfl rfl) (.none rfl) rfl rfl ?_
                                obtain ⟨f0, f1, f2, f3, f4, f5⟩ := hbt rfl
                                obtain ⟨ga, r, ea, eE, hrc, hcc⟩ := hV.cells2 (by omega)
                                subst ea eE
                                refine WL.as (L' := .row g7 (opL (f i)) :: .row ga (cells2 S ++ r) :: d'.L gC now' []) rfl ?_
                                refine WL.val (v_move rfl rfl) (.none rfl) rfl rfl ?_
                                refine WL.val (v_move rfl rfl) (.none rfl) rfl rfl ?_
                                refine WL.val (v_indexAddr (lo := ff.toNat) rfl rfl rfl Try.underlying36 sz_40 (by omega) (by omega)) (.none rfl) rfl rfl ?_
                                refine WL.val (v_fieldAddr rfl rfl fld_40_0) (.none rfl) rfl rfl ?_
                                refine WL.val (v_load1 rfl rfl one_3 (cellAt (by rw [Nat.zero_add]; exact (cells2_get f1 r).1))) (.none rfl) rfl rfl ?_
                                refine WL.val ((v_neq rfl rfl rfl).f (fun h => h f2)) (.none rfl) rfl rfl ?_
                                refine WL.nil ?_
                                refine WE.then_n ?_
                                refine WC.cond_f rfl ?_
                                refine WC.skip ?_
                                refine WE.then_n ?_
                                refine WC.seq ?_
                                refine WC.region ?_
                                refine WL.val (v_move rfl rfl) (.none rfl) rfl rfl ?_
                                refine WL.val (v_move rfl rfl) (.none rfl) rfl rfl ?_
                                refine WL.val (v_indexAddr (lo := ff.toNat) rfl rfl rfl Try.underlying36 sz_40 (by omega) (by omega)) (.none rfl) rfl rfl ?_
                                refine WL.val (v_fieldAddr rfl rfl fld_40_1) (.none rfl) rfl rfl ?_
                                refine WL.val (v_load1 rfl rfl one_3 (cellAt (by rw [Nat.zero_add]; exact (cells2_get f1 r).2))) (.none rfl) rfl rfl ?_
                                refine WL.val (v_assign rfl rfl) (.none rfl) rfl rfl ?_
                                refine WL.nil ?_
                                refine WE.then_n ?_
                                refine WC.orders mixed ?_
                                refine WR.first (g := 4) [1, 2, 3, 5, 6, 7, 8] (by kernel_rfl) (by kernel_rfl) ?_
                                refine WP.val (v_move rfl rfl) (.none rfl) rfl rfl ?_
                                subst f5
                                refine WP.val (v_move rfl rfl) (.none rfl) rfl rfl ?_
                                refine WP.val (v_slice_hi (hi := ff.toNat) rfl rfl rfl Try.underlying36 sz_40 (by omega) (by omega)) (.none rfl) rfl rfl ?_
                                refine WP.val (v_move rfl rfl) (.none rfl) rfl rfl ?_
                                refine WP.val (v_move rfl rfl) (.none rfl) rfl rfl ?_
                                refine WP.val (v_add rfl rfl rfl (w_i64 (by omega) (by omega))) (.none rfl) rfl rfl ?_
                                refine WP.val (v_slice_lo (lo := ff.toNat + 1) rfl rfl rfl Try.underlying36 sz_40 (by omega) (by omega)) (.none rfl) rfl rfl ?_
                                refine WP.nil ?_
                                refine WR.ones (g := 1) [0, 4, 9] (by kernel_rfl) ?_
                                refine WL.buildSlice rfl rfl Try.underlying36 sz_40 zero_40 rfl (by decide) rfl (.none rfl) rfl rfl ?_
                                intro g237 hg237
                                refine WL.as (L' := .row g237 [] :: .row g7 (opL (f i)) :: .row ga (cells2 S ++ r) :: d'.L gC now' []) rfl ?_
                                refine WL.appendL rfl rfl rfl Try.underlying36 Try.underlying36 sz_40 by_40 zero_40 rfl rfl (E := [.row g237 []]) (Vec.row (k := 0) (s := 2) (c := 0) rfl rfl (by omega)) (new := cells2 (S.take ff.toNat)) (fun _ => ⟨ga, 0, rfl, segAt (g := ga) (cells2_seg0 (by omega) r)⟩) (by rw [cells2_len, List.length_take]; omega) (cells2_one _) (by omega) (.none rfl) rfl rfl ?_
                                intro ad241 c241 E241 hV241 hr241
                                refine WL.appendL rfl rfl rfl Try.underlying36 Try.underlying36 sz_40 by_40 zero_40 rfl rfl hV241 (new := cells2 (S.drop (ff.toNat + 1))) (fun h => ⟨ga, _, rfl, by rw [show sAddr 0 (ff.toNat + 1) c 2 = (ff.toNat + 1) * 2 by unfold sAddr; rw [if_neg (by omega)]; omega]; exact segAt (g := ga) (cells2_seg1 (by omega) r)⟩) (by rw [cells2_len, List.length_drop]) (cells2_one _) (by omega) (.none rfl) rfl rfl ?_
                                intro ad246 c246 E246 hV246 hr246
                                refine WL.nilR ?_
                                refine WR.first (g := 0) [10] (by kernel_rfl) (by kernel_rfl) ?_
                                refine WP.val (v_assign rfl rfl) (.none rfl) rfl rfl ?_
                                refine WP.nil ?_
                                refine WR.done (by kernel_rfl) ?_
                                refine WE.block_n ?_
                                have ht9 := htm _ (at2_mem f1)
                                subst f3
                                exact WE.mid ⟨i, (at2 S ff.toNat).2, d', S.take ff.toNat ++ S.drop (ff.toNat + 1), ad246, c246, E246⟩ ⟨⟨hb', ht9.1, ht9.2, by dsimp only; rw [len_del f1]; omega, hi, by dsimp only; rw [len_del f1, cells2_append]; exact hV246, tm_del htm⟩, rfl⟩ (.cons rfl (.cons rfl (.eq rfl (by dsimp only; rw [len_del f1]) (.cons rfl (.cons rfl .nil))))) (List.Sublist.append_left (.cons _ (.cons _ (.refl _))) _)
                        · -- 159F
                          refine WC.skip ?_
                          refine WE.then_n ?_
                          refine WC.cut (fun u : Int => [(8, .int .i64 u), (7, .pointer (some ⟨g7, 0, none⟩)), (3, .pointer (some ⟨gC, 0, none⟩)), (4, .int .i64 now), (5, .slice ad S.length c), (6, .int .i64 i), (0, .slice a n cap)]) (fun _ => .row g7 (opL (f i)) :: (E ++ d.L gC now [])) (fun u => u = clip t now) ?_ ?_
                          · -- cut162
                            refine WC.seq ?_
                            refine WC.region ?_
                            refine WL.val (v_move rfl rfl) (.none rfl) rfl rfl ?_
                            refine WL.val (v_gtr rfl rfl rfl) (.none rfl) rfl rfl ?_
                            refine WL.nil ?_
                            refine WE.then_n ?_
                            refine WC.cond_d rfl (fun h162 => ?_) (fun h162 => ?_)
                            · -- 162T
                              refine WC.region ?_
                              refine WL.val (v_assign rfl rfl) (.none rfl) rfl rfl ?_
                              refine WL.nil ?_
                              exact WE.mid _ (by unfold clip; omega) (.cons rfl (.cons rfl (.cons rfl (.cons rfl (.cons rfl (.cons rfl (.cons rfl .nil))))))) (.refl _)
                            · -- 162F
                              refine WC.skip ?_
                              exact WE.mid _ (by unfold clip; omega) (.cons rfl (.cons rfl (.cons rfl (.cons rfl (.cons rfl (.cons rfl (.cons rfl .nil))))))) (.refl _)
                          · -- behind cut162
                            intro u hu
                            have hu0 : now ≤ u ∧ u ≤ 1073741824 := (by rw [hu]; unfold clip; omega)
                            refine WC.seq ?_
                            refine WC.region ?_
                            refine WL.val (v_assign rfl rfl) (.none rfl) rfl rfl ?_
                            refine WL.nil ?_
                            refine WE.then_n ?_
                            refine WC.seq ?_
                            refine WC.seq ?_
                            refine WC.region ?_
                            refine WL.val (v_move rfl rfl) (.none rfl) rfl rfl ?_
                            refine WL.val (v_len_slice rfl rfl Try.underlying36) (.none rfl) rfl rfl ?_
                            refine WL.val (v_move rfl rfl) (.none rfl) rfl rfl ?_
                            refine WL.nil ?_
                            refine WE.then_n ?_
                            refine WC.block ?_
                            refine WC.loop (fun x : Nat × Int => [(165, .int .i64 x.1), (164, .int .i64 S.length), (163, .slice ad S.length c), (15, .int .i64 x.2), (8, .int .i64 u), (7, .pointer (some ⟨g7, 0, none⟩)), (3, .pointer (some ⟨gC, 0, none⟩)), (4, .int .i64 now), (5, .slice ad S.length c), (6, .int .i64 i), (0, .slice a n cap)]) (fun _ => .row g7 (opL (f i)) :: (E ++ d.L gC now [])) (fun x => x.1 ≤ S.length ∧ FInv S u x.1 x.2) (fun x => S.length - x.1) (0, -1) ⟨Nat.zero_le _, .inl ⟨rfl, fun t ht => absurd ht (by dsimp only; omega)⟩⟩ (.cons rfl (.cons rfl (.cons rfl (.cons rfl (.cons rfl (.cons rfl (.cons rfl (.cons rfl (.cons rfl (.cons rfl (.cons rfl .nil))))))))))) (.refl _) ?_
                            rintro ⟨j, ff⟩ ⟨hj, hf⟩
                            dsimp only at hj hf
                            dsimp only
                            have hfn : 0 ≤ ff → ff.toNat < j := (by rcases hf with ⟨h, _⟩ | ⟨_, h, _⟩; omega; exact fun _ => h)
                            refine WC.seq ?_
                            refine WC.region ?_
                            refine WL.test (v_lss rfl rfl rfl) (.none rfl) rfl rfl (fun h166 => ?_) (fun h166 => ?_)
                            · -- 166T
                              refine WL.nil ?_
                              refine WE.then_n ?_
                              refine WC.seq ?_
                              refine WC.cond_t rfl ?_
                              refine WC.skip ?_
                              refine WE.then_n ?_
                              refine WC.seq ?_
                              refine WC.block ?_
                              refine WC.seq ?_
                              refine WC.region ?_
                              refine WL.val (v_move rfl rfl) (.none rfl) rfl rfl ?_
                              obtain ⟨ga, r, ea, eE, hrc, hcc⟩ := hV.cells2 (by omega)
                              subst ea eE
                              refine WL.as (L' := .row g7 (opL (f i)) :: .row ga (cells2 S ++ r) :: d.L gC now []) rfl ?_
                              refine WL.val (v_indexAddr (lo := j) rfl rfl rfl Try.underlying36 sz_40 (by omega) (by omega)) (.none rfl) rfl rfl ?_
                              refine WL.val (v_loadN (cs := [.int .i64 (at2 S j).1, .int .i64 (at2 S j).2]) rfl rfl many_40 rfl (fun w hS q v hq => by
                              have h1 := cells2_get (S := S) (i := j) (by omega) r
                              match q, hq with
                              | 0, hq => simp only [List.getElem?_cons_zero, Option.some.injEq] at hq; subst hq; rw [Nat.zero_add]; exact hS.cell (g := ga) h1.1
                              | 1, hq => simp only [List.getElem?_cons_succ, List.getElem?_cons_zero, Option.some.injEq] at hq; subst hq; rw [Nat.zero_add]; exact hS.cell (g := ga) h1.2
                              | q + 2, hq => simp at hq)) (.none rfl) rfl rfl ?_
                              refine WL.alloc rfl zero_40 (.none rfl) rfl rfl ?_
                              intro g17 hg17
                              refine WL.val (v_assign rfl rfl) (.none rfl) rfl rfl ?_
                              refine WL.storeW rfl rfl rfl rfl many_40 rfl rfl (.none rfl) rfl ?_
                              refine WL.nil ?_
                              refine WE.then_n ?_
                              refine WC.seq ?_
                              refine WC.quiet mixed (by kernel_rfl) ?_
                              refine WQ.val (v_fieldAddr0 rfl rfl fld_40_1) (.none rfl) rfl rfl ?_
                              refine WQ.val (v_load1 rfl rfl one_3 (cellAt rfl)) (.none rfl) rfl rfl ?_
                              refine WQ.val (v_move rfl rfl) (.none rfl) rfl rfl ?_
                              refine WQ.test (v_leq rfl rfl rfl) (.none rfl) rfl rfl (fun h173 => ?_) (fun h173 => ?_)
                              · -- 173T
                                refine WQ.val (v_move rfl rfl) (.none rfl) rfl rfl ?_
                                refine WQ.val (v_move rfl rfl) (.some rfl rfl rfl) rfl rfl ?_
                                refine WQ.test (v_lss rfl rfl rfl) (.some rfl rfl rfl) rfl rfl (fun h176 => ?_) (fun h176 => ?_)
                                · -- 176T
                                  refine WQ.val (v_move rfl rfl) (.some rfl rfl rfl) rfl rfl ?_
                                  refine WQ.skip rfl rfl rfl rfl rfl rfl ?_
                                  refine WQ.skip rfl rfl rfl rfl rfl rfl ?_
                                  refine WQ.skip rfl rfl rfl rfl rfl rfl ?_
                                  refine WQ.skip rfl rfl rfl rfl rfl rfl ?_
                                  refine WQ.skip rfl rfl rfl rfl rfl rfl ?_
                                  refine WQ.skip rfl rfl rfl rfl rfl rfl ?_
                                  refine WQ.skip rfl rfl rfl rfl rfl rfl ?_
                                  refine WQ.skip rfl rfl rfl rfl rfl rfl ?_
                                  refine WQ.val (v_pick_t rfl rfl rfl) (.some rfl rfl rfl) rfl rfl ?_
                                  refine WQ.val (v_move rfl rfl) (.some rfl rfl rfl) rfl rfl ?_
                                  refine WQ.skip rfl rfl rfl rfl rfl rfl ?_
                                  refine WQ.skip rfl rfl rfl rfl rfl rfl ?_
                                  refine WQ.skip rfl rfl rfl rfl rfl rfl ?_
                                  refine WQ.skip rfl rfl rfl rfl rfl rfl ?_
                                  refine WQ.skip rfl rfl rfl rfl rfl rfl ?_
                                  refine WQ.skip rfl rfl rfl rfl rfl rfl ?_
                                  refine WQ.skip rfl rfl rfl rfl rfl rfl ?_
                                  refine WQ.skip rfl rfl rfl rfl rfl rfl ?_
                                  refine WQ.skip rfl rfl rfl rfl rfl rfl ?_
                                  refine WQ.skip rfl rfl rfl rfl rfl rfl ?_
                                  refine WQ.skip rfl rfl rfl rfl rfl rfl ?_
                                  refine WQ.skip rfl rfl rfl rfl rfl rfl ?_
                                  refine WQ.skip rfl rfl rfl rfl rfl rfl ?_
                                  refine WQ.skip rfl rfl rfl rfl rfl rfl ?_
                                  refine WQ.skip rfl rfl rfl rfl rfl rfl ?_
                                  refine WQ.skip rfl rfl rfl rfl rfl rfl ?_
                                  refine WQ.skip rfl rfl rfl rfl rfl rfl ?_
                                  refine WQ.skip rfl rfl rfl rfl rfl rfl ?_
                                  refine WQ.val (v_pick_t rfl rfl rfl) (.some rfl rfl rfl) rfl rfl ?_
                                  refine WQ.val (v_pick_t rfl rfl rfl) (.none rfl) rfl rfl ?_
                                  refine WQ.nil ?_
                                  refine WE.then_n ?_
                                  refine WC.cond_t rfl ?_
                                  refine WC.region ?_
                                  refine WL.val (v_move rfl rfl) (.none rfl) rfl rfl ?_
                                  refine WL.val (v_assign rfl rfl) (.none rfl) rfl rfl ?_
                                  refine WL.nil ?_
                                  refine WE.block_n ?_
                                  refine WE.then_n ?_
                                  refine WC.region ?_
                                  refine WL.val (v_add rfl rfl rfl (w_i64 (by omega) (by omega))) (.none rfl) rfl rfl ?_
                                  refine WL.val (v_move rfl rfl) (.none rfl) rfl rfl ?_
                                  refine WL.nil ?_
                                  exact WE.next (j + 1, (j : Int)) (by dsimp only; omega) ⟨by dsimp only; omega, hf.take h173 (.inl h176)⟩ (.int rfl (by dsimp only; omega) (.cons rfl (.cons rfl (.cons rfl (.cons rfl (.cons rfl (.cons rfl (.cons rfl (.cons rfl (.cons rfl (.cons rfl .nil))))))))))) (.cons _ (.refl _))
                                · -- 176F
                                  refine WQ.val (v_move rfl rfl) (.some rfl rfl rfl) rfl rfl ?_
                                  refine WQ.val (v_fieldAddr0 rfl rfl fld_40_1) (.some rfl rfl rfl) rfl rfl ?_
                                  refine WQ.val (v_load1 rfl rfl one_3 (cellAt rfl)) (.some rfl rfl rfl) rfl rfl ?_
                                  refine WQ.val (v_move rfl rfl) (.some rfl rfl rfl) rfl rfl ?_
                                  refine WQ.val (v_move rfl rfl) (.some rfl rfl rfl) rfl rfl ?_
                                  refine WQ.val (v_indexAddr (lo := ff.toNat) rfl rfl rfl Try.underlying36 sz_40 (by omega) (by have := hfn (by omega); omega)) (.some rfl rfl rfl) rfl rfl ?_
                                  refine WQ.val (v_fieldAddr rfl rfl fld_40_1) (.some rfl rfl rfl) rfl rfl ?_
                                  refine WQ.val (v_load1 rfl rfl one_3 (cellAt (by rw [Nat.zero_add]; exact (cells2_get (by have := hfn (by omega); omega) r).2))) (.some rfl rfl rfl) rfl rfl ?_
                                  refine WQ.test (v_lss rfl rfl rfl) (.some rfl rfl rfl) rfl rfl (fun h185 => ?_) (fun h185 => ?_)
                                  · -- 185T
                                    refine WQ.val (v_pick_f rfl rfl rfl) (.some rfl rfl rfl) rfl rfl ?_
                                    refine WQ.val (v_move rfl rfl) (.some rfl rfl rfl) rfl rfl ?_
                                    refine WQ.skip rfl rfl rfl rfl rfl rfl ?_
                                    refine WQ.skip rfl rfl rfl rfl rfl rfl ?_
                                    refine WQ.skip rfl rfl rfl rfl rfl rfl ?_
                                    refine WQ.skip rfl rfl rfl rfl rfl rfl ?_
                                    refine WQ.skip rfl rfl rfl rfl rfl rfl ?_
                                    refine WQ.skip rfl rfl rfl rfl rfl rfl ?_
                                    refine WQ.skip rfl rfl rfl rfl rfl rfl ?_
                                    refine WQ.skip rfl rfl rfl rfl rfl rfl ?_
                                    refine WQ.skip rfl rfl rfl rfl rfl rfl ?_
                                    refine WQ.skip rfl rfl rfl rfl rfl rfl ?_
                                    refine WQ.skip rfl rfl rfl rfl rfl rfl ?_
                                    refine WQ.skip rfl rfl rfl rfl rfl rfl ?_
                                    refine WQ.skip rfl rfl rfl rfl rfl rfl ?_
                                    refine WQ.skip rfl rfl rfl rfl rfl rfl ?_
                                    refine WQ.skip rfl rfl rfl rfl rfl rfl ?_
                                    refine WQ.skip rfl rfl rfl rfl rfl rfl ?_
                                    refine WQ.skip rfl rfl rfl rfl rfl rfl ?_
                                    refine WQ.skip rfl rfl rfl rfl rfl rfl ?_
                                    refine WQ.val (v_pick_t rfl rfl rfl) (.some rfl rfl rfl) rfl rfl ?_
                                    refine WQ.val (v_pick_t rfl rfl rfl) (.none rfl) rfl rfl ?_
                                    refine WQ.nil ?_
                                    refine WE.then_n ?_
                                    refine WC.cond_t rfl ?_
                                    refine WC.region ?_
                                    refine WL.val (v_move rfl rfl) (.none rfl) rfl rfl ?_
                                    refine WL.val (v_assign rfl rfl) (.none rfl) rfl rfl ?_
                                    refine WL.nil ?_
                                    refine WE.block_n ?_
                                    refine WE.then_n ?_
                                    refine WC.region ?_
                                    refine WL.val (v_add rfl rfl rfl (w_i64 (by omega) (by omega))) (.none rfl) rfl rfl ?_
                                    refine WL.val (v_move rfl rfl) (.none rfl) rfl rfl ?_
                                    refine WL.nil ?_
                                    exact WE.next (j + 1, (j : Int)) (by dsimp only; omega) ⟨by dsimp only; omega, hf.take h173 (.inr (.inl h185))⟩ (.int rfl (by dsimp only; omega) (.cons rfl (.cons rfl (.cons rfl (.cons rfl (.cons rfl (.cons rfl (.cons rfl (.cons rfl (.cons rfl (.cons rfl .nil))))))))))) (.cons _ (.refl _))
                                  · -- 185F
                                    refine WQ.val (v_pick_f rfl rfl rfl) (.some rfl rfl rfl) rfl rfl ?_
                                    refine WQ.val (v_move rfl rfl) (.some rfl rfl rfl) rfl rfl ?_
                                    refine WQ.val (v_fieldAddr0 rfl rfl fld_40_1) (.some rfl rfl rfl) rfl rfl ?_
                                    refine WQ.val (v_load1 rfl rfl one_3 (cellAt rfl)) (.some rfl rfl rfl) rfl rfl ?_
                                    refine WQ.val (v_move rfl rfl) (.some rfl rfl rfl) rfl rfl ?_
                                    refine WQ.val (v_move rfl rfl) (.some rfl rfl rfl) rfl rfl ?_
                                    refine WQ.val (v_indexAddr (lo := ff.toNat) rfl rfl rfl Try.underlying36 sz_40 (by omega) (by have := hfn (by omega); omega)) (.some rfl rfl rfl) rfl rfl ?_
                                    refine WQ.val (v_fieldAddr rfl rfl fld_40_1) (.some rfl rfl rfl) rfl rfl ?_
                                    refine WQ.val (v_load1 rfl rfl one_3 (cellAt (by rw [Nat.zero_add]; exact (cells2_get (by have := hfn (by omega); omega) r).2))) (.some rfl rfl rfl) rfl rfl ?_
                                    refine WQ.test (v_eql rfl rfl rfl) (.some rfl rfl rfl) rfl rfl (fun h195 => ?_) (fun h195 => ?_)
                                    · -- 195T
                                      refine WQ.val (v_move rfl rfl) (.some rfl rfl rfl) rfl rfl ?_
                                      refine WQ.val (v_fieldAddr0 rfl rfl fld_40_0) (.some rfl rfl rfl) rfl rfl ?_
                                      refine WQ.val (v_load1 rfl rfl one_3 (cellAt rfl)) (.some rfl rfl rfl) rfl rfl ?_
                                      refine WQ.val (v_move rfl rfl) (.some rfl rfl rfl) rfl rfl ?_
                                      refine WQ.val (v_move rfl rfl) (.some rfl rfl rfl) rfl rfl ?_
                                      refine WQ.val (v_indexAddr (lo := ff.toNat) rfl rfl rfl Try.underlying36 sz_40 (by omega) (by have := hfn (by omega); omega)) (.some rfl rfl rfl) rfl rfl ?_
                                      refine WQ.val (v_fieldAddr rfl rfl fld_40_0) (.some rfl rfl rfl) rfl rfl ?_
                                      refine WQ.val (v_load1 rfl rfl one_3 (cellAt (by rw [Nat.zero_add]; exact (cells2_get (by have := hfn (by omega); omega) r).1))) (.some rfl rfl rfl) rfl rfl ?_
                                      refine WQ.test (v_lss rfl rfl rfl) (.some rfl rfl rfl) rfl rfl (fun h204 => ?_) (fun h204 => ?_)
                                      · -- 204T
                                        refine WQ.val (v_pick_t rfl rfl rfl) (.some rfl rfl rfl) rfl rfl ?_
                                        refine WQ.val (v_pick_f rfl rfl rfl) (.some rfl rfl rfl) rfl rfl ?_
                                        refine WQ.val (v_pick_t rfl rfl rfl) (.none rfl) rfl rfl ?_
                                        refine WQ.nil ?_
                                        refine WE.then_n ?_
                                        refine WC.cond_t rfl ?_
                                        refine WC.region ?_
                                        refine WL.val (v_move rfl rfl) (.none rfl) rfl rfl ?_
                                        refine WL.val (v_assign rfl rfl) (.none rfl) rfl rfl ?_
                                        refine WL.nil ?_
                                        refine WE.block_n ?_
                                        refine WE.then_n ?_
                                        refine WC.region ?_
                                        refine WL.val (v_add rfl rfl rfl (w_i64 (by omega) (by omega))) (.none rfl) rfl rfl ?_
                                        refine WL.val (v_move rfl rfl) (.none rfl) rfl rfl ?_
                                        refine WL.nil ?_
                                        exact WE.next (j + 1, (j : Int)) (by dsimp only; omega) ⟨by dsimp only; omega, hf.take h173 (.inr (.inr ⟨h195, h204⟩))⟩ (.int rfl (by dsimp only; omega) (.cons rfl (.cons rfl (.cons rfl (.cons rfl (.cons rfl (.cons rfl (.cons rfl (.cons rfl (.cons rfl (.cons rfl .nil))))))))))) (.cons _ (.refl _))
                                      · -- 204F
                                        refine WQ.val (v_pick_t rfl rfl rfl) (.some rfl rfl rfl) rfl rfl ?_
                                        refine WQ.val (v_pick_f rfl rfl rfl) (.some rfl rfl rfl) rfl rfl ?_
                                        refine WQ.val (v_pick_t rfl rfl rfl) (.none rfl) rfl rfl ?_
                                        refine WQ.nil ?_
                                        refine WE.then_n ?_
                                        refine WC.cond_f rfl ?_
                                        refine WC.skip ?_
                                        refine WE.block_n ?_
                                        refine WE.then_n ?_
                                        refine WC.region ?_
                                        refine WL.val (v_add rfl rfl rfl (w_i64 (by omega) (by omega))) (.none rfl) rfl rfl ?_
                                        refine WL.val (v_move rfl rfl) (.none rfl) rfl rfl ?_
                                        refine WL.nil ?_
                                        exact WE.next (j + 1, ff) (by dsimp only; omega) ⟨by dsimp only; omega, hf.keep (.inr ⟨by omega, by unfold ltp; omega⟩)⟩ (.int rfl (by dsimp only; omega) (.cons rfl (.cons rfl (.cons rfl (.cons rfl (.cons rfl (.cons rfl (.cons rfl (.cons rfl (.cons rfl (.cons rfl .nil))))))))))) (.cons _ (.refl _))
                                    · -- 195F
                                      refine WQ.val (v_move rfl rfl) (.some rfl rfl rfl) rfl rfl ?_
                                      refine WQ.skip rfl rfl rfl rfl rfl rfl ?_
                                      refine WQ.skip rfl rfl rfl rfl rfl rfl ?_
                                      refine WQ.skip rfl rfl rfl rfl rfl rfl ?_
                                      refine WQ.skip rfl rfl rfl rfl rfl rfl ?_
                                      refine WQ.skip rfl rfl rfl rfl rfl rfl ?_
                                      refine WQ.skip rfl rfl rfl rfl rfl rfl ?_
                                      refine WQ.skip rfl rfl rfl rfl rfl rfl ?_
                                      refine WQ.skip rfl rfl rfl rfl rfl rfl ?_
                                      refine WQ.val (v_pick_f rfl rfl rfl) (.some rfl rfl rfl) rfl rfl ?_
                                      refine WQ.val (v_pick_f rfl rfl rfl) (.some rfl rfl rfl) rfl rfl ?_
                                      refine WQ.val (v_pick_t rfl rfl rfl) (.none rfl) rfl rfl ?_
                                      refine WQ.nil ?_
                                      refine WE.then_n ?_
                                      refine WC.cond_f rfl ?_
                                      refine WC.skip ?_
                                      refine WE.block_n ?_
                                      refine WE.then_n ?_
                                      refine WC.region ?_
                                      refine WL.val (v_add rfl rfl rfl (w_i64 (by omega) (by omega))) (.none rfl) rfl rfl ?_
                                      refine WL.val (v_move rfl rfl) (.none rfl) rfl rfl ?_
                                      refine WL.nil ?_
                                      exact WE.next (j + 1, ff) (by dsimp only; omega) ⟨by dsimp only; omega, hf.keep (.inr ⟨by omega, by unfold ltp; omega⟩)⟩ (.int rfl (by dsimp only; omega) (.cons rfl (.cons rfl (.cons rfl (.cons rfl (.cons rfl (.cons rfl (.cons rfl (.cons rfl (.cons rfl (.cons rfl .nil))))))))))) (.cons _ (.refl _))
                              · -- 173F
                                refine WQ.val (v_move rfl rfl) (.none rfl) rfl rfl ?_
                                refine WQ.skip rfl rfl rfl rfl rfl rfl ?_
                                refine WQ.skip rfl rfl rfl rfl rfl rfl ?_
                                refine WQ.skip rfl rfl rfl rfl rfl rfl ?_
                                refine WQ.skip rfl rfl rfl rfl rfl rfl ?_
                                refine WQ.skip rfl rfl rfl rfl rfl rfl ?_
                                refine WQ.skip rfl rfl rfl rfl rfl rfl ?_
                                refine WQ.skip rfl rfl rfl rfl rfl rfl ?_
                                refine WQ.skip rfl rfl rfl rfl rfl rfl ?_
                                refine WQ.skip rfl rfl rfl rfl rfl rfl ?_
                                refine WQ.skip rfl rfl rfl rfl rfl rfl ?_
                                refine WQ.skip rfl rfl rfl rfl rfl rfl ?_
                                refine WQ.skip rfl rfl rfl rfl rfl rfl ?_
                                refine WQ.skip rfl rfl rfl rfl rfl rfl ?_
                                refine WQ.skip rfl rfl rfl rfl rfl rfl ?_
                                refine WQ.skip rfl rfl rfl rfl rfl rfl ?_
                                refine WQ.skip rfl rfl rfl rfl rfl rfl ?_
                                refine WQ.skip rfl rfl rfl rfl rfl rfl ?_
                                refine WQ.skip rfl rfl rfl rfl rfl rfl ?_
                                refine WQ.skip rfl rfl rfl rfl rfl rfl ?_
                                refine WQ.skip rfl rfl rfl rfl rfl rfl ?_
                                refine WQ.skip rfl rfl rfl rfl rfl rfl ?_
                                refine WQ.skip rfl rfl rfl rfl rfl rfl ?_
                                refine WQ.skip rfl rfl rfl rfl rfl rfl ?_
                                refine WQ.skip rfl rfl rfl rfl rfl rfl ?_
                                refine WQ.skip rfl rfl rfl rfl rfl rfl ?_
                                refine WQ.skip rfl rfl rfl rfl rfl rfl ?_
                                refine WQ.skip rfl rfl rfl rfl rfl rfl ?_
                                refine WQ.skip rfl rfl rfl rfl rfl rfl ?_
                                refine WQ.skip rfl rfl rfl rfl rfl rfl ?_
                                refine WQ.skip rfl rfl rfl rfl rfl rfl ?_
                                refine WQ.skip rfl rfl rfl rfl rfl rfl ?_
                                refine WQ.skip rfl rfl rfl rfl rfl rfl ?_
                                refine WQ.val (v_pick_f rfl rfl rfl) (.none rfl) rfl rfl ?_
                                refine WQ.nil ?_
                                refine WE.then_n ?_
                                refine WC.cond_f rfl ?_
                                refine WC.skip ?_
                                refine WE.block_n ?_
                                refine WE.then_n ?_
                                refine WC.region ?_
                                refine WL.val (v_add rfl rfl rfl (w_i64 (by omega) (by omega))) (.none rfl) rfl rfl ?_
                                refine WL.val (v_move rfl rfl) (.none rfl) rfl rfl ?_
                                refine WL.nil ?_
                                exact WE.next (j + 1, ff) (by dsimp only; omega) ⟨by dsimp only; omega, hf.keep (.inl (by omega))⟩ (.int rfl (by dsimp only; omega) (.cons rfl (.cons rfl (.cons rfl (.cons rfl (.cons rfl (.cons rfl (.cons rfl (.cons rfl (.cons rfl (.cons rfl .nil))))))))))) (.cons _ (.refl _))
                            · -- 166F
                              refine WL.nil ?_
                              refine WE.then_n ?_
                              refine WC.seq ?_
                              refine WC.cond_f rfl ?_
                              refine WC.exit ?_
                              refine WE.then_exit ?_
                              refine WE.then_exit ?_
                              refine WE.block_hit ?_
                              refine WE.then_n ?_
                              refine WC.seq ?_
                              refine WC.region ?_
                              refine WL.val (v_move rfl rfl) (.none rfl) rfl rfl ?_
                              refine WL.val (v_move rfl rfl) (.none rfl) rfl rfl ?_
                              refine WL.call rfl rfl ck_10 (.none rfl) rfl rfl ?_
                              intro w1 hS
                              obtain rfl : j = S.length := (by omega)
                              refine (Next_r (X := .row g7 (opL (f i)) :: E) hS hbg hu0.1 hu0.2 hf).mono ?_
                              rintro e w' ⟨b4, x4, d', S', now', rfl, hb', hbt, hbf, hS'⟩
                              refine ⟨_, .row g7 (opL (f i)) :: (E ++ d'.L gC now' []), rfl, hS', ?_⟩
                              refine WL.val (v_move rfl rfl) (.none rfl) rfl rfl ?_
                              refine WL.val (v_extract rfl rfl rfl) (.none rfl) rfl rfl ?_
                              refine WL.val (v_extract rfl rfl rfl) (.none rfl) rfl rfl ?_
                              cases b4
                              · -- 215F
                                refine WL.val (v_assign rfl rfl) (.none rfl) rfl rfl ?_
                                refine WL.val (v_assign rfl rfl) (.none rfl) rfl rfl ?_
                                refine WL.nil ?_
                                refine WE.then_n ?_
                                refine WC.seq ?_
                                refine WC.seq ?_
                                refine WC.region ?_
                                refine WL.val (v_move rfl rfl) (.none rfl) rfl rfl ?_
                                refine WL.val (v_move rfl rfl) (.none rfl) rfl rfl ?_
                                refine WL.val (v_geq rfl rfl rfl) (.none rfl) rfl rfl ?_
                                refine WL.val ((v_neq_bool rfl rfl rfl Try.underlying4).f (by simp [(hbf rfl).1])) (.none rfl) rfl rfl ?_
                                refine WL.nil ?_
                                refine WE.then_n ?_
                                refine WC.cond_f rfl ?_
                                refine WC.skip ?_
                                refine WE.then_n ?_
                                refine WC.seq ?_
                                refine WC.seq ?_
                                refine WC.region ?_
                                refine WL.val (v_move rfl rfl) (.none rfl) rfl rfl ?_
                                refine WL.val (v_not rfl rfl rfl) (.none rfl) rfl rfl ?_
                                refine WL.nil ?_
                                refine WE.then_n ?_
                                refine WC.cond_t rfl ?_
                                refine WC.seq ?_
                                refine WC.region ?_
                                refine WL.val (v_move rfl rfl) (.none rfl) rfl rfl ?_
                                refine WL.val (v_assign rfl rfl) (.none rfl) rfl rfl ?_
                                refine WL.nil ?_
                                refine WE.then_n ?_
                                refine WC.seq ?_
                                refine WC.seq ?_
                                refine WC.region ?_
                                refine WL.val (v_move rfl rfl) (.none rfl) rfl rfl ?_
                                refine WL.val ((v_neq rfl rfl rfl).f (fun h => h (hbf rfl).2.1)) (.none rfl) rfl rfl ?_
                                refine WL.nil ?_
                                refine WE.then_n ?_
                                refine WC.cond_f rfl ?_
                                refine WC.skip ?_
                                refine WE.then_n ?_
                                refine WC.exit ?_
                                refine WE.then_exit ?_
                                refine WE.block_hit ?_
                                obtain ⟨_, _, e1, e2⟩ := hbf rfl
                                subst e1 e2
                                exact WE.mid ⟨i, now', d', S', ad, c, E⟩ ⟨⟨hb', by dsimp only; omega, by dsimp only; omega, by dsimp only; omega, hi, hV, htm⟩, rfl⟩ (.cons rfl (.cons rfl (.cons rfl (.cons rfl (.cons rfl .nil))))) (.cons _ (.refl _))
                              · -- 215T
                                refine WL.val (v_assign rfl rfl) (.none rfl) rfl rfl ?_
                                refine WL.val (v_assign rfl rfl) (.none rfl) rfl rfl ?_
                                refine WL.nil ?_
                                refine WE.then_n ?_
                                refine WC.seq ?_
                                refine WC.seq ?_
                                refine WC.region ?_
                                refine WL.val (v_move rfl rfl) (.none rfl) rfl rfl ?_
                                refine WL.val (v_move rfl rfl) (.none rfl) rfl rfl ?_
                                refine WL.val (v_geq rfl rfl rfl) (.none rfl) rfl rfl ?_
                                refine WL.val ((v_neq_bool rfl rfl rfl Try.underlying4).f (by simp [(hbt rfl).1])) (.none rfl) rfl rfl ?_
                                refine WL.nil ?_
                                refine WE.then_n ?_
                                refine WC.cond_f rfl ?_
                                refine WC.skip ?_
                                refine WE.then_n ?_
                                refine WC.seq ?_
                                refine WC.seq ?_
                                refine WC.region ?_
                                refine WL.val (v_move rfl rfl) (.none rfl) rfl rfl ?_
                                refine WL.val (v_not rfl rfl rfl) (.none rfl) rfl rfl ?_
                                refine WL.nil ?_
                                refine WE.then_n ?_
                                refine WC.cond_f rfl ?_
                                refine WC.skip ?_
                                refine WE.then_n ?_
                                refine WC.seq ?_
                                refine WC.seq ?_
                                refine WC.region ?_
                                refine WL.val (v_move rfl rfl) (.none rfl) rfl rfl ?_
                                obtain ⟨f0, f1, f2, f3, f4, f5⟩ := hbt rfl
                                obtain ⟨ga, r, ea, eE, hrc, hcc⟩ := hV.cells2 (by omega)
                                subst ea eE
                                refine WL.as (L' := .row g7 (opL (f i)) :: .row ga (cells2 S ++ r) :: d'.L gC now' []) rfl ?_
                                refine WL.val (v_move rfl rfl) (.none rfl) rfl rfl ?_
                                refine WL.val (v_move rfl rfl) (.none rfl) rfl rfl ?_
                                refine WL.val (v_indexAddr (lo := ff.toNat) rfl rfl rfl Try.underlying36 sz_40 (by omega) (by omega)) (.none rfl) rfl rfl ?_
                                refine WL.val (v_fieldAddr rfl rfl fld_40_0) (.none rfl) rfl rfl ?_
                                refine WL.val (v_load1 rfl rfl one_3 (cellAt (by rw [Nat.zero_add]; exact (cells2_get f1 r).1))) (.none rfl) rfl rfl ?_
                                refine WL.val ((v_neq rfl rfl rfl).f (fun h => h f2)) (.none rfl) rfl rfl ?_
                                refine WL.nil ?_
                                refine WE.then_n ?_
                                refine WC.cond_f rfl ?_
                                refine WC.skip ?_
                                refine WE.then_n ?_
                                refine WC.seq ?_
                                refine WC.region ?_
                                refine WL.val (v_move rfl rfl) (.none rfl) rfl rfl ?_
                                refine WL.val (v_move rfl rfl) (.none rfl) rfl rfl ?_
                                refine WL.val (v_indexAddr (lo := ff.toNat) rfl rfl rfl Try.underlying36 sz_40 (by omega) (by omega)) (.none rfl) rfl rfl ?_
                                refine WL.val (v_fieldAddr rfl rfl fld_40_1) (.none rfl) rfl rfl ?_
                                refine WL.val (v_load1 rfl rfl one_3 (cellAt (by rw [Nat.zero_add]; exact (cells2_get f1 r).2))) (.none rfl) rfl rfl ?_
                                refine WL.val (v_assign rfl rfl) (.none rfl) rfl rfl ?_
                                refine WL.nil ?_
                                refine WE.then_n ?_
                                refine WC.orders mixed ?_
                                refine WR.first (g := 4) [1, 2, 3, 5, 6, 7, 8] (by kernel_rfl) (by kernel_rfl) ?_
                                refine WP.val (v_move rfl rfl) (.none rfl) rfl rfl ?_
                                subst f5
                                refine WP.val (v_move rfl rfl) (.none rfl) rfl rfl ?_
                                refine WP.val (v_slice_hi (hi := ff.toNat) rfl rfl rfl Try.underlying36 sz_40 (by omega) (by omega)) (.none rfl) rfl rfl ?_
                                refine WP.val (v_move rfl rfl) (.none rfl) rfl rfl ?_
                                refine WP.val (v_move rfl rfl) (.none rfl) rfl rfl ?_
                                refine WP.val (v_add rfl rfl rfl (w_i64 (by omega) (by omega))) (.none rfl) rfl rfl ?_
                                refine WP.val (v_slice_lo (lo := ff.toNat + 1) rfl rfl rfl Try.underlying36 sz_40 (by omega) (by omega)) (.none rfl) rfl rfl ?_
                                refine WP.nil ?_
                                refine WR.ones (g := 1) [0, 4, 9] (by kernel_rfl) ?_
                                refine WL.buildSlice rfl rfl Try.underlying36 sz_40 zero_40 rfl (by decide) rfl (.none rfl) rfl rfl ?_
                                intro g237 hg237
                                refine WL.as (L' := .row g237 [] :: .row g7 (opL (f i)) :: .row ga (cells2 S ++ r) :: d'.L gC now' []) rfl ?_
                                refine WL.appendL rfl rfl rfl Try.underlying36 Try.underlying36 sz_40 by_40 zero_40 rfl rfl (E := [.row g237 []]) (Vec.row (k := 0) (s := 2) (c := 0) rfl rfl (by omega)) (new := cells2 (S.take ff.toNat)) (fun _ => ⟨ga, 0, rfl, segAt (g := ga) (cells2_seg0 (by omega) r)⟩) (by rw [cells2_len, List.length_take]; omega) (cells2_one _) (by omega) (.none rfl) rfl rfl ?_
                                intro ad241 c241 E241 hV241 hr241
                                refine WL.appendL rfl rfl rfl Try.underlying36 Try.underlying36 sz_40 by_40 zero_40 rfl rfl hV241 (new := cells2 (S.drop (ff.toNat + 1))) (fun h => ⟨ga, _, rfl, by rw [show sAddr 0 (ff.toNat + 1) c 2 = (ff.toNat + 1) * 2 by unfold sAddr; rw [if_neg (by omega)]; omega]; exact segAt (g := ga) (cells2_seg1 (by omega) r)⟩) (by rw [cells2_len, List.length_drop]) (cells2_one _) (by omega) (.none rfl) rfl rfl ?_
                                intro ad246 c246 E246 hV246 hr246
                                refine WL.nilR ?_
                                refine WR.first (g := 0) [10] (by kernel_rfl) (by kernel_rfl) ?_
                                refine WP.val (v_assign rfl rfl) (.none rfl) rfl rfl ?_
                                refine WP.nil ?_
                                refine WR.done (by kernel_rfl) ?_
                                refine WE.block_n ?_
                                have ht9 := htm _ (at2_mem f1)
                                subst f3
                                exact WE.mid ⟨i, (at2 S ff.toNat).2, d', S.take ff.toNat ++ S.drop (ff.toNat + 1), ad246, c246, E246⟩ ⟨⟨hb', ht9.1, ht9.2, by dsimp only; rw [len_del f1]; omega, hi, by dsimp only; rw [len_del f1, cells2_append]; exact hV246, tm_del htm⟩, rfl⟩ (.cons rfl (.cons rfl (.eq rfl (by dsimp only; rw [len_del f1]) (.cons rfl (.cons rfl .nil))))) (List.Sublist.append_left (.cons _ (.cons _ (.refl _))) _)
                      · -- 156F
                        refine WL.val (v_assign rfl rfl) (.none rfl) rfl rfl ?_
                        refine WL.nil ?_
                        refine WE.then_n ?_
                        refine WC.cond_f rfl ?_
                        refine WC.skip ?_
                        refine WE.block_n ?_
                        exact WE.mid ⟨i, now, d, S, ad, c, E⟩ ⟨⟨hbg, hlo, hhi, by dsimp only; omega, hi, hV, htm⟩, rfl⟩ (.cons rfl (.cons rfl (.cons rfl (.cons rfl (.cons rfl .nil))))) (.cons _ (.refl _))
          · -- behind cutb4
            rintro ⟨i', now', d', S', ad', c', E'⟩ ⟨⟨hbg', hlo', hhi', hlen', hi', hV', htm'⟩, hii⟩
            dsimp only at hbg' hlo' hhi' hlen' hi' hV' htm' hii
            dsimp only
            subst hii
            refine WC.seq ?_
            refine WC.region ?_
            refine WL.val (v_move rfl rfl) (.none rfl) rfl rfl ?_
            refine WL.call rfl rfl ck_11 (.none rfl) rfl rfl ?_
            intro w hS
            refine Calls.then (Now_b (hS.perm ck_rots)) hS ?_
            refine WL.val (v_move rfl rfl) (.none rfl) rfl rfl ?_
            refine WL.val ((v_neq rfl rfl rfl).f (fun h => h rfl)) (.none rfl) rfl rfl ?_
            refine WL.val (v_move rfl rfl) (.none rfl) rfl rfl ?_
            refine WL.val (v_move rfl rfl) (.some rfl rfl rfl) rfl rfl ?_
            refine WL.call rfl rfl ck_12 (.some rfl rfl rfl) rfl rfl ?_
            intro w hS
            refine Calls.then (Len_b (hS.perm ck_rots) hbg') hS ?_
            refine WL.val (v_move rfl rfl) (.some rfl rfl rfl) rfl rfl ?_
            refine WL.val (v_len_slice rfl rfl Try.underlying36) (.some rfl rfl rfl) rfl rfl ?_
            refine WL.val ((v_neq rfl rfl rfl).f (fun h => h rfl)) (.some rfl rfl rfl) rfl rfl ?_
            refine WL.val (v_pick_f rfl rfl rfl) (.none rfl) rfl rfl ?_
            refine WL.nil ?_
            refine WE.then_n ?_
            refine WC.cond_f rfl ?_
            refine WC.skip ?_
            refine WE.block_n ?_
            refine WE.then_n ?_
            refine WC.region ?_
            refine WL.val (v_move rfl rfl) (.none rfl) rfl rfl ?_
            refine WL.val (v_add rfl rfl rfl (w_i64 (by omega) (by omega))) (.none rfl) rfl rfl ?_
            refine WL.val (v_assign rfl rfl) (.none rfl) rfl rfl ?_
            refine WL.nil ?_
            exact WE.next ⟨i' + 1, now', d', S', ad', c', E'⟩ (by dsimp only; omega) ⟨hbg', hlo', hhi', hlen', by dsimp only; omega, hV', htm'⟩ (.cons rfl (.cons rfl (.cons rfl (.int rfl (by dsimp only; omega) (.cons rfl .nil))))) (.refl _)
    · -- 30F
      refine WL.val (v_pick_t rfl rfl rfl) (.none rfl) rfl rfl ?_
      refine WL.nil ?_
      refine WE.then_n ?_
      refine WC.cond_f rfl ?_
      refine WC.exit ?_
      refine WE.then_exit ?_
      refine WE.then_exit ?_
      refine WE.block_hit ?_
      refine WE.then_n ?_
      refine WC.seq ?_
      refine WC.region ?_
      refine WL.val (v_assign rfl rfl) (.none rfl) rfl rfl ?_
      refine WL.nil ?_
      refine WE.then_n ?_
      refine WC.ret ?_
      refine WE.ret1 (P := Try.prog) (.inl rfl) Try.results5 rfl ?_
      exact fun w' h => ⟨rfl, h.frm⟩
  · -- 27F
    refine WL.val (v_move rfl rfl) (.none rfl) rfl rfl ?_
    refine WL.skip rfl rfl rfl rfl rfl rfl ?_
    refine WL.skip rfl rfl rfl rfl rfl rfl ?_
    refine WL.val (v_pick_f rfl rfl rfl) (.none rfl) rfl rfl ?_
    refine WL.nil ?_
    refine WE.then_n ?_
    refine WC.cond_f rfl ?_
    refine WC.exit ?_
    refine WE.then_exit ?_
    refine WE.then_exit ?_
    refine WE.block_hit ?_
    refine WE.then_n ?_
    refine WC.seq ?_
    refine WC.region ?_
    refine WL.val (v_assign rfl rfl) (.none rfl) rfl rfl ?_
    refine WL.nil ?_
    refine WE.then_n ?_
    refine WC.ret ?_
    refine WE.ret1 (P := Try.prog) (.inl rfl) Try.results5 rfl ?_
    exact fun w' h => ⟨rfl, h.frm⟩
end Go.Proofs.Ytaoipmdddagngaa
