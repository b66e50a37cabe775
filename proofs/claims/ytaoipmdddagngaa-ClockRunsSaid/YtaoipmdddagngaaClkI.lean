/- carrefourlaw09: ClockSorts. -/
import Derived.Test.YtaoipmdddagngaaClkH
import Derived.Test.YtaoipmdddagngaaArg
namespace Go.Proofs.Ytaoipmdddagngaa
open Go.RowKit

/-- Numbers that came in. -/
def RdI (w : World) (a : Option Addr) (n : Nat) (k : IntKind) (f : Nat → Int) : Prop := 0 < n → ∃ b off, a = some ⟨b, off, none⟩ ∧ ∀ i, i < n → w.cell? ⟨b, off + i, none⟩ = some (.int k (f i))
theorem Elems.ints {P : Program} {w : World} {e len : Nat} {a : Option Addr} {k : IntKind} (hu : P.underlying e = some (.int k)) (h : Elems P w e 1 a len) : ∃ f, RdI w a len k f ∧ ∀ i, i < len → (Lit.int k (f i)).wf = true := by
  by_cases hl : 0 < len
  · obtain ⟨b, off, rfl, hE⟩ := h hl
    have hx : ∀ i, i < len → ∃ n, w.cell? ⟨b, off + i, none⟩ = some (.int k n) ∧ (Lit.int k n).wf = true := fun i hi => by
      obtain ⟨cs, hc, hr, hT⟩ := hE i hi
      match cs, hc with
      | [x], _ =>
        obtain ⟨n, rfl, hw⟩ := Tree.int hu hT
        have := hr 0 _ rfl
        rw [Nat.mul_one, Nat.add_zero] at this
        exact ⟨n, this, hw⟩
    refine ⟨fun i => if h : i < len then Classical.choose (hx i h) else 0, fun _ => ⟨b, off, rfl, fun i hi => ?_⟩, fun i hi => ?_⟩
    · dsimp only; rw [dif_pos hi]; exact (Classical.choose_spec (hx i hi)).1
    · dsimp only; rw [dif_pos hi]; exact (Classical.choose_spec (hx i hi)).2
  · exact ⟨fun _ => 0, fun h => absurd h hl, fun i hi => absurd hi (by omega)⟩
section
variable {p : Nat → Prop} {w0 w : World} {gC : Nat} {now : Int} {R : List Ent} {d : Ck} {S : List (Int × Int)}
/-- Something is due: the first of all comes. -/
theorem Next_any (hS : St p w0 w (d.L gC now R)) (u : Int) (hb : Bag d S) (h0 : S ≠ []) (hu : ∀ z ∈ S, z.2 ≤ till now u) :
    Calls Try.prog 10 #[.pointer (some ⟨gC, 0, none⟩), .int .i64 u] w fun e' w' => ∃ d' x t S', e' = .returned (.tuple #[.int .i64 x, .bool true]) ∧ S.Perm ((x, t) :: S') ∧ (∀ z ∈ S, ¬ ltp z (x, t)) ∧ Bag d' S' ∧ St p w0 w' (d'.L gC t R) := by
  obtain ⟨e, B', hh⟩ : ∃ e B', d.hs = e :: B' := by
    have := hb.len
    match d.hs, this with
    | [], h => exact absurd (List.length_eq_zero_iff.1 h.symm) h0
    | e :: B', _ => exact ⟨e, B', rfl⟩
  obtain ⟨f1, f2⟩ := hb.first hh
  refine (Next_k hS hb.1 u hh (hu _ f1)).mono ?_
  rintro e' w' ⟨d', rfl, hd, hp, hS'⟩
  refine ⟨d', e.name, e.time, d'.hs.map nt, rfl, ?_, f2, ⟨hd, List.Perm.refl _⟩, hS'⟩
  refine (((hp.map nt).trans hb.2).symm).trans ?_
  simp only [List.map_append, List.map_cons, List.map_nil]
  exact List.perm_append_comm (l₂ := [nt e])
theorem Bag.names (h : Bag d S) : (S.map (·.1)).Nodup := by
  have h1 := h.1.nms
  have h2 := (h.2.map (·.1)).nodup_iff.1 (by rw [List.map_map]; exact h1)
  exact h2
end
theorem ck_rot {gC : Nat} {now : Int} {d : Ck} {X : Ent} : (d.L gC now [X]).Perm (X :: d.L gC now []) := by
  unfold Ck.L clkL
  have e : ∀ (X Y Z : Ent) (E F : List Ent), (E ++ (F ++ (Y :: Z :: [X]))).Perm (X :: (E ++ (F ++ (Y :: [Z])))) := fun X Y Z E F => by
    rw [show E ++ (F ++ (Y :: Z :: [X])) = (E ++ (F ++ (Y :: [Z]))) ++ [X] by simp]
    exact List.perm_append_comm
  exact e _ _ _ _ _
def sortS (T : Nat → Int) (i : Nat) : List (Int × Int) := (List.range i).map fun k : Nat => ((k : Int), T k)
theorem sortS_succ (T : Nat → Int) (i : Nat) : sortS T (i + 1) = sortS T i ++ [((i : Int), T i)] := by simp [sortS, List.range_succ]
theorem sortS_mem {T : Nat → Int} {i : Nat} {y : Int × Int} (h : y ∈ sortS T i) : ∃ k : Nat, k < i ∧ y = ((k : Int), T k) := by
  obtain ⟨k, hk, rfl⟩ := List.mem_map.1 h
  exact ⟨k, List.mem_range.1 hk, rfl⟩
structure SoI where
  d : Ck
  j : Nat
  S : List (Int × Int)
  last : Int
  now : Int
  es : Array MapEntry
  cl : Nat
  m : Value → Option Value
structure SoI.Ok (x : SoI) (T : Nat → Int) (n : Nat) : Prop where
  bag : Bag x.d x.S
  len : x.S.length + x.j = n
  mem : ∀ z ∈ x.S, ∃ k : Nat, k < n ∧ z = ((k : Int), T k)
  last : x.last = -1 ∨ (0 ≤ x.last ∧ x.last ≤ 1000)
  ahead : 0 ≤ x.last → x.last.toNat < n ∧ ∀ z ∈ x.S, ¬ ltp z (x.last, T x.last.toNat)
  now : x.now ≤ 255
  map : IMap (KInt .i64) x.es x.m
  fresh : ∀ z ∈ x.S, x.m (.int .i64 z.1) = none
set_option maxHeartbeats 2000000 in
theorem ClockSorts_c (w : World) (a : Option Addr) (n cap : Nat) (f : Nat → Int) (hr : RdI w a n .i64 f) (hc : n ≤ cap) : Calls Try.prog 3 #[.slice a n cap] w fun e w' => e = .returned (.bool true) ∧ Frm (fun _ => False) w w' := by
  obtain ⟨b, off, hb, hcell⟩ : ∃ b off, (0 < n → a = some ⟨b, off, none⟩) ∧ ∀ i, i < n → w.cell? ⟨b, off + i, none⟩ = some (.int .i64 (f i)) := by
    by_cases h : 0 < n
    · obtain ⟨b, off, h1, h2⟩ := hr h; exact ⟨b, off, fun _ => h1, h2⟩
    · exact ⟨0, 0, fun h' => absurd h' h, fun i hi => absurd hi (by omega)⟩
  have hcell' : ∀ i, i < n → w.cell? ⟨b, off + i * 1, none⟩ = some (.int .i64 (f i)) := fun i hi => by rw [Nat.mul_one]; exact hcell i hi
  refine enter Try.func3 rfl Try.ntmps3 rfl (St.start (fun _ => False) w) ?_
  refine WC.seq ?_
  refine WC.region ?_
  refine WL.val (v_assign rfl rfl) (.none rfl) rfl rfl ?_
  refine WL.nil ?_
  refine WE.then_n ?_
  refine WC.seq ?_
  refine WC.seq ?_
  refine WC.region ?_
  refine WL.call rfl rfl ck_7 (.none rfl) rfl rfl ?_
  intro w hS
  refine Calls.then (ckhead_c w) hS ?_
  refine WL.val (v_not rfl rfl rfl) (.none rfl) rfl rfl ?_
  refine WL.nil ?_
  refine WE.then_n ?_
  refine WC.cond_f rfl ?_
  refine WC.skip ?_
  refine WE.then_n ?_
  refine WC.seq ?_
  refine WC.seq ?_
  refine WC.region ?_
  refine WL.val (v_move rfl rfl) (.none rfl) rfl rfl ?_
  refine WL.val (v_len_slice rfl rfl Try.underlying22) (.none rfl) rfl rfl ?_
  refine WL.test (v_gtr rfl rfl rfl) (.none rfl) rfl rfl (fun h14 => ?_) (fun h14 => ?_)
  · -- 14T
    refine WL.nil ?_
    refine WE.then_n ?_
    refine WC.cond_t rfl ?_
    refine WC.seq ?_
    refine WC.region ?_
    refine WL.val (v_assign rfl rfl) (.none rfl) rfl rfl ?_
    refine WL.nil ?_
    refine WE.then_n ?_
    refine WC.ret ?_
    refine WE.then_ret ?_
    refine WE.ret1 (P := Try.prog) (.inl rfl) Try.results3 rfl ?_
    exact fun w' h => ⟨rfl, h.frm⟩
  · -- 14F
    refine WL.nil ?_
    refine WE.then_n ?_
    refine WC.cond_f rfl ?_
    refine WC.skip ?_
    refine WE.then_n ?_
    refine WC.seq ?_
    refine WC.region ?_
    refine WL.call rfl rfl ck_8 (.none rfl) rfl rfl ?_
    intro w1 hS
    refine (New_b hS).mono ?_
    rintro e w' ⟨gC, d0, rfl, hb0, hS'⟩
    refine ⟨_, _, rfl, hS', ?_⟩
    refine WL.val (v_assign rfl rfl) (.none rfl) rfl rfl ?_
    refine WL.nil ?_
    refine WE.then_n ?_
    refine WC.seq ?_
    refine WC.seq ?_
    refine WC.region ?_
    refine WL.val (v_move rfl rfl) (.none rfl) rfl rfl ?_
    refine WL.val (v_len_slice rfl rfl Try.underlying22) (.none rfl) rfl rfl ?_
    refine WL.val (v_move rfl rfl) (.none rfl) rfl rfl ?_
    refine WL.nil ?_
    refine WE.then_n ?_
    refine WC.block ?_
    refine WC.loop (fun x : Ck × Nat => [(18, .int .i64 x.2), (17, .int .i64 n), (16, .slice a n cap), (3, .pointer (some ⟨gC, 0, none⟩)), (0, .slice a n cap)]) (fun x => x.1.L gC 0 []) (fun x => Bag x.1 (sortS (fun k => f k % 256) x.2) ∧ x.2 ≤ n) (fun x => n - x.2) (d0, 0) ⟨hb0, Nat.zero_le _⟩ (.cons rfl (.cons rfl (.cons rfl (.cons rfl (.cons rfl .nil))))) (.refl _) ?_
    rintro ⟨d, i⟩ ⟨hbg, hi⟩
    dsimp only at hbg hi
    dsimp only
    refine WC.seq ?_
    refine WC.region ?_
    refine WL.test (v_lss rfl rfl rfl) (.none rfl) rfl rfl (fun h19 => ?_) (fun h19 => ?_)
    · -- 19T
      refine WL.nil ?_
      refine WE.then_n ?_
      refine WC.seq ?_
      refine WC.cond_t rfl ?_
      refine WC.skip ?_
      refine WE.then_n ?_
      refine WC.seq ?_
      refine WC.block ?_
      refine WC.seq ?_
      refine WC.region ?_
      refine WL.val (v_move rfl rfl) (.none rfl) rfl rfl ?_
      refine WL.val (v_indexAddr (b := b) (off := off) (lo := i) rfl (by rw [← hb (by omega)]; rfl) rfl Try.underlying22 sz_3 rfl (by omega)) (.none rfl) rfl rfl ?_
      refine WL.val (v_load1 rfl rfl one_3 (cellOld (fun h => h) (hcell' i (by omega)))) (.none rfl) rfl rfl ?_
      refine WL.val (v_assign rfl rfl) (.none rfl) rfl rfl ?_
      refine WL.val (v_assign rfl rfl) (.none rfl) rfl rfl ?_
      refine WL.nil ?_
      refine WE.then_n ?_
      refine WC.seq ?_
      refine WC.region ?_
      refine WL.val (v_move rfl rfl) (.none rfl) rfl rfl ?_
      refine WL.val (v_move rfl rfl) (.none rfl) rfl rfl ?_
      refine WL.val (v_move rfl rfl) (.none rfl) rfl rfl ?_
      refine WL.val (v_and rfl rfl rfl (mask_i64' (i := 8) (m := 256) (by decide) (by decide) (by decide))) (.none rfl) rfl rfl ?_
      refine WL.call rfl rfl ck_9 (.none rfl) rfl rfl ?_
      intro w1 hS
      refine (Set_b hS hbg i (f i % 256) (by omega) (by omega) (fun y hy => by obtain ⟨k, hk, rfl⟩ := sortS_mem hy; dsimp only; omega) (by simp [sortS]; omega)).mono ?_
      rintro e w' ⟨d', rfl, hb', hS'⟩
      rw [show sortS (fun k => f k % 256) i ++ [((i : Int), f i % 256)] = sortS (fun k => f k % 256) (i + 1) from (sortS_succ _ _).symm] at hb'
      refine ⟨_, _, rfl, hS', ?_⟩
      refine WL.val ((v_neq rfl rfl rfl).f (by omega)) (.none rfl) rfl rfl ?_
      refine WL.nil ?_
      refine WE.then_n ?_
      refine WC.cond_f rfl ?_
      refine WC.skip ?_
      refine WE.block_n ?_
      refine WE.then_n ?_
      refine WC.region ?_
      refine WL.val (v_add rfl rfl rfl (w_i64 (by omega) (by omega))) (.none rfl) rfl rfl ?_
      refine WL.val (v_move rfl rfl) (.none rfl) rfl rfl ?_
      refine WL.nil ?_
      exact WE.next (d', i + 1) (by dsimp only; omega) ⟨hb', by dsimp only; omega⟩ (.int rfl (by dsimp only; omega) (.cons rfl (.cons rfl (.cons rfl (.cons rfl .nil))))) (.refl _)
    · -- 19F
      refine WL.nil ?_
      refine WE.then_n ?_
      refine WC.seq ?_
      refine WC.cond_f rfl ?_
      refine WC.exit ?_
      refine WE.then_exit ?_
      refine WE.then_exit ?_
      refine WE.block_hit ?_
      refine WE.then_n ?_
      refine WC.seq ?_
      refine WC.region ?_
      refine WL.val (v_assign rfl rfl) (.none rfl) rfl rfl ?_
      refine WL.nil ?_
      refine WE.then_n ?_
      refine WC.seq ?_
      refine WC.region ?_
      refine WL.makeMap rfl (.none rfl) rfl rfl ?_
      intro g30 hg30
      refine WL.val (v_assign rfl rfl) (.none rfl) rfl rfl ?_
      refine WL.nil ?_
      refine WE.then_n ?_
      refine WC.seq ?_
      refine WC.seq ?_
      refine WC.region ?_
      refine WL.val (v_move rfl rfl) (.none rfl) rfl rfl ?_
      refine WL.val (v_len_slice rfl rfl Try.underlying22) (.none rfl) rfl rfl ?_
      refine WL.val (v_move rfl rfl) (.none rfl) rfl rfl ?_
      refine WL.nil ?_
      refine WE.then_n ?_
      refine WC.block ?_
      refine WC.loop (fun x : SoI => [(33, .int .i64 x.j), (32, .int .i64 n), (3, .pointer (some ⟨gC, 0, none⟩)), (0, .slice a n cap), (6, .int .i64 x.last), (7, .map (some g30))]) (fun x => .obj g30 (.map x.es x.cl) :: x.d.L gC x.now []) (fun x => x.Ok (fun k => f k % 256) n) (fun x => n - x.j) ⟨d, 0, sortS (fun k => f k % 256) i, -1, 0, #[], 0, fun _ => none⟩ ⟨hbg, by simp [sortS]; omega, fun z hz => by obtain ⟨k, hk, e⟩ := sortS_mem hz; exact ⟨k, by omega, e⟩, .inl rfl, fun h => absurd h (by dsimp only; omega), by dsimp only; omega, IMap.empty _, fun _ _ => rfl⟩ (.cons rfl (.cons rfl (.cons rfl (.cons rfl (.cons rfl (.cons rfl .nil)))))) (.refl _) ?_
      rintro ⟨d, j, S, last, now, es, cl, m⟩ hI
      obtain ⟨i1, i2, i3, i4, i5, i6, i7, i8⟩ := hI
      dsimp only at i1 i2 i3 i4 i5 i6 i7 i8
      dsimp only
      refine WC.seq ?_
      refine WC.region ?_
      refine WL.test (v_lss rfl rfl rfl) (.none rfl) rfl rfl (fun h34 => ?_) (fun h34 => ?_)
      · -- 34T
        refine WL.nil ?_
        refine WE.then_n ?_
        refine WC.seq ?_
        refine WC.cond_t rfl ?_
        refine WC.skip ?_
        refine WE.then_n ?_
        refine WC.seq ?_
        refine WC.block ?_
        refine WC.seq ?_
        refine WC.region ?_
        refine WL.val (v_move rfl rfl) (.none rfl) rfl rfl ?_
        refine WL.call rfl rfl ck_10 (.none rfl) rfl rfl ?_
        intro w1 hS
        have hS2 : St (fun _ => False) _ w1 (d.L gC now [.obj g30 (.map es cl)]) := hS.perm ck_rot
        have ht : till now 255 = 255 := (till_eq (by omega) (by omega))
        refine (Next_any hS2 255 i1 (by intro h; subst h; simp at i2; omega) (by intro z hz; obtain ⟨k, hk, rfl⟩ := i3 z hz; rw [ht]; dsimp only; omega)).mono ?_
        rintro e w' ⟨d', x, t, S', rfl, hp, hmin, hb', hS'⟩
        obtain ⟨k, hk, hxt⟩ := i3 (x, t) (hp.symm.subset (by simp))
        simp only [Prod.mk.injEq] at hxt
        obtain ⟨rfl, rfl⟩ := hxt
        have hin : ((k : Int), f k % 256) ∈ S := hp.symm.subset (by simp)
        have hfr := i8 _ hin
        dsimp only at hfr
        refine ⟨_, .obj g30 (.map es cl) :: d'.L gC (f k % 256) [], rfl, hS'.perm ck_rot.symm, ?_⟩
        refine WL.val (v_move rfl rfl) (.none rfl) rfl rfl ?_
        refine WL.val (v_extract rfl rfl rfl) (.none rfl) rfl rfl ?_
        refine WL.val (v_extract rfl rfl rfl) (.none rfl) rfl rfl ?_
        refine WL.val (v_assign rfl rfl) (.none rfl) rfl rfl ?_
        refine WL.val (v_assign rfl rfl) (.none rfl) rfl rfl ?_
        refine WL.nil ?_
        refine WE.then_n ?_
        refine WC.seq ?_
        refine WC.seq ?_
        refine WC.quiet mixed (by kernel_rfl) ?_
        refine WQ.val (v_move rfl rfl) (.none rfl) rfl rfl ?_
        refine WQ.val (v_not rfl rfl rfl) (.none rfl) rfl rfl ?_
        refine WQ.val (v_move rfl rfl) (.none rfl) rfl rfl ?_
        refine WQ.val (v_move rfl rfl) (.some rfl rfl rfl) rfl rfl ?_
        refine WQ.val ((v_lss rfl rfl rfl).f (by omega)) (.some rfl rfl rfl) rfl rfl ?_
        refine WQ.val (v_pick_f rfl rfl rfl) (.none rfl) rfl rfl ?_
        refine WQ.val (v_move rfl rfl) (.none rfl) rfl rfl ?_
        refine WQ.val (v_move rfl rfl) (.some rfl rfl rfl) rfl rfl ?_
        refine WQ.val (v_move rfl rfl) (.some rfl rfl rfl) rfl rfl ?_
        refine WQ.val (v_len_slice rfl rfl Try.underlying22) (.some rfl rfl rfl) rfl rfl ?_
        refine WQ.val ((v_geq rfl rfl rfl).f (by omega)) (.some rfl rfl rfl) rfl rfl ?_
        refine WQ.val (v_pick_f rfl rfl rfl) (.none rfl) rfl rfl ?_
        refine WQ.val (v_move rfl rfl) (.none rfl) rfl rfl ?_
        refine WQ.val (v_move rfl rfl) (.some rfl rfl rfl) rfl rfl ?_
        refine WQ.val (v_move rfl rfl) (.some rfl rfl rfl) rfl rfl ?_
        refine WQ.val ((v_lookup rfl rfl rfl Try.underlying28 (keyI Try.underlying3) (KInt.mk _ _) rfl (mapBlk (es := es) (c := cl) g30 (by simp)) i7).eq (v := .bool false) (by rw [hfr]; rfl)) (.some rfl rfl rfl) rfl rfl ?_
        refine WQ.val (v_pick_f rfl rfl rfl) (.none rfl) rfl rfl ?_
        refine WQ.val (v_move rfl rfl) (.none rfl) rfl rfl ?_
        refine WQ.val (v_move rfl rfl) (.some rfl rfl rfl) rfl rfl ?_
        refine WQ.call _ rfl rfl ck_11 (.some rfl rfl rfl) rfl rfl (fun w hS => Calls.still (Now_b hS.tail) hS) ?_
        refine WQ.val (v_move rfl rfl) (.some rfl rfl rfl) rfl rfl ?_
        refine WQ.val (v_move rfl rfl) (.some rfl rfl rfl) rfl rfl ?_
        refine WQ.val (v_indexAddr (b := b) (off := off) (lo := k) rfl (by rw [← hb (by omega)]; rfl) rfl Try.underlying22 sz_3 rfl (by omega)) (.some rfl rfl rfl) rfl rfl ?_
        refine WQ.val (v_load1 rfl rfl one_3 (cellOld (fun h => h) (hcell' k (by omega)))) (.some rfl rfl rfl) rfl rfl ?_
        refine WQ.val (v_and rfl rfl rfl (mask_i64' (i := 8) (m := 256) (by decide) (by decide) (by decide))) (.some rfl rfl rfl) rfl rfl ?_
        refine WQ.val ((v_neq rfl rfl rfl).f (fun h => h rfl)) (.some rfl rfl rfl) rfl rfl ?_
        refine WQ.val (v_pick_f rfl rfl rfl) (.none rfl) rfl rfl ?_
        refine WQ.nil ?_
        refine WE.then_n ?_
        refine WC.cond_f rfl ?_
        refine WC.skip ?_
        refine WE.then_n ?_
        refine WC.seq ?_
        refine WC.seq ?_
        refine WC.quiet mixed (by kernel_rfl) ?_
        refine WQ.val (v_move rfl rfl) (.none rfl) rfl rfl ?_
        refine WQ.test (v_geq rfl rfl rfl) (.none rfl) rfl rfl (fun h68 => ?_) (fun h68 => ?_)
        · -- 68T
          refine WQ.val (v_move rfl rfl) (.none rfl) rfl rfl ?_
          refine WQ.val (v_move rfl rfl) (.some rfl rfl rfl) rfl rfl ?_
          refine WQ.val (v_move rfl rfl) (.some rfl rfl rfl) rfl rfl ?_
          refine WQ.val (v_indexAddr (b := b) (off := off) (lo := last.toNat) rfl (by rw [← hb (by omega)]; rfl) rfl Try.underlying22 sz_3 (by omega) (i5 h68).1) (.some rfl rfl rfl) rfl rfl ?_
          refine WQ.val (v_load1 rfl rfl one_3 (cellOld (fun h => h) (hcell' _ (i5 h68).1))) (.some rfl rfl rfl) rfl rfl ?_
          refine WQ.val (v_and rfl rfl rfl (mask_i64' (i := 8) (m := 256) (by decide) (by decide) (by decide))) (.some rfl rfl rfl) rfl rfl ?_
          refine WQ.val (v_move rfl rfl) (.some rfl rfl rfl) rfl rfl ?_
          refine WQ.val (v_move rfl rfl) (.some rfl rfl rfl) rfl rfl ?_
          refine WQ.val (v_indexAddr (b := b) (off := off) (lo := k) rfl (by rw [← hb (by omega)]; rfl) rfl Try.underlying22 sz_3 rfl (by omega)) (.some rfl rfl rfl) rfl rfl ?_
          refine WQ.val (v_load1 rfl rfl one_3 (cellOld (fun h => h) (hcell' k (by omega)))) (.some rfl rfl rfl) rfl rfl ?_
          refine WQ.val (v_and rfl rfl rfl (mask_i64' (i := 8) (m := 256) (by decide) (by decide) (by decide))) (.some rfl rfl rfl) rfl rfl ?_
          refine WQ.val ((v_gtr rfl rfl rfl).f (by have := (i5 h68).2 _ hin; unfold ltp at this; dsimp only at this; omega)) (.some rfl rfl rfl) rfl rfl ?_
          refine WQ.val (v_move rfl rfl) (.some rfl rfl rfl) rfl rfl ?_
          refine WQ.val (v_move rfl rfl) (.some rfl rfl rfl) rfl rfl ?_
          refine WQ.val (v_move rfl rfl) (.some rfl rfl rfl) rfl rfl ?_
          refine WQ.val (v_indexAddr (b := b) (off := off) (lo := last.toNat) rfl (by rw [← hb (by omega)]; rfl) rfl Try.underlying22 sz_3 (by omega) (i5 h68).1) (.some rfl rfl rfl) rfl rfl ?_
          refine WQ.val (v_load1 rfl rfl one_3 (cellOld (fun h => h) (hcell' _ (i5 h68).1))) (.some rfl rfl rfl) rfl rfl ?_
          refine WQ.val (v_and rfl rfl rfl (mask_i64' (i := 8) (m := 256) (by decide) (by decide) (by decide))) (.some rfl rfl rfl) rfl rfl ?_
          refine WQ.val (v_move rfl rfl) (.some rfl rfl rfl) rfl rfl ?_
          refine WQ.val (v_move rfl rfl) (.some rfl rfl rfl) rfl rfl ?_
          refine WQ.val (v_indexAddr (b := b) (off := off) (lo := k) rfl (by rw [← hb (by omega)]; rfl) rfl Try.underlying22 sz_3 rfl (by omega)) (.some rfl rfl rfl) rfl rfl ?_
          refine WQ.val (v_load1 rfl rfl one_3 (cellOld (fun h => h) (hcell' k (by omega)))) (.some rfl rfl rfl) rfl rfl ?_
          refine WQ.val (v_and rfl rfl rfl (mask_i64' (i := 8) (m := 256) (by decide) (by decide) (by decide))) (.some rfl rfl rfl) rfl rfl ?_
          refine WQ.test (v_eql rfl rfl rfl) (.some rfl rfl rfl) rfl rfl (fun h92 => ?_) (fun h92 => ?_)
          · -- 92T
            refine WQ.val (v_move rfl rfl) (.some rfl rfl rfl) rfl rfl ?_
            refine WQ.val (v_move rfl rfl) (.some rfl rfl rfl) rfl rfl ?_
            refine WQ.val (v_move rfl rfl) (.some rfl rfl rfl) rfl rfl ?_
            refine WQ.val ((v_gtr rfl rfl rfl).f (by have := (i5 h68).2 _ hin; unfold ltp at this; dsimp only at this; omega)) (.some rfl rfl rfl) rfl rfl ?_
            refine WQ.val (v_pick_t rfl rfl rfl) (.some rfl rfl rfl) rfl rfl ?_
            refine WQ.val (v_pick_f rfl rfl rfl) (.some rfl rfl rfl) rfl rfl ?_
            refine WQ.val (v_pick_t rfl rfl rfl) (.none rfl) rfl rfl ?_
            refine WQ.nil ?_
            refine WE.then_n ?_
            refine WC.cond_f rfl ?_
            refine WC.skip ?_
            refine WE.then_n ?_
            refine WC.seq ?_
            refine WC.region ?_
            refine WL.val (v_move rfl rfl) (.none rfl) rfl rfl ?_
            refine WL.val (v_move rfl rfl) (.none rfl) rfl rfl ?_
            refine WL.mapUpdate rfl rfl rfl rfl Try.underlying28 (keyI Try.underlying3) (KInt.mk _ _) i7 (.none rfl) rfl ?_
            intro esU cU hMU hsU
            refine WL.nil ?_
            refine WE.then_n ?_
            refine WC.region ?_
            refine WL.val (v_move rfl rfl) (.none rfl) rfl rfl ?_
            refine WL.val (v_assign rfl rfl) (.none rfl) rfl rfl ?_
            refine WL.nil ?_
            refine WE.block_n ?_
            refine WE.then_n ?_
            refine WC.region ?_
            refine WL.val (v_add rfl rfl rfl (w_i64 (by omega) (by omega))) (.none rfl) rfl rfl ?_
            refine WL.val (v_move rfl rfl) (.none rfl) rfl rfl ?_
            refine WL.nil ?_
            refine WE.next ⟨d', j + 1, S', k, f k % 256, esU, cU, updM m (.int .i64 k) (some (.bool true))⟩ (by dsimp only; omega) ⟨hb', ?_, fun z hz => i3 z (hp.symm.subset (List.mem_cons_of_mem _ hz)), .inr ⟨by dsimp only; omega, by dsimp only; have := i1.len; have := i1.1.len; omega⟩, fun _ => ⟨by dsimp only; omega, fun z hz => hmin z (hp.symm.subset (List.mem_cons_of_mem _ hz))⟩, by dsimp only; omega, hMU, ?_⟩ (.int rfl (by dsimp only; omega) (.cons rfl (.cons rfl (.cons rfl (.cons rfl (.cons rfl .nil)))))) (.refl _)
            · have := hp.length_eq; simp only [List.length_cons] at this; dsimp only; omega
            · intro z hz
              have hnd := (hp.map (·.1)).nodup_iff.1 i1.names
              simp only [List.map_cons, List.nodup_cons] at hnd
              dsimp only
              rw [updM_ne _ _ (fun e => hnd.1 (by simp only [Value.int.injEq, true_and] at e; rw [← e]; exact List.mem_map_of_mem hz))]
              exact i8 z (hp.symm.subset (List.mem_cons_of_mem _ hz))
          · -- 92F
            refine WQ.val (v_move rfl rfl) (.some rfl rfl rfl) rfl rfl ?_
            refine WQ.skip rfl rfl rfl rfl rfl rfl ?_
            refine WQ.skip rfl rfl rfl rfl rfl rfl ?_
            refine WQ.skip rfl rfl rfl rfl rfl rfl ?_
            refine WQ.val (v_pick_f rfl rfl rfl) (.some rfl rfl rfl) rfl rfl ?_
            refine WQ.val (v_pick_f rfl rfl rfl) (.some rfl rfl rfl) rfl rfl ?_
            refine WQ.val (v_pick_t rfl rfl rfl) (.none rfl) rfl rfl ?_
            refine WQ.nil ?_
            refine WE.then_n ?_
            refine WC.cond_f rfl ?_
            refine WC.skip ?_
            refine WE.then_n ?_
            refine WC.seq ?_
            refine WC.region ?_
            refine WL.val (v_move rfl rfl) (.none rfl) rfl rfl ?_
            refine WL.val (v_move rfl rfl) (.none rfl) rfl rfl ?_
            refine WL.mapUpdate rfl rfl rfl rfl Try.underlying28 (keyI Try.underlying3) (KInt.mk _ _) i7 (.none rfl) rfl ?_
            intro esU cU hMU hsU
            refine WL.nil ?_
            refine WE.then_n ?_
            refine WC.region ?_
            refine WL.val (v_move rfl rfl) (.none rfl) rfl rfl ?_
            refine WL.val (v_assign rfl rfl) (.none rfl) rfl rfl ?_
            refine WL.nil ?_
            refine WE.block_n ?_
            refine WE.then_n ?_
            refine WC.region ?_
            refine WL.val (v_add rfl rfl rfl (w_i64 (by omega) (by omega))) (.none rfl) rfl rfl ?_
            refine WL.val (v_move rfl rfl) (.none rfl) rfl rfl ?_
            refine WL.nil ?_
            refine WE.next ⟨d', j + 1, S', k, f k % 256, esU, cU, updM m (.int .i64 k) (some (.bool true))⟩ (by dsimp only; omega) ⟨hb', ?_, fun z hz => i3 z (hp.symm.subset (List.mem_cons_of_mem _ hz)), .inr ⟨by dsimp only; omega, by dsimp only; have := i1.len; have := i1.1.len; omega⟩, fun _ => ⟨by dsimp only; omega, fun z hz => hmin z (hp.symm.subset (List.mem_cons_of_mem _ hz))⟩, by dsimp only; omega, hMU, ?_⟩ (.int rfl (by dsimp only; omega) (.cons rfl (.cons rfl (.cons rfl (.cons rfl (.cons rfl .nil)))))) (.refl _)
            · have := hp.length_eq; simp only [List.length_cons] at this; dsimp only; omega
            · intro z hz
              have hnd := (hp.map (·.1)).nodup_iff.1 i1.names
              simp only [List.map_cons, List.nodup_cons] at hnd
              dsimp only
              rw [updM_ne _ _ (fun e => hnd.1 (by simp only [Value.int.injEq, true_and] at e; rw [← e]; exact List.mem_map_of_mem hz))]
              exact i8 z (hp.symm.subset (List.mem_cons_of_mem _ hz))
        · -- 68F
          refine WQ.val (v_move rfl rfl) (.none rfl) rfl rfl ?_
          refine WQ.skip rfl rfl rfl rfl rfl rfl ?_
          refine WQ.skip rfl rfl rfl rfl rfl rfl ?_
          refine WQ.skip rfl rfl rfl rfl rfl rfl ?_
          refine WQ.skip rfl rfl rfl rfl rfl rfl ?_
          refine WQ.skip rfl rfl rfl rfl rfl rfl ?_
          refine WQ.skip rfl rfl rfl rfl rfl rfl ?_
          refine WQ.skip rfl rfl rfl rfl rfl rfl ?_
          refine WQ.skip rfl rfl rfl rfl rfl rfl ?_
          refine WQ.skip rfl rfl rfl rfl rfl rfl ?_
          refine WQ.skip rfl rfl rfl rfl rfl rfl ?_
          refine WQ.skip rfl rfl rfl rfl rfl rfl ?_
          refine WQ.skip rfl rfl rfl rfl rfl rfl ?_
          refine WQ.skip rfl rfl rfl rfl rfl rfl ?_
          refine WQ.skip rfl rfl rfl rfl rfl rfl ?_
          refine WQ.skip rfl rfl rfl rfl rfl rfl ?_
          refine WQ.skip rfl rfl rfl rfl rfl rfl ?_
          refine WQ.skip rfl rfl rfl rfl rfl rfl ?_
          refine WQ.skip rfl rfl rfl rfl rfl rfl ?_
          refine WQ.skip rfl rfl rfl rfl rfl rfl ?_
          refine WQ.skip rfl rfl rfl rfl rfl rfl ?_
          refine WQ.skip rfl rfl rfl rfl rfl rfl ?_
          refine WQ.skip rfl rfl rfl rfl rfl rfl ?_
          refine WQ.skip rfl rfl rfl rfl rfl rfl ?_
          refine WQ.skip rfl rfl rfl rfl rfl rfl ?_
          refine WQ.skip rfl rfl rfl rfl rfl rfl ?_
          refine WQ.skip rfl rfl rfl rfl rfl rfl ?_
          refine WQ.skip rfl rfl rfl rfl rfl rfl ?_
          refine WQ.skip rfl rfl rfl rfl rfl rfl ?_
          refine WQ.skip rfl rfl rfl rfl rfl rfl ?_
          refine WQ.val (v_pick_f rfl rfl rfl) (.none rfl) rfl rfl ?_
          refine WQ.nil ?_
          refine WE.then_n ?_
          refine WC.cond_f rfl ?_
          refine WC.skip ?_
          refine WE.then_n ?_
          refine WC.seq ?_
          refine WC.region ?_
          refine WL.val (v_move rfl rfl) (.none rfl) rfl rfl ?_
          refine WL.val (v_move rfl rfl) (.none rfl) rfl rfl ?_
          refine WL.mapUpdate rfl rfl rfl rfl Try.underlying28 (keyI Try.underlying3) (KInt.mk _ _) i7 (.none rfl) rfl ?_
          intro esU cU hMU hsU
          refine WL.nil ?_
          refine WE.then_n ?_
          refine WC.region ?_
          refine WL.val (v_move rfl rfl) (.none rfl) rfl rfl ?_
          refine WL.val (v_assign rfl rfl) (.none rfl) rfl rfl ?_
          refine WL.nil ?_
          refine WE.block_n ?_
          refine WE.then_n ?_
          refine WC.region ?_
          refine WL.val (v_add rfl rfl rfl (w_i64 (by omega) (by omega))) (.none rfl) rfl rfl ?_
          refine WL.val (v_move rfl rfl) (.none rfl) rfl rfl ?_
          refine WL.nil ?_
          refine WE.next ⟨d', j + 1, S', k, f k % 256, esU, cU, updM m (.int .i64 k) (some (.bool true))⟩ (by dsimp only; omega) ⟨hb', ?_, fun z hz => i3 z (hp.symm.subset (List.mem_cons_of_mem _ hz)), .inr ⟨by dsimp only; omega, by dsimp only; have := i1.len; have := i1.1.len; omega⟩, fun _ => ⟨by dsimp only; omega, fun z hz => hmin z (hp.symm.subset (List.mem_cons_of_mem _ hz))⟩, by dsimp only; omega, hMU, ?_⟩ (.int rfl (by dsimp only; omega) (.cons rfl (.cons rfl (.cons rfl (.cons rfl (.cons rfl .nil)))))) (.refl _)
          · have := hp.length_eq; simp only [List.length_cons] at this; dsimp only; omega
          · intro z hz
            have hnd := (hp.map (·.1)).nodup_iff.1 i1.names
            simp only [List.map_cons, List.nodup_cons] at hnd
            dsimp only
            rw [updM_ne _ _ (fun e => hnd.1 (by simp only [Value.int.injEq, true_and] at e; rw [← e]; exact List.mem_map_of_mem hz))]
            exact i8 z (hp.symm.subset (List.mem_cons_of_mem _ hz))
      · -- 34F
        refine WL.nil ?_
        refine WE.then_n ?_
        refine WC.seq ?_
        refine WC.cond_f rfl ?_
        refine WC.exit ?_
        refine WE.then_exit ?_
        refine WE.then_exit ?_
        refine WE.block_hit ?_
        refine WE.then_n ?_
        refine WC.seq ?_
        refine WC.region ?_
        refine WL.val (v_move rfl rfl) (.none rfl) rfl rfl ?_
        refine WL.call rfl rfl ck_12 (.none rfl) rfl rfl ?_
        intro w hS
        refine Calls.then (Len_b hS.tail i1) hS ?_
        refine WL.val ((v_eql rfl rfl rfl).t (by omega)) (.none rfl) rfl rfl ?_
        refine WL.val (v_assign rfl rfl) (.none rfl) rfl rfl ?_
        refine WL.nil ?_
        refine WE.then_n ?_
        refine WC.ret ?_
        refine WE.ret1 (P := Try.prog) (.inl rfl) Try.results3 rfl ?_
        exact fun w' h => ⟨rfl, h.frm⟩
end Go.Proofs.Ytaoipmdddagngaa
