/- The clock: Set, Next. -/
import Derived.Test.YtaoipmdddagngaaClkE
namespace Go.Proofs.Ytaoipmdddagngaa
open Go.RowKit

section
variable {p : Nat → Prop} {w0 w : World} {gC : Nat} {now : Int} {R : List Ent} {d : Ck}
theorem Set_nil (w : World) (x t : Int) : Calls Try.prog 9 #[.pointer none, .int .i64 x, .int .i64 t] w fun e w' => e = .returned (.int .i64 1) ∧ Frm (fun _ => False) w w' := by
  refine enter Try.func9 rfl Try.ntmps9 rfl (St.start (fun _ => False) w) ?_
  refine WC.seq ?_
  refine WC.region ?_
  refine WL.val (v_assign rfl rfl) (.none rfl) rfl rfl ?_
  refine WL.nil ?_
  refine WE.then_n ?_
  refine WC.seq ?_
  refine WC.seq ?_
  refine WC.region ?_
  refine WL.val (v_move rfl rfl) (.none rfl) rfl rfl ?_
  refine WL.val (v_eql_nil true rfl rfl Try.underlying24 rfl) (.none rfl) rfl rfl ?_
  refine WL.val (v_move rfl rfl) (.none rfl) rfl rfl ?_
  refine WL.skip rfl rfl rfl rfl rfl rfl ?_
  refine WL.skip rfl rfl rfl rfl rfl rfl ?_
  refine WL.skip rfl rfl rfl rfl rfl rfl ?_
  refine WL.skip rfl rfl rfl rfl rfl rfl ?_
  refine WL.skip rfl rfl rfl rfl rfl rfl ?_
  refine WL.skip rfl rfl rfl rfl rfl rfl ?_
  refine WL.val (v_pick_t rfl rfl rfl) (.none rfl) rfl rfl ?_
  refine WL.val (v_move rfl rfl) (.none rfl) rfl rfl ?_
  refine WL.skip rfl rfl rfl rfl rfl rfl ?_
  refine WL.skip rfl rfl rfl rfl rfl rfl ?_
  refine WL.val (v_pick_t rfl rfl rfl) (.none rfl) rfl rfl ?_
  refine WL.nil ?_
  refine WE.then_n ?_
  refine WC.cond_t rfl ?_
  refine WC.seq ?_
  refine WC.region ?_
  refine WL.val (v_assign rfl rfl) (.none rfl) rfl rfl ?_
  refine WL.nil ?_
  refine WE.then_n ?_
  refine WC.ret ?_
  refine WE.then_ret ?_
  refine WE.ret1 (P := Try.prog) (.inl rfl) Try.results9 rfl ?_
  exact fun w' h => ⟨rfl, h.frm⟩
theorem Set_x (hS : St p w0 w (d.L gC now R)) (x t : Int) (h : t < now ∨ 1073741824 < t) : Calls Try.prog 9 #[.pointer (some ⟨gC, 0, none⟩), .int .i64 x, .int .i64 t] w fun e w' => e = .returned (.int .i64 1) ∧ Frm (fun _ => False) w w' := by
  have hR := hS.row (g := gC)
  refine enter Try.func9 rfl Try.ntmps9 rfl (St.start (fun _ => False) w) ?_
  refine WC.seq ?_
  refine WC.region ?_
  refine WL.val (v_assign rfl rfl) (.none rfl) rfl rfl ?_
  refine WL.nil ?_
  refine WE.then_n ?_
  refine WC.seq ?_
  refine WC.seq ?_
  refine WC.region ?_
  refine WL.val (v_move rfl rfl) (.none rfl) rfl rfl ?_
  refine WL.val (v_eql_nil false rfl rfl Try.underlying24 rfl) (.none rfl) rfl rfl ?_
  refine WL.val (v_move rfl rfl) (.none rfl) rfl rfl ?_
  refine WL.val (v_move rfl rfl) (.some rfl rfl rfl) rfl rfl ?_
  refine WL.val (v_move rfl rfl) (.some rfl rfl rfl) rfl rfl ?_
  refine WL.val (v_nilCheck rfl rfl) (.some rfl rfl rfl) rfl rfl ?_
  refine WL.val (v_fieldAddr0 rfl rfl fld_46_0) (.some rfl rfl rfl) rfl rfl ?_
  refine WL.val (v_load1 rfl rfl one_3 (cellOld (fun h => h) (hR.cell rfl))) (.some rfl rfl rfl) rfl rfl ?_
  refine WL.test (v_lss rfl rfl rfl) (.some rfl rfl rfl) rfl rfl (fun h18 => ?_) (fun h18 => ?_)
  · -- 18T
    refine WL.val (v_pick_f rfl rfl rfl) (.none rfl) rfl rfl ?_
    refine WL.val (v_move rfl rfl) (.none rfl) rfl rfl ?_
    refine WL.skip rfl rfl rfl rfl rfl rfl ?_
    refine WL.skip rfl rfl rfl rfl rfl rfl ?_
    refine WL.val (v_pick_t rfl rfl rfl) (.none rfl) rfl rfl ?_
    refine WL.nil ?_
    refine WE.then_n ?_
    refine WC.cond_t rfl ?_
    refine WC.seq ?_
    refine WC.region ?_
    refine WL.val (v_assign rfl rfl) (.none rfl) rfl rfl ?_
    refine WL.nil ?_
    refine WE.then_n ?_
    refine WC.ret ?_
    refine WE.then_ret ?_
    refine WE.ret1 (P := Try.prog) (.inl rfl) Try.results9 rfl ?_
    exact fun w' h => ⟨rfl, h.frm⟩
  · -- 18F
    refine WL.val (v_pick_f rfl rfl rfl) (.none rfl) rfl rfl ?_
    refine WL.val (v_move rfl rfl) (.none rfl) rfl rfl ?_
    refine WL.val (v_move rfl rfl) (.some rfl rfl rfl) rfl rfl ?_
    refine WL.val ((v_gtr rfl rfl rfl).t (by omega)) (.some rfl rfl rfl) rfl rfl ?_
    refine WL.val (v_pick_f rfl rfl rfl) (.none rfl) rfl rfl ?_
    refine WL.nil ?_
    refine WE.then_n ?_
    refine WC.cond_t rfl ?_
    refine WC.seq ?_
    refine WC.region ?_
    refine WL.val (v_assign rfl rfl) (.none rfl) rfl rfl ?_
    refine WL.nil ?_
    refine WE.then_n ?_
    refine WC.ret ?_
    refine WE.then_ret ?_
    refine WE.ret1 (P := Try.prog) (.inl rfl) Try.results9 rfl ?_
    exact fun w' h => ⟨rfl, h.frm⟩
theorem Set_full (hS : St p w0 w (d.L gC now R)) (hd : d.Ok) (x t : Int) (h0 : now ≤ t) (h1 : t ≤ 1073741824) (hx : ∀ e ∈ d.hs, e.name ≠ x) (hf : 256 ≤ d.hs.length) : Calls Try.prog 9 #[.pointer (some ⟨gC, 0, none⟩), .int .i64 x, .int .i64 t] w fun e w' => e = .returned (.int .i64 3) ∧ Frm (fun _ => False) w w' := by
  have hR := hS.row (g := gC)
  have hM := ck_map hS
  have hn := hd.mine.no hx
  refine enter Try.func9 rfl Try.ntmps9 rfl (St.start (fun _ => False) w) ?_
  refine WC.seq ?_
  refine WC.region ?_
  refine WL.val (v_assign rfl rfl) (.none rfl) rfl rfl ?_
  refine WL.nil ?_
  refine WE.then_n ?_
  refine WC.seq ?_
  refine WC.seq ?_
  refine WC.region ?_
  refine WL.val (v_move rfl rfl) (.none rfl) rfl rfl ?_
  refine WL.val (v_eql_nil false rfl rfl Try.underlying24 rfl) (.none rfl) rfl rfl ?_
  refine WL.val (v_move rfl rfl) (.none rfl) rfl rfl ?_
  refine WL.val (v_move rfl rfl) (.some rfl rfl rfl) rfl rfl ?_
  refine WL.val (v_move rfl rfl) (.some rfl rfl rfl) rfl rfl ?_
  refine WL.val (v_nilCheck rfl rfl) (.some rfl rfl rfl) rfl rfl ?_
  refine WL.val (v_fieldAddr0 rfl rfl fld_46_0) (.some rfl rfl rfl) rfl rfl ?_
  refine WL.val (v_load1 rfl rfl one_3 (cellOld (fun h => h) (hR.cell rfl))) (.some rfl rfl rfl) rfl rfl ?_
  refine WL.val ((v_lss rfl rfl rfl).f (by omega)) (.some rfl rfl rfl) rfl rfl ?_
  refine WL.val (v_pick_f rfl rfl rfl) (.none rfl) rfl rfl ?_
  refine WL.val (v_move rfl rfl) (.none rfl) rfl rfl ?_
  refine WL.val (v_move rfl rfl) (.some rfl rfl rfl) rfl rfl ?_
  refine WL.val ((v_gtr rfl rfl rfl).f (by omega)) (.some rfl rfl rfl) rfl rfl ?_
  refine WL.val (v_pick_f rfl rfl rfl) (.none rfl) rfl rfl ?_
  refine WL.nil ?_
  refine WE.then_n ?_
  refine WC.cond_f rfl ?_
  refine WC.skip ?_
  refine WE.then_n ?_
  refine WC.seq ?_
  refine WC.seq ?_
  refine WC.region ?_
  refine WL.val (v_move rfl rfl) (.none rfl) rfl rfl ?_
  refine WL.val (v_nilCheck rfl rfl) (.none rfl) rfl rfl ?_
  refine WL.val (v_fieldAddr0 rfl rfl fld_46_2) (.none rfl) rfl rfl ?_
  refine WL.val (v_load1 rfl rfl one_42 (cellOld (fun h => h) (hR.cell rfl))) (.none rfl) rfl rfl ?_
  refine WL.val (v_move rfl rfl) (.none rfl) rfl rfl ?_
  refine WL.val ((v_lookup2 rfl rfl rfl Try.underlying42 (keyI Try.underlying3) (KInt.mk _ _) rfl (mapOld (fun _ h => h) hM) hd.map).eq (v := .tuple #[.pointer none, .bool false]) (by rw [hn]; rfl)) (.none rfl) rfl rfl ?_
  refine WL.val (v_move rfl rfl) (.none rfl) rfl rfl ?_
  refine WL.val (v_extract rfl rfl rfl) (.none rfl) rfl rfl ?_
  refine WL.val (v_extract rfl rfl rfl) (.none rfl) rfl rfl ?_
  refine WL.val (v_assign rfl rfl) (.none rfl) rfl rfl ?_
  refine WL.val (v_assign rfl rfl) (.none rfl) rfl rfl ?_
  refine WL.nil ?_
  refine WE.then_n ?_
  refine WC.seq ?_
  refine WC.region ?_
  refine WL.val (v_move rfl rfl) (.none rfl) rfl rfl ?_
  refine WL.nil ?_
  refine WE.then_n ?_
  refine WC.cond_f rfl ?_
  refine WC.skip ?_
  refine WE.then_n ?_
  refine WC.seq ?_
  refine WC.seq ?_
  refine WC.region ?_
  refine WL.val (v_move rfl rfl) (.none rfl) rfl rfl ?_
  refine WL.val (v_nilCheck rfl rfl) (.none rfl) rfl rfl ?_
  refine WL.val (v_fieldAddr0 rfl rfl fld_46_1) (.none rfl) rfl rfl ?_
  refine WL.val (v_load1 rfl rfl one_44 (cellOld (fun h => h) (hR.cell rfl))) (.none rfl) rfl rfl ?_
  refine WL.val (v_len_slice rfl rfl Try.underlying44) (.none rfl) rfl rfl ?_
  refine WL.val ((v_geq rfl rfl rfl).t (by omega)) (.none rfl) rfl rfl ?_
  refine WL.nil ?_
  refine WE.then_n ?_
  refine WC.cond_t rfl ?_
  refine WC.seq ?_
  refine WC.region ?_
  refine WL.val (v_assign rfl rfl) (.none rfl) rfl rfl ?_
  refine WL.nil ?_
  refine WE.then_n ?_
  refine WC.ret ?_
  refine WE.then_ret ?_
  refine WE.ret1 (P := Try.prog) (.inl rfl) Try.results9 rfl ?_
  exact fun w' h => ⟨rfl, h.frm⟩
theorem mem_split {hs : List En} {i : Nat} (hi : i < hs.length) : ∃ A B, hs = A ++ (el hs i :: B) ∧ i = A.length := by
  have e := List.drop_eq_getElem_cons hi
  have h1 : hs[i] = el hs i := by simp [el, hi]
  exact ⟨hs.take i, hs.drop (i + 1), by rw [← h1, ← e, List.take_append_drop], by simp; omega⟩
theorem el_mid {A B : List En} {x y : En} {k : Nat} (h : k ≠ A.length) : el (A ++ (x :: B)) k = el (A ++ (y :: B)) k := by
  unfold el
  simp only [List.getD]
  by_cases h1 : k < A.length
  · rw [List.getElem?_append_left h1, List.getElem?_append_left h1]
  · rw [List.getElem?_append_right (by omega), List.getElem?_append_right (by omega)]
    cases hk : k - A.length with
    | zero => omega
    | succ j => rfl
/-- The name that is due anew. -/
theorem Mine.turn {m : Value → Option Value} {A B : List En} {e : En} {t : Int} (h : Mine m (A ++ (e :: B))) : Mine m (A ++ ({ e with time := t } :: B)) := fun x v => by
  rw [h x v]
  constructor
  · rintro ⟨a, ha, k1, k2⟩
    rcases List.mem_append.1 ha with ha | ha
    · exact ⟨a, List.mem_append_left _ ha, k1, k2⟩
    · rcases List.mem_cons.1 ha with ha | ha
      · subst ha; exact ⟨_, List.mem_append_right _ (List.mem_cons_self ..), k1, k2⟩
      · exact ⟨a, List.mem_append_right _ (List.mem_cons_of_mem _ ha), k1, k2⟩
  · rintro ⟨a, ha, k1, k2⟩
    rcases List.mem_append.1 ha with ha | ha
    · exact ⟨a, List.mem_append_left _ ha, k1, k2⟩
    · rcases List.mem_cons.1 ha with ha | ha
      · subst ha; exact ⟨e, List.mem_append_right _ (List.mem_cons_self ..), k1, k2⟩
      · exact ⟨a, List.mem_append_right _ (List.mem_cons_of_mem _ ha), k1, k2⟩
set_option maxHeartbeats 1000000 in
/-- A name that is due, set anew. -/
theorem Set_old (hS : St p w0 w (d.L gC now R)) (hd : d.Ok) {A B : List En} {e : En} (hh : d.hs = A ++ (e :: B)) (t : Int) (h0 : now ≤ t) (h1 : t ≤ 1073741824) :
    Calls Try.prog 9 #[.pointer (some ⟨gC, 0, none⟩), .int .i64 e.name, .int .i64 t] w fun e' w' => ∃ d', e' = .returned (.int .i64 0) ∧ Ck.Ok d' ∧ d'.hs.Perm (A ++ ({ e with time := t } :: B)) ∧ St p w0 w' (d'.L gC now R) := by
  have hn := hd.mine.yes (e := e) (by rw [hh]; simp)
  have hlen := hd.len
  have hl : d.hs.length = A.length + 1 + B.length := by rw [hh]; simp; omega
  have hl2 : (A ++ ({ e with time := t } :: B)).length = d.hs.length := by rw [hh]; simp
  obtain ⟨gL, r, q1, q2, q3⟩ := ck_line hd (by omega)
  have hD : DPre (A ++ ({ e with time := t } :: B)).length (A ++ ({ e with time := t } :: B)) A.length := by
    rw [hl2]
    exact DPre.set hd.heap (fun k hk => by rw [hh]; exact el_mid hk)
  have hP : ptrs d.hs = ptrs (A ++ ({ e with time := t } :: B)) := by rw [hh]; simp [ptrs, ptr]
  have hN : Nms (A ++ ({ e with time := t } :: B)) := by have := hd.nms; rw [hh] at this; simpa [Nms] using this
  have hMi : Mine d.m (A ++ ({ e with time := t } :: B)) := by have := hd.mine; rw [hh] at this; exact this.turn
  have hent : ents 0 d.hs = ents 0 A ++ (enR e A.length :: ents (A.length + 1) B) := by rw [hh, ents_append]; simp [ents]
  have hent2 : ents 0 (A ++ ({ e with time := t } :: B)) = ents 0 A ++ (.row e.g (enL { e with time := t } A.length) :: ents (A.length + 1) B) := by rw [ents_append]; simp [ents]
  have hS1 : St p w0 w (.row gL (ptrs d.hs ++ r) :: (ents 0 A ++ (enR e A.length :: (ents (A.length + 1) B ++ (.row gC [.int .i64 now, .slice (some ⟨gL, 0, none⟩) d.hs.length d.c, .map (some d.gm)] :: (.obj d.gm (.map d.es d.cl) :: R)))))) := by
    unfold Ck.L clkL at hS; rw [q1, q2, hent] at hS; simpa using hS
  refine enter Try.func9 rfl Try.ntmps9 rfl hS1 ?_
  refine WC.seq ?_
  refine WC.region ?_
  refine WL.val (v_assign rfl rfl) (.none rfl) rfl rfl ?_
  refine WL.nil ?_
  refine WE.then_n ?_
  refine WC.seq ?_
  refine WC.seq ?_
  refine WC.region ?_
  refine WL.val (v_move rfl rfl) (.none rfl) rfl rfl ?_
  refine WL.val (v_eql_nil false rfl rfl Try.underlying24 rfl) (.none rfl) rfl rfl ?_
  refine WL.val (v_move rfl rfl) (.none rfl) rfl rfl ?_
  refine WL.val (v_move rfl rfl) (.some rfl rfl rfl) rfl rfl ?_
  refine WL.val (v_move rfl rfl) (.some rfl rfl rfl) rfl rfl ?_
  refine WL.val (v_nilCheck rfl rfl) (.some rfl rfl rfl) rfl rfl ?_
  refine WL.val (v_fieldAddr0 rfl rfl fld_46_0) (.some rfl rfl rfl) rfl rfl ?_
  refine WL.val (v_load1 rfl rfl one_3 (cellAt rfl)) (.some rfl rfl rfl) rfl rfl ?_
  refine WL.val ((v_lss rfl rfl rfl).f (by omega)) (.some rfl rfl rfl) rfl rfl ?_
  refine WL.val (v_pick_f rfl rfl rfl) (.none rfl) rfl rfl ?_
  refine WL.val (v_move rfl rfl) (.none rfl) rfl rfl ?_
  refine WL.val (v_move rfl rfl) (.some rfl rfl rfl) rfl rfl ?_
  refine WL.val ((v_gtr rfl rfl rfl).f (by omega)) (.some rfl rfl rfl) rfl rfl ?_
  refine WL.val (v_pick_f rfl rfl rfl) (.none rfl) rfl rfl ?_
  refine WL.nil ?_
  refine WE.then_n ?_
  refine WC.cond_f rfl ?_
  refine WC.skip ?_
  refine WE.then_n ?_
  refine WC.seq ?_
  refine WC.seq ?_
  refine WC.region ?_
  refine WL.val (v_move rfl rfl) (.none rfl) rfl rfl ?_
  refine WL.val (v_nilCheck rfl rfl) (.none rfl) rfl rfl ?_
  refine WL.val (v_fieldAddr0 rfl rfl fld_46_2) (.none rfl) rfl rfl ?_
  refine WL.val (v_load1 rfl rfl one_42 (cellAt rfl)) (.none rfl) rfl rfl ?_
  refine WL.val (v_move rfl rfl) (.none rfl) rfl rfl ?_
  refine WL.val ((v_lookup2 rfl rfl rfl Try.underlying42 (keyI Try.underlying3) (KInt.mk _ _) rfl (mapBlk (es := d.es) (c := d.cl) d.gm (by simp)) hd.map).eq (v := .tuple #[ptr e, .bool true]) (by rw [hn]; rfl)) (.none rfl) rfl rfl ?_
  refine WL.val (v_move rfl rfl) (.none rfl) rfl rfl ?_
  refine WL.val (v_extract rfl rfl rfl) (.none rfl) rfl rfl ?_
  refine WL.val (v_extract rfl rfl rfl) (.none rfl) rfl rfl ?_
  refine WL.val (v_assign rfl rfl) (.none rfl) rfl rfl ?_
  refine WL.val (v_assign rfl rfl) (.none rfl) rfl rfl ?_
  refine WL.nil ?_
  refine WE.then_n ?_
  refine WC.seq ?_
  refine WC.region ?_
  refine WL.val (v_move rfl rfl) (.none rfl) rfl rfl ?_
  refine WL.nil ?_
  refine WE.then_n ?_
  refine WC.cond_t rfl ?_
  refine WC.seq ?_
  refine WC.region ?_
  refine WL.val (v_move rfl rfl) (.none rfl) rfl rfl ?_
  refine WL.val (v_move rfl rfl) (.none rfl) rfl rfl ?_
  refine WL.val (v_nilCheck rfl rfl) (.none rfl) rfl rfl ?_
  refine WL.val (v_fieldAddr0 rfl rfl fld_50_1) (.none rfl) rfl rfl ?_
  refine WL.store1 rfl rfl rfl rfl one_3 (Nat.le_of_ble_eq_true rfl) (.none rfl) rfl ?_
  refine WL.nil ?_
  refine WE.then_n ?_
  refine WC.seq ?_
  refine WC.orders mixed ?_
  refine WR.first (g := 2) [0, 1, 2, 3, 4, 5, 6] (by kernel_rfl) (by kernel_rfl) ?_
  refine WP.val (v_move rfl rfl) (.none rfl) rfl rfl ?_
  refine WP.val (v_nilCheck rfl rfl) (.none rfl) rfl rfl ?_
  refine WP.val (v_fieldAddr0 rfl rfl fld_46_1) (.none rfl) rfl rfl ?_
  refine WP.val (v_makeInterface rfl rfl Try.underlying52 rfl) (.none rfl) rfl rfl ?_
  refine WP.val (v_move rfl rfl) (.none rfl) rfl rfl ?_
  refine WP.val (v_nilCheck rfl rfl) (.none rfl) rfl rfl ?_
  refine WP.val (v_fieldAddr0 rfl rfl fld_50_2) (.none rfl) rfl rfl ?_
  refine WP.nil ?_
  refine WR.read (g := 1) [7] (by kernel_rfl) (by kernel_rfl) (by kernel_rfl) (by kernel_rfl) rfl ?_
  refine WQ.val (v_load1 rfl rfl one_3 (cellAt rfl)) (.none rfl) rfl rfl ?_
  refine WQ.nilR ?_
  refine WR.ones (g := 0) [8] (by kernel_rfl) ?_
  refine WL.call rfl rfl ck_15 (.none rfl) rfl rfl ?_
  intro w1 hS
  have hS2 : St p w0 w1 (hsL gC gL now (some d.gm) d.c (A ++ ({ e with time := t } :: B)) r (.obj d.gm (.map d.es d.cl) :: R)) := (by
    unfold hsL; rw [hl2, ← hP, hent2]; simpa [enL] using hS)
  refine (HFix_c hS2 (i := A.length) (by rw [hl2]; omega) (by omega) hD).mono ?_
  rintro e' w' ⟨h2, rfl, k1, k2, k3, hS'⟩
  refine ⟨_, _, rfl, hS', ?_⟩
  refine WL.nilR ?_
  refine WR.done (by kernel_rfl) ?_
  refine WE.then_n ?_
  refine WC.seq ?_
  refine WC.region ?_
  refine WL.val (v_assign rfl rfl) (.none rfl) rfl rfl ?_
  refine WL.nil ?_
  refine WE.then_n ?_
  refine WC.ret ?_
  refine WE.then_ret ?_
  refine WE.ret1 (P := Try.prog) (.inl rfl) Try.results9 rfl ?_
  exact fun w' h => ⟨⟨h2, some ⟨gL, 0, none⟩, d.c, [.row gL (ptrs h2 ++ r)], d.gm, d.es, d.cl, d.m⟩, rfl, ⟨vec_line (show h2.length + r.length = d.c by omega), k3, by simp only []; omega, hd.map, hMi.perm k2, hN.perm k2⟩, k2, h⟩
set_option maxHeartbeats 1000000 in
/-- A new name. -/
theorem Set_new (hS : St p w0 w (d.L gC now R)) (hd : d.Ok) (x t : Int) (h0 : now ≤ t) (h1 : t ≤ 1073741824) (hx : ∀ e ∈ d.hs, e.name ≠ x) (hf : d.hs.length < 256) :
    Calls Try.prog 9 #[.pointer (some ⟨gC, 0, none⟩), .int .i64 x, .int .i64 t] w fun e' w' => ∃ d' g, e' = .returned (.int .i64 0) ∧ Ck.Ok d' ∧ d'.hs.Perm (d.hs ++ [⟨g, x, t⟩]) ∧ St p w0 w' (d'.L gC now R) := by
  have hn := hd.mine.no hx
  refine enter Try.func9 rfl Try.ntmps9 rfl hS ?_
  refine WC.seq ?_
  refine WC.region ?_
  refine WL.val (v_assign rfl rfl) (.none rfl) rfl rfl ?_
  refine WL.nil ?_
  refine WE.then_n ?_
  refine WC.seq ?_
  refine WC.seq ?_
  refine WC.region ?_
  refine WL.val (v_move rfl rfl) (.none rfl) rfl rfl ?_
  refine WL.val (v_eql_nil false rfl rfl Try.underlying24 rfl) (.none rfl) rfl rfl ?_
  refine WL.val (v_move rfl rfl) (.none rfl) rfl rfl ?_
  refine WL.val (v_move rfl rfl) (.some rfl rfl rfl) rfl rfl ?_
  refine WL.val (v_move rfl rfl) (.some rfl rfl rfl) rfl rfl ?_
  refine WL.val (v_nilCheck rfl rfl) (.some rfl rfl rfl) rfl rfl ?_
  refine WL.val (v_fieldAddr0 rfl rfl fld_46_0) (.some rfl rfl rfl) rfl rfl ?_
  refine WL.val (v_load1 rfl rfl one_3 (cellAt rfl)) (.some rfl rfl rfl) rfl rfl ?_
  refine WL.val ((v_lss rfl rfl rfl).f (by omega)) (.some rfl rfl rfl) rfl rfl ?_
  refine WL.val (v_pick_f rfl rfl rfl) (.none rfl) rfl rfl ?_
  refine WL.val (v_move rfl rfl) (.none rfl) rfl rfl ?_
  refine WL.val (v_move rfl rfl) (.some rfl rfl rfl) rfl rfl ?_
  refine WL.val ((v_gtr rfl rfl rfl).f (by omega)) (.some rfl rfl rfl) rfl rfl ?_
  refine WL.val (v_pick_f rfl rfl rfl) (.none rfl) rfl rfl ?_
  refine WL.nil ?_
  refine WE.then_n ?_
  refine WC.cond_f rfl ?_
  refine WC.skip ?_
  refine WE.then_n ?_
  refine WC.seq ?_
  refine WC.seq ?_
  refine WC.region ?_
  refine WL.val (v_move rfl rfl) (.none rfl) rfl rfl ?_
  refine WL.val (v_nilCheck rfl rfl) (.none rfl) rfl rfl ?_
  refine WL.val (v_fieldAddr0 rfl rfl fld_46_2) (.none rfl) rfl rfl ?_
  refine WL.val (v_load1 rfl rfl one_42 (cellAt rfl)) (.none rfl) rfl rfl ?_
  refine WL.val (v_move rfl rfl) (.none rfl) rfl rfl ?_
  refine WL.val ((v_lookup2 rfl rfl rfl Try.underlying42 (keyI Try.underlying3) (KInt.mk _ _) rfl (fun w hS => ck_map hS) hd.map).eq (v := .tuple #[.pointer none, .bool false]) (by rw [hn]; rfl)) (.none rfl) rfl rfl ?_
  refine WL.val (v_move rfl rfl) (.none rfl) rfl rfl ?_
  refine WL.val (v_extract rfl rfl rfl) (.none rfl) rfl rfl ?_
  refine WL.val (v_extract rfl rfl rfl) (.none rfl) rfl rfl ?_
  refine WL.val (v_assign rfl rfl) (.none rfl) rfl rfl ?_
  refine WL.val (v_assign rfl rfl) (.none rfl) rfl rfl ?_
  refine WL.nil ?_
  refine WE.then_n ?_
  refine WC.seq ?_
  refine WC.region ?_
  refine WL.val (v_move rfl rfl) (.none rfl) rfl rfl ?_
  refine WL.nil ?_
  refine WE.then_n ?_
  refine WC.cond_f rfl ?_
  refine WC.skip ?_
  refine WE.then_n ?_
  refine WC.seq ?_
  refine WC.seq ?_
  refine WC.region ?_
  refine WL.val (v_move rfl rfl) (.none rfl) rfl rfl ?_
  refine WL.val (v_nilCheck rfl rfl) (.none rfl) rfl rfl ?_
  refine WL.val (v_fieldAddr0 rfl rfl fld_46_1) (.none rfl) rfl rfl ?_
  refine WL.val (v_load1 rfl rfl one_44 (cellAt rfl)) (.none rfl) rfl rfl ?_
  refine WL.val (v_len_slice rfl rfl Try.underlying44) (.none rfl) rfl rfl ?_
  refine WL.val ((v_geq rfl rfl rfl).f (by omega)) (.none rfl) rfl rfl ?_
  refine WL.nil ?_
  refine WE.then_n ?_
  refine WC.cond_f rfl ?_
  refine WC.skip ?_
  refine WE.then_n ?_
  refine WC.seq ?_
  refine WC.seq ?_
  refine WC.region ?_
  refine WL.val (v_move rfl rfl) (.none rfl) rfl rfl ?_
  refine WL.val (v_nilCheck rfl rfl) (.none rfl) rfl rfl ?_
  refine WL.val (v_fieldAddr0 rfl rfl fld_46_2) (.none rfl) rfl rfl ?_
  refine WL.val (v_load1 rfl rfl one_42 (cellAt rfl)) (.none rfl) rfl rfl ?_
  refine WL.val (v_eql_nil false rfl rfl Try.underlying42 rfl) (.none rfl) rfl rfl ?_
  refine WL.nil ?_
  refine WE.then_n ?_
  refine WC.cond_f rfl ?_
  refine WC.skip ?_
  refine WE.then_n ?_
  refine WC.seq ?_
  refine WC.region ?_
  refine WL.val (v_move rfl rfl) (.none rfl) rfl rfl ?_
  refine WL.val (v_move rfl rfl) (.none rfl) rfl rfl ?_
  refine WL.val (v_build rfl rfl zero_50 plc_50 rfl) (.none rfl) rfl rfl ?_
  refine WL.box rfl rfl rfl (.none rfl) rfl rfl ?_
  intro g65 hg65
  refine WL.val (v_assign rfl rfl) (.none rfl) rfl rfl ?_
  refine WL.nil ?_
  refine WE.then_n ?_
  refine WC.seq ?_
  refine WC.region ?_
  refine WL.val (v_move rfl rfl) (.none rfl) rfl rfl ?_
  refine WL.val (v_nilCheck rfl rfl) (.none rfl) rfl rfl ?_
  refine WL.val (v_fieldAddr0 rfl rfl fld_46_1) (.none rfl) rfl rfl ?_
  refine WL.val (v_makeInterface rfl rfl Try.underlying52 rfl) (.none rfl) rfl rfl ?_
  refine WL.val (v_move rfl rfl) (.none rfl) rfl rfl ?_
  refine WL.val (v_makeInterface rfl rfl Try.underlying47 rfl) (.none rfl) rfl rfl ?_
  refine WL.call rfl rfl ck_16 (.none rfl) rfl rfl ?_
  intro w1 hS
  have hS2 : St p w0 w1 (clkL gC now d.ad d.c (some d.gm) d.hs d.E (.row g65 [.int .i64 x, .int .i64 t, .int .i64 0] :: (.obj d.gm (.map d.es d.cl) :: R))) := (by
    unfold Ck.L at hS
    unfold clkL at hS ⊢
    refine hS.perm ?_
    have e1 : ∀ (X : Ent) (E F : List Ent) (Y : Ent) (G : List Ent), (E ++ (F ++ (Y :: X :: G))).Perm (X :: (E ++ (F ++ (Y :: G)))) := fun X E F Y G => by
      refine (List.Perm.append_left _ ((List.Perm.append_left _ (List.Perm.swap _ _ _)).trans List.perm_middle)).trans List.perm_middle
    exact e1 _ _ _ _ _)
  refine (HPush_c (e := ⟨g65, x, t⟩) hS2 hd.vec (by omega) hd.heap).mono ?_
  rintro e' w' ⟨gL, r, c', h2, rfl, k1, k2, k3, k4, hS'⟩
  obtain ⟨m1, m2⟩ := hd.mine.add hd.nms hx k2
  refine ⟨_, .row gL (ptrs h2 ++ r) :: (ents 0 h2 ++ (.row gC [.int .i64 now, .slice (some ⟨gL, 0, none⟩) h2.length c', .map (some d.gm)] :: (.obj d.gm (.map d.es d.cl) :: R))), rfl, hS', ?_⟩
  refine WL.nil ?_
  refine WE.then_n ?_
  refine WC.seq ?_
  refine WC.region ?_
  refine WL.val (v_move rfl rfl) (.none rfl) rfl rfl ?_
  refine WL.val (v_nilCheck rfl rfl) (.none rfl) rfl rfl ?_
  refine WL.val (v_fieldAddr0 rfl rfl fld_46_2) (.none rfl) rfl rfl ?_
  refine WL.val (v_load1 rfl rfl one_42 (cellAt rfl)) (.none rfl) rfl rfl ?_
  refine WL.val (v_move rfl rfl) (.none rfl) rfl rfl ?_
  refine WL.val (v_move rfl rfl) (.none rfl) rfl rfl ?_
  refine WL.mapUpdate rfl rfl rfl rfl Try.underlying42 (keyI Try.underlying3) (KInt.mk _ _) hd.map (.none rfl) rfl ?_
  intro esU cU hMU hsU
  refine WL.nil ?_
  refine WE.then_n ?_
  refine WC.seq ?_
  refine WC.region ?_
  refine WL.val (v_assign rfl rfl) (.none rfl) rfl rfl ?_
  refine WL.nil ?_
  refine WE.then_n ?_
  refine WC.ret ?_
  refine WE.ret1 (P := Try.prog) (.inl rfl) Try.results9 rfl ?_
  exact fun w' h => ⟨⟨h2, some ⟨gL, 0, none⟩, c', [.row gL (ptrs h2 ++ r)], d.gm, esU, cU, updM d.m (.int .i64 x) (some (ptr ⟨g65, x, t⟩))⟩, g65, rfl, ⟨vec_line k4, k3, by simp only []; omega, hMU, m1, m2⟩, k2, h⟩
/-- Nothing is due till then. -/
theorem Next_nil (w : World) (u : Int) : Calls Try.prog 10 #[.pointer none, .int .i64 u] w fun e w' => e = .returned (.tuple #[.int .i64 0, .bool false]) ∧ Frm (fun _ => False) w w' := by
  refine enter Try.func10 rfl Try.ntmps10 rfl (St.start (fun _ => False) w) ?_
  refine WC.seq ?_
  refine WC.region ?_
  refine WL.val (v_assign rfl rfl) (.none rfl) rfl rfl ?_
  refine WL.val (v_assign rfl rfl) (.none rfl) rfl rfl ?_
  refine WL.nil ?_
  refine WE.then_n ?_
  refine WC.seq ?_
  refine WC.seq ?_
  refine WC.region ?_
  refine WL.val (v_move rfl rfl) (.none rfl) rfl rfl ?_
  refine WL.val (v_eql_nil true rfl rfl Try.underlying24 rfl) (.none rfl) rfl rfl ?_
  refine WL.nil ?_
  refine WE.then_n ?_
  refine WC.cond_t rfl ?_
  refine WC.seq ?_
  refine WC.region ?_
  refine WL.val (v_assign rfl rfl) (.none rfl) rfl rfl ?_
  refine WL.val (v_assign rfl rfl) (.none rfl) rfl rfl ?_
  refine WL.nil ?_
  refine WE.then_n ?_
  refine WC.ret ?_
  refine WE.then_ret ?_
  refine WE.ret2 (P := Try.prog) (.inl rfl) Try.results10 rfl rfl ?_
  exact fun w' h => ⟨rfl, h.frm⟩
def till (now u : Int) : Int := min (max u now) 1073741824
theorem Next_empty (hS : St p w0 w (d.L gC now R)) (u : Int) (hx : d.hs = []) :
    Calls Try.prog 10 #[.pointer (some ⟨gC, 0, none⟩), .int .i64 u] w fun e' w' => e' = .returned (.tuple #[.int .i64 0, .bool false]) ∧ St p w0 w' (d.L gC (till now u) R) := by
  unfold Ck.L clkL at hS ⊢
  rw [hx] at hS ⊢
  refine enter Try.func10 rfl Try.ntmps10 rfl hS ?_
  refine WC.seq ?_
  refine WC.region ?_
  refine WL.val (v_assign rfl rfl) (.none rfl) rfl rfl ?_
  refine WL.val (v_assign rfl rfl) (.none rfl) rfl rfl ?_
  refine WL.nil ?_
  refine WE.then_n ?_
  refine WC.seq ?_
  refine WC.seq ?_
  refine WC.region ?_
  refine WL.val (v_move rfl rfl) (.none rfl) rfl rfl ?_
  refine WL.val (v_eql_nil false rfl rfl Try.underlying24 rfl) (.none rfl) rfl rfl ?_
  refine WL.nil ?_
  refine WE.then_n ?_
  refine WC.cond_f rfl ?_
  refine WC.skip ?_
  refine WE.then_n ?_
  refine WC.seq ?_
  refine WC.region ?_
  refine WL.val (v_move rfl rfl) (.none rfl) rfl rfl ?_
  refine WL.val (v_move rfl rfl) (.none rfl) rfl rfl ?_
  refine WL.val (v_nilCheck rfl rfl) (.none rfl) rfl rfl ?_
  refine WL.val (v_fieldAddr0 rfl rfl fld_46_0) (.none rfl) rfl rfl ?_
  refine WL.val (v_load1 rfl rfl one_3 (cellAt rfl)) (.none rfl) rfl rfl ?_
  refine WL.val (v_max rfl rfl rfl) (.none rfl) rfl rfl ?_
  refine WL.val (v_min rfl rfl rfl) (.none rfl) rfl rfl ?_
  refine WL.val (v_assign rfl rfl) (.none rfl) rfl rfl ?_
  refine WL.nil ?_
  refine WE.then_n ?_
  refine WC.seq ?_
  refine WC.seq ?_
  refine WC.region ?_
  refine WL.val (v_move rfl rfl) (.none rfl) rfl rfl ?_
  refine WL.val (v_nilCheck rfl rfl) (.none rfl) rfl rfl ?_
  refine WL.val (v_fieldAddr0 rfl rfl fld_46_1) (.none rfl) rfl rfl ?_
  refine WL.val (v_load1 rfl rfl one_44 (cellAt rfl)) (.none rfl) rfl rfl ?_
  refine WL.val (v_len_slice rfl rfl Try.underlying44) (.none rfl) rfl rfl ?_
  refine WL.val ((v_eql rfl rfl rfl).t (rfl)) (.none rfl) rfl rfl ?_
  refine WL.val (v_move rfl rfl) (.none rfl) rfl rfl ?_
  refine WL.skip rfl rfl rfl rfl rfl rfl ?_
  refine WL.skip rfl rfl rfl rfl rfl rfl ?_
  refine WL.skip rfl rfl rfl rfl rfl rfl ?_
  refine WL.skip rfl rfl rfl rfl rfl rfl ?_
  refine WL.skip rfl rfl rfl rfl rfl rfl ?_
  refine WL.skip rfl rfl rfl rfl rfl rfl ?_
  refine WL.skip rfl rfl rfl rfl rfl rfl ?_
  refine WL.skip rfl rfl rfl rfl rfl rfl ?_
  refine WL.skip rfl rfl rfl rfl rfl rfl ?_
  refine WL.skip rfl rfl rfl rfl rfl rfl ?_
  refine WL.skip rfl rfl rfl rfl rfl rfl ?_
  refine WL.val (v_pick_t rfl rfl rfl) (.none rfl) rfl rfl ?_
  refine WL.nil ?_
  refine WE.then_n ?_
  refine WC.cond_t rfl ?_
  refine WC.seq ?_
  refine WC.region ?_
  refine WL.val (v_move rfl rfl) (.none rfl) rfl rfl ?_
  refine WL.val (v_move rfl rfl) (.none rfl) rfl rfl ?_
  refine WL.val (v_nilCheck rfl rfl) (.none rfl) rfl rfl ?_
  refine WL.val (v_fieldAddr0 rfl rfl fld_46_0) (.none rfl) rfl rfl ?_
  refine WL.store1 rfl rfl rfl rfl one_3 (Nat.le_of_ble_eq_true rfl) (.none rfl) rfl ?_
  refine WL.nil ?_
  refine WE.then_n ?_
  refine WC.seq ?_
  refine WC.region ?_
  refine WL.val (v_assign rfl rfl) (.none rfl) rfl rfl ?_
  refine WL.val (v_assign rfl rfl) (.none rfl) rfl rfl ?_
  refine WL.nil ?_
  refine WE.then_n ?_
  refine WC.ret ?_
  refine WE.then_ret ?_
  refine WE.ret2 (P := Try.prog) (.inl rfl) Try.results10 rfl rfl ?_
  exact fun w' h => ⟨rfl, h⟩
theorem ck_head (hS : St p w0 w (d.L gC now R)) (hd : d.Ok) {e : En} {B : List En} (hh : d.hs = e :: B) : ∃ gL r, d.ad = some ⟨gL, 0, none⟩ ∧ d.E = [.row gL (ptrs d.hs ++ r)] ∧ d.hs.length + r.length = d.c ∧
    St p w0 w (.row gL (ptr e :: (ptrs B ++ r)) :: (enR e 0 :: (ents 1 B ++ (.row gC [.int .i64 now, .slice (some ⟨gL, 0, none⟩) (B.length + 1) d.c, .map (some d.gm)] :: (.obj d.gm (.map d.es d.cl) :: R))))) := by
  obtain ⟨gL, r, q1, q2, q3⟩ := ck_line hd (by rw [hh]; simp)
  refine ⟨gL, r, q1, q2, q3, ?_⟩
  unfold Ck.L clkL at hS
  rw [q1, q2, hh] at hS
  exact hS
theorem ck_head' {gL : Nat} {r : List Value} {e : En} {B : List En} (hh : d.hs = e :: B) (q1 : d.ad = some ⟨gL, 0, none⟩) (q2 : d.E = [.row gL (ptrs d.hs ++ r)])
    (h : St p w0 w (.row gL (ptr e :: (ptrs B ++ r)) :: (enR e 0 :: (ents 1 B ++ (.row gC [.int .i64 now, .slice (some ⟨gL, 0, none⟩) (B.length + 1) d.c, .map (some d.gm)] :: (.obj d.gm (.map d.es d.cl) :: R)))))) : St p w0 w (d.L gC now R) := by
  unfold Ck.L clkL
  rw [q1, q2, hh]
  exact h
theorem Next_late (hS : St p w0 w (d.L gC now R)) (hd : d.Ok) (u : Int) {e : En} {B : List En} (hh : d.hs = e :: B) (hx : till now u < e.time) :
    Calls Try.prog 10 #[.pointer (some ⟨gC, 0, none⟩), .int .i64 u] w fun e' w' => e' = .returned (.tuple #[.int .i64 0, .bool false]) ∧ St p w0 w' (d.L gC (till now u) R) := by
  have hlen := hd.len
  have hl : d.hs.length = B.length + 1 := by rw [hh]; rfl
  obtain ⟨gL, r, q1, q2, q3, hS⟩ := ck_head hS hd hh
  refine enter Try.func10 rfl Try.ntmps10 rfl hS ?_
  refine WC.seq ?_
  refine WC.region ?_
  refine WL.val (v_assign rfl rfl) (.none rfl) rfl rfl ?_
  refine WL.val (v_assign rfl rfl) (.none rfl) rfl rfl ?_
  refine WL.nil ?_
  refine WE.then_n ?_
  refine WC.seq ?_
  refine WC.seq ?_
  refine WC.region ?_
  refine WL.val (v_move rfl rfl) (.none rfl) rfl rfl ?_
  refine WL.val (v_eql_nil false rfl rfl Try.underlying24 rfl) (.none rfl) rfl rfl ?_
  refine WL.nil ?_
  refine WE.then_n ?_
  refine WC.cond_f rfl ?_
  refine WC.skip ?_
  refine WE.then_n ?_
  refine WC.seq ?_
  refine WC.region ?_
  refine WL.val (v_move rfl rfl) (.none rfl) rfl rfl ?_
  refine WL.val (v_move rfl rfl) (.none rfl) rfl rfl ?_
  refine WL.val (v_nilCheck rfl rfl) (.none rfl) rfl rfl ?_
  refine WL.val (v_fieldAddr0 rfl rfl fld_46_0) (.none rfl) rfl rfl ?_
  refine WL.val (v_load1 rfl rfl one_3 (cellAt rfl)) (.none rfl) rfl rfl ?_
  refine WL.val (v_max rfl rfl rfl) (.none rfl) rfl rfl ?_
  refine WL.val (v_min rfl rfl rfl) (.none rfl) rfl rfl ?_
  refine WL.val (v_assign rfl rfl) (.none rfl) rfl rfl ?_
  refine WL.nil ?_
  refine WE.then_n ?_
  refine WC.seq ?_
  refine WC.seq ?_
  refine WC.region ?_
  refine WL.val (v_move rfl rfl) (.none rfl) rfl rfl ?_
  refine WL.val (v_nilCheck rfl rfl) (.none rfl) rfl rfl ?_
  refine WL.val (v_fieldAddr0 rfl rfl fld_46_1) (.none rfl) rfl rfl ?_
  refine WL.val (v_load1 rfl rfl one_44 (cellAt rfl)) (.none rfl) rfl rfl ?_
  refine WL.val (v_len_slice rfl rfl Try.underlying44) (.none rfl) rfl rfl ?_
  refine WL.val ((v_eql rfl rfl rfl).f (by omega)) (.none rfl) rfl rfl ?_
  refine WL.val (v_move rfl rfl) (.none rfl) rfl rfl ?_
  refine WL.val (v_move rfl rfl) (.some rfl rfl rfl) rfl rfl ?_
  refine WL.val (v_nilCheck rfl rfl) (.some rfl rfl rfl) rfl rfl ?_
  refine WL.val (v_fieldAddr0 rfl rfl fld_46_1) (.some rfl rfl rfl) rfl rfl ?_
  refine WL.val (v_load1 rfl rfl one_44 (cellAt rfl)) (.some rfl rfl rfl) rfl rfl ?_
  refine WL.val (v_indexAddr (lo := 0) rfl rfl rfl Try.underlying44 sz_47 rfl (by omega)) (.some rfl rfl rfl) rfl rfl ?_
  refine WL.val (v_load1 rfl rfl one_47 (cellAt rfl)) (.some rfl rfl rfl) rfl rfl ?_
  refine WL.val (v_nilCheck rfl rfl) (.some rfl rfl rfl) rfl rfl ?_
  refine WL.val (v_fieldAddr0 rfl rfl fld_50_1) (.some rfl rfl rfl) rfl rfl ?_
  refine WL.val (v_load1 rfl rfl one_3 (cellAt rfl)) (.some rfl rfl rfl) rfl rfl ?_
  refine WL.val (v_move rfl rfl) (.some rfl rfl rfl) rfl rfl ?_
  refine WL.val ((v_gtr rfl rfl rfl).t (hx)) (.some rfl rfl rfl) rfl rfl ?_
  refine WL.val (v_pick_f rfl rfl rfl) (.none rfl) rfl rfl ?_
  refine WL.nil ?_
  refine WE.then_n ?_
  refine WC.cond_t rfl ?_
  refine WC.seq ?_
  refine WC.region ?_
  refine WL.val (v_move rfl rfl) (.none rfl) rfl rfl ?_
  refine WL.val (v_move rfl rfl) (.none rfl) rfl rfl ?_
  refine WL.val (v_nilCheck rfl rfl) (.none rfl) rfl rfl ?_
  refine WL.val (v_fieldAddr0 rfl rfl fld_46_0) (.none rfl) rfl rfl ?_
  refine WL.store1 rfl rfl rfl rfl one_3 (Nat.le_of_ble_eq_true rfl) (.none rfl) rfl ?_
  refine WL.nil ?_
  refine WE.then_n ?_
  refine WC.seq ?_
  refine WC.region ?_
  refine WL.val (v_assign rfl rfl) (.none rfl) rfl rfl ?_
  refine WL.val (v_assign rfl rfl) (.none rfl) rfl rfl ?_
  refine WL.nil ?_
  refine WE.then_n ?_
  refine WC.ret ?_
  refine WE.then_ret ?_
  refine WE.ret2 (P := Try.prog) (.inl rfl) Try.results10 rfl rfl ?_
  exact fun w' h => ⟨rfl, ck_head' hh q1 q2 h⟩
set_option maxHeartbeats 1000000 in
theorem Next_k (hS : St p w0 w (d.L gC now R)) (hd : d.Ok) (u : Int) {e : En} {B : List En} (hh : d.hs = e :: B) (hx : e.time ≤ till now u) :
    Calls Try.prog 10 #[.pointer (some ⟨gC, 0, none⟩), .int .i64 u] w fun e' w' => ∃ d', e' = .returned (.tuple #[.int .i64 e.name, .bool true]) ∧ Ck.Ok d' ∧ (d'.hs ++ [e]).Perm d.hs ∧ St p w0 w' (d'.L gC e.time R) := by
  have hlen := hd.len
  have hl : d.hs.length = B.length + 1 := by rw [hh]; rfl
  have he : el d.hs 0 = e := by rw [hh]; rfl
  obtain ⟨gL, r, q1, q2, q3, hS⟩ := ck_head hS hd hh
  refine enter Try.func10 rfl Try.ntmps10 rfl hS ?_
  refine WC.seq ?_
  refine WC.region ?_
  refine WL.val (v_assign rfl rfl) (.none rfl) rfl rfl ?_
  refine WL.val (v_assign rfl rfl) (.none rfl) rfl rfl ?_
  refine WL.nil ?_
  refine WE.then_n ?_
  refine WC.seq ?_
  refine WC.seq ?_
  refine WC.region ?_
  refine WL.val (v_move rfl rfl) (.none rfl) rfl rfl ?_
  refine WL.val (v_eql_nil false rfl rfl Try.underlying24 rfl) (.none rfl) rfl rfl ?_
  refine WL.nil ?_
  refine WE.then_n ?_
  refine WC.cond_f rfl ?_
  refine WC.skip ?_
  refine WE.then_n ?_
  refine WC.seq ?_
  refine WC.region ?_
  refine WL.val (v_move rfl rfl) (.none rfl) rfl rfl ?_
  refine WL.val (v_move rfl rfl) (.none rfl) rfl rfl ?_
  refine WL.val (v_nilCheck rfl rfl) (.none rfl) rfl rfl ?_
  refine WL.val (v_fieldAddr0 rfl rfl fld_46_0) (.none rfl) rfl rfl ?_
  refine WL.val (v_load1 rfl rfl one_3 (cellAt rfl)) (.none rfl) rfl rfl ?_
  refine WL.val (v_max rfl rfl rfl) (.none rfl) rfl rfl ?_
  refine WL.val (v_min rfl rfl rfl) (.none rfl) rfl rfl ?_
  refine WL.val (v_assign rfl rfl) (.none rfl) rfl rfl ?_
  refine WL.nil ?_
  refine WE.then_n ?_
  refine WC.seq ?_
  refine WC.seq ?_
  refine WC.region ?_
  refine WL.val (v_move rfl rfl) (.none rfl) rfl rfl ?_
  refine WL.val (v_nilCheck rfl rfl) (.none rfl) rfl rfl ?_
  refine WL.val (v_fieldAddr0 rfl rfl fld_46_1) (.none rfl) rfl rfl ?_
  refine WL.val (v_load1 rfl rfl one_44 (cellAt rfl)) (.none rfl) rfl rfl ?_
  refine WL.val (v_len_slice rfl rfl Try.underlying44) (.none rfl) rfl rfl ?_
  refine WL.val ((v_eql rfl rfl rfl).f (by omega)) (.none rfl) rfl rfl ?_
  refine WL.val (v_move rfl rfl) (.none rfl) rfl rfl ?_
  refine WL.val (v_move rfl rfl) (.some rfl rfl rfl) rfl rfl ?_
  refine WL.val (v_nilCheck rfl rfl) (.some rfl rfl rfl) rfl rfl ?_
  refine WL.val (v_fieldAddr0 rfl rfl fld_46_1) (.some rfl rfl rfl) rfl rfl ?_
  refine WL.val (v_load1 rfl rfl one_44 (cellAt rfl)) (.some rfl rfl rfl) rfl rfl ?_
  refine WL.val (v_indexAddr (lo := 0) rfl rfl rfl Try.underlying44 sz_47 rfl (by omega)) (.some rfl rfl rfl) rfl rfl ?_
  refine WL.val (v_load1 rfl rfl one_47 (cellAt rfl)) (.some rfl rfl rfl) rfl rfl ?_
  refine WL.val (v_nilCheck rfl rfl) (.some rfl rfl rfl) rfl rfl ?_
  refine WL.val (v_fieldAddr0 rfl rfl fld_50_1) (.some rfl rfl rfl) rfl rfl ?_
  refine WL.val (v_load1 rfl rfl one_3 (cellAt rfl)) (.some rfl rfl rfl) rfl rfl ?_
  refine WL.val (v_move rfl rfl) (.some rfl rfl rfl) rfl rfl ?_
  refine WL.val ((v_gtr rfl rfl rfl).f (Int.not_lt.2 hx)) (.some rfl rfl rfl) rfl rfl ?_
  refine WL.val (v_pick_f rfl rfl rfl) (.none rfl) rfl rfl ?_
  refine WL.nil ?_
  refine WE.then_n ?_
  refine WC.cond_f rfl ?_
  refine WC.skip ?_
  refine WE.then_n ?_
  refine WC.seq ?_
  refine WC.region ?_
  refine WL.val (v_move rfl rfl) (.none rfl) rfl rfl ?_
  refine WL.val (v_nilCheck rfl rfl) (.none rfl) rfl rfl ?_
  refine WL.val (v_fieldAddr0 rfl rfl fld_46_1) (.none rfl) rfl rfl ?_
  refine WL.val (v_makeInterface rfl rfl Try.underlying52 rfl) (.none rfl) rfl rfl ?_
  refine WL.call rfl rfl ck_17 (.none rfl) rfl rfl ?_
  intro w1 hS
  have hS2 : St p w0 w1 (hsL gC gL now (some d.gm) d.c d.hs r (.obj d.gm (.map d.es d.cl) :: R)) := (by
    unfold hsL; rw [hh]; exact hS)
  refine (HPop_c hS2 hl (by omega) (by omega) hd.heap).mono ?_
  rintro e' w' ⟨h2, rfl, k1, k2, k3, hS'⟩
  rw [he] at k2 hS' ⊢
  obtain ⟨m1, m2, m3⟩ := hd.mine.del hd.nms k2
  refine ⟨_, .row gL (ptrs h2 ++ (.pointer none :: r)) :: (ents 0 h2 ++ (.row gC [.int .i64 now, .slice (some ⟨gL, 0, none⟩) h2.length d.c, .map (some d.gm)] :: (enR e B.length :: (.obj d.gm (.map d.es d.cl) :: R)))), rfl, hS', ?_⟩
  refine WL.val (v_typeAssert rfl rfl Try.underlying47 rfl) (.none rfl) rfl rfl ?_
  refine WL.val (v_assign rfl rfl) (.none rfl) rfl rfl ?_
  refine WL.nil ?_
  refine WE.then_n ?_
  refine WC.seq ?_
  refine WC.orders mixed ?_
  refine WR.first (g := 3) [0, 1, 2, 4, 5, 6] (by kernel_rfl) (by kernel_rfl) ?_
  refine WP.val (v_move rfl rfl) (.none rfl) rfl rfl ?_
  refine WP.val (v_nilCheck rfl rfl) (.none rfl) rfl rfl ?_
  refine WP.val (v_fieldAddr0 rfl rfl fld_46_2) (.none rfl) rfl rfl ?_
  refine WP.val (v_move rfl rfl) (.none rfl) rfl rfl ?_
  refine WP.val (v_nilCheck rfl rfl) (.none rfl) rfl rfl ?_
  refine WP.val (v_fieldAddr0 rfl rfl fld_50_0) (.none rfl) rfl rfl ?_
  refine WP.nil ?_
  refine WR.read (g := 1) [3, 7] (by kernel_rfl) (by kernel_rfl) (by kernel_rfl) (by kernel_rfl) rfl ?_
  refine WQ.val (v_load1 rfl rfl one_42 (cellAt rfl)) (.none rfl) rfl rfl ?_
  refine WQ.val (v_load1 rfl rfl one_3 (cellAt rfl)) (.none rfl) rfl rfl ?_
  refine WQ.nilR ?_
  refine WR.ones (g := 0) [8] (by kernel_rfl) ?_
  refine WL.delete rfl rfl rfl Try.underlying42 (keyI Try.underlying3) (KInt.mk _ _) hd.map (.none rfl) rfl ?_
  intro esU hMU hsU
  refine WL.nilR ?_
  refine WR.done (by kernel_rfl) ?_
  refine WE.then_n ?_
  refine WC.seq ?_
  refine WC.region ?_
  refine WL.val (v_move rfl rfl) (.none rfl) rfl rfl ?_
  refine WL.val (v_move rfl rfl) (.none rfl) rfl rfl ?_
  refine WL.val (v_nilCheck rfl rfl) (.none rfl) rfl rfl ?_
  refine WL.val (v_fieldAddr0 rfl rfl fld_50_1) (.none rfl) rfl rfl ?_
  refine WL.val (v_load1 rfl rfl one_3 (cellAt rfl)) (.none rfl) rfl rfl ?_
  refine WL.val (v_nilCheck rfl rfl) (.none rfl) rfl rfl ?_
  refine WL.val (v_fieldAddr0 rfl rfl fld_46_0) (.none rfl) rfl rfl ?_
  refine WL.store1 rfl rfl rfl rfl one_3 (Nat.le_of_ble_eq_true rfl) (.none rfl) rfl ?_
  refine WL.nil ?_
  refine WE.then_n ?_
  refine WC.seq ?_
  refine WC.region ?_
  refine WL.val (v_move rfl rfl) (.none rfl) rfl rfl ?_
  refine WL.val (v_nilCheck rfl rfl) (.none rfl) rfl rfl ?_
  refine WL.val (v_fieldAddr0 rfl rfl fld_50_0) (.none rfl) rfl rfl ?_
  refine WL.val (v_load1 rfl rfl one_3 (cellAt rfl)) (.none rfl) rfl rfl ?_
  refine WL.val (v_assign rfl rfl) (.none rfl) rfl rfl ?_
  refine WL.val (v_assign rfl rfl) (.none rfl) rfl rfl ?_
  refine WL.nil ?_
  refine WE.then_n ?_
  refine WC.ret ?_
  refine WE.ret2 (P := Try.prog) (.inl rfl) Try.results10 rfl rfl ?_
  refine fun w' h => ⟨⟨h2, some ⟨gL, 0, none⟩, d.c, [.row gL (ptrs h2 ++ (.pointer none :: r))], d.gm, esU, d.cl, updM d.m (.int .i64 e.name) none⟩, rfl, ⟨vec_line (show h2.length + (r.length + 1) = d.c by omega), k3, by simp only []; omega, hMU, m1, m2⟩, k2, ?_⟩
  exact h.sub (List.Sublist.cons_cons _ (List.Sublist.append_left (.cons_cons _ (.cons _ (.refl _))) _))
end
end Go.Proofs.Ytaoipmdddagngaa
