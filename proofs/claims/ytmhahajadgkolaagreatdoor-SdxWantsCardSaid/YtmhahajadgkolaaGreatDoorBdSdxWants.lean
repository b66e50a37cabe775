/- Texts joined: engine, contracts and laws, in the order in which they build. -/
import Derived.Shelf.SlSortCmp.InsertionK
import Derived.Shelf.SlLaysF0
import Derived.Shelf.SlSortCmp.WholeK
import Derived.DeepKeys3
import Derived.Test.YtmhahajadgkolaaGreatDoorBcSdxWants
/- sdx: what is read of an exchange with nobody: no prefixes, no marks. -/
namespace Go.Proofs.YtmhahajadgkolaaGreatDoor
open Go.RowKit

theorem Sweep_c (w : World) (g gh : Nat) (h : w.cell? ⟨g, 2, none⟩ = some (.map (some gh))) (hm : Emp w gh) : Calls Tryz.prog 100 #[.pointer (some ⟨g, 0, none⟩)] w fun e w' => e = .returned (.int .i64 0) ∧ Frm (fun _ => False) w w' := by
  refine enter Tryz.func100 rfl Tryz.ntmps100 rfl (St.start (fun _ => False) w) ?_
  refine WC.seq <| WC.region <| WL.v (v_assign rfl rfl) rfl <| WL.nt <| WC.seq <| WC.seq <| WC.region <| WL.v (v_move rfl rfl) rfl <| WL.v (v_eql_nil false rfl rfl Tryz.underlying75 rfl) rfl <| WL.nt <| WC.cond_f rfl <| WC.skip <| WE.then_n <| WC.seq <| ?_
  refine WC.region <| WL.v (v_assign rfl rfl) rfl <| WL.nt <| WC.seq <| WC.seq <| WC.region <| WL.v (v_move rfl rfl) rfl <| WL.v (v_nilCheck rfl rfl) rfl <| WL.v (v_fieldAddr0 rfl rfl fld_209_2) rfl <| WL.v (v_load1 rfl rfl one_207 (cellOld (fun h => h) h)) rfl <| WL.rangeE rfl rfl Tryz.underlying207 (fun w hS => hm.frm hS.frm) (.none rfl) rfl rfl <| ?_
  intro g12 hg12
  refine WL.nt <| WC.block <| WC.loop (fun _ : Unit => [(12, .pointer (some ⟨g12, 0, none⟩)), (3, .int .i64 0)]) (fun _ => [.obj g12 (.mapIter (some gh) 0 #[] 0)]) (fun _ => True) (fun _ => 0) () trivial (.cons rfl (.cons rfl .nil)) (.refl _) <| ?_
  intro _ _
  refine WC.seq <| WC.region <| WL.nextE rfl rfl (fun w hS => hm.frm hS.frm) (.none rfl) rfl rfl <| WL.v (v_extract rfl rfl rfl) rfl <| WL.nt <| WC.seq <| WC.cond_f rfl <| WC.exit <| WE.then_exit <| WE.then_exit <| WE.block_hit <| WE.then_n <| WC.seq <| WC.region <| ?_
  refine WL.v (v_move rfl rfl) rfl <| WL.v (v_assign rfl rfl) rfl <| WL.nt <| WC.ret <| WE.ret1 (P := Tryz.prog) (.inl rfl) Tryz.results100 rfl <| ?_
  exact fun w' h => ⟨rfl, h.frm⟩
theorem find0_c (w : World) (t : Nat) (h : w.cell? ⟨t, 0, none⟩ = some (.pointer none)) : Calls Tryz.prog 268 #[.pointer (some ⟨t, 0, none⟩), .agg #[.int .u32 0, .int .i64 0]] w fun e w' => e = .returned (.pointer none) ∧ Frm (fun _ => False) w w' := by
  refine enter Tryz.func268 rfl Tryz.ntmps268 rfl (St.start (fun _ => False) w) ?_
  refine WC.seq <| WC.region <| WL.box rfl rfl rfl (.none rfl) rfl rfl <| ?_
  intro g3 hg3
  refine WL.v (v_assign rfl rfl) rfl <| WL.nt <| WC.seq <| WC.seq <| WC.region <| WL.v (v_move rfl rfl) rfl <| WL.v (v_eql_nil false rfl rfl Tryz.underlying243 rfl) rfl <| WL.v (v_move rfl rfl) rfl <| WL.val (v_loadN rfl rfl many_82 rfl allAt) (.some rfl rfl rfl) rfl rfl <| WL.call rfl rfl ck_150 (.some rfl rfl rfl) rfl rfl <| ?_
  intro w hS
  refine Calls.then (pchk0_c w) hS ?_
  refine WL.val ((v_neq rfl rfl rfl).f (by omega)) (.some rfl rfl rfl) rfl rfl ?_
  refine WL.v (v_pick_f rfl rfl rfl) rfl <| WL.nt <| WC.cond_f rfl <| WC.skip <| WE.then_n <| WC.seq <| WC.region <| WL.v (v_move rfl rfl) rfl <| WL.v (v_nilCheck rfl rfl) rfl <| WL.v (v_fieldAddr0 rfl rfl fld_333_0) rfl <| WL.v (v_load1 rfl rfl one_331 (cellOld (fun h => h) h)) rfl <| WL.v (v_assign rfl rfl) rfl <| WL.nt <| WC.seq <| ?_
  refine WC.seq <| WC.region <| WL.v (v_assign rfl rfl) rfl <| WL.nt <| WC.block <| WC.loop (fun _ : Unit => [(6, .int .i64 0), (5, .pointer none), (3, .pointer (some ⟨g3, 0, none⟩))]) (fun _ => [.row g3 [.int .u32 0, .int .i64 0]]) (fun _ => True) (fun _ => 0) () trivial (.cons rfl (.cons rfl (.cons rfl .nil))) (.refl _) <| ?_
  intro _ _
  refine WC.seq <| WC.seq <| WC.region <| WL.v (v_move rfl rfl) rfl <| WL.v (v_fieldAddr0 rfl rfl fld_82_1) rfl <| WL.v (v_load1 rfl rfl one_3 (cellAt rfl)) rfl <| ?_
  refine WL.v ((v_lss rfl rfl rfl).f (by omega)) rfl ?_
  refine WL.v (v_move rfl rfl) rfl ?_
  iterate 2 refine WL.sk rfl ?_
  refine WL.v (v_pick_f rfl rfl rfl) rfl <| WL.nt <| WC.cond_f rfl <| WC.exit <| WE.then_exit <| WE.then_exit <| WE.block_hit <| WE.then_n <| WC.seq <| WC.region <| WL.v (v_move rfl rfl) rfl <| WL.v (v_assign rfl rfl) rfl <| WL.nt <| WC.ret <| ?_
  refine WE.ret1 (P := Tryz.prog) (.inl rfl) Tryz.results268 rfl ?_
  exact fun w' h => ⟨rfl, h.frm⟩
theorem nwalk0_c (w : World) (v f : Value) : Calls Tryz.prog 281 #[.pointer none, v, f] w fun e w' => e = .returned (.bool true) ∧ Frm (fun _ => False) w w' := by
  refine enter Tryz.func281 rfl Tryz.ntmps281 rfl (St.start (fun _ => False) w) ?_
  refine WC.seq <| WC.region <| WL.box rfl rfl rfl (.none rfl) rfl rfl <| ?_
  intro g4 hg4
  refine WL.v (v_assign rfl rfl) rfl <| WL.nt <| WC.seq <| WC.seq <| WC.region <| WL.v (v_move rfl rfl) rfl <| WL.v (v_eql_nil true rfl rfl Tryz.underlying331 rfl) rfl <| WL.nt <| WC.cond_t rfl <| WC.seq <| WC.region <| WL.v (v_assign rfl rfl) rfl <| WL.nt <| WC.ret <| ?_
  refine WE.then_ret <| WE.ret1 (P := Tryz.prog) (.inl rfl) Tryz.results281 rfl <| ?_
  exact fun w' h => ⟨rfl, h.frm⟩
theorem below0_c (w : World) (t : Nat) (fn : Fn) (fi ca : Array Value) (h : w.cell? ⟨t, 0, none⟩ = some (.pointer none)) : Calls Tryz.prog 207 #[.pointer (some ⟨t, 0, none⟩), .agg #[.int .u32 0, .int .i64 0], .func fn fi ca] w fun e w' => e = .returned (.tuple #[]) ∧ Frm (fun _ => False) w w' := by
  refine enter Tryz.func207 rfl Tryz.ntmps207 rfl (St.start (fun _ => False) w) ?_
  refine WC.seq <| WC.region <| WL.box rfl rfl rfl (.none rfl) rfl rfl <| ?_
  intro g4 hg4
  refine WL.nt <| WC.seq <| WC.region <| WL.v (v_move rfl rfl) rfl <| WL.v (v_neq_nil true rfl rfl Tryz.underlying261 rfl) rfl <| WL.nt <| WC.cond_t rfl <| ?_
  refine WC.quiet mixed (by kernel_rfl) ?_
  refine WQ.val (v_move rfl rfl) (.none rfl) rfl rfl <| WQ.val (v_loadN rfl rfl many_82 rfl allAt) (.none rfl) rfl rfl <| WQ.call _ rfl rfl ck_268 (.none rfl) rfl rfl (fun w hS => Calls.still (find0_c w t (cellOld (fun h => h) h w hS)) hS) <| WQ.val (v_loadN rfl rfl many_82 rfl allAt) (.none rfl) rfl rfl <| WQ.val (v_move rfl rfl) (.none rfl) rfl rfl <| WQ.call _ rfl rfl ck_281 (.none rfl) rfl rfl (fun w hS => Calls.still (nwalk0_c w _ _) hS) <| WQ.nil <| WE.ret0 (P := Tryz.prog) (.inr rfl) Tryz.results207  <| ?_
  exact fun w' h => ⟨rfl, h.frm⟩
theorem tall0_c (w : World) (t : Nat) (fn : Fn) (fi ca : Array Value) (h : w.cell? ⟨t, 0, none⟩ = some (.pointer none)) : Calls Tryz.prog 121 #[.pointer (some ⟨t, 0, none⟩), .func fn fi ca] w fun e w' => e = .returned (.tuple #[]) ∧ Frm (fun _ => False) w w' := by
  refine enter Tryz.func121 rfl Tryz.ntmps121 rfl (St.start (fun _ => False) w) ?_
  refine WC.region <| WL.v (v_move rfl rfl) rfl <| WL.v (v_build rfl rfl zero_82 plc_82 rfl) rfl <| WL.v (v_move rfl rfl) rfl <| WL.call rfl rfl ck_207 (.none rfl) rfl rfl <| ?_
  intro w hS
  refine Calls.then (below0_c w t fn fi ca (cellOld (fun h => h) h w hS)) hS ?_
  refine WL.nil <| WE.ret0 (P := Tryz.prog) (.inr rfl) Tryz.results121  <| ?_
  exact fun w' h => ⟨rfl, h.frm⟩
theorem rall0_c (w : World) (r t : Nat) (h : w.cell? ⟨r, 3, none⟩ = some (.pointer (some ⟨t, 0, none⟩))) (h2 : w.cell? ⟨t, 0, none⟩ = some (.pointer none)) : Calls Tryz.prog 62 #[.pointer (some ⟨r, 0, none⟩)] w fun e w' => e = .returned (.slice none 0 0) ∧ Frm (fun _ => False) w w' := by
  refine enter Tryz.func62 rfl Tryz.ntmps62 rfl (St.start (fun _ => False) w) ?_
  refine WC.seq <| WC.region <| WL.box rfl rfl rfl (.none rfl) rfl rfl <| ?_
  intro g1 hg1
  refine WL.v (v_assign rfl rfl) rfl <| WL.nt <| WC.seq <| WC.seq <| WC.region <| WL.v (v_load1 rfl rfl one_149 (cellAt rfl)) rfl <| WL.v (v_eql_nil false rfl rfl Tryz.underlying149 rfl) rfl <| WL.nt <| WC.cond_f rfl <| WC.skip <| WE.then_n <| WC.seq <| WC.region <| WL.alloc rfl zero_170 (.none rfl) rfl rfl <| ?_
  intro g3 hg3
  refine WL.nt <| WC.seq <| WC.region <| WL.v (v_load1 rfl rfl one_149 (cellAt rfl)) rfl <| WL.v (v_nilCheck rfl rfl) rfl <| WL.v (v_fieldAddr0 rfl rfl fld_246_3) rfl <| WL.v (v_load1 rfl rfl one_243 (cellOld (fun h => h) h)) rfl <| WL.v (v_makeFunc rfl rfl rfl) rfl <| WL.call rfl rfl ck_121 (.none rfl) rfl rfl <| ?_
  intro w1 hS
  refine (tall0_c w1 t _ _ _ (cellOld (fun h => h) h2 w1 hS)).mono ?_
  rintro e w' ⟨rfl, hF⟩
  refine ⟨_, _, rfl, hS.ext hF, ?_⟩
  refine WL.nt <| WC.seq <| WC.region <| WL.v (v_load1 rfl rfl one_170 (cellAt rfl)) rfl <| WL.v (v_assign rfl rfl) rfl <| WL.nt <| WC.ret <| WE.ret1 (P := Tryz.prog) (.inl rfl) Tryz.results62 rfl <| ?_
  exact fun w' h => ⟨rfl, h.frm⟩
theorem Nets_c (w : World) (gs n : Nat) (h : SvRd w gs n) (hn : n ≤ 1000) : Calls Tryz.prog 20 #[.pointer (some ⟨gs, 0, none⟩)] w fun e w' => e = .returned (.slice none 0 0) ∧ Frm (fun _ => False) w w' := by
  obtain ⟨ad, c, ms, hc, hl, hR, hM⟩ := h.ex
  refine enter Tryz.func20 rfl Tryz.ntmps20 rfl (St.start (fun _ => False) w) ?_
  refine WC.seq <| WC.region <| WL.v (v_assign rfl rfl) rfl <| WL.nt <| WC.seq <| WC.seq <| WC.region <| WL.v (v_move rfl rfl) rfl <| WL.v (v_eql_nil false rfl rfl Tryz.underlying63 rfl) rfl <| WL.nt <| WC.cond_f rfl <| WC.skip <| WE.then_n <| WC.seq <| ?_
  refine WC.region <| WL.v (v_assign rfl rfl) rfl <| WL.nt <| WC.seq <| WC.seq <| WC.region <| WL.v (v_move rfl rfl) rfl <| WL.v (v_nilCheck rfl rfl) rfl <| WL.v (v_fieldAddr0 rfl rfl fld_147_0) rfl <| WL.v (v_load1 rfl rfl one_145 (cellOld (fun h => h) hc)) rfl <| WL.v (v_len_slice rfl rfl Tryz.underlying145) rfl <| WL.v (v_move rfl rfl) rfl <| WL.nt <| WC.block <| ?_
  refine WC.loop (fun k : Nat => [(15, .int .i64 k), (14, .int .i64 n), (13, .slice ad n c), (3, .slice none 0 0)]) (fun _ => []) (fun k => k ≤ n) (fun k => n - k) 0 (Nat.zero_le _) (.cons rfl (.cons rfl (.cons rfl (.cons rfl .nil)))) (.refl _) ?_
  intro k hk
  refine WC.seq <| WC.region <| ?_
  refine WL.test (v_lss rfl rfl rfl) (.none rfl) rfl rfl (fun h16 => ?_) (fun h16 => ?_)
  ·
   refine WL.nt <| WC.seq <| WC.cond_t rfl <| WC.skip <| WE.then_n <| WC.seq <| WC.block <| WC.seq <| WC.region <| ?_
   obtain ⟨m, hx⟩ : ∃ x, ms[k]? = some x := ⟨ms[k]'(by omega), List.getElem?_eq_getElem _⟩
   obtain ⟨b1, o1, ea1, r1⟩ := hR (by intro hh; have := congrArg List.length hh; rw [List.length_map, hl] at this; simp at this; omega)
   have hm := hM m (List.mem_of_getElem? hx)
   have r1 := r1 k (.pointer (some ⟨m.1, 0, none⟩)) (by rw [List.getElem?_map, hx]; rfl)
   refine WL.v ((v_indexAddr (b := b1) (off := o1) (lo := k) rfl (by show some (Value.slice ad _ _) = _; rw [ea1]) rfl Tryz.underlying145 sz_148 rfl (by omega))) rfl ?_
   refine WL.v (v_load1 rfl rfl one_148 (cellOld (fun h => h) (by rw [Nat.mul_one]; exact r1))) rfl ?_
   refine WL.v (v_assign rfl rfl) rfl <| WL.nt <| WC.seq <| WC.region <| WL.v (v_move rfl rfl) rfl <| WL.v (v_nilCheck rfl rfl) rfl <| WL.v (v_fieldAddr0 rfl rfl fld_154_2) rfl <| WL.v (v_load1 rfl rfl one_149 (cellOld (fun h => h) hm.1)) rfl <| WL.call rfl rfl ck_62 (.none rfl) rfl rfl <| ?_
   intro w hS
   refine Calls.then (rall0_c w m.2.1 m.2.2 (cellOld (fun h => h) hm.2.1 w hS) (cellOld (fun h => h) hm.2.2 w hS)) hS ?_
   refine WL.v (v_len_slice rfl rfl Tryz.underlying170) rfl <| WL.v (v_move rfl rfl) rfl <| WL.nt <| WC.block <| WC.loop (fun _ : Unit => [(25, .int .i64 0), (24, .int .i64 0), (15, .int .i64 k), (14, .int .i64 n), (13, .slice ad n c), (3, .slice none 0 0)]) (fun _ => []) (fun _ => True) (fun _ => 0) () trivial (.cons rfl (.cons rfl (.cons rfl (.cons rfl (.cons rfl (.cons rfl .nil)))))) (.refl _) <| ?_
   intro _ _
   refine WC.seq <| WC.region <| ?_
   refine WL.v ((v_lss rfl rfl rfl).f (by omega)) rfl ?_
   refine WL.nt <| WC.seq <| WC.cond_f rfl <| WC.exit <| WE.then_exit <| WE.then_exit <| WE.block_hit <| WE.block_n <| WE.then_n <| WC.region <| ?_
   refine WL.v (v_add rfl rfl rfl ((show _ = ((k + 1 : Nat) : Int) from (w_i64 (by omega) (by omega)).trans (by omega)))) rfl ?_
   refine WL.v (v_move rfl rfl) rfl <| WL.nil <| ?_
   exact WE.next (k + 1) (by omega) (by omega) (.cons rfl (.cons rfl (.cons rfl (.cons rfl .nil)))) (.refl _)
  ·
   refine WL.nt <| WC.seq <| WC.cond_f rfl <| WC.exit <| WE.then_exit <| WE.then_exit <| WE.block_hit <| WE.then_n <| WC.seq <| WC.region <| WL.v (v_move rfl rfl) rfl <| WL.call rfl rfl ck_63 (.none rfl) rfl rfl <| ?_
   intro w hS
   refine Calls.then (sort0_c w) hS ?_
   refine WL.nt <| WC.seq <| WC.region <| WL.v (v_move rfl rfl) rfl <| WL.call rfl rfl ck_65 (.none rfl) rfl rfl <| ?_
   intro w hS
   refine Calls.then (compact0_c w) hS ?_
   refine WL.v (v_assign rfl rfl) rfl <| WL.nt <| WC.ret <| WE.ret1 (P := Tryz.prog) (.inl rfl) Tryz.results20 rfl <| ?_
   exact fun w' h => ⟨rfl, h.frm⟩
/-- The places' maps of an exchange, all of them empty. -/
structure SpRd (w : World) (gx gsp : Nat) (n c : Nat) (bs : List Nat) : Prop where
  cell : w.cell? ⟨gx, 11, none⟩ = some (.slice (some ⟨gsp, 0, none⟩) n c)
  len : bs.length = n
  rd : w.rangeAt gsp 0 (bs.map fun b => .map (some b))
  emp : ∀ b ∈ bs, Emp w b
theorem marks0_c (w : World) (gx gsp n c : Nat) (bs : List Nat) (h : SpRd w gx gsp n c bs) (hn : n ≤ 1000) : Calls Tryz.prog 103 #[.pointer (some ⟨gx, 0, none⟩)] w fun e w' => e = .returned (.slice none 0 0) ∧ Frm (fun _ => False) w w' := by
  have hlen := h.len
  refine enter Tryz.func103 rfl Tryz.ntmps103 rfl (St.start (fun _ => False) w) ?_
  refine WC.seq <| WC.region <| WL.v (v_assign rfl rfl) rfl <| WL.nt <| WC.seq <| WC.region <| WL.v (v_assign rfl rfl) rfl <| WL.nt <| WC.seq <| WC.seq <| WC.region <| WL.v (v_move rfl rfl) rfl <| WL.v (v_nilCheck rfl rfl) rfl <| WL.v (v_fieldAddr0 rfl rfl fld_79_6) rfl <| ?_
  refine WL.v (v_load1 rfl rfl one_77 (cellOld (fun h => h) h.cell)) rfl <| WL.v (v_len_slice rfl rfl Tryz.underlying77) rfl <| WL.v (v_move rfl rfl) rfl <| WL.nt <| WC.block <| WC.loop (fun k : Nat => [(13, .int .i64 k), (12, .int .i64 n), (11, .slice (some ⟨gsp, 0, none⟩) n c), (3, .slice none 0 0)]) (fun _ => []) (fun k => k ≤ n) (fun k => n - k) 0 (Nat.zero_le _) (.cons rfl (.cons rfl (.cons rfl (.cons rfl .nil)))) (.refl _) <| ?_
  intro k hk
  refine WC.seq <| WC.region <| ?_
  refine WL.test (v_lss rfl rfl rfl) (.none rfl) rfl rfl (fun h14 => ?_) (fun h14 => ?_)
  ·
   refine WL.nt <| WC.seq <| WC.cond_t rfl <| WC.skip <| WE.then_n <| WC.seq <| WC.block <| WC.seq <| WC.region <| ?_
   obtain ⟨b, hx⟩ : ∃ x, bs[k]? = some x := ⟨bs[k]'(by omega), List.getElem?_eq_getElem _⟩
   have hm := h.emp b (List.mem_of_getElem? hx)
   have r1 := h.rd k (.map (some b)) (by rw [List.getElem?_map, hx]; rfl)
   refine WL.v (v_indexAddr (lo := k) rfl rfl rfl Tryz.underlying77 sz_133 (by omega) (by omega)) rfl ?_
   refine WL.v (v_load1 rfl rfl one_133 (cellOld (fun h => h) (by rw [Nat.mul_one]; exact r1))) rfl ?_
   refine WL.v (v_assign rfl rfl) rfl <| WL.nt <| WC.seq <| WC.region <| WL.v (v_move rfl rfl) rfl <| WL.rangeE rfl rfl Tryz.underlying133 (fun w hS => hm.frm hS.frm) (.none rfl) rfl rfl <| ?_
   intro g18 hg18
   refine WL.nt <| WC.block <| WC.loop (fun _ : Unit => [(18, .pointer (some ⟨g18, 0, none⟩)), (13, .int .i64 k), (12, .int .i64 n), (11, .slice (some ⟨gsp, 0, none⟩) n c), (3, .slice none 0 0)]) (fun _ => [.obj g18 (.mapIter (some b) 0 #[] 0)]) (fun _ => True) (fun _ => 0) () trivial (.cons rfl (.cons rfl (.cons rfl (.cons rfl (.cons rfl .nil))))) (.refl _) <| ?_
   intro _ _
   refine WC.seq <| WC.region <| WL.nextE rfl rfl (fun w hS => hm.frm hS.frm) (.none rfl) rfl rfl <| WL.v (v_extract rfl rfl rfl) rfl <| WL.nt <| WC.seq <| WC.cond_f rfl <| WC.exit <| WE.then_exit <| WE.then_exit <| WE.block_hit <| WE.block_n <| WE.then_n <| WC.region <| ?_
   refine WL.v (v_add rfl rfl rfl ((show _ = ((k + 1 : Nat) : Int) from (w_i64 (by omega) (by omega)).trans (by omega)))) rfl ?_
   refine WL.v (v_move rfl rfl) rfl <| WL.nil <| ?_
   exact WE.next (k + 1) (by omega) (by omega) (.cons rfl (.cons rfl (.cons rfl (.cons rfl .nil)))) (.cons _ (.refl _))
  ·
   refine WL.nt <| WC.seq <| WC.cond_f rfl <| WC.exit <| WE.then_exit <| WE.then_exit <| WE.block_hit <| WE.then_n <| WC.seq <| WC.region <| WL.v (v_move rfl rfl) rfl <| WL.v (v_assign rfl rfl) rfl <| WL.nt <| WC.ret <| ?_
   refine WE.ret1 (P := Tryz.prog) (.inl rfl) Tryz.results103 rfl ?_
   exact fun w' h => ⟨rfl, h.frm⟩
theorem xnets0_c (w : World) (gx gsp n c k : Nat) (bs : List Nat) (h : SpRd w gx gsp n c bs) (hk : k < n) : Calls Tryz.prog 59 #[.pointer (some ⟨gx, 0, none⟩), .int .i64 k] w fun e w' => e = .returned (.slice none 0 0) ∧ Frm (fun _ => False) w w' := by
  have hlen := h.len
  obtain ⟨b, hx⟩ : ∃ x, bs[k]? = some x := ⟨bs[k]'(by omega), List.getElem?_eq_getElem _⟩
  have hm := h.emp b (List.mem_of_getElem? hx)
  have r1 := h.rd k (.map (some b)) (by rw [List.getElem?_map, hx]; rfl)
  refine enter Tryz.func59 rfl Tryz.ntmps59 rfl (St.start (fun _ => False) w) ?_
  refine WC.seq <| WC.region <| WL.v (v_assign rfl rfl) rfl <| WL.nt <| WC.seq <| WC.region <| WL.v (v_assign rfl rfl) rfl <| WL.nt <| WC.seq <| WC.seq <| WC.region <| WL.v (v_move rfl rfl) rfl <| WL.v (v_nilCheck rfl rfl) rfl <| WL.v (v_fieldAddr0 rfl rfl fld_79_6) rfl <| ?_
  refine WL.v (v_load1 rfl rfl one_77 (cellOld (fun h => h) h.cell)) rfl <| WL.v (v_move rfl rfl) rfl <| ?_
  refine WL.v (v_indexAddr (lo := k) rfl rfl rfl Tryz.underlying77 sz_133 (by omega) (by omega)) rfl ?_
  refine WL.v (v_load1 rfl rfl one_133 (cellOld (fun h => h) (by rw [Nat.mul_one]; exact r1))) rfl ?_
  refine WL.rangeE rfl rfl Tryz.underlying133 (fun w hS => hm.frm hS.frm) (.none rfl) rfl rfl ?_
  intro g14 hg14
  refine WL.nt <| WC.block <| WC.loop (fun _ : Unit => [(14, .pointer (some ⟨g14, 0, none⟩)), (5, .slice none 0 0)]) (fun _ => [.obj g14 (.mapIter (some b) 0 #[] 0)]) (fun _ => True) (fun _ => 0) () trivial (.cons rfl (.cons rfl .nil)) (.refl _) <| ?_
  intro _ _
  refine WC.seq <| WC.region <| WL.nextE rfl rfl (fun w hS => hm.frm hS.frm) (.none rfl) rfl rfl <| WL.v (v_extract rfl rfl rfl) rfl <| WL.nt <| WC.seq <| WC.cond_f rfl <| WC.exit <| WE.then_exit <| WE.then_exit <| WE.block_hit <| WE.then_n <| WC.seq <| WC.region <| ?_
  refine WL.v (v_move rfl rfl) rfl <| WL.call rfl rfl ck_63 (.none rfl) rfl rfl <| ?_
  intro w hS
  refine Calls.then (sort0_c w) hS ?_
  refine WL.nt <| WC.seq <| WC.region <| WL.v (v_move rfl rfl) rfl <| WL.v (v_assign rfl rfl) rfl <| WL.nt <| WC.ret <| WE.ret1 (P := Tryz.prog) (.inl rfl) Tryz.results59 rfl <| ?_
  exact fun w' h => ⟨rfl, h.frm⟩
end Go.Proofs.YtmhahajadgkolaaGreatDoor
/- policy: a node as a tree, and where its nodes lie. -/
namespace Go.Proofs.YtmhahajadgkolaaGreatDoor
open Go.RowKit

/-- A node, with where its kids lie. -/
inductive Nd where
  | mk (kind f val mask : Int) (ad : Option Addr) (cap : Nat) (kids : List Nd)
def Nd.kind : Nd → Int | .mk k _ _ _ _ _ _ => k
def Nd.f : Nd → Int | .mk _ f _ _ _ _ _ => f
def Nd.val : Nd → Int | .mk _ _ v _ _ _ _ => v
def Nd.mask : Nd → Int | .mk _ _ _ m _ _ _ => m
def Nd.ad : Nd → Option Addr | .mk _ _ _ _ a _ _ => a
def Nd.cap : Nd → Nat | .mk _ _ _ _ _ c _ => c
def Nd.kids : Nd → List Nd | .mk _ _ _ _ _ _ ks => ks
def ndL (t : Nd) : List Value := [.int .i64 t.kind, .int .i64 t.f, .int .u64 t.val, .int .u64 t.mask, .slice t.ad t.kids.length t.cap]
def ndV (t : Nd) : Value := .agg (ndL t).toArray
mutual
/-- The node's kids lie in this world where the tree says, and theirs. -/
def Nd.At (w : World) : Nd → Prop
  | .mk _ _ _ _ ad _ kids => KidsAt w ad 0 kids
def KidsAt (w : World) (ad : Option Addr) : Nat → List Nd → Prop
  | _, [] => True
  | i, t :: ts => (∃ b o, ad = some ⟨b, o, none⟩ ∧ w.rangeAt b (o + i * 5) (ndL t)) ∧ t.At w ∧ KidsAt w ad (i + 1) ts
end
mutual
/-- Its numbers are numbers of their types. -/
def Nd.In : Nd → Prop
  | .mk k f v m _ _ kids => (-9223372036854775808 ≤ k ∧ k ≤ 9223372036854775807) ∧ (-9223372036854775808 ≤ f ∧ f ≤ 9223372036854775807) ∧ (0 ≤ v ∧ v ≤ 18446744073709551615) ∧ (0 ≤ m ∧ m ≤ 18446744073709551615) ∧ kids.length ≤ 9223372036854775807 ∧ KidsIn kids
def KidsIn : List Nd → Prop
  | [] => True
  | t :: ts => t.In ∧ KidsIn ts
end
theorem KidsAt.get {w : World} {ad : Option Addr} : ∀ (ts : List Nd) (i j : Nat) (t : Nd), KidsAt w ad i ts → ts[j]? = some t → (∃ b o, ad = some ⟨b, o, none⟩ ∧ w.rangeAt b (o + (i + j) * 5) (ndL t)) ∧ t.At w
  | [], _, _, _, _, h => by simp at h
  | t :: ts, i, 0, t', h, ht => by
    simp only [List.getElem?_cons_zero, Option.some.injEq] at ht
    subst ht
    unfold KidsAt at h
    exact ⟨h.1, h.2.1⟩
  | t :: ts, i, j + 1, t', h, ht => by
    unfold KidsAt at h
    rw [List.getElem?_cons_succ] at ht
    have := KidsAt.get ts (i + 1) j t' h.2.2 ht
    rwa [show i + 1 + j = i + (j + 1) by omega] at this
theorem KidsIn.get : ∀ (ts : List Nd) (j : Nat) (t : Nd), KidsIn ts → ts[j]? = some t → t.In
  | [], _, _, _, h => by simp at h
  | t :: ts, 0, t', h, ht => by
    simp only [List.getElem?_cons_zero, Option.some.injEq] at ht
    subst ht
    unfold KidsIn at h
    exact h.1
  | t :: ts, j + 1, t', h, ht => by
    unfold KidsIn at h
    rw [List.getElem?_cons_succ] at ht
    exact KidsIn.get ts j t' h.2 ht
mutual
theorem Nd.At.keep {w w' : World} (hw : ∀ b o cs, w.rangeAt b o cs → w'.rangeAt b o cs) : ∀ t : Nd, t.At w → t.At w'
  | .mk _ _ _ _ ad _ kids, h => by unfold Nd.At at h ⊢; exact KidsAt.keep hw ad 0 kids h
theorem KidsAt.keep {w w' : World} (hw : ∀ b o cs, w.rangeAt b o cs → w'.rangeAt b o cs) (ad : Option Addr) : ∀ (i : Nat) (ts : List Nd), KidsAt w ad i ts → KidsAt w' ad i ts
  | _, [], _ => by unfold KidsAt; trivial
  | i, t :: ts, h => by
    unfold KidsAt at h ⊢
    obtain ⟨⟨b, o, e, hr⟩, h2, h3⟩ := h
    exact ⟨⟨b, o, e, hw _ _ _ hr⟩, Nd.At.keep hw t h2, KidsAt.keep hw ad (i + 1) ts h3⟩
end
theorem Nd.At.kids {w : World} {t : Nd} (h : t.At w) : KidsAt w t.ad 0 t.kids := by cases t; unfold Nd.At at h; exact h
theorem Nd.In.kids {t : Nd} (h : t.In) : KidsIn t.kids := by cases t; unfold Nd.In at h; exact h.2.2.2.2.2
theorem Nd.In.nums {t : Nd} (h : t.In) : (-9223372036854775808 ≤ t.kind ∧ t.kind ≤ 9223372036854775807) ∧ (-9223372036854775808 ≤ t.f ∧ t.f ≤ 9223372036854775807) ∧ (0 ≤ t.val ∧ t.val ≤ 18446744073709551615) ∧ (0 ≤ t.mask ∧ t.mask ≤ 18446744073709551615) ∧ t.kids.length ≤ 9223372036854775807 := by
  cases t; unfold Nd.In at h; exact ⟨h.1, h.2.1, h.2.2.1, h.2.2.2.1, h.2.2.2.2.1⟩
/-- Kid j, and where it lies. -/
theorem Nd.At.kid {w : World} {t u : Nd} {j : Nat} (h : t.At w) (hu : t.kids[j]? = some u) : (∃ b o, t.ad = some ⟨b, o, none⟩ ∧ w.rangeAt b (o + j * 5) (ndL u)) ∧ u.At w := by
  have := h.kids.get _ 0 j u hu
  rwa [Nat.zero_add] at this
/-! ### What is wrong with a node by itself -/
def isFld (f : Int) : Prop := 0 ≤ f ∧ f < 9
instance (f : Int) : Decidable (isFld f) := by unfold isFld; infer_instance
def fitsP (k : Int) (pred : Bool) : Bool := if pred then decide (1 ≤ k ∧ k ≤ 6) else decide (11 ≤ k ∧ k ≤ 17)
def argE (t : Nd) : Int :=
  if t.kind = 3 then (if ¬ isFld t.f ∨ andNotN t.mask (fullI t.f.toNat) ≠ 0 ∨ andNotN t.val t.mask ≠ 0 then 1 else 0)
  else if t.kind = 14 then (if ¬ isFld t.f ∨ t.f = 3 ∨ t.f = 6 ∨ t.val > fullI t.f.toNat then 1 else 0) else 0
def leastK (k : Int) : Int := if k = 4 ∨ k = 13 then 1 else if k = 17 then 3 else 0
def mostK (k : Int) : Int := if k = 4 ∨ k = 13 then 1 else if k = 17 then 3 else if k = 5 ∨ k = 6 ∨ k = 15 ∨ k = 16 then 64 else 0
def formE (t : Nd) : Int := if (t.kids.length : Int) < leastK t.kind ∨ mostK t.kind < t.kids.length then 2 else 0
def predK (k : Int) (place : Nat) : Bool := decide (k = 4 ∨ k = 5 ∨ k = 6 ∨ k = 13 ∨ k = 17 ∧ place = 0)
theorem PField_c (w : World) (f : Int) :
    Calls Tryz.prog 316 #[.int .i64 f] w fun e w' => e = .returned (.bool (decide (isFld f))) ∧ Frm (fun _ => False) w w' := by
  refine enter Tryz.func316 rfl Tryz.ntmps316 rfl (St.start (fun _ => False) w) ?_
  refine WC.seq <| WC.region <| WL.v (v_assign rfl rfl) rfl <| WL.nt <| WC.seq <| WC.region <| WL.v (v_move rfl rfl) rfl <| ?_
  refine WL.test (v_geq rfl rfl rfl) (.none rfl) rfl rfl (fun h4 => ?_) (fun h4 => ?_)
  ·
   refine WL.v (v_move rfl rfl) rfl <| WL.val (v_move rfl rfl) (.some rfl rfl rfl) rfl rfl <| ?_
   refine WL.test (v_lss rfl rfl rfl) (.some rfl rfl rfl) rfl rfl (fun h7 => ?_) (fun h7 => ?_)
   ·
    refine WL.v (v_pick_t rfl rfl rfl) rfl <| WL.v (v_assign rfl rfl) rfl <| WL.nt <| WC.ret <| WE.ret1 (P := Tryz.prog) (.inl rfl) Tryz.results316 rfl <| ?_
    exact fun w' h => ⟨by rw [decide_eq_true (p := isFld f) ⟨h4, h7⟩], h.frm⟩
   ·
    refine WL.v (v_pick_t rfl rfl rfl) rfl <| WL.v (v_assign rfl rfl) rfl <| WL.nt <| WC.ret <| WE.ret1 (P := Tryz.prog) (.inl rfl) Tryz.results316 rfl <| ?_
    exact fun w' h => ⟨by rw [decide_eq_false (fun q : isFld f => h7 q.2)], h.frm⟩
  ·
   refine WL.v (v_move rfl rfl) rfl ?_
   iterate 2 refine WL.sk rfl ?_
   refine WL.v (v_pick_f rfl rfl rfl) rfl <| WL.v (v_assign rfl rfl) rfl <| WL.nt <| WC.ret <| WE.ret1 (P := Tryz.prog) (.inl rfl) Tryz.results316 rfl <| ?_
   exact fun w' h => ⟨by rw [decide_eq_false (fun q : isFld f => h4 q.1)], h.frm⟩
theorem Fits_c (w : World) (k : Int) (pred : Bool) :
    Calls Tryz.prog 242 #[.int .i64 k, .bool pred] w fun e w' => e = .returned (.bool (fitsP k pred)) ∧ Frm (fun _ => False) w w' := by
  refine enter Tryz.func242 rfl Tryz.ntmps242 rfl (St.start (fun _ => False) w) ?_
  refine WC.seq <| WC.region <| WL.v (v_assign rfl rfl) rfl <| WL.nt <| WC.seq <| WC.seq <| WC.region <| WL.v (v_move rfl rfl) rfl <| ?_
  cases pred
  ·
   refine WL.nt <| WC.cond_f rfl <| WC.skip <| WE.then_n <| WC.seq <| WC.region <| WL.v (v_move rfl rfl) rfl <| ?_
   refine WL.test (v_geq rfl rfl rfl) (.none rfl) rfl rfl (fun h13 => ?_) (fun h13 => ?_)
   ·
    refine WL.v (v_move rfl rfl) rfl <| WL.val (v_move rfl rfl) (.some rfl rfl rfl) rfl rfl <| ?_
    refine WL.test (v_leq rfl rfl rfl) (.some rfl rfl rfl) rfl rfl (fun h16 => ?_) (fun h16 => ?_)
    ·
     refine WL.v (v_pick_t rfl rfl rfl) rfl <| WL.v (v_assign rfl rfl) rfl <| WL.nt <| WC.ret <| WE.ret1 (P := Tryz.prog) (.inl rfl) Tryz.results242 rfl <| ?_
     exact fun w' h => ⟨by unfold fitsP; first | (rw [if_pos rfl, decide_eq_true (by omega)]) | (rw [if_pos rfl, decide_eq_false (by omega)]) | (rw [if_neg (by decide), decide_eq_true (by omega)]) | (rw [if_neg (by decide), decide_eq_false (by omega)]), h.frm⟩
    ·
     refine WL.v (v_pick_t rfl rfl rfl) rfl <| WL.v (v_assign rfl rfl) rfl <| WL.nt <| WC.ret <| WE.ret1 (P := Tryz.prog) (.inl rfl) Tryz.results242 rfl <| ?_
     exact fun w' h => ⟨by unfold fitsP; first | (rw [if_pos rfl, decide_eq_true (by omega)]) | (rw [if_pos rfl, decide_eq_false (by omega)]) | (rw [if_neg (by decide), decide_eq_true (by omega)]) | (rw [if_neg (by decide), decide_eq_false (by omega)]), h.frm⟩
   ·
    refine WL.v (v_move rfl rfl) rfl ?_
    iterate 2 refine WL.sk rfl ?_
    refine WL.v (v_pick_f rfl rfl rfl) rfl <| WL.v (v_assign rfl rfl) rfl <| WL.nt <| WC.ret <| WE.ret1 (P := Tryz.prog) (.inl rfl) Tryz.results242 rfl <| ?_
    exact fun w' h => ⟨by unfold fitsP; first | (rw [if_pos rfl, decide_eq_true (by omega)]) | (rw [if_pos rfl, decide_eq_false (by omega)]) | (rw [if_neg (by decide), decide_eq_true (by omega)]) | (rw [if_neg (by decide), decide_eq_false (by omega)]), h.frm⟩
  ·
   refine WL.nt <| WC.cond_t rfl <| WC.seq <| WC.region <| WL.v (v_move rfl rfl) rfl <| ?_
   refine WL.test (v_geq rfl rfl rfl) (.none rfl) rfl rfl (fun h7 => ?_) (fun h7 => ?_)
   ·
    refine WL.v (v_move rfl rfl) rfl <| WL.val (v_move rfl rfl) (.some rfl rfl rfl) rfl rfl <| ?_
    refine WL.test (v_leq rfl rfl rfl) (.some rfl rfl rfl) rfl rfl (fun h10 => ?_) (fun h10 => ?_)
    ·
     refine WL.v (v_pick_t rfl rfl rfl) rfl <| WL.v (v_assign rfl rfl) rfl <| WL.nt <| WC.ret <| WE.then_ret <| WE.ret1 (P := Tryz.prog) (.inl rfl) Tryz.results242 rfl <| ?_
     exact fun w' h => ⟨by unfold fitsP; first | (rw [if_pos rfl, decide_eq_true (by omega)]) | (rw [if_pos rfl, decide_eq_false (by omega)]) | (rw [if_neg (by decide), decide_eq_true (by omega)]) | (rw [if_neg (by decide), decide_eq_false (by omega)]), h.frm⟩
    ·
     refine WL.v (v_pick_t rfl rfl rfl) rfl <| WL.v (v_assign rfl rfl) rfl <| WL.nt <| WC.ret <| WE.then_ret <| WE.ret1 (P := Tryz.prog) (.inl rfl) Tryz.results242 rfl <| ?_
     exact fun w' h => ⟨by unfold fitsP; first | (rw [if_pos rfl, decide_eq_true (by omega)]) | (rw [if_pos rfl, decide_eq_false (by omega)]) | (rw [if_neg (by decide), decide_eq_true (by omega)]) | (rw [if_neg (by decide), decide_eq_false (by omega)]), h.frm⟩
   ·
    refine WL.v (v_move rfl rfl) rfl ?_
    iterate 2 refine WL.sk rfl ?_
    refine WL.v (v_pick_f rfl rfl rfl) rfl <| WL.v (v_assign rfl rfl) rfl <| WL.nt <| WC.ret <| WE.then_ret <| WE.ret1 (P := Tryz.prog) (.inl rfl) Tryz.results242 rfl <| ?_
    exact fun w' h => ⟨by unfold fitsP; first | (rw [if_pos rfl, decide_eq_true (by omega)]) | (rw [if_pos rfl, decide_eq_false (by omega)]) | (rw [if_neg (by decide), decide_eq_true (by omega)]) | (rw [if_neg (by decide), decide_eq_false (by omega)]), h.frm⟩
theorem PredKid_c (w : World) (t : Nd) (place : Nat) :
    Calls Tryz.prog 245 #[ndV t, .int .i64 place] w fun e w' => e = .returned (.bool (predK t.kind place)) ∧ Frm (fun _ => False) w w' := by
  refine enter Tryz.func245 rfl Tryz.ntmps245 rfl (St.start (fun _ => False) w) ?_
  refine WC.seq <| WC.region <| WL.box rfl rfl rfl (.none rfl) rfl rfl <| ?_
  intro g2 hg2
  refine WL.v (v_assign rfl rfl) rfl <| WL.nt <| WC.seq <| WC.seq <| WC.region <| WL.v (v_fieldAddr0 rfl rfl fld_26_0) rfl <| WL.v (v_load1 rfl rfl one_3 (cellAt rfl)) rfl <| WL.nt <| WC.block <| WC.seq <| WC.seq <| WC.region <| ?_
  refine WL.test (v_eql rfl rfl rfl) (.none rfl) rfl rfl (fun h8 => ?_) (fun h8 => ?_)
  ·
   refine WL.v (v_assign rfl rfl) rfl <| WL.nt <| WC.cond_t rfl <| WC.skip <| WE.then_n <| WC.cond_t rfl <| WC.seq <| WC.region <| WL.v (v_assign rfl rfl) rfl <| WL.nt <| WC.ret <| WE.block_ret <| WE.then_ret <| WE.ret1 (P := Tryz.prog) (.inl rfl) Tryz.results245 rfl <| ?_
   exact fun w' h => ⟨by unfold predK; first | rw [decide_eq_true (by omega)] | rw [decide_eq_false (by omega)], h.frm⟩
  ·
   refine WL.v (v_assign rfl rfl) rfl <| WL.nt <| WC.cond_f rfl <| WC.seq <| WC.region <| ?_
   refine WL.test (v_eql rfl rfl rfl) (.none rfl) rfl rfl (fun h9 => ?_) (fun h9 => ?_)
   ·
    refine WL.v (v_assign rfl rfl) rfl <| WL.nt <| WC.cond_t rfl <| WC.skip <| WE.then_n <| WC.cond_t rfl <| WC.seq <| WC.region <| WL.v (v_assign rfl rfl) rfl <| WL.nt <| WC.ret <| WE.block_ret <| WE.then_ret <| WE.ret1 (P := Tryz.prog) (.inl rfl) Tryz.results245 rfl <| ?_
    exact fun w' h => ⟨by unfold predK; first | rw [decide_eq_true (by omega)] | rw [decide_eq_false (by omega)], h.frm⟩
   ·
    refine WL.v (v_assign rfl rfl) rfl <| WL.nt <| WC.cond_f rfl <| WC.seq <| WC.region <| ?_
    refine WL.test (v_eql rfl rfl rfl) (.none rfl) rfl rfl (fun h10 => ?_) (fun h10 => ?_)
    ·
     refine WL.v (v_assign rfl rfl) rfl <| WL.nt <| WC.cond_t rfl <| WC.skip <| WE.then_n <| WC.cond_t rfl <| WC.seq <| WC.region <| WL.v (v_assign rfl rfl) rfl <| WL.nt <| WC.ret <| WE.block_ret <| WE.then_ret <| WE.ret1 (P := Tryz.prog) (.inl rfl) Tryz.results245 rfl <| ?_
     exact fun w' h => ⟨by unfold predK; first | rw [decide_eq_true (by omega)] | rw [decide_eq_false (by omega)], h.frm⟩
    ·
     refine WL.v (v_assign rfl rfl) rfl <| WL.nt <| WC.cond_f rfl <| WC.region <| ?_
     refine WL.test (v_eql rfl rfl rfl) (.none rfl) rfl rfl (fun h11 => ?_) (fun h11 => ?_)
     ·
      refine WL.v (v_assign rfl rfl) rfl <| WL.nt <| WC.cond_t rfl <| WC.seq <| WC.region <| WL.v (v_assign rfl rfl) rfl <| WL.nt <| WC.ret <| WE.block_ret <| WE.then_ret <| WE.ret1 (P := Tryz.prog) (.inl rfl) Tryz.results245 rfl <| ?_
      exact fun w' h => ⟨by unfold predK; first | rw [decide_eq_true (by omega)] | rw [decide_eq_false (by omega)], h.frm⟩
     ·
      refine WL.v (v_assign rfl rfl) rfl <| WL.nt <| WC.cond_f rfl <| WC.seq <| WC.region <| ?_
      refine WL.test (v_eql rfl rfl rfl) (.none rfl) rfl rfl (fun h13 => ?_) (fun h13 => ?_)
      ·
       refine WL.v (v_assign rfl rfl) rfl <| WL.nt <| WC.cond_t rfl <| WC.seq <| WC.region <| WL.v (v_move rfl rfl) rfl <| ?_
       refine WL.test (v_eql rfl rfl rfl) (.none rfl) rfl rfl (fun h15 => ?_) (fun h15 => ?_)
       ·
        refine WL.v (v_assign rfl rfl) rfl <| WL.nt <| WC.ret <| WE.block_ret <| WE.then_ret <| WE.ret1 (P := Tryz.prog) (.inl rfl) Tryz.results245 rfl <| ?_
        exact fun w' h => ⟨by unfold predK; first | rw [decide_eq_true (by omega)] | rw [decide_eq_false (by omega)], h.frm⟩
       ·
        refine WL.v (v_assign rfl rfl) rfl <| WL.nt <| WC.ret <| WE.block_ret <| WE.then_ret <| WE.ret1 (P := Tryz.prog) (.inl rfl) Tryz.results245 rfl <| ?_
        exact fun w' h => ⟨by unfold predK; first | rw [decide_eq_true (by omega)] | rw [decide_eq_false (by omega)], h.frm⟩
      ·
       refine WL.v (v_assign rfl rfl) rfl <| WL.nt <| WC.cond_f rfl <| WC.skip <| WE.block_n <| WE.then_n <| WC.seq <| WC.region <| WL.v (v_assign rfl rfl) rfl <| WL.nt <| WC.ret <| WE.ret1 (P := Tryz.prog) (.inl rfl) Tryz.results245 rfl <| ?_
       exact fun w' h => ⟨by unfold predK; first | rw [decide_eq_true (by omega)] | rw [decide_eq_false (by omega)], h.frm⟩
end Go.Proofs.YtmhahajadgkolaaGreatDoor
/- policy: what is wrong with a node; the walk of a tree. -/
namespace Go.Proofs.YtmhahajadgkolaaGreatDoor
open Go.RowKit

theorem Form_c (w : World) (t : Nd) (ht : t.In) :
    Calls Tryz.prog 244 #[ndV t] w fun e w' => e = .returned (.int .i64 (formE t)) ∧ Frm (fun _ => False) w w' := by
  have hn := ht.nums.2.2.2.2
  refine enter Tryz.func244 rfl Tryz.ntmps244 rfl (St.start (fun _ => False) w) ?_
  refine WC.seq <| WC.region <| WL.box rfl rfl rfl (.none rfl) rfl rfl <| ?_
  intro g1 hg1
  refine WL.v (v_assign rfl rfl) rfl <| WL.nt <| WC.seq <| WC.region <| WL.v (v_assign rfl rfl) rfl <| WL.v (v_assign rfl rfl) rfl <| WL.nt <| ?_
  refine WC.cut (fun x : Int × Int => [(3, .int .i64 x.1), (4, .int .i64 x.2), (1, .pointer (some ⟨g1, 0, none⟩))]) (fun _ => [.row g1 (ndL t)]) (fun x => x.1 = leastK t.kind ∧ x.2 = mostK t.kind) ?_ ?_
  ·
   refine WC.seq <| WC.region <| WL.v (v_fieldAddr0 rfl rfl fld_26_0) rfl <| WL.v (v_load1 rfl rfl one_3 (cellAt rfl)) rfl <| WL.nt <| WC.block <| WC.seq <| WC.seq <| WC.region <| ?_
   refine WL.test (v_eql rfl rfl rfl) (.none rfl) rfl rfl (fun h8 => ?_) (fun h8 => ?_)
   ·
    refine WL.v (v_assign rfl rfl) rfl <| WL.nt <| WC.cond_t rfl <| WC.skip <| WE.then_n <| WC.cond_t rfl <| WC.region <| WL.v (v_assign rfl rfl) rfl <| WL.v (v_assign rfl rfl) rfl <| WL.nil <| WE.block_n <| ?_
    exact WE.mid (1, 1) ⟨by unfold leastK; rw [if_pos (by omega)], by unfold mostK; rw [if_pos (by omega)]⟩ (.cons rfl (.cons rfl (.cons rfl .nil))) (.refl _)
   ·
    refine WL.v (v_assign rfl rfl) rfl <| WL.nt <| WC.cond_f rfl <| WC.region <| ?_
    refine WL.test (v_eql rfl rfl rfl) (.none rfl) rfl rfl (fun h9 => ?_) (fun h9 => ?_)
    ·
     refine WL.v (v_assign rfl rfl) rfl <| WL.nt <| WC.cond_t rfl <| WC.region <| WL.v (v_assign rfl rfl) rfl <| WL.v (v_assign rfl rfl) rfl <| WL.nil <| WE.block_n <| ?_
     exact WE.mid (1, 1) ⟨by unfold leastK; rw [if_pos (by omega)], by unfold mostK; rw [if_pos (by omega)]⟩ (.cons rfl (.cons rfl (.cons rfl .nil))) (.refl _)
    ·
     refine WL.v (v_assign rfl rfl) rfl <| WL.nt <| WC.cond_f rfl <| WC.seq <| WC.region <| ?_
     refine WL.test (v_eql rfl rfl rfl) (.none rfl) rfl rfl (fun h11 => ?_) (fun h11 => ?_)
     ·
      refine WL.v (v_assign rfl rfl) rfl <| WL.nt <| WC.cond_t rfl <| WC.region <| WL.v (v_assign rfl rfl) rfl <| WL.v (v_assign rfl rfl) rfl <| WL.nil <| WE.block_n <| ?_
      exact WE.mid (3, 3) ⟨by unfold leastK; rw [if_neg (by omega), if_pos (by omega)], by unfold mostK; rw [if_neg (by omega), if_pos (by omega)]⟩ (.cons rfl (.cons rfl (.cons rfl .nil))) (.refl _)
     ·
      refine WL.v (v_assign rfl rfl) rfl <| WL.nt <| WC.cond_f rfl <| WC.seq <| WC.seq <| WC.region <| ?_
      refine WL.test (v_eql rfl rfl rfl) (.none rfl) rfl rfl (fun h13 => ?_) (fun h13 => ?_)
      ·
       refine WL.v (v_assign rfl rfl) rfl <| WL.nt <| WC.cond_t rfl <| WC.skip <| WE.then_n <| WC.cond_t rfl <| WC.region <| WL.v (v_assign rfl rfl) rfl <| WL.nil <| WE.block_n <| ?_
       exact WE.mid (0, 64) ⟨by unfold leastK; rw [if_neg (by omega), if_neg (by omega)], by unfold mostK; rw [if_neg (by omega), if_neg (by omega), if_pos (by omega)]⟩ (.cons rfl (.cons rfl (.cons rfl .nil))) (.refl _)
      ·
       refine WL.v (v_assign rfl rfl) rfl <| WL.nt <| WC.cond_f rfl <| WC.seq <| WC.region <| ?_
       refine WL.test (v_eql rfl rfl rfl) (.none rfl) rfl rfl (fun h14 => ?_) (fun h14 => ?_)
       ·
        refine WL.v (v_assign rfl rfl) rfl <| WL.nt <| WC.cond_t rfl <| WC.skip <| WE.then_n <| WC.cond_t rfl <| WC.region <| WL.v (v_assign rfl rfl) rfl <| WL.nil <| WE.block_n <| ?_
        exact WE.mid (0, 64) ⟨by unfold leastK; rw [if_neg (by omega), if_neg (by omega)], by unfold mostK; rw [if_neg (by omega), if_neg (by omega), if_pos (by omega)]⟩ (.cons rfl (.cons rfl (.cons rfl .nil))) (.refl _)
       ·
        refine WL.v (v_assign rfl rfl) rfl <| WL.nt <| WC.cond_f rfl <| WC.seq <| WC.region <| ?_
        refine WL.test (v_eql rfl rfl rfl) (.none rfl) rfl rfl (fun h15 => ?_) (fun h15 => ?_)
        ·
         refine WL.v (v_assign rfl rfl) rfl <| WL.nt <| WC.cond_t rfl <| WC.skip <| WE.then_n <| WC.cond_t rfl <| WC.region <| WL.v (v_assign rfl rfl) rfl <| WL.nil <| WE.block_n <| ?_
         exact WE.mid (0, 64) ⟨by unfold leastK; rw [if_neg (by omega), if_neg (by omega)], by unfold mostK; rw [if_neg (by omega), if_neg (by omega), if_pos (by omega)]⟩ (.cons rfl (.cons rfl (.cons rfl .nil))) (.refl _)
        ·
         refine WL.v (v_assign rfl rfl) rfl <| WL.nt <| WC.cond_f rfl <| WC.region <| ?_
         refine WL.test (v_eql rfl rfl rfl) (.none rfl) rfl rfl (fun h16 => ?_) (fun h16 => ?_)
         ·
          refine WL.v (v_assign rfl rfl) rfl <| WL.nt <| WC.cond_t rfl <| WC.region <| WL.v (v_assign rfl rfl) rfl <| WL.nil <| WE.block_n <| ?_
          exact WE.mid (0, 64) ⟨by unfold leastK; rw [if_neg (by omega), if_neg (by omega)], by unfold mostK; rw [if_neg (by omega), if_neg (by omega), if_pos (by omega)]⟩ (.cons rfl (.cons rfl (.cons rfl .nil))) (.refl _)
         ·
          refine WL.v (v_assign rfl rfl) rfl <| WL.nt <| WC.cond_f rfl <| WC.skip <| WE.block_n <| ?_
          exact WE.mid (0, 0) ⟨by unfold leastK; rw [if_neg (by omega), if_neg (by omega)], by unfold mostK; rw [if_neg (by omega), if_neg (by omega), if_neg (by omega)]⟩ (.cons rfl (.cons rfl (.cons rfl .nil))) (.refl _)
  ·
   rintro ⟨le, mo⟩ ⟨h1, h2⟩
   dsimp only at h1 h2
   dsimp only
   refine WC.seq <| WC.seq <| WC.region <| WL.v (v_fieldAddr0 rfl rfl fld_26_4) rfl <| WL.v (v_load1 rfl rfl one_24 (cellAt rfl)) rfl <| WL.v (v_len_slice rfl rfl Tryz.underlying24) rfl <| WL.v (v_move rfl rfl) rfl <| ?_
   refine WL.test (v_lss rfl rfl rfl) (.none rfl) rfl rfl (fun h21 => ?_) (fun h21 => ?_)
   ·
    refine WL.v (v_move rfl rfl) rfl ?_
    iterate 5 refine WL.sk rfl ?_
    refine WL.v (v_pick_t rfl rfl rfl) rfl <| WL.nt <| WC.cond_t rfl <| WC.seq <| WC.region <| WL.v (v_assign rfl rfl) rfl <| WL.nt <| WC.ret <| WE.then_ret <| WE.ret1 (P := Tryz.prog) (.inl rfl) Tryz.results244 rfl <| ?_
    exact fun w' h => ⟨by unfold formE; first | rw [if_pos (by omega)] | rw [if_neg (by omega)], h.frm⟩
   ·
    refine WL.v (v_move rfl rfl) rfl <| WL.val (v_fieldAddr0 rfl rfl fld_26_4) (.some rfl rfl rfl) rfl rfl <| WL.val (v_load1 rfl rfl one_24 (cellAt rfl)) (.some rfl rfl rfl) rfl rfl <| WL.val (v_len_slice rfl rfl Tryz.underlying24) (.some rfl rfl rfl) rfl rfl <| WL.val (v_move rfl rfl) (.some rfl rfl rfl) rfl rfl <| ?_
    refine WL.test (v_gtr rfl rfl rfl) (.some rfl rfl rfl) rfl rfl (fun h27 => ?_) (fun h27 => ?_)
    ·
     refine WL.v (v_pick_f rfl rfl rfl) rfl <| WL.nt <| WC.cond_t rfl <| WC.seq <| WC.region <| WL.v (v_assign rfl rfl) rfl <| WL.nt <| WC.ret <| WE.then_ret <| WE.ret1 (P := Tryz.prog) (.inl rfl) Tryz.results244 rfl <| ?_
     exact fun w' h => ⟨by unfold formE; first | rw [if_pos (by omega)] | rw [if_neg (by omega)], h.frm⟩
    ·
     refine WL.v (v_pick_f rfl rfl rfl) rfl <| WL.nt <| WC.cond_f rfl <| WC.skip <| WE.then_n <| WC.seq <| WC.region <| WL.v (v_assign rfl rfl) rfl <| WL.nt <| WC.ret <| WE.ret1 (P := Tryz.prog) (.inl rfl) Tryz.results244 rfl <| ?_
     exact fun w' h => ⟨by unfold formE; first | rw [if_pos (by omega)] | rw [if_neg (by omega)], h.frm⟩
theorem isFld.nat {f : Int} (h : isFld f) : ∃ k : Nat, f = k ∧ k < 9 ∧ f.toNat = k := ⟨f.toNat, by have := h.1; omega, by have := h.2; omega, rfl⟩
theorem Argu_c (w : World) (t : Nd) (ht : t.In) (hG : GW w) :
    Calls Tryz.prog 243 #[ndV t] w fun e w' => e = .returned (.int .i64 (argE t)) ∧ Frm (fun _ => False) w w' := by
  obtain ⟨_, _, hv, hm, _⟩ := ht.nums
  have hfu := fullI_u64 t.f.toNat
  have full : ∀ w, GW w → isFld t.f → Calls Tryz.prog 171 #[.int .i64 t.f] w fun e w' => e = .returned (.int .u64 (fullI t.f.toNat)) ∧ Frm (fun _ => False) w w' := fun w hG h => by
    obtain ⟨k, e, hk, e2⟩ := h.nat
    rw [e2, e]
    exact Full_n w k hk hG
  refine enter Tryz.func243 rfl Tryz.ntmps243 rfl (St.start (fun _ => False) w) ?_
  refine WC.seq <| WC.region <| WL.box rfl rfl rfl (.none rfl) rfl rfl <| ?_
  intro g1 hg1
  refine WL.v (v_assign rfl rfl) rfl <| WL.nt <| WC.seq <| WC.seq <| WC.region <| WL.v (v_fieldAddr0 rfl rfl fld_26_0) rfl <| WL.v (v_load1 rfl rfl one_3 (cellAt rfl)) rfl <| WL.nt <| WC.block <| WC.seq <| WC.region <| ?_
  refine WL.test (v_eql rfl rfl rfl) (.none rfl) rfl rfl (fun h6 => ?_) (fun h6 => ?_)
  ·
   refine WL.v (v_assign rfl rfl) rfl <| WL.nt <| WC.cond_t rfl <| WC.seq <| ?_
   refine WC.quiet mixed (by kernel_rfl) ?_
   refine WQ.val (v_fieldAddr0 rfl rfl fld_26_1) (.none rfl) rfl rfl <| WQ.val (v_load1 rfl rfl one_22 (cellAt rfl)) (.none rfl) rfl rfl <| WQ.call _ rfl rfl ck_316 (.none rfl) rfl rfl (fun w hS => Calls.still (PField_c w t.f) hS) <| ?_
   generalize hb9 : decide (isFld t.f) = bb
   cases bb
   ·
    refine WQ.val (v_not rfl rfl rfl) (.none rfl) rfl rfl <| WQ.val (v_move rfl rfl) (.none rfl) rfl rfl <| ?_
    iterate 7 refine WQ.skip rfl rfl rfl rfl rfl rfl ?_
    refine WQ.val (v_pick_t rfl rfl rfl) (.none rfl) rfl rfl <| WQ.val (v_move rfl rfl) (.none rfl) rfl rfl <| ?_
    iterate 6 refine WQ.skip rfl rfl rfl rfl rfl rfl ?_
    refine WQ.val (v_pick_t rfl rfl rfl) (.none rfl) rfl rfl <| WQ.nil <| WE.then_n <| WC.cond_t rfl <| WC.seq <| WC.region <| WL.v (v_assign rfl rfl) rfl <| WL.nt <| WC.ret <| WE.block_ret <| WE.then_ret <| WE.ret1 (P := Tryz.prog) (.inl rfl) Tryz.results243 rfl <| ?_
    exact fun w' h => ⟨by unfold argE; rw [if_pos h6, if_pos (.inl (of_decide_eq_false hb9))], h.frm⟩
   ·
    refine WQ.val (v_not rfl rfl rfl) (.none rfl) rfl rfl <| WQ.val (v_move rfl rfl) (.none rfl) rfl rfl <| WQ.val (v_fieldAddr0 rfl rfl fld_26_3) (.some rfl rfl rfl) rfl rfl <| WQ.val (v_load1 rfl rfl one_23 (cellAt rfl)) (.some rfl rfl rfl) rfl rfl <| WQ.val (v_fieldAddr0 rfl rfl fld_26_1) (.some rfl rfl rfl) rfl rfl <| WQ.val (v_load1 rfl rfl one_22 (cellAt rfl)) (.some rfl rfl rfl) rfl rfl <| WQ.call _ rfl rfl ck_171 (.some rfl rfl rfl) rfl rfl (fun w hS => Calls.still (full w (hG.keep (fun h => h) hS) (of_decide_eq_true hb9)) hS) <| WQ.val (v_andNot rfl rfl rfl (bits_andNot_u64 hm.1 hm.2 hfu.1 hfu.2)) (.some rfl rfl rfl) rfl rfl <| ?_
    refine WQ.test (v_neq rfl rfl rfl) (.some rfl rfl rfl) rfl rfl (fun h18 => ?_) (fun h18 => ?_)
    ·
     refine WQ.val (v_pick_f rfl rfl rfl) (.none rfl) rfl rfl <| WQ.val (v_move rfl rfl) (.none rfl) rfl rfl <| ?_
     iterate 6 refine WQ.skip rfl rfl rfl rfl rfl rfl ?_
     refine WQ.val (v_pick_t rfl rfl rfl) (.none rfl) rfl rfl <| WQ.nil <| WE.then_n <| WC.cond_t rfl <| WC.seq <| WC.region <| WL.v (v_assign rfl rfl) rfl <| WL.nt <| WC.ret <| WE.block_ret <| WE.then_ret <| WE.ret1 (P := Tryz.prog) (.inl rfl) Tryz.results243 rfl <| ?_
     exact fun w' h => ⟨by unfold argE; rw [if_pos h6, if_pos (.inr (.inl h18))], h.frm⟩
    ·
     refine WQ.val (v_pick_f rfl rfl rfl) (.none rfl) rfl rfl <| WQ.val (v_move rfl rfl) (.none rfl) rfl rfl <| WQ.val (v_fieldAddr0 rfl rfl fld_26_2) (.some rfl rfl rfl) rfl rfl <| WQ.val (v_load1 rfl rfl one_23 (cellAt rfl)) (.some rfl rfl rfl) rfl rfl <| WQ.val (v_fieldAddr0 rfl rfl fld_26_3) (.some rfl rfl rfl) rfl rfl <| WQ.val (v_load1 rfl rfl one_23 (cellAt rfl)) (.some rfl rfl rfl) rfl rfl <| WQ.val (v_andNot rfl rfl rfl (bits_andNot_u64 hv.1 hv.2 hm.1 hm.2)) (.some rfl rfl rfl) rfl rfl <| ?_
     refine WQ.test (v_neq rfl rfl rfl) (.some rfl rfl rfl) rfl rfl (fun h26 => ?_) (fun h26 => ?_)
     ·
      refine WQ.val (v_pick_f rfl rfl rfl) (.none rfl) rfl rfl <| WQ.nil <| WE.then_n <| WC.cond_t rfl <| WC.seq <| WC.region <| WL.v (v_assign rfl rfl) rfl <| WL.nt <| WC.ret <| WE.block_ret <| WE.then_ret <| WE.ret1 (P := Tryz.prog) (.inl rfl) Tryz.results243 rfl <| ?_
      exact fun w' h => ⟨by unfold argE; rw [if_pos h6, if_pos (.inr (.inr h26))], h.frm⟩
     ·
      refine WQ.val (v_pick_f rfl rfl rfl) (.none rfl) rfl rfl <| WQ.nil <| WE.then_n <| WC.cond_f rfl <| WC.skip <| WE.block_n <| WE.then_n <| WC.seq <| WC.region <| WL.v (v_assign rfl rfl) rfl <| WL.nt <| WC.ret <| WE.ret1 (P := Tryz.prog) (.inl rfl) Tryz.results243 rfl <| ?_
      have hb9 := of_decide_eq_true hb9
      exact fun w' h => ⟨by unfold argE; rw [if_pos h6, if_neg (fun q => by rcases q with q | q | q <;> contradiction)], h.frm⟩
  ·
   refine WL.v (v_assign rfl rfl) rfl <| WL.nt <| WC.cond_f rfl <| WC.seq <| WC.region <| ?_
   refine WL.test (v_eql rfl rfl rfl) (.none rfl) rfl rfl (fun h29 => ?_) (fun h29 => ?_)
   ·
    refine WL.v (v_assign rfl rfl) rfl <| WL.nt <| WC.cond_t rfl <| WC.seq <| ?_
    refine WC.quiet mixed (by kernel_rfl) ?_
    refine WQ.val (v_fieldAddr0 rfl rfl fld_26_1) (.none rfl) rfl rfl <| WQ.val (v_load1 rfl rfl one_22 (cellAt rfl)) (.none rfl) rfl rfl <| WQ.call _ rfl rfl ck_316 (.none rfl) rfl rfl (fun w hS => Calls.still (PField_c w t.f) hS) <| ?_
    generalize hb32 : decide (isFld t.f) = bb
    cases bb
    ·
     refine WQ.val (v_not rfl rfl rfl) (.none rfl) rfl rfl <| WQ.val (v_move rfl rfl) (.none rfl) rfl rfl <| ?_
     iterate 3 refine WQ.skip rfl rfl rfl rfl rfl rfl ?_
     refine WQ.val (v_pick_t rfl rfl rfl) (.none rfl) rfl rfl <| WQ.val (v_move rfl rfl) (.none rfl) rfl rfl <| ?_
     iterate 3 refine WQ.skip rfl rfl rfl rfl rfl rfl ?_
     refine WQ.val (v_pick_t rfl rfl rfl) (.none rfl) rfl rfl <| WQ.val (v_move rfl rfl) (.none rfl) rfl rfl <| ?_
     iterate 6 refine WQ.skip rfl rfl rfl rfl rfl rfl ?_
     refine WQ.val (v_pick_t rfl rfl rfl) (.none rfl) rfl rfl <| WQ.nil <| WE.then_n <| WC.cond_t rfl <| WC.seq <| WC.region <| WL.v (v_assign rfl rfl) rfl <| WL.nt <| WC.ret <| WE.block_ret <| WE.then_ret <| WE.ret1 (P := Tryz.prog) (.inl rfl) Tryz.results243 rfl <| ?_
     exact fun w' h => ⟨by unfold argE; rw [if_neg h6, if_pos h29, if_pos (.inl (of_decide_eq_false hb32))], h.frm⟩
    ·
     refine WQ.val (v_not rfl rfl rfl) (.none rfl) rfl rfl <| WQ.val (v_move rfl rfl) (.none rfl) rfl rfl <| WQ.val (v_fieldAddr0 rfl rfl fld_26_1) (.some rfl rfl rfl) rfl rfl <| WQ.val (v_load1 rfl rfl one_22 (cellAt rfl)) (.some rfl rfl rfl) rfl rfl <| ?_
     refine WQ.test (v_eql rfl rfl rfl) (.some rfl rfl rfl) rfl rfl (fun h37 => ?_) (fun h37 => ?_)
     ·
      refine WQ.val (v_pick_f rfl rfl rfl) (.none rfl) rfl rfl <| WQ.val (v_move rfl rfl) (.none rfl) rfl rfl <| ?_
      iterate 3 refine WQ.skip rfl rfl rfl rfl rfl rfl ?_
      refine WQ.val (v_pick_t rfl rfl rfl) (.none rfl) rfl rfl <| WQ.val (v_move rfl rfl) (.none rfl) rfl rfl <| ?_
      iterate 6 refine WQ.skip rfl rfl rfl rfl rfl rfl ?_
      refine WQ.val (v_pick_t rfl rfl rfl) (.none rfl) rfl rfl <| WQ.nil <| WE.then_n <| WC.cond_t rfl <| WC.seq <| WC.region <| WL.v (v_assign rfl rfl) rfl <| WL.nt <| WC.ret <| WE.block_ret <| WE.then_ret <| WE.ret1 (P := Tryz.prog) (.inl rfl) Tryz.results243 rfl <| ?_
      exact fun w' h => ⟨by unfold argE; rw [if_neg h6, if_pos h29, if_pos (.inr (.inl h37))], h.frm⟩
     ·
      refine WQ.val (v_pick_f rfl rfl rfl) (.none rfl) rfl rfl <| WQ.val (v_move rfl rfl) (.none rfl) rfl rfl <| WQ.val (v_fieldAddr0 rfl rfl fld_26_1) (.some rfl rfl rfl) rfl rfl <| WQ.val (v_load1 rfl rfl one_22 (cellAt rfl)) (.some rfl rfl rfl) rfl rfl <| ?_
      refine WQ.test (v_eql rfl rfl rfl) (.some rfl rfl rfl) rfl rfl (fun h42 => ?_) (fun h42 => ?_)
      ·
       refine WQ.val (v_pick_f rfl rfl rfl) (.none rfl) rfl rfl <| WQ.val (v_move rfl rfl) (.none rfl) rfl rfl <| ?_
       iterate 6 refine WQ.skip rfl rfl rfl rfl rfl rfl ?_
       refine WQ.val (v_pick_t rfl rfl rfl) (.none rfl) rfl rfl <| WQ.nil <| WE.then_n <| WC.cond_t rfl <| WC.seq <| WC.region <| WL.v (v_assign rfl rfl) rfl <| WL.nt <| WC.ret <| WE.block_ret <| WE.then_ret <| WE.ret1 (P := Tryz.prog) (.inl rfl) Tryz.results243 rfl <| ?_
       exact fun w' h => ⟨by unfold argE; rw [if_neg h6, if_pos h29, if_pos (.inr (.inr (.inl h42)))], h.frm⟩
      ·
       refine WQ.val (v_pick_f rfl rfl rfl) (.none rfl) rfl rfl <| WQ.val (v_move rfl rfl) (.none rfl) rfl rfl <| WQ.val (v_fieldAddr0 rfl rfl fld_26_2) (.some rfl rfl rfl) rfl rfl <| WQ.val (v_load1 rfl rfl one_23 (cellAt rfl)) (.some rfl rfl rfl) rfl rfl <| WQ.val (v_fieldAddr0 rfl rfl fld_26_1) (.some rfl rfl rfl) rfl rfl <| WQ.val (v_load1 rfl rfl one_22 (cellAt rfl)) (.some rfl rfl rfl) rfl rfl <| WQ.call _ rfl rfl ck_171 (.some rfl rfl rfl) rfl rfl (fun w hS => Calls.still (full w (hG.keep (fun h => h) hS) (of_decide_eq_true hb32)) hS) <| ?_
       refine WQ.test (v_gtr rfl rfl rfl) (.some rfl rfl rfl) rfl rfl (fun h50 => ?_) (fun h50 => ?_)
       ·
        refine WQ.val (v_pick_f rfl rfl rfl) (.none rfl) rfl rfl <| WQ.nil <| WE.then_n <| WC.cond_t rfl <| WC.seq <| WC.region <| WL.v (v_assign rfl rfl) rfl <| WL.nt <| WC.ret <| WE.block_ret <| WE.then_ret <| WE.ret1 (P := Tryz.prog) (.inl rfl) Tryz.results243 rfl <| ?_
        exact fun w' h => ⟨by unfold argE; rw [if_neg h6, if_pos h29, if_pos (.inr (.inr (.inr h50)))], h.frm⟩
       ·
        refine WQ.val (v_pick_f rfl rfl rfl) (.none rfl) rfl rfl <| WQ.nil <| WE.then_n <| WC.cond_f rfl <| WC.skip <| WE.block_n <| WE.then_n <| WC.seq <| WC.region <| WL.v (v_assign rfl rfl) rfl <| WL.nt <| WC.ret <| WE.ret1 (P := Tryz.prog) (.inl rfl) Tryz.results243 rfl <| ?_
        have hb32 := of_decide_eq_true hb32
        exact fun w' h => ⟨by unfold argE; rw [if_neg h6, if_pos h29, if_neg (fun q => by rcases q with q | q | q | q <;> contradiction)], h.frm⟩
   ·
    refine WL.v (v_assign rfl rfl) rfl <| WL.nt <| WC.cond_f rfl <| WC.skip <| WE.block_n <| WE.then_n <| WC.seq <| WC.region <| WL.v (v_assign rfl rfl) rfl <| WL.nt <| WC.ret <| WE.ret1 (P := Tryz.prog) (.inl rfl) Tryz.results243 rfl <| ?_
    exact fun w' h => ⟨by unfold argE; rw [if_neg h6, if_neg h29], h.frm⟩
end Go.Proofs.YtmhahajadgkolaaGreatDoor
/- policy: the walk of a tree, as the code does it. -/
namespace Go.Proofs.YtmhahajadgkolaaGreatDoor
open Go.RowKit

mutual
/-- The errno, and how many were counted. -/
def walkT : Nd → Int → Bool → Int → Int × Int
  | .mk k f v m a c kids, deep, pred, n =>
    if 16 < deep ∨ 64 < n + 1 then (34, n + 1)
    else if fitsP k pred = false then (12, n + 1)
    else if argE (.mk k f v m a c kids) ≠ 0 then (argE (.mk k f v m a c kids), n + 1)
    else if formE (.mk k f v m a c kids) ≠ 0 then (formE (.mk k f v m a c kids), n + 1)
    else walkKs k 0 kids (deep + 1) (n + 1)
def walkKs (k : Int) : Nat → List Nd → Int → Int → Int × Int
  | _, [], _, n => (0, n)
  | i, t :: ts, deep, n => if (walkT t deep (predK k i) n).1 ≠ 0 then walkT t deep (predK k i) n else walkKs k (i + 1) ts deep (walkT t deep (predK k i) n).2
end
theorem walkT_eq (t : Nd) (deep : Int) (pred : Bool) (n : Int) : walkT t deep pred n =
    if 16 < deep ∨ 64 < n + 1 then (34, n + 1) else if fitsP t.kind pred = false then (12, n + 1) else if argE t ≠ 0 then (argE t, n + 1) else if formE t ≠ 0 then (formE t, n + 1) else walkKs t.kind 0 t.kids (deep + 1) (n + 1) := by
  cases t; rw [walkT]; rfl
mutual
theorem walkT_le : ∀ (t : Nd) (deep : Int) (pred : Bool) (n : Int), 0 ≤ n → (walkT t deep pred n).1 = 0 → n ≤ (walkT t deep pred n).2 ∧ (walkT t deep pred n).2 ≤ 64
  | .mk k f v m a c kids, deep, pred, n, h0, he => by
    rw [walkT] at he ⊢
    split at he
    · cases he
    · split at he
      · cases he
      · split at he
        · rename_i h; exact absurd he h
        · split at he
          · rename_i h; exact absurd he h
          · rename_i h1 h2 h3 h4
            rw [if_neg h1, if_neg h2, if_neg h3, if_neg h4]
            have := walkKs_le k 0 kids (deep + 1) (n + 1) (by omega) (by omega) he
            omega
theorem walkKs_le (k : Int) : ∀ (i : Nat) (ts : List Nd) (deep n : Int), 0 ≤ n → n ≤ 64 → (walkKs k i ts deep n).1 = 0 → n ≤ (walkKs k i ts deep n).2 ∧ (walkKs k i ts deep n).2 ≤ 64
  | _, [], _, n, _, h1, _ => by rw [walkKs]; exact ⟨Int.le_refl _, h1⟩
  | i, t :: ts, deep, n, h0, h1, he => by
    rw [walkKs] at he ⊢
    split at he
    · rename_i h; exact absurd he h
    · rename_i h
      rw [if_neg h]
      have a := walkT_le t deep (predK k i) n h0 (Classical.not_not.1 h)
      have b := walkKs_le k (i + 1) ts deep _ (by omega) a.2 he
      omega
end
theorem Nd.kid_size {t u : Nd} {j : Nat} (h : t.kids[j]? = some u) : SizeOf.sizeOf u < SizeOf.sizeOf t := by
  cases t with
  | mk k f v m a c kids =>
    have h1 := List.sizeOf_lt_of_mem (List.mem_of_getElem? h)
    show SizeOf.sizeOf u < SizeOf.sizeOf (Nd.mk k f v m a c kids)
    simp only [Nd.mk.sizeOf_spec]
    have : SizeOf.sizeOf (Nd.mk k f v m a c kids).kids = SizeOf.sizeOf kids := rfl
    omega
theorem Nd.At.kidAt {w : World} {t u : Nd} {j b o : Nat} (h : t.At w) (hu : t.kids[j]? = some u) (e : t.ad = some ⟨b, o, none⟩) : w.rangeAt b (o + j * 5) (ndL u) := by
  obtain ⟨⟨b', o', e', hr⟩, _⟩ := h.kid hu
  rw [e] at e'
  injection e' with e'
  injection e' with e1 e2
  subst e1 e2
  exact hr
theorem St.swap22 {p : Nat → Prop} {w0 w : World} {a b c d : Ent} {L : List Ent} (h : St p w0 w (a :: b :: c :: d :: L)) : St p w0 w (c :: d :: a :: b :: L) :=
  h.perm ((List.perm_append_comm (l₁ := [c, d]) (l₂ := [a, b])).append_right L)
def ckF (gc gw : Nat) : Value := .func (.func 241) #[] #[.pointer (some ⟨gc, 0, none⟩), .pointer (some ⟨gw, 0, none⟩)]
set_option maxHeartbeats 1000000 in
theorem Chk1_c (p : Nat → Prop) (hp : ∀ b, ¬ p b) (w0 : World) (hG : GW w0) (gc gw : Nat) : ∀ (N : Nat) (t : Nd), SizeOf.sizeOf t ≤ N → ∀ (L : List Ent) (w : World) (deep : Int) (pred : Bool) (n : Int), t.In → (∀ w, St p w0 w L → t.At w) → 0 ≤ n → n ≤ 64 → 1 ≤ deep → deep ≤ 17 →
    St p w0 w (.row gc [.int .i64 n] :: .row gw [ckF gc gw] :: L) →
    Calls Tryz.prog 241 #[ndV t, .int .i64 deep, .bool pred, .pointer (some ⟨gc, 0, none⟩), .pointer (some ⟨gw, 0, none⟩)] w
      fun e w' => e = .returned (.int .i64 (walkT t deep pred n).1) ∧ St p w0 w' (.row gc [.int .i64 (walkT t deep pred n).2] :: .row gw [ckF gc gw] :: L) := by
  intro N
  induction N with
  | zero => intro t hN; cases t; simp only [Nd.mk.sizeOf_spec] at hN; omega
  | succ N ih =>
    intro t hN L w deep pred n hI hAt hn0 hn1 hd0 hd1 hS
    have hlen := hI.nums.2.2.2.2
    refine enter Tryz.func241 rfl Tryz.ntmps241 rfl hS ?_
    refine WC.seq <| WC.region <| WL.box rfl rfl rfl (.none rfl) rfl rfl <| ?_
    intro g5 hg5
    refine WL.v (v_assign rfl rfl) rfl <| WL.nt <| WC.seq <| WC.region <| WL.v (v_load1 rfl rfl one_3 (cellAt rfl)) rfl <| ?_
    refine WL.v (v_add rfl rfl rfl (w_i64 (by omega) (by omega))) rfl ?_
    refine WL.store1 rfl rfl rfl rfl one_3 (Nat.le_of_ble_eq_true rfl) (.none rfl) rfl <| WL.nt <| WC.seq <| WC.seq <| WC.region <| WL.v (v_move rfl rfl) rfl <| ?_
    refine WL.test (v_gtr rfl rfl rfl) (.none rfl) rfl rfl (fun h17 => ?_) (fun h17 => ?_)
    ·
     refine WL.v (v_move rfl rfl) rfl ?_
     iterate 2 refine WL.sk rfl ?_
     refine WL.v (v_pick_t rfl rfl rfl) rfl <| WL.nt <| WC.cond_t rfl <| WC.seq <| WC.region <| WL.v (v_assign rfl rfl) rfl <| WL.nt <| WC.ret <| WE.then_ret <| WE.ret1 (P := Tryz.prog) (.inl rfl) Tryz.results241 rfl <| ?_
     exact fun w' h => ⟨by rw [walkT_eq, if_pos (.inl h17)], by rw [walkT_eq, if_pos (.inl h17)]; exact h.tail⟩
    ·
     refine WL.v (v_move rfl rfl) rfl <| WL.val (v_load1 rfl rfl one_3 (cellAt rfl)) (.some rfl rfl rfl) rfl rfl <| ?_
     refine WL.test (v_gtr rfl rfl rfl) (.some rfl rfl rfl) rfl rfl (fun h20 => ?_) (fun h20 => ?_)
     ·
      refine WL.v (v_pick_f rfl rfl rfl) rfl <| WL.nt <| WC.cond_t rfl <| WC.seq <| WC.region <| WL.v (v_assign rfl rfl) rfl <| WL.nt <| WC.ret <| WE.then_ret <| WE.ret1 (P := Tryz.prog) (.inl rfl) Tryz.results241 rfl <| ?_
      exact fun w' h => ⟨by rw [walkT_eq, if_pos (.inr h20)], by rw [walkT_eq, if_pos (.inr h20)]; exact h.tail⟩
     ·
      refine WL.v (v_pick_f rfl rfl rfl) rfl <| WL.nt <| WC.cond_f rfl <| WC.skip <| WE.then_n <| WC.seq <| WC.seq <| WC.region <| WL.v (v_fieldAddr0 rfl rfl fld_26_0) rfl <| WL.v (v_load1 rfl rfl one_3 (cellAt rfl)) rfl <| WL.v (v_move rfl rfl) rfl <| WL.call rfl rfl ck_242 (.none rfl) rfl rfl <| ?_
      intro w hS
      refine Calls.then (Fits_c w t.kind pred) hS ?_
      generalize hb25 : fitsP t.kind pred = bb
      cases bb
      ·
       refine WL.v (v_not rfl rfl rfl) rfl <| WL.nt <| WC.cond_t rfl <| WC.seq <| WC.region <| WL.v (v_assign rfl rfl) rfl <| WL.nt <| WC.ret <| WE.then_ret <| WE.ret1 (P := Tryz.prog) (.inl rfl) Tryz.results241 rfl <| ?_
       have e := walkT_eq t deep pred n
       rw [if_neg (by omega), if_pos hb25] at e
       exact fun w' h => ⟨by rw [e], by rw [e]; exact h.tail⟩
      ·
       refine WL.v (v_not rfl rfl rfl) rfl <| WL.nt <| WC.cond_f rfl <| WC.skip <| WE.then_n <| WC.seq <| WC.seq <| WC.region <| WL.v (v_loadN rfl rfl many_26 rfl allAt) rfl <| WL.call rfl rfl ck_243 (.none rfl) rfl rfl <| ?_
       intro w hS
       refine Calls.then (Argu_c w t hI (hG.keep (hp _) hS)) hS ?_
       refine WL.v (v_assign rfl rfl) rfl <| WL.nt <| WC.seq <| WC.region <| WL.v (v_move rfl rfl) rfl <| ?_
       refine WL.test (v_neq rfl rfl rfl) (.none rfl) rfl rfl (fun h30 => ?_) (fun h30 => ?_)
       ·
        refine WL.nt <| WC.cond_t rfl <| WC.seq <| WC.region <| WL.v (v_move rfl rfl) rfl <| WL.v (v_assign rfl rfl) rfl <| WL.nt <| WC.ret <| WE.then_ret <| WE.ret1 (P := Tryz.prog) (.inl rfl) Tryz.results241 rfl <| ?_
        have e := walkT_eq t deep pred n
        rw [if_neg (by omega), if_neg (by rw [hb25]; decide), if_pos h30] at e
        exact fun w' h => ⟨by rw [e], by rw [e]; exact h.tail⟩
       ·
        refine WL.nt <| WC.cond_f rfl <| WC.skip <| WE.then_n <| WC.seq <| WC.seq <| WC.region <| WL.v (v_loadN rfl rfl many_26 rfl allAt) rfl <| WL.call rfl rfl ck_244 (.none rfl) rfl rfl <| ?_
        intro w hS
        refine Calls.then (Form_c w t hI) hS ?_
        refine WL.v (v_assign rfl rfl) rfl <| WL.nt <| WC.seq <| WC.region <| WL.v (v_move rfl rfl) rfl <| ?_
        refine WL.test (v_neq rfl rfl rfl) (.none rfl) rfl rfl (fun h35 => ?_) (fun h35 => ?_)
        ·
         refine WL.nt <| WC.cond_t rfl <| WC.seq <| WC.region <| WL.v (v_move rfl rfl) rfl <| WL.v (v_assign rfl rfl) rfl <| WL.nt <| WC.ret <| WE.then_ret <| WE.ret1 (P := Tryz.prog) (.inl rfl) Tryz.results241 rfl <| ?_
         have e := walkT_eq t deep pred n
         rw [if_neg (by omega), if_neg (by rw [hb25]; decide), if_neg h30, if_pos h35] at e
         exact fun w' h => ⟨by rw [e], by rw [e]; exact h.tail⟩
        ·
         refine WL.nt <| WC.cond_f rfl <| WC.skip <| WE.then_n <| WC.seq <| WC.seq <| WC.region <| WL.v (v_fieldAddr0 rfl rfl fld_26_4) rfl <| WL.v (v_load1 rfl rfl one_24 (cellAt rfl)) rfl <| WL.v (v_len_slice rfl rfl Tryz.underlying24) rfl <| WL.v (v_move rfl rfl) rfl <| WL.nt <| WC.block <| ?_
         refine WC.loop (fun x : Nat × Int => [(40, .int .i64 x.1), (39, .int .i64 t.kids.length), (38, .slice t.ad t.kids.length t.cap), (1, .int .i64 deep), (3, .pointer (some ⟨gc, 0, none⟩)), (4, .pointer (some ⟨gw, 0, none⟩)), (5, .pointer (some ⟨g5, 0, none⟩))]) (fun x => .row g5 (ndL t) :: .row gc [.int .i64 x.2] :: .row gw [ckF gc gw] :: L) (fun x => x.1 ≤ t.kids.length ∧ walkKs t.kind x.1 (t.kids.drop x.1) (deep + 1) x.2 = walkKs t.kind 0 t.kids (deep + 1) (n + 1) ∧ 0 ≤ x.2 ∧ x.2 ≤ 64) (fun x => t.kids.length - x.1) (0, n + 1) ⟨Nat.zero_le _, rfl, by dsimp only; omega, by dsimp only; omega⟩ (.cons rfl (.cons rfl (.cons rfl (.cons rfl (.cons rfl (.cons rfl (.cons rfl .nil))))))) (.refl _) ?_
         rintro ⟨k, c⟩ ⟨hk, hw, hc0, hc1⟩
         dsimp only at hk hw hc0 hc1
         dsimp only
         refine WC.seq <| WC.region <| ?_
         refine WL.test (v_lss rfl rfl rfl) (.none rfl) rfl rfl (fun h41 => ?_) (fun h41 => ?_)
         ·
          refine WL.nt <| WC.seq <| WC.cond_t rfl <| WC.skip <| WE.then_n <| WC.seq <| WC.block <| WC.seq <| WC.region <| WL.v (v_move rfl rfl) rfl <| ?_
          obtain ⟨u, hu⟩ : ∃ u, t.kids[k]? = some u := ⟨t.kids[k]'(by omega), List.getElem?_eq_getElem _⟩
          obtain ⟨b, o, ea, _⟩ := ((hAt _ hS.tail.tail.tail).kid hu).1
          have hdr : t.kids.drop k = u :: t.kids.drop (k + 1) := (by
            rw [List.drop_eq_getElem_cons (show k < t.kids.length by omega)]
            congr 1
            rw [List.getElem?_eq_getElem (show k < t.kids.length by omega)] at hu
            exact Option.some.inj hu)
          rw [hdr, walkKs] at hw
          refine WL.v (v_indexAddr (b := b) (off := o) (lo := k) rfl (by show some (Value.slice t.ad _ _) = _; rw [ea]) rfl Tryz.underlying24 sz_26 rfl (by omega)) rfl ?_
          refine WL.v (v_loadN (cs := ndL u) rfl rfl many_26 rfl (fun w' hS' => (hAt w' hS'.tail.tail.tail).kidAt hu ea)) rfl <| WL.alloc rfl zero_26 (.none rfl) rfl rfl <| ?_
          intro g12 hg12
          refine WL.v (v_assign rfl rfl) rfl <| WL.storeW rfl rfl rfl rfl many_26 rfl rfl (.none rfl) rfl <| WL.nt <| WC.seq <| WC.orders mixed <| ?_
          refine WR.first (g := 6) [2, 3, 5] (by kernel_rfl) (by kernel_rfl) ?_
          refine WP.val (v_move rfl rfl) (.none rfl) rfl rfl ?_
          refine WP.val (v_add rfl rfl rfl (w_i64 (by omega) (by omega))) (.none rfl) rfl rfl ?_
          refine WP.val (v_move rfl rfl) (.none rfl) rfl rfl <| WP.nil <| ?_
          refine WR.read (g := 2) [0, 1, 4, 6] (by kernel_rfl) (by kernel_rfl) (by kernel_rfl) (by kernel_rfl) rfl ?_
          refine WQ.val (v_load1 rfl rfl one_374 (cellAt rfl)) (.none rfl) rfl rfl <| WQ.val (v_loadN rfl rfl many_26 rfl allAt) (.none rfl) rfl rfl <| WQ.val (v_loadN rfl rfl many_26 rfl allAt) (.none rfl) rfl rfl <| WQ.call _ rfl rfl ck_245 (.none rfl) rfl rfl (fun w hS => Calls.still (PredKid_c w t k) hS) <| WQ.nilR <| ?_
          refine WR.ones (g := 1) [7] (by kernel_rfl) ?_
          refine WL.callV rfl rfl rfl ck_241 (.none rfl) rfl rfl ?_
          intro w1 hS1
          refine (ih u (by have := Nd.kid_size hu; omega) (.row g12 (ndL u) :: .row g5 (ndL t) :: L) w1 (deep + 1) (predK t.kind k) c (hI.kids.get _ _ _ hu) (fun w' hS' => ((hAt w' hS'.tail.tail).kid hu).2) hc0 hc1 (by omega) (by omega) hS1.swap22).mono ?_
          rintro e w' ⟨rfl, hS'⟩
          refine ⟨_, _, rfl, hS'.swap22, ?_⟩
          refine WL.nilR ?_
          refine WR.first (g := 0) [8] (by kernel_rfl) (by kernel_rfl) ?_
          refine WP.val (v_assign rfl rfl) (.none rfl) rfl rfl <| WP.nil <| ?_
          refine WR.done (by kernel_rfl) ?_
          refine WE.then_n <| WC.seq <| WC.region <| WL.v (v_move rfl rfl) rfl <| ?_
          refine WL.test (v_neq rfl rfl rfl) (.none rfl) rfl rfl (fun h54 => ?_) (fun h54 => ?_)
          ·
           refine WL.nt <| WC.cond_t rfl <| WC.seq <| WC.region <| WL.v (v_move rfl rfl) rfl <| WL.v (v_assign rfl rfl) rfl <| WL.nt <| WC.ret <| WE.block_ret <| WE.then_ret <| WE.then_ret <| WE.block_ret <| WE.then_ret <| WE.ret1 (P := Tryz.prog) (.inl rfl) Tryz.results241 rfl <| ?_
           have e := walkT_eq t deep pred n
           rw [if_pos h54] at hw
           rw [if_neg (by omega), if_neg (by rw [hb25]; decide), if_neg h30, if_neg h35, ← hw] at e
           exact fun w' h => ⟨by rw [e], by rw [e]; exact h.tail.tail⟩
          ·
           refine WL.nt <| WC.cond_f rfl <| WC.skip <| WE.block_n <| WE.then_n <| WC.region <| ?_
           refine WL.v (v_add rfl rfl rfl (w_i64 (by omega) (by omega))) rfl ?_
           refine WL.v (v_move rfl rfl) rfl <| WL.nil <| ?_
           have h54' := Classical.not_not.1 h54
           rw [if_neg (fun q => q h54')] at hw
           have hle := walkT_le u (deep + 1) (predK t.kind k) c hc0 h54'
           exact WE.next (k + 1, (walkT u (deep + 1) (predK t.kind k) c).2) (by dsimp only; omega) ⟨by dsimp only; omega, hw, by dsimp only; omega, by dsimp only; omega⟩ (.int rfl (by dsimp only; omega) (.cons rfl (.cons rfl (.cons rfl (.cons rfl (.cons rfl (.cons rfl .nil))))))) (.cons _ (.refl _))
         ·
          refine WL.nt <| WC.seq <| WC.cond_f rfl <| WC.exit <| WE.then_exit <| WE.then_exit <| WE.block_hit <| WE.then_n <| WC.seq <| WC.region <| WL.v (v_assign rfl rfl) rfl <| WL.nt <| WC.ret <| WE.ret1 (P := Tryz.prog) (.inl rfl) Tryz.results241 rfl <| ?_
          obtain rfl : k = t.kids.length := (by omega)
          have e := walkT_eq t deep pred n
          rw [List.drop_length, walkKs] at hw
          rw [if_neg (by omega), if_neg (by rw [hb25]; decide), if_neg h30, if_neg h35, ← hw] at e
          exact fun w' h => ⟨by rw [e], by rw [e]; exact h.tail⟩
end Go.Proofs.YtmhahajadgkolaaGreatDoor
/- policy: Check, CheckPred; holds. -/
namespace Go.Proofs.YtmhahajadgkolaaGreatDoor
open Go.RowKit

theorem St.range {p : Nat → Prop} {w0 w : World} {L : List Ent} (hp : ∀ b, ¬ p b) (hS : St p w0 w L) (b o : Nat) (cs : List Value) (h : w0.rangeAt b o cs) : w.rangeAt b o cs := fun j v hj => hS.old (hp b) (h j v hj)
theorem Nd.At.st {p : Nat → Prop} {w0 w : World} {L : List Ent} {t : Nd} (hp : ∀ b, ¬ p b) (h : t.At w0) (hS : St p w0 w L) : t.At w := Nd.At.keep (hS.range hp) t h
theorem check_c (w : World) (t : Nd) (pred : Bool) (hI : t.In) (hA : t.At w) (hG : GW w) :
    Calls Tryz.prog 163 #[ndV t, .bool pred] w fun e w' => e = .returned (.int .i64 (walkT t 1 pred 0).1) ∧ Frm (fun _ => False) w w' := by
  refine enter Tryz.func163 rfl Tryz.ntmps163 rfl (St.start (fun _ => False) w) ?_
  refine WC.seq <| WC.region <| WL.box rfl rfl rfl (.none rfl) rfl rfl <| ?_
  intro g2 hg2
  refine WL.v (v_assign rfl rfl) rfl <| WL.nt <| WC.seq <| WC.region <| WL.alloc rfl zero_3 (.none rfl) rfl rfl <| ?_
  intro g5 hg5
  refine WL.store1 rfl rfl rfl rfl one_3 (Nat.le_of_ble_eq_true rfl) (.none rfl) rfl <| WL.nt <| WC.seq <| WC.region <| WL.alloc rfl zero_374 (.none rfl) rfl rfl <| ?_
  intro g6 hg6
  refine WL.nt <| WC.seq <| WC.region <| WL.v (v_makeFunc rfl rfl rfl) rfl <| WL.store1 rfl rfl rfl rfl one_374 (Nat.le_of_ble_eq_true rfl) (.none rfl) rfl <| WL.nt <| WC.seq <| WC.region <| WL.v (v_load1 rfl rfl one_374 (cellAt rfl)) rfl <| WL.v (v_loadN rfl rfl many_26 rfl allAt) rfl <| WL.v (v_move rfl rfl) rfl <| WL.callV rfl rfl rfl ck_241 (.none rfl) rfl rfl <| ?_
  intro w1 hS1
  refine (Chk1_c (fun _ => False) (fun _ h => h) w hG g5 g6 _ t (Nat.le_refl _) [.row g2 (ndL t)] w1 1 pred 0 hI (fun w' hS' => hA.st (fun _ h => h) hS') (by omega) (by omega) (by omega) (by omega) (hS1.perm (List.Perm.swap _ _ _))).mono ?_
  rintro e w' ⟨rfl, hS'⟩
  refine ⟨_, _, rfl, hS', ?_⟩
  refine WL.v (v_assign rfl rfl) rfl <| WL.nt <| WC.ret <| WE.ret1 (P := Tryz.prog) (.inl rfl) Tryz.results163 rfl <| ?_
  exact fun w' h => ⟨rfl, h.frm⟩
theorem Check_c (w : World) (t : Nd) (hI : t.In) (hA : t.At w) (hG : GW w) :
    Calls Tryz.prog 86 #[ndV t] w fun e w' => e = .returned (.int .i64 (walkT t 1 false 0).1) ∧ Frm (fun _ => False) w w' := by
  refine enter Tryz.func86 rfl Tryz.ntmps86 rfl (St.start (fun _ => False) w) ?_
  refine WC.seq <| WC.region <| WL.box rfl rfl rfl (.none rfl) rfl rfl <| ?_
  intro g1 hg1
  refine WL.v (v_assign rfl rfl) rfl <| WL.nt <| WC.seq <| WC.region <| WL.v (v_loadN rfl rfl many_26 rfl allAt) rfl <| WL.call rfl rfl ck_163 (.none rfl) rfl rfl <| ?_
  intro w hS
  refine Calls.then (check_c w t false hI (hA.st (fun _ h => h) hS) (hG.keep (fun h => h) hS)) hS ?_
  refine WL.v (v_assign rfl rfl) rfl <| WL.nt <| WC.ret <| WE.ret1 (P := Tryz.prog) (.inl rfl) Tryz.results86 rfl <| ?_
  exact fun w' h => ⟨rfl, h.frm⟩
end Go.Proofs.YtmhahajadgkolaaGreatDoor
/- policy: holds. -/
namespace Go.Proofs.YtmhahajadgkolaaGreatDoor
open Go.RowKit

mutual
/-- All is right with a tree (as a predicate, or as a policy). -/
def okT : Bool → Nd → Prop
  | pred, .mk k f v m a c kids => fitsP k pred = true ∧ argE (.mk k f v m a c kids) = 0 ∧ formE (.mk k f v m a c kids) = 0 ∧ okKs k 0 kids
def okKs (k : Int) : Nat → List Nd → Prop
  | _, [] => True
  | i, t :: ts => okT (predK k i) t ∧ okKs k (i + 1) ts
end
theorem okT.parts {t : Nd} {pred : Bool} (h : okT pred t) : fitsP t.kind pred = true ∧ argE t = 0 ∧ formE t = 0 ∧ okKs t.kind 0 t.kids := by
  cases t; unfold okT at h; exact h
theorem okKs.get {k : Int} : ∀ (ts : List Nd) (i j : Nat) (t : Nd), okKs k i ts → ts[j]? = some t → okT (predK k (i + j)) t
  | [], _, _, _, _, h => by simp at h
  | t :: ts, i, 0, t', h, ht => by
    simp only [List.getElem?_cons_zero, Option.some.injEq] at ht
    subst ht
    unfold okKs at h
    exact h.1
  | t :: ts, i, j + 1, t', h, ht => by
    unfold okKs at h
    rw [List.getElem?_cons_succ] at ht
    have := okKs.get ts (i + 1) j t' h.2 ht
    rwa [show i + 1 + j = i + (j + 1) by omega] at this
theorem okT.kid {t u : Nd} {pred : Bool} {j : Nat} (h : okT pred t) (hu : t.kids[j]? = some u) : okT (predK t.kind j) u := by
  have := h.parts.2.2.2.get _ 0 j u hu
  rwa [Nat.zero_add] at this
mutual
theorem walkT_ok : ∀ (t : Nd) (deep : Int) (pred : Bool) (n : Int), (walkT t deep pred n).1 = 0 → okT pred t
  | .mk k f v m a c kids, deep, pred, n, he => by
    rw [walkT] at he
    split at he
    · cases he
    · split at he
      · cases he
      · split at he
        · rename_i h; exact absurd he h
        · split at he
          · rename_i h; exact absurd he h
          · rename_i h1 h2 h3 h4
            unfold okT
            exact ⟨by simpa using h2, Classical.not_not.1 h3, Classical.not_not.1 h4, walkKs_ok k 0 kids (deep + 1) (n + 1) he⟩
theorem walkKs_ok (k : Int) : ∀ (i : Nat) (ts : List Nd) (deep n : Int), (walkKs k i ts deep n).1 = 0 → okKs k i ts
  | _, [], _, _, _ => by unfold okKs; trivial
  | i, t :: ts, deep, n, he => by
    rw [walkKs] at he
    split at he
    · rename_i h; exact absurd he h
    · rename_i h
      unfold okKs
      exact ⟨walkT_ok t deep (predK k i) n (Classical.not_not.1 h), walkKs_ok k (i + 1) ts deep _ he⟩
end
mutual
/-- Whether a predicate holds of a header. -/
def holdsT (H : Hd) : Nd → Bool
  | .mk k f v m _ _ kids => if k = 1 then true else if k = 3 then decide (andN (xorN (getF H f.toNat) v) m = 0) else if k = 4 then !(holdsKs H kids).getD 0 false else if k = 5 then (holdsKs H kids).all id else if k = 6 then (holdsKs H kids).any id else false
def holdsKs (H : Hd) : List Nd → List Bool
  | [] => []
  | t :: ts => holdsT H t :: holdsKs H ts
end
end Go.Proofs.YtmhahajadgkolaaGreatDoor
/- policy: holds, Holds. -/
namespace Go.Proofs.YtmhahajadgkolaaGreatDoor
open Go.RowKit

theorem Frm.range {w w' : World} (hF : Frm (fun _ => False) w w') (b o : Nat) (cs : List Value) (h : w.rangeAt b o cs) : w'.rangeAt b o cs := ((St.start (fun _ => False) w).ext hF).range (fun _ h => h) b o cs h
theorem formE_le {t : Nd} (h : formE t = 0) : leastK t.kind ≤ t.kids.length ∧ (t.kids.length : Int) ≤ mostK t.kind := by
  unfold formE at h
  split at h
  · cases h
  · omega
end Go.Proofs.YtmhahajadgkolaaGreatDoor
/- policy: headers that are the same; Index, Contains, gather. -/
namespace Go.Proofs.YtmhahajadgkolaaGreatDoor
open Go.RowKit

def Hd.same (A B : Hd) : Prop := A.port = B.port ∧ (∀ i, i < 6 → A.src i = B.src i) ∧ (∀ i, i < 6 → A.dst i = B.dst i) ∧ A.ty = B.ty ∧ A.sip = B.sip ∧ A.dip = B.dip ∧ A.proto = B.proto ∧ A.sp = B.sp ∧ A.dp = B.dp
instance (A B : Hd) : Decidable (A.same B) := by unfold Hd.same; infer_instance
theorem hdL_len (H : Hd) : (hdL H).length = 19 := rfl
/-- Headers lie there, one behind the other. -/
def HdsAt (w : World) (ad : Option Addr) (Hs : List Hd) : Prop := ∀ (i : Nat) (H : Hd), Hs[i]? = some H → ∃ b o, ad = some ⟨b, o, none⟩ ∧ w.rangeAt b (o + i * 19) (hdL H)
def inHs (Hs : List Hd) (H : Hd) : Bool := Hs.any fun x => decide (H.same x)
/-- What gather makes of two lists. -/
def gatherT (all : List Hd) : List Hd → Option (List Hd)
  | [] => some all
  | h :: more => if inHs all h then gatherT all more else if all.length = 64 then none else gatherT (all ++ [h]) more
end Go.Proofs.YtmhahajadgkolaaGreatDoor
/- policy: gather. -/
namespace Go.Proofs.YtmhahajadgkolaaGreatDoor
open Go.RowKit

/-- A list of headers, and whether there is one. -/
def HdsPost (p : Nat → Prop) (w0 : World) (L : List Ent) (o : Option (List Hd)) (e : Ending) (w' : World) : Prop :=
  ∃ Rs ad c E b, e = .returned (.tuple #[.slice ad (List.length Rs) c, .bool b]) ∧ Vec 19 ad (List.length Rs) c (hdsL Rs) E ∧ St p w0 w' (E ++ L) ∧ ((b = true ∧ o = some Rs) ∨ (b = false ∧ o = none ∧ Rs = [] ∧ ad = none ∧ c = 0))
end Go.Proofs.YtmhahajadgkolaaGreatDoor
/- Acts: the plain law. -/
namespace Go.Proofs.YtmhahajadgkolaaGreatDoor
open Go.RowKit

/-! ### Two acts as one -/
/-! ### The order of acts -/
end Go.Proofs.YtmhahajadgkolaaGreatDoor
/- policy: run, par, seq. -/
namespace Go.Proofs.YtmhahajadgkolaaGreatDoor
open Go.RowKit

/-- One stage of a sequence: what each header gives, gathered. -/
def seqStep (f : Hd → Option (List Hd)) : List Hd → List Hd → Option (List Hd)
  | [], nx => some nx
  | g :: gs, nx => (f g).bind fun out => (gatherT nx out).bind fun nx' => seqStep f gs nx'
mutual
/-- What a policy makes of a header, in the order in which it comes. -/
def runT : Nd → Hd → Option (List Hd)
  | .mk k f v _ _ _ kids, H =>
    if k = 12 then some [H]
    else if k = 13 then (if (holdsKs H kids).getD 0 false then some [H] else some [])
    else if k = 14 then some [wthF f.toNat v H]
    else if k = 15 then parKs kids H []
    else if k = 16 then seqKs kids [H]
    else if k = 17 then (if (holdsKs H kids).getD 0 false then nthKs kids 1 H else nthKs kids 2 H)
    else some []
def parKs : List Nd → Hd → List Hd → Option (List Hd)
  | [], _, all => some all
  | t :: ts, H, all => (runT t H).bind fun out => (gatherT all out).bind fun all' => parKs ts H all'
def seqKs : List Nd → List Hd → Option (List Hd)
  | [], all => some all
  | t :: ts, all => (seqStep (fun g => runT t g) all []).bind fun next => seqKs ts next
def nthKs : List Nd → Nat → Hd → Option (List Hd)
  | [], _, _ => none
  | t :: _, 0, H => runT t H
  | _ :: ts, i + 1, H => nthKs ts i H
end
/-- A list that may be carried on. -/
structure Good (Rs : List Hd) : Prop where
  len : Rs.length ≤ 64
  all : ∀ x ∈ Rs, x.In
/-- A Set's field and number are in their bounds. -/
theorem argE_set {t : Nd} (h : argE t = 0) (hk : t.kind = 14) : ∃ q : Nat, t.f = q ∧ q < 9 ∧ t.f.toNat = q ∧ t.val ≤ fullI q := by
  unfold argE at h
  rw [if_neg (by omega), if_pos hk] at h
  split at h
  · cases h
  · rename_i hh
    obtain ⟨q, e, hq, e2⟩ := isFld.nat (Classical.not_not.1 fun k => hh (.inl k))
    refine ⟨q, e, hq, e2, ?_⟩
    rw [← e2]
    exact Int.not_lt.1 fun k => hh (.inr (.inr (.inr k)))
end Go.Proofs.YtmhahajadgkolaaGreatDoor
/- policy: par and seq, walked. -/
namespace Go.Proofs.YtmhahajadgkolaaGreatDoor
open Go.RowKit

theorem Nd.kidN {t u : Nd} {j N : Nat} (hN : SizeOf.sizeOf t ≤ N + 1) (h : t.kids[j]? = some u) : SizeOf.sizeOf u ≤ N := by
  have := Nd.kid_size h; omega
theorem drop_cons {α : Type} {ts : List α} {k : Nat} {u : α} (hu : ts[k]? = some u) : ts.drop k = u :: ts.drop (k + 1) := by
  obtain ⟨hk, e⟩ := List.getElem?_eq_some_iff.1 hu
  rw [List.drop_eq_getElem_cons hk, e]
end Go.Proofs.YtmhahajadgkolaaGreatDoor
/- policy: run, Run. -/
namespace Go.Proofs.YtmhahajadgkolaaGreatDoor
open Go.RowKit

end Go.Proofs.YtmhahajadgkolaaGreatDoor
/- The sort of headers: its order; its worlds as mine. -/
namespace Go.Proofs.YtmhahajadgkolaaGreatDoor
open Go.RowKit Go.Sort

/-! ### The order -/
abbrev HdI := { H : Hd // H.In }
instance : Inhabited HdI := ⟨⟨Hd.zero, Hd.zero_in⟩⟩
/-! ### Worlds -/
end Go.Proofs.YtmhahajadgkolaaGreatDoor
/- The kit's laying SlLaysF0.n6 at this seat's functions. Printed by wip/tools/lays.py. -/
namespace Go.Proofs.YtmhahajadgkolaaGreatDoor
open Go.RowKit Go.Shelf

end Go.Proofs.YtmhahajadgkolaaGreatDoor
/- slices.SortFunc of headers, whatever their number. -/
namespace Go.Proofs.YtmhahajadgkolaaGreatDoor
open Go.RowKit Go.Sort

/-- Ascending: no later one is less than an earlier one. -/
def Asc (Rs : List Hd) : Prop := ∀ (i j : Nat) (A B : Hd), Rs[i]? = some A → Rs[j]? = some B → i < j → ¬ hcmpK B A 9 < 0
end Go.Proofs.YtmhahajadgkolaaGreatDoor
/- policy: Run; Fwd; the law's own par, seq, filter. -/
namespace Go.Proofs.YtmhahajadgkolaaGreatDoor
open Go.RowKit

/-- What Run hands back. -/
def RunIs (t : Nd) (H : Hd) (Rs : List Hd) (er : Int) : Prop :=
  if (walkT t 1 false 0).1 ≠ 0 then er = (walkT t 1 false 0).1 ∧ Rs = []
  else if H.okB = false then er = 1 ∧ Rs = []
  else match runT t H with
    | none => er = 34 ∧ Rs = []
    | some Qs => er = 0 ∧ Rs.Perm Qs ∧ Asc Rs
end Go.Proofs.YtmhahajadgkolaaGreatDoor
/- policy: the document's example of layer 16. -/
namespace Go.Proofs.YtmhahajadgkolaaGreatDoor
open Go.RowKit

theorem Nd.In_mk {k f v m : Int} {a : Option Addr} {c : Nat} {kids : List Nd} (hk : -9223372036854775808 ≤ k ∧ k ≤ 9223372036854775807) (hf : -9223372036854775808 ≤ f ∧ f ≤ 9223372036854775807) (hv : 0 ≤ v ∧ v ≤ 18446744073709551615) (hm : 0 ≤ m ∧ m ≤ 18446744073709551615) (hl : kids.length ≤ 9223372036854775807) (hI : KidsIn kids) : (Nd.mk k f v m a c kids).In := by
  unfold Nd.In; exact ⟨hk, hf, hv, hm, hl, hI⟩
theorem KidsIn.nil : KidsIn [] := by unfold KidsIn; trivial
theorem Nd.At_leaf {w : World} {k f v m : Int} {a : Option Addr} {c : Nat} : (Nd.mk k f v m a c []).At w := by unfold Nd.At KidsAt; trivial
end Go.Proofs.YtmhahajadgkolaaGreatDoor
/- policy: what a policy makes of a header, as a relation between the numbers of headers. -/
namespace Go.Proofs.YtmhahajadgkolaaGreatDoor
open Go.RowKit

abbrev Ky := Nat → Int
mutual
def holdsG (h : Ky) : Nd → Bool
  | .mk k f v m _ _ kids => if k = 1 then true else if k = 3 then decide (andN (xorN (h f.toNat) v) m = 0) else if k = 4 then !(holdsGs h kids).getD 0 false else if k = 5 then (holdsGs h kids).all id else if k = 6 then (holdsGs h kids).any id else false
def holdsGs (h : Ky) : List Nd → List Bool
  | [] => []
  | t :: ts => holdsG h t :: holdsGs h ts
end
def updK (k : Nat) (v : Int) (h : Ky) : Ky := fun j => if j = k then v else h j
mutual
/-- g is among what a policy makes of h. -/
def OutT : Nd → Ky → Ky → Prop
  | .mk k f v _ _ _ kids, h, g =>
    if k = 12 then g = h
    else if k = 13 then (holdsGs h kids).getD 0 false = true ∧ g = h
    else if k = 14 then g = updK f.toNat v h
    else if k = 15 then OutPar kids h g
    else if k = 16 then OutSeq kids h g
    else if k = 17 then (if (holdsGs h kids).getD 0 false then OutNth kids 1 h g else OutNth kids 2 h g)
    else False
def OutPar : List Nd → Ky → Ky → Prop
  | [], _, _ => False
  | t :: ts, h, g => OutT t h g ∨ OutPar ts h g
def OutSeq : List Nd → Ky → Ky → Prop
  | [], h, g => g = h
  | t :: ts, h, g => ∃ m, OutT t h m ∧ OutSeq ts m g
def OutNth : List Nd → Nat → Ky → Ky → Prop
  | [], _, _, _ => False
  | t :: _, 0, h, g => OutT t h g
  | _ :: ts, i + 1, h, g => OutNth ts i h g
end
/-! ### Headers that are right -/
structure Hd.Rt (H : Hd) : Prop where
  isIn : H.In
  ok : H.okB = true
/-! ### Lists of headers -/
/-- A number list stands among headers. -/
def inK (Rs : List Hd) (g : Ky) : Prop := ∃ x ∈ Rs, getF x = g
/-- Right headers, each once. -/
structure Once (Rs : List Hd) : Prop where
  all : ∀ x ∈ Rs, x.Rt
  nd : (Rs.map getF).Nodup
/-! ### Sorted lists -/
def ltK (f g : Ky) : Prop := lexK f g 9 < 0
end Go.Proofs.YtmhahajadgkolaaGreatDoor
/- slices.Clone, slices.Compact of head.Header (printed by gen/slc.py). -/
namespace Go.Proofs.YtmhahajadgkolaaGreatDoor
open Go.RowKit

end Go.Proofs.YtmhahajadgkolaaGreatDoor
/- slices.SortFunc at elements of which something is known: the sort of XGs for a part of a type. -/
namespace Go.Proofs.YtmhahajadgkolaaGreatDoor
open Go.RowKit Go.Sort Go.Shelf

end Go.Proofs.YtmhahajadgkolaaGreatDoor
/- table: merge; the stable sort of fewer than 20 entries. -/
namespace Go.Proofs.YtmhahajadgkolaaGreatDoor
open Go.RowKit

instance : Inhabited EnL := ⟨⟨0, 0, ⟨⟨fun _ => 0, fun _ => 0⟩, none, 0, []⟩⟩⟩
end Go.Proofs.YtmhahajadgkolaaGreatDoor
/- The kit's laying SlLaysF0.n20 (insertion sort by a comparison) at entries. -/
namespace Go.Proofs.YtmhahajadgkolaaGreatDoor
open Go.RowKit Go.Shelf

end Go.Proofs.YtmhahajadgkolaaGreatDoor
/- table: the stable sort of entries, fewer than 20. -/
namespace Go.Proofs.YtmhahajadgkolaaGreatDoor
open Go.RowKit Go.Sort

end Go.Proofs.YtmhahajadgkolaaGreatDoor
/- table: Change. -/
namespace Go.Proofs.YtmhahajadgkolaaGreatDoor
open Go.RowKit

end Go.Proofs.YtmhahajadgkolaaGreatDoor
/- table: New, Take, at, Find, clone, Len, Room. -/
namespace Go.Proofs.YtmhahajadgkolaaGreatDoor
open Go.RowKit

/-- What is asked of a rule that is handed in. -/
structure RuOk (w : World) (r : RuL) : Prop where
  rd : Rg w r.ad (actsL r.acts)
  len : r.acts.length ≤ 100000
/-- What Find answers: the first entry that is hit, in new memory. -/
def FindP (w w' : World) (es : List EnL) (H : Hd) (e : Ending) : Prop :=
  ((∀ x ∈ es, ¬ x.r.m.hits H) ∧ e = .returned (.tuple #[.agg (EnL.cells ⟨0, 0, ⟨⟨fun _ => 0, fun _ => 0⟩, none, 0, []⟩⟩).toArray, .bool false]) ∧ Frm (fun _ => False) w w') ∨
  ∃ (i : Nat) (x y : EnL) (K : List Ent), es[i]? = some x ∧ x.r.m.hits H ∧ (∀ j y, j < i → es[j]? = some y → ¬ y.r.m.hits H) ∧ y.d = x.d ∧ e = .returned (.tuple #[.agg y.cells.toArray, .bool true]) ∧ RuOwn K y.r ∧ St (fun _ => False) w w' K
/-- The same, whichever it is. -/
def FindQ (w w' : World) (es : List EnL) (H : Hd) (e : Ending) : Prop :=
  ∃ (b : Bool) (y : EnL) (K : List Ent), e = .returned (.tuple #[.agg y.cells.toArray, .bool b]) ∧ (b = false → ∀ x ∈ es, ¬ x.r.m.hits H) ∧ (b = true → ∃ (i : Nat) (x : EnL), es[i]? = some x ∧ x.r.m.hits H ∧ (∀ j y, j < i → es[j]? = some y → ¬ y.r.m.hits H) ∧ y.d = x.d) ∧ RuOwn K y.r ∧ St (fun _ => False) w w' K
end Go.Proofs.YtmhahajadgkolaaGreatDoor
/- rules.List.Run of one rule, whatever its acts; table.Run. -/
namespace Go.Proofs.YtmhahajadgkolaaGreatDoor
open Go.RowKit Go.Sort

/-- A header with nothing behind its addresses' six bytes. -/
def Hd.nrm (H : Hd) : Hd := { H with src := fun i => if i < 6 then H.src i else 0, dst := fun i => if i < 6 then H.dst i else 0 }
instance : Inhabited { H : Hd // H.Rt } := ⟨⟨Hd.zero, ⟨Hd.zero_in, by decide⟩⟩⟩
open Classical in
/-- What a rule makes of a header. -/
structure RunD (r : RuD) (H : Hd) (hs : List Hd) : Prop where
  strict : hs.Pairwise fun a b => hcmpK a b 9 < 0
  mem : ∀ x, x ∈ hs ↔ ∃ a ∈ r.acts, x = (appK a H 9).nrm
/-- What Run of a table hands back. -/
def TRunP (es : List EnL) (H : Hd) (hs : List Hd) : Prop := ((∀ x ∈ es, ¬ x.r.m.hits H) ∧ hs = []) ∨ ∃ (i : Nat) (x : EnL), es[i]? = some x ∧ x.r.m.hits H ∧ (∀ j y, j < i → es[j]? = some y → ¬ y.r.m.hits H) ∧ RunD x.r.d H hs
end Go.Proofs.YtmhahajadgkolaaGreatDoor
/- pile: rules of which none is covered by one ahead, as data. -/
namespace Go.Proofs.YtmhahajadgkolaaGreatDoor
open Go.RowKit

def Mt.both (m n : Mt) : Mt := ⟨fun k => orN (m.val k) (n.val k), fun k => orN (m.mask k) (n.mask k)⟩
def Mt.meets (m n : Mt) : Prop := ∀ k, k < 9 → andN (andN (xorN (m.val k) (n.val k)) (m.mask k)) (n.mask k) = 0
instance (m n : Mt) : Decidable (m.meets n) := by unfold Mt.meets; infer_instance
/-- The match of what meets both. -/
def Mt.and (m n : Mt) : Option Mt := if m.meets n then some (m.both n) else none
def Mt.without (m : Mt) (f : Nat) : Mt := ⟨fun k => if k = f then 0 else m.val k, fun k => if k = f then 0 else m.mask k⟩
/-- The same in all fields. -/
def Mt.eqv (a b : Mt) : Prop := ∀ k, k < 9 → a.val k = b.val k ∧ a.mask k = b.mask k
instance (m n : Mt) : Decidable (m.eqv n) := by unfold Mt.eqv; infer_instance
/-- A match covers another one, and says of it what it says itself. -/
def Mt.over (r m : Mt) : Prop := ∀ k, k < 9 → andNotN (r.mask k) (m.mask k) = 0 ∧ r.val k = andN (m.val k) (r.mask k)
instance (m n : Mt) : Decidable (m.over n) := by unfold Mt.over; infer_instance
def covD (out : List RuD) (m : Mt) : Prop := ∃ r ∈ out, r.m.eqv m ∨ r.m.over m
instance (out : List RuD) (m : Mt) : Decidable (covD out m) := by unfold covD; infer_instance
structure PlD where
  mr : Int
  ma : Int
  out : List RuD
def sumA : List RuD → Nat
  | [] => 0
  | r :: rs => r.acts.length + sumA rs
theorem sumA_append : ∀ xs ys : List RuD, sumA (xs ++ ys) = sumA xs + sumA ys
  | [], ys => by show sumA ys = 0 + sumA ys; omega
  | x :: xs, ys => by show x.acts.length + sumA (xs ++ ys) = (x.acts.length + sumA xs) + sumA ys; rw [sumA_append xs ys]; omega
def PlD.add (p : PlD) (m : Mt) (us : List Ac) : Option PlD :=
  if (p.out.length : Int) ≥ p.mr ∨ ((sumA p.out : Nat) : Int) + (normF us).length > p.ma then none else some { p with out := p.out ++ [⟨m, normF us⟩] }
/-- One rule with each of others. -/
def crossI (but : List RuD) (sum : List Ac → List Ac → List Ac) (r : RuD) : List RuD → PlD → Option PlD
  | [], p => some p
  | s :: b, p => match r.m.and s.m with
    | none => crossI but sum r b p
    | some m => if covD but m ∨ covD p.out m then crossI but sum r b p else
      match p.add m (sum r.acts s.acts) with
      | none => none
      | some p' => if m.eqv r.m then some p' else crossI but sum r b p'
def crossD (but : List RuD) (sum : List Ac → List Ac → List Ac) (b : List RuD) : List RuD → PlD → Option PlD
  | [], p => some p
  | r :: a, p => match crossI but sum r b p with
    | none => none
    | some p' => crossD but sum b a p'
/-- A match as it is of a header ahead of an act: its first k fields. -/
def aheadK (act : Ac) (m : Mt) : Nat → Option Mt
  | 0 => some m
  | k + 1 => match aheadK act m k with
    | none => none
    | some n => if act.sets k then (if andN (act.val k) (n.mask k) ≠ n.val k then none else some (n.without k)) else some n
def aheadD (act : Ac) : List RuD → List RuD
  | [] => []
  | r :: l => match aheadK act r.m 9 with
    | none => aheadD act l
    | some m => ⟨m, r.acts.map act.then⟩ :: aheadD act l
def appA (a b : List Ac) : List Ac := a ++ b
def bothA (a b : List Ac) : List Ac := if a.length = 0 ∨ b.length = 0 then [] else a
def rowsD (mr ma : Int) (but b : List RuD) : List Ac → List RuD → Option (List RuD)
  | [], rows => some rows
  | a :: us, rows => match crossD but appA (aheadD a b) rows ⟨mr, ma, []⟩ with
    | none => none
    | some q => if q.out.length = 0 then some [] else rowsD mr ma but b us q.out
def addsD : List RuD → PlD → Option PlD
  | [], p => some p
  | x :: rows, p => if covD p.out x.m then addsD rows p else match p.add x.m x.acts with
    | none => none
    | some p' => addsD rows p'
def behindD (b : List RuD) : List RuD → PlD → Option PlD
  | [], p => some p
  | r :: a, p => match rowsD p.mr p.ma p.out b r.acts [⟨r.m, []⟩] with
    | none => none
    | some rows => match addsD rows p with
      | none => none
      | some p' => behindD b a p'
def outD : Option PlD → List RuD
  | none => []
  | some p => p.out
theorem PlD.add_some {p q : PlD} {m : Mt} {us : List Ac} (h : p.add m us = some q) : q = { p with out := p.out ++ [⟨m, normF us⟩] } := by
  unfold PlD.add at h
  split at h
  · cases h
  · exact (Option.some.inj h).symm
/-! ### How many -/
theorem crossI_len {but : List RuD} {sum : List Ac → List Ac → List Ac} {r : RuD} : ∀ (b : List RuD) (p q : PlD), crossI but sum r b p = some q → q.out.length ≤ p.out.length + b.length ∧ q.mr = p.mr ∧ q.ma = p.ma
  | [], p, q, h => by cases h; exact ⟨Nat.le_refl _, rfl, rfl⟩
  | s :: b, p, q, h => by
    rw [crossI] at h
    rw [List.length_cons]
    split at h
    · have := crossI_len b p q h; exact ⟨by omega, this.2⟩
    split at h
    · have := crossI_len b p q h; exact ⟨by omega, this.2⟩
    split at h
    · cases h
    rename_i p' hp
    have e := PlD.add_some hp
    split at h
    · cases h
      subst e
      exact ⟨by dsimp only; rw [List.length_append]; show _ + 1 ≤ _; omega, rfl, rfl⟩
    · have := crossI_len b p' q h
      subst e
      dsimp only at this
      rw [List.length_append] at this
      exact ⟨by have : q.out.length ≤ p.out.length + 1 + b.length := this.1; omega, this.2⟩
theorem crossD_len {but : List RuD} {sum : List Ac → List Ac → List Ac} {b : List RuD} : ∀ (a : List RuD) (p q : PlD), crossD but sum b a p = some q → q.out.length ≤ p.out.length + a.length * b.length ∧ q.mr = p.mr ∧ q.ma = p.ma
  | [], p, q, h => by cases h; exact ⟨by omega, rfl, rfl⟩
  | r :: a, p, q, h => by
    rw [crossD] at h
    split at h
    · cases h
    rename_i p' hp
    have h1 := crossI_len b p p' hp
    have h2 := crossD_len a p' q h
    rw [List.length_cons, Nat.add_mul]
    exact ⟨by omega, h2.2.1.trans h1.2.1, h2.2.2.trans h1.2.2⟩
/-- What is said of all rules' acts stays so. -/
theorem crossI_all {Q : List Ac → Prop} {but : List RuD} {sum : List Ac → List Ac → List Ac} {r : RuD} : ∀ (b : List RuD) (p q : PlD), (∀ s ∈ b, Q (normF (sum r.acts s.acts))) → (∀ x ∈ p.out, Q x.acts) → crossI but sum r b p = some q → ∀ x ∈ q.out, Q x.acts
  | [], p, q, _, hp, h => by cases h; exact hp
  | s :: b, p, q, hQ, hp, h => by
    have hQ' : ∀ s ∈ b, Q (normF (sum r.acts s.acts)) := fun x hx => hQ x (List.mem_cons_of_mem _ hx)
    rw [crossI] at h
    split at h
    · exact crossI_all b p q hQ' hp h
    split at h
    · exact crossI_all b p q hQ' hp h
    split at h
    · cases h
    rename_i p' hp'
    have e := PlD.add_some hp'
    have hp2 : ∀ x ∈ p'.out, Q x.acts := by
      subst e
      intro x hx
      rcases List.mem_append.1 hx with hx | hx
      · exact hp x hx
      · rw [List.mem_singleton.1 hx]; exact hQ s (List.mem_cons_self ..)
    split at h
    · cases h; exact hp2
    · exact crossI_all b p' q hQ' hp2 h
theorem crossD_all {Q : List Ac → Prop} {but : List RuD} {sum : List Ac → List Ac → List Ac} {b : List RuD} : ∀ (a : List RuD) (p q : PlD), (∀ r ∈ a, ∀ s ∈ b, Q (normF (sum r.acts s.acts))) → (∀ x ∈ p.out, Q x.acts) → crossD but sum b a p = some q → ∀ x ∈ q.out, Q x.acts
  | [], p, q, _, hp, h => by cases h; exact hp
  | r :: a, p, q, hQ, hp, h => by
    rw [crossD] at h
    split at h
    · cases h
    rename_i p' hp'
    exact crossD_all a p' q (fun x hx => hQ x (List.mem_cons_of_mem _ hx)) (crossI_all b p p' (hQ r (List.mem_cons_self ..)) hp hp') h
theorem aheadD_len (act : Ac) : ∀ l : List RuD, (aheadD act l).length ≤ l.length
  | [] => Nat.le_refl _
  | r :: l => by
    rw [aheadD]
    have := aheadD_len act l
    split
    · rw [List.length_cons]; omega
    · rw [List.length_cons, List.length_cons]; omega
theorem aheadD_all {act : Ac} {n : Nat} : ∀ l : List RuD, (∀ r ∈ l, r.acts.length ≤ n) → ∀ r ∈ aheadD act l, r.acts.length ≤ n
  | [], _, r, h => by cases h
  | x :: l, hl, r, h => by
    rw [aheadD] at h
    split at h
    · exact aheadD_all l (fun y hy => hl y (List.mem_cons_of_mem _ hy)) r h
    · rcases List.mem_cons.1 h with rfl | h
      · show (x.acts.map act.then).length ≤ n
        rw [List.length_map]; exact hl x (List.mem_cons_self ..)
      · exact aheadD_all l (fun y hy => hl y (List.mem_cons_of_mem _ hy)) r h
/-- A row of one rule ahead of others: so many rules, so many acts. -/
theorem rowsD_len {mr ma : Int} {but b : List RuD} {kr ka : Nat} (hk : 1 ≤ kr) (hb : b.length ≤ kr) (hba : ∀ r ∈ b, r.acts.length ≤ ka) : ∀ (us : List Ac) (rows out : List RuD) (n : Nat), (∀ r ∈ rows, r.acts.length ≤ n * ka) → rowsD mr ma but b us rows = some out → out.length ≤ rows.length * kr ^ us.length ∧ ∀ r ∈ out, r.acts.length ≤ (n + us.length) * ka
  | [], rows, out, n, hr, h => by cases h; exact ⟨by simp, by simpa using hr⟩
  | a :: us, rows, out, n, hr, h => by
    rw [rowsD] at h
    split at h
    · cases h
    rename_i q hq
    have h1 := crossD_len rows ⟨mr, ma, []⟩ q hq
    have h2 := crossD_all (Q := fun l => l.length ≤ (n + 1) * ka) rows ⟨mr, ma, []⟩ q (fun r hr' s hs => by
      refine Nat.le_trans (normF_len _) ?_
      unfold appA
      rw [List.length_append, Nat.add_mul, Nat.one_mul]
      have := hr r hr'
      have := aheadD_all b hba s hs
      omega) (fun x hx => by cases hx) hq
    split at h
    · cases h; exact ⟨Nat.zero_le _, fun r hr => by cases hr⟩
    · have h3 := rowsD_len hk hb hba us q.out out (n + 1) h2 h
      refine ⟨?_, by rw [List.length_cons, show n + (us.length + 1) = n + 1 + us.length by omega]; exact h3.2⟩
      refine Nat.le_trans h3.1 ?_
      rw [List.length_cons, Nat.pow_succ, Nat.mul_comm (kr ^ us.length) kr, ← Nat.mul_assoc]
      refine Nat.mul_le_mul_right _ ?_
      have h4 : q.out.length ≤ 0 + rows.length * (aheadD a b).length := h1.1
      refine Nat.le_trans (by omega : q.out.length ≤ rows.length * (aheadD a b).length) (Nat.mul_le_mul_left _ (Nat.le_trans (aheadD_len a b) hb))
theorem addsD_len : ∀ (rows : List RuD) (p q : PlD), addsD rows p = some q → q.out.length ≤ p.out.length + rows.length ∧ q.mr = p.mr ∧ q.ma = p.ma
  | [], p, q, h => by cases h; exact ⟨Nat.le_refl _, rfl, rfl⟩
  | x :: rows, p, q, h => by
    rw [addsD] at h
    rw [List.length_cons]
    split at h
    · have := addsD_len rows p q h; exact ⟨by omega, this.2⟩
    split at h
    · cases h
    rename_i p' hp
    have e := PlD.add_some hp
    have := addsD_len rows p' q h
    subst e
    dsimp only at this
    rw [List.length_append] at this
    exact ⟨by have : q.out.length ≤ p.out.length + 1 + rows.length := this.1; omega, this.2⟩
theorem addsD_all {n : Nat} : ∀ (rows : List RuD) (p q : PlD), (∀ r ∈ rows, r.acts.length ≤ n) → (∀ r ∈ p.out, r.acts.length ≤ n) → addsD rows p = some q → ∀ r ∈ q.out, r.acts.length ≤ n
  | [], p, q, _, hp, h => by cases h; exact hp
  | x :: rows, p, q, hr, hp, h => by
    have hr' : ∀ r ∈ rows, r.acts.length ≤ n := fun y hy => hr y (List.mem_cons_of_mem _ hy)
    rw [addsD] at h
    split at h
    · exact addsD_all rows p q hr' hp h
    split at h
    · cases h
    rename_i p' hp'
    have e := PlD.add_some hp'
    refine addsD_all rows p' q hr' (fun r h1 => ?_) h
    subst e
    rcases List.mem_append.1 h1 with h1 | h1
    · exact hp r h1
    · rw [List.mem_singleton.1 h1]; exact Nat.le_trans (normF_len _) (hr x (List.mem_cons_self ..))
theorem behindD_len {b : List RuD} {kr ka n : Nat} (hk : 1 ≤ kr) (hb : b.length ≤ kr) (hba : ∀ r ∈ b, r.acts.length ≤ ka) : ∀ (a : List RuD) (p q : PlD), (∀ r ∈ a, r.acts.length ≤ n) → (∀ r ∈ p.out, r.acts.length ≤ n * ka) → behindD b a p = some q → q.out.length ≤ p.out.length + a.length * kr ^ n ∧ (∀ r ∈ q.out, r.acts.length ≤ n * ka) ∧ q.mr = p.mr ∧ q.ma = p.ma
  | [], p, q, _, hp, h => by cases h; exact ⟨by omega, hp, rfl, rfl⟩
  | r :: a, p, q, ha, hp, h => by
    rw [behindD] at h
    split at h
    · cases h
    rename_i rows hrows
    split at h
    · cases h
    rename_i p' hp'
    have hrn := ha r (List.mem_cons_self ..)
    have h1 := rowsD_len hk hb hba r.acts [⟨r.m, []⟩] rows 0 (fun x hx => by rw [List.mem_singleton.1 hx]; exact Nat.zero_le _) hrows
    rw [List.length_singleton, Nat.one_mul, Nat.zero_add] at h1
    have h2 := addsD_len rows p p' hp'
    have h3 := addsD_all (n := n * ka) rows p p' (fun x hx => Nat.le_trans (h1.2 x hx) (Nat.mul_le_mul_right _ hrn)) hp hp'
    have h4 := behindD_len hk hb hba a p' q (fun x hx => ha x (List.mem_cons_of_mem _ hx)) h3 h
    have h5 : kr ^ r.acts.length ≤ kr ^ n := Nat.pow_le_pow_right hk hrn
    refine ⟨?_, h4.2.1, h4.2.2.1.trans h2.2.1, h4.2.2.2.trans h2.2.2⟩
    rw [List.length_cons, Nat.add_mul, Nat.one_mul]
    omega
/-! ### Numbers in range -/
theorem orN_u64 {x y : Int} (h1 : x ≤ 18446744073709551615) (h2 : y ≤ 18446744073709551615) : 0 ≤ orN x y ∧ orN x y ≤ 18446744073709551615 := by
  unfold orN
  have : x.toNat ||| y.toNat < 2 ^ 64 := Nat.or_lt_two_pow (by omega) (by omega)
  omega
theorem Mt.both_in {m n : Mt} (h1 : m.In) (h2 : n.In) : (m.both n).In := ⟨fun k => orN_u64 (h1.val k).2 (h2.val k).2, fun k => orN_u64 (h1.mask k).2 (h2.mask k).2⟩
theorem Mt.both_nz {m n : Mt} (h1 : m.Nz) (h2 : n.Nz) : (m.both n).Nz := fun k hk => by
  have a := h1 k hk
  have b := h2 k hk
  exact ⟨by show orN (m.val k) (n.val k) = 0; rw [a.1, b.1]; rfl, by show orN (m.mask k) (n.mask k) = 0; rw [a.2, b.2]; rfl⟩
theorem Mt.without_in {m : Mt} (h : m.In) (f : Nat) : (m.without f).In :=
  ⟨fun k => by show 0 ≤ (if k = f then 0 else m.val k) ∧ (if k = f then 0 else m.val k) ≤ _; split; exact ⟨Int.le_refl _, by decide⟩; exact h.val k,
   fun k => by show 0 ≤ (if k = f then 0 else m.mask k) ∧ (if k = f then 0 else m.mask k) ≤ _; split; exact ⟨Int.le_refl _, by decide⟩; exact h.mask k⟩
theorem Mt.without_nz {m : Mt} (h : m.Nz) (f : Nat) : (m.without f).Nz := fun k hk =>
  ⟨by show (if k = f then 0 else m.val k) = 0; split; rfl; exact (h k hk).1, by show (if k = f then 0 else m.mask k) = 0; split; rfl; exact (h k hk).2⟩
/-- A rule whose numbers are in range and whose acts are in their form. -/
structure RuD.Fit (r : RuD) : Prop where
  isIn : r.In
  ok : ∀ a ∈ r.acts, a.Ok
theorem Ac.thn_nz {a b : Ac} (ha : a.Nz) (hb : b.Nz) : (a.then b).Nz := fun k hk => by
  show (if b.sets k then b.val k else a.val k) = 0
  split
  · exact hb k hk
  · exact ha k hk
theorem sets_or {a b : Int} {k : Nat} (h0 : 0 ≤ a) (h1 : 0 ≤ b) : orN a b / 2 ^ k % 2 = 1 ↔ (a / 2 ^ k % 2 = 1 ∨ b / 2 ^ k % 2 = 1) := by
  obtain ⟨x, rfl⟩ := Int.eq_ofNat_of_zero_le h0
  obtain ⟨y, rfl⟩ := Int.eq_ofNat_of_zero_le h1
  have hb : ∀ n : Nat, ((n : Int) / 2 ^ k % 2 = 1) ↔ n.testBit k = true := fun n => by
    rw [Nat.testBit_eq_decide_div_mod_eq, decide_eq_true_iff]
    have : ((n : Int) / 2 ^ k % 2) = ((n / 2 ^ k % 2 : Nat) : Int) := by push_cast; rfl
    rw [this]; omega
  show ((((x : Int).toNat ||| (y : Int).toNat : Nat) : Int) / 2 ^ k % 2 = 1) ↔ _
  rw [hb, hb, hb]
  simp [Nat.testBit_or]
theorem Ac.thn_ok {a b : Ac} (ha : a.Ok) (hb : b.Ok) : (a.then b).Ok := by
  refine ⟨?_, fun k hk => ?_⟩
  · show 0 ≤ orN a.set b.set ∧ orN a.set b.set ≤ 511
    unfold orN
    have h1 := ha.1
    have h2 := hb.1
    have : a.set.toNat ||| b.set.toNat < 2 ^ 9 := Nat.or_lt_two_pow (by omega) (by omega)
    omega
  · show (if b.sets k then b.val k else a.val k) ≤ fullI k ∧ ((if b.sets k then b.val k else a.val k) ≠ 0 → (a.then b).sets k)
    have hs : (a.then b).sets k ↔ a.sets k ∨ b.sets k := sets_or ha.1.1 hb.1.1
    rw [hs]
    split
    · rename_i h; exact ⟨(hb.2 k hk).1, fun _ => .inr h⟩
    · exact ⟨(ha.2 k hk).1, fun h => .inl ((ha.2 k hk).2 h)⟩
theorem Ac.thn_in {a b : Ac} (ha : a.In) (hb : b.In) (h1 : a.Ok) (h2 : b.Ok) : (a.then b).In :=
  ⟨by have := (Ac.thn_ok h1 h2).1; omega, fun k => by
    show 0 ≤ (if b.sets k then b.val k else a.val k) ∧ (if b.sets k then b.val k else a.val k) ≤ _
    split
    · exact hb.val k
    · exact ha.val k⟩
theorem fit_new {m : Mt} {us : List Ac} (hm : m.In) (hz : m.Nz) (ha : ∀ a ∈ us, a.In ∧ a.Nz ∧ a.Ok) : (⟨m, normF us⟩ : RuD).Fit :=
  ⟨⟨hm, hz, fun a h => ⟨(ha a (normF_sub h)).1, (ha a (normF_sub h)).2.1⟩⟩, fun a h => (ha a (normF_sub h)).2.2⟩
theorem and_some {r s m : Mt} (h : r.and s = some m) : r.meets s ∧ m = r.both s := by
  unfold Mt.and at h
  split at h
  · rename_i hm; exact ⟨hm, (Option.some.inj h).symm⟩
  · cases h
def SumOk (sum : List Ac → List Ac → List Ac) : Prop := ∀ x y a, a ∈ sum x y → a ∈ x ∨ a ∈ y
theorem appA_ok : SumOk appA := fun _ _ _ h => List.mem_append.1 h
theorem bothA_ok : SumOk bothA := fun _ _ _ h => by
  unfold bothA at h
  split at h
  · cases h
  · exact .inl h
theorem RuD.Fit.three {r : RuD} (h : r.Fit) {a : Ac} (ha : a ∈ r.acts) : a.In ∧ a.Nz ∧ a.Ok := ⟨(h.isIn.act a ha).1, (h.isIn.act a ha).2, h.ok a ha⟩
theorem sum_three {sum : List Ac → List Ac → List Ac} (hs : SumOk sum) {r s : RuD} (hr : r.Fit) (hs' : s.Fit) : ∀ a ∈ sum r.acts s.acts, a.In ∧ a.Nz ∧ a.Ok := fun a h => (hs _ _ a h).elim hr.three hs'.three
theorem aheadK_in {act : Ac} {m : Mt} (hm : m.In) (hz : m.Nz) : ∀ (k : Nat) (n : Mt), aheadK act m k = some n → n.In ∧ n.Nz
  | 0, n, h => by cases h; exact ⟨hm, hz⟩
  | k + 1, n, h => by
    rw [aheadK] at h
    split at h
    · cases h
    rename_i n' hn
    have ih := aheadK_in hm hz k n' hn
    split at h
    · split at h
      · cases h
      · cases h; exact ⟨Mt.without_in ih.1 k, Mt.without_nz ih.2 k⟩
    · cases h; exact ih
theorem aheadD_fit {act : Ac} (h1 : act.In) (h2 : act.Nz) (h3 : act.Ok) : ∀ l : List RuD, (∀ r ∈ l, r.Fit) → ∀ r ∈ aheadD act l, r.Fit
  | [], _, r, h => by cases h
  | x :: l, hl, r, h => by
    rw [aheadD] at h
    split at h
    · exact aheadD_fit h1 h2 h3 l (fun y hy => hl y (List.mem_cons_of_mem _ hy)) r h
    · rename_i m hm
      rcases List.mem_cons.1 h with rfl | h
      · have hx := hl x (List.mem_cons_self ..)
        have hm2 := aheadK_in hx.isIn.m hx.isIn.nz 9 m hm
        refine ⟨⟨hm2.1, hm2.2, fun a ha => ?_⟩, fun a ha => ?_⟩
        · obtain ⟨b, hb, rfl⟩ := List.mem_map.1 ha
          have hb := hx.three hb
          exact ⟨Ac.thn_in h1 hb.1 h3 hb.2.2, Ac.thn_nz h2 hb.2.1⟩
        · obtain ⟨b, hb, rfl⟩ := List.mem_map.1 ha
          have hb := hx.three hb
          exact Ac.thn_ok h3 hb.2.2
      · exact aheadD_fit h1 h2 h3 l (fun y hy => hl y (List.mem_cons_of_mem _ hy)) r h
end Go.Proofs.YtmhahajadgkolaaGreatDoor
/- Matches as a map's keys (structs of arrays of numbers). -/
namespace Go.Proofs.YtmhahajadgkolaaGreatDoor
open Go.RowKit

theorem mapM_rng {β : Type} {f : Nat → Option β} {g : Nat → β} : ∀ (n : Nat), (∀ i, i < n → f i = some (g i)) → (List.range n).mapM f = some ((List.range n).map g)
  | 0, _ => rfl
  | n + 1, h => by
    rw [List.range_succ, List.mapM_append, mapM_rng n (fun i hi => h i (by omega)), List.map_append]
    simp [h n (by omega)]
theorem lits_ucs {P : Program} {t e : TypeId} {d : Nat} {f : Nat → Int} (hu : P.underlying t = some (.array 9 e)) (he : P.underlying e = some (.int .u64)) (hc : P.cellsOf t = 9) (hce : P.cellsOf e = 1) (hf : ∀ k, 0 ≤ f k ∧ f k ≤ 18446744073709551615) :
    P.keyLits (d + 2) t (ucs f 9) = some ((List.range 9).map fun i => Lit.int .u64 (f i)) := by
  have key : ∀ i, i < 9 → P.keyLits (d + 1) e (((ucs f 9).drop (i * P.cellsOf e)).take (P.cellsOf e)) = some [Lit.int .u64 (f i)] := fun i hi => by
    have h1 : ((ucs f 9).drop (i * P.cellsOf e)).take (P.cellsOf e) = [.int .u64 (f i)] := by
      rw [hce, Nat.mul_one]
      have := List.drop_eq_getElem_cons (l := ucs f 9) (i := i) (by rw [ucs_len]; exact hi)
      rw [this]
      have h2 := ucs_get f hi
      rw [List.getElem?_eq_getElem (by rw [ucs_len]; exact hi)] at h2
      rw [Option.some.inj h2]
      rfl
    rw [h1]
    unfold Program.keyLits
    rw [he]
    have hw : (Lit.int .u64 (f i)).wf = true := by
      have h := hf i
      show (decide (IntKind.u64.min ≤ f i) && decide (f i ≤ IntKind.u64.max)) = true
      rw [decide_eq_true (show IntKind.u64.min ≤ f i from h.1), decide_eq_true (show f i ≤ IntKind.u64.max from h.2)]
      rfl
    simp [hw]
  unfold Program.keyLits
  rw [hu]
  simp only [hc, ucs_len, if_true]
  rw [mapM_rng 9 key]
  rfl
def KMt : Value → Prop := fun v => ∃ l, keyOf Tryz.prog 220 v = some l
theorem keyW_220 : KeyP Tryz.prog 220 KMt := by
  have L : WideMaps.KeyLaw Tryz.prog 220 := deep_law (m := 4) (by decide) (by kernel_rfl) (by kernel_rfl) (by kernel_rfl)
  exact ⟨fun b w v ⟨l, h⟩ => L.check w b h, fun w x es ⟨l, h⟩ he => L.find w h es he, fun w v ⟨l, h⟩ => L.stays w h⟩
theorem lits_mt (m : Mt) (hm : m.In) : ∃ ls, Tryz.prog.keyLits (Tryz.prog.types.size + 1) 220 (mtL m) = some ls := by
  have h1 := lits_ucs (P := Tryz.prog) (t := 218) (e := 23) (d := Tryz.prog.types.size - 2) Tryz.underlying218 Tryz.underlying23 (by kernel_rfl) (by kernel_rfl) hm.val
  have h2 := lits_ucs (P := Tryz.prog) (t := 218) (e := 23) (d := Tryz.prog.types.size - 2) Tryz.underlying218 Tryz.underlying23 (by kernel_rfl) (by kernel_rfl) hm.mask
  have hs : Tryz.prog.types.size - 2 + 2 = Tryz.prog.types.size := by kernel_rfl
  rw [hs] at h1 h2
  have e1 : (mtL m).take 9 = ucs m.val 9 := rfl
  have e2 : ((mtL m).drop 9).take 9 = ucs m.mask 9 := rfl
  have hc : Tryz.prog.cellsOf 218 = 9 := by kernel_rfl
  have hc2 : Tryz.prog.cellsOf 220 = 18 := by kernel_rfl
  unfold Program.keyLits
  rw [Tryz.underlying220]
  generalize Tryz.prog.types.size = Z at h1 h2 ⊢
  simp [hc, hc2, mtL_len, e1, e2, h1, h2]
theorem KMt.mk {m : Mt} (hm : m.In) : KMt (mtV m) := by
  obtain ⟨ls, h⟩ := lits_mt m hm
  have hk : Tryz.prog.keyType 220 = true := by kernel_rfl
  have hf : (mtV m).formed Tryz.prog 220 = true := by
    have hc2 : Tryz.prog.cellsOf 220 = 18 := by kernel_rfl
    unfold mtV Value.formed
    rw [Tryz.underlying220]
    simp [hc2, mtL_len]
  refine ⟨.string (keyBytes ls), ?_⟩
  unfold keyOf
  rw [Tryz.underlying220]
  have hc : (mtV m).cells.toList = mtL m := rfl
  simp only [hk, hf, Bool.and_true, if_true, hc, h, Option.map_some]
end Go.Proofs.YtmhahajadgkolaaGreatDoor
/- match.And, match.Without; matches as a map's keys. -/
namespace Go.Proofs.YtmhahajadgkolaaGreatDoor
open Go.RowKit

/-- A match's first k fields, joined with another's. -/
def andK (m n : Mt) (k : Nat) : Mt := ⟨fun i => if i < k then orN (m.val i) (n.val i) else m.val i, fun i => if i < k then orN (m.mask i) (n.mask i) else m.mask i⟩
theorem mtL_congr {a b : Mt} (h : a.eqv b) : mtL a = mtL b := by
  unfold mtL
  rw [ucs_congr (f := a.val) (g := b.val) (fun i hi => (h i hi).1), ucs_congr (f := a.mask) (g := b.mask) (fun i hi => (h i hi).2)]
theorem andK_set {m n : Mt} {k : Nat} (hk : k < 9) : ((mtL (andK m n k)).set (0 + k * 1) (.int .u64 (orN (m.val k) (n.val k)))).set (9 + k * 1) (.int .u64 (orN (m.mask k) (n.mask k))) = mtL (andK m n (k + 1)) := by
  rw [mtL_setVal hk, mtL_setMask hk]
  refine mtL_congr fun i hi => ⟨?_, ?_⟩
  · show (if i = k then _ else (if i < k then _ else _)) = (if i < k + 1 then _ else _)
    by_cases e : i = k
    · subst e; rw [if_pos rfl, if_pos (by omega)]
    · rw [if_neg e]
      by_cases e2 : i < k
      · rw [if_pos e2, if_pos (by omega)]
      · rw [if_neg e2, if_neg (by omega)]
  · show (if i = k then _ else (if i < k then _ else _)) = (if i < k + 1 then _ else _)
    by_cases e : i = k
    · subst e; rw [if_pos rfl, if_pos (by omega)]
    · rw [if_neg e]
      by_cases e2 : i < k
      · rw [if_pos e2, if_pos (by omega)]
      · rw [if_neg e2, if_neg (by omega)]
theorem andK_val {m n : Mt} {k : Nat} (hk : k < 9) : (mtL (andK m n k))[0 + k * 1]? = some (.int .u64 (m.val k)) := by
  rw [mtL_val _ hk]
  show some (Value.int .u64 (if k < k then _ else _)) = _
  rw [if_neg (by omega)]
theorem andK_mask {m n : Mt} {k : Nat} (hk : k < 9) : (mtL (andK m n k))[9 + k * 1]? = some (.int .u64 (m.mask k)) := by
  rw [mtL_mask _ hk]
  show some (Value.int .u64 (if k < k then _ else _)) = _
  rw [if_neg (by omega)]
theorem andN_le {x y : Int} (h : x ≤ 18446744073709551615) : 0 ≤ andN x y ∧ andN x y ≤ 18446744073709551615 := by
  unfold andN
  have : x.toNat &&& y.toNat ≤ x.toNat := Nat.and_le_left
  omega
set_option maxHeartbeats 2000000 in
theorem MAnd_c (w : World) (m n : Mt) (hm : m.In) (hn : n.In) :
    Calls Tryz.prog 175 #[mtV m, mtV n] w fun e w' => e = .returned (.tuple #[mtV ((m.and n).getD mt0), .bool (m.and n).isSome]) ∧ Frm (fun _ => False) w w' := by
  refine enter Tryz.func175 rfl Tryz.ntmps175 rfl (St.start (fun _ => False) w) ?_
  refine WC.seq <| WC.region <| WL.box rfl rfl rfl (.none rfl) rfl rfl <| ?_
  intro g2 hg2
  refine WL.box rfl rfl rfl (.none rfl) rfl rfl ?_
  intro g3 hg3
  refine WL.alloc rfl zero_220 (.none rfl) rfl rfl ?_
  intro g4 hg4
  refine WL.v (v_assign rfl rfl) rfl <| WL.nt <| WC.seq <| WC.seq <| WC.region <| WL.v (v_move rfl rfl) rfl <| WL.nt <| WC.block <| ?_
  refine WC.loop (fun k : Nat => [(7, .int .i64 k), (2, .pointer (some ⟨g2, 0, none⟩)), (3, .pointer (some ⟨g3, 0, none⟩)), (4, .pointer (some ⟨g4, 0, none⟩)), (5, .bool false)]) (fun k => [.row g4 (mtL mt0), .row g3 (mtL n), .row g2 (mtL (andK m n k))]) (fun k => k ≤ 9 ∧ ∀ j, j < k → andN (andN (xorN (m.val j) (n.val j)) (m.mask j)) (n.mask j) = 0) (fun k => 9 - k) 0 ⟨Nat.zero_le _, fun j h => absurd h (by omega)⟩ (.cons rfl (.cons rfl (.cons rfl (.cons rfl (.cons rfl .nil))))) (.refl _) ?_
  rintro k ⟨hk, hok⟩
  have a1 := hm.val k
  have a2 := hm.mask k
  have b1 := hn.val k
  have b2 := hn.mask k
  have hx := xorN_le (x := m.val k) (y := n.val k) a1.2 b1.2
  have hy := andN_le (y := m.mask k) hx.2
  refine WC.seq <| WC.region <| ?_
  refine WL.test (v_lss rfl rfl rfl) (.none rfl) rfl rfl (fun h8 => ?_) (fun h8 => ?_)
  ·
   refine WL.nt <| WC.seq <| WC.cond_t rfl <| WC.skip <| WE.then_n <| WC.seq <| WC.block <| WC.seq <| WC.region <| WL.v (v_move rfl rfl) rfl <| WL.v (v_assign rfl rfl) rfl <| WL.nt <| WC.seq <| WC.seq <| ?_
   refine WC.quiet mixed (by kernel_rfl) ?_
   refine WQ.val (v_move rfl rfl) (.none rfl) rfl rfl <| WQ.val (v_fieldAddr0 rfl rfl fld_220_0) (.none rfl) rfl rfl <| ?_
   refine WQ.val (v_indexAddrA (lo := k) rfl rfl rfl Tryz.underlying218 sz_23 (by omega) (by omega)) (.none rfl) rfl rfl ?_
   refine WQ.val (v_load1 rfl rfl one_23 (cellAt (andK_val (by omega)))) (.none rfl) rfl rfl ?_
   refine WQ.val (v_move rfl rfl) (.none rfl) rfl rfl <| WQ.val (v_fieldAddr0 rfl rfl fld_220_0) (.none rfl) rfl rfl <| ?_
   refine WQ.val (v_indexAddrA (lo := k) rfl rfl rfl Tryz.underlying218 sz_23 (by omega) (by omega)) (.none rfl) rfl rfl ?_
   refine WQ.val (v_load1 rfl rfl one_23 (cellAt (mtL_val n (by omega)))) (.none rfl) rfl rfl ?_
   refine WQ.val (v_xor rfl rfl rfl (bits_xor_u64 a1.1 a1.2 b1.1 b1.2)) (.none rfl) rfl rfl <| WQ.val (v_move rfl rfl) (.none rfl) rfl rfl <| WQ.val (v_fieldAddr0 rfl rfl fld_220_1) (.none rfl) rfl rfl <| ?_
   refine WQ.val (v_indexAddrA (lo := k) rfl rfl rfl Tryz.underlying218 sz_23 (by omega) (by omega)) (.none rfl) rfl rfl ?_
   refine WQ.val (v_load1 rfl rfl one_23 (cellAt (andK_mask (by omega)))) (.none rfl) rfl rfl ?_
   refine WQ.val (v_and rfl rfl rfl (bits_and_u64 hx.1 hx.2 a2.1 a2.2)) (.none rfl) rfl rfl <| WQ.val (v_move rfl rfl) (.none rfl) rfl rfl <| WQ.val (v_fieldAddr0 rfl rfl fld_220_1) (.none rfl) rfl rfl <| ?_
   refine WQ.val (v_indexAddrA (lo := k) rfl rfl rfl Tryz.underlying218 sz_23 (by omega) (by omega)) (.none rfl) rfl rfl ?_
   refine WQ.val (v_load1 rfl rfl one_23 (cellAt (mtL_mask n (by omega)))) (.none rfl) rfl rfl ?_
   refine WQ.val (v_and rfl rfl rfl (bits_and_u64 hy.1 hy.2 b2.1 b2.2)) (.none rfl) rfl rfl ?_
   refine WQ.test (v_neq rfl rfl rfl) (.none rfl) rfl rfl (fun h29 => ?_) (fun h29 => ?_)
   ·
    refine WQ.nil <| WE.then_n <| WC.cond_t rfl <| WC.seq <| WC.region <| WL.v (v_build rfl rfl zero_220 plc_220 rfl) rfl <| WL.storeW rfl rfl rfl rfl many_220 rfl rfl (.none rfl) rfl <| WL.v (v_assign rfl rfl) rfl <| WL.nt <| WC.ret <| WE.then_ret <| WE.block_ret <| WE.then_ret <| WE.then_ret <| ?_
    refine WE.block_ret <| WE.then_ret <| WE.ret2 (P := Tryz.prog) (.inl rfl) Tryz.results175 (resRow rfl many_220 rfl) rfl <| ?_
    have hno : m.and n = none := (by unfold Mt.and; exact if_neg fun q => h29 (q k (by omega)))
    exact fun w' h => ⟨by rw [hno]; rfl, h.frm⟩
   ·
    refine WQ.nil <| WE.then_n <| WC.cond_f rfl <| WC.skip <| WE.then_n <| WC.seq <| WC.orders mixed <| ?_
    refine WR.first (g := 5) [0, 1, 2, 4, 5, 6, 9] (by kernel_rfl) (by kernel_rfl) ?_
    refine WP.val (v_move rfl rfl) (.none rfl) rfl rfl <| WP.val (v_fieldAddr0 rfl rfl fld_220_0) (.none rfl) rfl rfl <| ?_
    refine WP.val (v_indexAddrA (lo := k) rfl rfl rfl Tryz.underlying218 sz_23 (by omega) (by omega)) (.none rfl) rfl rfl ?_
    refine WP.val (v_move rfl rfl) (.none rfl) rfl rfl <| WP.val (v_fieldAddr0 rfl rfl fld_220_0) (.none rfl) rfl rfl <| ?_
    refine WP.val (v_indexAddrA (lo := k) rfl rfl rfl Tryz.underlying218 sz_23 (by omega) (by omega)) (.none rfl) rfl rfl ?_
    refine WP.val (v_fieldAddr0 rfl rfl fld_220_0) (.none rfl) rfl rfl <| WP.nil <| ?_
    refine WR.read (g := 1) [3, 7, 8, 10] (by kernel_rfl) (by kernel_rfl) (by kernel_rfl) (by kernel_rfl) rfl ?_
    refine WQ.val (v_load1 rfl rfl one_23 (cellAt (andK_val (by omega)))) (.none rfl) rfl rfl ?_
    refine WQ.val (v_load1 rfl rfl one_23 (cellAt (mtL_val n (by omega)))) (.none rfl) rfl rfl ?_
    refine WQ.val (v_or rfl rfl rfl (bits_or_u64 a1.1 a1.2 b1.1 b1.2)) (.none rfl) rfl rfl ?_
    refine WQ.val (v_indexAddrA (lo := k) rfl rfl rfl Tryz.underlying218 sz_23 (by omega) (by omega)) (.none rfl) rfl rfl ?_
    refine WQ.nilR ?_
    refine WR.ones (g := 0) [11] (by kernel_rfl) ?_
    refine WL.store1 rfl rfl rfl rfl one_23 (by rw [mtL_len]; omega) (.none rfl) rfl ?_
    refine WL.nilR ?_
    refine WR.done (by kernel_rfl) ?_
    refine WE.then_n <| WC.orders mixed <| ?_
    refine WR.first (g := 5) [0, 1, 2, 4, 5, 6, 9] (by kernel_rfl) (by kernel_rfl) ?_
    refine WP.val (v_move rfl rfl) (.none rfl) rfl rfl <| WP.val (v_fieldAddr0 rfl rfl fld_220_1) (.none rfl) rfl rfl <| ?_
    refine WP.val (v_indexAddrA (lo := k) rfl rfl rfl Tryz.underlying218 sz_23 (by omega) (by omega)) (.none rfl) rfl rfl ?_
    refine WP.val (v_move rfl rfl) (.none rfl) rfl rfl <| WP.val (v_fieldAddr0 rfl rfl fld_220_1) (.none rfl) rfl rfl <| ?_
    refine WP.val (v_indexAddrA (lo := k) rfl rfl rfl Tryz.underlying218 sz_23 (by omega) (by omega)) (.none rfl) rfl rfl ?_
    refine WP.val (v_fieldAddr0 rfl rfl fld_220_1) (.none rfl) rfl rfl <| WP.nil <| ?_
    refine WR.read (g := 1) [3, 7, 8, 10] (by kernel_rfl) (by kernel_rfl) (by kernel_rfl) (by kernel_rfl) rfl ?_
    refine WQ.val (v_load1 rfl rfl one_23 (cellAt (by rw [List.getElem?_set_ne (by omega)]; exact andK_mask (by omega)))) (.none rfl) rfl rfl ?_
    refine WQ.val (v_load1 rfl rfl one_23 (cellAt (mtL_mask n (by omega)))) (.none rfl) rfl rfl ?_
    refine WQ.val (v_or rfl rfl rfl (bits_or_u64 a2.1 a2.2 b2.1 b2.2)) (.none rfl) rfl rfl ?_
    refine WQ.val (v_indexAddrA (lo := k) rfl rfl rfl Tryz.underlying218 sz_23 (by omega) (by omega)) (.none rfl) rfl rfl ?_
    refine WQ.nilR ?_
    refine WR.ones (g := 0) [11] (by kernel_rfl) ?_
    refine WL.store1 rfl rfl rfl rfl one_23 (by rw [List.length_set, mtL_len]; omega) (.none rfl) rfl ?_
    refine WL.nilR ?_
    refine WR.done (by kernel_rfl) ?_
    refine WE.block_n <| WE.then_n <| WC.region <| ?_
    refine WL.v (v_add rfl rfl rfl (w_i64 (by omega) (by omega))) rfl ?_
    refine WL.v (v_move rfl rfl) rfl <| WL.nil <| ?_
    refine WE.as (L' := [.row g4 (mtL mt0), .row g3 (mtL n), .row g2 (mtL (andK m n (k + 1)))]) (by rw [← andK_set (by omega)]) (WE.next (k + 1) (by omega) ⟨by omega, fun j hj => by
    by_cases e : j = k
    · subst e; exact Classical.not_not.1 h29
    · exact hok j (by omega)⟩ (.int rfl (by omega) (.cons rfl (.cons rfl (.cons rfl (.cons rfl .nil))))) (.refl _))
  ·
   refine WL.nt <| WC.seq <| WC.cond_f rfl <| WC.exit <| WE.then_exit <| WE.then_exit <| WE.block_hit <| WE.then_n <| WC.seq <| WC.region <| ?_
   obtain rfl : k = 9 := (by omega)
   have hyes : m.and n = some (m.both n) := (by unfold Mt.and; exact if_pos hok)
   have he : mtL (andK m n 9) = mtL (m.both n) := mtL_congr fun i hi => ⟨if_pos hi, if_pos hi⟩
   rw [he]
   refine WL.v (v_loadN rfl rfl many_220 rfl allAt) rfl <| WL.storeW rfl rfl rfl rfl many_220 rfl rfl (.none rfl) rfl <| WL.v (v_assign rfl rfl) rfl <| WL.nt <| WC.ret <| WE.ret2 (P := Tryz.prog) (.inl rfl) Tryz.results175 (resRow rfl many_220 rfl) rfl <| ?_
   exact fun w' h => ⟨by rw [hyes]; rfl, h.frm⟩
theorem MWithout_c (w : World) (m : Mt) (k : Nat) (hk : k < 9) :
    Calls Tryz.prog 319 #[mtV m, .int .i64 k] w fun e w' => e = .returned (mtV (m.without k)) ∧ Frm (fun _ => False) w w' := by
  refine enter Tryz.func319 rfl Tryz.ntmps319 rfl (St.start (fun _ => False) w) ?_
  refine WC.seq <| WC.region <| WL.box rfl rfl rfl (.none rfl) rfl rfl <| ?_
  intro g2 hg2
  refine WL.alloc rfl zero_220 (.none rfl) rfl rfl ?_
  intro g4 hg4
  refine WL.nt <| WC.seq <| WC.seq <| WC.region <| WL.v (v_move rfl rfl) rfl <| WL.call rfl rfl ck_251 (.none rfl) rfl rfl <| ?_
  intro w hS
  refine Calls.then (MField_c w k hk) hS ?_
  refine WL.nt <| WC.cond_t rfl <| WC.seq <| WC.region <| WL.v (v_move rfl rfl) rfl <| WL.v (v_fieldAddr0 rfl rfl fld_220_0) rfl <| ?_
  refine WL.v (v_indexAddrA (lo := k) rfl rfl rfl Tryz.underlying218 sz_23 (by omega) (by omega)) rfl ?_
  refine WL.store1 rfl rfl rfl rfl one_23 (by rw [mtL_len]; omega) (.none rfl) rfl ?_
  refine WL.as (L' := [.row g4 (mtL mt0), .row g2 (mtL ⟨fun i => if i = k then 0 else m.val i, m.mask⟩)]) (by rw [mtL_setVal hk]; rfl) ?_
  refine WL.nt <| WC.region <| WL.v (v_move rfl rfl) rfl <| WL.v (v_fieldAddr0 rfl rfl fld_220_1) rfl <| ?_
  refine WL.v (v_indexAddrA (lo := k) rfl rfl rfl Tryz.underlying218 sz_23 (by omega) (by omega)) rfl ?_
  refine WL.store1 rfl rfl rfl rfl one_23 (by rw [mtL_len]; omega) (.none rfl) rfl ?_
  refine WL.as (L' := [.row g4 (mtL mt0), .row g2 (mtL (m.without k))]) (by rw [mtL_setMask hk]; rfl) ?_
  refine WL.nt <| WC.seq <| WC.region <| WL.v (v_loadN rfl rfl many_220 rfl allAt) rfl <| WL.storeW rfl rfl rfl rfl many_220 rfl rfl (.none rfl) rfl <| WL.nt <| WC.ret <| WE.ret1 (P := Tryz.prog) (.inl rfl) Tryz.results319 (resRow rfl many_220 rfl) <| ?_
  exact fun w' h => ⟨rfl, h.frm⟩
/-! ### Matches as keys -/
theorem mtL_iff {a b : Mt} : mtL a = mtL b ↔ a.eqv b := by
  refine ⟨fun h k hk => ⟨?_, ?_⟩, mtL_congr⟩
  · have := congrArg (fun l => l[0 + k * 1]?) h
    have this : (mtL a)[0 + k * 1]? = (mtL b)[0 + k * 1]? := this
    rw [mtL_val a hk, mtL_val b hk] at this
    injection this with this
    injection this
  · have := congrArg (fun l => l[9 + k * 1]?) h
    have this : (mtL a)[9 + k * 1]? = (mtL b)[9 + k * 1]? := this
    rw [mtL_mask a hk, mtL_mask b hk] at this
    injection this with this
    injection this
theorem mtV_iff {a b : Mt} : mtV a = mtV b ↔ a.eqv b := by
  rw [← mtL_iff]
  unfold mtV
  constructor
  · intro h
    injection h with h
    exact List.toArray_inj h
  · intro h; rw [h]
end Go.Proofs.YtmhahajadgkolaaGreatDoor
/- pile: as it lies; New, List; Covers. -/
namespace Go.Proofs.YtmhahajadgkolaaGreatDoor
open Go.RowKit

structure PlL where
  mr : Int
  ma : Int
  ad : Option Addr
  c : Nat
  ls : List RuL
  mad : Option Addr
  mc : Nat
  ms : List (Nat → Int)
  hv : Option Nat
  es : Array MapEntry
  cl : Nat
abbrev masksL (ms : List (Nat → Int)) : List Value := encL (fun f => ucs f 9) ms
theorem masksL_len (ms : List (Nat → Int)) : (masksL ms).length = ms.length * 9 := encL_len (fun f => ucs_len f 9) ms
def PlL.ds (p : PlL) : List RuD := p.ls.map RuL.d
def PlL.d (p : PlL) : PlD := ⟨p.mr, p.ma, p.ds⟩
def PlL.cells (p : PlL) : List Value := [.int .i64 p.mr, .int .i64 p.ma, .slice p.ad p.ls.length p.c, .slice p.mad p.ms.length p.mc, .map p.hv, .int .i64 ((sumA p.ds : Nat) : Int)]
open Classical in
/-- The matches that are there, as a map's entries. -/
noncomputable def haveM (ds : List RuD) : Value → Option Value := fun v => if ∃ r ∈ ds, v = mtV r.m then some (.agg #[]) else none
theorem haveM_add (ds : List RuD) (m : Mt) (us : List Ac) : updM (haveM ds) (mtV m) (some (.agg #[])) = haveM (ds ++ [⟨m, us⟩]) := by
  funext v
  by_cases h : v = mtV m
  · subst h
    rw [updM_eq]
    exact (if_pos ⟨_, List.mem_append_right _ (List.mem_singleton.2 rfl), rfl⟩).symm
  · rw [updM_ne _ _ h]
    unfold haveM
    by_cases h2 : ∃ r ∈ ds, v = mtV r.m
    · obtain ⟨r, hr, e⟩ := h2
      rw [if_pos ⟨r, hr, e⟩, if_pos ⟨r, List.mem_append_left _ hr, e⟩]
    · rw [if_neg h2, if_neg]
      rintro ⟨r, hr, e⟩
      rcases List.mem_append.1 hr with hr | hr
      · exact h2 ⟨r, hr, e⟩
      · rw [List.mem_singleton.1 hr] at e; exact h e
theorem haveM_nil : haveM [] = fun _ => none := by
  funext v
  exact if_neg (by simp)
theorem haveM_is {ds : List RuD} {m : Mt} : (haveM ds (mtV m)).isSome = true ↔ ∃ r ∈ ds, m.eqv r.m := by
  unfold haveM
  by_cases h : ∃ r ∈ ds, mtV m = mtV r.m
  · rw [if_pos h]
    obtain ⟨r, hr, e⟩ := h
    exact ⟨fun _ => ⟨r, hr, mtV_iff.1 e⟩, fun _ => rfl⟩
  · rw [if_neg h]
    exact ⟨fun k => (by cases k), fun ⟨r, hr, e⟩ => absurd ⟨r, hr, mtV_iff.2 e⟩ h⟩
theorem haveM_get (ds : List RuD) (v : Value) : (haveM ds v).getD (.agg #[]) = .agg #[] := by
  unfold haveM
  split <;> rfl
section
variable {P : Program} {C : World → Prop} {n : Nat} {o : Oper} {l : Kn}
/-- Is a match there? -/
theorem v_have {t kt et : TypeId} {x xi : Operand} {r : Option Nat} {A : Value} {K : Value → Prop} {es : Array MapEntry} {ds : List RuD} (ho : o.op = .lookup t x xi true) (hx : ev l x = some (.map r)) (hi : ev l xi = some A) (hu : P.underlying t = some (.map kt et)) (hk : KeyP P kt K) (hA : K A) (hz : (P.info? et).bind (·.zero) = some (.agg #[]))
    (hV : ∀ w, C w → MapW w r es) (hM : IMap K es (haveM ds)) : Val P C n l o (.tuple #[.agg #[], .bool (haveM ds A).isSome]) := by
  have := v_lookup2 (C := C) (n := n) ho hx hi hu hk hA hz hV hM
  rwa [haveM_get] at this
end
structure PlL.Ok (p : PlL) : Prop where
  fit : ∀ r ∈ p.ds, r.Fit
  mask : ∀ r ∈ p.ds, ∃ f ∈ p.ms, ∀ k, k < 9 → f k = r.m.mask k
  num : ∀ f ∈ p.ms, ∀ k, 0 ≤ f k ∧ f k ≤ 18446744073709551615
  keys : IMap KMt p.es (haveM p.ds)
/-- A pile that can be read. -/
structure PlR (w : World) (g : Nat) (p : PlL) : Prop where
  row : w.rangeAt g 0 p.cells
  masks : Rg w p.mad (masksL p.ms)
  map : MapW w p.hv p.es
theorem PNew_c (w : World) (mr ma : Int) : Calls Tryz.prog 174 #[.agg #[.int .i64 mr, .int .i64 ma]] w fun e w' => ∃ g, e = .returned (.pointer (some ⟨g, 0, none⟩)) ∧ St (fun _ => False) w w' [.row g (PlL.cells ⟨mr, ma, none, 0, [], none, 0, [], none, #[], 0⟩)] := by
  refine enter Tryz.func174 rfl Tryz.ntmps174 rfl (St.start (fun _ => False) w) ?_
  refine WC.seq <| WC.region <| WL.box rfl rfl rfl (.none rfl) rfl rfl <| ?_
  intro g1 hg1
  refine WL.v (v_assign rfl rfl) rfl <| WL.nt <| WC.seq <| WC.region <| WL.v (v_loadN rfl rfl many_305 rfl allAt) rfl <| WL.v (v_build rfl rfl zero_385 plc_385 rfl) rfl <| WL.box rfl rfl rfl (.none rfl) rfl rfl <| ?_
  intro g5 hg5
  refine WL.v (v_assign rfl rfl) rfl <| WL.nt <| WC.ret <| WE.ret1 (P := Tryz.prog) (.inl rfl) Tryz.results174 rfl <| ?_
  exact fun w' h => ⟨g5, rfl, h.sub (.cons_cons _ (.cons _ (.refl _)))⟩
theorem Vec.srcM {s k c : Nat} {ad : Option Addr} {xs : List Value} {E L : List Ent} (hV : Vec s ad k c xs E) (hm : ∀ e ∈ E, e ∈ L) (hn : 0 < xs.length) : ∃ b o, ad = some ⟨b, o, none⟩ ∧ ∀ (p : Nat → Prop) (w0 w : World), St p w0 w L → w.rangeAt b o xs := by
  rcases hV with ⟨_, _, _, rfl, _⟩ | ⟨g, cs, rfl, rfl, hx, hcl, hk⟩
  · simp at hn
  · refine ⟨g, 0, rfl, fun p w0 w hS j v hj => ?_⟩
    have hR : Row w g cs := hS.holds (.row g cs) (hm _ (List.mem_cons_self ..))
    rw [← hx, List.getElem?_take] at hj
    split at hj
    · rw [Nat.zero_add]; exact hR.cell hj
    · cases hj
/-- A key as it grows. -/
def keyK (m : Mt) (f : Nat → Int) (k : Nat) : Mt := ⟨fun i => if i < k then andN (m.val i) (f i) else 0, f⟩
theorem keyK_set {m : Mt} {f : Nat → Int} {k : Nat} (hk : k < 9) : (mtL (keyK m f k)).set (0 + k * 1) (.int .u64 (andN (m.val k) (f k))) = mtL (keyK m f (k + 1)) := by
  rw [mtL_setVal hk]
  refine mtL_congr fun i hi => ⟨?_, rfl⟩
  show (if i = k then _ else (if i < k then _ else _)) = (if i < k + 1 then _ else _)
  by_cases e : i = k
  · subst e; rw [if_pos rfl, if_pos (by omega)]
  · rw [if_neg e]
    by_cases e2 : i < k
    · rw [if_pos e2, if_pos (by omega)]
    · rw [if_neg e2, if_neg (by omega)]
theorem keyK_in {m : Mt} {f : Nat → Int} (hm : m.In) (hf : ∀ k, 0 ≤ f k ∧ f k ≤ 18446744073709551615) (k : Nat) : (keyK m f k).In :=
  ⟨fun i => by
    show 0 ≤ (if i < k then _ else _) ∧ (if i < k then _ else _) ≤ _
    split
    · exact andN_le (hm.val i).2
    · exact ⟨Int.le_refl _, by decide⟩, hf⟩
theorem over_key {r m : Mt} {f : Nat → Int} (hf : ∀ k, k < 9 → f k = r.mask k) (hn : ∀ k, k < 9 → andNotN (f k) (m.mask k) = 0) : r.over m ↔ (keyK m f 9).eqv r := by
  constructor
  · intro h k hk
    refine ⟨?_, hf k hk⟩
    show (if k < 9 then andN (m.val k) (f k) else 0) = _
    rw [if_pos hk, hf k hk]
    exact (h k hk).2.symm
  · intro h k hk
    refine ⟨by rw [← hf k hk]; exact hn k hk, ?_⟩
    have h1 : (if k < 9 then andN (m.val k) (f k) else 0) = r.val k := (h k hk).1
    rw [if_pos hk, hf k hk] at h1
    exact h1.symm
theorem eqv_symm {a b : Mt} (h : a.eqv b) : b.eqv a := fun k hk => ⟨(h k hk).1.symm, (h k hk).2.symm⟩
set_option maxRecDepth 8000 in
set_option maxHeartbeats 2000000 in
theorem Covers_c (w : World) (g : Nat) (p : PlL) (m : Mt) (hR : PlR w g p) (hO : p.Ok) (hm : m.In) (hn : p.ms.length ≤ 1000000000) :
    Calls Tryz.prog 176 #[.pointer (some ⟨g, 0, none⟩), mtV m] w fun e w' => e = .returned (.bool (decide (covD p.ds m))) ∧ Frm (fun _ => False) w w' := by
  have hK := KMt.mk hm
  refine enter Tryz.func176 rfl Tryz.ntmps176 rfl (St.start (fun _ => False) w) ?_
  refine WC.seq <| WC.region <| WL.box rfl rfl rfl (.none rfl) rfl rfl <| ?_
  intro g3 hg3
  refine WL.v (v_assign rfl rfl) rfl <| WL.nt <| WC.scope <| WC.seq <| WC.seq <| WC.orders mixed <| ?_
  refine WR.first (g := 9) [0, 1, 2] (by kernel_rfl) (by kernel_rfl) ?_
  refine WP.val (v_move rfl rfl) (.none rfl) rfl rfl <| WP.val (v_nilCheck rfl rfl) (.none rfl) rfl rfl <| WP.val (v_fieldAddr0 rfl rfl fld_385_3) (.none rfl) rfl rfl <| WP.nil <| ?_
  refine WR.mix (g := 2) 9 [3, 4, 5, 6, 7] [8] rfl zero_248 rfl rfl rfl (by kernel_rfl) (by kernel_rfl) ?_
  refine WM.val (v_load1 rfl rfl one_383 (cellOld (fun h => h) (hR.row 4 _ rfl))) (.none rfl) rfl rfl <| WM.val (v_loadN rfl rfl many_220 rfl allAt) (.none rfl) rfl rfl <| WM.val (v_have rfl rfl rfl Tryz.underlying383 keyW_220 hK rfl (mapOld (fun _ h => h) hR.map) hO.keys) (.none rfl) rfl rfl <| WM.val (v_move rfl rfl) (.none rfl) rfl rfl <| WM.val (v_extract rfl rfl rfl) (.none rfl) rfl rfl <| WM.nil <| WP.val (v_extract rfl rfl rfl) (.none rfl) rfl rfl <| WP.nilM <| ?_
  intro g5 hg5
  refine WR.ones (g := 1) [10] (by kernel_rfl) ?_
  refine WL.storeW rfl rfl rfl rfl many_248 rfl rfl (.none rfl) rfl <| WL.nilR <| ?_
  refine WR.first (g := 0) [11] (by kernel_rfl) (by kernel_rfl) ?_
  refine WP.val (v_assign rfl rfl) (.none rfl) rfl rfl <| WP.nil <| ?_
  refine WR.done (by kernel_rfl) ?_
  refine WE.then_n <| WC.seq <| WC.region <| WL.v (v_move rfl rfl) rfl <| WL.nt <| ?_
  refine WC.cond_b rfl (fun h23 => ?_) (fun h23 => ?_)
  ·
   refine WC.seq <| WC.region <| WL.v (v_assign rfl rfl) rfl <| WL.nt <| WC.ret <| WE.then_ret <| WE.scope_ret <| WE.ret1 (P := Tryz.prog) (.inl rfl) Tryz.results176 rfl <| ?_
   obtain ⟨r, hr, he⟩ := haveM_is.1 h23
   exact fun w' h => ⟨by rw [decide_eq_true (p := covD p.ds m) ⟨r, hr, .inl (eqv_symm he)⟩], h.frm⟩
  ·
   refine WC.skip <| WE.then_n <| WC.seq <| WC.label <| WE.then_n <| WC.seq <| WC.seq <| WC.region <| ?_
   have hne : ∀ r ∈ p.ds, ¬ r.m.eqv m := fun r hr he => (by
   have := haveM_is.2 ⟨r, hr, eqv_symm he⟩
   cases (h23.symm.trans this))
   refine WL.v (v_move rfl rfl) rfl <| WL.v (v_nilCheck rfl rfl) rfl <| WL.v (v_fieldAddr0 rfl rfl fld_385_2) rfl <| WL.v (v_load1 rfl rfl one_382 (cellOld (fun h => h) (hR.row 3 _ rfl))) rfl <| WL.v (v_len_slice rfl rfl Tryz.underlying382) rfl <| WL.v (v_move rfl rfl) rfl <| WL.nt <| WC.block <| ?_
   refine WC.loop (fun i : Nat => [(29, .int .i64 i), (28, .int .i64 p.ms.length), (27, .slice p.mad p.ms.length p.mc), (3, .pointer (some ⟨g3, 0, none⟩)), (0, .pointer (some ⟨g, 0, none⟩)), (4, .bool false)]) (fun _ => [.row g3 (mtL m)]) (fun i => i ≤ p.ms.length ∧ ∀ j f, j < i → p.ms[j]? = some f → ∀ r ∈ p.ds, (∀ k, k < 9 → f k = r.m.mask k) → ¬ r.m.over m) (fun i => p.ms.length - i) 0 ⟨Nat.zero_le _, fun j f h => absurd h (Nat.not_lt_zero _)⟩ (.cons rfl (.cons rfl (.cons rfl (.cons rfl (.cons rfl (.cons rfl .nil)))))) (by first | exact .refl _ | exact List.Sublist.cons _ (.refl _)) ?_
   rintro i ⟨hi, hno⟩
   refine WC.seq <| WC.region <| ?_
   refine WL.test (v_lss rfl rfl rfl) (.none rfl) rfl rfl (fun h30 => ?_) (fun h30 => ?_)
   ·
    refine WL.nt <| WC.seq <| WC.cond_t rfl <| WC.skip <| WE.then_n <| WC.seq <| WC.block <| WC.seq <| WC.region <| ?_
    obtain ⟨f, hfi⟩ : ∃ x, p.ms[i]? = some x := ⟨p.ms[i]'(by omega), List.getElem?_eq_getElem _⟩
    have hfn := hO.num f (List.mem_of_getElem? hfi)
    obtain ⟨b1, o1, ea1, r1⟩ := hR.masks (by intro hh; have := masksL_len p.ms; rw [hh] at this; simp at this; omega)
    refine WL.v ((v_indexAddr (b := b1) (off := o1) (lo := i) rfl (by show some (Value.slice p.mad _ _) = _; rw [ea1]) rfl Tryz.underlying382 sz_218 rfl (by omega))) rfl ?_
    refine WL.v (v_loadN (cs := ucs f 9) rfl rfl many_218 (ucs_len f 9) (rgIn (fun h => h) (Rg.seg (fun f => ucs_len f 9) r1 hfi))) rfl <| WL.alloc rfl zero_218 (.none rfl) rfl rfl <| ?_
    intro g8 hg8
    refine WL.storeW rfl rfl rfl rfl many_218 rfl rfl (.none rfl) rfl <| WL.nt <| WC.seq <| WC.region <| WL.v (v_loadN rfl rfl many_218 rfl allAt) rfl <| WL.v (v_build rfl rfl zero_220 plc_220 rfl) rfl <| WL.alloc rfl zero_220 (.none rfl) rfl rfl <| ?_
    intro g9 hg9
    refine WL.storeW rfl rfl rfl rfl many_220 rfl rfl (.none rfl) rfl ?_
    refine WL.as (L' := [.row g9 (mtL (keyK m f 0)), .row g8 (ucs f 9), .row g3 (mtL m)]) (by first | rfl | kernel_rfl) ?_
    refine WL.nt <| WC.seq <| WC.seq <| WC.region <| WL.v (v_loadN rfl rfl many_218 rfl allAt) rfl <| WL.v (v_move rfl rfl) rfl <| WL.nt <| WC.block <| WC.loop (fun k : Nat => [(36, .int .i64 k), (35, .agg (ucs f 9).toArray), (9, .pointer (some ⟨g9, 0, none⟩)), (29, .int .i64 i), (28, .int .i64 p.ms.length), (27, .slice p.mad p.ms.length p.mc), (3, .pointer (some ⟨g3, 0, none⟩)), (0, .pointer (some ⟨g, 0, none⟩)), (4, .bool false)]) (fun k => [.row g9 (mtL (keyK m f k)), .row g8 (ucs f 9), .row g3 (mtL m)]) (fun k => k ≤ 9 ∧ ∀ j, j < k → andNotN (f j) (m.mask j) = 0) (fun k => 9 - k) 0 ⟨Nat.zero_le _, fun j h => absurd h (Nat.not_lt_zero _)⟩ (.cons rfl (.cons rfl (.cons rfl (.cons rfl (.cons rfl (.cons rfl (.cons rfl (.cons rfl (.cons rfl .nil))))))))) (.refl _) <| ?_
    rintro k ⟨hk, hz⟩
    refine WC.seq <| WC.region <| ?_
    refine WL.test (v_lss rfl rfl rfl) (.none rfl) rfl rfl (fun h37 => ?_) (fun h37 => ?_)
    ·
     refine WL.nt <| WC.seq <| WC.cond_t rfl <| WC.skip <| WE.then_n <| WC.seq <| WC.block <| WC.seq <| WC.region <| WL.v (v_move rfl rfl) rfl <| ?_
     refine WL.v (v_indexV (lo := k) rfl rfl rfl Tryz.underlying218 one_23 (by omega) (by omega) (ucs_get f (by omega))) rfl ?_
     refine WL.v (v_assign rfl rfl) rfl <| WL.v (v_assign rfl rfl) rfl <| WL.nt <| WC.seq <| WC.seq <| WC.region <| WL.v (v_move rfl rfl) rfl <| WL.v (v_move rfl rfl) rfl <| WL.v (v_fieldAddr0 rfl rfl fld_220_1) rfl <| ?_
     refine WL.v (v_indexAddrA (lo := k) rfl rfl rfl Tryz.underlying218 sz_23 (by omega) (by omega)) rfl ?_
     refine WL.v (v_load1 rfl rfl one_23 (cellAt (mtL_mask m (by omega)))) rfl ?_
     refine WL.v (v_andNot rfl rfl rfl (bits_andNot_u64 (hfn k).1 (hfn k).2 (hm.mask k).1 (hm.mask k).2)) rfl ?_
     refine WL.test (v_neq rfl rfl rfl) (.none rfl) rfl rfl (fun h46 => ?_) (fun h46 => ?_)
     ·
      refine WL.nt <| WC.cond_t rfl <| WC.exit <| WE.then_exit <| WE.block_miss rfl <| WE.then_exit <| WE.then_exit <| WE.block_miss rfl <| WE.then_exit <| WE.block_hit <| WE.then_n <| WC.region <| ?_
      refine WL.v (v_add rfl rfl rfl (w_i64 (by omega) (by omega))) rfl ?_
      refine WL.v (v_move rfl rfl) rfl <| WL.nil <| ?_
      exact WE.next (i + 1) (by omega) ⟨by omega, fun j f2 hj hf2 r hr hq hov => by
      by_cases e : j = i
      · subst e
        rw [hfi] at hf2
        cases hf2
        have := (hov k (by omega)).1
        rw [← hq k (by omega)] at this
        exact h46 this
      · exact hno j f2 (by omega) hf2 r hr hq hov⟩ (.int rfl (by omega) (.cons rfl (.cons rfl (.cons rfl (.cons rfl (.cons rfl .nil)))))) (.cons _ (.cons _ (.refl _)))
     ·
      refine WL.nt <| WC.cond_f rfl <| WC.skip <| WE.then_n <| WC.region <| WL.v (v_move rfl rfl) rfl <| WL.v (v_move rfl rfl) rfl <| WL.v (v_fieldAddr0 rfl rfl fld_220_0) rfl <| ?_
      refine WL.v (v_indexAddrA (lo := k) rfl rfl rfl Tryz.underlying218 sz_23 (by omega) (by omega)) rfl ?_
      refine WL.v (v_load1 rfl rfl one_23 (cellAt (mtL_val m (by omega)))) rfl ?_
      refine WL.v (v_move rfl rfl) rfl <| WL.v (v_and rfl rfl rfl (bits_and_u64 (hm.val k).1 (hm.val k).2 (hfn k).1 (hfn k).2)) rfl <| WL.v (v_fieldAddr0 rfl rfl fld_220_0) rfl <| ?_
      refine WL.v (v_indexAddrA (lo := k) rfl rfl rfl Tryz.underlying218 sz_23 (by omega) (by omega)) rfl ?_
      refine WL.store1 rfl rfl rfl rfl one_23 (by rw [mtL_len]; omega) (.none rfl) rfl ?_
      refine WL.nil <| WE.block_n <| WE.then_n <| WC.region <| ?_
      refine WL.v (v_add rfl rfl rfl (w_i64 (by omega) (by omega))) rfl ?_
      refine WL.v (v_move rfl rfl) rfl <| WL.nil <| ?_
      refine WE.as (L' := [.row g9 (mtL (keyK m f (k + 1))), .row g8 (ucs f 9), .row g3 (mtL m)]) (by rw [← keyK_set (by omega)]) (WE.next (k + 1) (by omega) ⟨by omega, fun j hj => by
      by_cases e : j = k
      · subst e; exact Classical.not_not.1 h46
      · exact hz j (by omega)⟩ (.int rfl (by omega) (.cons rfl (.cons rfl (.cons rfl (.cons rfl (.cons rfl (.cons rfl (.cons rfl (.cons rfl .nil))))))))) (.refl _))
    ·
     refine WL.nt <| WC.seq <| WC.cond_f rfl <| WC.exit <| WE.then_exit <| WE.then_exit <| WE.block_hit <| WE.then_n <| WC.seq <| WC.orders mixed <| ?_
     refine WR.first (g := 9) [0, 1, 2] (by kernel_rfl) (by kernel_rfl) ?_
     obtain rfl : k = 9 := (by omega)
     have hK2 := KMt.mk (keyK_in hm hfn 9)
     refine WP.val (v_move rfl rfl) (.none rfl) rfl rfl <| WP.val (v_nilCheck rfl rfl) (.none rfl) rfl rfl <| WP.val (v_fieldAddr0 rfl rfl fld_385_3) (.none rfl) rfl rfl <| WP.nil <| ?_
     refine WR.mix (g := 2) 9 [3, 4, 5, 6, 7] [8] rfl zero_248 rfl rfl rfl (by kernel_rfl) (by kernel_rfl) ?_
     refine WM.val (v_load1 rfl rfl one_383 (cellOld (fun h => h) (hR.row 4 _ rfl))) (.none rfl) rfl rfl <| WM.val (v_loadN rfl rfl many_220 rfl allAt) (.none rfl) rfl rfl <| WM.val (v_have rfl rfl rfl Tryz.underlying383 keyW_220 hK2 rfl (mapOld (fun _ h => h) hR.map) hO.keys) (.none rfl) rfl rfl <| WM.val (v_move rfl rfl) (.none rfl) rfl rfl <| WM.val (v_extract rfl rfl rfl) (.none rfl) rfl rfl <| WM.nil <| WP.val (v_extract rfl rfl rfl) (.none rfl) rfl rfl <| WP.nilM <| ?_
     intro g12 hg12
     refine WR.ones (g := 1) [10] (by kernel_rfl) ?_
     refine WL.storeW rfl rfl rfl rfl many_248 rfl rfl (.none rfl) rfl <| WL.nilR <| ?_
     refine WR.first (g := 0) [11] (by kernel_rfl) (by kernel_rfl) ?_
     refine WP.val (v_assign rfl rfl) (.none rfl) rfl rfl <| WP.nil <| ?_
     refine WR.done (by kernel_rfl) ?_
     refine WE.then_n <| WC.seq <| WC.region <| WL.v (v_move rfl rfl) rfl <| WL.nt <| ?_
     refine WC.cond_b rfl (fun h66 => ?_) (fun h66 => ?_)
     ·
      refine WC.seq <| WC.region <| WL.v (v_assign rfl rfl) rfl <| WL.nt <| WC.ret <| WE.block_ret <| WE.then_ret <| WE.then_ret <| WE.block_ret <| WE.then_ret <| WE.scope_ret <| WE.ret1 (P := Tryz.prog) (.inl rfl) Tryz.results176 rfl <| ?_
      obtain ⟨r, hr, he⟩ := haveM_is.1 h66
      have hq : ∀ k, k < 9 → f k = r.m.mask k := fun k hk => (he k hk).2
      exact fun w' h => ⟨by rw [decide_eq_true (p := covD p.ds m) ⟨r, hr, .inr ((over_key hq hz).2 he)⟩], h.frm⟩
     ·
      refine WC.skip <| WE.block_n <| WE.then_n <| WC.region <| ?_
      refine WL.v (v_add rfl rfl rfl (w_i64 (by omega) (by omega))) rfl ?_
      refine WL.v (v_move rfl rfl) rfl <| WL.nil <| ?_
      exact WE.next (i + 1) (by omega) ⟨by omega, fun j f2 hj hf2 r hr hq hov => by
      by_cases e : j = i
      · subst e
        rw [hfi] at hf2
        cases hf2
        have := haveM_is.2 ⟨r, hr, (over_key hq hz).1 hov⟩
        cases (h66.symm.trans this)
      · exact hno j f2 (by omega) hf2 r hr hq hov⟩ (.int rfl (by omega) (.cons rfl (.cons rfl (.cons rfl (.cons rfl (.cons rfl .nil)))))) (by first | exact .cons _ (.cons _ (.refl _)) | exact .cons _ (.cons _ (.cons _ (.refl _))))
   ·
    refine WL.nt <| WC.seq <| WC.cond_f rfl <| WC.exit <| WE.then_exit <| WE.then_exit <| WE.block_hit <| WE.then_n <| WC.seq <| WC.region <| WL.v (v_assign rfl rfl) rfl <| WL.nt <| WC.ret <| WE.scope_ret <| ?_
    refine WE.ret1 (P := Tryz.prog) (.inl rfl) Tryz.results176 rfl ?_
    exact fun w' h => ⟨by
    rw [decide_eq_false]
    rintro ⟨r, hr, he | ho⟩
    · exact hne r hr he
    · obtain ⟨f, hf, hq⟩ := hO.mask r hr
      obtain ⟨j, hj⟩ := List.mem_iff_getElem?.1 hf
      have := (List.getElem?_eq_some_iff.1 hj).1
      exact hno j f (by omega) hj r hr hq ho, h.frm⟩
end Go.Proofs.YtmhahajadgkolaaGreatDoor
/- pile.Pile.Add: a rule more. -/
namespace Go.Proofs.YtmhahajadgkolaaGreatDoor
open Go.RowKit

/-- A pile and the blocks in which it lies: its rules, its masks, its map, the rules' acts. -/
structure PlAt (p : PlL) (E Em H K : List Ent) : Prop where
  out : Vec 19 p.ad p.ls.length p.c (rulesL p.ls) E
  masks : Vec 9 p.mad p.ms.length p.mc (masksL p.ms) Em
  map : (p.hv = none ∧ p.es = #[] ∧ H = []) ∨ ∃ gm, p.hv = some gm ∧ H = [.obj gm (.map p.es p.cl)]
  own : ∀ r ∈ p.ls, RuOwn K r
  ok : p.Ok
  room : p.ms.length ≤ p.ls.length ∧ (p.ls.length : Int) ≤ p.mr ∧ p.mr ≤ 4194304 ∧ ((sumA p.ds : Nat) : Int) ≤ p.ma ∧ p.ma ≤ 16777216
theorem PlAt.r {p : PlL} {E Em H K L : List Ent} {g : Nat} (h : PlAt p E Em H K) {q : Nat → Prop} {w0 w : World} (hS : St q w0 w L) (h0 : Ent.row g p.cells ∈ L) (h1 : ∀ e ∈ Em, e ∈ L) (h2 : ∀ e ∈ H, e ∈ L) : PlR w g p :=
  ⟨fun j v hj => by rw [Nat.zero_add]; exact (show Row w g p.cells from hS.holds _ h0).cell hj, h.masks.rg fun e he => hS.holds e (h1 e he), by
    rcases h.map with ⟨e1, e2, -⟩ | ⟨gm, e1, e2⟩
    · exact .inl ⟨e1, e2⟩
    · exact .inr ⟨gm, p.cl, e1, (hS.holds (.obj gm (.map p.es p.cl)) (h2 _ (by rw [e2]; exact List.mem_singleton.2 rfl))).1⟩⟩
theorem PlAt.new (mr ma : Int) (h : 0 ≤ mr ∧ mr ≤ 4194304) (h2 : 0 ≤ ma ∧ ma ≤ 16777216) : PlAt ⟨mr, ma, none, 0, [], none, 0, [], none, #[], 0⟩ [] [] [] [] :=
  ⟨Vec.nil 19, Vec.nil 9, .inl ⟨rfl, rfl, rfl⟩, fun r h => (by cases h), ⟨fun r h => (by cases h), fun r h => (by cases h), fun r h => (by cases h), by
    show IMap KMt #[] (haveM [])
    rw [haveM_nil]
    exact IMap.empty _⟩, Nat.le_refl _, h.1, h.2, h2.1, h2.2⟩
theorem RuOwn.more {K K' : List Ent} {r : RuL} (h : RuOwn K r) : RuOwn (K' ++ K) r := h.sub fun _ hx => List.mem_append_right _ hx
structure AdS where
  gm : Nat
  es : Array MapEntry
  cl : Nat
structure AdU where
  ad : Option Addr
  c : Nat
  E : List Ent
structure AdT where
  mad : Option Addr
  mc : Nat
  ms : List (Nat → Int)
  Em : List Ent
def addC (p : PlL) (gm : Nat) : List Value := [.int .i64 p.mr, .int .i64 p.ma, .slice p.ad p.ls.length p.c, .slice p.mad p.ms.length p.mc, .map (some gm), .int .i64 ((sumA p.ds : Nat) : Int)]
def addC2 (p : PlL) (gm : Nat) (mad : Option Addr) (mn mc : Nat) : List Value := [.int .i64 p.mr, .int .i64 p.ma, .slice p.ad p.ls.length p.c, .slice mad mn mc, .map (some gm), .int .i64 ((sumA p.ds : Nat) : Int)]
set_option maxRecDepth 8000 in
set_option maxHeartbeats 4000000 in
theorem Add_c {q : Nat → Prop} {w0 w : World} {L E Em H K : List Ent} (g : Nat) (p : PlL) (m : Mt) (aad : Option Addr) (ac : Nat) (us : List Ac) (hA : PlAt p E Em H K) (hS : St q w0 w (.row g p.cells :: (E ++ (Em ++ (H ++ (K ++ L)))))) (hm : m.In) (hz : m.Nz) (hu : ∀ w, St q w0 w (.row g p.cells :: (E ++ (Em ++ (H ++ (K ++ L))))) → Rg w aad (actsL us)) (hus : ∀ a ∈ us, a.In ∧ a.Nz ∧ a.Ok) (hn : us.length ≤ 100000) :
    Calls Tryz.prog 177 #[.pointer (some ⟨g, 0, none⟩), mtV m, .slice aad us.length ac] w fun e w' => ∃ (b : Bool) (p' : PlL) (E' Em' H' K' : List Ent), e = .returned (.bool b) ∧ (b = true → p.d.add m us = some p'.d) ∧ (b = false → p.d.add m us = none ∧ p'.d = p.d) ∧ PlAt p' E' Em' H' K' ∧ St q w0 w' (.row g p'.cells :: (E' ++ (Em' ++ (H' ++ (K' ++ L))))) := by
  obtain ⟨rm1, rm2, rm3, rm4, rm5⟩ := hA.room
  have hK := KMt.mk hm
  refine enter Tryz.func177 rfl Tryz.ntmps177 rfl hS ?_
  refine WC.seq <| WC.region <| WL.box rfl rfl rfl (.none rfl) rfl rfl <| ?_
  intro g4 hg4
  refine WL.v (v_assign rfl rfl) rfl <| WL.nt <| WC.seq <| WC.region <| WL.v (v_move rfl rfl) rfl <| WL.call rfl rfl ck_167 (.none rfl) rfl rfl <| ?_
  intro w1 hS
  refine (Norm_c w1 aad ac us (hu w1 hS.tail) (fun a ha => (hus a ha).2.1) hn).mono ?_
  rintro e w' ⟨adn, cn, En, ys, rfl, hP, hyl, hVn, hS'⟩
  have hys : normF us = ys := normF_of (fun a ha => (hus a ha).2.1) hP
  have hdl : (p.d.out.length : Int) = p.ls.length := (by show ((p.ls.map RuL.d).length : Int) = _; rw [List.length_map])
  refine ⟨_, _, rfl, hS.join hS', ?_⟩
  refine WL.v (v_assign rfl rfl) rfl <| WL.nt <| WC.seq <| WC.seq <| ?_
  refine WC.quiet mixed (by kernel_rfl) ?_
  refine WQ.val (v_move rfl rfl) (.none rfl) rfl rfl <| WQ.val (v_nilCheck rfl rfl) (.none rfl) rfl rfl <| WQ.val (v_fieldAddr0 rfl rfl fld_385_1) (.none rfl) rfl rfl <| WQ.val (v_load1 rfl rfl one_54 (cellAt (v := .slice p.ad p.ls.length p.c) rfl)) (.none rfl) rfl rfl <| WQ.val (v_len_slice rfl rfl Tryz.underlying54) (.none rfl) rfl rfl <| WQ.val (v_move rfl rfl) (.none rfl) rfl rfl <| WQ.val (v_nilCheck rfl rfl) (.none rfl) rfl rfl <| WQ.val (v_fieldAddr0 rfl rfl fld_385_0) (.none rfl) rfl rfl <| WQ.val (v_fieldAddr0 rfl rfl fld_305_0) (.none rfl) rfl rfl <| WQ.val (v_load1 rfl rfl one_3 (cellAt (v := .int .i64 p.mr) rfl)) (.none rfl) rfl rfl <| ?_
  refine WQ.test (v_geq rfl rfl rfl) (.none rfl) rfl rfl (fun h22 => ?_) (fun h22 => ?_)
  ·
   refine WQ.val (v_move rfl rfl) (.none rfl) rfl rfl ?_
   iterate 13 refine WQ.skip rfl rfl rfl rfl rfl rfl ?_
   refine WQ.val (v_pick_t rfl rfl rfl) (.none rfl) rfl rfl <| WQ.nil <| WE.then_n <| WC.cond_t rfl <| WC.seq <| WC.region <| WL.v (v_assign rfl rfl) rfl <| WL.nt <| WC.ret <| WE.then_ret <| WE.ret1 (P := Tryz.prog) (.inl rfl) Tryz.results177 rfl <| ?_
   have hno : p.d.add m us = none := (by unfold PlD.add; exact if_pos (.inl (by show (p.d.out.length : Int) ≥ p.mr; omega)))
   exact fun w' h => ⟨false, p, E, Em, H, En ++ K, rfl, fun k => (by cases k), fun _ => ⟨hno, rfl⟩, ⟨hA.out, hA.masks, hA.map, fun r hr => (hA.own r hr).more, hA.ok, hA.room⟩, h.dropX [.row g4 (mtL m)]⟩
  ·
   refine WQ.val (v_move rfl rfl) (.none rfl) rfl rfl <| WQ.val (v_move rfl rfl) (.some rfl rfl rfl) rfl rfl <| WQ.val (v_nilCheck rfl rfl) (.some rfl rfl rfl) rfl rfl <| WQ.val (v_fieldAddr0 rfl rfl fld_385_4) (.some rfl rfl rfl) rfl rfl <| WQ.val (v_load1 rfl rfl one_3 (cellAt (v := .int .i64 ((sumA p.ds : Nat) : Int)) rfl)) (.some rfl rfl rfl) rfl rfl <| WQ.val (v_move rfl rfl) (.some rfl rfl rfl) rfl rfl <| WQ.val (v_len_slice rfl rfl Tryz.underlying221) (.some rfl rfl rfl) rfl rfl <| ?_
   refine WQ.val (v_add rfl rfl rfl (w_i64 (by omega) (by omega))) (.some rfl rfl rfl) rfl rfl ?_
   refine WQ.val (v_move rfl rfl) (.some rfl rfl rfl) rfl rfl <| WQ.val (v_nilCheck rfl rfl) (.some rfl rfl rfl) rfl rfl <| WQ.val (v_fieldAddr0 rfl rfl fld_385_0) (.some rfl rfl rfl) rfl rfl <| WQ.val (v_fieldAddr0 rfl rfl fld_305_1) (.some rfl rfl rfl) rfl rfl <| WQ.val (v_load1 rfl rfl one_3 (cellAt (v := .int .i64 p.ma) rfl)) (.some rfl rfl rfl) rfl rfl <| ?_
   refine WQ.test (v_gtr rfl rfl rfl) (.some rfl rfl rfl) rfl rfl (fun h36 => ?_) (fun h36 => ?_)
   ·
    refine WQ.val (v_pick_f rfl rfl rfl) (.none rfl) rfl rfl <| WQ.nil <| WE.then_n <| WC.cond_t rfl <| WC.seq <| WC.region <| WL.v (v_assign rfl rfl) rfl <| WL.nt <| WC.ret <| WE.then_ret <| WE.ret1 (P := Tryz.prog) (.inl rfl) Tryz.results177 rfl <| ?_
    have hno : p.d.add m us = none := (by unfold PlD.add; rw [hys]; exact if_pos (.inr (by show ((sumA p.ds : Nat) : Int) + (ys.length : Int) > p.ma; omega)))
    exact fun w' h => ⟨false, p, E, Em, H, En ++ K, rfl, fun k => (by cases k), fun _ => ⟨hno, rfl⟩, ⟨hA.out, hA.masks, hA.map, fun r hr => (hA.own r hr).more, hA.ok, hA.room⟩, h.dropX [.row g4 (mtL m)]⟩
   ·
    refine WQ.val (v_pick_f rfl rfl rfl) (.none rfl) rfl rfl <| WQ.nil <| WE.then_n <| WC.cond_f rfl <| WC.skip <| WE.then_n <| ?_
    refine WC.cut (fun _ : AdS => [(0, .pointer (some ⟨g, 0, none⟩)), (4, .pointer (some ⟨g4, 0, none⟩)), (2, .slice adn ys.length cn), (6, .bool false)]) (fun x => .row g (addC p x.gm) :: .obj x.gm (.map x.es x.cl) :: .row g4 (mtL m) :: (En ++ (E ++ (Em ++ (K ++ L))))) (fun x => IMap KMt x.es (haveM p.ds)) ?_ ?_
    ·
     refine WC.seq <| WC.region <| WL.v (v_move rfl rfl) rfl <| WL.v (v_nilCheck rfl rfl) rfl <| WL.v (v_fieldAddr0 rfl rfl fld_385_3) rfl <| ?_
     obtain ⟨b42, hb42⟩ : ∃ b, p.hv.isNone = b := ⟨_, rfl⟩
     refine WL.v (v_load1 rfl rfl one_383 (cellAt (v := .map p.hv) rfl)) rfl ?_
     refine WL.v (v_eql_nil b42 rfl rfl Tryz.underlying383 (by rw [← hb42]; rfl)) rfl ?_
     cases b42
     ·
      refine WL.nt <| WC.cond_f rfl <| WC.skip <| ?_
      rcases hA.map with ⟨hq, -, -⟩ | ⟨gm, hq, hH⟩
      · rw [hq] at hb42; cases hb42
      · subst hH
        refine WE.to (L' := .row g (addC p gm) :: .obj gm (.map p.es p.cl) :: .row g4 (mtL m) :: (En ++ (E ++ (Em ++ (K ++ L))))) (fun w hS => ?_) (WE.mid ⟨gm, p.es, p.cl⟩ hA.ok.keys (.cons rfl (.cons rfl (.cons rfl (.cons rfl .nil)))) (.refl _))
        have e : addC p gm = p.cells := (by unfold addC PlL.cells; rw [hq])
        rw [e]
        exact hS.permX
     ·
      refine WL.nt <| WC.cond_t rfl <| WC.region <| WL.v (v_move rfl rfl) rfl <| WL.makeMap rfl (.none rfl) rfl rfl <| ?_
      intro g44 hg44
      refine WL.v (v_nilCheck rfl rfl) rfl <| WL.v (v_fieldAddr0 rfl rfl fld_385_3) rfl <| WL.store1 rfl rfl rfl rfl one_383 (Nat.le_of_ble_eq_true rfl) (.none rfl) rfl <| WL.nil <| ?_
      have hh : p.hv = none := (by cases h : p.hv with | none => rfl | some x => rw [h] at hb42; cases hb42)
      rcases hA.map with ⟨-, he, hH⟩ | ⟨gm, hq, -⟩
      · have hk := hA.ok.keys
        rw [he] at hk
        subst hH
        refine WE.to (L' := .row g (addC p g44) :: .obj g44 (.map #[] 0) :: .row g4 (mtL m) :: (En ++ (E ++ (Em ++ (K ++ L))))) (fun w hS => ?_) (WE.mid ⟨g44, #[], 0⟩ hk (.cons rfl (.cons rfl (.cons rfl (.cons rfl .nil)))) (.refl _))
        exact St.permX (L := .obj g44 (.map #[] 0) :: (En ++ (.row g4 (mtL m) :: .row g (addC p g44) :: (E ++ (Em ++ ([] ++ (K ++ L))))))) hS
      · rw [hh] at hq; cases hq
    ·
     rintro ⟨gm, es, cl⟩ hM
     dsimp only at hM
     dsimp only
     have hyes : p.d.add m us = some ⟨p.mr, p.ma, p.ds ++ [⟨m, ys⟩]⟩ := (by
       unfold PlD.add
       rw [hys]
       exact if_neg (fun k => by
         rcases k with k | k
         · have k : (p.d.out.length : Int) ≥ p.mr := k
           omega
         · have k : ((sumA p.ds : Nat) : Int) + (ys.length : Int) > p.ma := k
           omega))
     refine WC.seq <| WC.region <| WL.v (v_assign rfl rfl) rfl <| WL.nt <| ?_
     refine WC.cut (fun b : Bool => [(7, .bool b), (0, .pointer (some ⟨g, 0, none⟩)), (4, .pointer (some ⟨g4, 0, none⟩)), (2, .slice adn ys.length cn), (6, .bool false)]) (fun _ => .row g (addC p gm) :: .obj gm (.map es cl) :: .row g4 (mtL m) :: (En ++ (E ++ (Em ++ (K ++ L))))) (fun b => b = false → ∃ f ∈ p.ms, ∀ k, k < 9 → f k = m.mask k) ?_ ?_
     ·
      refine WC.seq <| WC.region <| WL.v (v_move rfl rfl) rfl <| WL.v (v_nilCheck rfl rfl) rfl <| WL.v (v_fieldAddr0 rfl rfl fld_385_2) rfl <| WL.v (v_load1 rfl rfl one_382 (cellAt (v := .slice p.mad p.ms.length p.mc) rfl)) rfl <| WL.v (v_len_slice rfl rfl Tryz.underlying382) rfl <| WL.v (v_move rfl rfl) rfl <| WL.nt <| WC.block <| WC.loop (fun i : Nat => [(52, .int .i64 i), (51, .int .i64 p.ms.length), (50, .slice p.mad p.ms.length p.mc), (7, .bool true), (0, .pointer (some ⟨g, 0, none⟩)), (4, .pointer (some ⟨g4, 0, none⟩)), (2, .slice adn ys.length cn), (6, .bool false)]) (fun _ => .row g (addC p gm) :: .obj gm (.map es cl) :: .row g4 (mtL m) :: (En ++ (E ++ (Em ++ (K ++ L))))) (fun i => i ≤ p.ms.length) (fun i => p.ms.length - i) 0 (Nat.zero_le _) (.cons rfl (.cons rfl (.cons rfl (.cons rfl (.cons rfl (.cons rfl (.cons rfl (.cons rfl .nil)))))))) (.refl _) <| ?_
      intro i hi
      refine WC.seq <| WC.region <| ?_
      refine WL.test (v_lss rfl rfl rfl) (.none rfl) rfl rfl (fun h53 => ?_) (fun h53 => ?_)
      ·
       refine WL.nt <| WC.seq <| WC.cond_t rfl <| WC.skip <| WE.then_n <| WC.seq <| WC.block <| WC.seq <| WC.region <| ?_
       obtain ⟨f, hfi⟩ : ∃ x, p.ms[i]? = some x := ⟨p.ms[i]'(by omega), List.getElem?_eq_getElem _⟩
       obtain ⟨b1, o1, ea1, q1⟩ := hA.masks.srcM (L := .row g (addC p gm) :: .obj gm (.map es cl) :: .row g4 (mtL m) :: (En ++ (E ++ (Em ++ (K ++ L))))) (fun e he => by simp [he]) (by rw [masksL_len]; omega)
       obtain ⟨b59, hbe⟩ : ∃ c : Bool, c = true ↔ ucs f 9 = ucs m.mask 9 := ⟨@decide _ (Classical.propDecidable _), @decide_eq_true_iff _ (Classical.propDecidable _)⟩
       refine WL.v ((v_indexAddr (b := b1) (off := o1) (lo := i) rfl (by show some (Value.slice p.mad _ _) = _; rw [ea1]) rfl Tryz.underlying382 sz_218 rfl (by omega))) rfl ?_
       refine WL.v (v_loadN (cs := ucs f 9) rfl rfl many_218 (ucs_len f 9) (fun w' hS' => Rg.seg (fun f => ucs_len f 9) (q1 _ _ w' hS') hfi)) rfl <| WL.alloc rfl zero_218 (.none rfl) rfl rfl <| ?_
       intro g9 hg9
       refine WL.storeW rfl rfl rfl rfl many_218 rfl rfl (.none rfl) rfl <| WL.nt <| WC.seq <| WC.region <| WL.v (v_loadN rfl rfl many_218 rfl allAt) rfl <| WL.v (v_fieldAddr0 rfl rfl fld_220_1) rfl <| WL.v (v_loadN rfl rfl many_218 rfl (segAt (g := g4) (m := 9) (new := ucs m.mask 9) rfl)) rfl <| ?_
       refine WL.v (v_eql_aggD (b := b59) rfl rfl rfl eqk_218 eqg_218 (by first | rfl | (show (ucs f 9).length = 9; exact ucs_len f 9)) (by first | rfl | (show (ucs m.mask 9).length = 9; exact ucs_len m.mask 9)) hbe) rfl ?_
       cases b59
       ·
        refine WL.nt <| WC.cond_f rfl <| WC.skip <| WE.block_n <| WE.then_n <| WC.region <| ?_
        refine WL.v (v_add rfl rfl rfl (w_i64 (by omega) (by omega))) rfl ?_
        refine WL.v (v_move rfl rfl) rfl <| WL.nil <| ?_
        exact WE.next (i + 1) (by omega) (by omega) (.int rfl (by omega) (.cons rfl (.cons rfl (.cons rfl (.cons rfl (.cons rfl (.cons rfl (.cons rfl .nil)))))))) (.cons _ (.refl _))
       ·
        refine WL.nt <| WC.cond_t rfl <| WC.seq <| WC.region <| WL.v (v_assign rfl rfl) rfl <| WL.nt <| WC.exit <| WE.block_miss rfl <| WE.then_exit <| WE.then_exit <| WE.block_hit <| ?_
        exact WE.mid false (fun _ => ⟨f, List.mem_of_getElem? hfi, fun k hk => (by
        have h := hbe.1 rfl
        have h2 := congrArg (fun l => l[k]?) h
        have h2 : (ucs f 9)[k]? = (ucs m.mask 9)[k]? := h2
        rw [ucs_get f hk, ucs_get m.mask hk] at h2
        injection h2 with h2
        injection h2)⟩) (.cons rfl (.cons rfl (.cons rfl (.cons rfl (.cons rfl .nil))))) (.cons _ (.refl _))
      ·
       refine WL.nt <| WC.seq <| WC.cond_f rfl <| WC.exit <| WE.then_exit <| WE.then_exit <| WE.block_hit <| ?_
       exact WE.mid true (fun k => (by cases k)) (.cons rfl (.cons rfl (.cons rfl (.cons rfl (.cons rfl .nil))))) (.refl _)
     ·
      intro fr hfr
      refine WC.cut (fun _ : AdT => [(0, .pointer (some ⟨g, 0, none⟩)), (4, .pointer (some ⟨g4, 0, none⟩)), (2, .slice adn ys.length cn), (6, .bool false)]) (fun x => .row g (addC2 p gm x.mad x.ms.length x.mc) :: .obj gm (.map es cl) :: .row g4 (mtL m) :: (En ++ (E ++ (x.Em ++ (K ++ L))))) (fun x => Vec 9 x.mad x.ms.length x.mc (masksL x.ms) x.Em ∧ x.ms.length ≤ p.ms.length + 1 ∧ (∀ f ∈ p.ms, f ∈ x.ms) ∧ (∃ f ∈ x.ms, ∀ k, k < 9 → f k = m.mask k) ∧ ∀ f ∈ x.ms, ∀ k, 0 ≤ f k ∧ f k ≤ 18446744073709551615) ?_ ?_
      ·
       refine WC.seq <| WC.region <| WL.v (v_move rfl rfl) rfl <| ?_
       skip
       cases fr
       ·
        refine WL.nt <| WC.cond_f rfl <| WC.skip <| ?_
        exact WE.mid ⟨p.mad, p.mc, p.ms, Em⟩ ⟨hA.masks, Nat.le_succ _, fun f h => h, hfr rfl, hA.ok.num⟩ (.cons rfl (.cons rfl (.cons rfl (.cons rfl .nil)))) (.refl _)
       ·
        refine WL.nt <| WC.cond_t rfl <| WC.orders mixed <| ?_
        refine WR.first (g := 7) [0, 1, 2, 3, 5] (by kernel_rfl) (by kernel_rfl) ?_
        refine WP.val (v_move rfl rfl) (.none rfl) rfl rfl <| WP.val (v_move rfl rfl) (.none rfl) rfl rfl <| WP.val (v_nilCheck rfl rfl) (.none rfl) rfl rfl <| WP.val (v_fieldAddr0 rfl rfl fld_385_2) (.none rfl) rfl rfl <| WP.val (v_fieldAddr0 rfl rfl fld_220_1) (.none rfl) rfl rfl <| WP.nil <| ?_
        refine WR.each (g := 6) [4, 6] (by kernel_rfl) (by decide) ?_
        refine ⟨?_, ?_⟩
        ·
         refine WL.v (v_load1 rfl rfl one_382 (cellAt (v := .slice p.mad p.ms.length p.mc) rfl)) rfl <| WL.nilR <| ?_
         refine WR.read (g := 5) [6] (by kernel_rfl) (by kernel_rfl) (by kernel_rfl) (by kernel_rfl) rfl ?_
         refine WQ.val (v_loadN rfl rfl many_218 rfl (segAt (g := g4) (m := 9) (new := ucs m.mask 9) rfl)) (.none rfl) rfl rfl <| WQ.nilR <| ?_
         refine WR.ones (g := 3) [7, 8] (by kernel_rfl) ?_
         refine WL.buildSlice rfl rfl Tryz.underlying382 sz_218 zero_218 rfl (by decide) (by show some (splice (List.replicate 1 _).flatten 0 (ucs m.mask 9)) = some (ucs m.mask 9); exact congrArg some (splice_all rfl)) (.none rfl) rfl rfl ?_
         intro g69 hg69
         refine WL.to (L' := Em ++ (.row g69 (ucs m.mask 9) :: .row g (addC p gm) :: .obj gm (.map es cl) :: .row g4 (mtL m) :: (En ++ (E ++ (K ++ L))))) (fun w hS => hS.permX) ?_
         refine WL.appendL rfl rfl rfl Tryz.underlying382 Tryz.underlying382 sz_218 by_218 zero_218 rfl rfl hA.masks (new := ucs m.mask 9) (fun _ => ⟨g69, 0, rfl, fun w hS => allAt (g := g69) w hS⟩) rfl rfl (by omega) (.none rfl) rfl rfl ?_
         intro ad70 c70 E70 hV70 hr70
         refine WL.nilR ?_
         refine WR.first (g := 1) [9, 10] (by kernel_rfl) (by kernel_rfl) ?_
         refine WP.val (v_nilCheck rfl rfl) (.none rfl) rfl rfl <| WP.val (v_fieldAddr0 rfl rfl fld_385_2) (.none rfl) rfl rfl <| WP.nil <| ?_
         refine WR.ones (g := 0) [11] (by kernel_rfl) ?_
         refine WL.store1 rfl rfl rfl rfl one_382 (Nat.le_of_ble_eq_true rfl) (.none rfl) rfl <| WL.nilR <| ?_
         refine WR.done (by kernel_rfl) ?_
         refine WE.to (L' := .row g (addC2 p gm ad70 (p.ms ++ [m.mask]).length c70) :: .obj gm (.map es cl) :: .row g4 (mtL m) :: (En ++ (E ++ (E70 ++ (K ++ L))))) (fun w hS => ?_) (WE.mid ⟨ad70, c70, p.ms ++ [m.mask], E70⟩ ⟨by rw [List.length_append]; rw [show masksL (p.ms ++ [m.mask]) = masksL p.ms ++ ucs m.mask 9 from encL_snoc _ _ _]; exact hV70, by rw [List.length_append]; exact Nat.le_refl _, fun f h => List.mem_append_left _ h, ⟨m.mask, List.mem_append_right _ (List.mem_singleton.2 rfl), fun _ _ => rfl⟩, fun f h => (by
             rcases List.mem_append.1 h with h | h
             · exact hA.ok.num f h
             · rw [List.mem_singleton.1 h]; exact hm.mask)⟩ (.cons rfl (.cons rfl (.cons rfl (.cons rfl .nil)))) (.refl _))
         rw [show (p.ms ++ [m.mask]).length = p.ms.length + 1 by rw [List.length_append]; rfl]
         exact St.dropX (L := E70 ++ (.row g69 (ucs m.mask 9) :: .row g (addC2 p gm ad70 (p.ms.length + 1) c70) :: .obj gm (.map es cl) :: .row g4 (mtL m) :: (En ++ (E ++ (K ++ L))))) [.row g69 (ucs m.mask 9)] hS
        ·
         refine WL.v (v_loadN rfl rfl many_218 rfl (segAt (g := g4) (m := 9) (new := ucs m.mask 9) rfl)) rfl <| WL.nilR <| ?_
         refine WR.each (g := 5) [4, 7] (by kernel_rfl) (by decide) ?_
         refine ⟨?_, ?_⟩
         ·
          refine WL.v (v_load1 rfl rfl one_382 (cellAt (v := .slice p.mad p.ms.length p.mc) rfl)) rfl <| WL.nilR <| ?_
          refine WR.ones (g := 3) [7, 8] (by kernel_rfl) ?_
          refine WL.buildSlice rfl rfl Tryz.underlying382 sz_218 zero_218 rfl (by decide) (by show some (splice (List.replicate 1 _).flatten 0 (ucs m.mask 9)) = some (ucs m.mask 9); exact congrArg some (splice_all rfl)) (.none rfl) rfl rfl ?_
          intro g69 hg69
          refine WL.to (L' := Em ++ (.row g69 (ucs m.mask 9) :: .row g (addC p gm) :: .obj gm (.map es cl) :: .row g4 (mtL m) :: (En ++ (E ++ (K ++ L))))) (fun w hS => hS.permX) ?_
          refine WL.appendL rfl rfl rfl Tryz.underlying382 Tryz.underlying382 sz_218 by_218 zero_218 rfl rfl hA.masks (new := ucs m.mask 9) (fun _ => ⟨g69, 0, rfl, fun w hS => allAt (g := g69) w hS⟩) rfl rfl (by omega) (.none rfl) rfl rfl ?_
          intro ad70 c70 E70 hV70 hr70
          refine WL.nilR ?_
          refine WR.first (g := 1) [9, 10] (by kernel_rfl) (by kernel_rfl) ?_
          refine WP.val (v_nilCheck rfl rfl) (.none rfl) rfl rfl <| WP.val (v_fieldAddr0 rfl rfl fld_385_2) (.none rfl) rfl rfl <| WP.nil <| ?_
          refine WR.ones (g := 0) [11] (by kernel_rfl) ?_
          refine WL.store1 rfl rfl rfl rfl one_382 (Nat.le_of_ble_eq_true rfl) (.none rfl) rfl <| WL.nilR <| ?_
          refine WR.done (by kernel_rfl) ?_
          refine WE.to (L' := .row g (addC2 p gm ad70 (p.ms ++ [m.mask]).length c70) :: .obj gm (.map es cl) :: .row g4 (mtL m) :: (En ++ (E ++ (E70 ++ (K ++ L))))) (fun w hS => ?_) (WE.mid ⟨ad70, c70, p.ms ++ [m.mask], E70⟩ ⟨by rw [List.length_append]; rw [show masksL (p.ms ++ [m.mask]) = masksL p.ms ++ ucs m.mask 9 from encL_snoc _ _ _]; exact hV70, by rw [List.length_append]; exact Nat.le_refl _, fun f h => List.mem_append_left _ h, ⟨m.mask, List.mem_append_right _ (List.mem_singleton.2 rfl), fun _ _ => rfl⟩, fun f h => (by
              rcases List.mem_append.1 h with h | h
              · exact hA.ok.num f h
              · rw [List.mem_singleton.1 h]; exact hm.mask)⟩ (.cons rfl (.cons rfl (.cons rfl (.cons rfl .nil)))) (.refl _))
          rw [show (p.ms ++ [m.mask]).length = p.ms.length + 1 by rw [List.length_append]; rfl]
          exact St.dropX (L := E70 ++ (.row g69 (ucs m.mask 9) :: .row g (addC2 p gm ad70 (p.ms.length + 1) c70) :: .obj gm (.map es cl) :: .row g4 (mtL m) :: (En ++ (E ++ (K ++ L))))) [.row g69 (ucs m.mask 9)] hS
         ·
          refine WL.buildSlice rfl rfl Tryz.underlying382 sz_218 zero_218 rfl (by decide) (by show some (splice (List.replicate 1 _).flatten 0 (ucs m.mask 9)) = some (ucs m.mask 9); exact congrArg some (splice_all rfl)) (.none rfl) rfl rfl ?_
          intro g69 hg69
          refine WL.to (L' := Em ++ (.row g69 (ucs m.mask 9) :: .row g (addC p gm) :: .obj gm (.map es cl) :: .row g4 (mtL m) :: (En ++ (E ++ (K ++ L))))) (fun w hS => hS.permX) <| WL.nilR <| ?_
          refine WR.read (g := 4) [4] (by kernel_rfl) (by kernel_rfl) (by kernel_rfl) (by kernel_rfl) rfl ?_
          refine WQ.val (v_load1 rfl rfl one_382 (cellAt (v := .slice p.mad p.ms.length p.mc) rfl)) (.none rfl) rfl rfl <| WQ.nilR <| ?_
          refine WR.ones (g := 3) [8] (by kernel_rfl) ?_
          refine WL.appendL rfl rfl rfl Tryz.underlying382 Tryz.underlying382 sz_218 by_218 zero_218 rfl rfl hA.masks (new := ucs m.mask 9) (fun _ => ⟨g69, 0, rfl, fun w hS => allAt (g := g69) w hS⟩) rfl rfl (by omega) (.none rfl) rfl rfl ?_
          intro ad70 c70 E70 hV70 hr70
          refine WL.nilR ?_
          refine WR.first (g := 1) [9, 10] (by kernel_rfl) (by kernel_rfl) ?_
          refine WP.val (v_nilCheck rfl rfl) (.none rfl) rfl rfl <| WP.val (v_fieldAddr0 rfl rfl fld_385_2) (.none rfl) rfl rfl <| WP.nil <| ?_
          refine WR.ones (g := 0) [11] (by kernel_rfl) ?_
          refine WL.store1 rfl rfl rfl rfl one_382 (Nat.le_of_ble_eq_true rfl) (.none rfl) rfl <| WL.nilR <| ?_
          refine WR.done (by kernel_rfl) ?_
          refine WE.to (L' := .row g (addC2 p gm ad70 (p.ms ++ [m.mask]).length c70) :: .obj gm (.map es cl) :: .row g4 (mtL m) :: (En ++ (E ++ (E70 ++ (K ++ L))))) (fun w hS => ?_) (WE.mid ⟨ad70, c70, p.ms ++ [m.mask], E70⟩ ⟨by rw [List.length_append]; rw [show masksL (p.ms ++ [m.mask]) = masksL p.ms ++ ucs m.mask 9 from encL_snoc _ _ _]; exact hV70, by rw [List.length_append]; exact Nat.le_refl _, fun f h => List.mem_append_left _ h, ⟨m.mask, List.mem_append_right _ (List.mem_singleton.2 rfl), fun _ _ => rfl⟩, fun f h => (by
              rcases List.mem_append.1 h with h | h
              · exact hA.ok.num f h
              · rw [List.mem_singleton.1 h]; exact hm.mask)⟩ (.cons rfl (.cons rfl (.cons rfl (.cons rfl .nil)))) (.refl _))
          rw [show (p.ms ++ [m.mask]).length = p.ms.length + 1 by rw [List.length_append]; rfl]
          exact St.dropX (L := E70 ++ (.row g69 (ucs m.mask 9) :: .row g (addC2 p gm ad70 (p.ms.length + 1) c70) :: .obj gm (.map es cl) :: .row g4 (mtL m) :: (En ++ (E ++ (K ++ L))))) [.row g69 (ucs m.mask 9)] hS
      ·
       rintro ⟨mad2, mc2, ms2, Em2⟩ ⟨hV2, hml, hsub, hhas, hnum⟩
       dsimp only at hV2 hml hsub hhas hnum
       dsimp only
       refine WC.seq <| WC.orders mixed <| ?_
       refine WR.first (g := 3) [0, 1, 2, 5] (by kernel_rfl) (by kernel_rfl) ?_
       refine WP.val (v_move rfl rfl) (.none rfl) rfl rfl <| WP.val (v_nilCheck rfl rfl) (.none rfl) rfl rfl <| WP.val (v_fieldAddr0 rfl rfl fld_385_3) (.none rfl) rfl rfl <| WP.val (v_build rfl rfl zero_248 plc_248 rfl) (.none rfl) rfl rfl <| WP.nil <| ?_
       refine WR.read (g := 1) [3, 4] (by kernel_rfl) (by kernel_rfl) (by kernel_rfl) (by kernel_rfl) rfl ?_
       refine WQ.val (v_load1 rfl rfl one_383 (cellAt (v := .map (some gm)) rfl)) (.none rfl) rfl rfl <| WQ.val (v_loadN rfl rfl many_220 rfl allAt) (.none rfl) rfl rfl <| WQ.nilR <| ?_
       refine WR.ones (g := 0) [6] (by kernel_rfl) ?_
       refine WL.mapUpdate rfl rfl rfl rfl Tryz.underlying383 keyW_220 (hK) (hM) (.none rfl) rfl ?_
       intro esU cU hMU hsU
       refine WL.nilR ?_
       refine WR.done (by kernel_rfl) ?_
       refine WE.then_n ?_
       refine WC.cut (fun x : AdU => [(0, .pointer (some ⟨g, 0, none⟩)), (2, .slice adn ys.length cn), (6, .bool false)]) (fun x => .row g [.int .i64 p.mr, .int .i64 p.ma, .slice x.ad (p.ls.length + 1) x.c, .slice mad2 ms2.length mc2, .map (some gm), .int .i64 ((sumA p.ds : Nat) : Int)] :: (x.E ++ (.obj gm (.map esU cU) :: (En ++ (Em2 ++ (K ++ L)))))) (fun x => Vec 19 x.ad (p.ls.length + 1) x.c (rulesL p.ls ++ RuL.cells ⟨m, adn, cn, ys⟩) x.E) ?_ ?_
       ·
        refine WC.orders mixed ?_
        refine WR.first (g := 8) [0, 1, 2, 3, 6] (by kernel_rfl) (by kernel_rfl) ?_
        refine WP.val (v_move rfl rfl) (.none rfl) rfl rfl <| WP.val (v_move rfl rfl) (.none rfl) rfl rfl <| WP.val (v_nilCheck rfl rfl) (.none rfl) rfl rfl <| WP.val (v_fieldAddr0 rfl rfl fld_385_1) (.none rfl) rfl rfl <| WP.val (v_move rfl rfl) (.none rfl) rfl rfl <| WP.nil <| ?_
        refine WR.each (g := 7) [4, 5] (by kernel_rfl) (by decide) ?_
        refine ⟨?_, ?_⟩
        ·
         refine WL.v (v_load1 rfl rfl one_54 (cellAt (v := .slice p.ad p.ls.length p.c) rfl)) rfl <| WL.nilR <| ?_
         refine WR.read (g := 5) [5, 7] (by kernel_rfl) (by kernel_rfl) (by kernel_rfl) (by kernel_rfl) rfl ?_
         refine WQ.val (v_loadN rfl rfl many_220 rfl allAt) (.none rfl) rfl rfl <| WQ.val (v_build rfl rfl zero_223 plc_223 rfl) (.none rfl) rfl rfl <| WQ.nilR <| ?_
         refine WR.ones (g := 3) [8, 9] (by kernel_rfl) ?_
         refine WL.buildSlice rfl rfl Tryz.underlying54 sz_223 zero_223 rfl (by decide) (by show some (splice (List.replicate 1 _).flatten 0 (RuL.cells ⟨m, adn, cn, ys⟩)) = some (RuL.cells ⟨m, adn, cn, ys⟩); exact congrArg some (splice_all rfl)) (.none rfl) rfl rfl ?_
         intro g87 hg87
         refine WL.to (L' := E ++ (.row g87 (RuL.cells ⟨m, adn, cn, ys⟩) :: .row g (addC2 p gm mad2 ms2.length mc2) :: .obj gm (.map esU cU) :: .row g4 (mtL m) :: (En ++ (Em2 ++ (K ++ L))))) (fun w hS => hS.permX) ?_
         refine WL.appendL rfl rfl rfl Tryz.underlying54 Tryz.underlying54 sz_223 by_223 zero_223 rfl rfl hA.out (new := RuL.cells ⟨m, adn, cn, ys⟩) (fun _ => ⟨g87, 0, rfl, fun w hS => allAt (g := g87) w hS⟩) rfl rfl (by omega) (.none rfl) rfl rfl ?_
         intro ad88 c88 E88 hV88 hr88
         refine WL.nilR ?_
         refine WR.first (g := 1) [10, 11] (by kernel_rfl) (by kernel_rfl) ?_
         refine WP.val (v_nilCheck rfl rfl) (.none rfl) rfl rfl <| WP.val (v_fieldAddr0 rfl rfl fld_385_1) (.none rfl) rfl rfl <| WP.nil <| ?_
         refine WR.ones (g := 0) [12] (by kernel_rfl) ?_
         refine WL.store1 rfl rfl rfl rfl one_54 (Nat.le_of_ble_eq_true rfl) (.none rfl) rfl <| WL.nilR <| ?_
         refine WR.done (by kernel_rfl) ?_
         refine WE.to (L' := .row g [.int .i64 p.mr, .int .i64 p.ma, .slice ad88 (p.ls.length + 1) c88, .slice mad2 ms2.length mc2, .map (some gm), .int .i64 ((sumA p.ds : Nat) : Int)] :: (E88 ++ (.obj gm (.map esU cU) :: (En ++ (Em2 ++ (K ++ L)))))) (fun w hS => St.dropX (L := E88 ++ (.row g87 (RuL.cells ⟨m, adn, cn, ys⟩) :: .row g [.int .i64 p.mr, .int .i64 p.ma, .slice ad88 (p.ls.length + 1) c88, .slice mad2 ms2.length mc2, .map (some gm), .int .i64 ((sumA p.ds : Nat) : Int)] :: .obj gm (.map esU cU) :: .row g4 (mtL m) :: (En ++ (Em2 ++ (K ++ L))))) [.row g87 (RuL.cells ⟨m, adn, cn, ys⟩), .row g4 (mtL m)] hS) (WE.mid ⟨ad88, c88, E88⟩ hV88 (.cons rfl (.cons rfl (.cons rfl .nil))) (.refl _))
        ·
         refine WL.v (v_loadN rfl rfl many_220 rfl allAt) rfl <| WL.nilR <| ?_
         refine WR.first (g := 6) [7] (by kernel_rfl) (by kernel_rfl) ?_
         refine WP.val (v_build rfl rfl zero_223 plc_223 rfl) (.none rfl) rfl rfl <| WP.nil <| ?_
         refine WR.each (g := 5) [4, 8] (by kernel_rfl) (by decide) ?_
         refine ⟨?_, ?_⟩
         ·
          refine WL.v (v_load1 rfl rfl one_54 (cellAt (v := .slice p.ad p.ls.length p.c) rfl)) rfl <| WL.nilR <| ?_
          refine WR.ones (g := 3) [8, 9] (by kernel_rfl) ?_
          refine WL.buildSlice rfl rfl Tryz.underlying54 sz_223 zero_223 rfl (by decide) (by show some (splice (List.replicate 1 _).flatten 0 (RuL.cells ⟨m, adn, cn, ys⟩)) = some (RuL.cells ⟨m, adn, cn, ys⟩); exact congrArg some (splice_all rfl)) (.none rfl) rfl rfl ?_
          intro g87 hg87
          refine WL.to (L' := E ++ (.row g87 (RuL.cells ⟨m, adn, cn, ys⟩) :: .row g (addC2 p gm mad2 ms2.length mc2) :: .obj gm (.map esU cU) :: .row g4 (mtL m) :: (En ++ (Em2 ++ (K ++ L))))) (fun w hS => hS.permX) ?_
          refine WL.appendL rfl rfl rfl Tryz.underlying54 Tryz.underlying54 sz_223 by_223 zero_223 rfl rfl hA.out (new := RuL.cells ⟨m, adn, cn, ys⟩) (fun _ => ⟨g87, 0, rfl, fun w hS => allAt (g := g87) w hS⟩) rfl rfl (by omega) (.none rfl) rfl rfl ?_
          intro ad88 c88 E88 hV88 hr88
          refine WL.nilR ?_
          refine WR.first (g := 1) [10, 11] (by kernel_rfl) (by kernel_rfl) ?_
          refine WP.val (v_nilCheck rfl rfl) (.none rfl) rfl rfl <| WP.val (v_fieldAddr0 rfl rfl fld_385_1) (.none rfl) rfl rfl <| WP.nil <| ?_
          refine WR.ones (g := 0) [12] (by kernel_rfl) ?_
          refine WL.store1 rfl rfl rfl rfl one_54 (Nat.le_of_ble_eq_true rfl) (.none rfl) rfl <| WL.nilR <| ?_
          refine WR.done (by kernel_rfl) ?_
          refine WE.to (L' := .row g [.int .i64 p.mr, .int .i64 p.ma, .slice ad88 (p.ls.length + 1) c88, .slice mad2 ms2.length mc2, .map (some gm), .int .i64 ((sumA p.ds : Nat) : Int)] :: (E88 ++ (.obj gm (.map esU cU) :: (En ++ (Em2 ++ (K ++ L)))))) (fun w hS => St.dropX (L := E88 ++ (.row g87 (RuL.cells ⟨m, adn, cn, ys⟩) :: .row g [.int .i64 p.mr, .int .i64 p.ma, .slice ad88 (p.ls.length + 1) c88, .slice mad2 ms2.length mc2, .map (some gm), .int .i64 ((sumA p.ds : Nat) : Int)] :: .obj gm (.map esU cU) :: .row g4 (mtL m) :: (En ++ (Em2 ++ (K ++ L))))) [.row g87 (RuL.cells ⟨m, adn, cn, ys⟩), .row g4 (mtL m)] hS) (WE.mid ⟨ad88, c88, E88⟩ hV88 (.cons rfl (.cons rfl (.cons rfl .nil))) (.refl _))
         ·
          refine WL.buildSlice rfl rfl Tryz.underlying54 sz_223 zero_223 rfl (by decide) (by show some (splice (List.replicate 1 _).flatten 0 (RuL.cells ⟨m, adn, cn, ys⟩)) = some (RuL.cells ⟨m, adn, cn, ys⟩); exact congrArg some (splice_all rfl)) (.none rfl) rfl rfl ?_
          intro g87 hg87
          refine WL.to (L' := E ++ (.row g87 (RuL.cells ⟨m, adn, cn, ys⟩) :: .row g (addC2 p gm mad2 ms2.length mc2) :: .obj gm (.map esU cU) :: .row g4 (mtL m) :: (En ++ (Em2 ++ (K ++ L))))) (fun w hS => hS.permX) <| WL.nilR <| ?_
          refine WR.read (g := 4) [4] (by kernel_rfl) (by kernel_rfl) (by kernel_rfl) (by kernel_rfl) rfl ?_
          refine WQ.val (v_load1 rfl rfl one_54 (cellAt (v := .slice p.ad p.ls.length p.c) rfl)) (.none rfl) rfl rfl <| WQ.nilR <| ?_
          refine WR.ones (g := 3) [9] (by kernel_rfl) ?_
          refine WL.appendL rfl rfl rfl Tryz.underlying54 Tryz.underlying54 sz_223 by_223 zero_223 rfl rfl hA.out (new := RuL.cells ⟨m, adn, cn, ys⟩) (fun _ => ⟨g87, 0, rfl, fun w hS => allAt (g := g87) w hS⟩) rfl rfl (by omega) (.none rfl) rfl rfl ?_
          intro ad88 c88 E88 hV88 hr88
          refine WL.nilR ?_
          refine WR.first (g := 1) [10, 11] (by kernel_rfl) (by kernel_rfl) ?_
          refine WP.val (v_nilCheck rfl rfl) (.none rfl) rfl rfl <| WP.val (v_fieldAddr0 rfl rfl fld_385_1) (.none rfl) rfl rfl <| WP.nil <| ?_
          refine WR.ones (g := 0) [12] (by kernel_rfl) ?_
          refine WL.store1 rfl rfl rfl rfl one_54 (Nat.le_of_ble_eq_true rfl) (.none rfl) rfl <| WL.nilR <| ?_
          refine WR.done (by kernel_rfl) ?_
          refine WE.to (L' := .row g [.int .i64 p.mr, .int .i64 p.ma, .slice ad88 (p.ls.length + 1) c88, .slice mad2 ms2.length mc2, .map (some gm), .int .i64 ((sumA p.ds : Nat) : Int)] :: (E88 ++ (.obj gm (.map esU cU) :: (En ++ (Em2 ++ (K ++ L)))))) (fun w hS => St.dropX (L := E88 ++ (.row g87 (RuL.cells ⟨m, adn, cn, ys⟩) :: .row g [.int .i64 p.mr, .int .i64 p.ma, .slice ad88 (p.ls.length + 1) c88, .slice mad2 ms2.length mc2, .map (some gm), .int .i64 ((sumA p.ds : Nat) : Int)] :: .obj gm (.map esU cU) :: .row g4 (mtL m) :: (En ++ (Em2 ++ (K ++ L))))) [.row g87 (RuL.cells ⟨m, adn, cn, ys⟩), .row g4 (mtL m)] hS) (WE.mid ⟨ad88, c88, E88⟩ hV88 (.cons rfl (.cons rfl (.cons rfl .nil))) (.refl _))
       ·
        rintro ⟨ad88, c88, E88⟩ hV88
        dsimp only at hV88
        dsimp only
        refine WC.seq <| WC.region <| WL.v (v_move rfl rfl) rfl <| WL.v (v_nilCheck rfl rfl) rfl <| WL.v (v_fieldAddr0 rfl rfl fld_385_4) rfl <| WL.v (v_load1 rfl rfl one_3 (cellAt (v := .int .i64 ((sumA p.ds : Nat) : Int)) rfl)) rfl <| WL.v (v_move rfl rfl) rfl <| WL.v (v_len_slice rfl rfl Tryz.underlying221) rfl <| ?_
        refine WL.v (v_add rfl rfl rfl (w_i64 (by omega) (by omega))) rfl ?_
        refine WL.v (v_nilCheck rfl rfl) rfl <| WL.v (v_fieldAddr0 rfl rfl fld_385_4) rfl <| WL.store1 rfl rfl rfl rfl one_3 (Nat.le_of_ble_eq_true rfl) (.none rfl) rfl <| WL.nt <| WC.seq <| WC.region <| WL.v (v_assign rfl rfl) rfl <| WL.nt <| WC.ret <| WE.ret1 (P := Tryz.prog) (.inl rfl) Tryz.results177 rfl <| ?_
        have hds : (p.ls ++ [(⟨m, adn, cn, ys⟩ : RuL)]).map RuL.d = p.ds ++ [⟨m, ys⟩] := (by rw [List.map_append]; rfl)
        have hfit : (⟨m, ys⟩ : RuD).Fit := (by rw [← hys]; exact fit_new hm hz hus)
        have hsA : ((sumA (p.ds ++ [(⟨m, ys⟩ : RuD)]) : Nat) : Int) = (sumA p.ds : Nat) + (ys.length : Int) := (by
          rw [sumA_append]
          show ((sumA p.ds + (ys.length + 0) : Nat) : Int) = _
          omega)
        have hu2 := haveM_add p.ds m ys
        exact fun w' h => ⟨true, ⟨p.mr, p.ma, ad88, c88, p.ls ++ [⟨m, adn, cn, ys⟩], mad2, mc2, ms2, some gm, esU, cU⟩, E88, Em2, [.obj gm (.map esU cU)], En ++ K, rfl, fun _ => by rw [hyes]; show _ = some (⟨p.mr, p.ma, (p.ls ++ [(⟨m, adn, cn, ys⟩ : RuL)]).map RuL.d⟩ : PlD); rw [hds], fun k => (by cases k),
          ⟨by dsimp only; rw [List.length_append, show rulesL (p.ls ++ [(⟨m, adn, cn, ys⟩ : RuL)]) = rulesL p.ls ++ RuL.cells ⟨m, adn, cn, ys⟩ from encL_snoc _ _ _]; exact hV88, hV2, .inr ⟨gm, rfl, rfl⟩, fun r hr => (by
            rcases List.mem_append.1 hr with hr | hr
            · exact (hA.own r hr).more
            · rw [List.mem_singleton.1 hr]; exact ⟨En, hVn, fun e he => List.mem_append_left _ he⟩),
          ⟨fun r hr => (by
            have hr : r ∈ (p.ls ++ [(⟨m, adn, cn, ys⟩ : RuL)]).map RuL.d := hr
            rw [hds] at hr
            rcases List.mem_append.1 hr with hr | hr
            · exact hA.ok.fit r hr
            · rw [List.mem_singleton.1 hr]; exact hfit), fun r hr => (by
            have hr : r ∈ (p.ls ++ [(⟨m, adn, cn, ys⟩ : RuL)]).map RuL.d := hr
            rw [hds] at hr
            rcases List.mem_append.1 hr with hr | hr
            · obtain ⟨f, hf, hq⟩ := hA.ok.mask r hr; exact ⟨f, hsub f hf, hq⟩
            · rw [List.mem_singleton.1 hr]; exact hhas), hnum, by
            show IMap KMt esU (haveM ((p.ls ++ [(⟨m, adn, cn, ys⟩ : RuL)]).map RuL.d))
            rw [hds, ← hu2]
            exact hMU⟩,
          by dsimp only; rw [List.length_append]; show ms2.length ≤ p.ls.length + 1; omega, by dsimp only; rw [List.length_append]; show ((p.ls.length + 1 : Nat) : Int) ≤ _; omega, rm3, by show ((sumA ((p.ls ++ [(⟨m, adn, cn, ys⟩ : RuL)]).map RuL.d) : Nat) : Int) ≤ p.ma; rw [hds, hsA]; omega, rm5⟩, by
          have e9 : PlL.cells ⟨p.mr, p.ma, ad88, c88, p.ls ++ [⟨m, adn, cn, ys⟩], mad2, mc2, ms2, some gm, esU, cU⟩ = [.int .i64 p.mr, .int .i64 p.ma, .slice ad88 (p.ls.length + 1) c88, .slice mad2 ms2.length mc2, .map (some gm), .int .i64 ((sumA p.ds : Nat) + (ys.length : Int))] := (by
            unfold PlL.cells
            dsimp only
            rw [← hsA, List.length_append]
            show _ = [_, _, _, _, _, Value.int .i64 ((sumA (p.ds ++ [(⟨m, ys⟩ : RuD)]) : Nat) : Int)]
            rw [← hds]
            rfl)
          rw [e9]
          exact St.permX (L := .row g [.int .i64 p.mr, .int .i64 p.ma, .slice ad88 (p.ls.length + 1) c88, .slice mad2 ms2.length mc2, .map (some gm), .int .i64 ((sumA p.ds : Nat) + (ys.length : Int))] :: (E88 ++ (.obj gm (.map esU cU) :: (En ++ (Em2 ++ (K ++ L)))))) h⟩
end Go.Proofs.YtmhahajadgkolaaGreatDoor
/- pile: Sum; cross and Cross. -/
namespace Go.Proofs.YtmhahajadgkolaaGreatDoor
open Go.RowKit

/-- What a sum of acts is: where it can be read. -/
def SumC (fn : FuncId) (sum : List Ac → List Ac → List Ac) : Prop := ∀ (w : World) (a b : Option Addr) (ac bc : Nat) (us vs : List Ac), Rg w a (actsL us) → Rg w b (actsL vs) → us.length ≤ 5000 → vs.length ≤ 5000 →
  Calls Tryz.prog fn #[.slice a us.length ac, .slice b vs.length bc] w fun e w' => ∃ ad c M, e = .returned (.slice ad (sum us vs).length c) ∧ (∀ w2, (∀ x ∈ M, Ent.holds w2 x) → Rg w2 a (actsL us) → Rg w2 b (actsL vs) → Rg w2 ad (actsL (sum us vs))) ∧ St (fun _ => False) w w' M
theorem Sum_own (w : World) (a b : Option Addr) (ac bc : Nat) (us vs : List Ac) (hA1 : Rg w a (actsL us)) (hB1 : Rg w b (actsL vs)) (h1 : us.length ≤ 5000) (h2 : vs.length ≤ 5000) :
    Calls Tryz.prog 96 #[.slice a us.length ac, .slice b vs.length bc] w fun e w' => ∃ ad c E, e = .returned (.slice ad (us ++ vs).length c) ∧ Vec 10 ad (us ++ vs).length c (actsL (us ++ vs)) E ∧ St (fun _ => False) w w' E := by
  refine enter Tryz.func96 rfl Tryz.ntmps96 rfl (St.start (fun _ => False) w) ?_
  refine WC.seq <| WC.region <| WL.v (v_assign rfl rfl) rfl <| WL.nt <| WC.seq <| WC.region <| WL.v (v_move rfl rfl) rfl <| WL.v (v_len_slice rfl rfl Tryz.underlying221) rfl <| WL.v (v_move rfl rfl) rfl <| WL.v (v_len_slice rfl rfl Tryz.underlying221) rfl <| ?_
  refine WL.v (v_add rfl rfl rfl (w_i64 (by omega) (by omega))) rfl ?_
  refine WL.makeN (m := 0) (c := us.length + vs.length) rfl rfl rfl (by omega) (by omega) (by omega) Tryz.underlying221 by_225 (by omega) (by omega) sz_225 zero_225 rfl (.none rfl) rfl rfl ?_
  intro g11 hg11
  generalize hZ : List.flatten _ = Z
  have hV : Vec 10 (some ⟨g11, 0, none⟩) 0 (us.length + vs.length) [] [.row g11 Z] := Vec.row (by rw [Nat.zero_mul]; rfl) (by rw [← hZ]; exact flat_len rfl _) (Nat.zero_le _)
  refine WL.to (L' := [.row g11 Z] ++ []) (fun w hS => by simpa using hS) ?_
  refine WL.v (v_assign rfl rfl) rfl <| WL.nt <| WC.seq <| WC.region <| WL.v (v_move rfl rfl) rfl <| WL.v (v_move rfl rfl) rfl <| ?_
  refine WL.appendL rfl rfl rfl Tryz.underlying221 Tryz.underlying221 sz_225 by_225 zero_225 rfl rfl hV (new := actsL us) (fun hp => by obtain ⟨b1, o1, e1, r1⟩ := hA1 (by intro h; have := actsL_len us; rw [h] at this; simp at this; omega); exact ⟨b1, o1, e1, rgIn (fun h => h) r1⟩) (actsL_len us) (encL_one acL_one us) (by omega) (.none rfl) rfl rfl ?_
  intro ad14 c14 E14 hV14 hr14
  refine WL.v (v_assign rfl rfl) rfl <| WL.nt <| WC.seq <| WC.region <| WL.v (v_move rfl rfl) rfl <| WL.v (v_move rfl rfl) rfl <| ?_
  refine WL.appendL rfl rfl rfl Tryz.underlying221 Tryz.underlying221 sz_225 by_225 zero_225 rfl rfl hV14 (new := actsL vs) (fun hp => by obtain ⟨b1, o1, e1, r1⟩ := hB1 (by intro h; have := actsL_len vs; rw [h] at this; simp at this; omega); exact ⟨b1, o1, e1, rgIn (fun h => h) r1⟩) (actsL_len vs) (encL_one acL_one vs) (by omega) (.none rfl) rfl rfl ?_
  intro ad17 c17 E17 hV17 hr17
  refine WL.v (v_assign rfl rfl) rfl <| WL.nt <| WC.ret <| WE.ret1 (P := Tryz.prog) (.inl rfl) Tryz.results96 rfl <| ?_
  have e1 : (us ++ vs).length = 0 + us.length + vs.length := (by rw [List.length_append]; omega)
  have e2 : actsL (us ++ vs) = [] ++ actsL us ++ actsL vs := (by show encL acL (us ++ vs) = _; rw [encL_append, List.nil_append])
  exact fun w' h => ⟨ad17, c17, E17, by rw [e1], by rw [e1, e2]; exact hV17, by simpa using h⟩
theorem sumC_app : SumC 96 appA := fun w a b ac bc us vs hA hB h1 h2 =>
  (Sum_own w a b ac bc us vs hA hB h1 h2).mono fun _ _ ⟨ad, c, E, he, hV, hS⟩ => ⟨ad, c, E, he, fun _ h2 _ _ => hV.rg h2, hS⟩
/-- Rules that can be read. -/
structure RsAt (w : World) (ad : Option Addr) (xs : List RuL) : Prop where
  rd : Rg w ad (rulesL xs)
  ok : ∀ r ∈ xs, Rg w r.ad (actsL r.acts)
structure RsFit (n : Nat) (xs : List RuL) : Prop where
  fit : ∀ r ∈ xs, r.d.Fit
  few : ∀ r ∈ xs, r.acts.length ≤ n
theorem RgS {q : Nat → Prop} {w0 w : World} {L : List Ent} {ad : Option Addr} {cs : List Value} (h : ∀ w, St q w0 w L → Rg w ad cs) (hS : St q w0 w L) (hn : cs ≠ []) : ∃ b o, ad = some ⟨b, o, none⟩ ∧ ∀ w, St q w0 w L → w.rangeAt b o cs := by
  obtain ⟨b, o, e, _⟩ := h w hS hn
  refine ⟨b, o, e, fun w' hS' => ?_⟩
  obtain ⟨b', o', e', hr⟩ := h w' hS' hn
  rw [e] at e'
  injection e' with e'
  injection e' with e1 e2
  subst e1 e2
  exact hr
/-- Another pile whose rules count as covering. -/
def butD (bo : Option Nat) (pb : PlL) : List RuD := match bo with | none => [] | some _ => pb.ds
structure ButAt (q : Nat → Prop) (w0 : World) (L : List Ent) (bo : Option Nat) (pb : PlL) : Prop where
  rd : ∀ gb, bo = some gb → ∀ w, St q w0 w L → PlR w gb pb
  ok : ∀ gb, bo = some gb → pb.Ok ∧ pb.ms.length ≤ 1000000000
def ptrB (bo : Option Nat) : Value := .pointer (bo.map fun g => ⟨g, 0, none⟩)
theorem crossD_cons (but : List RuD) (sum : List Ac → List Ac → List Ac) (b : List RuD) (r : RuD) (a : List RuD) (p : PlD) : crossD but sum b (r :: a) p = (crossI but sum r b p).bind (crossD but sum b a) := by
  rw [crossD]
  cases crossI but sum r b p <;> rfl
structure CrS where
  i : Nat
  p : PlL
  E : List Ent
  Em : List Ent
  H : List Ent
  K : List Ent
theorem ru_match (r : RuL) : seg r.cells 0 18 = mtL r.m := ruL_match _
set_option maxRecDepth 8000 in
set_option maxHeartbeats 8000000 in
theorem cross_c {q : Nat → Prop} {w0 w : World} {L E Em H K : List Ent} (g : Nat) (p : PlL) (bo : Option Nat) (pb : PlL) (aa ba : Option Addr) (ac bc : Nat) (xs ys : List RuL) (fn : FuncId) (ck_fn : callOk Tryz.prog fn) (sum : List Ac → List Ac → List Ac) (hsum : SumC fn sum) (hso : SumOk sum) (hsl : ∀ us vs, (sum us vs).length ≤ us.length + vs.length)
    (hA : PlAt p E Em H K) (hS : St q w0 w (.row g p.cells :: (E ++ (Em ++ (H ++ (K ++ L)))))) (hbut : ButAt q w0 L bo pb) (ha : ∀ w, St q w0 w L → RsAt w aa xs) (hb : ∀ w, St q w0 w L → RsAt w ba ys) (hfa : RsFit 5000 xs) (hfb : RsFit 5000 ys) (hna : xs.length ≤ 100000000) (hnb : ys.length ≤ 100000000) :
    Calls Tryz.prog 253 #[.pointer (some ⟨g, 0, none⟩), ptrB bo, .slice aa xs.length ac, .slice ba ys.length bc, .func (.func fn) #[] #[]] w fun e w' => ∃ (b : Bool) (p' : PlL) (E' Em' H' K' : List Ent), e = .returned (.bool b) ∧ crossD (butD bo pb) sum (ys.map RuL.d) (xs.map RuL.d) p.d = (if b then some p'.d else none) ∧ (p'.mr = p.mr ∧ p'.ma = p.ma) ∧ PlAt p' E' Em' H' K' ∧ St q w0 w' (.row g p'.cells :: (E' ++ (Em' ++ (H' ++ (K' ++ L))))) := by
  have hS0 : St q w0 w L := hS.dropX (.row g p.cells :: (E ++ (Em ++ (H ++ K))))
  generalize hC : crossD (butD bo pb) sum (ys.map RuL.d) (xs.map RuL.d) p.d = C
  generalize hmr : p.mr = MR
  generalize hma : p.ma = MA
  obtain ⟨b41, hb41⟩ : ∃ b, bo.isSome = b := ⟨_, rfl⟩
  refine enter Tryz.func253 rfl Tryz.ntmps253 rfl hS ?_
  refine WC.seq <| WC.region <| WL.v (v_assign rfl rfl) rfl <| WL.nt <| WC.seq <| WC.seq <| WC.region <| WL.v (v_move rfl rfl) rfl <| WL.v (v_len_slice rfl rfl Tryz.underlying54) rfl <| WL.v (v_move rfl rfl) rfl <| WL.nt <| WC.block <| ?_
  refine WC.loop (fun x : CrS => [(19, .int .i64 x.i), (18, .int .i64 xs.length), (17, .slice aa xs.length ac), (0, .pointer (some ⟨g, 0, none⟩)), (1, ptrB bo), (3, .slice ba ys.length bc), (4, .func (.func fn) #[] #[]), (10, .bool false)]) (fun x => .row g x.p.cells :: (x.E ++ (x.Em ++ (x.H ++ (x.K ++ L))))) (fun x => x.i ≤ xs.length ∧ crossD (butD bo pb) sum (ys.map RuL.d) ((xs.drop x.i).map RuL.d) x.p.d = C ∧ (x.p.mr = MR ∧ x.p.ma = MA) ∧ PlAt x.p x.E x.Em x.H x.K) (fun x => xs.length - x.i) ⟨0, p, E, Em, H, K⟩ ⟨Nat.zero_le _, by dsimp only; rw [List.drop_zero]; exact hC, ⟨hmr, hma⟩, hA⟩ (.cons rfl (.cons rfl (.cons rfl (.cons rfl (.cons rfl (.cons rfl (.cons rfl (.cons rfl .nil)))))))) (.refl _) ?_
  rintro ⟨i, p1, E1, Em1, H1, K1⟩ ⟨hi, hc, ⟨hm1, hm2⟩, hA1⟩
  dsimp only at hi hc hm1 hm2 hA1
  dsimp only
  refine WC.seq <| WC.region <| ?_
  refine WL.test (v_lss rfl rfl rfl) (.none rfl) rfl rfl (fun h20 => ?_) (fun h20 => ?_)
  ·
   refine WL.nt <| WC.seq <| WC.cond_t rfl <| WC.skip <| WE.then_n <| ?_
   refine WC.cut (fun x : CrS => [(19, .int .i64 i), (18, .int .i64 xs.length), (17, .slice aa xs.length ac), (0, .pointer (some ⟨g, 0, none⟩)), (1, ptrB bo), (3, .slice ba ys.length bc), (4, .func (.func fn) #[] #[]), (10, .bool false)]) (fun x => .row g x.p.cells :: (x.E ++ (x.Em ++ (x.H ++ (x.K ++ L))))) (fun x => crossD (butD bo pb) sum (ys.map RuL.d) ((xs.drop (i + 1)).map RuL.d) x.p.d = C ∧ (x.p.mr = MR ∧ x.p.ma = MA) ∧ PlAt x.p x.E x.Em x.H x.K) ?_ ?_
   ·
    refine WC.block <| WC.seq <| WC.region <| ?_
    obtain ⟨r, hr⟩ : ∃ x, xs[i]? = some x := ⟨xs[i]'(by omega), List.getElem?_eq_getElem _⟩
    have hrm := List.mem_of_getElem? hr
    have hrf := hfa.fit r hrm
    have hrn := hfa.few r hrm
    obtain ⟨b1, o1, ea1, r1⟩ := RgS (fun w hS => (ha w hS).rd) hS0 (by intro hh; have := rulesL_len xs; rw [hh] at this; simp at this; omega)
    rw [drop_cons hr, List.map_cons, crossD_cons] at hc
    refine WL.v ((v_indexAddr (b := b1) (off := o1) (lo := i) rfl (by show some (Value.slice aa _ _) = _; rw [ea1]) rfl Tryz.underlying54 sz_223 rfl (by omega))) rfl ?_
    refine WL.v (v_loadN (cs := r.cells) rfl rfl many_223 (RuL.len r) (fun w' hS' => Rg.seg RuL.len (r1 w' (hS'.dropX (.row g p1.cells :: (E1 ++ (Em1 ++ (H1 ++ K1)))))) hr)) rfl <| WL.alloc rfl zero_223 (.none rfl) rfl rfl <| ?_
    intro g12 hg12
    refine WL.storeW rfl rfl rfl rfl many_223 rfl rfl (.none rfl) rfl <| WL.as (L' := .row g12 r.cells :: .row g p1.cells :: (E1 ++ (Em1 ++ (H1 ++ (K1 ++ L))))) rfl <| WL.nt <| WC.seq <| WC.region <| WL.v (v_move rfl rfl) rfl <| WL.v (v_len_slice rfl rfl Tryz.underlying54) rfl <| WL.v (v_move rfl rfl) rfl <| WL.nt <| WC.block <| ?_
    refine WC.loop (fun x : CrS => [(25, .int .i64 x.i), (24, .int .i64 ys.length), (23, .slice ba ys.length bc), (12, .pointer (some ⟨g12, 0, none⟩)), (19, .int .i64 i), (18, .int .i64 xs.length), (17, .slice aa xs.length ac), (0, .pointer (some ⟨g, 0, none⟩)), (1, ptrB bo), (3, .slice ba ys.length bc), (4, .func (.func fn) #[] #[]), (10, .bool false)]) (fun x => .row g12 r.cells :: .row g x.p.cells :: (x.E ++ (x.Em ++ (x.H ++ (x.K ++ L))))) (fun x => x.i ≤ ys.length ∧ (crossI (butD bo pb) sum r.d ((ys.drop x.i).map RuL.d) x.p.d).bind (crossD (butD bo pb) sum (ys.map RuL.d) ((xs.drop (i + 1)).map RuL.d)) = C ∧ (x.p.mr = MR ∧ x.p.ma = MA) ∧ PlAt x.p x.E x.Em x.H x.K) (fun x => ys.length - x.i) ⟨0, p1, E1, Em1, H1, K1⟩ ⟨Nat.zero_le _, by dsimp only; rw [List.drop_zero]; exact hc, ⟨hm1, hm2⟩, hA1⟩ (.cons rfl (.cons rfl (.cons rfl (.cons rfl (.cons rfl (.cons rfl (.cons rfl (.cons rfl (.cons rfl (.cons rfl (.cons rfl (.cons rfl .nil)))))))))))) (.refl _) ?_
    rintro ⟨j, p2, E2, Em2, H2, K2⟩ ⟨hj, hd, ⟨hn1, hn2⟩, hA2⟩
    dsimp only at hj hd hn1 hn2 hA2
    dsimp only
    refine WC.seq <| WC.region <| ?_
    refine WL.test (v_lss rfl rfl rfl) (.none rfl) rfl rfl (fun h26 => ?_) (fun h26 => ?_)
    ·
     refine WL.nt <| WC.seq <| WC.cond_t rfl <| WC.skip <| WE.then_n <| WC.seq <| WC.block <| WC.seq <| WC.region <| ?_
     obtain ⟨s, hs⟩ : ∃ x, ys[j]? = some x := ⟨ys[j]'(by omega), List.getElem?_eq_getElem _⟩
     have hsm := List.mem_of_getElem? hs
     have hsf := hfb.fit s hsm
     have hsn := hfb.few s hsm
     obtain ⟨b2, o2, ea2, r2⟩ := RgS (fun w hS => (hb w hS).rd) hS0 (by intro hh; have := rulesL_len ys; rw [hh] at this; simp at this; omega)
     rw [drop_cons hs, List.map_cons, crossI] at hd
     refine WL.v ((v_indexAddr (b := b2) (off := o2) (lo := j) rfl (by show some (Value.slice ba _ _) = _; rw [ea2]) rfl Tryz.underlying54 sz_223 rfl (by omega))) rfl ?_
     refine WL.v (v_loadN (cs := s.cells) rfl rfl many_223 (RuL.len s) (fun w' hS' => Rg.seg RuL.len (r2 w' (hS'.dropX (.row g12 r.cells :: .row g p2.cells :: (E2 ++ (Em2 ++ (H2 ++ K2)))))) hs)) rfl <| WL.alloc rfl zero_223 (.none rfl) rfl rfl <| ?_
     intro g14 hg14
     refine WL.storeW rfl rfl rfl rfl many_223 rfl rfl (.none rfl) rfl <| WL.as (L' := .row g14 s.cells :: .row g12 r.cells :: .row g p2.cells :: (E2 ++ (Em2 ++ (H2 ++ (K2 ++ L))))) rfl <| WL.nt <| WC.seq <| WC.region <| WL.v (v_fieldAddr0 rfl rfl fld_223_0) rfl <| WL.v (v_loadN rfl rfl many_220 rfl (segAt (g := g12) (m := 18) (new := mtL r.m) (ru_match r))) rfl <| WL.v (v_fieldAddr0 rfl rfl fld_223_0) rfl <| WL.v (v_loadN rfl rfl many_220 rfl (segAt (g := g14) (m := 18) (new := mtL s.m) (ru_match s))) rfl <| WL.call rfl rfl ck_175 (.none rfl) rfl rfl <| ?_
     intro w hS
     refine Calls.then (MAnd_c w r.m s.m hrf.isIn.m hsf.isIn.m) hS ?_
     refine WL.v (v_move rfl rfl) rfl <| WL.v (v_extract rfl rfl rfl) rfl <| WL.v (v_extract rfl rfl rfl) rfl <| WL.alloc rfl zero_220 (.none rfl) rfl rfl <| ?_
     intro g15 hg15
     refine WL.storeW rfl rfl rfl rfl many_220 rfl rfl (.none rfl) rfl <| WL.as (L' := .row g15 (mtL ((r.m.and s.m).getD mt0)) :: .row g14 s.cells :: .row g12 r.cells :: .row g p2.cells :: (E2 ++ (Em2 ++ (H2 ++ (K2 ++ L))))) rfl <| WL.v (v_assign rfl rfl) rfl <| WL.nt <| ?_
     refine WC.cut (fun _ : Unit => [(15, .pointer (some ⟨g15, 0, none⟩)), (14, .pointer (some ⟨g14, 0, none⟩)), (25, .int .i64 j), (24, .int .i64 ys.length), (23, .slice ba ys.length bc), (12, .pointer (some ⟨g12, 0, none⟩)), (19, .int .i64 i), (18, .int .i64 xs.length), (17, .slice aa xs.length ac), (0, .pointer (some ⟨g, 0, none⟩)), (1, ptrB bo), (3, .slice ba ys.length bc), (4, .func (.func fn) #[] #[]), (10, .bool false)]) (fun _ => .row g15 (mtL ((r.m.and s.m).getD mt0)) :: .row g14 s.cells :: .row g12 r.cells :: .row g p2.cells :: (E2 ++ (Em2 ++ (H2 ++ (K2 ++ L))))) (fun _ => ∃ m, r.m.and s.m = some m ∧ ¬ (covD (butD bo pb) m ∨ covD p2.d.out m)) ?_ ?_
     ·
      refine WC.seq <| WC.region <| WL.v (v_move rfl rfl) rfl <| ?_
      generalize hb36 : (r.m.and s.m).isSome = bb
      cases bb
      ·
       refine WL.v (v_not rfl rfl rfl) rfl <| WL.v (v_move rfl rfl) rfl <| ?_
       iterate 7 refine WL.sk rfl ?_
       refine WL.v (v_pick_t rfl rfl rfl) rfl <| WL.v (v_move rfl rfl) rfl <| ?_
       iterate 3 refine WL.sk rfl ?_
       refine WL.v (v_pick_t rfl rfl rfl) rfl <| WL.nt <| WC.cond_t rfl <| WC.exit <| WE.then_exit <| WE.block_hit <| WE.then_n <| WC.region <| ?_
       refine WL.v (v_add rfl rfl rfl (w_i64 (by omega) (by omega))) rfl ?_
       refine WL.v (v_move rfl rfl) rfl <| WL.nil <| ?_
       have hno : r.d.m.and s.d.m = none := (by cases h : r.m.and s.m with | none => exact h | some x => rw [h] at hb36; cases hb36)
       rw [hno] at hd
       exact WE.next ⟨j + 1, p2, E2, Em2, H2, K2⟩ (by dsimp only; omega) ⟨by dsimp only; omega, hd, ⟨hn1, hn2⟩, hA2⟩ (.int rfl (by dsimp only; omega) (.cons rfl (.cons rfl (.cons rfl (.cons rfl (.cons rfl (.cons rfl (.cons rfl (.cons rfl (.cons rfl (.cons rfl (.cons rfl .nil)))))))))))) (by repeat (first | exact List.Sublist.refl _ | refine List.Sublist.cons _ ?_))
      ·
       have hmm : ∃ m, r.m.and s.m = some m := (by cases h : r.m.and s.m with | none => rw [h] at hb36; cases hb36 | some x => exact ⟨x, rfl⟩)
       obtain ⟨m, hmm⟩ := hmm
       rw [hmm]
       obtain ⟨hmeet, hmb⟩ := and_some hmm
       have hmI : m.In := (by rw [hmb]; exact Mt.both_in hrf.isIn.m hsf.isIn.m)
       have hmZ : m.Nz := (by rw [hmb]; exact Mt.both_nz hrf.isIn.nz hsf.isIn.nz)
       have hmd : r.d.m.and s.d.m = some m := hmm
       rw [hmd] at hd
       dsimp only [Option.getD] at hd ⊢
       refine WL.v (v_not rfl rfl rfl) rfl <| WL.v (v_move rfl rfl) rfl <| WL.val (v_move rfl rfl) (.some rfl rfl rfl) rfl rfl <| ?_
       refine WL.val (v_neq_nil b41 rfl rfl Tryz.underlying310 (by rw [← hb41]; cases bo <;> rfl)) (.some rfl rfl rfl) rfl rfl ?_
       cases b41
       ·
        refine WL.val (v_move rfl rfl) (.some rfl rfl rfl) rfl rfl ?_
        iterate 3 refine WL.sk rfl ?_
        refine WL.val (v_pick_f rfl rfl rfl) (.some rfl rfl rfl) rfl rfl <| WL.v (v_pick_f rfl rfl rfl) rfl <| WL.v (v_move rfl rfl) rfl <| WL.val (v_move rfl rfl) (.some rfl rfl rfl) rfl rfl <| WL.val (v_loadN rfl rfl many_220 rfl allAt) (.some rfl rfl rfl) rfl rfl <| WL.call rfl rfl ck_176 (.some rfl rfl rfl) rfl rfl <| ?_
        intro w hS
        refine Calls.then (Covers_c w g p2 m (hA2.r hS (by simp) (fun e he => by simp [he]) (fun e he => by simp [he])) hA2.ok hmI (by have := hA2.room; omega)) hS ?_
        generalize hb51 : decide (covD p2.ds m) = bb
        cases bb
        ·
         refine WL.v (v_pick_f rfl rfl rfl) rfl <| WL.nt <| WC.cond_f rfl <| WC.skip <| ?_
         refine WE.mid () ⟨m, rfl, fun k => ?_⟩ (.cons rfl (.cons rfl (.cons rfl (.cons rfl (.cons rfl (.cons rfl (.cons rfl (.cons rfl (.cons rfl (.cons rfl (.cons rfl (.cons rfl (.cons rfl (.cons rfl .nil)))))))))))))) (.refl _)
         rcases k with k | k
         · have e : bo = none := (by cases h : bo with | none => rfl | some x => rw [h] at hb41; cases hb41)
           rw [e] at k
           obtain ⟨x, hx, _⟩ := k
           cases hx
         · exact of_decide_eq_false hb51 k
        ·
         refine WL.v (v_pick_f rfl rfl rfl) rfl <| WL.nt <| WC.cond_t rfl <| WC.exit <| WE.then_exit <| WE.block_hit <| WE.then_n <| WC.region <| ?_
         refine WL.v (v_add rfl rfl rfl (w_i64 (by omega) (by omega))) rfl ?_
         refine WL.v (v_move rfl rfl) rfl <| WL.nil <| ?_
         rw [if_pos (.inr (of_decide_eq_true hb51))] at hd
         exact WE.next ⟨j + 1, p2, E2, Em2, H2, K2⟩ (by dsimp only; omega) ⟨by dsimp only; omega, hd, ⟨hn1, hn2⟩, hA2⟩ (.int rfl (by dsimp only; omega) (.cons rfl (.cons rfl (.cons rfl (.cons rfl (.cons rfl (.cons rfl (.cons rfl (.cons rfl (.cons rfl (.cons rfl (.cons rfl .nil)))))))))))) (by repeat (first | exact List.Sublist.refl _ | refine List.Sublist.cons _ ?_))
       ·
        refine WL.val (v_move rfl rfl) (.some rfl rfl rfl) rfl rfl <| WL.val (v_move rfl rfl) (.some rfl rfl rfl) rfl rfl <| WL.val (v_loadN rfl rfl many_220 rfl allAt) (.some rfl rfl rfl) rfl rfl <| ?_
        obtain ⟨gb, hgb⟩ := Option.isSome_iff_exists.1 hb41
        have hbd : butD bo pb = pb.ds := (by rw [hgb]; rfl)
        refine WL.call rfl rfl ck_176 (.some rfl rfl rfl) rfl rfl ?_
        intro w1 hS1
        have hbo := hbut.ok gb hgb
        rw [show ptrB bo = .pointer (some ⟨gb, 0, none⟩) by rw [hgb]; rfl]
        refine Calls.then (Covers_c w1 gb pb m (hbut.rd gb hgb w1 (hS1.dropX (.row g15 (mtL m) :: .row g14 s.cells :: .row g12 r.cells :: .row g p2.cells :: (E2 ++ (Em2 ++ (H2 ++ K2)))))) hbo.1 hmI hbo.2) hS1 ?_
        generalize hb45 : decide (covD pb.ds m) = bb
        cases bb
        ·
         refine WL.val (v_pick_t rfl rfl rfl) (.some rfl rfl rfl) rfl rfl <| WL.v (v_pick_f rfl rfl rfl) rfl <| WL.v (v_move rfl rfl) rfl <| WL.val (v_move rfl rfl) (.some rfl rfl rfl) rfl rfl <| WL.val (v_loadN rfl rfl many_220 rfl allAt) (.some rfl rfl rfl) rfl rfl <| WL.call rfl rfl ck_176 (.some rfl rfl rfl) rfl rfl <| ?_
         intro w hS
         refine Calls.then (Covers_c w g p2 m (hA2.r hS (by simp) (fun e he => by simp [he]) (fun e he => by simp [he])) hA2.ok hmI (by have := hA2.room; omega)) hS ?_
         generalize hb51 : decide (covD p2.ds m) = bb
         cases bb
         ·
          refine WL.v (v_pick_f rfl rfl rfl) rfl <| WL.nt <| WC.cond_f rfl <| WC.skip <| ?_
          refine WE.mid () ⟨m, rfl, fun k => ?_⟩ (.cons rfl (.cons rfl (.cons rfl (.cons rfl (.cons rfl (.cons rfl (.cons rfl (.cons rfl (.cons rfl (.cons rfl (.cons rfl (.cons rfl (.cons rfl (.cons rfl .nil)))))))))))))) (.refl _)
          rcases k with k | k
          · rw [hbd] at k
            exact of_decide_eq_false hb45 k
          · exact of_decide_eq_false hb51 k
         ·
          refine WL.v (v_pick_f rfl rfl rfl) rfl <| WL.nt <| WC.cond_t rfl <| WC.exit <| WE.then_exit <| WE.block_hit <| WE.then_n <| WC.region <| ?_
          refine WL.v (v_add rfl rfl rfl (w_i64 (by omega) (by omega))) rfl ?_
          refine WL.v (v_move rfl rfl) rfl <| WL.nil <| ?_
          rw [if_pos (.inr (of_decide_eq_true hb51))] at hd
          exact WE.next ⟨j + 1, p2, E2, Em2, H2, K2⟩ (by dsimp only; omega) ⟨by dsimp only; omega, hd, ⟨hn1, hn2⟩, hA2⟩ (.int rfl (by dsimp only; omega) (.cons rfl (.cons rfl (.cons rfl (.cons rfl (.cons rfl (.cons rfl (.cons rfl (.cons rfl (.cons rfl (.cons rfl (.cons rfl .nil)))))))))))) (by repeat (first | exact List.Sublist.refl _ | refine List.Sublist.cons _ ?_))
        ·
         refine WL.val (v_pick_t rfl rfl rfl) (.some rfl rfl rfl) rfl rfl <| WL.v (v_pick_f rfl rfl rfl) rfl <| WL.v (v_move rfl rfl) rfl <| ?_
         iterate 3 refine WL.sk rfl ?_
         refine WL.v (v_pick_t rfl rfl rfl) rfl <| WL.nt <| WC.cond_t rfl <| WC.exit <| WE.then_exit <| WE.block_hit <| WE.then_n <| WC.region <| ?_
         refine WL.v (v_add rfl rfl rfl (w_i64 (by omega) (by omega))) rfl ?_
         refine WL.v (v_move rfl rfl) rfl <| WL.nil <| ?_
         rw [if_pos (.inl (by rw [hbd]; exact of_decide_eq_true hb45))] at hd
         exact WE.next ⟨j + 1, p2, E2, Em2, H2, K2⟩ (by dsimp only; omega) ⟨by dsimp only; omega, hd, ⟨hn1, hn2⟩, hA2⟩ (.int rfl (by dsimp only; omega) (.cons rfl (.cons rfl (.cons rfl (.cons rfl (.cons rfl (.cons rfl (.cons rfl (.cons rfl (.cons rfl (.cons rfl (.cons rfl .nil)))))))))))) (by repeat (first | exact List.Sublist.refl _ | refine List.Sublist.cons _ ?_))
     ·
      rintro _ ⟨m, hmm, hncov⟩
      rw [hmm]
      obtain ⟨hmeet, hmb⟩ := and_some hmm
      have hmI : m.In := (by rw [hmb]; exact Mt.both_in hrf.isIn.m hsf.isIn.m)
      have hmZ : m.Nz := (by rw [hmb]; exact Mt.both_nz hrf.isIn.nz hsf.isIn.nz)
      have hmd : r.d.m.and s.d.m = some m := hmm
      rw [hmd] at hd
      dsimp only [Option.getD] at hd ⊢
      rw [if_neg hncov] at hd
      refine WC.seq <| WC.seq <| WC.held ([.row g15 (mtL m), .row g14 s.cells, .row g12 r.cells]) mixed <| ?_
      refine WRH.first (g := 3) [0, 1, 2, 3, 4, 5, 6] (by kernel_rfl) (by kernel_rfl) (fun w hS => hS.sub (by repeat (first | exact List.Sublist.refl _ | exact List.nil_sublist _ | refine List.Sublist.cons_cons _ ?_ | refine List.Sublist.cons _ ?_ | refine List.sublist_append_of_sublist_right ?_))) ?_
      refine WH.val (v_move rfl rfl) (.none rfl) rfl rfl <| WH.val (v_loadN rfl rfl many_220 rfl allAt) (.none rfl) rfl rfl <| WH.val (v_move rfl rfl) (.none rfl) rfl rfl <| WH.val (v_fieldAddr0 rfl rfl fld_223_1) (.none rfl) rfl rfl <| WH.val (v_load1 rfl rfl one_221 (cellAt (v := .slice r.ad r.acts.length r.c) (ruC_acts r))) (.none rfl) rfl rfl <| WH.val (v_fieldAddr0 rfl rfl fld_223_1) (.none rfl) rfl rfl <| WH.val (v_load1 rfl rfl one_221 (cellAt (v := .slice s.ad s.acts.length s.c) (ruC_acts s))) (.none rfl) rfl rfl <| WH.nil <| ?_
      refine WRH.one (g := 2) 7 (by kernel_rfl) ?_
      refine WL.callV rfl rfl rfl ck_fn (.none rfl) rfl rfl ?_
      intro w1 hS1
      have hSL := hS1.dropX (L' := L) (.row g15 (mtL m) :: .row g14 s.cells :: .row g12 r.cells :: .row g p2.cells :: (E2 ++ (Em2 ++ (H2 ++ K2))))
      refine (hsum w1 r.ad s.ad r.c s.c r.acts s.acts ((ha w1 hSL).ok r hrm) ((hb w1 hSL).ok s hsm) hrn hsn).mono ?_
      rintro e w' ⟨sad, sc, M, rfl, hrd, hS'⟩
      refine ⟨_, .row g15 (mtL m) :: .row g14 s.cells :: .row g12 r.cells :: (M ++ (.row g p2.cells :: (E2 ++ (Em2 ++ (H2 ++ (K2 ++ L)))))), rfl, (hS1.join hS').permX, ?_⟩
      refine WL.nilH (fun w hS => hS.sub (by repeat (first | exact List.Sublist.refl _ | exact List.nil_sublist _ | refine List.Sublist.cons_cons _ ?_ | refine List.Sublist.cons _ ?_ | refine List.sublist_append_of_sublist_right ?_))) ?_
      refine WRH.one (g := 1) 8 (by kernel_rfl) ?_
      refine WL.call rfl rfl ck_177 (.none rfl) rfl rfl ?_
      intro w1 hS1
      have hlen := hsl r.acts s.acts
      refine (Add_c (L := M ++ (.row g15 (mtL m) :: .row g14 s.cells :: .row g12 r.cells :: L)) g p2 m sad sc (sum r.acts s.acts) hA2 hS1.permX hmI hmZ (fun w2 hS2 => ?_) (sum_three hso hrf hsf) (by omega)).mono ?_
      · have hSL := hS2.dropX (L' := L) (.row g p2.cells :: (E2 ++ (Em2 ++ (H2 ++ (K2 ++ (M ++ [.row g15 (mtL m), .row g14 s.cells, .row g12 r.cells]))))))
        exact hrd w2 (fun x hx => hS2.holds x (by simp [hx])) ((ha w2 hSL).ok r hrm) ((hb w2 hSL).ok s hsm)
      rintro e w' ⟨b61, p3, E3, Em3, H3, K3, rfl, hyes, hno, hA3, hS'⟩
      refine ⟨_, .row g15 (mtL m) :: .row g14 s.cells :: .row g12 r.cells :: .row g p3.cells :: (E3 ++ (Em3 ++ (H3 ++ (K3 ++ (M ++ L))))), rfl, hS'.permX, ?_⟩
      skip
      cases b61
      ·
       refine WL.nilH (fun w hS => hS.sub (by repeat (first | exact List.Sublist.refl _ | exact List.nil_sublist _ | refine List.Sublist.cons_cons _ ?_ | refine List.Sublist.cons _ ?_ | refine List.sublist_append_of_sublist_right ?_))) ?_
       refine WRH.first (g := 0) [9] (by kernel_rfl) (by kernel_rfl) (fun w hS => hS.sub (by repeat (first | exact List.Sublist.refl _ | exact List.nil_sublist _ | refine List.Sublist.cons_cons _ ?_ | refine List.Sublist.cons _ ?_ | refine List.sublist_append_of_sublist_right ?_))) ?_
       refine WH.val (v_not rfl rfl rfl) (.none rfl) rfl rfl <| WH.nil <| ?_
       refine WRH.done (by kernel_rfl) ?_
       refine WE.then_n <| WC.cond_t rfl <| WC.seq <| WC.region <| WL.v (v_assign rfl rfl) rfl <| WL.nt <| WC.ret <| WE.then_ret <| WE.block_ret <| WE.then_ret <| WE.then_ret <| WE.block_ret <| WE.block_ret <| WE.then_ret <| ?_
       refine WE.then_ret <| WE.block_ret <| WE.then_ret <| WE.ret1 (P := Tryz.prog) (.inl rfl) Tryz.results253 rfl <| ?_
       obtain ⟨hno1, hno2⟩ := hno rfl
       have hno1 : p2.d.add m (sum r.d.acts s.d.acts) = none := hno1
       rw [hno1] at hd
       dsimp only [Option.bind] at hd
       have e1 : p3.mr = p.mr ∧ p3.ma = p.ma := ⟨(congrArg PlD.mr hno2 :).trans (hn1.trans hmr.symm), (congrArg PlD.ma hno2 :).trans (hn2.trans hma.symm)⟩
       exact fun w' h => ⟨false, p3, E3, Em3, H3, K3, rfl, hd.symm, ⟨e1.1.trans hmr, e1.2.trans hma⟩, hA3, h.dropX (.row g15 (mtL m) :: .row g14 s.cells :: .row g12 r.cells :: M)⟩
      ·
       refine WL.nilH (fun w hS => hS.sub (by repeat (first | exact List.Sublist.refl _ | exact List.nil_sublist _ | refine List.Sublist.cons_cons _ ?_ | refine List.Sublist.cons _ ?_ | refine List.sublist_append_of_sublist_right ?_))) ?_
       refine WRH.first (g := 0) [9] (by kernel_rfl) (by kernel_rfl) (fun w hS => hS.sub (by repeat (first | exact List.Sublist.refl _ | exact List.nil_sublist _ | refine List.Sublist.cons_cons _ ?_ | refine List.Sublist.cons _ ?_ | refine List.sublist_append_of_sublist_right ?_))) ?_
       refine WH.val (v_not rfl rfl rfl) (.none rfl) rfl rfl <| WH.nil <| ?_
       refine WRH.done (by kernel_rfl) ?_
       refine WE.then_n <| WC.cond_f rfl <| WC.skip <| WE.then_n <| WC.seq <| WC.region <| ?_
       have hyes1 : p2.d.add m (sum r.d.acts s.d.acts) = some p3.d := hyes rfl
       rw [hyes1] at hd
       dsimp only at hd
       have hq := PlD.add_some hyes1
       have e1 : p3.mr = MR ∧ p3.ma = MA := ⟨(congrArg PlD.mr hq :).trans hn1, (congrArg PlD.ma hq :).trans hn2⟩
       obtain ⟨b66, hbe⟩ : ∃ c : Bool, c = true ↔ mtL m = mtL r.m := ⟨@decide _ (Classical.propDecidable _), @decide_eq_true_iff _ (Classical.propDecidable _)⟩
       refine WL.v (v_loadN rfl rfl many_220 rfl allAt) rfl <| WL.v (v_fieldAddr0 rfl rfl fld_223_0) rfl <| WL.v (v_loadN rfl rfl many_220 rfl (segAt (g := g12) (m := 18) (new := mtL r.m) (ru_match r))) rfl <| WL.v (v_eql_aggD (b := b66) rfl rfl rfl eqk_220 eqg_220 rfl rfl hbe) rfl <| ?_
       cases b66
       ·
        refine WL.nt <| WC.cond_f rfl <| WC.skip <| WE.block_n <| WE.then_n <| WC.region <| ?_
        refine WL.v (v_add rfl rfl rfl (w_i64 (by omega) (by omega))) rfl ?_
        refine WL.v (v_move rfl rfl) rfl <| WL.nil <| ?_
        rw [if_neg (fun k : m.eqv r.d.m => by have := hbe.2 (mtL_iff.2 k); cases this)] at hd
        refine WE.to (L' := .row g12 r.cells :: .row g p3.cells :: (E3 ++ (Em3 ++ (H3 ++ ((M ++ K3) ++ L))))) (fun w hS => hS.dropX [.row g15 (mtL m), .row g14 s.cells]) ?_
        exact WE.next ⟨j + 1, p3, E3, Em3, H3, M ++ K3⟩ (by dsimp only; omega) ⟨by dsimp only; omega, hd, e1, ⟨hA3.out, hA3.masks, hA3.map, fun r hr => (hA3.own r hr).more, hA3.ok, hA3.room⟩⟩ (.int rfl (by dsimp only; omega) (.cons rfl (.cons rfl (.cons rfl (.cons rfl (.cons rfl (.cons rfl (.cons rfl (.cons rfl (.cons rfl (.cons rfl (.cons rfl .nil)))))))))))) (.refl _)
       ·
        refine WL.nt <| WC.cond_t rfl <| WC.exit <| WE.block_miss rfl <| WE.then_exit <| WE.then_exit <| WE.block_hit <| WE.block_n <| ?_
        rw [if_pos (show m.eqv r.d.m from mtL_iff.1 (hbe.1 rfl))] at hd
        refine WE.to (L' := .row g p3.cells :: (E3 ++ (Em3 ++ (H3 ++ ((M ++ K3) ++ L))))) (fun w hS => hS.dropX [.row g15 (mtL m), .row g14 s.cells, .row g12 r.cells]) ?_
        exact WE.mid ⟨i, p3, E3, Em3, H3, M ++ K3⟩ ⟨hd, e1, ⟨hA3.out, hA3.masks, hA3.map, fun r hr => (hA3.own r hr).more, hA3.ok, hA3.room⟩⟩ (.cons rfl (.cons rfl (.cons rfl (.cons rfl (.cons rfl (.cons rfl (.cons rfl (.cons rfl .nil)))))))) (.refl _)
    ·
     refine WL.nt <| WC.seq <| WC.cond_f rfl <| WC.exit <| WE.then_exit <| WE.then_exit <| WE.block_hit <| WE.block_n <| ?_
     obtain rfl : j = ys.length := (by omega)
     rw [List.drop_length] at hd
     exact WE.mid ⟨i, p2, E2, Em2, H2, K2⟩ ⟨hd, ⟨hn1, hn2⟩, hA2⟩ (.cons rfl (.cons rfl (.cons rfl (.cons rfl (.cons rfl (.cons rfl (.cons rfl (.cons rfl .nil)))))))) (by repeat (first | exact List.Sublist.refl _ | refine List.Sublist.cons _ ?_))
   ·
    rintro ⟨_, p4, E4, Em4, H4, K4⟩ ⟨hc4, ⟨ho1, ho2⟩, hA4⟩
    dsimp only at hc4 ho1 ho2 hA4
    dsimp only
    refine WC.region ?_
    refine WL.v (v_add rfl rfl rfl (w_i64 (by omega) (by omega))) rfl ?_
    refine WL.v (v_move rfl rfl) rfl <| WL.nil <| ?_
    exact WE.next ⟨i + 1, p4, E4, Em4, H4, K4⟩ (by dsimp only; omega) ⟨by dsimp only; omega, hc4, ⟨ho1, ho2⟩, hA4⟩ (.int rfl (by dsimp only; omega) (.cons rfl (.cons rfl (.cons rfl (.cons rfl (.cons rfl (.cons rfl (.cons rfl .nil)))))))) (.refl _)
  ·
   refine WL.nt <| WC.seq <| WC.cond_f rfl <| WC.exit <| WE.then_exit <| WE.then_exit <| WE.block_hit <| WE.then_n <| WC.seq <| WC.region <| WL.v (v_assign rfl rfl) rfl <| WL.nt <| WC.ret <| WE.ret1 (P := Tryz.prog) (.inl rfl) Tryz.results253 rfl <| ?_
   obtain rfl : i = xs.length := (by omega)
   rw [List.drop_length] at hc
   exact fun w' h => ⟨true, p1, E1, Em1, H1, K1, rfl, hc.symm, ⟨hm1, hm2⟩, hA1, h⟩
theorem RsAt.frm {w w' : World} {ad : Option Addr} {xs : List RuL} (h : RsAt w ad xs) (hF : Frm (fun _ => False) w w') : RsAt w' ad xs := ⟨h.rd.frm hF (fun _ _ _ h => h), fun r hr => (h.ok r hr).frm hF (fun _ _ _ h => h)⟩
/-- Rules that were made: as data; where they lie. -/
def RsC (w w' : World) (ds : List RuD) (e : Ending) : Prop := ∃ ad c E K, ∃ ls : List RuL, e = .returned (.slice ad ls.length c) ∧ ls.map RuL.d = ds ∧ Vec 19 ad ls.length c (rulesL ls) E ∧ (∀ r ∈ ls, RuOwn K r) ∧ (∀ d ∈ ds, d.Fit) ∧ ls.length ≤ 100000000 ∧ St (fun _ => False) w w' (E ++ K)
theorem RsC.none_ {w w' : World} (h : St (fun _ => False) w w' []) : RsC w w' [] (.returned (.slice none 0 0)) := ⟨none, 0, [], [], [], rfl, rfl, Vec.nil 19, fun r h => (by cases h), fun r h => (by cases h), Nat.zero_le _, h⟩
theorem Cross_c (w : World) (aa ba : Option Addr) (ac bc : Nat) (xs ys : List RuL) (fn : FuncId) (ck_fn : callOk Tryz.prog fn) (sum : List Ac → List Ac → List Ac) (hsum : SumC fn sum) (hso : SumOk sum) (hsl : ∀ us vs, (sum us vs).length ≤ us.length + vs.length) (mr ma : Int) (hmr : 0 ≤ mr ∧ mr ≤ 4194304) (hma : 0 ≤ ma ∧ ma ≤ 16777216)
    (ha : RsAt w aa xs) (hb : RsAt w ba ys) (hfa : RsFit 5000 xs) (hfb : RsFit 5000 ys) (hna : xs.length ≤ 100000000) (hnb : ys.length ≤ 100000000) :
    Calls Tryz.prog 169 #[.slice aa xs.length ac, .slice ba ys.length bc, .func (.func fn) #[] #[], .agg #[.int .i64 mr, .int .i64 ma]] w fun e w' => RsC w w' (outD (crossD [] sum (ys.map RuL.d) (xs.map RuL.d) ⟨mr, ma, []⟩)) e := by
  refine enter Tryz.func169 rfl Tryz.ntmps169 rfl (St.start (fun _ => False) w) ?_
  refine WC.seq <| WC.region <| WL.box rfl rfl rfl (.none rfl) rfl rfl <| ?_
  intro g7 hg7
  refine WL.v (v_assign rfl rfl) rfl <| WL.nt <| WC.seq <| WC.region <| WL.v (v_loadN rfl rfl many_305 rfl allAt) rfl <| WL.call rfl rfl ck_174 (.none rfl) rfl rfl <| ?_
  intro w1 hS
  refine (PNew_c w1 mr ma).mono ?_
  rintro e w' ⟨gp, rfl, hS'⟩
  refine ⟨_, .row gp (PlL.cells ⟨mr, ma, none, 0, [], none, 0, [], none, #[], 0⟩) :: ([] ++ ([] ++ ([] ++ ([] ++ [Ent.row g7 [.int .i64 mr, .int .i64 ma]])))), rfl, (by simpa using hS.join hS'), ?_⟩
  refine WL.v (v_assign rfl rfl) rfl <| WL.nt <| WC.seq <| WC.seq <| WC.region <| WL.v (v_move rfl rfl) rfl <| WL.v (v_move rfl rfl) rfl <| WL.v (v_move rfl rfl) rfl <| WL.v (v_move rfl rfl) rfl <| WL.call rfl rfl ck_253 (.none rfl) rfl rfl <| ?_
  intro w1 hS
  refine (cross_c (L := [.row g7 [.int .i64 mr, .int .i64 ma]]) gp ⟨mr, ma, none, 0, [], none, 0, [], none, #[], 0⟩ none ⟨mr, ma, none, 0, [], none, 0, [], none, #[], 0⟩ aa ba ac bc xs ys fn ck_fn sum hsum hso hsl (PlAt.new mr ma hmr hma) hS ⟨fun gb h => (by cases h), fun gb h => (by cases h)⟩ (fun w2 h2 => ha.frm h2.frm) (fun w2 h2 => hb.frm h2.frm) hfa hfb hna hnb).mono ?_
  rintro e w' ⟨b, p', E', Em', H', K', rfl, hC, ⟨hq1, hq2⟩, hA, hS'⟩
  have hC : crossD [] sum (ys.map RuL.d) (xs.map RuL.d) ⟨mr, ma, []⟩ = (if b then some p'.d else none) := hC
  refine ⟨_, _, rfl, hS', ?_⟩
  skip
  cases b
  ·
   refine WL.v (v_not rfl rfl rfl) rfl <| WL.nt <| WC.cond_t rfl <| WC.seq <| WC.region <| WL.v (v_assign rfl rfl) rfl <| WL.nt <| WC.ret <| WE.then_ret <| WE.ret1 (P := Tryz.prog) (.inl rfl) Tryz.results169 rfl <| ?_
   rw [hC]
   exact fun w' h => RsC.none_ (h.sub (List.nil_sublist _))
  ·
   refine WL.v (v_not rfl rfl rfl) rfl <| WL.nt <| WC.cond_f rfl <| WC.skip <| WE.then_n <| WC.seq <| WC.region <| WL.v (v_move rfl rfl) rfl <| WL.v (v_nilCheck rfl rfl) rfl <| WL.v (v_fieldAddr0 rfl rfl fld_385_1) rfl <| WL.v (v_load1 rfl rfl one_54 (cellAt (v := .slice p'.ad p'.ls.length p'.c) rfl)) rfl <| WL.v (v_assign rfl rfl) rfl <| WL.nt <| WC.ret <| ?_
   refine WE.ret1 (P := Tryz.prog) (.inl rfl) Tryz.results169 rfl ?_
   rw [hC]
   have hrm := hA.room
   exact fun w' h => ⟨p'.ad, p'.c, E', K', p'.ls, rfl, rfl, hA.out, hA.own, fun d hd => hA.ok.fit d hd, by omega, h.dropX (.row gp p'.cells :: (Em' ++ (H' ++ [.row g7 [.int .i64 mr, .int .i64 ma]])))⟩
end Go.Proofs.YtmhahajadgkolaaGreatDoor
/- pile: ahead and Behind. -/
namespace Go.Proofs.YtmhahajadgkolaaGreatDoor
open Go.RowKit

theorem aheadK_none {a : Ac} {m : Mt} {k : Nat} (h : aheadK a m k = none) : ∀ j, aheadK a m (k + j) = none
  | 0 => h
  | j + 1 => by
    show aheadK a m (k + j + 1) = none
    rw [aheadK, aheadK_none h j]
theorem aheadD_none {a : Ac} {r : RuD} {l : List RuD} (h : aheadK a r.m 9 = none) : aheadD a (r :: l) = aheadD a l := by rw [aheadD, h]
theorem aheadD_some {a : Ac} {r : RuD} {l : List RuD} {m : Mt} (h : aheadK a r.m 9 = some m) : aheadD a (r :: l) = ⟨m, r.acts.map a.then⟩ :: aheadD a l := by rw [aheadD, h]
theorem rsAt_of {q : Nat → Prop} {w0 w : World} {L E K : List Ent} {ad : Option Addr} {c : Nat} {ls : List RuL} (hV : Vec 19 ad ls.length c (rulesL ls) E) (hK : ∀ r ∈ ls, RuOwn K r) (hS : St q w0 w L) (h1 : ∀ e ∈ E, e ∈ L) (h2 : ∀ e ∈ K, e ∈ L) : RsAt w ad ls :=
  ⟨hV.rg fun e he => hS.holds e (h1 e he), fun r hr => by obtain ⟨E', hV', hE'⟩ := hK r hr; exact hV'.rg fun e he => hS.holds e (h2 e (hE' e he))⟩
structure AhS where
  i : Nat
  ls : List RuL
  ad : Option Addr
  c : Nat
  E : List Ent
  K : List Ent
structure AhT where
  j : Nat
  ad : Option Addr
  c : Nat
  E : List Ent
set_option maxRecDepth 8000 in
set_option maxHeartbeats 4000000 in
theorem ahead_c (w : World) (a : Ac) (aI : a.In) (aZ : a.Nz) (aO : a.Ok) (xa : Option Addr) (xc : Nat) (xs : List RuL) (hx : RsAt w xa xs) (hf : RsFit 5000 xs) (hn : xs.length ≤ 100000000) :
    Calls Tryz.prog 255 #[acV a, .slice xa xs.length xc] w fun e w' => RsC w w' (aheadD a (xs.map RuL.d)) e := by
  have hFit := aheadD_fit aI aZ aO (xs.map RuL.d) (fun r hr => by obtain ⟨y, hy, rfl⟩ := List.mem_map.1 hr; exact hf.fit y hy)
  generalize hC : aheadD a (xs.map RuL.d) = C
  rw [hC] at hFit
  refine enter Tryz.func255 rfl Tryz.ntmps255 rfl (St.start (fun _ => False) w) ?_
  refine WC.seq <| WC.region <| WL.box rfl rfl rfl (.none rfl) rfl rfl <| ?_
  intro g2 hg2
  refine WL.v (v_assign rfl rfl) rfl <| WL.nt <| WC.scope <| WC.seq <| WC.region <| WL.v (v_assign rfl rfl) rfl <| WL.nt <| WC.seq <| WC.label <| WE.then_n <| WC.seq <| WC.seq <| WC.region <| WL.v (v_move rfl rfl) rfl <| ?_
  refine WL.v (v_len_slice rfl rfl Tryz.underlying54) rfl <| WL.v (v_move rfl rfl) rfl <| WL.nt <| WC.block <| ?_
  refine WC.loop (fun x : AhS => [(15, .int .i64 x.i), (14, .int .i64 xs.length), (13, .slice xa xs.length xc), (2, .pointer (some ⟨g2, 0, none⟩)), (5, .slice x.ad x.ls.length x.c), (4, .slice none 0 0)]) (fun x => x.E ++ (x.K ++ [.row g2 (acL a)])) (fun x => x.i ≤ xs.length ∧ x.ls.length ≤ x.i ∧ x.ls.map RuL.d ++ aheadD a ((xs.drop x.i).map RuL.d) = C ∧ Vec 19 x.ad x.ls.length x.c (rulesL x.ls) x.E ∧ ∀ r ∈ x.ls, RuOwn x.K r) (fun x => xs.length - x.i) ⟨0, [], none, 0, [], []⟩ ⟨Nat.zero_le _, Nat.zero_le _, by dsimp only; rw [List.drop_zero]; exact hC, Vec.nil 19, fun r h => (by cases h)⟩ (.cons rfl (.cons rfl (.cons rfl (.cons rfl (.cons rfl (.cons rfl .nil)))))) (.refl _) ?_
  rintro ⟨i, ls, ad, c, E, K⟩ ⟨hi, hl, hc, hV, hK⟩
  dsimp only at hi hl hc hV hK
  dsimp only
  refine WC.seq <| WC.region <| ?_
  refine WL.test (v_lss rfl rfl rfl) (.none rfl) rfl rfl (fun h16 => ?_) (fun h16 => ?_)
  ·
   refine WL.nt <| WC.seq <| WC.cond_t rfl <| WC.skip <| WE.then_n <| WC.seq <| WC.block <| WC.seq <| WC.region <| ?_
   obtain ⟨r, hr⟩ : ∃ x, xs[i]? = some x := ⟨xs[i]'(by omega), List.getElem?_eq_getElem _⟩
   have hrm := List.mem_of_getElem? hr
   have hrf := hf.fit r hrm
   have hrn := hf.few r hrm
   obtain ⟨b1, o1, ea1, r1⟩ := hx.rd (by intro hh; have := rulesL_len xs; rw [hh] at this; simp at this; omega)
   rw [drop_cons hr, List.map_cons] at hc
   refine WL.v ((v_indexAddr (b := b1) (off := o1) (lo := i) rfl (by show some (Value.slice xa _ _) = _; rw [ea1]) rfl Tryz.underlying54 sz_223 rfl (by omega))) rfl ?_
   refine WL.v (v_loadN (cs := r.cells) rfl rfl many_223 (RuL.len r) (rgIn (fun h => h) (Rg.seg RuL.len r1 hr))) rfl <| WL.alloc rfl zero_223 (.none rfl) rfl rfl <| ?_
   intro g7 hg7
   refine WL.storeW rfl rfl rfl rfl many_223 rfl rfl (.none rfl) rfl <| WL.as (L' := .row g7 r.cells :: (E ++ (K ++ [.row g2 (acL a)]))) rfl <| WL.nt <| WC.seq <| WC.region <| WL.v (v_fieldAddr0 rfl rfl fld_223_0) rfl <| WL.v (v_loadN rfl rfl many_220 rfl (segAt (g := g7) (m := 18) (new := mtL r.m) (ru_match r))) rfl <| WL.alloc rfl zero_220 (.none rfl) rfl rfl <| ?_
   intro g8 hg8
   refine WL.storeW rfl rfl rfl rfl many_220 rfl rfl (.none rfl) rfl <| WL.as (L' := .row g8 (mtL r.m) :: .row g7 r.cells :: (E ++ (K ++ [.row g2 (acL a)]))) rfl <| WL.nt <| WC.seq <| WC.seq <| WC.region <| WL.v (v_assign rfl rfl) rfl <| WL.nt <| WC.block <| WC.loop (fun x : Nat × Mt => [(9, .int .i64 x.1), (8, .pointer (some ⟨g8, 0, none⟩)), (7, .pointer (some ⟨g7, 0, none⟩)), (15, .int .i64 i), (14, .int .i64 xs.length), (13, .slice xa xs.length xc), (2, .pointer (some ⟨g2, 0, none⟩)), (5, .slice ad ls.length c), (4, .slice none 0 0)]) (fun x => .row g8 (mtL x.2) :: .row g7 r.cells :: (E ++ (K ++ [.row g2 (acL a)]))) (fun x => x.1 ≤ 9 ∧ aheadK a r.m x.1 = some x.2) (fun x => 9 - x.1) (0, r.m) ⟨Nat.zero_le _, rfl⟩ (.cons rfl (.cons rfl (.cons rfl (.cons rfl (.cons rfl (.cons rfl (.cons rfl (.cons rfl (.cons rfl .nil))))))))) (.refl _) <| ?_
   rintro ⟨k, m⟩ ⟨hk, hm⟩
   dsimp only at hk hm
   dsimp only
   have hmI := (aheadK_in hrf.isIn.m hrf.isIn.nz k m hm).1
   refine WC.seq <| WC.seq <| WC.region <| WL.v (v_move rfl rfl) rfl <| ?_
   refine WL.test (v_lss rfl rfl rfl) (.none rfl) rfl rfl (fun h22 => ?_) (fun h22 => ?_)
   ·
    refine WL.nt <| WC.cond_t rfl <| WC.skip <| WE.then_n <| WC.seq <| WC.block <| WC.seq <| WC.seq <| WC.region <| WL.v (v_fieldAddr0 rfl rfl fld_225_0) rfl <| WL.v (v_load1 rfl rfl one_3 (cellAt (v := .int .i64 a.set) rfl)) rfl <| WL.v (v_move rfl rfl) rfl <| ?_
    refine WL.v (v_shr (m := k) (c := (2 : Int) ^ k) rfl rfl rfl rfl (by show k ≤ 64; omega) rfl) rfl ?_
    refine WL.v (v_and rfl rfl rfl (mask_i64' (i := 1) (m := 2) (by decide) (by decide) (by decide))) rfl ?_
    refine WL.test (v_eql rfl rfl rfl) (.none rfl) rfl rfl (fun h30 => ?_) (fun h30 => ?_)
    ·
     refine WL.nt <| WC.cond_t rfl <| WC.exit <| WE.then_exit <| WE.block_hit <| WE.then_n <| WC.region <| WL.v (v_move rfl rfl) rfl <| ?_
     refine WL.v (v_add rfl rfl rfl (w_i64 (by omega) (by omega))) rfl ?_
     refine WL.v (v_assign rfl rfl) rfl <| WL.nil <| ?_
     have hs : ¬ a.sets k := (by have h : a.set / 2 ^ k % 2 = 0 := h30; show ¬ a.set / 2 ^ k % 2 = 1; omega)
     exact WE.next (k + 1, m) (by dsimp only; omega) ⟨by dsimp only; omega, by dsimp only; rw [aheadK, hm]; exact if_neg hs⟩ (.int rfl (by dsimp only; omega) (.cons rfl (.cons rfl (.cons rfl (.cons rfl (.cons rfl (.cons rfl (.cons rfl (.cons rfl .nil))))))))) (.refl _)
    ·
     refine WL.nt <| WC.cond_f rfl <| WC.skip <| WE.then_n <| WC.seq <| WC.seq <| ?_
     refine WC.quiet mixed (by kernel_rfl) ?_
     refine WQ.val (v_move rfl rfl) (.none rfl) rfl rfl <| WQ.val (v_fieldAddr0 rfl rfl fld_225_1) (.none rfl) rfl rfl <| ?_
     refine WQ.val (v_indexAddrA (lo := k) rfl rfl rfl Tryz.underlying218 sz_23 (by omega) (by omega)) (.none rfl) rfl rfl ?_
     refine WQ.val (v_load1 rfl rfl one_23 (cellAt (acL_get a (by omega)))) (.none rfl) rfl rfl ?_
     refine WQ.val (v_move rfl rfl) (.none rfl) rfl rfl <| WQ.val (v_fieldAddr0 rfl rfl fld_220_1) (.none rfl) rfl rfl <| ?_
     refine WQ.val (v_indexAddrA (lo := k) rfl rfl rfl Tryz.underlying218 sz_23 (by omega) (by omega)) (.none rfl) rfl rfl ?_
     refine WQ.val (v_load1 rfl rfl one_23 (cellAt (mtL_mask m (by omega)))) (.none rfl) rfl rfl ?_
     refine WQ.val (v_and rfl rfl rfl (bits_and_u64 (aI.val k).1 (aI.val k).2 (hmI.mask k).1 (hmI.mask k).2)) (.none rfl) rfl rfl <| WQ.val (v_move rfl rfl) (.none rfl) rfl rfl <| WQ.val (v_fieldAddr0 rfl rfl fld_220_0) (.none rfl) rfl rfl <| ?_
     refine WQ.val (v_indexAddrA (lo := k) rfl rfl rfl Tryz.underlying218 sz_23 (by omega) (by omega)) (.none rfl) rfl rfl ?_
     refine WQ.val (v_load1 rfl rfl one_23 (cellAt (mtL_val m (by omega)))) (.none rfl) rfl rfl ?_
     refine WQ.test (v_neq rfl rfl rfl) (.none rfl) rfl rfl (fun h44 => ?_) (fun h44 => ?_)
     ·
      refine WQ.nil <| WE.then_n <| WC.cond_t rfl <| WC.exit <| WE.then_exit <| WE.block_miss rfl <| WE.then_exit <| WE.then_exit <| WE.block_miss rfl <| WE.then_exit <| WE.block_hit <| WE.then_n <| WC.region <| ?_
      refine WL.v (v_add rfl rfl rfl (w_i64 (by omega) (by omega))) rfl ?_
      refine WL.v (v_move rfl rfl) rfl <| WL.nil <| ?_
      have hs : a.sets k := (by have h : ¬ a.set / 2 ^ k % 2 = 0 := h30; show a.set / 2 ^ k % 2 = 1; omega)
      have hno : aheadK a r.d.m 9 = none := (by
        have h1 : aheadK a r.m (k + 1) = none := (by rw [aheadK, hm]; dsimp only; rw [if_pos hs, if_pos h44])
        have := aheadK_none h1 (9 - (k + 1))
        rwa [show k + 1 + (9 - (k + 1)) = 9 by omega] at this)
      rw [aheadD_none hno] at hc
      exact WE.next ⟨i + 1, ls, ad, c, E, K⟩ (by dsimp only; omega) ⟨by dsimp only; omega, by dsimp only; omega, hc, hV, hK⟩ (.int rfl (by dsimp only; omega) (.cons rfl (.cons rfl (.cons rfl (.cons rfl (.cons rfl .nil)))))) (by repeat (first | exact List.Sublist.refl _ | refine List.Sublist.cons _ ?_))
     ·
      refine WQ.nil <| WE.then_n <| WC.cond_f rfl <| WC.skip <| WE.then_n <| WC.region <| WL.v (v_loadN rfl rfl many_220 rfl allAt) rfl <| WL.v (v_move rfl rfl) rfl <| WL.call rfl rfl ck_319 (.none rfl) rfl rfl <| ?_
      intro w hS
      refine Calls.then (MWithout_c w m k (by omega)) hS ?_
      refine WL.storeW rfl rfl rfl rfl many_220 rfl rfl (.none rfl) rfl <| WL.nil <| WE.block_n <| WE.then_n <| WC.region <| WL.v (v_move rfl rfl) rfl <| ?_
      refine WL.v (v_add rfl rfl rfl (w_i64 (by omega) (by omega))) rfl ?_
      refine WL.v (v_assign rfl rfl) rfl <| WL.nil <| ?_
      have hs : a.sets k := (by have h : ¬ a.set / 2 ^ k % 2 = 0 := h30; show a.set / 2 ^ k % 2 = 1; omega)
      exact WE.next (k + 1, m.without k) (by dsimp only; omega) ⟨by dsimp only; omega, by dsimp only; rw [aheadK, hm]; dsimp only; rw [if_pos hs, if_neg h44]⟩ (.int rfl (by dsimp only; omega) (.cons rfl (.cons rfl (.cons rfl (.cons rfl (.cons rfl (.cons rfl (.cons rfl (.cons rfl .nil))))))))) (.refl _)
   ·
    refine WL.nt <| WC.cond_f rfl <| WC.exit <| WE.then_exit <| WE.then_exit <| WE.block_hit <| WE.then_n <| WC.seq <| WC.region <| ?_
    obtain rfl : k = 9 := (by omega)
    rw [aheadD_some (show aheadK a r.d.m 9 = some m from hm)] at hc
    refine WL.v (v_fieldAddr0 rfl rfl fld_223_1) rfl <| WL.v (v_load1 rfl rfl one_221 (cellAt (v := .slice r.ad r.acts.length r.c) (ruC_acts r))) rfl <| WL.v (v_len_slice rfl rfl Tryz.underlying221) rfl <| ?_
    refine WL.makeN (m := 0) (c := r.acts.length) rfl rfl rfl (by omega) (by omega) (by omega) Tryz.underlying221 by_225 (by omega) (by omega) sz_225 zero_225 rfl (.none rfl) rfl rfl ?_
    intro g51 hg51
    generalize hZ : List.flatten _ = Z
    have hV0 : Vec 10 (some ⟨g51, 0, none⟩) 0 r.acts.length [] [.row g51 Z] := Vec.row (by rw [Nat.zero_mul]; rfl) (by rw [← hZ]; exact flat_len rfl _) (Nat.zero_le _)
    refine WL.to (L' := [.row g51 Z] ++ (.row g8 (mtL m) :: .row g7 r.cells :: (E ++ (K ++ [.row g2 (acL a)])))) (fun w hS => hS) <| WL.v (v_assign rfl rfl) rfl <| WL.nt <| WC.seq <| WC.seq <| WC.region <| WL.v (v_fieldAddr0 rfl rfl fld_223_1) rfl <| WL.v (v_load1 rfl rfl one_221 (cellAt (v := .slice r.ad r.acts.length r.c) (ruC_acts r))) rfl <| WL.v (v_len_slice rfl rfl Tryz.underlying221) rfl <| WL.v (v_move rfl rfl) rfl <| WL.nt <| WC.block <| WC.loop (fun x : AhT => [(55, .int .i64 x.j), (54, .int .i64 r.acts.length), (53, .slice r.ad r.acts.length r.c), (10, .slice x.ad x.j x.c), (8, .pointer (some ⟨g8, 0, none⟩)), (7, .pointer (some ⟨g7, 0, none⟩)), (15, .int .i64 i), (14, .int .i64 xs.length), (13, .slice xa xs.length xc), (2, .pointer (some ⟨g2, 0, none⟩)), (5, .slice ad ls.length c), (4, .slice none 0 0)]) (fun x => x.E ++ (.row g8 (mtL m) :: .row g7 r.cells :: (E ++ (K ++ [.row g2 (acL a)])))) (fun x => x.j ≤ r.acts.length ∧ Vec 10 x.ad x.j x.c (actsL ((r.acts.take x.j).map a.then)) x.E) (fun x => r.acts.length - x.j) ⟨0, some ⟨g51, 0, none⟩, r.acts.length, [.row g51 Z]⟩ ⟨Nat.zero_le _, hV0⟩ (.cons rfl (.cons rfl (.cons rfl (.cons rfl (.cons rfl (.cons rfl (.cons rfl (.cons rfl (.cons rfl (.cons rfl (.cons rfl (.cons rfl .nil)))))))))))) (.refl _) <| ?_
    rintro ⟨j, ad2, c2, E2⟩ ⟨hj, hV2⟩
    dsimp only at hj hV2
    dsimp only
    refine WC.seq <| WC.region <| ?_
    refine WL.test (v_lss rfl rfl rfl) (.none rfl) rfl rfl (fun h56 => ?_) (fun h56 => ?_)
    ·
     refine WL.nt <| WC.seq <| WC.cond_t rfl <| WC.skip <| WE.then_n <| WC.seq <| WC.block <| WC.seq <| WC.region <| ?_
     obtain ⟨b, hb⟩ : ∃ x, r.acts[j]? = some x := ⟨r.acts[j]'(by omega), List.getElem?_eq_getElem _⟩
     obtain ⟨b2, o2, ea2, r2⟩ := (hx.ok r hrm) (by intro hh; have := actsL_len r.acts; rw [hh] at this; simp at this; omega)
     have hbt := hrf.three (List.mem_of_getElem? hb)
     refine WL.v ((v_indexAddr (b := b2) (off := o2) (lo := j) rfl (by show some (Value.slice r.ad _ _) = _; rw [ea2]) rfl Tryz.underlying221 sz_225 rfl (by omega))) rfl ?_
     refine WL.v (v_loadN (cs := acL b) rfl rfl many_225 (acL_len b) (rgIn (fun h => h) (Rg.seg acL_len r2 hb))) rfl <| WL.alloc rfl zero_225 (.none rfl) rfl rfl <| ?_
     intro g12 hg12
     refine WL.storeW rfl rfl rfl rfl many_225 rfl rfl (.none rfl) rfl <| WL.as (L' := .row g12 (acL b) :: (E2 ++ (.row g8 (mtL m) :: .row g7 r.cells :: (E ++ (K ++ [.row g2 (acL a)]))))) rfl <| WL.nt <| WC.region <| WL.v (v_move rfl rfl) rfl <| WL.v (v_loadN rfl rfl many_225 rfl (allAt (g := g2))) rfl <| WL.v (v_loadN rfl rfl many_225 rfl (allAt (g := g12))) rfl <| WL.call rfl rfl ck_320 (.none rfl) rfl rfl <| ?_
     intro w hS
     refine Calls.then (Then_c w a b aO hbt.2.2) hS ?_
     refine WL.buildSlice rfl rfl Tryz.underlying221 sz_225 zero_225 rfl (by decide) (by show some (splice (List.replicate 1 _).flatten 0 (acL (a.then b))) = some (acL (a.then b)); exact congrArg some (splice_all rfl)) (.none rfl) rfl rfl ?_
     intro g63 hg63
     refine WL.to (L' := E2 ++ (.row g63 (acL (a.then b)) :: .row g8 (mtL m) :: .row g7 r.cells :: (E ++ (K ++ [.row g2 (acL a)])))) (fun w hS => hS.dropX [.row g12 (acL b)]) ?_
     refine WL.appendL rfl rfl rfl Tryz.underlying221 Tryz.underlying221 sz_225 by_225 zero_225 rfl rfl hV2 (new := acL (a.then b)) (fun _ => ⟨g63, 0, rfl, fun w hS => allAt (g := g63) w hS⟩) rfl rfl (by omega) (.none rfl) rfl rfl ?_
     intro ad64 c64 E64 hV64 hr64
     refine WL.v (v_assign rfl rfl) rfl <| WL.nil <| WE.block_n <| WE.then_n <| WC.region <| ?_
     refine WL.v (v_add rfl rfl rfl (w_i64 (by omega) (by omega))) rfl ?_
     refine WL.v (v_move rfl rfl) rfl <| WL.nil <| WE.to (L' := E64 ++ (.row g8 (mtL m) :: .row g7 r.cells :: (E ++ (K ++ [.row g2 (acL a)])))) (fun w hS => hS.dropX [.row g63 (acL (a.then b))]) <| ?_
     exact WE.next ⟨j + 1, ad64, c64, E64⟩ (by dsimp only; omega) ⟨by dsimp only; omega, by dsimp only; rw [List.take_add_one, hb, Option.toList_some, List.map_append, show actsL (List.map a.then (List.take j r.acts) ++ List.map a.then [b]) = actsL (List.map a.then (List.take j r.acts)) ++ acL (a.then b) from encL_snoc _ _ _]; exact hV64⟩ (.int rfl (by dsimp only; omega) (.cons rfl (.cons rfl (.cons rfl (.cons rfl (.cons rfl (.cons rfl (.cons rfl (.cons rfl (.cons rfl (.cons rfl (.cons rfl .nil)))))))))))) (.refl _)
    ·
     refine WL.nt <| WC.seq <| WC.cond_f rfl <| WC.exit <| WE.then_exit <| WE.then_exit <| WE.block_hit <| WE.then_n <| WC.region <| ?_
     obtain rfl : j = r.acts.length := (by omega)
     rw [List.take_length] at hV2
     have hml : (r.acts.map a.then).length = r.acts.length := List.length_map _
     rw [← hml] at hV2
     rw [← hml]
     refine WL.v (v_move rfl rfl) rfl <| WL.v (v_loadN rfl rfl many_220 rfl allAt) rfl <| WL.v (v_move rfl rfl) rfl <| WL.v (v_build rfl rfl zero_223 plc_223 rfl) rfl <| ?_
     refine WL.buildSlice rfl rfl Tryz.underlying54 sz_223 zero_223 rfl (by decide) (by show some (splice (List.replicate 1 _).flatten 0 (RuL.cells ⟨m, ad2, c2, r.acts.map a.then⟩)) = some (RuL.cells ⟨m, ad2, c2, r.acts.map a.then⟩); exact congrArg some (splice_all rfl)) (.none rfl) rfl rfl ?_
     intro g70 hg70
     refine WL.to (L' := E ++ (.row g70 (RuL.cells ⟨m, ad2, c2, r.acts.map a.then⟩) :: ((E2 ++ K) ++ [.row g2 (acL a)]))) (fun w hS => hS.dropX [.row g8 (mtL m), .row g7 r.cells]) ?_
     refine WL.appendL rfl rfl rfl Tryz.underlying54 Tryz.underlying54 sz_223 by_223 zero_223 rfl rfl hV (new := RuL.cells ⟨m, ad2, c2, r.acts.map a.then⟩) (fun _ => ⟨g70, 0, rfl, fun w hS => allAt (g := g70) w hS⟩) rfl rfl (by omega) (.none rfl) rfl rfl ?_
     intro ad71 c71 E71 hV71 hr71
     refine WL.v (v_assign rfl rfl) rfl <| WL.nil <| WE.block_n <| WE.then_n <| WC.region <| ?_
     refine WL.v (v_add rfl rfl rfl (w_i64 (by omega) (by omega))) rfl ?_
     refine WL.v (v_move rfl rfl) rfl <| WL.nil <| ?_
     exact WE.next ⟨i + 1, ls ++ [⟨m, ad2, c2, r.acts.map a.then⟩], ad71, c71, E71, E2 ++ K⟩ (by dsimp only; omega) ⟨by dsimp only; omega, by dsimp only; rw [List.length_append]; show ls.length + 1 ≤ _; omega, by dsimp only; rw [List.map_append, List.append_assoc]; exact hc, by dsimp only; rw [List.length_append, show rulesL (ls ++ [(⟨m, ad2, c2, r.acts.map a.then⟩ : RuL)]) = rulesL ls ++ RuL.cells ⟨m, ad2, c2, r.acts.map a.then⟩ from encL_snoc _ _ _]; exact hV71, fun x hx => (by
     rcases List.mem_append.1 hx with hx | hx
     · exact (hK x hx).more
     · rw [List.mem_singleton.1 hx]; exact ⟨E2, hV2, fun e he => List.mem_append_left _ he⟩)⟩ (.int rfl (by dsimp only; omega) (.cons rfl (.cons rfl (.cons rfl (.eq rfl (by dsimp only; rw [List.length_append]; rfl) (.cons rfl .nil)))))) (List.Sublist.append_left (.cons _ (.refl _)) _)
  ·
   refine WL.nt <| WC.seq <| WC.cond_f rfl <| WC.exit <| WE.then_exit <| WE.then_exit <| WE.block_hit <| WE.then_n <| WC.seq <| WC.region <| WL.v (v_move rfl rfl) rfl <| WL.v (v_assign rfl rfl) rfl <| WL.nt <| WC.ret <| ?_
   refine WE.scope_ret <| WE.ret1 (P := Tryz.prog) (.inl rfl) Tryz.results255 rfl <| ?_
   obtain rfl : i = xs.length := (by omega)
   rw [List.drop_length] at hc
   have hc : ls.map RuL.d = C := (by rw [← hc]; exact (List.append_nil _).symm)
   exact fun w' h => ⟨ad, c, E, K, ls, rfl, hc, hV, hK, hFit, by omega, h.dropX [.row g2 (acL a)]⟩
end Go.Proofs.YtmhahajadgkolaaGreatDoor
