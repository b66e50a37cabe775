/- Texts joined: engine, contracts and laws, in the order in which they build. -/
import Derived.Test.YtpjbofodllhjbaaDoorRows
import Derived.Lib.LaidTab
import Derived.Test.YtpjbofodllhjbaaDoorBeStreamWrites
/- stream: an append of made zeros; slices.Grow, slices.Concat of bytes. -/
namespace Go.Proofs.YtpjbofodllhjbaaDoor
open Go.RowKit

theorem append_made {P : Program} {p : Nat → Prop} {w0 : World} {t tx e s by_ m : Nat} {kk : IntKind} {zs : List Value} {L0 : List Ent} {w : World} {ty : TypeId}
    (hu : P.underlying t = some (.slice e)) (hux : P.underlying tx = some (.int kk)) (hs : (P.info? e).map (·.size) = some s) (hb : (P.info? e).map (·.bytes) = some by_) (hz : Zero P e zs) (hzl : zs.length = s) (hs1 : 0 < s)
    (_ : 0 < by_) (hm : 0 < m) (hm2 : m ≤ 1000000) (hby2 : by_ ≤ 1000) (hS : St p w0 w L0) :
    ∃ g c' cs w', (Builtin.append_ #[t, tx] ty #[.slice none 0 0, .int .i64 m]).run P w = .ok (.slice (some ⟨g, 0, none⟩) m c') w' ∧ m ≤ c' ∧ cs.length = c' * s ∧ St p w0 w' (.row g cs :: L0) := by
  have hq : ∃ i, P.info? e = some i ∧ i.bytes = by_ := by
    cases hq : P.info? e with
    | none => simp [hq] at hb
    | some i => exact ⟨i, rfl, by simpa [hq] using hb⟩
  obtain ⟨ti, hi, hib⟩ := hq
  have hask : ∀ (k : Nat) (w : World), (askRoom k).run P w = .ok () w := fun k w => by
    unfold askRoom
    by_cases h : k > roomBytes
    · rw [if_pos h]; rfl
    · rw [if_neg h]; rfl
  have hcapE : Builtin.nextslicecap m 0 = m := by unfold Builtin.nextslicecap; rw [if_pos (by omega)]
  have hmb : m * by_ ≤ 1000000 * 1000 := Nat.mul_le_mul hm2 hby2
  have hcap : ¬ (m * by_ > 2 ^ 48) := by omega
  obtain ⟨z, hz, hzs⟩ := hz
  have hzc : z.cells = zs.toArray := by rw [← hzs]
  have hd := hS.drew
  let nc := (Question.appendCap m 0 e).cut (w.tape w.drawn (.appendCap m 0 e))
  have hnc : m ≤ nc := by show m ≤ m + _; omega
  let A := Builtin.zeroCells zs.toArray m
  let B := Builtin.zeroCells zs.toArray (nc - m)
  have hAl : A.size = m * s := by show (Builtin.zeroCells zs.toArray m).size = _; simp [Builtin.zeroCells, hzl]
  have hBl : B.size = (nc - m) * s := by show (Builtin.zeroCells zs.toArray (nc - m)).size = _; simp [Builtin.zeroCells, hzl]
  have hnew : St p w0 (w.drew.alloc (.cells (A ++ B) e)) (.row w.drew.heap.size (A ++ B).toList :: L0) := St.new hd
  refine ⟨w.drew.heap.size, nc, (A ++ B).toList, _, ?_, hnc, ?_, hnew⟩
  · have hcut : (choose (.appendCap m 0 e)).run P w = .ok nc w.drew := rfl
    have hw : IntKind.i64.wrap (m : Int) = (m : Int) := w_i64 (by omega) (by omega)
    have hb0 : ¬ ((m : Int) * (by_ : Int) > 2 ^ 48) := by rw [← Int.natCast_mul]; omega
    have hms : ¬ (m * s = 0) := by have := Nat.mul_pos hm hs1; omega
    have hpos : ¬ ((m : Int) < 0) := by omega
    have hroom : ¬ (m ≤ 0) := by omega
    have hmax : ¬ ((m : Int) > IntKind.i64.max) := by show ¬ ((m : Int) > 9223372036854775807); omega
    have hasI : (asIntOf (Value.int .i64 (m : Int))).run P w = .ok (.i64, (m : Int)) w := rfl
    simp only [Builtin.append_, List.getElem?_toArray, List.getElem?_cons_zero, List.getElem?_cons_succ, Sem.run_bind, run_underlying hu, run_underlying hux, Result.andThen_ok, run_sizeOf hs, Sem.run_pure, if_true, asInt, hasI, hw, hpos, if_false]
    simp only [typeInfo, program, Sem.run, hi, Sem.run_bind, Result.andThen_ok, hib, hb0, if_false, Sem.run_pure, Int.toNat_natCast, Nat.zero_add, hroom, hmax, false_and, hcapE, hcap, hcut, hask, hms, Bool.not_true, Bool.false_eq_true, run_zeroValue hz, hzc, newRow, newObj]
    have hfc : (Builtin.firstCells s 0 (Value.slice none 0 0)).run P w.drew = .ok #[] w.drew := rfl
    rw [hfc]
    simp only [Result.andThen_ok, Array.empty_append]
    rfl
  · rw [Array.length_toList, Array.size_append, hAl, hBl, ← Nat.add_mul]; congr 1; omega
section
variable {P : Program} {ops : Array Oper} {Q : Exit → Act → World → Prop} {n : Nat} {p : Nat → Prop} {w0 : World} {o : Oper} {rest : List Oper} {l : Kn} {L : List Ent}
/-- A slice's capacity. -/
theorem v_cap_slice {C : World → Prop} {t e len cap : Nat} {ad : Option Addr} {x : Operand} (ho : o.op = .call { callee := .builtin .cap, args := #[x], argTypes := #[t] }) (hx : ev l x = some (.slice ad len cap)) (hu : P.underlying t = some (.slice e)) : Val P C n l o (.int .i64 cap) := fun a w ha _ => by
  have hx' : evs l [x] = some [.slice ad len cap] := by simp [evs, hx]
  obtain ⟨cs, h⟩ := run_builtin (P := P) (w := w) (xs := [x]) ho hx' ha
  rw [h]
  simp [builtin, Builtin.cap_, run_underlying hu, goInt]
/-- append(x, make(.., m)...) where x is nil. -/
theorem WL.appendZ {t tx e s by_ d m : Nat} {kk : IntKind} {zs : List Value} {x y : Operand} (ho : o.op = .call { callee := .builtin .append, args := #[x, y], argTypes := #[t, tx] }) (hx : ev l x = some (.slice none 0 0)) (hy : ev l y = some (.int .i64 m))
    (hu : P.underlying t = some (.slice e)) (hux : P.underlying tx = some (.int kk)) (hs : (P.info? e).map (·.size) = some s) (hb : (P.info? e).map (·.bytes) = some by_) (hz : Zero P e zs) (hzl : zs.length = s) (hs1 : Nat.blt 0 s = true) (hby : Nat.blt 0 by_ = true) (hm : 0 < m) (hm2 : m ≤ 1000000) (hby2 : Nat.ble by_ 1000 = true)
    (hg : On ops o l) (hd : o.dst = some d) (hn : Nat.blt d n = true)
    (h : ∀ g c' cs, m ≤ c' → cs.length = c' * s → WL P ops Q n p w0 rest ((d, .slice (some ⟨g, 0, none⟩) m c') :: l) (.row g cs :: L)) : WL P ops Q n p w0 (o :: rest) l L := by
  refine WL.op hg hd hn fun a w ha hS => ?_
  have hxy : evs l [x, y] = some [.slice none 0 0, .int .i64 m] := by simp [evs, hx, hy]
  obtain ⟨cc, hr⟩ := run_builtin (P := P) (w := w) (xs := [x, y]) ho hxy ha
  obtain ⟨g, c', cs, w', h1, h2, h3, h4⟩ := append_made (P := P) (ty := o.type) hu hux hs hb hz hzl (by simpa using hs1) (by simpa using hby) hm hm2 (by simpa using hby2) hS
  refine ⟨_, w', .row g cs :: L, ?_, h4, h g c' cs h2 h3⟩
  rw [hr]
  simp [builtin, h1]
end
set_option maxHeartbeats 1000000 in
theorem Grow_c (w : World) (m : Nat) (hm : m ≤ 1000000) : Calls Tryd.prog 78 #[.slice none 0 0, .int .i64 m] w fun e w' => ∃ ad c E, e = .returned (.slice ad 0 c) ∧ BV ad c [] E ∧ St (fun _ => False) w w' E := by
  refine enter Tryd.func78 rfl Tryd.ntmps78 rfl (St.start (fun _ => False) w) ?_
  refine WC.seq ?_
  refine WC.region ?_
  refine WL.val (v_assign rfl rfl) (.none rfl) rfl rfl ?_
  refine WL.nil ?_
  refine WE.then_n ?_
  refine WC.seq ?_
  refine WC.seq ?_
  refine WC.region ?_
  refine WL.val (v_move rfl rfl) (.none rfl) rfl rfl ?_
  refine WL.val ((v_lss rfl rfl rfl).f (by omega)) (.none rfl) rfl rfl ?_
  refine WL.nil ?_
  refine WE.then_n ?_
  refine WC.cond_f rfl ?_
  refine WC.skip ?_
  refine WE.then_n ?_
  refine WC.seq ?_
  refine WC.seq ?_
  refine WC.region ?_
  refine WL.val (v_move rfl rfl) (.none rfl) rfl rfl ?_
  refine WL.val (v_move rfl rfl) (.none rfl) rfl rfl ?_
  refine WL.val ((v_cap_slice rfl rfl Tryd.underlying22)) (.none rfl) rfl rfl ?_
  refine WL.val (v_move rfl rfl) (.none rfl) rfl rfl ?_
  refine WL.val (v_len_slice rfl rfl Tryd.underlying22) (.none rfl) rfl rfl ?_
  refine WL.val (v_sub rfl rfl rfl (w_i64 (by omega) (by omega))) (.none rfl) rfl rfl ?_
  refine WL.val (v_sub rfl rfl rfl (show _ = ((m : Nat) : Int) from (w_i64 (by omega) (by omega)).trans (by omega))) (.none rfl) rfl rfl ?_
  refine WL.val (v_assign rfl rfl) (.none rfl) rfl rfl ?_
  refine WL.nil ?_
  refine WE.then_n ?_
  refine WC.seq ?_
  refine WC.region ?_
  refine WL.val (v_move rfl rfl) (.none rfl) rfl rfl ?_
  refine WL.test (v_gtr rfl rfl rfl) (.none rfl) rfl rfl (fun h16 => ?_) (fun h16 => ?_)
  · -- 16T
    refine WL.nil ?_
    refine WE.then_n ?_
    refine WC.cond_t rfl ?_
    refine WC.region ?_
    refine WL.val (v_move rfl rfl) (.none rfl) rfl rfl ?_
    refine WL.val (v_move rfl rfl) (.none rfl) rfl rfl ?_
    refine WL.val ((v_cap_slice rfl rfl Tryd.underlying22)) (.none rfl) rfl rfl ?_
    refine WL.val ((v_slice_hi (hi := 0) rfl rfl rfl Tryd.underlying22 sz_5 rfl (by omega))) (.none rfl) rfl rfl ?_
    refine WL.val (v_move rfl rfl) (.none rfl) rfl rfl ?_
    refine WL.appendZ rfl rfl rfl Tryd.underlying22 Tryd.underlying3 sz_5 by_5 zero_5 rfl rfl rfl (by omega) hm rfl (.none rfl) rfl rfl ?_
    intro g22 c22 cs22 hc22 hl22
    refine WL.val (v_move rfl rfl) (.none rfl) rfl rfl ?_
    refine WL.val (v_len_slice rfl rfl Tryd.underlying22) (.none rfl) rfl rfl ?_
    refine WL.val ((v_slice_hi (hi := 0) rfl rfl rfl Tryd.underlying22 sz_5 rfl (by omega))) (.none rfl) rfl rfl ?_
    refine WL.val (v_assign rfl rfl) (.none rfl) rfl rfl ?_
    refine WL.nil ?_
    refine WE.then_n ?_
    refine WC.seq ?_
    refine WC.region ?_
    refine WL.val (v_move rfl rfl) (.none rfl) rfl rfl ?_
    refine WL.val (v_assign rfl rfl) (.none rfl) rfl rfl ?_
    refine WL.nil ?_
    refine WE.then_n ?_
    refine WC.ret ?_
    refine WE.ret1 (P := Tryd.prog) (.inl rfl) Tryd.results78 rfl ?_
    exact fun w' h => ⟨_, _, [.row g22 cs22], rfl, Vec.row (k := 0) rfl hl22 (Nat.zero_le _), h.sub (.refl _)⟩
  · -- 16F
    refine WL.nil ?_
    refine WE.then_n ?_
    refine WC.cond_f rfl ?_
    refine WC.skip ?_
    refine WE.then_n ?_
    refine WC.seq ?_
    refine WC.region ?_
    refine WL.val (v_move rfl rfl) (.none rfl) rfl rfl ?_
    refine WL.val (v_assign rfl rfl) (.none rfl) rfl rfl ?_
    refine WL.nil ?_
    refine WE.then_n ?_
    refine WC.ret ?_
    refine WE.ret1 (P := Tryd.prog) (.inl rfl) Tryd.results78 rfl ?_
    exact fun w' h => ⟨none, 0, [], rfl, Vec.nil 1, h⟩
structure SlL where
  ad : Option Addr
  cap : Nat
  val : List Int
def SlL.cells (s : SlL) : List Value := [.slice s.ad s.val.length s.cap]
def catL (ss : List SlL) : List Int := ss.flatMap SlL.val
theorem catL_take {ss : List SlL} {k : Nat} {s : SlL} (h : ss[k]? = some s) : catL (ss.take (k + 1)) = catL (ss.take k) ++ s.val := by
  rw [take_succ_get h]; unfold catL; rw [List.flatMap_append, List.flatMap_cons, List.flatMap_nil, List.append_nil]
theorem catL_le (ss : List SlL) (k : Nat) : (catL (ss.take k)).length ≤ (catL ss).length := by
  have h : ss = ss.take k ++ ss.drop k := (List.take_append_drop k ss).symm
  have e : catL ss = catL (ss.take k) ++ catL (ss.drop k) := by
    conv => lhs; rw [h]
    unfold catL; rw [List.flatMap_append]
  rw [e, List.length_append]; omega
set_option maxHeartbeats 2000000 in
theorem Concat_c (w0 : World) (gs os c : Nat) (ss : List SlL) (hR : RowsAt w0 (some ⟨gs, os, none⟩) 1 SlL.cells ss) (hC : ∀ s ∈ ss, CellsAt w0 s.ad (u8s s.val)) (hn : (catL ss).length ≤ 100000) (hl : ss.length ≤ 1000) :
    Calls Tryd.prog 56 #[.slice (some ⟨gs, os, none⟩) ss.length c] w0 fun e w' => ∃ v, e = .returned v ∧ OwnB w0 w' (catL ss) v := by
  refine enter Tryd.func56 rfl Tryd.ntmps56 rfl (St.start (fun _ => False) w0) ?_
  refine WC.seq ?_
  refine WC.region ?_
  refine WL.val (v_assign rfl rfl) (.none rfl) rfl rfl ?_
  refine WL.nil ?_
  refine WE.then_n ?_
  refine WC.seq ?_
  refine WC.region ?_
  refine WL.val (v_assign rfl rfl) (.none rfl) rfl rfl ?_
  refine WL.nil ?_
  refine WE.then_n ?_
  refine WC.seq ?_
  refine WC.seq ?_
  refine WC.region ?_
  refine WL.val (v_move rfl rfl) (.none rfl) rfl rfl ?_
  refine WL.val (v_len_slice rfl rfl Tryd.underlying148) (.none rfl) rfl rfl ?_
  refine WL.val (v_move rfl rfl) (.none rfl) rfl rfl ?_
  refine WL.nil ?_
  refine WE.then_n ?_
  refine WC.block ?_
  refine WC.loop (fun k : Nat => [(11, .int .i64 k), (10, .int .i64 ss.length), (9, .slice (some ⟨gs, os, none⟩) ss.length c), (3, .int .i64 (catL (ss.take k)).length), (0, .slice (some ⟨gs, os, none⟩) ss.length c)]) (fun _ => []) (fun k => k ≤ ss.length) (fun k => ss.length - k) 0 (Nat.zero_le _) (.cons rfl (.cons rfl (.cons rfl (.cons rfl (.cons rfl .nil))))) (.refl _) ?_
  intro k hk
  refine WC.seq ?_
  refine WC.region ?_
  refine WL.test (v_lss rfl rfl rfl) (.none rfl) rfl rfl (fun h12 => ?_) (fun h12 => ?_)
  · -- 12T
    refine WL.nil ?_
    refine WE.then_n ?_
    refine WC.seq ?_
    refine WC.cond_t rfl ?_
    refine WC.skip ?_
    refine WE.then_n ?_
    refine WC.seq ?_
    refine WC.block ?_
    refine WC.seq ?_
    refine WC.region ?_
    obtain ⟨s, hs⟩ : ∃ s, ss[k]? = some s := ⟨ss[k]'(by omega), List.getElem?_eq_getElem _⟩
    have hr := hR.get hs
    have hct := catL_take hs
    have hle := catL_le ss (k + 1)
    have hlen : (catL (ss.take (k + 1))).length = (catL (ss.take k)).length + s.val.length := (by rw [hct, List.length_append])
    refine WL.val (v_indexAddr (lo := k) rfl rfl rfl Tryd.underlying148 sz_22 (by omega) (by omega)) (.none rfl) rfl rfl ?_
    refine WL.val (v_load1 rfl rfl one_22 (cellOld (v := .slice s.ad s.val.length s.cap) (fun h => h) (by have := hr 0 _ rfl; exact this))) (.none rfl) rfl rfl ?_
    refine WL.val (v_assign rfl rfl) (.none rfl) rfl rfl ?_
    refine WL.nil ?_
    refine WE.then_n ?_
    refine WC.seq ?_
    refine WC.region ?_
    refine WL.val (v_move rfl rfl) (.none rfl) rfl rfl ?_
    refine WL.val (v_move rfl rfl) (.none rfl) rfl rfl ?_
    refine WL.val (v_len_slice rfl rfl Tryd.underlying22) (.none rfl) rfl rfl ?_
    refine WL.val (v_add rfl rfl rfl (show _ = ((catL (ss.take (k + 1))).length : Int) from (w_i64 (by omega) (by omega)).trans (by omega))) (.none rfl) rfl rfl ?_
    refine WL.val (v_assign rfl rfl) (.none rfl) rfl rfl ?_
    refine WL.nil ?_
    refine WE.then_n ?_
    refine WC.seq ?_
    refine WC.region ?_
    refine WL.val (v_move rfl rfl) (.none rfl) rfl rfl ?_
    refine WL.val ((v_lss rfl rfl rfl).f (by omega)) (.none rfl) rfl rfl ?_
    refine WL.nil ?_
    refine WE.then_n ?_
    refine WC.cond_f rfl ?_
    refine WC.skip ?_
    refine WE.block_n ?_
    refine WE.then_n ?_
    refine WC.region ?_
    refine WL.val (v_add rfl rfl rfl (w_i64 (by omega) (by omega))) (.none rfl) rfl rfl ?_
    refine WL.val (v_move rfl rfl) (.none rfl) rfl rfl ?_
    refine WL.nil ?_
    exact WE.next (k + 1) (by omega) (by omega) (.int rfl (by omega) (.cons rfl (.cons rfl (.cons rfl (.cons rfl .nil))))) (.refl _)
  · -- 12F
    refine WL.nil ?_
    refine WE.then_n ?_
    refine WC.seq ?_
    refine WC.cond_f rfl ?_
    refine WC.exit ?_
    refine WE.then_exit ?_
    refine WE.then_exit ?_
    refine WE.block_hit ?_
    refine WE.then_n ?_
    refine WC.seq ?_
    refine WC.region ?_
    refine WL.val (v_move rfl rfl) (.none rfl) rfl rfl ?_
    refine WL.call rfl rfl ck_78 (.none rfl) rfl rfl ?_
    intro w1 hS
    refine (Grow_c w1 (catL (ss.take k)).length (by have := catL_le ss k; omega)).mono ?_
    rintro e w' ⟨ad24, c24, E24, rfl, hV24, hS'⟩
    refine ⟨_, _, rfl, hS.join hS', ?_⟩
    refine WL.val (v_assign rfl rfl) (.none rfl) rfl rfl ?_
    refine WL.nil ?_
    refine WE.then_n ?_
    refine WC.seq ?_
    refine WC.seq ?_
    refine WC.region ?_
    refine WL.val (v_move rfl rfl) (.none rfl) rfl rfl ?_
    refine WL.val (v_len_slice rfl rfl Tryd.underlying148) (.none rfl) rfl rfl ?_
    refine WL.val (v_move rfl rfl) (.none rfl) rfl rfl ?_
    refine WL.nil ?_
    refine WE.then_n ?_
    refine WC.block ?_
    refine WC.loop (fun x : Nat × Option Addr × Nat × List Ent => [(27, .int .i64 x.1), (26, .int .i64 ss.length), (25, .slice (some ⟨gs, os, none⟩) ss.length c), (6, .slice x.2.1 (catL (ss.take x.1)).length x.2.2.1)]) (fun x => x.2.2.2 ++ []) (fun x => x.1 ≤ ss.length ∧ BV x.2.1 x.2.2.1 (catL (ss.take x.1)) x.2.2.2) (fun x => ss.length - x.1) (0, ad24, c24, E24) ⟨Nat.zero_le _, hV24⟩ (.cons rfl (.cons rfl (.cons rfl (.cons rfl .nil)))) (.refl _) ?_
    rintro ⟨k, ad, c6, E⟩ ⟨hk2, hV⟩
    dsimp only at hk2 hV
    dsimp only
    refine WC.seq ?_
    refine WC.region ?_
    refine WL.test (v_lss rfl rfl rfl) (.none rfl) rfl rfl (fun h28 => ?_) (fun h28 => ?_)
    · -- 28T
      refine WL.nil ?_
      refine WE.then_n ?_
      refine WC.seq ?_
      refine WC.cond_t rfl ?_
      refine WC.skip ?_
      refine WE.then_n ?_
      refine WC.seq ?_
      refine WC.block ?_
      refine WC.seq ?_
      refine WC.region ?_
      obtain ⟨s, hs⟩ : ∃ s, ss[k]? = some s := ⟨ss[k]'(by omega), List.getElem?_eq_getElem _⟩
      have hr := hR.get hs
      have hct := catL_take hs
      have hle := catL_le ss (k + 1)
      have hlen : (catL (ss.take (k + 1))).length = (catL (ss.take k)).length + s.val.length := (by rw [hct, List.length_append])
      have hsrc : 0 < s.val.length → ∃ b so, s.ad = some ⟨b, so, none⟩ ∧ ∀ w, St (fun _ => False) w0 w (E ++ []) → w.rangeAt b so (u8s s.val) := (fun h => by
        obtain ⟨b, o, e, hr⟩ := hC s (List.mem_of_getElem? hs) (by rw [u8s_len]; exact h)
        exact ⟨b, o, e, fun w hS => hS.rng (fun _ h => h) _ _ _ hr⟩)
      refine WL.val (v_indexAddr (lo := k) rfl rfl rfl Tryd.underlying148 sz_22 (by omega) (by omega)) (.none rfl) rfl rfl ?_
      refine WL.val (v_load1 rfl rfl one_22 (cellOld (v := .slice s.ad s.val.length s.cap) (fun h => h) (by have := hr 0 _ rfl; exact this))) (.none rfl) rfl rfl ?_
      refine WL.val (v_assign rfl rfl) (.none rfl) rfl rfl ?_
      refine WL.nil ?_
      refine WE.then_n ?_
      refine WC.region ?_
      refine WL.val (v_move rfl rfl) (.none rfl) rfl rfl ?_
      refine WL.val (v_move rfl rfl) (.none rfl) rfl rfl ?_
      refine WL.appendL rfl rfl rfl Tryd.underlying22 Tryd.underlying22 sz_5 by_5 zero_5 rfl rfl hV (new := u8s s.val) hsrc (by rw [u8s_len]; omega) (u8s_one _) (by omega) (.none rfl) rfl rfl ?_
      intro ad33 c33 E33 hV33 hr33
      rw [← u8s_app, ← hct] at hV33
      rw [← hlen] at hV33 ⊢
      refine WL.val (v_assign rfl rfl) (.none rfl) rfl rfl ?_
      refine WL.nil ?_
      refine WE.block_n ?_
      refine WE.then_n ?_
      refine WC.region ?_
      refine WL.val (v_add rfl rfl rfl (w_i64 (by omega) (by omega))) (.none rfl) rfl rfl ?_
      refine WL.val (v_move rfl rfl) (.none rfl) rfl rfl ?_
      refine WL.nil ?_
      exact WE.next (k + 1, ad33, c33, E33) (by dsimp only; omega) ⟨by dsimp only; omega, hV33⟩ (.int rfl (by dsimp only; omega) (.cons rfl (.cons rfl (.cons rfl .nil)))) (.refl _)
    · -- 28F
      refine WL.nil ?_
      refine WE.then_n ?_
      refine WC.seq ?_
      refine WC.cond_f rfl ?_
      refine WC.exit ?_
      refine WE.then_exit ?_
      refine WE.then_exit ?_
      refine WE.block_hit ?_
      refine WE.then_n ?_
      refine WC.seq ?_
      refine WC.region ?_
      refine WL.val (v_move rfl rfl) (.none rfl) rfl rfl ?_
      refine WL.val (v_assign rfl rfl) (.none rfl) rfl rfl ?_
      refine WL.nil ?_
      refine WE.then_n ?_
      refine WC.ret ?_
      refine WE.ret1 (P := Tryd.prog) (.inl rfl) Tryd.results56 rfl ?_
      have ek : k = ss.length := (by omega)
      rw [ek, List.take_length] at hV ⊢
      exact fun w' h => ⟨_, rfl, ad, c6, E, rfl, hV, h.sub (List.sublist_append_left _ _)⟩
end Go.Proofs.YtpjbofodllhjbaaDoor
/- stream: what a Reader makes of bytes, as plain lists. -/
namespace Go.Proofs.YtpjbofodllhjbaaDoor
open Go.RowKit

/-- Bytes seen through a slice, in blocks of E. -/
structure View (E : List Ent) (aa : Option Addr) (c : Nat) (ys : List Int) : Prop where
  le : ys.length ≤ c
  bys : Bys ys
  at_ : (aa = none ∧ c = 0 ∧ ys = []) ∨ ∃ b o, aa = some ⟨b, o, none⟩ ∧ ∀ w, (∀ e ∈ E, e.holds w) → w.rangeAt b o (u8s ys)
theorem View.of {ad : Option Addr} {c : Nat} {xs : List Int} {E : List Ent} (h : BV ad c xs E) (hb : Bys xs) : View E ad c xs := by
  refine ⟨h.len.2, hb, ?_⟩
  rcases h with ⟨ha, hn, hc, _⟩ | ⟨g, cs, rfl, rfl, hx, _, _⟩
  · exact .inl ⟨ha, hc, List.length_eq_zero_iff.1 hn⟩
  · refine .inr ⟨g, 0, rfl, fun w hw j v hj => ?_⟩
    have hR : Row w g cs := hw (.row g cs) (List.mem_cons_self ..)
    rw [← hx, List.getElem?_take] at hj
    split at hj
    · rw [Nat.zero_add]; exact hR.cell hj
    · cases hj
theorem View.win {E : List Ent} {b o c : Nat} {ys : List Int} (h : View E (some ⟨b, o, none⟩) c ys) {w : World} (hw : ∀ e ∈ E, e.holds w) : Win w b o c ys := by
  rcases h.at_ with ⟨h1, _, _⟩ | ⟨b', o', e, hr⟩
  · exact nomatch h1
  · cases e; exact ⟨hr w hw, h.bys, h.le⟩
theorem View.some {E : List Ent} {aa : Option Addr} {c : Nat} {ys : List Int} (h : View E aa c ys) (h0 : 0 < ys.length) : ∃ b o, aa = some ⟨b, o, none⟩ := by
  rcases h.at_ with ⟨_, _, e⟩ | ⟨b, o, e, _⟩
  · rw [e] at h0; exact absurd h0 (Nat.lt_irrefl 0)
  · exact ⟨b, o, e⟩
theorem View.drop {E : List Ent} {b o c : Nat} {ys : List Int} (h : View E (.some ⟨b, o, none⟩) c ys) (k : Nat) : View E (.some ⟨b, sAddr o k c 1, none⟩) (c - k) (ys.drop k) := by
  have hle := h.le
  refine ⟨by rw [List.length_drop]; omega, fun x hx => h.bys x (List.mem_of_mem_drop hx), .inr ⟨b, sAddr o k c 1, rfl, fun w hw => ((h.win hw).drop k).at_⟩⟩
/-- A Reader. -/
structure RdL where
  ad : Option Addr
  cap : Nat
  wait : List Int
  count : Int
  fc : Int
  fs : Int
  fd : ByteArray
def RdL.cells (r : RdL) : List Value := [.slice r.ad r.wait.length r.cap, .int .i64 r.count, .int .i64 r.fc, .int .i64 r.fs, .string r.fd]
def szL (xs : List Int) : Nat := (sizeR xs.length (fOf xs)).1.toNat
/-- The messages behind others that bytes are, the fault, what waits. -/
def feedM (acc : List MsD) (xs : List Int) : List MsD × Option (Int × Int × ByteArray) × List Int :=
  if xs.length < 19 then (acc, none, xs)
  else if (sizeR xs.length (fOf xs)).2.1 ≠ 0 then (acc, some (sizeR xs.length (fOf xs)).2, [])
  else if xs.length < szL xs then (acc, none, xs)
  else match decM (xs.take (szL xs)) with
    | .inr f => (acc, some f, [])
    | .inl m => feedM (acc ++ [m]) (xs.drop (szL xs))
termination_by xs.length
decreasing_by
  rename_i _ h2 _
  rw [List.length_drop]
  rcases sizeR_cases xs.length (fOf xs) with ⟨C, S, d, e, hC⟩ | ⟨e, _, _, h, _⟩
  · rw [e] at h2; exact absurd hC h2
  · have : szL xs = (lenI (fOf xs)).toNat := by unfold szL; rw [e]
    omega
theorem feedM_few {acc : List MsD} {xs : List Int} (h : xs.length < 19) : feedM acc xs = (acc, none, xs) := by rw [feedM, if_pos h]
theorem feedM_bad {acc : List MsD} {xs : List Int} (h : ¬ xs.length < 19) {f : Int × Int × ByteArray} (hs : (sizeR xs.length (fOf xs)).2 = f) (hC : f.1 ≠ 0) : feedM acc xs = (acc, some f, []) := by
  rw [feedM, if_neg h, if_pos (by rw [hs]; exact hC), hs]
theorem feedM_wait {acc : List MsD} {xs : List Int} (h : ¬ xs.length < 19) (hs : (sizeR xs.length (fOf xs)).2.1 = 0) (hl : xs.length < szL xs) : feedM acc xs = (acc, none, xs) := by
  rw [feedM, if_neg h, if_neg (by rw [hs]; decide), if_pos hl]
theorem feedM_flt {acc : List MsD} {xs : List Int} (h : ¬ xs.length < 19) (hs : (sizeR xs.length (fOf xs)).2.1 = 0) (hl : ¬ xs.length < szL xs) {f : Int × Int × ByteArray} (hd : decM (xs.take (szL xs)) = .inr f) : feedM acc xs = (acc, some f, []) := by
  rw [feedM, if_neg h, if_neg (by rw [hs]; decide), if_neg hl, hd]
theorem feedM_on {acc : List MsD} {xs : List Int} (h : ¬ xs.length < 19) (hs : (sizeR xs.length (fOf xs)).2.1 = 0) (hl : ¬ xs.length < szL xs) {m : MsD} (hd : decM (xs.take (szL xs)) = .inl m) : feedM acc xs = feedM (acc ++ [m]) (xs.drop (szL xs)) := by
  rw [feedM, if_neg h, if_neg (by rw [hs]; decide), if_neg hl, hd]
theorem Size_u (w0 : World) (b o c : Nat) (xs : List Int) (hW : Win w0 b o c xs) (hn : xs.length ≤ 100000) :
    Calls Tryd.prog 14 #[.slice (some ⟨b, o, none⟩) xs.length c] w0 fun e w' => ∃ (ok : Bool) (n : Nat) (C S : Int) (d : ByteArray), e = .returned (.tuple #[.int .i64 n, .agg (fltL C S d).toArray]) ∧ Frm (fun _ => False) w0 w' ∧
      (ok = false → C ≠ 0 ∧ (sizeR xs.length (fOf xs)).2 = (C, S, d)) ∧ (ok = true → C = 0 ∧ S = 0 ∧ d = ⟨#[]⟩ ∧ (sizeR xs.length (fOf xs)).2.1 = 0 ∧ n = szL xs ∧ 19 ≤ n ∧ n ≤ 4096) := by
  refine (Size_c w0 (some ⟨b, o, none⟩) xs.length c (fOf xs) (fOf_byt hW.bys) (fun _ => ⟨b, o, rfl, rd_u8s hW.at_⟩) (by omega) hW.le).mono fun e w' h => ?_
  obtain ⟨rfl, hF⟩ := h
  rcases sizeR_cases xs.length (fOf xs) with ⟨C, S, d, e, hC⟩ | ⟨e, h1, h2, h3, h4, _⟩
  · exact ⟨false, 0, C, S, d, by rw [e]; rfl, hF, fun _ => ⟨hC, by rw [e]⟩, fun e => by cases e⟩
  · obtain ⟨n, hn⟩ := Int.eq_ofNat_of_zero_le (show 0 ≤ lenI (fOf xs) by omega)
    have es : szL xs = n := by unfold szL; rw [e]; dsimp only; rw [hn, Int.toNat_natCast]
    exact ⟨true, n, 0, 0, ⟨#[]⟩, by rw [e, hn]; rfl, hF, fun e => (by cases e), fun _ => ⟨rfl, rfl, rfl, by rw [e], es.symm, by omega, by omega⟩⟩
theorem updR_code {xs : List Int} {c s : Int} {d : ByteArray} (h : updR xs = .inr (c, s, d)) : c ≠ 0 := by
  unfold updR at h
  split at h
  · cases h; decide
  split at h
  · cases h; decide
  split at h
  · cases h; decide
  split at h
  · cases h; decide
  split at h
  · cases h; decide
  split at h
  · cases h; decide
  split at h
  · cases h; decide
  · cases h
theorem decM_code {xs : List Int} {c s : Int} {d : ByteArray} (h : decM xs = .inr (c, s, d)) : c ≠ 0 := by
  unfold decM at h
  split at h
  · rename_i h1; cases hq : (sizeR xs.length (fOf xs)) with | mk a r => rw [hq] at h h1; cases h; exact h1
  split at h
  · cases h; decide
  unfold bodyM at h
  split at h
  · split at h
    · cases h
    · cases h; decide
  split at h
  · split at h
    · cases h
    · cases h; rename_i h2; exact updR_code h2
  split at h
  · cases h
  · cases h
theorem Decode_u (w0 : World) (b o c : Nat) (xs : List Int) (hG : GF w0) (hZ : GZ w0) (hW : Win w0 b o c xs) (hn : xs.length ≤ 90000) :
    Calls Tryd.prog 17 #[.slice (some ⟨b, o, none⟩) xs.length c] w0 fun e w' => ∃ (ok : Bool) (C S : Int) (d : ByteArray) (m : MsL) (K : List Ent), e = .returned (.tuple #[.agg m.cells.toArray, .agg (fltL C S d).toArray]) ∧ MsAll K m ∧ St (fun _ => False) w0 w' K ∧
      (ok = false → C ≠ 0 ∧ decM xs = .inr (C, S, d)) ∧ (ok = true → C = 0 ∧ S = 0 ∧ d = ⟨#[]⟩ ∧ decM xs = .inl m.d) :=
  (Decode_c w0 b o c xs hG hZ hW hn).mono fun e w' h => by
    unfold DecP at h
    cases hp : decM xs with
    | inr x =>
      obtain ⟨C, S, d⟩ := x
      rw [hp] at h
      exact ⟨false, C, S, d, .zero 0, [], h.1, MsAll.zero 0, (St.start _ _).ext h.2, fun _ => ⟨decM_code hp, rfl⟩, fun e => by cases e⟩
    | inl dd =>
      rw [hp] at h
      obtain ⟨m, K, he, hm, hM, hS⟩ := h
      exact ⟨true, 0, 0, ⟨#[]⟩, m, K, he, hM, hS, (fun e => by cases e), fun _ => ⟨rfl, rfl, rfl, by rw [hm]⟩⟩
def msgsL (ms : List MsL) : List Value := ms.flatMap MsL.cells
theorem msgsL_snoc (ms : List MsL) (m : MsL) : msgsL (ms ++ [m]) = msgsL ms ++ m.cells := by unfold msgsL; rw [List.flatMap_append, List.flatMap_cons, List.flatMap_nil, List.append_nil]
theorem MsAll.mono {K K' : List Ent} {m : MsL} (h : MsAll K m) (hm : ∀ e ∈ K, e ∈ K') : MsAll K' m := by
  obtain ⟨⟨E1, a1, b1⟩, h2, ⟨E3, a3, b3⟩, ⟨E4, a4, b4⟩, h5⟩ := h
  exact ⟨⟨E1, a1, fun e he => hm e (b1 e he)⟩, fun c hc => by obtain ⟨E, q1, q2⟩ := h2 c hc; exact ⟨E, q1, fun e he => hm e (q2 e he)⟩, ⟨E3, a3, fun e he => hm e (b3 e he)⟩, ⟨E4, a4, fun e he => hm e (b4 e he)⟩, h5.mono hm⟩
end Go.Proofs.YtpjbofodllhjbaaDoor
/- stream: Reader.Feed, walked. -/
namespace Go.Proofs.YtpjbofodllhjbaaDoor
open Go.RowKit

theorem CloneV_c (w : World) (E : List Ent) (aa : Option Addr) (c : Nat) (ys : List Int) (hV : View E aa c ys) (hw : ∀ e ∈ E, e.holds w) (hn : ys.length ≤ 1000000) :
    Calls Tryd.prog 57 #[.slice aa ys.length c] w fun e w' => ∃ x, e = .returned x ∧ OwnB w w' ys x := by
  rcases hV.at_ with ⟨rfl, rfl, rfl⟩ | ⟨b, o, rfl, _⟩
  · refine enter Tryd.func57 rfl Tryd.ntmps57 rfl (St.start (fun _ => False) w) ?_
    refine WC.seq ?_
    refine WC.region ?_
    refine WL.val (v_assign rfl rfl) (.none rfl) rfl rfl ?_
    refine WL.nil ?_
    refine WE.then_n ?_
    refine WC.seq ?_
    refine WC.seq ?_
    refine WC.region ?_
    refine WL.val (v_move rfl rfl) (.none rfl) rfl rfl ?_
    refine WL.val (v_eql_nil true rfl rfl Tryd.underlying22 rfl) (.none rfl) rfl rfl ?_
    refine WL.nil ?_
    refine WE.then_n ?_
    refine WC.cond_t rfl ?_
    refine WC.seq ?_
    refine WC.region ?_
    refine WL.val (v_assign rfl rfl) (.none rfl) rfl rfl ?_
    refine WL.nil ?_
    refine WE.then_n ?_
    refine WC.ret ?_
    refine WE.then_ret ?_
    refine WE.ret1 (P := Tryd.prog) (.inl rfl) Tryd.results57 rfl ?_
    exact fun w' h => ⟨_, rfl, none, 0, [], rfl, Vec.nil 1, h⟩
  · exact CloneB_c w b o c ys (hV.win hw) hn
theorem rows1 {w : World} {g : Nat} {cs : List Value} {ss : List SlL} (h : w.rangeAt g 0 cs) (hcs : cs = ss.map fun s => .slice s.ad s.val.length s.cap) : RowsAt w (some ⟨g, 0, none⟩) 1 SlL.cells ss := fun i s hi => ⟨g, 0, rfl, fun j v hj => by
  match j, hj with
  | 0, hj =>
    cases hj
    have := h i _ (by rw [hcs, List.getElem?_map, hi]; rfl)
    simpa using this
  | j + 1, hj => simp [SlL.cells] at hj⟩
structure FdS where
  ys : List Int
  aa : Option Addr
  c : Nat
  ms : List MsL
  ad : Option Addr
  mc : Nat
  Em : List Ent
  K : List Ent
def RdL.more (r : RdL) (k : Nat) : RdL := { r with count := r.count + k }
def fltOf (f : Option (Int × Int × ByteArray)) : Int × Int × ByteArray := f.getD (0, 0, ⟨#[]⟩)
/-- What Feed leaves behind. -/
def FeedP (w0 w' : World) (gr : Nat) (r : RdL) (bs : List Int) (L : List Ent) (e : Ending) : Prop :=
  ∃ (ad : Option Addr) (mc : Nat) (ms : List MsL) (Em K : List Ent) (wad : Option Addr) (wc : Nat) (rest : List Int) (Ew : List Ent) (f : Option (Int × Int × ByteArray)),
    feedM [] (r.wait ++ bs) = (ms.map MsL.d, f, rest) ∧ e = .returned (.tuple #[.slice ad ms.length mc, .agg (fltL (fltOf f).1 (fltOf f).2.1 (fltOf f).2.2).toArray]) ∧ Vec 20 ad ms.length mc (msgsL ms) Em ∧ (∀ m ∈ ms, MsAll K m) ∧ BV wad wc rest Ew ∧ Bys rest ∧
    St (fun _ => False) w0 w' (.row gr (RdL.cells ⟨wad, wc, rest, r.count + ms.length, (fltOf f).1, (fltOf f).2.1, (fltOf f).2.2⟩) :: (Ew ++ (Em ++ (K ++ L))))
set_option maxHeartbeats 4000000 in
theorem Feed_c (w0 w1 : World) (gr : Nat) (r : RdL) (ba : Option Addr) (bc : Nat) (bs : List Int) (E L : List Ent) (hG : GF w0) (hZ : GZ w0) (hr : r.fc = 0 ∧ r.fs = 0 ∧ r.fd = ⟨#[]⟩) (hV : BV r.ad r.cap r.wait E) (hB : Bys (r.wait ++ bs)) (hb : ∀ w, St (fun _ => False) w0 w (.row gr r.cells :: (E ++ L)) → CellsAt w ba (u8s bs)) (hn : (r.wait ++ bs).length ≤ 50000) (hc : 0 ≤ r.count ∧ r.count ≤ 4611686018427387904)
    (hS0 : St (fun _ => False) w0 w1 (.row gr r.cells :: (E ++ L))) :
    Calls Tryd.prog 26 #[.pointer (some ⟨gr, 0, none⟩), .slice ba bs.length bc] w1 fun e w' => FeedP w0 w' gr r bs L e := by
  obtain ⟨rad, rcap, ws, cnt, rfc, rfs, rfd⟩ := r
  dsimp only at hr hV hB hn hc
  obtain ⟨rfl, rfl, rfl⟩ := hr
  have hln : ws.length ≤ 50000 ∧ bs.length ≤ 50000 := by rw [List.length_append] at hn; omega
  refine enter Tryd.func26 rfl Tryd.ntmps26 rfl hS0 ?_
  refine WC.seq ?_
  refine WC.region ?_
  refine WL.val (v_assign rfl rfl) (.none rfl) rfl rfl ?_
  refine WL.alloc rfl zero_25 (.none rfl) rfl rfl ?_
  intro g5 hg5
  refine WL.nil ?_
  refine WE.then_n ?_
  refine WC.seq ?_
  refine WC.seq ?_
  refine WC.region ?_
  refine WL.val (v_move rfl rfl) (.none rfl) rfl rfl ?_
  refine WL.val (v_eql_nil false rfl rfl Tryd.underlying72 rfl) (.none rfl) rfl rfl ?_
  refine WL.val (v_move rfl rfl) (.none rfl) rfl rfl ?_
  refine WL.val (v_move rfl rfl) (.some rfl rfl rfl) rfl rfl ?_
  refine WL.val (v_nilCheck rfl rfl) (.some rfl rfl rfl) rfl rfl ?_
  refine WL.val (v_fieldAddr0 rfl rfl fld_74_2) (.some rfl rfl rfl) rfl rfl ?_
  refine WL.val (v_loadN rfl rfl many_25 rfl (segAt (m := 3) rfl)) (.some rfl rfl rfl) rfl rfl ?_
  refine WL.val (v_build rfl rfl zero_25 plc_25 rfl) (.some rfl rfl rfl) rfl rfl ?_
  refine WL.val (v_neq_aggF rfl rfl rfl eqk_25 eqg_25 rfl rfl (by rfl)) (.some rfl rfl rfl) rfl rfl ?_
  refine WL.val (v_pick_f rfl rfl rfl) (.none rfl) rfl rfl ?_
  refine WL.nil ?_
  refine WE.then_n ?_
  refine WC.cond_f rfl ?_
  refine WC.skip ?_
  refine WE.then_n ?_
  refine WC.seq ?_
  refine WC.region ?_
  refine WL.val (v_move rfl rfl) (.none rfl) rfl rfl ?_
  refine WL.val (v_nilCheck rfl rfl) (.none rfl) rfl rfl ?_
  refine WL.val (v_fieldAddr0 rfl rfl fld_74_0) (.none rfl) rfl rfl ?_
  refine WL.val (v_load1 rfl rfl one_22 (cellAt (v := .slice rad ws.length rcap) rfl)) (.none rfl) rfl rfl ?_
  refine WL.val (v_move rfl rfl) (.none rfl) rfl rfl ?_
  refine WL.buildSlice rfl rfl Tryd.underlying148 sz_22 zero_22 rfl (by decide) rfl (.none rfl) rfl rfl ?_
  intro g27 hg27
  have hcat : catL [⟨rad, rcap, ws⟩, ⟨ba, bc, bs⟩] = ws ++ bs := (by show ws ++ (bs ++ []) = _; rw [List.append_nil])
  refine WL.call rfl rfl ck_56 (.none rfl) rfl rfl ?_
  intro w1 hS
  refine (Concat_c w1 g27 0 2 [⟨rad, rcap, ws⟩, ⟨ba, bc, bs⟩] (rows1 (allAt (g := g27) w1 hS) rfl) (fun s hs => by
    rcases List.mem_cons.1 hs with rfl | hs
    · intro h0
      obtain ⟨b, o, e, hr⟩ := hV.src (L := .row g27 _ :: .row g5 _ :: .row gr _ :: (E ++ L)) (fun e he => .tail _ (.tail _ (.tail _ (List.mem_append_left _ he)))) h0
      exact ⟨b, o, e, hr _ _ _ hS⟩
    · rcases List.mem_cons.1 hs with rfl | hs
      · exact hb _ (hS.sub (.cons _ (.cons _ (.refl _))))
      · cases hs) (by rw [hcat]; omega) (by show 2 ≤ 1000; omega)).mono ?_
  rintro e w' ⟨_, rfl, ad28, c28, E28, rfl, hV28, hS'⟩
  refine ⟨_, _, rfl, hS.join hS', ?_⟩
  rw [hcat] at hV28 ⊢
  have hVw := View.of hV28 hB
  refine WL.to (L' := [] ++ (.row gr (RdL.cells ⟨rad, rcap, ws, cnt + ((0 : Nat) : Int), 0, 0, ⟨#[]⟩⟩) :: .row g5 (fltL 0 0 ⟨#[]⟩) :: ([] ++ (E28 ++ (E ++ L))))) (fun w hS => by
    have h1 := hS.sub (List.Sublist.append_left (List.sublist_cons_self _ _) E28)
    have h2 := St.front (R := [.row g5 _, .row gr _]) (L := E ++ L) E28 h1
    have h3 := h2.perm (List.Perm.swap _ _ _)
    rw [show cnt + ((0 : Nat) : Int) = cnt by omega]
    exact h3) ?_
  refine WL.val (v_assign rfl rfl) (.none rfl) rfl rfl ?_
  refine WL.nil ?_
  refine WE.then_n ?_
  refine WC.seq ?_
  refine WC.region ?_
  refine WL.val (v_assign rfl rfl) (.none rfl) rfl rfl ?_
  refine WL.nil ?_
  refine WE.then_n ?_
  refine WC.cut (fun y : FdS => [(0, .pointer (some ⟨gr, 0, none⟩)), (5, .pointer (some ⟨g5, 0, none⟩)), (6, .slice y.aa y.ys.length y.c), (7, .slice y.ad y.ms.length y.mc)]) (fun y => y.Em ++ (.row gr (RdL.cells ⟨rad, rcap, ws, cnt + (y.ms.length : Int), 0, 0, ⟨#[]⟩⟩) :: .row g5 (fltL 0 0 ⟨#[]⟩) :: (y.K ++ (E28 ++ (E ++ L))))) (fun y => y.ys.length ≤ (ws ++ bs).length ∧ View E28 y.aa y.c y.ys ∧ feedM [] (ws ++ bs) = (y.ms.map MsL.d, none, y.ys) ∧ Vec 20 y.ad y.ms.length y.mc (msgsL y.ms) y.Em ∧ ∀ m ∈ y.ms, MsAll y.K m) ?_ ?_
  · -- cutb0
    refine WC.block ?_
    refine WC.loop (fun x : FdS => [(0, .pointer (some ⟨gr, 0, none⟩)), (5, .pointer (some ⟨g5, 0, none⟩)), (6, .slice x.aa x.ys.length x.c), (7, .slice x.ad x.ms.length x.mc)]) (fun x => x.Em ++ (.row gr (RdL.cells ⟨rad, rcap, ws, cnt + (x.ms.length : Int), 0, 0, ⟨#[]⟩⟩) :: .row g5 (fltL 0 0 ⟨#[]⟩) :: (x.K ++ (E28 ++ (E ++ L))))) (fun x => x.ms.length + x.ys.length ≤ (ws ++ bs).length ∧ View E28 x.aa x.c x.ys ∧ feedM [] (ws ++ bs) = feedM (x.ms.map MsL.d) x.ys ∧ Vec 20 x.ad x.ms.length x.mc (msgsL x.ms) x.Em ∧ ∀ m ∈ x.ms, MsAll x.K m) (fun x => x.ys.length) ⟨ws ++ bs, ad28, c28, [], none, 0, [], []⟩ ⟨by simp, hVw, rfl, Vec.nil 20, fun _ h => by cases h⟩ (.cons rfl (.cons rfl (.cons rfl (.cons rfl .nil)))) (.refl _) ?_
    rintro ⟨ys, aa, c, ms, ad, mc, Em, K⟩ ⟨hl, hVy, hy, hVm, hK⟩
    dsimp only at hl hVy hy hVm hK
    dsimp only
    refine WC.seq ?_
    refine WC.seq ?_
    refine WC.region ?_
    refine WL.val (v_move rfl rfl) (.none rfl) rfl rfl ?_
    refine WL.val (v_len_slice rfl rfl Tryd.underlying22) (.none rfl) rfl rfl ?_
    refine WL.test (v_geq rfl rfl rfl) (.none rfl) rfl rfl (fun h31 => ?_) (fun h31 => ?_)
    · -- 31T
      refine WL.nil ?_
      refine WE.then_n ?_
      refine WC.cond_t rfl ?_
      refine WC.skip ?_
      refine WE.then_n ?_
      refine WC.block ?_
      refine WC.seq ?_
      refine WC.region ?_
      refine WL.val (v_move rfl rfl) (.none rfl) rfl rfl ?_
      have h19' : ¬ ys.length < 19 := (by omega)
      obtain ⟨b', o', rfl⟩ := hVy.some (by omega)
      have hle := hVy.le
      refine WL.call rfl rfl ck_14 (.none rfl) rfl rfl ?_
      intro w1 hS
      refine (Size_u w1 b' o' c ys (hVy.win (fun e he => hS.holds e (List.mem_append_right _ (.tail _ (.tail _ (List.mem_append_right _ (List.mem_append_left _ he))))))) (by omega)).mono ?_
      rintro e w' ⟨ok, n, C, S, d, rfl, hF, hbad, hok⟩
      refine ⟨_, _, rfl, hS.ext hF, ?_⟩
      refine WL.val (v_move rfl rfl) (.none rfl) rfl rfl ?_
      refine WL.val (v_extract rfl rfl rfl) (.none rfl) rfl rfl ?_
      refine WL.val (v_extract rfl rfl rfl) (.none rfl) rfl rfl ?_
      skip
      cases ok
      · -- 36F
        refine WL.alloc rfl zero_25 (.none rfl) rfl rfl ?_
        intro g9 hg9
        refine WL.val (v_assign rfl rfl) (.none rfl) rfl rfl ?_
        refine WL.storeW rfl rfl rfl rfl many_25 rfl rfl (.none rfl) rfl ?_
        refine WL.nil ?_
        refine WE.then_n ?_
        refine WC.seq ?_
        refine WC.seq ?_
        refine WC.region ?_
        refine WL.val (v_loadN rfl rfl many_25 rfl allAt) (.none rfl) rfl rfl ?_
        refine WL.val (v_build rfl rfl zero_25 plc_25 rfl) (.none rfl) rfl rfl ?_
        refine WL.val (v_eql_aggF rfl rfl rfl eqk_25 eqg_25 rfl rfl (by exact fun h => by injection h with h1 _; injection h1 with _ h1; exact (hbad rfl).1 h1)) (.none rfl) rfl rfl ?_
        refine WL.val (v_move rfl rfl) (.none rfl) rfl rfl ?_
        refine WL.skip rfl rfl rfl rfl rfl rfl ?_
        refine WL.skip rfl rfl rfl rfl rfl rfl ?_
        refine WL.skip rfl rfl rfl rfl rfl rfl ?_
        refine WL.skip rfl rfl rfl rfl rfl rfl ?_
        refine WL.val (v_pick_f rfl rfl rfl) (.none rfl) rfl rfl ?_
        refine WL.nil ?_
        refine WE.then_n ?_
        refine WC.cond_f rfl ?_
        refine WC.skip ?_
        refine WE.then_n ?_
        refine WC.seq ?_
        refine WC.region ?_
        refine WL.alloc rfl zero_43 (.none rfl) rfl rfl ?_
        intro g10 hg10
        refine WL.nil ?_
        refine WE.then_n ?_
        refine WC.seq ?_
        refine WC.seq ?_
        refine WC.region ?_
        refine WL.val (v_loadN rfl rfl many_25 rfl allAt) (.none rfl) rfl rfl ?_
        refine WL.val (v_build rfl rfl zero_25 plc_25 rfl) (.none rfl) rfl rfl ?_
        refine WL.val (v_eql_aggF rfl rfl rfl eqk_25 eqg_25 rfl rfl (by exact fun h => by injection h with h1 _; injection h1 with _ h1; exact (hbad rfl).1 h1)) (.none rfl) rfl rfl ?_
        refine WL.nil ?_
        refine WE.then_n ?_
        refine WC.cond_f rfl ?_
        refine WC.skip ?_
        refine WE.then_n ?_
        refine WC.seq ?_
        refine WC.seq ?_
        refine WC.region ?_
        refine WL.val (v_loadN rfl rfl many_25 rfl allAt) (.none rfl) rfl rfl ?_
        refine WL.val (v_build rfl rfl zero_25 plc_25 rfl) (.none rfl) rfl rfl ?_
        refine WL.val (v_neq_aggT rfl rfl rfl eqk_25 eqg_25 rfl rfl (by exact fun h => by injection h with h1 _; injection h1 with _ h1; exact (hbad rfl).1 h1)) (.none rfl) rfl rfl ?_
        refine WL.nil ?_
        refine WE.then_n ?_
        refine WC.cond_t rfl ?_
        refine WC.seq ?_
        refine WC.orders mixed ?_
        refine WR.first (g := 5) [0, 1, 3, 4] (by kernel_rfl) (by kernel_rfl) ?_
        refine WP.val (v_move rfl rfl) (.none rfl) rfl rfl ?_
        refine WP.val (v_move rfl rfl) (.none rfl) rfl rfl ?_
        refine WP.val (v_nilCheck rfl rfl) (.none rfl) rfl rfl ?_
        refine WP.val (v_fieldAddr0 rfl rfl fld_74_0) (.none rfl) rfl rfl ?_
        refine WP.nil ?_
        refine WR.each (g := 4) [2, 5] (by kernel_rfl) (by decide) ?_
        refine ⟨?_, ?_⟩
        · -- next 2
          refine WL.val (v_loadN rfl rfl many_25 rfl allAt) (.none rfl) rfl rfl ?_
          refine WL.nilR ?_
          refine WR.ones (g := 3) [5] (by kernel_rfl) ?_
          refine WL.store1 rfl rfl rfl rfl one_22 (Nat.le_of_ble_eq_true rfl) (.none rfl) rfl ?_
          refine WL.nilR ?_
          refine WR.first (g := 1) [6, 7] (by kernel_rfl) (by kernel_rfl) ?_
          refine WP.val (v_nilCheck rfl rfl) (.none rfl) rfl rfl ?_
          refine WP.val (v_fieldAddr0 rfl rfl fld_74_2) (.none rfl) rfl rfl ?_
          refine WP.nil ?_
          refine WR.ones (g := 0) [8] (by kernel_rfl) ?_
          refine WL.storeN rfl rfl rfl rfl many_25 rfl (by first | exact Nat.le_of_ble_eq_true rfl | simp) (.none rfl) rfl ?_
          refine WL.nilR ?_
          refine WR.done (by kernel_rfl) ?_
          refine WE.then_n ?_
          refine WC.seq ?_
          refine WC.orders mixed ?_
          refine WR.first (g := 2) [0, 2] (by kernel_rfl) (by kernel_rfl) ?_
          refine WP.val (v_move rfl rfl) (.none rfl) rfl rfl ?_
          refine WP.val (v_assign rfl rfl) (.none rfl) rfl rfl ?_
          refine WP.nil ?_
          refine WR.read (g := 1) [1] (by kernel_rfl) (by kernel_rfl) (by kernel_rfl) (by kernel_rfl) rfl ?_
          refine WQ.val (v_loadN rfl rfl many_25 rfl allAt) (.none rfl) rfl rfl ?_
          refine WQ.nilR ?_
          refine WR.ones (g := 0) [3] (by kernel_rfl) ?_
          refine WL.storeW rfl rfl rfl rfl many_25 rfl rfl (.none rfl) rfl ?_
          refine WL.nilR ?_
          refine WR.done (by kernel_rfl) ?_
          refine WE.then_n ?_
          refine WC.ret ?_
          refine WE.then_ret ?_
          refine WE.block_ret ?_
          refine WE.then_ret ?_
          refine WE.block_ret ?_
          refine WE.then_ret ?_
          refine WE.ret2 (P := Tryd.prog) (.inl rfl) Tryd.results26 rfl (resRow rfl many_25 rfl) ?_
          have e0 := hy.trans (feedM_bad h19' (hbad rfl).2 (hbad rfl).1)
          refine fun w' h => ⟨ad, mc, ms, Em, K, none, 0, [], [], some (C, S, d), e0, rfl, hVm, hK, Vec.nil 1, Bys.nil, ?_⟩
          have h1 := h.sub (.cons _ (.cons _ (List.Sublist.append_left (.cons_cons _ (.cons _ (List.Sublist.append_left (List.sublist_append_of_sublist_right (List.sublist_append_right _ _)) _))) _)))
          exact St.front (R := [_]) (L := K ++ L) Em h1
        · -- next 5
          refine WL.store1 rfl rfl rfl rfl one_22 (Nat.le_of_ble_eq_true rfl) (.none rfl) rfl ?_
          refine WL.nilR ?_
          refine WR.read (g := 1) [2, 6, 7] (by kernel_rfl) (by kernel_rfl) (by kernel_rfl) (by kernel_rfl) rfl ?_
          refine WQ.val (v_loadN rfl rfl many_25 rfl allAt) (.none rfl) rfl rfl ?_
          refine WQ.val (v_nilCheck rfl rfl) (.none rfl) rfl rfl ?_
          refine WQ.val (v_fieldAddr0 rfl rfl fld_74_2) (.none rfl) rfl rfl ?_
          refine WQ.nilR ?_
          refine WR.ones (g := 0) [8] (by kernel_rfl) ?_
          refine WL.storeN rfl rfl rfl rfl many_25 rfl (by first | exact Nat.le_of_ble_eq_true rfl | simp) (.none rfl) rfl ?_
          refine WL.nilR ?_
          refine WR.done (by kernel_rfl) ?_
          refine WE.then_n ?_
          refine WC.seq ?_
          refine WC.orders mixed ?_
          refine WR.first (g := 2) [0, 2] (by kernel_rfl) (by kernel_rfl) ?_
          refine WP.val (v_move rfl rfl) (.none rfl) rfl rfl ?_
          refine WP.val (v_assign rfl rfl) (.none rfl) rfl rfl ?_
          refine WP.nil ?_
          refine WR.read (g := 1) [1] (by kernel_rfl) (by kernel_rfl) (by kernel_rfl) (by kernel_rfl) rfl ?_
          refine WQ.val (v_loadN rfl rfl many_25 rfl allAt) (.none rfl) rfl rfl ?_
          refine WQ.nilR ?_
          refine WR.ones (g := 0) [3] (by kernel_rfl) ?_
          refine WL.storeW rfl rfl rfl rfl many_25 rfl rfl (.none rfl) rfl ?_
          refine WL.nilR ?_
          refine WR.done (by kernel_rfl) ?_
          refine WE.then_n ?_
          refine WC.ret ?_
          refine WE.then_ret ?_
          refine WE.block_ret ?_
          refine WE.then_ret ?_
          refine WE.block_ret ?_
          refine WE.then_ret ?_
          refine WE.ret2 (P := Tryd.prog) (.inl rfl) Tryd.results26 rfl (resRow rfl many_25 rfl) ?_
          have e0 := hy.trans (feedM_bad h19' (hbad rfl).2 (hbad rfl).1)
          refine fun w' h => ⟨ad, mc, ms, Em, K, none, 0, [], [], some (C, S, d), e0, rfl, hVm, hK, Vec.nil 1, Bys.nil, ?_⟩
          have h1 := h.sub (.cons _ (.cons _ (List.Sublist.append_left (.cons_cons _ (.cons _ (List.Sublist.append_left (List.sublist_append_of_sublist_right (List.sublist_append_right _ _)) _))) _)))
          exact St.front (R := [_]) (L := K ++ L) Em h1
      · -- 36T
        obtain ⟨rfl, rfl, rfl, hz, rfl, hn19, hn4⟩ := hok rfl
        refine WL.alloc rfl zero_25 (.none rfl) rfl rfl ?_
        intro g9 hg9
        refine WL.val (v_assign rfl rfl) (.none rfl) rfl rfl ?_
        refine WL.storeW rfl rfl rfl rfl many_25 rfl rfl (.none rfl) rfl ?_
        refine WL.nil ?_
        refine WE.then_n ?_
        refine WC.seq ?_
        refine WC.seq ?_
        refine WC.region ?_
        refine WL.val (v_loadN rfl rfl many_25 rfl allAt) (.none rfl) rfl rfl ?_
        refine WL.val (v_build rfl rfl zero_25 plc_25 rfl) (.none rfl) rfl rfl ?_
        refine WL.val (v_eql_aggT rfl rfl rfl eqk_25 eqg_25 rfl rfl (by rfl)) (.none rfl) rfl rfl ?_
        refine WL.val (v_move rfl rfl) (.none rfl) rfl rfl ?_
        refine WL.val (v_move rfl rfl) (.some rfl rfl rfl) rfl rfl ?_
        refine WL.val (v_len_slice rfl rfl Tryd.underlying22) (.some rfl rfl rfl) rfl rfl ?_
        refine WL.val (v_move rfl rfl) (.some rfl rfl rfl) rfl rfl ?_
        refine WL.test (v_lss rfl rfl rfl) (.some rfl rfl rfl) rfl rfl (fun h44 => ?_) (fun h44 => ?_)
        · -- 44T
          refine WL.val (v_pick_t rfl rfl rfl) (.none rfl) rfl rfl ?_
          refine WL.nil ?_
          refine WE.then_n ?_
          refine WC.cond_t rfl ?_
          refine WC.exit ?_
          refine WE.then_exit ?_
          refine WE.block_miss rfl ?_
          refine WE.then_exit ?_
          refine WE.block_hit ?_
          exact WE.mid ⟨ys, some ⟨b', o', none⟩, c, ms, ad, mc, Em, K⟩ ⟨by dsimp only; omega, hVy, by rw [hy]; exact feedM_wait h19' hz (by omega), hVm, hK⟩ (.cons rfl (.cons rfl (.cons rfl (.cons rfl .nil)))) (.cons _ (.refl _))
        · -- 44F
          refine WL.val (v_pick_t rfl rfl rfl) (.none rfl) rfl rfl ?_
          refine WL.nil ?_
          refine WE.then_n ?_
          refine WC.cond_f rfl ?_
          refine WC.skip ?_
          refine WE.then_n ?_
          refine WC.seq ?_
          refine WC.region ?_
          refine WL.alloc rfl zero_43 (.none rfl) rfl rfl ?_
          intro g10 hg10
          refine WL.nil ?_
          refine WE.then_n ?_
          refine WC.seq ?_
          refine WC.seq ?_
          refine WC.region ?_
          refine WL.val (v_loadN rfl rfl many_25 rfl allAt) (.none rfl) rfl rfl ?_
          refine WL.val (v_build rfl rfl zero_25 plc_25 rfl) (.none rfl) rfl rfl ?_
          refine WL.val (v_eql_aggT rfl rfl rfl eqk_25 eqg_25 rfl rfl (by rfl)) (.none rfl) rfl rfl ?_
          refine WL.nil ?_
          refine WE.then_n ?_
          refine WC.cond_t rfl ?_
          refine WC.region ?_
          refine WL.val (v_move rfl rfl) (.none rfl) rfl rfl ?_
          refine WL.val (v_move rfl rfl) (.none rfl) rfl rfl ?_
          refine WL.val ((v_slice_hi (hi := szL ys) rfl rfl rfl Tryd.underlying22 sz_5 rfl (by omega))) (.none rfl) rfl rfl ?_
          refine WL.call rfl rfl ck_17 (.none rfl) rfl rfl ?_
          intro w1 hS
          have hWy := hVy.win (fun e he => hS.holds e (.tail _ (.tail _ (List.mem_append_right _ (.tail _ (.tail _ (List.mem_append_right _ (List.mem_append_left _ he))))))))
          have htl : (ys.take (szL ys)).length = szL ys := (by rw [List.length_take]; omega)
          have hc := Decode_u w1 b' o' c (ys.take (szL ys)) (hG.keep (fun h => h) hS) (hZ.keep (fun h => h) hS) (hWy.take _) (by omega)
          rw [htl] at hc
          refine hc.mono ?_
          rintro e w' ⟨ok2, C, S, d, m, Kd, rfl, hMd, hSd, hbad2, hok2⟩
          refine ⟨_, _, rfl, hS.join hSd, ?_⟩
          refine WL.val (v_move rfl rfl) (.none rfl) rfl rfl ?_
          refine WL.val (v_extract rfl rfl rfl) (.none rfl) rfl rfl ?_
          refine WL.val (v_extract rfl rfl rfl) (.none rfl) rfl rfl ?_
          skip
          cases ok2
          · -- 55F
            refine WL.storeW rfl rfl rfl rfl many_43 rfl rfl (.none rfl) rfl ?_
            refine WL.storeW rfl rfl rfl rfl many_25 rfl rfl (.none rfl) rfl ?_
            refine WL.nil ?_
            refine WE.then_n ?_
            refine WC.seq ?_
            refine WC.seq ?_
            refine WC.region ?_
            refine WL.val (v_loadN rfl rfl many_25 rfl allAt) (.none rfl) rfl rfl ?_
            refine WL.val (v_build rfl rfl zero_25 plc_25 rfl) (.none rfl) rfl rfl ?_
            refine WL.val (v_neq_aggT rfl rfl rfl eqk_25 eqg_25 rfl rfl (by exact fun h => by injection h with h1 _; injection h1 with _ h1; exact (hbad2 rfl).1 h1)) (.none rfl) rfl rfl ?_
            refine WL.nil ?_
            refine WE.then_n ?_
            refine WC.cond_t rfl ?_
            refine WC.seq ?_
            refine WC.orders mixed ?_
            refine WR.first (g := 5) [0, 1, 3, 4] (by kernel_rfl) (by kernel_rfl) ?_
            refine WP.val (v_move rfl rfl) (.none rfl) rfl rfl ?_
            refine WP.val (v_move rfl rfl) (.none rfl) rfl rfl ?_
            refine WP.val (v_nilCheck rfl rfl) (.none rfl) rfl rfl ?_
            refine WP.val (v_fieldAddr0 rfl rfl fld_74_0) (.none rfl) rfl rfl ?_
            refine WP.nil ?_
            refine WR.each (g := 4) [2, 5] (by kernel_rfl) (by decide) ?_
            refine ⟨?_, ?_⟩
            · -- next 2
              refine WL.val (v_loadN rfl rfl many_25 rfl allAt) (.none rfl) rfl rfl ?_
              refine WL.nilR ?_
              refine WR.ones (g := 3) [5] (by kernel_rfl) ?_
              refine WL.store1 rfl rfl rfl rfl one_22 (Nat.le_of_ble_eq_true rfl) (.none rfl) rfl ?_
              refine WL.nilR ?_
              refine WR.first (g := 1) [6, 7] (by kernel_rfl) (by kernel_rfl) ?_
              refine WP.val (v_nilCheck rfl rfl) (.none rfl) rfl rfl ?_
              refine WP.val (v_fieldAddr0 rfl rfl fld_74_2) (.none rfl) rfl rfl ?_
              refine WP.nil ?_
              refine WR.ones (g := 0) [8] (by kernel_rfl) ?_
              refine WL.storeN rfl rfl rfl rfl many_25 rfl (by first | exact Nat.le_of_ble_eq_true rfl | simp) (.none rfl) rfl ?_
              refine WL.nilR ?_
              refine WR.done (by kernel_rfl) ?_
              refine WE.then_n ?_
              refine WC.seq ?_
              refine WC.orders mixed ?_
              refine WR.first (g := 2) [0, 2] (by kernel_rfl) (by kernel_rfl) ?_
              refine WP.val (v_move rfl rfl) (.none rfl) rfl rfl ?_
              refine WP.val (v_assign rfl rfl) (.none rfl) rfl rfl ?_
              refine WP.nil ?_
              refine WR.read (g := 1) [1] (by kernel_rfl) (by kernel_rfl) (by kernel_rfl) (by kernel_rfl) rfl ?_
              refine WQ.val (v_loadN rfl rfl many_25 rfl allAt) (.none rfl) rfl rfl ?_
              refine WQ.nilR ?_
              refine WR.ones (g := 0) [3] (by kernel_rfl) ?_
              refine WL.storeW rfl rfl rfl rfl many_25 rfl rfl (.none rfl) rfl ?_
              refine WL.nilR ?_
              refine WR.done (by kernel_rfl) ?_
              refine WE.then_n ?_
              refine WC.ret ?_
              refine WE.then_ret ?_
              refine WE.block_ret ?_
              refine WE.then_ret ?_
              refine WE.block_ret ?_
              refine WE.then_ret ?_
              refine WE.ret2 (P := Tryd.prog) (.inl rfl) Tryd.results26 rfl (resRow rfl many_25 rfl) ?_
              have e0 := hy.trans (feedM_flt h19' hz (by omega) (hbad2 rfl).2)
              refine fun w' h => ⟨ad, mc, ms, Em, K, none, 0, [], [], some (C, S, d), e0, rfl, hVm, hK, Vec.nil 1, Bys.nil, ?_⟩
              have h1 := (((h.sub (List.sublist_append_right _ _)).sub (.cons _ (.cons _ (.refl _)))).sub (List.Sublist.append_left (.cons_cons _ (.cons _ (List.Sublist.append_left (List.sublist_append_of_sublist_right (List.sublist_append_right _ _)) _))) _))
              exact St.front (R := [_]) (L := K ++ L) Em h1
            · -- next 5
              refine WL.store1 rfl rfl rfl rfl one_22 (Nat.le_of_ble_eq_true rfl) (.none rfl) rfl ?_
              refine WL.nilR ?_
              refine WR.read (g := 1) [2, 6, 7] (by kernel_rfl) (by kernel_rfl) (by kernel_rfl) (by kernel_rfl) rfl ?_
              refine WQ.val (v_loadN rfl rfl many_25 rfl allAt) (.none rfl) rfl rfl ?_
              refine WQ.val (v_nilCheck rfl rfl) (.none rfl) rfl rfl ?_
              refine WQ.val (v_fieldAddr0 rfl rfl fld_74_2) (.none rfl) rfl rfl ?_
              refine WQ.nilR ?_
              refine WR.ones (g := 0) [8] (by kernel_rfl) ?_
              refine WL.storeN rfl rfl rfl rfl many_25 rfl (by first | exact Nat.le_of_ble_eq_true rfl | simp) (.none rfl) rfl ?_
              refine WL.nilR ?_
              refine WR.done (by kernel_rfl) ?_
              refine WE.then_n ?_
              refine WC.seq ?_
              refine WC.orders mixed ?_
              refine WR.first (g := 2) [0, 2] (by kernel_rfl) (by kernel_rfl) ?_
              refine WP.val (v_move rfl rfl) (.none rfl) rfl rfl ?_
              refine WP.val (v_assign rfl rfl) (.none rfl) rfl rfl ?_
              refine WP.nil ?_
              refine WR.read (g := 1) [1] (by kernel_rfl) (by kernel_rfl) (by kernel_rfl) (by kernel_rfl) rfl ?_
              refine WQ.val (v_loadN rfl rfl many_25 rfl allAt) (.none rfl) rfl rfl ?_
              refine WQ.nilR ?_
              refine WR.ones (g := 0) [3] (by kernel_rfl) ?_
              refine WL.storeW rfl rfl rfl rfl many_25 rfl rfl (.none rfl) rfl ?_
              refine WL.nilR ?_
              refine WR.done (by kernel_rfl) ?_
              refine WE.then_n ?_
              refine WC.ret ?_
              refine WE.then_ret ?_
              refine WE.block_ret ?_
              refine WE.then_ret ?_
              refine WE.block_ret ?_
              refine WE.then_ret ?_
              refine WE.ret2 (P := Tryd.prog) (.inl rfl) Tryd.results26 rfl (resRow rfl many_25 rfl) ?_
              have e0 := hy.trans (feedM_flt h19' hz (by omega) (hbad2 rfl).2)
              refine fun w' h => ⟨ad, mc, ms, Em, K, none, 0, [], [], some (C, S, d), e0, rfl, hVm, hK, Vec.nil 1, Bys.nil, ?_⟩
              have h1 := (((h.sub (List.sublist_append_right _ _)).sub (.cons _ (.cons _ (.refl _)))).sub (List.Sublist.append_left (.cons_cons _ (.cons _ (List.Sublist.append_left (List.sublist_append_of_sublist_right (List.sublist_append_right _ _)) _))) _))
              exact St.front (R := [_]) (L := K ++ L) Em h1
          · -- 55T
            refine WL.storeW rfl rfl rfl rfl many_43 rfl rfl (.none rfl) rfl ?_
            refine WL.storeW rfl rfl rfl rfl many_25 rfl rfl (.none rfl) rfl ?_
            refine WL.nil ?_
            refine WE.then_n ?_
            refine WC.seq ?_
            refine WC.seq ?_
            refine WC.region ?_
            refine WL.val (v_loadN rfl rfl many_25 rfl allAt) (.none rfl) rfl rfl ?_
            obtain ⟨rfl, rfl, rfl, hdm⟩ := hok2 rfl
            refine WL.val (v_build rfl rfl zero_25 plc_25 rfl) (.none rfl) rfl rfl ?_
            refine WL.val (v_neq_aggF rfl rfl rfl eqk_25 eqg_25 rfl rfl (by rfl)) (.none rfl) rfl rfl ?_
            refine WL.nil ?_
            refine WE.then_n ?_
            refine WC.cond_f rfl ?_
            refine WC.skip ?_
            refine WE.then_n ?_
            refine WC.seq ?_
            refine WC.region ?_
            refine WL.val (v_move rfl rfl) (.none rfl) rfl rfl ?_
            refine WL.val (v_loadN rfl rfl many_43 rfl allAt) (.none rfl) rfl rfl ?_
            refine WL.buildSlice rfl rfl Tryd.underlying75 sz_43 zero_43 rfl (by decide) rfl (.none rfl) rfl rfl ?_
            intro g70 hg70
            refine WL.as (L' := .row g70 m.cells :: (Kd ++ (.row g10 m.cells :: .row g9 (fltL 0 0 ⟨#[]⟩) :: (Em ++ (.row gr (RdL.cells ⟨rad, rcap, ws, cnt + (ms.length : Int), 0, 0, ⟨#[]⟩⟩) :: .row g5 (fltL 0 0 ⟨#[]⟩) :: (K ++ (E28 ++ (E ++ L)))))))) rfl ?_
            refine WL.to (L' := Em ++ (.row g70 m.cells :: (Kd ++ (.row g10 m.cells :: .row g9 (fltL 0 0 ⟨#[]⟩) :: .row gr (RdL.cells ⟨rad, rcap, ws, cnt + (ms.length : Int), 0, 0, ⟨#[]⟩⟩) :: .row g5 (fltL 0 0 ⟨#[]⟩) :: (K ++ (E28 ++ (E ++ L))))))) (fun w hS => by
              have := St.front (R := Em) (L := .row gr (RdL.cells ⟨rad, rcap, ws, cnt + (ms.length : Int), 0, 0, ⟨#[]⟩⟩) :: .row g5 (fltL 0 0 ⟨#[]⟩) :: (K ++ (E28 ++ (E ++ L)))) (.row g70 m.cells :: (Kd ++ [.row g10 m.cells, .row g9 (fltL 0 0 ⟨#[]⟩)])) (by simpa only [List.cons_append, List.append_assoc, List.nil_append] using hS)
              simpa only [List.cons_append, List.append_assoc, List.nil_append] using this) ?_
            refine WL.appendL rfl rfl rfl Tryd.underlying75 Tryd.underlying75 sz_43 by_43 zero_43 rfl rfl hVm (new := m.cells) (fun _ => ⟨g70, 0, rfl, fun w hS => allAt (g := g70) w hS⟩) rfl rfl (by omega) (.none rfl) rfl rfl ?_
            intro ad71 c71 E71 hV71 hr71
            rw [← msgsL_snoc] at hV71
            rw [show ms.length + 1 = (ms ++ [m]).length by rw [List.length_append]; rfl] at hV71 ⊢
            refine WL.val (v_assign rfl rfl) (.none rfl) rfl rfl ?_
            refine WL.nil ?_
            refine WE.then_n ?_
            refine WC.seq ?_
            refine WC.region ?_
            refine WL.val (v_move rfl rfl) (.none rfl) rfl rfl ?_
            refine WL.val (v_nilCheck rfl rfl) (.none rfl) rfl rfl ?_
            refine WL.val (v_fieldAddr0 rfl rfl fld_74_1) (.none rfl) rfl rfl ?_
            refine WL.val (v_load1 rfl rfl one_3 (cellAt (v := .int .i64 (cnt + (ms.length : Int))) rfl)) (.none rfl) rfl rfl ?_
            refine WL.val (v_add rfl rfl rfl (show _ = cnt + ((ms ++ [m]).length : Int) from (w_i64 (by omega) (by omega)).trans (by rw [List.length_append]; show cnt + (ms.length : Int) + 1 = cnt + ((ms.length + 1 : Nat) : Int); omega))) (.none rfl) rfl rfl ?_
            refine WL.val (v_nilCheck rfl rfl) (.none rfl) rfl rfl ?_
            refine WL.val (v_fieldAddr0 rfl rfl fld_74_1) (.none rfl) rfl rfl ?_
            refine WL.store1 rfl rfl rfl rfl one_3 (Nat.le_of_ble_eq_true rfl) (.none rfl) rfl ?_
            refine WL.as (L' := E71 ++ (.row g70 m.cells :: (Kd ++ (.row g10 m.cells :: .row g9 (fltL 0 0 ⟨#[]⟩) :: .row gr (RdL.cells ⟨rad, rcap, ws, cnt + ((ms ++ [m]).length : Int), 0, 0, ⟨#[]⟩⟩) :: .row g5 (fltL 0 0 ⟨#[]⟩) :: (K ++ (E28 ++ (E ++ L))))))) rfl ?_
            refine WL.to (L' := E71 ++ (.row gr (RdL.cells ⟨rad, rcap, ws, cnt + ((ms ++ [m]).length : Int), 0, 0, ⟨#[]⟩⟩) :: .row g5 (fltL 0 0 ⟨#[]⟩) :: ((Kd ++ K) ++ (E28 ++ (E ++ L))))) (fun w hS => by
              have h1 : St (fun _ => False) w0 w (E71 ++ (Kd ++ (.row gr (RdL.cells ⟨rad, rcap, ws, cnt + ((ms ++ [m]).length : Int), 0, 0, ⟨#[]⟩⟩) :: .row g5 (fltL 0 0 ⟨#[]⟩) :: (K ++ (E28 ++ (E ++ L)))))) := hS.sub (List.Sublist.append_left (.cons _ (List.Sublist.append_left (.cons _ (.cons _ (.refl _))) _)) _)
              refine h1.perm (List.Perm.append_left E71 ?_)
              have := List.perm_append_comm_assoc Kd [.row gr (RdL.cells ⟨rad, rcap, ws, cnt + ((ms ++ [m]).length : Int), 0, 0, ⟨#[]⟩⟩), .row g5 (fltL 0 0 ⟨#[]⟩)] (K ++ (E28 ++ (E ++ L)))
              simpa only [List.cons_append, List.append_assoc, List.nil_append] using this.symm) ?_
            refine WL.nil ?_
            refine WE.then_n ?_
            refine WC.region ?_
            refine WL.val (v_move rfl rfl) (.none rfl) rfl rfl ?_
            refine WL.val (v_move rfl rfl) (.none rfl) rfl rfl ?_
            refine WL.val ((v_slice_lo (lo := szL ys) rfl rfl rfl Tryd.underlying22 sz_5 rfl (by omega))) (.none rfl) rfl rfl ?_
            refine WL.val (v_assign rfl rfl) (.none rfl) rfl rfl ?_
            refine WL.nil ?_
            refine WE.block_n ?_
            exact WE.next ⟨ys.drop (szL ys), some ⟨b', sAddr o' (szL ys) c 1, none⟩, c - szL ys, ms ++ [m], ad71, c71, E71, Kd ++ K⟩ (by dsimp only; rw [List.length_drop]; omega) ⟨by dsimp only; rw [List.length_drop, List.length_append, List.length_cons, List.length_nil]; omega, hVy.drop _, by dsimp only; rw [hy, feedM_on h19' hz (by omega) hdm, List.map_append]; rfl, hV71, fun x hx => by
            rcases List.mem_append.1 hx with hx | hx
            · exact (hK x hx).mono fun e he => List.mem_append_right _ he
            · rcases List.mem_cons.1 hx with rfl | hx
              · exact hMd.mono fun e he => List.mem_append_left _ he
              · cases hx⟩ (.cons rfl (.cons rfl (.eq rfl (by dsimp only; rw [List.length_drop]) (.cons rfl .nil)))) (.refl _)
    · -- 31F
      refine WL.nil ?_
      refine WE.then_n ?_
      refine WC.cond_f rfl ?_
      refine WC.exit ?_
      refine WE.then_exit ?_
      refine WE.then_exit ?_
      refine WE.block_hit ?_
      exact WE.mid ⟨ys, aa, c, ms, ad, mc, Em, K⟩ ⟨by dsimp only; omega, hVy, by rw [hy]; exact feedM_few (by omega), hVm, hK⟩ (.cons rfl (.cons rfl (.cons rfl (.cons rfl .nil)))) (.refl _)
  · -- behind cutb0
    rintro ⟨ys, aa, c, ms, ad, mc, Em, K⟩ ⟨hl, hVy, hy, hVm, hK⟩
    dsimp only at hl hVy hy hVm hK
    dsimp only
    refine WC.seq ?_
    refine WC.region ?_
    refine WL.val (v_move rfl rfl) (.none rfl) rfl rfl ?_
    refine WL.val (v_move rfl rfl) (.none rfl) rfl rfl ?_
    refine WL.call rfl rfl ck_57 (.none rfl) rfl rfl ?_
    intro w1 hS
    refine (CloneV_c w1 E28 aa c ys hVy (fun e he => hS.holds e (List.mem_append_right _ (.tail _ (.tail _ (List.mem_append_right _ (List.mem_append_left _ he)))))) (by omega)).mono ?_
    rintro e w' ⟨_, rfl, wad, wc, Ew, rfl, hVw2, hSw⟩
    refine ⟨_, _, rfl, hS.join hSw, ?_⟩
    refine WL.val (v_nilCheck rfl rfl) (.none rfl) rfl rfl ?_
    refine WL.val (v_fieldAddr0 rfl rfl fld_74_0) (.none rfl) rfl rfl ?_
    refine WL.store1 rfl rfl rfl rfl one_22 (Nat.le_of_ble_eq_true rfl) (.none rfl) rfl ?_
    refine WL.nil ?_
    refine WE.then_n ?_
    refine WC.seq ?_
    refine WC.region ?_
    refine WL.val (v_move rfl rfl) (.none rfl) rfl rfl ?_
    refine WL.val (v_build rfl rfl zero_25 plc_25 rfl) (.none rfl) rfl rfl ?_
    refine WL.val (v_assign rfl rfl) (.none rfl) rfl rfl ?_
    refine WL.storeW rfl rfl rfl rfl many_25 rfl rfl (.none rfl) rfl ?_
    refine WL.nil ?_
    refine WE.then_n ?_
    refine WC.ret ?_
    refine WE.ret2 (P := Tryd.prog) (.inl rfl) Tryd.results26 rfl (resRow rfl many_25 rfl) ?_
    refine fun w' h => ⟨ad, mc, ms, Em, K, wad, wc, ys, Ew, none, hy, rfl, hVm, hK, hVw2, hVy.bys, ?_⟩
    have h1 := h.sub (List.Sublist.append_left (List.Sublist.append_left (.cons_cons _ (.cons _ (List.Sublist.append_left (List.sublist_append_of_sublist_right (List.sublist_append_right _ _)) _))) _) _)
    have h2 := St.front (R := [_]) (L := K ++ L) (Ew ++ Em) (by simpa only [List.cons_append, List.append_assoc, List.nil_append] using h1)
    refine (show St _ _ _ (.row gr ((RdL.cells ⟨rad, rcap, ws, cnt + (ms.length : Int), 0, 0, ⟨#[]⟩⟩).set 0 (.slice wad ys.length wc)) :: (Ew ++ (Em ++ (K ++ L)))) from ?_)
    simpa only [List.cons_append, List.append_assoc, List.nil_append] using h2
end Go.Proofs.YtpjbofodllhjbaaDoor
/- stream: what a Reader tells; messages out of bytes; the document's example. -/
namespace Go.Proofs.YtpjbofodllhjbaaDoor
open Go.RowKit

theorem Count_c (w : World) (gr : Nat) (r : RdL) (hr : w.rangeAt gr 0 r.cells) : Calls Tryd.prog 27 #[.pointer (some ⟨gr, 0, none⟩)] w fun e w' => e = .returned (.int .i64 r.count) ∧ Frm (fun _ => False) w w' := by
  refine enter Tryd.func27 rfl Tryd.ntmps27 rfl (St.start (fun _ => False) w) ?_
  refine WC.seq ?_
  refine WC.region ?_
  refine WL.val (v_assign rfl rfl) (.none rfl) rfl rfl ?_
  refine WL.nil ?_
  refine WE.then_n ?_
  refine WC.seq ?_
  refine WC.seq ?_
  refine WC.region ?_
  refine WL.val (v_move rfl rfl) (.none rfl) rfl rfl ?_
  refine WL.val (v_eql_nil false rfl rfl Tryd.underlying72 rfl) (.none rfl) rfl rfl ?_
  refine WL.nil ?_
  refine WE.then_n ?_
  refine WC.cond_f rfl ?_
  refine WC.skip ?_
  refine WE.then_n ?_
  refine WC.seq ?_
  refine WC.region ?_
  refine WL.val (v_move rfl rfl) (.none rfl) rfl rfl ?_
  refine WL.val (v_nilCheck rfl rfl) (.none rfl) rfl rfl ?_
  refine WL.val (v_fieldAddr0 rfl rfl fld_74_1) (.none rfl) rfl rfl ?_
  refine WL.val (v_load1 rfl rfl one_3 (cellOld (v := .int .i64 r.count) (fun h => h) (hr 1 _ rfl))) (.none rfl) rfl rfl ?_
  refine WL.val (v_assign rfl rfl) (.none rfl) rfl rfl ?_
  refine WL.nil ?_
  refine WE.then_n ?_
  refine WC.ret ?_
  refine WE.ret1 (P := Tryd.prog) (.inl rfl) Tryd.results27 rfl ?_
  exact fun w' h => ⟨rfl, h.frm⟩
theorem Waits_c (w : World) (gr : Nat) (r : RdL) (hr : w.rangeAt gr 0 r.cells) : Calls Tryd.prog 28 #[.pointer (some ⟨gr, 0, none⟩)] w fun e w' => e = .returned (.int .i64 r.wait.length) ∧ Frm (fun _ => False) w w' := by
  refine enter Tryd.func28 rfl Tryd.ntmps28 rfl (St.start (fun _ => False) w) ?_
  refine WC.seq ?_
  refine WC.region ?_
  refine WL.val (v_assign rfl rfl) (.none rfl) rfl rfl ?_
  refine WL.nil ?_
  refine WE.then_n ?_
  refine WC.seq ?_
  refine WC.seq ?_
  refine WC.region ?_
  refine WL.val (v_move rfl rfl) (.none rfl) rfl rfl ?_
  refine WL.val (v_eql_nil false rfl rfl Tryd.underlying72 rfl) (.none rfl) rfl rfl ?_
  refine WL.nil ?_
  refine WE.then_n ?_
  refine WC.cond_f rfl ?_
  refine WC.skip ?_
  refine WE.then_n ?_
  refine WC.seq ?_
  refine WC.region ?_
  refine WL.val (v_move rfl rfl) (.none rfl) rfl rfl ?_
  refine WL.val (v_nilCheck rfl rfl) (.none rfl) rfl rfl ?_
  refine WL.val (v_fieldAddr0 rfl rfl fld_74_0) (.none rfl) rfl rfl ?_
  refine WL.val (v_load1 rfl rfl one_22 (cellOld (v := .slice r.ad r.wait.length r.cap) (fun h => h) (hr 0 _ rfl))) (.none rfl) rfl rfl ?_
  refine WL.val (v_len_slice rfl rfl Tryd.underlying22) (.none rfl) rfl rfl ?_
  refine WL.val (v_assign rfl rfl) (.none rfl) rfl rfl ?_
  refine WL.nil ?_
  refine WE.then_n ?_
  refine WC.ret ?_
  refine WE.ret1 (P := Tryd.prog) (.inl rfl) Tryd.results28 rfl ?_
  exact fun w' h => ⟨rfl, h.frm⟩
theorem szOf (k : Int) (body more : List Int) (hk : 1 ≤ k ∧ k ≤ 4) (hl : 19 + body.length ≤ 4096) (hle : leastI k ≤ 19 + body.length) (h4 : k = 4 → body = []) : sizeR (msgOf k body ++ more).length (fOf (msgOf k body ++ more)) = (((19 + body.length : Nat) : Int), 0, 0, ⟨#[]⟩) := by
  have hml := msgOf_len k body
  have hh := head_of (zs := msgOf k body ++ more) (L := 19 + body.length) (k := k) (fun i hi => by rw [List.getElem?_append_left (by omega)]; exact msgOf_head hi) (by omega)
  rw [sizeR_on (by rw [List.length_append]; omega) hh.1, hh.2.1, hh.2.2, if_neg (by omega), if_neg (fun h => leastI_zero.1 h hk), if_neg (by
      rintro (h | ⟨h, h'⟩)
      · omega
      · rw [h4 h] at h'; exact h' rfl)]
theorem feedM_msg {acc : List MsD} {k : Int} {body more : List Int} {m : MsD} (hk : 1 ≤ k ∧ k ≤ 4) (hl : 19 + body.length ≤ 4096) (hle : leastI k ≤ 19 + body.length) (h4 : k = 4 → body = []) (hb : bodyM k body = .inl m) : feedM acc (msgOf k body ++ more) = feedM (acc ++ [m]) more := by
  have hs := szOf k body more hk hl hle h4
  have hml := msgOf_len k body
  have hz : szL (msgOf k body ++ more) = (msgOf k body).length := by unfold szL; rw [hs, hml]; exact Int.toNat_natCast _
  rw [feedM_on (m := m) (by rw [List.length_append]; omega) (by rw [hs]) (by rw [hz, List.length_append]; omega) (by rw [hz, List.take_left, decM_of k body hk hl hle h4, hb]), hz, List.drop_left]
def RdL.zero : RdL := ⟨none, 0, [], 0, 0, 0, ⟨#[]⟩⟩
end Go.Proofs.YtpjbofodllhjbaaDoor
/- bgp: any message that was written is read again; messages one behind the other, in whatever pieces. -/
namespace Go.Proofs.YtpjbofodllhjbaaDoor
open Go.RowKit

theorem strOf_strI (d : ByteArray) : strOfNums (strI d) = d := by
  unfold strOfNums strI
  rw [List.map_map]
  have : (d.data.toList.map ((fun n : Int => UInt8.ofNat n.toNat) ∘ fun b : UInt8 => (b.toNat : Int))) = d.data.toList := by
    conv => rhs; rw [← List.map_id d.data.toList]
    apply List.map_congr_left
    intro b _
    show UInt8.ofNat ((b.toNat : Int).toNat) = b
    rw [Int.toNat_natCast]
    exact UInt8.ofNat_toNat
  rw [this]
theorem strD_note (a b : Int) (d : ByteArray) : strD (a :: b :: strI d) = d := by
  have h : (List.range (strI d).length).map (fun i => fOf (a :: b :: strI d) (2 + i)) = strI d := by
    apply List.ext_getElem?
    intro i
    by_cases hi : i < (strI d).length
    · rw [List.getElem?_map, List.getElem?_range hi, fOf_get hi]
      show some (fOf (a :: b :: strI d) (2 + i)) = _
      rw [show 2 + i = i + 1 + 1 by omega]
      rfl
    · rw [List.getElem?_eq_none (by simp; omega), List.getElem?_eq_none (by omega)]
  show strOfNums (bl (fun i => fOf (a :: b :: strI d) (2 + i)) ((a :: b :: strI d).length - 2)) = d
  unfold bl
  rw [show (a :: b :: strI d).length - 2 = (strI d).length by simp, h, strOf_strI]
/-- A message with what belongs to its kind alone. -/
def bareD (m : MsL) : MsD :=
  if m.kind = 1 then { (MsL.zero m.kind).d with asn := m.asn, hold := m.hold, id := m.id, caps := m.caps.map capD }
  else if m.kind = 2 then { (MsL.zero m.kind).d with gone := m.gone, atr := m.atr.d, nets := m.nets }
  else if m.kind = 3 then { (MsL.zero m.kind).d with fc := m.fc, fs := m.fs, fd := m.fd }
  else (MsL.zero m.kind).d
theorem bodyM_body {m : MsL} (h : msgC m = 0) (hI : m.In) : bodyM m.kind (bodB m) = .inl (bareD m) ∧ (1 ≤ m.kind ∧ m.kind ≤ 4) ∧ 19 + (bodB m).length ≤ 4096 ∧ leastI m.kind ≤ 19 + (bodB m).length ∧ (m.kind = 4 → bodB m = []) := by
  obtain ⟨hb, hl⟩ := msgC_bod h
  have hk := bodC_kind hb
  unfold bodC at hb
  by_cases k1 : m.kind = 1
  · rw [if_pos k1] at hb
    obtain ⟨o1, o2, o3, o4, o5⟩ := openR_body hb hI.id
    have e : bodB m = openB m := by unfold bodB; rw [if_pos k1]
    rw [e] at hl ⊢
    refine ⟨?_, hk, hl, by rw [k1]; show (29 : Int) ≤ _; omega, fun h => by omega⟩
    unfold bodyM bareD
    rw [if_pos k1, if_pos k1, o1, o2, o3, o4]
  · rw [if_neg k1] at hb
    by_cases k2 : m.kind = 2
    · rw [if_pos k2] at hb
      have e : bodB m = updB m := by unfold bodB; rw [if_neg k1, if_pos k2]
      have hl4 : 4 ≤ (updB m).length := by unfold updB; simp only [List.length_append, numB_len]; omega
      rw [e] at hl ⊢
      refine ⟨?_, hk, hl, by rw [k2]; show (23 : Int) ≤ _; omega, fun h => by omega⟩
      unfold bodyM bareD
      rw [if_neg k1, if_pos k2, if_neg k1, if_pos k2, updR_body hb hI]
    · rw [if_neg k2] at hb
      by_cases k3 : m.kind = 3
      · have e : bodB m = m.fc :: m.fs :: strI m.fd := by unfold bodB; rw [if_neg k1, if_neg k2, if_pos k3]; rfl
        rw [e] at hl ⊢
        refine ⟨?_, hk, hl, by rw [k3]; show (21 : Int) ≤ _; simp only [List.length_cons]; omega, fun h => by omega⟩
        unfold bodyM bareD
        rw [if_neg k1, if_neg k2, if_pos k3, if_neg k1, if_neg k2, if_pos k3, strD_note]
        rfl
      · have e : bodB m = [] := by unfold bodB; rw [if_neg k1, if_neg k2, if_neg k3]
        have k4 : m.kind = 4 := by omega
        rw [e] at hl ⊢
        refine ⟨?_, hk, hl, by rw [k4]; decide, fun _ => rfl⟩
        unfold bodyM bareD
        rw [if_neg k1, if_neg k2, if_neg k3, if_neg k1, if_neg k2, if_neg k3]
/-- Messages that have bytes. -/
def Fine (ms : List MsL) : Prop := ∀ m ∈ ms, msgC m = 0 ∧ m.In
def flatB (ms : List MsL) : List Int := ms.flatMap msgB
theorem feedM_part {acc : List MsD} {m : MsL} (h : msgC m = 0) (hI : m.In) {xs more : List Int} (e : ∃ tl, xs ++ more = msgB m ++ tl) (hl : xs.length < (msgB m).length) : feedM acc xs = (acc, none, xs) := by
  by_cases h19 : xs.length < 19
  · exact feedM_few h19
  · obtain ⟨h1, h2, h3, h4, h5⟩ := bodyM_body h hI
    obtain ⟨tl, e⟩ := e
    have hml := msgB_len m
    have hx : ∀ i, i < 19 → xs[i]? = (msgOf m.kind (bodB m))[i]? := fun i hi => by
      have : (xs ++ more)[i]? = (msgB m ++ tl)[i]? := by rw [e]
      rw [List.getElem?_append_left (by omega), List.getElem?_append_left (by omega)] at this
      exact this
    have hh := head_of (zs := xs) (L := 19 + (bodB m).length) (k := m.kind) (fun i hi => by rw [hx i hi]; exact msgOf_head hi) (by omega)
    have hs : sizeR xs.length (fOf xs) = (((19 + (bodB m).length : Nat) : Int), 0, 0, ⟨#[]⟩) := by
      rw [sizeR_on h19 hh.1, hh.2.1, hh.2.2, if_neg (by omega), if_neg (fun h => leastI_zero.1 h h2), if_neg (by
        rintro (h | ⟨h, h'⟩)
        · omega
        · rw [h5 h] at h'; exact h' rfl)]
    exact feedM_wait h19 (by rw [hs]) (by unfold szL; rw [hs]; dsimp only; rw [Int.toNat_natCast]; omega)
theorem feedM_prefix : ∀ (ms : List MsL) (acc : List MsD) (xs more : List Int), Fine ms → xs ++ more = flatB ms →
    ∃ j rest, j ≤ ms.length ∧ feedM acc xs = (acc ++ (ms.take j).map bareD, none, rest) ∧ rest ++ more = flatB (ms.drop j) ∧ (more = [] → j = ms.length ∧ rest = [])
  | [], acc, xs, more, _, e => by
    have e2 : xs ++ more = [] := e
    obtain ⟨rfl, rfl⟩ := List.append_eq_nil_iff.1 e2
    exact ⟨0, [], Nat.le_refl _, by rw [feedM_few (by decide)]; simp, rfl, fun _ => ⟨rfl, rfl⟩⟩
  | m :: ms, acc, xs, more, hf, e => by
    obtain ⟨hc, hI⟩ := hf m (List.mem_cons_self ..)
    have e2 : xs ++ more = msgB m ++ flatB ms := e
    by_cases hl : xs.length < (msgB m).length
    · have hlen := congrArg List.length e2
      rw [List.length_append, List.length_append] at hlen
      refine ⟨0, xs, Nat.zero_le _, by rw [feedM_part hc hI ⟨_, e2⟩ hl]; simp, e, fun h => ?_⟩
      rw [h, List.length_nil] at hlen
      omega
    · obtain ⟨ys, rfl⟩ : ∃ ys, xs = msgB m ++ ys := by
        refine ⟨xs.drop (msgB m).length, ?_⟩
        have h1 : (xs ++ more).take (msgB m).length = (msgB m ++ flatB ms).take (msgB m).length := by rw [e2]
        rw [List.take_append_of_le_length (by omega), List.take_left] at h1
        have h2 := List.take_append_drop (msgB m).length xs
        rw [h1] at h2
        exact h2.symm
      rw [List.append_assoc, List.append_cancel_left_eq] at e2
      obtain ⟨j, rest, h1, h2, h3, h4⟩ := feedM_prefix ms (acc ++ [bareD m]) ys more (fun x hx => hf x (List.mem_cons_of_mem _ hx)) e2
      obtain ⟨b1, b2, b3, b4, b5⟩ := bodyM_body hc hI
      refine ⟨j + 1, rest, by simp only [List.length_cons]; omega, ?_, h3, fun h => ⟨by rw [(h4 h).1]; rfl, (h4 h).2⟩⟩
      rw [msgB_of, feedM_msg b2 b3 b4 b5 b1, h2]
      simp
end Go.Proofs.YtpjbofodllhjbaaDoor
/- bgp: a message's bytes hang on what it says alone, not on where its parts lie. -/
namespace Go.Proofs.YtpjbofodllhjbaaDoor
open Go.RowKit

def capED (p : Int × List Int) : List Int := [p.1 % 256, (p.2.length : Int) % 256] ++ p.2
def capsED (cs : List (Int × List Int)) : List Int := cs.flatMap capED
theorem capsE_d (cs : List CapL) : capsE cs = capsED (cs.map capD) := by unfold capsE capsED; rw [List.flatMap_map]; rfl
theorem capOk_d (cs : List CapL) : cs.all capOk = (cs.map capD).all fun p => decide (0 ≤ p.1 ∧ p.1 ≤ 255 ∧ p.2.length ≤ 255) := by rw [List.all_map]; rfl
def openCD (d : MsD) : Int := if decide (d.asn < 1 ∨ 65535 < d.asn ∨ (d.hold ≠ 0 ∧ (d.hold < 3 ∨ 65535 < d.hold)) ∨ d.id = 0 ∨ 32 < d.caps.length) then 1 else if d.caps.all (fun p => decide (0 ≤ p.1 ∧ p.1 ≤ 255 ∧ p.2.length ≤ 255)) then if 253 < (capsED d.caps).length then 6 else 0 else 1
def openBD (d : MsD) : List Int := [4] ++ numB d.asn 2 ++ numB d.hold 2 ++ addrB d.id 4 ++ (if (capsED d.caps).length = 0 then [0] else [(2 + ((capsED d.caps).length : Int)) % 256, 2, ((capsED d.caps).length : Int) % 256] ++ capsED d.caps)
theorem openC_d (m : MsL) : openC m = openCD m.d := by
  unfold openC openCD badO
  rw [capsE_d, capOk_d, show m.caps.length = m.d.caps.length from (List.length_map ..).symm]
  rfl
theorem openB_d (m : MsL) : openB m = openBD m.d := by unfold openB openBD; rw [capsE_d]; rfl
def segED (p : Bool × List Int) : List Int := numB (if p.1 then 1 else 2) 1 ++ numB p.2.length 1 ++ p.2.flatMap fun x => numB x 2
def segBD (p : Bool × List Int) : Bool := decide (1 ≤ p.2.length ∧ p.2.length ≤ 255) && p.2.all fun x => decide (1 ≤ x ∧ x ≤ 65535)
def valED (a : AtD) (t : Nat) : List Int :=
  if t = 1 then numB a.origin 1 else if t = 2 then a.path.flatMap segED else if t = 3 then numB a.hop 4 else if t = 4 then numB a.med 4
  else if t = 5 then numB a.loc 4 else if t = 7 then numB a.aas 2 ++ numB a.aid 4 else if t = 8 then a.comms.flatMap fun x => numB x 4 else []
theorem valE_d (a : AtL) (t : Nat) : valE a t = valED a.d t := by
  unfold valE valED
  rw [show a.path.flatMap segE = a.d.path.flatMap segED by show _ = (a.path.map segD).flatMap segED; rw [List.flatMap_map]; rfl]
  rfl
def goodBD (a : AtD) (k : Nat) : Bool :=
  if k = 1 then wiB a.origin 2 else if k = 2 then a.path.all segBD else if k = 3 then hopB a.hop else if k = 4 then wiB a.med 4294967295
  else if k = 5 then wiB a.loc 4294967295 else if k = 7 then wiB a.aas 65535 else if k = 8 then commsB a.comms else true
theorem goodB_d (a : AtL) (k : Nat) : goodB a k = goodBD a.d k := by
  unfold goodB goodBD
  rw [show a.path.all segB = a.d.path.all segBD by show _ = (a.path.map segD).all segBD; rw [List.all_map]; rfl]
  rfl
def zeroBD (a : AtD) (k : Nat) : Bool :=
  if k = 1 then decide (a.origin = 0) else if k = 2 then decide ((a.path.length : Int) = 0) else if k = 3 then decide (a.hop = 0) else if k = 4 then decide (a.med = 0)
  else if k = 5 then decide (a.loc = 0) else if k = 7 then decide (a.aas = 0 ∧ a.aid = 0) else if k = 8 then decide ((a.comms.length : Int) = 0) else true
theorem zeroB_d (a : AtL) (k : Nat) : zeroB a k = zeroBD a.d k := by
  unfold zeroB zeroBD
  rw [show a.path.length = a.d.path.length from (List.length_map ..).symm]
  rfl
def ordBD : Int → List (Int × List Int) → Bool
  | _, [] => true
  | last, o :: os => decide (last < o.1 ∧ o.1 ≤ 255) && ordBD o.1 os
theorem ordB_d : ∀ (last : Int) (os : List OthL), ordB last os = ordBD last (os.map othD)
  | _, [] => rfl
  | last, o :: os => by
    show (_ && ordB o.ty os) = (_ && ordBD o.ty (os.map othD))
    rw [ordB_d o.ty os]
    rfl
def eachBD (a : AtD) (k : Nat) : Bool := if hasB a.has k then goodBD a k else zeroBD a k
def chkAD (a : AtD) : Bool := knownB a.has && ((List.range' 1 8).all (eachBD a)) && ordBD 8 a.others
theorem chkA_d (a : AtL) : chkA a = chkAD a.d := by
  unfold chkA chkAD
  rw [ordB_d, show eachB a = eachBD a.d from funext fun k => by unfold eachB eachBD; rw [goodB_d, zeroB_d]; rfl]
  rfl
def bodyAD (a : AtD) : List Int := ((List.range' 1 8).flatMap fun t => if hasB a.has t then putE (flagI t) t (valED a t) else []) ++ a.others.flatMap fun o => putE 224 o.1 o.2
theorem bodyA_d (a : AtL) : bodyA a = bodyAD a.d := by
  unfold bodyA bodyAD
  rw [show knownE a = (fun t => if hasB a.d.has t then putE (flagI t) t (valED a.d t) else []) from funext fun t => by unfold knownE; rw [valE_d]; rfl]
  rw [show (a.others.flatMap fun o => putE 224 o.ty o.val) = a.d.others.flatMap fun o => putE 224 o.1 o.2 by show _ = (a.others.map othD).flatMap _; rw [List.flatMap_map]; rfl]
def encED (a : AtD) : Int := if chkAD a then if (a.others.any fun o => decide (4096 < o.2.length)) || decide (4096 < (bodyAD a).length) then 6 else 0 else 1
theorem encE_d (a : AtL) : encE a = encED a.d := by
  unfold encE encED
  rw [chkA_d, bodyA_d, show (a.others.any fun o => decide (4096 < o.val.length)) = a.d.others.any fun o => decide (4096 < o.2.length) by show _ = (a.others.map othD).any _; rw [List.any_map]; rfl]
def updCD (d : MsD) : Int := if 200 < d.gone.length ∨ 200 < d.nets.length then 3 else if !(d.gone.all pfOk) || !(d.nets.all pfOk) || decide (0 < d.nets.length ∧ missI d.atr.has ≠ 0) then 1 else encED d.atr
def updBD (d : MsD) : List Int := numB (netsE d.gone).length 2 ++ netsE d.gone ++ numB (bodyAD d.atr).length 2 ++ bodyAD d.atr ++ netsE d.nets
theorem updC_d (m : MsL) : updC m = updCD m.d := by unfold updC updCD badN; rw [encE_d]; rfl
theorem updB_d (m : MsL) : updB m = updBD m.d := by unfold updB updBD; rw [bodyA_d]; rfl
def bodCD (d : MsD) : Int := if d.kind = 1 then openCD d else if d.kind = 2 then updCD d else if d.kind = 3 then if d.fc < 1 ∨ 255 < d.fc ∨ d.fs < 0 ∨ 255 < d.fs then 1 else if 4096 < d.fd.size then 6 else 0 else if d.kind = 4 then 0 else 12
def bodBD (d : MsD) : List Int := if d.kind = 1 then openBD d else if d.kind = 2 then updBD d else if d.kind = 3 then [d.fc, d.fs] ++ strI d.fd else []
theorem bodC_d (m : MsL) : bodC m = bodCD m.d := by unfold bodC bodCD noteC; rw [openC_d, updC_d]; rfl
theorem bodB_d (m : MsL) : bodB m = bodBD m.d := by unfold bodB bodBD noteB; rw [openB_d, updB_d]; rfl
def msgCD (d : MsD) : Int := if bodCD d = 0 then if 4096 < 19 + (bodBD d).length then 6 else 0 else bodCD d
def msgBD (d : MsD) : List Int := msgOf d.kind (bodBD d)
theorem msgC_d (m : MsL) : msgC m = msgCD m.d := by unfold msgC msgCD; rw [bodC_d, bodB_d]
theorem msgB_d (m : MsL) : msgB m = msgBD m.d := by rw [msgB_of, bodB_d]; rfl
theorem bod_1 {d : MsD} (k : d.kind = 1) : bodCD d = openCD d ∧ bodBD d = openBD d := ⟨by unfold bodCD; rw [if_pos k], by unfold bodBD; rw [if_pos k]⟩
theorem bod_2 {d : MsD} (k1 : ¬ d.kind = 1) (k : d.kind = 2) : bodCD d = updCD d ∧ bodBD d = updBD d := ⟨by unfold bodCD; rw [if_neg k1, if_pos k], by unfold bodBD; rw [if_neg k1, if_pos k]⟩
theorem bod_3 {d : MsD} (k1 : ¬ d.kind = 1) (k2 : ¬ d.kind = 2) (k : d.kind = 3) : bodCD d = (if d.fc < 1 ∨ 255 < d.fc ∨ d.fs < 0 ∨ 255 < d.fs then 1 else if 4096 < d.fd.size then 6 else 0) ∧ bodBD d = [d.fc, d.fs] ++ strI d.fd := ⟨by unfold bodCD; rw [if_neg k1, if_neg k2, if_pos k], by unfold bodBD; rw [if_neg k1, if_neg k2, if_pos k]⟩
theorem bod_4 {d : MsD} (k1 : ¬ d.kind = 1) (k2 : ¬ d.kind = 2) (k3 : ¬ d.kind = 3) : bodCD d = (if d.kind = 4 then 0 else 12) ∧ bodBD d = [] := ⟨by unfold bodCD; rw [if_neg k1, if_neg k2, if_neg k3], by unfold bodBD; rw [if_neg k1, if_neg k2, if_neg k3]⟩
theorem bareD_kind (m : MsL) : (bareD m).kind = m.kind := by
  unfold bareD
  split
  · rfl
  split
  · rfl
  split <;> rfl
/-- With what belongs to its kind alone. -/
theorem msgCD_bare (m : MsL) : msgCD (bareD m) = msgCD m.d ∧ msgBD (bareD m) = msgBD m.d := by
  have hk := bareD_kind m
  have e : bodCD (bareD m) = bodCD m.d ∧ bodBD (bareD m) = bodBD m.d := by
    by_cases k1 : m.kind = 1
    · obtain ⟨a1, a2⟩ := bod_1 (d := bareD m) (hk.trans k1)
      obtain ⟨b1, b2⟩ := bod_1 (d := m.d) k1
      rw [a1, a2, b1, b2]
      unfold bareD
      rw [if_pos k1]
      exact ⟨rfl, rfl⟩
    · by_cases k2 : m.kind = 2
      · obtain ⟨a1, a2⟩ := bod_2 (d := bareD m) (by rw [hk]; exact k1) (hk.trans k2)
        obtain ⟨b1, b2⟩ := bod_2 (d := m.d) k1 k2
        rw [a1, a2, b1, b2]
        unfold bareD
        rw [if_neg k1, if_pos k2]
        exact ⟨rfl, rfl⟩
      · by_cases k3 : m.kind = 3
        · obtain ⟨a1, a2⟩ := bod_3 (d := bareD m) (by rw [hk]; exact k1) (by rw [hk]; exact k2) (hk.trans k3)
          obtain ⟨b1, b2⟩ := bod_3 (d := m.d) k1 k2 k3
          rw [a1, a2, b1, b2]
          unfold bareD
          rw [if_neg k1, if_neg k2, if_pos k3]
          exact ⟨rfl, rfl⟩
        · obtain ⟨a1, a2⟩ := bod_4 (d := bareD m) (by rw [hk]; exact k1) (by rw [hk]; exact k2) (by rw [hk]; exact k3)
          obtain ⟨b1, b2⟩ := bod_4 (d := m.d) k1 k2 k3
          rw [a1, a2, b1, b2, hk]
          exact ⟨rfl, rfl⟩
  unfold msgCD msgBD
  rw [e.1, e.2, hk]
  exact ⟨rfl, rfl⟩
/-- Numbers in range. -/
structure AtD.In (a : AtD) : Prop where
  nums : I64 a.has ∧ I64 a.origin ∧ U32 a.hop ∧ I64 a.med ∧ I64 a.loc ∧ I64 a.aas ∧ U32 a.aid
  segs : ∀ s ∈ a.path, s.2.length ≤ 9223372036854775807 ∧ ∀ x ∈ s.2, I64 x
  comms : ∀ x ∈ a.comms, I64 x
  oths : ∀ o ∈ a.others, I64 o.1 ∧ o.2.length ≤ 9223372036854775807 ∧ Bys o.2
  lens : a.path.length ≤ 9223372036854775807 ∧ a.comms.length ≤ 9223372036854775807 ∧ a.others.length ≤ 9223372036854775807
structure MsD.In (m : MsD) : Prop where
  nums : I64 m.kind ∧ I64 m.asn ∧ I64 m.hold ∧ U32 m.id ∧ I64 m.fc ∧ I64 m.fs
  caps : ∀ c ∈ m.caps, I64 c.1 ∧ c.2.length ≤ 9223372036854775807 ∧ Bys c.2
  gone : ∀ p ∈ m.gone, U32 p.addr ∧ I64 p.len
  nets : ∀ p ∈ m.nets, U32 p.addr ∧ I64 p.len
  at_ : m.atr.In
  lens : m.caps.length ≤ 9223372036854775807 ∧ m.gone.length ≤ 9223372036854775807 ∧ m.nets.length ≤ 9223372036854775807 ∧ m.fd.size ≤ 9223372036854775807
theorem AtL.in_d {a : AtL} : a.In ↔ a.d.In := by
  constructor
  · intro h
    refine ⟨⟨h.has, h.origin, h.hop, h.med, h.loc, h.aas, h.aid⟩, fun s hs => ?_, h.comms, fun o ho => ?_, ?_⟩
    · obtain ⟨t, ht, rfl⟩ := List.mem_map.1 hs; exact h.segs t ht
    · obtain ⟨t, ht, rfl⟩ := List.mem_map.1 ho; exact h.oths t ht
    · have := h.lens; exact ⟨by show (a.path.map segD).length ≤ _; rw [List.length_map]; exact this.1, this.2.1, by show (a.others.map othD).length ≤ _; rw [List.length_map]; exact this.2.2⟩
  · intro h
    obtain ⟨n1, n2, n3, n4, n5, n6, n7⟩ := h.nums
    obtain ⟨l1, l2, l3⟩ := h.lens
    refine ⟨n1, n2, n3, n4, n5, n6, n7, fun s hs => h.segs (segD s) (List.mem_map.2 ⟨s, hs, rfl⟩), h.comms, fun o ho => h.oths (othD o) (List.mem_map.2 ⟨o, ho, rfl⟩), ⟨?_, l2, ?_⟩⟩
    · have : (a.path.map segD).length ≤ 9223372036854775807 := l1
      rwa [List.length_map] at this
    · have : (a.others.map othD).length ≤ 9223372036854775807 := l3
      rwa [List.length_map] at this
theorem MsL.in_d {m : MsL} : m.In ↔ m.d.In := by
  constructor
  · intro h
    have := h.lens
    exact ⟨⟨h.kind, h.asn, h.hold, h.id, h.fc, h.fs⟩, fun s hs => (by obtain ⟨t, ht, rfl⟩ := List.mem_map.1 hs; exact h.caps t ht), h.gone, h.nets, AtL.in_d.1 h.at_, ⟨by show (m.caps.map capD).length ≤ _; rw [List.length_map]; exact this.1, this.2⟩⟩
  · intro h
    obtain ⟨n1, n2, n3, n4, n5, n6⟩ := h.nums
    obtain ⟨l1, l2⟩ := h.lens
    refine ⟨n1, n2, n3, n4, n5, n6, fun s hs => h.caps (capD s) (List.mem_map.2 ⟨s, hs, rfl⟩), h.gone, h.nets, AtL.in_d.2 h.at_, ⟨?_, l2⟩⟩
    have : (m.caps.map capD).length ≤ 9223372036854775807 := l1
    rwa [List.length_map] at this
theorem zeroM_in {k : Int} (h : I64 k) : (MsL.zero k).In := ⟨h, zero_i, zero_i, zero_u, zero_i, zero_i, (fun c hc => by cases hc), (fun c hc => by cases hc), (fun c hc => by cases hc), AtL.zero_in, ⟨Nat.zero_le _, Nat.zero_le _, Nat.zero_le _, Nat.zero_le _⟩⟩
theorem bareD_in {m : MsL} (h : m.In) : (bareD m).In := by
  have hz := MsL.in_d.1 (zeroM_in h.kind)
  have hd := MsL.in_d.1 h
  unfold bareD
  split
  · exact ⟨⟨h.kind, h.asn, h.hold, h.id, hz.nums.2.2.2.2.1, hz.nums.2.2.2.2.2⟩, hd.caps, hz.gone, hz.nets, hz.at_, ⟨hd.lens.1, hz.lens.2⟩⟩
  split
  · exact ⟨hz.nums, hz.caps, hd.gone, hd.nets, hd.at_, ⟨hz.lens.1, hd.lens.2.1, hd.lens.2.2.1, hz.lens.2.2.2⟩⟩
  split
  · exact ⟨⟨h.kind, hz.nums.2.1, hz.nums.2.2.1, hz.nums.2.2.2.1, h.fc, h.fs⟩, hz.caps, hz.gone, hz.nets, hz.at_, ⟨hz.lens.1, hz.lens.2.1, hz.lens.2.2.1, hd.lens.2.2.2⟩⟩
  · exact hz
theorem flatMap_len {α : Type} {enc : α → List Value} {s : Nat} (hs : ∀ x, (enc x).length = s) : ∀ xs : List α, (xs.flatMap enc).length = xs.length * s
  | [] => by simp
  | x :: xs => by rw [List.flatMap_cons, List.length_append, hs, flatMap_len hs xs, List.length_cons, Nat.add_mul, Nat.one_mul]; omega
theorem flatMap_seg {α : Type} {enc : α → List Value} {s : Nat} (hs : ∀ x, (enc x).length = s) : ∀ (xs : List α) (i : Nat) (x : α), xs[i]? = some x → ((xs.flatMap enc).drop (i * s)).take s = enc x
  | [], _, _, h => by simp at h
  | y :: xs, 0, x, h => by
    simp only [List.getElem?_cons_zero, Option.some.injEq] at h
    subst h
    rw [List.flatMap_cons, Nat.zero_mul, List.drop_zero, List.take_left' (hs y)]
  | y :: xs, i + 1, x, h => by
    rw [List.getElem?_cons_succ] at h
    rw [List.flatMap_cons, Nat.add_mul, Nat.one_mul, Nat.add_comm, ← List.drop_drop, List.drop_left' (hs y)]
    exact flatMap_seg hs xs i x h
/-- Elements whose block is there. -/
theorem cells_of {s k c : Nat} {ad : Option Addr} {α : Type} {enc : α → List Value} {xs : List α} {w : World} {E : List Ent} (hV : Vec s ad k c (xs.flatMap enc) E) (hs : ∀ x, (enc x).length = s) (hs0 : 0 < s) (hw : ∀ e ∈ E, e.holds w) : RowsAt w ad s enc xs := fun i x hi => by
  have hl := flatMap_seg hs xs i x hi
  have h0 : 0 < (xs.flatMap enc).length := by
    have := (List.getElem?_eq_some_iff.1 hi).1
    rw [flatMap_len hs]
    exact Nat.mul_pos (by omega) hs0
  rcases hV with ⟨_, _, _, h, _⟩ | ⟨g, cs, rfl, rfl, hx, _, _⟩
  · rw [h] at h0; exact absurd h0 (Nat.lt_irrefl 0)
  · refine ⟨g, 0, rfl, fun j v hj => ?_⟩
    have hR : Row w g cs := hw (.row g cs) (List.mem_cons_self ..)
    have hjl := (List.getElem?_eq_some_iff.1 hj).1
    have h1 : (xs.flatMap enc)[i * s + j]? = some v := by
      rw [← hj, ← hl, List.getElem?_take, if_pos (by rw [hs] at hjl; exact hjl), List.getElem?_drop]
    rw [← hx, List.getElem?_take] at h1
    split at h1
    · rw [show (0 + i * s + j) = i * s + j by omega]; exact hR.cell h1
    · cases h1
end Go.Proofs.YtpjbofodllhjbaaDoor
/- stream: the document's example; StreamStops. -/
namespace Go.Proofs.YtpjbofodllhjbaaDoor
open Go.RowKit

def kaI : List Int := msgOf 4 []
theorem kaI_cells : u8s kaI = kaL := by kernel_rfl
theorem kaI_len : kaI.length = 19 := by decide
theorem kaI_bys : Bys kaI := msgOf_bys (by decide) Bys.nil
theorem bodyM_ka : bodyM 4 [] = .inl (MsL.zero 4).d := by unfold bodyM; rw [if_neg (by decide), if_neg (by decide), if_neg (by decide)]
theorem feedM_nil (acc : List MsD) : feedM acc [] = (acc, none, []) := feedM_few (by decide)
theorem feedM_ka : feedM [] kaI = ([(MsL.zero 4).d], none, []) := by
  have := feedM_msg (acc := []) (k := 4) (body := []) (more := []) (by decide) (by decide) (by decide) (fun _ => rfl) bodyM_ka
  rw [List.append_nil] at this
  exact this.trans (feedM_nil _)
theorem St.at0 {p : Nat → Prop} {w0 w : World} {L : List Ent} {g : Nat} {cs : List Value} (hS : St p w0 w L) (h : Ent.row g cs ∈ L) : w.rangeAt g 0 cs := fun j v hj => by
  rw [Nat.zero_add]
  have hR : Row w g cs := hS.holds _ h
  exact hR.cell hj
theorem Vec.src2 {s k c : Nat} {ad : Option Addr} {xs : List Value} {E : List Ent} (hV : Vec s ad k c xs E) (h0 : 0 < xs.length) : ∃ b o, ad = some ⟨b, o, none⟩ ∧ ∀ w, (∀ e ∈ E, e.holds w) → w.rangeAt b o xs := by
  rcases hV with ⟨_, _, _, rfl, _⟩ | ⟨g, cs, rfl, rfl, hx, _, _⟩
  · simp at h0
  · refine ⟨g, 0, rfl, fun w hw j v hj => ?_⟩
    have hR : Row w g cs := hw (.row g cs) (List.mem_cons_self ..)
    rw [← hx, List.getElem?_take] at hj
    split at hj
    · rw [Nat.zero_add]; exact hR.cell hj
    · cases hj
theorem map_nil' {α β : Type} {f : α → β} {l : List α} (h : l.map f = []) : l = [] := List.map_eq_nil_iff.1 h
set_option maxHeartbeats 4000000 in
theorem Head08_c (w0 : World) (hG : GF w0) (hZ : GZ w0) : Calls Tryd.prog 24 #[] w0 fun e w' => e = .returned (.bool true) ∧ Frm (fun _ => False) w0 w' := by
  refine enter Tryd.func24 rfl Tryd.ntmps24 rfl (St.start (fun _ => False) w0) ?_
  refine WC.seq ?_
  refine WC.region ?_
  refine WL.val (v_assign rfl rfl) (.none rfl) rfl rfl ?_
  refine WL.nil ?_
  refine WE.then_n ?_
  refine WC.seq ?_
  refine WC.region ?_
  refine WL.val (v_build rfl rfl zero_43 plc_43 rfl) (.none rfl) rfl rfl ?_
  refine WL.call rfl rfl ck_21 (.none rfl) rfl rfl ?_
  intro w1 hS
  refine (EncKa_c w1).mono ?_
  rintro e w' ⟨ad10, c10, E10, rfl, hV10, hS'⟩
  refine ⟨_, _, rfl, hS.join hS', ?_⟩
  rw [← kaI_cells] at hV10
  have hc10 := hV10.len.2
  obtain ⟨bb, ob, rfl, hrd⟩ := hV10.src (L := E10) (fun e h => h) (by decide)
  have hrd2 : ∀ (L : List Ent), (∀ e ∈ E10, e ∈ L) → ∀ w, St (fun _ => False) w0 w L → Win w bb ob c10 kaI := (fun L hm w hS => by
    obtain ⟨b2, o2, e, h⟩ := hV10.src (L := L) hm (by decide)
    cases e
    exact ⟨h _ _ _ hS, kaI_bys, hc10⟩)
  refine WL.val (v_move rfl rfl) (.none rfl) rfl rfl ?_
  refine WL.val (v_extract rfl rfl rfl) (.none rfl) rfl rfl ?_
  refine WL.val (v_extract rfl rfl rfl) (.none rfl) rfl rfl ?_
  refine WL.val (v_assign rfl rfl) (.none rfl) rfl rfl ?_
  refine WL.val (v_assign rfl rfl) (.none rfl) rfl rfl ?_
  refine WL.nil ?_
  refine WE.then_n ?_
  refine WC.seq ?_
  refine WC.seq ?_
  refine WC.region ?_
  refine WL.val (v_move rfl rfl) (.none rfl) rfl rfl ?_
  refine WL.val ((v_neq rfl rfl rfl).f (by decide)) (.none rfl) rfl rfl ?_
  refine WL.val (v_move rfl rfl) (.none rfl) rfl rfl ?_
  refine WL.val (v_move rfl rfl) (.some rfl rfl rfl) rfl rfl ?_
  refine WL.val (v_len_slice rfl rfl Tryd.underlying22) (.some rfl rfl rfl) rfl rfl ?_
  refine WL.val ((v_neq rfl rfl rfl).f (by decide)) (.some rfl rfl rfl) rfl rfl ?_
  refine WL.val (v_pick_f rfl rfl rfl) (.none rfl) rfl rfl ?_
  refine WL.nil ?_
  refine WE.then_n ?_
  refine WC.cond_f rfl ?_
  refine WC.skip ?_
  refine WE.then_n ?_
  refine WC.seq ?_
  refine WC.region ?_
  refine WL.val (v_build rfl rfl zero_74 plc_74 rfl) (.none rfl) rfl rfl ?_
  refine WL.box rfl rfl rfl (.none rfl) rfl rfl ?_
  intro g21 hg21
  refine WL.val (v_assign rfl rfl) (.none rfl) rfl rfl ?_
  refine WL.nil ?_
  refine WE.then_n ?_
  refine WC.seq ?_
  refine WC.region ?_
  refine WL.val (v_move rfl rfl) (.none rfl) rfl rfl ?_
  refine WL.val (v_move rfl rfl) (.none rfl) rfl rfl ?_
  refine WL.val ((v_slice_hi (hi := 10) rfl rfl rfl Tryd.underlying22 sz_5 rfl (by omega))) (.none rfl) rfl rfl ?_
  refine WL.call rfl rfl ck_26 (.none rfl) rfl rfl ?_
  intro w1 hS
  have ht : (kaI.take 10).length = 10 := (by decide)
  have hc := Feed_c w0 w1 g21 .zero (some ⟨bb, ob, none⟩) c10 (kaI.take 10) [] (E10 ++ []) hG hZ ⟨rfl, rfl, rfl⟩ (Vec.nil 1) (fun x hx => kaI_bys x (List.mem_of_mem_take hx)) (fun w hS _ => ⟨bb, ob, rfl, ((hrd2 _ (fun e he => .tail _ (List.mem_append_left _ he)) w hS).take 10).at_⟩) (by show (kaI.take 10).length ≤ 50000; decide) ⟨by show (0 : Int) ≤ 0; decide, by show (0 : Int) ≤ 4611686018427387904; decide⟩ (show St (fun _ => False) w0 w1 (.row g21 RdL.zero.cells :: ([] ++ (E10 ++ []))) from hS)
  rw [ht] at hc
  refine hc.mono ?_
  rintro e w' ⟨ad, mc, ms, Em, K, wad, wc, rest, Ew, f, hf, rfl, hVm, hK, hVw, hBr, hS'⟩
  have e0 : feedM [] (kaI.take 10) = ([], none, kaI.take 10) := feedM_few (by decide)
  have e1 := e0.symm.trans hf
  injection e1 with e1 e2
  injection e2 with e2 e3
  obtain rfl := map_nil' e1.symm
  subst e2 e3
  refine ⟨_, _, rfl, hS', ?_⟩
  refine WL.val (v_move rfl rfl) (.none rfl) rfl rfl ?_
  refine WL.val (v_extract rfl rfl rfl) (.none rfl) rfl rfl ?_
  refine WL.val (v_extract rfl rfl rfl) (.none rfl) rfl rfl ?_
  refine WL.alloc rfl zero_25 (.none rfl) rfl rfl ?_
  intro g5 hg5
  refine WL.val (v_assign rfl rfl) (.none rfl) rfl rfl ?_
  refine WL.storeW rfl rfl rfl rfl many_25 rfl rfl (.none rfl) rfl ?_
  refine WL.nil ?_
  refine WE.then_n ?_
  refine WC.seq ?_
  refine WC.region ?_
  refine WL.val (v_move rfl rfl) (.none rfl) rfl rfl ?_
  refine WL.val (v_move rfl rfl) (.none rfl) rfl rfl ?_
  refine WL.val ((v_slice_lo (lo := 10) rfl rfl rfl Tryd.underlying22 sz_5 rfl (by omega))) (.none rfl) rfl rfl ?_
  refine WL.call rfl rfl ck_26 (.none rfl) rfl rfl ?_
  intro w1 hS
  have ht : (kaI.drop 10).length = 19 - 10 := (by decide)
  have hc := Feed_c w0 w1 g21 ⟨wad, wc, kaI.take 10, 0, 0, 0, ⟨#[]⟩⟩ (some ⟨bb, sAddr ob 10 c10 1, none⟩) (c10 - 10) (kaI.drop 10) Ew (.row g5 (fltL 0 0 ⟨#[]⟩) :: (Em ++ (K ++ (E10 ++ [])))) hG hZ ⟨rfl, rfl, rfl⟩ hVw (by rw [List.take_append_drop]; exact kaI_bys) (fun w hS _ => ⟨bb, sAddr ob 10 c10 1, rfl, ((hrd2 _ (fun e he => .tail _ (List.mem_append_right _ (.tail _ (List.mem_append_right _ (List.mem_append_right _ (List.mem_append_left _ he)))))) w hS).drop 10).at_⟩) (by rw [List.take_append_drop, kaI_len]; decide) ⟨by show (0 : Int) ≤ 0; decide, by show (0 : Int) ≤ 4611686018427387904; decide⟩ (St.front (R := .row g21 _ :: Ew) (L := Em ++ (K ++ (E10 ++ []))) [.row g5 (fltL 0 0 ⟨#[]⟩)] hS)
  rw [ht] at hc
  refine hc.mono ?_
  rintro e w' ⟨ad2, mc2, ms2, Em2, K2, wad2, wc2, rest2, Ew2, f2, hf2, rfl, hVm2, hK2, hVw2, hBr2, hS2⟩
  have e1 := feedM_ka.symm.trans ((by rw [List.take_append_drop] : feedM [] kaI = feedM [] (kaI.take 10 ++ kaI.drop 10)).trans hf2)
  injection e1 with e1 e2
  injection e2 with e2 e3
  subst e2 e3
  obtain ⟨m, rfl⟩ : ∃ m, ms2 = [m] := (by
    have hl := congrArg List.length e1
    rw [List.length_map] at hl
    exact List.length_eq_one_iff.1 hl.symm)
  have hkd : m.kind = 4 := (by injection e1 with h _; exact (congrArg MsD.kind h).symm)
  obtain ⟨bm, om, rfl, hrm⟩ := hVm2.src2 (by rw [hVm2.len.1]; show 0 < 1 * 20; decide)
  refine ⟨_, _, rfl, hS2, ?_⟩
  refine WL.val (v_move rfl rfl) (.none rfl) rfl rfl ?_
  refine WL.val (v_extract rfl rfl rfl) (.none rfl) rfl rfl ?_
  refine WL.val (v_extract rfl rfl rfl) (.none rfl) rfl rfl ?_
  refine WL.alloc rfl zero_25 (.none rfl) rfl rfl ?_
  intro g7 hg7
  refine WL.val (v_assign rfl rfl) (.none rfl) rfl rfl ?_
  refine WL.storeW rfl rfl rfl rfl many_25 rfl rfl (.none rfl) rfl ?_
  refine WL.nil ?_
  refine WE.then_n ?_
  refine WC.seq ?_
  refine WC.region ?_
  refine WL.val (v_move rfl rfl) (.none rfl) rfl rfl ?_
  refine WL.val (v_len_slice rfl rfl Tryd.underlying75) (.none rfl) rfl rfl ?_
  refine WL.val ((v_eql rfl rfl rfl).t (rfl)) (.none rfl) rfl rfl ?_
  refine WL.val (v_move rfl rfl) (.none rfl) rfl rfl ?_
  refine WL.val (v_fieldAddr0 rfl rfl fld_25_0) (.some rfl rfl rfl) rfl rfl ?_
  refine WL.val (v_load1 rfl rfl one_3 (cellAt rfl)) (.some rfl rfl rfl) rfl rfl ?_
  refine WL.val ((v_eql rfl rfl rfl).t (rfl)) (.some rfl rfl rfl) rfl rfl ?_
  refine WL.val (v_pick_t rfl rfl rfl) (.none rfl) rfl rfl ?_
  refine WL.val (v_move rfl rfl) (.none rfl) rfl rfl ?_
  refine WL.val (v_move rfl rfl) (.some rfl rfl rfl) rfl rfl ?_
  refine WL.val (v_len_slice rfl rfl Tryd.underlying75) (.some rfl rfl rfl) rfl rfl ?_
  refine WL.val ((v_eql rfl rfl rfl).t (rfl)) (.some rfl rfl rfl) rfl rfl ?_
  refine WL.val (v_pick_t rfl rfl rfl) (.none rfl) rfl rfl ?_
  refine WL.val (v_move rfl rfl) (.none rfl) rfl rfl ?_
  refine WL.val (v_fieldAddr0 rfl rfl fld_25_0) (.some rfl rfl rfl) rfl rfl ?_
  refine WL.val (v_load1 rfl rfl one_3 (cellAt rfl)) (.some rfl rfl rfl) rfl rfl ?_
  refine WL.val ((v_eql rfl rfl rfl).t (rfl)) (.some rfl rfl rfl) rfl rfl ?_
  refine WL.val (v_pick_t rfl rfl rfl) (.none rfl) rfl rfl ?_
  refine WL.val (v_move rfl rfl) (.none rfl) rfl rfl ?_
  refine WL.val (v_move rfl rfl) (.some rfl rfl rfl) rfl rfl ?_
  refine WL.val ((v_indexAddr (b := bm) (off := om) (lo := 0) rfl rfl rfl Tryd.underlying75 sz_43 rfl (by show 0 < 1; omega))) (.some rfl rfl rfl) rfl rfl ?_
  refine WL.val (v_fieldAddr rfl rfl fld_43_0) (.some rfl rfl rfl) rfl rfl ?_
  refine WL.val (v_load1 rfl rfl one_3 (fun w hS => hrm w (fun e he => hS.holds e (.tail _ (.tail _ (List.mem_append_right _ (List.mem_append_left _ he))))) 0 (.int .i64 m.kind) rfl)) (.some rfl rfl rfl) rfl rfl ?_
  refine WL.val ((v_eql rfl rfl rfl).t (hkd)) (.some rfl rfl rfl) rfl rfl ?_
  refine WL.val (v_pick_t rfl rfl rfl) (.none rfl) rfl rfl ?_
  refine WL.val (v_move rfl rfl) (.none rfl) rfl rfl ?_
  refine WL.val (v_move rfl rfl) (.some rfl rfl rfl) rfl rfl ?_
  refine WL.call rfl rfl ck_27 (.some rfl rfl rfl) rfl rfl ?_
  intro w hS
  refine Calls.then (Count_c w g21 _ (hS.at0 (cs := RdL.cells ⟨wad2, wc2, [], 0 + (([m] : List MsL).length : Int), 0, 0, ⟨#[]⟩⟩) (.tail _ (.head _)))) hS ?_
  refine WL.val ((v_eql rfl rfl rfl).t (rfl)) (.some rfl rfl rfl) rfl rfl ?_
  refine WL.val (v_pick_t rfl rfl rfl) (.none rfl) rfl rfl ?_
  refine WL.val (v_move rfl rfl) (.none rfl) rfl rfl ?_
  refine WL.val (v_move rfl rfl) (.some rfl rfl rfl) rfl rfl ?_
  refine WL.call rfl rfl ck_28 (.some rfl rfl rfl) rfl rfl ?_
  intro w hS
  refine Calls.then (Waits_c w g21 _ (hS.at0 (cs := RdL.cells ⟨wad2, wc2, [], 0 + (([m] : List MsL).length : Int), 0, 0, ⟨#[]⟩⟩) (.tail _ (.head _)))) hS ?_
  refine WL.val ((v_eql rfl rfl rfl).t (rfl)) (.some rfl rfl rfl) rfl rfl ?_
  refine WL.val (v_pick_t rfl rfl rfl) (.none rfl) rfl rfl ?_
  refine WL.val (v_assign rfl rfl) (.none rfl) rfl rfl ?_
  refine WL.nil ?_
  refine WE.then_n ?_
  refine WC.ret ?_
  refine WE.ret1 (P := Tryd.prog) (.inl rfl) Tryd.results24 rfl ?_
  exact fun w' h => ⟨rfl, h.frm⟩
end Go.Proofs.YtpjbofodllhjbaaDoor
/- stream: slices of bytes that begin anywhere in their block, and grow; a Queue. -/
namespace Go.Proofs.YtpjbofodllhjbaaDoor
open Go.RowKit

/-- A slice of bytes of one's own, wherever it begins in its block. -/
def VecO (ad : Option Addr) (c : Nat) (xs : List Int) (E : List Ent) : Prop :=
  (ad = none ∧ c = 0 ∧ xs = [] ∧ E = []) ∨ ∃ g o cs, ad = some ⟨g, o, none⟩ ∧ E = [.row g cs] ∧ xs.length ≤ c ∧ o + c ≤ cs.length ∧ ∀ i v, (u8s xs)[i]? = some v → cs[o + i]? = some v
theorem VecO.nil : VecO none 0 [] [] := .inl ⟨rfl, rfl, rfl, rfl⟩
theorem VecO.of {ad : Option Addr} {c : Nat} {xs : List Int} {E : List Ent} (h : BV ad c xs E) : VecO ad c xs E := by
  rcases h with ⟨ha, hn, hc, _, hE⟩ | ⟨g, cs, ha, hE, hx, hl, hk⟩
  · exact .inl ⟨ha, hc, List.length_eq_zero_iff.1 hn, hE⟩
  · refine .inr ⟨g, 0, cs, ha, hE, hk, by omega, fun i v hi => ?_⟩
    rw [Nat.zero_add]
    rw [← hx, List.getElem?_take] at hi
    split at hi
    · exact hi
    · cases hi
theorem VecO.len {ad : Option Addr} {c : Nat} {xs : List Int} {E : List Ent} (h : VecO ad c xs E) : xs.length ≤ c := by
  rcases h with ⟨_, rfl, rfl, _⟩ | ⟨_, _, _, _, _, h, _⟩
  · exact Nat.le_refl _
  · exact h
theorem VecO.range {ad : Option Addr} {c : Nat} {xs : List Int} {E : List Ent} (h : VecO ad c xs E) {w : World} (hw : ∀ e ∈ E, e.holds w) : CellsAt w ad (u8s xs) := fun h0 => by
  rcases h with ⟨_, _, rfl, _⟩ | ⟨g, o, cs, rfl, rfl, _, _, hx⟩
  · exact absurd h0 (Nat.lt_irrefl 0)
  · refine ⟨g, o, rfl, fun j v hj => ?_⟩
    have hR : Row w g cs := hw (.row g cs) (List.mem_cons_self ..)
    exact hR.cell (hx j v hj)
theorem VecO.drop {g o c : Nat} {xs : List Int} {E : List Ent} (h : VecO (some ⟨g, o, none⟩) c xs E) (k : Nat) (hk : k ≤ xs.length) : VecO (some ⟨g, sAddr o k c 1, none⟩) (c - k) (xs.drop k) E := by
  rcases h with ⟨h, _⟩ | ⟨g', o', cs, e, rfl, hl, hb, hx⟩
  · cases h
  · cases e
    refine .inr ⟨g, sAddr o k c 1, cs, rfl, rfl, by rw [List.length_drop]; omega, by unfold sAddr; split <;> omega, fun i v hi => ?_⟩
    unfold sAddr
    split
    · rename_i hck
      rw [List.drop_eq_nil_of_le (by omega)] at hi
      simp [u8s] at hi
    · have := hx (k + i) v (by rw [← hi]; unfold u8s; rw [List.getElem?_map, List.getElem?_map, List.getElem?_drop])
      rw [Nat.mul_one, Nat.add_assoc]; exact this
theorem VecO.view {ad : Option Addr} {c : Nat} {xs : List Int} {E : List Ent} (h : VecO ad c xs E) (hb : Bys xs) : View E ad c xs := by
  refine ⟨h.len, hb, ?_⟩
  rcases h with ⟨h1, h2, h3, _⟩ | ⟨g, o, cs, rfl, rfl, hl, hc, hx⟩
  · exact .inl ⟨h1, h2, h3⟩
  · refine .inr ⟨g, o, rfl, fun w hw j v hj => ?_⟩
    have hR : Row w g cs := hw (.row g cs) (List.mem_cons_self ..)
    exact hR.cell (hx j v hj)
theorem VecO.ad {ad : Option Addr} {c : Nat} {xs : List Int} {E : List Ent} (h : VecO ad c xs E) : ad = none ∨ ∃ b o, ad = some ⟨b, o, none⟩ := by
  rcases h with ⟨h, _⟩ | ⟨g, o, _, h, _⟩
  · exact .inl h
  · exact .inr ⟨g, o, h⟩
theorem View.take {E : List Ent} {aa : Option Addr} {c : Nat} {ys : List Int} (h : View E aa c ys) (k : Nat) : View E aa c (ys.take k) := by
  refine ⟨by rw [List.length_take]; have := h.le; omega, fun x hx => h.bys x (List.mem_of_mem_take hx), ?_⟩
  rcases h.at_ with ⟨h1, h2, h3⟩ | ⟨b, o, rfl, hr⟩
  · exact .inl ⟨h1, h2, by rw [h3]; simp⟩
  · exact .inr ⟨b, o, rfl, fun w hw => ((h.win hw).take k).at_⟩
section
variable {P : Program} {ops : Array Oper} {Q : Exit → Act → World → Prop} {n : Nat} {p : Nat → Prop} {w0 : World} {o : Oper} {rest : List Oper} {l : Kn} {E L0 : List Ent}
def loAd (ad : Option Addr) (lo cap : Nat) : Option Addr := ad.map fun a => ⟨a.block, sAddr a.off lo cap 1, a.spot⟩
/-- x[lo:] of a slice of bytes, nil or not. -/
theorem v_slice_loA {C : World → Prop} {t e len cap lo : Nat} {k : IntKind} {A : Int} {ad : Option Addr} {x xl : Operand} (ho : o.op = .slice t x (some xl) none none) (hx : ev l x = some (.slice ad len cap)) (hl : ev l xl = some (.int k A)) (hu : P.underlying t = some (.slice e)) (hs : (P.info? e).map (·.size) = some 1) (hA : A = (lo : Int)) (hle : lo ≤ len)
    (had : ad = none ∨ ∃ b o, ad = some ⟨b, o, none⟩) : Val P C n l o (.slice (loAd ad lo cap) (len - lo) (cap - lo)) := by
  rcases had with rfl | ⟨b, off, rfl⟩
  · intro a w ha _
    have h1 := ha.ev hx; have h2 := ha.ev hl
    subst hA
    have hi : (0 : Int) ≤ lo ∧ (lo : Int) ≤ len := by omega
    unfold execOp
    simp [ho, h1, h2, Instr.sliceAt, run_underlying hu, Instr.slice, Instr.sliceBounds, Instr.sliceBound, asIntOf, hle, run_sizeOf hs, loAd]
  · exact v_slice_lo ho hx hl hu hs hA hle
/-- append(x, y...) of bytes, x a slice that begins anywhere. -/
theorem WL.appendO {t tx e by_ d c mc : Nat} {ad sa : Option Addr} {xs new : List Int} {zs : List Value} {x y : Operand} (ho : o.op = .call { callee := .builtin .append, args := #[x, y], argTypes := #[t, tx] }) (hx : ev l x = some (.slice ad xs.length c)) (hy : ev l y = some (.slice sa new.length mc))
    (hu : P.underlying t = some (.slice e)) {e' : TypeId} (hux : P.underlying tx = some (.slice e')) (hs : (P.info? e).map (·.size) = some 1) (hb : (P.info? e).map (·.bytes) = some by_) (hz : Zero P e zs) (hzl : zs.length = 1) (hby : Nat.blt 0 by_ = true)
    (hV : VecO ad c xs E) (hc : ∀ w, St p w0 w (E ++ L0) → CellsAt w sa (u8s new)) (hbig : (3 * (xs.length + new.length) + 1200) * by_ ≤ 281474976710656)
    (hg : On ops o l) (hd : o.dst = some d) (hn : Nat.blt d n = true)
    (h : ∀ ad' c' E', VecO ad' c' (xs ++ new) E' → WL P ops Q n p w0 rest ((d, .slice ad' (xs ++ new).length c') :: l) (E' ++ L0)) : WL P ops Q n p w0 (o :: rest) l (E ++ L0) := by
  refine WL.op hg hd hn fun a w ha hS => ?_
  have hxy : evs l [x, y] = some [.slice ad xs.length c, .slice sa new.length mc] := by simp [evs, hx, hy]
  obtain ⟨cc, hr⟩ := run_builtin (P := P) (w := w) (xs := [x, y]) ho hxy ha
  have hun : (u8s new).length = new.length * 1 := by rw [u8s_len, Nat.mul_one]
  have first : ∀ {q : Option Addr} {jc : Nat} {us : List Int}, (∀ w, St p w0 w (E ++ L0) → CellsAt w q (u8s us)) → ∀ w', St p w0 w' (E ++ L0) → (Builtin.firstCells 1 us.length (.slice q us.length jc)).run P w' = .ok (u8s us).toArray w' := fun {q jc us} hq w' hS' => by
    by_cases hm : 0 < us.length
    · obtain ⟨b, so, eq, hcs2⟩ := hq w' hS' (by rw [u8s_len]; exact hm)
      rw [eq]
      exact run_loadRange (P := P) (by rw [u8s_len, Nat.mul_one]) hcs2
    · obtain rfl : us = [] := List.length_eq_zero_iff.1 (by omega)
      cases q with
      | none => rfl
      | some q => simp [Builtin.firstCells, loadCells, loadCellsFrom, u8s]
  have hold : ∀ w, St p w0 w (E ++ L0) → CellsAt w ad (u8s xs) := fun w hS => hV.range fun e he => hS.holds e (List.mem_append_left _ he)
  have hlen : (xs ++ new).length = xs.length + new.length := List.length_append
  by_cases hroom : xs.length + new.length ≤ c
  · rcases hV with ⟨rfl, rfl, rfl, rfl⟩ | ⟨g, off, cs, rfl, rfl, hl, hoc, hcx⟩
    · obtain rfl : new = [] := List.length_eq_zero_iff.1 (by simp only [List.length_nil] at hroom; omega)
      refine ⟨_, w, L0, ?_, hS, h none 0 [] VecO.nil⟩
      rw [hr]
      have hf := first (q := sa) (jc := mc) (us := []) hc w hS
      simp only [List.length_nil] at hf
      simp [builtin, Builtin.append_, run_underlying hu, run_underlying hux, run_sizeOf hs, Builtin.lenOf, hf]
    · replace hS : St p w0 w (.row g cs :: L0) := hS
      obtain ⟨w', hst, hR', hF⟩ := run_storeCells_row (P := P) (u8s new) 0 (off + xs.length) cs w (hS.row (g := g) (cs := cs)) (by rw [u8s_len]; omega) (u8s_one _)
      have hV' : VecO (some ⟨g, off, none⟩) c (xs ++ new) [.row g (splice cs (off + xs.length) (u8s new))] := by
        refine .inr ⟨g, off, _, rfl, rfl, by omega, by rw [splice_length _ _ _ (by rw [u8s_len]; omega)]; exact hoc, fun i v hi => ?_⟩
        rw [splice_eq _ _ _ (by rw [u8s_len]; omega)]
        rw [u8s_app] at hi
        by_cases hi2 : i < xs.length
        · rw [List.getElem?_append_left (by rw [u8s_len]; exact hi2)] at hi
          rw [List.getElem?_append_left (by rw [List.length_append, List.length_take]; omega), List.getElem?_append_left (by rw [List.length_take]; omega), List.getElem?_take, if_pos (by omega)]
          exact hcx i v hi
        · rw [List.getElem?_append_right (by rw [u8s_len]; omega), u8s_len] at hi
          have hin := (List.getElem?_eq_some_iff.1 hi).1
          rw [u8s_len] at hin
          have htk : (cs.take (off + xs.length)).length = off + xs.length := by rw [List.length_take]; omega
          rw [List.getElem?_append_left (by rw [List.length_append, htk, u8s_len]; omega), List.getElem?_append_right (by omega), htk, show off + i - (off + xs.length) = i - xs.length by omega]
          exact hi
      have hf := first (q := sa) (jc := mc) (us := new) hc w hS
      refine ⟨_, w', .row g (splice cs (off + xs.length) (u8s new)) :: L0, ?_, hS.put (L' := .row g (splice cs (off + xs.length) (u8s new)) :: L0) (g := g) (e := .row g (splice cs (off + xs.length) (u8s new))) rfl hF (show Row _ _ _ by simpa using hR'), h _ c _ hV'⟩
      rw [hr, hlen]
      simp [builtin, Builtin.append_, run_underlying hu, run_underlying hux, run_sizeOf hs, Builtin.lenOf, hf, hroom, addr_add, hst]
  · obtain ⟨ad', c', E', w', h1, h2, h3⟩ := append_new (P := P) (ty := o.type) (y := .slice sa new.length mc) (new := u8s new) (xs := u8s xs) (k := xs.length) (c := c) (m := new.length) (ad := ad) hu hux hs hb hz hzl (by simpa using hby) hroom (by rw [u8s_len, Nat.mul_one]) (fun w' hS' => first hold w' hS') hS (by simp [Builtin.lenOf]) (fun w' hS' => first hc w' hS') hun hbig
    rw [← u8s_app, ← hlen] at h2
    refine ⟨_, w', E' ++ L0, ?_, h3.sub (List.Sublist.append_left (List.sublist_append_right _ _) _), h ad' c' E' (VecO.of h2)⟩
    rw [hr, hlen]
    simp [builtin, h1]
end
theorem VecO.dropA {ad : Option Addr} {c : Nat} {xs : List Int} {E : List Ent} (h : VecO ad c xs E) (k : Nat) (hk : k ≤ xs.length) : VecO (loAd ad k c) (c - k) (xs.drop k) E := by
  rcases h with ⟨rfl, rfl, rfl, rfl⟩ | ⟨g, o, cs, rfl, h2, h3⟩
  · simp only [List.drop_nil, Nat.zero_sub]; exact VecO.nil
  · exact (show VecO (some ⟨g, o, none⟩) c xs E from .inr ⟨g, o, cs, rfl, h2, h3⟩).drop k hk
/-- A Queue. -/
structure QuL where
  ad : Option Addr
  cap : Nat
  wait : List Int
  most : Int
def QuL.cells (q : QuL) : List Value := [.slice q.ad q.wait.length q.cap, .int .i64 q.most]
end Go.Proofs.YtpjbofodllhjbaaDoor
/- stream: StreamQueues. -/
namespace Go.Proofs.YtpjbofodllhjbaaDoor
open Go.RowKit

structure OpL where
  k : Int
  ad : Option Addr
  cap : Nat
  val : List Int
  n : Int
def OpL.cells (o : OpL) : List Value := [.int .i64 o.k, .slice o.ad o.val.length o.cap, .int .i64 o.n]
theorem CellsAt.rdo {w : World} {a : Option Addr} {xs : List Int} (h : CellsAt w a (u8s xs)) : RdO w a xs.length (fOf xs) := fun h0 => by
  obtain ⟨b, o, e, hr⟩ := h (by rw [u8s_len]; exact h0)
  exact ⟨b, o, e, rd_u8s hr⟩
theorem View.rdo {E : List Ent} {aa : Option Addr} {c : Nat} {ys : List Int} (h : View E aa c ys) {w : World} (hw : ∀ e ∈ E, e.holds w) : RdO w aa ys.length (fOf ys) := fun h0 => by
  obtain ⟨b, o, rfl⟩ := h.some h0
  exact ⟨b, o, rfl, rd_u8s (h.win hw).at_⟩
structure QS where
  ws : List Int
  qa : Option Addr
  qc : Nat
  Eq : List Ent
  aa : Option Addr
  ac : Nat
  Ea : List Ent
/-- How the queue and the list stand to each other. -/
structure QI (y : QS) (most : Int) (k : Nat) : Prop where
  q : VecO y.qa y.qc y.ws y.Eq
  a : VecO y.aa y.ac y.ws y.Ea
  bys : Bys y.ws
  len : y.ws.length ≤ 300 * k
  fit : (y.ws.length : Int) ≤ most
theorem QI.mono {y : QS} {most : Int} {k k' : Nat} (h : QI y most k) (hk : k ≤ k') : QI y most k' := ⟨h.q, h.a, h.bys, by have := h.len; omega, h.fit⟩
theorem St.mid {p : Nat → Prop} {w0 w : World} {A R L : List Ent} {x : Ent} (h : St p w0 w (A ++ (R ++ (x :: L)))) : St p w0 w (R ++ (x :: (A ++ L))) := by
  have := St.front (R := R ++ [x]) (L := L) A (by simpa only [List.cons_append, List.append_assoc, List.nil_append] using h)
  simpa only [List.cons_append, List.append_assoc, List.nil_append] using this
end Go.Proofs.YtpjbofodllhjbaaDoor
/- stream: StreamSends. -/
namespace Go.Proofs.YtpjbofodllhjbaaDoor
open Go.RowKit

theorem bits_ff (x : Int) : bits .and .i64 x 255 = x % 256 := by
  show IntKind.i64.wrap ((BitVec.ofInt 64 x &&& BitVec.ofInt 64 255).toNat : Int) = _
  rw [BitVec.toNat_and, BitVec.toNat_ofInt, show (BitVec.ofInt 64 255).toNat = 2 ^ 8 - 1 by decide, Nat.and_two_pow_sub_one_eq_mod, IntKind.wrap_i64]
  omega
/-- Those that have bytes, of the first k. -/
def okL (ms : List MsL) : List MsL := ms.filter fun m => decide (msgC m = 0)
theorem okL_yes {ms : List MsL} {k : Nat} {m : MsL} (h : ms[k]? = some m) (hc : msgC m = 0) : okL (ms.take (k + 1)) = okL (ms.take k) ++ [m] := by
  rw [take_succ_get h]; unfold okL; rw [List.filter_append]; simp [hc]
theorem okL_no {ms : List MsL} {k : Nat} {m : MsL} (h : ms[k]? = some m) (hc : ¬ msgC m = 0) : okL (ms.take (k + 1)) = okL (ms.take k) := by
  rw [take_succ_get h]; unfold okL; rw [List.filter_append]; simp [hc]
theorem flatB_snoc (S : List MsL) (m : MsL) : flatB (S ++ [m]) = flatB S ++ msgB m := by unfold flatB; rw [List.flatMap_append, List.flatMap_cons, List.flatMap_nil, List.append_nil]
theorem okL_fine {ms : List MsL} (h : ∀ m ∈ ms, m.In) : Fine (okL ms) := fun m hm => by
  unfold okL at hm
  rw [List.mem_filter] at hm
  exact ⟨of_decide_eq_true hm.2, h m hm.1⟩
theorem flatB_bys {S : List MsL} (h : Fine S) : Bys (flatB S) := Bys.flat fun m hm => msgB_bys (h m hm).2 (h m hm).1
theorem flatB_len {S : List MsL} (h : Fine S) : (flatB S).length ≤ 4096 * S.length := by
  induction S with
  | nil => exact Nat.zero_le _
  | cons m S ih =>
    have h1 := ih fun x hx => h x (List.mem_cons_of_mem _ hx)
    have h2 := msgC_bod (h m (List.mem_cons_self ..)).1
    have h3 := msgB_len m
    unfold flatB at h1 ⊢
    rw [List.flatMap_cons, List.length_append, List.length_cons]
    omega
theorem flatB_nil {S : List MsL} (h : flatB S = []) : S = [] := by
  cases S with
  | nil => rfl
  | cons m S =>
    have h1 := congrArg List.length h
    have h2 := msgB_len m
    unfold flatB at h1
    rw [List.flatMap_cons, List.length_append, List.length_nil] at h1
    omega
theorem okL_len (ms : List MsL) : (okL ms).length ≤ ms.length := List.length_filter_le _ _
end Go.Proofs.YtpjbofodllhjbaaDoor
/- stream: StreamWrites. -/
namespace Go.Proofs.YtpjbofodllhjbaaDoor
open Go.RowKit

theorem AtAll.at_ {K : List Ent} {a : AtL} (h : AtAll K a) {w : World} (hw : ∀ e ∈ K, e.holds w) : a.At w := by
  obtain ⟨⟨⟨E1, v1, m1⟩, h2, ⟨E3, v3, m3⟩⟩, ⟨E4, v4, m4⟩, h5⟩ := h
  refine ⟨cells_of (enc := SegL.cells) v1 (fun _ => rfl) (by omega) fun e he => hw e (m1 e he), fun s hs => ?_, ?_, cells_of (enc := OthL.cells) v4 (fun _ => rfl) (by omega) fun e he => hw e (m4 e he), fun o ho => ?_⟩
  · obtain ⟨E, v, m⟩ := h2 s hs
    intro h0
    obtain ⟨b, o, e, hr⟩ := v.src2 h0
    exact ⟨b, o, e, hr w fun e he => hw e (m e he)⟩
  · intro h0
    obtain ⟨b, o, e, hr⟩ := v3.src2 h0
    exact ⟨b, o, e, hr w fun e he => hw e (m3 e he)⟩
  · obtain ⟨E, v, m⟩ := h5 o ho
    intro h0
    obtain ⟨b, o, e, hr⟩ := v.src2 h0
    exact ⟨b, o, e, hr w fun e he => hw e (m e he)⟩
theorem MsAll.at {K : List Ent} {m : MsL} (h : MsAll K m) {w : World} (hw : ∀ e ∈ K, e.holds w) : m.At w := by
  obtain ⟨⟨E1, v1, m1⟩, h2, ⟨E3, v3, m3⟩, ⟨E4, v4, m4⟩, h5⟩ := h
  refine ⟨cells_of (enc := CapL.cells) v1 (fun _ => rfl) (by omega) fun e he => hw e (m1 e he), fun s hs => ?_, cells_of (enc := PfL.cells) v3 (fun _ => rfl) (by omega) fun e he => hw e (m3 e he), cells_of (enc := PfL.cells) v4 (fun _ => rfl) (by omega) fun e he => hw e (m4 e he), h5.at_ hw⟩
  obtain ⟨E, v, m⟩ := h2 s hs
  intro h0
  obtain ⟨b, o, e, hr⟩ := v.src2 h0
  exact ⟨b, o, e, hr w fun e he => hw e (m e he)⟩
theorem FeedNil_c (w : World) (v : Value) : Calls Tryd.prog 26 #[.pointer none, v] w fun e w' => e = .returned (.tuple #[.slice none 0 0, .agg (fltL 0 0 ⟨#[]⟩).toArray]) ∧ Frm (fun _ => False) w w' := by
  refine enter Tryd.func26 rfl Tryd.ntmps26 rfl (St.start (fun _ => False) w) ?_
  refine WC.seq ?_
  refine WC.region ?_
  refine WL.val (v_assign rfl rfl) (.none rfl) rfl rfl ?_
  refine WL.alloc rfl zero_25 (.none rfl) rfl rfl ?_
  intro g5 hg5
  refine WL.nil ?_
  refine WE.then_n ?_
  refine WC.seq ?_
  refine WC.seq ?_
  refine WC.region ?_
  refine WL.val (v_move rfl rfl) (.none rfl) rfl rfl ?_
  refine WL.val (v_eql_nil true rfl rfl Tryd.underlying72 rfl) (.none rfl) rfl rfl ?_
  refine WL.val (v_move rfl rfl) (.none rfl) rfl rfl ?_
  refine WL.skip rfl rfl rfl rfl rfl rfl ?_
  refine WL.skip rfl rfl rfl rfl rfl rfl ?_
  refine WL.skip rfl rfl rfl rfl rfl rfl ?_
  refine WL.skip rfl rfl rfl rfl rfl rfl ?_
  refine WL.skip rfl rfl rfl rfl rfl rfl ?_
  refine WL.skip rfl rfl rfl rfl rfl rfl ?_
  refine WL.val (v_pick_t rfl rfl rfl) (.none rfl) rfl rfl ?_
  refine WL.nil ?_
  refine WE.then_n ?_
  refine WC.cond_t rfl ?_
  refine WC.seq ?_
  refine WC.region ?_
  refine WL.val (v_build rfl rfl zero_25 plc_25 rfl) (.none rfl) rfl rfl ?_
  refine WL.val (v_assign rfl rfl) (.none rfl) rfl rfl ?_
  refine WL.storeW rfl rfl rfl rfl many_25 rfl rfl (.none rfl) rfl ?_
  refine WL.nil ?_
  refine WE.then_n ?_
  refine WC.ret ?_
  refine WE.then_ret ?_
  refine WE.ret2 (P := Tryd.prog) (.inl rfl) Tryd.results26 rfl (resRow rfl many_25 rfl) ?_
  exact fun w' h => ⟨rfl, h.frm⟩
theorem OverNil_c (w : World) : Calls Tryd.prog 30 #[.pointer none] w fun e w' => e = .returned (.tuple #[.agg (fltL 0 0 ⟨#[]⟩).toArray, .bool false]) ∧ Frm (fun _ => False) w w' := by
  refine enter Tryd.func30 rfl Tryd.ntmps30 rfl (St.start (fun _ => False) w) ?_
  refine WC.seq ?_
  refine WC.region ?_
  refine WL.alloc rfl zero_25 (.none rfl) rfl rfl ?_
  intro g2 hg2
  refine WL.val (v_assign rfl rfl) (.none rfl) rfl rfl ?_
  refine WL.nil ?_
  refine WE.then_n ?_
  refine WC.seq ?_
  refine WC.seq ?_
  refine WC.region ?_
  refine WL.val (v_move rfl rfl) (.none rfl) rfl rfl ?_
  refine WL.val (v_eql_nil true rfl rfl Tryd.underlying72 rfl) (.none rfl) rfl rfl ?_
  refine WL.nil ?_
  refine WE.then_n ?_
  refine WC.cond_t rfl ?_
  refine WC.seq ?_
  refine WC.region ?_
  refine WL.val (v_build rfl rfl zero_25 plc_25 rfl) (.none rfl) rfl rfl ?_
  refine WL.storeW rfl rfl rfl rfl many_25 rfl rfl (.none rfl) rfl ?_
  refine WL.val (v_assign rfl rfl) (.none rfl) rfl rfl ?_
  refine WL.nil ?_
  refine WE.then_n ?_
  refine WC.ret ?_
  refine WE.then_ret ?_
  refine WE.ret2 (P := Tryd.prog) (.inl rfl) Tryd.results30 (resRow rfl many_25 rfl) rfl ?_
  exact fun w' h => ⟨rfl, h.frm⟩
theorem CountNil_c (w : World) : Calls Tryd.prog 27 #[.pointer none] w fun e w' => e = .returned (.int .i64 0) ∧ Frm (fun _ => False) w w' := by
  refine enter Tryd.func27 rfl Tryd.ntmps27 rfl (St.start (fun _ => False) w) ?_
  refine WC.seq ?_
  refine WC.region ?_
  refine WL.val (v_assign rfl rfl) (.none rfl) rfl rfl ?_
  refine WL.nil ?_
  refine WE.then_n ?_
  refine WC.seq ?_
  refine WC.seq ?_
  refine WC.region ?_
  refine WL.val (v_move rfl rfl) (.none rfl) rfl rfl ?_
  refine WL.val (v_eql_nil true rfl rfl Tryd.underlying72 rfl) (.none rfl) rfl rfl ?_
  refine WL.nil ?_
  refine WE.then_n ?_
  refine WC.cond_t rfl ?_
  refine WC.seq ?_
  refine WC.region ?_
  refine WL.val (v_assign rfl rfl) (.none rfl) rfl rfl ?_
  refine WL.nil ?_
  refine WE.then_n ?_
  refine WC.ret ?_
  refine WE.then_ret ?_
  refine WE.ret1 (P := Tryd.prog) (.inl rfl) Tryd.results27 rfl ?_
  exact fun w' h => ⟨rfl, h.frm⟩
theorem WaitsNil_c (w : World) : Calls Tryd.prog 28 #[.pointer none] w fun e w' => e = .returned (.int .i64 0) ∧ Frm (fun _ => False) w w' := by
  refine enter Tryd.func28 rfl Tryd.ntmps28 rfl (St.start (fun _ => False) w) ?_
  refine WC.seq ?_
  refine WC.region ?_
  refine WL.val (v_assign rfl rfl) (.none rfl) rfl rfl ?_
  refine WL.nil ?_
  refine WE.then_n ?_
  refine WC.seq ?_
  refine WC.seq ?_
  refine WC.region ?_
  refine WL.val (v_move rfl rfl) (.none rfl) rfl rfl ?_
  refine WL.val (v_eql_nil true rfl rfl Tryd.underlying72 rfl) (.none rfl) rfl rfl ?_
  refine WL.nil ?_
  refine WE.then_n ?_
  refine WC.cond_t rfl ?_
  refine WC.seq ?_
  refine WC.region ?_
  refine WL.val (v_assign rfl rfl) (.none rfl) rfl rfl ?_
  refine WL.nil ?_
  refine WE.then_n ?_
  refine WC.ret ?_
  refine WE.then_ret ?_
  refine WE.ret1 (P := Tryd.prog) (.inl rfl) Tryd.results28 rfl ?_
  exact fun w' h => ⟨rfl, h.frm⟩
structure SwS where
  ys : List Int
  aa : Option Addr
  ac : Nat
  rest : List Int
  ra : Option Addr
  rc : Nat
  Er : List Ent
  j : Nat
def fewA (m : MsL) : Prop := m.atr.path.length ≤ 9 ∧ m.atr.others.length ≤ 5
theorem okL_all {ms : List MsL} {P : MsL → Prop} (h : ∀ m ∈ ms, P m) : ∀ m ∈ okL ms, P m := fun m hm => h m (by unfold okL at hm; exact (List.mem_filter.1 hm).1)
theorem bareD_few {m : MsL} (h : fewA m) : (bareD m).atr.path.length ≤ 9 ∧ (bareD m).atr.others.length ≤ 5 := by
  unfold bareD
  have hz : (MsL.zero m.kind).d.atr.path.length ≤ 9 ∧ (MsL.zero m.kind).d.atr.others.length ≤ 5 := ⟨Nat.zero_le _, Nat.zero_le _⟩
  split
  · exact hz
  split
  · exact ⟨by show (m.atr.path.map segD).length ≤ 9; rw [List.length_map]; exact h.1, by show (m.atr.others.map othD).length ≤ 5; rw [List.length_map]; exact h.2⟩
  split
  · exact hz
  · exact hz
/-- A message that was read, of one that was written. -/
theorem read_again {x m : MsL} (e : x.d = bareD m) (hc : msgC m = 0) (hI : m.In) (hf : fewA m) : msgC x = 0 ∧ msgB x = msgB m ∧ x.In ∧ x.atr.path.length ≤ 1000 ∧ x.atr.others.length ≤ 90 := by
  have h1 := msgCD_bare m
  have h2 := bareD_few hf
  rw [← e] at h1 h2
  refine ⟨by rw [msgC_d, h1.1, ← msgC_d]; exact hc, by rw [msgB_d, h1.2, ← msgB_d], MsL.in_d.2 (by rw [e]; exact bareD_in hI), ?_, ?_⟩
  · have : (x.atr.path.map segD).length ≤ 9 := h2.1
    rw [List.length_map] at this; omega
  · have : (x.atr.others.map othD).length ≤ 5 := h2.2
    rw [List.length_map] at this; omega
end Go.Proofs.YtpjbofodllhjbaaDoor
/- stream: StreamWrites, walked. -/
namespace Go.Proofs.YtpjbofodllhjbaaDoor
open Go.RowKit

theorem View.cells {E : List Ent} {aa : Option Addr} {c : Nat} {ys : List Int} (h : View E aa c ys) {w : World} (hw : ∀ e ∈ E, e.holds w) : CellsAt w aa (u8s ys) := fun h0 => by
  rw [u8s_len] at h0
  obtain ⟨b, o, rfl⟩ := h.some h0
  exact ⟨b, o, rfl, (h.win hw).at_⟩
set_option maxHeartbeats 8000000 in
theorem StreamWrites_all (w0 : World) (hG : GF w0) (hZ : GZ w0) (ma : Option Addr) (mc : Nat) (ms : List MsL) (cut : Int) (hR : RowsAt w0 ma 20 MsL.cells ms) (hM : ∀ m ∈ ms, m.At w0 ∧ m.In) (hml : ms.length ≤ 9223372036854775807) :
    Calls Tryd.prog 9 #[.slice ma ms.length mc, .int .i64 cut] w0 fun e w' => e = .returned (.bool true) ∧ Frm (fun _ => False) w0 w' := by
  have hfine := okL_fine fun m hm => (hM m hm).2
  refine enter Tryd.func9 rfl Tryd.ntmps9 rfl (St.start (fun _ => False) w0) ?_
  refine WC.seq ?_
  refine WC.region ?_
  refine WL.val (v_assign rfl rfl) (.none rfl) rfl rfl ?_
  refine WL.nil ?_
  refine WE.then_n ?_
  refine WC.seq ?_
  refine WC.seq ?_
  refine WC.region ?_
  refine WL.call rfl rfl ck_24 (.none rfl) rfl rfl ?_
  intro w hS
  refine Calls.then (Head08_c w (hG.keep (fun h => h) hS) (hZ.keep (fun h => h) hS)) hS ?_
  refine WL.val (v_not rfl rfl rfl) (.none rfl) rfl rfl ?_
  refine WL.nil ?_
  refine WE.then_n ?_
  refine WC.cond_f rfl ?_
  refine WC.skip ?_
  refine WE.then_n ?_
  refine WC.seq ?_
  refine WC.seq ?_
  refine WC.region ?_
  refine WL.val (v_move rfl rfl) (.none rfl) rfl rfl ?_
  refine WL.val (v_len_slice rfl rfl Tryd.underlying75) (.none rfl) rfl rfl ?_
  refine WL.test (v_gtr rfl rfl rfl) (.none rfl) rfl rfl (fun h31 => ?_) (fun h31 => ?_)
  · -- 31T
    refine WL.nil ?_
    refine WE.then_n ?_
    refine WC.cond_t rfl ?_
    refine WC.seq ?_
    refine WC.region ?_
    refine WL.val (v_assign rfl rfl) (.none rfl) rfl rfl ?_
    refine WL.nil ?_
    refine WE.then_n ?_
    refine WC.ret ?_
    refine WE.then_ret ?_
    refine WE.ret1 (P := Tryd.prog) (.inl rfl) Tryd.results9 rfl ?_
    exact fun w' h => ⟨rfl, h.frm⟩
  · -- 31F
    refine WL.nil ?_
    refine WE.then_n ?_
    refine WC.cond_f rfl ?_
    refine WC.skip ?_
    refine WE.then_n ?_
    refine WC.seq ?_
    refine WC.region ?_
    refine WL.buildSlice rfl rfl Tryd.underlying22 sz_5 zero_5 rfl (by decide) rfl (.none rfl) rfl rfl ?_
    intro g32 hg32
    refine WL.val (v_assign rfl rfl) (.none rfl) rfl rfl ?_
    refine WL.nil ?_
    refine WE.then_n ?_
    refine WC.seq ?_
    refine WC.region ?_
    refine WL.buildSlice rfl rfl Tryd.underlying75 sz_43 zero_43 rfl (by decide) rfl (.none rfl) rfl rfl ?_
    intro g33 hg33
    refine WL.to (L' := .row g32 [] :: [.row g33 []]) (fun w hS => hS.perm (List.Perm.swap _ _ _)) ?_
    refine WL.val (v_assign rfl rfl) (.none rfl) rfl rfl ?_
    refine WL.nil ?_
    refine WE.then_n ?_
    refine WC.seq ?_
    refine WC.seq ?_
    refine WC.region ?_
    refine WL.val (v_move rfl rfl) (.none rfl) rfl rfl ?_
    refine WL.val (v_len_slice rfl rfl Tryd.underlying75) (.none rfl) rfl rfl ?_
    refine WL.val (v_move rfl rfl) (.none rfl) rfl rfl ?_
    refine WL.nil ?_
    refine WE.then_n ?_
    refine WC.block ?_
    refine WC.loop (fun x : Nat × Option Addr × Nat × List Ent × Option Addr × Nat × List Ent => [(1, .int .i64 cut), (5, .slice x.2.1 (flatB (okL (ms.take x.1))).length x.2.2.1), (6, .slice x.2.2.2.2.1 (okL (ms.take x.1)).length x.2.2.2.2.2.1), (34, .slice ma ms.length mc), (35, .int .i64 ms.length), (36, .int .i64 x.1)]) (fun x => x.2.2.2.1 ++ (x.2.2.2.2.2.2 ++ [])) (fun x => x.1 ≤ ms.length ∧ VecO x.2.1 x.2.2.1 (flatB (okL (ms.take x.1))) x.2.2.2.1 ∧ Vec 20 x.2.2.2.2.1 (okL (ms.take x.1)).length x.2.2.2.2.2.1 (msgsL (okL (ms.take x.1))) x.2.2.2.2.2.2 ∧ ∀ m ∈ okL (ms.take x.1), fewA m) (fun x => ms.length - x.1) (0, some ⟨g32, 0, none⟩, 0, [.row g32 []], some ⟨g33, 0, none⟩, 0, [.row g33 []]) ⟨Nat.zero_le _, .inr ⟨g32, 0, [], rfl, rfl, Nat.le_refl _, Nat.le_refl _, fun i v h => by simp [u8s, okL, flatB] at h⟩, Vec.row (k := 0) rfl rfl (Nat.le_refl _), fun m hm => by simp [okL] at hm⟩ (.cons rfl (.cons rfl (.cons rfl (.cons rfl (.cons rfl (.cons rfl .nil)))))) (.refl _) ?_
    rintro ⟨k, aa, ac, Ea, ia, ic, Ei⟩ ⟨hk, hVa, hVi, hfew⟩
    dsimp only at hk hVa hVi hfew
    dsimp only
    refine WC.seq ?_
    refine WC.region ?_
    refine WL.test (v_lss rfl rfl rfl) (.none rfl) rfl rfl (fun h37 => ?_) (fun h37 => ?_)
    · -- 37T
      refine WL.nil ?_
      refine WE.then_n ?_
      refine WC.seq ?_
      refine WC.cond_t rfl ?_
      refine WC.skip ?_
      refine WE.then_n ?_
      refine WC.seq ?_
      refine WC.block ?_
      refine WC.seq ?_
      refine WC.region ?_
      obtain ⟨m, hm⟩ : ∃ m, ms[k]? = some m := ⟨ms[k]'(by omega), List.getElem?_eq_getElem _⟩
      obtain ⟨bm, om, ea, hr⟩ := hR k m hm
      obtain ⟨hmA, hmI⟩ := hM m (List.mem_of_getElem? hm)
      have hml := hmI.lens
      have hma := hmI.at_.lens
      have hfk := okL_fine (ms := ms.take k) fun m hm => (hM m (List.mem_of_mem_take hm)).2
      have hfl := flatB_len hfk
      have hol := okL_len (ms.take k)
      have htl : (ms.take k).length = k := (by rw [List.length_take]; omega)
      refine WL.val ((v_indexAddr (b := bm) (off := om) (lo := k) rfl (by show some (Value.slice ma _ _) = _; rw [ea]) rfl Tryd.underlying75 sz_43 rfl (by omega))) (.none rfl) rfl rfl ?_
      refine WL.val ((v_loadN (cs := m.cells) rfl rfl many_43 rfl (rgIn (fun h => h) hr))) (.none rfl) rfl rfl ?_
      refine WL.alloc rfl zero_43 (.none rfl) rfl rfl ?_
      intro g8 hg8
      refine WL.storeW rfl rfl rfl rfl many_43 rfl rfl (.none rfl) rfl ?_
      refine WL.nil ?_
      refine WE.then_n ?_
      refine WC.cut (fun _ : Unit => [(1, .int .i64 cut), (5, .slice aa (flatB (okL (ms.take k))).length ac), (6, .slice ia (okL (ms.take k)).length ic), (8, .pointer (some ⟨g8, 0, none⟩)), (34, .slice ma ms.length mc), (35, .int .i64 ms.length), (36, .int .i64 k)]) (fun _ => .row g8 m.cells :: (Ea ++ (Ei ++ []))) (fun _ => fewA m) ?_ ?_
      · -- cut76
        refine WC.seq ?_
        refine WC.region ?_
        refine WL.val (v_fieldAddr0 rfl rfl fld_43_7) (.none rfl) rfl rfl ?_
        refine WL.val (v_load1 rfl rfl one_36 (cellAt rfl)) (.none rfl) rfl rfl ?_
        refine WL.val (v_len_slice rfl rfl Tryd.underlying36) (.none rfl) rfl rfl ?_
        refine WL.test (v_gtr rfl rfl rfl) (.none rfl) rfl rfl (fun h43 => ?_) (fun h43 => ?_)
        · -- 43T
          refine WL.val (v_move rfl rfl) (.none rfl) rfl rfl ?_
          refine WL.skip rfl rfl rfl rfl rfl rfl ?_
          refine WL.skip rfl rfl rfl rfl rfl rfl ?_
          refine WL.skip rfl rfl rfl rfl rfl rfl ?_
          refine WL.skip rfl rfl rfl rfl rfl rfl ?_
          refine WL.val (v_pick_t rfl rfl rfl) (.none rfl) rfl rfl ?_
          refine WL.val (v_move rfl rfl) (.none rfl) rfl rfl ?_
          refine WL.skip rfl rfl rfl rfl rfl rfl ?_
          refine WL.skip rfl rfl rfl rfl rfl rfl ?_
          refine WL.skip rfl rfl rfl rfl rfl rfl ?_
          refine WL.skip rfl rfl rfl rfl rfl rfl ?_
          refine WL.skip rfl rfl rfl rfl rfl rfl ?_
          refine WL.val (v_pick_t rfl rfl rfl) (.none rfl) rfl rfl ?_
          refine WL.val (v_move rfl rfl) (.none rfl) rfl rfl ?_
          refine WL.skip rfl rfl rfl rfl rfl rfl ?_
          refine WL.skip rfl rfl rfl rfl rfl rfl ?_
          refine WL.skip rfl rfl rfl rfl rfl rfl ?_
          refine WL.skip rfl rfl rfl rfl rfl rfl ?_
          refine WL.skip rfl rfl rfl rfl rfl rfl ?_
          refine WL.val (v_pick_t rfl rfl rfl) (.none rfl) rfl rfl ?_
          refine WL.val (v_move rfl rfl) (.none rfl) rfl rfl ?_
          refine WL.skip rfl rfl rfl rfl rfl rfl ?_
          refine WL.skip rfl rfl rfl rfl rfl rfl ?_
          refine WL.skip rfl rfl rfl rfl rfl rfl ?_
          refine WL.skip rfl rfl rfl rfl rfl rfl ?_
          refine WL.val (v_pick_t rfl rfl rfl) (.none rfl) rfl rfl ?_
          refine WL.val (v_move rfl rfl) (.none rfl) rfl rfl ?_
          refine WL.skip rfl rfl rfl rfl rfl rfl ?_
          refine WL.skip rfl rfl rfl rfl rfl rfl ?_
          refine WL.skip rfl rfl rfl rfl rfl rfl ?_
          refine WL.skip rfl rfl rfl rfl rfl rfl ?_
          refine WL.skip rfl rfl rfl rfl rfl rfl ?_
          refine WL.val (v_pick_t rfl rfl rfl) (.none rfl) rfl rfl ?_
          refine WL.nil ?_
          refine WE.then_n ?_
          refine WC.cond_t rfl ?_
          refine WC.seq ?_
          refine WC.region ?_
          refine WL.val (v_assign rfl rfl) (.none rfl) rfl rfl ?_
          refine WL.nil ?_
          refine WE.then_n ?_
          refine WC.ret ?_
          refine WE.then_ret ?_
          refine WE.block_ret ?_
          refine WE.then_ret ?_
          refine WE.then_ret ?_
          refine WE.block_ret ?_
          refine WE.then_ret ?_
          refine WE.ret1 (P := Tryd.prog) (.inl rfl) Tryd.results9 rfl ?_
          exact fun w' h => ⟨rfl, h.frm⟩
        · -- 43F
          refine WL.val (v_move rfl rfl) (.none rfl) rfl rfl ?_
          refine WL.val (v_fieldAddr0 rfl rfl fld_43_5) (.some rfl rfl rfl) rfl rfl ?_
          refine WL.val (v_load1 rfl rfl one_36 (cellAt rfl)) (.some rfl rfl rfl) rfl rfl ?_
          refine WL.val (v_len_slice rfl rfl Tryd.underlying36) (.some rfl rfl rfl) rfl rfl ?_
          refine WL.test (v_gtr rfl rfl rfl) (.some rfl rfl rfl) rfl rfl (fun h48 => ?_) (fun h48 => ?_)
          · -- 48T
            refine WL.val (v_pick_f rfl rfl rfl) (.none rfl) rfl rfl ?_
            refine WL.val (v_move rfl rfl) (.none rfl) rfl rfl ?_
            refine WL.skip rfl rfl rfl rfl rfl rfl ?_
            refine WL.skip rfl rfl rfl rfl rfl rfl ?_
            refine WL.skip rfl rfl rfl rfl rfl rfl ?_
            refine WL.skip rfl rfl rfl rfl rfl rfl ?_
            refine WL.skip rfl rfl rfl rfl rfl rfl ?_
            refine WL.val (v_pick_t rfl rfl rfl) (.none rfl) rfl rfl ?_
            refine WL.val (v_move rfl rfl) (.none rfl) rfl rfl ?_
            refine WL.skip rfl rfl rfl rfl rfl rfl ?_
            refine WL.skip rfl rfl rfl rfl rfl rfl ?_
            refine WL.skip rfl rfl rfl rfl rfl rfl ?_
            refine WL.skip rfl rfl rfl rfl rfl rfl ?_
            refine WL.skip rfl rfl rfl rfl rfl rfl ?_
            refine WL.val (v_pick_t rfl rfl rfl) (.none rfl) rfl rfl ?_
            refine WL.val (v_move rfl rfl) (.none rfl) rfl rfl ?_
            refine WL.skip rfl rfl rfl rfl rfl rfl ?_
            refine WL.skip rfl rfl rfl rfl rfl rfl ?_
            refine WL.skip rfl rfl rfl rfl rfl rfl ?_
            refine WL.skip rfl rfl rfl rfl rfl rfl ?_
            refine WL.val (v_pick_t rfl rfl rfl) (.none rfl) rfl rfl ?_
            refine WL.val (v_move rfl rfl) (.none rfl) rfl rfl ?_
            refine WL.skip rfl rfl rfl rfl rfl rfl ?_
            refine WL.skip rfl rfl rfl rfl rfl rfl ?_
            refine WL.skip rfl rfl rfl rfl rfl rfl ?_
            refine WL.skip rfl rfl rfl rfl rfl rfl ?_
            refine WL.skip rfl rfl rfl rfl rfl rfl ?_
            refine WL.val (v_pick_t rfl rfl rfl) (.none rfl) rfl rfl ?_
            refine WL.nil ?_
            refine WE.then_n ?_
            refine WC.cond_t rfl ?_
            refine WC.seq ?_
            refine WC.region ?_
            refine WL.val (v_assign rfl rfl) (.none rfl) rfl rfl ?_
            refine WL.nil ?_
            refine WE.then_n ?_
            refine WC.ret ?_
            refine WE.then_ret ?_
            refine WE.block_ret ?_
            refine WE.then_ret ?_
            refine WE.then_ret ?_
            refine WE.block_ret ?_
            refine WE.then_ret ?_
            refine WE.ret1 (P := Tryd.prog) (.inl rfl) Tryd.results9 rfl ?_
            exact fun w' h => ⟨rfl, h.frm⟩
          · -- 48F
            refine WL.val (v_pick_f rfl rfl rfl) (.none rfl) rfl rfl ?_
            refine WL.val (v_move rfl rfl) (.none rfl) rfl rfl ?_
            refine WL.val (v_fieldAddr0 rfl rfl fld_43_6) (.some rfl rfl rfl) rfl rfl ?_
            refine WL.val (v_fieldAddr rfl rfl fld_41_9) (.some rfl rfl rfl) rfl rfl ?_
            refine WL.val (v_load1 rfl rfl one_39 (cellAt rfl)) (.some rfl rfl rfl) rfl rfl ?_
            refine WL.val (v_len_slice rfl rfl Tryd.underlying39) (.some rfl rfl rfl) rfl rfl ?_
            refine WL.test (v_gtr rfl rfl rfl) (.some rfl rfl rfl) rfl rfl (fun h55 => ?_) (fun h55 => ?_)
            · -- 55T
              refine WL.val (v_pick_f rfl rfl rfl) (.none rfl) rfl rfl ?_
              refine WL.val (v_move rfl rfl) (.none rfl) rfl rfl ?_
              refine WL.skip rfl rfl rfl rfl rfl rfl ?_
              refine WL.skip rfl rfl rfl rfl rfl rfl ?_
              refine WL.skip rfl rfl rfl rfl rfl rfl ?_
              refine WL.skip rfl rfl rfl rfl rfl rfl ?_
              refine WL.skip rfl rfl rfl rfl rfl rfl ?_
              refine WL.val (v_pick_t rfl rfl rfl) (.none rfl) rfl rfl ?_
              refine WL.val (v_move rfl rfl) (.none rfl) rfl rfl ?_
              refine WL.skip rfl rfl rfl rfl rfl rfl ?_
              refine WL.skip rfl rfl rfl rfl rfl rfl ?_
              refine WL.skip rfl rfl rfl rfl rfl rfl ?_
              refine WL.skip rfl rfl rfl rfl rfl rfl ?_
              refine WL.val (v_pick_t rfl rfl rfl) (.none rfl) rfl rfl ?_
              refine WL.val (v_move rfl rfl) (.none rfl) rfl rfl ?_
              refine WL.skip rfl rfl rfl rfl rfl rfl ?_
              refine WL.skip rfl rfl rfl rfl rfl rfl ?_
              refine WL.skip rfl rfl rfl rfl rfl rfl ?_
              refine WL.skip rfl rfl rfl rfl rfl rfl ?_
              refine WL.skip rfl rfl rfl rfl rfl rfl ?_
              refine WL.val (v_pick_t rfl rfl rfl) (.none rfl) rfl rfl ?_
              refine WL.nil ?_
              refine WE.then_n ?_
              refine WC.cond_t rfl ?_
              refine WC.seq ?_
              refine WC.region ?_
              refine WL.val (v_assign rfl rfl) (.none rfl) rfl rfl ?_
              refine WL.nil ?_
              refine WE.then_n ?_
              refine WC.ret ?_
              refine WE.then_ret ?_
              refine WE.block_ret ?_
              refine WE.then_ret ?_
              refine WE.then_ret ?_
              refine WE.block_ret ?_
              refine WE.then_ret ?_
              refine WE.ret1 (P := Tryd.prog) (.inl rfl) Tryd.results9 rfl ?_
              exact fun w' h => ⟨rfl, h.frm⟩
            · -- 55F
              refine WL.val (v_pick_f rfl rfl rfl) (.none rfl) rfl rfl ?_
              refine WL.val (v_move rfl rfl) (.none rfl) rfl rfl ?_
              refine WL.val (v_fieldAddr0 rfl rfl fld_43_6) (.some rfl rfl rfl) rfl rfl ?_
              refine WL.val (v_fieldAddr rfl rfl fld_41_2) (.some rfl rfl rfl) rfl rfl ?_
              refine WL.val (v_load1 rfl rfl one_37 (cellAt rfl)) (.some rfl rfl rfl) rfl rfl ?_
              refine WL.val (v_len_slice rfl rfl Tryd.underlying37) (.some rfl rfl rfl) rfl rfl ?_
              refine WL.test (v_gtr rfl rfl rfl) (.some rfl rfl rfl) rfl rfl (fun h62 => ?_) (fun h62 => ?_)
              · -- 62T
                refine WL.val (v_pick_f rfl rfl rfl) (.none rfl) rfl rfl ?_
                refine WL.val (v_move rfl rfl) (.none rfl) rfl rfl ?_
                refine WL.skip rfl rfl rfl rfl rfl rfl ?_
                refine WL.skip rfl rfl rfl rfl rfl rfl ?_
                refine WL.skip rfl rfl rfl rfl rfl rfl ?_
                refine WL.skip rfl rfl rfl rfl rfl rfl ?_
                refine WL.val (v_pick_t rfl rfl rfl) (.none rfl) rfl rfl ?_
                refine WL.val (v_move rfl rfl) (.none rfl) rfl rfl ?_
                refine WL.skip rfl rfl rfl rfl rfl rfl ?_
                refine WL.skip rfl rfl rfl rfl rfl rfl ?_
                refine WL.skip rfl rfl rfl rfl rfl rfl ?_
                refine WL.skip rfl rfl rfl rfl rfl rfl ?_
                refine WL.skip rfl rfl rfl rfl rfl rfl ?_
                refine WL.val (v_pick_t rfl rfl rfl) (.none rfl) rfl rfl ?_
                refine WL.nil ?_
                refine WE.then_n ?_
                refine WC.cond_t rfl ?_
                refine WC.seq ?_
                refine WC.region ?_
                refine WL.val (v_assign rfl rfl) (.none rfl) rfl rfl ?_
                refine WL.nil ?_
                refine WE.then_n ?_
                refine WC.ret ?_
                refine WE.then_ret ?_
                refine WE.block_ret ?_
                refine WE.then_ret ?_
                refine WE.then_ret ?_
                refine WE.block_ret ?_
                refine WE.then_ret ?_
                refine WE.ret1 (P := Tryd.prog) (.inl rfl) Tryd.results9 rfl ?_
                exact fun w' h => ⟨rfl, h.frm⟩
              · -- 62F
                refine WL.val (v_pick_f rfl rfl rfl) (.none rfl) rfl rfl ?_
                refine WL.val (v_move rfl rfl) (.none rfl) rfl rfl ?_
                refine WL.val (v_fieldAddr0 rfl rfl fld_43_4) (.some rfl rfl rfl) rfl rfl ?_
                refine WL.val (v_load1 rfl rfl one_35 (cellAt rfl)) (.some rfl rfl rfl) rfl rfl ?_
                refine WL.val (v_len_slice rfl rfl Tryd.underlying35) (.some rfl rfl rfl) rfl rfl ?_
                refine WL.test (v_gtr rfl rfl rfl) (.some rfl rfl rfl) rfl rfl (fun h68 => ?_) (fun h68 => ?_)
                · -- 68T
                  refine WL.val (v_pick_f rfl rfl rfl) (.none rfl) rfl rfl ?_
                  refine WL.val (v_move rfl rfl) (.none rfl) rfl rfl ?_
                  refine WL.skip rfl rfl rfl rfl rfl rfl ?_
                  refine WL.skip rfl rfl rfl rfl rfl rfl ?_
                  refine WL.skip rfl rfl rfl rfl rfl rfl ?_
                  refine WL.skip rfl rfl rfl rfl rfl rfl ?_
                  refine WL.skip rfl rfl rfl rfl rfl rfl ?_
                  refine WL.val (v_pick_t rfl rfl rfl) (.none rfl) rfl rfl ?_
                  refine WL.nil ?_
                  refine WE.then_n ?_
                  refine WC.cond_t rfl ?_
                  refine WC.seq ?_
                  refine WC.region ?_
                  refine WL.val (v_assign rfl rfl) (.none rfl) rfl rfl ?_
                  refine WL.nil ?_
                  refine WE.then_n ?_
                  refine WC.ret ?_
                  refine WE.then_ret ?_
                  refine WE.block_ret ?_
                  refine WE.then_ret ?_
                  refine WE.then_ret ?_
                  refine WE.block_ret ?_
                  refine WE.then_ret ?_
                  refine WE.ret1 (P := Tryd.prog) (.inl rfl) Tryd.results9 rfl ?_
                  exact fun w' h => ⟨rfl, h.frm⟩
                · -- 68F
                  refine WL.val (v_pick_f rfl rfl rfl) (.none rfl) rfl rfl ?_
                  refine WL.val (v_move rfl rfl) (.none rfl) rfl rfl ?_
                  refine WL.val (v_fieldAddr0 rfl rfl fld_43_8) (.some rfl rfl rfl) rfl rfl ?_
                  refine WL.val (v_fieldAddr rfl rfl fld_25_2) (.some rfl rfl rfl) rfl rfl ?_
                  refine WL.val (v_load1 rfl rfl one_9 (cellAt rfl)) (.some rfl rfl rfl) rfl rfl ?_
                  refine WL.val (v_len_string rfl rfl Tryd.underlying9) (.some rfl rfl rfl) rfl rfl ?_
                  refine WL.test (v_gtr rfl rfl rfl) (.some rfl rfl rfl) rfl rfl (fun h75 => ?_) (fun h75 => ?_)
                  · -- 75T
                    refine WL.val (v_pick_f rfl rfl rfl) (.none rfl) rfl rfl ?_
                    refine WL.nil ?_
                    refine WE.then_n ?_
                    refine WC.cond_t rfl ?_
                    refine WC.seq ?_
                    refine WC.region ?_
                    refine WL.val (v_assign rfl rfl) (.none rfl) rfl rfl ?_
                    refine WL.nil ?_
                    refine WE.then_n ?_
                    refine WC.ret ?_
                    refine WE.then_ret ?_
                    refine WE.block_ret ?_
                    refine WE.then_ret ?_
                    refine WE.then_ret ?_
                    refine WE.block_ret ?_
                    refine WE.then_ret ?_
                    refine WE.ret1 (P := Tryd.prog) (.inl rfl) Tryd.results9 rfl ?_
                    exact fun w' h => ⟨rfl, h.frm⟩
                  · -- 75F
                    refine WL.val (v_pick_f rfl rfl rfl) (.none rfl) rfl rfl ?_
                    refine WL.nil ?_
                    refine WE.then_n ?_
                    refine WC.cond_f rfl ?_
                    refine WC.skip ?_
                    exact WE.mid () ⟨by omega, by omega⟩ (.cons rfl (.cons rfl (.cons rfl (.cons rfl (.cons rfl (.cons rfl (.cons rfl .nil))))))) (.refl _)
      · -- behind cut76
        intro _ hfm
        have hp9 : m.atr.path.length ≤ 9 := hfm.1
        have ho5 : m.atr.others.length ≤ 5 := hfm.2
        refine WC.seq ?_
        refine WC.region ?_
        refine WL.val (v_loadN rfl rfl many_43 rfl allAt) (.none rfl) rfl rfl ?_
        refine WL.call rfl rfl ck_21 (.none rfl) rfl rfl ?_
        intro w1 hS
        refine (Enc_c w1 m (hmA.st hS) hmI (hG.keep (fun h => h) hS) (by omega) (by omega)).mono ?_
        rintro e w' ⟨_, rfl, ad79, c79, E79, rfl, hV79, hS'⟩
        refine ⟨_, _, rfl, hS.join hS', ?_⟩
        refine WL.val (v_move rfl rfl) (.none rfl) rfl rfl ?_
        refine WL.val (v_extract rfl rfl rfl) (.none rfl) rfl rfl ?_
        refine WL.val (v_extract rfl rfl rfl) (.none rfl) rfl rfl ?_
        refine WL.val (v_assign rfl rfl) (.none rfl) rfl rfl ?_
        refine WL.val (v_assign rfl rfl) (.none rfl) rfl rfl ?_
        refine WL.nil ?_
        refine WE.then_n ?_
        refine WC.seq ?_
        refine WC.region ?_
        refine WL.val (v_move rfl rfl) (.none rfl) rfl rfl ?_
        refine WL.test (v_eql rfl rfl rfl) (.none rfl) rfl rfl (fun h83 => ?_) (fun h83 => ?_)
        · -- 83T
          refine WL.nil ?_
          refine WE.then_n ?_
          refine WC.cond_t rfl ?_
          refine WC.seq ?_
          refine WC.region ?_
          rw [if_pos h83] at hV79 ⊢
          have hmb := msgC_bod h83
          have hmbl := msgB_len m
          have eo := okL_yes hm h83
          have ef : flatB (okL (ms.take (k + 1))) = flatB (okL (ms.take k)) ++ msgB m := (by rw [eo, flatB_snoc])
          refine WL.val (v_move rfl rfl) (.none rfl) rfl rfl ?_
          refine WL.val (v_move rfl rfl) (.none rfl) rfl rfl ?_
          refine WL.to (L' := Ea ++ (E79 ++ (.row g8 m.cells :: (Ei ++ [])))) (fun w hS => by
            have := St.front (R := Ea) (L := Ei ++ []) (E79 ++ [.row g8 m.cells]) (by simpa only [List.cons_append, List.append_assoc, List.nil_append] using hS)
            simpa only [List.cons_append, List.append_assoc, List.nil_append] using this) ?_
          refine WL.appendO rfl rfl rfl Tryd.underlying22 Tryd.underlying22 sz_5 by_5 zero_5 rfl rfl hVa (fun w hS => (VecO.of hV79).range fun e he => hS.holds e (List.mem_append_right _ (List.mem_append_left _ he))) (by omega) (.none rfl) rfl rfl ?_
          intro ad86 c86 E86 hV86
          refine WL.val (v_assign rfl rfl) (.none rfl) rfl rfl ?_
          refine WL.nil ?_
          refine WE.then_n ?_
          refine WC.region ?_
          refine WL.val (v_move rfl rfl) (.none rfl) rfl rfl ?_
          refine WL.val (v_loadN rfl rfl many_43 rfl allAt) (.none rfl) rfl rfl ?_
          refine WL.buildSlice rfl rfl Tryd.underlying75 sz_43 zero_43 rfl (by decide) rfl (.none rfl) rfl rfl ?_
          intro g89 hg89
          refine WL.as (L' := .row g89 m.cells :: (E86 ++ (E79 ++ (.row g8 m.cells :: (Ei ++ []))))) rfl ?_
          refine WL.to (L' := Ei ++ (.row g89 m.cells :: (E86 ++ (E79 ++ [.row g8 m.cells])))) (fun w hS => by
            have := St.front (R := Ei) (L := []) (.row g89 m.cells :: (E86 ++ (E79 ++ [.row g8 m.cells]))) (by simpa only [List.cons_append, List.append_assoc, List.nil_append] using hS)
            simpa only [List.cons_append, List.append_assoc, List.nil_append, List.append_nil] using this) ?_
          refine WL.appendL rfl rfl rfl Tryd.underlying75 Tryd.underlying75 sz_43 by_43 zero_43 rfl rfl hVi (new := m.cells) (fun _ => ⟨g89, 0, rfl, fun w hS => allAt (g := g89) w hS⟩) rfl rfl (by omega) (.none rfl) rfl rfl ?_
          intro ad90 c90 E90 hV90 hr90
          rw [← msgsL_snoc] at hV90
          rw [show (okL (ms.take k)).length + 1 = (okL (ms.take k) ++ [m]).length by rw [List.length_append]; rfl] at hV90 ⊢
          rw [← eo, ← ef] at *
          refine WL.to (L' := E86 ++ (E90 ++ [])) (fun w hS => by
            have h1 := hS.sub (List.Sublist.append_left (.cons _ (List.sublist_append_left E86 _)) E90)
            have := St.front (R := E86) (L := []) E90 (by simpa only [List.append_nil] using h1)
            simpa only [List.append_nil] using this) ?_
          refine WL.val (v_assign rfl rfl) (.none rfl) rfl rfl ?_
          refine WL.nil ?_
          refine WE.block_n ?_
          refine WE.then_n ?_
          refine WC.region ?_
          refine WL.val (v_add rfl rfl rfl (w_i64 (by omega) (by omega))) (.none rfl) rfl rfl ?_
          refine WL.val (v_move rfl rfl) (.none rfl) rfl rfl ?_
          refine WL.nil ?_
          exact WE.next (k + 1, ad86, c86, E86, ad90, c90, E90) (by dsimp only; omega) ⟨by dsimp only; omega, hV86, hV90, fun x hx => by
          dsimp only at hx
          rw [okL_yes hm h83] at hx
          rcases List.mem_append.1 hx with hx | hx
          · exact hfew x hx
          · rcases List.mem_cons.1 hx with rfl | hx
            · exact hfm
            · cases hx⟩ (.cons rfl (.cons rfl (.cons rfl (.cons rfl (.cons rfl (.int rfl (by dsimp only; omega) .nil)))))) (.refl _)
        · -- 83F
          refine WL.nil ?_
          refine WE.then_n ?_
          refine WC.cond_f rfl ?_
          refine WC.skip ?_
          refine WE.block_n ?_
          refine WE.then_n ?_
          refine WC.region ?_
          refine WL.val (v_add rfl rfl rfl (w_i64 (by omega) (by omega))) (.none rfl) rfl rfl ?_
          refine WL.val (v_move rfl rfl) (.none rfl) rfl rfl ?_
          refine WL.nil ?_
          have eo := okL_no hm h83
          exact WE.next (k + 1, aa, ac, Ea, ia, ic, Ei) (by dsimp only; omega) ⟨by dsimp only; omega, by dsimp only; rw [eo]; exact hVa, by dsimp only; rw [eo]; exact hVi, by dsimp only; rw [eo]; exact hfew⟩ (.cons rfl (.eq rfl (by dsimp only; rw [eo]) (.eq rfl (by dsimp only; rw [eo]) (.cons rfl (.cons rfl (.int rfl (by dsimp only; omega) .nil)))))) (List.sublist_append_of_sublist_right (.cons _ (.refl _)))
    · -- 37F
      refine WL.nil ?_
      refine WE.then_n ?_
      refine WC.seq ?_
      refine WC.cond_f rfl ?_
      refine WC.exit ?_
      refine WE.then_exit ?_
      refine WE.then_exit ?_
      refine WE.block_hit ?_
      refine WE.then_n ?_
      refine WC.seq ?_
      refine WC.region ?_
      have ek : k = ms.length := (by omega)
      subst ek
      rw [List.take_length] at hVa hVi hfew ⊢
      have hfl := flatB_len hfine
      have hol := okL_len ms
      have hby := flatB_bys hfine
      refine WL.val (v_move rfl rfl) (.none rfl) rfl rfl ?_
      refine WL.val (v_and rfl rfl rfl (bits_ff cut)) (.none rfl) rfl rfl ?_
      refine WL.val (v_add rfl rfl rfl (w_i64 (by omega) (by omega))) (.none rfl) rfl rfl ?_
      refine WL.val (v_assign rfl rfl) (.none rfl) rfl rfl ?_
      refine WL.nil ?_
      refine WE.then_n ?_
      refine WC.seq ?_
      refine WC.region ?_
      refine WL.val (v_build rfl rfl zero_74 plc_74 rfl) (.none rfl) rfl rfl ?_
      refine WL.box rfl rfl rfl (.none rfl) rfl rfl ?_
      intro g96 hg96
      refine WL.val (v_assign rfl rfl) (.none rfl) rfl rfl ?_
      refine WL.nil ?_
      refine WE.then_n ?_
      refine WC.seq ?_
      refine WC.region ?_
      refine WL.val (v_assign rfl rfl) (.none rfl) rfl rfl ?_
      refine WL.nil ?_
      refine WE.then_n ?_
      refine WC.seq ?_
      refine WC.block ?_
      refine WC.loop (fun z : SwS => [(1, .int .i64 (1 + cut % 256)), (5, .slice z.aa z.ys.length z.ac), (6, .slice ia (okL ms).length ic), (11, .pointer (some ⟨g96, 0, none⟩)), (12, .int .i64 z.j)]) (fun z => .row g96 (RdL.cells ⟨z.ra, z.rc, z.rest, (z.j : Int), 0, 0, ⟨#[]⟩⟩) :: (z.Er ++ (Ea ++ (Ei ++ [])))) (fun z => VecO z.aa z.ac z.ys Ea ∧ BV z.ra z.rc z.rest z.Er ∧ z.rest ++ z.ys = flatB ((okL ms).drop z.j) ∧ z.j ≤ (okL ms).length ∧ (z.ys = [] → z.j = (okL ms).length ∧ z.rest = []) ∧ Bys (z.rest ++ z.ys) ∧ (z.rest ++ z.ys).length ≤ 40960) (fun z => z.ys.length) ⟨flatB (okL ms), aa, ac, [], none, 0, [], 0⟩ ⟨hVa, Vec.nil 1, rfl, Nat.zero_le _, fun h => ⟨by rw [flatB_nil h]; rfl, rfl⟩, hby, by show (flatB (okL ms)).length ≤ 40960; omega⟩ (.cons rfl (.cons rfl (.cons rfl (.cons rfl (.cons rfl .nil))))) (.refl _) ?_
      rintro ⟨ys, aa, ac, rest, ra, rc, Er, j⟩ ⟨hVy, hVr, he, hj, hend, hby, hln⟩
      dsimp only at hVy hVr he hj hend hby hln
      dsimp only
      refine WC.seq ?_
      refine WC.seq ?_
      refine WC.region ?_
      refine WL.val (v_move rfl rfl) (.none rfl) rfl rfl ?_
      refine WL.val (v_len_slice rfl rfl Tryd.underlying22) (.none rfl) rfl rfl ?_
      refine WL.test (v_gtr rfl rfl rfl) (.none rfl) rfl rfl (fun h99 => ?_) (fun h99 => ?_)
      · -- 99T
        refine WL.nil ?_
        refine WE.then_n ?_
        refine WC.cond_t rfl ?_
        refine WC.skip ?_
        refine WE.then_n ?_
        refine WC.block ?_
        refine WC.seq ?_
        refine WC.region ?_
        rw [List.length_append] at hln
        obtain ⟨n, hn⟩ : ∃ n : Nat, (n : Int) = min (1 + cut % 256) ys.length := ⟨(min (1 + cut % 256) (ys.length : Int)).toNat, by omega⟩
        have hn0 : 0 < n := (by omega)
        have hnl : n ≤ ys.length := (by omega)
        have htl : (ys.take n).length = n := (by rw [List.length_take]; omega)
        have hVyl := hVy.len
        have hVv := (hVy.view fun x hx => hby x (List.mem_append_right _ hx)).take n
        obtain ⟨j', rest', hj', hfe, hre, hrend⟩ := feedM_prefix ((okL ms).drop j) [] (rest ++ ys.take n) (ys.drop n) (fun x hx => hfine x (List.mem_of_mem_drop hx)) (by rw [List.append_assoc, List.take_append_drop]; exact he)
        rw [List.length_drop] at hj'
        refine WL.val (v_move rfl rfl) (.none rfl) rfl rfl ?_
        refine WL.val (v_move rfl rfl) (.none rfl) rfl rfl ?_
        refine WL.val (v_len_slice rfl rfl Tryd.underlying22) (.none rfl) rfl rfl ?_
        refine WL.val (v_min rfl rfl rfl) (.none rfl) rfl rfl ?_
        rw [← hn]
        refine WL.val (v_assign rfl rfl) (.none rfl) rfl rfl ?_
        refine WL.nil ?_
        refine WE.then_n ?_
        refine WC.seq ?_
        refine WC.region ?_
        refine WL.val (v_move rfl rfl) (.none rfl) rfl rfl ?_
        refine WL.val (v_move rfl rfl) (.none rfl) rfl rfl ?_
        refine WL.val (v_move rfl rfl) (.none rfl) rfl rfl ?_
        refine WL.val ((v_slice_hi (hi := n) rfl rfl rfl Tryd.underlying22 sz_5 rfl (by omega))) (.none rfl) rfl rfl ?_
        refine WL.call rfl rfl ck_26 (.none rfl) rfl rfl ?_
        intro w1 hS
        have hc := Feed_c w0 w1 g96 ⟨ra, rc, rest, (j : Int), 0, 0, ⟨#[]⟩⟩ aa ac (ys.take n) Er (Ea ++ (Ei ++ [])) hG hZ ⟨rfl, rfl, rfl⟩ hVr (fun x hx => hby x (by
            rcases List.mem_append.1 hx with hx | hx
            · exact List.mem_append_left _ hx
            · exact List.mem_append_right _ (List.mem_of_mem_take hx))) (fun w hS => hVv.cells fun e he => hS.holds e (.tail _ (List.mem_append_right _ (List.mem_append_left _ he)))) (by rw [List.length_append]; dsimp only; omega) ⟨by dsimp only; omega, by dsimp only; omega⟩ hS
        rw [htl] at hc
        refine hc.mono ?_
        rintro e w' ⟨ad, mcc, ms', Em, K, wad, wc, rst, Ew, f, hf, rfl, hVm, hK, hVw, hBr, hS'⟩
        have e1 := hfe.symm.trans hf
        injection e1 with e1 e2
        injection e2 with e2 e3
        have hlm := congrArg List.length e1
        rw [List.nil_append, List.length_map, List.length_map, List.length_take, List.length_drop, Nat.min_eq_left (by omega)] at hlm
        subst e2 e3
        dsimp only at hS'
        rw [show (j : Int) + (ms'.length : Int) = ((j + j' : Nat) : Int) by omega] at hS'
        refine ⟨_, _, rfl, hS', ?_⟩
        refine WL.val (v_move rfl rfl) (.none rfl) rfl rfl ?_
        refine WL.val (v_extract rfl rfl rfl) (.none rfl) rfl rfl ?_
        refine WL.val (v_extract rfl rfl rfl) (.none rfl) rfl rfl ?_
        refine WL.alloc rfl zero_25 (.none rfl) rfl rfl ?_
        intro g15 hg15
        refine WL.val (v_assign rfl rfl) (.none rfl) rfl rfl ?_
        refine WL.storeW rfl rfl rfl rfl many_25 rfl rfl (.none rfl) rfl ?_
        refine WL.nil ?_
        refine WE.then_n ?_
        refine WC.seq ?_
        refine WC.seq ?_
        refine WC.region ?_
        refine WL.val (v_fieldAddr0 rfl rfl fld_25_0) (.none rfl) rfl rfl ?_
        refine WL.val (v_load1 rfl rfl one_3 (cellAt rfl)) (.none rfl) rfl rfl ?_
        refine WL.val ((v_neq rfl rfl rfl).f (fun h => h rfl)) (.none rfl) rfl rfl ?_
        refine WL.nil ?_
        refine WE.then_n ?_
        refine WC.cond_f rfl ?_
        refine WC.skip ?_
        refine WE.then_n ?_
        refine WC.seq ?_
        refine WC.seq ?_
        refine WC.region ?_
        refine WL.val (v_move rfl rfl) (.none rfl) rfl rfl ?_
        refine WL.val (v_len_slice rfl rfl Tryd.underlying75) (.none rfl) rfl rfl ?_
        refine WL.val (v_move rfl rfl) (.none rfl) rfl rfl ?_
        refine WL.nil ?_
        refine WE.then_n ?_
        refine WC.block ?_
        refine WC.loop (fun i : Nat => [(1, .int .i64 (1 + cut % 256)), (5, .slice aa ys.length ac), (6, .slice ia (okL ms).length ic), (11, .pointer (some ⟨g96, 0, none⟩)), (12, .int .i64 ((j + i : Nat) : Int)), (13, .int .i64 n), (115, .slice ad ms'.length mcc), (116, .int .i64 ms'.length), (117, .int .i64 i)]) (fun _ => .row g15 (fltL 0 0 ⟨#[]⟩) :: .row g96 (RdL.cells ⟨wad, wc, rest', ((j + j' : Nat) : Int), 0, 0, ⟨#[]⟩⟩) :: (Ew ++ (Em ++ (K ++ (Ea ++ (Ei ++ [])))))) (fun i => i ≤ ms'.length) (fun i => ms'.length - i) 0 (Nat.zero_le _) (.cons rfl (.cons rfl (.cons rfl (.cons rfl (.cons rfl (.cons rfl (.cons rfl (.cons rfl (.cons rfl .nil))))))))) (.refl _) ?_
        intro i hi
        refine WC.seq ?_
        refine WC.region ?_
        refine WL.test (v_lss rfl rfl rfl) (.none rfl) rfl rfl (fun h118 => ?_) (fun h118 => ?_)
        · -- 118T
          refine WL.nil ?_
          refine WE.then_n ?_
          refine WC.seq ?_
          refine WC.cond_t rfl ?_
          refine WC.skip ?_
          refine WE.then_n ?_
          refine WC.seq ?_
          refine WC.block ?_
          refine WC.seq ?_
          refine WC.region ?_
          obtain ⟨x, hx⟩ : ∃ x, ms'[i]? = some x := ⟨ms'[i]'(by omega), List.getElem?_eq_getElem _⟩
          obtain ⟨m, hm⟩ : ∃ m, (okL ms)[j + i]? = some m := ⟨(okL ms)[j + i]'(by omega), List.getElem?_eq_getElem _⟩
          have hxm : x.d = bareD m := (by
            have h1 := congrArg (fun l => l[i]?) e1
            simp only [List.nil_append, List.getElem?_map, List.getElem?_take, List.getElem?_drop] at h1
            rw [if_pos (by omega), hm, hx] at h1
            exact (Option.some.inj h1).symm)
          have hmm := List.mem_of_getElem? hm
          obtain ⟨hmc, hmI⟩ := hfine m hmm
          have hmA := (okL_all (P := fun m => m.At w0) (fun m hm => (hM m hm).1)) m hmm
          have hmf := hfew m hmm
          have hp9 : m.atr.path.length ≤ 9 := hmf.1
          have ho5 : m.atr.others.length ≤ 5 := hmf.2
          obtain ⟨hx1, hx2, hx3, hx4, hx5⟩ := read_again hxm hmc hmI hmf
          have hxK := hK x (List.mem_of_getElem? hx)
          obtain ⟨bo, oo, ead, _⟩ := hVm.src2 (by rw [hVm.len.1]; omega)
          obtain ⟨bi, oi, eia, _⟩ := hVi.src2 (by rw [hVi.len.1]; omega)
          have hrm : ∀ w, (∀ e ∈ Em, e.holds w) → w.rangeAt bo (oo + i * 20) x.cells := (fun w hw => by
            have := cells_of (enc := MsL.cells) hVm (fun _ => rfl) (by omega) hw
            rw [ead] at this
            exact this.get hx)
          have hri : ∀ w, (∀ e ∈ Ei, e.holds w) → w.rangeAt bi (oi + (j + i) * 20) m.cells := (fun w hw => by
            have := cells_of (enc := MsL.cells) hVi (fun _ => rfl) (by omega) hw
            rw [eia] at this
            exact this.get hm)
          have hmb := msgC_bod hmc
          have hmbl := msgB_len m
          refine WL.val ((v_indexAddr (b := bo) (off := oo) (lo := i) rfl (by show some (Value.slice ad _ _) = _; rw [ead]) rfl Tryd.underlying75 sz_43 rfl (by omega))) (.none rfl) rfl rfl ?_
          refine WL.val ((v_loadN (cs := x.cells) rfl rfl many_43 rfl (fun w hS => hrm w fun e he => hS.holds e (.tail _ (.tail _ (List.mem_append_right _ (List.mem_append_left _ he))))))) (.none rfl) rfl rfl ?_
          refine WL.alloc rfl zero_43 (.none rfl) rfl rfl ?_
          intro g17 hg17
          refine WL.storeW rfl rfl rfl rfl many_43 rfl rfl (.none rfl) rfl ?_
          refine WL.nil ?_
          refine WE.then_n ?_
          refine WC.seq ?_
          refine WC.region ?_
          refine WL.val (v_loadN rfl rfl many_43 rfl allAt) (.none rfl) rfl rfl ?_
          refine WL.call rfl rfl ck_21 (.none rfl) rfl rfl ?_
          intro w1 hS
          refine (Enc_c w1 x (hxK.at fun e he => hS.holds e (.tail _ (.tail _ (.tail _ (List.mem_append_right _ (List.mem_append_right _ (List.mem_append_left _ he))))))) hx3 (hG.keep (fun h => h) hS) hx4 hx5).mono ?_
          rintro e w' ⟨_, rfl, ad123, c123, E123, rfl, hV123, hS'⟩
          rw [hx1, if_pos rfl, hx2] at hV123
          refine ⟨_, _, rfl, hS.join hS', ?_⟩
          rw [hx1, if_pos rfl, hx2]
          refine WL.val (v_move rfl rfl) (.none rfl) rfl rfl ?_
          refine WL.val (v_extract rfl rfl rfl) (.none rfl) rfl rfl ?_
          refine WL.val (v_extract rfl rfl rfl) (.none rfl) rfl rfl ?_
          refine WL.val (v_assign rfl rfl) (.none rfl) rfl rfl ?_
          refine WL.val (v_assign rfl rfl) (.none rfl) rfl rfl ?_
          refine WL.nil ?_
          refine WE.then_n ?_
          refine WC.seq ?_
          refine WC.region ?_
          refine WL.val (v_move rfl rfl) (.none rfl) rfl rfl ?_
          refine WL.val (v_move rfl rfl) (.none rfl) rfl rfl ?_
          refine WL.val ((v_indexAddr (b := bi) (off := oi) (lo := j + i) rfl (by show some (Value.slice ia _ _) = _; rw [eia]) rfl Tryd.underlying75 sz_43 rfl (by omega))) (.none rfl) rfl rfl ?_
          refine WL.val ((v_loadN (cs := m.cells) rfl rfl many_43 rfl (fun w hS => hri w fun e he => hS.holds e (List.mem_append_right _ (.tail _ (.tail _ (.tail _ (List.mem_append_right _ (List.mem_append_right _ (List.mem_append_right _ (List.mem_append_right _ (List.mem_append_left _ he)))))))))))) (.none rfl) rfl rfl ?_
          refine WL.call rfl rfl ck_21 (.none rfl) rfl rfl ?_
          intro w1 hS
          refine (Enc_c w1 m (hmA.st hS) hmI (hG.keep (fun h => h) hS) (by omega) (by omega)).mono ?_
          rintro e w' ⟨_, rfl, ad131, c131, E131, rfl, hV131, hS'⟩
          rw [hmc, if_pos rfl] at hV131
          refine ⟨_, _, rfl, hS.join hS', ?_⟩
          rw [hmc, if_pos rfl]
          refine WL.val (v_move rfl rfl) (.none rfl) rfl rfl ?_
          refine WL.val (v_extract rfl rfl rfl) (.none rfl) rfl rfl ?_
          refine WL.val (v_extract rfl rfl rfl) (.none rfl) rfl rfl ?_
          refine WL.val (v_assign rfl rfl) (.none rfl) rfl rfl ?_
          refine WL.val (v_assign rfl rfl) (.none rfl) rfl rfl ?_
          refine WL.nil ?_
          refine WE.then_n ?_
          refine WC.seq ?_
          refine WC.seq ?_
          refine WC.region ?_
          refine WL.val (v_move rfl rfl) (.none rfl) rfl rfl ?_
          refine WL.val ((v_neq rfl rfl rfl).f (fun h => h rfl)) (.none rfl) rfl rfl ?_
          refine WL.val (v_move rfl rfl) (.none rfl) rfl rfl ?_
          refine WL.val (v_move rfl rfl) (.some rfl rfl rfl) rfl rfl ?_
          refine WL.val ((v_neq rfl rfl rfl).f (fun h => h rfl)) (.some rfl rfl rfl) rfl rfl ?_
          refine WL.val (v_pick_f rfl rfl rfl) (.none rfl) rfl rfl ?_
          refine WL.val (v_move rfl rfl) (.none rfl) rfl rfl ?_
          refine WL.val (v_move rfl rfl) (.some rfl rfl rfl) rfl rfl ?_
          refine WL.val (v_move rfl rfl) (.some rfl rfl rfl) rfl rfl ?_
          refine WL.call rfl rfl ck_31 (.some rfl rfl rfl) rfl rfl ?_
          intro w hS
          refine Calls.then (Same_c w ad123 ad131 (msgB m).length (msgB m).length c123 c131 (fOf (msgB m)) (fOf (msgB m)) (CellsAt.rdo ((VecO.of hV123).range fun e he => hS.holds e (List.mem_append_right _ (List.mem_append_left _ he)))) (CellsAt.rdo ((VecO.of hV131).range fun e he => hS.holds e (List.mem_append_left _ he))) true (decide_eq_true rfl)) hS ?_
          refine WL.val (v_not rfl rfl rfl) (.some rfl rfl rfl) rfl rfl ?_
          refine WL.val (v_pick_f rfl rfl rfl) (.none rfl) rfl rfl ?_
          refine WL.nil ?_
          refine WE.then_n ?_
          refine WC.cond_f rfl ?_
          refine WC.skip ?_
          refine WE.then_n ?_
          refine WC.region ?_
          refine WL.val (v_move rfl rfl) (.none rfl) rfl rfl ?_
          refine WL.val (v_add rfl rfl rfl (w_i64 (by omega) (by omega))) (.none rfl) rfl rfl ?_
          refine WL.val (v_assign rfl rfl) (.none rfl) rfl rfl ?_
          refine WL.nil ?_
          refine WE.block_n ?_
          refine WE.then_n ?_
          refine WC.region ?_
          refine WL.val (v_add rfl rfl rfl (w_i64 (by omega) (by omega))) (.none rfl) rfl rfl ?_
          refine WL.val (v_move rfl rfl) (.none rfl) rfl rfl ?_
          refine WL.nil ?_
          exact WE.next (i + 1) (by omega) (by omega) (.cons rfl (.cons rfl (.cons rfl (.cons rfl (.int rfl (by omega) (.cons rfl (.cons rfl (.cons rfl (.int rfl (by omega) .nil))))))))) (List.sublist_append_of_sublist_right (List.sublist_append_of_sublist_right (.cons _ (.refl _))))
        · -- 118F
          refine WL.nil ?_
          refine WE.then_n ?_
          refine WC.seq ?_
          refine WC.cond_f rfl ?_
          refine WC.exit ?_
          refine WE.then_exit ?_
          refine WE.then_exit ?_
          refine WE.block_hit ?_
          refine WE.then_n ?_
          refine WC.region ?_
          have hij : i = j' := (by omega)
          refine WL.val (v_move rfl rfl) (.none rfl) rfl rfl ?_
          refine WL.val (v_move rfl rfl) (.none rfl) rfl rfl ?_
          refine WL.val ((v_slice_loA (lo := n) rfl rfl rfl Tryd.underlying22 sz_5 rfl (by omega) hVy.ad)) (.none rfl) rfl rfl ?_
          refine WL.val (v_assign rfl rfl) (.none rfl) rfl rfl ?_
          refine WL.nil ?_
          refine WE.block_n ?_
          exact WE.next ⟨ys.drop n, loAd aa n ac, ac - n, rest', wad, wc, Ew, j + j'⟩ (by dsimp only; rw [List.length_drop]; omega) ⟨hVy.dropA n hnl, hVw, by dsimp only; rw [hre, List.drop_drop], by dsimp only; omega, fun h => (by
          obtain ⟨h1, h2⟩ := hrend h
          rw [List.length_drop] at h1
          exact ⟨by dsimp only; omega, h2⟩), fun x hx => (by
          rcases List.mem_append.1 hx with hx | hx
          · exact hBr x hx
          · exact hby x (List.mem_append_right _ (List.mem_of_mem_drop hx))), by
          have h1 := congrArg List.length hre
          have h2 : (flatB (((okL ms).drop j).drop j')).length ≤ 4096 * (((okL ms).drop j).drop j').length := flatB_len fun x hx => hfine x (List.mem_of_mem_drop (List.mem_of_mem_drop hx))
          rw [List.length_drop, List.length_drop] at h2
          dsimp only
          omega⟩ (.cons rfl (.eq rfl (by dsimp only; rw [List.length_drop]) (.cons rfl (.cons rfl (.int rfl (by dsimp only; omega) .nil))))) (.cons _ (.cons_cons _ (List.Sublist.append_left (List.sublist_append_of_sublist_right (List.sublist_append_right _ _)) _)))
      · -- 99F
        refine WL.nil ?_
        refine WE.then_n ?_
        refine WC.cond_f rfl ?_
        refine WC.exit ?_
        refine WE.then_exit ?_
        refine WE.then_exit ?_
        refine WE.block_hit ?_
        refine WE.then_n ?_
        refine WC.seq ?_
        refine WC.region ?_
        refine WL.val (v_assign rfl rfl) (.none rfl) rfl rfl ?_
        refine WL.nil ?_
        refine WE.then_n ?_
        refine WC.seq ?_
        refine WC.region ?_
        obtain ⟨hj1, rfl⟩ := hend (List.length_eq_zero_iff.1 (by omega))
        refine WL.val (v_move rfl rfl) (.none rfl) rfl rfl ?_
        refine WL.buildSlice rfl rfl Tryd.underlying22 sz_5 zero_5 rfl (by decide) rfl (.none rfl) rfl rfl ?_
        intro g154 hg154
        refine WL.call rfl rfl ck_26 (.none rfl) rfl rfl ?_
        intro w hS
        refine Calls.then (FeedNil_c w _) hS ?_
        refine WL.val (v_move rfl rfl) (.none rfl) rfl rfl ?_
        refine WL.val (v_extract rfl rfl rfl) (.none rfl) rfl rfl ?_
        refine WL.val (v_extract rfl rfl rfl) (.none rfl) rfl rfl ?_
        refine WL.alloc rfl zero_25 (.none rfl) rfl rfl ?_
        intro g24 hg24
        refine WL.val (v_assign rfl rfl) (.none rfl) rfl rfl ?_
        refine WL.storeW rfl rfl rfl rfl many_25 rfl rfl (.none rfl) rfl ?_
        refine WL.nil ?_
        refine WE.then_n ?_
        refine WC.seq ?_
        refine WC.region ?_
        refine WL.val (v_move rfl rfl) (.none rfl) rfl rfl ?_
        refine WL.call rfl rfl ck_30 (.none rfl) rfl rfl ?_
        intro w hS
        refine Calls.then (OverNil_c w) hS ?_
        refine WL.val (v_move rfl rfl) (.none rfl) rfl rfl ?_
        refine WL.val (v_extract rfl rfl rfl) (.none rfl) rfl rfl ?_
        refine WL.val (v_extract rfl rfl rfl) (.none rfl) rfl rfl ?_
        refine WL.alloc rfl zero_25 (.none rfl) rfl rfl ?_
        intro g25 hg25
        refine WL.storeW rfl rfl rfl rfl many_25 rfl rfl (.none rfl) rfl ?_
        refine WL.val (v_assign rfl rfl) (.none rfl) rfl rfl ?_
        refine WL.nil ?_
        refine WE.then_n ?_
        refine WC.seq ?_
        refine WC.region ?_
        refine WL.val (v_move rfl rfl) (.none rfl) rfl rfl ?_
        refine WL.val (v_move rfl rfl) (.none rfl) rfl rfl ?_
        refine WL.val (v_len_slice rfl rfl Tryd.underlying75) (.none rfl) rfl rfl ?_
        refine WL.val ((v_eql rfl rfl rfl).t (by omega)) (.none rfl) rfl rfl ?_
        refine WL.val (v_move rfl rfl) (.none rfl) rfl rfl ?_
        refine WL.val (v_move rfl rfl) (.some rfl rfl rfl) rfl rfl ?_
        refine WL.call rfl rfl ck_28 (.some rfl rfl rfl) rfl rfl ?_
        intro w hS
        refine Calls.then (Waits_c w g96 ⟨ra, rc, [], (j : Int), 0, 0, ⟨#[]⟩⟩ (hS.at0 (.tail _ (.tail _ (.tail _ (.head _)))))) hS ?_
        refine WL.val ((v_eql rfl rfl rfl).t (rfl)) (.some rfl rfl rfl) rfl rfl ?_
        refine WL.val (v_pick_t rfl rfl rfl) (.none rfl) rfl rfl ?_
        refine WL.val (v_move rfl rfl) (.none rfl) rfl rfl ?_
        refine WL.val (v_move rfl rfl) (.some rfl rfl rfl) rfl rfl ?_
        refine WL.val (v_len_slice rfl rfl Tryd.underlying75) (.some rfl rfl rfl) rfl rfl ?_
        refine WL.val ((v_eql rfl rfl rfl).t (rfl)) (.some rfl rfl rfl) rfl rfl ?_
        refine WL.val (v_pick_t rfl rfl rfl) (.none rfl) rfl rfl ?_
        refine WL.val (v_move rfl rfl) (.none rfl) rfl rfl ?_
        refine WL.val (v_fieldAddr0 rfl rfl fld_25_0) (.some rfl rfl rfl) rfl rfl ?_
        refine WL.val (v_load1 rfl rfl one_3 (cellAt rfl)) (.some rfl rfl rfl) rfl rfl ?_
        refine WL.val ((v_eql rfl rfl rfl).t (rfl)) (.some rfl rfl rfl) rfl rfl ?_
        refine WL.val (v_pick_t rfl rfl rfl) (.none rfl) rfl rfl ?_
        refine WL.val (v_move rfl rfl) (.none rfl) rfl rfl ?_
        refine WL.val (v_move rfl rfl) (.some rfl rfl rfl) rfl rfl ?_
        refine WL.val (v_not rfl rfl rfl) (.some rfl rfl rfl) rfl rfl ?_
        refine WL.val (v_pick_t rfl rfl rfl) (.none rfl) rfl rfl ?_
        refine WL.val (v_move rfl rfl) (.none rfl) rfl rfl ?_
        refine WL.val (v_move rfl rfl) (.some rfl rfl rfl) rfl rfl ?_
        refine WL.call rfl rfl ck_28 (.some rfl rfl rfl) rfl rfl ?_
        intro w hS
        refine Calls.then (WaitsNil_c w) hS ?_
        refine WL.val ((v_eql rfl rfl rfl).t (by omega)) (.some rfl rfl rfl) rfl rfl ?_
        refine WL.val (v_pick_t rfl rfl rfl) (.none rfl) rfl rfl ?_
        refine WL.val (v_move rfl rfl) (.none rfl) rfl rfl ?_
        refine WL.val (v_move rfl rfl) (.some rfl rfl rfl) rfl rfl ?_
        refine WL.call rfl rfl ck_27 (.some rfl rfl rfl) rfl rfl ?_
        intro w hS
        refine Calls.then (CountNil_c w) hS ?_
        refine WL.val ((v_eql rfl rfl rfl).t (by omega)) (.some rfl rfl rfl) rfl rfl ?_
        refine WL.val (v_pick_t rfl rfl rfl) (.none rfl) rfl rfl ?_
        refine WL.val (v_assign rfl rfl) (.none rfl) rfl rfl ?_
        refine WL.nil ?_
        refine WE.then_n ?_
        refine WC.ret ?_
        refine WE.ret1 (P := Tryd.prog) (.inl rfl) Tryd.results9 rfl ?_
        exact fun w' h => ⟨rfl, h.frm⟩
end Go.Proofs.YtpjbofodllhjbaaDoor
/- attr: the two tables that lie there. -/
namespace Go.Proofs.YtpjbofodllhjbaaDoor
open Go.RowKit

theorem laid_tail {P : Program} {x : String × DataW Unit} {r : List (String × DataW Unit)} {w : World} (h : laidMet P (x :: r) w) : laidMet P r w := by
  obtain ⟨ps, ⟨g, t, cs, fuel, p, q, _, _, _, _, hq, rfl⟩, hn, hc⟩ := h
  exact ⟨q, hq, (List.nodup_append.1 hn).2.1, fun b off hm => hc b off (List.mem_append_right _ hm)⟩
theorem laid_attr {w : World} (hL : laidMet Tryd.prog [("carrefour/attr.flags", Rows.laid_carrefour_attr_flags), ("carrefour/attr.sizes", Rows.laid_carrefour_attr_sizes)] w) : GF w ∧ GZ w := by
  constructor
  · have hT := Lib.tabIs_of_head (zs := [0, 64, 64, 64, 128, 64, 64, 192, 192]) (k := .i64) (show Tryd.prog.globalNamed "carrefour/attr.flags" = some 0 by kernel_rfl) (show (Tryd.prog.globals[0]?).map (·.type) = some 157 by kernel_rfl) Tryd.underlying157 Tryd.underlying3 (by kernel_rfl) (by kernel_rfl) hL
    intro i hi
    have := hT.cell (show Tryd.prog.globalNamed "carrefour/attr.flags" = some 0 by kernel_rfl) i hi
    match i, hi with
    | 0, _ | 1, _ | 2, _ | 3, _ | 4, _ | 5, _ | 6, _ | 7, _ | 8, _ => exact this
  · have hT := Lib.tabIs_of_head (zs := [0, 1, -1, 4, 4, 4, 0, 6, -1]) (k := .i64) (show Tryd.prog.globalNamed "carrefour/attr.sizes" = some 2 by kernel_rfl) (show (Tryd.prog.globals[2]?).map (·.type) = some 157 by kernel_rfl) Tryd.underlying157 Tryd.underlying3 (by kernel_rfl) (by kernel_rfl) (laid_tail hL)
    intro i hi
    have := hT.cell (show Tryd.prog.globalNamed "carrefour/attr.sizes" = some 2 by kernel_rfl) i hi
    match i, hi with
    | 0, _ | 1, _ | 2, _ | 3, _ | 4, _ | 5, _ | 6, _ | 7, _ | 8, _ => exact this
end Go.Proofs.YtpjbofodllhjbaaDoor
/- Arguments: a message of BGP. -/
namespace Go.Proofs.YtpjbofodllhjbaaDoor
open Go.RowKit

theorem rows_of {P : Program} {w : World} {e s len : Nat} {a : Option Addr} {α : Type} {enc : α → List Value} {good : α → Prop} (hx : ∀ cs, cs.length = s → Tree P w e cs → ∃ x, cs = enc x ∧ good x) (h : Elems P w e s a len) : ∃ xs : List α, xs.length = len ∧ RowsAt w a s enc xs ∧ ∀ x ∈ xs, good x := by
  by_cases hl : 0 < len
  · obtain ⟨b, off, rfl, hE⟩ := h hl
    have hE' : ∀ i : Fin len, ∃ x, w.rangeAt b (off + i.1 * s) (enc x) ∧ good x := fun i => by
      obtain ⟨cs, hc, hr, hT⟩ := hE i.1 i.2
      obtain ⟨x, rfl, hg⟩ := hx cs hc hT
      exact ⟨x, hr, hg⟩
    refine ⟨List.ofFn fun i => Classical.choose (hE' i), List.length_ofFn, fun i x hi => ?_, fun x hm => ?_⟩
    · rw [List.getElem?_ofFn] at hi
      split at hi
      · rename_i hlt
        obtain rfl := Option.some.inj hi
        exact ⟨b, off, rfl, (Classical.choose_spec (hE' ⟨i, hlt⟩)).1⟩
      · cases hi
    · obtain ⟨i, rfl⟩ := List.mem_ofFn.1 hm
      exact (Classical.choose_spec (hE' i)).2
  · refine ⟨[], by rw [List.length_nil]; omega, fun i x hi => by simp at hi, fun x hm => by cases hm⟩
theorem CellsAt.of_rows {w : World} {a : Option Addr} {f : Int → Value} {xs : List Int} (h : RowsAt w a 1 (fun x => [f x]) xs) : CellsAt w a (xs.map f) := fun hn => by
  rw [List.length_map] at hn
  obtain ⟨b, o, e, _⟩ := h 0 _ (List.getElem?_eq_getElem hn)
  refine ⟨b, o, e, fun j v hj => ?_⟩
  rw [List.getElem?_map] at hj
  cases hx : xs[j]? with
  | none => rw [hx] at hj; cases hj
  | some x =>
    rw [hx] at hj
    obtain rfl := Option.some.inj hj
    obtain ⟨b', o', e', hr⟩ := h j x hx
    rw [e] at e'
    cases e'
    have := hr 0 _ rfl
    rwa [Nat.mul_one, Nat.add_zero] at this
theorem Elems.u8 {w : World} {len : Nat} {a : Option Addr} (h : Elems Tryd.prog w 5 1 a len) : ∃ xs : List Int, xs.length = len ∧ CellsAt w a (u8s xs) ∧ Bys xs := by
  obtain ⟨xs, hl, hr, hg⟩ := rows_of (enc := fun x => [.int .u8 x]) (good := fun x => 0 ≤ x ∧ x ≤ 255) (fun cs hc hT => by
    match cs, hc with
    | [x], _ =>
      obtain ⟨n, rfl, hw⟩ := Tree.int Tryd.underlying5 hT
      exact ⟨n, rfl, wf_u8 hw⟩) h
  exact ⟨xs, hl, CellsAt.of_rows hr, hg⟩
theorem Elems.i64 {w : World} {len : Nat} {a : Option Addr} (h : Elems Tryd.prog w 3 1 a len) : ∃ xs : List Int, xs.length = len ∧ CellsAt w a (i64s xs) ∧ ∀ x ∈ xs, I64 x := by
  obtain ⟨xs, hl, hr, hg⟩ := rows_of (enc := fun x => [.int .i64 x]) (good := fun x => I64 x) (fun cs hc hT => by
    match cs, hc with
    | [x], _ =>
      obtain ⟨n, rfl, hw⟩ := Tree.int Tryd.underlying3 hT
      exact ⟨n, rfl, wf_i64 hw⟩) h
  exact ⟨xs, hl, CellsAt.of_rows hr, hg⟩
theorem Tree.u8sl {w : World} {x : Value} (h : Tree Tryd.prog w 22 [x]) : ∃ a cap, ∃ xs : List Int, x = .slice a xs.length cap ∧ xs.length ≤ cap ∧ cap ≤ maxLen ∧ CellsAt w a (u8s xs) ∧ Bys xs := by
  obtain ⟨a, len, cap, rfl, h1, h2, hE⟩ := Tree.slice (s := 1) Tryd.underlying22 (by kernel_rfl) (by decide) h
  obtain ⟨xs, rfl, hc, hb⟩ := Elems.u8 hE
  exact ⟨a, cap, xs, rfl, h1, h2, hc, hb⟩
theorem Tree.i64sl {w : World} {x : Value} (h : Tree Tryd.prog w 38 [x]) : ∃ a cap, ∃ xs : List Int, x = .slice a xs.length cap ∧ xs.length ≤ cap ∧ cap ≤ maxLen ∧ CellsAt w a (i64s xs) ∧ ∀ x ∈ xs, I64 x := by
  obtain ⟨a, len, cap, rfl, h1, h2, hE⟩ := Tree.slice (s := 1) Tryd.underlying38 (by kernel_rfl) (by decide) h
  obtain ⟨xs, rfl, hc, hb⟩ := Elems.i64 hE
  exact ⟨a, cap, xs, rfl, h1, h2, hc, hb⟩
theorem Tree.flatL {P : Program} {w : World} {t : TypeId} {cs : List Value} {ts : List TypeId} (h : Tree P w t cs) (F : Nat) (hl : layB P F t = true) (hf : flat P F t = ts) : Leaves P w ts cs := hf ▸ Tree.leaves F t cs hl h
theorem maxLen_le : maxLen ≤ 9223372036854775807 := by decide
theorem Tree.caps {w : World} {x : Value} (h : Tree Tryd.prog w 35 [x]) : ∃ a cap, ∃ xs : List CapL, x = .slice a xs.length cap ∧ xs.length ≤ 9223372036854775807 ∧ RowsAt w a 2 CapL.cells xs ∧ ∀ c ∈ xs, CellsAt w c.ad (u8s c.val) ∧ I64 c.code ∧ c.val.length ≤ 9223372036854775807 ∧ Bys c.val := by
  obtain ⟨a, len, cap, rfl, h1, h2, hE⟩ := Tree.slice (s := 2) Tryd.underlying35 (by kernel_rfl) (by decide) h
  have hm := maxLen_le
  obtain ⟨xs, rfl, hr, hg⟩ := rows_of (enc := CapL.cells) (good := fun c => CellsAt w c.ad (u8s c.val) ∧ I64 c.code ∧ c.val.length ≤ 9223372036854775807 ∧ Bys c.val) (fun cs hc hT => by
    have hL := Tree.flatL (ts := [3, 22]) hT 4 (by kernel_rfl) (by kernel_rfl)
    obtain ⟨x, _, rfl, hx, y, _, rfl, hy, rfl⟩ := hL
    obtain ⟨n, rfl, hw⟩ := Tree.int Tryd.underlying3 hx
    obtain ⟨a', cap', ys, rfl, k1, k2, k3, k4⟩ := Tree.u8sl hy
    exact ⟨⟨n, a', cap', ys⟩, rfl, k3, wf_i64 hw, by dsimp only; omega, k4⟩) hE
  exact ⟨a, cap, xs, rfl, by omega, hr, hg⟩
theorem Tree.pfs {w : World} {x : Value} (h : Tree Tryd.prog w 36 [x]) : ∃ a cap, ∃ xs : List PfL, x = .slice a xs.length cap ∧ xs.length ≤ 9223372036854775807 ∧ RowsAt w a 2 PfL.cells xs ∧ ∀ p ∈ xs, U32 p.addr ∧ I64 p.len := by
  obtain ⟨a, len, cap, rfl, h1, h2, hE⟩ := Tree.slice (s := 2) Tryd.underlying36 (by kernel_rfl) (by decide) h
  have hm := maxLen_le
  obtain ⟨xs, rfl, hr, hg⟩ := rows_of (enc := PfL.cells) (good := fun p => U32 p.addr ∧ I64 p.len) (fun cs hc hT => by
    have hL := Tree.flatL (ts := [34, 3]) hT 4 (by kernel_rfl) (by kernel_rfl)
    obtain ⟨x, _, rfl, hx, y, _, rfl, hy, rfl⟩ := hL
    obtain ⟨n, rfl, hw⟩ := Tree.int Tryd.underlying34 hx
    obtain ⟨n2, rfl, hw2⟩ := Tree.int Tryd.underlying3 hy
    exact ⟨⟨n, n2⟩, rfl, wf_u32 hw, wf_i64 hw2⟩) hE
  exact ⟨a, cap, xs, rfl, by omega, hr, hg⟩
theorem Tree.segs {w : World} {x : Value} (h : Tree Tryd.prog w 37 [x]) : ∃ a cap, ∃ xs : List SegL, x = .slice a xs.length cap ∧ xs.length ≤ 9223372036854775807 ∧ RowsAt w a 2 SegL.cells xs ∧ ∀ c ∈ xs, CellsAt w c.ad (i64s c.asl) ∧ c.asl.length ≤ 9223372036854775807 ∧ ∀ x ∈ c.asl, I64 x := by
  obtain ⟨a, len, cap, rfl, h1, h2, hE⟩ := Tree.slice (s := 2) Tryd.underlying37 (by kernel_rfl) (by decide) h
  have hm := maxLen_le
  obtain ⟨xs, rfl, hr, hg⟩ := rows_of (enc := SegL.cells) (good := fun c => CellsAt w c.ad (i64s c.asl) ∧ c.asl.length ≤ 9223372036854775807 ∧ ∀ x ∈ c.asl, I64 x) (fun cs hc hT => by
    have hL := Tree.flatL (ts := [4, 38]) hT 4 (by kernel_rfl) (by kernel_rfl)
    obtain ⟨x, _, rfl, hx, y, _, rfl, hy, rfl⟩ := hL
    obtain ⟨n, rfl⟩ := Tree.bool Tryd.underlying4 hx
    obtain ⟨a', cap', ys, rfl, k1, k2, k3, k4⟩ := Tree.i64sl hy
    exact ⟨⟨n, a', cap', ys⟩, rfl, k3, by dsimp only; omega, k4⟩) hE
  exact ⟨a, cap, xs, rfl, by omega, hr, hg⟩
theorem Tree.oths {w : World} {x : Value} (h : Tree Tryd.prog w 39 [x]) : ∃ a cap, ∃ xs : List OthL, x = .slice a xs.length cap ∧ xs.length ≤ 9223372036854775807 ∧ RowsAt w a 2 OthL.cells xs ∧ ∀ c ∈ xs, CellsAt w c.ad (u8s c.val) ∧ I64 c.ty ∧ c.val.length ≤ 9223372036854775807 ∧ Bys c.val := by
  obtain ⟨a, len, cap, rfl, h1, h2, hE⟩ := Tree.slice (s := 2) Tryd.underlying39 (by kernel_rfl) (by decide) h
  have hm := maxLen_le
  obtain ⟨xs, rfl, hr, hg⟩ := rows_of (enc := OthL.cells) (good := fun c => CellsAt w c.ad (u8s c.val) ∧ I64 c.ty ∧ c.val.length ≤ 9223372036854775807 ∧ Bys c.val) (fun cs hc hT => by
    have hL := Tree.flatL (ts := [3, 22]) hT 4 (by kernel_rfl) (by kernel_rfl)
    obtain ⟨x, _, rfl, hx, y, _, rfl, hy, rfl⟩ := hL
    obtain ⟨n, rfl, hw⟩ := Tree.int Tryd.underlying3 hx
    obtain ⟨a', cap', ys, rfl, k1, k2, k3, k4⟩ := Tree.u8sl hy
    exact ⟨⟨n, a', cap', ys⟩, rfl, k3, wf_i64 hw, by dsimp only; omega, k4⟩) hE
  exact ⟨a, cap, xs, rfl, by omega, hr, hg⟩
theorem msg_leaves {w : World} {cs : List Value} (hL : Leaves Tryd.prog w [3, 3, 3, 34, 35, 36, 3, 3, 37, 34, 3, 3, 3, 34, 38, 39, 36, 3, 3, 9] cs) : ∃ m : MsL, cs = m.cells ∧ m.At w ∧ m.In := by
  obtain ⟨x0, _, rfl, h0, x1, _, rfl, h1, x2, _, rfl, h2, x3, _, rfl, h3, x4, _, rfl, h4, x5, _, rfl, h5, x6, _, rfl, h6, x7, _, rfl, h7, x8, _, rfl, h8, x9, _, rfl, h9, x10, _, rfl, h10, x11, _, rfl, h11, x12, _, rfl, h12, x13, _, rfl, h13, x14, _, rfl, h14, x15, _, rfl, h15, x16, _, rfl, h16, x17, _, rfl, h17, x18, _, rfl, h18, x19, _, rfl, h19, rfl⟩ := hL
  obtain ⟨n0, rfl, w0⟩ := Tree.int Tryd.underlying3 h0
  obtain ⟨n1, rfl, w1⟩ := Tree.int Tryd.underlying3 h1
  obtain ⟨n2, rfl, w2⟩ := Tree.int Tryd.underlying3 h2
  obtain ⟨n3, rfl, w3⟩ := Tree.int Tryd.underlying34 h3
  obtain ⟨a4, c4, l4, rfl, k4, r4, g4⟩ := Tree.caps h4
  obtain ⟨a5, c5, l5, rfl, k5, r5, g5⟩ := Tree.pfs h5
  obtain ⟨n6, rfl, w6⟩ := Tree.int Tryd.underlying3 h6
  obtain ⟨n7, rfl, w7⟩ := Tree.int Tryd.underlying3 h7
  obtain ⟨a8, c8, l8, rfl, k8, r8, g8⟩ := Tree.segs h8
  obtain ⟨n9, rfl, w9⟩ := Tree.int Tryd.underlying34 h9
  obtain ⟨n10, rfl, w10⟩ := Tree.int Tryd.underlying3 h10
  obtain ⟨n11, rfl, w11⟩ := Tree.int Tryd.underlying3 h11
  obtain ⟨n12, rfl, w12⟩ := Tree.int Tryd.underlying3 h12
  obtain ⟨n13, rfl, w13⟩ := Tree.int Tryd.underlying34 h13
  obtain ⟨a14, c14, l14, rfl, k14, j14, r14, g14⟩ := Tree.i64sl h14
  obtain ⟨a15, c15, l15, rfl, k15, r15, g15⟩ := Tree.oths h15
  obtain ⟨a16, c16, l16, rfl, k16, r16, g16⟩ := Tree.pfs h16
  obtain ⟨n17, rfl, w17⟩ := Tree.int Tryd.underlying3 h17
  obtain ⟨n18, rfl, w18⟩ := Tree.int Tryd.underlying3 h18
  obtain ⟨d19, rfl, w19⟩ := Tree.string Tryd.underlying9 h19
  have hm := maxLen_le
  exact ⟨⟨n0, n1, n2, n3, a4, c4, l4, a5, c5, l5, ⟨n6, n7, a8, c8, l8, n9, n10, n11, n12, n13, a14, c14, l14, a15, c15, l15⟩, a16, c16, l16, n17, n18, d19⟩, rfl,
    ⟨r4, fun c hc => (g4 c hc).1, r5, r16, ⟨r8, fun c hc => (g8 c hc).1, r14, r15, fun c hc => (g15 c hc).1⟩⟩,
    ⟨wf_i64 w0, wf_i64 w1, wf_i64 w2, wf_u32 w3, wf_i64 w17, wf_i64 w18, fun c hc => (g4 c hc).2, g5, g16,
      ⟨wf_i64 w6, wf_i64 w7, wf_u32 w9, wf_i64 w10, wf_i64 w11, wf_i64 w12, wf_u32 w13, fun c hc => (g8 c hc).2, g14, fun c hc => (g15 c hc).2, k8, by dsimp only; omega, k15⟩, k4, k5, k16, by dsimp only; omega⟩⟩
end Go.Proofs.YtpjbofodllhjbaaDoor
/- bgp: messages as an argument. -/
namespace Go.Proofs.YtpjbofodllhjbaaDoor
open Go.RowKit Go.ChangeShapes Go.WideShapes

theorem Elems.msgs {w : World} {len : Nat} {a : Option Addr} (h : Elems Tryd.prog w 43 20 a len) : ∃ ms : List MsL, ms.length = len ∧ RowsAt w a 20 MsL.cells ms ∧ ∀ m ∈ ms, m.At w ∧ m.In := by
  obtain ⟨xs, e, hr, hg⟩ := rows_of (enc := MsL.cells) (good := fun m => m.At w ∧ m.In) (fun cs hc hT => by
    obtain ⟨m, rfl, h1, h2⟩ := msg_leaves (Tree.flatL hT 6 (by kernel_rfl) (by kernel_rfl))
    exact ⟨m, rfl, h1, h2⟩) h
  exact ⟨xs, e, hr, hg⟩
end Go.Proofs.YtpjbofodllhjbaaDoor
