/- Texts joined: engine, contracts and laws, in the order in which they build. -/
import Derived.Test.YtkeonnnhogaggaaGreatDoorBbJoinWeighs
/- match.And, match.Without; matches as a map's keys. -/
namespace Go.Proofs.YtkeonnnhogaggaaGreatDoor
open Go.RowKit

/-- A match's first k fields, joined with another's. -/
def andK (m n : Mt) (k : Nat) : Mt := ⟨fun i => if i < k then orN (m.val i) (n.val i) else m.val i, fun i => if i < k then orN (m.mask i) (n.mask i) else m.mask i⟩
theorem mtL_congr {a b : Mt} (h : a.eqv b) : mtL a = mtL b := by
  unfold mtL
  rw [ucs_congr (f := a.val) (g := b.val) (fun i hi => (h i hi).1), ucs_congr (f := a.mask) (g := b.mask) (fun i hi => (h i hi).2)]
theorem andK_set {m n : Mt} {k : Nat} (hk : k < 9) : ((mtL (andK m n k)).set (0 + k * 1) (.int .u64 (orN (m.val k) (n.val k)))).set (9 + k * 1) (.int .u64 (orN (m.mask k) (n.mask k))) = mtL (andK m n (k + 1)) := by
  rw [mtL_setVal hk, mtL_setMask hk]
  refine mtL_congr fun i hi => ⟨?_, ?_⟩
  · show (if i = k then _ else (if i < k then _ else _)) = (if i < k + 1 then _ else _)
    by_cases e : i = k
    · subst e; rw [if_pos rfl, if_pos (by omega)]
    · rw [if_neg e]
      by_cases e2 : i < k
      · rw [if_pos e2, if_pos (by omega)]
      · rw [if_neg e2, if_neg (by omega)]
  · show (if i = k then _ else (if i < k then _ else _)) = (if i < k + 1 then _ else _)
    by_cases e : i = k
    · subst e; rw [if_pos rfl, if_pos (by omega)]
    · rw [if_neg e]
      by_cases e2 : i < k
      · rw [if_pos e2, if_pos (by omega)]
      · rw [if_neg e2, if_neg (by omega)]
theorem andK_val {m n : Mt} {k : Nat} (hk : k < 9) : (mtL (andK m n k))[0 + k * 1]? = some (.int .u64 (m.val k)) := by
  rw [mtL_val _ hk]
  show some (Value.int .u64 (if k < k then _ else _)) = _
  rw [if_neg (by omega)]
theorem andK_mask {m n : Mt} {k : Nat} (hk : k < 9) : (mtL (andK m n k))[9 + k * 1]? = some (.int .u64 (m.mask k)) := by
  rw [mtL_mask _ hk]
  show some (Value.int .u64 (if k < k then _ else _)) = _
  rw [if_neg (by omega)]
theorem andN_le {x y : Int} (h : x ≤ 18446744073709551615) : 0 ≤ andN x y ∧ andN x y ≤ 18446744073709551615 := by
  unfold andN
  have : x.toNat &&& y.toNat ≤ x.toNat := Nat.and_le_left
  omega
set_option maxHeartbeats 2000000 in
theorem MAnd_c (w : World) (m n : Mt) (hm : m.In) (hn : n.In) :
    Calls Tryz.prog 135 #[mtV m, mtV n] w fun e w' => e = .returned (.tuple #[mtV ((m.and n).getD mt0), .bool (m.and n).isSome]) ∧ Frm (fun _ => False) w w' := by
  refine enter Tryz.func135 rfl Tryz.ntmps135 rfl (St.start (fun _ => False) w) ?_
  refine WC.seq <| WC.region <| WL.box rfl rfl rfl (.none rfl) rfl rfl <| ?_
  intro g2 hg2
  refine WL.box rfl rfl rfl (.none rfl) rfl rfl ?_
  intro g3 hg3
  refine WL.alloc rfl zero_115 (.none rfl) rfl rfl ?_
  intro g4 hg4
  refine WL.v (v_assign rfl rfl) rfl <| WL.nt <| WC.seq <| WC.seq <| WC.region <| WL.v (v_move rfl rfl) rfl <| WL.nt <| WC.block <| ?_
  refine WC.loop (fun k : Nat => [(7, .int .i64 k), (2, .pointer (some ⟨g2, 0, none⟩)), (3, .pointer (some ⟨g3, 0, none⟩)), (4, .pointer (some ⟨g4, 0, none⟩)), (5, .bool false)]) (fun k => [.row g4 (mtL mt0), .row g3 (mtL n), .row g2 (mtL (andK m n k))]) (fun k => k ≤ 9 ∧ ∀ j, j < k → andN (andN (xorN (m.val j) (n.val j)) (m.mask j)) (n.mask j) = 0) (fun k => 9 - k) 0 ⟨Nat.zero_le _, fun j h => absurd h (by omega)⟩ (.cons rfl (.cons rfl (.cons rfl (.cons rfl (.cons rfl .nil))))) (.refl _) ?_
  rintro k ⟨hk, hok⟩
  have a1 := hm.val k
  have a2 := hm.mask k
  have b1 := hn.val k
  have b2 := hn.mask k
  have hx := xorN_le (x := m.val k) (y := n.val k) a1.2 b1.2
  have hy := andN_le (y := m.mask k) hx.2
  refine WC.seq <| WC.region <| ?_
  refine WL.test (v_lss rfl rfl rfl) (.none rfl) rfl rfl (fun h8 => ?_) (fun h8 => ?_)
  ·
   refine WL.nt <| WC.seq <| WC.cond_t rfl <| WC.skip <| WE.then_n <| WC.seq <| WC.block <| WC.seq <| WC.region <| WL.v (v_move rfl rfl) rfl <| WL.v (v_assign rfl rfl) rfl <| WL.nt <| WC.seq <| WC.seq <| ?_
   refine WC.quiet mixed (by kernel_rfl) ?_
   refine WQ.val (v_move rfl rfl) (.none rfl) rfl rfl <| WQ.val (v_fieldAddr0 rfl rfl fld_115_0) (.none rfl) rfl rfl <| ?_
   refine WQ.val (v_indexAddrA (lo := k) rfl rfl rfl Tryz.underlying108 sz_23 (by omega) (by omega)) (.none rfl) rfl rfl ?_
   refine WQ.val (v_load1 rfl rfl one_23 (cellAt (andK_val (by omega)))) (.none rfl) rfl rfl ?_
   refine WQ.val (v_move rfl rfl) (.none rfl) rfl rfl <| WQ.val (v_fieldAddr0 rfl rfl fld_115_0) (.none rfl) rfl rfl <| ?_
   refine WQ.val (v_indexAddrA (lo := k) rfl rfl rfl Tryz.underlying108 sz_23 (by omega) (by omega)) (.none rfl) rfl rfl ?_
   refine WQ.val (v_load1 rfl rfl one_23 (cellAt (mtL_val n (by omega)))) (.none rfl) rfl rfl ?_
   refine WQ.val (v_xor rfl rfl rfl (bits_xor_u64 a1.1 a1.2 b1.1 b1.2)) (.none rfl) rfl rfl <| WQ.val (v_move rfl rfl) (.none rfl) rfl rfl <| WQ.val (v_fieldAddr0 rfl rfl fld_115_1) (.none rfl) rfl rfl <| ?_
   refine WQ.val (v_indexAddrA (lo := k) rfl rfl rfl Tryz.underlying108 sz_23 (by omega) (by omega)) (.none rfl) rfl rfl ?_
   refine WQ.val (v_load1 rfl rfl one_23 (cellAt (andK_mask (by omega)))) (.none rfl) rfl rfl ?_
   refine WQ.val (v_and rfl rfl rfl (bits_and_u64 hx.1 hx.2 a2.1 a2.2)) (.none rfl) rfl rfl <| WQ.val (v_move rfl rfl) (.none rfl) rfl rfl <| WQ.val (v_fieldAddr0 rfl rfl fld_115_1) (.none rfl) rfl rfl <| ?_
   refine WQ.val (v_indexAddrA (lo := k) rfl rfl rfl Tryz.underlying108 sz_23 (by omega) (by omega)) (.none rfl) rfl rfl ?_
   refine WQ.val (v_load1 rfl rfl one_23 (cellAt (mtL_mask n (by omega)))) (.none rfl) rfl rfl ?_
   refine WQ.val (v_and rfl rfl rfl (bits_and_u64 hy.1 hy.2 b2.1 b2.2)) (.none rfl) rfl rfl ?_
   refine WQ.test (v_neq rfl rfl rfl) (.none rfl) rfl rfl (fun h29 => ?_) (fun h29 => ?_)
   ·
    refine WQ.nil <| WE.then_n <| WC.cond_t rfl <| WC.seq <| WC.region <| WL.v (v_build rfl rfl zero_115 plc_115 rfl) rfl <| WL.storeW rfl rfl rfl rfl many_115 rfl rfl (.none rfl) rfl <| WL.v (v_assign rfl rfl) rfl <| WL.nt <| WC.ret <| WE.then_ret <| WE.block_ret <| WE.then_ret <| WE.then_ret <| ?_
    refine WE.block_ret <| WE.then_ret <| WE.ret2 (P := Tryz.prog) (.inl rfl) Tryz.results135 (resRow rfl many_115 rfl) rfl <| ?_
    have hno : m.and n = none := (by unfold Mt.and; exact if_neg fun q => h29 (q k (by omega)))
    exact fun w' h => ⟨by rw [hno]; rfl, h.frm⟩
   ·
    refine WQ.nil <| WE.then_n <| WC.cond_f rfl <| WC.skip <| WE.then_n <| WC.seq <| WC.orders mixed <| ?_
    refine WR.first (g := 5) [0, 1, 2, 4, 5, 6, 9] (by kernel_rfl) (by kernel_rfl) ?_
    refine WP.val (v_move rfl rfl) (.none rfl) rfl rfl <| WP.val (v_fieldAddr0 rfl rfl fld_115_0) (.none rfl) rfl rfl <| ?_
    refine WP.val (v_indexAddrA (lo := k) rfl rfl rfl Tryz.underlying108 sz_23 (by omega) (by omega)) (.none rfl) rfl rfl ?_
    refine WP.val (v_move rfl rfl) (.none rfl) rfl rfl <| WP.val (v_fieldAddr0 rfl rfl fld_115_0) (.none rfl) rfl rfl <| ?_
    refine WP.val (v_indexAddrA (lo := k) rfl rfl rfl Tryz.underlying108 sz_23 (by omega) (by omega)) (.none rfl) rfl rfl ?_
    refine WP.val (v_fieldAddr0 rfl rfl fld_115_0) (.none rfl) rfl rfl <| WP.nil <| ?_
    refine WR.read (g := 1) [3, 7, 8, 10] (by kernel_rfl) (by kernel_rfl) (by kernel_rfl) (by kernel_rfl) rfl ?_
    refine WQ.val (v_load1 rfl rfl one_23 (cellAt (andK_val (by omega)))) (.none rfl) rfl rfl ?_
    refine WQ.val (v_load1 rfl rfl one_23 (cellAt (mtL_val n (by omega)))) (.none rfl) rfl rfl ?_
    refine WQ.val (v_or rfl rfl rfl (bits_or_u64 a1.1 a1.2 b1.1 b1.2)) (.none rfl) rfl rfl ?_
    refine WQ.val (v_indexAddrA (lo := k) rfl rfl rfl Tryz.underlying108 sz_23 (by omega) (by omega)) (.none rfl) rfl rfl ?_
    refine WQ.nilR ?_
    refine WR.ones (g := 0) [11] (by kernel_rfl) ?_
    refine WL.store1 rfl rfl rfl rfl one_23 (by rw [mtL_len]; omega) (.none rfl) rfl ?_
    refine WL.nilR ?_
    refine WR.done (by kernel_rfl) ?_
    refine WE.then_n <| WC.orders mixed <| ?_
    refine WR.first (g := 5) [0, 1, 2, 4, 5, 6, 9] (by kernel_rfl) (by kernel_rfl) ?_
    refine WP.val (v_move rfl rfl) (.none rfl) rfl rfl <| WP.val (v_fieldAddr0 rfl rfl fld_115_1) (.none rfl) rfl rfl <| ?_
    refine WP.val (v_indexAddrA (lo := k) rfl rfl rfl Tryz.underlying108 sz_23 (by omega) (by omega)) (.none rfl) rfl rfl ?_
    refine WP.val (v_move rfl rfl) (.none rfl) rfl rfl <| WP.val (v_fieldAddr0 rfl rfl fld_115_1) (.none rfl) rfl rfl <| ?_
    refine WP.val (v_indexAddrA (lo := k) rfl rfl rfl Tryz.underlying108 sz_23 (by omega) (by omega)) (.none rfl) rfl rfl ?_
    refine WP.val (v_fieldAddr0 rfl rfl fld_115_1) (.none rfl) rfl rfl <| WP.nil <| ?_
    refine WR.read (g := 1) [3, 7, 8, 10] (by kernel_rfl) (by kernel_rfl) (by kernel_rfl) (by kernel_rfl) rfl ?_
    refine WQ.val (v_load1 rfl rfl one_23 (cellAt (by rw [List.getElem?_set_ne (by omega)]; exact andK_mask (by omega)))) (.none rfl) rfl rfl ?_
    refine WQ.val (v_load1 rfl rfl one_23 (cellAt (mtL_mask n (by omega)))) (.none rfl) rfl rfl ?_
    refine WQ.val (v_or rfl rfl rfl (bits_or_u64 a2.1 a2.2 b2.1 b2.2)) (.none rfl) rfl rfl ?_
    refine WQ.val (v_indexAddrA (lo := k) rfl rfl rfl Tryz.underlying108 sz_23 (by omega) (by omega)) (.none rfl) rfl rfl ?_
    refine WQ.nilR ?_
    refine WR.ones (g := 0) [11] (by kernel_rfl) ?_
    refine WL.store1 rfl rfl rfl rfl one_23 (by rw [List.length_set, mtL_len]; omega) (.none rfl) rfl ?_
    refine WL.nilR ?_
    refine WR.done (by kernel_rfl) ?_
    refine WE.block_n <| WE.then_n <| WC.region <| ?_
    refine WL.v (v_add rfl rfl rfl (w_i64 (by omega) (by omega))) rfl ?_
    refine WL.v (v_move rfl rfl) rfl <| WL.nil <| ?_
    refine WE.as (L' := [.row g4 (mtL mt0), .row g3 (mtL n), .row g2 (mtL (andK m n (k + 1)))]) (by rw [← andK_set (by omega)]) (WE.next (k + 1) (by omega) ⟨by omega, fun j hj => by
    by_cases e : j = k
    · subst e; exact Classical.not_not.1 h29
    · exact hok j (by omega)⟩ (.int rfl (by omega) (.cons rfl (.cons rfl (.cons rfl (.cons rfl .nil))))) (.refl _))
  ·
   refine WL.nt <| WC.seq <| WC.cond_f rfl <| WC.exit <| WE.then_exit <| WE.then_exit <| WE.block_hit <| WE.then_n <| WC.seq <| WC.region <| ?_
   obtain rfl : k = 9 := (by omega)
   have hyes : m.and n = some (m.both n) := (by unfold Mt.and; exact if_pos hok)
   have he : mtL (andK m n 9) = mtL (m.both n) := mtL_congr fun i hi => ⟨if_pos hi, if_pos hi⟩
   rw [he]
   refine WL.v (v_loadN rfl rfl many_115 rfl allAt) rfl <| WL.storeW rfl rfl rfl rfl many_115 rfl rfl (.none rfl) rfl <| WL.v (v_assign rfl rfl) rfl <| WL.nt <| WC.ret <| WE.ret2 (P := Tryz.prog) (.inl rfl) Tryz.results135 (resRow rfl many_115 rfl) rfl <| ?_
   exact fun w' h => ⟨by rw [hyes]; rfl, h.frm⟩
theorem MWithout_c (w : World) (m : Mt) (k : Nat) (hk : k < 9) :
    Calls Tryz.prog 196 #[mtV m, .int .i64 k] w fun e w' => e = .returned (mtV (m.without k)) ∧ Frm (fun _ => False) w w' := by
  refine enter Tryz.func196 rfl Tryz.ntmps196 rfl (St.start (fun _ => False) w) ?_
  refine WC.seq <| WC.region <| WL.box rfl rfl rfl (.none rfl) rfl rfl <| ?_
  intro g2 hg2
  refine WL.alloc rfl zero_115 (.none rfl) rfl rfl ?_
  intro g4 hg4
  refine WL.nt <| WC.seq <| WC.seq <| WC.region <| WL.v (v_move rfl rfl) rfl <| WL.call rfl rfl ck_171 (.none rfl) rfl rfl <| ?_
  intro w hS
  refine Calls.then (MField_c w k hk) hS ?_
  refine WL.nt <| WC.cond_t rfl <| WC.seq <| WC.region <| WL.v (v_move rfl rfl) rfl <| WL.v (v_fieldAddr0 rfl rfl fld_115_0) rfl <| ?_
  refine WL.v (v_indexAddrA (lo := k) rfl rfl rfl Tryz.underlying108 sz_23 (by omega) (by omega)) rfl ?_
  refine WL.store1 rfl rfl rfl rfl one_23 (by rw [mtL_len]; omega) (.none rfl) rfl ?_
  refine WL.as (L' := [.row g4 (mtL mt0), .row g2 (mtL ⟨fun i => if i = k then 0 else m.val i, m.mask⟩)]) (by rw [mtL_setVal hk]; rfl) ?_
  refine WL.nt <| WC.region <| WL.v (v_move rfl rfl) rfl <| WL.v (v_fieldAddr0 rfl rfl fld_115_1) rfl <| ?_
  refine WL.v (v_indexAddrA (lo := k) rfl rfl rfl Tryz.underlying108 sz_23 (by omega) (by omega)) rfl ?_
  refine WL.store1 rfl rfl rfl rfl one_23 (by rw [mtL_len]; omega) (.none rfl) rfl ?_
  refine WL.as (L' := [.row g4 (mtL mt0), .row g2 (mtL (m.without k))]) (by rw [mtL_setMask hk]; rfl) ?_
  refine WL.nt <| WC.seq <| WC.region <| WL.v (v_loadN rfl rfl many_115 rfl allAt) rfl <| WL.storeW rfl rfl rfl rfl many_115 rfl rfl (.none rfl) rfl <| WL.nt <| WC.ret <| WE.ret1 (P := Tryz.prog) (.inl rfl) Tryz.results196 (resRow rfl many_115 rfl) <| ?_
  exact fun w' h => ⟨rfl, h.frm⟩
/-! ### Matches as keys -/
theorem mtL_iff {a b : Mt} : mtL a = mtL b ↔ a.eqv b := by
  refine ⟨fun h k hk => ⟨?_, ?_⟩, mtL_congr⟩
  · have := congrArg (fun l => l[0 + k * 1]?) h
    have this : (mtL a)[0 + k * 1]? = (mtL b)[0 + k * 1]? := this
    rw [mtL_val a hk, mtL_val b hk] at this
    injection this with this
    injection this
  · have := congrArg (fun l => l[9 + k * 1]?) h
    have this : (mtL a)[9 + k * 1]? = (mtL b)[9 + k * 1]? := this
    rw [mtL_mask a hk, mtL_mask b hk] at this
    injection this with this
    injection this
theorem mtV_iff {a b : Mt} : mtV a = mtV b ↔ a.eqv b := by
  rw [← mtL_iff]
  unfold mtV
  constructor
  · intro h
    injection h with h
    exact List.toArray_inj h
  · intro h; rw [h]
end Go.Proofs.YtkeonnnhogaggaaGreatDoor
/- pile: as it lies; New, List; Covers. -/
namespace Go.Proofs.YtkeonnnhogaggaaGreatDoor
open Go.RowKit

structure PlL where
  mr : Int
  ma : Int
  ad : Option Addr
  c : Nat
  ls : List RuL
  mad : Option Addr
  mc : Nat
  ms : List (Nat → Int)
  hv : Option Nat
  es : Array MapEntry
  cl : Nat
abbrev masksL (ms : List (Nat → Int)) : List Value := encL (fun f => ucs f 9) ms
theorem masksL_len (ms : List (Nat → Int)) : (masksL ms).length = ms.length * 9 := encL_len (fun f => ucs_len f 9) ms
def PlL.ds (p : PlL) : List RuD := p.ls.map RuL.d
def PlL.d (p : PlL) : PlD := ⟨p.mr, p.ma, p.ds⟩
def PlL.cells (p : PlL) : List Value := [.int .i64 p.mr, .int .i64 p.ma, .slice p.ad p.ls.length p.c, .slice p.mad p.ms.length p.mc, .map p.hv, .int .i64 ((sumA p.ds : Nat) : Int)]
open Classical in
/-- The matches that are there, as a map's entries. -/
noncomputable def haveM (ds : List RuD) : Value → Option Value := fun v => if ∃ r ∈ ds, v = mtV r.m then some (.agg #[]) else none
theorem haveM_add (ds : List RuD) (m : Mt) (us : List Ac) : updM (haveM ds) (mtV m) (some (.agg #[])) = haveM (ds ++ [⟨m, us⟩]) := by
  funext v
  by_cases h : v = mtV m
  · subst h
    rw [updM_eq]
    exact (if_pos ⟨_, List.mem_append_right _ (List.mem_singleton.2 rfl), rfl⟩).symm
  · rw [updM_ne _ _ h]
    unfold haveM
    by_cases h2 : ∃ r ∈ ds, v = mtV r.m
    · obtain ⟨r, hr, e⟩ := h2
      rw [if_pos ⟨r, hr, e⟩, if_pos ⟨r, List.mem_append_left _ hr, e⟩]
    · rw [if_neg h2, if_neg]
      rintro ⟨r, hr, e⟩
      rcases List.mem_append.1 hr with hr | hr
      · exact h2 ⟨r, hr, e⟩
      · rw [List.mem_singleton.1 hr] at e; exact h e
theorem haveM_nil : haveM [] = fun _ => none := by
  funext v
  exact if_neg (by simp)
theorem haveM_is {ds : List RuD} {m : Mt} : (haveM ds (mtV m)).isSome = true ↔ ∃ r ∈ ds, m.eqv r.m := by
  unfold haveM
  by_cases h : ∃ r ∈ ds, mtV m = mtV r.m
  · rw [if_pos h]
    obtain ⟨r, hr, e⟩ := h
    exact ⟨fun _ => ⟨r, hr, mtV_iff.1 e⟩, fun _ => rfl⟩
  · rw [if_neg h]
    exact ⟨fun k => (by cases k), fun ⟨r, hr, e⟩ => absurd ⟨r, hr, mtV_iff.2 e⟩ h⟩
theorem haveM_get (ds : List RuD) (v : Value) : (haveM ds v).getD (.agg #[]) = .agg #[] := by
  unfold haveM
  split <;> rfl
section
variable {P : Program} {C : World → Prop} {n : Nat} {o : Oper} {l : Kn}
/-- Is a match there? -/
theorem v_have {t kt et : TypeId} {x xi : Operand} {r : Option Nat} {A : Value} {K : Value → Prop} {es : Array MapEntry} {ds : List RuD} (ho : o.op = .lookup t x xi true) (hx : ev l x = some (.map r)) (hi : ev l xi = some A) (hu : P.underlying t = some (.map kt et)) (hk : KeyP P kt K) (hA : K A) (hz : (P.info? et).bind (·.zero) = some (.agg #[]))
    (hV : ∀ w, C w → MapW w r es) (hM : IMap K es (haveM ds)) : Val P C n l o (.tuple #[.agg #[], .bool (haveM ds A).isSome]) := by
  have := v_lookup2 (C := C) (n := n) ho hx hi hu hk hA hz hV hM
  rwa [haveM_get] at this
end
structure PlL.Ok (p : PlL) : Prop where
  fit : ∀ r ∈ p.ds, r.Fit
  mask : ∀ r ∈ p.ds, ∃ f ∈ p.ms, ∀ k, k < 9 → f k = r.m.mask k
  num : ∀ f ∈ p.ms, ∀ k, 0 ≤ f k ∧ f k ≤ 18446744073709551615
  keys : IMap KMt p.es (haveM p.ds)
/-- A pile that can be read. -/
structure PlR (w : World) (g : Nat) (p : PlL) : Prop where
  row : w.rangeAt g 0 p.cells
  masks : Rg w p.mad (masksL p.ms)
  map : MapW w p.hv p.es
theorem PNew_c (w : World) (mr ma : Int) : Calls Tryz.prog 134 #[.agg #[.int .i64 mr, .int .i64 ma]] w fun e w' => ∃ g, e = .returned (.pointer (some ⟨g, 0, none⟩)) ∧ St (fun _ => False) w w' [.row g (PlL.cells ⟨mr, ma, none, 0, [], none, 0, [], none, #[], 0⟩)] := by
  refine enter Tryz.func134 rfl Tryz.ntmps134 rfl (St.start (fun _ => False) w) ?_
  refine WC.seq <| WC.region <| WL.box rfl rfl rfl (.none rfl) rfl rfl <| ?_
  intro g1 hg1
  refine WL.v (v_assign rfl rfl) rfl <| WL.nt <| WC.seq <| WC.region <| WL.v (v_loadN rfl rfl many_194 rfl allAt) rfl <| WL.v (v_build rfl rfl zero_234 plc_234 rfl) rfl <| WL.box rfl rfl rfl (.none rfl) rfl rfl <| ?_
  intro g5 hg5
  refine WL.v (v_assign rfl rfl) rfl <| WL.nt <| WC.ret <| WE.ret1 (P := Tryz.prog) (.inl rfl) Tryz.results134 rfl <| ?_
  exact fun w' h => ⟨g5, rfl, h.sub (.cons_cons _ (.cons _ (.refl _)))⟩
theorem Vec.srcM {s k c : Nat} {ad : Option Addr} {xs : List Value} {E L : List Ent} (hV : Vec s ad k c xs E) (hm : ∀ e ∈ E, e ∈ L) (hn : 0 < xs.length) : ∃ b o, ad = some ⟨b, o, none⟩ ∧ ∀ (p : Nat → Prop) (w0 w : World), St p w0 w L → w.rangeAt b o xs := by
  rcases hV with ⟨_, _, _, rfl, _⟩ | ⟨g, cs, rfl, rfl, hx, hcl, hk⟩
  · simp at hn
  · refine ⟨g, 0, rfl, fun p w0 w hS j v hj => ?_⟩
    have hR : Row w g cs := hS.holds (.row g cs) (hm _ (List.mem_cons_self ..))
    rw [← hx, List.getElem?_take] at hj
    split at hj
    · rw [Nat.zero_add]; exact hR.cell hj
    · cases hj
/-- A key as it grows. -/
def keyK (m : Mt) (f : Nat → Int) (k : Nat) : Mt := ⟨fun i => if i < k then andN (m.val i) (f i) else 0, f⟩
theorem keyK_set {m : Mt} {f : Nat → Int} {k : Nat} (hk : k < 9) : (mtL (keyK m f k)).set (0 + k * 1) (.int .u64 (andN (m.val k) (f k))) = mtL (keyK m f (k + 1)) := by
  rw [mtL_setVal hk]
  refine mtL_congr fun i hi => ⟨?_, rfl⟩
  show (if i = k then _ else (if i < k then _ else _)) = (if i < k + 1 then _ else _)
  by_cases e : i = k
  · subst e; rw [if_pos rfl, if_pos (by omega)]
  · rw [if_neg e]
    by_cases e2 : i < k
    · rw [if_pos e2, if_pos (by omega)]
    · rw [if_neg e2, if_neg (by omega)]
theorem keyK_in {m : Mt} {f : Nat → Int} (hm : m.In) (hf : ∀ k, 0 ≤ f k ∧ f k ≤ 18446744073709551615) (k : Nat) : (keyK m f k).In :=
  ⟨fun i => by
    show 0 ≤ (if i < k then _ else _) ∧ (if i < k then _ else _) ≤ _
    split
    · exact andN_le (hm.val i).2
    · exact ⟨Int.le_refl _, by decide⟩, hf⟩
theorem over_key {r m : Mt} {f : Nat → Int} (hf : ∀ k, k < 9 → f k = r.mask k) (hn : ∀ k, k < 9 → andNotN (f k) (m.mask k) = 0) : r.over m ↔ (keyK m f 9).eqv r := by
  constructor
  · intro h k hk
    refine ⟨?_, hf k hk⟩
    show (if k < 9 then andN (m.val k) (f k) else 0) = _
    rw [if_pos hk, hf k hk]
    exact (h k hk).2.symm
  · intro h k hk
    refine ⟨by rw [← hf k hk]; exact hn k hk, ?_⟩
    have h1 : (if k < 9 then andN (m.val k) (f k) else 0) = r.val k := (h k hk).1
    rw [if_pos hk, hf k hk] at h1
    exact h1.symm
theorem eqv_symm {a b : Mt} (h : a.eqv b) : b.eqv a := fun k hk => ⟨(h k hk).1.symm, (h k hk).2.symm⟩
set_option maxRecDepth 8000 in
set_option maxHeartbeats 2000000 in
theorem Covers_c (w : World) (g : Nat) (p : PlL) (m : Mt) (hR : PlR w g p) (hO : p.Ok) (hm : m.In) (hn : p.ms.length ≤ 1000000000) :
    Calls Tryz.prog 136 #[.pointer (some ⟨g, 0, none⟩), mtV m] w fun e w' => e = .returned (.bool (decide (covD p.ds m))) ∧ Frm (fun _ => False) w w' := by
  have hK := KMt.mk hm
  refine enter Tryz.func136 rfl Tryz.ntmps136 rfl (St.start (fun _ => False) w) ?_
  refine WC.seq <| WC.region <| WL.box rfl rfl rfl (.none rfl) rfl rfl <| ?_
  intro g3 hg3
  refine WL.v (v_assign rfl rfl) rfl <| WL.nt <| WC.scope <| WC.seq <| WC.seq <| WC.orders mixed <| ?_
  refine WR.first (g := 9) [0, 1, 2] (by kernel_rfl) (by kernel_rfl) ?_
  refine WP.val (v_move rfl rfl) (.none rfl) rfl rfl <| WP.val (v_nilCheck rfl rfl) (.none rfl) rfl rfl <| WP.val (v_fieldAddr0 rfl rfl fld_234_3) (.none rfl) rfl rfl <| WP.nil <| ?_
  refine WR.mix (g := 2) 9 [3, 4, 5, 6, 7] [8] rfl zero_162 rfl rfl rfl (by kernel_rfl) (by kernel_rfl) ?_
  refine WM.val (v_load1 rfl rfl one_232 (cellOld (fun h => h) (hR.row 4 _ rfl))) (.none rfl) rfl rfl <| WM.val (v_loadN rfl rfl many_115 rfl allAt) (.none rfl) rfl rfl <| WM.val (v_have rfl rfl rfl Tryz.underlying232 keyW_115 hK rfl (mapOld (fun _ h => h) hR.map) hO.keys) (.none rfl) rfl rfl <| WM.val (v_move rfl rfl) (.none rfl) rfl rfl <| WM.val (v_extract rfl rfl rfl) (.none rfl) rfl rfl <| WM.nil <| WP.val (v_extract rfl rfl rfl) (.none rfl) rfl rfl <| WP.nilM <| ?_
  intro g5 hg5
  refine WR.ones (g := 1) [10] (by kernel_rfl) ?_
  refine WL.storeW rfl rfl rfl rfl many_162 rfl rfl (.none rfl) rfl <| WL.nilR <| ?_
  refine WR.first (g := 0) [11] (by kernel_rfl) (by kernel_rfl) ?_
  refine WP.val (v_assign rfl rfl) (.none rfl) rfl rfl <| WP.nil <| ?_
  refine WR.done (by kernel_rfl) ?_
  refine WE.then_n <| WC.seq <| WC.region <| WL.v (v_move rfl rfl) rfl <| WL.nt <| ?_
  refine WC.cond_b rfl (fun h23 => ?_) (fun h23 => ?_)
  ·
   refine WC.seq <| WC.region <| WL.v (v_assign rfl rfl) rfl <| WL.nt <| WC.ret <| WE.then_ret <| WE.scope_ret <| WE.ret1 (P := Tryz.prog) (.inl rfl) Tryz.results136 rfl <| ?_
   obtain ⟨r, hr, he⟩ := haveM_is.1 h23
   exact fun w' h => ⟨by rw [decide_eq_true (p := covD p.ds m) ⟨r, hr, .inl (eqv_symm he)⟩], h.frm⟩
  ·
   refine WC.skip <| WE.then_n <| WC.seq <| WC.label <| WE.then_n <| WC.seq <| WC.seq <| WC.region <| ?_
   have hne : ∀ r ∈ p.ds, ¬ r.m.eqv m := fun r hr he => (by
   have := haveM_is.2 ⟨r, hr, eqv_symm he⟩
   cases (h23.symm.trans this))
   refine WL.v (v_move rfl rfl) rfl <| WL.v (v_nilCheck rfl rfl) rfl <| WL.v (v_fieldAddr0 rfl rfl fld_234_2) rfl <| WL.v (v_load1 rfl rfl one_231 (cellOld (fun h => h) (hR.row 3 _ rfl))) rfl <| WL.v (v_len_slice rfl rfl Tryz.underlying231) rfl <| WL.v (v_move rfl rfl) rfl <| WL.nt <| WC.block <| ?_
   refine WC.loop (fun i : Nat => [(29, .int .i64 i), (28, .int .i64 p.ms.length), (27, .slice p.mad p.ms.length p.mc), (3, .pointer (some ⟨g3, 0, none⟩)), (0, .pointer (some ⟨g, 0, none⟩)), (4, .bool false)]) (fun _ => [.row g3 (mtL m)]) (fun i => i ≤ p.ms.length ∧ ∀ j f, j < i → p.ms[j]? = some f → ∀ r ∈ p.ds, (∀ k, k < 9 → f k = r.m.mask k) → ¬ r.m.over m) (fun i => p.ms.length - i) 0 ⟨Nat.zero_le _, fun j f h => absurd h (Nat.not_lt_zero _)⟩ (.cons rfl (.cons rfl (.cons rfl (.cons rfl (.cons rfl (.cons rfl .nil)))))) (by first | exact .refl _ | exact List.Sublist.cons _ (.refl _)) ?_
   rintro i ⟨hi, hno⟩
   refine WC.seq <| WC.region <| ?_
   refine WL.test (v_lss rfl rfl rfl) (.none rfl) rfl rfl (fun h30 => ?_) (fun h30 => ?_)
   ·
    refine WL.nt <| WC.seq <| WC.cond_t rfl <| WC.skip <| WE.then_n <| WC.seq <| WC.block <| WC.seq <| WC.region <| ?_
    obtain ⟨f, hfi⟩ : ∃ x, p.ms[i]? = some x := ⟨p.ms[i]'(by omega), List.getElem?_eq_getElem _⟩
    have hfn := hO.num f (List.mem_of_getElem? hfi)
    obtain ⟨b1, o1, ea1, r1⟩ := hR.masks (by intro hh; have := masksL_len p.ms; rw [hh] at this; simp at this; omega)
    refine WL.v ((v_indexAddr (b := b1) (off := o1) (lo := i) rfl (by show some (Value.slice p.mad _ _) = _; rw [ea1]) rfl Tryz.underlying231 sz_108 rfl (by omega))) rfl ?_
    refine WL.v (v_loadN (cs := ucs f 9) rfl rfl many_108 (ucs_len f 9) (rgIn (fun h => h) (Rg.seg (fun f => ucs_len f 9) r1 hfi))) rfl <| WL.alloc rfl zero_108 (.none rfl) rfl rfl <| ?_
    intro g8 hg8
    refine WL.storeW rfl rfl rfl rfl many_108 rfl rfl (.none rfl) rfl <| WL.nt <| WC.seq <| WC.region <| WL.v (v_loadN rfl rfl many_108 rfl allAt) rfl <| WL.v (v_build rfl rfl zero_115 plc_115 rfl) rfl <| WL.alloc rfl zero_115 (.none rfl) rfl rfl <| ?_
    intro g9 hg9
    refine WL.storeW rfl rfl rfl rfl many_115 rfl rfl (.none rfl) rfl ?_
    refine WL.as (L' := [.row g9 (mtL (keyK m f 0)), .row g8 (ucs f 9), .row g3 (mtL m)]) (by first | rfl | kernel_rfl) ?_
    refine WL.nt <| WC.seq <| WC.seq <| WC.region <| WL.v (v_loadN rfl rfl many_108 rfl allAt) rfl <| WL.v (v_move rfl rfl) rfl <| WL.nt <| WC.block <| WC.loop (fun k : Nat => [(36, .int .i64 k), (35, .agg (ucs f 9).toArray), (9, .pointer (some ⟨g9, 0, none⟩)), (29, .int .i64 i), (28, .int .i64 p.ms.length), (27, .slice p.mad p.ms.length p.mc), (3, .pointer (some ⟨g3, 0, none⟩)), (0, .pointer (some ⟨g, 0, none⟩)), (4, .bool false)]) (fun k => [.row g9 (mtL (keyK m f k)), .row g8 (ucs f 9), .row g3 (mtL m)]) (fun k => k ≤ 9 ∧ ∀ j, j < k → andNotN (f j) (m.mask j) = 0) (fun k => 9 - k) 0 ⟨Nat.zero_le _, fun j h => absurd h (Nat.not_lt_zero _)⟩ (.cons rfl (.cons rfl (.cons rfl (.cons rfl (.cons rfl (.cons rfl (.cons rfl (.cons rfl (.cons rfl .nil))))))))) (.refl _) <| ?_
    rintro k ⟨hk, hz⟩
    refine WC.seq <| WC.region <| ?_
    refine WL.test (v_lss rfl rfl rfl) (.none rfl) rfl rfl (fun h37 => ?_) (fun h37 => ?_)
    ·
     refine WL.nt <| WC.seq <| WC.cond_t rfl <| WC.skip <| WE.then_n <| WC.seq <| WC.block <| WC.seq <| WC.region <| WL.v (v_move rfl rfl) rfl <| ?_
     refine WL.v (v_indexV (lo := k) rfl rfl rfl Tryz.underlying108 one_23 (by omega) (by omega) (ucs_get f (by omega))) rfl ?_
     refine WL.v (v_assign rfl rfl) rfl <| WL.v (v_assign rfl rfl) rfl <| WL.nt <| WC.seq <| WC.seq <| WC.region <| WL.v (v_move rfl rfl) rfl <| WL.v (v_move rfl rfl) rfl <| WL.v (v_fieldAddr0 rfl rfl fld_115_1) rfl <| ?_
     refine WL.v (v_indexAddrA (lo := k) rfl rfl rfl Tryz.underlying108 sz_23 (by omega) (by omega)) rfl ?_
     refine WL.v (v_load1 rfl rfl one_23 (cellAt (mtL_mask m (by omega)))) rfl ?_
     refine WL.v (v_andNot rfl rfl rfl (bits_andNot_u64 (hfn k).1 (hfn k).2 (hm.mask k).1 (hm.mask k).2)) rfl ?_
     refine WL.test (v_neq rfl rfl rfl) (.none rfl) rfl rfl (fun h46 => ?_) (fun h46 => ?_)
     ·
      refine WL.nt <| WC.cond_t rfl <| WC.exit <| WE.then_exit <| WE.block_miss rfl <| WE.then_exit <| WE.then_exit <| WE.block_miss rfl <| WE.then_exit <| WE.block_hit <| WE.then_n <| WC.region <| ?_
      refine WL.v (v_add rfl rfl rfl (w_i64 (by omega) (by omega))) rfl ?_
      refine WL.v (v_move rfl rfl) rfl <| WL.nil <| ?_
      exact WE.next (i + 1) (by omega) ⟨by omega, fun j f2 hj hf2 r hr hq hov => by
      by_cases e : j = i
      · subst e
        rw [hfi] at hf2
        cases hf2
        have := (hov k (by omega)).1
        rw [← hq k (by omega)] at this
        exact h46 this
      · exact hno j f2 (by omega) hf2 r hr hq hov⟩ (.int rfl (by omega) (.cons rfl (.cons rfl (.cons rfl (.cons rfl (.cons rfl .nil)))))) (.cons _ (.cons _ (.refl _)))
     ·
      refine WL.nt <| WC.cond_f rfl <| WC.skip <| WE.then_n <| WC.region <| WL.v (v_move rfl rfl) rfl <| WL.v (v_move rfl rfl) rfl <| WL.v (v_fieldAddr0 rfl rfl fld_115_0) rfl <| ?_
      refine WL.v (v_indexAddrA (lo := k) rfl rfl rfl Tryz.underlying108 sz_23 (by omega) (by omega)) rfl ?_
      refine WL.v (v_load1 rfl rfl one_23 (cellAt (mtL_val m (by omega)))) rfl ?_
      refine WL.v (v_move rfl rfl) rfl <| WL.v (v_and rfl rfl rfl (bits_and_u64 (hm.val k).1 (hm.val k).2 (hfn k).1 (hfn k).2)) rfl <| WL.v (v_fieldAddr0 rfl rfl fld_115_0) rfl <| ?_
      refine WL.v (v_indexAddrA (lo := k) rfl rfl rfl Tryz.underlying108 sz_23 (by omega) (by omega)) rfl ?_
      refine WL.store1 rfl rfl rfl rfl one_23 (by rw [mtL_len]; omega) (.none rfl) rfl ?_
      refine WL.nil <| WE.block_n <| WE.then_n <| WC.region <| ?_
      refine WL.v (v_add rfl rfl rfl (w_i64 (by omega) (by omega))) rfl ?_
      refine WL.v (v_move rfl rfl) rfl <| WL.nil <| ?_
      refine WE.as (L' := [.row g9 (mtL (keyK m f (k + 1))), .row g8 (ucs f 9), .row g3 (mtL m)]) (by rw [← keyK_set (by omega)]) (WE.next (k + 1) (by omega) ⟨by omega, fun j hj => by
      by_cases e : j = k
      · subst e; exact Classical.not_not.1 h46
      · exact hz j (by omega)⟩ (.int rfl (by omega) (.cons rfl (.cons rfl (.cons rfl (.cons rfl (.cons rfl (.cons rfl (.cons rfl (.cons rfl .nil))))))))) (.refl _))
    ·
     refine WL.nt <| WC.seq <| WC.cond_f rfl <| WC.exit <| WE.then_exit <| WE.then_exit <| WE.block_hit <| WE.then_n <| WC.seq <| WC.orders mixed <| ?_
     refine WR.first (g := 9) [0, 1, 2] (by kernel_rfl) (by kernel_rfl) ?_
     obtain rfl : k = 9 := (by omega)
     have hK2 := KMt.mk (keyK_in hm hfn 9)
     refine WP.val (v_move rfl rfl) (.none rfl) rfl rfl <| WP.val (v_nilCheck rfl rfl) (.none rfl) rfl rfl <| WP.val (v_fieldAddr0 rfl rfl fld_234_3) (.none rfl) rfl rfl <| WP.nil <| ?_
     refine WR.mix (g := 2) 9 [3, 4, 5, 6, 7] [8] rfl zero_162 rfl rfl rfl (by kernel_rfl) (by kernel_rfl) ?_
     refine WM.val (v_load1 rfl rfl one_232 (cellOld (fun h => h) (hR.row 4 _ rfl))) (.none rfl) rfl rfl <| WM.val (v_loadN rfl rfl many_115 rfl allAt) (.none rfl) rfl rfl <| WM.val (v_have rfl rfl rfl Tryz.underlying232 keyW_115 hK2 rfl (mapOld (fun _ h => h) hR.map) hO.keys) (.none rfl) rfl rfl <| WM.val (v_move rfl rfl) (.none rfl) rfl rfl <| WM.val (v_extract rfl rfl rfl) (.none rfl) rfl rfl <| WM.nil <| WP.val (v_extract rfl rfl rfl) (.none rfl) rfl rfl <| WP.nilM <| ?_
     intro g12 hg12
     refine WR.ones (g := 1) [10] (by kernel_rfl) ?_
     refine WL.storeW rfl rfl rfl rfl many_162 rfl rfl (.none rfl) rfl <| WL.nilR <| ?_
     refine WR.first (g := 0) [11] (by kernel_rfl) (by kernel_rfl) ?_
     refine WP.val (v_assign rfl rfl) (.none rfl) rfl rfl <| WP.nil <| ?_
     refine WR.done (by kernel_rfl) ?_
     refine WE.then_n <| WC.seq <| WC.region <| WL.v (v_move rfl rfl) rfl <| WL.nt <| ?_
     refine WC.cond_b rfl (fun h66 => ?_) (fun h66 => ?_)
     ·
      refine WC.seq <| WC.region <| WL.v (v_assign rfl rfl) rfl <| WL.nt <| WC.ret <| WE.block_ret <| WE.then_ret <| WE.then_ret <| WE.block_ret <| WE.then_ret <| WE.scope_ret <| WE.ret1 (P := Tryz.prog) (.inl rfl) Tryz.results136 rfl <| ?_
      obtain ⟨r, hr, he⟩ := haveM_is.1 h66
      have hq : ∀ k, k < 9 → f k = r.m.mask k := fun k hk => (he k hk).2
      exact fun w' h => ⟨by rw [decide_eq_true (p := covD p.ds m) ⟨r, hr, .inr ((over_key hq hz).2 he)⟩], h.frm⟩
     ·
      refine WC.skip <| WE.block_n <| WE.then_n <| WC.region <| ?_
      refine WL.v (v_add rfl rfl rfl (w_i64 (by omega) (by omega))) rfl ?_
      refine WL.v (v_move rfl rfl) rfl <| WL.nil <| ?_
      exact WE.next (i + 1) (by omega) ⟨by omega, fun j f2 hj hf2 r hr hq hov => by
      by_cases e : j = i
      · subst e
        rw [hfi] at hf2
        cases hf2
        have := haveM_is.2 ⟨r, hr, (over_key hq hz).1 hov⟩
        cases (h66.symm.trans this)
      · exact hno j f2 (by omega) hf2 r hr hq hov⟩ (.int rfl (by omega) (.cons rfl (.cons rfl (.cons rfl (.cons rfl (.cons rfl .nil)))))) (by first | exact .cons _ (.cons _ (.refl _)) | exact .cons _ (.cons _ (.cons _ (.refl _))))
   ·
    refine WL.nt <| WC.seq <| WC.cond_f rfl <| WC.exit <| WE.then_exit <| WE.then_exit <| WE.block_hit <| WE.then_n <| WC.seq <| WC.region <| WL.v (v_assign rfl rfl) rfl <| WL.nt <| WC.ret <| WE.scope_ret <| ?_
    refine WE.ret1 (P := Tryz.prog) (.inl rfl) Tryz.results136 rfl ?_
    exact fun w' h => ⟨by
    rw [decide_eq_false]
    rintro ⟨r, hr, he | ho⟩
    · exact hne r hr he
    · obtain ⟨f, hf, hq⟩ := hO.mask r hr
      obtain ⟨j, hj⟩ := List.mem_iff_getElem?.1 hf
      have := (List.getElem?_eq_some_iff.1 hj).1
      exact hno j f (by omega) hj r hr hq ho, h.frm⟩
end Go.Proofs.YtkeonnnhogaggaaGreatDoor
/- pile.Pile.Add: a rule more. -/
namespace Go.Proofs.YtkeonnnhogaggaaGreatDoor
open Go.RowKit

/-- A pile and the blocks in which it lies: its rules, its masks, its map, the rules' acts. -/
structure PlAt (p : PlL) (E Em H K : List Ent) : Prop where
  out : Vec 19 p.ad p.ls.length p.c (rulesL p.ls) E
  masks : Vec 9 p.mad p.ms.length p.mc (masksL p.ms) Em
  map : (p.hv = none ∧ p.es = #[] ∧ H = []) ∨ ∃ gm, p.hv = some gm ∧ H = [.obj gm (.map p.es p.cl)]
  own : ∀ r ∈ p.ls, RuOwn K r
  ok : p.Ok
  room : p.ms.length ≤ p.ls.length ∧ (p.ls.length : Int) ≤ p.mr ∧ p.mr ≤ 4194304 ∧ ((sumA p.ds : Nat) : Int) ≤ p.ma ∧ p.ma ≤ 16777216
theorem PlAt.r {p : PlL} {E Em H K L : List Ent} {g : Nat} (h : PlAt p E Em H K) {q : Nat → Prop} {w0 w : World} (hS : St q w0 w L) (h0 : Ent.row g p.cells ∈ L) (h1 : ∀ e ∈ Em, e ∈ L) (h2 : ∀ e ∈ H, e ∈ L) : PlR w g p :=
  ⟨fun j v hj => by rw [Nat.zero_add]; exact (show Row w g p.cells from hS.holds _ h0).cell hj, h.masks.rg fun e he => hS.holds e (h1 e he), by
    rcases h.map with ⟨e1, e2, -⟩ | ⟨gm, e1, e2⟩
    · exact .inl ⟨e1, e2⟩
    · exact .inr ⟨gm, p.cl, e1, (hS.holds (.obj gm (.map p.es p.cl)) (h2 _ (by rw [e2]; exact List.mem_singleton.2 rfl))).1⟩⟩
theorem PlAt.new (mr ma : Int) (h : 0 ≤ mr ∧ mr ≤ 4194304) (h2 : 0 ≤ ma ∧ ma ≤ 16777216) : PlAt ⟨mr, ma, none, 0, [], none, 0, [], none, #[], 0⟩ [] [] [] [] :=
  ⟨Vec.nil 19, Vec.nil 9, .inl ⟨rfl, rfl, rfl⟩, fun r h => (by cases h), ⟨fun r h => (by cases h), fun r h => (by cases h), fun r h => (by cases h), by
    show IMap KMt #[] (haveM [])
    rw [haveM_nil]
    exact IMap.empty _⟩, Nat.le_refl _, h.1, h.2, h2.1, h2.2⟩
theorem RuOwn.more {K K' : List Ent} {r : RuL} (h : RuOwn K r) : RuOwn (K' ++ K) r := h.sub fun _ hx => List.mem_append_right _ hx
structure AdS where
  gm : Nat
  es : Array MapEntry
  cl : Nat
structure AdU where
  ad : Option Addr
  c : Nat
  E : List Ent
structure AdT where
  mad : Option Addr
  mc : Nat
  ms : List (Nat → Int)
  Em : List Ent
def addC (p : PlL) (gm : Nat) : List Value := [.int .i64 p.mr, .int .i64 p.ma, .slice p.ad p.ls.length p.c, .slice p.mad p.ms.length p.mc, .map (some gm), .int .i64 ((sumA p.ds : Nat) : Int)]
def addC2 (p : PlL) (gm : Nat) (mad : Option Addr) (mn mc : Nat) : List Value := [.int .i64 p.mr, .int .i64 p.ma, .slice p.ad p.ls.length p.c, .slice mad mn mc, .map (some gm), .int .i64 ((sumA p.ds : Nat) : Int)]
set_option maxRecDepth 8000 in
set_option maxHeartbeats 4000000 in
theorem Add_c {q : Nat → Prop} {w0 w : World} {L E Em H K : List Ent} (g : Nat) (p : PlL) (m : Mt) (aad : Option Addr) (ac : Nat) (us : List Ac) (hA : PlAt p E Em H K) (hS : St q w0 w (.row g p.cells :: (E ++ (Em ++ (H ++ (K ++ L)))))) (hm : m.In) (hz : m.Nz) (hu : ∀ w, St q w0 w (.row g p.cells :: (E ++ (Em ++ (H ++ (K ++ L))))) → Rg w aad (actsL us)) (hus : ∀ a ∈ us, a.In ∧ a.Nz ∧ a.Ok) (hn : us.length ≤ 100000) :
    Calls Tryz.prog 137 #[.pointer (some ⟨g, 0, none⟩), mtV m, .slice aad us.length ac] w fun e w' => ∃ (b : Bool) (p' : PlL) (E' Em' H' K' : List Ent), e = .returned (.bool b) ∧ (b = true → p.d.add m us = some p'.d) ∧ (b = false → p.d.add m us = none ∧ p'.d = p.d) ∧ PlAt p' E' Em' H' K' ∧ St q w0 w' (.row g p'.cells :: (E' ++ (Em' ++ (H' ++ (K' ++ L))))) := by
  obtain ⟨rm1, rm2, rm3, rm4, rm5⟩ := hA.room
  have hK := KMt.mk hm
  refine enter Tryz.func137 rfl Tryz.ntmps137 rfl hS ?_
  refine WC.seq <| WC.region <| WL.box rfl rfl rfl (.none rfl) rfl rfl <| ?_
  intro g4 hg4
  refine WL.v (v_assign rfl rfl) rfl <| WL.nt <| WC.seq <| WC.region <| WL.v (v_move rfl rfl) rfl <| WL.call rfl rfl ck_49 (.none rfl) rfl rfl <| ?_
  intro w1 hS
  refine (Norm_c w1 aad ac us (hu w1 hS.tail) (fun a ha => (hus a ha).2.1) hn).mono ?_
  rintro e w' ⟨adn, cn, En, ys, rfl, hP, hyl, hVn, hS'⟩
  have hys : normF us = ys := normF_of (fun a ha => (hus a ha).2.1) hP
  have hdl : (p.d.out.length : Int) = p.ls.length := (by show ((p.ls.map RuL.d).length : Int) = _; rw [List.length_map])
  refine ⟨_, _, rfl, hS.join hS', ?_⟩
  refine WL.v (v_assign rfl rfl) rfl <| WL.nt <| WC.seq <| WC.seq <| ?_
  refine WC.quiet mixed (by kernel_rfl) ?_
  refine WQ.val (v_move rfl rfl) (.none rfl) rfl rfl <| WQ.val (v_nilCheck rfl rfl) (.none rfl) rfl rfl <| WQ.val (v_fieldAddr0 rfl rfl fld_234_1) (.none rfl) rfl rfl <| WQ.val (v_load1 rfl rfl one_34 (cellAt (v := .slice p.ad p.ls.length p.c) rfl)) (.none rfl) rfl rfl <| WQ.val (v_len_slice rfl rfl Tryz.underlying34) (.none rfl) rfl rfl <| WQ.val (v_move rfl rfl) (.none rfl) rfl rfl <| WQ.val (v_nilCheck rfl rfl) (.none rfl) rfl rfl <| WQ.val (v_fieldAddr0 rfl rfl fld_234_0) (.none rfl) rfl rfl <| WQ.val (v_fieldAddr0 rfl rfl fld_194_0) (.none rfl) rfl rfl <| WQ.val (v_load1 rfl rfl one_3 (cellAt (v := .int .i64 p.mr) rfl)) (.none rfl) rfl rfl <| ?_
  refine WQ.test (v_geq rfl rfl rfl) (.none rfl) rfl rfl (fun h22 => ?_) (fun h22 => ?_)
  ·
   refine WQ.val (v_move rfl rfl) (.none rfl) rfl rfl ?_
   iterate 13 refine WQ.skip rfl rfl rfl rfl rfl rfl ?_
   refine WQ.val (v_pick_t rfl rfl rfl) (.none rfl) rfl rfl <| WQ.nil <| WE.then_n <| WC.cond_t rfl <| WC.seq <| WC.region <| WL.v (v_assign rfl rfl) rfl <| WL.nt <| WC.ret <| WE.then_ret <| WE.ret1 (P := Tryz.prog) (.inl rfl) Tryz.results137 rfl <| ?_
   have hno : p.d.add m us = none := (by unfold PlD.add; exact if_pos (.inl (by show (p.d.out.length : Int) ≥ p.mr; omega)))
   exact fun w' h => ⟨false, p, E, Em, H, En ++ K, rfl, fun k => (by cases k), fun _ => ⟨hno, rfl⟩, ⟨hA.out, hA.masks, hA.map, fun r hr => (hA.own r hr).more, hA.ok, hA.room⟩, h.dropX [.row g4 (mtL m)]⟩
  ·
   refine WQ.val (v_move rfl rfl) (.none rfl) rfl rfl <| WQ.val (v_move rfl rfl) (.some rfl rfl rfl) rfl rfl <| WQ.val (v_nilCheck rfl rfl) (.some rfl rfl rfl) rfl rfl <| WQ.val (v_fieldAddr0 rfl rfl fld_234_4) (.some rfl rfl rfl) rfl rfl <| WQ.val (v_load1 rfl rfl one_3 (cellAt (v := .int .i64 ((sumA p.ds : Nat) : Int)) rfl)) (.some rfl rfl rfl) rfl rfl <| WQ.val (v_move rfl rfl) (.some rfl rfl rfl) rfl rfl <| WQ.val (v_len_slice rfl rfl Tryz.underlying113) (.some rfl rfl rfl) rfl rfl <| ?_
   refine WQ.val (v_add rfl rfl rfl (w_i64 (by omega) (by omega))) (.some rfl rfl rfl) rfl rfl ?_
   refine WQ.val (v_move rfl rfl) (.some rfl rfl rfl) rfl rfl <| WQ.val (v_nilCheck rfl rfl) (.some rfl rfl rfl) rfl rfl <| WQ.val (v_fieldAddr0 rfl rfl fld_234_0) (.some rfl rfl rfl) rfl rfl <| WQ.val (v_fieldAddr0 rfl rfl fld_194_1) (.some rfl rfl rfl) rfl rfl <| WQ.val (v_load1 rfl rfl one_3 (cellAt (v := .int .i64 p.ma) rfl)) (.some rfl rfl rfl) rfl rfl <| ?_
   refine WQ.test (v_gtr rfl rfl rfl) (.some rfl rfl rfl) rfl rfl (fun h36 => ?_) (fun h36 => ?_)
   ·
    refine WQ.val (v_pick_f rfl rfl rfl) (.none rfl) rfl rfl <| WQ.nil <| WE.then_n <| WC.cond_t rfl <| WC.seq <| WC.region <| WL.v (v_assign rfl rfl) rfl <| WL.nt <| WC.ret <| WE.then_ret <| WE.ret1 (P := Tryz.prog) (.inl rfl) Tryz.results137 rfl <| ?_
    have hno : p.d.add m us = none := (by unfold PlD.add; rw [hys]; exact if_pos (.inr (by show ((sumA p.ds : Nat) : Int) + (ys.length : Int) > p.ma; omega)))
    exact fun w' h => ⟨false, p, E, Em, H, En ++ K, rfl, fun k => (by cases k), fun _ => ⟨hno, rfl⟩, ⟨hA.out, hA.masks, hA.map, fun r hr => (hA.own r hr).more, hA.ok, hA.room⟩, h.dropX [.row g4 (mtL m)]⟩
   ·
    refine WQ.val (v_pick_f rfl rfl rfl) (.none rfl) rfl rfl <| WQ.nil <| WE.then_n <| WC.cond_f rfl <| WC.skip <| WE.then_n <| ?_
    refine WC.cut (fun _ : AdS => [(0, .pointer (some ⟨g, 0, none⟩)), (4, .pointer (some ⟨g4, 0, none⟩)), (2, .slice adn ys.length cn), (6, .bool false)]) (fun x => .row g (addC p x.gm) :: .obj x.gm (.map x.es x.cl) :: .row g4 (mtL m) :: (En ++ (E ++ (Em ++ (K ++ L))))) (fun x => IMap KMt x.es (haveM p.ds)) ?_ ?_
    ·
     refine WC.seq <| WC.region <| WL.v (v_move rfl rfl) rfl <| WL.v (v_nilCheck rfl rfl) rfl <| WL.v (v_fieldAddr0 rfl rfl fld_234_3) rfl <| ?_
     obtain ⟨b42, hb42⟩ : ∃ b, p.hv.isNone = b := ⟨_, rfl⟩
     refine WL.v (v_load1 rfl rfl one_232 (cellAt (v := .map p.hv) rfl)) rfl ?_
     refine WL.v (v_eql_nil b42 rfl rfl Tryz.underlying232 (by rw [← hb42]; rfl)) rfl ?_
     cases b42
     ·
      refine WL.nt <| WC.cond_f rfl <| WC.skip <| ?_
      rcases hA.map with ⟨hq, -, -⟩ | ⟨gm, hq, hH⟩
      · rw [hq] at hb42; cases hb42
      · subst hH
        refine WE.to (L' := .row g (addC p gm) :: .obj gm (.map p.es p.cl) :: .row g4 (mtL m) :: (En ++ (E ++ (Em ++ (K ++ L))))) (fun w hS => ?_) (WE.mid ⟨gm, p.es, p.cl⟩ hA.ok.keys (.cons rfl (.cons rfl (.cons rfl (.cons rfl .nil)))) (.refl _))
        have e : addC p gm = p.cells := (by unfold addC PlL.cells; rw [hq])
        rw [e]
        exact hS.permX
     ·
      refine WL.nt <| WC.cond_t rfl <| WC.region <| WL.v (v_move rfl rfl) rfl <| WL.makeMap rfl (.none rfl) rfl rfl <| ?_
      intro g44 hg44
      refine WL.v (v_nilCheck rfl rfl) rfl <| WL.v (v_fieldAddr0 rfl rfl fld_234_3) rfl <| WL.store1 rfl rfl rfl rfl one_232 (Nat.le_of_ble_eq_true rfl) (.none rfl) rfl <| WL.nil <| ?_
      have hh : p.hv = none := (by cases h : p.hv with | none => rfl | some x => rw [h] at hb42; cases hb42)
      rcases hA.map with ⟨-, he, hH⟩ | ⟨gm, hq, -⟩
      · have hk := hA.ok.keys
        rw [he] at hk
        subst hH
        refine WE.to (L' := .row g (addC p g44) :: .obj g44 (.map #[] 0) :: .row g4 (mtL m) :: (En ++ (E ++ (Em ++ (K ++ L))))) (fun w hS => ?_) (WE.mid ⟨g44, #[], 0⟩ hk (.cons rfl (.cons rfl (.cons rfl (.cons rfl .nil)))) (.refl _))
        exact St.permX (L := .obj g44 (.map #[] 0) :: (En ++ (.row g4 (mtL m) :: .row g (addC p g44) :: (E ++ (Em ++ ([] ++ (K ++ L))))))) hS
      · rw [hh] at hq; cases hq
    ·
     rintro ⟨gm, es, cl⟩ hM
     dsimp only at hM
     dsimp only
     have hyes : p.d.add m us = some ⟨p.mr, p.ma, p.ds ++ [⟨m, ys⟩]⟩ := (by
       unfold PlD.add
       rw [hys]
       exact if_neg (fun k => by
         rcases k with k | k
         · have k : (p.d.out.length : Int) ≥ p.mr := k
           omega
         · have k : ((sumA p.ds : Nat) : Int) + (ys.length : Int) > p.ma := k
           omega))
     refine WC.seq <| WC.region <| WL.v (v_assign rfl rfl) rfl <| WL.nt <| ?_
     refine WC.cut (fun b : Bool => [(7, .bool b), (0, .pointer (some ⟨g, 0, none⟩)), (4, .pointer (some ⟨g4, 0, none⟩)), (2, .slice adn ys.length cn), (6, .bool false)]) (fun _ => .row g (addC p gm) :: .obj gm (.map es cl) :: .row g4 (mtL m) :: (En ++ (E ++ (Em ++ (K ++ L))))) (fun b => b = false → ∃ f ∈ p.ms, ∀ k, k < 9 → f k = m.mask k) ?_ ?_
     ·
      refine WC.seq <| WC.region <| WL.v (v_move rfl rfl) rfl <| WL.v (v_nilCheck rfl rfl) rfl <| WL.v (v_fieldAddr0 rfl rfl fld_234_2) rfl <| WL.v (v_load1 rfl rfl one_231 (cellAt (v := .slice p.mad p.ms.length p.mc) rfl)) rfl <| WL.v (v_len_slice rfl rfl Tryz.underlying231) rfl <| WL.v (v_move rfl rfl) rfl <| WL.nt <| WC.block <| WC.loop (fun i : Nat => [(52, .int .i64 i), (51, .int .i64 p.ms.length), (50, .slice p.mad p.ms.length p.mc), (7, .bool true), (0, .pointer (some ⟨g, 0, none⟩)), (4, .pointer (some ⟨g4, 0, none⟩)), (2, .slice adn ys.length cn), (6, .bool false)]) (fun _ => .row g (addC p gm) :: .obj gm (.map es cl) :: .row g4 (mtL m) :: (En ++ (E ++ (Em ++ (K ++ L))))) (fun i => i ≤ p.ms.length) (fun i => p.ms.length - i) 0 (Nat.zero_le _) (.cons rfl (.cons rfl (.cons rfl (.cons rfl (.cons rfl (.cons rfl (.cons rfl (.cons rfl .nil)))))))) (.refl _) <| ?_
      intro i hi
      refine WC.seq <| WC.region <| ?_
      refine WL.test (v_lss rfl rfl rfl) (.none rfl) rfl rfl (fun h53 => ?_) (fun h53 => ?_)
      ·
       refine WL.nt <| WC.seq <| WC.cond_t rfl <| WC.skip <| WE.then_n <| WC.seq <| WC.block <| WC.seq <| WC.region <| ?_
       obtain ⟨f, hfi⟩ : ∃ x, p.ms[i]? = some x := ⟨p.ms[i]'(by omega), List.getElem?_eq_getElem _⟩
       obtain ⟨b1, o1, ea1, q1⟩ := hA.masks.srcM (L := .row g (addC p gm) :: .obj gm (.map es cl) :: .row g4 (mtL m) :: (En ++ (E ++ (Em ++ (K ++ L))))) (fun e he => by simp [he]) (by rw [masksL_len]; omega)
       obtain ⟨b59, hbe⟩ : ∃ c : Bool, c = true ↔ ucs f 9 = ucs m.mask 9 := ⟨@decide _ (Classical.propDecidable _), @decide_eq_true_iff _ (Classical.propDecidable _)⟩
       refine WL.v ((v_indexAddr (b := b1) (off := o1) (lo := i) rfl (by show some (Value.slice p.mad _ _) = _; rw [ea1]) rfl Tryz.underlying231 sz_108 rfl (by omega))) rfl ?_
       refine WL.v (v_loadN (cs := ucs f 9) rfl rfl many_108 (ucs_len f 9) (fun w' hS' => Rg.seg (fun f => ucs_len f 9) (q1 _ _ w' hS') hfi)) rfl <| WL.alloc rfl zero_108 (.none rfl) rfl rfl <| ?_
       intro g9 hg9
       refine WL.storeW rfl rfl rfl rfl many_108 rfl rfl (.none rfl) rfl <| WL.nt <| WC.seq <| WC.region <| WL.v (v_loadN rfl rfl many_108 rfl allAt) rfl <| WL.v (v_fieldAddr0 rfl rfl fld_115_1) rfl <| WL.v (v_loadN rfl rfl many_108 rfl (segAt (g := g4) (m := 9) (new := ucs m.mask 9) rfl)) rfl <| ?_
       refine WL.v (v_eql_aggD (b := b59) rfl rfl rfl eqk_108 eqg_108 (by first | rfl | (show (ucs f 9).length = 9; exact ucs_len f 9)) (by first | rfl | (show (ucs m.mask 9).length = 9; exact ucs_len m.mask 9)) hbe) rfl ?_
       cases b59
       ·
        refine WL.nt <| WC.cond_f rfl <| WC.skip <| WE.block_n <| WE.then_n <| WC.region <| ?_
        refine WL.v (v_add rfl rfl rfl (w_i64 (by omega) (by omega))) rfl ?_
        refine WL.v (v_move rfl rfl) rfl <| WL.nil <| ?_
        exact WE.next (i + 1) (by omega) (by omega) (.int rfl (by omega) (.cons rfl (.cons rfl (.cons rfl (.cons rfl (.cons rfl (.cons rfl (.cons rfl .nil)))))))) (.cons _ (.refl _))
       ·
        refine WL.nt <| WC.cond_t rfl <| WC.seq <| WC.region <| WL.v (v_assign rfl rfl) rfl <| WL.nt <| WC.exit <| WE.block_miss rfl <| WE.then_exit <| WE.then_exit <| WE.block_hit <| ?_
        exact WE.mid false (fun _ => ⟨f, List.mem_of_getElem? hfi, fun k hk => (by
        have h := hbe.1 rfl
        have h2 := congrArg (fun l => l[k]?) h
        have h2 : (ucs f 9)[k]? = (ucs m.mask 9)[k]? := h2
        rw [ucs_get f hk, ucs_get m.mask hk] at h2
        injection h2 with h2
        injection h2)⟩) (.cons rfl (.cons rfl (.cons rfl (.cons rfl (.cons rfl .nil))))) (.cons _ (.refl _))
      ·
       refine WL.nt <| WC.seq <| WC.cond_f rfl <| WC.exit <| WE.then_exit <| WE.then_exit <| WE.block_hit <| ?_
       exact WE.mid true (fun k => (by cases k)) (.cons rfl (.cons rfl (.cons rfl (.cons rfl (.cons rfl .nil))))) (.refl _)
     ·
      intro fr hfr
      refine WC.cut (fun _ : AdT => [(0, .pointer (some ⟨g, 0, none⟩)), (4, .pointer (some ⟨g4, 0, none⟩)), (2, .slice adn ys.length cn), (6, .bool false)]) (fun x => .row g (addC2 p gm x.mad x.ms.length x.mc) :: .obj gm (.map es cl) :: .row g4 (mtL m) :: (En ++ (E ++ (x.Em ++ (K ++ L))))) (fun x => Vec 9 x.mad x.ms.length x.mc (masksL x.ms) x.Em ∧ x.ms.length ≤ p.ms.length + 1 ∧ (∀ f ∈ p.ms, f ∈ x.ms) ∧ (∃ f ∈ x.ms, ∀ k, k < 9 → f k = m.mask k) ∧ ∀ f ∈ x.ms, ∀ k, 0 ≤ f k ∧ f k ≤ 18446744073709551615) ?_ ?_
      ·
       refine WC.seq <| WC.region <| WL.v (v_move rfl rfl) rfl <| ?_
       skip
       cases fr
       ·
        refine WL.nt <| WC.cond_f rfl <| WC.skip <| ?_
        exact WE.mid ⟨p.mad, p.mc, p.ms, Em⟩ ⟨hA.masks, Nat.le_succ _, fun f h => h, hfr rfl, hA.ok.num⟩ (.cons rfl (.cons rfl (.cons rfl (.cons rfl .nil)))) (.refl _)
       ·
        refine WL.nt <| WC.cond_t rfl <| WC.orders mixed <| ?_
        refine WR.first (g := 7) [0, 1, 2, 3, 5] (by kernel_rfl) (by kernel_rfl) ?_
        refine WP.val (v_move rfl rfl) (.none rfl) rfl rfl <| WP.val (v_move rfl rfl) (.none rfl) rfl rfl <| WP.val (v_nilCheck rfl rfl) (.none rfl) rfl rfl <| WP.val (v_fieldAddr0 rfl rfl fld_234_2) (.none rfl) rfl rfl <| WP.val (v_fieldAddr0 rfl rfl fld_115_1) (.none rfl) rfl rfl <| WP.nil <| ?_
        refine WR.each (g := 6) [4, 6] (by kernel_rfl) (by decide) ?_
        refine ⟨?_, ?_⟩
        ·
         refine WL.v (v_load1 rfl rfl one_231 (cellAt (v := .slice p.mad p.ms.length p.mc) rfl)) rfl <| WL.nilR <| ?_
         refine WR.read (g := 5) [6] (by kernel_rfl) (by kernel_rfl) (by kernel_rfl) (by kernel_rfl) rfl ?_
         refine WQ.val (v_loadN rfl rfl many_108 rfl (segAt (g := g4) (m := 9) (new := ucs m.mask 9) rfl)) (.none rfl) rfl rfl <| WQ.nilR <| ?_
         refine WR.ones (g := 3) [7, 8] (by kernel_rfl) ?_
         refine WL.buildSlice rfl rfl Tryz.underlying231 sz_108 zero_108 rfl (by decide) (by show some (splice (List.replicate 1 _).flatten 0 (ucs m.mask 9)) = some (ucs m.mask 9); exact congrArg some (splice_all rfl)) (.none rfl) rfl rfl ?_
         intro g69 hg69
         refine WL.to (L' := Em ++ (.row g69 (ucs m.mask 9) :: .row g (addC p gm) :: .obj gm (.map es cl) :: .row g4 (mtL m) :: (En ++ (E ++ (K ++ L))))) (fun w hS => hS.permX) ?_
         refine WL.appendL rfl rfl rfl Tryz.underlying231 Tryz.underlying231 sz_108 by_108 zero_108 rfl rfl hA.masks (new := ucs m.mask 9) (fun _ => ⟨g69, 0, rfl, fun w hS => allAt (g := g69) w hS⟩) rfl rfl (by omega) (.none rfl) rfl rfl ?_
         intro ad70 c70 E70 hV70 hr70
         refine WL.nilR ?_
         refine WR.first (g := 1) [9, 10] (by kernel_rfl) (by kernel_rfl) ?_
         refine WP.val (v_nilCheck rfl rfl) (.none rfl) rfl rfl <| WP.val (v_fieldAddr0 rfl rfl fld_234_2) (.none rfl) rfl rfl <| WP.nil <| ?_
         refine WR.ones (g := 0) [11] (by kernel_rfl) ?_
         refine WL.store1 rfl rfl rfl rfl one_231 (Nat.le_of_ble_eq_true rfl) (.none rfl) rfl <| WL.nilR <| ?_
         refine WR.done (by kernel_rfl) ?_
         refine WE.to (L' := .row g (addC2 p gm ad70 (p.ms ++ [m.mask]).length c70) :: .obj gm (.map es cl) :: .row g4 (mtL m) :: (En ++ (E ++ (E70 ++ (K ++ L))))) (fun w hS => ?_) (WE.mid ⟨ad70, c70, p.ms ++ [m.mask], E70⟩ ⟨by rw [List.length_append]; rw [show masksL (p.ms ++ [m.mask]) = masksL p.ms ++ ucs m.mask 9 from encL_snoc _ _ _]; exact hV70, by rw [List.length_append]; exact Nat.le_refl _, fun f h => List.mem_append_left _ h, ⟨m.mask, List.mem_append_right _ (List.mem_singleton.2 rfl), fun _ _ => rfl⟩, fun f h => (by
             rcases List.mem_append.1 h with h | h
             · exact hA.ok.num f h
             · rw [List.mem_singleton.1 h]; exact hm.mask)⟩ (.cons rfl (.cons rfl (.cons rfl (.cons rfl .nil)))) (.refl _))
         rw [show (p.ms ++ [m.mask]).length = p.ms.length + 1 by rw [List.length_append]; rfl]
         exact St.dropX (L := E70 ++ (.row g69 (ucs m.mask 9) :: .row g (addC2 p gm ad70 (p.ms.length + 1) c70) :: .obj gm (.map es cl) :: .row g4 (mtL m) :: (En ++ (E ++ (K ++ L))))) [.row g69 (ucs m.mask 9)] hS
        ·
         refine WL.v (v_loadN rfl rfl many_108 rfl (segAt (g := g4) (m := 9) (new := ucs m.mask 9) rfl)) rfl <| WL.nilR <| ?_
         refine WR.each (g := 5) [4, 7] (by kernel_rfl) (by decide) ?_
         refine ⟨?_, ?_⟩
         ·
          refine WL.v (v_load1 rfl rfl one_231 (cellAt (v := .slice p.mad p.ms.length p.mc) rfl)) rfl <| WL.nilR <| ?_
          refine WR.ones (g := 3) [7, 8] (by kernel_rfl) ?_
          refine WL.buildSlice rfl rfl Tryz.underlying231 sz_108 zero_108 rfl (by decide) (by show some (splice (List.replicate 1 _).flatten 0 (ucs m.mask 9)) = some (ucs m.mask 9); exact congrArg some (splice_all rfl)) (.none rfl) rfl rfl ?_
          intro g69 hg69
          refine WL.to (L' := Em ++ (.row g69 (ucs m.mask 9) :: .row g (addC p gm) :: .obj gm (.map es cl) :: .row g4 (mtL m) :: (En ++ (E ++ (K ++ L))))) (fun w hS => hS.permX) ?_
          refine WL.appendL rfl rfl rfl Tryz.underlying231 Tryz.underlying231 sz_108 by_108 zero_108 rfl rfl hA.masks (new := ucs m.mask 9) (fun _ => ⟨g69, 0, rfl, fun w hS => allAt (g := g69) w hS⟩) rfl rfl (by omega) (.none rfl) rfl rfl ?_
          intro ad70 c70 E70 hV70 hr70
          refine WL.nilR ?_
          refine WR.first (g := 1) [9, 10] (by kernel_rfl) (by kernel_rfl) ?_
          refine WP.val (v_nilCheck rfl rfl) (.none rfl) rfl rfl <| WP.val (v_fieldAddr0 rfl rfl fld_234_2) (.none rfl) rfl rfl <| WP.nil <| ?_
          refine WR.ones (g := 0) [11] (by kernel_rfl) ?_
          refine WL.store1 rfl rfl rfl rfl one_231 (Nat.le_of_ble_eq_true rfl) (.none rfl) rfl <| WL.nilR <| ?_
          refine WR.done (by kernel_rfl) ?_
          refine WE.to (L' := .row g (addC2 p gm ad70 (p.ms ++ [m.mask]).length c70) :: .obj gm (.map es cl) :: .row g4 (mtL m) :: (En ++ (E ++ (E70 ++ (K ++ L))))) (fun w hS => ?_) (WE.mid ⟨ad70, c70, p.ms ++ [m.mask], E70⟩ ⟨by rw [List.length_append]; rw [show masksL (p.ms ++ [m.mask]) = masksL p.ms ++ ucs m.mask 9 from encL_snoc _ _ _]; exact hV70, by rw [List.length_append]; exact Nat.le_refl _, fun f h => List.mem_append_left _ h, ⟨m.mask, List.mem_append_right _ (List.mem_singleton.2 rfl), fun _ _ => rfl⟩, fun f h => (by
              rcases List.mem_append.1 h with h | h
              · exact hA.ok.num f h
              · rw [List.mem_singleton.1 h]; exact hm.mask)⟩ (.cons rfl (.cons rfl (.cons rfl (.cons rfl .nil)))) (.refl _))
          rw [show (p.ms ++ [m.mask]).length = p.ms.length + 1 by rw [List.length_append]; rfl]
          exact St.dropX (L := E70 ++ (.row g69 (ucs m.mask 9) :: .row g (addC2 p gm ad70 (p.ms.length + 1) c70) :: .obj gm (.map es cl) :: .row g4 (mtL m) :: (En ++ (E ++ (K ++ L))))) [.row g69 (ucs m.mask 9)] hS
         ·
          refine WL.buildSlice rfl rfl Tryz.underlying231 sz_108 zero_108 rfl (by decide) (by show some (splice (List.replicate 1 _).flatten 0 (ucs m.mask 9)) = some (ucs m.mask 9); exact congrArg some (splice_all rfl)) (.none rfl) rfl rfl ?_
          intro g69 hg69
          refine WL.to (L' := Em ++ (.row g69 (ucs m.mask 9) :: .row g (addC p gm) :: .obj gm (.map es cl) :: .row g4 (mtL m) :: (En ++ (E ++ (K ++ L))))) (fun w hS => hS.permX) <| WL.nilR <| ?_
          refine WR.read (g := 4) [4] (by kernel_rfl) (by kernel_rfl) (by kernel_rfl) (by kernel_rfl) rfl ?_
          refine WQ.val (v_load1 rfl rfl one_231 (cellAt (v := .slice p.mad p.ms.length p.mc) rfl)) (.none rfl) rfl rfl <| WQ.nilR <| ?_
          refine WR.ones (g := 3) [8] (by kernel_rfl) ?_
          refine WL.appendL rfl rfl rfl Tryz.underlying231 Tryz.underlying231 sz_108 by_108 zero_108 rfl rfl hA.masks (new := ucs m.mask 9) (fun _ => ⟨g69, 0, rfl, fun w hS => allAt (g := g69) w hS⟩) rfl rfl (by omega) (.none rfl) rfl rfl ?_
          intro ad70 c70 E70 hV70 hr70
          refine WL.nilR ?_
          refine WR.first (g := 1) [9, 10] (by kernel_rfl) (by kernel_rfl) ?_
          refine WP.val (v_nilCheck rfl rfl) (.none rfl) rfl rfl <| WP.val (v_fieldAddr0 rfl rfl fld_234_2) (.none rfl) rfl rfl <| WP.nil <| ?_
          refine WR.ones (g := 0) [11] (by kernel_rfl) ?_
          refine WL.store1 rfl rfl rfl rfl one_231 (Nat.le_of_ble_eq_true rfl) (.none rfl) rfl <| WL.nilR <| ?_
          refine WR.done (by kernel_rfl) ?_
          refine WE.to (L' := .row g (addC2 p gm ad70 (p.ms ++ [m.mask]).length c70) :: .obj gm (.map es cl) :: .row g4 (mtL m) :: (En ++ (E ++ (E70 ++ (K ++ L))))) (fun w hS => ?_) (WE.mid ⟨ad70, c70, p.ms ++ [m.mask], E70⟩ ⟨by rw [List.length_append]; rw [show masksL (p.ms ++ [m.mask]) = masksL p.ms ++ ucs m.mask 9 from encL_snoc _ _ _]; exact hV70, by rw [List.length_append]; exact Nat.le_refl _, fun f h => List.mem_append_left _ h, ⟨m.mask, List.mem_append_right _ (List.mem_singleton.2 rfl), fun _ _ => rfl⟩, fun f h => (by
              rcases List.mem_append.1 h with h | h
              · exact hA.ok.num f h
              · rw [List.mem_singleton.1 h]; exact hm.mask)⟩ (.cons rfl (.cons rfl (.cons rfl (.cons rfl .nil)))) (.refl _))
          rw [show (p.ms ++ [m.mask]).length = p.ms.length + 1 by rw [List.length_append]; rfl]
          exact St.dropX (L := E70 ++ (.row g69 (ucs m.mask 9) :: .row g (addC2 p gm ad70 (p.ms.length + 1) c70) :: .obj gm (.map es cl) :: .row g4 (mtL m) :: (En ++ (E ++ (K ++ L))))) [.row g69 (ucs m.mask 9)] hS
      ·
       rintro ⟨mad2, mc2, ms2, Em2⟩ ⟨hV2, hml, hsub, hhas, hnum⟩
       dsimp only at hV2 hml hsub hhas hnum
       dsimp only
       refine WC.seq <| WC.orders mixed <| ?_
       refine WR.first (g := 3) [0, 1, 2, 5] (by kernel_rfl) (by kernel_rfl) ?_
       refine WP.val (v_move rfl rfl) (.none rfl) rfl rfl <| WP.val (v_nilCheck rfl rfl) (.none rfl) rfl rfl <| WP.val (v_fieldAddr0 rfl rfl fld_234_3) (.none rfl) rfl rfl <| WP.val (v_build rfl rfl zero_162 plc_162 rfl) (.none rfl) rfl rfl <| WP.nil <| ?_
       refine WR.read (g := 1) [3, 4] (by kernel_rfl) (by kernel_rfl) (by kernel_rfl) (by kernel_rfl) rfl ?_
       refine WQ.val (v_load1 rfl rfl one_232 (cellAt (v := .map (some gm)) rfl)) (.none rfl) rfl rfl <| WQ.val (v_loadN rfl rfl many_115 rfl allAt) (.none rfl) rfl rfl <| WQ.nilR <| ?_
       refine WR.ones (g := 0) [6] (by kernel_rfl) ?_
       refine WL.mapUpdate rfl rfl rfl rfl Tryz.underlying232 keyW_115 (hK) (hM) (.none rfl) rfl ?_
       intro esU cU hMU hsU
       refine WL.nilR ?_
       refine WR.done (by kernel_rfl) ?_
       refine WE.then_n ?_
       refine WC.cut (fun x : AdU => [(0, .pointer (some ⟨g, 0, none⟩)), (2, .slice adn ys.length cn), (6, .bool false)]) (fun x => .row g [.int .i64 p.mr, .int .i64 p.ma, .slice x.ad (p.ls.length + 1) x.c, .slice mad2 ms2.length mc2, .map (some gm), .int .i64 ((sumA p.ds : Nat) : Int)] :: (x.E ++ (.obj gm (.map esU cU) :: (En ++ (Em2 ++ (K ++ L)))))) (fun x => Vec 19 x.ad (p.ls.length + 1) x.c (rulesL p.ls ++ RuL.cells ⟨m, adn, cn, ys⟩) x.E) ?_ ?_
       ·
        refine WC.orders mixed ?_
        refine WR.first (g := 8) [0, 1, 2, 3, 6] (by kernel_rfl) (by kernel_rfl) ?_
        refine WP.val (v_move rfl rfl) (.none rfl) rfl rfl <| WP.val (v_move rfl rfl) (.none rfl) rfl rfl <| WP.val (v_nilCheck rfl rfl) (.none rfl) rfl rfl <| WP.val (v_fieldAddr0 rfl rfl fld_234_1) (.none rfl) rfl rfl <| WP.val (v_move rfl rfl) (.none rfl) rfl rfl <| WP.nil <| ?_
        refine WR.each (g := 7) [4, 5] (by kernel_rfl) (by decide) ?_
        refine ⟨?_, ?_⟩
        ·
         refine WL.v (v_load1 rfl rfl one_34 (cellAt (v := .slice p.ad p.ls.length p.c) rfl)) rfl <| WL.nilR <| ?_
         refine WR.read (g := 5) [5, 7] (by kernel_rfl) (by kernel_rfl) (by kernel_rfl) (by kernel_rfl) rfl ?_
         refine WQ.val (v_loadN rfl rfl many_115 rfl allAt) (.none rfl) rfl rfl <| WQ.val (v_build rfl rfl zero_117 plc_117 rfl) (.none rfl) rfl rfl <| WQ.nilR <| ?_
         refine WR.ones (g := 3) [8, 9] (by kernel_rfl) ?_
         refine WL.buildSlice rfl rfl Tryz.underlying34 sz_117 zero_117 rfl (by decide) (by show some (splice (List.replicate 1 _).flatten 0 (RuL.cells ⟨m, adn, cn, ys⟩)) = some (RuL.cells ⟨m, adn, cn, ys⟩); exact congrArg some (splice_all rfl)) (.none rfl) rfl rfl ?_
         intro g87 hg87
         refine WL.to (L' := E ++ (.row g87 (RuL.cells ⟨m, adn, cn, ys⟩) :: .row g (addC2 p gm mad2 ms2.length mc2) :: .obj gm (.map esU cU) :: .row g4 (mtL m) :: (En ++ (Em2 ++ (K ++ L))))) (fun w hS => hS.permX) ?_
         refine WL.appendL rfl rfl rfl Tryz.underlying34 Tryz.underlying34 sz_117 by_117 zero_117 rfl rfl hA.out (new := RuL.cells ⟨m, adn, cn, ys⟩) (fun _ => ⟨g87, 0, rfl, fun w hS => allAt (g := g87) w hS⟩) rfl rfl (by omega) (.none rfl) rfl rfl ?_
         intro ad88 c88 E88 hV88 hr88
         refine WL.nilR ?_
         refine WR.first (g := 1) [10, 11] (by kernel_rfl) (by kernel_rfl) ?_
         refine WP.val (v_nilCheck rfl rfl) (.none rfl) rfl rfl <| WP.val (v_fieldAddr0 rfl rfl fld_234_1) (.none rfl) rfl rfl <| WP.nil <| ?_
         refine WR.ones (g := 0) [12] (by kernel_rfl) ?_
         refine WL.store1 rfl rfl rfl rfl one_34 (Nat.le_of_ble_eq_true rfl) (.none rfl) rfl <| WL.nilR <| ?_
         refine WR.done (by kernel_rfl) ?_
         refine WE.to (L' := .row g [.int .i64 p.mr, .int .i64 p.ma, .slice ad88 (p.ls.length + 1) c88, .slice mad2 ms2.length mc2, .map (some gm), .int .i64 ((sumA p.ds : Nat) : Int)] :: (E88 ++ (.obj gm (.map esU cU) :: (En ++ (Em2 ++ (K ++ L)))))) (fun w hS => St.dropX (L := E88 ++ (.row g87 (RuL.cells ⟨m, adn, cn, ys⟩) :: .row g [.int .i64 p.mr, .int .i64 p.ma, .slice ad88 (p.ls.length + 1) c88, .slice mad2 ms2.length mc2, .map (some gm), .int .i64 ((sumA p.ds : Nat) : Int)] :: .obj gm (.map esU cU) :: .row g4 (mtL m) :: (En ++ (Em2 ++ (K ++ L))))) [.row g87 (RuL.cells ⟨m, adn, cn, ys⟩), .row g4 (mtL m)] hS) (WE.mid ⟨ad88, c88, E88⟩ hV88 (.cons rfl (.cons rfl (.cons rfl .nil))) (.refl _))
        ·
         refine WL.v (v_loadN rfl rfl many_115 rfl allAt) rfl <| WL.nilR <| ?_
         refine WR.first (g := 6) [7] (by kernel_rfl) (by kernel_rfl) ?_
         refine WP.val (v_build rfl rfl zero_117 plc_117 rfl) (.none rfl) rfl rfl <| WP.nil <| ?_
         refine WR.each (g := 5) [4, 8] (by kernel_rfl) (by decide) ?_
         refine ⟨?_, ?_⟩
         ·
          refine WL.v (v_load1 rfl rfl one_34 (cellAt (v := .slice p.ad p.ls.length p.c) rfl)) rfl <| WL.nilR <| ?_
          refine WR.ones (g := 3) [8, 9] (by kernel_rfl) ?_
          refine WL.buildSlice rfl rfl Tryz.underlying34 sz_117 zero_117 rfl (by decide) (by show some (splice (List.replicate 1 _).flatten 0 (RuL.cells ⟨m, adn, cn, ys⟩)) = some (RuL.cells ⟨m, adn, cn, ys⟩); exact congrArg some (splice_all rfl)) (.none rfl) rfl rfl ?_
          intro g87 hg87
          refine WL.to (L' := E ++ (.row g87 (RuL.cells ⟨m, adn, cn, ys⟩) :: .row g (addC2 p gm mad2 ms2.length mc2) :: .obj gm (.map esU cU) :: .row g4 (mtL m) :: (En ++ (Em2 ++ (K ++ L))))) (fun w hS => hS.permX) ?_
          refine WL.appendL rfl rfl rfl Tryz.underlying34 Tryz.underlying34 sz_117 by_117 zero_117 rfl rfl hA.out (new := RuL.cells ⟨m, adn, cn, ys⟩) (fun _ => ⟨g87, 0, rfl, fun w hS => allAt (g := g87) w hS⟩) rfl rfl (by omega) (.none rfl) rfl rfl ?_
          intro ad88 c88 E88 hV88 hr88
          refine WL.nilR ?_
          refine WR.first (g := 1) [10, 11] (by kernel_rfl) (by kernel_rfl) ?_
          refine WP.val (v_nilCheck rfl rfl) (.none rfl) rfl rfl <| WP.val (v_fieldAddr0 rfl rfl fld_234_1) (.none rfl) rfl rfl <| WP.nil <| ?_
          refine WR.ones (g := 0) [12] (by kernel_rfl) ?_
          refine WL.store1 rfl rfl rfl rfl one_34 (Nat.le_of_ble_eq_true rfl) (.none rfl) rfl <| WL.nilR <| ?_
          refine WR.done (by kernel_rfl) ?_
          refine WE.to (L' := .row g [.int .i64 p.mr, .int .i64 p.ma, .slice ad88 (p.ls.length + 1) c88, .slice mad2 ms2.length mc2, .map (some gm), .int .i64 ((sumA p.ds : Nat) : Int)] :: (E88 ++ (.obj gm (.map esU cU) :: (En ++ (Em2 ++ (K ++ L)))))) (fun w hS => St.dropX (L := E88 ++ (.row g87 (RuL.cells ⟨m, adn, cn, ys⟩) :: .row g [.int .i64 p.mr, .int .i64 p.ma, .slice ad88 (p.ls.length + 1) c88, .slice mad2 ms2.length mc2, .map (some gm), .int .i64 ((sumA p.ds : Nat) : Int)] :: .obj gm (.map esU cU) :: .row g4 (mtL m) :: (En ++ (Em2 ++ (K ++ L))))) [.row g87 (RuL.cells ⟨m, adn, cn, ys⟩), .row g4 (mtL m)] hS) (WE.mid ⟨ad88, c88, E88⟩ hV88 (.cons rfl (.cons rfl (.cons rfl .nil))) (.refl _))
         ·
          refine WL.buildSlice rfl rfl Tryz.underlying34 sz_117 zero_117 rfl (by decide) (by show some (splice (List.replicate 1 _).flatten 0 (RuL.cells ⟨m, adn, cn, ys⟩)) = some (RuL.cells ⟨m, adn, cn, ys⟩); exact congrArg some (splice_all rfl)) (.none rfl) rfl rfl ?_
          intro g87 hg87
          refine WL.to (L' := E ++ (.row g87 (RuL.cells ⟨m, adn, cn, ys⟩) :: .row g (addC2 p gm mad2 ms2.length mc2) :: .obj gm (.map esU cU) :: .row g4 (mtL m) :: (En ++ (Em2 ++ (K ++ L))))) (fun w hS => hS.permX) <| WL.nilR <| ?_
          refine WR.read (g := 4) [4] (by kernel_rfl) (by kernel_rfl) (by kernel_rfl) (by kernel_rfl) rfl ?_
          refine WQ.val (v_load1 rfl rfl one_34 (cellAt (v := .slice p.ad p.ls.length p.c) rfl)) (.none rfl) rfl rfl <| WQ.nilR <| ?_
          refine WR.ones (g := 3) [9] (by kernel_rfl) ?_
          refine WL.appendL rfl rfl rfl Tryz.underlying34 Tryz.underlying34 sz_117 by_117 zero_117 rfl rfl hA.out (new := RuL.cells ⟨m, adn, cn, ys⟩) (fun _ => ⟨g87, 0, rfl, fun w hS => allAt (g := g87) w hS⟩) rfl rfl (by omega) (.none rfl) rfl rfl ?_
          intro ad88 c88 E88 hV88 hr88
          refine WL.nilR ?_
          refine WR.first (g := 1) [10, 11] (by kernel_rfl) (by kernel_rfl) ?_
          refine WP.val (v_nilCheck rfl rfl) (.none rfl) rfl rfl <| WP.val (v_fieldAddr0 rfl rfl fld_234_1) (.none rfl) rfl rfl <| WP.nil <| ?_
          refine WR.ones (g := 0) [12] (by kernel_rfl) ?_
          refine WL.store1 rfl rfl rfl rfl one_34 (Nat.le_of_ble_eq_true rfl) (.none rfl) rfl <| WL.nilR <| ?_
          refine WR.done (by kernel_rfl) ?_
          refine WE.to (L' := .row g [.int .i64 p.mr, .int .i64 p.ma, .slice ad88 (p.ls.length + 1) c88, .slice mad2 ms2.length mc2, .map (some gm), .int .i64 ((sumA p.ds : Nat) : Int)] :: (E88 ++ (.obj gm (.map esU cU) :: (En ++ (Em2 ++ (K ++ L)))))) (fun w hS => St.dropX (L := E88 ++ (.row g87 (RuL.cells ⟨m, adn, cn, ys⟩) :: .row g [.int .i64 p.mr, .int .i64 p.ma, .slice ad88 (p.ls.length + 1) c88, .slice mad2 ms2.length mc2, .map (some gm), .int .i64 ((sumA p.ds : Nat) : Int)] :: .obj gm (.map esU cU) :: .row g4 (mtL m) :: (En ++ (Em2 ++ (K ++ L))))) [.row g87 (RuL.cells ⟨m, adn, cn, ys⟩), .row g4 (mtL m)] hS) (WE.mid ⟨ad88, c88, E88⟩ hV88 (.cons rfl (.cons rfl (.cons rfl .nil))) (.refl _))
       ·
        rintro ⟨ad88, c88, E88⟩ hV88
        dsimp only at hV88
        dsimp only
        refine WC.seq <| WC.region <| WL.v (v_move rfl rfl) rfl <| WL.v (v_nilCheck rfl rfl) rfl <| WL.v (v_fieldAddr0 rfl rfl fld_234_4) rfl <| WL.v (v_load1 rfl rfl one_3 (cellAt (v := .int .i64 ((sumA p.ds : Nat) : Int)) rfl)) rfl <| WL.v (v_move rfl rfl) rfl <| WL.v (v_len_slice rfl rfl Tryz.underlying113) rfl <| ?_
        refine WL.v (v_add rfl rfl rfl (w_i64 (by omega) (by omega))) rfl ?_
        refine WL.v (v_nilCheck rfl rfl) rfl <| WL.v (v_fieldAddr0 rfl rfl fld_234_4) rfl <| WL.store1 rfl rfl rfl rfl one_3 (Nat.le_of_ble_eq_true rfl) (.none rfl) rfl <| WL.nt <| WC.seq <| WC.region <| WL.v (v_assign rfl rfl) rfl <| WL.nt <| WC.ret <| WE.ret1 (P := Tryz.prog) (.inl rfl) Tryz.results137 rfl <| ?_
        have hds : (p.ls ++ [(⟨m, adn, cn, ys⟩ : RuL)]).map RuL.d = p.ds ++ [⟨m, ys⟩] := (by rw [List.map_append]; rfl)
        have hfit : (⟨m, ys⟩ : RuD).Fit := (by rw [← hys]; exact fit_new hm hz hus)
        have hsA : ((sumA (p.ds ++ [(⟨m, ys⟩ : RuD)]) : Nat) : Int) = (sumA p.ds : Nat) + (ys.length : Int) := (by
          rw [sumA_append]
          show ((sumA p.ds + (ys.length + 0) : Nat) : Int) = _
          omega)
        have hu2 := haveM_add p.ds m ys
        exact fun w' h => ⟨true, ⟨p.mr, p.ma, ad88, c88, p.ls ++ [⟨m, adn, cn, ys⟩], mad2, mc2, ms2, some gm, esU, cU⟩, E88, Em2, [.obj gm (.map esU cU)], En ++ K, rfl, fun _ => by rw [hyes]; show _ = some (⟨p.mr, p.ma, (p.ls ++ [(⟨m, adn, cn, ys⟩ : RuL)]).map RuL.d⟩ : PlD); rw [hds], fun k => (by cases k),
          ⟨by dsimp only; rw [List.length_append, show rulesL (p.ls ++ [(⟨m, adn, cn, ys⟩ : RuL)]) = rulesL p.ls ++ RuL.cells ⟨m, adn, cn, ys⟩ from encL_snoc _ _ _]; exact hV88, hV2, .inr ⟨gm, rfl, rfl⟩, fun r hr => (by
            rcases List.mem_append.1 hr with hr | hr
            · exact (hA.own r hr).more
            · rw [List.mem_singleton.1 hr]; exact ⟨En, hVn, fun e he => List.mem_append_left _ he⟩),
          ⟨fun r hr => (by
            have hr : r ∈ (p.ls ++ [(⟨m, adn, cn, ys⟩ : RuL)]).map RuL.d := hr
            rw [hds] at hr
            rcases List.mem_append.1 hr with hr | hr
            · exact hA.ok.fit r hr
            · rw [List.mem_singleton.1 hr]; exact hfit), fun r hr => (by
            have hr : r ∈ (p.ls ++ [(⟨m, adn, cn, ys⟩ : RuL)]).map RuL.d := hr
            rw [hds] at hr
            rcases List.mem_append.1 hr with hr | hr
            · obtain ⟨f, hf, hq⟩ := hA.ok.mask r hr; exact ⟨f, hsub f hf, hq⟩
            · rw [List.mem_singleton.1 hr]; exact hhas), hnum, by
            show IMap KMt esU (haveM ((p.ls ++ [(⟨m, adn, cn, ys⟩ : RuL)]).map RuL.d))
            rw [hds, ← hu2]
            exact hMU⟩,
          by dsimp only; rw [List.length_append]; show ms2.length ≤ p.ls.length + 1; omega, by dsimp only; rw [List.length_append]; show ((p.ls.length + 1 : Nat) : Int) ≤ _; omega, rm3, by show ((sumA ((p.ls ++ [(⟨m, adn, cn, ys⟩ : RuL)]).map RuL.d) : Nat) : Int) ≤ p.ma; rw [hds, hsA]; omega, rm5⟩, by
          have e9 : PlL.cells ⟨p.mr, p.ma, ad88, c88, p.ls ++ [⟨m, adn, cn, ys⟩], mad2, mc2, ms2, some gm, esU, cU⟩ = [.int .i64 p.mr, .int .i64 p.ma, .slice ad88 (p.ls.length + 1) c88, .slice mad2 ms2.length mc2, .map (some gm), .int .i64 ((sumA p.ds : Nat) + (ys.length : Int))] := (by
            unfold PlL.cells
            dsimp only
            rw [← hsA, List.length_append]
            show _ = [_, _, _, _, _, Value.int .i64 ((sumA (p.ds ++ [(⟨m, ys⟩ : RuD)]) : Nat) : Int)]
            rw [← hds]
            rfl)
          rw [e9]
          exact St.permX (L := .row g [.int .i64 p.mr, .int .i64 p.ma, .slice ad88 (p.ls.length + 1) c88, .slice mad2 ms2.length mc2, .map (some gm), .int .i64 ((sumA p.ds : Nat) + (ys.length : Int))] :: (E88 ++ (.obj gm (.map esU cU) :: (En ++ (Em2 ++ (K ++ L)))))) h⟩
end Go.Proofs.YtkeonnnhogaggaaGreatDoor
/- pile: Sum; cross and Cross. -/
namespace Go.Proofs.YtkeonnnhogaggaaGreatDoor
open Go.RowKit

/-- What a sum of acts is: where it can be read. -/
def SumC (fn : FuncId) (sum : List Ac → List Ac → List Ac) : Prop := ∀ (w : World) (a b : Option Addr) (ac bc : Nat) (us vs : List Ac), Rg w a (actsL us) → Rg w b (actsL vs) → us.length ≤ 5000 → vs.length ≤ 5000 →
  Calls Tryz.prog fn #[.slice a us.length ac, .slice b vs.length bc] w fun e w' => ∃ ad c M, e = .returned (.slice ad (sum us vs).length c) ∧ (∀ w2, (∀ x ∈ M, Ent.holds w2 x) → Rg w2 a (actsL us) → Rg w2 b (actsL vs) → Rg w2 ad (actsL (sum us vs))) ∧ St (fun _ => False) w w' M
theorem Sum_own (w : World) (a b : Option Addr) (ac bc : Nat) (us vs : List Ac) (hA1 : Rg w a (actsL us)) (hB1 : Rg w b (actsL vs)) (h1 : us.length ≤ 5000) (h2 : vs.length ≤ 5000) :
    Calls Tryz.prog 95 #[.slice a us.length ac, .slice b vs.length bc] w fun e w' => ∃ ad c E, e = .returned (.slice ad (us ++ vs).length c) ∧ Vec 10 ad (us ++ vs).length c (actsL (us ++ vs)) E ∧ St (fun _ => False) w w' E := by
  refine enter Tryz.func95 rfl Tryz.ntmps95 rfl (St.start (fun _ => False) w) ?_
  refine WC.seq <| WC.region <| WL.v (v_assign rfl rfl) rfl <| WL.nt <| WC.seq <| WC.region <| WL.v (v_move rfl rfl) rfl <| WL.v (v_len_slice rfl rfl Tryz.underlying113) rfl <| WL.v (v_move rfl rfl) rfl <| WL.v (v_len_slice rfl rfl Tryz.underlying113) rfl <| ?_
  refine WL.v (v_add rfl rfl rfl (w_i64 (by omega) (by omega))) rfl ?_
  refine WL.makeN (m := 0) (c := us.length + vs.length) rfl rfl rfl (by omega) (by omega) (by omega) Tryz.underlying113 by_110 (by omega) (by omega) sz_110 zero_110 rfl (.none rfl) rfl rfl ?_
  intro g11 hg11
  generalize hZ : List.flatten _ = Z
  have hV : Vec 10 (some ⟨g11, 0, none⟩) 0 (us.length + vs.length) [] [.row g11 Z] := Vec.row (by rw [Nat.zero_mul]; rfl) (by rw [← hZ]; exact flat_len rfl _) (Nat.zero_le _)
  refine WL.to (L' := [.row g11 Z] ++ []) (fun w hS => by simpa using hS) ?_
  refine WL.v (v_assign rfl rfl) rfl <| WL.nt <| WC.seq <| WC.region <| WL.v (v_move rfl rfl) rfl <| WL.v (v_move rfl rfl) rfl <| ?_
  refine WL.appendL rfl rfl rfl Tryz.underlying113 Tryz.underlying113 sz_110 by_110 zero_110 rfl rfl hV (new := actsL us) (fun hp => by obtain ⟨b1, o1, e1, r1⟩ := hA1 (by intro h; have := actsL_len us; rw [h] at this; simp at this; omega); exact ⟨b1, o1, e1, rgIn (fun h => h) r1⟩) (actsL_len us) (encL_one acL_one us) (by omega) (.none rfl) rfl rfl ?_
  intro ad14 c14 E14 hV14 hr14
  refine WL.v (v_assign rfl rfl) rfl <| WL.nt <| WC.seq <| WC.region <| WL.v (v_move rfl rfl) rfl <| WL.v (v_move rfl rfl) rfl <| ?_
  refine WL.appendL rfl rfl rfl Tryz.underlying113 Tryz.underlying113 sz_110 by_110 zero_110 rfl rfl hV14 (new := actsL vs) (fun hp => by obtain ⟨b1, o1, e1, r1⟩ := hB1 (by intro h; have := actsL_len vs; rw [h] at this; simp at this; omega); exact ⟨b1, o1, e1, rgIn (fun h => h) r1⟩) (actsL_len vs) (encL_one acL_one vs) (by omega) (.none rfl) rfl rfl ?_
  intro ad17 c17 E17 hV17 hr17
  refine WL.v (v_assign rfl rfl) rfl <| WL.nt <| WC.ret <| WE.ret1 (P := Tryz.prog) (.inl rfl) Tryz.results95 rfl <| ?_
  have e1 : (us ++ vs).length = 0 + us.length + vs.length := (by rw [List.length_append]; omega)
  have e2 : actsL (us ++ vs) = [] ++ actsL us ++ actsL vs := (by show encL acL (us ++ vs) = _; rw [encL_append, List.nil_append])
  exact fun w' h => ⟨ad17, c17, E17, by rw [e1], by rw [e1, e2]; exact hV17, by simpa using h⟩
theorem sumC_app : SumC 95 appA := fun w a b ac bc us vs hA hB h1 h2 =>
  (Sum_own w a b ac bc us vs hA hB h1 h2).mono fun _ _ ⟨ad, c, E, he, hV, hS⟩ => ⟨ad, c, E, he, fun _ h2 _ _ => hV.rg h2, hS⟩
/-- Rules that can be read. -/
structure RsAt (w : World) (ad : Option Addr) (xs : List RuL) : Prop where
  rd : Rg w ad (rulesL xs)
  ok : ∀ r ∈ xs, Rg w r.ad (actsL r.acts)
structure RsFit (n : Nat) (xs : List RuL) : Prop where
  fit : ∀ r ∈ xs, r.d.Fit
  few : ∀ r ∈ xs, r.acts.length ≤ n
theorem RgS {q : Nat → Prop} {w0 w : World} {L : List Ent} {ad : Option Addr} {cs : List Value} (h : ∀ w, St q w0 w L → Rg w ad cs) (hS : St q w0 w L) (hn : cs ≠ []) : ∃ b o, ad = some ⟨b, o, none⟩ ∧ ∀ w, St q w0 w L → w.rangeAt b o cs := by
  obtain ⟨b, o, e, _⟩ := h w hS hn
  refine ⟨b, o, e, fun w' hS' => ?_⟩
  obtain ⟨b', o', e', hr⟩ := h w' hS' hn
  rw [e] at e'
  injection e' with e'
  injection e' with e1 e2
  subst e1 e2
  exact hr
/-- Another pile whose rules count as covering. -/
def butD (bo : Option Nat) (pb : PlL) : List RuD := match bo with | none => [] | some _ => pb.ds
structure ButAt (q : Nat → Prop) (w0 : World) (L : List Ent) (bo : Option Nat) (pb : PlL) : Prop where
  rd : ∀ gb, bo = some gb → ∀ w, St q w0 w L → PlR w gb pb
  ok : ∀ gb, bo = some gb → pb.Ok ∧ pb.ms.length ≤ 1000000000
def ptrB (bo : Option Nat) : Value := .pointer (bo.map fun g => ⟨g, 0, none⟩)
theorem crossD_cons (but : List RuD) (sum : List Ac → List Ac → List Ac) (b : List RuD) (r : RuD) (a : List RuD) (p : PlD) : crossD but sum b (r :: a) p = (crossI but sum r b p).bind (crossD but sum b a) := by
  rw [crossD]
  cases crossI but sum r b p <;> rfl
structure CrS where
  i : Nat
  p : PlL
  E : List Ent
  Em : List Ent
  H : List Ent
  K : List Ent
theorem ru_match (r : RuL) : seg r.cells 0 18 = mtL r.m := ruL_match _
set_option maxRecDepth 8000 in
set_option maxHeartbeats 8000000 in
theorem cross_c {q : Nat → Prop} {w0 w : World} {L E Em H K : List Ent} (g : Nat) (p : PlL) (bo : Option Nat) (pb : PlL) (aa ba : Option Addr) (ac bc : Nat) (xs ys : List RuL) (fn : FuncId) (ck_fn : callOk Tryz.prog fn) (sum : List Ac → List Ac → List Ac) (hsum : SumC fn sum) (hso : SumOk sum) (hsl : ∀ us vs, (sum us vs).length ≤ us.length + vs.length)
    (hA : PlAt p E Em H K) (hS : St q w0 w (.row g p.cells :: (E ++ (Em ++ (H ++ (K ++ L)))))) (hbut : ButAt q w0 L bo pb) (ha : ∀ w, St q w0 w L → RsAt w aa xs) (hb : ∀ w, St q w0 w L → RsAt w ba ys) (hfa : RsFit 5000 xs) (hfb : RsFit 5000 ys) (hna : xs.length ≤ 100000000) (hnb : ys.length ≤ 100000000) :
    Calls Tryz.prog 173 #[.pointer (some ⟨g, 0, none⟩), ptrB bo, .slice aa xs.length ac, .slice ba ys.length bc, .func (.func fn) #[] #[]] w fun e w' => ∃ (b : Bool) (p' : PlL) (E' Em' H' K' : List Ent), e = .returned (.bool b) ∧ crossD (butD bo pb) sum (ys.map RuL.d) (xs.map RuL.d) p.d = (if b then some p'.d else none) ∧ (p'.mr = p.mr ∧ p'.ma = p.ma) ∧ PlAt p' E' Em' H' K' ∧ St q w0 w' (.row g p'.cells :: (E' ++ (Em' ++ (H' ++ (K' ++ L))))) := by
  have hS0 : St q w0 w L := hS.dropX (.row g p.cells :: (E ++ (Em ++ (H ++ K))))
  generalize hC : crossD (butD bo pb) sum (ys.map RuL.d) (xs.map RuL.d) p.d = C
  generalize hmr : p.mr = MR
  generalize hma : p.ma = MA
  obtain ⟨b41, hb41⟩ : ∃ b, bo.isSome = b := ⟨_, rfl⟩
  refine enter Tryz.func173 rfl Tryz.ntmps173 rfl hS ?_
  refine WC.seq <| WC.region <| WL.v (v_assign rfl rfl) rfl <| WL.nt <| WC.seq <| WC.seq <| WC.region <| WL.v (v_move rfl rfl) rfl <| WL.v (v_len_slice rfl rfl Tryz.underlying34) rfl <| WL.v (v_move rfl rfl) rfl <| WL.nt <| WC.block <| ?_
  refine WC.loop (fun x : CrS => [(19, .int .i64 x.i), (18, .int .i64 xs.length), (17, .slice aa xs.length ac), (0, .pointer (some ⟨g, 0, none⟩)), (1, ptrB bo), (3, .slice ba ys.length bc), (4, .func (.func fn) #[] #[]), (10, .bool false)]) (fun x => .row g x.p.cells :: (x.E ++ (x.Em ++ (x.H ++ (x.K ++ L))))) (fun x => x.i ≤ xs.length ∧ crossD (butD bo pb) sum (ys.map RuL.d) ((xs.drop x.i).map RuL.d) x.p.d = C ∧ (x.p.mr = MR ∧ x.p.ma = MA) ∧ PlAt x.p x.E x.Em x.H x.K) (fun x => xs.length - x.i) ⟨0, p, E, Em, H, K⟩ ⟨Nat.zero_le _, by dsimp only; rw [List.drop_zero]; exact hC, ⟨hmr, hma⟩, hA⟩ (.cons rfl (.cons rfl (.cons rfl (.cons rfl (.cons rfl (.cons rfl (.cons rfl (.cons rfl .nil)))))))) (.refl _) ?_
  rintro ⟨i, p1, E1, Em1, H1, K1⟩ ⟨hi, hc, ⟨hm1, hm2⟩, hA1⟩
  dsimp only at hi hc hm1 hm2 hA1
  dsimp only
  refine WC.seq <| WC.region <| ?_
  refine WL.test (v_lss rfl rfl rfl) (.none rfl) rfl rfl (fun h20 => ?_) (fun h20 => ?_)
  ·
   refine WL.nt <| WC.seq <| WC.cond_t rfl <| WC.skip <| WE.then_n <| ?_
   refine WC.cut (fun x : CrS => [(19, .int .i64 i), (18, .int .i64 xs.length), (17, .slice aa xs.length ac), (0, .pointer (some ⟨g, 0, none⟩)), (1, ptrB bo), (3, .slice ba ys.length bc), (4, .func (.func fn) #[] #[]), (10, .bool false)]) (fun x => .row g x.p.cells :: (x.E ++ (x.Em ++ (x.H ++ (x.K ++ L))))) (fun x => crossD (butD bo pb) sum (ys.map RuL.d) ((xs.drop (i + 1)).map RuL.d) x.p.d = C ∧ (x.p.mr = MR ∧ x.p.ma = MA) ∧ PlAt x.p x.E x.Em x.H x.K) ?_ ?_
   ·
    refine WC.block <| WC.seq <| WC.region <| ?_
    obtain ⟨r, hr⟩ : ∃ x, xs[i]? = some x := ⟨xs[i]'(by omega), List.getElem?_eq_getElem _⟩
    have hrm := List.mem_of_getElem? hr
    have hrf := hfa.fit r hrm
    have hrn := hfa.few r hrm
    obtain ⟨b1, o1, ea1, r1⟩ := RgS (fun w hS => (ha w hS).rd) hS0 (by intro hh; have := rulesL_len xs; rw [hh] at this; simp at this; omega)
    rw [drop_cons hr, List.map_cons, crossD_cons] at hc
    refine WL.v ((v_indexAddr (b := b1) (off := o1) (lo := i) rfl (by show some (Value.slice aa _ _) = _; rw [ea1]) rfl Tryz.underlying34 sz_117 rfl (by omega))) rfl ?_
    refine WL.v (v_loadN (cs := r.cells) rfl rfl many_117 (RuL.len r) (fun w' hS' => Rg.seg RuL.len (r1 w' (hS'.dropX (.row g p1.cells :: (E1 ++ (Em1 ++ (H1 ++ K1)))))) hr)) rfl <| WL.alloc rfl zero_117 (.none rfl) rfl rfl <| ?_
    intro g12 hg12
    refine WL.storeW rfl rfl rfl rfl many_117 rfl rfl (.none rfl) rfl <| WL.as (L' := .row g12 r.cells :: .row g p1.cells :: (E1 ++ (Em1 ++ (H1 ++ (K1 ++ L))))) rfl <| WL.nt <| WC.seq <| WC.region <| WL.v (v_move rfl rfl) rfl <| WL.v (v_len_slice rfl rfl Tryz.underlying34) rfl <| WL.v (v_move rfl rfl) rfl <| WL.nt <| WC.block <| ?_
    refine WC.loop (fun x : CrS => [(25, .int .i64 x.i), (24, .int .i64 ys.length), (23, .slice ba ys.length bc), (12, .pointer (some ⟨g12, 0, none⟩)), (19, .int .i64 i), (18, .int .i64 xs.length), (17, .slice aa xs.length ac), (0, .pointer (some ⟨g, 0, none⟩)), (1, ptrB bo), (3, .slice ba ys.length bc), (4, .func (.func fn) #[] #[]), (10, .bool false)]) (fun x => .row g12 r.cells :: .row g x.p.cells :: (x.E ++ (x.Em ++ (x.H ++ (x.K ++ L))))) (fun x => x.i ≤ ys.length ∧ (crossI (butD bo pb) sum r.d ((ys.drop x.i).map RuL.d) x.p.d).bind (crossD (butD bo pb) sum (ys.map RuL.d) ((xs.drop (i + 1)).map RuL.d)) = C ∧ (x.p.mr = MR ∧ x.p.ma = MA) ∧ PlAt x.p x.E x.Em x.H x.K) (fun x => ys.length - x.i) ⟨0, p1, E1, Em1, H1, K1⟩ ⟨Nat.zero_le _, by dsimp only; rw [List.drop_zero]; exact hc, ⟨hm1, hm2⟩, hA1⟩ (.cons rfl (.cons rfl (.cons rfl (.cons rfl (.cons rfl (.cons rfl (.cons rfl (.cons rfl (.cons rfl (.cons rfl (.cons rfl (.cons rfl .nil)))))))))))) (.refl _) ?_
    rintro ⟨j, p2, E2, Em2, H2, K2⟩ ⟨hj, hd, ⟨hn1, hn2⟩, hA2⟩
    dsimp only at hj hd hn1 hn2 hA2
    dsimp only
    refine WC.seq <| WC.region <| ?_
    refine WL.test (v_lss rfl rfl rfl) (.none rfl) rfl rfl (fun h26 => ?_) (fun h26 => ?_)
    ·
     refine WL.nt <| WC.seq <| WC.cond_t rfl <| WC.skip <| WE.then_n <| WC.seq <| WC.block <| WC.seq <| WC.region <| ?_
     obtain ⟨s, hs⟩ : ∃ x, ys[j]? = some x := ⟨ys[j]'(by omega), List.getElem?_eq_getElem _⟩
     have hsm := List.mem_of_getElem? hs
     have hsf := hfb.fit s hsm
     have hsn := hfb.few s hsm
     obtain ⟨b2, o2, ea2, r2⟩ := RgS (fun w hS => (hb w hS).rd) hS0 (by intro hh; have := rulesL_len ys; rw [hh] at this; simp at this; omega)
     rw [drop_cons hs, List.map_cons, crossI] at hd
     refine WL.v ((v_indexAddr (b := b2) (off := o2) (lo := j) rfl (by show some (Value.slice ba _ _) = _; rw [ea2]) rfl Tryz.underlying34 sz_117 rfl (by omega))) rfl ?_
     refine WL.v (v_loadN (cs := s.cells) rfl rfl many_117 (RuL.len s) (fun w' hS' => Rg.seg RuL.len (r2 w' (hS'.dropX (.row g12 r.cells :: .row g p2.cells :: (E2 ++ (Em2 ++ (H2 ++ K2)))))) hs)) rfl <| WL.alloc rfl zero_117 (.none rfl) rfl rfl <| ?_
     intro g14 hg14
     refine WL.storeW rfl rfl rfl rfl many_117 rfl rfl (.none rfl) rfl <| WL.as (L' := .row g14 s.cells :: .row g12 r.cells :: .row g p2.cells :: (E2 ++ (Em2 ++ (H2 ++ (K2 ++ L))))) rfl <| WL.nt <| WC.seq <| WC.region <| WL.v (v_fieldAddr0 rfl rfl fld_117_0) rfl <| WL.v (v_loadN rfl rfl many_115 rfl (segAt (g := g12) (m := 18) (new := mtL r.m) (ru_match r))) rfl <| WL.v (v_fieldAddr0 rfl rfl fld_117_0) rfl <| WL.v (v_loadN rfl rfl many_115 rfl (segAt (g := g14) (m := 18) (new := mtL s.m) (ru_match s))) rfl <| WL.call rfl rfl ck_135 (.none rfl) rfl rfl <| ?_
     intro w hS
     refine Calls.then (MAnd_c w r.m s.m hrf.isIn.m hsf.isIn.m) hS ?_
     refine WL.v (v_move rfl rfl) rfl <| WL.v (v_extract rfl rfl rfl) rfl <| WL.v (v_extract rfl rfl rfl) rfl <| WL.alloc rfl zero_115 (.none rfl) rfl rfl <| ?_
     intro g15 hg15
     refine WL.storeW rfl rfl rfl rfl many_115 rfl rfl (.none rfl) rfl <| WL.as (L' := .row g15 (mtL ((r.m.and s.m).getD mt0)) :: .row g14 s.cells :: .row g12 r.cells :: .row g p2.cells :: (E2 ++ (Em2 ++ (H2 ++ (K2 ++ L))))) rfl <| WL.v (v_assign rfl rfl) rfl <| WL.nt <| ?_
     refine WC.cut (fun _ : Unit => [(15, .pointer (some ⟨g15, 0, none⟩)), (14, .pointer (some ⟨g14, 0, none⟩)), (25, .int .i64 j), (24, .int .i64 ys.length), (23, .slice ba ys.length bc), (12, .pointer (some ⟨g12, 0, none⟩)), (19, .int .i64 i), (18, .int .i64 xs.length), (17, .slice aa xs.length ac), (0, .pointer (some ⟨g, 0, none⟩)), (1, ptrB bo), (3, .slice ba ys.length bc), (4, .func (.func fn) #[] #[]), (10, .bool false)]) (fun _ => .row g15 (mtL ((r.m.and s.m).getD mt0)) :: .row g14 s.cells :: .row g12 r.cells :: .row g p2.cells :: (E2 ++ (Em2 ++ (H2 ++ (K2 ++ L))))) (fun _ => ∃ m, r.m.and s.m = some m ∧ ¬ (covD (butD bo pb) m ∨ covD p2.d.out m)) ?_ ?_
     ·
      refine WC.seq <| WC.region <| WL.v (v_move rfl rfl) rfl <| ?_
      generalize hb36 : (r.m.and s.m).isSome = bb
      cases bb
      ·
       refine WL.v (v_not rfl rfl rfl) rfl <| WL.v (v_move rfl rfl) rfl <| ?_
       iterate 7 refine WL.sk rfl ?_
       refine WL.v (v_pick_t rfl rfl rfl) rfl <| WL.v (v_move rfl rfl) rfl <| ?_
       iterate 3 refine WL.sk rfl ?_
       refine WL.v (v_pick_t rfl rfl rfl) rfl <| WL.nt <| WC.cond_t rfl <| WC.exit <| WE.then_exit <| WE.block_hit <| WE.then_n <| WC.region <| ?_
       refine WL.v (v_add rfl rfl rfl (w_i64 (by omega) (by omega))) rfl ?_
       refine WL.v (v_move rfl rfl) rfl <| WL.nil <| ?_
       have hno : r.d.m.and s.d.m = none := (by cases h : r.m.and s.m with | none => exact h | some x => rw [h] at hb36; cases hb36)
       rw [hno] at hd
       exact WE.next ⟨j + 1, p2, E2, Em2, H2, K2⟩ (by dsimp only; omega) ⟨by dsimp only; omega, hd, ⟨hn1, hn2⟩, hA2⟩ (.int rfl (by dsimp only; omega) (.cons rfl (.cons rfl (.cons rfl (.cons rfl (.cons rfl (.cons rfl (.cons rfl (.cons rfl (.cons rfl (.cons rfl (.cons rfl .nil)))))))))))) (by repeat (first | exact List.Sublist.refl _ | refine List.Sublist.cons _ ?_))
      ·
       have hmm : ∃ m, r.m.and s.m = some m := (by cases h : r.m.and s.m with | none => rw [h] at hb36; cases hb36 | some x => exact ⟨x, rfl⟩)
       obtain ⟨m, hmm⟩ := hmm
       rw [hmm]
       obtain ⟨hmeet, hmb⟩ := and_some hmm
       have hmI : m.In := (by rw [hmb]; exact Mt.both_in hrf.isIn.m hsf.isIn.m)
       have hmZ : m.Nz := (by rw [hmb]; exact Mt.both_nz hrf.isIn.nz hsf.isIn.nz)
       have hmd : r.d.m.and s.d.m = some m := hmm
       rw [hmd] at hd
       dsimp only [Option.getD] at hd ⊢
       refine WL.v (v_not rfl rfl rfl) rfl <| WL.v (v_move rfl rfl) rfl <| WL.val (v_move rfl rfl) (.some rfl rfl rfl) rfl rfl <| ?_
       refine WL.val (v_neq_nil b41 rfl rfl Tryz.underlying198 (by rw [← hb41]; cases bo <;> rfl)) (.some rfl rfl rfl) rfl rfl ?_
       cases b41
       ·
        refine WL.val (v_move rfl rfl) (.some rfl rfl rfl) rfl rfl ?_
        iterate 3 refine WL.sk rfl ?_
        refine WL.val (v_pick_f rfl rfl rfl) (.some rfl rfl rfl) rfl rfl <| WL.v (v_pick_f rfl rfl rfl) rfl <| WL.v (v_move rfl rfl) rfl <| WL.val (v_move rfl rfl) (.some rfl rfl rfl) rfl rfl <| WL.val (v_loadN rfl rfl many_115 rfl allAt) (.some rfl rfl rfl) rfl rfl <| WL.call rfl rfl ck_136 (.some rfl rfl rfl) rfl rfl <| ?_
        intro w hS
        refine Calls.then (Covers_c w g p2 m (hA2.r hS (by simp) (fun e he => by simp [he]) (fun e he => by simp [he])) hA2.ok hmI (by have := hA2.room; omega)) hS ?_
        generalize hb51 : decide (covD p2.ds m) = bb
        cases bb
        ·
         refine WL.v (v_pick_f rfl rfl rfl) rfl <| WL.nt <| WC.cond_f rfl <| WC.skip <| ?_
         refine WE.mid () ⟨m, rfl, fun k => ?_⟩ (.cons rfl (.cons rfl (.cons rfl (.cons rfl (.cons rfl (.cons rfl (.cons rfl (.cons rfl (.cons rfl (.cons rfl (.cons rfl (.cons rfl (.cons rfl (.cons rfl .nil)))))))))))))) (.refl _)
         rcases k with k | k
         · have e : bo = none := (by cases h : bo with | none => rfl | some x => rw [h] at hb41; cases hb41)
           rw [e] at k
           obtain ⟨x, hx, _⟩ := k
           cases hx
         · exact of_decide_eq_false hb51 k
        ·
         refine WL.v (v_pick_f rfl rfl rfl) rfl <| WL.nt <| WC.cond_t rfl <| WC.exit <| WE.then_exit <| WE.block_hit <| WE.then_n <| WC.region <| ?_
         refine WL.v (v_add rfl rfl rfl (w_i64 (by omega) (by omega))) rfl ?_
         refine WL.v (v_move rfl rfl) rfl <| WL.nil <| ?_
         rw [if_pos (.inr (of_decide_eq_true hb51))] at hd
         exact WE.next ⟨j + 1, p2, E2, Em2, H2, K2⟩ (by dsimp only; omega) ⟨by dsimp only; omega, hd, ⟨hn1, hn2⟩, hA2⟩ (.int rfl (by dsimp only; omega) (.cons rfl (.cons rfl (.cons rfl (.cons rfl (.cons rfl (.cons rfl (.cons rfl (.cons rfl (.cons rfl (.cons rfl (.cons rfl .nil)))))))))))) (by repeat (first | exact List.Sublist.refl _ | refine List.Sublist.cons _ ?_))
       ·
        refine WL.val (v_move rfl rfl) (.some rfl rfl rfl) rfl rfl <| WL.val (v_move rfl rfl) (.some rfl rfl rfl) rfl rfl <| WL.val (v_loadN rfl rfl many_115 rfl allAt) (.some rfl rfl rfl) rfl rfl <| ?_
        obtain ⟨gb, hgb⟩ := Option.isSome_iff_exists.1 hb41
        have hbd : butD bo pb = pb.ds := (by rw [hgb]; rfl)
        refine WL.call rfl rfl ck_136 (.some rfl rfl rfl) rfl rfl ?_
        intro w1 hS1
        have hbo := hbut.ok gb hgb
        rw [show ptrB bo = .pointer (some ⟨gb, 0, none⟩) by rw [hgb]; rfl]
        refine Calls.then (Covers_c w1 gb pb m (hbut.rd gb hgb w1 (hS1.dropX (.row g15 (mtL m) :: .row g14 s.cells :: .row g12 r.cells :: .row g p2.cells :: (E2 ++ (Em2 ++ (H2 ++ K2)))))) hbo.1 hmI hbo.2) hS1 ?_
        generalize hb45 : decide (covD pb.ds m) = bb
        cases bb
        ·
         refine WL.val (v_pick_t rfl rfl rfl) (.some rfl rfl rfl) rfl rfl <| WL.v (v_pick_f rfl rfl rfl) rfl <| WL.v (v_move rfl rfl) rfl <| WL.val (v_move rfl rfl) (.some rfl rfl rfl) rfl rfl <| WL.val (v_loadN rfl rfl many_115 rfl allAt) (.some rfl rfl rfl) rfl rfl <| WL.call rfl rfl ck_136 (.some rfl rfl rfl) rfl rfl <| ?_
         intro w hS
         refine Calls.then (Covers_c w g p2 m (hA2.r hS (by simp) (fun e he => by simp [he]) (fun e he => by simp [he])) hA2.ok hmI (by have := hA2.room; omega)) hS ?_
         generalize hb51 : decide (covD p2.ds m) = bb
         cases bb
         ·
          refine WL.v (v_pick_f rfl rfl rfl) rfl <| WL.nt <| WC.cond_f rfl <| WC.skip <| ?_
          refine WE.mid () ⟨m, rfl, fun k => ?_⟩ (.cons rfl (.cons rfl (.cons rfl (.cons rfl (.cons rfl (.cons rfl (.cons rfl (.cons rfl (.cons rfl (.cons rfl (.cons rfl (.cons rfl (.cons rfl (.cons rfl .nil)))))))))))))) (.refl _)
          rcases k with k | k
          · rw [hbd] at k
            exact of_decide_eq_false hb45 k
          · exact of_decide_eq_false hb51 k
         ·
          refine WL.v (v_pick_f rfl rfl rfl) rfl <| WL.nt <| WC.cond_t rfl <| WC.exit <| WE.then_exit <| WE.block_hit <| WE.then_n <| WC.region <| ?_
          refine WL.v (v_add rfl rfl rfl (w_i64 (by omega) (by omega))) rfl ?_
          refine WL.v (v_move rfl rfl) rfl <| WL.nil <| ?_
          rw [if_pos (.inr (of_decide_eq_true hb51))] at hd
          exact WE.next ⟨j + 1, p2, E2, Em2, H2, K2⟩ (by dsimp only; omega) ⟨by dsimp only; omega, hd, ⟨hn1, hn2⟩, hA2⟩ (.int rfl (by dsimp only; omega) (.cons rfl (.cons rfl (.cons rfl (.cons rfl (.cons rfl (.cons rfl (.cons rfl (.cons rfl (.cons rfl (.cons rfl (.cons rfl .nil)))))))))))) (by repeat (first | exact List.Sublist.refl _ | refine List.Sublist.cons _ ?_))
        ·
         refine WL.val (v_pick_t rfl rfl rfl) (.some rfl rfl rfl) rfl rfl <| WL.v (v_pick_f rfl rfl rfl) rfl <| WL.v (v_move rfl rfl) rfl <| ?_
         iterate 3 refine WL.sk rfl ?_
         refine WL.v (v_pick_t rfl rfl rfl) rfl <| WL.nt <| WC.cond_t rfl <| WC.exit <| WE.then_exit <| WE.block_hit <| WE.then_n <| WC.region <| ?_
         refine WL.v (v_add rfl rfl rfl (w_i64 (by omega) (by omega))) rfl ?_
         refine WL.v (v_move rfl rfl) rfl <| WL.nil <| ?_
         rw [if_pos (.inl (by rw [hbd]; exact of_decide_eq_true hb45))] at hd
         exact WE.next ⟨j + 1, p2, E2, Em2, H2, K2⟩ (by dsimp only; omega) ⟨by dsimp only; omega, hd, ⟨hn1, hn2⟩, hA2⟩ (.int rfl (by dsimp only; omega) (.cons rfl (.cons rfl (.cons rfl (.cons rfl (.cons rfl (.cons rfl (.cons rfl (.cons rfl (.cons rfl (.cons rfl (.cons rfl .nil)))))))))))) (by repeat (first | exact List.Sublist.refl _ | refine List.Sublist.cons _ ?_))
     ·
      rintro _ ⟨m, hmm, hncov⟩
      rw [hmm]
      obtain ⟨hmeet, hmb⟩ := and_some hmm
      have hmI : m.In := (by rw [hmb]; exact Mt.both_in hrf.isIn.m hsf.isIn.m)
      have hmZ : m.Nz := (by rw [hmb]; exact Mt.both_nz hrf.isIn.nz hsf.isIn.nz)
      have hmd : r.d.m.and s.d.m = some m := hmm
      rw [hmd] at hd
      dsimp only [Option.getD] at hd ⊢
      rw [if_neg hncov] at hd
      refine WC.seq <| WC.seq <| WC.held ([.row g15 (mtL m), .row g14 s.cells, .row g12 r.cells]) mixed <| ?_
      refine WRH.first (g := 3) [0, 1, 2, 3, 4, 5, 6] (by kernel_rfl) (by kernel_rfl) (fun w hS => hS.sub (by repeat (first | exact List.Sublist.refl _ | exact List.nil_sublist _ | refine List.Sublist.cons_cons _ ?_ | refine List.Sublist.cons _ ?_ | refine List.sublist_append_of_sublist_right ?_))) ?_
      refine WH.val (v_move rfl rfl) (.none rfl) rfl rfl <| WH.val (v_loadN rfl rfl many_115 rfl allAt) (.none rfl) rfl rfl <| WH.val (v_move rfl rfl) (.none rfl) rfl rfl <| WH.val (v_fieldAddr0 rfl rfl fld_117_1) (.none rfl) rfl rfl <| WH.val (v_load1 rfl rfl one_113 (cellAt (v := .slice r.ad r.acts.length r.c) (ruC_acts r))) (.none rfl) rfl rfl <| WH.val (v_fieldAddr0 rfl rfl fld_117_1) (.none rfl) rfl rfl <| WH.val (v_load1 rfl rfl one_113 (cellAt (v := .slice s.ad s.acts.length s.c) (ruC_acts s))) (.none rfl) rfl rfl <| WH.nil <| ?_
      refine WRH.one (g := 2) 7 (by kernel_rfl) ?_
      refine WL.callV rfl rfl rfl ck_fn (.none rfl) rfl rfl ?_
      intro w1 hS1
      have hSL := hS1.dropX (L' := L) (.row g15 (mtL m) :: .row g14 s.cells :: .row g12 r.cells :: .row g p2.cells :: (E2 ++ (Em2 ++ (H2 ++ K2))))
      refine (hsum w1 r.ad s.ad r.c s.c r.acts s.acts ((ha w1 hSL).ok r hrm) ((hb w1 hSL).ok s hsm) hrn hsn).mono ?_
      rintro e w' ⟨sad, sc, M, rfl, hrd, hS'⟩
      refine ⟨_, .row g15 (mtL m) :: .row g14 s.cells :: .row g12 r.cells :: (M ++ (.row g p2.cells :: (E2 ++ (Em2 ++ (H2 ++ (K2 ++ L)))))), rfl, (hS1.join hS').permX, ?_⟩
      refine WL.nilH (fun w hS => hS.sub (by repeat (first | exact List.Sublist.refl _ | exact List.nil_sublist _ | refine List.Sublist.cons_cons _ ?_ | refine List.Sublist.cons _ ?_ | refine List.sublist_append_of_sublist_right ?_))) ?_
      refine WRH.one (g := 1) 8 (by kernel_rfl) ?_
      refine WL.call rfl rfl ck_137 (.none rfl) rfl rfl ?_
      intro w1 hS1
      have hlen := hsl r.acts s.acts
      refine (Add_c (L := M ++ (.row g15 (mtL m) :: .row g14 s.cells :: .row g12 r.cells :: L)) g p2 m sad sc (sum r.acts s.acts) hA2 hS1.permX hmI hmZ (fun w2 hS2 => ?_) (sum_three hso hrf hsf) (by omega)).mono ?_
      · have hSL := hS2.dropX (L' := L) (.row g p2.cells :: (E2 ++ (Em2 ++ (H2 ++ (K2 ++ (M ++ [.row g15 (mtL m), .row g14 s.cells, .row g12 r.cells]))))))
        exact hrd w2 (fun x hx => hS2.holds x (by simp [hx])) ((ha w2 hSL).ok r hrm) ((hb w2 hSL).ok s hsm)
      rintro e w' ⟨b61, p3, E3, Em3, H3, K3, rfl, hyes, hno, hA3, hS'⟩
      refine ⟨_, .row g15 (mtL m) :: .row g14 s.cells :: .row g12 r.cells :: .row g p3.cells :: (E3 ++ (Em3 ++ (H3 ++ (K3 ++ (M ++ L))))), rfl, hS'.permX, ?_⟩
      skip
      cases b61
      ·
       refine WL.nilH (fun w hS => hS.sub (by repeat (first | exact List.Sublist.refl _ | exact List.nil_sublist _ | refine List.Sublist.cons_cons _ ?_ | refine List.Sublist.cons _ ?_ | refine List.sublist_append_of_sublist_right ?_))) ?_
       refine WRH.first (g := 0) [9] (by kernel_rfl) (by kernel_rfl) (fun w hS => hS.sub (by repeat (first | exact List.Sublist.refl _ | exact List.nil_sublist _ | refine List.Sublist.cons_cons _ ?_ | refine List.Sublist.cons _ ?_ | refine List.sublist_append_of_sublist_right ?_))) ?_
       refine WH.val (v_not rfl rfl rfl) (.none rfl) rfl rfl <| WH.nil <| ?_
       refine WRH.done (by kernel_rfl) ?_
       refine WE.then_n <| WC.cond_t rfl <| WC.seq <| WC.region <| WL.v (v_assign rfl rfl) rfl <| WL.nt <| WC.ret <| WE.then_ret <| WE.block_ret <| WE.then_ret <| WE.then_ret <| WE.block_ret <| WE.block_ret <| WE.then_ret <| ?_
       refine WE.then_ret <| WE.block_ret <| WE.then_ret <| WE.ret1 (P := Tryz.prog) (.inl rfl) Tryz.results173 rfl <| ?_
       obtain ⟨hno1, hno2⟩ := hno rfl
       have hno1 : p2.d.add m (sum r.d.acts s.d.acts) = none := hno1
       rw [hno1] at hd
       dsimp only [Option.bind] at hd
       have e1 : p3.mr = p.mr ∧ p3.ma = p.ma := ⟨(congrArg PlD.mr hno2 :).trans (hn1.trans hmr.symm), (congrArg PlD.ma hno2 :).trans (hn2.trans hma.symm)⟩
       exact fun w' h => ⟨false, p3, E3, Em3, H3, K3, rfl, hd.symm, ⟨e1.1.trans hmr, e1.2.trans hma⟩, hA3, h.dropX (.row g15 (mtL m) :: .row g14 s.cells :: .row g12 r.cells :: M)⟩
      ·
       refine WL.nilH (fun w hS => hS.sub (by repeat (first | exact List.Sublist.refl _ | exact List.nil_sublist _ | refine List.Sublist.cons_cons _ ?_ | refine List.Sublist.cons _ ?_ | refine List.sublist_append_of_sublist_right ?_))) ?_
       refine WRH.first (g := 0) [9] (by kernel_rfl) (by kernel_rfl) (fun w hS => hS.sub (by repeat (first | exact List.Sublist.refl _ | exact List.nil_sublist _ | refine List.Sublist.cons_cons _ ?_ | refine List.Sublist.cons _ ?_ | refine List.sublist_append_of_sublist_right ?_))) ?_
       refine WH.val (v_not rfl rfl rfl) (.none rfl) rfl rfl <| WH.nil <| ?_
       refine WRH.done (by kernel_rfl) ?_
       refine WE.then_n <| WC.cond_f rfl <| WC.skip <| WE.then_n <| WC.seq <| WC.region <| ?_
       have hyes1 : p2.d.add m (sum r.d.acts s.d.acts) = some p3.d := hyes rfl
       rw [hyes1] at hd
       dsimp only at hd
       have hq := PlD.add_some hyes1
       have e1 : p3.mr = MR ∧ p3.ma = MA := ⟨(congrArg PlD.mr hq :).trans hn1, (congrArg PlD.ma hq :).trans hn2⟩
       obtain ⟨b66, hbe⟩ : ∃ c : Bool, c = true ↔ mtL m = mtL r.m := ⟨@decide _ (Classical.propDecidable _), @decide_eq_true_iff _ (Classical.propDecidable _)⟩
       refine WL.v (v_loadN rfl rfl many_115 rfl allAt) rfl <| WL.v (v_fieldAddr0 rfl rfl fld_117_0) rfl <| WL.v (v_loadN rfl rfl many_115 rfl (segAt (g := g12) (m := 18) (new := mtL r.m) (ru_match r))) rfl <| WL.v (v_eql_aggD (b := b66) rfl rfl rfl eqk_115 eqg_115 rfl rfl hbe) rfl <| ?_
       cases b66
       ·
        refine WL.nt <| WC.cond_f rfl <| WC.skip <| WE.block_n <| WE.then_n <| WC.region <| ?_
        refine WL.v (v_add rfl rfl rfl (w_i64 (by omega) (by omega))) rfl ?_
        refine WL.v (v_move rfl rfl) rfl <| WL.nil <| ?_
        rw [if_neg (fun k : m.eqv r.d.m => by have := hbe.2 (mtL_iff.2 k); cases this)] at hd
        refine WE.to (L' := .row g12 r.cells :: .row g p3.cells :: (E3 ++ (Em3 ++ (H3 ++ ((M ++ K3) ++ L))))) (fun w hS => hS.dropX [.row g15 (mtL m), .row g14 s.cells]) ?_
        exact WE.next ⟨j + 1, p3, E3, Em3, H3, M ++ K3⟩ (by dsimp only; omega) ⟨by dsimp only; omega, hd, e1, ⟨hA3.out, hA3.masks, hA3.map, fun r hr => (hA3.own r hr).more, hA3.ok, hA3.room⟩⟩ (.int rfl (by dsimp only; omega) (.cons rfl (.cons rfl (.cons rfl (.cons rfl (.cons rfl (.cons rfl (.cons rfl (.cons rfl (.cons rfl (.cons rfl (.cons rfl .nil)))))))))))) (.refl _)
       ·
        refine WL.nt <| WC.cond_t rfl <| WC.exit <| WE.block_miss rfl <| WE.then_exit <| WE.then_exit <| WE.block_hit <| WE.block_n <| ?_
        rw [if_pos (show m.eqv r.d.m from mtL_iff.1 (hbe.1 rfl))] at hd
        refine WE.to (L' := .row g p3.cells :: (E3 ++ (Em3 ++ (H3 ++ ((M ++ K3) ++ L))))) (fun w hS => hS.dropX [.row g15 (mtL m), .row g14 s.cells, .row g12 r.cells]) ?_
        exact WE.mid ⟨i, p3, E3, Em3, H3, M ++ K3⟩ ⟨hd, e1, ⟨hA3.out, hA3.masks, hA3.map, fun r hr => (hA3.own r hr).more, hA3.ok, hA3.room⟩⟩ (.cons rfl (.cons rfl (.cons rfl (.cons rfl (.cons rfl (.cons rfl (.cons rfl (.cons rfl .nil)))))))) (.refl _)
    ·
     refine WL.nt <| WC.seq <| WC.cond_f rfl <| WC.exit <| WE.then_exit <| WE.then_exit <| WE.block_hit <| WE.block_n <| ?_
     obtain rfl : j = ys.length := (by omega)
     rw [List.drop_length] at hd
     exact WE.mid ⟨i, p2, E2, Em2, H2, K2⟩ ⟨hd, ⟨hn1, hn2⟩, hA2⟩ (.cons rfl (.cons rfl (.cons rfl (.cons rfl (.cons rfl (.cons rfl (.cons rfl (.cons rfl .nil)))))))) (by repeat (first | exact List.Sublist.refl _ | refine List.Sublist.cons _ ?_))
   ·
    rintro ⟨_, p4, E4, Em4, H4, K4⟩ ⟨hc4, ⟨ho1, ho2⟩, hA4⟩
    dsimp only at hc4 ho1 ho2 hA4
    dsimp only
    refine WC.region ?_
    refine WL.v (v_add rfl rfl rfl (w_i64 (by omega) (by omega))) rfl ?_
    refine WL.v (v_move rfl rfl) rfl <| WL.nil <| ?_
    exact WE.next ⟨i + 1, p4, E4, Em4, H4, K4⟩ (by dsimp only; omega) ⟨by dsimp only; omega, hc4, ⟨ho1, ho2⟩, hA4⟩ (.int rfl (by dsimp only; omega) (.cons rfl (.cons rfl (.cons rfl (.cons rfl (.cons rfl (.cons rfl (.cons rfl .nil)))))))) (.refl _)
  ·
   refine WL.nt <| WC.seq <| WC.cond_f rfl <| WC.exit <| WE.then_exit <| WE.then_exit <| WE.block_hit <| WE.then_n <| WC.seq <| WC.region <| WL.v (v_assign rfl rfl) rfl <| WL.nt <| WC.ret <| WE.ret1 (P := Tryz.prog) (.inl rfl) Tryz.results173 rfl <| ?_
   obtain rfl : i = xs.length := (by omega)
   rw [List.drop_length] at hc
   exact fun w' h => ⟨true, p1, E1, Em1, H1, K1, rfl, hc.symm, ⟨hm1, hm2⟩, hA1, h⟩
theorem RsAt.frm {w w' : World} {ad : Option Addr} {xs : List RuL} (h : RsAt w ad xs) (hF : Frm (fun _ => False) w w') : RsAt w' ad xs := ⟨h.rd.frm hF (fun _ _ _ h => h), fun r hr => (h.ok r hr).frm hF (fun _ _ _ h => h)⟩
/-- Rules that were made: as data; where they lie. -/
def RsC (w w' : World) (ds : List RuD) (e : Ending) : Prop := ∃ ad c E K, ∃ ls : List RuL, e = .returned (.slice ad ls.length c) ∧ ls.map RuL.d = ds ∧ Vec 19 ad ls.length c (rulesL ls) E ∧ (∀ r ∈ ls, RuOwn K r) ∧ (∀ d ∈ ds, d.Fit) ∧ ls.length ≤ 100000000 ∧ St (fun _ => False) w w' (E ++ K)
theorem RsC.none_ {w w' : World} (h : St (fun _ => False) w w' []) : RsC w w' [] (.returned (.slice none 0 0)) := ⟨none, 0, [], [], [], rfl, rfl, Vec.nil 19, fun r h => (by cases h), fun r h => (by cases h), Nat.zero_le _, h⟩
theorem Cross_c (w : World) (aa ba : Option Addr) (ac bc : Nat) (xs ys : List RuL) (fn : FuncId) (ck_fn : callOk Tryz.prog fn) (sum : List Ac → List Ac → List Ac) (hsum : SumC fn sum) (hso : SumOk sum) (hsl : ∀ us vs, (sum us vs).length ≤ us.length + vs.length) (mr ma : Int) (hmr : 0 ≤ mr ∧ mr ≤ 4194304) (hma : 0 ≤ ma ∧ ma ≤ 16777216)
    (ha : RsAt w aa xs) (hb : RsAt w ba ys) (hfa : RsFit 5000 xs) (hfb : RsFit 5000 ys) (hna : xs.length ≤ 100000000) (hnb : ys.length ≤ 100000000) :
    Calls Tryz.prog 130 #[.slice aa xs.length ac, .slice ba ys.length bc, .func (.func fn) #[] #[], .agg #[.int .i64 mr, .int .i64 ma]] w fun e w' => RsC w w' (outD (crossD [] sum (ys.map RuL.d) (xs.map RuL.d) ⟨mr, ma, []⟩)) e := by
  refine enter Tryz.func130 rfl Tryz.ntmps130 rfl (St.start (fun _ => False) w) ?_
  refine WC.seq <| WC.region <| WL.box rfl rfl rfl (.none rfl) rfl rfl <| ?_
  intro g7 hg7
  refine WL.v (v_assign rfl rfl) rfl <| WL.nt <| WC.seq <| WC.region <| WL.v (v_loadN rfl rfl many_194 rfl allAt) rfl <| WL.call rfl rfl ck_134 (.none rfl) rfl rfl <| ?_
  intro w1 hS
  refine (PNew_c w1 mr ma).mono ?_
  rintro e w' ⟨gp, rfl, hS'⟩
  refine ⟨_, .row gp (PlL.cells ⟨mr, ma, none, 0, [], none, 0, [], none, #[], 0⟩) :: ([] ++ ([] ++ ([] ++ ([] ++ [Ent.row g7 [.int .i64 mr, .int .i64 ma]])))), rfl, (by simpa using hS.join hS'), ?_⟩
  refine WL.v (v_assign rfl rfl) rfl <| WL.nt <| WC.seq <| WC.seq <| WC.region <| WL.v (v_move rfl rfl) rfl <| WL.v (v_move rfl rfl) rfl <| WL.v (v_move rfl rfl) rfl <| WL.v (v_move rfl rfl) rfl <| WL.call rfl rfl ck_173 (.none rfl) rfl rfl <| ?_
  intro w1 hS
  refine (cross_c (L := [.row g7 [.int .i64 mr, .int .i64 ma]]) gp ⟨mr, ma, none, 0, [], none, 0, [], none, #[], 0⟩ none ⟨mr, ma, none, 0, [], none, 0, [], none, #[], 0⟩ aa ba ac bc xs ys fn ck_fn sum hsum hso hsl (PlAt.new mr ma hmr hma) hS ⟨fun gb h => (by cases h), fun gb h => (by cases h)⟩ (fun w2 h2 => ha.frm h2.frm) (fun w2 h2 => hb.frm h2.frm) hfa hfb hna hnb).mono ?_
  rintro e w' ⟨b, p', E', Em', H', K', rfl, hC, ⟨hq1, hq2⟩, hA, hS'⟩
  have hC : crossD [] sum (ys.map RuL.d) (xs.map RuL.d) ⟨mr, ma, []⟩ = (if b then some p'.d else none) := hC
  refine ⟨_, _, rfl, hS', ?_⟩
  skip
  cases b
  ·
   refine WL.v (v_not rfl rfl rfl) rfl <| WL.nt <| WC.cond_t rfl <| WC.seq <| WC.region <| WL.v (v_assign rfl rfl) rfl <| WL.nt <| WC.ret <| WE.then_ret <| WE.ret1 (P := Tryz.prog) (.inl rfl) Tryz.results130 rfl <| ?_
   rw [hC]
   exact fun w' h => RsC.none_ (h.sub (List.nil_sublist _))
  ·
   refine WL.v (v_not rfl rfl rfl) rfl <| WL.nt <| WC.cond_f rfl <| WC.skip <| WE.then_n <| WC.seq <| WC.region <| WL.v (v_move rfl rfl) rfl <| WL.v (v_nilCheck rfl rfl) rfl <| WL.v (v_fieldAddr0 rfl rfl fld_234_1) rfl <| WL.v (v_load1 rfl rfl one_34 (cellAt (v := .slice p'.ad p'.ls.length p'.c) rfl)) rfl <| WL.v (v_assign rfl rfl) rfl <| WL.nt <| WC.ret <| ?_
   refine WE.ret1 (P := Tryz.prog) (.inl rfl) Tryz.results130 rfl ?_
   rw [hC]
   have hrm := hA.room
   exact fun w' h => ⟨p'.ad, p'.c, E', K', p'.ls, rfl, rfl, hA.out, hA.own, fun d hd => hA.ok.fit d hd, by omega, h.dropX (.row gp p'.cells :: (Em' ++ (H' ++ [.row g7 [.int .i64 mr, .int .i64 ma]])))⟩
end Go.Proofs.YtkeonnnhogaggaaGreatDoor
/- pile: ahead and Behind. -/
namespace Go.Proofs.YtkeonnnhogaggaaGreatDoor
open Go.RowKit

theorem aheadK_none {a : Ac} {m : Mt} {k : Nat} (h : aheadK a m k = none) : ∀ j, aheadK a m (k + j) = none
  | 0 => h
  | j + 1 => by
    show aheadK a m (k + j + 1) = none
    rw [aheadK, aheadK_none h j]
theorem aheadD_none {a : Ac} {r : RuD} {l : List RuD} (h : aheadK a r.m 9 = none) : aheadD a (r :: l) = aheadD a l := by rw [aheadD, h]
theorem aheadD_some {a : Ac} {r : RuD} {l : List RuD} {m : Mt} (h : aheadK a r.m 9 = some m) : aheadD a (r :: l) = ⟨m, r.acts.map a.then⟩ :: aheadD a l := by rw [aheadD, h]
theorem rsAt_of {q : Nat → Prop} {w0 w : World} {L E K : List Ent} {ad : Option Addr} {c : Nat} {ls : List RuL} (hV : Vec 19 ad ls.length c (rulesL ls) E) (hK : ∀ r ∈ ls, RuOwn K r) (hS : St q w0 w L) (h1 : ∀ e ∈ E, e ∈ L) (h2 : ∀ e ∈ K, e ∈ L) : RsAt w ad ls :=
  ⟨hV.rg fun e he => hS.holds e (h1 e he), fun r hr => by obtain ⟨E', hV', hE'⟩ := hK r hr; exact hV'.rg fun e he => hS.holds e (h2 e (hE' e he))⟩
structure AhS where
  i : Nat
  ls : List RuL
  ad : Option Addr
  c : Nat
  E : List Ent
  K : List Ent
structure AhT where
  j : Nat
  ad : Option Addr
  c : Nat
  E : List Ent
set_option maxRecDepth 8000 in
set_option maxHeartbeats 4000000 in
theorem ahead_c (w : World) (a : Ac) (aI : a.In) (aZ : a.Nz) (aO : a.Ok) (xa : Option Addr) (xc : Nat) (xs : List RuL) (hx : RsAt w xa xs) (hf : RsFit 5000 xs) (hn : xs.length ≤ 100000000) :
    Calls Tryz.prog 174 #[acV a, .slice xa xs.length xc] w fun e w' => RsC w w' (aheadD a (xs.map RuL.d)) e := by
  have hFit := aheadD_fit aI aZ aO (xs.map RuL.d) (fun r hr => by obtain ⟨y, hy, rfl⟩ := List.mem_map.1 hr; exact hf.fit y hy)
  generalize hC : aheadD a (xs.map RuL.d) = C
  rw [hC] at hFit
  refine enter Tryz.func174 rfl Tryz.ntmps174 rfl (St.start (fun _ => False) w) ?_
  refine WC.seq <| WC.region <| WL.box rfl rfl rfl (.none rfl) rfl rfl <| ?_
  intro g2 hg2
  refine WL.v (v_assign rfl rfl) rfl <| WL.nt <| WC.scope <| WC.seq <| WC.region <| WL.v (v_assign rfl rfl) rfl <| WL.nt <| WC.seq <| WC.label <| WE.then_n <| WC.seq <| WC.seq <| WC.region <| WL.v (v_move rfl rfl) rfl <| ?_
  refine WL.v (v_len_slice rfl rfl Tryz.underlying34) rfl <| WL.v (v_move rfl rfl) rfl <| WL.nt <| WC.block <| ?_
  refine WC.loop (fun x : AhS => [(15, .int .i64 x.i), (14, .int .i64 xs.length), (13, .slice xa xs.length xc), (2, .pointer (some ⟨g2, 0, none⟩)), (5, .slice x.ad x.ls.length x.c), (4, .slice none 0 0)]) (fun x => x.E ++ (x.K ++ [.row g2 (acL a)])) (fun x => x.i ≤ xs.length ∧ x.ls.length ≤ x.i ∧ x.ls.map RuL.d ++ aheadD a ((xs.drop x.i).map RuL.d) = C ∧ Vec 19 x.ad x.ls.length x.c (rulesL x.ls) x.E ∧ ∀ r ∈ x.ls, RuOwn x.K r) (fun x => xs.length - x.i) ⟨0, [], none, 0, [], []⟩ ⟨Nat.zero_le _, Nat.zero_le _, by dsimp only; rw [List.drop_zero]; exact hC, Vec.nil 19, fun r h => (by cases h)⟩ (.cons rfl (.cons rfl (.cons rfl (.cons rfl (.cons rfl (.cons rfl .nil)))))) (.refl _) ?_
  rintro ⟨i, ls, ad, c, E, K⟩ ⟨hi, hl, hc, hV, hK⟩
  dsimp only at hi hl hc hV hK
  dsimp only
  refine WC.seq <| WC.region <| ?_
  refine WL.test (v_lss rfl rfl rfl) (.none rfl) rfl rfl (fun h16 => ?_) (fun h16 => ?_)
  ·
   refine WL.nt <| WC.seq <| WC.cond_t rfl <| WC.skip <| WE.then_n <| WC.seq <| WC.block <| WC.seq <| WC.region <| ?_
   obtain ⟨r, hr⟩ : ∃ x, xs[i]? = some x := ⟨xs[i]'(by omega), List.getElem?_eq_getElem _⟩
   have hrm := List.mem_of_getElem? hr
   have hrf := hf.fit r hrm
   have hrn := hf.few r hrm
   obtain ⟨b1, o1, ea1, r1⟩ := hx.rd (by intro hh; have := rulesL_len xs; rw [hh] at this; simp at this; omega)
   rw [drop_cons hr, List.map_cons] at hc
   refine WL.v ((v_indexAddr (b := b1) (off := o1) (lo := i) rfl (by show some (Value.slice xa _ _) = _; rw [ea1]) rfl Tryz.underlying34 sz_117 rfl (by omega))) rfl ?_
   refine WL.v (v_loadN (cs := r.cells) rfl rfl many_117 (RuL.len r) (rgIn (fun h => h) (Rg.seg RuL.len r1 hr))) rfl <| WL.alloc rfl zero_117 (.none rfl) rfl rfl <| ?_
   intro g7 hg7
   refine WL.storeW rfl rfl rfl rfl many_117 rfl rfl (.none rfl) rfl <| WL.as (L' := .row g7 r.cells :: (E ++ (K ++ [.row g2 (acL a)]))) rfl <| WL.nt <| WC.seq <| WC.region <| WL.v (v_fieldAddr0 rfl rfl fld_117_0) rfl <| WL.v (v_loadN rfl rfl many_115 rfl (segAt (g := g7) (m := 18) (new := mtL r.m) (ru_match r))) rfl <| WL.alloc rfl zero_115 (.none rfl) rfl rfl <| ?_
   intro g8 hg8
   refine WL.storeW rfl rfl rfl rfl many_115 rfl rfl (.none rfl) rfl <| WL.as (L' := .row g8 (mtL r.m) :: .row g7 r.cells :: (E ++ (K ++ [.row g2 (acL a)]))) rfl <| WL.nt <| WC.seq <| WC.seq <| WC.region <| WL.v (v_assign rfl rfl) rfl <| WL.nt <| WC.block <| WC.loop (fun x : Nat × Mt => [(9, .int .i64 x.1), (8, .pointer (some ⟨g8, 0, none⟩)), (7, .pointer (some ⟨g7, 0, none⟩)), (15, .int .i64 i), (14, .int .i64 xs.length), (13, .slice xa xs.length xc), (2, .pointer (some ⟨g2, 0, none⟩)), (5, .slice ad ls.length c), (4, .slice none 0 0)]) (fun x => .row g8 (mtL x.2) :: .row g7 r.cells :: (E ++ (K ++ [.row g2 (acL a)]))) (fun x => x.1 ≤ 9 ∧ aheadK a r.m x.1 = some x.2) (fun x => 9 - x.1) (0, r.m) ⟨Nat.zero_le _, rfl⟩ (.cons rfl (.cons rfl (.cons rfl (.cons rfl (.cons rfl (.cons rfl (.cons rfl (.cons rfl (.cons rfl .nil))))))))) (.refl _) <| ?_
   rintro ⟨k, m⟩ ⟨hk, hm⟩
   dsimp only at hk hm
   dsimp only
   have hmI := (aheadK_in hrf.isIn.m hrf.isIn.nz k m hm).1
   refine WC.seq <| WC.seq <| WC.region <| WL.v (v_move rfl rfl) rfl <| ?_
   refine WL.test (v_lss rfl rfl rfl) (.none rfl) rfl rfl (fun h22 => ?_) (fun h22 => ?_)
   ·
    refine WL.nt <| WC.cond_t rfl <| WC.skip <| WE.then_n <| WC.seq <| WC.block <| WC.seq <| WC.seq <| WC.region <| WL.v (v_fieldAddr0 rfl rfl fld_110_0) rfl <| WL.v (v_load1 rfl rfl one_3 (cellAt (v := .int .i64 a.set) rfl)) rfl <| WL.v (v_move rfl rfl) rfl <| ?_
    refine WL.v (v_shr (m := k) (c := (2 : Int) ^ k) rfl rfl rfl rfl (by show k ≤ 64; omega) rfl) rfl ?_
    refine WL.v (v_and rfl rfl rfl (mask_i64' (i := 1) (m := 2) (by decide) (by decide) (by decide))) rfl ?_
    refine WL.test (v_eql rfl rfl rfl) (.none rfl) rfl rfl (fun h30 => ?_) (fun h30 => ?_)
    ·
     refine WL.nt <| WC.cond_t rfl <| WC.exit <| WE.then_exit <| WE.block_hit <| WE.then_n <| WC.region <| WL.v (v_move rfl rfl) rfl <| ?_
     refine WL.v (v_add rfl rfl rfl (w_i64 (by omega) (by omega))) rfl ?_
     refine WL.v (v_assign rfl rfl) rfl <| WL.nil <| ?_
     have hs : ¬ a.sets k := (by have h : a.set / 2 ^ k % 2 = 0 := h30; show ¬ a.set / 2 ^ k % 2 = 1; omega)
     exact WE.next (k + 1, m) (by dsimp only; omega) ⟨by dsimp only; omega, by dsimp only; rw [aheadK, hm]; exact if_neg hs⟩ (.int rfl (by dsimp only; omega) (.cons rfl (.cons rfl (.cons rfl (.cons rfl (.cons rfl (.cons rfl (.cons rfl (.cons rfl .nil))))))))) (.refl _)
    ·
     refine WL.nt <| WC.cond_f rfl <| WC.skip <| WE.then_n <| WC.seq <| WC.seq <| ?_
     refine WC.quiet mixed (by kernel_rfl) ?_
     refine WQ.val (v_move rfl rfl) (.none rfl) rfl rfl <| WQ.val (v_fieldAddr0 rfl rfl fld_110_1) (.none rfl) rfl rfl <| ?_
     refine WQ.val (v_indexAddrA (lo := k) rfl rfl rfl Tryz.underlying108 sz_23 (by omega) (by omega)) (.none rfl) rfl rfl ?_
     refine WQ.val (v_load1 rfl rfl one_23 (cellAt (acL_get a (by omega)))) (.none rfl) rfl rfl ?_
     refine WQ.val (v_move rfl rfl) (.none rfl) rfl rfl <| WQ.val (v_fieldAddr0 rfl rfl fld_115_1) (.none rfl) rfl rfl <| ?_
     refine WQ.val (v_indexAddrA (lo := k) rfl rfl rfl Tryz.underlying108 sz_23 (by omega) (by omega)) (.none rfl) rfl rfl ?_
     refine WQ.val (v_load1 rfl rfl one_23 (cellAt (mtL_mask m (by omega)))) (.none rfl) rfl rfl ?_
     refine WQ.val (v_and rfl rfl rfl (bits_and_u64 (aI.val k).1 (aI.val k).2 (hmI.mask k).1 (hmI.mask k).2)) (.none rfl) rfl rfl <| WQ.val (v_move rfl rfl) (.none rfl) rfl rfl <| WQ.val (v_fieldAddr0 rfl rfl fld_115_0) (.none rfl) rfl rfl <| ?_
     refine WQ.val (v_indexAddrA (lo := k) rfl rfl rfl Tryz.underlying108 sz_23 (by omega) (by omega)) (.none rfl) rfl rfl ?_
     refine WQ.val (v_load1 rfl rfl one_23 (cellAt (mtL_val m (by omega)))) (.none rfl) rfl rfl ?_
     refine WQ.test (v_neq rfl rfl rfl) (.none rfl) rfl rfl (fun h44 => ?_) (fun h44 => ?_)
     ·
      refine WQ.nil <| WE.then_n <| WC.cond_t rfl <| WC.exit <| WE.then_exit <| WE.block_miss rfl <| WE.then_exit <| WE.then_exit <| WE.block_miss rfl <| WE.then_exit <| WE.block_hit <| WE.then_n <| WC.region <| ?_
      refine WL.v (v_add rfl rfl rfl (w_i64 (by omega) (by omega))) rfl ?_
      refine WL.v (v_move rfl rfl) rfl <| WL.nil <| ?_
      have hs : a.sets k := (by have h : ¬ a.set / 2 ^ k % 2 = 0 := h30; show a.set / 2 ^ k % 2 = 1; omega)
      have hno : aheadK a r.d.m 9 = none := (by
        have h1 : aheadK a r.m (k + 1) = none := (by rw [aheadK, hm]; dsimp only; rw [if_pos hs, if_pos h44])
        have := aheadK_none h1 (9 - (k + 1))
        rwa [show k + 1 + (9 - (k + 1)) = 9 by omega] at this)
      rw [aheadD_none hno] at hc
      exact WE.next ⟨i + 1, ls, ad, c, E, K⟩ (by dsimp only; omega) ⟨by dsimp only; omega, by dsimp only; omega, hc, hV, hK⟩ (.int rfl (by dsimp only; omega) (.cons rfl (.cons rfl (.cons rfl (.cons rfl (.cons rfl .nil)))))) (by repeat (first | exact List.Sublist.refl _ | refine List.Sublist.cons _ ?_))
     ·
      refine WQ.nil <| WE.then_n <| WC.cond_f rfl <| WC.skip <| WE.then_n <| WC.region <| WL.v (v_loadN rfl rfl many_115 rfl allAt) rfl <| WL.v (v_move rfl rfl) rfl <| WL.call rfl rfl ck_196 (.none rfl) rfl rfl <| ?_
      intro w hS
      refine Calls.then (MWithout_c w m k (by omega)) hS ?_
      refine WL.storeW rfl rfl rfl rfl many_115 rfl rfl (.none rfl) rfl <| WL.nil <| WE.block_n <| WE.then_n <| WC.region <| WL.v (v_move rfl rfl) rfl <| ?_
      refine WL.v (v_add rfl rfl rfl (w_i64 (by omega) (by omega))) rfl ?_
      refine WL.v (v_assign rfl rfl) rfl <| WL.nil <| ?_
      have hs : a.sets k := (by have h : ¬ a.set / 2 ^ k % 2 = 0 := h30; show a.set / 2 ^ k % 2 = 1; omega)
      exact WE.next (k + 1, m.without k) (by dsimp only; omega) ⟨by dsimp only; omega, by dsimp only; rw [aheadK, hm]; dsimp only; rw [if_pos hs, if_neg h44]⟩ (.int rfl (by dsimp only; omega) (.cons rfl (.cons rfl (.cons rfl (.cons rfl (.cons rfl (.cons rfl (.cons rfl (.cons rfl .nil))))))))) (.refl _)
   ·
    refine WL.nt <| WC.cond_f rfl <| WC.exit <| WE.then_exit <| WE.then_exit <| WE.block_hit <| WE.then_n <| WC.seq <| WC.region <| ?_
    obtain rfl : k = 9 := (by omega)
    rw [aheadD_some (show aheadK a r.d.m 9 = some m from hm)] at hc
    refine WL.v (v_fieldAddr0 rfl rfl fld_117_1) rfl <| WL.v (v_load1 rfl rfl one_113 (cellAt (v := .slice r.ad r.acts.length r.c) (ruC_acts r))) rfl <| WL.v (v_len_slice rfl rfl Tryz.underlying113) rfl <| ?_
    refine WL.makeN (m := 0) (c := r.acts.length) rfl rfl rfl (by omega) (by omega) (by omega) Tryz.underlying113 by_110 (by omega) (by omega) sz_110 zero_110 rfl (.none rfl) rfl rfl ?_
    intro g51 hg51
    generalize hZ : List.flatten _ = Z
    have hV0 : Vec 10 (some ⟨g51, 0, none⟩) 0 r.acts.length [] [.row g51 Z] := Vec.row (by rw [Nat.zero_mul]; rfl) (by rw [← hZ]; exact flat_len rfl _) (Nat.zero_le _)
    refine WL.to (L' := [.row g51 Z] ++ (.row g8 (mtL m) :: .row g7 r.cells :: (E ++ (K ++ [.row g2 (acL a)])))) (fun w hS => hS) <| WL.v (v_assign rfl rfl) rfl <| WL.nt <| WC.seq <| WC.seq <| WC.region <| WL.v (v_fieldAddr0 rfl rfl fld_117_1) rfl <| WL.v (v_load1 rfl rfl one_113 (cellAt (v := .slice r.ad r.acts.length r.c) (ruC_acts r))) rfl <| WL.v (v_len_slice rfl rfl Tryz.underlying113) rfl <| WL.v (v_move rfl rfl) rfl <| WL.nt <| WC.block <| WC.loop (fun x : AhT => [(55, .int .i64 x.j), (54, .int .i64 r.acts.length), (53, .slice r.ad r.acts.length r.c), (10, .slice x.ad x.j x.c), (8, .pointer (some ⟨g8, 0, none⟩)), (7, .pointer (some ⟨g7, 0, none⟩)), (15, .int .i64 i), (14, .int .i64 xs.length), (13, .slice xa xs.length xc), (2, .pointer (some ⟨g2, 0, none⟩)), (5, .slice ad ls.length c), (4, .slice none 0 0)]) (fun x => x.E ++ (.row g8 (mtL m) :: .row g7 r.cells :: (E ++ (K ++ [.row g2 (acL a)])))) (fun x => x.j ≤ r.acts.length ∧ Vec 10 x.ad x.j x.c (actsL ((r.acts.take x.j).map a.then)) x.E) (fun x => r.acts.length - x.j) ⟨0, some ⟨g51, 0, none⟩, r.acts.length, [.row g51 Z]⟩ ⟨Nat.zero_le _, hV0⟩ (.cons rfl (.cons rfl (.cons rfl (.cons rfl (.cons rfl (.cons rfl (.cons rfl (.cons rfl (.cons rfl (.cons rfl (.cons rfl (.cons rfl .nil)))))))))))) (.refl _) <| ?_
    rintro ⟨j, ad2, c2, E2⟩ ⟨hj, hV2⟩
    dsimp only at hj hV2
    dsimp only
    refine WC.seq <| WC.region <| ?_
    refine WL.test (v_lss rfl rfl rfl) (.none rfl) rfl rfl (fun h56 => ?_) (fun h56 => ?_)
    ·
     refine WL.nt <| WC.seq <| WC.cond_t rfl <| WC.skip <| WE.then_n <| WC.seq <| WC.block <| WC.seq <| WC.region <| ?_
     obtain ⟨b, hb⟩ : ∃ x, r.acts[j]? = some x := ⟨r.acts[j]'(by omega), List.getElem?_eq_getElem _⟩
     obtain ⟨b2, o2, ea2, r2⟩ := (hx.ok r hrm) (by intro hh; have := actsL_len r.acts; rw [hh] at this; simp at this; omega)
     have hbt := hrf.three (List.mem_of_getElem? hb)
     refine WL.v ((v_indexAddr (b := b2) (off := o2) (lo := j) rfl (by show some (Value.slice r.ad _ _) = _; rw [ea2]) rfl Tryz.underlying113 sz_110 rfl (by omega))) rfl ?_
     refine WL.v (v_loadN (cs := acL b) rfl rfl many_110 (acL_len b) (rgIn (fun h => h) (Rg.seg acL_len r2 hb))) rfl <| WL.alloc rfl zero_110 (.none rfl) rfl rfl <| ?_
     intro g12 hg12
     refine WL.storeW rfl rfl rfl rfl many_110 rfl rfl (.none rfl) rfl <| WL.as (L' := .row g12 (acL b) :: (E2 ++ (.row g8 (mtL m) :: .row g7 r.cells :: (E ++ (K ++ [.row g2 (acL a)]))))) rfl <| WL.nt <| WC.region <| WL.v (v_move rfl rfl) rfl <| WL.v (v_loadN rfl rfl many_110 rfl (allAt (g := g2))) rfl <| WL.v (v_loadN rfl rfl many_110 rfl (allAt (g := g12))) rfl <| WL.call rfl rfl ck_197 (.none rfl) rfl rfl <| ?_
     intro w hS
     refine Calls.then (Then_c w a b aO hbt.2.2) hS ?_
     refine WL.buildSlice rfl rfl Tryz.underlying113 sz_110 zero_110 rfl (by decide) (by show some (splice (List.replicate 1 _).flatten 0 (acL (a.then b))) = some (acL (a.then b)); exact congrArg some (splice_all rfl)) (.none rfl) rfl rfl ?_
     intro g63 hg63
     refine WL.to (L' := E2 ++ (.row g63 (acL (a.then b)) :: .row g8 (mtL m) :: .row g7 r.cells :: (E ++ (K ++ [.row g2 (acL a)])))) (fun w hS => hS.dropX [.row g12 (acL b)]) ?_
     refine WL.appendL rfl rfl rfl Tryz.underlying113 Tryz.underlying113 sz_110 by_110 zero_110 rfl rfl hV2 (new := acL (a.then b)) (fun _ => ⟨g63, 0, rfl, fun w hS => allAt (g := g63) w hS⟩) rfl rfl (by omega) (.none rfl) rfl rfl ?_
     intro ad64 c64 E64 hV64 hr64
     refine WL.v (v_assign rfl rfl) rfl <| WL.nil <| WE.block_n <| WE.then_n <| WC.region <| ?_
     refine WL.v (v_add rfl rfl rfl (w_i64 (by omega) (by omega))) rfl ?_
     refine WL.v (v_move rfl rfl) rfl <| WL.nil <| WE.to (L' := E64 ++ (.row g8 (mtL m) :: .row g7 r.cells :: (E ++ (K ++ [.row g2 (acL a)])))) (fun w hS => hS.dropX [.row g63 (acL (a.then b))]) <| ?_
     exact WE.next ⟨j + 1, ad64, c64, E64⟩ (by dsimp only; omega) ⟨by dsimp only; omega, by dsimp only; rw [List.take_add_one, hb, Option.toList_some, List.map_append, show actsL (List.map a.then (List.take j r.acts) ++ List.map a.then [b]) = actsL (List.map a.then (List.take j r.acts)) ++ acL (a.then b) from encL_snoc _ _ _]; exact hV64⟩ (.int rfl (by dsimp only; omega) (.cons rfl (.cons rfl (.cons rfl (.cons rfl (.cons rfl (.cons rfl (.cons rfl (.cons rfl (.cons rfl (.cons rfl (.cons rfl .nil)))))))))))) (.refl _)
    ·
     refine WL.nt <| WC.seq <| WC.cond_f rfl <| WC.exit <| WE.then_exit <| WE.then_exit <| WE.block_hit <| WE.then_n <| WC.region <| ?_
     obtain rfl : j = r.acts.length := (by omega)
     rw [List.take_length] at hV2
     have hml : (r.acts.map a.then).length = r.acts.length := List.length_map _
     rw [← hml] at hV2
     rw [← hml]
     refine WL.v (v_move rfl rfl) rfl <| WL.v (v_loadN rfl rfl many_115 rfl allAt) rfl <| WL.v (v_move rfl rfl) rfl <| WL.v (v_build rfl rfl zero_117 plc_117 rfl) rfl <| ?_
     refine WL.buildSlice rfl rfl Tryz.underlying34 sz_117 zero_117 rfl (by decide) (by show some (splice (List.replicate 1 _).flatten 0 (RuL.cells ⟨m, ad2, c2, r.acts.map a.then⟩)) = some (RuL.cells ⟨m, ad2, c2, r.acts.map a.then⟩); exact congrArg some (splice_all rfl)) (.none rfl) rfl rfl ?_
     intro g70 hg70
     refine WL.to (L' := E ++ (.row g70 (RuL.cells ⟨m, ad2, c2, r.acts.map a.then⟩) :: ((E2 ++ K) ++ [.row g2 (acL a)]))) (fun w hS => hS.dropX [.row g8 (mtL m), .row g7 r.cells]) ?_
     refine WL.appendL rfl rfl rfl Tryz.underlying34 Tryz.underlying34 sz_117 by_117 zero_117 rfl rfl hV (new := RuL.cells ⟨m, ad2, c2, r.acts.map a.then⟩) (fun _ => ⟨g70, 0, rfl, fun w hS => allAt (g := g70) w hS⟩) rfl rfl (by omega) (.none rfl) rfl rfl ?_
     intro ad71 c71 E71 hV71 hr71
     refine WL.v (v_assign rfl rfl) rfl <| WL.nil <| WE.block_n <| WE.then_n <| WC.region <| ?_
     refine WL.v (v_add rfl rfl rfl (w_i64 (by omega) (by omega))) rfl ?_
     refine WL.v (v_move rfl rfl) rfl <| WL.nil <| ?_
     exact WE.next ⟨i + 1, ls ++ [⟨m, ad2, c2, r.acts.map a.then⟩], ad71, c71, E71, E2 ++ K⟩ (by dsimp only; omega) ⟨by dsimp only; omega, by dsimp only; rw [List.length_append]; show ls.length + 1 ≤ _; omega, by dsimp only; rw [List.map_append, List.append_assoc]; exact hc, by dsimp only; rw [List.length_append, show rulesL (ls ++ [(⟨m, ad2, c2, r.acts.map a.then⟩ : RuL)]) = rulesL ls ++ RuL.cells ⟨m, ad2, c2, r.acts.map a.then⟩ from encL_snoc _ _ _]; exact hV71, fun x hx => (by
     rcases List.mem_append.1 hx with hx | hx
     · exact (hK x hx).more
     · rw [List.mem_singleton.1 hx]; exact ⟨E2, hV2, fun e he => List.mem_append_left _ he⟩)⟩ (.int rfl (by dsimp only; omega) (.cons rfl (.cons rfl (.cons rfl (.eq rfl (by dsimp only; rw [List.length_append]; rfl) (.cons rfl .nil)))))) (List.Sublist.append_left (.cons _ (.refl _)) _)
  ·
   refine WL.nt <| WC.seq <| WC.cond_f rfl <| WC.exit <| WE.then_exit <| WE.then_exit <| WE.block_hit <| WE.then_n <| WC.seq <| WC.region <| WL.v (v_move rfl rfl) rfl <| WL.v (v_assign rfl rfl) rfl <| WL.nt <| WC.ret <| ?_
   refine WE.scope_ret <| WE.ret1 (P := Tryz.prog) (.inl rfl) Tryz.results174 rfl <| ?_
   obtain rfl : i = xs.length := (by omega)
   rw [List.drop_length] at hc
   have hc : ls.map RuL.d = C := (by rw [← hc]; exact (List.append_nil _).symm)
   exact fun w' h => ⟨ad, c, E, K, ls, rfl, hc, hV, hK, hFit, by omega, h.dropX [.row g2 (acL a)]⟩
end Go.Proofs.YtkeonnnhogaggaaGreatDoor
/- pile.Behind. -/
namespace Go.Proofs.YtkeonnnhogaggaaGreatDoor
open Go.RowKit

structure BhR where
  j : Nat
  ls : List RuL
  ad : Option Addr
  c : Nat
  E : List Ent
  K : List Ent
theorem behindD_cons (b : List RuD) (r : RuD) (a : List RuD) (p : PlD) : behindD b (r :: a) p = (rowsD p.mr p.ma p.out b r.acts [⟨r.m, []⟩]).bind fun rows => (addsD rows p).bind (behindD b a) := by
  rw [behindD]
  cases rowsD p.mr p.ma p.out b r.acts [⟨r.m, []⟩] with
  | none => rfl
  | some rows => dsimp only [Option.bind]; cases addsD rows p <;> rfl
theorem addsD_cons (x : RuD) (rows : List RuD) (p : PlD) : addsD (x :: rows) p = if covD p.out x.m then addsD rows p else (p.add x.m x.acts).bind (addsD rows) := by
  rw [addsD]
  split
  · rfl
  · cases p.add x.m x.acts <;> rfl
theorem rowsD_cons (mr ma : Int) (but b : List RuD) (a : Ac) (us : List Ac) (rows : List RuD) : rowsD mr ma but b (a :: us) rows = (crossD but appA (aheadD a b) rows ⟨mr, ma, []⟩).bind fun q => if q.out.length = 0 then some [] else rowsD mr ma but b us q.out := by
  rw [rowsD]
  cases crossD but appA (aheadD a b) rows ⟨mr, ma, []⟩ <;> rfl
theorem fit_ls {ls : List RuL} {ds : List RuD} (h : ls.map RuL.d = ds) (hf : ∀ d ∈ ds, d.Fit) : ∀ r ∈ ls, r.d.Fit := fun r hr => hf _ (by rw [← h]; exact List.mem_map_of_mem hr)
set_option maxRecDepth 8000 in
set_option maxHeartbeats 8000000 in
theorem Behind_c (w : World) (aa ba : Option Addr) (ac bc : Nat) (xs ys : List RuL) (mr ma : Int) (hmr : 0 ≤ mr ∧ mr ≤ 4194304) (hma : 0 ≤ ma ∧ ma ≤ 16777216) (ha : RsAt w aa xs) (hb : RsAt w ba ys) (hfa : RsFit 64 xs) (hfb : RsFit 64 ys) (hna : xs.length ≤ 100000000) (hnb : ys.length ≤ 100000000) :
    Calls Tryz.prog 133 #[.slice aa xs.length ac, .slice ba ys.length bc, .agg #[.int .i64 mr, .int .i64 ma]] w fun e w' => RsC w w' (outD (behindD (ys.map RuL.d) (xs.map RuL.d) ⟨mr, ma, []⟩)) e := by
  generalize hC : behindD (ys.map RuL.d) (xs.map RuL.d) ⟨mr, ma, []⟩ = C
  refine enter Tryz.func133 rfl Tryz.ntmps133 rfl (St.start (fun _ => False) w) ?_
  refine WC.seq <| WC.region <| WL.box rfl rfl rfl (.none rfl) rfl rfl <| ?_
  intro g5 hg5
  refine WL.v (v_assign rfl rfl) rfl <| WL.nt <| WC.seq <| WC.region <| WL.v (v_loadN rfl rfl many_194 rfl allAt) rfl <| WL.call rfl rfl ck_134 (.none rfl) rfl rfl <| ?_
  intro w1 hS
  refine (PNew_c w1 mr ma).mono ?_
  rintro e w' ⟨gp, rfl, hS'⟩
  refine ⟨_, .row gp (PlL.cells ⟨mr, ma, none, 0, [], none, 0, [], none, #[], 0⟩) :: ([] ++ ([] ++ ([] ++ ([] ++ [Ent.row g5 [.int .i64 mr, .int .i64 ma]])))), rfl, (by simpa using hS.join hS'), ?_⟩
  refine WL.v (v_assign rfl rfl) rfl <| WL.nt <| WC.seq <| WC.seq <| WC.region <| WL.v (v_move rfl rfl) rfl <| WL.v (v_len_slice rfl rfl Tryz.underlying34) rfl <| WL.v (v_move rfl rfl) rfl <| WL.nt <| WC.block <| ?_
  refine WC.loop (fun x : CrS => [(20, .int .i64 x.i), (19, .int .i64 xs.length), (18, .slice aa xs.length ac), (7, .pointer (some ⟨gp, 0, none⟩)), (5, .pointer (some ⟨g5, 0, none⟩)), (1, .slice ba ys.length bc), (6, .slice none 0 0)]) (fun x => .row gp x.p.cells :: (x.E ++ (x.Em ++ (x.H ++ (x.K ++ [Ent.row g5 [.int .i64 mr, .int .i64 ma]]))))) (fun x => x.i ≤ xs.length ∧ behindD (ys.map RuL.d) ((xs.drop x.i).map RuL.d) x.p.d = C ∧ (x.p.mr = mr ∧ x.p.ma = ma) ∧ PlAt x.p x.E x.Em x.H x.K) (fun x => xs.length - x.i) ⟨0, ⟨mr, ma, none, 0, [], none, 0, [], none, #[], 0⟩, [], [], [], []⟩ ⟨Nat.zero_le _, by dsimp only; rw [List.drop_zero]; exact hC, ⟨rfl, rfl⟩, PlAt.new mr ma hmr hma⟩ (.cons rfl (.cons rfl (.cons rfl (.cons rfl (.cons rfl (.cons rfl (.cons rfl .nil))))))) (.refl _) ?_
  rintro ⟨i, p, E, Em, H, K⟩ ⟨hi, hc, ⟨hm1, hm2⟩, hA⟩
  dsimp only at hi hc hm1 hm2 hA
  dsimp only
  refine WC.seq <| WC.region <| ?_
  refine WL.test (v_lss rfl rfl rfl) (.none rfl) rfl rfl (fun h21 => ?_) (fun h21 => ?_)
  ·
   refine WL.nt <| WC.seq <| WC.cond_t rfl <| WC.skip <| WE.then_n <| WC.seq <| WC.block <| WC.seq <| WC.region <| ?_
   obtain ⟨r, hr⟩ : ∃ x, xs[i]? = some x := ⟨xs[i]'(by omega), List.getElem?_eq_getElem _⟩
   have hrm := List.mem_of_getElem? hr
   have hrf := hfa.fit r hrm
   have hrn := hfa.few r hrm
   obtain ⟨b1, o1, ea1, r1⟩ := ha.rd (by intro hh; have := rulesL_len xs; rw [hh] at this; simp at this; omega)
   rw [drop_cons hr, List.map_cons, behindD_cons] at hc
   generalize hR : rowsD p.d.mr p.d.ma p.d.out (ys.map RuL.d) r.d.acts [⟨r.d.m, []⟩] = R at hc
   refine WL.v ((v_indexAddr (b := b1) (off := o1) (lo := i) rfl (by show some (Value.slice aa _ _) = _; rw [ea1]) rfl Tryz.underlying34 sz_117 rfl (by omega))) rfl ?_
   refine WL.v (v_loadN (cs := r.cells) rfl rfl many_117 (RuL.len r) (rgIn (fun h => h) (Rg.seg RuL.len r1 hr))) rfl <| WL.alloc rfl zero_117 (.none rfl) rfl rfl <| ?_
   intro g9 hg9
   refine WL.storeW rfl rfl rfl rfl many_117 rfl rfl (.none rfl) rfl <| WL.as (L' := .row g9 r.cells :: .row gp p.cells :: (E ++ (Em ++ (H ++ (K ++ [Ent.row g5 [.int .i64 mr, .int .i64 ma]]))))) rfl <| WL.nt <| WC.seq <| WC.region <| WL.v (v_fieldAddr0 rfl rfl fld_117_0) rfl <| WL.v (v_loadN rfl rfl many_115 rfl (segAt (g := g9) (m := 18) (new := mtL r.m) (ru_match r))) rfl <| WL.v (v_build rfl rfl zero_117 plc_117 rfl) rfl <| ?_
   refine WL.buildSlice rfl rfl Tryz.underlying34 sz_117 zero_117 rfl (by decide) (by show some (splice (List.replicate 1 _).flatten 0 (RuL.cells ⟨r.m, none, 0, []⟩)) = some (RuL.cells ⟨r.m, none, 0, []⟩); exact congrArg some (splice_all rfl)) (.none rfl) rfl rfl ?_
   intro g27 hg27
   refine WL.v (v_assign rfl rfl) rfl <| WL.nt <| ?_
   refine WC.cut (fun x : BhR => [(10, .slice x.ad x.ls.length x.c), (9, .pointer (some ⟨g9, 0, none⟩)), (20, .int .i64 i), (19, .int .i64 xs.length), (18, .slice aa xs.length ac), (7, .pointer (some ⟨gp, 0, none⟩)), (5, .pointer (some ⟨g5, 0, none⟩)), (1, .slice ba ys.length bc), (6, .slice none 0 0)]) (fun x => .row gp p.cells :: (E ++ (Em ++ (H ++ (K ++ (x.E ++ (x.K ++ [Ent.row g5 [.int .i64 mr, .int .i64 ma]]))))))) (fun x => R = some (x.ls.map RuL.d) ∧ Vec 19 x.ad x.ls.length x.c (rulesL x.ls) x.E ∧ (∀ y ∈ x.ls, RuOwn x.K y) ∧ RsFit 5000 x.ls ∧ x.ls.length ≤ 100000000) ?_ ?_
   ·
    refine WC.seq <| WC.region <| WL.v (v_fieldAddr0 rfl rfl fld_117_1) rfl <| WL.v (v_load1 rfl rfl one_113 (cellAt (v := .slice r.ad r.acts.length r.c) (ruC_acts r))) rfl <| WL.v (v_len_slice rfl rfl Tryz.underlying113) rfl <| WL.v (v_move rfl rfl) rfl <| WL.nt <| WC.block <| ?_
    refine WC.loop (fun x : BhR => [(31, .int .i64 x.j), (30, .int .i64 r.acts.length), (29, .slice r.ad r.acts.length r.c), (10, .slice x.ad x.ls.length x.c), (9, .pointer (some ⟨g9, 0, none⟩)), (20, .int .i64 i), (19, .int .i64 xs.length), (18, .slice aa xs.length ac), (7, .pointer (some ⟨gp, 0, none⟩)), (5, .pointer (some ⟨g5, 0, none⟩)), (1, .slice ba ys.length bc), (6, .slice none 0 0)]) (fun x => x.E ++ (x.K ++ (.row g9 r.cells :: .row gp p.cells :: (E ++ (Em ++ (H ++ (K ++ [Ent.row g5 [.int .i64 mr, .int .i64 ma]]))))))) (fun x => x.j ≤ r.acts.length ∧ rowsD mr ma p.ds (ys.map RuL.d) (r.acts.drop x.j) (x.ls.map RuL.d) = R ∧ Vec 19 x.ad x.ls.length x.c (rulesL x.ls) x.E ∧ (∀ y ∈ x.ls, RuOwn x.K y) ∧ RsFit (x.j * 64) x.ls ∧ x.ls.length ≤ 100000000) (fun x => r.acts.length - x.j) ⟨0, [⟨r.m, none, 0, []⟩], some ⟨g27, 0, none⟩, 1, [.row g27 (RuL.cells ⟨r.m, none, 0, []⟩)], []⟩ ⟨Nat.zero_le _, by dsimp only; rw [List.drop_zero, ← hR]; show rowsD mr ma p.ds _ _ _ = rowsD p.mr p.ma p.ds _ _ _; rw [hm1, hm2]; rfl, Vec.row rfl rfl (Nat.le_refl _), fun y hy => (by rw [List.mem_singleton.1 hy]; exact ⟨[], Vec.nil 10, fun e he => (by cases he)⟩), ⟨fun y hy => (by rw [List.mem_singleton.1 hy]; exact ⟨⟨hrf.isIn.m, hrf.isIn.nz, fun a h => (by cases h)⟩, fun a h => (by cases h)⟩), fun y hy => (by rw [List.mem_singleton.1 hy]; exact Nat.zero_le _)⟩, (by show 1 ≤ 100000000; decide)⟩ (.cons rfl (.cons rfl (.cons rfl (.cons rfl (.cons rfl (.cons rfl (.cons rfl (.cons rfl (.cons rfl (.cons rfl (.cons rfl (.cons rfl .nil)))))))))))) (.refl _) ?_
    rintro ⟨j, ls, ad, c, E2, K2⟩ ⟨hj, hrw, hV, hK, hF, hll⟩
    dsimp only at hj hrw hV hK hF hll
    dsimp only
    refine WC.seq <| WC.region <| ?_
    refine WL.test (v_lss rfl rfl rfl) (.none rfl) rfl rfl (fun h32 => ?_) (fun h32 => ?_)
    ·
     refine WL.nt <| WC.seq <| WC.cond_t rfl <| WC.skip <| WE.then_n <| WC.seq <| WC.block <| WC.seq <| WC.region <| ?_
     obtain ⟨a, hx⟩ : ∃ x, r.acts[j]? = some x := ⟨r.acts[j]'(by omega), List.getElem?_eq_getElem _⟩
     obtain ⟨b2, o2, ea2, r2⟩ := (ha.ok r hrm) (by intro hh; have := actsL_len r.acts; rw [hh] at this; simp at this; omega)
     have hat := hrf.three (List.mem_of_getElem? hx)
     rw [drop_cons hx, rowsD_cons] at hrw
     refine WL.v ((v_indexAddr (b := b2) (off := o2) (lo := j) rfl (by show some (Value.slice r.ad _ _) = _; rw [ea2]) rfl Tryz.underlying113 sz_110 rfl (by omega))) rfl ?_
     refine WL.v (v_loadN (cs := acL a) rfl rfl many_110 (acL_len a) (rgIn (fun h => h) (Rg.seg acL_len r2 hx))) rfl <| WL.alloc rfl zero_110 (.none rfl) rfl rfl <| ?_
     intro g12 hg12
     refine WL.storeW rfl rfl rfl rfl many_110 rfl rfl (.none rfl) rfl <| WL.as (L' := .row g12 (acL a) :: (E2 ++ (K2 ++ (.row g9 r.cells :: .row gp p.cells :: (E ++ (Em ++ (H ++ (K ++ [Ent.row g5 [.int .i64 mr, .int .i64 ma]])))))))) rfl <| WL.nt <| WC.seq <| WC.region <| WL.v (v_loadN rfl rfl many_194 rfl allAt) rfl <| WL.call rfl rfl ck_134 (.none rfl) rfl rfl <| ?_
     intro w1 hS
     refine (PNew_c w1 mr ma).mono ?_
     rintro e w' ⟨gq, rfl, hS'⟩
     refine ⟨_, _, rfl, hS.join hS', ?_⟩
     refine WL.v (v_assign rfl rfl) rfl <| WL.nt <| WC.seq <| WC.seq <| WC.region <| WL.v (v_move rfl rfl) rfl <| WL.v (v_move rfl rfl) rfl <| WL.v (v_move rfl rfl) rfl <| WL.v (v_loadN rfl rfl many_110 rfl (allAt (g := g12))) rfl <| WL.v (v_move rfl rfl) rfl <| WL.call rfl rfl ck_174 (.none rfl) rfl rfl <| ?_
     intro w1 hS
     refine (ahead_c w1 a hat.1 hat.2.1 hat.2.2 ba bc ys (hb.frm hS.frm) ⟨hfb.fit, fun y hy => Nat.le_trans (hfb.few y hy) (by decide)⟩ hnb).mono ?_
     rintro e w' ⟨had, hac, EA, KA, hs, rfl, hhs, hVA, hKA, hFA, hlA, hS'⟩
     refine ⟨_, EA ++ (KA ++ (.row gq (PlL.cells ⟨mr, ma, none, 0, [], none, 0, [], none, #[], 0⟩) :: .row g12 (acL a) :: (E2 ++ (K2 ++ (.row g9 r.cells :: .row gp p.cells :: (E ++ (Em ++ (H ++ (K ++ [Ent.row g5 [.int .i64 mr, .int .i64 ma]]))))))))), rfl, (hS.join hS').permX, ?_⟩
     refine WL.call rfl rfl ck_173 (.none rfl) rfl rfl ?_
     intro w1 hS
     refine (cross_c (L := EA ++ (KA ++ (.row g12 (acL a) :: (E2 ++ (K2 ++ (.row g9 r.cells :: .row gp p.cells :: (E ++ (Em ++ (H ++ (K ++ [Ent.row g5 [.int .i64 mr, .int .i64 ma]]))))))))) ) gq ⟨mr, ma, none, 0, [], none, 0, [], none, #[], 0⟩ (some gp) p ad had c hac ls hs 95 ck_95 appA sumC_app appA_ok (fun us vs => by unfold appA; rw [List.length_append]; exact Nat.le_refl _) (PlAt.new mr ma hmr hma) hS.permX ⟨fun gb hgb w2 h2 => (by cases hgb; exact hA.r h2 (by simp) (fun e he => by simp [he]) (fun e he => by simp [he])), fun gb hgb => ⟨hA.ok, by have := hA.room; omega⟩⟩ (fun w2 h2 => rsAt_of hV hK h2 (fun e he => by simp [he]) (fun e he => by simp [he])) (fun w2 h2 => rsAt_of hVA hKA h2 (fun e he => by simp [he]) (fun e he => by simp [he])) ⟨hF.fit, fun y hy => by have := hF.few y hy; omega⟩ ⟨fit_ls hhs hFA, fun y hy => ?_⟩ hll hlA).mono ?_
     · have h1 := aheadD_all (act := a) (n := 64) (ys.map RuL.d) (fun d hd => by obtain ⟨z, hz, rfl⟩ := List.mem_map.1 hd; exact hfb.few z hz) y.d (by rw [← hhs]; exact List.mem_map_of_mem hy)
       have h1 : y.acts.length ≤ 64 := h1
       omega
     rintro e w' ⟨b43, q, Eq, Emq, Hq, Kq, rfl, hq, ⟨hq1, hq2⟩, hAq, hS'⟩
     have hq : crossD p.ds appA (aheadD a (ys.map RuL.d)) (ls.map RuL.d) ⟨mr, ma, []⟩ = (if b43 then some q.d else none) := (by rw [← hhs]; exact hq)
     rw [hq] at hrw
     have hqa : b43 = true → ∀ d ∈ q.ds, d.acts.length ≤ (j + 1) * 64 := fun hb43 => (by
       rw [if_pos hb43] at hq
       refine crossD_all (Q := fun l => l.length ≤ (j + 1) * 64) (ls.map RuL.d) ⟨mr, ma, []⟩ q.d (fun d hd s hs' => ?_) (fun x hx => by cases hx) hq
       obtain ⟨z, hz, rfl⟩ := List.mem_map.1 hd
       have h1 := hF.few z hz
       have h2 := aheadD_all (act := a) (n := 64) (ys.map RuL.d) (fun d hd => by obtain ⟨z, hz, rfl⟩ := List.mem_map.1 hd; exact hfb.few z hz) s hs'
       have h3 := normF_len (appA z.d.acts s.acts)
       have h4 : (appA z.d.acts s.acts).length = z.acts.length + s.acts.length := List.length_append
       omega)
     refine ⟨_, _, rfl, hS', ?_⟩
     skip
     cases b43
     ·
      refine WL.v (v_not rfl rfl rfl) rfl <| WL.nt <| WC.cond_t rfl <| WC.seq <| WC.region <| WL.v (v_assign rfl rfl) rfl <| WL.nt <| WC.ret <| WE.then_ret <| WE.block_ret <| WE.then_ret <| WE.then_ret <| WE.block_ret <| WE.then_ret <| ?_
      refine WE.block_ret <| WE.then_ret <| WE.then_ret <| WE.block_ret <| WE.then_ret <| WE.ret1 (P := Tryz.prog) (.inl rfl) Tryz.results133 rfl <| ?_
      have hrw : R = none := hrw.symm
      rw [hrw] at hc
      have hc : C = none := hc.symm
      rw [hc]
      exact fun w' h => RsC.none_ (h.sub (List.nil_sublist _))
     ·
      refine WL.v (v_not rfl rfl rfl) rfl <| WL.nt <| WC.cond_f rfl <| WC.skip <| WE.then_n <| WC.seq <| WC.region <| WL.v (v_move rfl rfl) rfl <| WL.v (v_nilCheck rfl rfl) rfl <| WL.v (v_fieldAddr0 rfl rfl fld_234_1) rfl <| ?_
      have hrw := (show (if q.d.out.length = 0 then some [] else rowsD mr ma p.ds (ys.map RuL.d) (r.acts.drop (j + 1)) q.ds) = R from hrw)
      have hql : q.d.out.length = q.ls.length := List.length_map _
      rw [hql] at hrw
      have hqr := hAq.room
      refine WL.v (v_load1 rfl rfl one_34 (cellAt (v := .slice q.ad q.ls.length q.c) rfl)) rfl <| WL.v (v_assign rfl rfl) rfl <| WL.nt <| WC.seq <| WC.region <| WL.v (v_move rfl rfl) rfl <| WL.v (v_len_slice rfl rfl Tryz.underlying34) rfl <| ?_
      refine WL.test (v_eql rfl rfl rfl) (.none rfl) rfl rfl (fun h51 => ?_) (fun h51 => ?_)
      ·
       refine WL.nt <| WC.cond_t rfl <| WC.exit <| WE.block_miss rfl <| WE.then_exit <| WE.then_exit <| WE.block_hit <| ?_
       have h0 : q.ls.length = 0 := (by omega)
       rw [if_pos h0] at hrw
       refine WE.to (L' := .row gp p.cells :: (E ++ (Em ++ (H ++ (K ++ (Eq ++ (Kq ++ [Ent.row g5 [.int .i64 mr, .int .i64 ma]]))))))) (fun w hS => hS.dropX (.row gq q.cells :: (Emq ++ (Hq ++ (EA ++ (KA ++ (.row g12 (acL a) :: (E2 ++ (K2 ++ [.row g9 r.cells])))))))) ) ?_
       exact WE.mid ⟨0, q.ls, q.ad, q.c, Eq, Kq⟩ ⟨by dsimp only; rw [List.length_eq_zero_iff.1 h0]; exact hrw.symm, hAq.out, hAq.own, ⟨fit_ls rfl hAq.ok.fit, fun y hy => by have h9 : y.acts.length ≤ (j + 1) * 64 := hqa rfl y.d (List.mem_map_of_mem hy); omega⟩, by dsimp only; omega⟩ (.cons rfl (.cons rfl (.cons rfl (.cons rfl (.cons rfl (.cons rfl (.cons rfl (.cons rfl (.cons rfl .nil))))))))) (.refl _)
      ·
       refine WL.nt <| WC.cond_f rfl <| WC.skip <| WE.block_n <| WE.then_n <| WC.region <| ?_
       refine WL.v (v_add rfl rfl rfl (w_i64 (by omega) (by omega))) rfl ?_
       refine WL.v (v_move rfl rfl) rfl <| WL.nil <| ?_
       rw [if_neg (by omega)] at hrw
       refine WE.to (L' := Eq ++ (Kq ++ (.row g9 r.cells :: .row gp p.cells :: (E ++ (Em ++ (H ++ (K ++ [Ent.row g5 [.int .i64 mr, .int .i64 ma]]))))))) (fun w hS => hS.dropX (.row gq q.cells :: (Emq ++ (Hq ++ (EA ++ (KA ++ (.row g12 (acL a) :: (E2 ++ K2)))))))) ?_
       exact WE.next ⟨j + 1, q.ls, q.ad, q.c, Eq, Kq⟩ (by dsimp only; omega) ⟨by dsimp only; omega, hrw, hAq.out, hAq.own, ⟨fit_ls rfl hAq.ok.fit, fun y hy => hqa rfl y.d (List.mem_map_of_mem hy)⟩, by dsimp only; omega⟩ (.int rfl (by dsimp only; omega) (.cons rfl (.cons rfl (.cons rfl (.cons rfl (.cons rfl (.cons rfl (.cons rfl (.cons rfl (.cons rfl (.cons rfl (.cons rfl .nil)))))))))))) (.refl _)
    ·
     refine WL.nt <| WC.seq <| WC.cond_f rfl <| WC.exit <| WE.then_exit <| WE.then_exit <| WE.block_hit <| ?_
     obtain rfl : j = r.acts.length := (by omega)
     rw [List.drop_length] at hrw
     refine WE.to (L' := .row gp p.cells :: (E ++ (Em ++ (H ++ (K ++ (E2 ++ (K2 ++ [Ent.row g5 [.int .i64 mr, .int .i64 ma]]))))))) (fun w hS => hS.dropX [.row g9 r.cells]) ?_
     exact WE.mid ⟨0, ls, ad, c, E2, K2⟩ ⟨hrw.symm, hV, hK, ⟨hF.fit, fun y hy => by have := hF.few y hy; omega⟩, hll⟩ (.cons rfl (.cons rfl (.cons rfl (.cons rfl (.cons rfl (.cons rfl (.cons rfl (.cons rfl (.cons rfl .nil))))))))) (.refl _)
   ·
    rintro ⟨_, ls, ad, c, E2, K2⟩ ⟨hR2, hV, hK, hF, hll⟩
    dsimp only at hR2 hV hK hF hll
    dsimp only
    rw [hR2] at hc
    have hc : (addsD (ls.map RuL.d) p.d).bind (behindD (ys.map RuL.d) ((xs.drop (i + 1)).map RuL.d)) = C := hc
    refine WC.seq <| WC.region <| WL.v (v_move rfl rfl) rfl <| WL.v (v_len_slice rfl rfl Tryz.underlying34) rfl <| WL.v (v_move rfl rfl) rfl <| WL.nt <| WC.block <| ?_
    refine WC.loop (fun x : CrS => [(55, .int .i64 x.i), (54, .int .i64 ls.length), (53, .slice ad ls.length c), (20, .int .i64 i), (19, .int .i64 xs.length), (18, .slice aa xs.length ac), (7, .pointer (some ⟨gp, 0, none⟩)), (5, .pointer (some ⟨g5, 0, none⟩)), (1, .slice ba ys.length bc), (6, .slice none 0 0)]) (fun x => .row gp x.p.cells :: (x.E ++ (x.Em ++ (x.H ++ (x.K ++ (E2 ++ (K2 ++ [Ent.row g5 [.int .i64 mr, .int .i64 ma]]))))))) (fun x => x.i ≤ ls.length ∧ (addsD ((ls.drop x.i).map RuL.d) x.p.d).bind (behindD (ys.map RuL.d) ((xs.drop (i + 1)).map RuL.d)) = C ∧ (x.p.mr = mr ∧ x.p.ma = ma) ∧ PlAt x.p x.E x.Em x.H x.K) (fun x => ls.length - x.i) ⟨0, p, E, Em, H, K⟩ ⟨Nat.zero_le _, by dsimp only; rw [List.drop_zero]; exact hc, ⟨hm1, hm2⟩, hA⟩ (.cons rfl (.cons rfl (.cons rfl (.cons rfl (.cons rfl (.cons rfl (.cons rfl (.cons rfl (.cons rfl (.cons rfl .nil)))))))))) (.refl _) ?_
    rintro ⟨k, p2, E3, Em3, H3, K3⟩ ⟨hk, hd, ⟨hn1, hn2⟩, hA2⟩
    dsimp only at hk hd hn1 hn2 hA2
    dsimp only
    refine WC.seq <| WC.region <| ?_
    refine WL.test (v_lss rfl rfl rfl) (.none rfl) rfl rfl (fun h56 => ?_) (fun h56 => ?_)
    ·
     refine WL.nt <| WC.seq <| WC.cond_t rfl <| WC.skip <| WE.then_n <| WC.seq <| WC.block <| WC.seq <| WC.region <| ?_
     obtain ⟨x, hx⟩ : ∃ x, ls[k]? = some x := ⟨ls[k]'(by omega), List.getElem?_eq_getElem _⟩
     have hxm := List.mem_of_getElem? hx
     have hxf := hF.fit x hxm
     have hxn := hF.few x hxm
     obtain ⟨b3, o3, ea3, r3⟩ := hV.srcM (L := .row gp p2.cells :: (E3 ++ (Em3 ++ (H3 ++ (K3 ++ (E2 ++ (K2 ++ [Ent.row g5 [.int .i64 mr, .int .i64 ma]]))))))) (fun e he => by simp [he]) (by rw [rulesL_len]; omega)
     rw [drop_cons hx, List.map_cons, addsD_cons] at hd
     refine WL.v ((v_indexAddr (b := b3) (off := o3) (lo := k) rfl (by show some (Value.slice ad _ _) = _; rw [ea3]) rfl Tryz.underlying34 sz_117 rfl (by omega))) rfl ?_
     refine WL.v (v_loadN (cs := x.cells) rfl rfl many_117 (RuL.len x) (fun w' hS' => Rg.seg RuL.len (r3 _ _ w' hS') hx)) rfl <| WL.alloc rfl zero_117 (.none rfl) rfl rfl <| ?_
     intro g15 hg15
     refine WL.storeW rfl rfl rfl rfl many_117 rfl rfl (.none rfl) rfl <| WL.as (L' := .row g15 x.cells :: .row gp p2.cells :: (E3 ++ (Em3 ++ (H3 ++ (K3 ++ (E2 ++ (K2 ++ [Ent.row g5 [.int .i64 mr, .int .i64 ma]]))))))) rfl <| WL.nt <| WC.seq <| WC.region <| WL.v (v_move rfl rfl) rfl <| WL.v (v_fieldAddr0 rfl rfl fld_117_0) rfl <| WL.v (v_loadN rfl rfl many_115 rfl (segAt (g := g15) (m := 18) (new := mtL x.m) (ru_match x))) rfl <| WL.call rfl rfl ck_136 (.none rfl) rfl rfl <| ?_
     intro w hS
     refine Calls.then (Covers_c w gp p2 x.m (hA2.r hS (by simp) (fun e he => by simp [he]) (fun e he => by simp [he])) hA2.ok hxf.isIn.m (by have := hA2.room; omega)) hS ?_
     generalize hb62 : decide (covD p2.ds x.m) = bb
     cases bb
     ·
      refine WL.v (v_not rfl rfl rfl) rfl <| WL.v (v_move rfl rfl) rfl <| WL.val (v_move rfl rfl) (.some rfl rfl rfl) rfl rfl <| WL.val (v_fieldAddr0 rfl rfl fld_117_0) (.some rfl rfl rfl) rfl rfl <| WL.val (v_loadN rfl rfl many_115 rfl (segAt (g := g15) (m := 18) (new := mtL x.m) (ru_match x))) (.some rfl rfl rfl) rfl rfl <| WL.val (v_fieldAddr0 rfl rfl fld_117_1) (.some rfl rfl rfl) rfl rfl <| WL.val (v_load1 rfl rfl one_113 (cellAt (v := .slice x.ad x.acts.length x.c) (ruC_acts x))) (.some rfl rfl rfl) rfl rfl <| WL.call rfl rfl ck_137 (.some rfl rfl rfl) rfl rfl <| ?_
      intro w1 hS1
      refine (Add_c (L := .row g15 x.cells :: (E2 ++ (K2 ++ [Ent.row g5 [.int .i64 mr, .int .i64 ma]]))) gp p2 x.m x.ad x.c x.acts hA2 hS1.permX hxf.isIn.m hxf.isIn.nz (fun w2 hS2 => ?_) (fun a h => hxf.three h) (by omega)).mono ?_
      · obtain ⟨Eo, hVo, hEo⟩ := hK x hxm
        exact hVo.rg fun e he => hS2.holds e (by simp [hEo e he])
      rintro e w' ⟨b70, p3, E4, Em4, H4, K4, rfl, hyes, hno, hA3, hS'⟩
      refine ⟨_, .row g15 x.cells :: .row gp p3.cells :: (E4 ++ (Em4 ++ (H4 ++ (K4 ++ (E2 ++ (K2 ++ [Ent.row g5 [.int .i64 mr, .int .i64 ma]])))))), rfl, hS'.permX, ?_⟩
      skip
      cases b70
      ·
       refine WL.val (v_not rfl rfl rfl) (.some rfl rfl rfl) rfl rfl <| WL.v (v_pick_t rfl rfl rfl) rfl <| WL.nt <| WC.cond_t rfl <| WC.seq <| WC.region <| WL.v (v_assign rfl rfl) rfl <| WL.nt <| WC.ret <| WE.block_ret <| WE.then_ret <| WE.then_ret <| WE.block_ret <| WE.block_ret <| ?_
       refine WE.then_ret <| WE.then_ret <| WE.block_ret <| WE.then_ret <| WE.ret1 (P := Tryz.prog) (.inl rfl) Tryz.results133 rfl <| ?_
       obtain ⟨hno1, hno2⟩ := hno rfl
       have hno1 : p2.d.add x.d.m x.d.acts = none := hno1
       rw [if_neg (of_decide_eq_false hb62 : ¬ covD p2.d.out x.d.m), hno1] at hd
       have hd : C = none := hd.symm
       rw [hd]
       exact fun w' h => RsC.none_ (h.sub (List.nil_sublist _))
      ·
       refine WL.val (v_not rfl rfl rfl) (.some rfl rfl rfl) rfl rfl <| WL.v (v_pick_t rfl rfl rfl) rfl <| WL.nt <| WC.cond_f rfl <| WC.skip <| WE.block_n <| WE.then_n <| WC.region <| ?_
       refine WL.v (v_add rfl rfl rfl (w_i64 (by omega) (by omega))) rfl ?_
       refine WL.v (v_move rfl rfl) rfl <| WL.nil <| ?_
       have hyes1 : p2.d.add x.d.m x.d.acts = some p3.d := hyes rfl
       have hq := PlD.add_some hyes1
       rw [if_neg (of_decide_eq_false hb62 : ¬ covD p2.d.out x.d.m), hyes1] at hd
       exact WE.next ⟨k + 1, p3, E4, Em4, H4, K4⟩ (by dsimp only; omega) ⟨by dsimp only; omega, hd, ⟨(congrArg PlD.mr hq :).trans hn1, (congrArg PlD.ma hq :).trans hn2⟩, hA3⟩ (.int rfl (by dsimp only; omega) (.cons rfl (.cons rfl (.cons rfl (.cons rfl (.cons rfl (.cons rfl (.cons rfl (.cons rfl (.cons rfl .nil)))))))))) (.cons _ (.refl _))
     ·
      refine WL.v (v_not rfl rfl rfl) rfl <| WL.v (v_move rfl rfl) rfl <| ?_
      iterate 7 refine WL.sk rfl ?_
      refine WL.v (v_pick_f rfl rfl rfl) rfl <| WL.nt <| WC.cond_f rfl <| WC.skip <| WE.block_n <| WE.then_n <| WC.region <| ?_
      refine WL.v (v_add rfl rfl rfl (w_i64 (by omega) (by omega))) rfl ?_
      refine WL.v (v_move rfl rfl) rfl <| WL.nil <| ?_
      rw [if_pos (of_decide_eq_true hb62 : covD p2.d.out x.d.m)] at hd
      exact WE.next ⟨k + 1, p2, E3, Em3, H3, K3⟩ (by dsimp only; omega) ⟨by dsimp only; omega, hd, ⟨hn1, hn2⟩, hA2⟩ (.int rfl (by dsimp only; omega) (.cons rfl (.cons rfl (.cons rfl (.cons rfl (.cons rfl (.cons rfl (.cons rfl (.cons rfl (.cons rfl .nil)))))))))) (.cons _ (.refl _))
    ·
     refine WL.nt <| WC.seq <| WC.cond_f rfl <| WC.exit <| WE.then_exit <| WE.then_exit <| WE.block_hit <| WE.block_n <| WE.then_n <| WC.region <| ?_
     refine WL.v (v_add rfl rfl rfl (w_i64 (by omega) (by omega))) rfl ?_
     refine WL.v (v_move rfl rfl) rfl <| WL.nil <| ?_
     obtain rfl : k = ls.length := (by omega)
     rw [List.drop_length] at hd
     refine WE.to (L' := .row gp p2.cells :: (E3 ++ (Em3 ++ (H3 ++ (K3 ++ [Ent.row g5 [.int .i64 mr, .int .i64 ma]]))))) (fun w hS => hS.dropX (E2 ++ K2)) ?_
     exact WE.next ⟨i + 1, p2, E3, Em3, H3, K3⟩ (by dsimp only; omega) ⟨by dsimp only; omega, hd, ⟨hn1, hn2⟩, hA2⟩ (.int rfl (by dsimp only; omega) (.cons rfl (.cons rfl (.cons rfl (.cons rfl (.cons rfl (.cons rfl .nil))))))) (.refl _)
  ·
   refine WL.nt <| WC.seq <| WC.cond_f rfl <| WC.exit <| WE.then_exit <| WE.then_exit <| WE.block_hit <| WE.then_n <| WC.seq <| WC.region <| WL.v (v_move rfl rfl) rfl <| WL.v (v_nilCheck rfl rfl) rfl <| WL.v (v_fieldAddr0 rfl rfl fld_234_1) rfl <| WL.v (v_load1 rfl rfl one_34 (cellAt (v := .slice p.ad p.ls.length p.c) rfl)) rfl <| ?_
   refine WL.v (v_assign rfl rfl) rfl <| WL.nt <| WC.ret <| WE.ret1 (P := Tryz.prog) (.inl rfl) Tryz.results133 rfl <| ?_
   obtain rfl : i = xs.length := (by omega)
   rw [List.drop_length] at hc
   have hc : C = some p.d := hc.symm
   rw [hc]
   have hrm := hA.room
   exact fun w' h => ⟨p.ad, p.c, E, K, p.ls, rfl, rfl, hA.out, hA.own, fun d hd => hA.ok.fit d hd, by omega, h.dropX (.row gp p.cells :: (Em ++ (H ++ [Ent.row g5 [.int .i64 mr, .int .i64 ma]])))⟩
end Go.Proofs.YtkeonnnhogaggaaGreatDoor
/- policy: the laws of brackets, as relations; how many nodes there are. -/
namespace Go.Proofs.YtkeonnnhogaggaaGreatDoor
open Go.RowKit

/-! ### How many nodes there are -/
mutual
def countT : Nd → Int → Int
  | .mk _ _ _ _ _ _ kids, most => countKs kids most 1
def countKs : List Nd → Int → Int → Int
  | [], _, all => all
  | t :: ts, most, all => if all > most then all else countKs ts most (all + countT t (most - all))
end
theorem countT_eq (t : Nd) (most : Int) : countT t most = countKs t.kids most 1 := by cases t; rw [countT]; rfl
mutual
theorem countT_le : ∀ (t : Nd) (most : Int), 0 ≤ most → 1 ≤ countT t most ∧ countT t most ≤ most + 1
  | .mk _ _ _ _ _ _ kids, most, h => by rw [countT]; exact countKs_le kids most 1 (by omega)
theorem countKs_le : ∀ (ts : List Nd) (most all : Int), all ≤ most + 1 → all ≤ countKs ts most all ∧ countKs ts most all ≤ most + 1
  | [], most, all, h => by rw [countKs]; omega
  | t :: ts, most, all, h => by
    rw [countKs]
    split
    · omega
    · rename_i hh
      have h1 := countT_le t (most - all) (by omega)
      have h2 := countKs_le ts most (all + countT t (most - all)) (by omega)
      omega
end
end Go.Proofs.YtkeonnnhogaggaaGreatDoor
/- join: weights, and the rules of a policy, as data. -/
namespace Go.Proofs.YtkeonnnhogaggaaGreatDoor
open Go.RowKit

def tms (a b : Int) : Int := min (a * b) 4097
theorem mul_ge {a b : Int} (ha : 0 ≤ a) (hb : 1 ≤ b) : a ≤ a * b := by
  have := Int.mul_le_mul_of_nonneg_left hb ha
  rwa [Int.mul_one] at this
theorem mul_ge' {a b : Int} (ha : 1 ≤ a) (hb : 0 ≤ b) : b ≤ a * b := by rw [Int.mul_comm]; exact mul_ge hb ha
theorem tms_in {a b : Int} (ha : 1 ≤ a) (hb : 1 ≤ b) : 1 ≤ tms a b ∧ tms a b ≤ 4097 := by
  unfold tms
  have := mul_ge (by omega : 0 ≤ a) hb
  omega
theorem tms_in0 {a b : Int} (ha : 0 ≤ a) (hb : 0 ≤ b) : 0 ≤ tms a b ∧ tms a b ≤ 4097 := by
  unfold tms
  have := Int.mul_nonneg ha hb
  omega
theorem tms_left {a b : Int} (ha : 0 ≤ a) (h : a ≤ 4097) (hb : 1 ≤ b) : a ≤ tms a b := by
  unfold tms
  have := mul_ge ha hb
  omega
theorem tms_right {a b : Int} (ha : 1 ≤ a) (hb : 0 ≤ b) (h : b ≤ 4097) : b ≤ tms a b := by
  unfold tms
  have := mul_ge' ha hb
  omega
theorem tms_eq {a b : Int} (h : tms a b ≤ 4096) : tms a b = a * b := by unfold tms at *; omega
theorem tms_assoc {a b c : Int} (ha : 1 ≤ a) (hb : 1 ≤ b) (hc : 1 ≤ c) : tms (tms a b) c = tms a (tms b c) := by
  have e : a * (b * c) = a * b * c := (Int.mul_assoc a b c).symm
  have h1 : a * b ≤ a * b * c := mul_ge (by have := mul_ge (by omega : 0 ≤ a) hb; omega) hc
  have h2 : b * c ≤ a * (b * c) := mul_ge' ha (by have := mul_ge (by omega : 0 ≤ b) hc; omega)
  have h3 : (4097 : Int) ≤ 4097 * c := mul_ge (by omega) hc
  have h4 : (4097 : Int) ≤ a * 4097 := mul_ge' ha (by omega)
  unfold tms
  rcases Int.le_total (a * b) 4097 with h | h <;> rcases Int.le_total (b * c) 4097 with k | k
  · rw [Int.min_eq_left h, Int.min_eq_left k, e]
  · rw [Int.min_eq_left h, Int.min_eq_right k]; omega
  · rw [Int.min_eq_right h, Int.min_eq_left k]; omega
  · rw [Int.min_eq_right h, Int.min_eq_right k]; omega
def pwr (x : Int) : Nat → Int
  | 0 => 1
  | n + 1 => tms (pwr x n) x
theorem pwr_in {x : Int} (hx : 1 ≤ x) : ∀ n, 1 ≤ pwr x n ∧ pwr x n ≤ 4097
  | 0 => by show (1 : Int) ≤ 1 ∧ (1 : Int) ≤ 4097; omega
  | n + 1 => tms_in (pwr_in hx n).1 hx
theorem pwr_full {x : Int} (hx : 1 ≤ x) {n : Nat} (h : 4097 ≤ pwr x n) : ∀ j, pwr x (n + j) = 4097
  | 0 => by have := (pwr_in hx n).2; show pwr x n = _; omega
  | j + 1 => by
    show tms (pwr x (n + j)) x = 4097
    rw [pwr_full hx h j]
    have := tms_left (a := 4097) (by omega) (by omega) hx
    have := (tms_in (a := 4097) (by omega) hx).2
    omega
theorem pwr_one : ∀ n, pwr 1 n = 1
  | 0 => rfl
  | n + 1 => by show tms (pwr 1 n) 1 = 1; rw [pwr_one n]; rfl
theorem pwr_mono {x : Int} (hx : 1 ≤ x) (n : Nat) : pwr x n ≤ pwr x (n + 1) := tms_left (by have := (pwr_in hx n).1; omega) (pwr_in hx n).2 hx
theorem pwr_ge {x : Int} (hx : 1 ≤ x) (h : x ≤ 4097) : ∀ n, 1 ≤ n → x ≤ pwr x n
  | 1, _ => by show x ≤ tms 1 x; exact tms_right (by omega) (by omega) h
  | n + 2, _ => Int.le_trans (pwr_ge hx h (n + 1) (by omega)) (pwr_mono hx (n + 1))
theorem pwr_eq {x : Int} (hx : 1 ≤ x) : ∀ n, pwr x n ≤ 4096 → pwr x n = x ^ n
  | 0, _ => by rw [Int.pow_zero]; rfl
  | n + 1, h => by
    have h1 : tms (pwr x n) x ≤ 4096 := h
    rw [Int.pow_succ, ← pwr_eq hx n (by have := pwr_mono hx n; omega)]
    exact tms_eq h1
/-- The page's way: the product again and again. -/
def itr (w x : Int) : Nat → Int
  | 0 => w
  | n + 1 => tms (itr w x n) x
theorem itr_eq {w x : Int} (hw : 1 ≤ w) (hw2 : w ≤ 4097) (hx : 1 ≤ x) : ∀ n, itr w x n = tms w (pwr x n)
  | 0 => by show w = min (w * 1) 4097; omega
  | n + 1 => by
    show tms (itr w x n) x = tms w (tms (pwr x n) x)
    rw [itr_eq hw hw2 hx n]
    exact tms_assoc hw (pwr_in hx n).1 hx
def wAll : List (Int × Int) → Int × Int → Int × Int
  | [], s => s
  | x :: xs, s => wAll xs (tms s.1 x.1, min (s.2 + x.2) 4097)
def wRow : List (Int × Int) → Int × Int × Int → Int × Int
  | [], s => (s.1, s.2.2)
  | x :: xs, s => wRow xs (tms s.1 (pwr x.1 s.2.1.toNat), tms s.2.1 x.2, max s.2.2 (tms s.2.1 x.2))
def wNth (l : List (Int × Int)) (i : Nat) : Int × Int := l.getD i (1, 1)
mutual
def weighT : Nd → Int × Int
  | .mk k _ _ _ _ _ kids =>
    if k = 3 then (2, 1)
    else if k = 4 ∨ k = 13 then ((wNth (weighKs kids) 0).1, 1)
    else if k = 5 ∨ k = 6 then ((wAll (weighKs kids) (1, 0)).1, 1)
    else if k = 11 then (1, 0)
    else if k = 15 then wAll (weighKs kids) (1, 0)
    else if k = 16 then (if kids.length = 0 then (1, 1) else wRow (weighKs kids) (1, 1, 0))
    else if k = 17 then (tms (wNth (weighKs kids) 0).1 (max (wNth (weighKs kids) 1).1 (wNth (weighKs kids) 2).1), max (wNth (weighKs kids) 1).2 (wNth (weighKs kids) 2).2)
    else (1, 1)
def weighKs : List Nd → List (Int × Int)
  | [] => []
  | t :: ts => weighT t :: weighKs ts
end
theorem weighKs_map : ∀ ts : List Nd, weighKs ts = ts.map weighT
  | [] => by rw [weighKs]; rfl
  | t :: ts => by rw [weighKs, weighKs_map ts]; rfl
theorem weighT_eq (t : Nd) : weighT t =
    if t.kind = 3 then (2, 1)
    else if t.kind = 4 ∨ t.kind = 13 then ((wNth (t.kids.map weighT) 0).1, 1)
    else if t.kind = 5 ∨ t.kind = 6 then ((wAll (t.kids.map weighT) (1, 0)).1, 1)
    else if t.kind = 11 then (1, 0)
    else if t.kind = 15 then wAll (t.kids.map weighT) (1, 0)
    else if t.kind = 16 then (if t.kids.length = 0 then (1, 1) else wRow (t.kids.map weighT) (1, 1, 0))
    else if t.kind = 17 then (tms (wNth (t.kids.map weighT) 0).1 (max (wNth (t.kids.map weighT) 1).1 (wNth (t.kids.map weighT) 2).1), max (wNth (t.kids.map weighT) 1).2 (wNth (t.kids.map weighT) 2).2)
    else (1, 1) := by
  cases t; rw [weighT, weighKs_map]; rfl
structure WOk (x : Int × Int) : Prop where
  r : 1 ≤ x.1 ∧ x.1 ≤ 4097
  a : 0 ≤ x.2 ∧ x.2 ≤ 4097
theorem wAll_ok : ∀ (xs : List (Int × Int)) (s : Int × Int), (∀ x ∈ xs, WOk x) → WOk s → WOk (wAll xs s) ∧ s.1 ≤ (wAll xs s).1 ∧ s.2 ≤ (wAll xs s).2 ∧ ∀ x ∈ xs, x.1 ≤ (wAll xs s).1 ∧ x.2 ≤ (wAll xs s).2
  | [], s, _, hs => ⟨hs, Int.le_refl _, Int.le_refl _, fun x h => by cases h⟩
  | x :: xs, s, hx, hs => by
    have h := hx x (List.mem_cons_self ..)
    have h1 := h.r
    have h2 := h.a
    have h3 := hs.r
    have h4 := hs.a
    have h5 := tms_in h3.1 h1.1
    have h6 := tms_left (by omega) h3.2 h1.1
    have h7 := tms_right h3.1 (by omega) h1.2
    have ih := wAll_ok xs (tms s.1 x.1, min (s.2 + x.2) 4097) (fun y hy => hx y (List.mem_cons_of_mem _ hy)) ⟨h5, by dsimp only; omega⟩
    obtain ⟨i1, i2, i3, i4⟩ := ih
    dsimp only at i2 i3
    show WOk (wAll xs _) ∧ s.1 ≤ (wAll xs _).1 ∧ s.2 ≤ (wAll xs _).2 ∧ ∀ y ∈ x :: xs, y.1 ≤ (wAll xs _).1 ∧ y.2 ≤ (wAll xs _).2
    refine ⟨i1, by omega, by omega, fun y hy => ?_⟩
    rcases List.mem_cons.1 hy with rfl | hy
    · omega
    · exact i4 y hy
theorem wRow_ok : ∀ (xs : List (Int × Int)) (r a m : Int), (∀ x ∈ xs, WOk x) → 1 ≤ r ∧ r ≤ 4097 → 0 ≤ a ∧ a ≤ 4097 → 0 ≤ m ∧ m ≤ 4097 → WOk (wRow xs (r, a, m)) ∧ r ≤ (wRow xs (r, a, m)).1 ∧ m ≤ (wRow xs (r, a, m)).2
  | [], r, a, m, _, hr, _, hm => ⟨⟨hr, hm⟩, Int.le_refl _, Int.le_refl _⟩
  | x :: xs, r, a, m, hx, hr, ha, hm => by
    have h := hx x (List.mem_cons_self ..)
    have h1 := h.r
    have h2 := h.a
    have h3 := pwr_in h1.1 a.toNat
    have h4 := tms_in hr.1 h3.1
    have h5 := tms_left (by omega) hr.2 h3.1
    have h6 := tms_in0 ha.1 h2.1
    have ih := wRow_ok xs (tms r (pwr x.1 a.toNat)) (tms a x.2) (max m (tms a x.2)) (fun y hy => hx y (List.mem_cons_of_mem _ hy)) h4 h6 (by omega)
    show WOk (wRow xs _) ∧ r ≤ (wRow xs _).1 ∧ m ≤ (wRow xs _).2
    obtain ⟨i1, i2, i3⟩ := ih
    exact ⟨i1, by show r ≤ (wRow xs (tms r (pwr x.1 a.toNat), tms a x.2, max m (tms a x.2))).1; omega, by show m ≤ (wRow xs (tms r (pwr x.1 a.toNat), tms a x.2, max m (tms a x.2))).2; omega⟩
theorem wNth_ok {l : List (Int × Int)} (h : ∀ x ∈ l, WOk x) (i : Nat) : WOk (wNth l i) := by
  unfold wNth
  rw [List.getD_eq_getElem?_getD]
  cases hi : l[i]? with
  | none => exact ⟨by decide, by decide⟩
  | some x => exact h x (List.mem_of_getElem? hi)
mutual
theorem weighT_ok : ∀ t : Nd, WOk (weighT t)
  | .mk k f v m a c kids => by
    have hk := weighKs_ok kids
    rw [weighT]
    split
    · exact ⟨by decide, by decide⟩
    split
    · exact ⟨(wNth_ok hk 0).r, by dsimp only; omega⟩
    split
    · exact ⟨(wAll_ok _ (1, 0) hk ⟨by decide, by decide⟩).1.r, by dsimp only; omega⟩
    split
    · exact ⟨by decide, by decide⟩
    split
    · exact (wAll_ok _ (1, 0) hk ⟨by decide, by decide⟩).1
    split
    · split
      · exact ⟨by decide, by decide⟩
      · exact (wRow_ok _ 1 1 0 hk (by decide) (by decide) (by decide)).1
    split
    · have h0 := wNth_ok hk 0
      have h1 := wNth_ok hk 1
      have h2 := wNth_ok hk 2
      have := h1.r
      have := h2.r
      have := h1.a
      have := h2.a
      exact ⟨tms_in h0.r.1 (by omega), by dsimp only; omega⟩
    · exact ⟨by decide, by decide⟩
theorem weighKs_ok : ∀ ts : List Nd, ∀ x ∈ weighKs ts, WOk x
  | [], x, h => by rw [weighKs] at h; cases h
  | t :: ts, x, h => by
    rw [weighKs] at h
    rcases List.mem_cons.1 h with rfl | h
    · exact weighT_ok t
    · exact weighKs_ok ts x h
end
theorem weighM_ok (ts : List Nd) : ∀ x ∈ ts.map weighT, WOk x := by rw [← weighKs_map]; exact weighKs_ok ts
/-! ### The rules -/
def ac0 : Ac := ⟨0, fun _ => 0⟩
def allD (us : List Ac) : List RuD := [⟨mt0, normF us⟩]
def testD (f : Nat) (v m : Int) : List RuD := if (Mt.one f v m).eqv mt0 then [⟨Mt.one f v m, [ac0]⟩] else [⟨Mt.one f v m, [ac0]⟩, ⟨mt0, []⟩]
def notD (r : RuD) : RuD := ⟨r.m, if 0 < r.acts.length then [] else [ac0]⟩
def pl0 : PlD := ⟨4194304, 16777216, []⟩
def crossL (sum : List Ac → List Ac → List Ac) (a b : List RuD) : List RuD := outD (crossD [] sum b a pl0)
def behindL (a b : List RuD) : List RuD := outD (behindD b a pl0)
def foldD (sum : List Ac → List Ac → List Ac) : List (List RuD) → List RuD → List RuD
  | [], l => l
  | x :: xs, l => foldD sum xs (crossL sum l x)
def silentD (l : List RuD) : Prop := ∀ r ∈ l, ¬ 0 < r.acts.length
instance (l : List RuD) : Decidable (silentD l) := by unfold silentD; infer_instance
def rowD : List (List RuD) → List RuD → List RuD
  | [], l => l
  | x :: xs, l => if silentD l then l else rowD xs (behindL l x)
def ifI (r : RuD) : List RuD → PlD → PlD
  | [], p => p
  | s :: part, p => match r.m.and s.m with
    | none => ifI r part p
    | some m => if covD p.out m then ifI r part p else ifI r part ((p.add m s.acts).getD p)
def ifD (yes no : List RuD) : List RuD → PlD → PlD
  | [], p => p
  | r :: l, p => ifD yes no l (ifI r (if 0 < r.acts.length then yes else no) p)
def nthD (l : List (List RuD)) (i : Nat) : List RuD := l.getD i []
mutual
def buildD : Nd → List RuD
  | .mk k f v m _ _ kids =>
    if k = 2 ∨ k = 11 then allD []
    else if k = 3 then testD f.toNat v m
    else if k = 4 then (nthD (buildKs kids) 0).map notD
    else if k = 5 then foldD bothA (buildKs kids) (allD [ac0])
    else if k = 6 ∨ k = 15 then foldD appA (buildKs kids) (allD [])
    else if k = 13 then nthD (buildKs kids) 0
    else if k = 14 then allD [Ac.one f.toNat v]
    else if k = 16 then rowD (buildKs kids) (allD [ac0])
    else if k = 17 then (ifD (nthD (buildKs kids) 1) (nthD (buildKs kids) 2) (nthD (buildKs kids) 0) pl0).out
    else allD [ac0]
def buildKs : List Nd → List (List RuD)
  | [] => []
  | t :: ts => buildD t :: buildKs ts
end
theorem buildKs_map : ∀ ts : List Nd, buildKs ts = ts.map buildD
  | [] => by rw [buildKs]; rfl
  | t :: ts => by rw [buildKs, buildKs_map ts]; rfl
theorem buildD_eq (t : Nd) : buildD t =
    if t.kind = 2 ∨ t.kind = 11 then allD []
    else if t.kind = 3 then testD t.f.toNat t.val t.mask
    else if t.kind = 4 then (nthD (t.kids.map buildD) 0).map notD
    else if t.kind = 5 then foldD bothA (t.kids.map buildD) (allD [ac0])
    else if t.kind = 6 ∨ t.kind = 15 then foldD appA (t.kids.map buildD) (allD [])
    else if t.kind = 13 then nthD (t.kids.map buildD) 0
    else if t.kind = 14 then allD [Ac.one t.f.toNat t.val]
    else if t.kind = 16 then rowD (t.kids.map buildD) (allD [ac0])
    else if t.kind = 17 then (ifD (nthD (t.kids.map buildD) 1) (nthD (t.kids.map buildD) 2) (nthD (t.kids.map buildD) 0) pl0).out
    else allD [ac0] := by
  cases t; rw [buildD, buildKs_map]; rfl
/-! ### How many rules and acts there are -/
theorem crossL_len (sum : List Ac → List Ac → List Ac) (a b : List RuD) : (crossL sum a b).length ≤ a.length * b.length := by
  unfold crossL
  cases h : crossD [] sum b a pl0 with
  | none => exact Nat.zero_le _
  | some q => have := (crossD_len a pl0 q h).1; show q.out.length ≤ _; have e : pl0.out.length = 0 := rfl; omega
theorem crossL_all {Q : List Ac → Prop} {sum : List Ac → List Ac → List Ac} {a b : List RuD} (hQ : ∀ r ∈ a, ∀ s ∈ b, Q (normF (sum r.acts s.acts))) : ∀ x ∈ crossL sum a b, Q x.acts := by
  unfold crossL
  cases h : crossD [] sum b a pl0 with
  | none => exact fun x hx => by cases hx
  | some q => exact crossD_all a pl0 q hQ (fun x hx => by cases hx) h
theorem fold_len {sum : List Ac → List Ac → List Ac} : ∀ (xs : List Nd) (l : List RuD) (s : Int × Int), WOk s → (∀ u ∈ xs, ((buildD u).length : Int) ≤ (weighT u).1) → (l.length : Int) ≤ s.1 → (wAll (xs.map weighT) s).1 ≤ 300 → ((foldD sum (xs.map buildD) l).length : Int) ≤ (wAll (xs.map weighT) s).1
  | [], l, s, _, _, hl, _ => hl
  | u :: xs, l, s, hs, hu, hl, h => by
    have hw := weighT_ok u
    have h1 := hw.r
    have h2 := hw.a
    have h3 := hs.r
    have h4 := hs.a
    have hs' : WOk (tms s.1 (weighT u).1, min (s.2 + (weighT u).2) 4097) := ⟨tms_in h3.1 h1.1, by dsimp only; omega⟩
    have hle := (wAll_ok (xs.map weighT) _ (weighM_ok xs) hs').2.1
    have h : (wAll (xs.map weighT) (tms s.1 (weighT u).1, min (s.2 + (weighT u).2) 4097)).1 ≤ 300 := h
    refine fold_len xs (crossL sum l (buildD u)) _ hs' (fun y hy => hu y (List.mem_cons_of_mem _ hy)) ?_ h
    dsimp only at hle ⊢
    rw [tms_eq (by omega)]
    have h5 := crossL_len sum l (buildD u)
    have h6 := hu u (List.mem_cons_self ..)
    have h7 : ((l.length * (buildD u).length : Nat) : Int) ≤ s.1 * (weighT u).1 := by
      rw [Int.natCast_mul]
      exact Int.mul_le_mul hl h6 (by omega) (by omega)
    omega
theorem fold_acts : ∀ (xs : List Nd) (l : List RuD) (s : Int × Int), WOk s → (∀ u ∈ xs, ∀ r ∈ buildD u, (r.acts.length : Int) ≤ (weighT u).2) → (∀ r ∈ l, (r.acts.length : Int) ≤ s.2) → (wAll (xs.map weighT) s).2 ≤ 64 → ∀ r ∈ foldD appA (xs.map buildD) l, (r.acts.length : Int) ≤ (wAll (xs.map weighT) s).2
  | [], l, s, _, _, hl, _ => hl
  | u :: xs, l, s, hs, hu, hl, h => by
    have hw := weighT_ok u
    have h1 := hw.r
    have h2 := hw.a
    have h3 := hs.r
    have h4 := hs.a
    have hs' : WOk (tms s.1 (weighT u).1, min (s.2 + (weighT u).2) 4097) := ⟨tms_in h3.1 h1.1, by dsimp only; omega⟩
    have hle := (wAll_ok (xs.map weighT) _ (weighM_ok xs) hs').2.2.1
    have h : (wAll (xs.map weighT) (tms s.1 (weighT u).1, min (s.2 + (weighT u).2) 4097)).2 ≤ 64 := h
    refine fold_acts xs (crossL appA l (buildD u)) _ hs' (fun y hy => hu y (List.mem_cons_of_mem _ hy)) ?_ h
    dsimp only at hle ⊢
    refine crossL_all (Q := fun us => (us.length : Int) ≤ min (s.2 + (weighT u).2) 4097) fun r hr x hx => ?_
    have h5 := normF_len (appA r.acts x.acts)
    have h6 := hl r hr
    have h7 := hu u (List.mem_cons_self ..) x hx
    have h8 : (appA r.acts x.acts).length = r.acts.length + x.acts.length := List.length_append
    omega
/-- What a predicate's rules do. -/
def Yn (us : List Ac) : Prop := us = [] ∨ us = [ac0]
theorem yn_both {a b : List Ac} (ha : Yn a) (_hb : Yn b) : Yn (normF (bothA a b)) := by
  unfold bothA
  split
  · exact .inl rfl
  · rcases ha with rfl | rfl
    · exact .inl rfl
    · exact .inr rfl
theorem yn_app {a b : List Ac} (ha : Yn a) (hb : Yn b) : Yn (normF (appA a b)) := by
  rcases ha with rfl | rfl <;> rcases hb with rfl | rfl
  · exact .inl rfl
  · exact .inr rfl
  · exact .inr rfl
  · exact .inr rfl
theorem fold_yn {sum : List Ac → List Ac → List Ac} (hs : ∀ a b, Yn a → Yn b → Yn (normF (sum a b))) : ∀ (xs : List Nd) (l : List RuD), (∀ u ∈ xs, ∀ r ∈ buildD u, Yn r.acts) → (∀ r ∈ l, Yn r.acts) → ∀ r ∈ foldD sum (xs.map buildD) l, Yn r.acts
  | [], _, _, hl => hl
  | u :: xs, l, hu, hl => fold_yn hs xs (crossL sum l (buildD u)) (fun y hy => hu y (List.mem_cons_of_mem _ hy)) (crossL_all fun r hr x hx => hs _ _ (hl r hr) (hu u (List.mem_cons_self ..) x hx))
structure BLen (pred : Bool) (t : Nd) : Prop where
  len : ((buildD t).length : Int) ≤ (weighT t).1
  acts : ∀ r ∈ buildD t, (r.acts.length : Int) ≤ (weighT t).2
  yn : pred = true → ∀ r ∈ buildD t, Yn r.acts
theorem yn_one {us : List Ac} (h : Yn us) : us.length ≤ 1 := by rcases h with rfl | rfl <;> decide
theorem row_len : ∀ (xs : List Nd) (l : List RuD) (r a m : Int), 1 ≤ r ∧ r ≤ 4097 → 0 ≤ a ∧ a ≤ 4097 → a ≤ m ∧ m ≤ 4097 → (∀ u ∈ xs, (weighT u).1 ≤ 300 → (weighT u).2 ≤ 64 → BLen false u) → (l.length : Int) ≤ r → (∀ x ∈ l, (x.acts.length : Int) ≤ a) → (wRow (xs.map weighT) (r, a, m)).1 ≤ 300 → (wRow (xs.map weighT) (r, a, m)).2 ≤ 64 →
    ((rowD (xs.map buildD) l).length : Int) ≤ (wRow (xs.map weighT) (r, a, m)).1 ∧ ∀ x ∈ rowD (xs.map buildD) l, (x.acts.length : Int) ≤ (wRow (xs.map weighT) (r, a, m)).2
  | [], l, r, a, m, _, _, hm, _, hl, hla, _, _ => ⟨hl, fun x hx => by have := hla x hx; show _ ≤ m; omega⟩
  | u :: xs, l, r, a, m, hr, ha, hm, hu, hl, hla, h1, h2 => by
    have hw := weighT_ok u
    have k1 := hw.r
    have k2 := hw.a
    have k3 := pwr_in k1.1 a.toNat
    have k4 := tms_in hr.1 k3.1
    have k5 := tms_left (by omega) hr.2 k3.1
    have k6 := tms_in0 ha.1 k2.1
    have hk := wRow_ok (xs.map weighT) (tms r (pwr (weighT u).1 a.toNat)) (tms a (weighT u).2) (max m (tms a (weighT u).2)) (weighM_ok xs) k4 k6 (by omega)
    have e : wRow ((u :: xs).map weighT) (r, a, m) = wRow (xs.map weighT) (tms r (pwr (weighT u).1 a.toNat), tms a (weighT u).2, max m (tms a (weighT u).2)) := rfl
    rw [e] at h1 h2 ⊢
    obtain ⟨i1, i2, i3⟩ := hk
    show ((if silentD l then l else rowD (xs.map buildD) (behindL l (buildD u))).length : Int) ≤ _ ∧ ∀ x ∈ (if silentD l then l else rowD (xs.map buildD) (behindL l (buildD u))), _
    split
    · rename_i hsil
      exact ⟨by omega, fun x hx => by have := hsil x hx; omega⟩
    · rename_i hsil
      have ha1 : 1 ≤ a := Decidable.byContradiction fun hn => hsil fun x hx => by have := hla x hx; omega
      have k7 := pwr_ge k1.1 k1.2 a.toNat (by omega)
      have k8 := tms_right hr.1 (by omega) k3.2
      have k9 := tms_right ha1 k2.1 k2.2
      have hb := hu u (List.mem_cons_self ..) (by omega) (by omega)
      have hbl := hb.len
      have e1 := tms_eq (a := r) (b := pwr (weighT u).1 a.toNat) (by omega)
      have e2 := pwr_eq k1.1 a.toNat (by omega)
      have e3 := tms_eq (a := a) (b := (weighT u).2) (by omega)
      have hq : ((behindL l (buildD u)).length : Int) ≤ tms r (pwr (weighT u).1 a.toNat) ∧ ∀ x ∈ behindL l (buildD u), (x.acts.length : Int) ≤ tms a (weighT u).2 := by
        unfold behindL
        cases hc : behindD (buildD u) l pl0 with
        | none => exact ⟨by show (0 : Int) ≤ _; omega, fun x hx => by cases hx⟩
        | some q =>
          have hh := behindD_len (kr := (weighT u).1.toNat) (ka := (weighT u).2.toNat) (n := a.toNat) (by omega) (by omega) (fun x hx => by have := hb.acts x hx; omega) l pl0 q (fun x hx => by have := hla x hx; omega) (fun x hx => by cases hx) hc
          obtain ⟨j1, j2, -⟩ := hh
          refine ⟨?_, fun x hx => ?_⟩
          · have j3 : q.out.length ≤ 0 + l.length * (weighT u).1.toNat ^ a.toNat := j1
            rw [e1, e2]
            have j4 : ((l.length * (weighT u).1.toNat ^ a.toNat : Nat) : Int) ≤ r * (weighT u).1 ^ a.toNat := by
              rw [Int.natCast_mul, Int.natCast_pow, Int.toNat_of_nonneg (by omega)]
              exact Int.mul_le_mul_of_nonneg_right hl (by rw [← e2]; omega)
            show (q.out.length : Int) ≤ _
            omega
          · have j5 := j2 x hx
            rw [e3]
            have j6 : ((a.toNat * (weighT u).2.toNat : Nat) : Int) = a * (weighT u).2 := by rw [Int.natCast_mul, Int.toNat_of_nonneg (by omega), Int.toNat_of_nonneg (by omega)]
            omega
      exact row_len xs (behindL l (buildD u)) _ _ _ k4 k6 (by omega) (fun y hy => hu y (List.mem_cons_of_mem _ hy)) hq.1 hq.2 h1 h2
theorem ifI_len {r : RuD} {n : Nat} : ∀ (part : List RuD) (p : PlD), (∀ s ∈ part, s.acts.length ≤ n) → (∀ x ∈ p.out, x.acts.length ≤ n) → (ifI r part p).out.length ≤ p.out.length + part.length ∧ ∀ x ∈ (ifI r part p).out, x.acts.length ≤ n
  | [], p, _, hp => ⟨Nat.le_refl _, hp⟩
  | s :: part, p, hs, hp => by
    have hs' : ∀ s ∈ part, s.acts.length ≤ n := fun y hy => hs y (List.mem_cons_of_mem _ hy)
    rw [ifI, List.length_cons]
    split
    · have := ifI_len (r := r) part p hs' hp; exact ⟨by omega, this.2⟩
    split
    · have := ifI_len (r := r) part p hs' hp; exact ⟨by omega, this.2⟩
    rename_i m _ _
    cases ha : p.add m s.acts with
    | none => have := ifI_len (r := r) part p hs' hp; exact ⟨by show (ifI r part p).out.length ≤ _; omega, this.2⟩
    | some q =>
      have e := PlD.add_some ha
      have hq : (∀ x ∈ q.out, x.acts.length ≤ n) ∧ q.out.length = p.out.length + 1 := by
        subst e
        refine ⟨fun x hx => ?_, by dsimp only; rw [List.length_append]; rfl⟩
        rcases List.mem_append.1 hx with hx | hx
        · exact hp x hx
        · rw [List.mem_singleton.1 hx]; exact Nat.le_trans (normF_len _) (hs s (List.mem_cons_self ..))
      have := ifI_len (r := r) part q hs' hq.1
      exact ⟨by show (ifI r part q).out.length ≤ _; omega, this.2⟩
theorem ifD_len {yes no : List RuD} {n k : Nat} (hy : yes.length ≤ k) (hn : no.length ≤ k) (ha : ∀ s ∈ yes, s.acts.length ≤ n) (hb : ∀ s ∈ no, s.acts.length ≤ n) : ∀ (l : List RuD) (p : PlD), (∀ x ∈ p.out, x.acts.length ≤ n) → (ifD yes no l p).out.length ≤ p.out.length + l.length * k ∧ ∀ x ∈ (ifD yes no l p).out, x.acts.length ≤ n
  | [], p, hp => ⟨by show p.out.length ≤ _; omega, hp⟩
  | r :: l, p, hp => by
    have h1 := ifI_len (r := r) (n := n) (if 0 < r.acts.length then yes else no) p (by split <;> assumption) hp
    have h2 := ifD_len hy hn ha hb l (ifI r (if 0 < r.acts.length then yes else no) p) h1.2
    have h3 : (if 0 < r.acts.length then yes else no).length ≤ k := by split <;> assumption
    rw [List.length_cons, Nat.add_mul, Nat.one_mul]
    exact ⟨by show (ifD yes no l (ifI r (if 0 < r.acts.length then yes else no) p)).out.length ≤ _; omega, h2.2⟩
theorem nthD_get {ts : List Nd} {i : Nat} {u : Nd} (h : ts[i]? = some u) : nthD (ts.map buildD) i = buildD u := by unfold nthD; rw [List.getD_eq_getElem?_getD, List.getElem?_map, h]; rfl
theorem wNth_get {ts : List Nd} {i : Nat} {u : Nd} (h : ts[i]? = some u) : wNth (ts.map weighT) i = weighT u := by unfold wNth; rw [List.getD_eq_getElem?_getD, List.getElem?_map, h]; rfl
theorem fits_pred {k : Int} (h : fitsP k true = true) : 1 ≤ k ∧ k ≤ 6 := of_decide_eq_true (show decide (1 ≤ k ∧ k ≤ 6) = true from h)
theorem kid_of {t : Nd} {pred : Bool} (hk : okT pred t) {i : Nat} (hi : (i : Int) < leastK t.kind) : ∃ u, t.kids[i]? = some u := by
  have := (formE_le hk.parts.2.2.1).1
  exact ⟨t.kids[i]'(by omega), List.getElem?_eq_getElem _⟩
theorem weigh_pred {t : Nd} (h : okT true t) : (weighT t).2 = 1 := by
  have hk := fits_pred h.parts.1
  rw [weighT_eq]
  by_cases h3 : t.kind = 3
  · rw [if_pos h3]
  rw [if_neg h3]
  by_cases h4 : t.kind = 4 ∨ t.kind = 13
  · rw [if_pos h4]
  rw [if_neg h4]
  by_cases h5 : t.kind = 5 ∨ t.kind = 6
  · rw [if_pos h5]
  rw [if_neg h5, if_neg (by omega), if_neg (by omega), if_neg (by omega), if_neg (by omega)]
theorem okT.mem {t u : Nd} {pred : Bool} (h : okT pred t) (hu : u ∈ t.kids) : ∃ j, t.kids[j]? = some u ∧ okT (predK t.kind j) u := by
  obtain ⟨j, hj⟩ := List.mem_iff_getElem?.1 hu
  exact ⟨j, hj, h.kid hj⟩
theorem build_len : ∀ (N : Nat) (t : Nd), SizeOf.sizeOf t ≤ N → ∀ pred, okT pred t → (weighT t).1 ≤ 300 → (weighT t).2 ≤ 64 → BLen pred t
  | 0, t, hN => by cases t; simp only [Nd.mk.sizeOf_spec] at hN; omega
  | N + 1, t, hN => by
    intro pred hk h1 h2
    have ih : ∀ u ∈ t.kids, ∀ pr, okT pr u → (weighT u).1 ≤ 300 → (weighT u).2 ≤ 64 → BLen pr u := fun u hu => by
      obtain ⟨j, hj⟩ := List.mem_iff_getElem?.1 hu
      exact build_len N u (Nd.kidN hN hj)
    have hform := hk.parts.2.2.1
    have hall : ∀ us : List Ac, ∀ r ∈ allD us, r.acts = normF us := fun us r hr => by rw [List.mem_singleton.1 hr]
    have bl := buildD_eq t
    have wt := weighT_eq t
    by_cases k2 : t.kind = 2 ∨ t.kind = 11
    · rw [if_pos k2] at bl
      have hw : (weighT t).1 = 1 ∧ 0 ≤ (weighT t).2 := ⟨by rcases k2 with k | k <;> (rw [k] at wt; rw [wt]; rfl), (weighT_ok t).a.1⟩
      exact ⟨by rw [bl, hw.1]; exact Int.le_refl _, fun r hr => by rw [bl] at hr; rw [hall _ r hr]; exact hw.2, fun _ r hr => by rw [bl] at hr; exact .inl (hall _ r hr)⟩
    rw [if_neg k2] at bl
    by_cases k3 : t.kind = 3
    · rw [if_pos k3] at bl wt
      have hx : ∀ r ∈ testD t.f.toNat t.val t.mask, Yn r.acts := by
        unfold testD
        split
        · intro r hr; rw [List.mem_singleton.1 hr]; exact .inr rfl
        · intro r hr
          rcases List.mem_cons.1 hr with rfl | hr
          · exact .inr rfl
          · rw [List.mem_singleton.1 hr]; exact .inl rfl
      refine ⟨?_, fun r hr => ?_, fun _ r hr => hx r (by rw [bl] at hr; exact hr)⟩
      · rw [bl, wt]
        unfold testD
        split
        · show ((1 : Nat) : Int) ≤ 2; omega
        · show ((2 : Nat) : Int) ≤ 2; omega
      · rw [bl] at hr
        rw [wt]
        have := yn_one (hx r hr)
        show (r.acts.length : Int) ≤ 1
        omega
    rw [if_neg k3] at bl wt
    by_cases k4 : t.kind = 4
    · rw [if_pos k4] at bl
      rw [if_pos (.inl k4)] at wt
      obtain ⟨u, hu⟩ := kid_of hk (i := 0) (by rw [k4]; decide)
      have hku := hk.kid hu
      rw [k4] at hku
      have hb := ih u (List.mem_of_getElem? hu) true hku (by rw [wt, wNth_get hu] at h1; exact h1) (by rw [weigh_pred hku]; decide)
      rw [nthD_get hu] at bl
      rw [wNth_get hu] at wt
      have hx : ∀ r ∈ (buildD u).map notD, Yn r.acts := fun r hr => by
        obtain ⟨y, _, rfl⟩ := List.mem_map.1 hr
        show Yn (if 0 < y.acts.length then [] else [ac0])
        split
        · exact .inl rfl
        · exact .inr rfl
      refine ⟨by rw [bl, wt, List.length_map]; exact hb.len, fun r hr => ?_, fun _ r hr => hx r (by rw [bl] at hr; exact hr)⟩
      rw [bl] at hr
      rw [wt]
      have := yn_one (hx r hr)
      show (r.acts.length : Int) ≤ 1
      omega
    rw [if_neg k4] at bl
    by_cases k5 : t.kind = 5 ∨ t.kind = 6
    · rw [if_neg (by omega), if_pos k5] at wt
      have hp : ∀ u ∈ t.kids, okT true u := fun u hu => by
        obtain ⟨j, _, hj⟩ := hk.mem hu
        rcases k5 with k | k <;> (rw [k] at hj; exact hj)
      have hw1 := wAll_ok (t.kids.map weighT) (1, 0) (weighM_ok _) ⟨by decide, by decide⟩
      rw [wt] at h1
      have hb : ∀ u ∈ t.kids, BLen true u := fun u hu => ih u hu true (hp u hu) (by have := (hw1.2.2.2 _ (List.mem_map_of_mem hu)).1; omega) (by rw [weigh_pred (hp u hu)]; decide)
      have hx : ∃ sum l, buildD t = foldD sum (t.kids.map buildD) l ∧ l.length = 1 ∧ (∀ r ∈ l, Yn r.acts) ∧ ∀ a b, Yn a → Yn b → Yn (normF (sum a b)) := by
        by_cases k : t.kind = 5
        · rw [if_pos k] at bl
          exact ⟨bothA, allD [ac0], bl, rfl, fun r hr => by rw [hall _ r hr]; exact .inr rfl, fun _ _ => yn_both⟩
        · rw [if_neg k, if_pos (by omega)] at bl
          exact ⟨appA, allD [], bl, rfl, fun r hr => by rw [hall _ r hr]; exact .inl rfl, fun _ _ => yn_app⟩
      obtain ⟨sum, l, bl, hl, hly, hsum⟩ := hx
      have hyn := fold_yn hsum t.kids l (fun u hu => (hb u hu).yn rfl) hly
      refine ⟨?_, fun r hr => ?_, fun _ r hr => hyn r (by rw [bl] at hr; exact hr)⟩
      · rw [bl, wt]
        exact fold_len t.kids l (1, 0) ⟨by decide, by decide⟩ (fun u hu => (hb u hu).len) (by rw [hl]; exact Int.le_refl _) h1
      · rw [bl] at hr
        rw [wt]
        have := yn_one (hyn r hr)
        show (r.acts.length : Int) ≤ 1
        omega
    rw [if_neg (by omega)] at bl
    by_cases k15 : t.kind = 15
    · rw [if_pos (.inr k15)] at bl
      rw [if_neg (by omega), if_neg (by omega), if_neg (by omega), if_pos k15] at wt
      rw [wt] at h1 h2
      have hp : ∀ u ∈ t.kids, okT false u := fun u hu => by
        obtain ⟨j, _, hj⟩ := hk.mem hu
        rw [k15] at hj
        have e : predK 15 j = false := by unfold predK; exact decide_eq_false (by omega)
        rw [e] at hj
        exact hj
      have hw1 := wAll_ok (t.kids.map weighT) (1, 0) (weighM_ok _) ⟨by decide, by decide⟩
      have hb : ∀ u ∈ t.kids, BLen false u := fun u hu => ih u hu false (hp u hu) (by have := (hw1.2.2.2 _ (List.mem_map_of_mem hu)).1; omega) (by have := (hw1.2.2.2 _ (List.mem_map_of_mem hu)).2; omega)
      have hpf : pred = false := by
        cases pred with
        | false => rfl
        | true => have := fits_pred hk.parts.1; omega
      refine ⟨?_, fun r hr => ?_, fun e => by rw [hpf] at e; cases e⟩
      · rw [bl, wt]
        exact fold_len t.kids (allD []) (1, 0) ⟨by decide, by decide⟩ (fun u hu => (hb u hu).len) (Int.le_refl _) h1
      · rw [bl] at hr
        rw [wt]
        exact fold_acts t.kids (allD []) (1, 0) ⟨by decide, by decide⟩ (fun u hu => (hb u hu).acts) (fun r hr => by rw [hall _ r hr]; exact Int.le_refl _) h2 r hr
    rw [if_neg (by omega)] at bl
    rw [if_neg (by omega : ¬ t.kind = 15)] at wt
    by_cases k13 : t.kind = 13
    · rw [if_pos k13] at bl
      rw [if_pos (.inr k13)] at wt
      obtain ⟨u, hu⟩ := kid_of hk (i := 0) (by rw [k13]; decide)
      have hku := hk.kid hu
      rw [k13] at hku
      have hb := ih u (List.mem_of_getElem? hu) true hku (by rw [wt, wNth_get hu] at h1; exact h1) (by rw [weigh_pred hku]; decide)
      rw [nthD_get hu] at bl
      rw [wNth_get hu] at wt
      refine ⟨by rw [bl, wt]; exact hb.len, fun r hr => ?_, fun _ r hr => hb.yn rfl r (by rw [bl] at hr; exact hr)⟩
      rw [bl] at hr
      rw [wt]
      have := yn_one (hb.yn rfl r hr)
      show (r.acts.length : Int) ≤ 1
      omega
    rw [if_neg k13] at bl
    rw [if_neg (by omega), if_neg (by omega), if_neg (by omega)] at wt
    have hpf : t.kind = 14 ∨ t.kind = 16 ∨ t.kind = 17 → pred = false := fun hh => by
      cases pred with
      | false => rfl
      | true => have := fits_pred hk.parts.1; omega
    by_cases k14 : t.kind = 14
    · rw [if_pos k14] at bl
      rw [if_neg (by omega), if_neg (by omega)] at wt
      exact ⟨by rw [bl, wt]; exact Int.le_refl _, fun r hr => by rw [bl] at hr; rw [hall _ r hr, wt]; exact Int.le_refl _, fun e => by rw [hpf (by omega)] at e; cases e⟩
    rw [if_neg k14] at bl
    by_cases k16 : t.kind = 16
    · rw [if_pos k16] at bl wt
      rw [wt] at h1 h2
      have hf := hpf (by omega)
      by_cases h0 : t.kids.length = 0
      · rw [List.length_eq_zero_iff.1 h0] at bl
        rw [if_pos h0] at wt
        refine ⟨by rw [bl, wt]; exact Int.le_refl _, fun r hr => ?_, fun e => by rw [hf] at e; cases e⟩
        rw [bl] at hr
        rw [wt, hall [ac0] r hr]
        exact Int.le_refl _
      · rw [if_neg h0] at wt h1 h2
        obtain ⟨u0, us, hus⟩ := List.exists_cons_of_ne_nil (fun e => h0 (by rw [e]; rfl) : t.kids ≠ [])
        have hp : ∀ u ∈ t.kids, (weighT u).1 ≤ 300 → (weighT u).2 ≤ 64 → BLen false u := fun u hu => by
          obtain ⟨j, _, hj⟩ := hk.mem hu
          rw [k16] at hj
          have e : predK 16 j = false := by unfold predK; exact decide_eq_false (by omega)
          rw [e] at hj
          exact ih u hu false hj
        -- the first one: an act is there
        have hrow : ∀ m, 0 ≤ m → m ≤ 1 → True := fun _ _ _ => trivial
        have key : ((rowD (t.kids.map buildD) (allD [ac0])).length : Int) ≤ (wRow (t.kids.map weighT) (1, 1, 0)).1 ∧ ∀ x ∈ rowD (t.kids.map buildD) (allD [ac0]), (x.acts.length : Int) ≤ (wRow (t.kids.map weighT) (1, 1, 0)).2 := by
          rw [hus] at hp h1 h2 ⊢
          have hw := weighT_ok u0
          have k1 := hw.r
          have k2 := hw.a
          have e : wRow ((u0 :: us).map weighT) (1, 1, 0) = wRow (us.map weighT) (tms 1 (pwr (weighT u0).1 1), tms 1 (weighT u0).2, max 0 (tms 1 (weighT u0).2)) := rfl
          have q3 := pwr_in k1.1 1
          have q4 := tms_in (a := 1) (by decide) q3.1
          have q6 := tms_in0 (a := 1) (by decide) k2.1
          have q7 := wRow_ok (us.map weighT) (tms 1 (pwr (weighT u0).1 1)) (tms 1 (weighT u0).2) (max 0 (tms 1 (weighT u0).2)) (weighM_ok us) q4 q6 (by omega)
          have q8 := pwr_ge k1.1 k1.2 1 (by decide)
          have q9 := tms_right (a := 1) (by decide) (by omega) q3.2
          have q10 := tms_right (a := 1) (by decide) k2.1 k2.2
          rw [e] at h1 h2 ⊢
          have hb := hp u0 (List.mem_cons_self ..) (by omega) (by omega)
          have hns : ¬ silentD (allD [ac0]) := by decide
          have er : rowD ((u0 :: us).map buildD) (allD [ac0]) = rowD (us.map buildD) (behindL (allD [ac0]) (buildD u0)) := by
            show (if silentD (allD [ac0]) then _ else _) = _
            rw [if_neg hns]
          rw [er]
          have hbl := hb.len
          have hq : ((behindL (allD [ac0]) (buildD u0)).length : Int) ≤ tms 1 (pwr (weighT u0).1 1) ∧ ∀ x ∈ behindL (allD [ac0]) (buildD u0), (x.acts.length : Int) ≤ tms 1 (weighT u0).2 := by
            unfold behindL
            cases hc : behindD (buildD u0) (allD [ac0]) pl0 with
            | none => exact ⟨by show (0 : Int) ≤ _; omega, fun x hx => by cases hx⟩
            | some q =>
              have hh := behindD_len (kr := (weighT u0).1.toNat) (ka := (weighT u0).2.toNat) (n := 1) (by omega) (by omega) (fun x hx => by have := hb.acts x hx; omega) (allD [ac0]) pl0 q (fun x hx => by rw [hall _ x hx]; decide) (fun x hx => by cases hx) hc
              obtain ⟨j1, j2, -⟩ := hh
              refine ⟨?_, fun x hx => ?_⟩
              · have j3 : q.out.length ≤ 0 + 1 * (weighT u0).1.toNat ^ 1 := j1
                rw [Nat.pow_one] at j3
                show (q.out.length : Int) ≤ _
                omega
              · have j5 := j2 x hx
                omega
          exact row_len us (behindL (allD [ac0]) (buildD u0)) _ _ _ q4 q6 (by omega) (fun y hy => hp y (List.mem_cons_of_mem _ hy)) hq.1 hq.2 h1 h2
        exact ⟨by rw [bl, wt]; exact key.1, fun r hr => by rw [bl] at hr; rw [wt]; exact key.2 r hr, fun e => by rw [hf] at e; cases e⟩
    rw [if_neg k16] at bl wt
    by_cases k17 : t.kind = 17
    · rw [if_pos k17] at bl wt
      obtain ⟨u0, hu0⟩ := kid_of hk (i := 0) (by rw [k17]; decide)
      obtain ⟨u1, hu1⟩ := kid_of hk (i := 1) (by rw [k17]; decide)
      obtain ⟨u2, hu2⟩ := kid_of hk (i := 2) (by rw [k17]; decide)
      have o0 := hk.kid hu0
      have o1 := hk.kid hu1
      have o2 := hk.kid hu2
      rw [k17] at o0 o1 o2
      rw [nthD_get hu0, nthD_get hu1, nthD_get hu2] at bl
      rw [wNth_get hu0, wNth_get hu1, wNth_get hu2] at wt
      rw [wt] at h1 h2
      dsimp only at h1 h2
      have w0 := weighT_ok u0
      have w1 := weighT_ok u1
      have w2 := weighT_ok u2
      have a0 := w0.r
      have a1 := w1.r
      have a2 := w2.r
      have hm : 1 ≤ max (weighT u1).1 (weighT u2).1 ∧ max (weighT u1).1 (weighT u2).1 ≤ 4097 := by omega
      have t1 := tms_left (by omega) a0.2 hm.1
      have t2 := tms_right a0.1 (by omega) hm.2
      have b0 := ih u0 (List.mem_of_getElem? hu0) true o0 (by omega) (by rw [weigh_pred o0]; decide)
      have b1 := ih u1 (List.mem_of_getElem? hu1) false o1 (by omega) (by omega)
      have b2 := ih u2 (List.mem_of_getElem? hu2) false o2 (by omega) (by omega)
      have l0 := b0.len
      have l1 := b1.len
      have l2 := b2.len
      have hx := ifD_len (yes := buildD u1) (no := buildD u2) (n := (max (weighT u1).2 (weighT u2).2).toNat) (k := (max (weighT u1).1 (weighT u2).1).toNat) (by omega) (by omega) (fun s hs => by have := b1.acts s hs; omega) (fun s hs => by have := b2.acts s hs; omega) (buildD u0) pl0 (fun x hx => by cases hx)
      have ha1 := w1.a
      have ha2 := w2.a
      refine ⟨?_, fun r hr => ?_, fun e => by rw [hpf (by omega)] at e; cases e⟩
      · rw [bl, wt]
        show _ ≤ tms (weighT u0).1 (max (weighT u1).1 (weighT u2).1)
        rw [tms_eq (by omega)]
        have h3 := hx.1
        have e0 : pl0.out.length = 0 := rfl
        have h4 : (((buildD u0).length * (max (weighT u1).1 (weighT u2).1).toNat : Nat) : Int) ≤ (weighT u0).1 * max (weighT u1).1 (weighT u2).1 := by
          rw [Int.natCast_mul, Int.toNat_of_nonneg (by omega)]
          exact Int.mul_le_mul_of_nonneg_right l0 (by omega)
        omega
      · rw [bl] at hr
        rw [wt]
        have := hx.2 r hr
        show (r.acts.length : Int) ≤ max (weighT u1).2 (weighT u2).2
        omega
    rw [if_neg k17] at bl wt
    exact ⟨by rw [bl, wt]; exact Int.le_refl _, fun r hr => by rw [bl] at hr; rw [hall _ r hr, wt]; exact Int.le_refl _, fun _ r hr => by rw [bl] at hr; rw [hall _ r hr]; exact .inr rfl⟩
end Go.Proofs.YtkeonnnhogaggaaGreatDoor
/- join: weigh. -/
namespace Go.Proofs.YtkeonnnhogaggaaGreatDoor
open Go.RowKit

theorem mul_in {a b : Int} (ha : 0 ≤ a ∧ a ≤ 4097) (hb : 0 ≤ b ∧ b ≤ 4097) : 0 ≤ a * b ∧ a * b ≤ 16785409 := by
  have h1 := Int.mul_nonneg ha.1 hb.1
  have h2 := Int.mul_le_mul ha.2 hb.2 hb.1 (by omega)
  omega
theorem times_c (w : World) (a b : Int) (ha : 0 ≤ a ∧ a ≤ 4097) (hb : 0 ≤ b ∧ b ≤ 4097) : Calls Tryz.prog 85 #[.int .i64 a, .int .i64 b] w fun e w' => e = .returned (.int .i64 (tms a b)) ∧ Frm (fun _ => False) w w' := by
  have hm := mul_in ha hb
  refine enter Tryz.func85 rfl Tryz.ntmps85 rfl (St.start (fun _ => False) w) ?_
  refine WC.seq <| WC.region <| WL.v (v_assign rfl rfl) rfl <| WL.nt <| WC.seq <| WC.region <| WL.v (v_move rfl rfl) rfl <| WL.v (v_move rfl rfl) rfl <| ?_
  refine WL.v (v_mul rfl rfl rfl (w_i64 (by omega) (by omega))) rfl ?_
  refine WL.v (v_min rfl rfl rfl) rfl <| WL.v (v_assign rfl rfl) rfl <| WL.nt <| WC.ret <| WE.ret1 (P := Tryz.prog) (.inl rfl) Tryz.results85 rfl <| ?_
  exact fun w' h => ⟨rfl, h.frm⟩
theorem power_c (w : World) (b : Int) (n : Nat) (hb : 1 ≤ b ∧ b ≤ 4097) (hn : n ≤ 4097) : Calls Tryz.prog 127 #[.int .i64 b, .int .i64 n] w fun e w' => e = .returned (.int .i64 (pwr b n)) ∧ Frm (fun _ => False) w w' := by
  refine enter Tryz.func127 rfl Tryz.ntmps127 rfl (St.start (fun _ => False) w) ?_
  refine WC.seq <| WC.region <| WL.v (v_assign rfl rfl) rfl <| WL.nt <| WC.seq <| WC.region <| WL.v (v_assign rfl rfl) rfl <| WL.nt <| WC.seq <| WC.seq <| WC.region <| WL.v (v_move rfl rfl) rfl <| ?_
  refine WL.test (v_leq rfl rfl rfl) (.none rfl) rfl rfl (fun h8 => ?_) (fun h8 => ?_)
  ·
   refine WL.nt <| WC.cond_t rfl <| WC.seq <| WC.region <| WL.v (v_move rfl rfl) rfl <| WL.v (v_assign rfl rfl) rfl <| WL.nt <| WC.ret <| WE.then_ret <| WE.ret1 (P := Tryz.prog) (.inl rfl) Tryz.results127 rfl <| ?_
   obtain rfl : b = 1 := (by omega)
   exact fun w' h => ⟨by rw [pwr_one], h.frm⟩
  ·
   refine WL.nt <| WC.cond_f rfl <| WC.skip <| WE.then_n <| WC.seq <| WC.seq <| WC.region <| WL.v (v_assign rfl rfl) rfl <| WL.nt <| WC.block <| WC.loop (fun i : Nat => [(6, .int .i64 i), (5, .int .i64 (pwr b i)), (0, .int .i64 b), (1, .int .i64 n)]) (fun _ => []) (fun i => i ≤ n) (fun i => n - i) 0 (Nat.zero_le _) (.cons rfl (.cons rfl (.cons rfl (.cons rfl .nil)))) (.refl _) <| ?_
   intro i hi
   have hp := pwr_in hb.1 i
   refine WC.seq <| WC.seq <| WC.region <| WL.v (v_move rfl rfl) rfl <| WL.v (v_move rfl rfl) rfl <| ?_
   refine WL.test (v_lss rfl rfl rfl) (.none rfl) rfl rfl (fun h12 => ?_) (fun h12 => ?_)
   ·
    refine WL.v (v_move rfl rfl) rfl <| WL.val (v_move rfl rfl) (.some rfl rfl rfl) rfl rfl <| ?_
    refine WL.test (v_lss rfl rfl rfl) (.some rfl rfl rfl) rfl rfl (fun h15 => ?_) (fun h15 => ?_)
    ·
     refine WL.v (v_pick_t rfl rfl rfl) rfl <| WL.nt <| WC.cond_t rfl <| WC.skip <| WE.then_n <| WC.seq <| WC.block <| WC.region <| WL.v (v_move rfl rfl) rfl <| WL.v (v_move rfl rfl) rfl <| WL.call rfl rfl ck_85 (.none rfl) rfl rfl <| ?_
     intro w hS
     refine Calls.then (times_c w (pwr b i) b (by omega) (by omega)) hS ?_
     refine WL.v (v_assign rfl rfl) rfl <| WL.nil <| WE.block_n <| WE.then_n <| WC.region <| WL.v (v_move rfl rfl) rfl <| ?_
     refine WL.v (v_add rfl rfl rfl (w_i64 (by omega) (by omega))) rfl ?_
     refine WL.v (v_assign rfl rfl) rfl <| WL.nil <| ?_
     exact WE.next (i + 1) (by omega) (by omega) (.int rfl (by omega) (.cons rfl (.cons rfl (.cons rfl .nil)))) (.refl _)
    ·
     refine WL.v (v_pick_t rfl rfl rfl) rfl <| WL.nt <| WC.cond_f rfl <| WC.exit <| WE.then_exit <| WE.then_exit <| WE.block_hit <| WE.then_n <| WC.seq <| WC.region <| WL.v (v_move rfl rfl) rfl <| WL.v (v_assign rfl rfl) rfl <| WL.nt <| WC.ret <| ?_
     refine WE.ret1 (P := Tryz.prog) (.inl rfl) Tryz.results127 rfl ?_
     have := pwr_full hb.1 (n := i) (by omega) (n - i)
     rw [show i + (n - i) = n by omega] at this
     exact fun w' h => ⟨by rw [this, show pwr b i = 4097 by omega], h.frm⟩
   ·
    refine WL.v (v_move rfl rfl) rfl ?_
    iterate 2 refine WL.sk rfl ?_
    refine WL.v (v_pick_f rfl rfl rfl) rfl <| WL.nt <| WC.cond_f rfl <| WC.exit <| WE.then_exit <| WE.then_exit <| WE.block_hit <| WE.then_n <| WC.seq <| WC.region <| WL.v (v_move rfl rfl) rfl <| WL.v (v_assign rfl rfl) rfl <| WL.nt <| WC.ret <| ?_
    refine WE.ret1 (P := Tryz.prog) (.inl rfl) Tryz.results127 rfl ?_
    obtain rfl : i = n := (by omega)
    exact fun w' h => ⟨rfl, h.frm⟩
def WgTo (N : Nat) : Prop := ∀ (t : Nd), SizeOf.sizeOf t ≤ N → ∀ (w : World) (pred : Bool), okT pred t → t.In → t.At w →
  Calls Tryz.prog 41 #[ndV t] w fun e w' => e = .returned (.tuple #[.int .i64 (weighT t).1, .int .i64 (weighT t).2]) ∧ Frm (fun _ => False) w w'
theorem weighAll_c (N : Nat) (ih : WgTo N) (t : Nd) (hN : SizeOf.sizeOf t ≤ N + 1) (w : World) (pred : Bool) (hk : okT pred t) (hI : t.In) (hA : t.At w) :
    Calls Tryz.prog 83 #[.slice t.ad t.kids.length t.cap] w fun e w' => e = .returned (.tuple #[.int .i64 (wAll (t.kids.map weighT) (1, 0)).1, .int .i64 (wAll (t.kids.map weighT) (1, 0)).2]) ∧ Frm (fun _ => False) w w' := by
  have hlen := hI.nums.2.2.2.2
  generalize hC : wAll (t.kids.map weighT) (1, 0) = C
  refine enter Tryz.func83 rfl Tryz.ntmps83 rfl (St.start (fun _ => False) w) ?_
  refine WC.seq <| WC.region <| WL.v (v_assign rfl rfl) rfl <| WL.v (v_assign rfl rfl) rfl <| WL.nt <| WC.seq <| WC.region <| WL.v (v_assign rfl rfl) rfl <| WL.v (v_assign rfl rfl) rfl <| WL.nt <| WC.seq <| WC.seq <| WC.region <| WL.v (v_move rfl rfl) rfl <| ?_
  refine WL.v (v_len_slice rfl rfl Tryz.underlying24) rfl <| WL.v (v_move rfl rfl) rfl <| WL.nt <| WC.block <| ?_
  refine WC.loop (fun x : Nat × Int × Int => [(12, .int .i64 x.1), (11, .int .i64 t.kids.length), (10, .slice t.ad t.kids.length t.cap), (4, .int .i64 x.2.1), (5, .int .i64 x.2.2)]) (fun _ => []) (fun x => x.1 ≤ t.kids.length ∧ WOk x.2 ∧ wAll ((t.kids.drop x.1).map weighT) x.2 = C) (fun x => t.kids.length - x.1) (0, 1, 0) ⟨Nat.zero_le _, ⟨by decide, by decide⟩, by dsimp only; rw [List.drop_zero]; exact hC⟩ (.cons rfl (.cons rfl (.cons rfl (.cons rfl (.cons rfl .nil))))) (.refl _) ?_
  rintro ⟨k, r, a⟩ ⟨hk', hw, hc⟩
  dsimp only at hk' hc
  dsimp only
  have hwr := hw.r
  have hwa := hw.a
  dsimp only at hwr hwa
  refine WC.seq <| WC.region <| ?_
  refine WL.test (v_lss rfl rfl rfl) (.none rfl) rfl rfl (fun h13 => ?_) (fun h13 => ?_)
  ·
   refine WL.nt <| WC.seq <| WC.cond_t rfl <| WC.skip <| WE.then_n <| WC.seq <| WC.block <| WC.seq <| WC.region <| ?_
   obtain ⟨u, hu⟩ : ∃ u, t.kids[k]? = some u := ⟨t.kids[k]'(by omega), List.getElem?_eq_getElem _⟩
   obtain ⟨b, o, ea, _⟩ := (hA.kid hu).1
   have hu2 := weighT_ok u
   have hur := hu2.r
   have hua := hu2.a
   rw [drop_cons hu, List.map_cons, wAll] at hc
   refine WL.v (v_indexAddr (b := b) (off := o) (lo := k) rfl (by show some (Value.slice t.ad _ _) = _; rw [ea]) rfl Tryz.underlying24 sz_26 rfl (by omega)) rfl ?_
   refine WL.v (v_loadN (cs := ndL u) rfl rfl many_26 rfl (rangeIn (fun h => h) (hA.kidAt hu ea))) rfl <| WL.alloc rfl zero_26 (.none rfl) rfl rfl <| ?_
   intro g7 hg7
   refine WL.storeW rfl rfl rfl rfl many_26 rfl rfl (.none rfl) rfl <| WL.nt <| WC.seq <| WC.region <| WL.v (v_loadN rfl rfl many_26 rfl allAt) rfl <| WL.call rfl rfl ck_41 (.none rfl) rfl rfl <| ?_
   intro w hS
   refine Calls.then (ih u (Nd.kidN hN hu) w _ (hk.kid hu) (hI.kids.get _ _ _ hu) ((hA.kid hu).2.st (fun _ h => h) hS)) hS ?_
   refine WL.v (v_move rfl rfl) rfl <| WL.v (v_extract rfl rfl rfl) rfl <| WL.v (v_extract rfl rfl rfl) rfl <| WL.v (v_assign rfl rfl) rfl <| WL.v (v_assign rfl rfl) rfl <| WL.nt <| WC.seq <| WC.region <| WL.v (v_move rfl rfl) rfl <| WL.v (v_move rfl rfl) rfl <| WL.call rfl rfl ck_85 (.none rfl) rfl rfl <| ?_
   intro w hS
   refine Calls.then (times_c w r (weighT u).1 (by omega) (by omega)) hS ?_
   refine WL.v (v_assign rfl rfl) rfl <| WL.nt <| WC.region <| WL.v (v_move rfl rfl) rfl <| WL.v (v_move rfl rfl) rfl <| ?_
   refine WL.v (v_add rfl rfl rfl (w_i64 (by omega) (by omega))) rfl ?_
   refine WL.v (v_min rfl rfl rfl) rfl <| WL.v (v_assign rfl rfl) rfl <| WL.nil <| WE.block_n <| WE.then_n <| WC.region <| ?_
   refine WL.v (v_add rfl rfl rfl (w_i64 (by omega) (by omega))) rfl ?_
   refine WL.v (v_move rfl rfl) rfl <| WL.nil <| ?_
   exact WE.next (k + 1, tms r (weighT u).1, min (a + (weighT u).2) 4097) (by dsimp only; omega) ⟨by dsimp only; omega, ⟨tms_in hwr.1 hur.1, by dsimp only; omega⟩, hc⟩ (.int rfl (by dsimp only; omega) (.cons rfl (.cons rfl (.cons rfl (.cons rfl .nil))))) (.cons _ (.refl _))
  ·
   refine WL.nt <| WC.seq <| WC.cond_f rfl <| WC.exit <| WE.then_exit <| WE.then_exit <| WE.block_hit <| WE.then_n <| WC.seq <| WC.region <| WL.v (v_move rfl rfl) rfl <| WL.v (v_move rfl rfl) rfl <| WL.v (v_assign rfl rfl) rfl <| WL.v (v_assign rfl rfl) rfl <| ?_
   refine WL.nt <| WC.ret <| WE.ret2 (P := Tryz.prog) (.inl rfl) Tryz.results83 rfl rfl <| ?_
   obtain rfl : k = t.kids.length := (by omega)
   rw [List.drop_length] at hc
   exact fun w' h => ⟨by rw [← hc]; rfl, h.frm⟩
theorem weighRow_c (N : Nat) (ih : WgTo N) (t : Nd) (hN : SizeOf.sizeOf t ≤ N + 1) (w : World) (pred : Bool) (hk : okT pred t) (hI : t.In) (hA : t.At w) :
    Calls Tryz.prog 84 #[.slice t.ad t.kids.length t.cap] w fun e w' => e = .returned (.tuple #[.int .i64 (if t.kids.length = 0 then (1, 1) else wRow (t.kids.map weighT) (1, 1, 0)).1, .int .i64 (if t.kids.length = 0 then (1, 1) else wRow (t.kids.map weighT) (1, 1, 0)).2]) ∧ Frm (fun _ => False) w w' := by
  have hlen := hI.nums.2.2.2.2
  generalize hC : wRow (t.kids.map weighT) (1, 1, 0) = C
  refine enter Tryz.func84 rfl Tryz.ntmps84 rfl (St.start (fun _ => False) w) ?_
  refine WC.seq <| WC.region <| WL.v (v_assign rfl rfl) rfl <| WL.v (v_assign rfl rfl) rfl <| WL.nt <| WC.seq <| WC.seq <| WC.region <| WL.v (v_move rfl rfl) rfl <| WL.v (v_len_slice rfl rfl Tryz.underlying24) rfl <| ?_
  refine WL.test (v_eql rfl rfl rfl) (.none rfl) rfl rfl (fun h13 => ?_) (fun h13 => ?_)
  ·
   refine WL.nt <| WC.cond_t rfl <| WC.seq <| WC.region <| WL.v (v_assign rfl rfl) rfl <| WL.v (v_assign rfl rfl) rfl <| WL.nt <| WC.ret <| WE.then_ret <| WE.ret2 (P := Tryz.prog) (.inl rfl) Tryz.results84 rfl rfl <| ?_
   exact fun w' h => ⟨by rw [if_pos (by omega)], h.frm⟩
  ·
   refine WL.nt <| WC.cond_f rfl <| WC.skip <| WE.then_n <| WC.seq <| WC.region <| WL.v (v_assign rfl rfl) rfl <| WL.v (v_assign rfl rfl) rfl <| WL.v (v_assign rfl rfl) rfl <| WL.nt <| WC.seq <| WC.seq <| WC.region <| WL.v (v_move rfl rfl) rfl <| ?_
   refine WL.v (v_len_slice rfl rfl Tryz.underlying24) rfl <| WL.v (v_move rfl rfl) rfl <| WL.nt <| WC.block <| ?_
   refine WC.loop (fun x : Nat × Int × Int × Int => [(16, .int .i64 x.1), (15, .int .i64 t.kids.length), (14, .slice t.ad t.kids.length t.cap), (4, .int .i64 x.2.1), (5, .int .i64 x.2.2.1), (6, .int .i64 x.2.2.2)]) (fun _ => []) (fun x => x.1 ≤ t.kids.length ∧ (1 ≤ x.2.1 ∧ x.2.1 ≤ 4097) ∧ (0 ≤ x.2.2.1 ∧ x.2.2.1 ≤ 4097) ∧ wRow ((t.kids.drop x.1).map weighT) x.2 = C) (fun x => t.kids.length - x.1) (0, 1, 1, 0) ⟨Nat.zero_le _, by decide, by decide, by dsimp only; rw [List.drop_zero]; exact hC⟩ (.cons rfl (.cons rfl (.cons rfl (.cons rfl (.cons rfl (.cons rfl .nil)))))) (.refl _) ?_
   rintro ⟨k, r, a, m⟩ ⟨hk', hwr, hwa, hc⟩
   dsimp only at hk' hwr hwa hc
   dsimp only
   refine WC.seq <| WC.region <| ?_
   refine WL.test (v_lss rfl rfl rfl) (.none rfl) rfl rfl (fun h17 => ?_) (fun h17 => ?_)
   ·
    refine WL.nt <| WC.seq <| WC.cond_t rfl <| WC.skip <| WE.then_n <| WC.seq <| WC.block <| WC.seq <| WC.region <| ?_
    obtain ⟨u, hu⟩ : ∃ u, t.kids[k]? = some u := ⟨t.kids[k]'(by omega), List.getElem?_eq_getElem _⟩
    obtain ⟨b, o, ea, _⟩ := (hA.kid hu).1
    have hu2 := weighT_ok u
    have hur := hu2.r
    have hua := hu2.a
    have hpw := pwr_in hur.1 a.toNat
    rw [drop_cons hu, List.map_cons, wRow] at hc
    refine WL.v (v_indexAddr (b := b) (off := o) (lo := k) rfl (by show some (Value.slice t.ad _ _) = _; rw [ea]) rfl Tryz.underlying24 sz_26 rfl (by omega)) rfl ?_
    refine WL.v (v_loadN (cs := ndL u) rfl rfl many_26 rfl (rangeIn (fun h => h) (hA.kidAt hu ea))) rfl <| WL.alloc rfl zero_26 (.none rfl) rfl rfl <| ?_
    intro g8 hg8
    refine WL.storeW rfl rfl rfl rfl many_26 rfl rfl (.none rfl) rfl <| WL.nt <| WC.seq <| WC.region <| WL.v (v_loadN rfl rfl many_26 rfl allAt) rfl <| WL.call rfl rfl ck_41 (.none rfl) rfl rfl <| ?_
    intro w hS
    refine Calls.then (ih u (Nd.kidN hN hu) w _ (hk.kid hu) (hI.kids.get _ _ _ hu) ((hA.kid hu).2.st (fun _ h => h) hS)) hS ?_
    refine WL.v (v_move rfl rfl) rfl <| WL.v (v_extract rfl rfl rfl) rfl <| WL.v (v_extract rfl rfl rfl) rfl <| WL.v (v_assign rfl rfl) rfl <| WL.v (v_assign rfl rfl) rfl <| WL.nt <| WC.seq <| WC.region <| WL.v (v_move rfl rfl) rfl <| WL.v (v_move rfl rfl) rfl <| WL.v (v_move rfl rfl) rfl <| WL.call rfl rfl ck_127 (.none rfl) rfl rfl <| ?_
    intro w hS
    refine Calls.then ((by have := power_c w (weighT u).1 a.toNat hur (by omega); rwa [Int.toNat_of_nonneg hwa.1] at this)) hS ?_
    refine WL.call rfl rfl ck_85 (.none rfl) rfl rfl ?_
    intro w hS
    refine Calls.then (times_c w r (pwr (weighT u).1 a.toNat) (by omega) (by omega)) hS ?_
    refine WL.v (v_assign rfl rfl) rfl <| WL.nt <| WC.seq <| WC.region <| WL.v (v_move rfl rfl) rfl <| WL.v (v_move rfl rfl) rfl <| WL.call rfl rfl ck_85 (.none rfl) rfl rfl <| ?_
    intro w hS
    refine Calls.then (times_c w a (weighT u).2 (by omega) (by omega)) hS ?_
    refine WL.v (v_assign rfl rfl) rfl <| WL.nt <| WC.region <| WL.v (v_move rfl rfl) rfl <| WL.v (v_move rfl rfl) rfl <| WL.v (v_max rfl rfl rfl) rfl <| WL.v (v_assign rfl rfl) rfl <| WL.nil <| WE.block_n <| WE.then_n <| WC.region <| ?_
    refine WL.v (v_add rfl rfl rfl (w_i64 (by omega) (by omega))) rfl ?_
    refine WL.v (v_move rfl rfl) rfl <| WL.nil <| ?_
    exact WE.next (k + 1, tms r (pwr (weighT u).1 a.toNat), tms a (weighT u).2, max m (tms a (weighT u).2)) (by dsimp only; omega) ⟨by dsimp only; omega, tms_in hwr.1 hpw.1, tms_in0 hwa.1 hua.1, hc⟩ (.int rfl (by dsimp only; omega) (.cons rfl (.cons rfl (.cons rfl (.cons rfl (.cons rfl .nil)))))) (.cons _ (.refl _))
   ·
    refine WL.nt <| WC.seq <| WC.cond_f rfl <| WC.exit <| WE.then_exit <| WE.then_exit <| WE.block_hit <| WE.then_n <| WC.seq <| WC.region <| WL.v (v_move rfl rfl) rfl <| WL.v (v_move rfl rfl) rfl <| WL.v (v_assign rfl rfl) rfl <| WL.v (v_assign rfl rfl) rfl <| ?_
    refine WL.nt <| WC.ret <| WE.ret2 (P := Tryz.prog) (.inl rfl) Tryz.results84 rfl rfl <| ?_
    obtain rfl : k = t.kids.length := (by omega)
    rw [List.drop_length] at hc
    exact fun w' h => ⟨by rw [if_neg (by omega), ← hc]; rfl, h.frm⟩
set_option maxHeartbeats 4000000 in
theorem weigh_step (N : Nat) (ih : WgTo N) : WgTo (N + 1) := by
  intro t hN w pred hk hI hA
  have hlen := hI.nums.2.2.2.2
  have hw := weighT_eq t
  have kid : ∀ i : Nat, (i : Int) < leastK t.kind → ∃ u b o, t.kids[i]? = some u ∧ t.ad = some ⟨b, o, none⟩ ∧ w.rangeAt b (o + i * 5) (ndL u) := fun i hi => by
    obtain ⟨u, hu⟩ := kid_of hk hi
    obtain ⟨b, o, ea, hr⟩ := (hA.kid hu).1
    exact ⟨u, b, o, hu, ea, hr⟩
  refine enter Tryz.func41 rfl Tryz.ntmps41 rfl (St.start (fun _ => False) w) ?_
  refine WC.seq <| WC.region <| WL.box rfl rfl rfl (.none rfl) rfl rfl <| ?_
  intro g1 hg1
  refine WL.v (v_assign rfl rfl) rfl <| WL.v (v_assign rfl rfl) rfl <| WL.nt <| WC.seq <| WC.seq <| WC.region <| WL.v (v_fieldAddr0 rfl rfl fld_26_0) rfl <| WL.v (v_load1 rfl rfl one_3 (cellAt rfl)) rfl <| WL.nt <| WC.block <| WC.seq <| WC.region <| ?_
  refine WL.test (v_eql rfl rfl rfl) (.none rfl) rfl rfl (fun h17 => ?_) (fun h17 => ?_)
  ·
   refine WL.v (v_assign rfl rfl) rfl <| WL.nt <| WC.cond_t rfl <| WC.seq <| WC.region <| WL.v (v_assign rfl rfl) rfl <| WL.v (v_assign rfl rfl) rfl <| WL.nt <| WC.ret <| WE.block_ret <| WE.then_ret <| WE.ret2 (P := Tryz.prog) (.inl rfl) Tryz.results41 rfl rfl <| ?_
   rw [if_pos h17] at hw
   exact fun w' h => ⟨by rw [hw], h.frm⟩
  ·
   refine WL.v (v_assign rfl rfl) rfl <| WL.nt <| WC.cond_f rfl <| WC.seq <| WC.seq <| WC.region <| ?_
   refine WL.test (v_eql rfl rfl rfl) (.none rfl) rfl rfl (fun h19 => ?_) (fun h19 => ?_)
   ·
    refine WL.v (v_assign rfl rfl) rfl <| WL.nt <| WC.cond_t rfl <| WC.skip <| WE.then_n <| WC.cond_t rfl <| WC.seq <| WC.region <| WL.v (v_fieldAddr0 rfl rfl fld_26_4) rfl <| WL.v (v_load1 rfl rfl one_24 (cellAt rfl)) rfl <| ?_
    obtain ⟨u, b, o, hu, ea, hr⟩ := kid 0 (by first | (rw [show t.kind = 4 from h19]; decide) | (rw [show t.kind = 13 from h20]; decide))
    have hlt := (List.getElem?_eq_some_iff.1 hu).1
    rw [if_neg (by omega), if_pos (by omega), wNth_get hu] at hw
    refine WL.v (v_indexAddr (b := b) (off := o) (lo := 0) rfl (by show some (Value.slice t.ad _ _) = _; rw [ea]) rfl Tryz.underlying24 sz_26 rfl (by omega)) rfl ?_
    refine WL.v (v_loadN (cs := ndL u) rfl rfl many_26 rfl (rangeIn (fun h => h) hr)) rfl <| WL.call rfl rfl ck_41 (.none rfl) rfl rfl <| ?_
    intro w hS
    refine Calls.then (ih u (Nd.kidN hN hu) w _ (hk.kid hu) (hI.kids.get _ _ _ hu) ((hA.kid hu).2.st (fun _ h => h) hS)) hS ?_
    refine WL.v (v_move rfl rfl) rfl <| WL.v (v_extract rfl rfl rfl) rfl <| WL.v (v_extract rfl rfl rfl) rfl <| WL.v (v_assign rfl rfl) rfl <| WL.v (v_assign rfl rfl) rfl <| WL.nt <| WC.seq <| WC.region <| WL.v (v_move rfl rfl) rfl <| WL.v (v_assign rfl rfl) rfl <| WL.v (v_assign rfl rfl) rfl <| WL.nt <| WC.ret <| WE.block_ret <| ?_
    refine WE.then_ret <| WE.ret2 (P := Tryz.prog) (.inl rfl) Tryz.results41 rfl rfl <| ?_
    exact fun w' h => ⟨by rw [hw], h.frm⟩
   ·
    refine WL.v (v_assign rfl rfl) rfl <| WL.nt <| WC.cond_f rfl <| WC.region <| ?_
    refine WL.test (v_eql rfl rfl rfl) (.none rfl) rfl rfl (fun h20 => ?_) (fun h20 => ?_)
    ·
     refine WL.v (v_assign rfl rfl) rfl <| WL.nt <| WC.cond_t rfl <| WC.seq <| WC.region <| WL.v (v_fieldAddr0 rfl rfl fld_26_4) rfl <| WL.v (v_load1 rfl rfl one_24 (cellAt rfl)) rfl <| ?_
     obtain ⟨u, b, o, hu, ea, hr⟩ := kid 0 (by first | (rw [show t.kind = 4 from h19]; decide) | (rw [show t.kind = 13 from h20]; decide))
     have hlt := (List.getElem?_eq_some_iff.1 hu).1
     rw [if_neg (by omega), if_pos (by omega), wNth_get hu] at hw
     refine WL.v (v_indexAddr (b := b) (off := o) (lo := 0) rfl (by show some (Value.slice t.ad _ _) = _; rw [ea]) rfl Tryz.underlying24 sz_26 rfl (by omega)) rfl ?_
     refine WL.v (v_loadN (cs := ndL u) rfl rfl many_26 rfl (rangeIn (fun h => h) hr)) rfl <| WL.call rfl rfl ck_41 (.none rfl) rfl rfl <| ?_
     intro w hS
     refine Calls.then (ih u (Nd.kidN hN hu) w _ (hk.kid hu) (hI.kids.get _ _ _ hu) ((hA.kid hu).2.st (fun _ h => h) hS)) hS ?_
     refine WL.v (v_move rfl rfl) rfl <| WL.v (v_extract rfl rfl rfl) rfl <| WL.v (v_extract rfl rfl rfl) rfl <| WL.v (v_assign rfl rfl) rfl <| WL.v (v_assign rfl rfl) rfl <| WL.nt <| WC.seq <| WC.region <| WL.v (v_move rfl rfl) rfl <| WL.v (v_assign rfl rfl) rfl <| WL.v (v_assign rfl rfl) rfl <| WL.nt <| WC.ret <| WE.block_ret <| ?_
     refine WE.then_ret <| WE.ret2 (P := Tryz.prog) (.inl rfl) Tryz.results41 rfl rfl <| ?_
     exact fun w' h => ⟨by rw [hw], h.frm⟩
    ·
     refine WL.v (v_assign rfl rfl) rfl <| WL.nt <| WC.cond_f rfl <| WC.seq <| WC.seq <| WC.region <| ?_
     refine WL.test (v_eql rfl rfl rfl) (.none rfl) rfl rfl (fun h31 => ?_) (fun h31 => ?_)
     ·
      refine WL.v (v_assign rfl rfl) rfl <| WL.nt <| WC.cond_t rfl <| WC.skip <| WE.then_n <| WC.cond_t rfl <| WC.seq <| WC.region <| WL.v (v_fieldAddr0 rfl rfl fld_26_4) rfl <| WL.v (v_load1 rfl rfl one_24 (cellAt rfl)) rfl <| ?_
      rw [if_neg (by omega), if_neg (by omega), if_pos (by omega)] at hw
      refine WL.call rfl rfl ck_83 (.none rfl) rfl rfl ?_
      intro w hS
      refine Calls.then (weighAll_c N ih t hN w pred hk hI (hA.st (fun _ h => h) hS)) hS ?_
      refine WL.v (v_move rfl rfl) rfl <| WL.v (v_extract rfl rfl rfl) rfl <| WL.v (v_extract rfl rfl rfl) rfl <| WL.v (v_assign rfl rfl) rfl <| WL.v (v_assign rfl rfl) rfl <| WL.nt <| WC.seq <| WC.region <| WL.v (v_move rfl rfl) rfl <| WL.v (v_assign rfl rfl) rfl <| WL.v (v_assign rfl rfl) rfl <| WL.nt <| WC.ret <| WE.block_ret <| ?_
      refine WE.then_ret <| WE.ret2 (P := Tryz.prog) (.inl rfl) Tryz.results41 rfl rfl <| ?_
      exact fun w' h => ⟨by rw [hw], h.frm⟩
     ·
      refine WL.v (v_assign rfl rfl) rfl <| WL.nt <| WC.cond_f rfl <| WC.region <| ?_
      refine WL.test (v_eql rfl rfl rfl) (.none rfl) rfl rfl (fun h32 => ?_) (fun h32 => ?_)
      ·
       refine WL.v (v_assign rfl rfl) rfl <| WL.nt <| WC.cond_t rfl <| WC.seq <| WC.region <| WL.v (v_fieldAddr0 rfl rfl fld_26_4) rfl <| WL.v (v_load1 rfl rfl one_24 (cellAt rfl)) rfl <| ?_
       rw [if_neg (by omega), if_neg (by omega), if_pos (by omega)] at hw
       refine WL.call rfl rfl ck_83 (.none rfl) rfl rfl ?_
       intro w hS
       refine Calls.then (weighAll_c N ih t hN w pred hk hI (hA.st (fun _ h => h) hS)) hS ?_
       refine WL.v (v_move rfl rfl) rfl <| WL.v (v_extract rfl rfl rfl) rfl <| WL.v (v_extract rfl rfl rfl) rfl <| WL.v (v_assign rfl rfl) rfl <| WL.v (v_assign rfl rfl) rfl <| WL.nt <| WC.seq <| WC.region <| WL.v (v_move rfl rfl) rfl <| WL.v (v_assign rfl rfl) rfl <| WL.v (v_assign rfl rfl) rfl <| WL.nt <| WC.ret <| WE.block_ret <| ?_
       refine WE.then_ret <| WE.ret2 (P := Tryz.prog) (.inl rfl) Tryz.results41 rfl rfl <| ?_
       exact fun w' h => ⟨by rw [hw], h.frm⟩
      ·
       refine WL.v (v_assign rfl rfl) rfl <| WL.nt <| WC.cond_f rfl <| WC.seq <| WC.region <| ?_
       refine WL.test (v_eql rfl rfl rfl) (.none rfl) rfl rfl (fun h41 => ?_) (fun h41 => ?_)
       ·
        refine WL.v (v_assign rfl rfl) rfl <| WL.nt <| WC.cond_t rfl <| WC.seq <| WC.region <| WL.v (v_assign rfl rfl) rfl <| WL.v (v_assign rfl rfl) rfl <| WL.nt <| WC.ret <| WE.block_ret <| WE.then_ret <| WE.ret2 (P := Tryz.prog) (.inl rfl) Tryz.results41 rfl rfl <| ?_
        rw [if_neg (by omega), if_neg (by omega), if_neg (by omega), if_pos h41] at hw
        exact fun w' h => ⟨by rw [hw], h.frm⟩
       ·
        refine WL.v (v_assign rfl rfl) rfl <| WL.nt <| WC.cond_f rfl <| WC.seq <| WC.region <| ?_
        refine WL.test (v_eql rfl rfl rfl) (.none rfl) rfl rfl (fun h43 => ?_) (fun h43 => ?_)
        ·
         refine WL.v (v_assign rfl rfl) rfl <| WL.nt <| WC.cond_t rfl <| WC.seq <| WC.region <| WL.v (v_fieldAddr0 rfl rfl fld_26_4) rfl <| WL.v (v_load1 rfl rfl one_24 (cellAt rfl)) rfl <| ?_
         rw [if_neg (by omega), if_neg (by omega), if_neg (by omega), if_neg (by omega), if_pos h43] at hw
         refine WL.call rfl rfl ck_83 (.none rfl) rfl rfl ?_
         intro w hS
         refine Calls.then (weighAll_c N ih t hN w pred hk hI (hA.st (fun _ h => h) hS)) hS ?_
         refine WL.v (v_extract rfl rfl rfl) rfl <| WL.v (v_extract rfl rfl rfl) rfl <| WL.v (v_assign rfl rfl) rfl <| WL.v (v_assign rfl rfl) rfl <| WL.nt <| WC.ret <| WE.block_ret <| WE.then_ret <| WE.ret2 (P := Tryz.prog) (.inl rfl) Tryz.results41 rfl rfl <| ?_
         exact fun w' h => ⟨by rw [hw], h.frm⟩
        ·
         refine WL.v (v_assign rfl rfl) rfl <| WL.nt <| WC.cond_f rfl <| WC.seq <| WC.region <| ?_
         refine WL.test (v_eql rfl rfl rfl) (.none rfl) rfl rfl (fun h50 => ?_) (fun h50 => ?_)
         ·
          refine WL.v (v_assign rfl rfl) rfl <| WL.nt <| WC.cond_t rfl <| WC.seq <| WC.region <| WL.v (v_fieldAddr0 rfl rfl fld_26_4) rfl <| WL.v (v_load1 rfl rfl one_24 (cellAt rfl)) rfl <| ?_
          rw [if_neg (by omega), if_neg (by omega), if_neg (by omega), if_neg (by omega), if_neg (by omega), if_pos h50] at hw
          refine WL.call rfl rfl ck_84 (.none rfl) rfl rfl ?_
          intro w hS
          refine Calls.then (weighRow_c N ih t hN w pred hk hI (hA.st (fun _ h => h) hS)) hS ?_
          refine WL.v (v_extract rfl rfl rfl) rfl <| WL.v (v_extract rfl rfl rfl) rfl <| WL.v (v_assign rfl rfl) rfl <| WL.v (v_assign rfl rfl) rfl <| WL.nt <| WC.ret <| WE.block_ret <| WE.then_ret <| WE.ret2 (P := Tryz.prog) (.inl rfl) Tryz.results41 rfl rfl <| ?_
          exact fun w' h => ⟨by rw [hw], h.frm⟩
         ·
          refine WL.v (v_assign rfl rfl) rfl <| WL.nt <| WC.cond_f rfl <| WC.seq <| WC.region <| ?_
          refine WL.test (v_eql rfl rfl rfl) (.none rfl) rfl rfl (fun h57 => ?_) (fun h57 => ?_)
          ·
           refine WL.v (v_assign rfl rfl) rfl <| WL.nt <| WC.cond_t rfl <| WC.seq <| WC.region <| WL.v (v_fieldAddr0 rfl rfl fld_26_4) rfl <| WL.v (v_load1 rfl rfl one_24 (cellAt rfl)) rfl <| ?_
           obtain ⟨u0, b, o, hu0, ea, hr0⟩ := kid 0 (by rw [show t.kind = 17 from h57]; decide)
           obtain ⟨u1, b1, o1, hu1, ea1, hr1⟩ := kid 1 (by rw [show t.kind = 17 from h57]; decide)
           obtain ⟨u2, b2, o2, hu2, ea2, hr2⟩ := kid 2 (by rw [show t.kind = 17 from h57]; decide)
           have hl2 := (List.getElem?_eq_some_iff.1 hu2).1
           rw [if_neg (by omega), if_neg (by omega), if_neg (by omega), if_neg (by omega), if_neg (by omega), if_neg (by omega), if_pos h57, wNth_get hu0, wNth_get hu1, wNth_get hu2] at hw
           have w0 := (weighT_ok u0).r
           have w1 := (weighT_ok u1).r
           have w2 := (weighT_ok u2).r
           refine WL.v (v_indexAddr (b := b) (off := o) (lo := 0) rfl (by show some (Value.slice t.ad _ _) = _; rw [ea]) rfl Tryz.underlying24 sz_26 rfl (by omega)) rfl ?_
           refine WL.v (v_loadN (cs := ndL u0) rfl rfl many_26 rfl (rangeIn (fun h => h) hr0)) rfl <| WL.call rfl rfl ck_41 (.none rfl) rfl rfl <| ?_
           intro w hS
           refine Calls.then (ih u0 (Nd.kidN hN hu0) w _ (hk.kid hu0) (hI.kids.get _ _ _ hu0) ((hA.kid hu0).2.st (fun _ h => h) hS)) hS ?_
           refine WL.v (v_move rfl rfl) rfl <| WL.v (v_extract rfl rfl rfl) rfl <| WL.v (v_extract rfl rfl rfl) rfl <| WL.v (v_assign rfl rfl) rfl <| WL.v (v_assign rfl rfl) rfl <| WL.nt <| WC.seq <| WC.region <| WL.v (v_fieldAddr0 rfl rfl fld_26_4) rfl <| WL.v (v_load1 rfl rfl one_24 (cellAt rfl)) rfl <| ?_
           refine WL.v (v_indexAddr (b := b1) (off := o1) (lo := 1) rfl (by show some (Value.slice t.ad _ _) = _; rw [ea1]) rfl Tryz.underlying24 sz_26 rfl (by omega)) rfl ?_
           refine WL.v (v_loadN (cs := ndL u1) rfl rfl many_26 rfl (rangeIn (fun h => h) hr1)) rfl <| WL.call rfl rfl ck_41 (.none rfl) rfl rfl <| ?_
           intro w hS
           refine Calls.then (ih u1 (Nd.kidN hN hu1) w _ (hk.kid hu1) (hI.kids.get _ _ _ hu1) ((hA.kid hu1).2.st (fun _ h => h) hS)) hS ?_
           refine WL.v (v_move rfl rfl) rfl <| WL.v (v_extract rfl rfl rfl) rfl <| WL.v (v_extract rfl rfl rfl) rfl <| WL.v (v_assign rfl rfl) rfl <| WL.v (v_assign rfl rfl) rfl <| WL.nt <| WC.seq <| WC.region <| WL.v (v_fieldAddr0 rfl rfl fld_26_4) rfl <| WL.v (v_load1 rfl rfl one_24 (cellAt rfl)) rfl <| ?_
           refine WL.v (v_indexAddr (b := b2) (off := o2) (lo := 2) rfl (by show some (Value.slice t.ad _ _) = _; rw [ea2]) rfl Tryz.underlying24 sz_26 rfl (by omega)) rfl ?_
           refine WL.v (v_loadN (cs := ndL u2) rfl rfl many_26 rfl (rangeIn (fun h => h) hr2)) rfl <| WL.call rfl rfl ck_41 (.none rfl) rfl rfl <| ?_
           intro w hS
           refine Calls.then (ih u2 (Nd.kidN hN hu2) w _ (hk.kid hu2) (hI.kids.get _ _ _ hu2) ((hA.kid hu2).2.st (fun _ h => h) hS)) hS ?_
           refine WL.v (v_move rfl rfl) rfl <| WL.v (v_extract rfl rfl rfl) rfl <| WL.v (v_extract rfl rfl rfl) rfl <| WL.v (v_assign rfl rfl) rfl <| WL.v (v_assign rfl rfl) rfl <| WL.nt <| WC.seq <| WC.region <| WL.v (v_move rfl rfl) rfl <| WL.v (v_move rfl rfl) rfl <| WL.v (v_move rfl rfl) rfl <| WL.v (v_max rfl rfl rfl) rfl <| WL.call rfl rfl ck_85 (.none rfl) rfl rfl <| ?_
           intro w hS
           refine Calls.then (times_c w (weighT u0).1 (max (weighT u1).1 (weighT u2).1) (by omega) (by omega)) hS ?_
           refine WL.v (v_move rfl rfl) rfl <| WL.v (v_move rfl rfl) rfl <| WL.v (v_max rfl rfl rfl) rfl <| WL.v (v_assign rfl rfl) rfl <| WL.v (v_assign rfl rfl) rfl <| WL.nt <| WC.ret <| WE.block_ret <| WE.then_ret <| WE.ret2 (P := Tryz.prog) (.inl rfl) Tryz.results41 rfl rfl <| ?_
           exact fun w' h => ⟨by rw [hw], h.frm⟩
          ·
           refine WL.v (v_assign rfl rfl) rfl <| WL.nt <| WC.cond_f rfl <| WC.skip <| WE.block_n <| WE.then_n <| WC.seq <| WC.region <| WL.v (v_assign rfl rfl) rfl <| WL.v (v_assign rfl rfl) rfl <| WL.nt <| WC.ret <| WE.ret2 (P := Tryz.prog) (.inl rfl) Tryz.results41 rfl rfl <| ?_
           rw [if_neg (by omega), if_neg (by omega), if_neg (by omega), if_neg (by omega), if_neg (by omega), if_neg (by omega), if_neg (by omega)] at hw
           exact fun w' h => ⟨by rw [hw], h.frm⟩
theorem weigh_c : ∀ N, WgTo N
  | 0 => fun t hN => by cases t; simp only [Nd.mk.sizeOf_spec] at hN; omega
  | N + 1 => weigh_step N (weigh_c N)
theorem Weight_c (w : World) (t : Nd) (hI : t.In) (hA : t.At w) (hG : GW w) : Calls Tryz.prog 13 #[ndV t] w fun e w' => e = .returned (.tuple #[.int .i64 (if (walkT t 1 false 0).1 = 0 then (weighT t).1 else 0), .int .i64 (if (walkT t 1 false 0).1 = 0 then (weighT t).2 else 0), .int .i64 (walkT t 1 false 0).1]) ∧ Frm (fun _ => False) w w' := by
  refine enter Tryz.func13 rfl Tryz.ntmps13 rfl (St.start (fun _ => False) w) ?_
  refine WC.seq <| WC.region <| WL.box rfl rfl rfl (.none rfl) rfl rfl <| ?_
  intro g1 hg1
  refine WL.v (v_assign rfl rfl) rfl <| WL.v (v_assign rfl rfl) rfl <| WL.v (v_assign rfl rfl) rfl <| WL.nt <| WC.seq <| WC.seq <| WC.region <| WL.v (v_loadN rfl rfl many_26 rfl allAt) rfl <| WL.call rfl rfl ck_14 (.none rfl) rfl rfl <| ?_
  intro w hS
  refine Calls.then (Check_c w t hI (hA.st (fun _ h => h) hS) (hG.keep (fun h => h) hS)) hS ?_
  refine WL.v (v_assign rfl rfl) rfl <| WL.nt <| WC.seq <| WC.region <| WL.v (v_move rfl rfl) rfl <| ?_
  refine WL.test (v_neq rfl rfl rfl) (.none rfl) rfl rfl (fun h11 => ?_) (fun h11 => ?_)
  ·
   refine WL.nt <| WC.cond_t rfl <| WC.seq <| WC.region <| WL.v (v_move rfl rfl) rfl <| WL.v (v_assign rfl rfl) rfl <| WL.v (v_assign rfl rfl) rfl <| WL.v (v_assign rfl rfl) rfl <| WL.nt <| WC.ret <| WE.then_ret <| WE.ret3 (P := Tryz.prog) (.inl rfl) Tryz.results13 rfl rfl rfl <| ?_
   exact fun w' h => ⟨by rw [if_neg h11, if_neg h11], h.frm⟩
  ·
   refine WL.nt <| WC.cond_f rfl <| WC.skip <| WE.then_n <| WC.seq <| WC.region <| WL.v (v_loadN rfl rfl many_26 rfl allAt) rfl <| WL.call rfl rfl ck_41 (.none rfl) rfl rfl <| ?_
   intro w hS
   refine Calls.then (weigh_c _ t (Nat.le_refl _) w false (walkT_ok t 1 false 0 (Decidable.of_not_not h11)) hI (hA.st (fun _ h => h) hS)) hS ?_
   refine WL.v (v_move rfl rfl) rfl <| WL.v (v_extract rfl rfl rfl) rfl <| WL.v (v_extract rfl rfl rfl) rfl <| WL.v (v_assign rfl rfl) rfl <| WL.v (v_assign rfl rfl) rfl <| WL.nt <| WC.seq <| WC.region <| WL.v (v_move rfl rfl) rfl <| WL.v (v_move rfl rfl) rfl <| WL.v (v_assign rfl rfl) rfl <| WL.v (v_assign rfl rfl) rfl <| WL.v (v_assign rfl rfl) rfl <| WL.nt <| ?_
   refine WC.ret <| WE.ret3 (P := Tryz.prog) (.inl rfl) Tryz.results13 rfl rfl rfl <| ?_
   have h0 : (walkT t 1 false 0).1 = 0 := Decidable.of_not_not h11
   exact fun w' h => ⟨by rw [if_pos h0, if_pos h0, h0], h.frm⟩
end Go.Proofs.YtkeonnnhogaggaaGreatDoor
/- join: both, all, buildTest, silent, bound. -/
namespace Go.Proofs.YtkeonnnhogaggaaGreatDoor
open Go.RowKit

theorem sumC_both : SumC 94 bothA := fun w a b ac bc us vs _ _ h1 h2 => by
  refine enter Tryz.func94 rfl Tryz.ntmps94 rfl (St.start (fun _ => False) w) ?_
  refine WC.seq <| WC.region <| WL.v (v_assign rfl rfl) rfl <| WL.nt <| WC.seq <| WC.seq <| WC.region <| WL.v (v_move rfl rfl) rfl <| WL.v (v_len_slice rfl rfl Tryz.underlying113) rfl <| ?_
  refine WL.test (v_eql rfl rfl rfl) (.none rfl) rfl rfl (fun h7 => ?_) (fun h7 => ?_)
  ·
   refine WL.v (v_move rfl rfl) rfl ?_
   iterate 3 refine WL.sk rfl ?_
   refine WL.v (v_pick_t rfl rfl rfl) rfl <| WL.nt <| WC.cond_t rfl <| WC.seq <| WC.region <| WL.v (v_assign rfl rfl) rfl <| WL.nt <| WC.ret <| WE.then_ret <| WE.ret1 (P := Tryz.prog) (.inl rfl) Tryz.results94 rfl <| ?_
   have e : bothA us vs = [] := (by unfold bothA; exact if_pos (.inl (by omega)))
   exact fun w' h => ⟨none, 0, [], by rw [e]; rfl, fun w2 _ _ _ => by rw [e]; exact fun hn => absurd rfl hn, h⟩
  ·
   refine WL.v (v_move rfl rfl) rfl <| WL.val (v_move rfl rfl) (.some rfl rfl rfl) rfl rfl <| WL.val (v_len_slice rfl rfl Tryz.underlying113) (.some rfl rfl rfl) rfl rfl <| ?_
   refine WL.test (v_eql rfl rfl rfl) (.some rfl rfl rfl) rfl rfl (fun h11 => ?_) (fun h11 => ?_)
   ·
    refine WL.v (v_pick_f rfl rfl rfl) rfl <| WL.nt <| WC.cond_t rfl <| WC.seq <| WC.region <| WL.v (v_assign rfl rfl) rfl <| WL.nt <| WC.ret <| WE.then_ret <| WE.ret1 (P := Tryz.prog) (.inl rfl) Tryz.results94 rfl <| ?_
    have e : bothA us vs = [] := (by unfold bothA; exact if_pos (.inr (by omega)))
    exact fun w' h => ⟨none, 0, [], by rw [e]; rfl, fun w2 _ _ _ => by rw [e]; exact fun hn => absurd rfl hn, h⟩
   ·
    refine WL.v (v_pick_f rfl rfl rfl) rfl <| WL.nt <| WC.cond_f rfl <| WC.skip <| WE.then_n <| WC.seq <| WC.region <| WL.v (v_move rfl rfl) rfl <| WL.v (v_assign rfl rfl) rfl <| WL.nt <| WC.ret <| WE.ret1 (P := Tryz.prog) (.inl rfl) Tryz.results94 rfl <| ?_
    have e : bothA us vs = us := (by unfold bothA; exact if_neg (by omega))
    exact fun w' h => ⟨a, ac, [], by rw [e], fun w2 _ h2 _ => by rw [e]; exact h2, h⟩
theorem mt0_in : mt0.In := ⟨fun _ => ⟨Int.le_refl _, (by decide : (0 : Int) ≤ 18446744073709551615)⟩, fun _ => ⟨Int.le_refl _, (by decide : (0 : Int) ≤ 18446744073709551615)⟩⟩
theorem mt0_nz : mt0.Nz := fun _ _ => ⟨rfl, rfl⟩
theorem one_in {k : Nat} {v m : Int} (hv : 0 ≤ v ∧ v ≤ 18446744073709551615) (hm : 0 ≤ m ∧ m ≤ 18446744073709551615) : (Mt.one k v m).In :=
  ⟨fun i => by show 0 ≤ (if i = k then v else 0) ∧ (if i = k then v else 0) ≤ _; split; exact hv; exact ⟨Int.le_refl _, by decide⟩, fun i => by show 0 ≤ (if i = k then m else 0) ∧ (if i = k then m else 0) ≤ _; split; exact hm; exact ⟨Int.le_refl _, by decide⟩⟩
theorem one_nz {k : Nat} {v m : Int} (hk : k < 9) : (Mt.one k v m).Nz := fun i hi => ⟨if_neg (by omega), if_neg (by omega)⟩
theorem ac0_three : ac0.In ∧ ac0.Nz ∧ ac0.Ok := ⟨⟨by decide, fun _ => ⟨Int.le_refl _, (by decide : (0 : Int) ≤ 18446744073709551615)⟩⟩, fun _ _ => rfl, by decide⟩
theorem aone_three {k : Nat} (hk : k < 9) {v : Int} (h0 : 0 ≤ v) (h1 : v ≤ fullI k) : (Ac.one k v).In ∧ (Ac.one k v).Nz ∧ (Ac.one k v).Ok := by
  have hf := fullI_u64 k
  have hp : (1 : Int) ≤ 2 ^ k ∧ (2 : Int) ^ k ≤ 256 := by
    match k, hk with
    | 0, _ | 1, _ | 2, _ | 3, _ | 4, _ | 5, _ | 6, _ | 7, _ | 8, _ => decide
  refine ⟨⟨by show _ ≤ (2 : Int) ^ k ∧ (2 : Int) ^ k ≤ _; omega, fun i => ?_⟩, fun i hi => if_neg (by omega), ⟨by show 0 ≤ (2 : Int) ^ k ∧ (2 : Int) ^ k ≤ 511; omega, fun i hi => ?_⟩⟩
  · show 0 ≤ (if i = k then v else 0) ∧ (if i = k then v else 0) ≤ _
    split
    · omega
    · exact ⟨Int.le_refl _, by decide⟩
  · show (if i = k then v else 0) ≤ fullI i ∧ ((if i = k then v else 0) ≠ 0 → (2 : Int) ^ k / 2 ^ i % 2 = 1)
    by_cases e : i = k
    · subst e
      rw [if_pos rfl]
      exact ⟨h1, fun _ => by rw [Int.ediv_self (by omega)]; rfl⟩
    · rw [if_neg e]
      exact ⟨(fullI_u64 i).1, fun h => absurd rfl h⟩
theorem all_c (w : World) (ad : Option Addr) (c : Nat) (us : List Ac) (hr : Rg w ad (actsL us)) (hu : ∀ a ∈ us, a.In ∧ a.Nz ∧ a.Ok) (hn : us.length ≤ 100000) :
    Calls Tryz.prog 91 #[.slice ad us.length c] w fun e w' => RsC w w' (allD us) e := by
  refine enter Tryz.func91 rfl Tryz.ntmps91 rfl (St.start (fun _ => False) w) ?_
  refine WC.seq <| WC.region <| WL.v (v_assign rfl rfl) rfl <| WL.nt <| WC.seq <| WC.region <| WL.v (v_move rfl rfl) rfl <| WL.call rfl rfl ck_49 (.none rfl) rfl rfl <| ?_
  intro w1 hS
  refine (Norm_c w1 ad c us (hr.frm hS.frm (fun _ _ _ h => h)) (fun a ha => (hu a ha).2.1) hn).mono ?_
  rintro e w' ⟨adn, cn, En, ys, rfl, hP, hyl, hVn, hS'⟩
  have hys : normF us = ys := normF_of (fun a ha => (hu a ha).2.1) hP
  refine ⟨_, _, rfl, hS.join hS', ?_⟩
  refine WL.v (v_build rfl rfl zero_117 plc_117 rfl) rfl ?_
  refine WL.buildSlice rfl rfl Tryz.underlying34 sz_117 zero_117 rfl (by decide) (by show some (splice (List.replicate 1 _).flatten 0 (RuL.cells ⟨mt0, adn, cn, ys⟩)) = some (RuL.cells ⟨mt0, adn, cn, ys⟩); exact congrArg some (splice_all rfl)) (.none rfl) rfl rfl ?_
  intro g6 hg6
  refine WL.v (v_assign rfl rfl) rfl <| WL.nt <| WC.ret <| WE.ret1 (P := Tryz.prog) (.inl rfl) Tryz.results91 rfl <| ?_
  exact fun w' h => ⟨some ⟨g6, 0, none⟩, 1, [.row g6 (RuL.cells ⟨mt0, adn, cn, ys⟩)], En, [⟨mt0, adn, cn, ys⟩], rfl, by unfold allD; rw [hys]; rfl, Vec.row rfl rfl (Nat.le_refl _), fun r hr => (by rw [List.mem_singleton.1 hr]; exact ⟨En, hVn, fun e he => he⟩), fun d hd => (by rw [List.mem_singleton.1 hd]; exact fit_new mt0_in mt0_nz hu), (by show 1 ≤ 100000000; decide), by simpa using h⟩
theorem allN_c (w : World) : Calls Tryz.prog 91 #[.slice none 0 0] w fun e w' => RsC w w' (allD []) e :=
  all_c w none 0 [] (fun hn => absurd rfl hn) (fun a h => (by cases h)) (Nat.zero_le _)
theorem bound_c (w : World) : Calls Tryz.prog 131 #[] w fun e w' => e = .returned (.agg #[.int .i64 4194304, .int .i64 16777216]) ∧ Frm (fun _ => False) w w' := by
  refine enter Tryz.func131 rfl Tryz.ntmps131 rfl (St.start (fun _ => False) w) ?_
  refine WC.seq <| WC.region <| WL.alloc rfl zero_194 (.none rfl) rfl rfl <| ?_
  intro g0 hg0
  refine WL.nt <| WC.seq <| WC.region <| WL.v (v_build rfl rfl zero_194 plc_194 rfl) rfl <| WL.storeW rfl rfl rfl rfl many_194 rfl rfl (.none rfl) rfl <| WL.nt <| WC.ret <| WE.ret1 (P := Tryz.prog) (.inl rfl) Tryz.results131 (resRow rfl many_194 rfl) <| ?_
  exact fun w' h => ⟨rfl, h.frm⟩
theorem silent_c (w : World) (ad : Option Addr) (c : Nat) (xs : List RuL) (hx : Rg w ad (rulesL xs)) (hn : xs.length ≤ 100000000) :
    Calls Tryz.prog 132 #[.slice ad xs.length c] w fun e w' => e = .returned (.bool (decide (silentD (xs.map RuL.d)))) ∧ Frm (fun _ => False) w w' := by
  refine enter Tryz.func132 rfl Tryz.ntmps132 rfl (St.start (fun _ => False) w) ?_
  refine WC.seq <| WC.region <| WL.v (v_assign rfl rfl) rfl <| WL.nt <| WC.seq <| WC.seq <| WC.region <| WL.v (v_move rfl rfl) rfl <| WL.v (v_len_slice rfl rfl Tryz.underlying34) rfl <| WL.v (v_move rfl rfl) rfl <| WL.nt <| WC.block <| WC.loop (fun i : Nat => [(7, .int .i64 i), (6, .int .i64 xs.length), (5, .slice ad xs.length c), (2, .bool false)]) (fun _ => []) (fun i => i ≤ xs.length ∧ ∀ j r, j < i → xs[j]? = some r → ¬ 0 < r.acts.length) (fun i => xs.length - i) 0 ⟨Nat.zero_le _, fun j r h => absurd h (Nat.not_lt_zero _)⟩ (.cons rfl (.cons rfl (.cons rfl (.cons rfl .nil)))) (.refl _) <| ?_
  rintro i ⟨hi, hno⟩
  refine WC.seq <| WC.region <| ?_
  refine WL.test (v_lss rfl rfl rfl) (.none rfl) rfl rfl (fun h8 => ?_) (fun h8 => ?_)
  ·
   refine WL.nt <| WC.seq <| WC.cond_t rfl <| WC.skip <| WE.then_n <| WC.seq <| WC.block <| WC.seq <| WC.region <| ?_
   obtain ⟨r, hr⟩ : ∃ x, xs[i]? = some x := ⟨xs[i]'(by omega), List.getElem?_eq_getElem _⟩
   obtain ⟨b1, o1, ea1, r1⟩ := hx (by intro hh; have := rulesL_len xs; rw [hh] at this; simp at this; omega)
   refine WL.v ((v_indexAddr (b := b1) (off := o1) (lo := i) rfl (by show some (Value.slice ad _ _) = _; rw [ea1]) rfl Tryz.underlying34 sz_117 rfl (by omega))) rfl ?_
   refine WL.v (v_loadN (cs := r.cells) rfl rfl many_117 (RuL.len r) (rgIn (fun h => h) (Rg.seg RuL.len r1 hr))) rfl <| WL.alloc rfl zero_117 (.none rfl) rfl rfl <| ?_
   intro g4 hg4
   refine WL.storeW rfl rfl rfl rfl many_117 rfl rfl (.none rfl) rfl <| WL.as (L' := [.row g4 r.cells]) rfl <| WL.nt <| WC.seq <| WC.region <| WL.v (v_fieldAddr0 rfl rfl fld_117_1) rfl <| WL.v (v_load1 rfl rfl one_113 (cellAt (v := .slice r.ad r.acts.length r.c) (ruC_acts r))) rfl <| WL.v (v_len_slice rfl rfl Tryz.underlying113) rfl <| ?_
   refine WL.test (v_gtr rfl rfl rfl) (.none rfl) rfl rfl (fun h14 => ?_) (fun h14 => ?_)
   ·
    refine WL.nt <| WC.cond_t rfl <| WC.seq <| WC.region <| WL.v (v_assign rfl rfl) rfl <| WL.nt <| WC.ret <| WE.block_ret <| WE.then_ret <| WE.then_ret <| WE.block_ret <| WE.then_ret <| WE.ret1 (P := Tryz.prog) (.inl rfl) Tryz.results132 rfl <| ?_
    exact fun w' h => ⟨by rw [decide_eq_false (fun q : silentD (xs.map RuL.d) => q r.d (List.mem_map_of_mem (List.mem_of_getElem? hr)) (by show 0 < r.acts.length; omega))], h.frm⟩
   ·
    refine WL.nt <| WC.cond_f rfl <| WC.skip <| WE.block_n <| WE.then_n <| WC.region <| ?_
    refine WL.v (v_add rfl rfl rfl (w_i64 (by omega) (by omega))) rfl ?_
    refine WL.v (v_move rfl rfl) rfl <| WL.nil <| ?_
    exact WE.next (i + 1) (by omega) ⟨by omega, fun j y hj hy => by
    by_cases e : j = i
    · subst e
      rw [hr] at hy
      cases hy
      omega
    · exact hno j y (by omega) hy⟩ (.int rfl (by omega) (.cons rfl (.cons rfl (.cons rfl .nil)))) (.cons _ (.refl _))
  ·
   refine WL.nt <| WC.seq <| WC.cond_f rfl <| WC.exit <| WE.then_exit <| WE.then_exit <| WE.block_hit <| WE.then_n <| WC.seq <| WC.region <| WL.v (v_assign rfl rfl) rfl <| WL.nt <| WC.ret <| WE.ret1 (P := Tryz.prog) (.inl rfl) Tryz.results132 rfl <| ?_
   exact fun w' h => ⟨by
   rw [decide_eq_true]
   intro d hd
   obtain ⟨r, hr, rfl⟩ := List.mem_map.1 hd
   obtain ⟨j, hj⟩ := List.mem_iff_getElem?.1 hr
   exact hno j r (by have := (List.getElem?_eq_some_iff.1 hj).1; omega) hj, h.frm⟩
theorem argE_test {t : Nd} (h : argE t = 0) (hk : t.kind = 3) : ∃ q : Nat, t.f = q ∧ q < 9 ∧ t.f.toNat = q ∧ mtOk q t.val t.mask := by
  unfold argE at h
  rw [if_pos hk] at h
  split at h
  · cases h
  · rename_i hh
    obtain ⟨q, e, hq, e2⟩ := isFld.nat (Classical.not_not.1 fun k => hh (.inl k))
    refine ⟨q, e, hq, e2, ?_, ?_⟩
    · rw [← e2]; exact Classical.not_not.1 fun k => hh (.inr (.inl k))
    · exact Classical.not_not.1 fun k => hh (.inr (.inr k))
set_option maxRecDepth 8000 in
set_option maxHeartbeats 2000000 in
theorem buildTest_c (w : World) (t : Nd) (pred : Bool) (hk : okT pred t) (h3 : t.kind = 3) (hI : t.In) (hG : GW w) :
    Calls Tryz.prog 92 #[ndV t] w fun e w' => RsC w w' (testD t.f.toNat t.val t.mask) e := by
  obtain ⟨q, hf, hq, hfn, hok⟩ := argE_test hk.parts.2.1 h3
  have hv := hI.nums.2.2.1
  have hm := hI.nums.2.2.2.1
  have hone : (Mt.one q t.val t.mask).In := one_in hv hm
  have hfit1 : ∀ us : List Ac, us = [ac0] → (⟨Mt.one q t.val t.mask, us⟩ : RuD).Fit := fun us e => ⟨⟨hone, one_nz hq, fun a ha => by rw [e] at ha; rw [List.mem_singleton.1 ha]; exact ⟨ac0_three.1, ac0_three.2.1⟩⟩, fun a ha => by rw [e] at ha; rw [List.mem_singleton.1 ha]; exact ac0_three.2.2⟩
  have hfit2 : (⟨mt0, []⟩ : RuD).Fit := ⟨⟨mt0_in, mt0_nz, fun a h => (by cases h)⟩, fun a h => (by cases h)⟩
  obtain ⟨b23, hbe⟩ : ∃ c : Bool, c = true ↔ mtL (Mt.one q t.val t.mask) = mtL mt0 := ⟨@decide _ (Classical.propDecidable _), @decide_eq_true_iff _ (Classical.propDecidable _)⟩
  rw [hfn]
  refine enter Tryz.func92 rfl Tryz.ntmps92 rfl (St.start (fun _ => False) w) ?_
  refine WC.seq <| WC.region <| WL.box rfl rfl rfl (.none rfl) rfl rfl <| ?_
  intro g1 hg1
  refine WL.v (v_assign rfl rfl) rfl <| WL.nt <| WC.seq <| WC.region <| WL.v (v_fieldAddr0 rfl rfl fld_26_1) rfl <| ?_
  refine WL.v (v_load1 rfl rfl one_22 (cellAt (v := .int .i64 (q : Int)) (by show some (Value.int .i64 t.f) = _; rw [hf]))) rfl ?_
  refine WL.v (v_fieldAddr0 rfl rfl fld_26_2) rfl <| WL.v (v_load1 rfl rfl one_23 (cellAt (v := .int .u64 t.val) rfl)) rfl <| WL.v (v_fieldAddr0 rfl rfl fld_26_3) rfl <| WL.v (v_load1 rfl rfl one_23 (cellAt (v := .int .u64 t.mask) rfl)) rfl <| WL.call rfl rfl ck_129 (.none rfl) rfl rfl <| ?_
  intro w hS
  refine Calls.then (MOn_c w q hq t.val t.mask hv hm hok (hG.keep (fun h => h) hS)) hS ?_
  refine WL.v (v_move rfl rfl) rfl <| WL.v (v_extract rfl rfl rfl) rfl <| WL.v (v_extract rfl rfl rfl) rfl <| WL.alloc rfl zero_115 (.none rfl) rfl rfl <| ?_
  intro g3 hg3
  refine WL.storeW rfl rfl rfl rfl many_115 rfl rfl (.none rfl) rfl <| WL.as (L' := [.row g3 (mtL (Mt.one q t.val t.mask)), .row g1 (ndL t)]) rfl <| WL.v (v_assign rfl rfl) rfl <| WL.nt <| WC.seq <| WC.seq <| WC.region <| WL.v (v_move rfl rfl) rfl <| ?_
  refine WL.v ((v_neq rfl rfl rfl).f (by omega)) rfl ?_
  refine WL.nt <| WC.cond_f rfl <| WC.skip <| WE.then_n <| WC.seq <| WC.region <| WL.v (v_build rfl rfl zero_110 plc_110 rfl) rfl <| ?_
  refine WL.buildSlice rfl rfl Tryz.underlying113 sz_110 zero_110 rfl (by decide) (by show some (splice (List.replicate 1 _).flatten 0 (acL ac0)) = some (acL ac0); exact congrArg some (splice_all rfl)) (.none rfl) rfl rfl ?_
  intro g20 hg20
  refine WL.v (v_assign rfl rfl) rfl <| WL.nt <| WC.seq <| WC.seq <| WC.region <| WL.v (v_loadN rfl rfl many_115 rfl allAt) rfl <| WL.v (v_build rfl rfl zero_115 plc_115 rfl) rfl <| WL.v (v_eql_aggD (b := b23) (ys := mtL mt0) rfl rfl rfl eqk_115 eqg_115 rfl rfl hbe) rfl <| ?_
  cases b23
  ·
   refine WL.nt <| WC.cond_f rfl <| WC.skip <| WE.then_n <| WC.seq <| WC.region <| WL.v (v_loadN rfl rfl many_115 rfl allAt) rfl <| WL.v (v_move rfl rfl) rfl <| WL.v (v_build rfl rfl zero_117 plc_117 rfl) rfl <| WL.v (v_build rfl rfl zero_117 plc_117 rfl) rfl <| ?_
   refine WL.buildSlice rfl rfl Tryz.underlying34 sz_117 zero_117 rfl (by decide) rfl (.none rfl) rfl rfl ?_
   intro g32 hg32
   refine WL.as (L' := [.row g32 (rulesL [⟨Mt.one q t.val t.mask, some ⟨g20, 0, none⟩, 1, [ac0]⟩, ⟨mt0, none, 0, []⟩]), .row g20 (acL ac0), .row g3 (mtL (Mt.one q t.val t.mask)), .row g1 (ndL t)]) rfl <| WL.v (v_assign rfl rfl) rfl <| WL.nt <| WC.ret <| WE.ret1 (P := Tryz.prog) (.inl rfl) Tryz.results92 rfl <| ?_
   have e : testD q t.val t.mask = [⟨Mt.one q t.val t.mask, [ac0]⟩, ⟨mt0, []⟩] := (by unfold testD; exact if_neg (fun k => by have := hbe.2 (mtL_iff.2 k); cases this))
   exact fun w' h => ⟨some ⟨g32, 0, none⟩, 2, [.row g32 (rulesL [⟨Mt.one q t.val t.mask, some ⟨g20, 0, none⟩, 1, [ac0]⟩, ⟨mt0, none, 0, []⟩])], [.row g20 (acL ac0)], [⟨Mt.one q t.val t.mask, some ⟨g20, 0, none⟩, 1, [ac0]⟩, ⟨mt0, none, 0, []⟩], rfl, e.symm, Vec.row rfl rfl (Nat.le_refl _), fun r hr => (by
     rcases List.mem_cons.1 hr with rfl | hr
     · exact ⟨[.row g20 (acL ac0)], Vec.row rfl rfl (Nat.le_refl _), fun e he => he⟩
     · rw [List.mem_singleton.1 hr]; exact ⟨[], Vec.nil 10, fun e he => (by cases he)⟩), fun d hd => (by
     rw [e] at hd
     rcases List.mem_cons.1 hd with rfl | hd
     · exact hfit1 _ rfl
     · rw [List.mem_singleton.1 hd]; exact hfit2), (by show 2 ≤ 100000000; decide), h.dropX [.row g3 (mtL (Mt.one q t.val t.mask)), .row g1 (ndL t)]⟩
  ·
   refine WL.nt <| WC.cond_t rfl <| WC.seq <| WC.region <| WL.v (v_loadN rfl rfl many_115 rfl allAt) rfl <| WL.v (v_move rfl rfl) rfl <| WL.v (v_build rfl rfl zero_117 plc_117 rfl) rfl <| ?_
   refine WL.buildSlice rfl rfl Tryz.underlying34 sz_117 zero_117 rfl (by decide) (by show some (splice (List.replicate 1 _).flatten 0 (RuL.cells ⟨Mt.one q t.val t.mask, some ⟨g20, 0, none⟩, 1, [ac0]⟩)) = some (RuL.cells ⟨Mt.one q t.val t.mask, some ⟨g20, 0, none⟩, 1, [ac0]⟩); exact congrArg some (splice_all rfl)) (.none rfl) rfl rfl ?_
   intro g27 hg27
   refine WL.v (v_assign rfl rfl) rfl <| WL.nt <| WC.ret <| WE.then_ret <| WE.ret1 (P := Tryz.prog) (.inl rfl) Tryz.results92 rfl <| ?_
   have e : testD q t.val t.mask = [⟨Mt.one q t.val t.mask, [ac0]⟩] := (by unfold testD; exact if_pos (mtL_iff.1 (hbe.1 rfl)))
   exact fun w' h => ⟨some ⟨g27, 0, none⟩, 1, [.row g27 (RuL.cells ⟨Mt.one q t.val t.mask, some ⟨g20, 0, none⟩, 1, [ac0]⟩)], [.row g20 (acL ac0)], [⟨Mt.one q t.val t.mask, some ⟨g20, 0, none⟩, 1, [ac0]⟩], rfl, e.symm, Vec.row rfl rfl (Nat.le_refl _), fun r hr => (by rw [List.mem_singleton.1 hr]; exact ⟨[.row g20 (acL ac0)], Vec.row rfl rfl (Nat.le_refl _), fun e he => he⟩), fun d hd => (by rw [e] at hd; rw [List.mem_singleton.1 hd]; exact hfit1 _ rfl), (by show 1 ≤ 100000000; decide), h.dropX [.row g3 (mtL (Mt.one q t.val t.mask)), .row g1 (ndL t)]⟩
end Go.Proofs.YtkeonnnhogaggaaGreatDoor
