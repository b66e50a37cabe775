/- Texts joined: engine, contracts and laws, in the order in which they build. -/
import Derived.Test.YtcmpamnhegndnaaGreatDoorBaPeerMeets
namespace Go.Proofs.YtcmpamnhegndnaaGreatDoor
open Go.RowKit

def mark255 (f : Nat → Int) : Bool := (List.range 16).all fun i => decide (f i = 255)
theorem mark255_iff {f : Nat → Int} : mark255 f = true ↔ ∀ i, i < 16 → f i = 255 := by
  unfold mark255
  rw [List.all_eq_true]
  exact ⟨fun h i hi => of_decide_eq_true (h i (List.mem_range.2 hi)), fun h i hi => decide_eq_true (h i (List.mem_range.1 hi))⟩
theorem mark255_no {f : Nat → Int} {i : Nat} (hi : i < 16) (h : f i ≠ 255) : mark255 f = false := by
  cases hm : mark255 f with
  | false => rfl
  | true => exact absurd (mark255_iff.1 hm i hi) h
def lenI (f : Nat → Int) : Int := f 16 * 256 + f 17
def sizeR (n : Nat) (f : Nat → Int) : Int × Int × Int × ByteArray :=
  if n < 19 then (0, 1, 2, ⟨#[]⟩)
  else if mark255 f = false then (0, 1, 1, ⟨#[]⟩)
  else if lenI f < 19 ∨ 4096 < lenI f then (0, 1, 2, str (fun i => f (16 + i)) 2)
  else if leastI (f 18) = 0 then (0, 1, 3, str (fun i => f (18 + i)) 1)
  else if lenI f < leastI (f 18) ∨ f 18 = 4 ∧ lenI f ≠ 19 then (0, 1, 2, str (fun i => f (16 + i)) 2)
  else (lenI f, 0, 0, ⟨#[]⟩)
theorem sizeR_on {n : Nat} {f : Nat → Int} (h1 : ¬ n < 19) (h2 : mark255 f = true) : sizeR n f = if lenI f < 19 ∨ 4096 < lenI f then (0, 1, 2, str (fun i => f (16 + i)) 2) else if leastI (f 18) = 0 then (0, 1, 3, str (fun i => f (18 + i)) 1) else if lenI f < leastI (f 18) ∨ f 18 = 4 ∧ lenI f ≠ 19 then (0, 1, 2, str (fun i => f (16 + i)) 2) else (lenI f, 0, 0, ⟨#[]⟩) := by
  unfold sizeR; rw [if_neg h1, if_neg (by rw [h2]; decide)]
def sizeV (r : Int × Int × Int × ByteArray) : Value := .tuple #[.int .i64 r.1, .agg (fltL r.2.1 r.2.2.1 r.2.2.2).toArray]
theorem RdO.get {w : World} {ad : Option Addr} {n : Nat} {f : Nat → Int} (h : RdO w ad n f) (hn : 0 < n) : ∃ b o, ad = some ⟨b, o, none⟩ ∧ Rd w b o n f := h hn
theorem leastI_zero {k : Int} : leastI k = 0 ↔ ¬ (1 ≤ k ∧ k ≤ 4) := by unfold leastI; split <;> (try split) <;> (try split) <;> (try split) <;> omega
set_option maxHeartbeats 2000000 in
theorem Size_c (w0 : World) (ad : Option Addr) (n c : Nat) (f : Nat → Int) (hf : Byt f) (hr0 : RdO w0 ad n f) (hn : n ≤ 1000000) (hnc : n ≤ c) :
    Calls Tryz.prog 84 #[.slice ad n c] w0 fun e w' => e = .returned (sizeV (sizeR n f)) ∧ Frm (fun _ => False) w0 w' := by
  refine enter Tryz.func84 rfl Tryz.ntmps84 rfl (St.start (fun _ => False) w0) ?_
  refine cR <| zA rfl <| WL.alloc rfl zero_37 (.none rfl) rfl rfl <| ?_
  intro g3 hg3
  refine zN <| cS <| cR <| zM rfl <| zV (v_len_slice rfl rfl Tryz.underlying25) rfl <| ?_
  refine zT (v_lss rfl rfl rfl) rfl (fun h10 => ?_) (fun h10 => ?_)
  refine zN <| cT rfl <| cR <| zV (v_build rfl rfl zero_37 plc_37 rfl) rfl <| zA rfl <| zW many_37 rfl rfl <| zN <| cE <| eR <| WE.ret2 (P := Tryz.prog) (.inl rfl) Tryz.results84 rfl (resRow rfl many_37 rfl) <| ?_
  exact fun w' h => ⟨by unfold sizeR; rw [if_pos (by omega)]; rfl, h.frm⟩
  refine zN <| cF rfl <| cK <| eN <| cS <| cR <| ?_
  obtain ⟨b, o, rfl, hr⟩ := hr0.get (by omega)
  have h16 := hf 16
  have h17 := hf 17
  have h18 := hf 18
  refine zM rfl ?_
  refine zV (v_slice_hi (hi := 16) rfl rfl rfl Tryz.underlying25 sz_5 rfl (by omega)) rfl ?_
  refine zV (v_len_slice rfl rfl Tryz.underlying25) rfl <| zM rfl <| zN <| cB <| WC.loop (fun k : Nat => [(15, .int .i64 k), (14, .int .i64 16), (13, .slice (some ⟨b, o, none⟩) 16 c), (0, .slice (some ⟨b, o, none⟩) n c), (3, .pointer (some ⟨g3, 0, none⟩))]) (fun _ => [.row g3 (fltL 0 0 ⟨#[]⟩)]) (fun k => k ≤ 16 ∧ ∀ i, i < k → f i = 255) (fun k => 16 - k) 0 ⟨Nat.zero_le _, fun i h => absurd h (Nat.not_lt_zero i)⟩ (.cons rfl (.cons rfl (.cons rfl (.cons rfl (.cons rfl .nil))))) (.refl _) <| ?_
  rintro k ⟨hk, he⟩
  refine cR ?_
  refine zT (v_lss rfl rfl rfl) rfl (fun h16 => ?_) (fun h16 => ?_)
  refine zN <| cS <| cT rfl <| cK <| eN <| cS <| cB <| cR <| ?_
  have hb := hf k
  refine zV (v_indexAddr (lo := k) rfl rfl rfl Tryz.underlying25 sz_5 (by omega) (by omega)) rfl ?_
  refine zV (v_load1 rfl rfl one_5 (cellOld (fun h => h) (by have := hr k (by omega); rwa [show o + k * 1 = o + k by omega]))) rfl ?_
  refine zA rfl <| zR <| zM rfl <| ?_
  refine zT (v_neq rfl rfl rfl) rfl (fun h20 => ?_) (fun h20 => ?_)
  refine zN <| cT rfl <| cR <| zV (v_build rfl rfl zero_37 plc_37 rfl) rfl <| zA rfl <| zW many_37 rfl rfl <| zN <| cE <| eB <| eR <| eR <| eB <| eR <| ?_
  refine WE.ret2 (P := Tryz.prog) (.inl rfl) Tryz.results84 rfl (resRow rfl many_37 rfl) ?_
  exact fun w' h => ⟨by unfold sizeR; rw [if_neg (by omega), if_pos (mark255_no (by omega) h20)]; rfl, h.frm⟩
  refine zN <| cF rfl <| cK <| eY <| eN <| WC.region <| ?_
  refine zV (v_add rfl rfl rfl (w_i64 (by omega) (by omega))) rfl ?_
  refine zM rfl <| WL.nil <| ?_
  exact WE.next (k + 1) (by omega) ⟨by omega, fun i hi => by
  by_cases e : i = k
  · subst e; exact Classical.not_not.1 h20
  · exact he i (by omega)⟩ (.int rfl (by omega) (.cons rfl (.cons rfl (.cons rfl (.cons rfl .nil))))) (.refl _)
  refine zN <| cS <| cF rfl <| cX <| eX <| eX <| eH <| eN <| cS <| cQ mixed <| ?_
  have hm : mark255 f = true := mark255_iff.2 fun i hi => he i (by omega)
  have e0 := sizeR_on (n := n) (f := f) (by omega) hm
  refine qV (v_move rfl rfl) rfl ?_
  refine qV (v_slice_loS (lo := 16) rfl rfl rfl Tryz.underlying25 sz_5 rfl (by omega) (by omega)) rfl ?_
  refine WQ.call _ rfl rfl ck_110 (.none rfl) rfl rfl (fun w hS => Calls.still (by
  have := get2_c w b (o + 16 * 1) (n - 16) (c - 16) (fun i => f (16 + i)) (fun i => hf _) (by rw [show o + 16 * 1 = o + 16 by omega]; exact (hS.oldRd (fun h => h) hr).sub 16 (n - 16) (by omega)) (by omega)
  exact this) hS) ?_
  refine qV (v_move rfl rfl) rfl ?_
  refine qV (v_indexAddr (lo := 18) rfl rfl rfl Tryz.underlying25 sz_5 rfl (by omega)) rfl ?_
  refine qV (v_load1 rfl rfl one_5 (cellOld (fun h => h) (by have := hr 18 (by omega); rwa [show o + 18 * 1 = o + 18 by omega]))) rfl ?_
  refine qV (v_conv rfl rfl Tryz.underlying3 Tryz.underlying5 (w_i64 (by omega) (by omega))) rfl ?_
  refine qV (v_assign rfl rfl) rfl <| qV (v_assign rfl rfl) rfl <| WQ.nil <| eN <| cS <| cR <| zM rfl <| ?_
  refine zT (v_lss rfl rfl rfl) rfl (fun h31 => ?_) (fun h31 => ?_)
  refine zM rfl ?_
  iterate 2 refine WL.sk rfl ?_
  refine zP rfl <| zN <| cT rfl <| cR <| zM rfl <| zK ck_111 rfl <| ?_
  intro w hS
  refine Calls.then (long_c w b o n c f (hS.oldRd (fun h => h) hr) (by omega) hnc) hS ?_
  refine zA rfl <| zW many_37 rfl rfl <| zN <| cE <| eR <| WE.ret2 (P := Tryz.prog) (.inl rfl) Tryz.results84 rfl (resRow rfl many_37 rfl) <| ?_
  exact fun w' h => ⟨by rw [e0, if_pos (.inl h31)]; rfl, h.frm⟩
  refine zM rfl <| zS (v_move rfl rfl) rfl <| ?_
  refine WL.test (v_gtr rfl rfl rfl) (.some rfl rfl rfl) rfl rfl (fun h34 => ?_) (fun h34 => ?_)
  refine zQ rfl <| zN <| cT rfl <| cR <| zM rfl <| zK ck_111 rfl <| ?_
  intro w hS
  refine Calls.then (long_c w b o n c f (hS.oldRd (fun h => h) hr) (by omega) hnc) hS ?_
  refine zA rfl <| zW many_37 rfl rfl <| zN <| cE <| eR <| WE.ret2 (P := Tryz.prog) (.inl rfl) Tryz.results84 rfl (resRow rfl many_37 rfl) <| ?_
  exact fun w' h => ⟨by rw [e0, if_pos (.inr h34)]; rfl, h.frm⟩
  refine zQ rfl <| zN <| cF rfl <| cK <| eN <| cS <| cR <| zM rfl <| zK ck_112 rfl <| ?_
  intro w hS
  refine Calls.then (least_c w (f 18)) hS ?_
  refine zT (v_eql rfl rfl rfl) rfl (fun h40 => ?_) (fun h40 => ?_)
  refine zN <| cT rfl <| cS <| WC.orders mixed <| rF 3 [0, 1, 4] <| pV (v_move rfl rfl) rfl <| ?_
  refine pV (v_slice_lhS (lo := 18) (hi := 19) rfl rfl rfl rfl Tryz.underlying25 sz_5 rfl rfl (by omega) (by omega) (by omega)) rfl ?_
  refine pV (v_assign rfl rfl) rfl <| WP.nil <| rA 1 [2, 3] rfl <| ?_
  refine qV (v_convBS (fun i => f (18 + i)) rfl rfl Tryz.underlying25 Tryz.underlying5 Tryz.underlying9 (fun w' hS' _ => ⟨b, o + 18, by rw [show o + 18 * 1 = o + 18 by omega], (hS'.oldRd (fun h => h) hr).sub 18 1 (by omega)⟩)) rfl ?_
  refine qV (v_build rfl rfl zero_37 plc_37 rfl) rfl <| WQ.nilR <| rO 0 [5] <| zW many_37 rfl rfl <| zH <| rD <| eN <| cE <| eR <| WE.ret2 (P := Tryz.prog) (.inl rfl) Tryz.results84 rfl (resRow rfl many_37 rfl) <| ?_
  exact fun w' h => ⟨by rw [e0, if_neg (show ¬ (lenI f < 19 ∨ 4096 < lenI f) from fun q => q.elim h31 h34), if_pos h40]; rfl, h.frm⟩
  refine zN <| cF rfl <| cK <| eN <| cS <| cR <| zM rfl <| zM rfl <| zK ck_112 rfl <| ?_
  intro w hS
  refine Calls.then (least_c w (f 18)) hS ?_
  refine zT (v_lss rfl rfl rfl) rfl (fun h48 => ?_) (fun h48 => ?_)
  refine zM rfl ?_
  iterate 6 refine WL.sk rfl ?_
  refine zP rfl <| zN <| cT rfl <| cR <| zM rfl <| zK ck_111 rfl <| ?_
  intro w hS
  refine Calls.then (long_c w b o n c f (hS.oldRd (fun h => h) hr) (by omega) hnc) hS ?_
  refine zA rfl <| zW many_37 rfl rfl <| zN <| cE <| eR <| WE.ret2 (P := Tryz.prog) (.inl rfl) Tryz.results84 rfl (resRow rfl many_37 rfl) <| ?_
  exact fun w' h => ⟨by rw [e0, if_neg (show ¬ (lenI f < 19 ∨ 4096 < lenI f) from fun q => q.elim h31 h34), if_neg h40, if_pos (.inl h48)]; rfl, h.frm⟩
  refine zM rfl <| zS (v_move rfl rfl) rfl <| ?_
  refine WL.test (v_eql rfl rfl rfl) (.some rfl rfl rfl) rfl rfl (fun h51 => ?_) (fun h51 => ?_)
  refine zS (v_move rfl rfl) rfl <| zS (v_move rfl rfl) rfl <| ?_
  refine WL.test (v_neq rfl rfl rfl) (.some rfl rfl rfl) rfl rfl (fun h54 => ?_) (fun h54 => ?_)
  refine zS (v_pick_t rfl rfl rfl) rfl <| zQ rfl <| zN <| cT rfl <| cR <| zM rfl <| zK ck_111 rfl <| ?_
  intro w hS
  refine Calls.then (long_c w b o n c f (hS.oldRd (fun h => h) hr) (by omega) hnc) hS ?_
  refine zA rfl <| zW many_37 rfl rfl <| zN <| cE <| eR <| WE.ret2 (P := Tryz.prog) (.inl rfl) Tryz.results84 rfl (resRow rfl many_37 rfl) <| ?_
  exact fun w' h => ⟨by rw [e0, if_neg (show ¬ (lenI f < 19 ∨ 4096 < lenI f) from fun q => q.elim h31 h34), if_neg h40, if_pos (.inr ⟨h51, h54⟩)]; rfl, h.frm⟩
  refine zS (v_pick_t rfl rfl rfl) rfl <| zQ rfl <| zN <| cF rfl <| cK <| eN <| cR <| zM rfl <| zV (v_build rfl rfl zero_37 plc_37 rfl) rfl <| zA rfl <| zW many_37 rfl rfl <| zN <| cE <| ?_
  refine WE.ret2 (P := Tryz.prog) (.inl rfl) Tryz.results84 rfl (resRow rfl many_37 rfl) ?_
  exact fun w' h => ⟨by rw [e0, if_neg (show ¬ (lenI f < 19 ∨ 4096 < lenI f) from fun q => q.elim h31 h34), if_neg h40, if_neg (fun q => q.elim h48 fun q => h54 q.2)]; rfl, h.frm⟩
  refine zS (v_move rfl rfl) rfl ?_
  iterate 2 refine WL.sk rfl ?_
  refine zS (v_pick_f rfl rfl rfl) rfl <| zQ rfl <| zN <| cF rfl <| cK <| eN <| cR <| zM rfl <| zV (v_build rfl rfl zero_37 plc_37 rfl) rfl <| zA rfl <| zW many_37 rfl rfl <| zN <| cE <| ?_
  refine WE.ret2 (P := Tryz.prog) (.inl rfl) Tryz.results84 rfl (resRow rfl many_37 rfl) ?_
  exact fun w' h => ⟨by rw [e0, if_neg (show ¬ (lenI f < 19 ∨ 4096 < lenI f) from fun q => q.elim h31 h34), if_neg h40, if_neg (fun q => q.elim h48 fun q => h51 q.1)]; rfl, h.frm⟩

def msgK (k : Int) : List Value := [.int .i64 k, .int .i64 0, .int .i64 0, .int .u32 0, .slice none 0 0, .slice none 0 0, .int .i64 0, .int .i64 0, .slice none 0 0, .int .u32 0, .int .i64 0, .int .i64 0, .int .i64 0, .int .u32 0, .slice none 0 0, .slice none 0 0, .slice none 0 0, .int .i64 0, .int .i64 0, .string ⟨#[]⟩]


def u8s (xs : List Int) : List Value := xs.map fun x => .int .u8 x
def i64s (xs : List Int) : List Value := xs.map fun x => .int .i64 x
theorem u8s_len (xs : List Int) : (u8s xs).length = xs.length := by simp [u8s]
theorem i64s_len (xs : List Int) : (i64s xs).length = xs.length := by simp [i64s]
theorem u8s_app (xs ys : List Int) : u8s (xs ++ ys) = u8s xs ++ u8s ys := by simp [u8s]
theorem i64s_app (xs ys : List Int) : i64s (xs ++ ys) = i64s xs ++ i64s ys := by simp [i64s]
theorem u8s_one (xs : List Int) : (u8s xs).all one = true := List.all_eq_true.2 (fun v hv => by obtain ⟨b, _, rfl⟩ := List.mem_map.1 hv; rfl)
theorem i64s_one (xs : List Int) : (i64s xs).all one = true := List.all_eq_true.2 (fun v hv => by obtain ⟨b, _, rfl⟩ := List.mem_map.1 hv; rfl)
theorem u8s_get {xs : List Int} {i : Nat} {x : Int} (h : xs[i]? = some x) : (u8s xs)[i]? = some (.int .u8 x) := by unfold u8s; rw [List.getElem?_map, h]; rfl
theorem i64s_get {xs : List Int} {i : Nat} {x : Int} (h : xs[i]? = some x) : (i64s xs)[i]? = some (.int .i64 x) := by unfold i64s; rw [List.getElem?_map, h]; rfl
def Bys (xs : List Int) : Prop := ∀ x ∈ xs, 0 ≤ x ∧ x ≤ 255
theorem Bys.app {xs ys : List Int} (h1 : Bys xs) (h2 : Bys ys) : Bys (xs ++ ys) := fun x hx => (List.mem_append.1 hx).elim (h1 x) (h2 x)
theorem Bys.nil : Bys [] := fun _ h => by cases h
def RowsAt (w : World) (ad : Option Addr) (s : Nat) {α : Type} (enc : α → List Value) (xs : List α) : Prop := ∀ (i : Nat) (x : α), xs[i]? = some x → ∃ b o, ad = some ⟨b, o, none⟩ ∧ w.rangeAt b (o + i * s) (enc x)
theorem RowsAt.frm {w w' : World} {ad : Option Addr} {s : Nat} {α : Type} {enc : α → List Value} {xs : List α} (h : RowsAt w ad s enc xs) (hw : ∀ b o cs, w.rangeAt b o cs → w'.rangeAt b o cs) : RowsAt w' ad s enc xs := fun i x hi => by
  obtain ⟨b, o, e, hr⟩ := h i x hi
  exact ⟨b, o, e, hw _ _ _ hr⟩
theorem RowsAt.get {w : World} {b o s : Nat} {α : Type} {enc : α → List Value} {xs : List α} {i : Nat} {x : α} (h : RowsAt w (some ⟨b, o, none⟩) s enc xs) (hi : xs[i]? = some x) : w.rangeAt b (o + i * s) (enc x) := by
  obtain ⟨b', o', e', hr⟩ := h i x hi
  injection e' with e'
  injection e' with e1 e2
  subst e1 e2
  exact hr
def CellsAt (w : World) (ad : Option Addr) (cs : List Value) : Prop := 0 < cs.length → ∃ b o, ad = some ⟨b, o, none⟩ ∧ w.rangeAt b o cs
theorem CellsAt.frm {w w' : World} {ad : Option Addr} {cs : List Value} (h : CellsAt w ad cs) (hw : ∀ b o cs, w.rangeAt b o cs → w'.rangeAt b o cs) : CellsAt w' ad cs := fun hn => by
  obtain ⟨b, o, e, hr⟩ := h hn
  exact ⟨b, o, e, hw _ _ _ hr⟩
structure CapL where
  code : Int
  ad : Option Addr
  cap : Nat
  val : List Int
def CapL.cells (c : CapL) : List Value := [.int .i64 c.code, .slice c.ad c.val.length c.cap]
structure PfL where
  addr : Int
  len : Int
def PfL.cells (p : PfL) : List Value := [.int .u32 p.addr, .int .i64 p.len]
structure SegL where
  set : Bool
  ad : Option Addr
  cap : Nat
  asl : List Int
def SegL.cells (s : SegL) : List Value := [.bool s.set, .slice s.ad s.asl.length s.cap]
structure OthL where
  ty : Int
  ad : Option Addr
  cap : Nat
  val : List Int
def OthL.cells (o : OthL) : List Value := [.int .i64 o.ty, .slice o.ad o.val.length o.cap]
structure AtL where
  has : Int
  origin : Int
  pad : Option Addr
  pc : Nat
  path : List SegL
  hop : Int
  med : Int
  loc : Int
  aas : Int
  aid : Int
  cad : Option Addr
  cc : Nat
  comms : List Int
  oad : Option Addr
  oc : Nat
  others : List OthL
def AtL.cells (a : AtL) : List Value := [.int .i64 a.has, .int .i64 a.origin, .slice a.pad a.path.length a.pc, .int .u32 a.hop, .int .i64 a.med, .int .i64 a.loc, .int .i64 a.aas, .int .u32 a.aid, .slice a.cad a.comms.length a.cc, .slice a.oad a.others.length a.oc]
structure MsL where
  kind : Int
  asn : Int
  hold : Int
  id : Int
  kad : Option Addr
  kc : Nat
  caps : List CapL
  gad : Option Addr
  gc : Nat
  gone : List PfL
  atr : AtL
  nad : Option Addr
  nc : Nat
  nets : List PfL
  fc : Int
  fs : Int
  fd : ByteArray
def MsL.cells (m : MsL) : List Value := [.int .i64 m.kind, .int .i64 m.asn, .int .i64 m.hold, .int .u32 m.id, .slice m.kad m.caps.length m.kc, .slice m.gad m.gone.length m.gc, .int .i64 m.atr.has, .int .i64 m.atr.origin, .slice m.atr.pad m.atr.path.length m.atr.pc, .int .u32 m.atr.hop, .int .i64 m.atr.med, .int .i64 m.atr.loc, .int .i64 m.atr.aas, .int .u32 m.atr.aid, .slice m.atr.cad m.atr.comms.length m.atr.cc, .slice m.atr.oad m.atr.others.length m.atr.oc, .slice m.nad m.nets.length m.nc, .int .i64 m.fc, .int .i64 m.fs, .string m.fd]
def AtL.zero : AtL := ⟨0, 0, none, 0, [], 0, 0, 0, 0, 0, none, 0, [], none, 0, []⟩
def MsL.zero (k : Int) : MsL := ⟨k, 0, 0, 0, none, 0, [], none, 0, [], .zero, none, 0, [], 0, 0, ⟨#[]⟩⟩
structure AtL.At (w : World) (a : AtL) : Prop where
  path : RowsAt w a.pad 2 SegL.cells a.path
  segs : ∀ s ∈ a.path, CellsAt w s.ad (i64s s.asl)
  comms : CellsAt w a.cad (i64s a.comms)
  oths : RowsAt w a.oad 2 OthL.cells a.others
  vals : ∀ o ∈ a.others, CellsAt w o.ad (u8s o.val)
structure MsL.At (w : World) (m : MsL) : Prop where
  caps : RowsAt w m.kad 2 CapL.cells m.caps
  vals : ∀ c ∈ m.caps, CellsAt w c.ad (u8s c.val)
  gone : RowsAt w m.gad 2 PfL.cells m.gone
  nets : RowsAt w m.nad 2 PfL.cells m.nets
  at_ : m.atr.At w
theorem AtL.At.frm {w w' : World} {a : AtL} (h : a.At w) (hw : ∀ b o cs, w.rangeAt b o cs → w'.rangeAt b o cs) : a.At w' := ⟨h.path.frm hw, fun s hs => (h.segs s hs).frm hw, h.comms.frm hw, h.oths.frm hw, fun s hs => (h.vals s hs).frm hw⟩
theorem MsL.At.frm {w w' : World} {m : MsL} (h : m.At w) (hw : ∀ b o cs, w.rangeAt b o cs → w'.rangeAt b o cs) : m.At w' := ⟨h.caps.frm hw, fun s hs => (h.vals s hs).frm hw, h.gone.frm hw, h.nets.frm hw, h.at_.frm hw⟩
theorem St.rng {p : Nat → Prop} {w0 w : World} {L : List Ent} (hp : ∀ b, ¬ p b) (hS : St p w0 w L) (b o : Nat) (cs : List Value) (h : w0.rangeAt b o cs) : w.rangeAt b o cs := fun j v hj => hS.old (hp b) (h j v hj)
theorem MsL.At.st {w w' : World} {L : List Ent} {m : MsL} (h : m.At w) (hS : St (fun _ => False) w w' L) : m.At w' := h.frm (hS.rng fun _ h => h)
theorem AtL.At.st {w w' : World} {L : List Ent} {a : AtL} (h : a.At w) (hS : St (fun _ => False) w w' L) : a.At w' := h.frm (hS.rng fun _ h => h)
def I64 (x : Int) : Prop := -9223372036854775808 ≤ x ∧ x ≤ 9223372036854775807
def U32 (x : Int) : Prop := 0 ≤ x ∧ x ≤ 4294967295
structure AtL.In (a : AtL) : Prop where
  has : I64 a.has
  origin : I64 a.origin
  hop : U32 a.hop
  med : I64 a.med
  loc : I64 a.loc
  aas : I64 a.aas
  aid : U32 a.aid
  segs : ∀ s ∈ a.path, s.asl.length ≤ 9223372036854775807 ∧ ∀ x ∈ s.asl, I64 x
  comms : ∀ x ∈ a.comms, I64 x
  oths : ∀ o ∈ a.others, I64 o.ty ∧ o.val.length ≤ 9223372036854775807 ∧ Bys o.val
  lens : a.path.length ≤ 9223372036854775807 ∧ a.comms.length ≤ 9223372036854775807 ∧ a.others.length ≤ 9223372036854775807
structure MsL.In (m : MsL) : Prop where
  kind : I64 m.kind
  asn : I64 m.asn
  hold : I64 m.hold
  id : U32 m.id
  fc : I64 m.fc
  fs : I64 m.fs
  caps : ∀ c ∈ m.caps, I64 c.code ∧ c.val.length ≤ 9223372036854775807 ∧ Bys c.val
  gone : ∀ p ∈ m.gone, U32 p.addr ∧ I64 p.len
  nets : ∀ p ∈ m.nets, U32 p.addr ∧ I64 p.len
  at_ : m.atr.In
  lens : m.caps.length ≤ 9223372036854775807 ∧ m.gone.length ≤ 9223372036854775807 ∧ m.nets.length ≤ 9223372036854775807 ∧ m.fd.size ≤ 9223372036854775807

theorem nat_and_hi {a m : Nat} (ha : a < 2 ^ 32) (hm : m ≤ 32) : a &&& (2 ^ 32 - 2 ^ m) = a - a % 2 ^ m := by
  have e1 : 2 ^ 32 - 2 ^ m = (2 ^ (32 - m) - 1) <<< m := by
    rw [Nat.shiftLeft_eq, Nat.sub_mul, ← Nat.pow_add, Nat.one_mul, show 32 - m + m = 32 by omega]
  have e2 : a - a % 2 ^ m = (a >>> m) <<< m := by
    rw [Nat.shiftLeft_eq, Nat.shiftRight_eq_div_pow]
    have := Nat.div_add_mod a (2 ^ m)
    rw [Nat.mul_comm] at this
    omega
  rw [e1, e2]
  apply Nat.eq_of_testBit_eq
  intro i
  rw [Nat.testBit_and, Nat.testBit_shiftLeft, Nat.testBit_shiftLeft, Nat.testBit_two_pow_sub_one, Nat.testBit_shiftRight]
  by_cases h1 : m ≤ i
  · rw [show m + (i - m) = i by omega]
    by_cases h2 : i < 32
    · simp [h1, show i - m < 32 - m by omega]
    · rw [Nat.testBit_lt_two_pow (Nat.lt_of_lt_of_le ha (Nat.pow_le_pow_right (by decide) (by omega)))]; simp
  · simp [h1]
theorem bits_hi {a : Int} {m : Nat} (ha : 0 ≤ a) (ha' : a ≤ 4294967295) (hm : m ≤ 32) : bits .and .u32 a ((2 ^ 32 - 2 ^ m : Nat) : Int) = a - a % ((2 ^ m : Nat) : Int) := by
  obtain ⟨n, rfl⟩ := Int.eq_ofNat_of_zero_le ha
  have h0 : 0 < 2 ^ m := Nat.two_pow_pos m
  have h1 : 2 ^ 32 - 2 ^ m < 2 ^ 32 := Nat.sub_lt (by decide) h0
  show IntKind.u32.wrap ((BitVec.ofInt 32 (n : Int) &&& BitVec.ofInt 32 ((2 ^ 32 - 2 ^ m : Nat) : Int)).toNat : Int) = _
  rw [BitVec.ofInt_natCast, BitVec.ofInt_natCast, BitVec.toNat_and, BitVec.toNat_ofNat, BitVec.toNat_ofNat, Nat.mod_eq_of_lt (by omega), Nat.mod_eq_of_lt h1, nat_and_hi (by omega) hm, IntKind.wrap_u32]
  have h2 : n % 2 ^ m ≤ n := Nat.mod_le _ _
  have h3 : ((n % 2 ^ m : Nat) : Int) = (n : Int) % ((2 ^ m : Nat) : Int) := by simp
  omega
def inI (n : Int) : Int := min (max n 0) 32
theorem inI_b (n : Int) : 0 ≤ inI n ∧ inI n ≤ 32 := by unfold inI; omega
def maskI (n : Int) : Int := ((2 ^ 32 - 2 ^ (32 - inI n).toNat : Nat) : Int)
def cutI (a n : Int) : Int := a - a % ((2 ^ (32 - inI n).toNat : Nat) : Int)
theorem within_c (w : World) (n : Int) : Calls Tryz.prog 131 #[.int .i64 n] w fun e w' => e = .returned (.int .i64 (inI n)) ∧ Frm (fun _ => False) w w' := by
  refine enter Tryz.func131 rfl Tryz.ntmps131 rfl (St.start (fun _ => False) w) ?_
  refine cR <| zA rfl <| zR <| zM rfl <| zV (v_max rfl rfl rfl) rfl <| zV (v_min rfl rfl rfl) rfl <| zA rfl <| zN <| cE <| tR Tryz.results131 rfl <| ?_
  exact fun w' h => ⟨rfl, h.frm⟩
theorem mask_shl {m : Nat} (hm : m ≤ 32) : IntKind.u32.wrap (4294967295 * (2 : Int) ^ m) = ((2 ^ 32 - 2 ^ m : Nat) : Int) := by
  have : m = 0 ∨ m = 1 ∨ m = 2 ∨ m = 3 ∨ m = 4 ∨ m = 5 ∨ m = 6 ∨ m = 7 ∨ m = 8 ∨ m = 9 ∨ m = 10 ∨ m = 11 ∨ m = 12 ∨ m = 13 ∨ m = 14 ∨ m = 15 ∨ m = 16 ∨ m = 17 ∨ m = 18 ∨ m = 19 ∨ m = 20 ∨ m = 21 ∨ m = 22 ∨ m = 23 ∨ m = 24 ∨ m = 25 ∨ m = 26 ∨ m = 27 ∨ m = 28 ∨ m = 29 ∨ m = 30 ∨ m = 31 ∨ m = 32 := by omega
  rcases this with rfl | rfl | rfl | rfl | rfl | rfl | rfl | rfl | rfl | rfl | rfl | rfl | rfl | rfl | rfl | rfl | rfl | rfl | rfl | rfl | rfl | rfl | rfl | rfl | rfl | rfl | rfl | rfl | rfl | rfl | rfl | rfl | rfl <;> decide
theorem Mask_c (w : World) (n : Int) : Calls Tryz.prog 130 #[.int .i64 n] w fun e w' => e = .returned (.int .u32 (maskI n)) ∧ Frm (fun _ => False) w w' := by
  have hb := inI_b n
  refine enter Tryz.func130 rfl Tryz.ntmps130 rfl (St.start (fun _ => False) w) ?_
  refine cR <| zA rfl <| zR <| zM rfl <| zK ck_131 rfl <| ?_
  intro w hS
  refine Calls.then (within_c w n) hS ?_
  refine zV (v_sub rfl rfl rfl (show _ = (32 - inI n) from w_i64 (by omega) (by omega))) rfl ?_
  refine zV (v_shl (m := (32 - inI n).toNat) (c := (2 : Int) ^ (32 - inI n).toNat) rfl rfl rfl (by omega) (by show (32 - inI n).toNat ≤ 32; omega) rfl (mask_shl (by omega))) rfl ?_
  refine zA rfl <| zN <| cE <| tR Tryz.results130 rfl <| ?_
  exact fun w' h => ⟨rfl, h.frm⟩
theorem Of_c (w : World) (a n : Int) (ha : 0 ≤ a) (ha' : a ≤ 4294967295) : Calls Tryz.prog 120 #[.int .u32 a, .int .i64 n] w fun e w' => e = .returned (.agg #[.int .u32 (cutI a n), .int .i64 (inI n)]) ∧ Frm (fun _ => False) w w' := by
  have hb := inI_b n
  refine enter Tryz.func120 rfl Tryz.ntmps120 rfl (St.start (fun _ => False) w) ?_
  refine cR <| WL.alloc rfl zero_177 (.none rfl) rfl rfl <| ?_
  intro g4 hg4
  refine zR <| zM rfl <| zM rfl <| zK ck_130 rfl <| ?_
  intro w hS
  refine Calls.then (Mask_c w n) hS ?_
  refine zV (v_and rfl rfl rfl (show _ = (cutI a n) from bits_hi ha ha' (by omega))) rfl ?_
  refine zM rfl <| zK ck_131 rfl <| ?_
  intro w hS
  refine Calls.then (within_c w n) hS ?_
  refine zV (v_build rfl rfl zero_177 plc_177 rfl) rfl <| zW many_177 rfl rfl <| zN <| cE <| tR Tryz.results120 (resRow rfl many_177 rfl) <| ?_
  exact fun w' h => ⟨rfl, h.frm⟩
def pfOk (p : PfL) : Bool := decide (p.addr = cutI p.addr p.len ∧ p.len = inI p.len)
theorem PCheck_c (w : World) (p : PfL) (ha : U32 p.addr) : Calls Tryz.prog 97 #[.agg p.cells.toArray] w fun e w' => e = .returned (.int .i64 (if pfOk p then 0 else 1)) ∧ Frm (fun _ => False) w w' := by
  cases hp : pfOk p
  · have hn : ¬ p.cells = [.int .u32 (cutI p.addr p.len), .int .i64 (inI p.len)] := by
      intro h
      unfold PfL.cells at h
      injection h with h1 h2
      injection h2 with h2 _
      injection h1 with _ h1
      injection h2 with _ h2
      unfold pfOk at hp
      exact absurd ⟨h1, h2⟩ (of_decide_eq_false hp)
    refine enter Tryz.func97 rfl Tryz.ntmps97 rfl (St.start (fun _ => False) w) ?_
    refine cR <| WL.box rfl rfl rfl (.none rfl) rfl rfl <| ?_
    intro g1 hg1
    refine zA rfl <| zN <| cS <| cS <| cQ mixed <| qV (v_loadN rfl rfl many_177 rfl allAt) rfl <| qV (v_fieldAddr0 rfl rfl fld_177_0) rfl <| qV (v_load1 rfl rfl one_23 (cellAt rfl)) rfl <| qV (v_fieldAddr0 rfl rfl fld_177_1) rfl <| qV (v_load1 rfl rfl one_3 (cellAt rfl)) rfl <| WQ.call _ rfl rfl ck_120 (.none rfl) rfl rfl (fun w hS => Calls.still (Of_c w p.addr p.len ha.1 ha.2) hS) <| ?_
    refine qV (v_neq_aggT rfl rfl rfl eqk_177 eqg_177 rfl rfl (by exact hn)) rfl ?_
    refine WQ.nil <| eN <| cT rfl <| cR <| zA rfl <| zN <| cE <| eR <| tR Tryz.results97 rfl <| ?_
    exact fun w' h => ⟨rfl, h.frm⟩
  · have hn : p.cells = [.int .u32 (cutI p.addr p.len), .int .i64 (inI p.len)] := by
      obtain ⟨h1, h2⟩ := of_decide_eq_true hp
      unfold PfL.cells
      rw [← h1, ← h2]
    refine enter Tryz.func97 rfl Tryz.ntmps97 rfl (St.start (fun _ => False) w) ?_
    refine cR <| WL.box rfl rfl rfl (.none rfl) rfl rfl <| ?_
    intro g1 hg1
    refine zA rfl <| zN <| cS <| cS <| cQ mixed <| qV (v_loadN rfl rfl many_177 rfl allAt) rfl <| qV (v_fieldAddr0 rfl rfl fld_177_0) rfl <| qV (v_load1 rfl rfl one_23 (cellAt rfl)) rfl <| qV (v_fieldAddr0 rfl rfl fld_177_1) rfl <| qV (v_load1 rfl rfl one_3 (cellAt rfl)) rfl <| WQ.call _ rfl rfl ck_120 (.none rfl) rfl rfl (fun w hS => Calls.still (Of_c w p.addr p.len ha.1 ha.2) hS) <| ?_
    refine qV (v_neq_aggF rfl rfl rfl eqk_177 eqg_177 rfl rfl (by exact hn)) rfl ?_
    refine WQ.nil <| eN <| cF rfl <| cK <| eN <| cR <| zA rfl <| zN <| cE <| tR Tryz.results97 rfl <| ?_
    exact fun w' h => ⟨rfl, h.frm⟩

theorem bits_one_i64 (x : Int) : bits .and .i64 x 1 = x % 2 := by
  show IntKind.i64.wrap ((BitVec.ofInt 64 x &&& BitVec.ofInt 64 1).toNat : Int) = _
  rw [BitVec.toNat_and, BitVec.toNat_ofInt, show (BitVec.ofInt 64 1).toNat = 2 ^ 1 - 1 by decide, Nat.and_two_pow_sub_one_eq_mod, IntKind.wrap_i64]
  omega
def hasB (has : Int) (k : Nat) : Bool := decide (1 ≤ k ∧ k ≤ 8 ∧ has / 2 ^ k % 2 = 1)
def wiB (n most : Int) : Bool := decide (0 ≤ n ∧ n ≤ most)
def hopB (a : Int) : Bool := decide (a / 16777216 ≠ 0 ∧ a / 16777216 ≠ 127 ∧ a / 16777216 < 224)
def segB (s : SegL) : Bool := decide (1 ≤ s.asl.length ∧ s.asl.length ≤ 255) && s.asl.all fun x => decide (1 ≤ x ∧ x ≤ 65535)
def commsB (cs : List Int) : Bool := (cs.all fun x => wiB x 4294967295) && decide (cs.length ≤ 256)
theorem isKnown_c (w : World) (t : Int) : Calls Tryz.prog 121 #[.int .i64 t] w fun e w' => e = .returned (.bool (decide (1 ≤ t ∧ t ≤ 8))) ∧ Frm (fun _ => False) w w' := by
  refine enter Tryz.func121 rfl Tryz.ntmps121 rfl (St.start (fun _ => False) w) ?_
  refine cR <| zA rfl <| zR <| zM rfl <| ?_
  refine zT (v_geq rfl rfl rfl) rfl (fun h4 => ?_) (fun h4 => ?_)
  refine zM rfl <| zS (v_move rfl rfl) rfl <| ?_
  refine WL.test (v_leq rfl rfl rfl) (.some rfl rfl rfl) rfl rfl (fun h7 => ?_) (fun h7 => ?_)
  refine zP rfl <| zA rfl <| zN <| cE <| tR Tryz.results121 rfl <| ?_
  exact fun w' h => ⟨by rw [decide_eq_true (by omega)], h.frm⟩
  refine zP rfl <| zA rfl <| zN <| cE <| tR Tryz.results121 rfl <| ?_
  exact fun w' h => ⟨by rw [decide_eq_false (by omega)], h.frm⟩
  refine zM rfl ?_
  iterate 2 refine WL.sk rfl ?_
  refine zQ rfl <| zA rfl <| zN <| cE <| tR Tryz.results121 rfl <| ?_
  exact fun w' h => ⟨by rw [decide_eq_false (by omega)], h.frm⟩
theorem isKnownT_c (w : World) (t : Int) (h : 1 ≤ t ∧ t ≤ 8) : Calls Tryz.prog 121 #[.int .i64 t] w fun e w' => e = .returned (.bool true) ∧ Frm (fun _ => False) w w' :=
  (isKnown_c w t).mono (by rintro e w' ⟨rfl, h'⟩; exact ⟨by rw [decide_eq_true h], h'⟩)
theorem isKnownF_c (w : World) (t : Int) (h : ¬ (1 ≤ t ∧ t ≤ 8)) : Calls Tryz.prog 121 #[.int .i64 t] w fun e w' => e = .returned (.bool false) ∧ Frm (fun _ => False) w w' :=
  (isKnown_c w t).mono (by rintro e w' ⟨rfl, h'⟩; exact ⟨by rw [decide_eq_false h], h'⟩)
theorem Is_c (w : World) (a : AtL) (k : Nat) (hk : k ≤ 60) : Calls Tryz.prog 98 #[.agg a.cells.toArray, .int .i64 k] w fun e w' => e = .returned (.bool (hasB a.has k)) ∧ Frm (fun _ => False) w w' := by
  by_cases h6 : 1 ≤ k ∧ k ≤ 8
  · refine enter Tryz.func98 rfl Tryz.ntmps98 rfl (St.start (fun _ => False) w) ?_
    refine cR <| WL.box rfl rfl rfl (.none rfl) rfl rfl <| ?_
    intro g2 hg2
    refine zA rfl <| zR <| zM rfl <| zK ck_121 rfl <| ?_
    intro w hS
    refine Calls.then (isKnownT_c w k (by omega)) hS ?_
    refine zM rfl <| zS (v_fieldAddr0 rfl rfl fld_35_0) rfl <| zS (v_load1 rfl rfl one_3 (cellAt rfl)) rfl <| zS (v_move rfl rfl) rfl <| ?_
    refine zS ((v_shr (m := k) (c := (2 : Int) ^ k) rfl rfl rfl rfl (by show k ≤ 64; omega) rfl)) rfl ?_
    refine zS (v_and rfl rfl rfl (bits_one_i64 _)) rfl ?_
    refine WL.test (v_eql rfl rfl rfl) (.some rfl rfl rfl) rfl rfl (fun h13 => ?_) (fun h13 => ?_)
    refine zP rfl <| zA rfl <| zN <| cE <| tR Tryz.results98 rfl <| ?_
    exact fun w' h => ⟨by unfold hasB; rw [decide_eq_true (by omega)], h.frm⟩
    refine zP rfl <| zA rfl <| zN <| cE <| tR Tryz.results98 rfl <| ?_
    exact fun w' h => ⟨by unfold hasB; rw [decide_eq_false (by omega)], h.frm⟩
  · refine enter Tryz.func98 rfl Tryz.ntmps98 rfl (St.start (fun _ => False) w) ?_
    refine cR <| WL.box rfl rfl rfl (.none rfl) rfl rfl <| ?_
    intro g2 hg2
    refine zA rfl <| zR <| zM rfl <| zK ck_121 rfl <| ?_
    intro w hS
    refine Calls.then (isKnownF_c w k (by omega)) hS ?_
    refine zM rfl ?_
    iterate 6 refine WL.sk rfl ?_
    refine zQ rfl <| zA rfl <| zN <| cE <| tR Tryz.results98 rfl <| ?_
    exact fun w' h => ⟨by unfold hasB; rw [decide_eq_false (by omega)], h.frm⟩
theorem AWithin_c (w : World) (n most : Int) : Calls Tryz.prog 132 #[.int .i64 n, .int .i64 most] w fun e w' => e = .returned (.bool (wiB n most)) ∧ Frm (fun _ => False) w w' := by
  refine enter Tryz.func132 rfl Tryz.ntmps132 rfl (St.start (fun _ => False) w) ?_
  refine cR <| zA rfl <| zR <| zM rfl <| ?_
  refine zT (v_geq rfl rfl rfl) rfl (fun h6 => ?_) (fun h6 => ?_)
  refine zM rfl <| zS (v_move rfl rfl) rfl <| zS (v_move rfl rfl) rfl <| ?_
  refine WL.test (v_leq rfl rfl rfl) (.some rfl rfl rfl) rfl rfl (fun h10 => ?_) (fun h10 => ?_)
  refine zP rfl <| zA rfl <| zN <| cE <| tR Tryz.results132 rfl <| ?_
  exact fun w' h => ⟨by unfold wiB; rw [decide_eq_true (by omega)], h.frm⟩
  refine zP rfl <| zA rfl <| zN <| cE <| tR Tryz.results132 rfl <| ?_
  exact fun w' h => ⟨by unfold wiB; rw [decide_eq_false (by omega)], h.frm⟩
  refine zM rfl ?_
  iterate 3 refine WL.sk rfl ?_
  refine zQ rfl <| zA rfl <| zN <| cE <| tR Tryz.results132 rfl <| ?_
  exact fun w' h => ⟨by unfold wiB; rw [decide_eq_false (by omega)], h.frm⟩
theorem goodHop_c (w : World) (a : Int) : Calls Tryz.prog 134 #[.int .u32 a] w fun e w' => e = .returned (.bool (hopB a)) ∧ Frm (fun _ => False) w w' := by
  refine enter Tryz.func134 rfl Tryz.ntmps134 rfl (St.start (fun _ => False) w) ?_
  refine cR <| zA rfl <| zR <| zM rfl <| ?_
  refine zV (v_shr (m := 24) (c := 16777216) rfl rfl rfl rfl (by decide) (by decide)) rfl ?_
  refine zA rfl <| zR <| zM rfl <| ?_
  refine zT (v_neq rfl rfl rfl) rfl (fun h7 => ?_) (fun h7 => ?_)
  refine zM rfl <| zS (v_move rfl rfl) rfl <| ?_
  refine WL.test (v_neq rfl rfl rfl) (.some rfl rfl rfl) rfl rfl (fun h10 => ?_) (fun h10 => ?_)
  refine zP rfl <| zM rfl <| zS (v_move rfl rfl) rfl <| ?_
  refine WL.test (v_lss rfl rfl rfl) (.some rfl rfl rfl) rfl rfl (fun h14 => ?_) (fun h14 => ?_)
  refine zP rfl <| zA rfl <| zN <| cE <| tR Tryz.results134 rfl <| ?_
  exact fun w' h => ⟨by unfold hopB; rw [decide_eq_true (by omega)], h.frm⟩
  refine zP rfl <| zA rfl <| zN <| cE <| tR Tryz.results134 rfl <| ?_
  exact fun w' h => ⟨by unfold hopB; rw [decide_eq_false (by omega)], h.frm⟩
  refine zP rfl <| zM rfl <| ?_
  iterate 2 refine WL.sk rfl ?_
  refine zQ rfl <| zA rfl <| zN <| cE <| tR Tryz.results134 rfl <| ?_
  exact fun w' h => ⟨by unfold hopB; rw [decide_eq_false (by omega)], h.frm⟩
  refine zM rfl ?_
  iterate 2 refine WL.sk rfl ?_
  refine zQ rfl <| zM rfl <| ?_
  iterate 2 refine WL.sk rfl ?_
  refine zQ rfl <| zA rfl <| zN <| cE <| tR Tryz.results134 rfl <| ?_
  exact fun w' h => ⟨by unfold hopB; rw [decide_eq_false (by omega)], h.frm⟩

theorem all_of {α : Type} {p : α → Bool} {xs : List α} (h : ∀ j x, j < xs.length → xs[j]? = some x → p x = true) : xs.all p = true := List.all_eq_true.2 fun x hx => by
  obtain ⟨j, hj, e⟩ := List.getElem_of_mem hx
  exact h j x hj (by rw [List.getElem?_eq_getElem hj, e])
theorem not_all {α : Type} {p : α → Bool} {xs : List α} {j : Nat} {x : α} (h : xs[j]? = some x) (hp : p x = false) : xs.all p = false := by
  cases e : xs.all p with
  | false => rfl
  | true => exact absurd (List.all_eq_true.1 e x (List.mem_of_getElem? h)) (by rw [hp]; decide)
theorem goodPath_c (w : World) (ad : Option Addr) (c : Nat) (ss : List SegL) (hR : RowsAt w ad 2 SegL.cells ss) (hC : ∀ s ∈ ss, CellsAt w s.ad (i64s s.asl)) (hn : ss.length ≤ 9223372036854775807) (hI : ∀ s ∈ ss, s.asl.length ≤ 9223372036854775807 ∧ ∀ x ∈ s.asl, I64 x) :
    Calls Tryz.prog 133 #[.slice ad ss.length c] w fun e w' => e = .returned (.bool (ss.all segB)) ∧ Frm (fun _ => False) w w' := by
  refine enter Tryz.func133 rfl Tryz.ntmps133 rfl (St.start (fun _ => False) w) ?_
  refine cR <| zA rfl <| zN <| cS <| cR <| zM rfl <| zV (v_len_slice rfl rfl Tryz.underlying31) rfl <| zM rfl <| zN <| cB <| ?_
  refine WC.loop (fun k : Nat => [(9, .int .i64 k), (8, .int .i64 ss.length), (7, .slice ad ss.length c)]) (fun _ => []) (fun k => k ≤ ss.length ∧ ∀ j x, j < k → ss[j]? = some x → segB x = true) (fun k => ss.length - k) 0 ⟨Nat.zero_le _, fun j _ h => absurd h (by omega)⟩ (.cons rfl (.cons rfl (.cons rfl .nil))) (.refl _) ?_
  rintro k ⟨hk, hall⟩
  refine cR ?_
  refine zT (v_lss rfl rfl rfl) rfl (fun h10 => ?_) (fun h10 => ?_)
  refine zN <| cS <| cT rfl <| cK <| eN <| cS <| cB <| cR <| ?_
  obtain ⟨s, hs⟩ : ∃ s, ss[k]? = some s := ⟨ss[k]'(by omega), List.getElem?_eq_getElem _⟩
  obtain ⟨b, o, ea, hr⟩ := hR k s hs
  have hsm := List.mem_of_getElem? hs
  have hsI := hI s hsm
  refine zV ((v_indexAddr (b := b) (off := o) (lo := k) rfl (by show some (Value.slice ad _ _) = _; rw [ea]) rfl Tryz.underlying31 sz_207 rfl (by omega))) rfl ?_
  refine zV ((v_loadN (cs := s.cells) rfl rfl many_207 rfl (rgIn (fun h => h) hr))) rfl <| WL.alloc rfl zero_207 (.none rfl) rfl rfl <| ?_
  intro g4 hg4
  refine zW many_207 rfl rfl <| zN <| cS <| cR <| zF rfl fld_207_1 <| zL rfl one_32 rfl <| zV (v_len_slice rfl rfl Tryz.underlying32) rfl <| ?_
  refine zT (v_lss rfl rfl rfl) rfl (fun h16 => ?_) (fun h16 => ?_)
  refine zM rfl ?_
  iterate 4 refine WL.sk rfl ?_
  refine zP rfl <| zN <| cT rfl <| cR <| zA rfl <| zN <| cE <| eR <| eB <| eR <| eR <| eB <| eR <| ?_
  refine tR Tryz.results133 rfl ?_
  exact fun w' h => ⟨by rw [not_all hs (by unfold segB; rw [decide_eq_false (by omega), Bool.false_and])], h.frm⟩
  refine zM rfl <| zS (v_fieldAddr0 rfl rfl fld_207_1) rfl <| zS (v_load1 rfl rfl one_32 (cellAt rfl)) rfl <| zS (v_len_slice rfl rfl Tryz.underlying32) rfl <| ?_
  refine WL.test (v_gtr rfl rfl rfl) (.some rfl rfl rfl) rfl rfl (fun h21 => ?_) (fun h21 => ?_)
  refine zQ rfl <| zN <| cT rfl <| cR <| zA rfl <| zN <| cE <| eR <| eB <| eR <| eR <| eB <| eR <| ?_
  refine tR Tryz.results133 rfl ?_
  exact fun w' h => ⟨by rw [not_all hs (by unfold segB; rw [decide_eq_false (by omega), Bool.false_and])], h.frm⟩
  refine zQ rfl <| zN <| cF rfl <| cK <| eN <| cR <| zF rfl fld_207_1 <| zL rfl one_32 rfl <| zV (v_len_slice rfl rfl Tryz.underlying32) rfl <| zM rfl <| zN <| cB <| ?_
  refine WC.loop (fun i : Nat => [(26, .int .i64 i), (25, .int .i64 s.asl.length), (24, .slice s.ad s.asl.length s.cap), (9, .int .i64 k), (8, .int .i64 ss.length), (7, .slice ad ss.length c)]) (fun _ => []) (fun i => i ≤ s.asl.length ∧ ∀ j x, j < i → s.asl[j]? = some x → decide (1 ≤ x ∧ x ≤ 65535) = true) (fun i => s.asl.length - i) 0 ⟨Nat.zero_le _, fun j _ h => absurd h (by omega)⟩ (.cons rfl (.cons rfl (.cons rfl (.cons rfl (.cons rfl (.cons rfl .nil)))))) (List.nil_sublist _) ?_
  rintro i ⟨hi, hin⟩
  refine cR ?_
  refine zT (v_lss rfl rfl rfl) rfl (fun h27 => ?_) (fun h27 => ?_)
  refine zN <| cS <| cT rfl <| cK <| eN <| cS <| cB <| cR <| ?_
  obtain ⟨x, hx⟩ : ∃ x, s.asl[i]? = some x := ⟨s.asl[i]'(by omega), List.getElem?_eq_getElem _⟩
  obtain ⟨b2, o2, ea2, hr2⟩ := hC s hsm (by rw [i64s_len]; omega)
  refine zV ((v_indexAddr (b := b2) (off := o2) (lo := i) rfl (by show some (Value.slice s.ad _ _) = _; rw [ea2]) rfl Tryz.underlying32 sz_3 rfl (by omega))) rfl ?_
  refine zV (v_load1 rfl rfl one_3 (cellOld (v := .int .i64 x) (fun h => h) (by rw [Nat.mul_one]; exact hr2 i _ (i64s_get hx)))) rfl ?_
  refine zA rfl <| zR <| zM rfl <| ?_
  refine zT (v_lss rfl rfl rfl) rfl (fun h31 => ?_) (fun h31 => ?_)
  refine zM rfl ?_
  iterate 2 refine WL.sk rfl ?_
  refine zP rfl <| zN <| cT rfl <| cR <| zA rfl <| zN <| cE <| eB <| eR <| eR <| eB <| eB <| eR <| ?_
  refine eR <| eB <| eR <| tR Tryz.results133 rfl <| ?_
  exact fun w' h => ⟨by rw [not_all hs (by unfold segB; rw [not_all hx (decide_eq_false (by omega)), Bool.and_false])], h.frm⟩
  refine zM rfl <| zS (v_move rfl rfl) rfl <| ?_
  refine WL.test (v_gtr rfl rfl rfl) (.some rfl rfl rfl) rfl rfl (fun h34 => ?_) (fun h34 => ?_)
  refine zQ rfl <| zN <| cT rfl <| cR <| zA rfl <| zN <| cE <| eB <| eR <| eR <| eB <| eB <| eR <| ?_
  refine eR <| eB <| eR <| tR Tryz.results133 rfl <| ?_
  exact fun w' h => ⟨by rw [not_all hs (by unfold segB; rw [not_all hx (decide_eq_false (by omega)), Bool.and_false])], h.frm⟩
  refine zQ rfl <| zN <| cF rfl <| cK <| eY <| eN <| WC.region <| ?_
  refine zV (v_add rfl rfl rfl (w_i64 (by omega) (by omega))) rfl ?_
  refine zM rfl <| WL.nil <| ?_
  exact WE.next (i + 1) (by omega) ⟨by omega, fun j y hj hy => by
  by_cases e : j = i
  · subst e; rw [hx] at hy; obtain rfl := Option.some.inj hy; exact decide_eq_true ⟨by omega, by omega⟩
  · exact hin j y (by omega) hy⟩ (.int rfl (by omega) (.cons rfl (.cons rfl (.cons rfl (.cons rfl (.cons rfl .nil)))))) (.refl _)
  refine zN <| cS <| cF rfl <| cX <| eX <| eX <| eH <| eY <| eN <| WC.region <| ?_
  refine zV (v_add rfl rfl rfl (w_i64 (by omega) (by omega))) rfl ?_
  refine zM rfl <| WL.nil <| ?_
  exact WE.next (k + 1) (by omega) ⟨by omega, fun j y hj hy => by
  by_cases e : j = k
  · subst e; rw [hs] at hy; obtain rfl := Option.some.inj hy
    unfold segB
    rw [decide_eq_true ⟨by omega, by omega⟩, Bool.true_and]
    exact all_of fun j x hj hx => hin j x (by omega) hx
  · exact hall j y (by omega) hy⟩ (.int rfl (by omega) (.cons rfl (.cons rfl .nil))) (.refl _)
  refine zN <| cS <| cF rfl <| cX <| eX <| eX <| eH <| eN <| cR <| zA rfl <| zN <| cE <| tR Tryz.results133 rfl <| ?_
  exact fun w' h => ⟨by rw [all_of fun j x hj hx => hall j x (by omega) hx], h.frm⟩
theorem goodComms_c (w : World) (ad : Option Addr) (c : Nat) (cs : List Int) (hR : CellsAt w ad (i64s cs)) (hn : cs.length ≤ 9223372036854775807) (_ : ∀ x ∈ cs, I64 x) :
    Calls Tryz.prog 135 #[.slice ad cs.length c] w fun e w' => e = .returned (.bool (commsB cs)) ∧ Frm (fun _ => False) w w' := by
  refine enter Tryz.func135 rfl Tryz.ntmps135 rfl (St.start (fun _ => False) w) ?_
  refine cR <| zA rfl <| zN <| cS <| cR <| zM rfl <| zV (v_len_slice rfl rfl Tryz.underlying32) rfl <| zM rfl <| zN <| cB <| ?_
  refine WC.loop (fun k : Nat => [(7, .int .i64 k), (6, .int .i64 cs.length), (5, .slice ad cs.length c), (0, .slice ad cs.length c)]) (fun _ => []) (fun k => k ≤ cs.length ∧ ∀ j x, j < k → cs[j]? = some x → wiB x 4294967295 = true) (fun k => cs.length - k) 0 ⟨Nat.zero_le _, fun j _ h => absurd h (by omega)⟩ (.cons rfl (.cons rfl (.cons rfl (.cons rfl .nil)))) (.refl _) ?_
  rintro k ⟨hk, hall⟩
  refine cR ?_
  refine zT (v_lss rfl rfl rfl) rfl (fun h8 => ?_) (fun h8 => ?_)
  refine zN <| cS <| cT rfl <| cK <| eN <| cS <| cB <| cR <| ?_
  obtain ⟨x, hx⟩ : ∃ x, cs[k]? = some x := ⟨cs[k]'(by omega), List.getElem?_eq_getElem _⟩
  obtain ⟨b, o, ea, hr⟩ := hR (by rw [i64s_len]; omega)
  refine zV ((v_indexAddr (b := b) (off := o) (lo := k) rfl (by show some (Value.slice ad _ _) = _; rw [ea]) rfl Tryz.underlying32 sz_3 rfl (by omega))) rfl ?_
  refine zV (v_load1 rfl rfl one_3 (cellOld (v := .int .i64 x) (fun h => h) (by rw [Nat.mul_one]; exact hr k _ (i64s_get hx)))) rfl ?_
  refine zA rfl <| zR <| zM rfl <| zK ck_132 rfl <| ?_
  intro w hS
  refine Calls.then (AWithin_c w x 4294967295) hS ?_
  generalize hb : wiB x 4294967295 = bb
  cases bb
  refine zV (v_not rfl rfl rfl) rfl <| zN <| cT rfl <| cR <| zA rfl <| zN <| cE <| eB <| eR <| eR <| eB <| eR <| tR Tryz.results135 rfl <| ?_
  exact fun w' h => ⟨by unfold commsB; rw [not_all hx hb, Bool.false_and], h.frm⟩
  refine zV (v_not rfl rfl rfl) rfl <| zN <| cF rfl <| cK <| eY <| eN <| WC.region <| ?_
  refine zV (v_add rfl rfl rfl (w_i64 (by omega) (by omega))) rfl ?_
  refine zM rfl <| WL.nil <| ?_
  exact WE.next (k + 1) (by omega) ⟨by omega, fun j y hj hy => by
  by_cases e : j = k
  · subst e; rw [hx] at hy; obtain rfl := Option.some.inj hy; exact hb
  · exact hall j y (by omega) hy⟩ (.int rfl (by omega) (.cons rfl (.cons rfl (.cons rfl .nil)))) (.refl _)
  refine zN <| cS <| cF rfl <| cX <| eX <| eX <| eH <| eN <| cR <| zM rfl <| zV (v_len_slice rfl rfl Tryz.underlying32) rfl <| ?_
  refine zT (v_leq rfl rfl rfl) rfl (fun h17 => ?_) (fun h17 => ?_)
  refine zA rfl <| zN <| cE <| tR Tryz.results135 rfl <| ?_
  exact fun w' h => ⟨by unfold commsB; rw [all_of fun j x hj hx => hall j x (by omega) hx, decide_eq_true (by omega)]; rfl, h.frm⟩
  refine zA rfl <| zN <| cE <| tR Tryz.results135 rfl <| ?_
  exact fun w' h => ⟨by unfold commsB; rw [decide_eq_false (by omega), Bool.and_false], h.frm⟩

def goodB (a : AtL) (k : Nat) : Bool :=
  if k = 1 then wiB a.origin 2 else if k = 2 then a.path.all segB else if k = 3 then hopB a.hop else if k = 4 then wiB a.med 4294967295
  else if k = 5 then wiB a.loc 4294967295 else if k = 7 then wiB a.aas 65535 else if k = 8 then commsB a.comms else true
def zeroB (a : AtL) (k : Nat) : Bool :=
  if k = 1 then decide (a.origin = 0) else if k = 2 then decide ((a.path.length : Int) = 0) else if k = 3 then decide (a.hop = 0) else if k = 4 then decide (a.med = 0)
  else if k = 5 then decide (a.loc = 0) else if k = 7 then decide (a.aas = 0 ∧ a.aid = 0) else if k = 8 then decide ((a.comms.length : Int) = 0) else true
theorem good_g (w : World) (a : AtL) (k : Nat) (hA : RowsAt w a.pad 2 SegL.cells a.path ∧ (∀ s ∈ a.path, CellsAt w s.ad (i64s s.asl)) ∧ CellsAt w a.cad (i64s a.comms)) (hI : (∀ s ∈ a.path, s.asl.length ≤ 9223372036854775807 ∧ ∀ x ∈ s.asl, I64 x) ∧ (∀ x ∈ a.comms, I64 x) ∧ a.path.length ≤ 9223372036854775807 ∧ a.comms.length ≤ 9223372036854775807) : Calls Tryz.prog 122 #[.agg a.cells.toArray, .int .i64 k] w fun e w' => e = .returned (.bool (goodB a k)) ∧ Frm (fun _ => False) w w' := by
  refine enter Tryz.func122 rfl Tryz.ntmps122 rfl (St.start (fun _ => False) w) ?_
  refine cR <| WL.box rfl rfl rfl (.none rfl) rfl rfl <| ?_
  intro g2 hg2
  refine zA rfl <| zN <| cS <| cR <| zM rfl <| zN <| cB <| cR <| ?_
  refine zT (v_eql rfl rfl rfl) rfl (fun h7 => ?_) (fun h7 => ?_)
  refine zA rfl <| zN <| cT rfl <| cR <| zF rfl fld_35_1 <| zL rfl one_3 rfl <| zK ck_132 rfl <| ?_
  intro w hS
  refine Calls.then (AWithin_c w a.origin 2) hS ?_
  refine zA rfl <| zN <| cE <| eB <| eR <| tR Tryz.results122 rfl <| ?_
  exact fun w' h => ⟨by unfold goodB; rw [if_pos (by omega)], h.frm⟩
  refine zA rfl <| zN <| cF rfl <| cR <| ?_
  refine zT (v_eql rfl rfl rfl) rfl (fun h12 => ?_) (fun h12 => ?_)
  refine zA rfl <| zN <| cT rfl <| cR <| zF rfl fld_35_2 <| zL rfl one_31 rfl <| zK ck_133 rfl <| ?_
  intro w hS
  refine Calls.then (goodPath_c w a.pad a.pc a.path (hA.1.frm (hS.rng fun _ h => h)) (fun s hs => (hA.2.1 s hs).frm (hS.rng fun _ h => h)) hI.2.2.1 hI.1) hS ?_
  refine zA rfl <| zN <| cE <| eB <| eR <| tR Tryz.results122 rfl <| ?_
  exact fun w' h => ⟨by unfold goodB; rw [if_neg (by omega), if_pos (by omega)], h.frm⟩
  refine zA rfl <| zN <| cF rfl <| cR <| ?_
  refine zT (v_eql rfl rfl rfl) rfl (fun h17 => ?_) (fun h17 => ?_)
  refine zA rfl <| zN <| cT rfl <| cR <| zF rfl fld_35_3 <| zL rfl one_23 rfl <| zK ck_134 rfl <| ?_
  intro w hS
  refine Calls.then (goodHop_c w a.hop) hS ?_
  refine zA rfl <| zN <| cE <| eB <| eR <| tR Tryz.results122 rfl <| ?_
  exact fun w' h => ⟨by unfold goodB; rw [if_neg (by omega), if_neg (by omega), if_pos (by omega)], h.frm⟩
  refine zA rfl <| zN <| cF rfl <| cR <| ?_
  refine zT (v_eql rfl rfl rfl) rfl (fun h22 => ?_) (fun h22 => ?_)
  refine zA rfl <| zN <| cT rfl <| cR <| zF rfl fld_35_4 <| zL rfl one_3 rfl <| zK ck_132 rfl <| ?_
  intro w hS
  refine Calls.then (AWithin_c w a.med 4294967295) hS ?_
  refine zA rfl <| zN <| cE <| eB <| eR <| tR Tryz.results122 rfl <| ?_
  exact fun w' h => ⟨by unfold goodB; rw [if_neg (by omega), if_neg (by omega), if_neg (by omega), if_pos (by omega)], h.frm⟩
  refine zA rfl <| zN <| cF rfl <| cR <| ?_
  refine zT (v_eql rfl rfl rfl) rfl (fun h27 => ?_) (fun h27 => ?_)
  refine zA rfl <| zN <| cT rfl <| cR <| zF rfl fld_35_5 <| zL rfl one_3 rfl <| zK ck_132 rfl <| ?_
  intro w hS
  refine Calls.then (AWithin_c w a.loc 4294967295) hS ?_
  refine zA rfl <| zN <| cE <| eB <| eR <| tR Tryz.results122 rfl <| ?_
  exact fun w' h => ⟨by unfold goodB; rw [if_neg (by omega), if_neg (by omega), if_neg (by omega), if_neg (by omega), if_pos (by omega)], h.frm⟩
  refine zA rfl <| zN <| cF rfl <| cR <| ?_
  refine zT (v_eql rfl rfl rfl) rfl (fun h32 => ?_) (fun h32 => ?_)
  refine zA rfl <| zN <| cT rfl <| cR <| zF rfl fld_35_6 <| zL rfl one_3 rfl <| zK ck_132 rfl <| ?_
  intro w hS
  refine Calls.then (AWithin_c w a.aas 65535) hS ?_
  refine zA rfl <| zN <| cE <| eB <| eR <| tR Tryz.results122 rfl <| ?_
  exact fun w' h => ⟨by unfold goodB; rw [if_neg (by omega), if_neg (by omega), if_neg (by omega), if_neg (by omega), if_neg (by omega), if_pos (by omega)], h.frm⟩
  refine zA rfl <| zN <| cF rfl <| cR <| ?_
  refine zT (v_eql rfl rfl rfl) rfl (fun h37 => ?_) (fun h37 => ?_)
  refine zA rfl <| zN <| cT rfl <| cR <| zF rfl fld_35_8 <| zL rfl one_32 rfl <| zK ck_135 rfl <| ?_
  intro w hS
  refine Calls.then (goodComms_c w a.cad a.cc a.comms (hA.2.2.frm (hS.rng fun _ h => h)) hI.2.2.2 hI.2.1) hS ?_
  refine zA rfl <| zN <| cE <| eB <| eR <| tR Tryz.results122 rfl <| ?_
  exact fun w' h => ⟨by unfold goodB; rw [if_neg (by omega), if_neg (by omega), if_neg (by omega), if_neg (by omega), if_neg (by omega), if_neg (by omega), if_pos (by omega)], h.frm⟩
  refine zA rfl <| zN <| cF rfl <| cK <| eY <| eN <| cR <| zA rfl <| zN <| cE <| tR Tryz.results122 rfl <| ?_
  exact fun w' h => ⟨by unfold goodB; rw [if_neg (by omega), if_neg (by omega), if_neg (by omega), if_neg (by omega), if_neg (by omega), if_neg (by omega), if_neg (by omega)], h.frm⟩
theorem good_c (w : World) (a : AtL) (k : Nat) (hA : a.At w) (hI : a.In) : Calls Tryz.prog 122 #[.agg a.cells.toArray, .int .i64 k] w fun e w' => e = .returned (.bool (goodB a k)) ∧ Frm (fun _ => False) w w' :=
  good_g w a k ⟨hA.path, hA.segs, hA.comms⟩ ⟨hI.segs, hI.comms, hI.lens.1, hI.lens.2.1⟩
theorem zero_c (w : World) (a : AtL) (k : Nat) : Calls Tryz.prog 123 #[.agg a.cells.toArray, .int .i64 k] w fun e w' => e = .returned (.bool (zeroB a k)) ∧ Frm (fun _ => False) w w' := by
  refine enter Tryz.func123 rfl Tryz.ntmps123 rfl (St.start (fun _ => False) w) ?_
  refine cR <| WL.box rfl rfl rfl (.none rfl) rfl rfl <| ?_
  intro g2 hg2
  refine zA rfl <| zN <| cS <| cR <| zM rfl <| zN <| cB <| cR <| ?_
  refine zT (v_eql rfl rfl rfl) rfl (fun h7 => ?_) (fun h7 => ?_)
  refine zA rfl <| zN <| cT rfl <| cR <| zF rfl fld_35_1 <| zL rfl one_3 rfl <| zV (v_eql rfl rfl rfl) rfl <| zA rfl <| zN <| cE <| eB <| eR <| tR Tryz.results123 rfl <| ?_
  exact fun w' h => ⟨by unfold zeroB; rw [if_pos (by omega)], h.frm⟩
  refine zA rfl <| zN <| cF rfl <| cR <| ?_
  refine zT (v_eql rfl rfl rfl) rfl (fun h12 => ?_) (fun h12 => ?_)
  refine zA rfl <| zN <| cT rfl <| cR <| zF rfl fld_35_2 <| zL rfl one_31 rfl <| zV (v_len_slice rfl rfl Tryz.underlying31) rfl <| zV (v_eql rfl rfl rfl) rfl <| zA rfl <| zN <| cE <| eB <| eR <| ?_
  refine tR Tryz.results123 rfl ?_
  exact fun w' h => ⟨by unfold zeroB; rw [if_neg (by omega), if_pos (by omega)], h.frm⟩
  refine zA rfl <| zN <| cF rfl <| cR <| ?_
  refine zT (v_eql rfl rfl rfl) rfl (fun h18 => ?_) (fun h18 => ?_)
  refine zA rfl <| zN <| cT rfl <| cR <| zF rfl fld_35_3 <| zL rfl one_23 rfl <| zV (v_eql rfl rfl rfl) rfl <| zA rfl <| zN <| cE <| eB <| eR <| tR Tryz.results123 rfl <| ?_
  exact fun w' h => ⟨by unfold zeroB; rw [if_neg (by omega), if_neg (by omega), if_pos (by omega)], h.frm⟩
  refine zA rfl <| zN <| cF rfl <| cR <| ?_
  refine zT (v_eql rfl rfl rfl) rfl (fun h23 => ?_) (fun h23 => ?_)
  refine zA rfl <| zN <| cT rfl <| cR <| zF rfl fld_35_4 <| zL rfl one_3 rfl <| zV (v_eql rfl rfl rfl) rfl <| zA rfl <| zN <| cE <| eB <| eR <| tR Tryz.results123 rfl <| ?_
  exact fun w' h => ⟨by unfold zeroB; rw [if_neg (by omega), if_neg (by omega), if_neg (by omega), if_pos (by omega)], h.frm⟩
  refine zA rfl <| zN <| cF rfl <| cR <| ?_
  refine zT (v_eql rfl rfl rfl) rfl (fun h28 => ?_) (fun h28 => ?_)
  refine zA rfl <| zN <| cT rfl <| cR <| zF rfl fld_35_5 <| zL rfl one_3 rfl <| zV (v_eql rfl rfl rfl) rfl <| zA rfl <| zN <| cE <| eB <| eR <| tR Tryz.results123 rfl <| ?_
  exact fun w' h => ⟨by unfold zeroB; rw [if_neg (by omega), if_neg (by omega), if_neg (by omega), if_neg (by omega), if_pos (by omega)], h.frm⟩
  refine zA rfl <| zN <| cF rfl <| cR <| ?_
  refine zT (v_eql rfl rfl rfl) rfl (fun h33 => ?_) (fun h33 => ?_)
  refine zA rfl <| zN <| cT rfl <| cR <| zF rfl fld_35_6 <| zL rfl one_3 rfl <| ?_
  refine zT (v_eql rfl rfl rfl) rfl (fun h36 => ?_) (fun h36 => ?_)
  refine zM rfl <| zS (v_fieldAddr0 rfl rfl fld_35_7) rfl <| zS (v_load1 rfl rfl one_23 (cellAt rfl)) rfl <| ?_
  refine WL.test (v_eql rfl rfl rfl) (.some rfl rfl rfl) rfl rfl (fun h40 => ?_) (fun h40 => ?_)
  refine zP rfl <| zA rfl <| zN <| cE <| eB <| eR <| tR Tryz.results123 rfl <| ?_
  exact fun w' h => ⟨by unfold zeroB; rw [if_neg (by omega), if_neg (by omega), if_neg (by omega), if_neg (by omega), if_neg (by omega), if_pos (by omega), decide_eq_true ⟨h36, h40⟩], h.frm⟩
  refine zP rfl <| zA rfl <| zN <| cE <| eB <| eR <| tR Tryz.results123 rfl <| ?_
  exact fun w' h => ⟨by unfold zeroB; rw [if_neg (by omega), if_neg (by omega), if_neg (by omega), if_neg (by omega), if_neg (by omega), if_pos (by omega), decide_eq_false (fun e => h40 e.2)], h.frm⟩
  refine zM rfl ?_
  iterate 3 refine WL.sk rfl ?_
  refine zQ rfl <| zA rfl <| zN <| cE <| eB <| eR <| tR Tryz.results123 rfl <| ?_
  exact fun w' h => ⟨by unfold zeroB; rw [if_neg (by omega), if_neg (by omega), if_neg (by omega), if_neg (by omega), if_neg (by omega), if_pos (by omega), decide_eq_false (fun e => h36 e.1)], h.frm⟩
  refine zA rfl <| zN <| cF rfl <| cR <| ?_
  refine zT (v_eql rfl rfl rfl) rfl (fun h43 => ?_) (fun h43 => ?_)
  refine zA rfl <| zN <| cT rfl <| cR <| zF rfl fld_35_8 <| zL rfl one_32 rfl <| zV (v_len_slice rfl rfl Tryz.underlying32) rfl <| zV (v_eql rfl rfl rfl) rfl <| zA rfl <| zN <| cE <| eB <| eR <| ?_
  refine tR Tryz.results123 rfl ?_
  exact fun w' h => ⟨by unfold zeroB; rw [if_neg (by omega), if_neg (by omega), if_neg (by omega), if_neg (by omega), if_neg (by omega), if_neg (by omega), if_pos (by omega)], h.frm⟩
  refine zA rfl <| zN <| cF rfl <| cK <| eY <| eN <| cR <| zA rfl <| zN <| cE <| tR Tryz.results123 rfl <| ?_
  exact fun w' h => ⟨by unfold zeroB; rw [if_neg (by omega), if_neg (by omega), if_neg (by omega), if_neg (by omega), if_neg (by omega), if_neg (by omega), if_neg (by omega)], h.frm⟩

def orN (x y : Int) : Int := ((x.toNat ||| y.toNat : Nat) : Int)
theorem nat_andNot {n a b : Nat} (ha : a < 2 ^ n) (hb : b < 2 ^ n) : (BitVec.ofNat n a &&& ~~~ BitVec.ofNat n b).toNat = a ^^^ (a &&& b) := by
  have e : BitVec.ofNat n a &&& ~~~ BitVec.ofNat n b = BitVec.ofNat n a ^^^ (BitVec.ofNat n a &&& BitVec.ofNat n b) := by
    apply BitVec.eq_of_getLsbD_eq
    intro i hi
    simp only [BitVec.getLsbD_and, BitVec.getLsbD_not, BitVec.getLsbD_xor, hi, decide_true, Bool.true_and]
    cases (BitVec.ofNat n a).getLsbD i <;> cases (BitVec.ofNat n b).getLsbD i <;> rfl
  have e2 : (BitVec.ofNat n a &&& BitVec.ofNat n b).toNat = a &&& b := by
    rw [BitVec.toNat_and, BitVec.toNat_ofNat, BitVec.toNat_ofNat, Nat.mod_eq_of_lt ha, Nat.mod_eq_of_lt hb]
  rw [e, BitVec.toNat_xor, e2, BitVec.toNat_ofNat, Nat.mod_eq_of_lt ha]
theorem xor_zero_iff {a b : Nat} : a ^^^ b = 0 ↔ a = b := by
  constructor
  · intro h
    apply Nat.eq_of_testBit_eq
    intro i
    have := congrArg (fun x => x.testBit i) h
    simp only [Nat.testBit_xor, Nat.zero_testBit] at this
    cases ha : a.testBit i <;> cases hb : b.testBit i <;> simp_all
  · rintro rfl; exact Nat.xor_self a
theorem bits_or_i64 {x y : Int} (hx : 0 ≤ x) (hx' : x ≤ 9223372036854775807) (hy : 0 ≤ y) (hy' : y ≤ 9223372036854775807) : bits .or .i64 x y = orN x y := by
  obtain ⟨a, rfl⟩ := Int.eq_ofNat_of_zero_le hx
  obtain ⟨b, rfl⟩ := Int.eq_ofNat_of_zero_le hy
  show IntKind.i64.wrap ((BitVec.ofInt 64 (a : Int) ||| BitVec.ofInt 64 (b : Int)).toNat : Int) = _
  rw [BitVec.ofInt_natCast, BitVec.ofInt_natCast, BitVec.toNat_or, BitVec.toNat_ofNat, BitVec.toNat_ofNat, Nat.mod_eq_of_lt (by omega), Nat.mod_eq_of_lt (by omega)]
  have : a ||| b < 2 ^ 63 := Nat.or_lt_two_pow (by omega) (by omega)
  exact w_i64 (by omega) (by omega)

theorem small_and : ∀ n : Nat, n < 511 → ((n ^^^ (n &&& 510)) = 0 ↔ n % 2 = 0) := by
  set_option maxRecDepth 4000 in decide
theorem andNot_known {x : Int} (hx : I64 x) : bits .andNot .i64 x 510 = 0 ↔ 0 ≤ x ∧ x ≤ 510 ∧ x % 2 = 0 := by
  have e : bits .andNot .i64 x 510 = IntKind.i64.wrap ((BitVec.ofInt 64 x &&& ~~~ BitVec.ofInt 64 510).toNat : Int) := rfl
  unfold I64 at hx
  have h0 : BitVec.ofInt 64 x = BitVec.ofNat 64 (x % 18446744073709551616).toNat := by
    apply BitVec.eq_of_toNat_eq
    rw [BitVec.toNat_ofInt, BitVec.toNat_ofNat]
    omega
  have e2 : (BitVec.ofInt 64 x &&& ~~~ BitVec.ofInt 64 510).toNat = (x % 18446744073709551616).toNat ^^^ ((x % 18446744073709551616).toNat &&& 510) := by
    rw [h0]
    exact nat_andNot (b := 510) (by omega) (by decide)
  have hlt : (BitVec.ofInt 64 x &&& ~~~ BitVec.ofInt 64 510).toNat < 2 ^ 64 := BitVec.isLt _
  rw [e, IntKind.wrap_i64]
  rw [e2] at hlt ⊢
  generalize hn : (x % 18446744073709551616).toNat = n at hlt ⊢
  have h1 : (n ^^^ (n &&& 510)) = 0 ↔ n ≤ 510 ∧ n % 2 = 0 := by
    constructor
    · intro h
      have h2 := xor_zero_iff.1 h
      have h3 : n ≤ 510 := by rw [h2]; exact Nat.and_le_right
      exact ⟨h3, (small_and n (by omega)).1 h⟩
    · rintro ⟨h3, h4⟩
      exact (small_and n (by omega)).2 h4
  constructor
  · intro h
    have := h1.1 (by omega)
    omega
  · rintro ⟨h2, h3, h4⟩
    have := h1.2 (by omega)
    omega
def knownB (has : Int) : Bool := decide (0 ≤ has ∧ has ≤ 510 ∧ has % 2 = 0)
def eachB (a : AtL) (k : Nat) : Bool := if hasB a.has k then goodB a k else zeroB a k
def ordB : Int → List OthL → Bool
  | _, [] => true
  | last, o :: os => decide (last < o.ty ∧ o.ty ≤ 255) && ordB o.ty os
def chkA (a : AtL) : Bool := knownB a.has && ((List.range' 1 8).all (eachB a)) && ordB 8 a.others
theorem IsT_c (w : World) (a : AtL) (k : Nat) (hk : k ≤ 60) (h : hasB a.has k = true) : Calls Tryz.prog 98 #[.agg a.cells.toArray, .int .i64 k] w fun e w' => e = .returned (.bool true) ∧ Frm (fun _ => False) w w' := by
  rw [← h]; exact Is_c w a k hk
theorem IsF_c (w : World) (a : AtL) (k : Nat) (hk : k ≤ 60) (h : hasB a.has k = false) : Calls Tryz.prog 98 #[.agg a.cells.toArray, .int .i64 k] w fun e w' => e = .returned (.bool false) ∧ Frm (fun _ => False) w w' := by
  rw [← h]; exact Is_c w a k hk
theorem chk_each {a : AtL} {k : Nat} (h1 : 1 ≤ k) (h2 : k ≤ 8) (h : eachB a k = false) : chkA a = false := by
  unfold chkA
  rw [not_all (xs := List.range' 1 8) (j := k - 1) (x := k) (by rw [List.getElem?_range' (by omega)]; congr 1; omega) h, Bool.and_false, Bool.false_and]
set_option maxHeartbeats 1000000 in
theorem ACheck_c (w : World) (a : AtL) (hA : a.At w) (hI : a.In) : Calls Tryz.prog 99 #[.agg a.cells.toArray] w fun e w' => e = .returned (.int .i64 (if chkA a then 0 else 1)) ∧ Frm (fun _ => False) w w' := by
  refine enter Tryz.func99 rfl Tryz.ntmps99 rfl (St.start (fun _ => False) w) ?_
  refine cR <| WL.box rfl rfl rfl (.none rfl) rfl rfl <| ?_
  intro g1 hg1
  refine zA rfl <| zN <| cS <| cR <| zF rfl fld_35_0 <| zL rfl one_3 rfl <| zV (v_andNot rfl rfl rfl (show _ = bits .andNot .i64 a.has 510 from rfl)) rfl <| ?_
  refine zT (v_neq rfl rfl rfl) rfl (fun h10 => ?_) (fun h10 => ?_)
  refine zN <| cT rfl <| cR <| zA rfl <| zN <| cE <| eR <| tR Tryz.results99 rfl <| ?_
  exact fun w' h => ⟨by
  have hk : knownB a.has = false := decide_eq_false fun h => h10 ((andNot_known hI.has).2 h)
  unfold chkA; rw [hk, Bool.false_and, Bool.false_and]; rfl, h.frm⟩
  refine zN <| cF rfl <| cK <| eN <| cS <| cR <| zA rfl <| zN <| cB <| ?_
  refine WC.loop (fun k : Nat => [(3, .int .i64 k), (1, .pointer (some ⟨g1, 0, none⟩))]) (fun _ => [.row g1 a.cells]) (fun k => 1 ≤ k ∧ k ≤ 9 ∧ ∀ j, 1 ≤ j → j < k → eachB a j = true) (fun k => 9 - k) 1 ⟨Nat.le_refl _, by omega, fun j h1 h2 => absurd h2 (by omega)⟩ (.cons rfl (.cons rfl .nil)) (.refl _) ?_
  rintro k ⟨hk1, hk9, hall⟩
  refine cS <| cR <| zM rfl <| ?_
  refine zT (v_leq rfl rfl rfl) rfl (fun h12 => ?_) (fun h12 => ?_)
  refine zN <| cT rfl <| cK <| eN <| cS <| cB <| cR <| zV (v_loadN rfl rfl many_35 rfl allAt) rfl <| zM rfl <| zK ck_98 rfl <| ?_
  intro w hS
  refine Calls.then (Is_c w a k (by omega)) hS ?_
  generalize hb : hasB a.has k = bb
  cases bb
  refine zM rfl ?_
  iterate 4 refine WL.sk rfl ?_
  refine zQ rfl <| zM rfl <| zS (v_loadN rfl rfl many_35 rfl allAt) rfl <| zS (v_move rfl rfl) rfl <| WL.call rfl rfl ck_98 (.some rfl rfl rfl) rfl rfl <| ?_
  intro w hS
  refine Calls.then (IsF_c w a k (by omega) hb) hS ?_
  refine zS (v_not rfl rfl rfl) rfl <| zS (v_move rfl rfl) rfl <| zS (v_loadN rfl rfl many_35 rfl allAt) rfl <| zS (v_move rfl rfl) rfl <| WL.call rfl rfl ck_123 (.some rfl rfl rfl) rfl rfl <| ?_
  intro w hS
  refine Calls.then (zero_c w a k) hS ?_
  generalize hz : zeroB a k = bz
  cases bz
  refine zS (v_not rfl rfl rfl) rfl <| zS (v_pick_t rfl rfl rfl) rfl <| zQ rfl <| zN <| cT rfl <| cR <| zA rfl <| zN <| cE <| eB <| eR <| eR <| eB <| ?_
  refine eR <| tR Tryz.results99 rfl <| ?_
  exact fun w' h => ⟨by rw [chk_each (k := k) (by omega) (by omega) (by unfold eachB; rw [hb]; exact hz)]; rfl, h.frm⟩
  refine zS (v_not rfl rfl rfl) rfl <| zS (v_pick_t rfl rfl rfl) rfl <| zQ rfl <| zN <| cF rfl <| cK <| eY <| eN <| WC.region <| zM rfl <| ?_
  refine zV (v_add rfl rfl rfl (w_i64 (by omega) (by omega))) rfl ?_
  refine zA rfl <| WL.nil <| ?_
  exact WE.next (k + 1) (by omega) ⟨by omega, by omega, fun j h1 h2 => by
  by_cases e : j = k
  · subst e; unfold eachB; rw [hb]; exact hz
  · exact hall j h1 (by omega)⟩ (.int rfl (by omega) (.cons rfl .nil)) (.refl _)
  refine zM rfl <| zS (v_loadN rfl rfl many_35 rfl allAt) rfl <| zS (v_move rfl rfl) rfl <| WL.call rfl rfl ck_122 (.some rfl rfl rfl) rfl rfl <| ?_
  intro w hS
  refine Calls.then (good_c w a k (hA.st hS) hI) hS ?_
  generalize hg : goodB a k = bg
  cases bg
  refine zS (v_not rfl rfl rfl) rfl <| zP rfl <| zM rfl <| ?_
  iterate 10 refine WL.sk rfl ?_
  refine zP rfl <| zN <| cT rfl <| cR <| zA rfl <| zN <| cE <| eB <| eR <| eR <| eB <| eR <| tR Tryz.results99 rfl <| ?_
  exact fun w' h => ⟨by rw [chk_each (k := k) (by omega) (by omega) (by unfold eachB; rw [hb]; exact hg)]; rfl, h.frm⟩
  refine zS (v_not rfl rfl rfl) rfl <| zP rfl <| zM rfl <| zS (v_loadN rfl rfl many_35 rfl allAt) rfl <| zS (v_move rfl rfl) rfl <| WL.call rfl rfl ck_98 (.some rfl rfl rfl) rfl rfl <| ?_
  intro w hS
  refine Calls.then (IsT_c w a k (by omega) hb) hS ?_
  refine zS (v_not rfl rfl rfl) rfl <| zS (v_move rfl rfl) rfl <| ?_
  iterate 4 refine WL.sk rfl ?_
  refine zS (v_pick_f rfl rfl rfl) rfl <| zQ rfl <| zN <| cF rfl <| cK <| eY <| eN <| WC.region <| zM rfl <| ?_
  refine zV (v_add rfl rfl rfl (w_i64 (by omega) (by omega))) rfl ?_
  refine zA rfl <| WL.nil <| ?_
  exact WE.next (k + 1) (by omega) ⟨by omega, by omega, fun j h1 h2 => by
  by_cases e : j = k
  · subst e; unfold eachB; rw [hb]; exact hg
  · exact hall j h1 (by omega)⟩ (.int rfl (by omega) (.cons rfl .nil)) (.refl _)
  refine zN <| cF rfl <| cX <| eX <| eX <| eH <| eN <| cR <| zA rfl <| zN <| cS <| cR <| ?_
  refine zF rfl fld_35_9 <| zL rfl one_33 rfl <| zV (v_len_slice rfl rfl Tryz.underlying33) rfl <| zM rfl <| zN <| cB <| WC.loop (fun x : Nat × Int => [(39, .int .i64 x.1), (38, .int .i64 a.others.length), (37, .slice a.oad a.others.length a.oc), (4, .int .i64 x.2)]) (fun _ => []) (fun x => x.1 ≤ a.others.length ∧ ordB 8 a.others = ordB x.2 (a.others.drop x.1)) (fun x => a.others.length - x.1) (0, 8) ⟨Nat.zero_le _, rfl⟩ (.cons rfl (.cons rfl (.cons rfl (.cons rfl .nil)))) (List.nil_sublist _) <| ?_
  rintro ⟨i, last⟩ ⟨hi, ho⟩
  dsimp only at hi ho
  dsimp only
  have hchk : chkA a = ordB 8 a.others := by
    have e1 : knownB a.has = true := decide_eq_true ((andNot_known hI.has).1 (Decidable.not_not.1 h10))
    have e2 : (List.range' 1 8).all (eachB a) = true := List.all_eq_true.2 fun x hx => by
      have := List.mem_range'_1.1 hx
      exact hall x (by omega) (by omega)
    unfold chkA; rw [e1, e2]; rfl
  rw [ho] at hchk
  refine cR ?_
  refine zT (v_lss rfl rfl rfl) rfl (fun h40 => ?_) (fun h40 => ?_)
  refine zN <| cS <| cT rfl <| cK <| eN <| cS <| cB <| cR <| ?_
  obtain ⟨o, hs⟩ : ∃ o, a.others[i]? = some o := ⟨a.others[i]'(by omega), List.getElem?_eq_getElem _⟩
  obtain ⟨b, off, ea, hr⟩ := hA.oths i o hs
  have hdr : a.others.drop i = o :: a.others.drop (i + 1) := by
    obtain ⟨hlt, e⟩ := List.getElem?_eq_some_iff.1 hs
    rw [← e]; exact List.drop_eq_getElem_cons hlt
  have hlen := hI.lens.2.2
  refine zV ((v_indexAddr (b := b) (off := off) (lo := i) rfl (by show some (Value.slice a.oad _ _) = _; rw [ea]) rfl Tryz.underlying33 sz_181 rfl (by omega))) rfl ?_
  refine zV ((v_loadN (cs := o.cells) rfl rfl many_181 rfl (rgIn (fun h => h) hr))) rfl <| WL.alloc rfl zero_181 (.none rfl) rfl rfl <| ?_
  intro g6 hg6
  refine zW many_181 rfl rfl <| zN <| cS <| cR <| zF rfl fld_181_0 <| zL rfl one_3 rfl <| zM rfl <| ?_
  refine zT (v_leq rfl rfl rfl) rfl (fun h46 => ?_) (fun h46 => ?_)
  refine zM rfl ?_
  iterate 3 refine WL.sk rfl ?_
  refine zP rfl <| zN <| cT rfl <| cR <| zA rfl <| zN <| cE <| eR <| eB <| eR <| eR <| eB <| eR <| ?_
  refine tR Tryz.results99 rfl ?_
  exact fun w' h => ⟨by
  rw [hchk, hdr]
  show _ = Ending.returned (.int .i64 (if (decide _ && ordB o.ty _) = true then 0 else 1))
  rw [decide_eq_false (by omega), Bool.false_and]; rfl, h.frm⟩
  refine zM rfl <| zS (v_fieldAddr0 rfl rfl fld_181_0) rfl <| zS (v_load1 rfl rfl one_3 (cellAt rfl)) rfl <| ?_
  refine WL.test (v_gtr rfl rfl rfl) (.some rfl rfl rfl) rfl rfl (fun h50 => ?_) (fun h50 => ?_)
  refine zQ rfl <| zN <| cT rfl <| cR <| zA rfl <| zN <| cE <| eR <| eB <| eR <| eR <| eB <| eR <| ?_
  refine tR Tryz.results99 rfl ?_
  exact fun w' h => ⟨by
  rw [hchk, hdr]
  show _ = Ending.returned (.int .i64 (if (decide _ && ordB o.ty _) = true then 0 else 1))
  rw [decide_eq_false (by omega), Bool.false_and]; rfl, h.frm⟩
  refine zQ rfl <| zN <| cF rfl <| cK <| eN <| WC.region <| zF rfl fld_181_0 <| zL rfl one_3 rfl <| zA rfl <| WL.nil <| eY <| eN <| WC.region <| ?_
  refine zV (v_add rfl rfl rfl (w_i64 (by omega) (by omega))) rfl ?_
  refine zM rfl <| WL.nil <| ?_
  exact WE.next (i + 1, o.ty) (by dsimp only; omega) ⟨by dsimp only; omega, by
  dsimp only
  rw [ho, hdr]
  show (decide _ && ordB o.ty _) = _
  rw [decide_eq_true ⟨by omega, by omega⟩, Bool.true_and]⟩ (.int rfl (by dsimp only; omega) (.cons rfl (.cons rfl (.cons rfl .nil)))) (List.nil_sublist _)
  refine zN <| cS <| cF rfl <| cX <| eX <| eX <| eH <| eN <| cR <| zA rfl <| zN <| cE <| tR Tryz.results99 rfl <| ?_
  exact fun w' h => ⟨by
  obtain rfl : i = a.others.length := (by omega)
  rw [hchk, List.drop_length]; rfl, h.frm⟩
def missI (has : Int) : Int := if hasB has 1 then if hasB has 2 then if hasB has 3 then 0 else 3 else 2 else 1
theorem Missing_c (w : World) (a : AtL) : Calls Tryz.prog 76 #[.agg a.cells.toArray] w fun e w' => e = .returned (.int .i64 (missI a.has)) ∧ Frm (fun _ => False) w w' := by
  refine enter Tryz.func76 rfl Tryz.ntmps76 rfl (St.start (fun _ => False) w) ?_
  refine cR <| WL.box rfl rfl rfl (.none rfl) rfl rfl <| ?_
  intro g1 hg1
  refine zA rfl <| zN <| cS <| cR <| zA rfl <| zN <| cB <| ?_
  refine WC.loop (fun k : Nat => [(3, .int .i64 k), (1, .pointer (some ⟨g1, 0, none⟩))]) (fun _ => [.row g1 a.cells]) (fun k => 1 ≤ k ∧ k ≤ 4 ∧ ∀ j, 1 ≤ j → j < k → hasB a.has j = true) (fun k => 4 - k) 1 ⟨Nat.le_refl _, by omega, fun j h1 h2 => absurd h2 (by omega)⟩ (.cons rfl (.cons rfl .nil)) (.refl _) ?_
  rintro k ⟨hk1, hk9, hall⟩
  refine cS <| cR <| zM rfl <| ?_
  refine zT (v_leq rfl rfl rfl) rfl (fun h5 => ?_) (fun h5 => ?_)
  refine zN <| cT rfl <| cK <| eN <| cS <| cB <| cR <| zV (v_loadN rfl rfl many_35 rfl allAt) rfl <| zM rfl <| zK ck_98 rfl <| ?_
  intro w hS
  refine Calls.then (Is_c w a k (by omega)) hS ?_
  generalize hb : hasB a.has k = bb
  cases bb
  refine zV (v_not rfl rfl rfl) rfl <| zN <| cT rfl <| cR <| zM rfl <| zA rfl <| zN <| cE <| eB <| eR <| eR <| eB <| eR <| ?_
  refine tR Tryz.results76 rfl ?_
  exact fun w' h => ⟨by
  unfold missI
  have : k = 1 ∨ k = 2 ∨ k = 3 := by omega
  rcases this with rfl | rfl | rfl
  · rw [hb]; rfl
  · rw [hall 1 (by omega) (by omega), hb]; rfl
  · rw [hall 1 (by omega) (by omega), hall 2 (by omega) (by omega), hb]; rfl, h.frm⟩
  refine zV (v_not rfl rfl rfl) rfl <| zN <| cF rfl <| cK <| eY <| eN <| WC.region <| zM rfl <| ?_
  refine zV (v_add rfl rfl rfl (w_i64 (by omega) (by omega))) rfl ?_
  refine zA rfl <| WL.nil <| ?_
  exact WE.next (k + 1) (by omega) ⟨by omega, by omega, fun j h1 h2 => by
  by_cases e : j = k
  · subst e; exact hb
  · exact hall j h1 (by omega)⟩ (.int rfl (by omega) (.cons rfl .nil)) (.refl _)
  refine zN <| cF rfl <| cX <| eX <| eX <| eH <| eN <| cR <| zA rfl <| zN <| cE <| tR Tryz.results76 rfl <| ?_
  exact fun w' h => ⟨by unfold missI; rw [hall 1 (by omega) (by omega), hall 2 (by omega) (by omega), hall 3 (by omega) (by omega)]; rfl, h.frm⟩

def numB (n : Int) : Nat → List Int
  | 0 => []
  | s + 1 => n / 2 ^ (8 * s) % 256 :: numB n s
theorem numB_len (n : Int) (s : Nat) : (numB n s).length = s := by induction s with | zero => rfl | succ s ih => simp [numB, ih]
theorem numB_bys (n : Int) (s : Nat) : Bys (numB n s) := by
  induction s with
  | zero => exact Bys.nil
  | succ s ih =>
    intro x hx
    rcases List.mem_cons.1 hx with rfl | hx
    · omega
    · exact ih x hx
set_option maxHeartbeats 1000000 in
theorem num_c (p : Nat → Prop) (w0 w1 : World) (L E : List Ent) (ad : Option Addr) (k c : Nat) (xs : List Int) (n : Int) (s : Nat) (hV : Vec 1 ad k c (u8s xs) E) (hS0 : St p w0 w1 (E ++ L)) (hk : k ≤ 4000000) (hs : s ≤ 4) :
    Calls Tryz.prog 124 #[.slice ad k c, .int .i64 n, .int .i64 s] w1 fun e w' => ∃ ad' c' E', e = .returned (.slice ad' (k + s) c') ∧ Vec 1 ad' (k + s) c' (u8s (xs ++ numB n s)) E' ∧ St p w0 w' (E' ++ L) := by
  refine enter Tryz.func124 rfl Tryz.ntmps124 rfl hS0 ?_
  refine cR <| zA rfl <| zN <| cS <| cR <| zM rfl <| ?_
  refine zV (v_sub rfl rfl rfl (w_i64 (by omega) (by omega))) rfl ?_
  refine zA rfl <| zN <| cB <| ?_
  refine WC.loop (fun x : Nat × List Int × Option Addr × Nat × List Ent => [(2, .int .i64 ((x.1 : Int) - 1)), (1, .int .i64 n), (0, .slice x.2.2.1 (k + (s - x.1)) x.2.2.2.1)]) (fun x => x.2.2.2.2 ++ L) (fun x => x.1 ≤ s ∧ x.2.1 ++ numB n x.1 = xs ++ numB n s ∧ Vec 1 x.2.2.1 (k + (s - x.1)) x.2.2.2.1 (u8s x.2.1) x.2.2.2.2) (fun x => x.1) (s, xs, ad, c, E) ⟨Nat.le_refl _, rfl, by dsimp only; rw [Nat.sub_self]; exact hV⟩ (.cons rfl (.cons rfl (.eq rfl (by dsimp only; rw [Nat.sub_self]; rfl) .nil))) (.refl _) ?_
  rintro ⟨t, ys, ad2, c2, E2⟩ ⟨ht, hy, hV2⟩
  dsimp only at ht hy hV2
  dsimp only
  refine cS <| cR <| zM rfl <| ?_
  refine zT (v_geq rfl rfl rfl) rfl (fun h10 => ?_) (fun h10 => ?_)
  refine zN <| cT rfl <| cK <| eN <| cS <| cB <| WC.region <| zM rfl <| zM rfl <| ?_
  obtain ⟨u, rfl⟩ : ∃ u, t = u + 1 := ⟨t - 1, by omega⟩
  refine zM rfl ?_
  refine zV (v_mul rfl rfl rfl (show _ = ((8 * u : Nat) : Int) from (w_i64 (by omega) (by omega)).trans (by omega))) rfl ?_
  refine zV ((v_shr (m := 8 * u) (c := (2 : Int) ^ (8 * u)) rfl rfl rfl rfl (by show 8 * u ≤ 64; omega) rfl)) rfl ?_
  refine zV (v_conv rfl rfl Tryz.underlying5 Tryz.underlying3 (w_u8m _)) rfl <| zB Tryz.underlying25 sz_5 zero_5 rfl rfl <| ?_
  intro g19 hg19
  refine WL.as (L' := .row g19 (u8s [n / 2 ^ (8 * u) % 256]) :: (E2 ++ L)) rfl <| WL.to (L' := E2 ++ (.row g19 (u8s [n / 2 ^ (8 * u) % 256]) :: L)) (fun w hS => hS.front [_]) <| ?_
  refine WL.appendL rfl rfl rfl Tryz.underlying25 Tryz.underlying25 sz_5 by_5 zero_5 rfl rfl hV2 (new := u8s [n / 2 ^ (8 * u) % 256]) (fun _ => ⟨g19, 0, rfl, fun w hS => allAt (g := g19) w hS⟩) rfl (u8s_one _) (by omega) (.none rfl) rfl rfl ?_
  intro ad20 c20 E20 hV20 hr20
  refine zA rfl <| WL.nil <| eY <| eN <| WC.region <| zM rfl <| ?_
  refine zV (v_sub rfl rfl rfl (w_i64 (by omega) (by omega))) rfl ?_
  refine zA rfl <| WL.nil <| ?_
  exact WE.next (u, ys ++ [n / 2 ^ (8 * u) % 256], ad20, c20, E20) (by dsimp only; omega) ⟨by dsimp only; omega, by dsimp only; rw [← hy, List.append_assoc]; rfl, by dsimp only; rw [u8s_app, show k + (s - u) = k + (s - (u + 1)) + 1 by omega]; exact hV20⟩ (.int rfl (by dsimp only; omega) (.cons rfl (.eq rfl (by dsimp only; rw [show k + (s - u) = k + (s - (u + 1)) + 1 by omega]) .nil))) (List.Sublist.append_left (.cons _ (.refl _)) _)
  refine zN <| cF rfl <| cX <| eX <| eX <| eH <| eN <| cR <| zM rfl <| zA rfl <| zN <| cE <| tR Tryz.results124 rfl <| ?_
  obtain rfl : t = 0 := (by omega)
  rw [show numB n 0 = [] from rfl, List.append_nil] at hy
  rw [Nat.sub_zero] at hV2
  rw [Nat.sub_zero]
  exact fun w' h => ⟨ad2, c2, E2, rfl, by rw [← hy]; exact hV2, h⟩

abbrev BV (ad : Option Addr) (c : Nat) (xs : List Int) (E : List Ent) : Prop := Vec 1 ad xs.length c (u8s xs) E
def OwnB (w w' : World) (xs : List Int) (v : Value) : Prop := ∃ ad c E, v = .slice ad xs.length c ∧ BV ad c xs E ∧ St (fun _ => False) w w' E
theorem Vec.toB {ad : Option Addr} {k c : Nat} {xs : List Int} {E : List Ent} (h : Vec 1 ad k c (u8s xs) E) : k = xs.length := by
  have := h.len.1
  rw [u8s_len] at this
  omega
theorem num_n (p : Nat → Prop) (w0 w1 : World) (L E : List Ent) (ad : Option Addr) (c : Nat) (xs : List Int) (n : Int) (s : Nat) (hV : BV ad c xs E) (hS0 : St p w0 w1 (E ++ L)) (hk : xs.length ≤ 4000000) (hs : s ≤ 4) :
    Calls Tryz.prog 124 #[.slice ad xs.length c, .int .i64 n, .int .i64 s] w1 fun e w' => ∃ ad' c' E', e = .returned (.slice ad' (xs ++ numB n s).length c') ∧ BV ad' c' (xs ++ numB n s) E' ∧ St p w0 w' (E' ++ L) :=
  (num_c p w0 w1 L E ad _ c xs n s hV hS0 hk hs).mono (by
    rintro e w' ⟨ad', c', E', rfl, hV', hS'⟩
    have := hV'.toB
    rw [this] at hV' ⊢
    exact ⟨ad', c', E', rfl, hV', hS'⟩)
def segE (s : SegL) : List Int := numB (if s.set then 1 else 2) 1 ++ numB s.asl.length 1 ++ s.asl.flatMap fun x => numB x 2
def valE (a : AtL) (t : Nat) : List Int :=
  if t = 1 then numB a.origin 1 else if t = 2 then a.path.flatMap segE else if t = 3 then numB a.hop 4 else if t = 4 then numB a.med 4
  else if t = 5 then numB a.loc 4 else if t = 7 then numB a.aas 2 ++ numB a.aid 4 else if t = 8 then a.comms.flatMap fun x => numB x 4 else []
theorem drop_cons' {α : Type} {xs : List α} {k : Nat} {x : α} (h : xs[k]? = some x) : xs.drop k = x :: xs.drop (k + 1) := by
  obtain ⟨hlt, e⟩ := List.getElem?_eq_some_iff.1 h
  rw [← e]; exact List.drop_eq_getElem_cons hlt
theorem OwnB.of {w w' : World} {ad : Option Addr} {c : Nat} {xs ys : List Int} {E L : List Ent} (hV : BV ad c xs E) (h : St (fun _ => False) w w' (E ++ L)) (e : xs = ys) : OwnB w w' ys (.slice ad xs.length c) := by
  subst e; exact ⟨ad, c, E, rfl, hV, h.sub (List.sublist_append_left _ _)⟩
theorem flat_len2 (xs : List Int) (m : Nat) : (xs.flatMap fun x => numB x m).length = m * xs.length := by
  induction xs with
  | nil => rfl
  | cons x xs ih => rw [List.flatMap_cons, List.length_append, ih, numB_len, List.length_cons, Nat.mul_succ]; omega
theorem segE_len (s : SegL) : (segE s).length = 2 + 2 * s.asl.length := by
  unfold segE
  rw [List.length_append, List.length_append, numB_len, numB_len, flat_len2]
set_option maxHeartbeats 4000000 in
theorem value_c (w : World) (a : AtL) (t : Nat) (hA : a.At w) (hI : a.In) (hB : (valE a t).length ≤ 3600000) :
    Calls Tryz.prog 101 #[.agg a.cells.toArray, .int .i64 t] w fun e w' => ∃ v, e = .returned v ∧ OwnB w w' (valE a t) v := by
  refine enter Tryz.func101 rfl Tryz.ntmps101 rfl (St.start (fun _ => False) w) ?_
  refine cR <| WL.box rfl rfl rfl (.none rfl) rfl rfl <| ?_
  intro g2 hg2
  refine zA rfl <| zR <| zA rfl <| zN <| cS <| cR <| zM rfl <| zN <| cB <| cR <| ?_
  refine zT (v_eql rfl rfl rfl) rfl (fun h15 => ?_) (fun h15 => ?_)
  refine zA rfl <| zN <| cT rfl <| WC.region <| zM rfl <| zF rfl fld_35_1 <| zL rfl one_3 rfl <| zK ck_124 rfl <| ?_
  intro w1 hS
  refine (num_n (fun _ => False) w w1 _ [] none 0 [] a.origin 1 (Vec.nil 1) hS (by decide) (by decide)).mono ?_
  rintro e w' ⟨ad19, c19, E19, rfl, hV19, hS'⟩
  refine ⟨_, _, rfl, hS', ?_⟩
  refine zA rfl <| WL.nil <| eY <| eN <| cR <| zM rfl <| zA rfl <| zN <| cE <| tR Tryz.results101 rfl <| ?_
  exact fun w' h => ⟨_, rfl, OwnB.of hV19 h (by unfold valE; rw [if_pos (by omega)]; rfl)⟩
  refine zA rfl <| zN <| cF rfl <| cR <| ?_
  refine zT (v_eql rfl rfl rfl) rfl (fun h21 => ?_) (fun h21 => ?_)
  refine zA rfl <| zN <| cT rfl <| cR <| ?_
  have e0 : valE a t = a.path.flatMap segE := (by unfold valE; rw [if_neg (by omega), if_pos (by omega)])
  rw [e0] at hB ⊢
  refine zF rfl fld_35_2 <| zL rfl one_31 rfl <| zV (v_len_slice rfl rfl Tryz.underlying31) rfl <| zM rfl <| zN <| cB <| WC.loop (fun x : Nat × List Int × Option Addr × Nat × List Ent => [(25, .int .i64 x.1), (24, .int .i64 a.path.length), (23, .slice a.pad a.path.length a.pc), (5, .slice x.2.2.1 x.2.1.length x.2.2.2.1)]) (fun x => x.2.2.2.2 ++ []) (fun x => x.1 ≤ a.path.length ∧ x.2.1 ++ (a.path.drop x.1).flatMap segE = a.path.flatMap segE ∧ BV x.2.2.1 x.2.2.2.1 x.2.1 x.2.2.2.2) (fun x => a.path.length - x.1) (0, [], none, 0, []) ⟨Nat.zero_le _, rfl, Vec.nil 1⟩ (.cons rfl (.cons rfl (.cons rfl (.cons rfl .nil)))) (List.nil_sublist _) <| ?_
  rintro ⟨k, ys, ad, c, E⟩ ⟨hk, hy, hV⟩
  dsimp only at hk hy hV
  dsimp only
  have hlenP := hI.lens.1
  refine cR ?_
  refine zT (v_lss rfl rfl rfl) rfl (fun h26 => ?_) (fun h26 => ?_)
  refine zN <| cS <| cT rfl <| cK <| eN <| cS <| cB <| cR <| ?_
  obtain ⟨s, hs⟩ : ∃ s, a.path[k]? = some s := ⟨a.path[k]'(by omega), List.getElem?_eq_getElem _⟩
  obtain ⟨b, o, ea, hr⟩ := hA.path k s hs
  have hsm := List.mem_of_getElem? hs
  have hsI := hI.segs s hsm
  rw [drop_cons' hs, List.flatMap_cons] at hy
  have hyl : ys.length + 2 + 2 * s.asl.length ≤ 3600000 := (by
    rw [← hy, List.length_append, List.length_append, segE_len] at hB
    omega)
  refine zV ((v_indexAddr (b := b) (off := o) (lo := k) rfl (by show some (Value.slice a.pad _ _) = _; rw [ea]) rfl Tryz.underlying31 sz_207 rfl (by omega))) rfl ?_
  refine zV ((v_loadN (cs := s.cells) rfl rfl many_207 rfl (rgIn (fun h => h) hr))) rfl <| WL.alloc rfl zero_207 (.none rfl) rfl rfl <| ?_
  intro g7 hg7
  refine zW many_207 rfl rfl <| WL.to (L' := E ++ [.row g7 s.cells]) (fun w hS => hS.front [_]) <| zR <| zA rfl <| zN <| cS <| cR <| zF rfl fld_207_0 <| zL rfl one_4 rfl <| ?_
  generalize hset : s.set = b30
  cases b30
  refine zN <| cF rfl <| cK <| eN <| ?_
  refine WC.cut (fun x : List Int × Option Addr × Nat × List Ent => [(5, .slice x.2.1 x.1.length x.2.2.1), (25, .int .i64 k), (24, .int .i64 a.path.length), (23, .slice a.pad a.path.length a.pc), (7, .pointer (some ⟨g7, 0, none⟩))]) (fun x => x.2.2.2 ++ [.row g7 s.cells]) (fun x => x.1 = ys ++ numB (if s.set then 1 else 2) 1 ++ numB s.asl.length 1 ∧ BV x.2.1 x.2.2.1 x.1 x.2.2.2) ?_ ?_
  refine WC.orders mixed <| rF 5 [0, 1, 3] <| pV (v_move rfl rfl) rfl <| pV (v_move rfl rfl) rfl <| pV (v_fieldAddr0 rfl rfl fld_207_1) rfl <| WP.nil <| ?_
  refine WR.each (g := 4) [2, 4] (by kernel_rfl) (by decide) ?_
  refine ⟨?_, ?_⟩
  refine zK ck_124 rfl ?_
  intro w1 hS
  refine (num_n (fun _ => False) w w1 _ _ _ _ _ 2 1 hV hS (by first | omega | decide) (by omega)).mono ?_
  rintro e w' ⟨ad33, c33, E33, rfl, hV33, hS'⟩
  refine ⟨_, _, rfl, hS', ?_⟩
  refine zH <| rA 2 [4, 5] rfl <| qV (v_load1 rfl rfl one_32 (cellAt rfl)) rfl <| qV (v_len_slice rfl rfl Tryz.underlying32) rfl <| WQ.nilR <| rO 1 [6] <| zK ck_124 rfl <| ?_
  intro w1 hS
  refine (num_n (fun _ => False) w w1 _ _ _ _ _ s.asl.length 1 hV33 hS (by rw [List.length_append, numB_len]; omega) (by omega)).mono ?_
  rintro e w' ⟨ad37, c37, E37, rfl, hV37, hS'⟩
  refine ⟨_, _, rfl, hS', ?_⟩
  refine zH <| rF 0 [7] <| pV (v_assign rfl rfl) rfl <| WP.nil <| rD <| ?_
  exact WE.mid (_, ad37, c37, E37) ⟨by dsimp only; rw [hset]; rfl, hV37⟩ (.cons rfl (.cons rfl (.cons rfl (.cons rfl (.cons rfl .nil))))) (.refl _)
  refine zL rfl one_32 rfl <| zH <| rF 3 [5] <| pV (v_len_slice rfl rfl Tryz.underlying32) rfl <| WP.nil <| rO 1 [2, 6] <| zK ck_124 rfl <| ?_
  intro w1 hS
  refine (num_n (fun _ => False) w w1 _ _ _ _ _ 2 1 hV hS (by first | omega | decide) (by omega)).mono ?_
  rintro e w' ⟨ad33, c33, E33, rfl, hV33, hS'⟩
  refine ⟨_, _, rfl, hS', ?_⟩
  refine zK ck_124 rfl ?_
  intro w1 hS
  refine (num_n (fun _ => False) w w1 _ _ _ _ _ s.asl.length 1 hV33 hS (by rw [List.length_append, numB_len]; omega) (by omega)).mono ?_
  rintro e w' ⟨ad37, c37, E37, rfl, hV37, hS'⟩
  refine ⟨_, _, rfl, hS', ?_⟩
  refine zH <| rF 0 [7] <| pV (v_assign rfl rfl) rfl <| WP.nil <| rD <| ?_
  exact WE.mid (_, ad37, c37, E37) ⟨by dsimp only; rw [hset]; rfl, hV37⟩ (.cons rfl (.cons rfl (.cons rfl (.cons rfl (.cons rfl .nil))))) (.refl _)
  rintro ⟨zs, ad2, c2, E2⟩ ⟨hz, hV2⟩
  dsimp only at hz hV2
  dsimp only
  refine cR <| zF rfl fld_207_1 <| zL rfl one_32 rfl <| zV (v_len_slice rfl rfl Tryz.underlying32) rfl <| zM rfl <| zN <| cB <| ?_
  refine WC.loop (fun x : Nat × List Int × Option Addr × Nat × List Ent => [(41, .int .i64 x.1), (40, .int .i64 s.asl.length), (39, .slice s.ad s.asl.length s.cap), (5, .slice x.2.2.1 x.2.1.length x.2.2.2.1), (25, .int .i64 k), (24, .int .i64 a.path.length), (23, .slice a.pad a.path.length a.pc)]) (fun x => x.2.2.2.2 ++ []) (fun x => x.1 ≤ s.asl.length ∧ x.2.1.length = ys.length + 2 + 2 * x.1 ∧ x.2.1 ++ (s.asl.drop x.1).flatMap (fun y => numB y 2) = ys ++ segE s ∧ BV x.2.2.1 x.2.2.2.1 x.2.1 x.2.2.2.2) (fun x => s.asl.length - x.1) (0, zs, ad2, c2, E2) ⟨Nat.zero_le _, by dsimp only; rw [hz, List.length_append, List.length_append, numB_len, numB_len], by dsimp only; rw [hz, List.append_assoc, List.append_assoc]; rfl, hV2⟩ (.cons rfl (.cons rfl (.cons rfl (.cons rfl (.cons rfl (.cons rfl (.cons rfl .nil))))))) (List.Sublist.append_left (List.nil_sublist _) _) ?_
  rintro ⟨i, us, ad3, c3, E3⟩ ⟨hi, hul, hu, hV3⟩
  dsimp only at hi hul hu hV3
  dsimp only
  refine cR ?_
  refine zT (v_lss rfl rfl rfl) rfl (fun h42 => ?_) (fun h42 => ?_)
  refine zN <| cS <| cT rfl <| cK <| eN <| cS <| cB <| cR <| ?_
  obtain ⟨x, hx⟩ : ∃ x, s.asl[i]? = some x := ⟨s.asl[i]'(by omega), List.getElem?_eq_getElem _⟩
  obtain ⟨b2, o2, ea2, hr2⟩ := hA.segs s hsm (by rw [i64s_len]; omega)
  rw [drop_cons' hx, List.flatMap_cons] at hu
  refine zV ((v_indexAddr (b := b2) (off := o2) (lo := i) rfl (by show some (Value.slice s.ad _ _) = _; rw [ea2]) rfl Tryz.underlying32 sz_3 rfl (by omega))) rfl ?_
  refine zV (v_load1 rfl rfl one_3 (cellOld (v := .int .i64 x) (fun h => h) (by rw [Nat.mul_one]; exact hr2 i _ (i64s_get hx)))) rfl ?_
  refine zA rfl <| zN <| WC.region <| zM rfl <| zM rfl <| zK ck_124 rfl <| ?_
  intro w1 hS
  refine (num_n (fun _ => False) w w1 _ _ _ _ _ x 2 hV3 hS (by first | omega | decide) (by omega)).mono ?_
  rintro e w' ⟨ad47, c47, E47, rfl, hV47, hS'⟩
  refine ⟨_, _, rfl, hS', ?_⟩
  refine zA rfl <| WL.nil <| eY <| eN <| WC.region <| ?_
  refine zV (v_add rfl rfl rfl (w_i64 (by omega) (by omega))) rfl ?_
  refine zM rfl <| WL.nil <| ?_
  exact WE.next (i + 1, us ++ numB x 2, ad47, c47, E47) (by dsimp only; omega) ⟨by dsimp only; omega, by dsimp only; rw [List.length_append, numB_len]; omega, by dsimp only; rw [List.append_assoc]; exact hu, hV47⟩ (.int rfl (by dsimp only; omega) (.cons rfl (.cons rfl (.cons rfl (.cons rfl (.cons rfl (.cons rfl .nil))))))) (.refl _)
  refine zN <| cS <| cF rfl <| cX <| eX <| eX <| eH <| eY <| eN <| WC.region <| ?_
  obtain rfl : i = s.asl.length := (by omega)
  rw [List.drop_length, List.flatMap_nil, List.append_nil] at hu
  refine zV (v_add rfl rfl rfl (w_i64 (by omega) (by omega))) rfl ?_
  refine zM rfl <| WL.nil <| ?_
  exact WE.next (k + 1, us, ad3, c3, E3) (by dsimp only; omega) ⟨by dsimp only; omega, by dsimp only; rw [hu, List.append_assoc]; exact hy, hV3⟩ (.int rfl (by dsimp only; omega) (.cons rfl (.cons rfl (.cons rfl .nil)))) (.refl _)
  refine zN <| cT rfl <| WC.region <| zA rfl <| zN <| ?_
  refine WC.cut (fun x : List Int × Option Addr × Nat × List Ent => [(5, .slice x.2.1 x.1.length x.2.2.1), (25, .int .i64 k), (24, .int .i64 a.path.length), (23, .slice a.pad a.path.length a.pc), (7, .pointer (some ⟨g7, 0, none⟩))]) (fun x => x.2.2.2 ++ [.row g7 s.cells]) (fun x => x.1 = ys ++ numB (if s.set then 1 else 2) 1 ++ numB s.asl.length 1 ∧ BV x.2.1 x.2.2.1 x.1 x.2.2.2) ?_ ?_
  refine WC.orders mixed <| rF 5 [0, 1, 3] <| pV (v_move rfl rfl) rfl <| pV (v_move rfl rfl) rfl <| pV (v_fieldAddr0 rfl rfl fld_207_1) rfl <| WP.nil <| ?_
  refine WR.each (g := 4) [2, 4] (by kernel_rfl) (by decide) ?_
  refine ⟨?_, ?_⟩
  refine zK ck_124 rfl ?_
  intro w1 hS
  refine (num_n (fun _ => False) w w1 _ _ _ _ _ 1 1 hV hS (by first | omega | decide) (by omega)).mono ?_
  rintro e w' ⟨ad33, c33, E33, rfl, hV33, hS'⟩
  refine ⟨_, _, rfl, hS', ?_⟩
  refine zH <| rA 2 [4, 5] rfl <| qV (v_load1 rfl rfl one_32 (cellAt rfl)) rfl <| qV (v_len_slice rfl rfl Tryz.underlying32) rfl <| WQ.nilR <| rO 1 [6] <| zK ck_124 rfl <| ?_
  intro w1 hS
  refine (num_n (fun _ => False) w w1 _ _ _ _ _ s.asl.length 1 hV33 hS (by rw [List.length_append, numB_len]; omega) (by omega)).mono ?_
  rintro e w' ⟨ad37, c37, E37, rfl, hV37, hS'⟩
  refine ⟨_, _, rfl, hS', ?_⟩
  refine zH <| rF 0 [7] <| pV (v_assign rfl rfl) rfl <| WP.nil <| rD <| ?_
  exact WE.mid (_, ad37, c37, E37) ⟨by dsimp only; rw [hset]; rfl, hV37⟩ (.cons rfl (.cons rfl (.cons rfl (.cons rfl (.cons rfl .nil))))) (.refl _)
  refine zL rfl one_32 rfl <| zH <| rF 3 [5] <| pV (v_len_slice rfl rfl Tryz.underlying32) rfl <| WP.nil <| rO 1 [2, 6] <| zK ck_124 rfl <| ?_
  intro w1 hS
  refine (num_n (fun _ => False) w w1 _ _ _ _ _ 1 1 hV hS (by first | omega | decide) (by omega)).mono ?_
  rintro e w' ⟨ad33, c33, E33, rfl, hV33, hS'⟩
  refine ⟨_, _, rfl, hS', ?_⟩
  refine zK ck_124 rfl ?_
  intro w1 hS
  refine (num_n (fun _ => False) w w1 _ _ _ _ _ s.asl.length 1 hV33 hS (by rw [List.length_append, numB_len]; omega) (by omega)).mono ?_
  rintro e w' ⟨ad37, c37, E37, rfl, hV37, hS'⟩
  refine ⟨_, _, rfl, hS', ?_⟩
  refine zH <| rF 0 [7] <| pV (v_assign rfl rfl) rfl <| WP.nil <| rD <| ?_
  exact WE.mid (_, ad37, c37, E37) ⟨by dsimp only; rw [hset]; rfl, hV37⟩ (.cons rfl (.cons rfl (.cons rfl (.cons rfl (.cons rfl .nil))))) (.refl _)
  rintro ⟨zs, ad2, c2, E2⟩ ⟨hz, hV2⟩
  dsimp only at hz hV2
  dsimp only
  refine cR <| zF rfl fld_207_1 <| zL rfl one_32 rfl <| zV (v_len_slice rfl rfl Tryz.underlying32) rfl <| zM rfl <| zN <| cB <| ?_
  refine WC.loop (fun x : Nat × List Int × Option Addr × Nat × List Ent => [(41, .int .i64 x.1), (40, .int .i64 s.asl.length), (39, .slice s.ad s.asl.length s.cap), (5, .slice x.2.2.1 x.2.1.length x.2.2.2.1), (25, .int .i64 k), (24, .int .i64 a.path.length), (23, .slice a.pad a.path.length a.pc)]) (fun x => x.2.2.2.2 ++ []) (fun x => x.1 ≤ s.asl.length ∧ x.2.1.length = ys.length + 2 + 2 * x.1 ∧ x.2.1 ++ (s.asl.drop x.1).flatMap (fun y => numB y 2) = ys ++ segE s ∧ BV x.2.2.1 x.2.2.2.1 x.2.1 x.2.2.2.2) (fun x => s.asl.length - x.1) (0, zs, ad2, c2, E2) ⟨Nat.zero_le _, by dsimp only; rw [hz, List.length_append, List.length_append, numB_len, numB_len], by dsimp only; rw [hz, List.append_assoc, List.append_assoc]; rfl, hV2⟩ (.cons rfl (.cons rfl (.cons rfl (.cons rfl (.cons rfl (.cons rfl (.cons rfl .nil))))))) (List.Sublist.append_left (List.nil_sublist _) _) ?_
  rintro ⟨i, us, ad3, c3, E3⟩ ⟨hi, hul, hu, hV3⟩
  dsimp only at hi hul hu hV3
  dsimp only
  refine cR ?_
  refine zT (v_lss rfl rfl rfl) rfl (fun h42 => ?_) (fun h42 => ?_)
  refine zN <| cS <| cT rfl <| cK <| eN <| cS <| cB <| cR <| ?_
  obtain ⟨x, hx⟩ : ∃ x, s.asl[i]? = some x := ⟨s.asl[i]'(by omega), List.getElem?_eq_getElem _⟩
  obtain ⟨b2, o2, ea2, hr2⟩ := hA.segs s hsm (by rw [i64s_len]; omega)
  rw [drop_cons' hx, List.flatMap_cons] at hu
  refine zV ((v_indexAddr (b := b2) (off := o2) (lo := i) rfl (by show some (Value.slice s.ad _ _) = _; rw [ea2]) rfl Tryz.underlying32 sz_3 rfl (by omega))) rfl ?_
  refine zV (v_load1 rfl rfl one_3 (cellOld (v := .int .i64 x) (fun h => h) (by rw [Nat.mul_one]; exact hr2 i _ (i64s_get hx)))) rfl ?_
  refine zA rfl <| zN <| WC.region <| zM rfl <| zM rfl <| zK ck_124 rfl <| ?_
  intro w1 hS
  refine (num_n (fun _ => False) w w1 _ _ _ _ _ x 2 hV3 hS (by first | omega | decide) (by omega)).mono ?_
  rintro e w' ⟨ad47, c47, E47, rfl, hV47, hS'⟩
  refine ⟨_, _, rfl, hS', ?_⟩
  refine zA rfl <| WL.nil <| eY <| eN <| WC.region <| ?_
  refine zV (v_add rfl rfl rfl (w_i64 (by omega) (by omega))) rfl ?_
  refine zM rfl <| WL.nil <| ?_
  exact WE.next (i + 1, us ++ numB x 2, ad47, c47, E47) (by dsimp only; omega) ⟨by dsimp only; omega, by dsimp only; rw [List.length_append, numB_len]; omega, by dsimp only; rw [List.append_assoc]; exact hu, hV47⟩ (.int rfl (by dsimp only; omega) (.cons rfl (.cons rfl (.cons rfl (.cons rfl (.cons rfl (.cons rfl .nil))))))) (.refl _)
  refine zN <| cS <| cF rfl <| cX <| eX <| eX <| eH <| eY <| eN <| WC.region <| ?_
  obtain rfl : i = s.asl.length := (by omega)
  rw [List.drop_length, List.flatMap_nil, List.append_nil] at hu
  refine zV (v_add rfl rfl rfl (w_i64 (by omega) (by omega))) rfl ?_
  refine zM rfl <| WL.nil <| ?_
  exact WE.next (k + 1, us, ad3, c3, E3) (by dsimp only; omega) ⟨by dsimp only; omega, by dsimp only; rw [hu, List.append_assoc]; exact hy, hV3⟩ (.int rfl (by dsimp only; omega) (.cons rfl (.cons rfl (.cons rfl .nil)))) (.refl _)
  refine zN <| cS <| cF rfl <| cX <| eX <| eX <| eH <| eY <| eN <| cR <| zM rfl <| zA rfl <| zN <| ?_
  refine cE <| tR Tryz.results101 rfl <| ?_
  obtain rfl : k = a.path.length := (by omega)
  rw [List.drop_length, List.flatMap_nil, List.append_nil] at hy
  exact fun w' h => ⟨_, rfl, OwnB.of hV h hy⟩
  refine zA rfl <| zN <| cF rfl <| cR <| ?_
  refine zT (v_eql rfl rfl rfl) rfl (fun h51 => ?_) (fun h51 => ?_)
  refine zA rfl <| zN <| cT rfl <| WC.region <| zM rfl <| zF rfl fld_35_3 <| zL rfl one_23 rfl <| ?_
  have := hI.hop
  unfold U32 at this
  refine zV (v_conv rfl rfl Tryz.underlying3 Tryz.underlying23 (w_i64 (by omega) (by omega))) rfl ?_
  refine zK ck_124 rfl ?_
  intro w1 hS
  refine (num_n (fun _ => False) w w1 _ [] none 0 [] a.hop 4 (Vec.nil 1) hS (by first | omega | decide) (by omega)).mono ?_
  rintro e w' ⟨ad56, c56, E56, rfl, hV56, hS'⟩
  refine ⟨_, _, rfl, hS', ?_⟩
  refine zA rfl <| WL.nil <| eY <| eN <| cR <| zM rfl <| zA rfl <| zN <| cE <| tR Tryz.results101 rfl <| ?_
  exact fun w' h => ⟨_, rfl, OwnB.of hV56 h (by unfold valE; rw [if_neg (by omega), if_neg (by omega), if_pos (by omega)]; rfl)⟩
  refine zA rfl <| zN <| cF rfl <| cR <| ?_
  refine zT (v_eql rfl rfl rfl) rfl (fun h58 => ?_) (fun h58 => ?_)
  refine zA rfl <| zN <| cT rfl <| WC.region <| zM rfl <| zF rfl fld_35_4 <| zL rfl one_3 rfl <| zK ck_124 rfl <| ?_
  intro w1 hS
  refine (num_n (fun _ => False) w w1 _ [] none 0 [] a.med 4 (Vec.nil 1) hS (by first | omega | decide) (by omega)).mono ?_
  rintro e w' ⟨ad62, c62, E62, rfl, hV62, hS'⟩
  refine ⟨_, _, rfl, hS', ?_⟩
  refine zA rfl <| WL.nil <| eY <| eN <| cR <| zM rfl <| zA rfl <| zN <| cE <| tR Tryz.results101 rfl <| ?_
  exact fun w' h => ⟨_, rfl, OwnB.of hV62 h (by unfold valE; rw [if_neg (by omega), if_neg (by omega), if_neg (by omega), if_pos (by omega)]; rfl)⟩
  refine zA rfl <| zN <| cF rfl <| cR <| ?_
  refine zT (v_eql rfl rfl rfl) rfl (fun h64 => ?_) (fun h64 => ?_)
  refine zA rfl <| zN <| cT rfl <| WC.region <| zM rfl <| zF rfl fld_35_5 <| zL rfl one_3 rfl <| zK ck_124 rfl <| ?_
  intro w1 hS
  refine (num_n (fun _ => False) w w1 _ [] none 0 [] a.loc 4 (Vec.nil 1) hS (by first | omega | decide) (by omega)).mono ?_
  rintro e w' ⟨ad68, c68, E68, rfl, hV68, hS'⟩
  refine ⟨_, _, rfl, hS', ?_⟩
  refine zA rfl <| WL.nil <| eY <| eN <| cR <| zM rfl <| zA rfl <| zN <| cE <| tR Tryz.results101 rfl <| ?_
  exact fun w' h => ⟨_, rfl, OwnB.of hV68 h (by unfold valE; rw [if_neg (by omega), if_neg (by omega), if_neg (by omega), if_neg (by omega), if_pos (by omega)]; rfl)⟩
  refine zA rfl <| zN <| cF rfl <| cR <| ?_
  refine zT (v_eql rfl rfl rfl) rfl (fun h70 => ?_) (fun h70 => ?_)
  refine zA rfl <| zN <| cT rfl <| WC.orders mixed <| rF 6 [0, 1, 4] <| pV (v_move rfl rfl) rfl <| pV (v_fieldAddr0 rfl rfl fld_35_6) rfl <| pV (v_fieldAddr0 rfl rfl fld_35_7) rfl <| WP.nil <| ?_
  refine WR.each (g := 5) [2, 5] (by kernel_rfl) (by decide) ?_
  refine ⟨?_, ?_⟩
  refine zL rfl one_3 rfl <| zH <| ?_
  refine WR.each (g := 4) [3, 5] (by kernel_rfl) (by decide) ?_
  refine ⟨?_, ?_⟩
  refine zK ck_124 rfl ?_
  intro w1 hS
  refine (num_n (fun _ => False) w w1 _ [] none 0 [] a.aas 2 (Vec.nil 1) hS (by first | omega | decide) (by omega)).mono ?_
  rintro e w' ⟨ad74, c74, E74, rfl, hV74, hS'⟩
  refine ⟨_, _, rfl, hS', ?_⟩
  refine zH <| rA 2 [5, 6] rfl <| qV (v_load1 rfl rfl one_23 (cellAt rfl)) rfl <| ?_
  have := hI.aid
  unfold U32 at this
  refine qV (v_conv rfl rfl Tryz.underlying3 Tryz.underlying23 (w_i64 (by omega) (by omega))) rfl ?_
  refine WQ.nilR <| rO 1 [7] <| zK ck_124 rfl <| ?_
  intro w1 hS
  refine (num_n (fun _ => False) w w1 _ _ _ _ _ a.aid 4 hV74 hS (by rw [List.length_append, numB_len]; decide) (by omega)).mono ?_
  rintro e w' ⟨ad78, c78, E78, rfl, hV78, hS'⟩
  refine ⟨_, _, rfl, hS', ?_⟩
  refine zH <| rF 0 [8] <| pV (v_assign rfl rfl) rfl <| WP.nil <| rD <| eY <| eN <| cR <| zM rfl <| zA rfl <| zN <| cE <| tR Tryz.results101 rfl <| ?_
  exact fun w' h => ⟨_, rfl, OwnB.of hV78 h (by unfold valE; rw [if_neg (by omega), if_neg (by omega), if_neg (by omega), if_neg (by omega), if_neg (by omega), if_pos (by omega)]; rfl)⟩
  refine zL rfl one_23 rfl <| zH <| rF 3 [6] <| ?_
  have := hI.aid
  unfold U32 at this
  refine pV (v_conv rfl rfl Tryz.underlying3 Tryz.underlying23 (w_i64 (by omega) (by omega))) rfl ?_
  refine WP.nil <| rO 1 [3, 7] <| zK ck_124 rfl <| ?_
  intro w1 hS
  refine (num_n (fun _ => False) w w1 _ [] none 0 [] a.aas 2 (Vec.nil 1) hS (by first | omega | decide) (by omega)).mono ?_
  rintro e w' ⟨ad74, c74, E74, rfl, hV74, hS'⟩
  refine ⟨_, _, rfl, hS', ?_⟩
  refine zK ck_124 rfl ?_
  intro w1 hS
  refine (num_n (fun _ => False) w w1 _ _ _ _ _ a.aid 4 hV74 hS (by rw [List.length_append, numB_len]; decide) (by omega)).mono ?_
  rintro e w' ⟨ad78, c78, E78, rfl, hV78, hS'⟩
  refine ⟨_, _, rfl, hS', ?_⟩
  refine zH <| rF 0 [8] <| pV (v_assign rfl rfl) rfl <| WP.nil <| rD <| eY <| eN <| cR <| zM rfl <| zA rfl <| zN <| cE <| tR Tryz.results101 rfl <| ?_
  exact fun w' h => ⟨_, rfl, OwnB.of hV78 h (by unfold valE; rw [if_neg (by omega), if_neg (by omega), if_neg (by omega), if_neg (by omega), if_neg (by omega), if_pos (by omega)]; rfl)⟩
  refine zL rfl one_23 rfl <| zH <| rF 4 [6] <| ?_
  have := hI.aid
  unfold U32 at this
  refine pV (v_conv rfl rfl Tryz.underlying3 Tryz.underlying23 (w_i64 (by omega) (by omega))) rfl ?_
  refine WP.nil <| rA 3 [2] rfl <| qV (v_load1 rfl rfl one_3 (cellAt rfl)) rfl <| WQ.nilR <| rO 1 [3, 7] <| zK ck_124 rfl <| ?_
  intro w1 hS
  refine (num_n (fun _ => False) w w1 _ [] none 0 [] a.aas 2 (Vec.nil 1) hS (by first | omega | decide) (by omega)).mono ?_
  rintro e w' ⟨ad74, c74, E74, rfl, hV74, hS'⟩
  refine ⟨_, _, rfl, hS', ?_⟩
  refine zK ck_124 rfl ?_
  intro w1 hS
  refine (num_n (fun _ => False) w w1 _ _ _ _ _ a.aid 4 hV74 hS (by rw [List.length_append, numB_len]; decide) (by omega)).mono ?_
  rintro e w' ⟨ad78, c78, E78, rfl, hV78, hS'⟩
  refine ⟨_, _, rfl, hS', ?_⟩
  refine zH <| rF 0 [8] <| pV (v_assign rfl rfl) rfl <| WP.nil <| rD <| eY <| eN <| cR <| zM rfl <| zA rfl <| zN <| cE <| tR Tryz.results101 rfl <| ?_
  exact fun w' h => ⟨_, rfl, OwnB.of hV78 h (by unfold valE; rw [if_neg (by omega), if_neg (by omega), if_neg (by omega), if_neg (by omega), if_neg (by omega), if_pos (by omega)]; rfl)⟩
  refine zA rfl <| zN <| cF rfl <| cR <| ?_
  refine zT (v_eql rfl rfl rfl) rfl (fun h80 => ?_) (fun h80 => ?_)
  refine zA rfl <| zN <| cT rfl <| cR <| ?_
  have e0 : valE a t = a.comms.flatMap fun x => numB x 4 := (by unfold valE; rw [if_neg (by omega), if_neg (by omega), if_neg (by omega), if_neg (by omega), if_neg (by omega), if_neg (by omega), if_pos (by omega)])
  rw [e0] at hB ⊢
  refine zF rfl fld_35_8 <| zL rfl one_32 rfl <| zV (v_len_slice rfl rfl Tryz.underlying32) rfl <| zM rfl <| zN <| cB <| WC.loop (fun x : Nat × List Int × Option Addr × Nat × List Ent => [(84, .int .i64 x.1), (83, .int .i64 a.comms.length), (82, .slice a.cad a.comms.length a.cc), (5, .slice x.2.2.1 x.2.1.length x.2.2.2.1)]) (fun x => x.2.2.2.2 ++ []) (fun x => x.1 ≤ a.comms.length ∧ x.2.1 ++ (a.comms.drop x.1).flatMap (fun y => numB y 4) = a.comms.flatMap (fun y => numB y 4) ∧ BV x.2.2.1 x.2.2.2.1 x.2.1 x.2.2.2.2) (fun x => a.comms.length - x.1) (0, [], none, 0, []) ⟨Nat.zero_le _, rfl, Vec.nil 1⟩ (.cons rfl (.cons rfl (.cons rfl (.cons rfl .nil)))) (List.nil_sublist _) <| ?_
  rintro ⟨k, ys, ad, c, E⟩ ⟨hk, hy, hV⟩
  dsimp only at hk hy hV
  dsimp only
  have hlenP := hI.lens.2.1
  refine cR ?_
  refine zT (v_lss rfl rfl rfl) rfl (fun h85 => ?_) (fun h85 => ?_)
  refine zN <| cS <| cT rfl <| cK <| eN <| cS <| cB <| cR <| ?_
  obtain ⟨x, hx⟩ : ∃ x, a.comms[k]? = some x := ⟨a.comms[k]'(by omega), List.getElem?_eq_getElem _⟩
  obtain ⟨b, o, ea, hr⟩ := hA.comms (by rw [i64s_len]; omega)
  rw [drop_cons' hx, List.flatMap_cons] at hy
  have hyl : ys.length ≤ 3600000 := (by rw [← hy, List.length_append] at hB; omega)
  refine zV ((v_indexAddr (b := b) (off := o) (lo := k) rfl (by show some (Value.slice a.cad _ _) = _; rw [ea]) rfl Tryz.underlying32 sz_3 rfl (by omega))) rfl ?_
  refine zV (v_load1 rfl rfl one_3 (cellOld (v := .int .i64 x) (fun h => h) (by rw [Nat.mul_one]; exact hr k _ (i64s_get hx)))) rfl ?_
  refine zA rfl <| zN <| WC.region <| zM rfl <| zM rfl <| zK ck_124 rfl <| ?_
  intro w1 hS
  refine (num_n (fun _ => False) w w1 _ _ _ _ _ x 4 hV hS (by first | omega | decide) (by omega)).mono ?_
  rintro e w' ⟨ad90, c90, E90, rfl, hV90, hS'⟩
  refine ⟨_, _, rfl, hS', ?_⟩
  refine zA rfl <| WL.nil <| eY <| eN <| WC.region <| ?_
  refine zV (v_add rfl rfl rfl (w_i64 (by omega) (by omega))) rfl ?_
  refine zM rfl <| WL.nil <| ?_
  exact WE.next (k + 1, ys ++ numB x 4, ad90, c90, E90) (by dsimp only; omega) ⟨by dsimp only; omega, by dsimp only; rw [List.append_assoc]; exact hy, hV90⟩ (.int rfl (by dsimp only; omega) (.cons rfl (.cons rfl (.cons rfl .nil)))) (.refl _)
  refine zN <| cS <| cF rfl <| cX <| eX <| eX <| eH <| eY <| eN <| cR <| zM rfl <| zA rfl <| zN <| ?_
  refine cE <| tR Tryz.results101 rfl <| ?_
  obtain rfl : k = a.comms.length := (by omega)
  rw [List.drop_length, List.flatMap_nil, List.append_nil] at hy
  exact fun w' h => ⟨_, rfl, OwnB.of hV h hy⟩
  refine zA rfl <| zN <| cF rfl <| cK <| eY <| eN <| cR <| zM rfl <| zA rfl <| zN <| cE <| tR Tryz.results101 rfl <| ?_
  exact fun w' h => ⟨_, rfl, OwnB.of (E := []) (xs := []) (ys := valE a t) (Vec.nil 1) h (by unfold valE; rw [if_neg (by omega), if_neg (by omega), if_neg (by omega), if_neg (by omega), if_neg (by omega), if_neg (by omega), if_neg (by omega)])⟩

def putE (fl t : Int) (vs : List Int) : List Int :=
  if 255 < vs.length then numB (fl + 16) 1 ++ numB t 1 ++ numB vs.length 2 ++ vs else numB fl 1 ++ numB t 1 ++ numB vs.length 1 ++ vs
theorem putE_len (fl t : Int) (vs : List Int) : (putE fl t vs).length = vs.length + (if 255 < vs.length then 4 else 3) := by
  unfold putE
  split <;> simp only [List.length_append, numB_len] <;> omega
set_option maxHeartbeats 1000000 in
theorem put_c (p : Nat → Prop) (w0 w1 : World) (L E : List Ent) (ad : Option Addr) (c : Nat) (xs : List Int) (fl t : Int) (va : Option Addr) (vc : Nat) (vs : List Int) (hV : BV ad c xs E)
    (hv : 0 < vs.length → ∃ b o, va = some ⟨b, o, none⟩ ∧ ∀ w, St p w0 w L → w.rangeAt b o (u8s vs)) (hS0 : St p w0 w1 (E ++ L)) (hk : xs.length + vs.length ≤ 3900000) (hf : fl = 64 ∨ fl = 128 ∨ fl = 192 ∨ fl = 224) :
    Calls Tryz.prog 100 #[.slice ad xs.length c, .int .i64 fl, .int .i64 t, .slice va vs.length vc] w1 fun e w' => ∃ ad' c' E', e = .returned (.slice ad' (xs ++ putE fl t vs).length c') ∧ BV ad' c' (xs ++ putE fl t vs) E' ∧ St p w0 w' (E' ++ L) := by
  refine enter Tryz.func100 rfl Tryz.ntmps100 rfl hS0 ?_
  refine cR <| zA rfl <| zN <| cS <| cR <| zM rfl <| zV (v_len_slice rfl rfl Tryz.underlying25) rfl <| ?_
  refine zT (v_gtr rfl rfl rfl) rfl (fun h11 => ?_) (fun h11 => ?_)
  refine zN <| cT rfl <| WC.region <| zM rfl <| zM rfl <| ?_
  refine zV (v_or rfl rfl rfl (show _ = fl + 16 from by rcases hf with rfl | rfl | rfl | rfl <;> decide)) rfl ?_
  refine zK ck_124 rfl ?_
  intro w1 hS
  refine (num_n p w0 w1 _ _ _ _ _ (fl + 16) 1 hV hS (by first | omega | (simp only [List.length_append, numB_len]; omega)) (by omega)).mono ?_
  rintro e w' ⟨ad15, c15, E15, rfl, hV15, hS'⟩
  refine ⟨_, _, rfl, hS', ?_⟩
  refine zM rfl <| zK ck_124 rfl <| ?_
  intro w1 hS
  refine (num_n p w0 w1 _ _ _ _ _ t 1 hV15 hS (by first | omega | (simp only [List.length_append, numB_len]; omega)) (by omega)).mono ?_
  rintro e w' ⟨ad17, c17, E17, rfl, hV17, hS'⟩
  refine ⟨_, _, rfl, hS', ?_⟩
  refine zM rfl <| zV (v_len_slice rfl rfl Tryz.underlying25) rfl <| zK ck_124 rfl <| ?_
  intro w1 hS
  refine (num_n p w0 w1 _ _ _ _ _ vs.length 2 hV17 hS (by first | omega | (simp only [List.length_append, numB_len]; omega)) (by omega)).mono ?_
  rintro e w' ⟨ad20, c20, E20, rfl, hV20, hS'⟩
  refine ⟨_, _, rfl, hS', ?_⟩
  refine zA rfl <| zR <| zM rfl <| zM rfl <| ?_
  refine WL.appendL rfl rfl rfl Tryz.underlying25 Tryz.underlying25 sz_5 by_5 zero_5 rfl rfl hV20 (new := u8s vs) (fun h => by obtain ⟨b, o, e, hr⟩ := hv h; exact ⟨b, o, e, fun w hS => hr w (hS.sub (List.sublist_append_right _ _))⟩) (by rw [u8s_len]; omega) (u8s_one _) (by simp only [List.length_append, numB_len]; omega) (.none rfl) rfl rfl ?_
  intro ad31 c31 E31 hV31 hr31
  refine zA rfl <| zN <| cE <| tR Tryz.results100 rfl <| ?_
  rw [← u8s_app] at hV31
  have e1 := hV31.toB
  have e2 : xs ++ numB (fl + 16) 1 ++ numB t 1 ++ numB vs.length 2 ++ vs = xs ++ putE fl t vs := (by unfold putE; rw [if_pos (by omega)]; simp only [List.append_assoc])
  rw [e1, e2]
  rw [e1, e2] at hV31
  exact fun w' h => ⟨ad31, c31, E31, rfl, hV31, h⟩
  refine zN <| cF rfl <| WC.region <| zM rfl <| zM rfl <| zK ck_124 rfl <| ?_
  intro w1 hS
  refine (num_n p w0 w1 _ _ _ _ _ fl 1 hV hS (by first | omega | (simp only [List.length_append, numB_len]; omega)) (by omega)).mono ?_
  rintro e w' ⟨ad23, c23, E23, rfl, hV23, hS'⟩
  refine ⟨_, _, rfl, hS', ?_⟩
  refine zM rfl <| zK ck_124 rfl <| ?_
  intro w1 hS
  refine (num_n p w0 w1 _ _ _ _ _ t 1 hV23 hS (by first | omega | (simp only [List.length_append, numB_len]; omega)) (by omega)).mono ?_
  rintro e w' ⟨ad25, c25, E25, rfl, hV25, hS'⟩
  refine ⟨_, _, rfl, hS', ?_⟩
  refine zM rfl <| zV (v_len_slice rfl rfl Tryz.underlying25) rfl <| zK ck_124 rfl <| ?_
  intro w1 hS
  refine (num_n p w0 w1 _ _ _ _ _ vs.length 1 hV25 hS (by first | omega | (simp only [List.length_append, numB_len]; omega)) (by omega)).mono ?_
  rintro e w' ⟨ad28, c28, E28, rfl, hV28, hS'⟩
  refine ⟨_, _, rfl, hS', ?_⟩
  refine zA rfl <| zR <| zM rfl <| zM rfl <| ?_
  refine WL.appendL rfl rfl rfl Tryz.underlying25 Tryz.underlying25 sz_5 by_5 zero_5 rfl rfl hV28 (new := u8s vs) (fun h => by obtain ⟨b, o, e, hr⟩ := hv h; exact ⟨b, o, e, fun w hS => hr w (hS.sub (List.sublist_append_right _ _))⟩) (by rw [u8s_len]; omega) (u8s_one _) (by simp only [List.length_append, numB_len]; omega) (.none rfl) rfl rfl ?_
  intro ad31 c31 E31 hV31 hr31
  refine zA rfl <| zN <| cE <| tR Tryz.results100 rfl <| ?_
  rw [← u8s_app] at hV31
  have e1 := hV31.toB
  have e2 : xs ++ numB fl 1 ++ numB t 1 ++ numB vs.length 1 ++ vs = xs ++ putE fl t vs := (by unfold putE; rw [if_neg (by omega)]; simp only [List.append_assoc])
  rw [e1, e2]
  rw [e1, e2] at hV31
  exact fun w' h => ⟨ad31, c31, E31, rfl, hV31, h⟩

theorem Vec.src {s k c : Nat} {ad : Option Addr} {xs : List Value} {E L : List Ent} (hV : Vec s ad k c xs E) (hm : ∀ e ∈ E, e ∈ L) : 0 < xs.length → ∃ b o, ad = some ⟨b, o, none⟩ ∧ ∀ (p : Nat → Prop) (w0 w : World), St p w0 w L → w.rangeAt b o xs := fun hn => by
  rcases hV with ⟨_, _, _, rfl, _⟩ | ⟨g, cs, rfl, rfl, hx, hcl, hk⟩
  · simp at hn
  · refine ⟨g, 0, rfl, fun p w0 w hS j v hj => ?_⟩
    have hR : Row w g cs := hS.holds (.row g cs) (hm _ (List.mem_cons_self ..))
    rw [← hx, List.getElem?_take] at hj
    split at hj
    · rw [Nat.zero_add]; exact hR.cell hj
    · cases hj
def flagI (k : Nat) : Int := if k = 0 then 0 else if k = 4 then 128 else if k = 7 then 192 else if k = 8 then 192 else 64
theorem flagI_ok {k : Nat} (h : 1 ≤ k) : flagI k = 64 ∨ flagI k = 128 ∨ flagI k = 192 ∨ flagI k = 224 := by
  unfold flagI
  repeat' split
  all_goals omega
def GF (w : World) : Prop := ∀ i, i < 9 → w.cell? ⟨0, i, none⟩ = some (.int .i64 (flagI i))
theorem GF.keep {p : Nat → Prop} {w0 w : World} {L : List Ent} (hp : ¬ p 0) (h : GF w0) (hS : St p w0 w L) : GF w := fun i hi => hS.old hp (h i hi)
def knownE (a : AtL) (t : Nat) : List Int := if hasB a.has t then putE (flagI t) t (valE a t) else []
def bodyA (a : AtL) : List Int := ((List.range' 1 8).flatMap (knownE a)) ++ a.others.flatMap fun o => putE 224 o.ty o.val
def encE (a : AtL) : Int := if chkA a then if (a.others.any fun o => decide (4096 < o.val.length)) || decide (4096 < (bodyA a).length) then 6 else 0 else 1
def outA (a : AtL) : List Int := if encE a = 0 then bodyA a else []
theorem segs_len {ss : List SegL} (h : ss.all segB = true) : (ss.flatMap segE).length ≤ 512 * ss.length := by
  induction ss with
  | nil => simp
  | cons s ss ih =>
    rw [List.all_cons, Bool.and_eq_true] at h
    have h1 := ih h.2
    have h2 := h.1
    unfold segB at h2
    rw [Bool.and_eq_true] at h2
    have h3 := of_decide_eq_true h2.1
    rw [List.flatMap_cons, List.length_append, segE_len, List.length_cons]
    omega
theorem valE_len {a : AtL} {t : Nat} (h : goodB a t = true) : (valE a t).length ≤ if t = 2 then 512 * a.path.length else 1024 := by
  unfold goodB at h
  unfold valE
  by_cases h1 : t = 1
  · subst h1; simp [numB_len]
  by_cases h2 : t = 2
  · subst h2
    rw [if_neg (by decide), if_pos rfl] at h
    rw [if_neg (by decide), if_pos rfl, if_pos rfl]
    exact segs_len h
  by_cases h3 : t = 3
  · subst h3; simp [numB_len]
  by_cases h4 : t = 4
  · subst h4; simp [numB_len]
  by_cases h5 : t = 5
  · subst h5; simp [numB_len]
  by_cases h7 : t = 7
  · subst h7; simp [numB_len]
  by_cases h8 : t = 8
  · subst h8
    rw [if_neg (by decide), if_neg (by decide), if_neg (by decide), if_neg (by decide), if_neg (by decide), if_neg (by decide), if_pos rfl] at h
    unfold commsB at h
    rw [Bool.and_eq_true] at h
    have := of_decide_eq_true h.2
    rw [if_neg (by decide), if_neg (by decide), if_neg (by decide), if_neg (by decide), if_neg (by decide), if_neg (by decide), if_pos rfl, flat_len2, if_neg (by decide)]
    omega
  · simp [h1, h2, h3, h4, h5, h7, h8]
theorem chk_good {a : AtL} (h : chkA a = true) {t : Nat} (h1 : 1 ≤ t) (h2 : t ≤ 8) (hb : hasB a.has t = true) : goodB a t = true := by
  unfold chkA at h
  rw [Bool.and_eq_true, Bool.and_eq_true] at h
  have := List.all_eq_true.1 h.1.2 t (List.mem_range'_1.2 ⟨h1, by omega⟩)
  unfold eachB at this
  rw [hb] at this
  exact this
set_option maxHeartbeats 2000000 in
theorem AEnc_g (w0 : World) (a : AtL) (hA : a.At w0) (hI : a.In) (hG : GF w0) (hP : a.path.length ≤ 1100) (hO : a.others.length ≤ 300) :
    Calls Tryz.prog 77 #[.agg a.cells.toArray] w0 fun e w' => ∃ v, e = .returned (.tuple #[v, .int .i64 (encE a)]) ∧ OwnB w0 w' (outA a) v := by
  refine enter Tryz.func77 rfl Tryz.ntmps77 rfl (St.start (fun _ => False) w0) ?_
  refine cR <| WL.box rfl rfl rfl (.none rfl) rfl rfl <| ?_
  intro g1 hg1
  refine zA rfl <| zA rfl <| zN <| cS <| cR <| zV (v_loadN rfl rfl many_35 rfl allAt) rfl <| zK ck_99 rfl <| ?_
  intro w hS
  refine Calls.then (ACheck_c w a (hA.st hS) hI) hS ?_
  generalize hc : chkA a = bc
  cases bc
  refine zA rfl <| zR <| zM rfl <| ?_
  refine zV ((v_neq rfl rfl rfl).t ((by decide))) rfl ?_
  refine zN <| cT rfl <| cR <| zM rfl <| zA rfl <| zA rfl <| zN <| cE <| eR <| WE.ret2 (P := Tryz.prog) (.inl rfl) Tryz.results77 rfl rfl <| ?_
  have he : encE a = 1 := (by unfold encE; rw [hc]; rfl)
  have ho : outA a = [] := (by unfold outA; rw [he]; rfl)
  rw [he, ho]
  exact fun w' h => ⟨_, rfl, OwnB.of (E := []) (xs := []) (Vec.nil 1) h rfl⟩
  refine zA rfl <| zR <| zM rfl <| ?_
  refine zV ((v_neq rfl rfl rfl).f ((by decide))) rfl ?_
  refine zN <| cF rfl <| cK <| eN <| cR <| zA rfl <| zN <| cS <| cR <| zA rfl <| zN <| cB <| ?_
  refine WC.loop (fun x : Nat × List Int × Option Addr × Nat × List Ent => [(6, .int .i64 x.1), (5, .slice x.2.2.1 x.2.1.length x.2.2.2.1), (1, .pointer (some ⟨g1, 0, none⟩))]) (fun x => x.2.2.2.2 ++ [.row g1 a.cells]) (fun x => 1 ≤ x.1 ∧ x.1 ≤ 9 ∧ x.2.1.length ≤ 1100 * x.1 + (if 2 < x.1 then 563200 else 0) ∧ x.2.1 ++ (List.range' x.1 (9 - x.1)).flatMap (knownE a) = (List.range' 1 8).flatMap (knownE a) ∧ BV x.2.2.1 x.2.2.2.1 x.2.1 x.2.2.2.2) (fun x => 9 - x.1) (1, [], none, 0, []) ⟨Nat.le_refl _, by decide, by decide, rfl, Vec.nil 1⟩ (.cons rfl (.cons rfl (.cons rfl .nil))) (.refl _) ?_
  rintro ⟨t, xs, ad, c, E⟩ ⟨ht1, ht9, hl, hx, hV⟩
  dsimp only at ht1 ht9 hl hx hV
  dsimp only
  refine cS <| cR <| zM rfl <| ?_
  refine zT (v_leq rfl rfl rfl) rfl (fun h15 => ?_) (fun h15 => ?_)
  refine zN <| cT rfl <| cK <| eN <| cS <| cB <| cR <| zV (v_loadN rfl rfl many_35 rfl allAt) rfl <| zM rfl <| ?_
  rw [show 9 - t = 8 - t + 1 by omega, List.range'_succ, List.flatMap_cons] at hx
  refine zK ck_98 rfl ?_
  intro w hS
  refine Calls.then (Is_c w a t (by omega)) hS ?_
  generalize hb : hasB a.has t = bb
  cases bb
  refine zN <| cF rfl <| cK <| eY <| eN <| WC.region <| zM rfl <| ?_
  refine zV (v_add rfl rfl rfl (w_i64 (by omega) (by omega))) rfl ?_
  refine zA rfl <| WL.nil <| ?_
  exact WE.next (t + 1, xs, ad, c, E) (by dsimp only; omega) ⟨by dsimp only; omega, by dsimp only; omega, by dsimp only; split at hl <;> split <;> omega, by
  dsimp only
  rw [show 9 - (t + 1) = 8 - t by omega, ← hx]
  unfold knownE
  rw [hb]; rfl, hV⟩ (.int rfl (by dsimp only; omega) (.cons rfl (.cons rfl .nil))) (.refl _)
  refine zN <| cT rfl <| WC.orders mixed <| rF 5 [0, 1, 2, 4, 6] <| pV (v_move rfl rfl) rfl <| pV (v_move rfl rfl) rfl <| ?_
  refine pV (v_indexAddrA (lo := t) rfl rfl rfl Tryz.underlying179 sz_3 (by omega) (by omega)) rfl ?_
  refine pV (v_move rfl rfl) rfl <| pV (v_move rfl rfl) rfl <| WP.nil <| ?_
  refine WR.each (g := 4) [3, 5] (by kernel_rfl) (by decide) ?_
  refine ⟨?_, ?_⟩
  refine zV (v_load1 rfl rfl one_3 (cellOld (v := .int .i64 (flagI t)) (fun h => h) (by rw [Nat.zero_add, Nat.mul_one]; exact hG t (by omega)))) rfl ?_
  refine zH <| rA 3 [5] rfl <| qV (v_loadN rfl rfl many_35 rfl allAt) rfl <| WQ.nilR <| rO 1 [7, 8] <| ?_
  have hgl := valE_len (chk_good hc ht1 (by omega) hb)
  have hle : (valE a t).length ≤ 563200 := (by split at hgl <;> omega)
  refine zK ck_101 rfl ?_
  intro w1 hS
  refine (value_c w1 a t (hA.st hS) hI (by omega)).mono ?_
  rintro e w' ⟨_, rfl, ad28, c28, E28, rfl, hV28, hS'⟩
  refine ⟨_, _, rfl, hS.join hS', ?_⟩
  refine WL.to (L' := E ++ (E28 ++ [.row g1 a.cells])) (fun w hS => St.front (R := E) E28 hS) ?_
  have hpl := putE_len (flagI t) t (valE a t)
  have hgl := valE_len (chk_good hc ht1 (by omega) hb)
  refine zK ck_100 rfl ?_
  intro w1 hS
  refine (put_c (fun _ => False) w0 w1 _ _ _ _ _ (flagI t) t _ _ _ hV (fun h => by
    obtain ⟨b, o, e, hr⟩ := hV28.src (L := E28 ++ [.row g1 a.cells]) (fun e he => List.mem_append_left _ he) (by rw [u8s_len]; exact h)
    exact ⟨b, o, e, fun w hS => hr _ _ w hS⟩) hS (by split at hl <;> split at hgl <;> omega) (flagI_ok ht1)).mono ?_
  rintro e w' ⟨ad29, c29, E29, rfl, hV29, hS'⟩
  refine ⟨_, _, rfl, hS', ?_⟩
  refine zH <| rF 0 [9] <| pV (v_assign rfl rfl) rfl <| WP.nil <| rD <| eY <| eN <| WC.region <| zM rfl <| ?_
  refine zV (v_add rfl rfl rfl (w_i64 (by omega) (by omega))) rfl ?_
  refine zA rfl <| WL.nil <| ?_
  exact WE.next (t + 1, xs ++ putE (flagI t) t (valE a t), ad29, c29, E29) (by dsimp only; omega) ⟨by dsimp only; omega, by dsimp only; omega, by
  dsimp only
  rw [List.length_append, hpl]
  split at hl <;> split at hgl <;> split <;> split <;> omega, by
  dsimp only
  rw [show 9 - (t + 1) = 8 - t by omega, ← hx]
  unfold knownE
  rw [hb, List.append_assoc]; rfl, hV29⟩ (.int rfl (by dsimp only; omega) (.cons rfl (.cons rfl .nil))) (List.Sublist.append_left (List.sublist_append_right _ _) _)
  refine zV (v_loadN rfl rfl many_35 rfl allAt) rfl <| zH <| ?_
  refine WR.each (g := 3) [3, 7] (by kernel_rfl) (by decide) ?_
  refine ⟨?_, ?_⟩
  refine zV (v_load1 rfl rfl one_3 (cellOld (v := .int .i64 (flagI t)) (fun h => h) (by rw [Nat.zero_add, Nat.mul_one]; exact hG t (by omega)))) rfl ?_
  refine zH <| rO 1 [7, 8] <| ?_
  have hgl := valE_len (chk_good hc ht1 (by omega) hb)
  have hle : (valE a t).length ≤ 563200 := (by split at hgl <;> omega)
  refine zK ck_101 rfl ?_
  intro w1 hS
  refine (value_c w1 a t (hA.st hS) hI (by omega)).mono ?_
  rintro e w' ⟨_, rfl, ad28, c28, E28, rfl, hV28, hS'⟩
  refine ⟨_, _, rfl, hS.join hS', ?_⟩
  refine WL.to (L' := E ++ (E28 ++ [.row g1 a.cells])) (fun w hS => St.front (R := E) E28 hS) ?_
  have hpl := putE_len (flagI t) t (valE a t)
  have hgl := valE_len (chk_good hc ht1 (by omega) hb)
  refine zK ck_100 rfl ?_
  intro w1 hS
  refine (put_c (fun _ => False) w0 w1 _ _ _ _ _ (flagI t) t _ _ _ hV (fun h => by
    obtain ⟨b, o, e, hr⟩ := hV28.src (L := E28 ++ [.row g1 a.cells]) (fun e he => List.mem_append_left _ he) (by rw [u8s_len]; exact h)
    exact ⟨b, o, e, fun w hS => hr _ _ w hS⟩) hS (by split at hl <;> split at hgl <;> omega) (flagI_ok ht1)).mono ?_
  rintro e w' ⟨ad29, c29, E29, rfl, hV29, hS'⟩
  refine ⟨_, _, rfl, hS', ?_⟩
  refine zH <| rF 0 [9] <| pV (v_assign rfl rfl) rfl <| WP.nil <| rD <| eY <| eN <| WC.region <| zM rfl <| ?_
  refine zV (v_add rfl rfl rfl (w_i64 (by omega) (by omega))) rfl ?_
  refine zA rfl <| WL.nil <| ?_
  exact WE.next (t + 1, xs ++ putE (flagI t) t (valE a t), ad29, c29, E29) (by dsimp only; omega) ⟨by dsimp only; omega, by dsimp only; omega, by
  dsimp only
  rw [List.length_append, hpl]
  split at hl <;> split at hgl <;> split <;> split <;> omega, by
  dsimp only
  rw [show 9 - (t + 1) = 8 - t by omega, ← hx]
  unfold knownE
  rw [hb, List.append_assoc]; rfl, hV29⟩ (.int rfl (by dsimp only; omega) (.cons rfl (.cons rfl .nil))) (List.Sublist.append_left (List.sublist_append_right _ _) _)
  have hgl := valE_len (chk_good hc ht1 (by omega) hb)
  have hle : (valE a t).length ≤ 563200 := (by split at hgl <;> omega)
  refine zK ck_101 rfl ?_
  intro w1 hS
  refine (value_c w1 a t (hA.st hS) hI (by omega)).mono ?_
  rintro e w' ⟨_, rfl, ad28, c28, E28, rfl, hV28, hS'⟩
  refine ⟨_, _, rfl, hS.join hS', ?_⟩
  refine WL.to (L' := E ++ (E28 ++ [.row g1 a.cells])) (fun w hS => St.front (R := E) E28 hS) <| zH <| rA 2 [3] rfl <| ?_
  refine qV (v_load1 rfl rfl one_3 (cellOld (v := .int .i64 (flagI t)) (fun h => h) (by rw [Nat.zero_add, Nat.mul_one]; exact hG t (by omega)))) rfl ?_
  refine WQ.nilR <| rO 1 [8] <| ?_
  have hpl := putE_len (flagI t) t (valE a t)
  have hgl := valE_len (chk_good hc ht1 (by omega) hb)
  refine zK ck_100 rfl ?_
  intro w1 hS
  refine (put_c (fun _ => False) w0 w1 _ _ _ _ _ (flagI t) t _ _ _ hV (fun h => by
    obtain ⟨b, o, e, hr⟩ := hV28.src (L := E28 ++ [.row g1 a.cells]) (fun e he => List.mem_append_left _ he) (by rw [u8s_len]; exact h)
    exact ⟨b, o, e, fun w hS => hr _ _ w hS⟩) hS (by split at hl <;> split at hgl <;> omega) (flagI_ok ht1)).mono ?_
  rintro e w' ⟨ad29, c29, E29, rfl, hV29, hS'⟩
  refine ⟨_, _, rfl, hS', ?_⟩
  refine zH <| rF 0 [9] <| pV (v_assign rfl rfl) rfl <| WP.nil <| rD <| eY <| eN <| WC.region <| zM rfl <| ?_
  refine zV (v_add rfl rfl rfl (w_i64 (by omega) (by omega))) rfl ?_
  refine zA rfl <| WL.nil <| ?_
  exact WE.next (t + 1, xs ++ putE (flagI t) t (valE a t), ad29, c29, E29) (by dsimp only; omega) ⟨by dsimp only; omega, by dsimp only; omega, by
  dsimp only
  rw [List.length_append, hpl]
  split at hl <;> split at hgl <;> split <;> split <;> omega, by
  dsimp only
  rw [show 9 - (t + 1) = 8 - t by omega, ← hx]
  unfold knownE
  rw [hb, List.append_assoc]; rfl, hV29⟩ (.int rfl (by dsimp only; omega) (.cons rfl (.cons rfl .nil))) (List.Sublist.append_left (List.sublist_append_right _ _) _)
  refine zN <| cF rfl <| cX <| eX <| eX <| eH <| eN <| cS <| cR <| zF rfl fld_35_9 <| zL rfl one_33 rfl <| zV (v_len_slice rfl rfl Tryz.underlying33) rfl <| zM rfl <| ?_
  refine zN <| cB <| ?_
  refine WC.loop (fun x : Nat × List Int × Option Addr × Nat × List Ent => [(33, .int .i64 x.1), (32, .int .i64 a.others.length), (31, .slice a.oad a.others.length a.oc), (5, .slice x.2.2.1 x.2.1.length x.2.2.2.1)]) (fun x => x.2.2.2.2 ++ []) (fun x => x.1 ≤ a.others.length ∧ x.2.1.length ≤ 573200 + 4100 * x.1 ∧ x.2.1 ++ (a.others.drop x.1).flatMap (fun o => putE 224 o.ty o.val) = bodyA a ∧ (∀ j o, j < x.1 → a.others[j]? = some o → decide (4096 < o.val.length) = false) ∧ BV x.2.2.1 x.2.2.2.1 x.2.1 x.2.2.2.2) (fun x => a.others.length - x.1) (0, xs, ad, c, E) ⟨Nat.zero_le _, by dsimp only; split at hl <;> omega, by
  dsimp only
  rw [show 9 - t = 0 by omega] at hx
  rw [List.range'_zero, List.flatMap_nil, List.append_nil] at hx
  rw [hx]; rfl, fun j _ h => absurd h (by dsimp only; omega), hV⟩ (.cons rfl (.cons rfl (.cons rfl (.cons rfl .nil)))) (List.Sublist.append_left (List.nil_sublist _) _) ?_
  rintro ⟨k, ys, ad2, c2, E2⟩ ⟨hk, hl2, hy, hsm, hV2⟩
  dsimp only at hk hl2 hy hsm hV2
  dsimp only
  refine cR ?_
  refine zT (v_lss rfl rfl rfl) rfl (fun h34 => ?_) (fun h34 => ?_)
  refine zN <| cS <| cT rfl <| cK <| eN <| cS <| cB <| cR <| ?_
  obtain ⟨o, hs⟩ : ∃ o, a.others[k]? = some o := ⟨a.others[k]'(by omega), List.getElem?_eq_getElem _⟩
  obtain ⟨b, off, ea, hr⟩ := hA.oths k o hs
  have hom := List.mem_of_getElem? hs
  have hoI := hI.oths o hom
  rw [drop_cons' hs, List.flatMap_cons] at hy
  refine zV ((v_indexAddr (b := b) (off := off) (lo := k) rfl (by show some (Value.slice a.oad _ _) = _; rw [ea]) rfl Tryz.underlying33 sz_181 rfl (by omega))) rfl ?_
  refine zV ((v_loadN (cs := o.cells) rfl rfl many_181 rfl (rgIn (fun h => h) hr))) rfl <| WL.alloc rfl zero_181 (.none rfl) rfl rfl <| ?_
  intro g8 hg8
  refine zW many_181 rfl rfl <| WL.to (L' := E2 ++ [.row g8 o.cells]) (fun w hS => hS.front [_]) <| zN <| cS <| cR <| zF rfl fld_181_1 <| zL rfl one_25 rfl <| zV (v_len_slice rfl rfl Tryz.underlying25) rfl <| ?_
  refine zT (v_gtr rfl rfl rfl) rfl (fun h40 => ?_) (fun h40 => ?_)
  refine zN <| cT rfl <| cR <| zA rfl <| zA rfl <| zN <| cE <| eR <| eB <| eR <| eR <| eB <| eR <| ?_
  refine WE.ret2 (P := Tryz.prog) (.inl rfl) Tryz.results77 rfl rfl ?_
  have he : encE a = 6 := (by
    have : (a.others.any fun o => decide (4096 < o.val.length)) = true := List.any_eq_true.2 ⟨o, hom, decide_eq_true (by omega)⟩
    unfold encE; rw [hc, this]; rfl)
  have ho : outA a = [] := (by unfold outA; rw [he]; rfl)
  rw [he, ho]
  exact fun w' h => ⟨_, rfl, OwnB.of (E := []) (xs := []) (Vec.nil 1) (h.sub (List.nil_sublist _)) rfl⟩
  refine zN <| cF rfl <| cK <| eN <| WC.region <| zM rfl <| zF rfl fld_181_0 <| zL rfl one_3 rfl <| zF rfl fld_181_1 <| zL rfl one_25 rfl <| ?_
  have hpl := putE_len 224 o.ty o.val
  refine zK ck_100 rfl ?_
  intro w1 hS
  refine (put_c (fun _ => False) w0 w1 _ _ _ _ _ 224 o.ty _ _ _ hV2 (fun h => by
    obtain ⟨b', o', e, hr'⟩ := hA.vals o hom (by rw [u8s_len]; exact h)
    exact ⟨b', o', e, rgIn (fun h => h) hr'⟩) hS (by omega) (by omega)).mono ?_
  rintro e w' ⟨ad46, c46, E46, rfl, hV46, hS'⟩
  refine ⟨_, _, rfl, hS', ?_⟩
  refine zA rfl <| WL.nil <| eY <| eN <| WC.region <| ?_
  refine zV (v_add rfl rfl rfl (w_i64 (by omega) (by omega))) rfl ?_
  refine zM rfl <| WL.nil <| ?_
  exact WE.next (k + 1, ys ++ putE 224 o.ty o.val, ad46, c46, E46) (by dsimp only; omega) ⟨by dsimp only; omega, by
  dsimp only
  rw [List.length_append, hpl]
  split <;> omega, by dsimp only; rw [List.append_assoc]; exact hy, fun j o' hj hjo => by
  by_cases e : j = k
  · subst e; rw [hs] at hjo; obtain rfl := Option.some.inj hjo; exact decide_eq_false (by omega)
  · exact hsm j o' (by dsimp only at hj; omega) hjo, hV46⟩ (.int rfl (by dsimp only; omega) (.cons rfl (.cons rfl (.cons rfl .nil)))) (List.Sublist.append_left (List.nil_sublist _) _)
  refine zN <| cS <| cF rfl <| cX <| eX <| eX <| eH <| eN <| cS <| cR <| zM rfl <| ?_
  obtain rfl : k = a.others.length := (by omega)
  rw [List.drop_length, List.flatMap_nil, List.append_nil] at hy
  have hna : (a.others.any fun o => decide (4096 < o.val.length)) = false := List.any_eq_false.2 fun o ho => by
    obtain ⟨j, hj, e⟩ := List.getElem_of_mem ho
    rw [hsm j o (by omega) (by rw [List.getElem?_eq_getElem hj, e])]; decide
  refine zV (v_len_slice rfl rfl Tryz.underlying25) rfl ?_
  refine zT (v_gtr rfl rfl rfl) rfl (fun h50 => ?_) (fun h50 => ?_)
  refine zN <| cT rfl <| cR <| zA rfl <| zA rfl <| zN <| cE <| eR <| WE.ret2 (P := Tryz.prog) (.inl rfl) Tryz.results77 rfl rfl <| ?_
  have he : encE a = 6 := (by
    unfold encE; rw [hc, hna, decide_eq_true (show 4096 < (bodyA a).length by rw [← hy]; omega)]; rfl)
  have ho : outA a = [] := (by unfold outA; rw [he]; rfl)
  rw [he, ho]
  exact fun w' h => ⟨_, rfl, OwnB.of (E := []) (xs := []) (Vec.nil 1) (h.sub (List.nil_sublist _)) rfl⟩
  refine zN <| cF rfl <| cK <| eN <| cR <| zM rfl <| zA rfl <| zA rfl <| zN <| cE <| WE.ret2 (P := Tryz.prog) (.inl rfl) Tryz.results77 rfl rfl <| ?_
  have he : encE a = 0 := (by
    unfold encE; rw [hc, hna, decide_eq_false (show ¬ 4096 < (bodyA a).length by rw [← hy]; omega)]; rfl)
  have ho : outA a = ys := (by unfold outA; rw [he, ← hy]; rfl)
  rw [he, ho]
  exact fun w' h => ⟨_, rfl, OwnB.of hV2 h rfl⟩

theorem n2_eq (m : Int) : n2 m = u8s (numB m 2) := by
  show n2 m = [.int .u8 (m / 2 ^ (8 * 1) % 256), .int .u8 (m / 2 ^ (8 * 0) % 256)]
  rw [show (2 : Int) ^ (8 * 1) = 256 by decide, show (2 : Int) ^ (8 * 0) = 1 by decide, Int.ediv_one]
  rfl
theorem put2_b (p : Nat → Prop) (w0 w1 : World) (L E : List Ent) (ad : Option Addr) (c : Nat) (xs : List Int) (m : Int) (hV : BV ad c xs E) (hS0 : St p w0 w1 (E ++ L)) (hk : xs.length ≤ 1000000) (h0 : 0 ≤ m) (h1 : m ≤ 9223372036854775807) :
    Calls Tryz.prog 48 #[.slice ad xs.length c, .int .i64 m] w1 fun e w' => ∃ ad' c' E', e = .returned (.slice ad' (xs ++ numB m 2).length c') ∧ BV ad' c' (xs ++ numB m 2) E' ∧ St p w0 w' (E' ++ L) :=
  (put2_c p w0 w1 L E ad _ c _ m hV hS0 hk h0 h1).mono (by
    rintro e w' ⟨ad', c', E', rfl, hV', hS'⟩
    rw [n2_eq, ← u8s_app] at hV'
    have := hV'.toB
    rw [this] at hV' ⊢
    exact ⟨ad', c', E', rfl, hV', hS'⟩)
theorem numB_get (n : Int) : ∀ (s i : Nat), i < s → (numB n s)[i]? = some (n / 2 ^ (8 * (s - 1 - i)) % 256)
  | s + 1, 0, _ => by simp [numB]
  | s + 1, i + 1, h => by
    rw [show numB n (s + 1) = n / 2 ^ (8 * s) % 256 :: numB n s from rfl, List.getElem?_cons_succ, numB_get n s i (by omega)]
    rw [show s + 1 - 1 - (i + 1) = s - 1 - i by omega]
theorem take_succ_get {α : Type} {xs : List α} {i : Nat} {x : α} (h : xs[i]? = some x) : xs.take (i + 1) = xs.take i ++ [x] := by
  rw [List.take_add_one, h]; rfl
def addrB (a : Int) (n : Nat) : List Int := (numB a 4).take n
theorem addrB_len (a : Int) {n : Nat} (h : n ≤ 4) : (addrB a n).length = n := by unfold addrB; rw [List.length_take, numB_len]; omega
set_option maxHeartbeats 1000000 in
theorem putAddr_c (p : Nat → Prop) (w0 w1 : World) (L E : List Ent) (ad : Option Addr) (c : Nat) (xs : List Int) (a : Int) (n : Nat) (hV : BV ad c xs E) (hS0 : St p w0 w1 (E ++ L)) (hk : xs.length ≤ 1000000) (hn : n ≤ 4) :
    Calls Tryz.prog 74 #[.slice ad xs.length c, .int .u32 a, .int .i64 n] w1 fun e w' => ∃ ad' c' E', e = .returned (.slice ad' (xs ++ addrB a n).length c') ∧ BV ad' c' (xs ++ addrB a n) E' ∧ St p w0 w' (E' ++ L) := by
  refine enter Tryz.func74 rfl Tryz.ntmps74 rfl hS0 ?_
  refine cR <| zA rfl <| zN <| cS <| cR <| zM rfl <| zM rfl <| zN <| cB <| ?_
  refine WC.loop (fun x : Nat × Option Addr × Nat × List Ent => [(9, .int .i64 x.1), (8, .int .i64 n), (1, .int .u32 a), (0, .slice x.2.1 (xs ++ addrB a x.1).length x.2.2.1)]) (fun x => x.2.2.2 ++ L) (fun x => x.1 ≤ n ∧ BV x.2.1 x.2.2.1 (xs ++ addrB a x.1) x.2.2.2) (fun x => n - x.1) (0, ad, c, E) ⟨Nat.zero_le _, by dsimp only; rw [show addrB a 0 = [] from rfl, List.append_nil]; exact hV⟩ (.cons rfl (.cons rfl (.cons rfl (.eq rfl (by dsimp only; rw [show addrB a 0 = [] from rfl, List.append_nil]) .nil)))) (.refl _) ?_
  rintro ⟨i, ad2, c2, E2⟩ ⟨hi, hV2⟩
  dsimp only at hi hV2
  dsimp only
  have hal := addrB_len a (n := i) (by omega)
  refine cR ?_
  refine zT (v_lss rfl rfl rfl) rfl (fun h10 => ?_) (fun h10 => ?_)
  refine zN <| cS <| cT rfl <| cK <| eN <| cS <| cB <| cR <| zM rfl <| zA rfl <| zN <| WC.region <| zM rfl <| ?_
  refine zM rfl <| zM rfl <| ?_
  refine zV (v_mul rfl rfl rfl (show _ = ((8 * i : Nat) : Int) from (w_i64 (by omega) (by omega)).trans (by omega))) rfl ?_
  refine zV (v_sub rfl rfl rfl (show _ = ((8 * (3 - i) : Nat) : Int) from (w_i64 (by omega) (by omega)).trans (by omega))) rfl ?_
  refine zV ((v_shr (m := 8 * (3 - i)) (c := (2 : Int) ^ (8 * (3 - i))) rfl rfl rfl rfl (by show 8 * (3 - i) ≤ 32; omega) rfl)) rfl ?_
  refine zV (v_conv rfl rfl Tryz.underlying5 Tryz.underlying23 (w_u8m _)) rfl <| zB Tryz.underlying25 sz_5 zero_5 rfl rfl <| ?_
  intro g19 hg19
  refine WL.as (L' := .row g19 (u8s [a / 2 ^ (8 * (3 - i)) % 256]) :: (E2 ++ L)) rfl <| WL.to (L' := E2 ++ (.row g19 (u8s [a / 2 ^ (8 * (3 - i)) % 256]) :: L)) (fun w hS => hS.front [_]) <| ?_
  refine WL.appendL rfl rfl rfl Tryz.underlying25 Tryz.underlying25 sz_5 by_5 zero_5 rfl rfl hV2 (new := u8s [a / 2 ^ (8 * (3 - i)) % 256]) (fun _ => ⟨g19, 0, rfl, fun w hS => allAt (g := g19) w hS⟩) rfl (u8s_one _) (by rw [List.length_append, hal]; omega) (.none rfl) rfl rfl ?_
  intro ad20 c20 E20 hV20 hr20
  have e0 : xs ++ addrB a (i + 1) = xs ++ addrB a i ++ [a / 2 ^ (8 * (3 - i)) % 256] := (by
    unfold addrB
    rw [take_succ_get (numB_get a 4 i (by omega)), show 4 - 1 - i = 3 - i by omega, List.append_assoc])
  have e1 : (xs ++ addrB a (i + 1)).length = (xs ++ addrB a i).length + 1 := (by rw [e0, List.length_append]; rfl)
  rw [← u8s_app, ← e0, ← e1] at hV20
  rw [← e1]
  refine zA rfl <| WL.nil <| eY <| eN <| WC.region <| ?_
  refine zV (v_add rfl rfl rfl (w_i64 (by omega) (by omega))) rfl ?_
  refine zM rfl <| WL.nil <| ?_
  exact WE.next (i + 1, ad20, c20, E20) (by dsimp only; omega) ⟨by dsimp only; omega, hV20⟩ (.int rfl (by dsimp only; omega) (.cons rfl (.cons rfl (.cons rfl .nil)))) (List.Sublist.append_left (.cons _ (.refl _)) _)
  refine zN <| cS <| cF rfl <| cX <| eX <| eX <| eH <| eN <| cR <| zM rfl <| zA rfl <| zN <| cE <| ?_
  refine tR Tryz.results74 rfl ?_
  obtain rfl : i = n := (by omega)
  exact fun w' h => ⟨ad2, c2, E2, rfl, hV2, h⟩
theorem needs_c (w : World) (n : Int) (h0 : 0 ≤ n) (h1 : n ≤ 1000) : Calls Tryz.prog 102 #[.int .i64 n] w fun e w' => e = .returned (.int .i64 (((n.toNat + 7) / 8 : Nat) : Int)) ∧ Frm (fun _ => False) w w' := by
  refine enter Tryz.func102 rfl Tryz.ntmps102 rfl (St.start (fun _ => False) w) ?_
  refine cR <| zA rfl <| zR <| zM rfl <| ?_
  refine zV (v_add rfl rfl rfl (w_i64 (by omega) (by omega))) rfl ?_
  refine zV (v_quo rfl rfl rfl (by omega) (by omega) (w_i64 (by omega) (by omega))) rfl ?_
  refine zA rfl <| zN <| cE <| tR Tryz.results102 rfl <| ?_
  exact fun w' h => ⟨by congr 3; omega, h.frm⟩
theorem formed_c (w : World) (ad : Option Addr) (c : Nat) (ps : List PfL) (hR : RowsAt w ad 2 PfL.cells ps) (hn : ps.length ≤ 9223372036854775807) (hI : ∀ p ∈ ps, U32 p.addr ∧ I64 p.len) :
    Calls Tryz.prog 75 #[.slice ad ps.length c] w fun e w' => e = .returned (.bool (ps.all pfOk)) ∧ Frm (fun _ => False) w w' := by
  refine enter Tryz.func75 rfl Tryz.ntmps75 rfl (St.start (fun _ => False) w) ?_
  refine cR <| zA rfl <| zN <| cS <| cR <| zM rfl <| zV (v_len_slice rfl rfl Tryz.underlying30) rfl <| zM rfl <| zN <| cB <| ?_
  refine WC.loop (fun k : Nat => [(7, .int .i64 k), (6, .int .i64 ps.length), (5, .slice ad ps.length c)]) (fun _ => []) (fun k => k ≤ ps.length ∧ ∀ j x, j < k → ps[j]? = some x → pfOk x = true) (fun k => ps.length - k) 0 ⟨Nat.zero_le _, fun j _ h => absurd h (by omega)⟩ (.cons rfl (.cons rfl (.cons rfl .nil))) (.refl _) ?_
  rintro k ⟨hk, hall⟩
  refine cR ?_
  refine zT (v_lss rfl rfl rfl) rfl (fun h8 => ?_) (fun h8 => ?_)
  refine zN <| cS <| cT rfl <| cK <| eN <| cS <| cB <| cR <| ?_
  obtain ⟨x, hx⟩ : ∃ x, ps[k]? = some x := ⟨ps[k]'(by omega), List.getElem?_eq_getElem _⟩
  obtain ⟨b, o, ea, hr⟩ := hR k x hx
  refine zV ((v_indexAddr (b := b) (off := o) (lo := k) rfl (by show some (Value.slice ad _ _) = _; rw [ea]) rfl Tryz.underlying30 sz_177 rfl (by omega))) rfl ?_
  refine zV ((v_loadN (cs := x.cells) rfl rfl many_177 rfl (rgIn (fun h => h) hr))) rfl <| WL.alloc rfl zero_177 (.none rfl) rfl rfl <| ?_
  intro g4 hg4
  refine zW many_177 rfl rfl <| zR <| zV (v_loadN rfl rfl many_177 rfl allAt) rfl <| zK ck_97 rfl <| ?_
  intro w hS
  refine Calls.then (PCheck_c w x (hI x (List.mem_of_getElem? hx)).1) hS ?_
  generalize hb : pfOk x = bb
  cases bb
  refine zV ((v_neq rfl rfl rfl).t ((by decide))) rfl ?_
  refine zN <| cT rfl <| cR <| zA rfl <| zN <| cE <| eB <| eR <| eR <| eB <| eR <| tR Tryz.results75 rfl <| ?_
  exact fun w' h => ⟨by rw [not_all hx hb], h.frm⟩
  refine zV ((v_neq rfl rfl rfl).f ((by decide))) rfl ?_
  refine zN <| cF rfl <| cK <| eY <| eN <| WC.region <| ?_
  refine zV (v_add rfl rfl rfl (w_i64 (by omega) (by omega))) rfl ?_
  refine zM rfl <| WL.nil <| ?_
  exact WE.next (k + 1) (by omega) ⟨by omega, fun j y hj hy => by
  by_cases e : j = k
  · subst e; rw [hx] at hy; obtain rfl := Option.some.inj hy; exact hb
  · exact hall j y (by omega) hy⟩ (.int rfl (by omega) (.cons rfl (.cons rfl .nil))) (List.nil_sublist _)
  refine zN <| cS <| cF rfl <| cX <| eX <| eX <| eH <| eN <| cR <| zA rfl <| zN <| cE <| tR Tryz.results75 rfl <| ?_
  exact fun w' h => ⟨by rw [all_of fun j x hj hx => hall j x (by omega) hx], h.frm⟩
def netE (p : PfL) : List Int := numB p.len 1 ++ addrB p.addr ((p.len.toNat + 7) / 8)
def netsE (ps : List PfL) : List Int := ps.flatMap netE
theorem pfOk_len {p : PfL} (h : pfOk p = true) : 0 ≤ p.len ∧ p.len ≤ 32 := by
  have := of_decide_eq_true h
  have h2 := inI_b p.len
  omega
theorem netE_len {p : PfL} (h : pfOk p = true) : (netE p).length ≤ 5 := by
  have := pfOk_len h
  unfold netE
  rw [List.length_append, numB_len, addrB_len _ (by omega)]
  omega
set_option maxHeartbeats 4000000 in
theorem putNets_c (w0 w1 : World) (L E : List Ent) (ad : Option Addr) (c : Nat) (xs : List Int) (ps : List PfL) (pa : Option Addr) (pc : Nat) (hV : BV ad c xs E) (hR : RowsAt w0 pa 2 PfL.cells ps) (hS0 : St (fun _ => False) w0 w1 (E ++ L)) (hk : xs.length + 5 * ps.length ≤ 1000000) (ho : ps.all pfOk = true) :
    Calls Tryz.prog 78 #[.slice ad xs.length c, .slice pa ps.length pc] w1 fun e w' => ∃ ad' c' E', e = .returned (.slice ad' (xs ++ netsE ps).length c') ∧ BV ad' c' (xs ++ netsE ps) E' ∧ St (fun _ => False) w0 w' (E' ++ L) := by
  refine enter Tryz.func78 rfl Tryz.ntmps78 rfl hS0 ?_
  refine cR <| zA rfl <| zN <| cS <| cR <| zM rfl <| zV (v_len_slice rfl rfl Tryz.underlying30) rfl <| zM rfl <| zN <| cB <| WC.loop (fun x : Nat × List Int × Option Addr × Nat × List Ent => [(9, .int .i64 x.1), (8, .int .i64 ps.length), (7, .slice pa ps.length pc), (0, .slice x.2.2.1 x.2.1.length x.2.2.2.1)]) (fun x => x.2.2.2.2 ++ L) (fun x => x.1 ≤ ps.length ∧ x.2.1.length ≤ xs.length + 5 * x.1 ∧ x.2.1 ++ netsE (ps.drop x.1) = xs ++ netsE ps ∧ BV x.2.2.1 x.2.2.2.1 x.2.1 x.2.2.2.2) (fun x => ps.length - x.1) (0, xs, ad, c, E) ⟨Nat.zero_le _, Nat.le_refl _, rfl, hV⟩ (.cons rfl (.cons rfl (.cons rfl (.cons rfl .nil)))) (.refl _) <| ?_
  rintro ⟨k, ys, ad2, c2, E2⟩ ⟨hk2, hl2, hy, hV2⟩
  dsimp only at hk2 hl2 hy hV2
  dsimp only
  refine cR ?_
  refine zT (v_lss rfl rfl rfl) rfl (fun h10 => ?_) (fun h10 => ?_)
  refine zN <| cS <| cT rfl <| cK <| eN <| cS <| cB <| cR <| ?_
  obtain ⟨x, hx⟩ : ∃ x, ps[k]? = some x := ⟨ps[k]'(by omega), List.getElem?_eq_getElem _⟩
  have hxo := List.all_eq_true.1 ho x (List.mem_of_getElem? hx)
  have hxl := pfOk_len hxo
  have hnl := netE_len hxo
  unfold netsE at hy
  rw [drop_cons' hx, List.flatMap_cons] at hy
  obtain ⟨b, o, ea, hr⟩ := hR k x hx
  refine zV ((v_indexAddr (b := b) (off := o) (lo := k) rfl (by show some (Value.slice pa _ _) = _; rw [ea]) rfl Tryz.underlying30 sz_177 rfl (by omega))) rfl ?_
  refine zV ((v_loadN (cs := x.cells) rfl rfl many_177 rfl (rgIn (fun h => h) hr))) rfl <| WL.alloc rfl zero_177 (.none rfl) rfl rfl <| ?_
  intro g6 hg6
  refine zW many_177 rfl rfl <| WL.as (L' := .row g6 x.cells :: (E2 ++ L)) rfl <| WL.to (L' := E2 ++ (.row g6 x.cells :: L)) (fun w hS => hS.front [_]) <| zN <| WC.orders mixed <| rF 9 [0, 1, 6, 8] <| pV (v_move rfl rfl) rfl <| pV (v_fieldAddr0 rfl rfl fld_177_1) rfl <| pV (v_fieldAddr0 rfl rfl fld_177_0) rfl <| pV (v_fieldAddr0 rfl rfl fld_177_1) rfl <| WP.nil <| ?_
  refine WR.each (g := 8) [2, 7, 9] (by kernel_rfl) (by decide) ?_
  refine ⟨?_, ⟨?_, ?_⟩⟩
  refine zL rfl one_3 rfl <| zH <| rF 7 [3] <| pV (v_conv rfl rfl Tryz.underlying5 Tryz.underlying3 (w_u8m _)) rfl <| WP.nil <| ?_
  refine WR.each (g := 6) [4, 7, 9] (by kernel_rfl) (by decide) ?_
  refine ⟨?_, ⟨?_, ?_⟩⟩
  refine zB Tryz.underlying25 sz_5 zero_5 rfl rfl ?_
  intro g17 hg17
  refine WL.as (L' := .row g17 (u8s [x.len % 256]) :: (E2 ++ (.row g6 x.cells :: L))) rfl <| WL.to (L' := E2 ++ (.row g17 (u8s [x.len % 256]) :: .row g6 x.cells :: L)) (fun w hS => hS.front [_]) <| zH <| ?_
  refine WR.each (g := 5) [5, 7, 9] (by kernel_rfl) (by decide) ?_
  refine ⟨?_, ⟨?_, ?_⟩⟩
  refine WL.appendL rfl rfl rfl Tryz.underlying25 Tryz.underlying25 sz_5 by_5 zero_5 rfl rfl hV2 (new := u8s [x.len % 256]) (fun _ => ⟨g17, 0, rfl, fun w hS => allAt (g := g17) w hS⟩) rfl (u8s_one _) (by omega) (.none rfl) rfl rfl ?_
  intro ad18 c18 E18 hV18 hr18
  rw [← u8s_app] at hV18
  rw [show ys.length + 1 = (ys ++ [x.len % 256]).length by rw [List.length_append]; rfl] at hV18 ⊢
  refine zH <| rA 2 [7, 9, 10] rfl <| qV (v_load1 rfl rfl one_23 (cellAt rfl)) rfl <| qV (v_load1 rfl rfl one_3 (cellAt rfl)) rfl <| ?_
  refine WQ.call _ rfl rfl ck_102 (.none rfl) rfl rfl (fun w hS => Calls.still (needs_c w x.len (by omega) (by omega)) hS) ?_
  refine WQ.nilR <| rO 1 [11] <| zK ck_74 rfl <| ?_
  intro w1 hS
  refine (putAddr_c (fun _ => False) w0 w1 _ _ _ _ _ x.addr ((x.len.toNat + 7) / 8) hV18 hS (by rw [List.length_append]; show ys.length + 1 ≤ _; omega) (by omega)).mono ?_
  rintro e w' ⟨ad24, c24, E24, rfl, hV24, hS'⟩
  refine ⟨_, _, rfl, hS', ?_⟩
  refine zH <| rF 0 [12] <| pV (v_assign rfl rfl) rfl <| WP.nil <| rD <| eY <| eN <| WC.region <| ?_
  refine zV (v_add rfl rfl rfl (w_i64 (by omega) (by omega))) rfl ?_
  refine zM rfl <| WL.nil <| ?_
  have hz : ys ++ [x.len % 256] ++ addrB x.addr ((x.len.toNat + 7) / 8) = ys ++ netE x := (by unfold netE; rw [List.append_assoc]; congr 2; show [_] = [_]; rw [show (2 : Int) ^ (8 * 0) = 1 by decide, Int.ediv_one])
  exact WE.next (k + 1, _, ad24, c24, E24) (by dsimp only; omega) ⟨by dsimp only; omega, by dsimp only; rw [hz, List.length_append]; omega, by dsimp only; rw [hz, List.append_assoc]; exact hy, hV24⟩ (.int rfl (by dsimp only; omega) (.cons rfl (.cons rfl (.cons rfl .nil)))) (List.Sublist.append_left (.cons _ (.cons _ (.refl _))) _)
  refine zL rfl one_23 rfl <| zH <| ?_
  refine WR.each (g := 4) [5, 9] (by kernel_rfl) (by decide) ?_
  refine ⟨?_, ?_⟩
  refine WL.appendL rfl rfl rfl Tryz.underlying25 Tryz.underlying25 sz_5 by_5 zero_5 rfl rfl hV2 (new := u8s [x.len % 256]) (fun _ => ⟨g17, 0, rfl, fun w hS => allAt (g := g17) w hS⟩) rfl (u8s_one _) (by omega) (.none rfl) rfl rfl ?_
  intro ad18 c18 E18 hV18 hr18
  rw [← u8s_app] at hV18
  rw [show ys.length + 1 = (ys ++ [x.len % 256]).length by rw [List.length_append]; rfl] at hV18 ⊢
  refine zH <| rA 2 [9, 10] rfl <| qV (v_load1 rfl rfl one_3 (cellAt rfl)) rfl <| ?_
  refine WQ.call _ rfl rfl ck_102 (.none rfl) rfl rfl (fun w hS => Calls.still (needs_c w x.len (by omega) (by omega)) hS) ?_
  refine WQ.nilR <| rO 1 [11] <| zK ck_74 rfl <| ?_
  intro w1 hS
  refine (putAddr_c (fun _ => False) w0 w1 _ _ _ _ _ x.addr ((x.len.toNat + 7) / 8) hV18 hS (by rw [List.length_append]; show ys.length + 1 ≤ _; omega) (by omega)).mono ?_
  rintro e w' ⟨ad24, c24, E24, rfl, hV24, hS'⟩
  refine ⟨_, _, rfl, hS', ?_⟩
  refine zH <| rF 0 [12] <| pV (v_assign rfl rfl) rfl <| WP.nil <| rD <| eY <| eN <| WC.region <| ?_
  refine zV (v_add rfl rfl rfl (w_i64 (by omega) (by omega))) rfl ?_
  refine zM rfl <| WL.nil <| ?_
  have hz : ys ++ [x.len % 256] ++ addrB x.addr ((x.len.toNat + 7) / 8) = ys ++ netE x := (by unfold netE; rw [List.append_assoc]; congr 2; show [_] = [_]; rw [show (2 : Int) ^ (8 * 0) = 1 by decide, Int.ediv_one])
  exact WE.next (k + 1, _, ad24, c24, E24) (by dsimp only; omega) ⟨by dsimp only; omega, by dsimp only; rw [hz, List.length_append]; omega, by dsimp only; rw [hz, List.append_assoc]; exact hy, hV24⟩ (.int rfl (by dsimp only; omega) (.cons rfl (.cons rfl (.cons rfl .nil)))) (List.Sublist.append_left (.cons _ (.cons _ (.refl _))) _)
  refine zL rfl one_3 rfl <| zH <| rO 3 [5] <| ?_
  refine WL.appendL rfl rfl rfl Tryz.underlying25 Tryz.underlying25 sz_5 by_5 zero_5 rfl rfl hV2 (new := u8s [x.len % 256]) (fun _ => ⟨g17, 0, rfl, fun w hS => allAt (g := g17) w hS⟩) rfl (u8s_one _) (by omega) (.none rfl) rfl rfl ?_
  intro ad18 c18 E18 hV18 hr18
  rw [← u8s_app] at hV18
  rw [show ys.length + 1 = (ys ++ [x.len % 256]).length by rw [List.length_append]; rfl] at hV18 ⊢
  refine zH <| rA 2 [10] rfl <| ?_
  refine WQ.call _ rfl rfl ck_102 (.none rfl) rfl rfl (fun w hS => Calls.still (needs_c w x.len (by omega) (by omega)) hS) ?_
  refine WQ.nilR <| rO 1 [11] <| zK ck_74 rfl <| ?_
  intro w1 hS
  refine (putAddr_c (fun _ => False) w0 w1 _ _ _ _ _ x.addr ((x.len.toNat + 7) / 8) hV18 hS (by rw [List.length_append]; show ys.length + 1 ≤ _; omega) (by omega)).mono ?_
  rintro e w' ⟨ad24, c24, E24, rfl, hV24, hS'⟩
  refine ⟨_, _, rfl, hS', ?_⟩
  refine zH <| rF 0 [12] <| pV (v_assign rfl rfl) rfl <| WP.nil <| rD <| eY <| eN <| WC.region <| ?_
  refine zV (v_add rfl rfl rfl (w_i64 (by omega) (by omega))) rfl ?_
  refine zM rfl <| WL.nil <| ?_
  have hz : ys ++ [x.len % 256] ++ addrB x.addr ((x.len.toNat + 7) / 8) = ys ++ netE x := (by unfold netE; rw [List.append_assoc]; congr 2; show [_] = [_]; rw [show (2 : Int) ^ (8 * 0) = 1 by decide, Int.ediv_one])
  exact WE.next (k + 1, _, ad24, c24, E24) (by dsimp only; omega) ⟨by dsimp only; omega, by dsimp only; rw [hz, List.length_append]; omega, by dsimp only; rw [hz, List.append_assoc]; exact hy, hV24⟩ (.int rfl (by dsimp only; omega) (.cons rfl (.cons rfl (.cons rfl .nil)))) (List.Sublist.append_left (.cons _ (.cons _ (.refl _))) _)
  refine zL rfl one_3 rfl <| zH <| ?_
  refine WR.each (g := 4) [5, 7] (by kernel_rfl) (by decide) ?_
  refine ⟨?_, ?_⟩
  refine WL.appendL rfl rfl rfl Tryz.underlying25 Tryz.underlying25 sz_5 by_5 zero_5 rfl rfl hV2 (new := u8s [x.len % 256]) (fun _ => ⟨g17, 0, rfl, fun w hS => allAt (g := g17) w hS⟩) rfl (u8s_one _) (by omega) (.none rfl) rfl rfl ?_
  intro ad18 c18 E18 hV18 hr18
  rw [← u8s_app] at hV18
  rw [show ys.length + 1 = (ys ++ [x.len % 256]).length by rw [List.length_append]; rfl] at hV18 ⊢
  refine zH <| rA 2 [7, 10] rfl <| qV (v_load1 rfl rfl one_23 (cellAt rfl)) rfl <| ?_
  refine WQ.call _ rfl rfl ck_102 (.none rfl) rfl rfl (fun w hS => Calls.still (needs_c w x.len (by omega) (by omega)) hS) ?_
  refine WQ.nilR <| rO 1 [11] <| zK ck_74 rfl <| ?_
  intro w1 hS
  refine (putAddr_c (fun _ => False) w0 w1 _ _ _ _ _ x.addr ((x.len.toNat + 7) / 8) hV18 hS (by rw [List.length_append]; show ys.length + 1 ≤ _; omega) (by omega)).mono ?_
  rintro e w' ⟨ad24, c24, E24, rfl, hV24, hS'⟩
  refine ⟨_, _, rfl, hS', ?_⟩
  refine zH <| rF 0 [12] <| pV (v_assign rfl rfl) rfl <| WP.nil <| rD <| eY <| eN <| WC.region <| ?_
  refine zV (v_add rfl rfl rfl (w_i64 (by omega) (by omega))) rfl ?_
  refine zM rfl <| WL.nil <| ?_
  have hz : ys ++ [x.len % 256] ++ addrB x.addr ((x.len.toNat + 7) / 8) = ys ++ netE x := (by unfold netE; rw [List.append_assoc]; congr 2; show [_] = [_]; rw [show (2 : Int) ^ (8 * 0) = 1 by decide, Int.ediv_one])
  exact WE.next (k + 1, _, ad24, c24, E24) (by dsimp only; omega) ⟨by dsimp only; omega, by dsimp only; rw [hz, List.length_append]; omega, by dsimp only; rw [hz, List.append_assoc]; exact hy, hV24⟩ (.int rfl (by dsimp only; omega) (.cons rfl (.cons rfl (.cons rfl .nil)))) (List.Sublist.append_left (.cons _ (.cons _ (.refl _))) _)
  refine zL rfl one_23 rfl <| zH <| rO 3 [5] <| ?_
  refine WL.appendL rfl rfl rfl Tryz.underlying25 Tryz.underlying25 sz_5 by_5 zero_5 rfl rfl hV2 (new := u8s [x.len % 256]) (fun _ => ⟨g17, 0, rfl, fun w hS => allAt (g := g17) w hS⟩) rfl (u8s_one _) (by omega) (.none rfl) rfl rfl ?_
  intro ad18 c18 E18 hV18 hr18
  rw [← u8s_app] at hV18
  rw [show ys.length + 1 = (ys ++ [x.len % 256]).length by rw [List.length_append]; rfl] at hV18 ⊢
  refine zH <| rA 2 [10] rfl <| ?_
  refine WQ.call _ rfl rfl ck_102 (.none rfl) rfl rfl (fun w hS => Calls.still (needs_c w x.len (by omega) (by omega)) hS) ?_
  refine WQ.nilR <| rO 1 [11] <| zK ck_74 rfl <| ?_
  intro w1 hS
  refine (putAddr_c (fun _ => False) w0 w1 _ _ _ _ _ x.addr ((x.len.toNat + 7) / 8) hV18 hS (by rw [List.length_append]; show ys.length + 1 ≤ _; omega) (by omega)).mono ?_
  rintro e w' ⟨ad24, c24, E24, rfl, hV24, hS'⟩
  refine ⟨_, _, rfl, hS', ?_⟩
  refine zH <| rF 0 [12] <| pV (v_assign rfl rfl) rfl <| WP.nil <| rD <| eY <| eN <| WC.region <| ?_
  refine zV (v_add rfl rfl rfl (w_i64 (by omega) (by omega))) rfl ?_
  refine zM rfl <| WL.nil <| ?_
  have hz : ys ++ [x.len % 256] ++ addrB x.addr ((x.len.toNat + 7) / 8) = ys ++ netE x := (by unfold netE; rw [List.append_assoc]; congr 2; show [_] = [_]; rw [show (2 : Int) ^ (8 * 0) = 1 by decide, Int.ediv_one])
  exact WE.next (k + 1, _, ad24, c24, E24) (by dsimp only; omega) ⟨by dsimp only; omega, by dsimp only; rw [hz, List.length_append]; omega, by dsimp only; rw [hz, List.append_assoc]; exact hy, hV24⟩ (.int rfl (by dsimp only; omega) (.cons rfl (.cons rfl (.cons rfl .nil)))) (List.Sublist.append_left (.cons _ (.cons _ (.refl _))) _)
  refine zL rfl one_23 rfl <| zH <| ?_
  refine WR.each (g := 5) [4, 9] (by kernel_rfl) (by decide) ?_
  refine ⟨?_, ?_⟩
  refine zB Tryz.underlying25 sz_5 zero_5 rfl rfl ?_
  intro g17 hg17
  refine WL.as (L' := .row g17 (u8s [x.len % 256]) :: (E2 ++ (.row g6 x.cells :: L))) rfl <| WL.to (L' := E2 ++ (.row g17 (u8s [x.len % 256]) :: .row g6 x.cells :: L)) (fun w hS => hS.front [_]) <| zH <| ?_
  refine WR.each (g := 4) [5, 9] (by kernel_rfl) (by decide) ?_
  refine ⟨?_, ?_⟩
  refine WL.appendL rfl rfl rfl Tryz.underlying25 Tryz.underlying25 sz_5 by_5 zero_5 rfl rfl hV2 (new := u8s [x.len % 256]) (fun _ => ⟨g17, 0, rfl, fun w hS => allAt (g := g17) w hS⟩) rfl (u8s_one _) (by omega) (.none rfl) rfl rfl ?_
  intro ad18 c18 E18 hV18 hr18
  rw [← u8s_app] at hV18
  rw [show ys.length + 1 = (ys ++ [x.len % 256]).length by rw [List.length_append]; rfl] at hV18 ⊢
  refine zH <| rA 2 [9, 10] rfl <| qV (v_load1 rfl rfl one_3 (cellAt rfl)) rfl <| ?_
  refine WQ.call _ rfl rfl ck_102 (.none rfl) rfl rfl (fun w hS => Calls.still (needs_c w x.len (by omega) (by omega)) hS) ?_
  refine WQ.nilR <| rO 1 [11] <| zK ck_74 rfl <| ?_
  intro w1 hS
  refine (putAddr_c (fun _ => False) w0 w1 _ _ _ _ _ x.addr ((x.len.toNat + 7) / 8) hV18 hS (by rw [List.length_append]; show ys.length + 1 ≤ _; omega) (by omega)).mono ?_
  rintro e w' ⟨ad24, c24, E24, rfl, hV24, hS'⟩
  refine ⟨_, _, rfl, hS', ?_⟩
  refine zH <| rF 0 [12] <| pV (v_assign rfl rfl) rfl <| WP.nil <| rD <| eY <| eN <| WC.region <| ?_
  refine zV (v_add rfl rfl rfl (w_i64 (by omega) (by omega))) rfl ?_
  refine zM rfl <| WL.nil <| ?_
  have hz : ys ++ [x.len % 256] ++ addrB x.addr ((x.len.toNat + 7) / 8) = ys ++ netE x := (by unfold netE; rw [List.append_assoc]; congr 2; show [_] = [_]; rw [show (2 : Int) ^ (8 * 0) = 1 by decide, Int.ediv_one])
  exact WE.next (k + 1, _, ad24, c24, E24) (by dsimp only; omega) ⟨by dsimp only; omega, by dsimp only; rw [hz, List.length_append]; omega, by dsimp only; rw [hz, List.append_assoc]; exact hy, hV24⟩ (.int rfl (by dsimp only; omega) (.cons rfl (.cons rfl (.cons rfl .nil)))) (List.Sublist.append_left (.cons _ (.cons _ (.refl _))) _)
  refine zL rfl one_3 rfl <| zH <| rO 3 [5] <| ?_
  refine WL.appendL rfl rfl rfl Tryz.underlying25 Tryz.underlying25 sz_5 by_5 zero_5 rfl rfl hV2 (new := u8s [x.len % 256]) (fun _ => ⟨g17, 0, rfl, fun w hS => allAt (g := g17) w hS⟩) rfl (u8s_one _) (by omega) (.none rfl) rfl rfl ?_
  intro ad18 c18 E18 hV18 hr18
  rw [← u8s_app] at hV18
  rw [show ys.length + 1 = (ys ++ [x.len % 256]).length by rw [List.length_append]; rfl] at hV18 ⊢
  refine zH <| rA 2 [10] rfl <| ?_
  refine WQ.call _ rfl rfl ck_102 (.none rfl) rfl rfl (fun w hS => Calls.still (needs_c w x.len (by omega) (by omega)) hS) ?_
  refine WQ.nilR <| rO 1 [11] <| zK ck_74 rfl <| ?_
  intro w1 hS
  refine (putAddr_c (fun _ => False) w0 w1 _ _ _ _ _ x.addr ((x.len.toNat + 7) / 8) hV18 hS (by rw [List.length_append]; show ys.length + 1 ≤ _; omega) (by omega)).mono ?_
  rintro e w' ⟨ad24, c24, E24, rfl, hV24, hS'⟩
  refine ⟨_, _, rfl, hS', ?_⟩
  refine zH <| rF 0 [12] <| pV (v_assign rfl rfl) rfl <| WP.nil <| rD <| eY <| eN <| WC.region <| ?_
  refine zV (v_add rfl rfl rfl (w_i64 (by omega) (by omega))) rfl ?_
  refine zM rfl <| WL.nil <| ?_
  have hz : ys ++ [x.len % 256] ++ addrB x.addr ((x.len.toNat + 7) / 8) = ys ++ netE x := (by unfold netE; rw [List.append_assoc]; congr 2; show [_] = [_]; rw [show (2 : Int) ^ (8 * 0) = 1 by decide, Int.ediv_one])
  exact WE.next (k + 1, _, ad24, c24, E24) (by dsimp only; omega) ⟨by dsimp only; omega, by dsimp only; rw [hz, List.length_append]; omega, by dsimp only; rw [hz, List.append_assoc]; exact hy, hV24⟩ (.int rfl (by dsimp only; omega) (.cons rfl (.cons rfl (.cons rfl .nil)))) (List.Sublist.append_left (.cons _ (.cons _ (.refl _))) _)
  refine zL rfl one_3 rfl <| zH <| rO 3 [4, 5] <| zB Tryz.underlying25 sz_5 zero_5 rfl rfl <| ?_
  intro g17 hg17
  refine WL.as (L' := .row g17 (u8s [x.len % 256]) :: (E2 ++ (.row g6 x.cells :: L))) rfl <| WL.to (L' := E2 ++ (.row g17 (u8s [x.len % 256]) :: .row g6 x.cells :: L)) (fun w hS => hS.front [_]) <| ?_
  refine WL.appendL rfl rfl rfl Tryz.underlying25 Tryz.underlying25 sz_5 by_5 zero_5 rfl rfl hV2 (new := u8s [x.len % 256]) (fun _ => ⟨g17, 0, rfl, fun w hS => allAt (g := g17) w hS⟩) rfl (u8s_one _) (by omega) (.none rfl) rfl rfl ?_
  intro ad18 c18 E18 hV18 hr18
  rw [← u8s_app] at hV18
  rw [show ys.length + 1 = (ys ++ [x.len % 256]).length by rw [List.length_append]; rfl] at hV18 ⊢
  refine zH <| rA 2 [10] rfl <| ?_
  refine WQ.call _ rfl rfl ck_102 (.none rfl) rfl rfl (fun w hS => Calls.still (needs_c w x.len (by omega) (by omega)) hS) ?_
  refine WQ.nilR <| rO 1 [11] <| zK ck_74 rfl <| ?_
  intro w1 hS
  refine (putAddr_c (fun _ => False) w0 w1 _ _ _ _ _ x.addr ((x.len.toNat + 7) / 8) hV18 hS (by rw [List.length_append]; show ys.length + 1 ≤ _; omega) (by omega)).mono ?_
  rintro e w' ⟨ad24, c24, E24, rfl, hV24, hS'⟩
  refine ⟨_, _, rfl, hS', ?_⟩
  refine zH <| rF 0 [12] <| pV (v_assign rfl rfl) rfl <| WP.nil <| rD <| eY <| eN <| WC.region <| ?_
  refine zV (v_add rfl rfl rfl (w_i64 (by omega) (by omega))) rfl ?_
  refine zM rfl <| WL.nil <| ?_
  have hz : ys ++ [x.len % 256] ++ addrB x.addr ((x.len.toNat + 7) / 8) = ys ++ netE x := (by unfold netE; rw [List.append_assoc]; congr 2; show [_] = [_]; rw [show (2 : Int) ^ (8 * 0) = 1 by decide, Int.ediv_one])
  exact WE.next (k + 1, _, ad24, c24, E24) (by dsimp only; omega) ⟨by dsimp only; omega, by dsimp only; rw [hz, List.length_append]; omega, by dsimp only; rw [hz, List.append_assoc]; exact hy, hV24⟩ (.int rfl (by dsimp only; omega) (.cons rfl (.cons rfl (.cons rfl .nil)))) (List.Sublist.append_left (.cons _ (.cons _ (.refl _))) _)
  refine zL rfl one_3 rfl <| zH <| ?_
  refine WR.each (g := 5) [4, 7] (by kernel_rfl) (by decide) ?_
  refine ⟨?_, ?_⟩
  refine zB Tryz.underlying25 sz_5 zero_5 rfl rfl ?_
  intro g17 hg17
  refine WL.as (L' := .row g17 (u8s [x.len % 256]) :: (E2 ++ (.row g6 x.cells :: L))) rfl <| WL.to (L' := E2 ++ (.row g17 (u8s [x.len % 256]) :: .row g6 x.cells :: L)) (fun w hS => hS.front [_]) <| zH <| ?_
  refine WR.each (g := 4) [5, 7] (by kernel_rfl) (by decide) ?_
  refine ⟨?_, ?_⟩
  refine WL.appendL rfl rfl rfl Tryz.underlying25 Tryz.underlying25 sz_5 by_5 zero_5 rfl rfl hV2 (new := u8s [x.len % 256]) (fun _ => ⟨g17, 0, rfl, fun w hS => allAt (g := g17) w hS⟩) rfl (u8s_one _) (by omega) (.none rfl) rfl rfl ?_
  intro ad18 c18 E18 hV18 hr18
  rw [← u8s_app] at hV18
  rw [show ys.length + 1 = (ys ++ [x.len % 256]).length by rw [List.length_append]; rfl] at hV18 ⊢
  refine zH <| rA 2 [7, 10] rfl <| qV (v_load1 rfl rfl one_23 (cellAt rfl)) rfl <| ?_
  refine WQ.call _ rfl rfl ck_102 (.none rfl) rfl rfl (fun w hS => Calls.still (needs_c w x.len (by omega) (by omega)) hS) ?_
  refine WQ.nilR <| rO 1 [11] <| zK ck_74 rfl <| ?_
  intro w1 hS
  refine (putAddr_c (fun _ => False) w0 w1 _ _ _ _ _ x.addr ((x.len.toNat + 7) / 8) hV18 hS (by rw [List.length_append]; show ys.length + 1 ≤ _; omega) (by omega)).mono ?_
  rintro e w' ⟨ad24, c24, E24, rfl, hV24, hS'⟩
  refine ⟨_, _, rfl, hS', ?_⟩
  refine zH <| rF 0 [12] <| pV (v_assign rfl rfl) rfl <| WP.nil <| rD <| eY <| eN <| WC.region <| ?_
  refine zV (v_add rfl rfl rfl (w_i64 (by omega) (by omega))) rfl ?_
  refine zM rfl <| WL.nil <| ?_
  have hz : ys ++ [x.len % 256] ++ addrB x.addr ((x.len.toNat + 7) / 8) = ys ++ netE x := (by unfold netE; rw [List.append_assoc]; congr 2; show [_] = [_]; rw [show (2 : Int) ^ (8 * 0) = 1 by decide, Int.ediv_one])
  exact WE.next (k + 1, _, ad24, c24, E24) (by dsimp only; omega) ⟨by dsimp only; omega, by dsimp only; rw [hz, List.length_append]; omega, by dsimp only; rw [hz, List.append_assoc]; exact hy, hV24⟩ (.int rfl (by dsimp only; omega) (.cons rfl (.cons rfl (.cons rfl .nil)))) (List.Sublist.append_left (.cons _ (.cons _ (.refl _))) _)
  refine zL rfl one_23 rfl <| zH <| rO 3 [5] <| ?_
  refine WL.appendL rfl rfl rfl Tryz.underlying25 Tryz.underlying25 sz_5 by_5 zero_5 rfl rfl hV2 (new := u8s [x.len % 256]) (fun _ => ⟨g17, 0, rfl, fun w hS => allAt (g := g17) w hS⟩) rfl (u8s_one _) (by omega) (.none rfl) rfl rfl ?_
  intro ad18 c18 E18 hV18 hr18
  rw [← u8s_app] at hV18
  rw [show ys.length + 1 = (ys ++ [x.len % 256]).length by rw [List.length_append]; rfl] at hV18 ⊢
  refine zH <| rA 2 [10] rfl <| ?_
  refine WQ.call _ rfl rfl ck_102 (.none rfl) rfl rfl (fun w hS => Calls.still (needs_c w x.len (by omega) (by omega)) hS) ?_
  refine WQ.nilR <| rO 1 [11] <| zK ck_74 rfl <| ?_
  intro w1 hS
  refine (putAddr_c (fun _ => False) w0 w1 _ _ _ _ _ x.addr ((x.len.toNat + 7) / 8) hV18 hS (by rw [List.length_append]; show ys.length + 1 ≤ _; omega) (by omega)).mono ?_
  rintro e w' ⟨ad24, c24, E24, rfl, hV24, hS'⟩
  refine ⟨_, _, rfl, hS', ?_⟩
  refine zH <| rF 0 [12] <| pV (v_assign rfl rfl) rfl <| WP.nil <| rD <| eY <| eN <| WC.region <| ?_
  refine zV (v_add rfl rfl rfl (w_i64 (by omega) (by omega))) rfl ?_
  refine zM rfl <| WL.nil <| ?_
  have hz : ys ++ [x.len % 256] ++ addrB x.addr ((x.len.toNat + 7) / 8) = ys ++ netE x := (by unfold netE; rw [List.append_assoc]; congr 2; show [_] = [_]; rw [show (2 : Int) ^ (8 * 0) = 1 by decide, Int.ediv_one])
  exact WE.next (k + 1, _, ad24, c24, E24) (by dsimp only; omega) ⟨by dsimp only; omega, by dsimp only; rw [hz, List.length_append]; omega, by dsimp only; rw [hz, List.append_assoc]; exact hy, hV24⟩ (.int rfl (by dsimp only; omega) (.cons rfl (.cons rfl (.cons rfl .nil)))) (List.Sublist.append_left (.cons _ (.cons _ (.refl _))) _)
  refine zL rfl one_23 rfl <| zH <| rO 3 [4, 5] <| zB Tryz.underlying25 sz_5 zero_5 rfl rfl <| ?_
  intro g17 hg17
  refine WL.as (L' := .row g17 (u8s [x.len % 256]) :: (E2 ++ (.row g6 x.cells :: L))) rfl <| WL.to (L' := E2 ++ (.row g17 (u8s [x.len % 256]) :: .row g6 x.cells :: L)) (fun w hS => hS.front [_]) <| ?_
  refine WL.appendL rfl rfl rfl Tryz.underlying25 Tryz.underlying25 sz_5 by_5 zero_5 rfl rfl hV2 (new := u8s [x.len % 256]) (fun _ => ⟨g17, 0, rfl, fun w hS => allAt (g := g17) w hS⟩) rfl (u8s_one _) (by omega) (.none rfl) rfl rfl ?_
  intro ad18 c18 E18 hV18 hr18
  rw [← u8s_app] at hV18
  rw [show ys.length + 1 = (ys ++ [x.len % 256]).length by rw [List.length_append]; rfl] at hV18 ⊢
  refine zH <| rA 2 [10] rfl <| ?_
  refine WQ.call _ rfl rfl ck_102 (.none rfl) rfl rfl (fun w hS => Calls.still (needs_c w x.len (by omega) (by omega)) hS) ?_
  refine WQ.nilR <| rO 1 [11] <| zK ck_74 rfl <| ?_
  intro w1 hS
  refine (putAddr_c (fun _ => False) w0 w1 _ _ _ _ _ x.addr ((x.len.toNat + 7) / 8) hV18 hS (by rw [List.length_append]; show ys.length + 1 ≤ _; omega) (by omega)).mono ?_
  rintro e w' ⟨ad24, c24, E24, rfl, hV24, hS'⟩
  refine ⟨_, _, rfl, hS', ?_⟩
  refine zH <| rF 0 [12] <| pV (v_assign rfl rfl) rfl <| WP.nil <| rD <| eY <| eN <| WC.region <| ?_
  refine zV (v_add rfl rfl rfl (w_i64 (by omega) (by omega))) rfl ?_
  refine zM rfl <| WL.nil <| ?_
  have hz : ys ++ [x.len % 256] ++ addrB x.addr ((x.len.toNat + 7) / 8) = ys ++ netE x := (by unfold netE; rw [List.append_assoc]; congr 2; show [_] = [_]; rw [show (2 : Int) ^ (8 * 0) = 1 by decide, Int.ediv_one])
  exact WE.next (k + 1, _, ad24, c24, E24) (by dsimp only; omega) ⟨by dsimp only; omega, by dsimp only; rw [hz, List.length_append]; omega, by dsimp only; rw [hz, List.append_assoc]; exact hy, hV24⟩ (.int rfl (by dsimp only; omega) (.cons rfl (.cons rfl (.cons rfl .nil)))) (List.Sublist.append_left (.cons _ (.cons _ (.refl _))) _)
  refine zL rfl one_23 rfl <| zH <| ?_
  refine WR.each (g := 7) [2, 9] (by kernel_rfl) (by decide) ?_
  refine ⟨?_, ?_⟩
  refine zL rfl one_3 rfl <| zH <| rF 6 [3] <| pV (v_conv rfl rfl Tryz.underlying5 Tryz.underlying3 (w_u8m _)) rfl <| WP.nil <| ?_
  refine WR.each (g := 5) [4, 9] (by kernel_rfl) (by decide) ?_
  refine ⟨?_, ?_⟩
  refine zB Tryz.underlying25 sz_5 zero_5 rfl rfl ?_
  intro g17 hg17
  refine WL.as (L' := .row g17 (u8s [x.len % 256]) :: (E2 ++ (.row g6 x.cells :: L))) rfl <| WL.to (L' := E2 ++ (.row g17 (u8s [x.len % 256]) :: .row g6 x.cells :: L)) (fun w hS => hS.front [_]) <| zH <| ?_
  refine WR.each (g := 4) [5, 9] (by kernel_rfl) (by decide) ?_
  refine ⟨?_, ?_⟩
  refine WL.appendL rfl rfl rfl Tryz.underlying25 Tryz.underlying25 sz_5 by_5 zero_5 rfl rfl hV2 (new := u8s [x.len % 256]) (fun _ => ⟨g17, 0, rfl, fun w hS => allAt (g := g17) w hS⟩) rfl (u8s_one _) (by omega) (.none rfl) rfl rfl ?_
  intro ad18 c18 E18 hV18 hr18
  rw [← u8s_app] at hV18
  rw [show ys.length + 1 = (ys ++ [x.len % 256]).length by rw [List.length_append]; rfl] at hV18 ⊢
  refine zH <| rA 2 [9, 10] rfl <| qV (v_load1 rfl rfl one_3 (cellAt rfl)) rfl <| ?_
  refine WQ.call _ rfl rfl ck_102 (.none rfl) rfl rfl (fun w hS => Calls.still (needs_c w x.len (by omega) (by omega)) hS) ?_
  refine WQ.nilR <| rO 1 [11] <| zK ck_74 rfl <| ?_
  intro w1 hS
  refine (putAddr_c (fun _ => False) w0 w1 _ _ _ _ _ x.addr ((x.len.toNat + 7) / 8) hV18 hS (by rw [List.length_append]; show ys.length + 1 ≤ _; omega) (by omega)).mono ?_
  rintro e w' ⟨ad24, c24, E24, rfl, hV24, hS'⟩
  refine ⟨_, _, rfl, hS', ?_⟩
  refine zH <| rF 0 [12] <| pV (v_assign rfl rfl) rfl <| WP.nil <| rD <| eY <| eN <| WC.region <| ?_
  refine zV (v_add rfl rfl rfl (w_i64 (by omega) (by omega))) rfl ?_
  refine zM rfl <| WL.nil <| ?_
  have hz : ys ++ [x.len % 256] ++ addrB x.addr ((x.len.toNat + 7) / 8) = ys ++ netE x := (by unfold netE; rw [List.append_assoc]; congr 2; show [_] = [_]; rw [show (2 : Int) ^ (8 * 0) = 1 by decide, Int.ediv_one])
  exact WE.next (k + 1, _, ad24, c24, E24) (by dsimp only; omega) ⟨by dsimp only; omega, by dsimp only; rw [hz, List.length_append]; omega, by dsimp only; rw [hz, List.append_assoc]; exact hy, hV24⟩ (.int rfl (by dsimp only; omega) (.cons rfl (.cons rfl (.cons rfl .nil)))) (List.Sublist.append_left (.cons _ (.cons _ (.refl _))) _)
  refine zL rfl one_3 rfl <| zH <| rO 3 [5] <| ?_
  refine WL.appendL rfl rfl rfl Tryz.underlying25 Tryz.underlying25 sz_5 by_5 zero_5 rfl rfl hV2 (new := u8s [x.len % 256]) (fun _ => ⟨g17, 0, rfl, fun w hS => allAt (g := g17) w hS⟩) rfl (u8s_one _) (by omega) (.none rfl) rfl rfl ?_
  intro ad18 c18 E18 hV18 hr18
  rw [← u8s_app] at hV18
  rw [show ys.length + 1 = (ys ++ [x.len % 256]).length by rw [List.length_append]; rfl] at hV18 ⊢
  refine zH <| rA 2 [10] rfl <| ?_
  refine WQ.call _ rfl rfl ck_102 (.none rfl) rfl rfl (fun w hS => Calls.still (needs_c w x.len (by omega) (by omega)) hS) ?_
  refine WQ.nilR <| rO 1 [11] <| zK ck_74 rfl <| ?_
  intro w1 hS
  refine (putAddr_c (fun _ => False) w0 w1 _ _ _ _ _ x.addr ((x.len.toNat + 7) / 8) hV18 hS (by rw [List.length_append]; show ys.length + 1 ≤ _; omega) (by omega)).mono ?_
  rintro e w' ⟨ad24, c24, E24, rfl, hV24, hS'⟩
  refine ⟨_, _, rfl, hS', ?_⟩
  refine zH <| rF 0 [12] <| pV (v_assign rfl rfl) rfl <| WP.nil <| rD <| eY <| eN <| WC.region <| ?_
  refine zV (v_add rfl rfl rfl (w_i64 (by omega) (by omega))) rfl ?_
  refine zM rfl <| WL.nil <| ?_
  have hz : ys ++ [x.len % 256] ++ addrB x.addr ((x.len.toNat + 7) / 8) = ys ++ netE x := (by unfold netE; rw [List.append_assoc]; congr 2; show [_] = [_]; rw [show (2 : Int) ^ (8 * 0) = 1 by decide, Int.ediv_one])
  exact WE.next (k + 1, _, ad24, c24, E24) (by dsimp only; omega) ⟨by dsimp only; omega, by dsimp only; rw [hz, List.length_append]; omega, by dsimp only; rw [hz, List.append_assoc]; exact hy, hV24⟩ (.int rfl (by dsimp only; omega) (.cons rfl (.cons rfl (.cons rfl .nil)))) (List.Sublist.append_left (.cons _ (.cons _ (.refl _))) _)
  refine zL rfl one_3 rfl <| zH <| rO 3 [4, 5] <| zB Tryz.underlying25 sz_5 zero_5 rfl rfl <| ?_
  intro g17 hg17
  refine WL.as (L' := .row g17 (u8s [x.len % 256]) :: (E2 ++ (.row g6 x.cells :: L))) rfl <| WL.to (L' := E2 ++ (.row g17 (u8s [x.len % 256]) :: .row g6 x.cells :: L)) (fun w hS => hS.front [_]) <| ?_
  refine WL.appendL rfl rfl rfl Tryz.underlying25 Tryz.underlying25 sz_5 by_5 zero_5 rfl rfl hV2 (new := u8s [x.len % 256]) (fun _ => ⟨g17, 0, rfl, fun w hS => allAt (g := g17) w hS⟩) rfl (u8s_one _) (by omega) (.none rfl) rfl rfl ?_
  intro ad18 c18 E18 hV18 hr18
  rw [← u8s_app] at hV18
  rw [show ys.length + 1 = (ys ++ [x.len % 256]).length by rw [List.length_append]; rfl] at hV18 ⊢
  refine zH <| rA 2 [10] rfl <| ?_
  refine WQ.call _ rfl rfl ck_102 (.none rfl) rfl rfl (fun w hS => Calls.still (needs_c w x.len (by omega) (by omega)) hS) ?_
  refine WQ.nilR <| rO 1 [11] <| zK ck_74 rfl <| ?_
  intro w1 hS
  refine (putAddr_c (fun _ => False) w0 w1 _ _ _ _ _ x.addr ((x.len.toNat + 7) / 8) hV18 hS (by rw [List.length_append]; show ys.length + 1 ≤ _; omega) (by omega)).mono ?_
  rintro e w' ⟨ad24, c24, E24, rfl, hV24, hS'⟩
  refine ⟨_, _, rfl, hS', ?_⟩
  refine zH <| rF 0 [12] <| pV (v_assign rfl rfl) rfl <| WP.nil <| rD <| eY <| eN <| WC.region <| ?_
  refine zV (v_add rfl rfl rfl (w_i64 (by omega) (by omega))) rfl ?_
  refine zM rfl <| WL.nil <| ?_
  have hz : ys ++ [x.len % 256] ++ addrB x.addr ((x.len.toNat + 7) / 8) = ys ++ netE x := (by unfold netE; rw [List.append_assoc]; congr 2; show [_] = [_]; rw [show (2 : Int) ^ (8 * 0) = 1 by decide, Int.ediv_one])
  exact WE.next (k + 1, _, ad24, c24, E24) (by dsimp only; omega) ⟨by dsimp only; omega, by dsimp only; rw [hz, List.length_append]; omega, by dsimp only; rw [hz, List.append_assoc]; exact hy, hV24⟩ (.int rfl (by dsimp only; omega) (.cons rfl (.cons rfl (.cons rfl .nil)))) (List.Sublist.append_left (.cons _ (.cons _ (.refl _))) _)
  refine zL rfl one_3 rfl <| zH <| rA 5 [2, 3] rfl <| qV (v_load1 rfl rfl one_3 (cellAt rfl)) rfl <| qV (v_conv rfl rfl Tryz.underlying5 Tryz.underlying3 (w_u8m _)) rfl <| WQ.nilR <| rO 3 [4, 5] <| zB Tryz.underlying25 sz_5 zero_5 rfl rfl <| ?_
  intro g17 hg17
  refine WL.as (L' := .row g17 (u8s [x.len % 256]) :: (E2 ++ (.row g6 x.cells :: L))) rfl <| WL.to (L' := E2 ++ (.row g17 (u8s [x.len % 256]) :: .row g6 x.cells :: L)) (fun w hS => hS.front [_]) <| ?_
  refine WL.appendL rfl rfl rfl Tryz.underlying25 Tryz.underlying25 sz_5 by_5 zero_5 rfl rfl hV2 (new := u8s [x.len % 256]) (fun _ => ⟨g17, 0, rfl, fun w hS => allAt (g := g17) w hS⟩) rfl (u8s_one _) (by omega) (.none rfl) rfl rfl ?_
  intro ad18 c18 E18 hV18 hr18
  rw [← u8s_app] at hV18
  rw [show ys.length + 1 = (ys ++ [x.len % 256]).length by rw [List.length_append]; rfl] at hV18 ⊢
  refine zH <| rA 2 [10] rfl <| ?_
  refine WQ.call _ rfl rfl ck_102 (.none rfl) rfl rfl (fun w hS => Calls.still (needs_c w x.len (by omega) (by omega)) hS) ?_
  refine WQ.nilR <| rO 1 [11] <| zK ck_74 rfl <| ?_
  intro w1 hS
  refine (putAddr_c (fun _ => False) w0 w1 _ _ _ _ _ x.addr ((x.len.toNat + 7) / 8) hV18 hS (by rw [List.length_append]; show ys.length + 1 ≤ _; omega) (by omega)).mono ?_
  rintro e w' ⟨ad24, c24, E24, rfl, hV24, hS'⟩
  refine ⟨_, _, rfl, hS', ?_⟩
  refine zH <| rF 0 [12] <| pV (v_assign rfl rfl) rfl <| WP.nil <| rD <| eY <| eN <| WC.region <| ?_
  refine zV (v_add rfl rfl rfl (w_i64 (by omega) (by omega))) rfl ?_
  refine zM rfl <| WL.nil <| ?_
  have hz : ys ++ [x.len % 256] ++ addrB x.addr ((x.len.toNat + 7) / 8) = ys ++ netE x := (by unfold netE; rw [List.append_assoc]; congr 2; show [_] = [_]; rw [show (2 : Int) ^ (8 * 0) = 1 by decide, Int.ediv_one])
  exact WE.next (k + 1, _, ad24, c24, E24) (by dsimp only; omega) ⟨by dsimp only; omega, by dsimp only; rw [hz, List.length_append]; omega, by dsimp only; rw [hz, List.append_assoc]; exact hy, hV24⟩ (.int rfl (by dsimp only; omega) (.cons rfl (.cons rfl (.cons rfl .nil)))) (List.Sublist.append_left (.cons _ (.cons _ (.refl _))) _)
  refine zL rfl one_3 rfl <| zH <| ?_
  refine WR.each (g := 7) [2, 7] (by kernel_rfl) (by decide) ?_
  refine ⟨?_, ?_⟩
  refine zL rfl one_3 rfl <| zH <| rF 6 [3] <| pV (v_conv rfl rfl Tryz.underlying5 Tryz.underlying3 (w_u8m _)) rfl <| WP.nil <| ?_
  refine WR.each (g := 5) [4, 7] (by kernel_rfl) (by decide) ?_
  refine ⟨?_, ?_⟩
  refine zB Tryz.underlying25 sz_5 zero_5 rfl rfl ?_
  intro g17 hg17
  refine WL.as (L' := .row g17 (u8s [x.len % 256]) :: (E2 ++ (.row g6 x.cells :: L))) rfl <| WL.to (L' := E2 ++ (.row g17 (u8s [x.len % 256]) :: .row g6 x.cells :: L)) (fun w hS => hS.front [_]) <| zH <| ?_
  refine WR.each (g := 4) [5, 7] (by kernel_rfl) (by decide) ?_
  refine ⟨?_, ?_⟩
  refine WL.appendL rfl rfl rfl Tryz.underlying25 Tryz.underlying25 sz_5 by_5 zero_5 rfl rfl hV2 (new := u8s [x.len % 256]) (fun _ => ⟨g17, 0, rfl, fun w hS => allAt (g := g17) w hS⟩) rfl (u8s_one _) (by omega) (.none rfl) rfl rfl ?_
  intro ad18 c18 E18 hV18 hr18
  rw [← u8s_app] at hV18
  rw [show ys.length + 1 = (ys ++ [x.len % 256]).length by rw [List.length_append]; rfl] at hV18 ⊢
  refine zH <| rA 2 [7, 10] rfl <| qV (v_load1 rfl rfl one_23 (cellAt rfl)) rfl <| ?_
  refine WQ.call _ rfl rfl ck_102 (.none rfl) rfl rfl (fun w hS => Calls.still (needs_c w x.len (by omega) (by omega)) hS) ?_
  refine WQ.nilR <| rO 1 [11] <| zK ck_74 rfl <| ?_
  intro w1 hS
  refine (putAddr_c (fun _ => False) w0 w1 _ _ _ _ _ x.addr ((x.len.toNat + 7) / 8) hV18 hS (by rw [List.length_append]; show ys.length + 1 ≤ _; omega) (by omega)).mono ?_
  rintro e w' ⟨ad24, c24, E24, rfl, hV24, hS'⟩
  refine ⟨_, _, rfl, hS', ?_⟩
  refine zH <| rF 0 [12] <| pV (v_assign rfl rfl) rfl <| WP.nil <| rD <| eY <| eN <| WC.region <| ?_
  refine zV (v_add rfl rfl rfl (w_i64 (by omega) (by omega))) rfl ?_
  refine zM rfl <| WL.nil <| ?_
  have hz : ys ++ [x.len % 256] ++ addrB x.addr ((x.len.toNat + 7) / 8) = ys ++ netE x := (by unfold netE; rw [List.append_assoc]; congr 2; show [_] = [_]; rw [show (2 : Int) ^ (8 * 0) = 1 by decide, Int.ediv_one])
  exact WE.next (k + 1, _, ad24, c24, E24) (by dsimp only; omega) ⟨by dsimp only; omega, by dsimp only; rw [hz, List.length_append]; omega, by dsimp only; rw [hz, List.append_assoc]; exact hy, hV24⟩ (.int rfl (by dsimp only; omega) (.cons rfl (.cons rfl (.cons rfl .nil)))) (List.Sublist.append_left (.cons _ (.cons _ (.refl _))) _)
  refine zL rfl one_23 rfl <| zH <| rO 3 [5] <| ?_
  refine WL.appendL rfl rfl rfl Tryz.underlying25 Tryz.underlying25 sz_5 by_5 zero_5 rfl rfl hV2 (new := u8s [x.len % 256]) (fun _ => ⟨g17, 0, rfl, fun w hS => allAt (g := g17) w hS⟩) rfl (u8s_one _) (by omega) (.none rfl) rfl rfl ?_
  intro ad18 c18 E18 hV18 hr18
  rw [← u8s_app] at hV18
  rw [show ys.length + 1 = (ys ++ [x.len % 256]).length by rw [List.length_append]; rfl] at hV18 ⊢
  refine zH <| rA 2 [10] rfl <| ?_
  refine WQ.call _ rfl rfl ck_102 (.none rfl) rfl rfl (fun w hS => Calls.still (needs_c w x.len (by omega) (by omega)) hS) ?_
  refine WQ.nilR <| rO 1 [11] <| zK ck_74 rfl <| ?_
  intro w1 hS
  refine (putAddr_c (fun _ => False) w0 w1 _ _ _ _ _ x.addr ((x.len.toNat + 7) / 8) hV18 hS (by rw [List.length_append]; show ys.length + 1 ≤ _; omega) (by omega)).mono ?_
  rintro e w' ⟨ad24, c24, E24, rfl, hV24, hS'⟩
  refine ⟨_, _, rfl, hS', ?_⟩
  refine zH <| rF 0 [12] <| pV (v_assign rfl rfl) rfl <| WP.nil <| rD <| eY <| eN <| WC.region <| ?_
  refine zV (v_add rfl rfl rfl (w_i64 (by omega) (by omega))) rfl ?_
  refine zM rfl <| WL.nil <| ?_
  have hz : ys ++ [x.len % 256] ++ addrB x.addr ((x.len.toNat + 7) / 8) = ys ++ netE x := (by unfold netE; rw [List.append_assoc]; congr 2; show [_] = [_]; rw [show (2 : Int) ^ (8 * 0) = 1 by decide, Int.ediv_one])
  exact WE.next (k + 1, _, ad24, c24, E24) (by dsimp only; omega) ⟨by dsimp only; omega, by dsimp only; rw [hz, List.length_append]; omega, by dsimp only; rw [hz, List.append_assoc]; exact hy, hV24⟩ (.int rfl (by dsimp only; omega) (.cons rfl (.cons rfl (.cons rfl .nil)))) (List.Sublist.append_left (.cons _ (.cons _ (.refl _))) _)
  refine zL rfl one_23 rfl <| zH <| rO 3 [4, 5] <| zB Tryz.underlying25 sz_5 zero_5 rfl rfl <| ?_
  intro g17 hg17
  refine WL.as (L' := .row g17 (u8s [x.len % 256]) :: (E2 ++ (.row g6 x.cells :: L))) rfl <| WL.to (L' := E2 ++ (.row g17 (u8s [x.len % 256]) :: .row g6 x.cells :: L)) (fun w hS => hS.front [_]) <| ?_
  refine WL.appendL rfl rfl rfl Tryz.underlying25 Tryz.underlying25 sz_5 by_5 zero_5 rfl rfl hV2 (new := u8s [x.len % 256]) (fun _ => ⟨g17, 0, rfl, fun w hS => allAt (g := g17) w hS⟩) rfl (u8s_one _) (by omega) (.none rfl) rfl rfl ?_
  intro ad18 c18 E18 hV18 hr18
  rw [← u8s_app] at hV18
  rw [show ys.length + 1 = (ys ++ [x.len % 256]).length by rw [List.length_append]; rfl] at hV18 ⊢
  refine zH <| rA 2 [10] rfl <| ?_
  refine WQ.call _ rfl rfl ck_102 (.none rfl) rfl rfl (fun w hS => Calls.still (needs_c w x.len (by omega) (by omega)) hS) ?_
  refine WQ.nilR <| rO 1 [11] <| zK ck_74 rfl <| ?_
  intro w1 hS
  refine (putAddr_c (fun _ => False) w0 w1 _ _ _ _ _ x.addr ((x.len.toNat + 7) / 8) hV18 hS (by rw [List.length_append]; show ys.length + 1 ≤ _; omega) (by omega)).mono ?_
  rintro e w' ⟨ad24, c24, E24, rfl, hV24, hS'⟩
  refine ⟨_, _, rfl, hS', ?_⟩
  refine zH <| rF 0 [12] <| pV (v_assign rfl rfl) rfl <| WP.nil <| rD <| eY <| eN <| WC.region <| ?_
  refine zV (v_add rfl rfl rfl (w_i64 (by omega) (by omega))) rfl ?_
  refine zM rfl <| WL.nil <| ?_
  have hz : ys ++ [x.len % 256] ++ addrB x.addr ((x.len.toNat + 7) / 8) = ys ++ netE x := (by unfold netE; rw [List.append_assoc]; congr 2; show [_] = [_]; rw [show (2 : Int) ^ (8 * 0) = 1 by decide, Int.ediv_one])
  exact WE.next (k + 1, _, ad24, c24, E24) (by dsimp only; omega) ⟨by dsimp only; omega, by dsimp only; rw [hz, List.length_append]; omega, by dsimp only; rw [hz, List.append_assoc]; exact hy, hV24⟩ (.int rfl (by dsimp only; omega) (.cons rfl (.cons rfl (.cons rfl .nil)))) (List.Sublist.append_left (.cons _ (.cons _ (.refl _))) _)
  refine zL rfl one_23 rfl <| zH <| rA 5 [2, 3] rfl <| qV (v_load1 rfl rfl one_3 (cellAt rfl)) rfl <| qV (v_conv rfl rfl Tryz.underlying5 Tryz.underlying3 (w_u8m _)) rfl <| WQ.nilR <| rO 3 [4, 5] <| zB Tryz.underlying25 sz_5 zero_5 rfl rfl <| ?_
  intro g17 hg17
  refine WL.as (L' := .row g17 (u8s [x.len % 256]) :: (E2 ++ (.row g6 x.cells :: L))) rfl <| WL.to (L' := E2 ++ (.row g17 (u8s [x.len % 256]) :: .row g6 x.cells :: L)) (fun w hS => hS.front [_]) <| ?_
  refine WL.appendL rfl rfl rfl Tryz.underlying25 Tryz.underlying25 sz_5 by_5 zero_5 rfl rfl hV2 (new := u8s [x.len % 256]) (fun _ => ⟨g17, 0, rfl, fun w hS => allAt (g := g17) w hS⟩) rfl (u8s_one _) (by omega) (.none rfl) rfl rfl ?_
  intro ad18 c18 E18 hV18 hr18
  rw [← u8s_app] at hV18
  rw [show ys.length + 1 = (ys ++ [x.len % 256]).length by rw [List.length_append]; rfl] at hV18 ⊢
  refine zH <| rA 2 [10] rfl <| ?_
  refine WQ.call _ rfl rfl ck_102 (.none rfl) rfl rfl (fun w hS => Calls.still (needs_c w x.len (by omega) (by omega)) hS) ?_
  refine WQ.nilR <| rO 1 [11] <| zK ck_74 rfl <| ?_
  intro w1 hS
  refine (putAddr_c (fun _ => False) w0 w1 _ _ _ _ _ x.addr ((x.len.toNat + 7) / 8) hV18 hS (by rw [List.length_append]; show ys.length + 1 ≤ _; omega) (by omega)).mono ?_
  rintro e w' ⟨ad24, c24, E24, rfl, hV24, hS'⟩
  refine ⟨_, _, rfl, hS', ?_⟩
  refine zH <| rF 0 [12] <| pV (v_assign rfl rfl) rfl <| WP.nil <| rD <| eY <| eN <| WC.region <| ?_
  refine zV (v_add rfl rfl rfl (w_i64 (by omega) (by omega))) rfl ?_
  refine zM rfl <| WL.nil <| ?_
  have hz : ys ++ [x.len % 256] ++ addrB x.addr ((x.len.toNat + 7) / 8) = ys ++ netE x := (by unfold netE; rw [List.append_assoc]; congr 2; show [_] = [_]; rw [show (2 : Int) ^ (8 * 0) = 1 by decide, Int.ediv_one])
  exact WE.next (k + 1, _, ad24, c24, E24) (by dsimp only; omega) ⟨by dsimp only; omega, by dsimp only; rw [hz, List.length_append]; omega, by dsimp only; rw [hz, List.append_assoc]; exact hy, hV24⟩ (.int rfl (by dsimp only; omega) (.cons rfl (.cons rfl (.cons rfl .nil)))) (List.Sublist.append_left (.cons _ (.cons _ (.refl _))) _)
  refine zN <| cS <| cF rfl <| cX <| eX <| eX <| eH <| eN <| cR <| zM rfl <| zA rfl <| zN <| cE <| ?_
  refine tR Tryz.results78 rfl ?_
  obtain rfl : k = ps.length := (by omega)
  rw [List.drop_length] at hy
  have hy' : ys = xs ++ netsE ps := (by rw [← hy]; exact (List.append_nil _).symm)
  rw [← hy']
  exact fun w' h => ⟨ad2, c2, E2, rfl, hV2, h⟩

def ResB (w w' : World) (code : Int) (bs : List Int) (e : Ending) : Prop := ∃ v, e = .returned (.tuple #[v, .int .i64 code]) ∧ OwnB w w' (if code = 0 then bs else []) v
theorem ResB.bad {w w' : World} {code c : Int} {bs : List Int} {L : List Ent} (hc : code = c) (h0 : c ≠ 0) (h : St (fun _ => False) w w' L) : ResB w w' code bs (.returned (.tuple #[.slice none 0 0, .int .i64 c])) := by
  subst hc
  refine ⟨_, rfl, ?_⟩
  rw [if_neg h0]
  exact OwnB.of (E := []) (xs := []) (Vec.nil 1) (h.sub (List.nil_sublist _)) rfl
theorem ResB.good {w w' : World} {code : Int} {ad : Option Addr} {c : Nat} {xs bs : List Int} {E L : List Ent} (hc : code = 0) (hV : BV ad c xs E) (h : St (fun _ => False) w w' (E ++ L)) (e : xs = bs) : ResB w w' code bs (.returned (.tuple #[.slice ad xs.length c, .int .i64 0])) := by
  subst hc
  refine ⟨_, rfl, ?_⟩
  rw [if_pos rfl]
  exact OwnB.of hV h e
def strI (d : ByteArray) : List Int := d.data.toList.map fun b => (b.toNat : Int)
theorem strI_cells (d : ByteArray) : d.data.toList.map bcell = u8s (strI d) := by unfold u8s strI; rw [List.map_map]; rfl
def noteC (m : MsL) : Int := if m.fc < 1 ∨ 255 < m.fc ∨ m.fs < 0 ∨ 255 < m.fs then 1 else if 4096 < m.fd.size then 6 else 0
def noteB (m : MsL) : List Int := [m.fc, m.fs] ++ strI m.fd
set_option maxHeartbeats 1000000 in
theorem note_c (w : World) (m : MsL) : Calls Tryz.prog 46 #[.agg m.cells.toArray] w fun e w' => ResB w w' (noteC m) (noteB m) e := by
  refine enter Tryz.func46 rfl Tryz.ntmps46 rfl (St.start (fun _ => False) w) ?_
  refine cR <| WL.box rfl rfl rfl (.none rfl) rfl rfl <| ?_
  intro g1 hg1
  refine zA rfl <| zA rfl <| zR <| zF rfl fld_39_8 <| zV (v_loadN rfl rfl many_37 rfl (segAt (m := 3) rfl)) rfl <| WL.alloc rfl zero_37 (.none rfl) rfl rfl <| ?_
  intro g4 hg4
  refine zW many_37 rfl rfl <| WL.as (L' := [.row g4 (fltL m.fc m.fs m.fd), .row g1 m.cells]) rfl <| zN <| cS <| cR <| zF rfl fld_37_0 <| zL rfl one_3 rfl <| ?_
  refine zT (v_lss rfl rfl rfl) rfl (fun h9 => ?_) (fun h9 => ?_)
  refine zM rfl ?_
  iterate 3 refine WL.sk rfl ?_
  refine zP rfl <| zM rfl <| ?_
  iterate 3 refine WL.sk rfl ?_
  refine zP rfl <| zM rfl <| ?_
  iterate 3 refine WL.sk rfl ?_
  refine zP rfl <| zN <| cT rfl <| cR <| zA rfl <| zA rfl <| zN <| cE <| eR <| WE.ret2 (P := Tryz.prog) (.inl rfl) Tryz.results46 rfl rfl <| ?_
  have hc : noteC m = 1 := (by unfold noteC; rw [if_pos (by omega)])
  exact fun w' h => ResB.bad hc (by decide) h
  refine zM rfl <| zS (v_fieldAddr0 rfl rfl fld_37_0) rfl <| zS (v_load1 rfl rfl one_3 (cellAt rfl)) rfl <| ?_
  refine WL.test (v_gtr rfl rfl rfl) (.some rfl rfl rfl) rfl rfl (fun h13 => ?_) (fun h13 => ?_)
  refine zQ rfl <| zM rfl <| ?_
  iterate 3 refine WL.sk rfl ?_
  refine zP rfl <| zM rfl <| ?_
  iterate 3 refine WL.sk rfl ?_
  refine zP rfl <| zN <| cT rfl <| cR <| zA rfl <| zA rfl <| zN <| cE <| eR <| WE.ret2 (P := Tryz.prog) (.inl rfl) Tryz.results46 rfl rfl <| ?_
  have hc : noteC m = 1 := (by unfold noteC; rw [if_pos (by omega)])
  exact fun w' h => ResB.bad hc (by decide) h
  refine zQ rfl <| zM rfl <| zS (v_fieldAddr0 rfl rfl fld_37_1) rfl <| zS (v_load1 rfl rfl one_3 (cellAt rfl)) rfl <| ?_
  refine WL.test (v_lss rfl rfl rfl) (.some rfl rfl rfl) rfl rfl (fun h18 => ?_) (fun h18 => ?_)
  refine zQ rfl <| zM rfl <| ?_
  iterate 3 refine WL.sk rfl ?_
  refine zP rfl <| zN <| cT rfl <| cR <| zA rfl <| zA rfl <| zN <| cE <| eR <| WE.ret2 (P := Tryz.prog) (.inl rfl) Tryz.results46 rfl rfl <| ?_
  have hc : noteC m = 1 := (by unfold noteC; rw [if_pos (by omega)])
  exact fun w' h => ResB.bad hc (by decide) h
  refine zQ rfl <| zM rfl <| zS (v_fieldAddr0 rfl rfl fld_37_1) rfl <| zS (v_load1 rfl rfl one_3 (cellAt rfl)) rfl <| ?_
  refine WL.test (v_gtr rfl rfl rfl) (.some rfl rfl rfl) rfl rfl (fun h23 => ?_) (fun h23 => ?_)
  refine zQ rfl <| zN <| cT rfl <| cR <| zA rfl <| zA rfl <| zN <| cE <| eR <| WE.ret2 (P := Tryz.prog) (.inl rfl) Tryz.results46 rfl rfl <| ?_
  have hc : noteC m = 1 := (by unfold noteC; rw [if_pos (by omega)])
  exact fun w' h => ResB.bad hc (by decide) h
  refine zQ rfl <| zN <| cF rfl <| cK <| eN <| cS <| cR <| zF rfl fld_37_2 <| zL rfl one_9 rfl <| zV (v_len_string rfl rfl Tryz.underlying9) rfl <| ?_
  refine zT (v_gtr rfl rfl rfl) rfl (fun h28 => ?_) (fun h28 => ?_)
  refine zN <| cT rfl <| cR <| zA rfl <| zA rfl <| zN <| cE <| eR <| WE.ret2 (P := Tryz.prog) (.inl rfl) Tryz.results46 rfl rfl <| ?_
  have hc : noteC m = 6 := (by unfold noteC; rw [if_neg (by omega), if_pos (by omega)])
  exact fun w' h => ResB.bad hc (by decide) h
  refine zN <| cF rfl <| cK <| eN <| cR <| zF rfl fld_37_0 <| zL rfl one_3 rfl <| ?_
  refine zV (v_conv rfl rfl Tryz.underlying5 Tryz.underlying3 (show _ = (m.fc) from (w_u8m _).trans (by omega))) rfl ?_
  refine zF rfl fld_37_1 <| zL rfl one_3 rfl <| ?_
  refine zV (v_conv rfl rfl Tryz.underlying5 Tryz.underlying3 (show _ = (m.fs) from (w_u8m _).trans (by omega))) rfl ?_
  refine zB Tryz.underlying25 sz_5 zero_5 rfl rfl ?_
  intro g35 hg35
  refine WL.as (L' := [.row g35 (u8s [m.fc, m.fs])] ++ [.row g4 (fltL m.fc m.fs m.fd), .row g1 m.cells]) rfl <| zF rfl fld_37_2 <| zL rfl one_9 rfl <| ?_
  refine WL.appendS rfl rfl rfl rfl Tryz.underlying25 Tryz.underlying9 sz_5 by_5 zero_5 rfl rfl (Vec.row (k := 2) (s := 1) (c := 2) (xs := u8s [m.fc, m.fs]) rfl rfl (by omega)) (new := m.fd.data.toList.map bcell) rfl (by omega) (.none rfl) rfl rfl ?_
  intro ad38 c38 E38 hV38 hr38
  refine zA rfl <| zA rfl <| zN <| cE <| WE.ret2 (P := Tryz.prog) (.inl rfl) Tryz.results46 rfl rfl <| ?_
  have hc : noteC m = 0 := (by unfold noteC; rw [if_neg (by omega), if_neg (by omega)])
  rw [strI_cells, ← u8s_app] at hV38
  have hk := hV38.toB
  rw [hk] at hV38 ⊢
  exact fun w' h => ResB.good hc hV38 h rfl
def badO (m : MsL) : Bool := decide (m.asn < 1 ∨ 65535 < m.asn ∨ (m.hold ≠ 0 ∧ (m.hold < 3 ∨ 65535 < m.hold)) ∨ m.id = 0 ∨ 32 < m.caps.length)
def capOk (c : CapL) : Bool := decide (0 ≤ c.code ∧ c.code ≤ 255 ∧ c.val.length ≤ 255)
def capE (c : CapL) : List Int := [c.code % 256, (c.val.length : Int) % 256] ++ c.val
def capsE (cs : List CapL) : List Int := cs.flatMap capE
def openC (m : MsL) : Int := if badO m then 1 else if m.caps.all capOk then if 253 < (capsE m.caps).length then 6 else 0 else 1
def openB (m : MsL) : List Int := [4] ++ numB m.asn 2 ++ numB m.hold 2 ++ addrB m.id 4 ++ (if (capsE m.caps).length = 0 then [0] else [(2 + ((capsE m.caps).length : Int)) % 256, 2, ((capsE m.caps).length : Int) % 256] ++ capsE m.caps)
set_option maxHeartbeats 4000000 in
theorem open_c (w0 : World) (m : MsL) (hM : m.At w0) (hI : m.In) : Calls Tryz.prog 44 #[.agg m.cells.toArray] w0 fun e w' => ResB w0 w' (openC m) (openB m) e := by
  refine enter Tryz.func44 rfl Tryz.ntmps44 rfl (St.start (fun _ => False) w0) ?_
  refine cR <| WL.box rfl rfl rfl (.none rfl) rfl rfl <| ?_
  intro g1 hg1
  refine zA rfl <| zA rfl <| zN <| ?_
  refine WC.cut (fun _ : Unit => [(1, .pointer (some ⟨g1, 0, none⟩))]) (fun _ => [.row g1 m.cells]) (fun _ => badO m = false) ?_ ?_
  refine cR <| zF rfl fld_39_1 <| zL rfl one_3 rfl <| ?_
  refine zT (v_lss rfl rfl rfl) rfl (fun h10 => ?_) (fun h10 => ?_)
  refine zM rfl ?_
  iterate 3 refine WL.sk rfl ?_
  refine zP rfl <| zM rfl <| ?_
  iterate 13 refine WL.sk rfl ?_
  refine zP rfl <| zM rfl <| ?_
  iterate 3 refine WL.sk rfl ?_
  refine zP rfl <| zM rfl <| ?_
  iterate 4 refine WL.sk rfl ?_
  refine zP rfl <| zN <| cT rfl <| cR <| zA rfl <| zA rfl <| zN <| cE <| eR <| WE.ret2 (P := Tryz.prog) (.inl rfl) Tryz.results44 rfl rfl <| ?_
  have hc : openC m = 1 := (by
    have : badO m = true := decide_eq_true (by omega)
    unfold openC; rw [this]; rfl)
  exact fun w' h => ResB.bad hc (by decide) h
  refine zM rfl <| zS (v_fieldAddr0 rfl rfl fld_39_1) rfl <| zS (v_load1 rfl rfl one_3 (cellAt rfl)) rfl <| ?_
  refine WL.test (v_gtr rfl rfl rfl) (.some rfl rfl rfl) rfl rfl (fun h14 => ?_) (fun h14 => ?_)
  refine zQ rfl <| zM rfl <| ?_
  iterate 13 refine WL.sk rfl ?_
  refine zP rfl <| zM rfl <| ?_
  iterate 3 refine WL.sk rfl ?_
  refine zP rfl <| zM rfl <| ?_
  iterate 4 refine WL.sk rfl ?_
  refine zP rfl <| zN <| cT rfl <| cR <| zA rfl <| zA rfl <| zN <| cE <| eR <| WE.ret2 (P := Tryz.prog) (.inl rfl) Tryz.results44 rfl rfl <| ?_
  have hc : openC m = 1 := (by
    have : badO m = true := decide_eq_true (by omega)
    unfold openC; rw [this]; rfl)
  exact fun w' h => ResB.bad hc (by decide) h
  refine zQ rfl <| zM rfl <| zS (v_fieldAddr0 rfl rfl fld_39_2) rfl <| zS (v_load1 rfl rfl one_3 (cellAt rfl)) rfl <| ?_
  refine WL.test (v_neq rfl rfl rfl) (.some rfl rfl rfl) rfl rfl (fun h19 => ?_) (fun h19 => ?_)
  refine zS (v_move rfl rfl) rfl <| zS (v_fieldAddr0 rfl rfl fld_39_2) rfl <| zS (v_load1 rfl rfl one_3 (cellAt rfl)) rfl <| ?_
  refine WL.test (v_lss rfl rfl rfl) (.some rfl rfl rfl) rfl rfl (fun h23 => ?_) (fun h23 => ?_)
  refine zS (v_move rfl rfl) rfl ?_
  iterate 3 refine WL.sk rfl ?_
  refine zS (v_pick_t rfl rfl rfl) rfl <| zS (v_pick_t rfl rfl rfl) rfl <| zQ rfl <| zM rfl <| ?_
  iterate 3 refine WL.sk rfl ?_
  refine zP rfl <| zM rfl <| ?_
  iterate 4 refine WL.sk rfl ?_
  refine zP rfl <| zN <| cT rfl <| cR <| zA rfl <| zA rfl <| zN <| cE <| eR <| WE.ret2 (P := Tryz.prog) (.inl rfl) Tryz.results44 rfl rfl <| ?_
  have hc : openC m = 1 := (by
    have : badO m = true := decide_eq_true (by omega)
    unfold openC; rw [this]; rfl)
  exact fun w' h => ResB.bad hc (by decide) h
  refine zS (v_move rfl rfl) rfl <| zS (v_fieldAddr0 rfl rfl fld_39_2) rfl <| zS (v_load1 rfl rfl one_3 (cellAt rfl)) rfl <| ?_
  refine WL.test (v_gtr rfl rfl rfl) (.some rfl rfl rfl) rfl rfl (fun h27 => ?_) (fun h27 => ?_)
  refine zS (v_pick_f rfl rfl rfl) rfl <| zS (v_pick_t rfl rfl rfl) rfl <| zQ rfl <| zM rfl <| ?_
  iterate 3 refine WL.sk rfl ?_
  refine zP rfl <| zM rfl <| ?_
  iterate 4 refine WL.sk rfl ?_
  refine zP rfl <| zN <| cT rfl <| cR <| zA rfl <| zA rfl <| zN <| cE <| eR <| WE.ret2 (P := Tryz.prog) (.inl rfl) Tryz.results44 rfl rfl <| ?_
  have hc : openC m = 1 := (by
    have : badO m = true := decide_eq_true (by omega)
    unfold openC; rw [this]; rfl)
  exact fun w' h => ResB.bad hc (by decide) h
  refine zS (v_pick_f rfl rfl rfl) rfl <| zS (v_pick_t rfl rfl rfl) rfl <| zQ rfl <| zM rfl <| zS (v_fieldAddr0 rfl rfl fld_39_3) rfl <| zS (v_load1 rfl rfl one_23 (cellAt rfl)) rfl <| ?_
  refine WL.test (v_eql rfl rfl rfl) (.some rfl rfl rfl) rfl rfl (fun h34 => ?_) (fun h34 => ?_)
  refine zQ rfl <| zM rfl <| ?_
  iterate 4 refine WL.sk rfl ?_
  refine zP rfl <| zN <| cT rfl <| cR <| zA rfl <| zA rfl <| zN <| cE <| eR <| WE.ret2 (P := Tryz.prog) (.inl rfl) Tryz.results44 rfl rfl <| ?_
  have hc : openC m = 1 := (by
    have : badO m = true := decide_eq_true (by omega)
    unfold openC; rw [this]; rfl)
  exact fun w' h => ResB.bad hc (by decide) h
  refine zQ rfl <| zM rfl <| zS (v_fieldAddr0 rfl rfl fld_39_4) rfl <| zS (v_load1 rfl rfl one_29 (cellAt rfl)) rfl <| zS (v_len_slice rfl rfl Tryz.underlying29) rfl <| ?_
  refine WL.test (v_gtr rfl rfl rfl) (.some rfl rfl rfl) rfl rfl (fun h40 => ?_) (fun h40 => ?_)
  refine zQ rfl <| zN <| cT rfl <| cR <| zA rfl <| zA rfl <| zN <| cE <| eR <| WE.ret2 (P := Tryz.prog) (.inl rfl) Tryz.results44 rfl rfl <| ?_
  have hc : openC m = 1 := (by
    have : badO m = true := decide_eq_true (by omega)
    unfold openC; rw [this]; rfl)
  exact fun w' h => ResB.bad hc (by decide) h
  refine zQ rfl <| zN <| cF rfl <| cK <| ?_
  exact WE.mid () (decide_eq_false (by omega)) (.cons rfl .nil) (.refl _)
  refine zS (v_move rfl rfl) rfl ?_
  iterate 8 refine WL.sk rfl ?_
  refine zS (v_pick_f rfl rfl rfl) rfl <| zQ rfl <| zM rfl <| zS (v_fieldAddr0 rfl rfl fld_39_3) rfl <| zS (v_load1 rfl rfl one_23 (cellAt rfl)) rfl <| ?_
  refine WL.test (v_eql rfl rfl rfl) (.some rfl rfl rfl) rfl rfl (fun h34 => ?_) (fun h34 => ?_)
  refine zQ rfl <| zM rfl <| ?_
  iterate 4 refine WL.sk rfl ?_
  refine zP rfl <| zN <| cT rfl <| cR <| zA rfl <| zA rfl <| zN <| cE <| eR <| WE.ret2 (P := Tryz.prog) (.inl rfl) Tryz.results44 rfl rfl <| ?_
  have hc : openC m = 1 := (by
    have : badO m = true := decide_eq_true (by omega)
    unfold openC; rw [this]; rfl)
  exact fun w' h => ResB.bad hc (by decide) h
  refine zQ rfl <| zM rfl <| zS (v_fieldAddr0 rfl rfl fld_39_4) rfl <| zS (v_load1 rfl rfl one_29 (cellAt rfl)) rfl <| zS (v_len_slice rfl rfl Tryz.underlying29) rfl <| ?_
  refine WL.test (v_gtr rfl rfl rfl) (.some rfl rfl rfl) rfl rfl (fun h40 => ?_) (fun h40 => ?_)
  refine zQ rfl <| zN <| cT rfl <| cR <| zA rfl <| zA rfl <| zN <| cE <| eR <| WE.ret2 (P := Tryz.prog) (.inl rfl) Tryz.results44 rfl rfl <| ?_
  have hc : openC m = 1 := (by
    have : badO m = true := decide_eq_true (by omega)
    unfold openC; rw [this]; rfl)
  exact fun w' h => ResB.bad hc (by decide) h
  refine zQ rfl <| zN <| cF rfl <| cK <| ?_
  exact WE.mid () (decide_eq_false (by omega)) (.cons rfl .nil) (.refl _)
  intro _ hb
  have hb' := of_decide_eq_false hb
  refine cR <| zA rfl <| zN <| cS <| cR <| zF rfl fld_39_4 <| zL rfl one_29 rfl <| zV (v_len_slice rfl rfl Tryz.underlying29) rfl <| zM rfl <| zN <| cB <| ?_
  refine WC.loop (fun x : Nat × List Int × Option Addr × Nat × List Ent => [(45, .int .i64 x.1), (44, .int .i64 m.caps.length), (43, .slice m.kad m.caps.length m.kc), (4, .slice x.2.2.1 x.2.1.length x.2.2.2.1), (1, .pointer (some ⟨g1, 0, none⟩))]) (fun x => x.2.2.2.2 ++ [.row g1 m.cells]) (fun x => x.1 ≤ m.caps.length ∧ x.2.1.length ≤ 257 * x.1 ∧ x.2.1 ++ capsE (m.caps.drop x.1) = capsE m.caps ∧ (∀ j o, j < x.1 → m.caps[j]? = some o → capOk o = true) ∧ BV x.2.2.1 x.2.2.2.1 x.2.1 x.2.2.2.2) (fun x => m.caps.length - x.1) (0, [], none, 0, []) ⟨Nat.zero_le _, Nat.le_refl _, rfl, fun j _ h => absurd h (by dsimp only; omega), Vec.nil 1⟩ (.cons rfl (.cons rfl (.cons rfl (.cons rfl (.cons rfl .nil))))) (.refl _) ?_
  rintro ⟨k, ys, ad, c, E⟩ ⟨hk, hl, hy, hok, hV⟩
  dsimp only at hk hl hy hok hV
  dsimp only
  refine cR ?_
  refine zT (v_lss rfl rfl rfl) rfl (fun h46 => ?_) (fun h46 => ?_)
  refine zN <| cS <| cT rfl <| cK <| eN <| cS <| cB <| cR <| ?_
  obtain ⟨x, hx⟩ : ∃ x, m.caps[k]? = some x := ⟨m.caps[k]'(by omega), List.getElem?_eq_getElem _⟩
  obtain ⟨b, o, ea, hr⟩ := hM.caps k x hx
  have hxm := List.mem_of_getElem? hx
  have hxI := hI.caps x hxm
  unfold capsE at hy
  rw [drop_cons' hx, List.flatMap_cons] at hy
  refine zV ((v_indexAddr (b := b) (off := o) (lo := k) rfl (by show some (Value.slice m.kad _ _) = _; rw [ea]) rfl Tryz.underlying29 sz_140 rfl (by omega))) rfl ?_
  refine zV ((v_loadN (cs := x.cells) rfl rfl many_140 rfl (rgIn (fun h => h) hr))) rfl <| WL.alloc rfl zero_140 (.none rfl) rfl rfl <| ?_
  intro g6 hg6
  refine zW many_140 rfl rfl <| WL.as (L' := .row g6 x.cells :: (E ++ [.row g1 m.cells])) rfl <| WL.to (L' := E ++ [.row g6 x.cells, .row g1 m.cells]) (fun w hS => hS.front [_]) <| zN <| cS <| cR <| zF rfl fld_140_0 <| zL rfl one_3 rfl <| ?_
  refine zT (v_lss rfl rfl rfl) rfl (fun h51 => ?_) (fun h51 => ?_)
  refine zM rfl ?_
  iterate 3 refine WL.sk rfl ?_
  refine zP rfl <| zM rfl <| ?_
  iterate 4 refine WL.sk rfl ?_
  refine zP rfl <| zN <| cT rfl <| cR <| zA rfl <| zA rfl <| zN <| cE <| eR <| eB <| eR <| eR <| eB <| ?_
  refine eR <| WE.ret2 (P := Tryz.prog) (.inl rfl) Tryz.results44 rfl rfl <| ?_
  have hc : openC m = 1 := (by
    unfold openC
    rw [hb, not_all hx (by unfold capOk; exact decide_eq_false (by omega))]; rfl)
  exact fun w' h => ResB.bad hc (by decide) h
  refine zM rfl <| zS (v_fieldAddr0 rfl rfl fld_140_0) rfl <| zS (v_load1 rfl rfl one_3 (cellAt rfl)) rfl <| ?_
  refine WL.test (v_gtr rfl rfl rfl) (.some rfl rfl rfl) rfl rfl (fun h55 => ?_) (fun h55 => ?_)
  refine zQ rfl <| zM rfl <| ?_
  iterate 4 refine WL.sk rfl ?_
  refine zP rfl <| zN <| cT rfl <| cR <| zA rfl <| zA rfl <| zN <| cE <| eR <| eB <| eR <| eR <| eB <| ?_
  refine eR <| WE.ret2 (P := Tryz.prog) (.inl rfl) Tryz.results44 rfl rfl <| ?_
  have hc : openC m = 1 := (by
    unfold openC
    rw [hb, not_all hx (by unfold capOk; exact decide_eq_false (by omega))]; rfl)
  exact fun w' h => ResB.bad hc (by decide) h
  refine zQ rfl <| zM rfl <| zS (v_fieldAddr0 rfl rfl fld_140_1) rfl <| zS (v_load1 rfl rfl one_25 (cellAt rfl)) rfl <| zS (v_len_slice rfl rfl Tryz.underlying25) rfl <| ?_
  refine WL.test (v_gtr rfl rfl rfl) (.some rfl rfl rfl) rfl rfl (fun h61 => ?_) (fun h61 => ?_)
  refine zQ rfl <| zN <| cT rfl <| cR <| zA rfl <| zA rfl <| zN <| cE <| eR <| eB <| eR <| eR <| eB <| ?_
  refine eR <| WE.ret2 (P := Tryz.prog) (.inl rfl) Tryz.results44 rfl rfl <| ?_
  have hc : openC m = 1 := (by
    unfold openC
    rw [hb, not_all hx (by unfold capOk; exact decide_eq_false (by omega))]; rfl)
  exact fun w' h => ResB.bad hc (by decide) h
  refine zQ rfl <| zN <| cF rfl <| cK <| eN <| cR <| zM rfl <| zF rfl fld_140_0 <| zL rfl one_3 rfl <| zV (v_conv rfl rfl Tryz.underlying5 Tryz.underlying3 (w_u8m _)) rfl <| zF rfl fld_140_1 <| zL rfl one_25 rfl <| zV (v_len_slice rfl rfl Tryz.underlying25) rfl <| ?_
  refine zV (v_conv rfl rfl Tryz.underlying5 Tryz.underlying3 (w_u8m _)) rfl <| zB Tryz.underlying25 sz_5 zero_5 rfl rfl <| ?_
  intro g71 hg71
  refine WL.as (L' := .row g71 (u8s [x.code % 256, (x.val.length : Int) % 256]) :: (E ++ [.row g6 x.cells, .row g1 m.cells])) rfl <| WL.to (L' := E ++ [.row g71 (u8s [x.code % 256, (x.val.length : Int) % 256]), .row g6 x.cells, .row g1 m.cells]) (fun w hS => hS.front [_]) <| ?_
  refine WL.appendL rfl rfl rfl Tryz.underlying25 Tryz.underlying25 sz_5 by_5 zero_5 rfl rfl hV (new := u8s [x.code % 256, (x.val.length : Int) % 256]) (fun _ => ⟨g71, 0, rfl, fun w hS => allAt (g := g71) w hS⟩) rfl (u8s_one _) (by omega) (.none rfl) rfl rfl ?_
  intro ad72 c72 E72 hV72 hr72
  refine zA rfl <| zN <| WC.region <| zM rfl <| zF rfl fld_140_1 <| zL rfl one_25 rfl <| ?_
  refine WL.appendL rfl rfl rfl Tryz.underlying25 Tryz.underlying25 sz_5 by_5 zero_5 rfl rfl hV72 (new := u8s x.val) (fun h => by obtain ⟨b', o', e, hr'⟩ := hM.vals x hxm (by rw [u8s_len]; exact h); exact ⟨b', o', e, rgIn (fun h => h) hr'⟩) (by rw [u8s_len]; omega) (u8s_one _) (by omega) (.none rfl) rfl rfl ?_
  intro ad76 c76 E76 hV76 hr76
  rw [← u8s_app, ← u8s_app] at hV76
  have hkl := hV76.toB
  rw [hkl] at hV76 ⊢
  refine zA rfl <| WL.nil <| eY <| eN <| WC.region <| ?_
  refine zV (v_add rfl rfl rfl (w_i64 (by omega) (by omega))) rfl ?_
  refine zM rfl <| WL.nil <| ?_
  exact WE.next (k + 1, _, ad76, c76, E76) (by dsimp only; omega) ⟨by dsimp only; omega, by dsimp only; rw [← hkl]; omega, by dsimp only; rw [List.append_assoc, List.append_assoc]; unfold capE at hy; rw [List.append_assoc] at hy; exact hy, fun j o' hj hjo => by
  by_cases e : j = k
  · subst e; rw [hx] at hjo; obtain rfl := Option.some.inj hjo; exact decide_eq_true ⟨by omega, by omega, by omega⟩
  · exact hok j o' (by dsimp only at hj; omega) hjo, hV76⟩ (.int rfl (by dsimp only; omega) (.cons rfl (.cons rfl (.cons rfl (.cons rfl .nil))))) (List.Sublist.append_left (.cons _ (.cons _ (.refl _))) _)
  refine zN <| cS <| cF rfl <| cX <| eX <| eX <| eH <| eN <| cS <| cR <| zM rfl <| ?_
  obtain rfl : k = m.caps.length := (by omega)
  have hy' : ys = capsE m.caps := (by rw [List.drop_length] at hy; rw [← hy]; exact (List.append_nil _).symm)
  have hall : m.caps.all capOk = true := all_of fun j x hj hx => hok j x (by omega) hx
  refine zV (v_len_slice rfl rfl Tryz.underlying25) rfl ?_
  refine zT (v_gtr rfl rfl rfl) rfl (fun h80 => ?_) (fun h80 => ?_)
  refine zN <| cT rfl <| cR <| zA rfl <| zA rfl <| zN <| cE <| eR <| WE.ret2 (P := Tryz.prog) (.inl rfl) Tryz.results44 rfl rfl <| ?_
  have hc : openC m = 6 := (by
    unfold openC
    rw [hb, hall, if_pos (show 253 < (capsE m.caps).length by rw [← hy']; omega)]; rfl)
  exact fun w' h => ResB.bad hc (by decide) h
  refine zN <| cF rfl <| cK <| eN <| cS <| WC.orders mixed <| rF 6 [1, 4] <| pV (v_fieldAddr0 rfl rfl fld_39_1) rfl <| pV (v_fieldAddr0 rfl rfl fld_39_2) rfl <| WP.nil <| ?_
  refine WR.each (g := 5) [0, 2, 5] (by kernel_rfl) (by decide) ?_
  refine ⟨?_, ⟨?_, ?_⟩⟩
  refine zB Tryz.underlying25 sz_5 zero_5 rfl rfl ?_
  intro g81 hg81
  refine WL.as (L' := [.row g81 (u8s [4])] ++ (E ++ [.row g1 m.cells])) rfl <| zH <| ?_
  refine WR.each (g := 4) [2, 5] (by kernel_rfl) (by decide) ?_
  refine ⟨?_, ?_⟩
  refine zL rfl one_3 rfl <| zH <| ?_
  refine WR.each (g := 3) [3, 5] (by kernel_rfl) (by decide) ?_
  refine ⟨?_, ?_⟩
  refine zK ck_48 rfl ?_
  intro w1 hS
  refine (put2_b (fun _ => False) w0 w1 _ _ _ _ [4] m.asn (Vec.row (k := 1) (s := 1) (c := 1) (cs := u8s [4]) rfl rfl (by omega)) hS (by decide) (by omega) (by omega)).mono ?_
  rintro e w' ⟨ad84, c84, E84, rfl, hV84, hS'⟩
  refine ⟨_, _, rfl, hS', ?_⟩
  refine zH <| rA 2 [5] rfl <| qV (v_load1 rfl rfl one_3 (cellAt rfl)) rfl <| WQ.nilR <| rO 1 [6] <| zK ck_48 rfl <| ?_
  intro w1 hS
  refine (put2_b (fun _ => False) w0 w1 _ _ _ _ _ m.hold hV84 hS (by rw [List.length_append, numB_len]; decide) (by omega) (by omega)).mono ?_
  rintro e w' ⟨ad87, c87, E87, rfl, hV87, hS'⟩
  refine ⟨_, _, rfl, hS', ?_⟩
  refine zH <| rF 0 [7] <| pV (v_assign rfl rfl) rfl <| WP.nil <| rD <| eN <| cR <| zM rfl <| zF rfl fld_39_3 <| zL rfl one_23 rfl <| zK ck_74 rfl <| ?_
  intro w1 hS
  refine (putAddr_c (fun _ => False) w0 w1 _ _ _ _ _ m.id 4 hV87 hS (by rw [List.length_append, List.length_append, numB_len, numB_len]; decide) (by decide)).mono ?_
  rintro e w' ⟨ad91, c91, E91, rfl, hV91, hS'⟩
  refine ⟨_, _, rfl, hS', ?_⟩
  have h91 : ([4] ++ numB m.asn 2 ++ numB m.hold 2 ++ addrB m.id 4).length = 9 := (by rw [List.length_append, List.length_append, List.length_append, numB_len, numB_len, addrB_len _ (by decide)]; rfl)
  refine zA rfl <| zN <| cS <| cR <| zM rfl <| zV (v_len_slice rfl rfl Tryz.underlying25) rfl <| ?_
  refine zT (v_eql rfl rfl rfl) rfl (fun h94 => ?_) (fun h94 => ?_)
  refine zN <| cT rfl <| cR <| zM rfl <| zB Tryz.underlying25 sz_5 zero_5 rfl rfl <| ?_
  intro g96 hg96
  refine WL.as (L' := .row g96 (u8s [0]) :: (E91 ++ (E ++ [.row g1 m.cells]))) rfl <| WL.to (L' := E91 ++ (.row g96 (u8s [0]) :: (E ++ [.row g1 m.cells]))) (fun w hS => hS.front [_]) <| ?_
  refine WL.appendL rfl rfl rfl Tryz.underlying25 Tryz.underlying25 sz_5 by_5 zero_5 rfl rfl hV91 (new := u8s [0]) (fun _ => ⟨g96, 0, rfl, fun w hS => allAt (g := g96) w hS⟩) rfl (u8s_one _) (by omega) (.none rfl) rfl rfl ?_
  intro ad97 c97 E97 hV97 hr97
  refine zA rfl <| zA rfl <| zN <| cE <| eR <| WE.ret2 (P := Tryz.prog) (.inl rfl) Tryz.results44 rfl rfl <| ?_
  have hc : openC m = 0 := (by
    unfold openC
    rw [hb, hall, if_neg (show ¬ 253 < (capsE m.caps).length by rw [← hy']; omega)]; rfl)
  rw [← u8s_app] at hV97
  have hkl := hV97.toB
  rw [hkl] at hV97 ⊢
  exact fun w' h => ResB.good hc hV97 h (by unfold openB; rw [if_pos (by rw [← hy']; omega)])
  refine zN <| cF rfl <| cK <| eN <| cR <| zM rfl <| zM rfl <| zV (v_len_slice rfl rfl Tryz.underlying25) rfl <| ?_
  refine zV (v_add rfl rfl rfl (show _ = ((2 + ys.length : Nat) : Int) from (w_i64 (by omega) (by omega)).trans (by omega))) rfl ?_
  refine zV (v_conv rfl rfl Tryz.underlying5 Tryz.underlying3 (w_u8m _)) rfl <| zM rfl <| zV (v_len_slice rfl rfl Tryz.underlying25) rfl <| zV (v_conv rfl rfl Tryz.underlying5 Tryz.underlying3 (w_u8m _)) rfl <| zB Tryz.underlying25 sz_5 zero_5 rfl rfl <| ?_
  intro g106 hg106
  refine WL.as (L' := .row g106 (u8s [((2 + ys.length : Nat) : Int) % 256, 2, (ys.length : Int) % 256]) :: (E91 ++ (E ++ [.row g1 m.cells]))) rfl <| WL.to (L' := E91 ++ (.row g106 (u8s [((2 + ys.length : Nat) : Int) % 256, 2, (ys.length : Int) % 256]) :: (E ++ [.row g1 m.cells]))) (fun w hS => hS.front [_]) <| ?_
  refine WL.appendL rfl rfl rfl Tryz.underlying25 Tryz.underlying25 sz_5 by_5 zero_5 rfl rfl hV91 (new := u8s [((2 + ys.length : Nat) : Int) % 256, 2, (ys.length : Int) % 256]) (fun _ => ⟨g106, 0, rfl, fun w hS => allAt (g := g106) w hS⟩) rfl (u8s_one _) (by omega) (.none rfl) rfl rfl ?_
  intro ad107 c107 E107 hV107 hr107
  refine zA rfl <| zR <| zM rfl <| zM rfl <| ?_
  refine WL.appendL rfl rfl rfl Tryz.underlying25 Tryz.underlying25 sz_5 by_5 zero_5 rfl rfl hV107 (new := u8s ys) (fun h => by obtain ⟨b', o', e, hr'⟩ := hV.src (L := E107 ++ (.row g106 (u8s [((2 + ys.length : Nat) : Int) % 256, 2, (ys.length : Int) % 256]) :: (E ++ [.row g1 m.cells]))) (fun e he => List.mem_append_right _ (.tail _ (List.mem_append_left _ he))) (by rw [u8s_len]; exact h); exact ⟨b', o', e, fun w hS => hr' _ _ w hS⟩) (by rw [u8s_len]; omega) (u8s_one _) (by omega) (.none rfl) rfl rfl ?_
  intro ad110 c110 E110 hV110 hr110
  refine zA rfl <| zA rfl <| zN <| cE <| WE.ret2 (P := Tryz.prog) (.inl rfl) Tryz.results44 rfl rfl <| ?_
  have hc : openC m = 0 := (by
    unfold openC
    rw [hb, hall, if_neg (show ¬ 253 < (capsE m.caps).length by rw [← hy']; omega)]; rfl)
  rw [← u8s_app, ← u8s_app] at hV110
  have hkl := hV110.toB
  rw [hkl] at hV110 ⊢
  exact fun w' h => ResB.good hc hV110 h (by unfold openB; rw [if_neg (by rw [← hy']; omega), ← hy', List.append_assoc]; rfl)
  refine zL rfl one_3 rfl <| zH <| rO 1 [3, 6] <| zK ck_48 rfl <| ?_
  intro w1 hS
  refine (put2_b (fun _ => False) w0 w1 _ _ _ _ [4] m.asn (Vec.row (k := 1) (s := 1) (c := 1) (cs := u8s [4]) rfl rfl (by omega)) hS (by decide) (by omega) (by omega)).mono ?_
  rintro e w' ⟨ad84, c84, E84, rfl, hV84, hS'⟩
  refine ⟨_, _, rfl, hS', ?_⟩
  refine zK ck_48 rfl ?_
  intro w1 hS
  refine (put2_b (fun _ => False) w0 w1 _ _ _ _ _ m.hold hV84 hS (by rw [List.length_append, numB_len]; decide) (by omega) (by omega)).mono ?_
  rintro e w' ⟨ad87, c87, E87, rfl, hV87, hS'⟩
  refine ⟨_, _, rfl, hS', ?_⟩
  refine zH <| rF 0 [7] <| pV (v_assign rfl rfl) rfl <| WP.nil <| rD <| eN <| cR <| zM rfl <| zF rfl fld_39_3 <| zL rfl one_23 rfl <| zK ck_74 rfl <| ?_
  intro w1 hS
  refine (putAddr_c (fun _ => False) w0 w1 _ _ _ _ _ m.id 4 hV87 hS (by rw [List.length_append, List.length_append, numB_len, numB_len]; decide) (by decide)).mono ?_
  rintro e w' ⟨ad91, c91, E91, rfl, hV91, hS'⟩
  refine ⟨_, _, rfl, hS', ?_⟩
  have h91 : ([4] ++ numB m.asn 2 ++ numB m.hold 2 ++ addrB m.id 4).length = 9 := (by rw [List.length_append, List.length_append, List.length_append, numB_len, numB_len, addrB_len _ (by decide)]; rfl)
  refine zA rfl <| zN <| cS <| cR <| zM rfl <| zV (v_len_slice rfl rfl Tryz.underlying25) rfl <| ?_
  refine zT (v_eql rfl rfl rfl) rfl (fun h94 => ?_) (fun h94 => ?_)
  refine zN <| cT rfl <| cR <| zM rfl <| zB Tryz.underlying25 sz_5 zero_5 rfl rfl <| ?_
  intro g96 hg96
  refine WL.as (L' := .row g96 (u8s [0]) :: (E91 ++ (E ++ [.row g1 m.cells]))) rfl <| WL.to (L' := E91 ++ (.row g96 (u8s [0]) :: (E ++ [.row g1 m.cells]))) (fun w hS => hS.front [_]) <| ?_
  refine WL.appendL rfl rfl rfl Tryz.underlying25 Tryz.underlying25 sz_5 by_5 zero_5 rfl rfl hV91 (new := u8s [0]) (fun _ => ⟨g96, 0, rfl, fun w hS => allAt (g := g96) w hS⟩) rfl (u8s_one _) (by omega) (.none rfl) rfl rfl ?_
  intro ad97 c97 E97 hV97 hr97
  refine zA rfl <| zA rfl <| zN <| cE <| eR <| WE.ret2 (P := Tryz.prog) (.inl rfl) Tryz.results44 rfl rfl <| ?_
  have hc : openC m = 0 := (by
    unfold openC
    rw [hb, hall, if_neg (show ¬ 253 < (capsE m.caps).length by rw [← hy']; omega)]; rfl)
  rw [← u8s_app] at hV97
  have hkl := hV97.toB
  rw [hkl] at hV97 ⊢
  exact fun w' h => ResB.good hc hV97 h (by unfold openB; rw [if_pos (by rw [← hy']; omega)])
  refine zN <| cF rfl <| cK <| eN <| cR <| zM rfl <| zM rfl <| zV (v_len_slice rfl rfl Tryz.underlying25) rfl <| ?_
  refine zV (v_add rfl rfl rfl (show _ = ((2 + ys.length : Nat) : Int) from (w_i64 (by omega) (by omega)).trans (by omega))) rfl ?_
  refine zV (v_conv rfl rfl Tryz.underlying5 Tryz.underlying3 (w_u8m _)) rfl <| zM rfl <| zV (v_len_slice rfl rfl Tryz.underlying25) rfl <| zV (v_conv rfl rfl Tryz.underlying5 Tryz.underlying3 (w_u8m _)) rfl <| zB Tryz.underlying25 sz_5 zero_5 rfl rfl <| ?_
  intro g106 hg106
  refine WL.as (L' := .row g106 (u8s [((2 + ys.length : Nat) : Int) % 256, 2, (ys.length : Int) % 256]) :: (E91 ++ (E ++ [.row g1 m.cells]))) rfl <| WL.to (L' := E91 ++ (.row g106 (u8s [((2 + ys.length : Nat) : Int) % 256, 2, (ys.length : Int) % 256]) :: (E ++ [.row g1 m.cells]))) (fun w hS => hS.front [_]) <| ?_
  refine WL.appendL rfl rfl rfl Tryz.underlying25 Tryz.underlying25 sz_5 by_5 zero_5 rfl rfl hV91 (new := u8s [((2 + ys.length : Nat) : Int) % 256, 2, (ys.length : Int) % 256]) (fun _ => ⟨g106, 0, rfl, fun w hS => allAt (g := g106) w hS⟩) rfl (u8s_one _) (by omega) (.none rfl) rfl rfl ?_
  intro ad107 c107 E107 hV107 hr107
  refine zA rfl <| zR <| zM rfl <| zM rfl <| ?_
  refine WL.appendL rfl rfl rfl Tryz.underlying25 Tryz.underlying25 sz_5 by_5 zero_5 rfl rfl hV107 (new := u8s ys) (fun h => by obtain ⟨b', o', e, hr'⟩ := hV.src (L := E107 ++ (.row g106 (u8s [((2 + ys.length : Nat) : Int) % 256, 2, (ys.length : Int) % 256]) :: (E ++ [.row g1 m.cells]))) (fun e he => List.mem_append_right _ (.tail _ (List.mem_append_left _ he))) (by rw [u8s_len]; exact h); exact ⟨b', o', e, fun w hS => hr' _ _ w hS⟩) (by rw [u8s_len]; omega) (u8s_one _) (by omega) (.none rfl) rfl rfl ?_
  intro ad110 c110 E110 hV110 hr110
  refine zA rfl <| zA rfl <| zN <| cE <| WE.ret2 (P := Tryz.prog) (.inl rfl) Tryz.results44 rfl rfl <| ?_
  have hc : openC m = 0 := (by
    unfold openC
    rw [hb, hall, if_neg (show ¬ 253 < (capsE m.caps).length by rw [← hy']; omega)]; rfl)
  rw [← u8s_app, ← u8s_app] at hV110
  have hkl := hV110.toB
  rw [hkl] at hV110 ⊢
  exact fun w' h => ResB.good hc hV110 h (by unfold openB; rw [if_neg (by rw [← hy']; omega), ← hy', List.append_assoc]; rfl)
  refine zL rfl one_3 rfl <| zH <| rA 3 [2] rfl <| qV (v_load1 rfl rfl one_3 (cellAt rfl)) rfl <| WQ.nilR <| rO 1 [3, 6] <| zK ck_48 rfl <| ?_
  intro w1 hS
  refine (put2_b (fun _ => False) w0 w1 _ _ _ _ [4] m.asn (Vec.row (k := 1) (s := 1) (c := 1) (cs := u8s [4]) rfl rfl (by omega)) hS (by decide) (by omega) (by omega)).mono ?_
  rintro e w' ⟨ad84, c84, E84, rfl, hV84, hS'⟩
  refine ⟨_, _, rfl, hS', ?_⟩
  refine zK ck_48 rfl ?_
  intro w1 hS
  refine (put2_b (fun _ => False) w0 w1 _ _ _ _ _ m.hold hV84 hS (by rw [List.length_append, numB_len]; decide) (by omega) (by omega)).mono ?_
  rintro e w' ⟨ad87, c87, E87, rfl, hV87, hS'⟩
  refine ⟨_, _, rfl, hS', ?_⟩
  refine zH <| rF 0 [7] <| pV (v_assign rfl rfl) rfl <| WP.nil <| rD <| eN <| cR <| zM rfl <| zF rfl fld_39_3 <| zL rfl one_23 rfl <| zK ck_74 rfl <| ?_
  intro w1 hS
  refine (putAddr_c (fun _ => False) w0 w1 _ _ _ _ _ m.id 4 hV87 hS (by rw [List.length_append, List.length_append, numB_len, numB_len]; decide) (by decide)).mono ?_
  rintro e w' ⟨ad91, c91, E91, rfl, hV91, hS'⟩
  refine ⟨_, _, rfl, hS', ?_⟩
  have h91 : ([4] ++ numB m.asn 2 ++ numB m.hold 2 ++ addrB m.id 4).length = 9 := (by rw [List.length_append, List.length_append, List.length_append, numB_len, numB_len, addrB_len _ (by decide)]; rfl)
  refine zA rfl <| zN <| cS <| cR <| zM rfl <| zV (v_len_slice rfl rfl Tryz.underlying25) rfl <| ?_
  refine zT (v_eql rfl rfl rfl) rfl (fun h94 => ?_) (fun h94 => ?_)
  refine zN <| cT rfl <| cR <| zM rfl <| zB Tryz.underlying25 sz_5 zero_5 rfl rfl <| ?_
  intro g96 hg96
  refine WL.as (L' := .row g96 (u8s [0]) :: (E91 ++ (E ++ [.row g1 m.cells]))) rfl <| WL.to (L' := E91 ++ (.row g96 (u8s [0]) :: (E ++ [.row g1 m.cells]))) (fun w hS => hS.front [_]) <| ?_
  refine WL.appendL rfl rfl rfl Tryz.underlying25 Tryz.underlying25 sz_5 by_5 zero_5 rfl rfl hV91 (new := u8s [0]) (fun _ => ⟨g96, 0, rfl, fun w hS => allAt (g := g96) w hS⟩) rfl (u8s_one _) (by omega) (.none rfl) rfl rfl ?_
  intro ad97 c97 E97 hV97 hr97
  refine zA rfl <| zA rfl <| zN <| cE <| eR <| WE.ret2 (P := Tryz.prog) (.inl rfl) Tryz.results44 rfl rfl <| ?_
  have hc : openC m = 0 := (by
    unfold openC
    rw [hb, hall, if_neg (show ¬ 253 < (capsE m.caps).length by rw [← hy']; omega)]; rfl)
  rw [← u8s_app] at hV97
  have hkl := hV97.toB
  rw [hkl] at hV97 ⊢
  exact fun w' h => ResB.good hc hV97 h (by unfold openB; rw [if_pos (by rw [← hy']; omega)])
  refine zN <| cF rfl <| cK <| eN <| cR <| zM rfl <| zM rfl <| zV (v_len_slice rfl rfl Tryz.underlying25) rfl <| ?_
  refine zV (v_add rfl rfl rfl (show _ = ((2 + ys.length : Nat) : Int) from (w_i64 (by omega) (by omega)).trans (by omega))) rfl ?_
  refine zV (v_conv rfl rfl Tryz.underlying5 Tryz.underlying3 (w_u8m _)) rfl <| zM rfl <| zV (v_len_slice rfl rfl Tryz.underlying25) rfl <| zV (v_conv rfl rfl Tryz.underlying5 Tryz.underlying3 (w_u8m _)) rfl <| zB Tryz.underlying25 sz_5 zero_5 rfl rfl <| ?_
  intro g106 hg106
  refine WL.as (L' := .row g106 (u8s [((2 + ys.length : Nat) : Int) % 256, 2, (ys.length : Int) % 256]) :: (E91 ++ (E ++ [.row g1 m.cells]))) rfl <| WL.to (L' := E91 ++ (.row g106 (u8s [((2 + ys.length : Nat) : Int) % 256, 2, (ys.length : Int) % 256]) :: (E ++ [.row g1 m.cells]))) (fun w hS => hS.front [_]) <| ?_
  refine WL.appendL rfl rfl rfl Tryz.underlying25 Tryz.underlying25 sz_5 by_5 zero_5 rfl rfl hV91 (new := u8s [((2 + ys.length : Nat) : Int) % 256, 2, (ys.length : Int) % 256]) (fun _ => ⟨g106, 0, rfl, fun w hS => allAt (g := g106) w hS⟩) rfl (u8s_one _) (by omega) (.none rfl) rfl rfl ?_
  intro ad107 c107 E107 hV107 hr107
  refine zA rfl <| zR <| zM rfl <| zM rfl <| ?_
  refine WL.appendL rfl rfl rfl Tryz.underlying25 Tryz.underlying25 sz_5 by_5 zero_5 rfl rfl hV107 (new := u8s ys) (fun h => by obtain ⟨b', o', e, hr'⟩ := hV.src (L := E107 ++ (.row g106 (u8s [((2 + ys.length : Nat) : Int) % 256, 2, (ys.length : Int) % 256]) :: (E ++ [.row g1 m.cells]))) (fun e he => List.mem_append_right _ (.tail _ (List.mem_append_left _ he))) (by rw [u8s_len]; exact h); exact ⟨b', o', e, fun w hS => hr' _ _ w hS⟩) (by rw [u8s_len]; omega) (u8s_one _) (by omega) (.none rfl) rfl rfl ?_
  intro ad110 c110 E110 hV110 hr110
  refine zA rfl <| zA rfl <| zN <| cE <| WE.ret2 (P := Tryz.prog) (.inl rfl) Tryz.results44 rfl rfl <| ?_
  have hc : openC m = 0 := (by
    unfold openC
    rw [hb, hall, if_neg (show ¬ 253 < (capsE m.caps).length by rw [← hy']; omega)]; rfl)
  rw [← u8s_app, ← u8s_app] at hV110
  have hkl := hV110.toB
  rw [hkl] at hV110 ⊢
  exact fun w' h => ResB.good hc hV110 h (by unfold openB; rw [if_neg (by rw [← hy']; omega), ← hy', List.append_assoc]; rfl)
  refine zL rfl one_3 rfl <| zH <| ?_
  refine WR.each (g := 4) [0, 5] (by kernel_rfl) (by decide) ?_
  refine ⟨?_, ?_⟩
  refine zB Tryz.underlying25 sz_5 zero_5 rfl rfl ?_
  intro g81 hg81
  refine WL.as (L' := [.row g81 (u8s [4])] ++ (E ++ [.row g1 m.cells])) rfl <| zH <| ?_
  refine WR.each (g := 3) [3, 5] (by kernel_rfl) (by decide) ?_
  refine ⟨?_, ?_⟩
  refine zK ck_48 rfl ?_
  intro w1 hS
  refine (put2_b (fun _ => False) w0 w1 _ _ _ _ [4] m.asn (Vec.row (k := 1) (s := 1) (c := 1) (cs := u8s [4]) rfl rfl (by omega)) hS (by decide) (by omega) (by omega)).mono ?_
  rintro e w' ⟨ad84, c84, E84, rfl, hV84, hS'⟩
  refine ⟨_, _, rfl, hS', ?_⟩
  refine zH <| rA 2 [5] rfl <| qV (v_load1 rfl rfl one_3 (cellAt rfl)) rfl <| WQ.nilR <| rO 1 [6] <| zK ck_48 rfl <| ?_
  intro w1 hS
  refine (put2_b (fun _ => False) w0 w1 _ _ _ _ _ m.hold hV84 hS (by rw [List.length_append, numB_len]; decide) (by omega) (by omega)).mono ?_
  rintro e w' ⟨ad87, c87, E87, rfl, hV87, hS'⟩
  refine ⟨_, _, rfl, hS', ?_⟩
  refine zH <| rF 0 [7] <| pV (v_assign rfl rfl) rfl <| WP.nil <| rD <| eN <| cR <| zM rfl <| zF rfl fld_39_3 <| zL rfl one_23 rfl <| zK ck_74 rfl <| ?_
  intro w1 hS
  refine (putAddr_c (fun _ => False) w0 w1 _ _ _ _ _ m.id 4 hV87 hS (by rw [List.length_append, List.length_append, numB_len, numB_len]; decide) (by decide)).mono ?_
  rintro e w' ⟨ad91, c91, E91, rfl, hV91, hS'⟩
  refine ⟨_, _, rfl, hS', ?_⟩
  have h91 : ([4] ++ numB m.asn 2 ++ numB m.hold 2 ++ addrB m.id 4).length = 9 := (by rw [List.length_append, List.length_append, List.length_append, numB_len, numB_len, addrB_len _ (by decide)]; rfl)
  refine zA rfl <| zN <| cS <| cR <| zM rfl <| zV (v_len_slice rfl rfl Tryz.underlying25) rfl <| ?_
  refine zT (v_eql rfl rfl rfl) rfl (fun h94 => ?_) (fun h94 => ?_)
  refine zN <| cT rfl <| cR <| zM rfl <| zB Tryz.underlying25 sz_5 zero_5 rfl rfl <| ?_
  intro g96 hg96
  refine WL.as (L' := .row g96 (u8s [0]) :: (E91 ++ (E ++ [.row g1 m.cells]))) rfl <| WL.to (L' := E91 ++ (.row g96 (u8s [0]) :: (E ++ [.row g1 m.cells]))) (fun w hS => hS.front [_]) <| ?_
  refine WL.appendL rfl rfl rfl Tryz.underlying25 Tryz.underlying25 sz_5 by_5 zero_5 rfl rfl hV91 (new := u8s [0]) (fun _ => ⟨g96, 0, rfl, fun w hS => allAt (g := g96) w hS⟩) rfl (u8s_one _) (by omega) (.none rfl) rfl rfl ?_
  intro ad97 c97 E97 hV97 hr97
  refine zA rfl <| zA rfl <| zN <| cE <| eR <| WE.ret2 (P := Tryz.prog) (.inl rfl) Tryz.results44 rfl rfl <| ?_
  have hc : openC m = 0 := (by
    unfold openC
    rw [hb, hall, if_neg (show ¬ 253 < (capsE m.caps).length by rw [← hy']; omega)]; rfl)
  rw [← u8s_app] at hV97
  have hkl := hV97.toB
  rw [hkl] at hV97 ⊢
  exact fun w' h => ResB.good hc hV97 h (by unfold openB; rw [if_pos (by rw [← hy']; omega)])
  refine zN <| cF rfl <| cK <| eN <| cR <| zM rfl <| zM rfl <| zV (v_len_slice rfl rfl Tryz.underlying25) rfl <| ?_
  refine zV (v_add rfl rfl rfl (show _ = ((2 + ys.length : Nat) : Int) from (w_i64 (by omega) (by omega)).trans (by omega))) rfl ?_
  refine zV (v_conv rfl rfl Tryz.underlying5 Tryz.underlying3 (w_u8m _)) rfl <| zM rfl <| zV (v_len_slice rfl rfl Tryz.underlying25) rfl <| zV (v_conv rfl rfl Tryz.underlying5 Tryz.underlying3 (w_u8m _)) rfl <| zB Tryz.underlying25 sz_5 zero_5 rfl rfl <| ?_
  intro g106 hg106
  refine WL.as (L' := .row g106 (u8s [((2 + ys.length : Nat) : Int) % 256, 2, (ys.length : Int) % 256]) :: (E91 ++ (E ++ [.row g1 m.cells]))) rfl <| WL.to (L' := E91 ++ (.row g106 (u8s [((2 + ys.length : Nat) : Int) % 256, 2, (ys.length : Int) % 256]) :: (E ++ [.row g1 m.cells]))) (fun w hS => hS.front [_]) <| ?_
  refine WL.appendL rfl rfl rfl Tryz.underlying25 Tryz.underlying25 sz_5 by_5 zero_5 rfl rfl hV91 (new := u8s [((2 + ys.length : Nat) : Int) % 256, 2, (ys.length : Int) % 256]) (fun _ => ⟨g106, 0, rfl, fun w hS => allAt (g := g106) w hS⟩) rfl (u8s_one _) (by omega) (.none rfl) rfl rfl ?_
  intro ad107 c107 E107 hV107 hr107
  refine zA rfl <| zR <| zM rfl <| zM rfl <| ?_
  refine WL.appendL rfl rfl rfl Tryz.underlying25 Tryz.underlying25 sz_5 by_5 zero_5 rfl rfl hV107 (new := u8s ys) (fun h => by obtain ⟨b', o', e, hr'⟩ := hV.src (L := E107 ++ (.row g106 (u8s [((2 + ys.length : Nat) : Int) % 256, 2, (ys.length : Int) % 256]) :: (E ++ [.row g1 m.cells]))) (fun e he => List.mem_append_right _ (.tail _ (List.mem_append_left _ he))) (by rw [u8s_len]; exact h); exact ⟨b', o', e, fun w hS => hr' _ _ w hS⟩) (by rw [u8s_len]; omega) (u8s_one _) (by omega) (.none rfl) rfl rfl ?_
  intro ad110 c110 E110 hV110 hr110
  refine zA rfl <| zA rfl <| zN <| cE <| WE.ret2 (P := Tryz.prog) (.inl rfl) Tryz.results44 rfl rfl <| ?_
  have hc : openC m = 0 := (by
    unfold openC
    rw [hb, hall, if_neg (show ¬ 253 < (capsE m.caps).length by rw [← hy']; omega)]; rfl)
  rw [← u8s_app, ← u8s_app] at hV110
  have hkl := hV110.toB
  rw [hkl] at hV110 ⊢
  exact fun w' h => ResB.good hc hV110 h (by unfold openB; rw [if_neg (by rw [← hy']; omega), ← hy', List.append_assoc]; rfl)
  refine zL rfl one_3 rfl <| zH <| rO 1 [3, 6] <| zK ck_48 rfl <| ?_
  intro w1 hS
  refine (put2_b (fun _ => False) w0 w1 _ _ _ _ [4] m.asn (Vec.row (k := 1) (s := 1) (c := 1) (cs := u8s [4]) rfl rfl (by omega)) hS (by decide) (by omega) (by omega)).mono ?_
  rintro e w' ⟨ad84, c84, E84, rfl, hV84, hS'⟩
  refine ⟨_, _, rfl, hS', ?_⟩
  refine zK ck_48 rfl ?_
  intro w1 hS
  refine (put2_b (fun _ => False) w0 w1 _ _ _ _ _ m.hold hV84 hS (by rw [List.length_append, numB_len]; decide) (by omega) (by omega)).mono ?_
  rintro e w' ⟨ad87, c87, E87, rfl, hV87, hS'⟩
  refine ⟨_, _, rfl, hS', ?_⟩
  refine zH <| rF 0 [7] <| pV (v_assign rfl rfl) rfl <| WP.nil <| rD <| eN <| cR <| zM rfl <| zF rfl fld_39_3 <| zL rfl one_23 rfl <| zK ck_74 rfl <| ?_
  intro w1 hS
  refine (putAddr_c (fun _ => False) w0 w1 _ _ _ _ _ m.id 4 hV87 hS (by rw [List.length_append, List.length_append, numB_len, numB_len]; decide) (by decide)).mono ?_
  rintro e w' ⟨ad91, c91, E91, rfl, hV91, hS'⟩
  refine ⟨_, _, rfl, hS', ?_⟩
  have h91 : ([4] ++ numB m.asn 2 ++ numB m.hold 2 ++ addrB m.id 4).length = 9 := (by rw [List.length_append, List.length_append, List.length_append, numB_len, numB_len, addrB_len _ (by decide)]; rfl)
  refine zA rfl <| zN <| cS <| cR <| zM rfl <| zV (v_len_slice rfl rfl Tryz.underlying25) rfl <| ?_
  refine zT (v_eql rfl rfl rfl) rfl (fun h94 => ?_) (fun h94 => ?_)
  refine zN <| cT rfl <| cR <| zM rfl <| zB Tryz.underlying25 sz_5 zero_5 rfl rfl <| ?_
  intro g96 hg96
  refine WL.as (L' := .row g96 (u8s [0]) :: (E91 ++ (E ++ [.row g1 m.cells]))) rfl <| WL.to (L' := E91 ++ (.row g96 (u8s [0]) :: (E ++ [.row g1 m.cells]))) (fun w hS => hS.front [_]) <| ?_
  refine WL.appendL rfl rfl rfl Tryz.underlying25 Tryz.underlying25 sz_5 by_5 zero_5 rfl rfl hV91 (new := u8s [0]) (fun _ => ⟨g96, 0, rfl, fun w hS => allAt (g := g96) w hS⟩) rfl (u8s_one _) (by omega) (.none rfl) rfl rfl ?_
  intro ad97 c97 E97 hV97 hr97
  refine zA rfl <| zA rfl <| zN <| cE <| eR <| WE.ret2 (P := Tryz.prog) (.inl rfl) Tryz.results44 rfl rfl <| ?_
  have hc : openC m = 0 := (by
    unfold openC
    rw [hb, hall, if_neg (show ¬ 253 < (capsE m.caps).length by rw [← hy']; omega)]; rfl)
  rw [← u8s_app] at hV97
  have hkl := hV97.toB
  rw [hkl] at hV97 ⊢
  exact fun w' h => ResB.good hc hV97 h (by unfold openB; rw [if_pos (by rw [← hy']; omega)])
  refine zN <| cF rfl <| cK <| eN <| cR <| zM rfl <| zM rfl <| zV (v_len_slice rfl rfl Tryz.underlying25) rfl <| ?_
  refine zV (v_add rfl rfl rfl (show _ = ((2 + ys.length : Nat) : Int) from (w_i64 (by omega) (by omega)).trans (by omega))) rfl ?_
  refine zV (v_conv rfl rfl Tryz.underlying5 Tryz.underlying3 (w_u8m _)) rfl <| zM rfl <| zV (v_len_slice rfl rfl Tryz.underlying25) rfl <| zV (v_conv rfl rfl Tryz.underlying5 Tryz.underlying3 (w_u8m _)) rfl <| zB Tryz.underlying25 sz_5 zero_5 rfl rfl <| ?_
  intro g106 hg106
  refine WL.as (L' := .row g106 (u8s [((2 + ys.length : Nat) : Int) % 256, 2, (ys.length : Int) % 256]) :: (E91 ++ (E ++ [.row g1 m.cells]))) rfl <| WL.to (L' := E91 ++ (.row g106 (u8s [((2 + ys.length : Nat) : Int) % 256, 2, (ys.length : Int) % 256]) :: (E ++ [.row g1 m.cells]))) (fun w hS => hS.front [_]) <| ?_
  refine WL.appendL rfl rfl rfl Tryz.underlying25 Tryz.underlying25 sz_5 by_5 zero_5 rfl rfl hV91 (new := u8s [((2 + ys.length : Nat) : Int) % 256, 2, (ys.length : Int) % 256]) (fun _ => ⟨g106, 0, rfl, fun w hS => allAt (g := g106) w hS⟩) rfl (u8s_one _) (by omega) (.none rfl) rfl rfl ?_
  intro ad107 c107 E107 hV107 hr107
  refine zA rfl <| zR <| zM rfl <| zM rfl <| ?_
  refine WL.appendL rfl rfl rfl Tryz.underlying25 Tryz.underlying25 sz_5 by_5 zero_5 rfl rfl hV107 (new := u8s ys) (fun h => by obtain ⟨b', o', e, hr'⟩ := hV.src (L := E107 ++ (.row g106 (u8s [((2 + ys.length : Nat) : Int) % 256, 2, (ys.length : Int) % 256]) :: (E ++ [.row g1 m.cells]))) (fun e he => List.mem_append_right _ (.tail _ (List.mem_append_left _ he))) (by rw [u8s_len]; exact h); exact ⟨b', o', e, fun w hS => hr' _ _ w hS⟩) (by rw [u8s_len]; omega) (u8s_one _) (by omega) (.none rfl) rfl rfl ?_
  intro ad110 c110 E110 hV110 hr110
  refine zA rfl <| zA rfl <| zN <| cE <| WE.ret2 (P := Tryz.prog) (.inl rfl) Tryz.results44 rfl rfl <| ?_
  have hc : openC m = 0 := (by
    unfold openC
    rw [hb, hall, if_neg (show ¬ 253 < (capsE m.caps).length by rw [← hy']; omega)]; rfl)
  rw [← u8s_app, ← u8s_app] at hV110
  have hkl := hV110.toB
  rw [hkl] at hV110 ⊢
  exact fun w' h => ResB.good hc hV110 h (by unfold openB; rw [if_neg (by rw [← hy']; omega), ← hy', List.append_assoc]; rfl)
  refine zL rfl one_3 rfl <| zH <| rO 1 [0, 3, 6] <| zB Tryz.underlying25 sz_5 zero_5 rfl rfl <| ?_
  intro g81 hg81
  refine WL.as (L' := [.row g81 (u8s [4])] ++ (E ++ [.row g1 m.cells])) rfl <| zK ck_48 rfl <| ?_
  intro w1 hS
  refine (put2_b (fun _ => False) w0 w1 _ _ _ _ [4] m.asn (Vec.row (k := 1) (s := 1) (c := 1) (cs := u8s [4]) rfl rfl (by omega)) hS (by decide) (by omega) (by omega)).mono ?_
  rintro e w' ⟨ad84, c84, E84, rfl, hV84, hS'⟩
  refine ⟨_, _, rfl, hS', ?_⟩
  refine zK ck_48 rfl ?_
  intro w1 hS
  refine (put2_b (fun _ => False) w0 w1 _ _ _ _ _ m.hold hV84 hS (by rw [List.length_append, numB_len]; decide) (by omega) (by omega)).mono ?_
  rintro e w' ⟨ad87, c87, E87, rfl, hV87, hS'⟩
  refine ⟨_, _, rfl, hS', ?_⟩
  refine zH <| rF 0 [7] <| pV (v_assign rfl rfl) rfl <| WP.nil <| rD <| eN <| cR <| zM rfl <| zF rfl fld_39_3 <| zL rfl one_23 rfl <| zK ck_74 rfl <| ?_
  intro w1 hS
  refine (putAddr_c (fun _ => False) w0 w1 _ _ _ _ _ m.id 4 hV87 hS (by rw [List.length_append, List.length_append, numB_len, numB_len]; decide) (by decide)).mono ?_
  rintro e w' ⟨ad91, c91, E91, rfl, hV91, hS'⟩
  refine ⟨_, _, rfl, hS', ?_⟩
  have h91 : ([4] ++ numB m.asn 2 ++ numB m.hold 2 ++ addrB m.id 4).length = 9 := (by rw [List.length_append, List.length_append, List.length_append, numB_len, numB_len, addrB_len _ (by decide)]; rfl)
  refine zA rfl <| zN <| cS <| cR <| zM rfl <| zV (v_len_slice rfl rfl Tryz.underlying25) rfl <| ?_
  refine zT (v_eql rfl rfl rfl) rfl (fun h94 => ?_) (fun h94 => ?_)
  refine zN <| cT rfl <| cR <| zM rfl <| zB Tryz.underlying25 sz_5 zero_5 rfl rfl <| ?_
  intro g96 hg96
  refine WL.as (L' := .row g96 (u8s [0]) :: (E91 ++ (E ++ [.row g1 m.cells]))) rfl <| WL.to (L' := E91 ++ (.row g96 (u8s [0]) :: (E ++ [.row g1 m.cells]))) (fun w hS => hS.front [_]) <| ?_
  refine WL.appendL rfl rfl rfl Tryz.underlying25 Tryz.underlying25 sz_5 by_5 zero_5 rfl rfl hV91 (new := u8s [0]) (fun _ => ⟨g96, 0, rfl, fun w hS => allAt (g := g96) w hS⟩) rfl (u8s_one _) (by omega) (.none rfl) rfl rfl ?_
  intro ad97 c97 E97 hV97 hr97
  refine zA rfl <| zA rfl <| zN <| cE <| eR <| WE.ret2 (P := Tryz.prog) (.inl rfl) Tryz.results44 rfl rfl <| ?_
  have hc : openC m = 0 := (by
    unfold openC
    rw [hb, hall, if_neg (show ¬ 253 < (capsE m.caps).length by rw [← hy']; omega)]; rfl)
  rw [← u8s_app] at hV97
  have hkl := hV97.toB
  rw [hkl] at hV97 ⊢
  exact fun w' h => ResB.good hc hV97 h (by unfold openB; rw [if_pos (by rw [← hy']; omega)])
  refine zN <| cF rfl <| cK <| eN <| cR <| zM rfl <| zM rfl <| zV (v_len_slice rfl rfl Tryz.underlying25) rfl <| ?_
  refine zV (v_add rfl rfl rfl (show _ = ((2 + ys.length : Nat) : Int) from (w_i64 (by omega) (by omega)).trans (by omega))) rfl ?_
  refine zV (v_conv rfl rfl Tryz.underlying5 Tryz.underlying3 (w_u8m _)) rfl <| zM rfl <| zV (v_len_slice rfl rfl Tryz.underlying25) rfl <| zV (v_conv rfl rfl Tryz.underlying5 Tryz.underlying3 (w_u8m _)) rfl <| zB Tryz.underlying25 sz_5 zero_5 rfl rfl <| ?_
  intro g106 hg106
  refine WL.as (L' := .row g106 (u8s [((2 + ys.length : Nat) : Int) % 256, 2, (ys.length : Int) % 256]) :: (E91 ++ (E ++ [.row g1 m.cells]))) rfl <| WL.to (L' := E91 ++ (.row g106 (u8s [((2 + ys.length : Nat) : Int) % 256, 2, (ys.length : Int) % 256]) :: (E ++ [.row g1 m.cells]))) (fun w hS => hS.front [_]) <| ?_
  refine WL.appendL rfl rfl rfl Tryz.underlying25 Tryz.underlying25 sz_5 by_5 zero_5 rfl rfl hV91 (new := u8s [((2 + ys.length : Nat) : Int) % 256, 2, (ys.length : Int) % 256]) (fun _ => ⟨g106, 0, rfl, fun w hS => allAt (g := g106) w hS⟩) rfl (u8s_one _) (by omega) (.none rfl) rfl rfl ?_
  intro ad107 c107 E107 hV107 hr107
  refine zA rfl <| zR <| zM rfl <| zM rfl <| ?_
  refine WL.appendL rfl rfl rfl Tryz.underlying25 Tryz.underlying25 sz_5 by_5 zero_5 rfl rfl hV107 (new := u8s ys) (fun h => by obtain ⟨b', o', e, hr'⟩ := hV.src (L := E107 ++ (.row g106 (u8s [((2 + ys.length : Nat) : Int) % 256, 2, (ys.length : Int) % 256]) :: (E ++ [.row g1 m.cells]))) (fun e he => List.mem_append_right _ (.tail _ (List.mem_append_left _ he))) (by rw [u8s_len]; exact h); exact ⟨b', o', e, fun w hS => hr' _ _ w hS⟩) (by rw [u8s_len]; omega) (u8s_one _) (by omega) (.none rfl) rfl rfl ?_
  intro ad110 c110 E110 hV110 hr110
  refine zA rfl <| zA rfl <| zN <| cE <| WE.ret2 (P := Tryz.prog) (.inl rfl) Tryz.results44 rfl rfl <| ?_
  have hc : openC m = 0 := (by
    unfold openC
    rw [hb, hall, if_neg (show ¬ 253 < (capsE m.caps).length by rw [← hy']; omega)]; rfl)
  rw [← u8s_app, ← u8s_app] at hV110
  have hkl := hV110.toB
  rw [hkl] at hV110 ⊢
  exact fun w' h => ResB.good hc hV110 h (by unfold openB; rw [if_neg (by rw [← hy']; omega), ← hy', List.append_assoc]; rfl)
  refine zL rfl one_3 rfl <| zH <| ?_
  refine WR.each (g := 4) [0, 2] (by kernel_rfl) (by decide) ?_
  refine ⟨?_, ?_⟩
  refine zB Tryz.underlying25 sz_5 zero_5 rfl rfl ?_
  intro g81 hg81
  refine WL.as (L' := [.row g81 (u8s [4])] ++ (E ++ [.row g1 m.cells])) rfl <| zH <| rA 3 [2] rfl <| qV (v_load1 rfl rfl one_3 (cellAt rfl)) rfl <| WQ.nilR <| rO 1 [3, 6] <| zK ck_48 rfl <| ?_
  intro w1 hS
  refine (put2_b (fun _ => False) w0 w1 _ _ _ _ [4] m.asn (Vec.row (k := 1) (s := 1) (c := 1) (cs := u8s [4]) rfl rfl (by omega)) hS (by decide) (by omega) (by omega)).mono ?_
  rintro e w' ⟨ad84, c84, E84, rfl, hV84, hS'⟩
  refine ⟨_, _, rfl, hS', ?_⟩
  refine zK ck_48 rfl ?_
  intro w1 hS
  refine (put2_b (fun _ => False) w0 w1 _ _ _ _ _ m.hold hV84 hS (by rw [List.length_append, numB_len]; decide) (by omega) (by omega)).mono ?_
  rintro e w' ⟨ad87, c87, E87, rfl, hV87, hS'⟩
  refine ⟨_, _, rfl, hS', ?_⟩
  refine zH <| rF 0 [7] <| pV (v_assign rfl rfl) rfl <| WP.nil <| rD <| eN <| cR <| zM rfl <| zF rfl fld_39_3 <| zL rfl one_23 rfl <| zK ck_74 rfl <| ?_
  intro w1 hS
  refine (putAddr_c (fun _ => False) w0 w1 _ _ _ _ _ m.id 4 hV87 hS (by rw [List.length_append, List.length_append, numB_len, numB_len]; decide) (by decide)).mono ?_
  rintro e w' ⟨ad91, c91, E91, rfl, hV91, hS'⟩
  refine ⟨_, _, rfl, hS', ?_⟩
  have h91 : ([4] ++ numB m.asn 2 ++ numB m.hold 2 ++ addrB m.id 4).length = 9 := (by rw [List.length_append, List.length_append, List.length_append, numB_len, numB_len, addrB_len _ (by decide)]; rfl)
  refine zA rfl <| zN <| cS <| cR <| zM rfl <| zV (v_len_slice rfl rfl Tryz.underlying25) rfl <| ?_
  refine zT (v_eql rfl rfl rfl) rfl (fun h94 => ?_) (fun h94 => ?_)
  refine zN <| cT rfl <| cR <| zM rfl <| zB Tryz.underlying25 sz_5 zero_5 rfl rfl <| ?_
  intro g96 hg96
  refine WL.as (L' := .row g96 (u8s [0]) :: (E91 ++ (E ++ [.row g1 m.cells]))) rfl <| WL.to (L' := E91 ++ (.row g96 (u8s [0]) :: (E ++ [.row g1 m.cells]))) (fun w hS => hS.front [_]) <| ?_
  refine WL.appendL rfl rfl rfl Tryz.underlying25 Tryz.underlying25 sz_5 by_5 zero_5 rfl rfl hV91 (new := u8s [0]) (fun _ => ⟨g96, 0, rfl, fun w hS => allAt (g := g96) w hS⟩) rfl (u8s_one _) (by omega) (.none rfl) rfl rfl ?_
  intro ad97 c97 E97 hV97 hr97
  refine zA rfl <| zA rfl <| zN <| cE <| eR <| WE.ret2 (P := Tryz.prog) (.inl rfl) Tryz.results44 rfl rfl <| ?_
  have hc : openC m = 0 := (by
    unfold openC
    rw [hb, hall, if_neg (show ¬ 253 < (capsE m.caps).length by rw [← hy']; omega)]; rfl)
  rw [← u8s_app] at hV97
  have hkl := hV97.toB
  rw [hkl] at hV97 ⊢
  exact fun w' h => ResB.good hc hV97 h (by unfold openB; rw [if_pos (by rw [← hy']; omega)])
  refine zN <| cF rfl <| cK <| eN <| cR <| zM rfl <| zM rfl <| zV (v_len_slice rfl rfl Tryz.underlying25) rfl <| ?_
  refine zV (v_add rfl rfl rfl (show _ = ((2 + ys.length : Nat) : Int) from (w_i64 (by omega) (by omega)).trans (by omega))) rfl ?_
  refine zV (v_conv rfl rfl Tryz.underlying5 Tryz.underlying3 (w_u8m _)) rfl <| zM rfl <| zV (v_len_slice rfl rfl Tryz.underlying25) rfl <| zV (v_conv rfl rfl Tryz.underlying5 Tryz.underlying3 (w_u8m _)) rfl <| zB Tryz.underlying25 sz_5 zero_5 rfl rfl <| ?_
  intro g106 hg106
  refine WL.as (L' := .row g106 (u8s [((2 + ys.length : Nat) : Int) % 256, 2, (ys.length : Int) % 256]) :: (E91 ++ (E ++ [.row g1 m.cells]))) rfl <| WL.to (L' := E91 ++ (.row g106 (u8s [((2 + ys.length : Nat) : Int) % 256, 2, (ys.length : Int) % 256]) :: (E ++ [.row g1 m.cells]))) (fun w hS => hS.front [_]) <| ?_
  refine WL.appendL rfl rfl rfl Tryz.underlying25 Tryz.underlying25 sz_5 by_5 zero_5 rfl rfl hV91 (new := u8s [((2 + ys.length : Nat) : Int) % 256, 2, (ys.length : Int) % 256]) (fun _ => ⟨g106, 0, rfl, fun w hS => allAt (g := g106) w hS⟩) rfl (u8s_one _) (by omega) (.none rfl) rfl rfl ?_
  intro ad107 c107 E107 hV107 hr107
  refine zA rfl <| zR <| zM rfl <| zM rfl <| ?_
  refine WL.appendL rfl rfl rfl Tryz.underlying25 Tryz.underlying25 sz_5 by_5 zero_5 rfl rfl hV107 (new := u8s ys) (fun h => by obtain ⟨b', o', e, hr'⟩ := hV.src (L := E107 ++ (.row g106 (u8s [((2 + ys.length : Nat) : Int) % 256, 2, (ys.length : Int) % 256]) :: (E ++ [.row g1 m.cells]))) (fun e he => List.mem_append_right _ (.tail _ (List.mem_append_left _ he))) (by rw [u8s_len]; exact h); exact ⟨b', o', e, fun w hS => hr' _ _ w hS⟩) (by rw [u8s_len]; omega) (u8s_one _) (by omega) (.none rfl) rfl rfl ?_
  intro ad110 c110 E110 hV110 hr110
  refine zA rfl <| zA rfl <| zN <| cE <| WE.ret2 (P := Tryz.prog) (.inl rfl) Tryz.results44 rfl rfl <| ?_
  have hc : openC m = 0 := (by
    unfold openC
    rw [hb, hall, if_neg (show ¬ 253 < (capsE m.caps).length by rw [← hy']; omega)]; rfl)
  rw [← u8s_app, ← u8s_app] at hV110
  have hkl := hV110.toB
  rw [hkl] at hV110 ⊢
  exact fun w' h => ResB.good hc hV110 h (by unfold openB; rw [if_neg (by rw [← hy']; omega), ← hy', List.append_assoc]; rfl)
  refine zL rfl one_3 rfl <| zH <| rO 1 [0, 3, 6] <| zB Tryz.underlying25 sz_5 zero_5 rfl rfl <| ?_
  intro g81 hg81
  refine WL.as (L' := [.row g81 (u8s [4])] ++ (E ++ [.row g1 m.cells])) rfl <| zK ck_48 rfl <| ?_
  intro w1 hS
  refine (put2_b (fun _ => False) w0 w1 _ _ _ _ [4] m.asn (Vec.row (k := 1) (s := 1) (c := 1) (cs := u8s [4]) rfl rfl (by omega)) hS (by decide) (by omega) (by omega)).mono ?_
  rintro e w' ⟨ad84, c84, E84, rfl, hV84, hS'⟩
  refine ⟨_, _, rfl, hS', ?_⟩
  refine zK ck_48 rfl ?_
  intro w1 hS
  refine (put2_b (fun _ => False) w0 w1 _ _ _ _ _ m.hold hV84 hS (by rw [List.length_append, numB_len]; decide) (by omega) (by omega)).mono ?_
  rintro e w' ⟨ad87, c87, E87, rfl, hV87, hS'⟩
  refine ⟨_, _, rfl, hS', ?_⟩
  refine zH <| rF 0 [7] <| pV (v_assign rfl rfl) rfl <| WP.nil <| rD <| eN <| cR <| zM rfl <| zF rfl fld_39_3 <| zL rfl one_23 rfl <| zK ck_74 rfl <| ?_
  intro w1 hS
  refine (putAddr_c (fun _ => False) w0 w1 _ _ _ _ _ m.id 4 hV87 hS (by rw [List.length_append, List.length_append, numB_len, numB_len]; decide) (by decide)).mono ?_
  rintro e w' ⟨ad91, c91, E91, rfl, hV91, hS'⟩
  refine ⟨_, _, rfl, hS', ?_⟩
  have h91 : ([4] ++ numB m.asn 2 ++ numB m.hold 2 ++ addrB m.id 4).length = 9 := (by rw [List.length_append, List.length_append, List.length_append, numB_len, numB_len, addrB_len _ (by decide)]; rfl)
  refine zA rfl <| zN <| cS <| cR <| zM rfl <| zV (v_len_slice rfl rfl Tryz.underlying25) rfl <| ?_
  refine zT (v_eql rfl rfl rfl) rfl (fun h94 => ?_) (fun h94 => ?_)
  refine zN <| cT rfl <| cR <| zM rfl <| zB Tryz.underlying25 sz_5 zero_5 rfl rfl <| ?_
  intro g96 hg96
  refine WL.as (L' := .row g96 (u8s [0]) :: (E91 ++ (E ++ [.row g1 m.cells]))) rfl <| WL.to (L' := E91 ++ (.row g96 (u8s [0]) :: (E ++ [.row g1 m.cells]))) (fun w hS => hS.front [_]) <| ?_
  refine WL.appendL rfl rfl rfl Tryz.underlying25 Tryz.underlying25 sz_5 by_5 zero_5 rfl rfl hV91 (new := u8s [0]) (fun _ => ⟨g96, 0, rfl, fun w hS => allAt (g := g96) w hS⟩) rfl (u8s_one _) (by omega) (.none rfl) rfl rfl ?_
  intro ad97 c97 E97 hV97 hr97
  refine zA rfl <| zA rfl <| zN <| cE <| eR <| WE.ret2 (P := Tryz.prog) (.inl rfl) Tryz.results44 rfl rfl <| ?_
  have hc : openC m = 0 := (by
    unfold openC
    rw [hb, hall, if_neg (show ¬ 253 < (capsE m.caps).length by rw [← hy']; omega)]; rfl)
  rw [← u8s_app] at hV97
  have hkl := hV97.toB
  rw [hkl] at hV97 ⊢
  exact fun w' h => ResB.good hc hV97 h (by unfold openB; rw [if_pos (by rw [← hy']; omega)])
  refine zN <| cF rfl <| cK <| eN <| cR <| zM rfl <| zM rfl <| zV (v_len_slice rfl rfl Tryz.underlying25) rfl <| ?_
  refine zV (v_add rfl rfl rfl (show _ = ((2 + ys.length : Nat) : Int) from (w_i64 (by omega) (by omega)).trans (by omega))) rfl ?_
  refine zV (v_conv rfl rfl Tryz.underlying5 Tryz.underlying3 (w_u8m _)) rfl <| zM rfl <| zV (v_len_slice rfl rfl Tryz.underlying25) rfl <| zV (v_conv rfl rfl Tryz.underlying5 Tryz.underlying3 (w_u8m _)) rfl <| zB Tryz.underlying25 sz_5 zero_5 rfl rfl <| ?_
  intro g106 hg106
  refine WL.as (L' := .row g106 (u8s [((2 + ys.length : Nat) : Int) % 256, 2, (ys.length : Int) % 256]) :: (E91 ++ (E ++ [.row g1 m.cells]))) rfl <| WL.to (L' := E91 ++ (.row g106 (u8s [((2 + ys.length : Nat) : Int) % 256, 2, (ys.length : Int) % 256]) :: (E ++ [.row g1 m.cells]))) (fun w hS => hS.front [_]) <| ?_
  refine WL.appendL rfl rfl rfl Tryz.underlying25 Tryz.underlying25 sz_5 by_5 zero_5 rfl rfl hV91 (new := u8s [((2 + ys.length : Nat) : Int) % 256, 2, (ys.length : Int) % 256]) (fun _ => ⟨g106, 0, rfl, fun w hS => allAt (g := g106) w hS⟩) rfl (u8s_one _) (by omega) (.none rfl) rfl rfl ?_
  intro ad107 c107 E107 hV107 hr107
  refine zA rfl <| zR <| zM rfl <| zM rfl <| ?_
  refine WL.appendL rfl rfl rfl Tryz.underlying25 Tryz.underlying25 sz_5 by_5 zero_5 rfl rfl hV107 (new := u8s ys) (fun h => by obtain ⟨b', o', e, hr'⟩ := hV.src (L := E107 ++ (.row g106 (u8s [((2 + ys.length : Nat) : Int) % 256, 2, (ys.length : Int) % 256]) :: (E ++ [.row g1 m.cells]))) (fun e he => List.mem_append_right _ (.tail _ (List.mem_append_left _ he))) (by rw [u8s_len]; exact h); exact ⟨b', o', e, fun w hS => hr' _ _ w hS⟩) (by rw [u8s_len]; omega) (u8s_one _) (by omega) (.none rfl) rfl rfl ?_
  intro ad110 c110 E110 hV110 hr110
  refine zA rfl <| zA rfl <| zN <| cE <| WE.ret2 (P := Tryz.prog) (.inl rfl) Tryz.results44 rfl rfl <| ?_
  have hc : openC m = 0 := (by
    unfold openC
    rw [hb, hall, if_neg (show ¬ 253 < (capsE m.caps).length by rw [← hy']; omega)]; rfl)
  rw [← u8s_app, ← u8s_app] at hV110
  have hkl := hV110.toB
  rw [hkl] at hV110 ⊢
  exact fun w' h => ResB.good hc hV110 h (by unfold openB; rw [if_neg (by rw [← hy']; omega), ← hy', List.append_assoc]; rfl)
end Go.Proofs.YtcmpamnhegndnaaGreatDoor
