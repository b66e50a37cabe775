/- frame.put, frame.putAddr. -/
import Derived.Test.YtpjjlggonpbegaaDoorTys
namespace Go.Proofs.YtpjjlggonpbegaaDoor
open Go.RowKit

set_option maxHeartbeats 400000 in
theorem put_f (p : Nat → Prop) (w0 w : World) (L : List Ent) (b off n cap : Nat) (x : Int) (cs : List Value) (hS : St p w0 w (.row b cs :: L)) (hn : 2 ≤ n) (ho : off + 2 ≤ cs.length) (hx : 0 ≤ x) (hx' : x ≤ 65535) :
    Calls Tryd.prog 16 #[.slice (some ⟨b, off, none⟩) n cap, .int .i64 x] w fun e w' => e = .returned (.tuple #[]) ∧ St p w0 w' (.row b ((cs.set off (.int .u8 (x / 256))).set (off + 1) (.int .u8 (x % 256))) :: L) := by
  refine enter Tryd.func16 rfl Tryd.ntmps16 rfl hS ?_
  refine WC.region ?_
  refine WL.val (v_move rfl rfl) (.none rfl) rfl rfl ?_
  refine WL.val (v_move rfl rfl) (.none rfl) rfl rfl ?_
  refine WL.val (v_move rfl rfl) (.none rfl) rfl rfl ?_
  refine WL.val (v_shr (m := 8) (c := 256) rfl rfl rfl rfl (by decide) (by decide)) (.none rfl) rfl rfl ?_
  refine WL.val (v_conv rfl rfl Tryd.underlying5 Tryd.underlying3 (by first | exact w_u8 (by omega) (by omega) | exact w_u8m _)) (.none rfl) rfl rfl ?_
  refine WL.val (v_move rfl rfl) (.none rfl) rfl rfl ?_
  refine WL.val (v_conv rfl rfl Tryd.underlying5 Tryd.underlying3 (by first | exact w_u8 (by omega) (by omega) | exact w_u8m _)) (.none rfl) rfl rfl ?_
  refine WL.val (v_indexAddr (lo := 0) rfl rfl rfl Tryd.underlying22 sz_5 rfl (by omega)) (.none rfl) rfl rfl ?_
  refine WL.store1 rfl rfl rfl rfl one_5 (by omega) (.none rfl) rfl ?_
  refine WL.val (v_indexAddr (lo := 1) rfl rfl rfl Tryd.underlying22 sz_5 rfl (by omega)) (.none rfl) rfl rfl ?_
  refine WL.store1 rfl rfl rfl rfl one_5 (by simp; omega) (.none rfl) rfl ?_
  refine WL.nil ?_
  refine WE.ret0 (P := Tryd.prog) (.inr rfl) Tryd.results16  ?_
  exact fun w' h => ⟨rfl, h⟩
/-- The cells with two bytes of a number at a place. -/
def put2 (cs : List Value) (off : Nat) (x : Int) : List Value := (cs.set off (.int .u8 (x / 256))).set (off + 1) (.int .u8 (x % 256))
theorem put2_length (cs : List Value) (off : Nat) (x : Int) : (put2 cs off x).length = cs.length := by simp [put2]
theorem put_c {p : Nat → Prop} {w0 w : World} {L L' : List Ent} {b off n cap : Nat} {x : Int} {cs : List Value} (hS : St p w0 w L) [At L b cs] [Put L b (.row b (put2 cs off x)) L'] (hn : 2 ≤ n) (ho : off + 2 ≤ cs.length) (hx : 0 ≤ x) (hx' : x ≤ 65535) :
    Calls Tryd.prog 16 #[.slice (some ⟨b, off, none⟩) n cap, .int .i64 x] w fun e w' => e = .returned (.tuple #[]) ∧ St p w0 w' L' := by
  obtain ⟨R, h1, h2⟩ := hS.swap (g := b) (cs := cs) (cs' := put2 cs off x) (L' := L')
  exact (put_f p w0 w R b off n cap x cs h1 hn ho hx hx').mono fun e w' ⟨he, h⟩ => ⟨he, h2 w' h⟩

def put4 (cs : List Value) (off : Nat) (x : Int) : List Value := put2 (put2 cs off (x / 65536)) (off + 2) (x % 65536)
set_option maxHeartbeats 400000 in
theorem putAddr_f (p : Nat → Prop) (w0 w : World) (L : List Ent) (b off n cap : Nat) (x : Int) (cs : List Value) (hS : St p w0 w (.row b cs :: L)) (hn : 4 ≤ n) (hc : n ≤ cap) (ho : off + 4 ≤ cs.length) (hx : 0 ≤ x) (hx' : x ≤ 4294967295) :
    Calls Tryd.prog 15 #[.slice (some ⟨b, off, none⟩) n cap, .int .u32 x] w fun e w' => e = .returned (.tuple #[]) ∧ St p w0 w' (.row b (put4 cs off x) :: L) := by
  refine enter Tryd.func15 rfl Tryd.ntmps15 rfl hS ?_
  refine WC.seq ?_
  refine WC.region ?_
  refine WL.val (v_move rfl rfl) (.none rfl) rfl rfl ?_
  refine WL.val (v_move rfl rfl) (.none rfl) rfl rfl ?_
  refine WL.val (v_shr (m := 16) (c := 65536) rfl rfl rfl rfl (by decide) (by decide)) (.none rfl) rfl rfl ?_
  refine WL.val (v_conv rfl rfl Tryd.underlying3 Tryd.underlying26 (w_i64 (by omega) (by omega))) (.none rfl) rfl rfl ?_
  refine WL.call rfl rfl ck_16 (.none rfl) rfl rfl ?_
  intro w hS
  refine Calls.thenS (put_c hS (by omega) (by omega) (by omega) (by omega)) ?_
  refine WL.nil ?_
  refine WE.then_n ?_
  refine WC.region ?_
  refine WL.val (v_move rfl rfl) (.none rfl) rfl rfl ?_
  refine WL.val (v_slice_loS (lo := 2) rfl rfl rfl Tryd.underlying22 sz_5 rfl (by omega) (by omega)) (.none rfl) rfl rfl ?_
  refine WL.val (v_move rfl rfl) (.none rfl) rfl rfl ?_
  refine WL.val (v_and rfl rfl rfl (mask_u32 (i := 16) (m := 65536) (by decide) (by decide) (by decide) (by omega) (by omega))) (.none rfl) rfl rfl ?_
  refine WL.val (v_conv rfl rfl Tryd.underlying3 Tryd.underlying26 (w_i64 (by omega) (by omega))) (.none rfl) rfl rfl ?_
  refine WL.call rfl rfl ck_16 (.none rfl) rfl rfl ?_
  intro w hS
  refine Calls.thenS (put_c hS (by omega) (by rw [put2_length]; omega) (by omega) (by omega)) ?_
  refine WL.nil ?_
  refine WE.ret0 (P := Tryd.prog) (.inr rfl) Tryd.results15  ?_
  exact fun w' h => ⟨rfl, h⟩
theorem put4_length (cs : List Value) (off : Nat) (x : Int) : (put4 cs off x).length = cs.length := by simp [put4, put2]
theorem putAddr_c {p : Nat → Prop} {w0 w : World} {L L' : List Ent} {b off n cap : Nat} {x : Int} {cs : List Value} (hS : St p w0 w L) [At L b cs] [Put L b (.row b (put4 cs off x)) L'] (hn : 4 ≤ n) (hc : n ≤ cap) (ho : off + 4 ≤ cs.length) (hx : 0 ≤ x) (hx' : x ≤ 4294967295) :
    Calls Tryd.prog 15 #[.slice (some ⟨b, off, none⟩) n cap, .int .u32 x] w fun e w' => e = .returned (.tuple #[]) ∧ St p w0 w' L' := by
  obtain ⟨R, h1, h2⟩ := hS.swap (g := b) (cs := cs) (cs' := put4 cs off x) (L' := L')
  exact (putAddr_f p w0 w R b off n cap x cs h1 hn hc ho hx hx').mono fun e w' ⟨he, h⟩ => ⟨he, h2 w' h⟩
/-! ### Bytes that read as a function says, of which some are written anew -/
def up2 (f : Nat → Int) (off : Nat) (x : Int) : Nat → Int := fun i => if i = off then x / 256 else if i = off + 1 then x % 256 else f i
def up4 (f : Nat → Int) (off : Nat) (x : Int) : Nat → Int := up2 (up2 f off (x / 65536)) (off + 2) (x % 65536)
def up6 (f : Nat → Int) (off : Nat) (g : Nat → Int) : Nat → Int := fun i => if off ≤ i ∧ i < off + 6 then g (i - off) else f i
theorem up2_byt {f : Nat → Int} (h : Byt f) (off : Nat) {x : Int} (h0 : 0 ≤ x) (h1 : x ≤ 65535) : Byt (up2 f off x) := fun i => by
  unfold up2
  split
  · omega
  · split
    · omega
    · exact h i
theorem up4_byt {f : Nat → Int} (h : Byt f) (off : Nat) {x : Int} (h0 : 0 ≤ x) (h1 : x ≤ 4294967295) : Byt (up4 f off x) := up2_byt (up2_byt h off (by omega) (by omega)) _ (by omega) (by omega)
theorem up6_byt {f g : Nat → Int} (h : Byt f) (hg : Byt g) (off : Nat) : Byt (up6 f off g) := fun i => by
  unfold up6
  split
  · exact hg _
  · exact h i
theorem put2_up {f : Nat → Int} {n off : Nat} {r : List Value} (x : Int) (h : off + 2 ≤ n) : put2 (bcs f n ++ r) off x = bcs (up2 f off x) n ++ r := by
  unfold put2
  apply List.ext_getElem?
  intro i
  rw [List.getElem?_set, List.getElem?_set]
  have hl : (bcs f n ++ r).length = n + r.length := by rw [List.length_append, bcs_len]
  by_cases h1 : off + 1 = i
  · subst h1
    rw [if_pos rfl, if_pos (by rw [List.length_set, hl]; omega), List.getElem?_append_left (by rw [bcs_len]; omega), bcs_get _ _ _ (by omega)]
    unfold up2; rw [if_neg (by omega), if_pos rfl]
  · rw [if_neg h1]
    by_cases h2 : off = i
    · subst h2
      rw [if_pos rfl, if_pos (by rw [hl]; omega), List.getElem?_append_left (by rw [bcs_len]; omega), bcs_get _ _ _ (by omega)]
      unfold up2; rw [if_pos rfl]
    · rw [if_neg h2]
      by_cases hi : i < n
      · rw [List.getElem?_append_left (by rw [bcs_len]; exact hi), List.getElem?_append_left (by rw [bcs_len]; exact hi), bcs_get _ _ _ hi, bcs_get _ _ _ hi]
        unfold up2; rw [if_neg (by omega), if_neg (by omega)]
      · rw [List.getElem?_append_right (by rw [bcs_len]; omega), List.getElem?_append_right (by rw [bcs_len]; omega), bcs_len, bcs_len]
theorem put4_up {f : Nat → Int} {n off : Nat} {r : List Value} (x : Int) (h : off + 4 ≤ n) : put4 (bcs f n ++ r) off x = bcs (up4 f off x) n ++ r := by
  unfold put4 up4; rw [put2_up _ (by omega), put2_up _ (by omega)]
theorem put_u {p : Nat → Prop} {w0 w : World} {L L' : List Ent} {b off m n cap : Nat} {x : Int} {f : Nat → Int} {r : List Value} (hS : St p w0 w L) [At L b (bcs f n ++ r)] [hp : Put L b (.row b (bcs (up2 f off x) n ++ r)) L'] (hm : 2 ≤ m) (ho : off + 2 ≤ n) (hx : 0 ≤ x) (hx' : x ≤ 65535) :
    Calls Tryd.prog 16 #[.slice (some ⟨b, off, none⟩) m cap, .int .i64 x] w fun e w' => e = .returned (.tuple #[]) ∧ St p w0 w' L' :=
  have : Put L b (.row b (put2 (bcs f n ++ r) off x)) L' := by rw [put2_up _ ho]; exact hp
  put_c hS hm (by rw [List.length_append, bcs_len]; omega) hx hx'
theorem putAddr_u {p : Nat → Prop} {w0 w : World} {L L' : List Ent} {b off m n cap : Nat} {x : Int} {f : Nat → Int} {r : List Value} (hS : St p w0 w L) [At L b (bcs f n ++ r)] [hp : Put L b (.row b (bcs (up4 f off x) n ++ r)) L'] (hm : 4 ≤ m) (hc : m ≤ cap) (ho : off + 4 ≤ n) (hx : 0 ≤ x) (hx' : x ≤ 4294967295) :
    Calls Tryd.prog 15 #[.slice (some ⟨b, off, none⟩) m cap, .int .u32 x] w fun e w' => e = .returned (.tuple #[]) ∧ St p w0 w' L' :=
  have : Put L b (.row b (put4 (bcs f n ++ r) off x)) L' := by rw [put4_up _ ho]; exact hp
  putAddr_c hS hm hc (by rw [List.length_append, bcs_len]; omega) hx hx'
/-- Six cells over bytes. -/
theorem splice6_up {f g : Nat → Int} {n off : Nat} {r : List Value} (h : off + 6 ≤ n) : splice (bcs f n ++ r) off (bcs g 6) = bcs (up6 f off g) n ++ r := by
  have hl : (bcs f n ++ r).length = n + r.length := by rw [List.length_append, bcs_len]
  rw [splice_eq _ _ _ (by rw [hl, bcs_len]; omega), bcs_len]
  apply List.ext_getElem?
  intro i
  have ht : ((bcs f n ++ r).take off).length = off := by rw [List.length_take, hl]; omega
  rw [List.append_assoc]
  by_cases h1 : i < off
  · rw [List.getElem?_append_left (by omega), List.getElem?_take, if_pos h1, List.getElem?_append_left (by rw [bcs_len]; omega), List.getElem?_append_left (by rw [bcs_len]; omega), bcs_get _ _ _ (by omega), bcs_get _ _ _ (by omega)]
    unfold up6; rw [if_neg (by omega)]
  · rw [List.getElem?_append_right (by omega), ht]
    by_cases h2 : i < off + 6
    · rw [List.getElem?_append_left (by rw [bcs_len]; omega), bcs_get _ _ _ (by omega), List.getElem?_append_left (by rw [bcs_len]; omega), bcs_get _ _ _ (by omega)]
      unfold up6; rw [if_pos (by omega)]
    · rw [List.getElem?_append_right (by rw [bcs_len]; omega), bcs_len, List.getElem?_drop, show off + 6 + (i - off - 6) = i by omega]
      by_cases hi : i < n
      · rw [List.getElem?_append_left (by rw [bcs_len]; exact hi), List.getElem?_append_left (by rw [bcs_len]; exact hi), bcs_get _ _ _ hi, bcs_get _ _ _ hi]
        unfold up6; rw [if_neg (by omega)]
      · rw [List.getElem?_append_right (by rw [bcs_len]; omega), List.getElem?_append_right (by rw [bcs_len]; omega), bcs_len, bcs_len]
end Go.Proofs.YtpjjlggonpbegaaDoor
