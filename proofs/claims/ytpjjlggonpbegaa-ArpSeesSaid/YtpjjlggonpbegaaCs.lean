/- carrefourref05.Copy and Same. -/
import Derived.Test.YtpjjlggonpbegaaTys
namespace Go.Proofs.Ytpjjlggonpbegaa
open Go.RowKit

theorem bcsAt {cs : List Value} {n : Nat} {f : Nat → Int} (h : cs = bcs f n) : ∀ i, i < n → cs[0 + i]? = some (.int .u8 (f i)) := fun i hi => by rw [Nat.zero_add, h, bcs_get f n i hi]
theorem rdoAt {p : Nat → Prop} {w0 w : World} {L : List Ent} {g n : Nat} {cs : List Value} {f : Nat → Int} [At L g cs] (hS : St p w0 w L) (h : cs = bcs f n) : RdO w (some ⟨g, 0, none⟩) n f := fun _ => ⟨g, 0, rfl, rdAt (bcsAt h) w hS⟩
theorem Vec.rdo {p : Nat → Prop} {w0 w : World} {L E : List Ent} {a : Option Addr} {n c : Nat} {f : Nat → Int} (hV : Vec 1 a n c (bcs f n) E) (hS : St p w0 w L) (hm : ∀ e ∈ E, e ∈ L) : RdO w a n f := fun hn => by
  rcases hV with ⟨_, h, _⟩ | ⟨g, cs, rfl, rfl, hx, hl, hk⟩
  · omega
  · refine ⟨g, 0, rfl, fun i hi => ?_⟩
    have hR : Row w g cs := hS.holds (.row g cs) (hm _ (by simp))
    refine hR.cell ?_
    rw [Nat.zero_add, ← bcs_get f n i hi, ← hx, List.getElem?_take, if_pos (by omega)]

set_option maxHeartbeats 400000 in
theorem Copy_c (p : Nat → Prop) (w0 w : World) (L : List Ent) (a : Option Addr) (n cap : Nat) (f : Nat → Int) (hS : St p w0 w L) (hr : ∀ w, St p w0 w L → RdO w a n f) (hn : n ≤ 2000) :
    Calls Try.prog 11 #[.slice a n cap] w fun e w' => ∃ a' c' E, e = .returned (.slice a' n c') ∧ n ≤ c' ∧ Vec 1 a' n c' (bcs f n) E ∧ St p w0 w' (E ++ L) := by
  refine enter Try.func11 rfl Try.ntmps11 rfl hS ?_
  refine WC.seq ?_
  refine WC.region ?_
  refine WL.val (v_assign rfl rfl) (.none rfl) rfl rfl ?_
  refine WL.nil ?_
  refine WE.then_n ?_
  refine WC.seq ?_
  refine WC.region ?_
  refine WL.buildSlice rfl rfl Try.underlying22 sz_5 zero_5 rfl (by decide) rfl (.none rfl) rfl rfl ?_
  intro g3 hg3
  refine WL.val (v_move rfl rfl) (.none rfl) rfl rfl ?_
  refine WL.appendL rfl rfl rfl Try.underlying22 Try.underlying22 sz_5 by_5 zero_5 rfl rfl (E := [.row g3 []]) (Vec.row (k := 0) (s := 1) (c := 0) rfl rfl (by omega)) (new := bcs f n) (fun h => by obtain ⟨_, _, rfl, _⟩ := hr w hS h; exact ⟨_, _, rfl, fun w hS' => by obtain ⟨_, _, e, h'⟩ := hr w hS'.tail h; cases e; exact h'.range⟩) (by rw [bcs_len]; omega) (bcs_one f n) (by omega) (.none rfl) rfl rfl ?_
  intro ad5 c5 E5 hV5 hr5
  refine WL.val (v_assign rfl rfl) (.none rfl) rfl rfl ?_
  refine WL.nil ?_
  refine WE.then_n ?_
  refine WC.ret ?_
  refine WE.ret1 (P := Try.prog) (.inl rfl) Try.results11 rfl ?_
  exact fun w' h => ⟨ad5, c5, E5, by rw [Nat.zero_add], by have := hV5.len; omega, by simpa using hV5, h⟩

set_option maxHeartbeats 400000 in
theorem Same_c (w : World) (a a' : Option Addr) (n n' cap cap' : Nat) (f g : Nat → Int) (hr : RdO w a n f) (hr' : RdO w a' n' g) (b : Bool) (hb : decide ((str f n).toList = (str g n').toList) = b) :
    Calls Try.prog 15 #[.slice a n cap, .slice a' n' cap'] w fun e w' => e = .returned (.bool b) ∧ Frm (fun _ => False) w w' := by
  subst hb
  refine enter Try.func15 rfl Try.ntmps15 rfl (St.start (fun _ => False) w) ?_
  refine WC.seq ?_
  refine WC.region ?_
  refine WL.val (v_assign rfl rfl) (.none rfl) rfl rfl ?_
  refine WL.nil ?_
  refine WE.then_n ?_
  refine WC.seq ?_
  refine WC.region ?_
  refine WL.val (v_move rfl rfl) (.none rfl) rfl rfl ?_
  refine WL.val (v_convBS (f) rfl rfl Try.underlying22 Try.underlying5 Try.underlying9 (rdOOld (fun _ h => h) hr)) (.none rfl) rfl rfl ?_
  refine WL.val (v_move rfl rfl) (.none rfl) rfl rfl ?_
  refine WL.val (v_convBS (g) rfl rfl Try.underlying22 Try.underlying5 Try.underlying9 (rdOOld (fun _ h => h) hr')) (.none rfl) rfl rfl ?_
  refine WL.val (v_eql_string rfl rfl rfl Try.underlying9) (.none rfl) rfl rfl ?_
  refine WL.val (v_assign rfl rfl) (.none rfl) rfl rfl ?_
  refine WL.nil ?_
  refine WE.then_n ?_
  refine WC.ret ?_
  refine WE.ret1 (P := Try.prog) (.inl rfl) Try.results15 rfl ?_
  exact fun w' h => ⟨rfl, h.frm⟩


/-- A slice of bytes that came in, as bytes that a function tells. -/
theorem rowBytes {w : World} {a : Option Addr} {len cap : Nat} {zs : List Int}
    (h : (a = none ∧ len = 0 ∧ cap = 0 ∧ zs = []) ∨ ∃ x, a = some x ∧ len ≤ cap ∧ cap ≤ maxLen ∧ zs.length = cap ∧ (∀ i, i < zs.length → w.cell? (x.add i) = some (.int .u8 (zs.getD i 0))) ∧ ∀ n ∈ zs, (Lit.int .u8 n).wf = true) :
    ∃ f, RdO w a len f ∧ Byt f ∧ len ≤ cap ∧ len ≤ 9223372036854775807 := by
  have hby : ∀ zs : List Int, (∀ n ∈ zs, (Lit.int .u8 n).wf = true) → Byt fun i => zs.getD i 0 := fun zs hw i => by
    by_cases hi : i < zs.length
    · have := hw (zs.getD i 0) (by simp [List.getD, hi])
      simp [Lit.wf, IntKind.min, IntKind.max, IntKind.signed, IntKind.bits] at this
      simpa [List.getD] using this
    · simp [List.getD, List.getElem?_eq_none (Nat.le_of_not_lt hi)]
  rcases h with ⟨rfl, rfl, rfl, rfl⟩ | ⟨x, rfl, hl, hm, hz, hc, hw⟩
  · exact ⟨fun _ => 0, fun h => by omega, fun _ => ⟨Int.le_refl _, show (0 : Int) ≤ 255 by omega⟩, by omega, by omega⟩
  · refine ⟨fun i => zs.getD i 0, fun h0 => ?_, hby zs hw, hl, by unfold maxLen at hm; omega⟩
    obtain ⟨b, off, spot⟩ := x
    have h1 := hc 0 (by omega)
    have hsp : spot = none := by
      cases spot with
      | none => rfl
      | some s =>
        simp only [Addr.add, if_true, World.cell?] at h1
        split at h1 <;> simp at h1
    subst hsp
    exact ⟨b, off, rfl, fun i hi => by have := hc i (by omega); rwa [addr_add] at this⟩

end Go.Proofs.Ytpjjlggonpbegaa
