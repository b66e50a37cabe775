/- carrefourlaw23: ArpSees. -/
import Derived.Test.YtpjjlggonpbegaaArp4
namespace Go.Proofs.Ytpjjlggonpbegaa
open Go.RowKit

theorem AnswerE_all {w : World} {p : Nat → Prop} {w0 : World} {E L : List Ent} {g b : Nat} {M : Option (Nat × Array MapEntry × Nat)} {m : Value → Option Value} {port : Int} {A : Ak} (hS : St p w0 w (E ++ (resp g M ++ L))) (hM : IMap (KInt .u32) (esOf M) m) (hm : Macs m) (hb : Ent.row b (bcs (arpF A) 42) ∈ E ++ L) (hA : A.Fits) (hp : 0 ≤ port ∧ port ≤ 255) :
    Calls Try.prog 22 #[.pointer (some ⟨g, 0, none⟩), .int .i64 port, .slice (some ⟨b, 0, none⟩) 42 42] w fun e w' => ∃ sl M' E', e = .returned (.tuple #[sl, .int .i64 (ansE A)]) ∧ St p w0 w' (E' ++ (resp g M' ++ (E ++ L))) ∧ (ansE A ≠ 0 → M' = M) ∧
      (ansE A = 0 → IMap (KInt .u32) (esOf M') (noteM m (esOf M).size A.ip (.agg (u8s A.mac).toArray)) ∧ (esOf M').size = noteS m (esOf M).size A.ip) := by
  by_cases h : ansE A = 0
  · refine (AnswerE_k hS hM hm hb hA hp h).mono ?_
    rintro e w' ⟨go, M', rfl, _, hS', hM', hs'⟩
    exact ⟨_, M', [.row go _], by rw [h], hS', fun h' => absurd h h', fun _ => ⟨hM', hs'⟩⟩
  · refine (AnswerE_x hS hb hA hp h).mono ?_
    rintro e w' ⟨rfl, hF⟩
    exact ⟨_, M, [], rfl, (hS.ext hF).front E, fun _ => rfl, fun h' => absurd h' h⟩
theorem rangeKeep {p : Nat → Prop} {w0 : World} {L : List Ent} {b off : Nat} {cs : List Value} (hp : ¬ p b) (h : w0.rangeAt b off cs) : ∀ w, St p w0 w L → w.rangeAt b off cs := fun _ hS j v hj => hS.old hp (h j v hj)
theorem sees_back {p : Nat → Prop} {w0 w : World} {E R X : List Ent} {o : Ent} (h : St p w0 w (E ++ (R ++ (X ++ [o])))) : St p w0 w (o :: (R ++ [])) := by
  have h1 : (R ++ [o]).Sublist (E ++ (R ++ (X ++ [o]))) := (List.Sublist.append_left (List.sublist_append_right X [o]) R).trans (List.sublist_append_right E _)
  refine (h.sub h1).perm ?_
  rw [List.append_nil]
  exact List.perm_append_comm (l₁ := [o])
theorem Seen_g (w : World) (g : Nat) (a : Int) (fv : Value) (r : Option Nat) (es : Array MapEntry) (m : Value → Option Value) (hR : Row w g [fv, .map r]) (hV : MapW w r es) (hM : IMap (KInt .u32) es m) (hm : Macs m) {gv : Nat → Int} {b : Bool} (hg : seenV m a = .agg (u8s gv).toArray) (hb : (m (.int .u32 a)).isSome = b) :
    Calls Try.prog 23 #[.pointer (some ⟨g, 0, none⟩), .int .u32 a] w fun e w' => e = .returned (.tuple #[.agg (u8s gv).toArray, .bool b]) ∧ Frm (fun _ => False) w w' := by
  have := Seen_c w g a fv r es m hR hV hM hm
  rw [hg, hb] at this
  exact this
structure SeesI where
  i : Nat
  M : Option (Nat × Array MapEntry × Nat)
  es : Array MapEntry
  c : Nat
  m : Value → Option Value
structure SeesI.Ok (x : SeesI) (n : Nat) : Prop where
  le : x.i ≤ n
  mine : IMap (KInt .u32) x.es x.m
  his : IMap (KInt .u32) (esOf x.M) x.m
  macs : Macs x.m
  st : MapKept.Stamped x.es x.c
  size : x.es.size = (esOf x.M).size
theorem noteM_in {m : Value → Option Value} {sz : Nat} {a : Int} {v : Value} (h : (m (.int .u32 a)).isSome = true ∨ sz < 64) : noteM m sz a v = updM m (.int .u32 a) (some v) := by
  unfold noteM
  rw [if_neg]
  rintro ⟨h1, h2⟩
  rcases h with h | h
  · rw [h1] at h; cases h
  · omega
theorem noteM_out {m : Value → Option Value} {sz : Nat} {a : Int} {v : Value} (h : (m (.int .u32 a)).isSome = false) (h2 : ¬ sz < 64) : noteM m sz a v = m := by
  unfold noteM; rw [if_pos ⟨h, by omega⟩]
theorem noteS_t {m : Value → Option Value} {sz : Nat} {a : Int} (h : (m (.int .u32 a)).isSome = true) : noteS m sz a = sz := by unfold noteS; rw [if_pos h]
theorem noteS_f {m : Value → Option Value} {sz : Nat} {a : Int} (h : (m (.int .u32 a)).isSome = false) : noteS m sz a = if 64 ≤ sz then sz else sz + 1 := by unfold noteS; rw [if_neg (by rw [h]; decide)]
theorem v_indexAddrO {P : Program} {C : World → Prop} {n : Nat} {l : Kn} {o : Oper} {t e s b off len cap lo : Nat} {x xi : Operand} {k : IntKind} {A : Int} {a : Option Addr} (ea : a = some ⟨b, off, none⟩) (ho : o.op = .indexAddr t x xi) (hx : ev l x = some (.slice a len cap)) (hi : ev l xi = some (.int k A)) (hu : P.underlying t = some (.slice e)) (hs : (P.info? e).map (·.size) = some s) (hA : A = (lo : Int)) (hle : lo < len) :
    Val P C n l o (.pointer (some ⟨b, off + lo * s, none⟩)) := v_indexAddr ho (by rw [hx, ea]) hi hu hs hA hle

set_option maxHeartbeats 2000000 in
theorem ArpSees_c (w : World) (a : Option Addr) (n cap : Nat) (who : Int) (h0 : 0 ≤ who) (h1 : who ≤ 4294967295) (hE : 0 < n → ∃ b off, a = some ⟨b, off, none⟩ ∧ ∀ i, i < n → ∃ A : Ak, w.rangeAt b (off + i * 15) (akCells A) ∧ A.Fits) :
    Calls Try.prog 9 #[.slice a n cap, .int .u32 who] w fun e w' => e = .returned (.bool true) ∧ Frm (fun _ => False) w w' := by
  have hK := fun w => known_c w who h0 h1
  refine enter Try.func9 rfl Try.ntmps9 rfl (St.start (fun _ => False) w) ?_
  refine WC.seq ?_
  refine WC.region ?_
  refine WL.val (v_assign rfl rfl) (.none rfl) rfl rfl ?_
  refine WL.nil ?_
  refine WE.then_n ?_
  refine WC.seq ?_
  refine WC.seq ?_
  refine WC.region ?_
  refine WL.call rfl rfl ck_19 (.none rfl) rfl rfl ?_
  intro w hS
  refine Calls.then (arpHead_c w) hS ?_
  refine WL.val (v_not rfl rfl rfl) (.none rfl) rfl rfl ?_
  refine WL.nil ?_
  refine WE.then_n ?_
  refine WC.cond_f rfl ?_
  refine WC.skip ?_
  refine WE.then_n ?_
  refine WC.seq ?_
  refine WC.seq ?_
  refine WC.region ?_
  refine WL.val (v_move rfl rfl) (.none rfl) rfl rfl ?_
  refine WL.val (v_len_slice rfl rfl Try.underlying58) (.none rfl) rfl rfl ?_
  refine WL.test (v_gtr rfl rfl rfl) (.none rfl) rfl rfl (fun h38 => ?_) (fun h38 => ?_)
  · -- 38T
    refine WL.nil ?_
    refine WE.then_n ?_
    refine WC.cond_t rfl ?_
    refine WC.seq ?_
    refine WC.region ?_
    refine WL.val (v_assign rfl rfl) (.none rfl) rfl rfl ?_
    refine WL.nil ?_
    refine WE.then_n ?_
    refine WC.ret ?_
    refine WE.then_ret ?_
    refine WE.ret1 (P := Try.prog) (.inl rfl) Try.results9 rfl ?_
    exact fun w' h => ⟨rfl, h.frm⟩
  · -- 38F
    refine WL.nil ?_
    refine WE.then_n ?_
    refine WC.cond_f rfl ?_
    refine WC.skip ?_
    refine WE.then_n ?_
    refine WC.seq ?_
    refine WC.region ?_
    refine WL.call rfl rfl ck_20 (.none rfl) rfl rfl ?_
    intro w1 hS
    refine (New_c w1 _ _ _ fnV hS (.inr rfl)).mono ?_
    rintro e w' ⟨g39, hg39, rfl, hS'⟩
    refine ⟨_, _, rfl, hS', ?_⟩
    refine WL.val (v_assign rfl rfl) (.none rfl) rfl rfl ?_
    refine WL.nil ?_
    refine WE.then_n ?_
    refine WC.seq ?_
    refine WC.region ?_
    refine WL.makeMap rfl (.none rfl) rfl rfl ?_
    intro g40 hg40
    refine WL.val (v_assign rfl rfl) (.none rfl) rfl rfl ?_
    refine WL.nil ?_
    refine WE.then_n ?_
    refine WC.seq ?_
    refine WC.seq ?_
    refine WC.region ?_
    refine WL.val (v_move rfl rfl) (.none rfl) rfl rfl ?_
    refine WL.val (v_len_slice rfl rfl Try.underlying58) (.none rfl) rfl rfl ?_
    refine WL.val (v_move rfl rfl) (.none rfl) rfl rfl ?_
    refine WL.nil ?_
    refine WE.then_n ?_
    refine WC.block ?_
    refine WC.loop (ι := SeesI) (fun x => [(43, .int .i64 x.i), (41, .slice a n cap), (42, .int .i64 n), (5, .pointer (some ⟨g39, 0, none⟩)), (6, .map (some g40)), (1, .int .u32 who)]) (fun x => .obj g40 (.map x.es x.c) :: (resp g39 x.M ++ [])) (fun x => x.Ok n) (fun x => n - x.i) ⟨0, none, #[], 0, fun _ => none⟩ ⟨Nat.zero_le _, IMap.empty _, IMap.empty _, Macs.empty, MapKept.stamped_empty 0, rfl⟩ (.cons rfl (.cons rfl (.cons rfl (.cons rfl (.cons rfl (.cons rfl .nil)))))) (.refl _) ?_
    rintro ⟨i, M, es, c, m⟩ ⟨hle, hmine, hhis, hmacs, hst, hsize⟩
    dsimp only at hle hmine hhis hmacs hst hsize ⊢
    refine WC.seq ?_
    refine WC.region ?_
    refine WL.test (v_lss rfl rfl rfl) (.none rfl) rfl rfl (fun h44 => ?_) (fun h44 => ?_)
    · -- 44T
      refine WL.nil ?_
      refine WE.then_n ?_
      refine WC.seq ?_
      refine WC.cond_t rfl ?_
      refine WC.skip ?_
      refine WE.then_n ?_
      refine WC.seq ?_
      refine WC.block ?_
      refine WC.seq ?_
      refine WC.region ?_
      obtain ⟨b, off, ea, hel⟩ := hE (by omega)
      obtain ⟨A, hAr, hA⟩ := hel i (by omega)
      refine WL.val (v_indexAddrO (lo := i) ea rfl rfl rfl Try.underlying58 sz_44 rfl (by omega)) (.none rfl) rfl rfl ?_
      refine WL.val (v_loadN (cs := akCells A) rfl rfl many_44 rfl (rangeKeep (fun h => h) hAr)) (.none rfl) rfl rfl ?_
      refine WL.alloc rfl zero_44 (.none rfl) rfl rfl ?_
      intro g8 hg8
      refine WL.storeW rfl rfl rfl rfl many_44 rfl rfl (.none rfl) rfl ?_
      refine WL.nil ?_
      refine WE.then_n ?_
      refine WC.seq ?_
      refine WC.region ?_
      refine WL.val (v_move rfl rfl) (.none rfl) rfl rfl ?_
      refine WL.val (v_loadN rfl rfl many_44 rfl allAt) (.none rfl) rfl rfl ?_
      refine WL.call rfl rfl ck_18 (.none rfl) rfl rfl ?_
      intro w1 hS
      refine (EmitArp_c A hS hA.ip.1 hA.ip.2 hA.tip.1 hA.tip.2).mono ?_
      rintro e w' ⟨g50, hg50, rfl, hS'⟩
      refine ⟨_, _, rfl, hS', ?_⟩
      refine WL.call rfl rfl ck_22 (.none rfl) rfl rfl ?_
      intro w1 hS
      refine (AnswerE_all (E := [.row g50 (bcs (arpF A) 42), .row g8 (akCells A), .obj g40 (.map es c)]) (L := []) (g := g39) (b := g50) (M := M) (port := 0) (A := A) hS hhis hmacs (by simp) hA (by decide)).mono ?_
      rintro e w' ⟨sl, M51, E51, rfl, hS', hMx, hM0⟩
      refine ⟨_, E51 ++ (resp g39 M51 ++ [.row g50 (bcs (arpF A) 42), .row g8 (akCells A), .obj g40 (.map es c)]), rfl, hS', ?_⟩
      refine WL.val (v_move rfl rfl) (.none rfl) rfl rfl ?_
      refine WL.val (v_extract rfl rfl rfl) (.none rfl) rfl rfl ?_
      refine WL.val (v_extract rfl rfl rfl) (.none rfl) rfl rfl ?_
      refine WL.val (v_assign rfl rfl) (.none rfl) rfl rfl ?_
      refine WL.val (v_assign rfl rfl) (.none rfl) rfl rfl ?_
      refine WL.nil ?_
      refine WE.then_n ?_
      refine WC.seq ?_
      refine WC.seq ?_
      refine WC.region ?_
      refine WL.val (v_move rfl rfl) (.none rfl) rfl rfl ?_
      refine WL.test (v_neq rfl rfl rfl) (.none rfl) rfl rfl (fun h55 => ?_) (fun h55 => ?_)
      · -- 55T
        refine WL.nil ?_
        refine WE.then_n ?_
        refine WC.cond_t rfl ?_
        refine WC.exit ?_
        refine WE.then_exit ?_
        refine WE.block_hit ?_
        refine WE.then_n ?_
        refine WC.region ?_
        refine WL.val (v_add rfl rfl rfl (w_i64 (by omega) (by omega))) (.none rfl) rfl rfl ?_
        refine WL.val (v_move rfl rfl) (.none rfl) rfl rfl ?_
        refine WL.nil ?_
        obtain rfl := hMx h55
        refine WE.to (fun w h => sees_back (X := [.row g50 (bcs (arpF A) 42), .row g8 (akCells A)]) h) ?_
        exact WE.next ⟨i + 1, M51, es, c, m⟩ (by dsimp only; omega) ⟨by dsimp only; omega, hmine, hhis, hmacs, hst, hsize⟩ (.int rfl (by dsimp only; omega) (.cons rfl (.cons rfl (.cons rfl (.cons rfl (.cons rfl .nil)))))) (.refl _)
      · -- 55F
        refine WL.nil ?_
        refine WE.then_n ?_
        refine WC.cond_f rfl ?_
        refine WC.skip ?_
        refine WE.then_n ?_
        refine WC.seq ?_
        refine WC.region ?_
        refine WL.val (v_move rfl rfl) (.none rfl) rfl rfl ?_
        refine WL.val (v_fieldAddr0 rfl rfl fld_44_2) (.none rfl) rfl rfl ?_
        refine WL.val (v_load1 rfl rfl one_28 (cellAt rfl)) (.none rfl) rfl rfl ?_
        obtain ⟨gv, hgv⟩ := seenV_is hmacs A.ip
        have hgv' : (m (.int .u32 A.ip)).getD (.agg #[.int .u8 0, .int .u8 0, .int .u8 0, .int .u8 0, .int .u8 0, .int .u8 0]) = .agg (u8s gv).toArray := hgv
        obtain ⟨b60, hb60⟩ : ∃ b, (m (.int .u32 A.ip)).isSome = b := ⟨_, rfl⟩
        obtain ⟨hM1, hM2⟩ := hM0 (Classical.not_not.1 h55)
        rw [← hsize] at hM1 hM2
        refine WL.val ((v_lookup2 rfl rfl rfl Try.underlying59 (keyI Try.underlying28) (KInt.mk _ _) rfl (mapBlk (es := es) (c := c) g40 (by simp)) hmine).eq (v := .tuple #[.agg (u8s gv).toArray, .bool b60]) (by rw [hb60]; exact congrArg (fun v => Value.tuple #[v, .bool b60]) hgv')) (.none rfl) rfl rfl ?_
        refine WL.val (v_move rfl rfl) (.none rfl) rfl rfl ?_
        refine WL.val (v_extract rfl rfl rfl) (.none rfl) rfl rfl ?_
        refine WL.val (v_extract rfl rfl rfl) (.none rfl) rfl rfl ?_
        cases b60
        · -- 62F
          refine WL.alloc rfl zero_26 (.none rfl) rfl rfl ?_
          intro g11 hg11
          refine WL.storeW rfl rfl rfl rfl many_26 rfl rfl (.none rfl) rfl ?_
          refine WL.val (v_assign rfl rfl) (.none rfl) rfl rfl ?_
          refine WL.nil ?_
          refine WE.then_n ?_
          refine WC.seq ?_
          refine WC.region ?_
          refine WL.val (v_move rfl rfl) (.none rfl) rfl rfl ?_
          refine WL.val (v_move rfl rfl) (.none rfl) rfl rfl ?_
          refine WL.val (v_move rfl rfl) (.some rfl rfl rfl) rfl rfl ?_
          refine WL.val (v_len_map rfl rfl Try.underlying59 (mapBlk (es := es) (c := c) g40 (by simp))) (.some rfl rfl rfl) rfl rfl ?_
          refine WL.test (v_lss rfl rfl rfl) (.some rfl rfl rfl) rfl rfl (fun h67 => ?_) (fun h67 => ?_)
          · -- 67T
            refine WL.val (v_pick_f rfl rfl rfl) (.none rfl) rfl rfl ?_
            refine WL.nil ?_
            refine WE.then_n ?_
            refine WC.cond_t rfl ?_
            refine WC.region ?_
            refine WL.val (v_move rfl rfl) (.none rfl) rfl rfl ?_
            refine WL.val (v_fieldAddr0 rfl rfl fld_44_2) (.none rfl) rfl rfl ?_
            refine WL.val (v_load1 rfl rfl one_28 (cellAt rfl)) (.none rfl) rfl rfl ?_
            refine WL.val (v_fieldAddr0 rfl rfl fld_44_1) (.none rfl) rfl rfl ?_
            refine WL.val (v_loadN rfl rfl many_26 rfl (segAt (m := 6) rfl)) (.none rfl) rfl rfl ?_
            refine WL.mapUpdateS rfl rfl rfl rfl Try.underlying59 (keyI Try.underlying28) (KInt.mk _ _) hmine (.none rfl) rfl ?_
            intro esU cU hMU hsU hstU
            refine WL.nil ?_
            refine WE.block_n ?_
            refine WE.then_n ?_
            refine WC.region ?_
            refine WL.val (v_add rfl rfl rfl (w_i64 (by omega) (by omega))) (.none rfl) rfl rfl ?_
            refine WL.val (v_move rfl rfl) (.none rfl) rfl rfl ?_
            refine WL.nil ?_
            rw [noteM_in (.inr (by omega))] at hM1
            rw [noteS_f hb60, if_neg (by omega)] at hM2
            refine WE.to (fun w h => sees_back (E := .row g11 (u8s gv) :: E51) (X := [.row g50 (bcs (arpF A) 42), .row g8 (akCells A)]) h) ?_
            exact WE.next ⟨i + 1, M51, esU, cU, updM m (.int .u32 A.ip) (some (.agg (u8s A.mac).toArray))⟩ (by dsimp only; omega) ⟨by dsimp only; omega, hMU, hM1, noteM_in (sz := 0) (v := .agg (u8s A.mac).toArray) (.inr (by omega)) ▸ hmacs.note 0 A.ip A.mac, hstU hst, by rw [hsU, if_neg (by rw [hb60]; decide)]; exact hM2.symm⟩ (.int rfl (by dsimp only; omega) (.cons rfl (.cons rfl (.cons rfl (.cons rfl (.cons rfl .nil)))))) (.refl _)
          · -- 67F
            refine WL.val (v_pick_f rfl rfl rfl) (.none rfl) rfl rfl ?_
            refine WL.nil ?_
            refine WE.then_n ?_
            refine WC.cond_f rfl ?_
            refine WC.skip ?_
            refine WE.block_n ?_
            refine WE.then_n ?_
            refine WC.region ?_
            refine WL.val (v_add rfl rfl rfl (w_i64 (by omega) (by omega))) (.none rfl) rfl rfl ?_
            refine WL.val (v_move rfl rfl) (.none rfl) rfl rfl ?_
            refine WL.nil ?_
            rw [noteM_out hb60 (by omega)] at hM1
            rw [noteS_f hb60, if_pos (by omega)] at hM2
            refine WE.to (fun w h => sees_back (E := .row g11 (u8s gv) :: E51) (X := [.row g50 (bcs (arpF A) 42), .row g8 (akCells A)]) h) ?_
            exact WE.next ⟨i + 1, M51, es, c, m⟩ (by dsimp only; omega) ⟨by dsimp only; omega, hmine, hM1, hmacs, hst, hM2.symm⟩ (.int rfl (by dsimp only; omega) (.cons rfl (.cons rfl (.cons rfl (.cons rfl (.cons rfl .nil)))))) (.refl _)
        · -- 62T
          refine WL.alloc rfl zero_26 (.none rfl) rfl rfl ?_
          intro g11 hg11
          refine WL.storeW rfl rfl rfl rfl many_26 rfl rfl (.none rfl) rfl ?_
          refine WL.val (v_assign rfl rfl) (.none rfl) rfl rfl ?_
          refine WL.nil ?_
          refine WE.then_n ?_
          refine WC.seq ?_
          refine WC.region ?_
          refine WL.val (v_move rfl rfl) (.none rfl) rfl rfl ?_
          refine WL.val (v_move rfl rfl) (.none rfl) rfl rfl ?_
          refine WL.skip rfl rfl rfl rfl rfl rfl ?_
          refine WL.skip rfl rfl rfl rfl rfl rfl ?_
          refine WL.skip rfl rfl rfl rfl rfl rfl ?_
          refine WL.val (v_pick_t rfl rfl rfl) (.none rfl) rfl rfl ?_
          refine WL.nil ?_
          refine WE.then_n ?_
          refine WC.cond_t rfl ?_
          refine WC.region ?_
          refine WL.val (v_move rfl rfl) (.none rfl) rfl rfl ?_
          refine WL.val (v_fieldAddr0 rfl rfl fld_44_2) (.none rfl) rfl rfl ?_
          refine WL.val (v_load1 rfl rfl one_28 (cellAt rfl)) (.none rfl) rfl rfl ?_
          refine WL.val (v_fieldAddr0 rfl rfl fld_44_1) (.none rfl) rfl rfl ?_
          refine WL.val (v_loadN rfl rfl many_26 rfl (segAt (m := 6) rfl)) (.none rfl) rfl rfl ?_
          refine WL.mapUpdateS rfl rfl rfl rfl Try.underlying59 (keyI Try.underlying28) (KInt.mk _ _) hmine (.none rfl) rfl ?_
          intro esU cU hMU hsU hstU
          refine WL.nil ?_
          refine WE.block_n ?_
          refine WE.then_n ?_
          refine WC.region ?_
          refine WL.val (v_add rfl rfl rfl (w_i64 (by omega) (by omega))) (.none rfl) rfl rfl ?_
          refine WL.val (v_move rfl rfl) (.none rfl) rfl rfl ?_
          refine WL.nil ?_
          rw [noteM_in (.inl hb60)] at hM1
          rw [noteS_t hb60] at hM2
          refine WE.to (fun w h => sees_back (E := .row g11 (u8s gv) :: E51) (X := [.row g50 (bcs (arpF A) 42), .row g8 (akCells A)]) h) ?_
          exact WE.next ⟨i + 1, M51, esU, cU, updM m (.int .u32 A.ip) (some (.agg (u8s A.mac).toArray))⟩ (by dsimp only; omega) ⟨by dsimp only; omega, hMU, hM1, noteM_in (sz := 0) (v := .agg (u8s A.mac).toArray) (.inl hb60) ▸ hmacs.note 0 A.ip A.mac, hstU hst, by rw [hsU, if_pos hb60]; exact hM2.symm⟩ (.int rfl (by dsimp only; omega) (.cons rfl (.cons rfl (.cons rfl (.cons rfl (.cons rfl .nil)))))) (.refl _)
    · -- 44F
      refine WL.nil ?_
      refine WE.then_n ?_
      refine WC.seq ?_
      refine WC.cond_f rfl ?_
      refine WC.exit ?_
      refine WE.then_exit ?_
      refine WE.then_exit ?_
      refine WE.block_hit ?_
      refine WE.then_n ?_
      refine WC.seq ?_
      refine WC.seq ?_
      refine WC.region ?_
      refine WL.val (v_move rfl rfl) (.none rfl) rfl rfl ?_
      refine WL.range (es := es) (c := c) rfl rfl Try.underlying59 (by simp) (.none rfl) rfl rfl ?_
      intro g76 hg76
      refine WL.nil ?_
      refine WE.then_n ?_
      refine WC.block ?_
      refine WC.loop (ι := Array Nat) (fun _ => [(76, .pointer (some ⟨g76, 0, none⟩)), (5, .pointer (some ⟨g39, 0, none⟩)), (6, .map (some g40)), (1, .int .u32 who)]) (fun x => .obj g76 (.mapIter (some g40) c x c) :: .obj g40 (.map es c) :: (resp g39 M ++ [])) (fun _ => True) (fun x => toCome es x) #[] trivial (.cons rfl (.cons rfl (.cons rfl (.cons rfl .nil)))) (.refl _) ?_
      rintro seen -
      refine WC.seq ?_
      refine WC.region ?_
      refine WL.next rfl rfl (by simp) (hst) (.none rfl) rfl rfl (fun hov77 => ?_) (fun e77 he77 hb77 => ?_)
      · -- 77F
        refine WL.val (v_extract rfl rfl rfl) (.none rfl) rfl rfl ?_
        refine WL.nil ?_
        refine WE.then_n ?_
        refine WC.seq ?_
        refine WC.cond_f rfl ?_
        refine WC.exit ?_
        refine WE.then_exit ?_
        refine WE.then_exit ?_
        refine WE.block_hit ?_
        refine WE.then_n ?_
        refine WC.seq ?_
        refine WC.region ?_
        refine WL.val (v_move rfl rfl) (.none rfl) rfl rfl ?_
        refine WL.val (v_move rfl rfl) (.none rfl) rfl rfl ?_
        obtain ⟨gv, hgv⟩ := seenV_is hmacs who
        have hgv' : (m (.int .u32 who)).getD (.agg #[.int .u8 0, .int .u8 0, .int .u8 0, .int .u8 0, .int .u8 0, .int .u8 0]) = .agg (u8s gv).toArray := hgv
        obtain ⟨b98, hb98⟩ : ∃ b, (m (.int .u32 who)).isSome = b := ⟨_, rfl⟩
        refine WL.val ((v_lookup2 rfl rfl rfl Try.underlying59 (keyI Try.underlying28) (KInt.mk _ _) rfl (mapBlk (es := es) (c := c) g40 (by simp)) hmine).eq (v := .tuple #[.agg (u8s gv).toArray, .bool b98]) (by rw [hb98]; exact congrArg (fun v => Value.tuple #[v, .bool b98]) hgv')) (.none rfl) rfl rfl ?_
        refine WL.val (v_move rfl rfl) (.none rfl) rfl rfl ?_
        refine WL.val (v_extract rfl rfl rfl) (.none rfl) rfl rfl ?_
        refine WL.val (v_extract rfl rfl rfl) (.none rfl) rfl rfl ?_
        refine WL.alloc rfl zero_26 (.none rfl) rfl rfl ?_
        intro g17 hg17
        refine WL.storeW rfl rfl rfl rfl many_26 rfl rfl (.none rfl) rfl ?_
        refine WL.val (v_assign rfl rfl) (.none rfl) rfl rfl ?_
        refine WL.nil ?_
        refine WE.then_n ?_
        refine WC.seq ?_
        refine WC.region ?_
        refine WL.val (v_move rfl rfl) (.none rfl) rfl rfl ?_
        refine WL.val (v_move rfl rfl) (.none rfl) rfl rfl ?_
        refine WL.call rfl rfl ck_23 (.none rfl) rfl rfl ?_
        intro w1 hS
        obtain ⟨r104, hR104, hW104⟩ := resp_row (E := [.row g17 (u8s gv), .obj g76 (.mapIter (some g40) c seen c), .obj g40 (.map es c)]) (g := g39) (M := M) (L := []) hS
        refine Calls.then (Seen_g w1 g39 who fnV r104 (esOf M) m hR104 hW104 hhis hmacs hgv hb98) hS ?_
        refine WL.val (v_move rfl rfl) (.none rfl) rfl rfl ?_
        refine WL.val (v_extract rfl rfl rfl) (.none rfl) rfl rfl ?_
        refine WL.val (v_extract rfl rfl rfl) (.none rfl) rfl rfl ?_
        refine WL.alloc rfl zero_26 (.none rfl) rfl rfl ?_
        intro g19 hg19
        refine WL.storeW rfl rfl rfl rfl many_26 rfl rfl (.none rfl) rfl ?_
        refine WL.val (v_assign rfl rfl) (.none rfl) rfl rfl ?_
        refine WL.nil ?_
        refine WE.then_n ?_
        refine WC.seq ?_
        refine WC.region ?_
        refine WL.val (v_move rfl rfl) (.none rfl) rfl rfl ?_
        refine WL.val (v_move rfl rfl) (.none rfl) rfl rfl ?_
        refine WL.call rfl rfl ck_24 (.none rfl) rfl rfl ?_
        intro w1 hS
        obtain ⟨r110, hR110, hW110⟩ := resp_row (E := [.row g19 (u8s gv), .row g17 (u8s gv), .obj g76 (.mapIter (some g40) c seen c), .obj g40 (.map es c)]) (g := g39) (M := M) (L := []) hS
        refine Calls.then (Look_c w1 g39 who _ hR110 h0 h1) hS ?_
        refine WL.val (v_move rfl rfl) (.none rfl) rfl rfl ?_
        refine WL.val (v_extract rfl rfl rfl) (.none rfl) rfl rfl ?_
        refine WL.val (v_extract rfl rfl rfl) (.none rfl) rfl rfl ?_
        refine WL.alloc rfl zero_26 (.none rfl) rfl rfl ?_
        intro g21 hg21
        refine WL.storeW rfl rfl rfl rfl many_26 rfl rfl (.none rfl) rfl ?_
        refine WL.val (v_assign rfl rfl) (.none rfl) rfl rfl ?_
        refine WL.nil ?_
        refine WE.then_n ?_
        refine WC.seq ?_
        refine WC.region ?_
        refine WL.val (v_move rfl rfl) (.none rfl) rfl rfl ?_
        refine WL.call rfl rfl ck_21 (.none rfl) rfl rfl ?_
        intro w hS
        refine Calls.then (hK w) hS ?_
        refine WL.val (v_move rfl rfl) (.none rfl) rfl rfl ?_
        refine WL.val (v_extract rfl rfl rfl) (.none rfl) rfl rfl ?_
        refine WL.val (v_extract rfl rfl rfl) (.none rfl) rfl rfl ?_
        refine WL.alloc rfl zero_26 (.none rfl) rfl rfl ?_
        intro g23 hg23
        refine WL.storeW rfl rfl rfl rfl many_26 rfl rfl (.none rfl) rfl ?_
        refine WL.val (v_assign rfl rfl) (.none rfl) rfl rfl ?_
        refine WL.nil ?_
        refine WE.then_n ?_
        refine WC.seq ?_
        refine WC.region ?_
        refine WL.val (v_assign rfl rfl) (.none rfl) rfl rfl ?_
        refine WL.nil ?_
        refine WE.then_n ?_
        refine WC.seq ?_
        refine WC.region ?_
        refine WL.val (v_move rfl rfl) (.none rfl) rfl rfl ?_
        refine WL.call rfl rfl ck_22 (.none rfl) rfl rfl ?_
        intro w hS
        refine Calls.then (Answer_nil w 0 _) hS ?_
        refine WL.val (v_move rfl rfl) (.none rfl) rfl rfl ?_
        refine WL.val (v_extract rfl rfl rfl) (.none rfl) rfl rfl ?_
        refine WL.val (v_extract rfl rfl rfl) (.none rfl) rfl rfl ?_
        refine WL.val (v_assign rfl rfl) (.none rfl) rfl rfl ?_
        refine WL.val (v_assign rfl rfl) (.none rfl) rfl rfl ?_
        refine WL.nil ?_
        refine WE.then_n ?_
        refine WC.seq ?_
        refine WC.region ?_
        refine WL.val (v_move rfl rfl) (.none rfl) rfl rfl ?_
        refine WL.val (v_move rfl rfl) (.none rfl) rfl rfl ?_
        refine WL.call rfl rfl ck_23 (.none rfl) rfl rfl ?_
        intro w hS
        refine Calls.then (Seen_nil w who) hS ?_
        refine WL.val (v_move rfl rfl) (.none rfl) rfl rfl ?_
        refine WL.val (v_extract rfl rfl rfl) (.none rfl) rfl rfl ?_
        refine WL.val (v_extract rfl rfl rfl) (.none rfl) rfl rfl ?_
        refine WL.alloc rfl zero_26 (.none rfl) rfl rfl ?_
        intro g28 hg28
        refine WL.storeW rfl rfl rfl rfl many_26 rfl rfl (.none rfl) rfl ?_
        refine WL.val (v_assign rfl rfl) (.none rfl) rfl rfl ?_
        refine WL.nil ?_
        refine WE.then_n ?_
        refine WC.seq ?_
        refine WC.region ?_
        refine WL.val (v_move rfl rfl) (.none rfl) rfl rfl ?_
        refine WL.val (v_move rfl rfl) (.none rfl) rfl rfl ?_
        refine WL.call rfl rfl ck_24 (.none rfl) rfl rfl ?_
        intro w hS
        refine Calls.then (Look_nil w who) hS ?_
        refine WL.val (v_move rfl rfl) (.none rfl) rfl rfl ?_
        refine WL.val (v_extract rfl rfl rfl) (.none rfl) rfl rfl ?_
        refine WL.val (v_extract rfl rfl rfl) (.none rfl) rfl rfl ?_
        refine WL.alloc rfl zero_26 (.none rfl) rfl rfl ?_
        intro g30 hg30
        refine WL.storeW rfl rfl rfl rfl many_26 rfl rfl (.none rfl) rfl ?_
        refine WL.val (v_assign rfl rfl) (.none rfl) rfl rfl ?_
        refine WL.nil ?_
        refine WE.then_n ?_
        refine WC.seq ?_
        refine WC.region ?_
        refine WL.call rfl rfl ck_20 (.none rfl) rfl rfl ?_
        intro w1 hS
        refine (New_c w1 _ _ _ .nilFunc hS (.inl rfl)).mono ?_
        rintro e w' ⟨g136, hg136, rfl, hS'⟩
        refine ⟨_, _, rfl, hS', ?_⟩
        refine WL.val (v_move rfl rfl) (.none rfl) rfl rfl ?_
        refine WL.call rfl rfl ck_24 (.none rfl) rfl rfl ?_
        intro w hS
        refine Calls.then (Look_none w g136 who (.map none) (hS.holds (.row g136 [.nilFunc, .map none]) (by simp))) hS ?_
        refine WL.val (v_move rfl rfl) (.none rfl) rfl rfl ?_
        refine WL.val (v_extract rfl rfl rfl) (.none rfl) rfl rfl ?_
        refine WL.val (v_extract rfl rfl rfl) (.none rfl) rfl rfl ?_
        refine WL.alloc rfl zero_26 (.none rfl) rfl rfl ?_
        intro g32 hg32
        refine WL.storeW rfl rfl rfl rfl many_26 rfl rfl (.none rfl) rfl ?_
        refine WL.val (v_assign rfl rfl) (.none rfl) rfl rfl ?_
        refine WL.nil ?_
        refine WE.then_n ?_
        refine WC.seq ?_
        refine WC.region ?_
        refine WL.val (v_move rfl rfl) (.none rfl) rfl rfl ?_
        refine WL.val (v_move rfl rfl) (.none rfl) rfl rfl ?_
        refine WL.val ((v_eql_bool rfl rfl rfl Try.underlying4).t (rfl)) (.none rfl) rfl rfl ?_
        refine WL.val (v_move rfl rfl) (.none rfl) rfl rfl ?_
        refine WL.val (v_move rfl rfl) (.some rfl rfl rfl) rfl rfl ?_
        refine WL.val (v_move rfl rfl) (.some rfl rfl rfl) rfl rfl ?_
        refine WL.val ((v_eql_bool rfl rfl rfl Try.underlying4).t (rfl)) (.some rfl rfl rfl) rfl rfl ?_
        refine WL.val (v_pick_t rfl rfl rfl) (.none rfl) rfl rfl ?_
        refine WL.val (v_move rfl rfl) (.none rfl) rfl rfl ?_
        refine WL.val (v_loadN rfl rfl many_26 rfl allAt) (.some rfl rfl rfl) rfl rfl ?_
        refine WL.val (v_loadN rfl rfl many_26 rfl allAt) (.some rfl rfl rfl) rfl rfl ?_
        refine WL.val (v_eql_aggT rfl rfl rfl eqk_26 eqg_26 rfl rfl (by rfl)) (.some rfl rfl rfl) rfl rfl ?_
        refine WL.val (v_pick_t rfl rfl rfl) (.none rfl) rfl rfl ?_
        refine WL.val (v_move rfl rfl) (.none rfl) rfl rfl ?_
        refine WL.val (v_move rfl rfl) (.some rfl rfl rfl) rfl rfl ?_
        refine WL.val ((v_eql rfl rfl rfl).t (rfl)) (.some rfl rfl rfl) rfl rfl ?_
        refine WL.val (v_pick_t rfl rfl rfl) (.none rfl) rfl rfl ?_
        refine WL.val (v_move rfl rfl) (.none rfl) rfl rfl ?_
        refine WL.val (v_move rfl rfl) (.some rfl rfl rfl) rfl rfl ?_
        refine WL.val (v_not rfl rfl rfl) (.some rfl rfl rfl) rfl rfl ?_
        refine WL.val (v_pick_t rfl rfl rfl) (.none rfl) rfl rfl ?_
        refine WL.val (v_move rfl rfl) (.none rfl) rfl rfl ?_
        refine WL.val (v_move rfl rfl) (.some rfl rfl rfl) rfl rfl ?_
        refine WL.val (v_not rfl rfl rfl) (.some rfl rfl rfl) rfl rfl ?_
        refine WL.val (v_pick_t rfl rfl rfl) (.none rfl) rfl rfl ?_
        refine WL.val (v_move rfl rfl) (.none rfl) rfl rfl ?_
        refine WL.val (v_move rfl rfl) (.some rfl rfl rfl) rfl rfl ?_
        refine WL.val (v_not rfl rfl rfl) (.some rfl rfl rfl) rfl rfl ?_
        refine WL.val (v_pick_t rfl rfl rfl) (.none rfl) rfl rfl ?_
        refine WL.val (v_assign rfl rfl) (.none rfl) rfl rfl ?_
        refine WL.nil ?_
        refine WE.then_n ?_
        refine WC.ret ?_
        refine WE.ret1 (P := Try.prog) (.inl rfl) Try.results9 rfl ?_
        exact fun w' h => ⟨rfl, h.frm⟩
      · -- 77T
        refine WL.val (v_extract rfl rfl rfl) (.none rfl) rfl rfl ?_
        obtain ⟨k79, hk79⟩ := hmine.keys e77 he77
        have hs79 : m (.int .u32 k79) = some e77.val := (hmine.get _ _).2 ⟨e77, he77, hk79, rfl⟩
        obtain ⟨gv79, hv79⟩ := hmacs _ _ hs79
        rw [hv79] at hs79
        refine WL.nil ?_
        refine WE.then_n ?_
        refine WC.seq ?_
        refine WC.cond_t rfl ?_
        refine WC.skip ?_
        refine WE.then_n ?_
        refine WC.block ?_
        refine WC.seq ?_
        refine WC.region ?_
        refine WL.val ((v_entry rfl rfl (es := es) (g := g40) (c := c) (since := c) (seen := seen) (by simp) (by simp) hst he77).eq (v := .tuple #[.int .u32 k79, .agg (u8s gv79).toArray]) (by rw [hk79, hv79])) (.none rfl) rfl rfl ?_
        refine WL.val (v_extract rfl rfl rfl) (.none rfl) rfl rfl ?_
        refine WL.val (v_extract rfl rfl rfl) (.none rfl) rfl rfl ?_
        refine WL.alloc rfl zero_26 (.none rfl) rfl rfl ?_
        intro g14 hg14
        refine WL.val (v_assign rfl rfl) (.none rfl) rfl rfl ?_
        refine WL.storeW rfl rfl rfl rfl many_26 rfl rfl (.none rfl) rfl ?_
        refine WL.nil ?_
        refine WE.then_n ?_
        refine WC.seq ?_
        refine WC.region ?_
        refine WL.val (v_move rfl rfl) (.none rfl) rfl rfl ?_
        refine WL.val (v_move rfl rfl) (.none rfl) rfl rfl ?_
        refine WL.call rfl rfl ck_23 (.none rfl) rfl rfl ?_
        intro w1 hS
        obtain ⟨r85, hR85, hW85⟩ := resp_row (E := [.row g14 (u8s gv79), .obj g76 (.mapIter (some g40) c (seen.push e77.born) c), .obj g40 (.map es c)]) (g := g39) (M := M) (L := []) hS
        refine Calls.then (Seen_T w1 g39 k79 fnV r85 (esOf M) m hR85 hW85 hhis hmacs hs79) hS ?_
        refine WL.val (v_move rfl rfl) (.none rfl) rfl rfl ?_
        refine WL.val (v_extract rfl rfl rfl) (.none rfl) rfl rfl ?_
        refine WL.val (v_extract rfl rfl rfl) (.none rfl) rfl rfl ?_
        refine WL.alloc rfl zero_26 (.none rfl) rfl rfl ?_
        intro g15 hg15
        refine WL.storeW rfl rfl rfl rfl many_26 rfl rfl (.none rfl) rfl ?_
        refine WL.val (v_assign rfl rfl) (.none rfl) rfl rfl ?_
        refine WL.nil ?_
        refine WE.then_n ?_
        refine WC.seq ?_
        refine WC.region ?_
        refine WL.val (v_move rfl rfl) (.none rfl) rfl rfl ?_
        refine WL.val (v_not rfl rfl rfl) (.none rfl) rfl rfl ?_
        refine WL.val (v_move rfl rfl) (.none rfl) rfl rfl ?_
        refine WL.val (v_loadN rfl rfl many_26 rfl allAt) (.some rfl rfl rfl) rfl rfl ?_
        refine WL.val (v_loadN rfl rfl many_26 rfl allAt) (.some rfl rfl rfl) rfl rfl ?_
        refine WL.val (v_neq_aggF rfl rfl rfl eqk_26 eqg_26 rfl rfl (by rfl)) (.some rfl rfl rfl) rfl rfl ?_
        refine WL.val (v_pick_f rfl rfl rfl) (.none rfl) rfl rfl ?_
        refine WL.nil ?_
        refine WE.then_n ?_
        refine WC.cond_f rfl ?_
        refine WC.skip ?_
        refine WE.block_n ?_
        exact WE.next (seen.push e77.born) (toCome_lt he77 hb77) trivial (.cons rfl (.cons rfl (.cons rfl (.cons rfl .nil)))) (.cons _ (.cons _ (.refl _)))
end Go.Proofs.Ytpjjlggonpbegaa
