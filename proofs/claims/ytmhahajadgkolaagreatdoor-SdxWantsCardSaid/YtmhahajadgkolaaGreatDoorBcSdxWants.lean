/- Texts joined: engine, contracts and laws, in the order in which they build. -/
import Derived.Scope
import Derived.LoopN
import Derived.StillTail
import Derived.DeepKeys3
import Derived.Test.YtmhahajadgkolaaGreatDoorProg
import Derived.Test.YtmhahajadgkolaaGreatDoorBbSdxWants
/- The evaluator: operations that make blocks, or turn them. -/
namespace Go.Proofs.YtmhahajadgkolaaGreatDoor
open Go.RowKit

/-- A block's entry: where it lies, that it is not one that another speaks of. -/
theorem ER.main {E : Ev} {R : Rn} {k : Nat} {o : VO} {L : List Ent} (h : ER E R k L o) : ∃ e b q, R k = some (b, q) ∧ e.at = b ∧ e ∈ L := by
  cases o with
  | row cs op => obtain ⟨b, q, cs', t, h1, _, h3, _⟩ := h; exact ⟨_, b, q, h1, rfl, h3⟩
  | map kt es it => obtain ⟨b, q, es', c, kb, m, h1, h2, _⟩ := h; exact ⟨_, b, q, h1, rfl, h2⟩
  | iter m => obtain ⟨b, q, ob, h1, h2, _⟩ := h; exact ⟨_, b, q, h1, rfl, h2⟩
def notIter : Ent → Prop | .obj _ (.mapIter ..) => False | _ => True
/-- Without an entry that is another's. -/
theorem ER.less {E : Ev} {R : Rn} {j : Nat} {o : VO} {A B : List Ent} {e : Ent} (h : ER E R j (A ++ e :: B) o) (hne : ∀ b q, R j = some (b, q) → e.at ≠ b) (hi : notIter e) : ER E R j (A ++ B) o := by
  have key : ∀ d, d ∈ A ++ e :: B → d ≠ e → d ∈ A ++ B := fun d hd hde => by
    rcases List.mem_append.1 hd with hd | hd
    · exact List.mem_append_left _ hd
    · rcases List.mem_cons.1 hd with hd | hd
      · exact absurd hd hde
      · exact List.mem_append_right _ hd
  cases o with
  | row cs op => obtain ⟨b, q, cs', t, h1, h2, h3, h4⟩ := h; exact ⟨b, q, cs', t, h1, h2, key _ h3 (fun ee => hne b q h1 (by rw [← ee]; rfl)), h4⟩
  | map kt es it =>
    obtain ⟨b, q, es', c, kb, m, h1, h2, h3, h4⟩ := h
    refine ⟨b, q, es', c, kb, m, h1, key _ h2 (fun ee => hne b q h1 (by rw [← ee]; rfl)), h3, fun i dn ei => ?_⟩
    obtain ⟨bi, qi, seen, g1, g2, g3⟩ := h4 i dn ei
    exact ⟨bi, qi, seen, g1, key _ g2 (fun ee => by rw [← ee] at hi; exact hi), g3⟩
  | iter m => obtain ⟨b, q, ob, h1, h2, h3⟩ := h; exact ⟨b, q, ob, h1, key _ h2 (fun ee => hne b q h1 (by rw [← ee]; rfl)), h3⟩
section
variable {E : Ev} {w0 : World} {R : Rn} {H : Hp} {L : List Ent}
/-- A new block, of a number that is free. -/
theorem SR.addAt (h : SR E w0 R H L) {H2 : Hp} {k0 : Nat} {o : VO} {e : Ent} {g q : Nat} (h0 : R k0 = none) (hb : E.base ≤ k0) (hget : H2.get k0 = some o) (hoth : ∀ j, j ≠ k0 → H2.get j = H.get j) (hn : H.n ≤ H2.n) (hk0 : k0 < H2.n) (hlim : H2.n ≤ hpM)
    (hnew : ∀ d ∈ L, d.at ≠ g) (he : ER E (R.set k0 (g, q)) k0 (e :: L) o) : R.le (R.set k0 (g, q)) ∧ SR E w0 (R.set k0 (g, q)) H2 (e :: L) := by
  have hle : R.le (R.set k0 (g, q)) := Rn.set_le h0
  refine ⟨hle, hlim, fun k hk => ?_, fun g k hk => ?_, fun k o' hk hbk => ?_, fun j k b q1 r hj hk hbj hbk h1 h2 => ?_, fun k o' hk hbk => ?_⟩
  · unfold Rn.set
    rw [if_neg (by omega)]
    exact h.new k (by omega)
  · obtain ⟨q, hq⟩ := h.gl g k hk
    exact ⟨q, hle _ _ hq⟩
  · by_cases e1 : k = k0
    · subst e1
      rw [hget] at hk
      cases hk
      exact he
    · rw [hoth k e1] at hk
      exact (h.own k o' hk hbk).mono hle fun d hd => List.mem_cons_of_mem _ hd
  · have other : ∀ i c y, i ≠ k0 → (∃ o', H2.get i = Option.some o') → E.base ≤ i → R.set k0 (g, q) i = Option.some (c, y) → R i = Option.some (c, y) ∧ c ≠ g := fun i c y hi ⟨o', ho⟩ hbi hR => by
      unfold Rn.set at hR
      rw [if_neg hi] at hR
      rw [hoth i hi] at ho
      obtain ⟨d, b', q', h1, h2, hd⟩ := (h.own i o' ho hbi).main
      rw [hR] at h1
      cases h1
      exact ⟨hR, fun ec => hnew d hd (h2.trans ec)⟩
    by_cases ej : j = k0
    · by_cases ek : k = k0
      · rw [ej, ek]
      · exfalso
        have hk' := other k b r ek hk hbk h2
        rw [ej, Rn.set_self] at h1
        cases h1
        exact hk'.2 rfl
    · by_cases ek : k = k0
      · exfalso
        have hj' := other j b q1 ej hj hbj h1
        rw [ek, Rn.set_self] at h2
        cases h2
        exact hj'.2 rfl
      · have hj' := other j b q1 ej hj hbj h1
        have hk' := other k b r ek hk hbk h2
        refine h.inj j k b q1 r ?_ ?_ hbj hbk hj'.1 hk'.1
        · obtain ⟨o', ho⟩ := hj; exact ⟨o', by rw [hoth j ej] at ho; exact ho⟩
        · obtain ⟨o', ho⟩ := hk; exact ⟨o', by rw [hoth k ek] at ho; exact ho⟩
  · rw [hoth k (by omega)] at hk
    obtain ⟨cs, b, q1, cs', h1, h2, h3, h4⟩ := h.old k o' hk hbk
    exact ⟨cs, b, q1, cs', h1, hle _ _ h2, h3.mono hle, h4⟩
/-- .. the next number. -/
theorem SR.add (h : SR E w0 R H L) (hn : H.n < hpM) (hb : E.base ≤ H.n) {o : VO} {e : Ent} {g q : Nat} (hnew : ∀ d ∈ L, d.at ≠ g) (he : ER E (R.set H.n (g, q)) H.n (e :: L) o) : Rn.ext H (H.new o) R (R.set H.n (g, q)) ∧ SR E w0 (R.set H.n (g, q)) (H.new o) (e :: L) := by
  obtain ⟨h1, h2⟩ := h.addAt (h.new _ (Nat.le_refl _)) hb (Hp.get_new hn o) (fun j hj => Hp.get_new_ne hn hj o) (Nat.le_succ _) (Nat.lt_succ_self _) hn hnew he
  exact ⟨⟨h1, Nat.le_succ _, fun k hk => if_neg (Nat.ne_of_lt hk)⟩, h2⟩
/-- A row's place in the list. -/
theorem SR.split (h : SR E w0 R H L) {k : Nat} {cs : List Value} {op : Option Nat} (hk : H.get k = some (.row cs op)) (hb : E.base ≤ k) : ∃ A B b q cs' t, L = A ++ .row b (cs' ++ t) :: B ∧ R k = some (b, q) ∧ VRs R cs cs' ∧ (op = none → t = []) ∧ ∀ s, op = some s → (cs' ++ t).length = q * s := by
  obtain ⟨b, q, cs', t, h1, h2, h3, h4⟩ := h.own k _ hk hb
  obtain ⟨A, B, rfl⟩ := List.append_of_mem h3
  exact ⟨A, B, b, q, cs', t, rfl, h1, h2, h4⟩
/-- The others stay, whatever becomes of one. -/
theorem SR.others (h : SR E w0 R H L) {k : Nat} (hk : ∃ o, H.get k = some o) (hb : E.base ≤ k) {A B : List Ent} {e : Ent} {b q : Nat} (hL : L = A ++ e :: B) (hR : R k = some (b, q)) (he : e.at = b) (hi : notIter e) : ∀ j o', H.get j = some o' → j ≠ k → E.base ≤ j → ER E R j (A ++ B) o' := fun j o' hj hjk hbj => by
  have h1 := h.own j o' hj hbj
  rw [hL] at h1
  exact h1.less (fun c r hc ec => hjk (h.inj j k b r q ⟨_, hj⟩ hk hbj hb (by rw [hc, ← ec, he]) hR)) hi
/-- A block turns. -/
theorem SR.put (h : SR E w0 R H L) {k : Nat} {o' : VO} (hk : ∃ o, H.get k = some o) (hb : E.base ≤ k) {A B : List Ent} {e e' : Ent} {b q : Nat} (hL : L = A ++ e :: B) (hR : R k = some (b, q)) (he : e.at = b) (hi : notIter e) (hE' : ER E R k (A ++ e' :: B) o') : SR E w0 R (H.put k (some o')) (A ++ e' :: B) := by
  have hlt : k < hpM := by obtain ⟨o, ho⟩ := hk; exact Hp.get_lt ho
  have ho := h.others hk hb hL hR he hi
  refine ⟨h.lim, h.new, h.gl, fun j u hj hbj => ?_, fun i j b q r hi hj hbi hbj h1 h2 => ?_, fun j u hj hbj => ?_⟩
  · by_cases ej : j = k
    · subst ej
      rw [Hp.get_put hlt] at hj
      cases hj
      exact hE'
    · rw [Hp.get_put_ne hlt ej] at hj
      exact (ho j u hj ej hbj).mono (Rn.le.refl R) fun d hd => by rcases List.mem_append.1 hd with hd | hd <;> simp [hd]
  · have back : ∀ i, (∃ u, (H.put k (some o')).get i = some u) → ∃ u, H.get i = some u := fun i ⟨u, hu⟩ => by
      by_cases ei : i = k
      · subst ei; exact hk
      · rw [Hp.get_put_ne hlt ei] at hu; exact ⟨u, hu⟩
    exact h.inj i j b q r (back i hi) (back j hj) hbi hbj h1 h2
  · rw [Hp.get_put_ne hlt (by omega)] at hj
    exact h.old j u hj hbj
/-- A block is not spoken of any more. -/
theorem SR.kill (h : SR E w0 R H L) {k : Nat} (hk : ∃ o, H.get k = some o) (hb : E.base ≤ k) {A B : List Ent} {e : Ent} {b q : Nat} (hL : L = A ++ e :: B) (hR : R k = some (b, q)) (he : e.at = b) (hi : notIter e) : SR E w0 R (H.put k none) (A ++ B) := by
  have hlt : k < hpM := by obtain ⟨o, ho⟩ := hk; exact Hp.get_lt ho
  have ho := h.others hk hb hL hR he hi
  have ne : ∀ i, (∃ u, (H.put k none).get i = some u) → i ≠ k := fun i ⟨u, hu⟩ ei => by
    subst ei; rw [Hp.get_put hlt] at hu; cases hu
  refine ⟨h.lim, h.new, h.gl, fun j u hj hbj => ?_, fun i j b q r hi hj hbi hbj h1 h2 => ?_, fun j u hj hbj => ?_⟩
  · have ej := ne j ⟨u, hj⟩
    rw [Hp.get_put_ne hlt ej] at hj
    exact ho j u hj ej hbj
  · have ei := ne i hi
    have ej := ne j hj
    refine h.inj i j b q r ?_ ?_ hbi hbj h1 h2
    · obtain ⟨u, hu⟩ := hi; rw [Hp.get_put_ne hlt ei] at hu; exact ⟨u, hu⟩
    · obtain ⟨u, hu⟩ := hj; rw [Hp.get_put_ne hlt ej] at hu; exact ⟨u, hu⟩
  · rw [Hp.get_put_ne hlt (ne j ⟨u, hj⟩)] at hj
    exact h.old j u hj hbj
end
noncomputable section
variable (P : Program) (E : Ev) (H : Hp) (kn : Lk)
def zeroE (t : TypeId) : Option (List Value) := match (P.info? t).bind (·.zero) with
  | some z => cond (plainL z.cells.toList) (some z.cells.toList) none
  | none => none
def zeroK (t : TypeId) : Option (List Value) := match (infoE P t).bind (·.zero) with
  | some z => cond (plainL z.cells.toList) (some z.cells.toList) none
  | none => none
theorem zeroK_eq : zeroK P = zeroE P := by
  funext t
  unfold zeroK zeroE
  rw [infoE_eq]
/-- What is allocated: its cells, and the value that points to it, of its number. -/
def madeE : Op → Option (VO × (Nat → Value))
  | .alloc t => match zeroK P t with
    | some zs => some (.row zs none, fun n => .pointer (some ⟨n, 0, none⟩))
    | none => none
  | .box _ x => match evE E kn x with
    | some v => some (.row v.cells.toList none, fun n => .pointer (some ⟨n, 0, none⟩))
    | none => none
  | .buildSlice t len parts => match undE P t, evpE E kn parts.toList with
    | some (.slice e), some vs => match zeroK P e, sizeK P e with
      | some zs, some s => cond (Nat.beq zs.length s && Nat.ble (len * s) 16777216 && Nat.blt len 1152921504606846976) (match fillL (fun i => some (i * s, s)) (List.replicate len zs).flatten vs with
        | some out => some (.row out none, fun n => .slice (some ⟨n, 0, none⟩) len len)
        | none => none) none
      | _, _ => none
    | _, _ => none
  | .makeSlice t x y => match evE E kn x, evE E kn y, undE P t with
    | some (.int _ (.ofNat m)), some (.int _ (.ofNat c)), some (.slice e) => match zeroK P e, sizeK P e, (infoE P e).map (·.bytes) with
      | some zs, some s, some b => cond (Nat.ble m c && Nat.beq zs.length s && Nat.ble (b * c) 281474976710656 && Nat.blt c 1152921504606846976) (some (.row (List.replicate c zs).flatten none, fun n => .slice (some ⟨n, 0, none⟩) m c)) none
      | _, _, _ => none
    | _, _, _ => none
  | .makeMap t r => match undE P t, (match r with | none => true | some x => match evE E kn x with | some (.int _ _) => true | _ => false) with
    | some (.map kt _), true => cond (keyGet E.keys kt).isSome (some (.map kt [] none, fun n => .map (some n))) none
    | _, _ => none
  | _ => none
/-- A store. -/
def storeE (t : TypeId) (x y : Operand) : Option Hp := match evE E kn x, evE E kn y with
  | some (.pointer (some a)), some v => match H.get a.block with
    | some (.row cs op) => match undE P t, sizeK P t with
      | some d, some m => match d.isRow with
        | true => match v with
          | .agg new => cond (Nat.ble E.base a.block && Nat.beq new.toList.length m && Nat.ble (a.off + m) cs.length && new.toList.all one) (some (H.put a.block (some (.row (splice cs a.off new.toList) op)))) none
          | _ => none
        | false => cond (Nat.ble E.base a.block && Nat.beq m 1 && Nat.blt a.off cs.length && one v) (some (H.put a.block (some (.row (cs.set a.off v) op)))) none
      | _, _ => none
    | _ => none
  | _, _ => none
end
theorem plain_app : ∀ {a b : List Value}, plainL a = true → plainL b = true → plainL (a ++ b) = true
  | [], _, _, h => h
  | v :: a, b, h, h' => by
    simp only [plainL, Bool.and_eq_true] at h
    rw [List.cons_append]
    simp only [plainL, Bool.and_eq_true]
    exact ⟨h.1, plain_app h.2 h'⟩
theorem plain_rep {zs : List Value} (h : plainL zs = true) : ∀ k, plainL (List.replicate k zs).flatten = true
  | 0 => rfl
  | k + 1 => by rw [List.replicate_succ, List.flatten_cons]; exact plain_app h (plain_rep h k)
theorem VR.one {R : Rn} {v v' : Value} (h : VR R v v') (h1 : YtmhahajadgkolaaGreatDoor.one v = true) : YtmhahajadgkolaaGreatDoor.one v' = true := by
  cases h <;> first | exact h1 | rfl | cases h1
theorem VRs.one {R : Rn} : ∀ {vs vs' : List Value}, VRs R vs vs' → vs.all YtmhahajadgkolaaGreatDoor.one = true → vs'.all YtmhahajadgkolaaGreatDoor.one = true
  | _, _, .nil, _ => rfl
  | _, _, .cons a b, h => by
    rw [List.all_cons, Bool.and_eq_true] at h ⊢
    exact ⟨a.one h.1, VRs.one b h.2⟩
theorem splice_left : ∀ (cs tl : List Value) (k : Nat) (new : List Value), k + new.length ≤ cs.length → splice (cs ++ tl) k new = splice cs k new ++ tl := fun cs tl k new h => by
  rw [splice_eq _ _ _ (by rw [List.length_append]; omega), splice_eq _ _ _ h, List.take_append_of_le_length (by omega), List.drop_append_of_le_length (by omega)]
  simp only [List.append_assoc]
section
variable {P : Program} {ops : Array Oper} {Q : Exit → Act → World → Prop} {n d : Nat} {E : Ev} {w0 : World} {R : Rn} {H : Hp} {L X : List Ent} {kn : Lk} {l : Kn} {o : Oper} {rest : List Oper}
abbrev F0 : Nat → Prop := fun _ => False
theorem WL.of_st (h : ∀ w, St F0 w0 w L → WL P ops Q n F0 w0 rest l L) : WL P ops Q n F0 w0 rest l L := fun a w ha hS => h w hS a w ha hS
theorem new_at {w : World} {e : Ent} (hS : St F0 w0 w (e :: (L ++ X))) : ∀ d ∈ L, d.at ≠ e.at := fun d hd he => by
  have h := hS.dist
  rw [List.map_cons, List.nodup_cons] at h
  exact h.1 (by rw [← he]; exact List.mem_map_of_mem (List.mem_append_left _ hd))
theorem zeroE_ok {t : TypeId} {zs : List Value} (h : zeroE P t = some zs) : Zero P t zs ∧ plainL zs = true := by
  unfold zeroE at h
  split at h
  · rename_i z hz
    cases hb : plainL z.cells.toList
    · rw [hb] at h; cases h
    · rw [hb] at h; cases h; exact ⟨Zero.mk hz rfl, hb⟩
  · cases h
theorem capR_small {q c : Nat} (h : c < 1152921504606846976) : capR q c = c := if_pos h
theorem made_ok (hS : SR E w0 R H L) (hK : KR R kn l) {vo : VO} {f : Nat → Value} (h : madeE P E kn o.op = some (vo, f)) {H2 : Hp} {k0 : Nat} (h0 : R k0 = none) (hb : E.base ≤ k0) (hget : H2.get k0 = some vo) (hoth : ∀ j, j ≠ k0 → H2.get j = H.get j) (hn : H.n ≤ H2.n) (hk0 : k0 < H2.n) (hlim : H2.n ≤ hpM)
    (hg : On ops o l) (hd : o.dst = some d) (hdn : Nat.blt d n = true)
    (hc : ∀ R' L' v', (R.le R' ∧ ∀ k, k ≠ k0 → R' k = R k) → SR E w0 R' H2 L' → VR R' (f k0) v' → WL P ops Q n F0 w0 rest ((d, v') :: l) (L' ++ X)) : WL P ops Q n F0 w0 (o :: rest) l (L ++ X) := by
  unfold madeE at h
  try simp only [undE_eq, infoE_eq, sizeK_eq, zeroK_eq] at h
  split at h
  · rename_i t ho
    split at h
    · rename_i zs hz
      cases h
      obtain ⟨hz, hp⟩ := zeroE_ok hz
      refine WL.alloc ho hz hg hd hdn fun g _ => WL.of_st fun w hS' => ?_
      obtain ⟨h1, h2⟩ := hS.addAt (e := .row g zs) (q := 0) h0 hb hget hoth hn hk0 hlim (new_at hS') ⟨g, 0, zs, [], Rn.set_self .., VRs.plain hp, by simp, fun _ => rfl, fun s e => by cases e⟩
      exact hc _ (.row g zs :: L) _ ⟨h1, fun k hk => if_neg hk⟩ h2 (.ptr (Rn.set_self ..))
    · cases h
  · rename_i t x ho
    split at h
    · rename_i v hx
      cases h
      obtain ⟨v', h1, h2⟩ := hK.ev hS.gl hx
      refine WL.box ho h1 (cs := v'.cells.toList) (by simp) hg hd hdn fun g _ => WL.of_st fun w hS' => ?_
      obtain ⟨h3, h4⟩ := hS.addAt (e := .row g v'.cells.toList) (q := 0) h0 hb hget hoth hn hk0 hlim (new_at hS') ⟨g, 0, _, [], Rn.set_self .., h2.cells.mono (Rn.set_le h0), by simp, fun _ => rfl, fun s e => by cases e⟩
      exact hc _ (.row g v'.cells.toList :: L) _ ⟨h3, fun k hk => if_neg hk⟩ h4 (.ptr (Rn.set_self ..))
    · cases h
  · rename_i t len parts ho
    split at h
    · rename_i e vs hu hx
      split at h
      · rename_i zs s hz hs
        cases hbb : (Nat.beq zs.length s && Nat.ble (len * s) 16777216 && Nat.blt len 1152921504606846976)
        · rw [hbb] at h; cases h
        · rw [hbb] at h
          simp only [Bool.and_eq_true] at hbb
          obtain ⟨⟨e1, e2⟩, e3⟩ := hbb
          dsimp only [cond_true] at h
          split at h
          · rename_i out hf
            cases h
            obtain ⟨hz, hp⟩ := zeroE_ok hz
            obtain ⟨vs', h1, h2⟩ := hK.evp hS.gl hx
            have hrep : plainL (List.replicate len zs).flatten = true := plain_rep hp len
            obtain ⟨out', h3, h4⟩ := fillL_VR h2 (VRs.plain hrep) hf
            have ho' : o.op = .buildSlice t len parts.toList.toArray := by rw [ho]
            refine WL.buildSlice ho' h1 hu hs hz (Nat.eq_of_beq_eq_true e1) (Nat.le_of_ble_eq_true e2) h3 hg hd hdn fun g _ => WL.of_st fun w hS' => ?_
            obtain ⟨h5, h6⟩ := hS.addAt (e := .row g out') (q := 0) h0 hb hget hoth hn hk0 hlim (new_at hS') ⟨g, 0, _, [], Rn.set_self .., h4.mono (Rn.set_le h0), by simp, fun _ => rfl, fun s e => by cases e⟩
            refine hc _ (.row g out' :: L) _ ⟨h5, fun k hk => if_neg hk⟩ h6 ?_
            have e3' : len < 1152921504606846976 := by simpa using e3
            have := VR.slice (R := R.set k0 (g, 0)) (o := 0) (n := len) (c := len) (Rn.set_self R k0 (g, 0)) (by rw [capR_small e3']; exact Nat.le_refl _)
            rwa [capR_small e3'] at this
          · cases h
      · cases h
    · cases h
  · rename_i t x y ho
    split at h
    · rename_i k1 m k2 c e hx hy hu
      split at h
      · rename_i zs s b hz hs hby
        cases hbb : (Nat.ble m c && Nat.beq zs.length s && Nat.ble (b * c) 281474976710656 && Nat.blt c 1152921504606846976)
        · rw [hbb] at h; cases h
        · rw [hbb] at h
          cases h
          simp only [Bool.and_eq_true] at hbb
          obtain ⟨⟨⟨e1, e2⟩, e3⟩, e4⟩ := hbb
          obtain ⟨hz, hp⟩ := zeroE_ok hz
          obtain ⟨u, h1, h2⟩ := hK.ev hS.gl hx
          obtain rfl := h2.int_inv
          obtain ⟨u2, h3, h4⟩ := hK.ev hS.gl hy
          obtain rfl := h4.int_inv
          have e4' : c < 1152921504606846976 := by simpa using e4
          refine WL.makeN ho h1 h3 rfl rfl (Nat.le_of_ble_eq_true e1) hu hby (Nat.le_of_ble_eq_true e3) (by omega) hs hz (Nat.eq_of_beq_eq_true e2) hg hd hdn fun g _ => WL.of_st fun w hS' => ?_
          obtain ⟨h5, h6⟩ := hS.addAt (e := .row g (List.replicate c zs).flatten) (q := 0) h0 hb hget hoth hn hk0 hlim (new_at hS') ⟨g, 0, _, [], Rn.set_self .., VRs.plain (plain_rep hp c), by simp, fun _ => rfl, fun s e => by cases e⟩
          refine hc _ (.row g (List.replicate c zs).flatten :: L) _ ⟨h5, fun k hk => if_neg hk⟩ h6 ?_
          have := VR.slice (R := R.set k0 (g, 0)) (o := 0) (n := m) (c := c) (Rn.set_self R k0 (g, 0)) (by rw [capR_small e4']; exact Nat.le_of_ble_eq_true e1)
          rwa [capR_small e4'] at this
      · cases h
    · cases h
  · rename_i t r ho
    split at h
    · rename_i kt et hu hr
      cases hkk : keyGet E.keys kt with
      | none => rw [hkk] at h; cases h
      | some kb =>
        rw [hkk] at h
        cases h
        have mk : ∀ g w, St F0 w0 w (.obj g (.map #[] 0) :: (L ++ X)) → WL P ops Q n F0 w0 rest ((d, .map (some g)) :: l) (.obj g (.map #[] 0) :: (L ++ X)) := fun g w hS' => by
          obtain ⟨h1, h2⟩ := hS.addAt (e := .obj g (.map #[] 0)) (q := 0) h0 hb hget hoth hn hk0 hlim (new_at hS') ⟨g, 0, #[], 0, kb, fun _ => none, Rn.set_self .., List.mem_cons_self .., ⟨hkk, IMap.empty _, MapKept.stamped_empty 0, rfl, (fun p hp => by cases hp), ⟨fun a _ v hv => (by cases hv), fun _ _ _ => rfl⟩⟩, fun i dn e => by cases e⟩
          exact hc _ (.obj g (.map #[] 0) :: L) _ ⟨h1, fun k hk => if_neg hk⟩ h2 (.map (Rn.set_self ..))
        cases r with
        | none => exact WL.makeMap ho hg hd hdn fun g _ => WL.of_st fun w hS' => mk g w hS'
        | some x =>
          dsimp only at hr
          split at hr
          · rename_i ki A hx
            obtain ⟨u, h1, h2⟩ := hK.ev hS.gl hx
            obtain rfl := h2.int_inv
            exact WL.makeMapN ho h1 hu hg hd hdn fun g _ => WL.of_st fun w hS' => mk g w hS'
          · cases hr
    · cases h
  · cases h
theorem store_ok (hS : SR E w0 R H L) (hK : KR R kn l) {t : TypeId} {x y : Operand} {H2 : Hp} (ho : o.op = .store t x y) (h : storeE P E H kn t x y = some H2) (hg : On ops o l) (hd : o.dst = none)
    (hc : ∀ L', SR E w0 R H2 L' → WL P ops Q n F0 w0 rest l (L' ++ X)) : WL P ops Q n F0 w0 (o :: rest) l (L ++ X) := by
  unfold storeE at h
  try simp only [undE_eq, sizeK_eq] at h
  split at h
  · rename_i a v hx hy
    split at h
    · rename_i cs op hk
      obtain ⟨u, h1, h2⟩ := hK.ev hS.gl hx
      obtain ⟨b, q, h3, h4, rfl⟩ := h2.ptr_inv
      obtain ⟨v', h5, h6⟩ := hK.ev hS.gl hy
      split at h
      · rename_i dd m hu hs
        split at h
        · rename_i hr
          split at h
          · rename_i new
            cases hbb : (Nat.ble E.base a.block && Nat.beq new.toList.length m && Nat.ble (a.off + m) cs.length && new.toList.all one)
            · rw [hbb] at h; cases h
            · rw [hbb] at h
              cases h
              simp only [Bool.and_eq_true] at hbb
              obtain ⟨⟨⟨e1, e2⟩, e3⟩, e4⟩ := hbb
              have e1' := Nat.le_of_ble_eq_true e1
              obtain ⟨new', rfl, h7⟩ := h6.agg_inv
              obtain ⟨A, B, b', q', cs', tl, hL, g1, g2, g3, g4⟩ := hS.split hk e1'
              rw [h4] at g1
              cases g1
              have hl2 := h7.length
              have e2' := Nat.eq_of_beq_eq_true e2
              have e3' := Nat.le_of_ble_eq_true e3
              have hll := g2.length
              have hsp : splice (cs' ++ tl) a.off new' = splice cs' a.off new' ++ tl := splice_left _ _ _ _ (by omega)
              have hSR := hS.put (o' := .row (splice cs a.off new.toList) op) (e' := .row b (splice cs' a.off new' ++ tl)) ⟨_, hk⟩ e1' hL h4 rfl trivial ⟨b, q, _, tl, h4, VRs.splice _ g2 h7, by simp, g3, fun s es => by rw [List.length_append, splice_length _ _ _ (by omega)]; have := g4 s es; rwa [List.length_append] at this⟩
              haveI : At (L ++ X) b (cs' ++ tl) := ⟨by rw [hL]; simp⟩
              haveI : Put (L ++ X) b (.row b (splice (cs' ++ tl) a.off new')) ((A ++ .row b (splice (cs' ++ tl) a.off new') :: B) ++ X) := ⟨fun _ => ⟨A, B ++ X, .row b (cs' ++ tl), by rw [hL]; simp, by simp, rfl⟩⟩
              refine WL.storeN ho h1 h5 (VRs.one h7 e4) (Many.mk hu hr (show sizeT P t = some new'.length by rw [hs, ← e2', ← hl2])) rfl (by rw [List.length_append]; omega) hg hd ?_
              rw [hsp]
              exact hc _ hSR
          · cases h
        · rename_i hr
          cases hbb : (Nat.ble E.base a.block && Nat.beq m 1 && Nat.blt a.off cs.length && one v)
          · rw [hbb] at h; cases h
          · rw [hbb] at h
            cases h
            simp only [Bool.and_eq_true] at hbb
            obtain ⟨⟨⟨e1, e2⟩, e3⟩, e4⟩ := hbb
            obtain rfl := Nat.eq_of_beq_eq_true e2
            have e1' := Nat.le_of_ble_eq_true e1
            obtain ⟨A, B, b', q', cs', tl, hL, g1, g2, g3, g4⟩ := hS.split hk e1'
            rw [h4] at g1
            cases g1
            have e3' : a.off < cs.length := by simpa using e3
            have hll := g2.length
            have hsp : (cs' ++ tl).set a.off v' = cs'.set a.off v' ++ tl := List.set_append_left _ _ (by omega)
            have hSR := hS.put (o' := .row (cs.set a.off v) op) (e' := .row b (cs'.set a.off v' ++ tl)) ⟨_, hk⟩ e1' hL h4 rfl trivial ⟨b, q, _, tl, h4, VRs.set _ g2 h6, by simp, g3, fun s es => by rw [List.length_append, List.length_set]; have := g4 s es; rwa [List.length_append] at this⟩
            haveI : At (L ++ X) b (cs' ++ tl) := ⟨by rw [hL]; simp⟩
            haveI : Put (L ++ X) b (.row b ((cs' ++ tl).set a.off v')) ((A ++ .row b ((cs' ++ tl).set a.off v') :: B) ++ X) := ⟨fun _ => ⟨A, B ++ X, .row b (cs' ++ tl), by rw [hL]; simp, by simp, rfl⟩⟩
            refine WL.store1 ho h1 h5 (VR.one h6 e4) (One.mk hu hr hs) (by rw [List.length_append]; omega) hg hd ?_
            rw [hsp]
            exact hc _ hSR
      · cases h
    · cases h
  · cases h
end
end Go.Proofs.YtmhahajadgkolaaGreatDoor
/- The evaluator: append. -/
namespace Go.Proofs.YtmhahajadgkolaaGreatDoor
open Go.RowKit

noncomputable section
variable (P : Program) (E : Ev) (H : Hp) (kn : Lk)
/-- What is appended: how many elements, their cells. -/
def newCellsE (s : Nat) (y : Operand) : Option (Nat × List Value) := match evE E kn y with
  | some (.slice none m _) => cond (Nat.beq m 0) (some (0, [])) none
  | some (.slice (some a) m _) => match H.get a.block with
    | some (.row cs _) => cond (Nat.ble (a.off + m * s) cs.length && (seg cs a.off (m * s)).all one && a.spot.isNone) (some (m, seg cs a.off (m * s))) none
    | _ => none
  | _ => none
/-- A slice that may grow in place: the cells of its elements. The block is not spoken of any more. -/
def growE (s k c : Nat) (a : Addr) (cs : List Value) : Option Nat → Bool
  | none => Nat.beq a.off 0 && Nat.beq cs.length (c * s) && Nat.ble E.base a.block && Nat.blt c 1152921504606846976 && Nat.ble k c
  | some s' => Nat.beq a.off 0 && Nat.beq s' s && Nat.ble (k * s) cs.length && Nat.ble E.base a.block && Nat.beq c openCap
def appE (t tx : TypeId) (x y : Operand) : Option (Value × Hp) := match undE P t, undE P tx, evE E kn x with
  | some (.slice e), some (.slice _), some (.slice ax k c) => match sizeK P e, zeroK P e, (infoE P e).map (·.bytes) with
    | some s, some zs, some by_ => match newCellsE E H kn s y with
      | some (m, new) => cond (Nat.beq zs.length s && Nat.blt 0 by_ && Nat.ble ((3 * (k + m) + 1200) * by_) 281474976710656 && Nat.blt 0 m && Nat.blt H.n hpM && Nat.ble E.base H.n)
        (match ax with
        | none => cond (Nat.beq k 0 && Nat.beq c 0) (some (.slice (some ⟨H.n, 0, none⟩) (k + m) openCap, H.new (.row new (some s)))) none
        | some a => match H.get a.block with
          | some (.row cs op) => cond (Nat.ble (a.off + k * s) cs.length && a.spot.isNone)
            (cond (Option.isNone op && Nat.blt c 1152921504606846976 && Nat.blt c (k + m))
              (some (.slice (some ⟨H.n, 0, none⟩) (k + m) openCap, H.new (.row (seg cs a.off (k * s) ++ new) (some s))))
              (cond (growE E s k c a cs op) (some (.slice (some ⟨H.n, 0, none⟩) (k + m) openCap, (H.put a.block none).new (.row (seg cs a.off (k * s) ++ new) (some s)))) none)) none
          | _ => none) none
      | none => none
    | _, _, _ => none
  | _, _, _ => none
/-- append(nil, make(.., m)...). -/
def appZE (t tx : TypeId) (x y : Operand) : Option (Value × Hp) := match undE P t, undE P tx, evE E kn x, evE E kn y with
  | some (.slice e), some (.int _), some (.slice none 0 0), some (.int .i64 (.ofNat (m + 1))) => match sizeK P e, zeroK P e, (infoE P e).map (·.bytes) with
    | some s, some zs, some by_ => cond (Nat.beq zs.length s && Nat.blt 0 s && Nat.blt 0 by_ && Nat.ble (m + 1) 1000000 && Nat.ble by_ 1000 && Nat.blt H.n hpM && Nat.ble E.base H.n) (some (.slice (some ⟨H.n, 0, none⟩) (m + 1) openCap, H.new (.row [] (some s)))) none
    | _, _, _ => none
  | _, _, _, _ => none
end
section
variable {P : Program} {ops : Array Oper} {Q : Exit → Act → World → Prop} {n d : Nat} {E : Ev} {w0 : World} {R : Rn} {H : Hp} {L X : List Ent} {kn : Lk} {l : Kn} {o : Oper} {rest : List Oper}
theorem newCells_ok (hS : SR E w0 R H L) (hK : KR R kn l) {s m : Nat} {y : Operand} {new : List Value} (h : newCellsE E H kn s y = some (m, new)) :
    ∃ sa mc new', ev l y = some (.slice sa m mc) ∧ VRs R new new' ∧ new.length = m * s ∧ new'.all one = true ∧ (0 < m → ∃ b so, sa = some ⟨b, so, none⟩ ∧ ∀ w, St F0 w0 w (L ++ X) → w.rangeAt b so new') := by
  unfold newCellsE at h
  split at h
  · rename_i m' c' hy
    cases hb : Nat.beq m' 0
    · rw [hb] at h; cases h
    · rw [hb] at h
      cases h
      obtain rfl := Nat.eq_of_beq_eq_true hb
      obtain ⟨u, h1, h2⟩ := hK.ev hS.gl hy
      obtain rfl := h2.snil_inv
      exact ⟨none, c', [], h1, .nil, by simp, rfl, fun h => absurd h (Nat.lt_irrefl 0)⟩
  · rename_i a m' c' hy
    split at h
    · rename_i cs op hk
      cases hb : (Nat.ble (a.off + m' * s) cs.length && (seg cs a.off (m' * s)).all one && a.spot.isNone)
      · rw [hb] at h; cases h
      · rw [hb] at h
        cases h
        simp only [Bool.and_eq_true] at hb
        obtain ⟨hb, hsp⟩ := hb
        have hle := Nat.le_of_ble_eq_true hb.1
        obtain ⟨u, h1, h2⟩ := hK.ev hS.gl hy
        obtain ⟨b, q, h3, h4, h5, rfl⟩ := h2.slice_inv (Option.isNone_iff_eq_none.1 hsp)
        obtain ⟨b', q', cs', h6, h7, h8⟩ := hS.cells (X := X) hk
        rw [h4] at h6
        cases h6
        refine ⟨_, _, seg cs' a.off (m * s), h1, h7.seg _ _, by unfold seg; rw [List.length_take, List.length_drop]; omega, VRs.one (h7.seg _ _) hb.2, fun _ => ⟨b, a.off, rfl, fun w hw j v hj => ?_⟩⟩
        unfold YtmhahajadgkolaaGreatDoor.seg at hj
        rw [List.getElem?_take] at hj
        split at hj
        · rw [List.getElem?_drop] at hj
          have := h8 w hw _ _ hj
          rwa [Nat.zero_add] at this
        · cases hj
    · cases h
  · cases h
theorem openCap_cap (c : Nat) : capR c openCap = c := by
  unfold capR
  rw [if_neg (by unfold openCap; omega)]
  omega
/-- A slice that has grown, as a block of its own. -/
theorem grown_ok (hS : SR E w0 R H L) (hn : H.n < hpM) (hb : E.base ≤ H.n) {s k c' : Nat} {ad' : Option Addr} {xs xs' : List Value} {E' : List Ent} (hx : VRs R xs xs') (hV : Vec s ad' k c' xs' E') (hk : 0 < k) {w : World} (hW : St F0 w0 w (E' ++ (L ++ X))) :
    ∃ R' e, E' = [e] ∧ Rn.ext H (H.new (.row xs (some s))) R R' ∧ SR E w0 R' (H.new (.row xs (some s))) (e :: L) ∧ VR R' (.slice (some ⟨H.n, 0, none⟩) k openCap) (.slice ad' k c') := by
  rcases hV with ⟨_, h0, _⟩ | ⟨g, cs0, rfl, rfl, ht, hl, hk'⟩
  · omega
  · have e0 : cs0 = xs' ++ cs0.drop (k * s) := by rw [← ht, List.take_append_drop]
    obtain ⟨h1, h2⟩ := hS.add (e := .row g cs0) (q := c') (o := .row xs (some s)) hn hb (new_at hW) ⟨g, c', xs', cs0.drop (k * s), Rn.set_self .., hx.mono (Rn.set_le (hS.new _ (Nat.le_refl _))), by rw [← e0]; exact List.mem_cons_self .., (fun e => by cases e), fun s' es => by cases es; rw [← e0]; exact hl⟩
    refine ⟨_, _, rfl, h1, h2, ?_⟩
    have := VR.slice (R := R.set H.n (g, c')) (o := 0) (n := k) (c := openCap) (Rn.set_self R H.n (g, c')) (by rw [openCap_cap]; exact hk')
    rwa [openCap_cap] at this
theorem perm_front {A B X : List Ent} {e : Ent} {w : World} (hS : St F0 w0 w ((A ++ e :: B) ++ X)) : St F0 w0 w ([e] ++ ((A ++ B) ++ X)) := hS.perm (by
  show List.Perm (e :: ((A ++ B) ++ X)) ((A ++ e :: B) ++ X)
  rw [List.append_assoc, List.append_assoc]
  exact List.perm_middle.symm)
theorem perm_back {A B X : List Ent} {e : Ent} {w : World} (hS : St F0 w0 w ([e] ++ ((A ++ B) ++ X))) : St F0 w0 w ((A ++ e :: B) ++ X) := hS.perm (by
  show List.Perm ((A ++ e :: B) ++ X) (e :: ((A ++ B) ++ X))
  rw [List.append_assoc, List.append_assoc]
  exact List.perm_middle)
theorem app_ok (hS : SR E w0 R H L) (hK : KR R kn l) {t tx : TypeId} {x y : Operand} {v : Value} {H2 : Hp} (ho : o.op = .call { callee := .builtin .append, args := #[x, y], argTypes := #[t, tx] }) (h : appE P E H kn t tx x y = some (v, H2))
    (hg : On ops o l) (hd : o.dst = some d) (hdn : Nat.blt d n = true)
    (hc : ∀ R' L' v', Rn.ext H H2 R R' → SR E w0 R' H2 L' → VR R' v v' → WL P ops Q n F0 w0 rest ((d, v') :: l) (L' ++ X)) : WL P ops Q n F0 w0 (o :: rest) l (L ++ X) := by
  unfold appE at h
  try simp only [undE_eq, infoE_eq, sizeK_eq, zeroK_eq] at h
  split at h
  · rename_i e e' ax k c hu hux hx
    split at h
    · rename_i s zs by_ hs hz hby
      split at h
      · rename_i m new hnew
        cases hb : (Nat.beq zs.length s && Nat.blt 0 by_ && Nat.ble ((3 * (k + m) + 1200) * by_) 281474976710656 && Nat.blt 0 m && Nat.blt H.n hpM && Nat.ble E.base H.n)
        · rw [hb] at h; cases h
        · rw [hb] at h
          simp only [Bool.and_eq_true] at hb
          obtain ⟨⟨⟨⟨⟨b1, b2⟩, b3⟩, b4⟩, b5⟩, b6⟩ := hb
          have b4' : 0 < m := by simpa using b4
          have b5' : H.n < hpM := by simpa using b5
          have b6' := Nat.le_of_ble_eq_true b6
          obtain ⟨hz', hzp⟩ := zeroE_ok hz
          obtain ⟨sa, mc, new', hy, hn', hnl, hno, hsrc⟩ := newCells_ok (X := X) hS hK hnew
          have hnl' : new'.length = m * s := by rw [hn'.length]; exact hnl
          obtain ⟨u, h1, h2⟩ := hK.ev hS.gl hx
          dsimp only [cond_true] at h
          split at h
          ·
            obtain rfl := h2.snil_inv
            cases hb : (Nat.beq k 0 && Nat.beq c 0)
            · rw [hb] at h; cases h
            · rw [hb] at h
              cases h
              rw [Bool.and_eq_true] at hb
              obtain rfl := Nat.eq_of_beq_eq_true hb.1
              obtain rfl := Nat.eq_of_beq_eq_true hb.2
              refine WL.appendL (E := []) (L0 := L ++ X) ho h1 hy hu hux hs hby hz' (Nat.eq_of_beq_eq_true b1) b2 (Vec.nil s) hsrc hnl' hno (Nat.le_of_ble_eq_true b3) hg hd hdn ?_
              intro ad' c' E' hV _
              refine WL.of_st fun w hW => ?_
              obtain ⟨R', e2, rfl, hR, hS2, hv⟩ := grown_ok hS b5' b6' (by simpa using hn') hV (by omega) hW
              exact hc R' (e2 :: L) _ hR hS2 hv
          · rename_i a
            split at h
            · rename_i cs op hk
              cases hb : (Nat.ble (a.off + k * s) cs.length && a.spot.isNone)
              · rw [hb] at h; cases h
              · rw [hb] at h
                rw [Bool.and_eq_true] at hb
                obtain ⟨hb, hsp⟩ := hb
                obtain ⟨b, q, h3, h4, h5, rfl⟩ := h2.slice_inv (Option.isNone_iff_eq_none.1 hsp)
                have hle := Nat.le_of_ble_eq_true hb
                dsimp only [cond_true] at h
                obtain ⟨b', q', cs', h6, h7, h8⟩ := hS.cells (X := X) hk
                rw [h4] at h6
                cases h6
                have hxs : VRs R (seg cs a.off (k * s)) (seg cs' a.off (k * s)) := h7.seg _ _
                have hxl : (seg cs' a.off (k * s)).length = k * s := by
                  have := h7.length
                  unfold seg; rw [List.length_take, List.length_drop]; omega
                cases hcl : (Option.isNone op && Nat.blt c 1152921504606846976 && Nat.blt c (k + m))
                · rw [hcl] at h
                  dsimp only [cond_false] at h
                  cases hgr : growE E s k c a cs op
                  · rw [hgr] at h; cases h
                  · rw [hgr] at h
                    cases h
                    have key : Nat.ble E.base a.block = true ∧ a.off = 0 ∧ ∀ cs2 tl : List Value, cs2.length = cs.length → (op = none → tl = []) → (∀ s', op = some s' → (cs2 ++ tl).length = q * s') → Vec s (some ⟨b, 0, none⟩) k (capR q c) (seg cs2 a.off (k * s)) [.row b (cs2 ++ tl)] := by
                      unfold growE at hgr
                      split at hgr
                      · simp only [Bool.and_eq_true] at hgr
                        obtain ⟨⟨⟨⟨g1, g2⟩, g3⟩, g4⟩, g5⟩ := hgr
                        have g1' := Nat.eq_of_beq_eq_true g1
                        refine ⟨g3, g1', fun cs2 tl m1 m2 _ => ?_⟩
                        obtain rfl := m2 rfl
                        have g4' : c < 1152921504606846976 := by simpa using g4
                        rw [capR_small g4', List.append_nil]
                        refine Vec.row ?_ ?_ (Nat.le_of_ble_eq_true g5)
                        · unfold seg; rw [g1', List.drop_zero]
                        · rw [m1]; exact Nat.eq_of_beq_eq_true g2
                      · rename_i s'
                        simp only [Bool.and_eq_true] at hgr
                        obtain ⟨⟨⟨⟨g1, g2⟩, g3⟩, g4⟩, g5⟩ := hgr
                        have g1' := Nat.eq_of_beq_eq_true g1
                        have g2' := Nat.eq_of_beq_eq_true g2
                        have g3' := Nat.le_of_ble_eq_true g3
                        obtain rfl := Nat.eq_of_beq_eq_true g5
                        refine ⟨g4, g1', fun cs2 tl m1 _ m3 => ?_⟩
                        rw [openCap_cap] at h5 ⊢
                        refine Vec.row ?_ (by rw [← g2']; exact m3 s' rfl) h5
                        unfold seg
                        rw [g1', List.drop_zero, List.take_append_of_le_length (by omega)]
                    obtain ⟨kb, ka, kV⟩ := key
                    have kb' := Nat.le_of_ble_eq_true kb
                    obtain ⟨A, B, b4, q4, cs2, tl, hL, m1, m2, m3, m4⟩ := hS.split hk kb'
                    rw [h4] at m1
                    cases m1
                    have hS1 := hS.kill ⟨_, hk⟩ kb' hL h4 rfl trivial
                    have hV2 := kV cs2 tl m2.length m3 m4
                    subst hL
                    refine WL.to (L' := [.row b (cs2 ++ tl)] ++ ((A ++ B) ++ X)) (fun w hW => perm_front hW) ?_
                    rw [ka] at h1
                    refine WL.appendL (E := [.row b (cs2 ++ tl)]) (L0 := (A ++ B) ++ X) ho h1 hy hu hux hs hby hz' (Nat.eq_of_beq_eq_true b1) b2 hV2 (fun hm => ?_) hnl' hno (Nat.le_of_ble_eq_true b3) hg hd hdn ?_
                    · obtain ⟨b3, so, r1, r2⟩ := hsrc hm
                      exact ⟨b3, so, r1, fun w hW => r2 w (perm_back hW)⟩
                    intro ad' c' E' hV _
                    refine WL.of_st fun w hW => ?_
                    obtain ⟨R', e3, rfl, hR, hS2, hv⟩ := grown_ok (X := X) hS1 b5' b6' ((m2.seg _ _).app hn') hV (by omega) hW
                    exact hc R' (e3 :: (A ++ B)) _ hR hS2 hv
                · rw [hcl] at h
                  cases h
                  simp only [Bool.and_eq_true] at hcl
                  obtain ⟨⟨_, c1⟩, c2⟩ := hcl
                  have c1' : c < 1152921504606846976 := by simpa using c1
                  have c2' : c < k + m := by simpa using c2
                  rw [capR_small c1'] at h1
                  refine WL.appendN (xs := seg cs' a.off (k * s)) (new := new') ho h1 hy hu hux hs hby hz' (Nat.eq_of_beq_eq_true b1) b2 (by omega) (fun hk0 => ⟨b, a.off, rfl, fun w hW j v hj => ?_⟩) hxl hsrc hnl' (Nat.le_of_ble_eq_true b3) hg hd hdn ?_
                  · unfold YtmhahajadgkolaaGreatDoor.seg at hj
                    rw [List.getElem?_take] at hj
                    split at hj
                    · rw [List.getElem?_drop] at hj
                      have := h8 w hW _ _ hj
                      rwa [Nat.zero_add] at this
                    · cases hj
                  intro ad' c' E' hV
                  refine WL.of_st fun w hW => ?_
                  obtain ⟨R', e3, rfl, hR, hS2, hv⟩ := grown_ok (X := X) hS b5' b6' (hxs.app hn') hV (by omega) hW
                  exact hc R' (e3 :: L) _ hR hS2 hv
            · cases h
      · cases h
    · cases h
  · cases h
end
end Go.Proofs.YtmhahajadgkolaaGreatDoor
/- The evaluator: whole functions. -/
namespace Go.Proofs.YtmhahajadgkolaaGreatDoor
open Go.RowKit
noncomputable section

inductive Xt where
  | normal
  | ret
  | exit (id : Nat)
inductive Job where
  | call (f : FuncId) (vs : List Value) (H : Hp)
  | loop (n : Nat) (c : Code) (kn : Kn) (H : Hp)
inductive Er (α : Type) where
  | ok (a : α)
  | bad (s : List String)
inductive Res where
  | val (v : Value) (H : Hp)
  | at_ (x : Xt) (kn : Kn) (H : Hp)
section
variable (P : Program) (E : Ev)
def bytesE : List Value → Option (List Int)
  | [] => some []
  | .int .u8 x :: r => match bytesE r with | some bs => some (x :: bs) | none => none
  | _ => none
def placesE : List Field → Option (List (Nat × Nat))
  | [] => some []
  | f :: fs => match sizeK P f.type, placesE fs with
    | some m, some r => some ((f.offset, m) :: r)
    | _, _ => none
def vBuild (kn : Lk) (t : TypeId) (parts : Array (Nat × Operand)) : Option Value := match undE P t, zeroK P t, evpE E kn parts.toList with
  | some (.struct fs), some zs, some vs => match placesE P fs.toList with
    | some pl => match fillL (fun i => pl[i]?) zs vs with
      | some out => some (.agg out.toArray)
      | none => none
    | none => none
  | some (.array _ e), some zs, some vs => match sizeK P e with
    | some s => match fillL (fun i => some (i * s, s)) zs vs with
      | some out => some (.agg out.toArray)
      | none => none
    | none => none
  | _, _, _ => none
def vFunc (kn : Lk) (fn : Fn) (fi ca : Array Operand) : Option Value := match evsE E kn fi.toList, evsE E kn ca.toList with
  | some a, some b => some (.func fn a.toArray b.toArray)
  | _, _ => none
def vIface (kn : Lk) (t : TypeId) (x : Operand) : Option Value := match evE E kn x, undE P t with
  | some v, some d => cond (isIf d) none (some (.iface t v))
  | _, _ => none
def vArrPtr (kn : Lk) (t : TypeId) (x : Operand) : Option Value := match evE E kn x, undE P t with
  | some (.slice (some a) k _), some (.array m _) => cond (Nat.ble m k && a.spot.isNone) (some (.pointer (some a))) none
  | _, _ => none
def vLookup (H : Hp) (kn : Lk) (t : TypeId) (x i : Operand) (ok : Bool) : Option Value := match evE E kn x, evE E kn i, undE P t with
  | some (.map m), some a, some (.map kt et) => match (infoE P et).bind (·.zero), (match m with | some k => (match H.get k with | some (.map kt' es _) => cond (Nat.beq kt' kt && Nat.ble E.base k) (some es) none | _ => none) | none => some []), keyGet E.keys kt with
    | some z, some es, some kb => cond (kb a && plainB z) (cond ok (some (.tuple #[(assocV es a).getD z, .bool (assocV es a).isSome])) (some ((assocV es a).getD z))) none
    | _, _, _ => none
  | _, _, _ => none
def vEntry (H : Hp) (kn : Lk) (x : Operand) : Option Value := match evE E kn x with
  | some (.pointer (some a)) => match H.get a.block with
    | some (.iter (some b)) => match H.get b with
      | some (.map _ [(ka, u)] (some (i, true))) => cond (Nat.beq i a.block && Nat.beq a.off 0 && Nat.ble E.base b) (some (.tuple #[ka, u])) none
      | _ => none
    | _ => none
  | _ => none
def vLen (H : Hp) (kn : Lk) (o : Oper) (args : Array Operand) (argTypes : Array TypeId) : Option Value := match args.toList, argTypes.toList with
  | [x], [t] => match evE E kn x, undE P t with
    | some (.slice _ n _), some (.slice _) => some (.int .i64 n)
    | some (.map none), some (.map _ _) => some (.int .i64 0)
    | some (.map (some k)), some (.map _ _) => match H.get k with
      | some (.map _ es _) => cond (Nat.ble E.base k) (some (.int .i64 es.length)) none
      | _ => none
    | _, _ => plainE P E kn o
  | _, _ => none
def vCap (kn : Lk) (_ : Oper) (args : Array Operand) (argTypes : Array TypeId) : Option Value := match args.toList, argTypes.toList with
  | [x], [t] => match evE E kn x, undE P t with
    | some (.slice none _ c), some (.slice _) => some (.int .i64 c)
    | some (.slice (some a) _ c), some (.slice _) => cond (Nat.blt c 1152921504606846976 && a.spot.isNone) (some (.int .i64 c)) none
    | _, _ => none
  | _, _ => none
def vConv (H : Hp) (kn : Lk) (o : Oper) (s d : TypeId) (x : Operand) : Option Value := match evE E kn x, undE P d, undE P s with
  | some (.slice none n _), some .string, some (.slice e) => match undE P e with
    | some (.int .u8) => cond (Nat.beq n 0) (some (.string ⟨#[]⟩)) none
    | _ => none
  | some (.slice (some a) n _), some .string, some (.slice e) => match H.get a.block, undE P e with
    | some (.row cs _), some (.int .u8) => match bytesE (seg cs a.off n) with
      | some bs => cond (Nat.beq bs.length n && a.spot.isNone) (some (.string (strOfNums bs))) none
      | none => none
    | _, _ => none
  | _, _, _ => plainE P E kn o
def vOr (a b : Option Value) : Option Value := match a with
  | some v => some v
  | none => b
/-- Operations that only yield a value. -/
def valueE (H : Hp) (kn : Lk) (o : Oper) : Option Value := match o.op with
  | .move x => evE E kn x
  | .assign x => evE E kn x
  | .pick c x y => pickE E kn c x y
  | .extract x i => extractE E kn x i
  | .fieldAddr s x i => fieldAddrE P E kn s x i
  | .load t x => loadE P E H kn t x
  | .field s x i => fieldOfE P E kn s x i
  | .indexAddr t x i => indexAddrE P E kn t x i
  | .nilCheck x => nilCheckE E kn x
  | .slice t x lo hi none => vOr (sliceE P E kn t x lo hi) (plainE P E kn o)
  | .binOp op t x y _ => vOr (nilEqE P E kn op t x y) (plainE P E kn o)
  | .build t parts => vBuild P E kn t parts
  | .makeFunc fn fi ca => vFunc E kn fn fi ca
  | .makeInterface t x => vIface P E kn t x
  | .sliceToArrayPointer t x => vArrPtr P E kn t x
  | .lookup t x i ok => vLookup P E H kn t x i ok
  | .entry x => vEntry E H kn x
  | .call { callee := .builtin .len, args, argTypes } => vLen P E H kn o args argTypes
  | .call { callee := .builtin .cap, args, argTypes } => vCap P E kn o args argTypes
  | .convert s d x => vConv P E H kn o s d x
  | _ => plainE P E kn o
def vSlice (kn : Lk) (o : Oper) (t : TypeId) (x : Operand) (lo hi mx : Option Operand) : Option Value := match mx with
  | none => vOr (sliceE P E kn t x lo hi) (plainE P E kn o)
  | some _ => plainE P E kn o
def vBuiltin (kn : Lk) (H : Hp) (o : Oper) (b : Builtin) (args : Array Operand) (ts : Array TypeId) : Option Value := match b with
  | .len => vLen P E H kn o args ts
  | .cap => vCap P E kn o args ts
  | _ => plainE P E kn o
def vCall (kn : Lk) (H : Hp) (o : Oper) (c : Callee) (args : Array Operand) (ts : Array TypeId) : Option Value := match c with
  | .builtin b => vBuiltin P E kn H o b args ts
  | _ => none
/-- valueE, for the kernel. -/
def valueK (H : Hp) (kn : Lk) (o : Oper) : Option Value := Op.rec (motive := fun _ => Option Value)
  (fun x => evE E kn x)
  (fun x => evE E kn x)
  (fun c x y => pickE E kn c x y)
  (fun _ => none)
  (fun _ _ => none)
  (fun t parts => vBuild P E kn t parts)
  (fun _ _ _ => none)
  (fun _ _ _ _ => none)
  (fun t x => loadE P E H kn t x)
  (fun _ _ _ => none)
  (fun _ => none)
  (fun _ => none)
  (fun x => nilCheckE E kn x)
  (fun op t x y _ => vOr (nilEqE P E kn op t x y) (plainE P E kn o))
  (fun _ _ _ => plainE P E kn o)
  (fun s d x => vConv P E H kn o s d x)
  (fun t x => vArrPtr P E kn t x)
  (fun t x => vIface P E kn t x)
  (fun fn fi ca => vFunc E kn fn fi ca)
  (fun _ _ => none)
  (fun _ _ => none)
  (fun _ _ _ => none)
  (fun t x lo hi mx => vSlice P E kn o t x lo hi mx)
  (fun s x i => fieldAddrE P E kn s x i)
  (fun s x i => fieldOfE P E kn s x i)
  (fun t x i => indexAddrE P E kn t x i)
  (fun _ _ _ => plainE P E kn o)
  (fun t x i ok => vLookup P E H kn t x i ok)
  (fun _ _ _ _ => none)
  (fun _ _ _ => none)
  (fun _ _ _ _ => none)
  (fun _ _ => none)
  (fun _ _ => none)
  (fun x => vEntry E H kn x)
  (fun _ _ _ _ => none)
  (fun x i => extractE E kn x i)
  (fun c => vCall P E kn H o c.callee c.args c.argTypes)
  (fun _ => none)
  (fun _ => none)
  (fun _ => none)
  (fun _ _ => none)
  (fun _ _ _ => none)
  (fun _ _ => none)
  o.op
theorem valueK_eq (H : Hp) (kn : Lk) (o : Oper) : valueK P E H kn o = valueE P E H kn o := by
  obtain ⟨dst, op, ty, pos, after, guard⟩ := o
  cases op with
  | slice t x lo hi mx => cases mx <;> rfl
  | call c =>
    obtain ⟨callee, args, ats⟩ := c
    cases callee with
    | builtin b => cases b <;> rfl
    | _ => rfl
  | _ => rfl
variable (rec : Job → Er Res)
/-- What a call hands back. -/
def valR : Er Res → Er (Value × Hp)
  | .ok (.val v H) => .ok (v, H)
  | .ok _ => .bad ["valR"]
  | .bad s => .bad s
/-- A map of a key's type that no iterator goes through. -/
def mapE (H : Hp) (b : Nat) : Option (Nat × List (Value × Value)) := match H.get b with
  | some (.map kt es none) => cond (Nat.ble E.base b) (some (kt, es)) none
  | _ => none
def setE (H : Hp) (kn : Lk) (t : TypeId) (m k v : Operand) : Option Hp := match evE E kn m, evE E kn k, evE E kn v, undE P t with
  | some (.map (some b)), some a, some u, some (.map kt _) => match mapE E H b, keyGet E.keys kt with
    | some (kt', es), some kb => cond (kb a && Nat.beq kt' kt) (some (H.put b (some (.map kt (setV es a u) none)))) none
    | _, _ => none
  | _, _, _, _ => none
def clearE (H : Hp) (kn : Lk) (x : Operand) (t : TypeId) : Option Hp := match evE E kn x with
  | some (.map (some b)) => match mapE E H b, undE P t with
    | some (kt, _), some _ => some (H.put b (some (.map kt [] none)))
    | _, _ => none
  | some (.slice (some a) k _) => match undE P t, H.get a.block with
    | some (.slice e), some (.row cs op) => match zeroK P e, sizeK P e with
      | some zs, some s => cond (Nat.beq zs.length s && Nat.ble (a.off + k * s) cs.length && zs.all one && Nat.ble E.base a.block && a.spot.isNone) (some (H.put a.block (some (.row (splice cs a.off (zrs zs k)) op)))) none
      | _, _ => none
    | _, _ => none
  | _ => none
def copyE (H : Hp) (kn : Lk) (x y : Operand) (t ts : TypeId) : Option (Value × Hp) := match evE E kn x, undE P t, undE P ts with
  | some (.slice (some a) k _), some (.slice e), some (.slice _) => match sizeK P e, newCellsE E H kn 1 y, H.get a.block with
    | some 1, some (m, new), some (.row cs op) => cond (Nat.ble E.base a.block && Nat.ble (a.off + min m k) cs.length && a.spot.isNone && Nat.blt 0 (min m k)) (some (.int .i64 (min m k : Nat), H.put a.block (some (.row (splice cs a.off (new.take (min m k))) op)))) none
    | _, _, _ => none
  | _, _, _ => none
def strBytesE (H : Hp) (kn : Lk) (d : TypeId) (x : Operand) : Option (Value × Hp) := match evE E kn x, undE P d with
  | some (.string bs), some (.slice e) => match undE P e with
    | some (.int .u8) => cond (Nat.blt H.n hpM && Nat.ble E.base H.n) (some (.slice (some ⟨H.n, 0, none⟩) bs.data.toList.length openCap, H.new (.row (bs.data.toList.map bcell) (some 1)))) none
    | _ => none
  | _, _ => none
def rangeE (H : Hp) (kn : Lk) (t : TypeId) (x : Operand) : Option (Value × Hp) := match evE E kn x, undE P t with
  | some (.map none), some (.map _ _) => cond (Nat.blt H.n hpM && Nat.ble E.base H.n) (some (.pointer (some ⟨H.n, 0, none⟩), H.new (.iter none))) none
  | some (.map (some b)), some (.map _ _) => match mapE E H b with
    | some (kt, es) => cond (Nat.ble es.length 1 && Nat.blt H.n hpM && Nat.ble E.base H.n) (some (.pointer (some ⟨H.n, 0, none⟩), (H.new (.iter (some b))).put b (some (.map kt es (some (H.n, false)))))) none
    | none => none
  | _, _ => none
def nextE (H : Hp) (kn : Lk) (x : Operand) : Option (Value × Hp) := match evE E kn x with
  | some (.pointer (some a)) => match H.get a.block with
    | some (.iter none) => cond (Nat.beq a.off 0 && Nat.ble E.base a.block) (some (.tuple #[.bool false], H)) none
    | some (.iter (some b)) => match H.get b with
      | some (.map kt es (some (i, dn))) => cond (Nat.beq i a.block && Nat.beq a.off 0 && Nat.ble E.base a.block && Nat.ble E.base b) (match es, dn with
        | [(ka, u)], false => some (.tuple #[.bool true, ka, u], H.put b (some (.map kt es (some (i, true)))))
        | _, _ => some (.tuple #[.bool false], H.put b (some (.map kt es none)))) none
      | _ => none
    | _ => none
  | _ => none
/-- append of nothing. -/
def app0E (H : Hp) (kn : Lk) (t tx : TypeId) (x y : Operand) : Option (Value × Hp) := match evE E kn x, evE E kn y, undE P t, undE P tx with
  | some (.slice a k c), some (.slice _ 0 _), some (.slice e), some (.slice _) => match sizeK P e, (infoE P e).map (·.bytes) with
    | some _, some _ => cond (match a with | none => Nat.beq k 0 && Nat.beq c 0 | some a => a.spot.isNone) (some (.slice a k c, H)) none
    | _, _ => none
  | _, _, _, _ => none
def unitE (o : Oper) (H : Option Hp) : Er (Value × Hp) := match o.dst, H with
  | none, some H => .ok (undef, H)
  | _, _ => .bad [o.pos]
def dstE (o : Oper) (r : Option (Value × Hp)) : Er (Value × Hp) := match o.dst, r with
  | some _, some r => .ok r
  | _, _ => .bad [o.pos]
/-- Operations that turn the memory, calls among them. -/
def actE (H : Hp) (kn : Lk) (o : Oper) : Er (Value × Hp) := match o.op with
  | .store t x y => unitE o (storeE P E H kn t x y)
  | .mapUpdate t m k v => unitE o (setE P E H kn t m k v)
  | .insert t m k v => unitE o (setE P E H kn t m k v)
  | .call { callee := .value x, args, .. } => match o.dst, evE E kn x, evsE E kn args.toList with
    | some _, some (.func (.func f) fi ca), some vs => valR (rec (.call f (fi.toList ++ vs ++ ca.toList) H))
    | _, _, _ => .bad [o.pos]
  | .call { callee := .builtin .append, args, argTypes } => dstE o (match args.toList, argTypes.toList with
    | [x, y], [t, tx] => match app0E P E H kn t tx x y with
      | some r => some r
      | none => match appE P E H kn t tx x y with
        | some r => some r
        | none => appZE P E H kn t tx x y
    | _, _ => none)
  | .call { callee := .builtin .clear, args, argTypes } => unitE o (match args.toList, argTypes.toList with
    | [x], [t] => clearE P E H kn x t
    | _, _ => none)
  | .call { callee := .builtin .copy, args, argTypes } => dstE o (match args.toList, argTypes.toList with
    | [x, y], [t, ts] => copyE P E H kn x y t ts
    | _, _ => none)
  | .convert s d x => dstE o (match undE P s with | some _ => strBytesE P E H kn d x | none => none)
  | .range t x => dstE o (rangeE P E H kn t x)
  | .next x false => dstE o (nextE E H kn x)
  | _ => dstE o (match madeE P E kn o.op with
    | some (vo, f) => cond (Nat.blt H.n hpM && Nat.ble E.base H.n) (some (f H.n, H.new vo)) none
    | none => none)
def opE (H : Hp) (kn : Lk) (o : Oper) : Er (Value × Hp) := match valueK P E H kn o with
  | some v => .ok (v, H)
  | none => actE P E rec H kn o
/-- look, for the kernel. -/
def lgetD (l : List Nat) (i : Nat) : Nat := List.rec (motive := fun _ => Nat → Nat) (fun _ => 0) (fun a _ ih n => Nat.rec (motive := fun _ => Nat) a (fun m _ => ih m) n) l i
def lookE (kn : Kn) : Lk := fun t => List.rec (motive := fun _ => Option Value) none (fun p _ ih => Bool.rec (motive := fun _ => Option Value) ih (some p.2) (Nat.beq p.1 t)) kn
theorem lookE_eq : ∀ kn : Kn, lookE kn = look kn
  | [] => rfl
  | (d, v) :: r => by
    rw [look_put, ← lookE_eq r]
    funext t
    show Bool.rec (motive := fun _ => Option Value) (lookE r t) (some v) (Nat.beq d t) = cond (Nat.beq d t) (some v) (lookE r t)
    cases Nat.beq d t <;> rfl
def guardE (ops : Array Oper) (kn : Lk) (o : Oper) : Option Bool := match o.guard with
  | none => some true
  | some (j, want) => match (lget ops.toList j).bind (·.dst) with
    | some dj => match kn dj with
      | some v => some (isB v want)
      | none => none
    | none => none
def putE (n : Nat) (o : Oper) (v : Value) (kn : Kn) : Option Kn := match o.dst with
  | some d => cond (Nat.blt d n) (some ((d, v) :: kn)) none
  | none => some kn
def opsE (n : Nat) (ops : Array Oper) : List Oper → Kn → Hp → Er (Kn × Hp)
  | [], kn, H => .ok (kn, H)
  | o :: rest, kn, H => match guardE ops (lookE kn) o with
    | some true => match opE P E rec H (lookE kn) o with
      | .ok (v, H') => match putE n o v kn with
        | some kn' => opsE n ops rest kn' H'
        | none => .bad [o.pos]
      | .bad s => .bad s
    | some false => match putE n o undef kn with
      | some kn' => opsE n ops rest kn' H
      | none => .bad [o.pos]
    | none => .bad [o.pos]
/-! A region that draws its order. Of each operation (in the text's order) what it yields is written down; each sees what comes ahead of it in every order. -/
structure Dr where
  rk : List (Nat × Nat × Value)
  H : Hp
  pend : List (Nat × Nat × VO)
  ws : List (Nat × Hp)
  rs : List (Nat × Oper × Value)
def isMade : Op → Bool
  | .alloc _ | .box .. | .buildSlice .. | .makeSlice .. | .makeMap .. => true
  | _ => false
def readsE : Op → Bool
  | .load .. | .lookup .. | .convert .. | .call _ | .entry _ => true
  | _ => false
/-- The writers of a slot, all of them behind i. -/
def freeSlot (bef : List Nat) (i t : Nat) : Nat → List Oper → Bool
  | _, [] => true
  | j, o :: r => (match o.dst with | some d => !(Nat.beq d t) || (lgetD bef j).testBit i | none => true) && freeSlot bef i t (j + 1) r
def rkGet (bm : Nat) : List (Nat × Nat × Value) → Nat → Option Value
  | [], _ => none
  | (j, d, v) :: r, t => cond (Nat.beq d t && bm.testBit j) (some v) (rkGet bm r t)
/-- The marks of what comes ahead; newest first. -/
def befR : List Oper → Nat → List Nat → List Nat
  | [], _, acc => acc
  | o :: r, i, acc => befR r (Nat.succ i) (List.rec (motive := fun _ => Nat) 0 (fun e _ s => Bool.rec (motive := fun _ => Nat) s (Nat.lor (Nat.lor s (Nat.pow 2 e.on)) (lgetD acc (Nat.sub i (Nat.succ e.on)))) (Region.binds .any e)) o.after.toList :: acc)
def befE (ops : List Oper) : List Nat := (befR ops 0 []).reverse
/-- What operation i may see of the frame. -/
def knI (ops : Array Oper) (bef : List Nat) (kn0 : Kn) (rk : List (Nat × Nat × Value)) (i : Nat) : Lk := fun t => match rkGet (lgetD bef i) rk t with
  | some v => some v
  | none => cond (freeSlot bef i t 0 ops.toList) (lookE kn0 t) none
def layPend (bm : Nat) : List (Nat × Nat × VO) → Hp → Hp
  | [], H => H
  | (i, id, vo) :: r, H => cond (bm.testBit i) ((layPend bm r H).put id (some vo)) (layPend bm r H)
def leftPend (bm : Nat) : List (Nat × Nat × VO) → List (Nat × Nat × VO)
  | [] => []
  | (i, id, vo) :: r => cond (bm.testBit i) (leftPend bm r) ((i, id, vo) :: leftPend bm r)
def sameE (kn : Lk) (H : Hp) (o : Oper) (v : Value) : Bool := match valueK P E H kn o with | some u => eqV u v | none => false
def stagesOk (kn : Lk) (o : Oper) (v : Value) (bm : Nat) (pend : List (Nat × Nat × VO)) : List (Nat × Hp) → Bool
  | [] => true
  | (j, Hb) :: r => (bm.testBit j || sameE P E kn (layPend bm pend Hb) o v) && stagesOk kn o v bm pend r
def readsOk (ops : Array Oper) (bef : List Nat) (kn0 : Kn) (rk : List (Nat × Nat × Value)) (H : Hp) (bm : Nat) (pend : List (Nat × Nat × VO)) : List (Nat × Oper × Value) → Bool
  | [] => true
  | (i, o, v) :: r => (bm.testBit i || sameE P E (knI ops bef kn0 rk i) (layPend (lgetD bef i) pend H) o v) && readsOk ops bef kn0 rk H bm pend r
/-- What is written down of an operation that took part. -/
def Dr.note (D : Dr) (n i : Nat) (o : Oper) (v : Value) : Option (List (Nat × Nat × Value)) := match o.dst with
  | some d => cond (Nat.blt d n) (some ((i, d, v) :: D.rk)) none
  | none => some D.rk
/-- The numbers of what is made, but for what an act took, are free. -/
def freeIds (id0 bm : Nat) (H : Hp) : Nat → List Oper → Bool
  | _, [] => true
  | j, o :: r => (!isMade o.op || bm.testBit j || (H.get (id0 + j)).isNone) && freeIds id0 bm H (j + 1) r
/-- Acts come one behind the other. -/
def headOk (bm : Nat) : List (Nat × Hp) → Bool
  | [] => true
  | (j, _) :: _ => bm.testBit j
def drawStep (n : Nat) (ops : Array Oper) (kn0 : Kn) (id0 : Nat) (bef : List Nat) (i : Nat) (o : Oper) (D : Dr) : Er Dr := match guardE ops (knI ops bef kn0 D.rk i) o with
  | none => .bad [o.pos]
  | some false => match D.note n i o undef with
    | some rk => .ok { D with rk := rk }
    | none => .bad [o.pos]
  | some true => match isMade o.op with
    | true => match madeE P E (knI ops bef kn0 D.rk i) o.op with
      | some (vo, f) => match D.note n i o (f (id0 + i)), o.dst with
        | some rk, some _ => .ok { D with rk := rk, pend := (i, id0 + i, vo) :: D.pend }
        | _, _ => .bad [o.pos]
      | none => .bad [o.pos]
    | false => match valueK P E (layPend (lgetD bef i) D.pend D.H) (knI ops bef kn0 D.rk i) o with
      | some v => match readsE o.op with
        | true => cond (stagesOk P E (knI ops bef kn0 D.rk i) o v (lgetD bef i) D.pend D.ws) (match D.note n i o v with
          | some rk => .ok { D with rk := rk, rs := (i, o, v) :: D.rs }
          | none => .bad [o.pos]) (.bad ["stages", o.pos])
        | false => match D.note n i o v with
          | some rk => .ok { D with rk := rk }
          | none => .bad [o.pos]
      | none => cond (headOk (lgetD bef i) D.ws) (match actE P E rec (layPend (lgetD bef i) D.pend D.H) (knI ops bef kn0 D.rk i) o with
        | .ok (v, H2) => match D.note n i o v with
          | some rk => cond (freeIds id0 (lgetD bef i) H2 0 ops.toList && readsOk P E ops bef kn0 D.rk H2 (lgetD bef i) (leftPend (lgetD bef i) D.pend) D.rs) (.ok ⟨rk, H2, leftPend (lgetD bef i) D.pend, (i, D.H) :: D.ws, D.rs⟩) (.bad ["reads", o.pos])
          | none => .bad [o.pos]
        | .bad s => .bad s) (.bad ["acts", o.pos])
def drawOps (n : Nat) (ops : Array Oper) (kn0 : Kn) (id0 : Nat) (bef : List Nat) : Nat → List Oper → Dr → Er Dr
  | _, [], D => .ok D
  | i, o :: rest, D => match drawStep P E rec n ops kn0 id0 bef i o D with
    | .ok D' => drawOps n ops kn0 id0 bef (i + 1) rest D'
    | .bad s => .bad s
/-- All that is written down, as the frame; what is made and was not laid yet. -/
def rkKn (rk : List (Nat × Nat × Value)) (kn : Kn) : Kn := match rk with
  | [] => kn
  | (_, d, v) :: r => (d, v) :: rkKn r kn
def layAll : List (Nat × Nat × VO) → Hp → Hp
  | [], H => H
  | (_, id, vo) :: r, H => (layAll r H).put id (some vo)
/-- The marks of what comes ahead are right; nothing waits for what comes behind. -/
def befOk1 (bef : List Nat) (i : Nat) (o : Oper) : Bool :=
  o.after.toList.all (fun e => !Region.binds .any e || Nat.blt e.on i) &&
  (List.range i).all (fun j => !((lgetD bef i).testBit j) || o.after.toList.any fun e => Region.binds .any e && (Nat.beq e.on j || (lgetD bef e.on).testBit j)) &&
  Nat.blt (lgetD bef i) (2 ^ i)
def befOk (bef : List Nat) : Nat → List Oper → Bool
  | _, [] => true
  | i, o :: r => befOk1 bef i o && befOk bef (i + 1) r
def dstsOk : List Nat → List Oper → Bool
  | _, [] => true
  | ds, o :: r => match o.dst with
    | some d => !(ds.contains d) && dstsOk (d :: ds) r
    | none => dstsOk ds r
def drawE (n : Nat) (ops : Array Oper) (kn : Kn) (H : Hp) : Er (Kn × Hp) :=
  cond (befOk (befE ops.toList) 0 ops.toList && dstsOk [] ops.toList && Nat.ble (H.n + ops.size) hpM && Nat.ble E.base H.n)
  (match drawOps P E rec n ops kn H.n (befE ops.toList) 0 ops.toList ⟨[], cond (ops.any fun o => isMade o.op) ⟨H.n + ops.size, H.t⟩ H, [], [], []⟩ with
  | .ok D => .ok (rkKn D.rk kn, layAll D.pend D.H)
  | .bad s => .bad s) (.bad ["static"])
def norE : Er (Kn × Hp) → Er (Xt × Kn × Hp)
  | .ok (kn, H) => .ok (.normal, kn, H)
  | .bad s => .bad s
def codeE (n : Nat) : Code → Kn → Hp → Er (Xt × Kn × Hp)
  | .skip, kn, H => .ok (.normal, kn, H)
  | .label _, kn, H => .ok (.normal, kn, H)
  | .exit id, kn, H => .ok (.exit id, kn, H)
  | .ret, kn, H => .ok (.ret, kn, H)
  | .region _ ops false, kn, H => norE (opsE P E rec n ops ops.toList kn H)
  | .region _ ops true, kn, H => norE (drawE P E rec n ops kn H)
  | .seq a b, kn, H => match codeE n a kn H with
    | .ok (.normal, kn', H') => codeE n b kn' H'
    | r => r
  | .cond c a b, kn, H => match evE E (lookE kn) c with
    | some (.bool true) => codeE n a kn H
    | some (.bool false) => codeE n b kn H
    | _ => .bad ["cond"]
  | .block id c, kn, H => match codeE n c kn H with
    | .ok (.exit j, kn', H') => cond (Nat.beq j id) (.ok (.normal, kn', H')) (.ok (.exit j, kn', H'))
    | r => r
  | .scope c, kn, H => codeE n c kn H
  | .loop c, kn, H => match rec (.loop n c kn H) with
    | .ok (.at_ x kn' H') => .ok (x, kn', H')
    | .ok _ => .bad ["loop"]
    | .bad s => .bad s
  | _, _, _ => .bad ["code"]
def resE (kn : Kn) (H : Hp) : ResultVar → Option Value
  | .tmp t => lookE kn t
  | .cell a t => match lookE kn a with
    | some (.pointer (some a)) => match H.get a.block with
      | some (.row cs _) => cutE P t cs a.off
      | _ => none
    | _ => none
def ressE (kn : Kn) (H : Hp) : List ResultVar → Option (List Value)
  | [] => some []
  | r :: rs => match resE P kn H r with
    | some v => match ressE kn H rs with | some vs => some (v :: vs) | none => none
    | none => none
def stepE : Job → Er Res
  | .call f vs H => match lget P.funcs.toList f with
    | some fn => match fn.body with
      | some c => cond (!(fn.name == "runtime.NumGoroutine") && Nat.ble vs.length fn.ntmps) (match codeE P E rec fn.ntmps c (argKn 0 vs) H with
        | .ok (.exit _, _, _) => .bad ["exit"]
        | .ok (_, kn, H') => match ressE P kn H' fn.results.toList with
          | some [v] => .ok (.val v H')
          | some us => .ok (.val (.tuple us.toArray) H')
          | none => .bad ["results", fn.name]
        | .bad s => .bad (fn.name :: s)) (.bad [fn.name])
      | none => .bad ["no body", fn.name]
    | none => .bad ["no function"]
  | .loop n c kn H => match codeE P E rec n c kn H with
    | .ok (.normal, kn', H') => rec (.loop n c kn' H')
    | .ok (x, kn', H') => .ok (.at_ x kn' H')
    | .bad s => .bad s
end
def runE (P : Program) (E : Ev) : Nat → Job → Er Res
  | 0, _ => .bad ["fuel"]
  | n + 1, j => stepE P E (runE P E n) j
end
end Go.Proofs.YtmhahajadgkolaaGreatDoor
/- The evaluator: all operations that only yield a value. -/
namespace Go.Proofs.YtmhahajadgkolaaGreatDoor
open Go.RowKit

/-- The keys' types are as the evaluator says. -/
structure KeysOk (P : Program) (E : Ev) : Prop where
  key : ∀ kt kb, keyGet E.keys kt = some kb → KeyP P kt (fun v => kb v = true)
  plain : ∀ kt kb v, keyGet E.keys kt = some kb → kb v = true → plainB v = true
  eq : ∀ kt kb a b, keyGet E.keys kt = some kb → kb a = true → kb b = true → (eqV a b = true ↔ a = b)
/-- The one entry of a map of one. -/
theorem MapR.ents {P : Program} {E : Ev} (hKs : KeysOk P E) {R : Rn} {kt : Nat} {es : List (Value × Value)} {es' : Array MapEntry} {c : Nat} {kb : Value → Bool} {m : Value → Option Value} (h : MapR E R kt es es' c kb m) (e : MapEntry) (he : e ∈ es'.toList) (hl : es.length ≤ 1) : ∃ a v, es = [(a, v)] ∧ e.key = a ∧ VR R v e.val := by
  have hs := h.size
  match es, hl with
  | [], _ => have : es'.toList = [] := List.length_eq_zero_iff.1 (by simpa using hs); rw [this] at he; cases he
  | [(a, v)], _ =>
    have hka : kb a = true := h.kbs (a, v) (List.mem_cons_self ..)
    have heq : eqV a a = true := (hKs.eq kt kb a a h.key hka hka).2 rfl
    obtain ⟨v', h1, h2⟩ := h.assoc.1 a hka v (by unfold assocV; rw [heq]; rfl)
    obtain ⟨e2, g1, g2, g3⟩ := (h.map.get a v').1 h1
    have h1' : es'.toList.length = 1 := by simpa using hs
    obtain ⟨x, hx⟩ := List.length_eq_one_iff.1 h1'
    rw [hx] at he g1
    obtain rfl := List.mem_singleton.1 he
    obtain rfl := List.mem_singleton.1 g1
    exact ⟨a, v, rfl, g2, by rw [g3]; exact h2⟩
  | _ :: _ :: _, hl => simp at hl
/-! ### Many at once -/
theorem sem_bind_pure {α : Type} : ∀ t : Sem α, Sem.bind t Sem.pure = t := by
  intro t
  induction t with
  | pure a => rfl
  | load m a k ih => simp only [Sem.bind]; congr 1; funext v; exact ih v
  | store m a v k ih => simp only [Sem.bind]; congr 1
  | new o k ih => simp only [Sem.bind]; congr 1; funext v; exact ih v
  | shape r k ih => simp only [Sem.bind]; congr 1; funext v; exact ih v
  | freeze a n k ih => simp only [Sem.bind]; congr 1
  | frozen a k ih => simp only [Sem.bind]; congr 1; funext v; exact ih v
  | getObj r k ih => simp only [Sem.bind]; congr 1; funext v; exact ih v
  | setObj r o k ih => simp only [Sem.bind]; congr 1
  | choose q k ih => simp only [Sem.bind]; congr 1; funext v; exact ih v
  | sys c k ih => simp only [Sem.bind]; congr 1; funext v; exact ih v
  | program k ih => simp only [Sem.bind]; congr 1; funext v; exact ih v
  | mark m k ih => simp only [Sem.bind]; congr 1
  | halt h => rfl
theorem sem_bind_assoc {α β γ : Type} (f : α → Sem β) (g : β → Sem γ) : ∀ t : Sem α, Sem.bind (Sem.bind t f) g = Sem.bind t fun a => Sem.bind (f a) g := by
  intro t
  induction t with
  | pure a => rfl
  | load m a k ih => simp only [Sem.bind]; congr 1; funext v; exact ih v
  | store m a v k ih => simp only [Sem.bind]; congr 1
  | new o k ih => simp only [Sem.bind]; congr 1; funext v; exact ih v
  | shape r k ih => simp only [Sem.bind]; congr 1; funext v; exact ih v
  | freeze a n k ih => simp only [Sem.bind]; congr 1
  | frozen a k ih => simp only [Sem.bind]; congr 1; funext v; exact ih v
  | getObj r k ih => simp only [Sem.bind]; congr 1; funext v; exact ih v
  | setObj r o k ih => simp only [Sem.bind]; congr 1
  | choose q k ih => simp only [Sem.bind]; congr 1; funext v; exact ih v
  | sys c k ih => simp only [Sem.bind]; congr 1; funext v; exact ih v
  | program k ih => simp only [Sem.bind]; congr 1; funext v; exact ih v
  | mark m k ih => simp only [Sem.bind]; congr 1
  | halt h => rfl
instance : LawfulMonad Sem := LawfulMonad.mk' Sem (id_map := fun x => sem_bind_pure x) (pure_bind := fun _ _ => rfl) (bind_assoc := fun t f g => sem_bind_assoc f g t)
/-- What each yields. -/
inductive Runs {α β : Type} (P : Program) (F : α → Sem β) (w : World) : List α → List β → Prop
  | nil : Runs P F w [] []
  | cons {a : α} {b : β} {as_ : List α} {bs : List β} : (F a).run P w = .ok b w → Runs P F w as_ bs → Runs P F w (a :: as_) (b :: bs)
theorem runs_list {α β : Type} {P : Program} {F : α → Sem β} {w : World} : ∀ {l : List α} {bs : List β}, Runs P F w l bs → (l.mapM F).run P w = .ok bs w
  | _, _, .nil => rfl
  | _, _, .cons h hs => by
    rw [List.mapM_cons, Sem.run_bind, h, Result.andThen_ok, Sem.run_bind, runs_list hs, Result.andThen_ok]
    rfl
theorem runs_array {α β : Type} {P : Program} {F : α → Sem β} {w : World} {l : Array α} {bs : List β} (h : Runs P F w l.toList bs) : (l.mapM F).run P w = .ok bs.toArray w := by
  have e : l.mapM F = List.toArray <$> l.toList.mapM F := by
    rw [← List.mapM_toArray]
  rw [e, map_eq_pure_bind, Sem.run_bind, runs_list h, Result.andThen_ok]
  rfl
section
variable {P : Program} {E : Ev} {w0 : World} {R : Rn} {H : Hp} {L X : List Ent} {kn : Lk} {l : Kn} {o : Oper} {n : Nat} {v : Value}
theorem places_ok : ∀ {fs : List Field} {pl : List (Nat × Nat)}, placesE P fs = some pl → ∀ w, Runs P (fun f => do pure (f.offset, ← sizeOf f.type) : Field → Sem (Nat × Nat)) w fs pl
  | [], _, h, w => by cases h; exact .nil
  | f :: fs, pl, h, w => by
    unfold placesE at h
    try simp only [sizeK_eq] at h
    split at h
    · rename_i m r hm hr
      cases h
      exact .cons (by rw [Sem.run_bind, run_sizeOf hm, Result.andThen_ok]; rfl) (places_ok hr w)
    · cases h
theorem bytes_ok : ∀ {cs : List Value} {bs : List Int}, bytesE cs = some bs → bs.length = cs.length ∧ plainL cs = true ∧ ∀ i, i < bs.length → cs[i]? = some (.int .u8 (bs.getD i 0))
  | [], _, h => by cases h; exact ⟨rfl, rfl, fun i hi => absurd hi (Nat.not_lt_zero _)⟩
  | c :: cs, bs, h => by
    unfold bytesE at h
    split at h
    · rename_i h0; cases h0
    · rename_i x r h0
      cases h0
      split at h
      · rename_i bs' hb
        cases h
        obtain ⟨h1, h2, h3⟩ := bytes_ok hb
        refine ⟨by simp [h1], by simp [plainL, plainB, h2], fun i hi => ?_⟩
        match i with
        | 0 => rfl
        | i + 1 =>
          have := h3 i (by simpa using hi)
          simpa using this
      · cases h
    · cases h
/-- A map, as it lies there. -/
theorem SR.mapOf (h : SR E w0 R H L) {k kt : Nat} {es : List (Value × Value)} {it : Option (Nat × Bool)} (hk : H.get k = some (.map kt es it)) (hb : E.base ≤ k) : ∃ b q es' c kb m, R k = some (b, q) ∧ .obj b (.map es' c) ∈ L ∧ MapR E R kt es es' c kb m ∧
    ∀ i dn, it = some (i, dn) → ∃ bi qi seen, R i = some (bi, qi) ∧ .obj bi (.mapIter (some b) c seen c) ∈ L ∧ es.length ≤ 1 ∧ (dn = false → seen = #[]) ∧ (dn = true → ∃ e ∈ es'.toList, seen = #[].push e.born) := h.own k _ hk hb
variable (hKs : KeysOk P E) (hS : SR E w0 R H L) (hK : KR R kn l)
include hKs hS hK
theorem lookup_ok {t : Nat} {x i : Operand} {ok : Bool} (ho : o.op = .lookup t x i ok) (h : valueE P E H kn o = some v) : ∃ v', VR R v v' ∧ Val P (fun w => St F0 w0 w (L ++ X)) n l o v' := by
  unfold valueE at h
  rw [ho] at h
  dsimp only at h
  unfold vLookup at h
  try simp only [undE_eq, infoE_eq] at h
  split at h
  · rename_i m a kt et hx hi hu
    split at h
    · rename_i z es kb hz hm hkb
      cases hbb : (kb a && plainB z)
      · rw [hbb] at h; cases h
      · rw [hbb] at h
        dsimp only [cond_true] at h
        rw [Bool.and_eq_true] at hbb
        obtain ⟨u, h1, h2⟩ := hK.ev hS.gl hx
        obtain ⟨a', h3, h4⟩ := hK.ev hS.gl hi
        obtain rfl := h4.same (hKs.plain kt kb _ hkb hbb.1)
        have key : ∃ r es' mm, u = .map r ∧ (∀ w, St F0 w0 w (L ++ X) → MapW w r es') ∧ IMap (fun v => kb v = true) es' mm ∧ AssocR R kb es mm := by
          split at hm
          · rename_i k
            split at hm
            · rename_i kt' es2 it hk
              cases hb : (Nat.beq kt' kt && Nat.ble E.base k)
              · rw [hb] at hm; cases hm
              · rw [hb] at hm
                cases hm
                rw [Bool.and_eq_true] at hb
                obtain rfl := Nat.eq_of_beq_eq_true hb.1
                obtain ⟨b, q, es', c, kb', mm, g1, g2, g3, _⟩ := hS.mapOf hk (Nat.le_of_ble_eq_true hb.2)
                obtain ⟨b', q', g4, rfl⟩ := h2.map_inv
                rw [g1] at g4
                cases g4
                have e := g3.key
                rw [hkb] at e
                cases e
                exact ⟨some b, es', mm, rfl, fun w hw => .inr ⟨b, c, rfl, (hw.holds _ (List.mem_append_left _ g2)).1⟩, g3.map, g3.assoc⟩
            · cases hm
          · cases hm
            obtain rfl := h2.mnil_inv
            exact ⟨none, #[], fun _ => none, rfl, fun w hw => .inl ⟨rfl, rfl⟩, IMap.empty _, ⟨fun a _ v hv => (by cases hv), fun _ _ _ => rfl⟩⟩
        obtain ⟨r, es', mm, rfl, hV, hM, hA⟩ := key
        have hz' : plainB z = true := hbb.2
        have hres : VR R ((assocV es a').getD z) ((mm a').getD z) ∧ (assocV es a').isSome = (mm a').isSome := by
          cases ha : assocV es a' with
          | none => rw [hA.2 _ hbb.1 ha]; exact ⟨.plain hz', rfl⟩
          | some u =>
            obtain ⟨u', e1, e2⟩ := hA.1 _ hbb.1 _ ha
            rw [e1]; exact ⟨e2, rfl⟩
        cases ok with
        | false =>
          cases h
          exact ⟨_, hres.1, v_lookup ho h1 h3 hu (hKs.key kt kb hkb) hbb.1 hz hV hM⟩
        | true =>
          cases h
          refine ⟨_, ?_, v_lookup2 ho h1 h3 hu (hKs.key kt kb hkb) hbb.1 hz hV hM⟩
          rw [hres.2]
          exact VR.tuple (.cons hres.1 (.cons (.plain rfl) .nil))
    · cases h
  · cases h
omit hKs in
theorem len_ok {args : Array Operand} {ts : Array TypeId} (ho : o.op = .call { callee := .builtin .len, args := args, argTypes := ts }) (h : valueE P E H kn o = some v) : ∃ v', VR R v v' ∧ Val P (fun w => St F0 w0 w (L ++ X)) n l o v' := by
  unfold valueE at h
  rw [ho] at h
  dsimp only at h
  unfold vLen at h
  try simp only [undE_eq] at h
  split at h
  · rename_i x t ha ht
    have ho' : o.op = .call { callee := .builtin .len, args := #[x], argTypes := #[t] } := by
      rw [ho, show args = #[x] from Array.toList_inj.1 ha, show ts = #[t] from Array.toList_inj.1 ht]
    split at h
    · rename_i a m c e hx hu
      cases h
      obtain ⟨u, h1, h2⟩ := hK.ev hS.gl hx
      obtain ⟨a', c', rfl, _⟩ := h2.slice_len
      exact ⟨_, .plain rfl, v_len_slice ho' h1 hu⟩
    · rename_i kt et hx hu
      cases h
      obtain ⟨u, h1, h2⟩ := hK.ev hS.gl hx
      obtain rfl := h2.mnil_inv
      exact ⟨_, .plain rfl, v_len_map (es := #[]) ho' h1 hu fun w hw => .inl ⟨rfl, rfl⟩⟩
    · rename_i k kt et hx hu
      split at h
      · rename_i kt' es it hk
        cases hb : Nat.ble E.base k
        · rw [hb] at h; cases h
        · rw [hb] at h
          cases h
          obtain ⟨u, h1, h2⟩ := hK.ev hS.gl hx
          obtain ⟨b, q, es', c, kb', mm, g1, g2, g3, _⟩ := hS.mapOf hk (Nat.le_of_ble_eq_true hb)
          obtain ⟨b', q', g4, rfl⟩ := h2.map_inv
          rw [g1] at g4
          cases g4
          refine ⟨_, .plain rfl, ?_⟩
          rw [← g3.size]
          exact v_len_map (es := es') ho' h1 hu fun w hw => .inr ⟨b, c, rfl, (hw.holds _ (List.mem_append_left _ g2)).1⟩
      · cases h
    · exact plain_ok hK hS.gl h
  · cases h
omit hKs in
theorem cap_ok {args : Array Operand} {ts : Array TypeId} (ho : o.op = .call { callee := .builtin .cap, args := args, argTypes := ts }) (h : valueE P E H kn o = some v) : ∃ v', VR R v v' ∧ Val P (fun w => St F0 w0 w (L ++ X)) n l o v' := by
  unfold valueE at h
  rw [ho] at h
  dsimp only at h
  unfold vCap at h
  try simp only [undE_eq] at h
  split at h
  · rename_i x t ha ht
    have ho' : o.op = .call { callee := .builtin .cap, args := #[x], argTypes := #[t] } := by
      rw [ho, show args = #[x] from Array.toList_inj.1 ha, show ts = #[t] from Array.toList_inj.1 ht]
    have run : ∀ {ad : Option Addr} {len cap e : Nat}, ev l x = some (.slice ad len cap) → P.underlying t = some (.slice e) → Val P (fun w => St F0 w0 w (L ++ X)) n l o (.int .i64 cap) := fun {ad len cap e} hx hu a w ha _ => by
      have hx' : evs l [x] = some [.slice ad len cap] := by simp [YtmhahajadgkolaaGreatDoor.evs, hx]
      obtain ⟨cs, hr⟩ := run_builtin (P := P) (w := w) (xs := [x]) ho' hx' ha
      rw [hr]
      simp [builtin, Builtin.cap_, run_underlying hu, goInt]
    split at h
    · rename_i m c e hx hu
      cases h
      obtain ⟨u, h1, h2⟩ := hK.ev hS.gl hx
      obtain rfl := h2.snil_inv
      exact ⟨_, .plain rfl, run h1 hu⟩
    · rename_i a m c e hx hu
      cases hb : (Nat.blt c 1152921504606846976 && a.spot.isNone)
      · rw [hb] at h; cases h
      · rw [hb] at h
        cases h
        rw [Bool.and_eq_true] at hb
        obtain ⟨u, h1, h2⟩ := hK.ev hS.gl hx
        obtain ⟨b, q, h3, h4, h5, rfl⟩ := h2.slice_inv (Option.isNone_iff_eq_none.1 hb.2)
        refine ⟨_, .plain rfl, ?_⟩
        have := run h1 hu
        rwa [capR_small (by simpa using hb.1)] at this
    · cases h
  · cases h
omit hKs in
theorem conv_ok {s d : Nat} {x : Operand} (ho : o.op = .convert s d x) (h : valueE P E H kn o = some v) : ∃ v', VR R v v' ∧ Val P (fun w => St F0 w0 w (L ++ X)) n l o v' := by
  unfold valueE at h
  rw [ho] at h
  dsimp only at h
  unfold vConv at h
  try simp only [undE_eq] at h
  split at h
  · rename_i m c e hx hd hs
    split at h
    · rename_i he
      cases hb : Nat.beq m 0
      · rw [hb] at h; cases h
      · rw [hb] at h
        cases h
        obtain rfl := Nat.eq_of_beq_eq_true hb
        obtain ⟨u, h1, h2⟩ := hK.ev hS.gl hx
        obtain rfl := h2.snil_inv
        exact ⟨_, .plain rfl, v_convBS (fun _ => 0) ho h1 hs he hd fun w hw h0 => absurd h0 (Nat.lt_irrefl 0)⟩
    · cases h
  · rename_i a m c e hx hd hs
    split at h
    · rename_i cs op hk he
      split at h
      · rename_i bs hbs
        cases hb : (Nat.beq bs.length m && a.spot.isNone)
        · rw [hb] at h; cases h
        · rw [hb] at h
          cases h
          rw [Bool.and_eq_true] at hb
          obtain rfl := Nat.eq_of_beq_eq_true hb.1
          obtain ⟨u, h1, h2⟩ := hK.ev hS.gl hx
          obtain ⟨b, q, h3, h4, h5, rfl⟩ := h2.slice_inv (Option.isNone_iff_eq_none.1 hb.2)
          obtain ⟨b', q', cs', h6, h7, h8⟩ := hS.cells (X := X) hk
          rw [h4] at h6
          cases h6
          obtain ⟨g1, g2, g3⟩ := bytes_ok hbs
          have hsame := (h7.seg a.off bs.length).same g2
          refine ⟨_, .plain rfl, ?_⟩
          have hstr : strOfNums bs = str (fun i => bs.getD i 0) bs.length := by
            unfold str
            congr 1
            unfold bl
            refine List.ext_getElem? fun i => ?_
            rw [List.getElem?_map]
            by_cases hi : i < bs.length
            · rw [List.getElem?_range hi]; simp [hi]
            · rw [List.getElem?_eq_none (by omega), List.getElem?_eq_none (by simpa using hi)]; rfl
          rw [hstr]
          refine v_convBS _ ho h1 hs he hd fun w hw h0 => ⟨b, a.off, rfl, fun i hi => ?_⟩
          have e1 := g3 i hi
          rw [← hsame] at e1
          unfold YtmhahajadgkolaaGreatDoor.seg at e1
          rw [List.getElem?_take, if_pos hi, List.getElem?_drop] at e1
          have := h8 w hw _ _ e1
          rwa [Nat.zero_add] at this
      · cases h
    · cases h
  · exact plain_ok hK hS.gl h
end
end Go.Proofs.YtmhahajadgkolaaGreatDoor
/- The evaluator: all operations that only yield a value, together. -/
namespace Go.Proofs.YtmhahajadgkolaaGreatDoor
open Go.RowKit

section
variable {P : Program} {E : Ev} {w0 : World} {R : Rn} {H : Hp} {L X : List Ent} {kn : Lk} {l : Kn} {o : Oper} {n : Nat} {v : Value}
variable (hS : SR E w0 R H L) (hK : KR R kn l)
include hS hK
theorem build_ok {t : Nat} {parts : Array (Nat × Operand)} (ho : o.op = .build t parts) (h : valueE P E H kn o = some v) : ∃ v', VR R v v' ∧ Val P (fun w => St F0 w0 w (L ++ X)) n l o v' := by
  unfold valueE at h
  rw [ho] at h
  dsimp only at h
  unfold vBuild at h
  try simp only [undE_eq, sizeK_eq, zeroK_eq] at h
  have ho' : o.op = .build t parts.toList.toArray := by rw [ho]
  split at h
  · rename_i fs zs vs hu hz hx
    split at h
    · rename_i pl hpl
      split at h
      · rename_i out hf
        cases h
        obtain ⟨hz, hzp⟩ := zeroE_ok hz
        obtain ⟨vs', h1, h2⟩ := hK.evp hS.gl hx
        obtain ⟨out', h3, h4⟩ := fillL_VR h2 (VRs.plain hzp) hf
        exact ⟨_, .agg h4, v_build ho' h1 hz ⟨fs, hu, fun w => runs_array (places_ok hpl w)⟩ h3⟩
      · cases h
    · cases h
  · rename_i m e zs vs hu hz hx
    split at h
    · rename_i s hs
      split at h
      · rename_i out hf
        cases h
        obtain ⟨hz, hzp⟩ := zeroE_ok hz
        obtain ⟨vs', h1, h2⟩ := hK.evp hS.gl hx
        obtain ⟨out', h3, h4⟩ := fillL_VR h2 (VRs.plain hzp) hf
        exact ⟨_, .agg h4, v_buildA ho' h1 hz hu hs h3⟩
      · cases h
    · cases h
  · cases h
theorem makeFunc_ok {fn : Fn} {fi ca : Array Operand} (ho : o.op = .makeFunc fn fi ca) (h : valueE P E H kn o = some v) : ∃ v', VR R v v' ∧ Val P (fun w => St F0 w0 w (L ++ X)) n l o v' := by
  unfold valueE at h
  rw [ho] at h
  dsimp only at h
  unfold vFunc at h
  have ho' : o.op = .makeFunc fn fi.toList.toArray ca.toList.toArray := by rw [ho]
  split at h
  · rename_i a b ha hb
    cases h
    obtain ⟨a', h1, h2⟩ := hK.evs hS.gl ha
    obtain ⟨b', h3, h4⟩ := hK.evs hS.gl hb
    exact ⟨_, .func h2 h4, v_makeFunc ho' h1 h3⟩
  · cases h
theorem makeIface_ok {t : Nat} {x : Operand} (ho : o.op = .makeInterface t x) (h : valueE P E H kn o = some v) : ∃ v', VR R v v' ∧ Val P (fun w => St F0 w0 w (L ++ X)) n l o v' := by
  unfold valueE at h
  rw [ho] at h
  dsimp only at h
  unfold vIface at h
  try simp only [undE_eq] at h
  split at h
  · rename_i u d hx hu
    cases hd : isIf d
    · rw [hd] at h
      cases h
      obtain ⟨u', h1, h2⟩ := hK.ev hS.gl hx
      refine ⟨_, .iface h2, v_makeInterface ho h1 hu ?_⟩
      cases d <;> first | rfl | cases hd
    · rw [hd] at h; cases h
  · cases h
theorem arrPtr_ok {t : Nat} {x : Operand} (ho : o.op = .sliceToArrayPointer t x) (h : valueE P E H kn o = some v) : ∃ v', VR R v v' ∧ Val P (fun w => St F0 w0 w (L ++ X)) n l o v' := by
  unfold valueE at h
  rw [ho] at h
  dsimp only at h
  unfold vArrPtr at h
  try simp only [undE_eq] at h
  split at h
  · rename_i a k c m e hx hu
    cases hb : (Nat.ble m k && a.spot.isNone)
    · rw [hb] at h; cases h
    · rw [hb] at h
      cases h
      rw [Bool.and_eq_true] at hb
      obtain ⟨u, h1, h2⟩ := hK.ev hS.gl hx
      have hsp := Option.isNone_iff_eq_none.1 hb.2
      obtain ⟨b, q, h3, h4, h5, rfl⟩ := h2.slice_inv hsp
      obtain ⟨ab, ao, as_⟩ := a
      cases hsp
      exact ⟨_, .ptr h4, v_arrayAt ho h1 hu (Nat.le_of_ble_eq_true hb.1)⟩
  · cases h
theorem entry_ok (hKs : KeysOk P E) {x : Operand} (ho : o.op = .entry x) (h : valueE P E H kn o = some v) : ∃ v', VR R v v' ∧ Val P (fun w => St F0 w0 w (L ++ X)) n l o v' := by
  unfold valueE at h
  rw [ho] at h
  dsimp only at h
  unfold vEntry at h
  split at h
  · rename_i a hx
    split at h
    · rename_i b hi
      split at h
      · rename_i kt ka u i hm
        cases hb : (Nat.beq i a.block && Nat.beq a.off 0 && Nat.ble E.base b)
        · rw [hb] at h; cases h
        · rw [hb] at h
          cases h
          simp only [Bool.and_eq_true] at hb
          obtain ⟨⟨b1, b2⟩, b3⟩ := hb
          have b1' := Nat.eq_of_beq_eq_true b1
          have b2' := Nat.eq_of_beq_eq_true b2
          obtain ⟨u', h1, h2⟩ := hK.ev hS.gl hx
          obtain ⟨bb, q, h3, h4, rfl⟩ := h2.ptr_inv
          obtain ⟨g, q', es', c, kb, m, g1, g2, g3, g4⟩ := hS.mapOf hm (Nat.le_of_ble_eq_true b3)
          obtain ⟨bi, qi, seen, g5, g6, g7, _, g8⟩ := g4 i true rfl
          rw [b1', h4] at g5
          cases g5
          obtain ⟨e, he, rfl⟩ := g8 rfl
          obtain ⟨ka', u2, e1, e2, e3⟩ := g3.ents hKs e he g7
          cases e1
          rw [b2'] at h1
          refine ⟨_, ?_, v_entry ho h1 (List.mem_append_left _ g6) (List.mem_append_left _ g2) g3.st he⟩
          rw [e2]
          exact .tuple (.cons (.plain (by
            have := g3.kbs (ka, u) (List.mem_cons_self ..)
            exact hKs.plain kt kb ka g3.key this)) (.cons e3 .nil))
      · cases h
    · cases h
  · cases h
end
section
variable {P : Program} {E : Ev} {w0 : World} {R : Rn} {H : Hp} {L X : List Ent} {kn : Lk} {l : Kn} {o : Oper} {n : Nat} {v : Value}
theorem value_ok (hKs : KeysOk P E) (hS : SR E w0 R H L) (hK : KR R kn l) (h : valueE P E H kn o = some v) : ∃ v', VR R v v' ∧ Val P (fun w => St F0 w0 w (L ++ X)) n l o v' := by
  have h0 := h
  unfold valueE at h
  split at h
  · rename_i ho; exact move_ok hK hS.gl (.inl ho) h
  · rename_i ho; exact move_ok hK hS.gl (.inr ho) h
  · rename_i ho; exact pick_ok hK hS.gl ho h
  · rename_i ho; exact extract_ok hK hS.gl ho h
  · rename_i ho; exact fieldAddr_ok hK hS.gl ho h
  · rename_i ho; exact load_ok hK hS.gl hS ho h
  · rename_i ho; exact fieldOf_ok hK hS.gl ho h
  · rename_i ho; exact indexAddr_ok hK hS.gl ho h
  · rename_i ho; exact nilCheck_ok hK hS.gl ho h
  · rename_i ho
    unfold vOr at h
    split at h
    · rename_i hs; cases h; exact slice_ok hK hS.gl ho hs
    · exact plain_ok hK hS.gl h
  · rename_i ho
    unfold vOr at h
    split at h
    · rename_i hs; cases h; exact nilEq_ok hK hS.gl ho hs
    · exact plain_ok hK hS.gl h
  · rename_i ho; exact build_ok hS hK ho h0
  · rename_i ho; exact makeFunc_ok hS hK ho h0
  · rename_i ho; exact makeIface_ok hS hK ho h0
  · rename_i ho; exact arrPtr_ok hS hK ho h0
  · rename_i ho; exact lookup_ok hKs hS hK ho h0
  · rename_i ho; exact entry_ok hS hK hKs ho h0
  · rename_i ho; exact len_ok hS hK ho h0
  · rename_i ho; exact cap_ok hS hK ho h0
  · rename_i ho; exact conv_ok hS hK ho h0
  · exact plain_ok hK hS.gl h
end
end Go.Proofs.YtmhahajadgkolaaGreatDoor
/- The evaluator: operations that turn the memory. -/
namespace Go.Proofs.YtmhahajadgkolaaGreatDoor
open Go.RowKit

section
variable {P : Program} {ops : Array Oper} {Q : Exit → Act → World → Prop} {n d : Nat} {E : Ev} {w0 : World} {R : Rn} {H : Hp} {L X : List Ent} {kn : Lk} {l : Kn} {o : Oper} {rest : List Oper} {v : Value}
/-- A nil map's iterator has nothing. -/
theorem WL.nextNil {p : Nat → Prop} {L : List Ent} {r : Nat} {x : Operand} (ho : o.op = .next x false) (hx : ev l x = some (.pointer (some ⟨r, 0, none⟩))) (hm : Ent.obj r (.mapIter none 0 #[] 0) ∈ L) (hg : On ops o l) (hd : o.dst = some d) (hn : Nat.blt d n = true)
    (h : WL P ops Q n p w0 rest ((d, .tuple #[.bool false]) :: l) L) : WL P ops Q n p w0 (o :: rest) l L := by
  refine WL.op hg hd hn fun a w ha hS => ⟨_, w, L, ?_, hS, h⟩
  have h1 := ha.ev hx
  have hi := (hS.holds _ hm).1
  unfold execOp
  simp only [ho, h1, Instr.next, Sem.run_bind]
  rw [show (getObj r).run P w = .ok (.mapIter none 0 #[] 0) w by simp [getObj, Sem.run, hi]]
  rfl
/-- clear of a map. -/
theorem WL.clearMap {p : Nat → Prop} {A B : List Ent} {t g c : Nat} {x : Operand} {es : Array MapEntry} (ho : o.op = .call { callee := .builtin .clear, args := #[x], argTypes := #[t] }) (hx : ev l x = some (.map (some g))) (hu : ∃ ds, P.underlying t = some ds) (hg : On ops o l) (hd : o.dst = none)
    (h : WL P ops Q n p w0 rest l (A ++ .obj g (.map #[] c) :: B)) : WL P ops Q n p w0 (o :: rest) l (A ++ .obj g (.map es c) :: B) := by
  refine WL.act hg hd fun a w ha hS => ?_
  have hx' : evs l [x] = some [.map (some g)] := by simp [YtmhahajadgkolaaGreatDoor.evs, hx]
  obtain ⟨cc, hr⟩ := run_builtin (P := P) (w := w) (xs := [x]) ho hx' ha
  have hob := (hS.holds (.obj g (.map es c)) (by simp)).1
  obtain ⟨ds, hu⟩ := hu
  have hrun : (Builtin.clear_ #[t] o.type #[.map (some g)]).run P w = .ok (.tuple #[]) { w with heap := w.heap.setIfInBounds g (.map #[] c) } := by
    simp [Builtin.clear_, run_underlying hu, MapKept.run_getObj_map hob, MapKept.run_setObj_map _ hob, Result.andThen]
  refine ⟨{ w with heap := w.heap.setIfInBounds g (.map #[] c) }, A ++ .obj g (.map #[] c) :: B, .inr ⟨.tuple #[], ?_⟩, ?_, h⟩
  · rw [hr]; simp [builtin, hrun]
  · exact hS.put (g := g) (e := .obj g (.map #[] c)) (hp := ⟨fun _ => ⟨A, B, _, rfl, rfl, rfl⟩⟩) rfl Frm.setObj ⟨by
      have hlt := (Array.getElem?_eq_some_iff.1 hob).1
      simp [hlt], trivial⟩
/-- append of nothing. -/
theorem WL.append0 {p : Nat → Prop} {L : List Ent} {t tx e e' s by_ k c mc : Nat} {ad sa : Option Addr} {x y : Operand} (ho : o.op = .call { callee := .builtin .append, args := #[x, y], argTypes := #[t, tx] }) (hx : ev l x = some (.slice ad k c)) (hy : ev l y = some (.slice sa 0 mc))
    (hu : P.underlying t = some (.slice e)) (hux : P.underlying tx = some (.slice e')) (hs : (P.info? e).map (·.size) = some s) (_ : (P.info? e).map (·.bytes) = some by_) (hk : k ≤ c)
    (hg : On ops o l) (hd : o.dst = some d) (hn : Nat.blt d n = true) (h : WL P ops Q n p w0 rest ((d, .slice ad k c) :: l) L) : WL P ops Q n p w0 (o :: rest) l L := by
  refine WL.op hg hd hn fun a w ha hS => ⟨_, w, L, ?_, hS, h⟩
  have hxy : evs l [x, y] = some [.slice ad k c, .slice sa 0 mc] := by simp [YtmhahajadgkolaaGreatDoor.evs, hx, hy]
  obtain ⟨cc, hr⟩ := run_builtin (P := P) (w := w) (xs := [x, y]) ho hxy ha
  have hf : (Builtin.firstCells s 0 (.slice sa 0 mc)).run P w = .ok #[] w := by
    cases sa with
    | none => rfl
    | some q => simp [Builtin.firstCells, loadCells, loadCellsFrom]
  rw [hr]
  cases ad with
  | none => simp [builtin, Builtin.append_, run_underlying hu, run_underlying hux, run_sizeOf hs, Builtin.lenOf, hf, hk]
  | some q => simp [builtin, Builtin.append_, run_underlying hu, run_underlying hux, run_sizeOf hs, Builtin.lenOf, hf, hk, storeCells]
/-- What follows an operation. -/
def Kont (P : Program) (E : Ev) (ops : Array Oper) (Q : Exit → Act → World → Prop) (n : Nat) (w0 : World) (rest : List Oper) (l : Kn) (X : List Ent) (o : Oper) (R : Rn) (v : Value) (H H2 : Hp) : Prop :=
  ∀ R' L' v', Rn.ext H H2 R R' → SR E w0 R' H2 L' → VR R' v v' → WL P ops Q n F0 w0 rest (match o.dst with | some d => (d, v') :: l | none => l) (L' ++ X)
theorem Kont.some {H2 : Hp} (h : Kont P E ops Q n w0 rest l X o R v H H2) (hd : o.dst = some d) : ∀ R' L' v', Rn.ext H H2 R R' → SR E w0 R' H2 L' → VR R' v v' → WL P ops Q n F0 w0 rest ((d, v') :: l) (L' ++ X) := fun R' L' v' h1 h2 h3 => by
  have := h R' L' v' h1 h2 h3
  rw [hd] at this
  exact this
theorem Kont.none {H2 : Hp} (hn : H.n = H2.n) (h : Kont P E ops Q n w0 rest l X o R undef H H2) (hd : o.dst = Option.none) : ∀ L', SR E w0 R H2 L' → WL P ops Q n F0 w0 rest l (L' ++ X) := fun L' h2 => by
  have := h R L' undef (Rn.ext.same hn) h2 (.plain rfl)
  rw [hd] at this
  exact this
theorem setV_len {kb : Value → Bool} (heq : ∀ a b, kb a = true → kb b = true → (eqV a b = true ↔ a = b)) : ∀ (es : List (Value × Value)) (a v : Value), (setV es a v).length = if (assocV es a).isSome then es.length else es.length + 1
  | [], a, v => rfl
  | (k, u) :: r, a, v => by
    unfold setV assocV
    cases eqV k a with
    | true => rfl
    | false =>
      dsimp only [cond_false]
      rw [List.length_cons, setV_len heq r a v]
      split <;> simp
theorem setV_kbs {kb : Value → Bool} : ∀ (es : List (Value × Value)) (a v : Value), kb a = true → (∀ p ∈ es, kb p.1 = true) → ∀ p ∈ setV es a v, kb p.1 = true
  | [], a, v, ha, _, p, hp => by obtain rfl := List.mem_singleton.1 hp; exact ha
  | (k, u) :: r, a, v, ha, h, p, hp => by
    unfold setV at hp
    cases hk : eqV k a with
    | true =>
      rw [hk] at hp
      rcases List.mem_cons.1 hp with rfl | hp
      · exact h (k, u) (List.mem_cons_self ..)
      · exact h p (List.mem_cons_of_mem _ hp)
    | false =>
      rw [hk] at hp
      rcases List.mem_cons.1 hp with rfl | hp
      · exact h _ (List.mem_cons_self ..)
      · exact setV_kbs r a v ha (fun p hp => h p (List.mem_cons_of_mem _ hp)) p hp
open Classical in
theorem assoc_setV {kb : Value → Bool} (heq : ∀ a b, kb a = true → kb b = true → (eqV a b = true ↔ a = b)) : ∀ (es : List (Value × Value)) (a v x : Value), kb a = true → kb x = true → (∀ p ∈ es, kb p.1 = true) → assocV (setV es a v) x = if x = a then some v else assocV es x
  | [], a, v, x, ha, hx, _ => by
    unfold setV assocV
    by_cases e : x = a
    · subst e; rw [(heq x x hx hx).2 rfl, if_pos rfl]; rfl
    · rw [if_neg e]
      cases h : eqV a x with
      | true => exact absurd ((heq a x ha hx).1 h).symm e
      | false => rfl
  | (k, u) :: r, a, v, x, ha, hx, h => by
    have hk : kb k = true := h (k, u) (List.mem_cons_self ..)
    have ih := assoc_setV heq r a v x ha hx (fun p hp => h p (List.mem_cons_of_mem _ hp))
    unfold setV
    cases hka : eqV k a with
    | true =>
      obtain rfl := (heq k a hk ha).1 hka
      dsimp only [cond_true]
      unfold assocV
      by_cases e : x = k
      · subst e; rw [(heq x x hx hx).2 rfl, if_pos rfl]; rfl
      · rw [if_neg e]
        cases hkx : eqV k x with
        | true => exact absurd ((heq k x hk hx).1 hkx).symm e
        | false => rfl
    | false =>
      dsimp only [cond_false]
      unfold assocV
      cases hkx : eqV k x with
      | true =>
        obtain rfl := (heq k x hk hx).1 hkx
        dsimp only [cond_true]
        rw [if_neg (fun e => by rw [← e] at hka; rw [hkx] at hka; cases hka)]
      | false => exact ih
theorem plain_bytes : ∀ bs : List UInt8, plainL (bs.map bcell) = true
  | [] => rfl
  | b :: bs => by rw [List.map_cons]; simp only [plainL, bcell, plainB, Bool.true_and]; exact plain_bytes bs
/-- A map's entry, laid by a literal. -/
theorem WL.insertS {p : Nat → Prop} {L : List Ent} {t kt et g c : Nat} {K : Value → Prop} {A v : Value} {es : Array MapEntry} {m : Value → Option Value} {x xi xv : Operand} {F : Ent → List Ent} (ho : o.op = .insert t x xi xv) (hx : ev l x = some (.map (some g))) (hi : ev l xi = some A) (hv : ev l xv = some v) (hu : P.underlying t = some (.map kt et)) (hk : KeyP P kt K) (hA : K A)
    [hL : Loc L g (.obj g (.map es c)) F] (hM : IMap K es m) (hg : On ops o l) (hd : o.dst = none)
    (h : ∀ es' c', IMap K es' (updM m A (some v)) → es'.size = (if (m A).isSome then es.size else es.size + 1) → (MapKept.Stamped es c → MapKept.Stamped es' c') → WL P ops Q n p w0 rest l (F (.obj g (.map es' c')))) : WL P ops Q n p w0 (o :: rest) l L := by
  refine WL.act hg hd fun a w ha hS => ?_
  obtain ⟨A', B', rfl, rfl⟩ := hL.ok
  have hob := (hS.holds (.obj g (.map es c)) (by simp)).1
  obtain ⟨es', c', hr, hM', hsz, hst⟩ := run_mapUpdate (P := P) (A := A) (v := v) (w := w) hu hk hA hob hM
  refine ⟨{ w with heap := w.heap.setIfInBounds g (.map es' c') }, A' ++ .obj g (.map es' c') :: B', .inl ?_, ?_, h es' c' hM' hsz hst⟩
  · have h1 := ha.ev hx; have h2 := ha.ev hi; have h3 := ha.ev hv
    unfold execOp
    simp [ho, h1, h2, h3, hr]
  · exact hS.put (g := g) (e := .obj g (.map es' c')) (hp := ⟨fun _ => ⟨A', B', _, rfl, rfl, rfl⟩⟩) rfl Frm.setObj ⟨by
      have hlt := (Array.getElem?_eq_some_iff.1 hob).1
      simp [hlt], trivial⟩
variable (hKs : KeysOk P E) (hS : SR E w0 R H L) (hK : KR R kn l)
include hS hK
omit hS hK in
theorem mapE_ok {b kt : Nat} {es : List (Value × Value)} (h : mapE E H b = some (kt, es)) : H.get b = some (.map kt es none) ∧ E.base ≤ b := by
  unfold mapE at h
  split at h
  · rename_i hk
    cases hb : Nat.ble E.base b
    · rw [hb] at h; cases h
    · rw [hb] at h; cases h; exact ⟨hk, Nat.le_of_ble_eq_true hb⟩
  · cases h
include hKs
theorem set_ok {t : Nat} {m k x : Operand} {H2 : Hp} (ho : o.op = .mapUpdate t m k x ∨ o.op = .insert t m k x) (h : setE P E H kn t m k x = some H2) (hg : On ops o l) (hd : o.dst = none) (hc : ∀ L', SR E w0 R H2 L' → WL P ops Q n F0 w0 rest l (L' ++ X)) : WL P ops Q n F0 w0 (o :: rest) l (L ++ X) := by
  unfold setE at h
  try simp only [undE_eq] at h
  split at h
  · rename_i b a u kt et hm hk hx hu
    split at h
    · rename_i kt' es kb hmm hkb
      cases hbb : (kb a && Nat.beq kt' kt)
      · rw [hbb] at h; cases h
      · rw [hbb] at h
        cases h
        rw [Bool.and_eq_true] at hbb
        obtain rfl := Nat.eq_of_beq_eq_true hbb.2
        obtain ⟨hget, hbase⟩ := mapE_ok hmm
        obtain ⟨g, q, es', c, kb', mm, g1, g2, g3, _⟩ := hS.mapOf hget hbase
        have e := g3.key
        rw [hkb] at e
        cases e
        obtain ⟨m', h1, h2⟩ := hK.ev hS.gl hm
        obtain ⟨b', q', g4, rfl⟩ := h2.map_inv
        rw [g1] at g4
        cases g4
        obtain ⟨a', h3, h4⟩ := hK.ev hS.gl hk
        obtain rfl := h4.same (hKs.plain _ kb _ hkb hbb.1)
        obtain ⟨u', h5, h6⟩ := hK.ev hS.gl hx
        obtain ⟨A, B, hL⟩ := List.append_of_mem g2
        have heq := fun a b => hKs.eq _ kb a b hkb
        haveI : Loc (L ++ X) g (.obj g (.map es' c)) (fun y => A ++ y :: (B ++ X)) := ⟨⟨A, B ++ X, by rw [hL]; simp, rfl⟩⟩
        have fin : ∀ (es2 : Array MapEntry) (c2 : Nat), IMap (fun v => kb v = true) es2 (updM mm a' (some u')) → es2.size = (if (mm a').isSome then es'.size else es'.size + 1) → (MapKept.Stamped es' c → MapKept.Stamped es2 c2) → WL P ops Q n F0 w0 rest l (A ++ .obj g (.map es2 c2) :: (B ++ X)) := fun es2 c2 q1 q2 q3 => by
          have hsome : (mm a').isSome = (assocV es a').isSome := by
            cases ha : assocV es a' with
            | none => rw [g3.assoc.2 _ hbb.1 ha]
            | some w => obtain ⟨w', e1, _⟩ := g3.assoc.1 _ hbb.1 _ ha; rw [e1]; rfl
          have hM : MapR E R kt' (setV es a' u) es2 c2 kb (updM mm a' (some u')) := ⟨hkb, q1, q3 g3.st, by rw [q2, setV_len heq, hsome, g3.size], setV_kbs es a' u hbb.1 g3.kbs, ⟨fun y hy w hw => by
            rw [assoc_setV heq es a' u y hbb.1 hy g3.kbs] at hw
            unfold updM
            split at hw
            · rename_i e; cases hw; rw [if_pos e]; exact ⟨u', rfl, h6⟩
            · rename_i e; rw [if_neg e]; exact g3.assoc.1 y hy w hw, fun y hy hw => by
            rw [assoc_setV heq es a' u y hbb.1 hy g3.kbs] at hw
            unfold updM
            split at hw
            · cases hw
            · rename_i e; rw [if_neg e]; exact g3.assoc.2 y hy hw⟩⟩
          have hSR := hS.put (o' := .map kt' (setV es a' u) none) (e' := .obj g (.map es2 c2)) ⟨_, hget⟩ hbase hL g1 rfl trivial ⟨g, q, es2, c2, kb, _, g1, by simp, hM, fun i dn e => by cases e⟩
          have := hc _ hSR
          rwa [List.append_assoc] at this
        rcases ho with ho | ho
        · exact WL.mapUpdateS (F := fun y => A ++ y :: (B ++ X)) ho h1 h3 h5 hu (hKs.key _ kb hkb) hbb.1 g3.map hg hd fun es2 c2 q1 q2 q3 => fin es2 c2 q1 q2 q3
        · exact WL.insertS (F := fun y => A ++ y :: (B ++ X)) ho h1 h3 h5 hu (hKs.key _ kb hkb) hbb.1 g3.map hg hd fun es2 c2 q1 q2 q3 => fin es2 c2 q1 q2 q3
    · cases h
  · cases h
omit hKs in
theorem clear_ok {t : Nat} {x : Operand} {H2 : Hp} (ho : o.op = .call { callee := .builtin .clear, args := #[x], argTypes := #[t] }) (h : clearE P E H kn x t = some H2) (hg : On ops o l) (hd : o.dst = none) (hc : ∀ L', SR E w0 R H2 L' → WL P ops Q n F0 w0 rest l (L' ++ X)) : WL P ops Q n F0 w0 (o :: rest) l (L ++ X) := by
  unfold clearE at h
  try simp only [undE_eq, sizeK_eq, zeroK_eq] at h
  split at h
  · rename_i b hx
    split at h
    · rename_i kt es ds hmm hut
      cases h
      obtain ⟨hget, hbase⟩ := mapE_ok hmm
      obtain ⟨g, q, es', c, kb, mm, g1, g2, g3, _⟩ := hS.mapOf hget hbase
      obtain ⟨m', h1, h2⟩ := hK.ev hS.gl hx
      obtain ⟨b', q', g4, rfl⟩ := h2.map_inv
      rw [g1] at g4
      cases g4
      obtain ⟨A, B, hL⟩ := List.append_of_mem g2
      subst hL
      have hSR := hS.put (o' := .map kt [] none) (e' := .obj g (.map #[] c)) ⟨_, hget⟩ hbase rfl g1 rfl trivial ⟨g, q, #[], c, kb, fun _ => none, g1, by simp, ⟨g3.key, IMap.empty _, MapKept.stamped_empty c, rfl, (fun p hp => by cases hp), ⟨fun a _ v hv => (by cases hv), fun _ _ _ => rfl⟩⟩, fun i dn e => by cases e⟩
      rw [List.append_assoc]
      refine WL.clearMap ho h1 ⟨ds, hut⟩ hg hd ?_
      have := hc _ hSR
      rwa [List.append_assoc] at this
    · cases h
  · rename_i a k c hx
    split at h
    · rename_i e cs op hu hk
      split at h
      · rename_i zs s hz hs
        cases hb : (Nat.beq zs.length s && Nat.ble (a.off + k * s) cs.length && zs.all one && Nat.ble E.base a.block && a.spot.isNone)
        · rw [hb] at h; cases h
        · rw [hb] at h
          cases h
          simp only [Bool.and_eq_true] at hb
          obtain ⟨⟨⟨⟨b1, b2⟩, b3⟩, b4⟩, b5⟩ := hb
          have b1' := Nat.eq_of_beq_eq_true b1
          have b2' := Nat.le_of_ble_eq_true b2
          have b4' := Nat.le_of_ble_eq_true b4
          obtain ⟨hz', hzp⟩ := zeroE_ok hz
          obtain ⟨u, h1, h2⟩ := hK.ev hS.gl hx
          obtain ⟨b, q, h3, h4, h5, rfl⟩ := h2.slice_inv (Option.isNone_iff_eq_none.1 b5)
          obtain ⟨A, B, b', q', cs', tl, hL, g1, g2, g3, g4⟩ := hS.split hk b4'
          rw [h4] at g1
          cases g1
          have hll := g2.length
          have hzl : (zrs zs k).length = k * s := by rw [zrs_len, b1']
          have hsp : splice (cs' ++ tl) a.off (zrs zs k) = splice cs' a.off (zrs zs k) ++ tl := splice_left _ _ _ _ (by omega)
          have hSR := hS.put (o' := .row (splice cs a.off (zrs zs k)) op) (e' := .row b (splice cs' a.off (zrs zs k) ++ tl)) ⟨_, hk⟩ b4' hL h4 rfl trivial ⟨b, q, _, tl, h4, VRs.splice _ g2 (VRs.plain (plain_rep hzp k)), by simp, g3, fun s' es => by rw [List.length_append, splice_length _ _ _ (by omega)]; have := g4 s' es; rwa [List.length_append] at this⟩
          haveI : At (L ++ X) b (cs' ++ tl) := ⟨by rw [hL]; simp⟩
          haveI : Put (L ++ X) b (.row b (splice (cs' ++ tl) a.off (zrs zs k))) ((A ++ .row b (splice (cs' ++ tl) a.off (zrs zs k)) :: B) ++ X) := ⟨fun _ => ⟨A, B ++ X, .row b (cs' ++ tl), by rw [hL]; simp, by simp, rfl⟩⟩
          refine WL.clear ho h1 hu hz' b1' b3 (by rw [List.length_append]; omega) hg hd ?_
          rw [hsp]
          exact hc _ hSR
      · cases h
    · cases h
  · cases h
omit hKs in
theorem copy_ok {t ts : Nat} {x y : Operand} {H2 : Hp} (ho : o.op = .call { callee := .builtin .copy, args := #[x, y], argTypes := #[t, ts] }) (h : copyE P E H kn x y t ts = some (v, H2)) (hg : On ops o l) (hd : o.dst = some d) (hdn : Nat.blt d n = true)
    (hc : ∀ R' L' v', Rn.ext H H2 R R' → SR E w0 R' H2 L' → VR R' v v' → WL P ops Q n F0 w0 rest ((d, v') :: l) (L' ++ X)) : WL P ops Q n F0 w0 (o :: rest) l (L ++ X) := by
  unfold copyE at h
  try simp only [undE_eq, sizeK_eq] at h
  split at h
  · rename_i a k c e e' hx hu hut
    split at h
    · rename_i m new cs op hs hnew hk
      cases hb : (Nat.ble E.base a.block && Nat.ble (a.off + min m k) cs.length && a.spot.isNone && Nat.blt 0 (min m k))
      · rw [hb] at h; cases h
      · rw [hb] at h
        cases h
        simp only [Bool.and_eq_true] at hb
        obtain ⟨⟨⟨b1, b2⟩, b3⟩, b4⟩ := hb
        have b1' := Nat.le_of_ble_eq_true b1
        have b2' := Nat.le_of_ble_eq_true b2
        have b4' : 0 < min m k := by simpa using b4
        obtain ⟨u, h1, h2⟩ := hK.ev hS.gl hx
        obtain ⟨b, q, h3, h4, h5, rfl⟩ := h2.slice_inv (Option.isNone_iff_eq_none.1 b3)
        obtain ⟨sa, mc, new', hy, hn', hnl, hno, hsrc⟩ := newCells_ok (X := X) hS hK hnew
        obtain ⟨sb, so, rfl, hsrc2⟩ := hsrc (by omega)
        obtain ⟨A, B, b', q', cs', tl, hL, g1, g2, g3, g4⟩ := hS.split hk b1'
        rw [h4] at g1
        cases g1
        have hll := g2.length
        have hnl' := hn'.length
        have hlen : (new'.take (min m k)).length = min m k := by rw [List.length_take]; omega
        have hsp : splice (cs' ++ tl) a.off (new'.take (min m k)) = splice cs' a.off (new'.take (min m k)) ++ tl := splice_left _ _ _ _ (by omega)
        have hSR := hS.put (o' := .row (splice cs a.off (new.take (min m k))) op) (e' := .row b (splice cs' a.off (new'.take (min m k)) ++ tl)) ⟨_, hk⟩ b1' hL h4 rfl trivial ⟨b, q, _, tl, h4, VRs.splice _ g2 (hn'.take _), by simp, g3, fun s' es => by rw [List.length_append, splice_length _ _ _ (by omega)]; have := g4 s' es; rwa [List.length_append] at this⟩
        haveI : At (L ++ X) b (cs' ++ tl) := ⟨by rw [hL]; simp⟩
        haveI : Put (L ++ X) b (.row b (splice (cs' ++ tl) a.off (new'.take (min m k)))) ((A ++ .row b (splice (cs' ++ tl) a.off (new'.take (min m k))) :: B) ++ X) := ⟨fun _ => ⟨A, B ++ X, .row b (cs' ++ tl), by rw [hL]; simp, by simp, rfl⟩⟩
        refine WL.copyL (new := new'.take (min m k)) ho h1 hy hu hs hlen (fun w hw j u hj => hsrc2 w hw j u (by
          rw [List.getElem?_take] at hj
          split at hj
          · exact hj
          · cases hj)) (List.all_eq_true.2 fun u hu => List.all_eq_true.1 hno u (List.mem_of_mem_take hu)) (by rw [List.length_append]; omega) hg hd hdn ?_
        rw [hsp, hlen]
        exact hc R _ _ (Rn.ext.same rfl) hSR (.plain rfl)
    · cases h
  · cases h
omit hKs in
theorem strBytes_ok {s t : Nat} {x : Operand} {H2 : Hp} (ho : o.op = .convert s t x) (hus : ∃ ds, P.underlying s = some ds) (h : strBytesE P E H kn t x = some (v, H2)) (hg : On ops o l) (hd : o.dst = some d) (hdn : Nat.blt d n = true)
    (hc : ∀ R' L' v', Rn.ext H H2 R R' → SR E w0 R' H2 L' → VR R' v v' → WL P ops Q n F0 w0 rest ((d, v') :: l) (L' ++ X)) : WL P ops Q n F0 w0 (o :: rest) l (L ++ X) := by
  unfold strBytesE at h
  try simp only [undE_eq] at h
  split at h
  · rename_i bs e hx hu
    split at h
    · rename_i he
      cases hb : (Nat.blt H.n hpM && Nat.ble E.base H.n)
      · rw [hb] at h; cases h
      · rw [hb] at h
        cases h
        rw [Bool.and_eq_true] at hb
        have b1 : H.n < hpM := by simpa using hb.1
        have b2 := Nat.le_of_ble_eq_true hb.2
        obtain ⟨u, h1, h2⟩ := hK.ev hS.gl hx
        obtain rfl := h2.same rfl
        obtain ⟨ds, hus⟩ := hus
        refine WL.convSB (m := bs.data.toList.length) (cs0 := bs.data.toList.map bcell) ho h1 rfl rfl hus hu he hg hd hdn fun g c _ hmc => WL.of_st fun w hW => ?_
        have hl : (bs.data.toList.map bcell ++ List.replicate (c - bs.data.toList.length) (Value.int .u8 0)).length = c * 1 := by rw [List.length_append, List.length_map, List.length_replicate]; omega
        obtain ⟨q1, q2⟩ := hS.add (e := .row g (bs.data.toList.map bcell ++ List.replicate (c - bs.data.toList.length) (.int .u8 0))) (q := c) (o := .row (bs.data.toList.map bcell) (some 1)) b1 b2 (new_at hW) ⟨g, c, bs.data.toList.map bcell, List.replicate (c - bs.data.toList.length) (.int .u8 0), Rn.set_self .., VRs.plain (plain_bytes _), List.mem_cons_self .., (fun e => by cases e), fun s' es => by cases es; exact hl⟩
        refine hc _ (.row g _ :: L) _ q1 q2 ?_
        have := VR.slice (R := R.set H.n (g, c)) (o := 0) (n := bs.data.toList.length) (c := openCap) (Rn.set_self R H.n (g, c)) (by rw [openCap_cap]; exact hmc)
        rwa [openCap_cap] at this
    · cases h
  · cases h
end
end Go.Proofs.YtmhahajadgkolaaGreatDoor
/- append of zeros that the append itself makes; cap of a slice. -/
namespace Go.Proofs.YtmhahajadgkolaaGreatDoor
open Go.RowKit

theorem append_made {P : Program} {p : Nat → Prop} {w0 : World} {t tx e s by_ m : Nat} {kk : IntKind} {zs : List Value} {L0 : List Ent} {w : World} {ty : TypeId}
    (hu : P.underlying t = some (.slice e)) (hux : P.underlying tx = some (.int kk)) (hs : (P.info? e).map (·.size) = some s) (hb : (P.info? e).map (·.bytes) = some by_) (hz : Zero P e zs) (hzl : zs.length = s) (hs1 : 0 < s)
    (_ : 0 < by_) (hm : 0 < m) (hm2 : m ≤ 1000000) (hby2 : by_ ≤ 1000) (hS : St p w0 w L0) :
    ∃ g c' cs w', (Builtin.append_ #[t, tx] ty #[.slice none 0 0, .int .i64 m]).run P w = .ok (.slice (some ⟨g, 0, none⟩) m c') w' ∧ m ≤ c' ∧ cs.length = c' * s ∧ St p w0 w' (.row g cs :: L0) := by
  have hq : ∃ i, P.info? e = some i ∧ i.bytes = by_ := by
    cases hq : P.info? e with
    | none => simp [hq] at hb
    | some i => exact ⟨i, rfl, by simpa [hq] using hb⟩
  obtain ⟨ti, hi, hib⟩ := hq
  have hask : ∀ (k : Nat) (w : World), (askRoom k).run P w = .ok () w := fun k w => by
    unfold askRoom
    by_cases h : k > roomBytes
    · rw [if_pos h]; rfl
    · rw [if_neg h]; rfl
  have hcapE : Builtin.nextslicecap m 0 = m := by unfold Builtin.nextslicecap; rw [if_pos (by omega)]
  have hmb : m * by_ ≤ 1000000 * 1000 := Nat.mul_le_mul hm2 hby2
  have hcap : ¬ (m * by_ > 2 ^ 48) := by omega
  obtain ⟨z, hz, hzs⟩ := hz
  have hzc : z.cells = zs.toArray := by rw [← hzs]
  have hd := hS.drew
  let nc := (Question.appendCap m 0 e).cut (w.tape w.drawn (.appendCap m 0 e))
  have hnc : m ≤ nc := by show m ≤ m + _; omega
  let A := Builtin.zeroCells zs.toArray m
  let B := Builtin.zeroCells zs.toArray (nc - m)
  have hAl : A.size = m * s := by show (Builtin.zeroCells zs.toArray m).size = _; simp [Builtin.zeroCells, hzl]
  have hBl : B.size = (nc - m) * s := by show (Builtin.zeroCells zs.toArray (nc - m)).size = _; simp [Builtin.zeroCells, hzl]
  have hnew : St p w0 (w.drew.alloc (.cells (A ++ B) e)) (.row w.drew.heap.size (A ++ B).toList :: L0) := St.new hd
  refine ⟨w.drew.heap.size, nc, (A ++ B).toList, _, ?_, hnc, ?_, hnew⟩
  · have hcut : (choose (.appendCap m 0 e)).run P w = .ok nc w.drew := rfl
    have hw : IntKind.i64.wrap (m : Int) = (m : Int) := w_i64 (by omega) (by omega)
    have hb0 : ¬ ((m : Int) * (by_ : Int) > 2 ^ 48) := by rw [← Int.natCast_mul]; omega
    have hms : ¬ (m * s = 0) := by have := Nat.mul_pos hm hs1; omega
    have hpos : ¬ ((m : Int) < 0) := by omega
    have hroom : ¬ (m ≤ 0) := by omega
    have hmax : ¬ ((m : Int) > IntKind.i64.max) := by show ¬ ((m : Int) > 9223372036854775807); omega
    have hasI : (asIntOf (Value.int .i64 (m : Int))).run P w = .ok (.i64, (m : Int)) w := rfl
    simp only [Builtin.append_, List.getElem?_toArray, List.getElem?_cons_zero, List.getElem?_cons_succ, Sem.run_bind, run_underlying hu, run_underlying hux, Result.andThen_ok, run_sizeOf hs, Sem.run_pure, if_true, asInt, hasI, hw, hpos, if_false]
    simp only [typeInfo, program, Sem.run, hi, Sem.run_bind, Result.andThen_ok, hib, hb0, if_false, Sem.run_pure, Int.toNat_natCast, Nat.zero_add, hroom, hmax, false_and, hcapE, hcap, hcut, hask, hms, Bool.not_true, Bool.false_eq_true, run_zeroValue hz, hzc, newRow, newObj]
    have hfc : (Builtin.firstCells s 0 (Value.slice none 0 0)).run P w.drew = .ok #[] w.drew := rfl
    rw [hfc]
    simp only [Result.andThen_ok, Array.empty_append]
    rfl
  · rw [Array.length_toList, Array.size_append, hAl, hBl, ← Nat.add_mul]; congr 1; omega
section
variable {P : Program} {ops : Array Oper} {Q : Exit → Act → World → Prop} {n : Nat} {p : Nat → Prop} {w0 : World} {o : Oper} {rest : List Oper} {l : Kn} {L : List Ent}
/-- append(x, make(.., m)...) where x is nil. -/
theorem WL.appendZ {t tx e s by_ d m : Nat} {kk : IntKind} {zs : List Value} {x y : Operand} (ho : o.op = .call { callee := .builtin .append, args := #[x, y], argTypes := #[t, tx] }) (hx : ev l x = some (.slice none 0 0)) (hy : ev l y = some (.int .i64 m))
    (hu : P.underlying t = some (.slice e)) (hux : P.underlying tx = some (.int kk)) (hs : (P.info? e).map (·.size) = some s) (hb : (P.info? e).map (·.bytes) = some by_) (hz : Zero P e zs) (hzl : zs.length = s) (hs1 : Nat.blt 0 s = true) (hby : Nat.blt 0 by_ = true) (hm : 0 < m) (hm2 : m ≤ 1000000) (hby2 : Nat.ble by_ 1000 = true)
    (hg : On ops o l) (hd : o.dst = some d) (hn : Nat.blt d n = true)
    (h : ∀ g c' cs, m ≤ c' → cs.length = c' * s → WL P ops Q n p w0 rest ((d, .slice (some ⟨g, 0, none⟩) m c') :: l) (.row g cs :: L)) : WL P ops Q n p w0 (o :: rest) l L := by
  refine WL.op hg hd hn fun a w ha hS => ?_
  have hxy : evs l [x, y] = some [.slice none 0 0, .int .i64 m] := by simp [evs, hx, hy]
  obtain ⟨cc, hr⟩ := run_builtin (P := P) (w := w) (xs := [x, y]) ho hxy ha
  obtain ⟨g, c', cs, w', h1, h2, h3, h4⟩ := append_made (P := P) (ty := o.type) hu hux hs hb hz hzl (by simpa using hs1) (by simpa using hby) hm hm2 (by simpa using hby2) hS
  refine ⟨_, w', .row g cs :: L, ?_, h4, h g c' cs h2 h3⟩
  rw [hr]
  simp [builtin, h1]
end
end Go.Proofs.YtmhahajadgkolaaGreatDoor
/- The evaluator: iterators; calls; each operation. -/
namespace Go.Proofs.YtmhahajadgkolaaGreatDoor
open Go.RowKit

section
variable {P : Program} {ops : Array Oper} {Q : Exit → Act → World → Prop} {n d : Nat} {E : Ev} {w0 : World} {R : Rn} {H : Hp} {L X : List Ent} {kn : Lk} {l : Kn} {o : Oper} {rest : List Oper} {v : Value}
variable (hS : SR E w0 R H L) (hK : KR R kn l)
include hS hK
theorem range_ok {t : Nat} {x : Operand} {H2 : Hp} (ho : o.op = .range t x) (h : rangeE P E H kn t x = some (v, H2)) (hg : On ops o l) (hd : o.dst = some d) (hdn : Nat.blt d n = true)
    (hc : ∀ R' L' v', Rn.ext H H2 R R' → SR E w0 R' H2 L' → VR R' v v' → WL P ops Q n F0 w0 rest ((d, v') :: l) (L' ++ X)) : WL P ops Q n F0 w0 (o :: rest) l (L ++ X) := by
  unfold rangeE at h
  try simp only [undE_eq] at h
  split at h
  · rename_i kt et hx hu
    cases hb : (Nat.blt H.n hpM && Nat.ble E.base H.n)
    · rw [hb] at h; cases h
    · rw [hb] at h
      cases h
      rw [Bool.and_eq_true] at hb
      have b1 : H.n < hpM := by simpa using hb.1
      obtain ⟨u, h1, h2⟩ := hK.ev hS.gl hx
      obtain rfl := h2.mnil_inv
      refine WL.rangeNil ho h1 hu hg hd hdn fun r _ => WL.of_st fun w hW => ?_
      obtain ⟨q1, q2⟩ := hS.add (e := .obj r (.mapIter none 0 #[] 0)) (q := 0) (o := .iter none) b1 (Nat.le_of_ble_eq_true hb.2) (new_at hW) ⟨r, 0, _, Rn.set_self .., List.mem_cons_self .., trivial, fun _ => rfl⟩
      exact hc _ (.obj r (.mapIter none 0 #[] 0) :: L) _ q1 q2 (.ptr (Rn.set_self ..))
  · rename_i b kt et hx hu
    split at h
    · rename_i kt' es hmm
      cases hb : (Nat.ble es.length 1 && Nat.blt H.n hpM && Nat.ble E.base H.n)
      · rw [hb] at h; cases h
      · rw [hb] at h
        cases h
        simp only [Bool.and_eq_true] at hb
        obtain ⟨⟨b0, b1⟩, b2⟩ := hb
        have b1' : H.n < hpM := by simpa using b1
        obtain ⟨hget, hbase⟩ := mapE_ok hmm
        obtain ⟨g, q, es', c, kb, mm, g1, g2, g3, _⟩ := hS.mapOf hget hbase
        obtain ⟨u, h1, h2⟩ := hK.ev hS.gl hx
        obtain ⟨b', q', g4, rfl⟩ := h2.map_inv
        rw [g1] at g4
        cases g4
        refine WL.range ho h1 hu (List.mem_append_left _ g2) hg hd hdn fun r _ => WL.of_st fun w hW => ?_
        obtain ⟨q1, q2⟩ := hS.add (e := .obj r (.mapIter (some g) c #[] c)) (q := 0) (o := .iter (some b)) b1' (Nat.le_of_ble_eq_true b2) (new_at hW) ⟨r, 0, _, Rn.set_self .., List.mem_cons_self .., trivial, fun e => by cases e⟩
        have hnb : b ≠ H.n := fun e => by
          have := hS.new H.n (Nat.le_refl _)
          rw [← e, g1] at this; cases this
        have hget2 : (H.new (.iter (some b))).get b = some (.map kt' es none) := by rw [Hp.get_new_ne b1' hnb]; exact hget
        obtain ⟨A, B, hL⟩ := List.append_of_mem (List.mem_cons_of_mem (.obj r (.mapIter (some g) c #[] c)) g2)
        have q3 := q2.put (o' := .map kt' es (some (H.n, false))) (e' := .obj g (.map es' c)) ⟨_, hget2⟩ hbase hL (q1.le _ _ g1) rfl trivial ⟨g, q, es', c, kb, mm, q1.le _ _ g1, by simp, g3.mono q1.le, fun i dn e => by
          cases e
          exact ⟨r, 0, #[], Rn.set_self .., by rw [← hL]; exact List.mem_cons_self .., Nat.le_of_ble_eq_true b0, fun _ => rfl, fun e => by cases e⟩⟩
        rw [← hL] at q3
        exact hc _ (.obj r (.mapIter (some g) c #[] c) :: L) _ q1 q3 (.ptr (Rn.set_self ..))
    · cases h
  · cases h
/-- The flag of a map's iterator turns, and the iterator's block. -/
theorem SR.flag {b i kt : Nat} {es : List (Value × Value)} {dn : Bool} (hget : H.get b = some (.map kt es (some (i, dn)))) (hgi : H.get i = some (.iter (some b))) (hb : E.base ≤ b) (hi : E.base ≤ i) {g q bi qi c : Nat} {es' : Array MapEntry} {seen seen' : Array Nat} {kb : Value → Bool} {mm : Value → Option Value} {it : Option (Nat × Bool)}
    (g1 : R b = some (g, q)) (g2 : Ent.obj g (.map es' c) ∈ L) (g3 : MapR E R kt es es' c kb mm) (g5 : R i = some (bi, qi)) {A B : List Ent} (hL : L = A ++ .obj bi (.mapIter (some g) c seen c) :: B)
    (hit : ∀ j dn', it = some (j, dn') → j = i ∧ es.length ≤ 1 ∧ (dn' = false → seen' = #[]) ∧ (dn' = true → ∃ e ∈ es'.toList, seen' = #[].push e.born)) : SR E w0 R (H.put b (some (.map kt es it))) (A ++ .obj bi (.mapIter (some g) c seen' c) :: B) := by
  have _ := hK
  have hlt := Hp.get_lt hget
  have hbi : b ≠ i := fun e => by rw [e, hgi] at hget; cases hget
  have key : ∀ d, d ∈ L → d ≠ .obj bi (.mapIter (some g) c seen c) → d ∈ A ++ .obj bi (.mapIter (some g) c seen' c) :: B := fun d hd hde => by
    rw [hL] at hd
    rcases List.mem_append.1 hd with hd | hd
    · exact List.mem_append_left _ hd
    · rcases List.mem_cons.1 hd with hd | hd
      · exact absurd hd hde
      · exact List.mem_append_right _ (List.mem_cons_of_mem _ hd)
  have back : ∀ i', (∃ u, (H.put b (some (.map kt es it))).get i' = some u) → ∃ u, H.get i' = some u := fun i' ⟨u, hu⟩ => by
    by_cases ei : i' = b
    · subst ei; exact ⟨_, hget⟩
    · rw [Hp.get_put_ne hlt ei] at hu; exact ⟨u, hu⟩
  refine ⟨hS.lim, hS.new, hS.gl, fun j u hj hbj => ?_, fun i' j b' q' r hi' hj hbi' hbj h1 h2 => hS.inj i' j b' q' r (back i' hi') (back j hj) hbi' hbj h1 h2, fun j u hj hbj => ?_⟩
  · by_cases ej : j = b
    · subst ej
      rw [Hp.get_put hlt] at hj
      cases hj
      refine ⟨g, q, es', c, kb, mm, g1, key _ g2 (fun e => by cases e), g3, fun j' dn' e => ?_⟩
      obtain ⟨rfl, e1, e2, e3⟩ := hit j' dn' e
      exact ⟨bi, qi, seen', g5, by simp, e1, e2, e3⟩
    · rw [Hp.get_put_ne hlt ej] at hj
      have hE := hS.own j u hj hbj
      by_cases ei : j = i
      · subst ei
        rw [hgi] at hj
        cases hj
        exact ⟨bi, qi, .mapIter (some g) c seen' c, g5, by simp, trivial, fun e => by cases e⟩
      · have ne : ∀ c' r', R j = some (c', r') → c' ≠ bi := fun c' r' hc' e => ei (hS.inj j i c' r' qi ⟨_, hj⟩ ⟨_, hgi⟩ hbj hi hc' (by rw [e]; exact g5))
        cases u with
        | row cs op => obtain ⟨b2, q2, cs', t, m1, m2, m3, m4⟩ := hE; exact ⟨b2, q2, cs', t, m1, m2, key _ m3 (fun e => by cases e), m4⟩
        | map kt2 es2 it2 =>
          obtain ⟨b2, q2, es2', c2, kb2, m2, k1, k2, k3, k4⟩ := hE
          refine ⟨b2, q2, es2', c2, kb2, m2, k1, key _ k2 (fun e => by cases e), k3, fun j' dn' e => ?_⟩
          obtain ⟨bi2, qi2, seen2, m1, m2', m3⟩ := k4 j' dn' e
          refine ⟨bi2, qi2, seen2, m1, key _ m2' (fun e2 => ?_), m3⟩
          have e3 : b2 = g := by injection e2 with _ e3; injection e3 with e3; injection e3
          exact ej (hS.inj j b b2 q2 q ⟨_, hj⟩ ⟨_, hget⟩ hbj hb k1 (by rw [e3]; exact g1))
        | iter m2 =>
          obtain ⟨b2, q2, ob, m1, m2', m3⟩ := hE
          exact ⟨b2, q2, ob, m1, key _ m2' (fun e => ne b2 q2 m1 (by injection e)), m3⟩
  · rw [Hp.get_put_ne hlt (by omega)] at hj
    exact hS.old j u hj hbj
theorem next_ok (hKs : KeysOk P E) {x : Operand} {H2 : Hp} (ho : o.op = .next x false) (h : nextE E H kn x = some (v, H2)) (hg : On ops o l) (hd : o.dst = some d) (hdn : Nat.blt d n = true)
    (hc : ∀ R' L' v', Rn.ext H H2 R R' → SR E w0 R' H2 L' → VR R' v v' → WL P ops Q n F0 w0 rest ((d, v') :: l) (L' ++ X)) : WL P ops Q n F0 w0 (o :: rest) l (L ++ X) := by
  unfold nextE at h
  split at h
  · rename_i a hx
    obtain ⟨u, h1, h2⟩ := hK.ev hS.gl hx
    obtain ⟨bb, qq, h3, h4, rfl⟩ := h2.ptr_inv
    split at h
    · rename_i hi
      cases hb : (Nat.beq a.off 0 && Nat.ble E.base a.block)
      · rw [hb] at h; cases h
      · rw [hb] at h
        cases h
        rw [Bool.and_eq_true] at hb
        obtain ⟨b1, q1, ob, m1, m2, _, m3⟩ := hS.own _ _ hi (Nat.le_of_ble_eq_true hb.2)
        rw [h4] at m1
        cases m1
        obtain rfl := m3 rfl
        rw [Nat.eq_of_beq_eq_true hb.1] at h1
        exact WL.nextNil ho h1 (List.mem_append_left _ m2) hg hd hdn (hc R L _ (Rn.ext.same rfl) hS (.plain rfl))
    · rename_i b hi
      split at h
      · rename_i kt es i dn hm
        cases hb : (Nat.beq i a.block && Nat.beq a.off 0 && Nat.ble E.base a.block && Nat.ble E.base b)
        · rw [hb] at h; cases h
        · rw [hb] at h
          dsimp only [cond_true] at h
          simp only [Bool.and_eq_true] at hb
          obtain ⟨⟨⟨b1, b2⟩, b3⟩, b4⟩ := hb
          have b1' := Nat.eq_of_beq_eq_true b1
          subst b1'
          rw [Nat.eq_of_beq_eq_true b2] at h1
          have hbase := Nat.le_of_ble_eq_true b4
          obtain ⟨g, q, es', c, kb, mm, g1, g2, g3, g4⟩ := hS.mapOf hm hbase
          obtain ⟨bi, qi, seen, g5, g6, g7, g8, g9⟩ := g4 _ dn rfl
          rw [h4] at g5
          cases g5
          obtain ⟨A, B, hL⟩ := List.append_of_mem g6
          haveI : Loc (L ++ X) bb (.obj bb (.mapIter (some g) c seen c)) (fun y => A ++ y :: (B ++ X)) := ⟨⟨A, B ++ X, by rw [hL]; simp, rfl⟩⟩
          have flag := fun (it : Option (Nat × Bool)) (seen' : Array Nat) hit => SR.flag (it := it) (seen' := seen') hS hK hm hi hbase (Nat.le_of_ble_eq_true b3) g1 g2 g3 h4 hL hit
          refine WL.next (F := fun y => A ++ y :: (B ++ X)) ho h1 (List.mem_append_left _ g2) g3.st hg hd hdn (fun hall => ?_) (fun e he hne => ?_)
          ·
            have hov : v = .tuple #[.bool false] ∧ H2 = H.put b (some (.map kt es none)) := by
              split at h
              · rename_i ka u2
                exfalso
                obtain rfl := g8 rfl
                have hsz := g3.size
                cases hes : es'.toList with
                | nil => have := congrArg List.length hes; simp at this; simp [this] at hsz
                | cons e r => exact absurd (hall e (by rw [hes]; exact List.mem_cons_self ..)) (by simp)
              · cases h; exact ⟨rfl, rfl⟩
            obtain ⟨rfl, rfl⟩ := hov
            have hSR := flag none seen (fun j dn' e => by cases e)
            rw [← hL] at hSR
            exact hc R L _ (Rn.ext.same rfl) hSR (.plain rfl)
          · have hnx : ∃ ka u2, es = [(ka, u2)] ∧ v = .tuple #[.bool true, ka, u2] ∧ H2 = H.put b (some (.map kt es (some (a.block, true)))) ∧ seen = #[] := by
              split at h
              · rename_i ka u2
                cases h
                exact ⟨ka, u2, rfl, rfl, rfl, g8 rfl⟩
              · rename_i hno
                exfalso
                obtain ⟨ka, u2, e1, _⟩ := g3.ents hKs e he g7
                cases dn with
                | false => exact hno ka u2 e1 rfl
                | true =>
                  obtain ⟨e2, he2, rfl⟩ := g9 rfl
                  have h1' : es'.toList.length = 1 := by rw [e1] at g3; simpa using g3.size
                  obtain ⟨y, hy⟩ := List.length_eq_one_iff.1 h1'
                  rw [hy] at he he2
                  obtain rfl := List.mem_singleton.1 he
                  obtain rfl := List.mem_singleton.1 he2
                  exact hne (by simp)
            obtain ⟨ka, u2, e1, rfl, rfl, rfl⟩ := hnx
            obtain ⟨ka', u3, e2, e3, e4⟩ := g3.ents hKs e he g7
            rw [e1] at e2
            cases e2
            have hSR := flag (some (a.block, true)) (#[].push e.born) (fun j dn' ee => by cases ee; exact ⟨rfl, g7, (fun h => by cases h), fun _ => ⟨e, he, rfl⟩⟩)
            have hpk : plainB ka = true := hKs.plain kt kb ka g3.key (g3.kbs (ka, u2) (by rw [e1]; exact List.mem_cons_self ..))
            have hv2 : VR R (.tuple #[.bool true, ka, u2]) (.tuple #[.bool true, e.key, e.val]) := by
              rw [e3]
              exact VR.tuple (cs := [.bool true, ka, u2]) (cs' := [.bool true, ka, e.val]) (.cons (.plain rfl) (.cons (.plain hpk) (.cons e4 .nil)))
            have := hc R _ _ (Rn.ext.same rfl) hSR hv2
            rwa [List.append_assoc] at this
      · cases h
    · cases h
  · cases h
theorem app0_ok {t tx : Nat} {x y : Operand} {H2 : Hp} (ho : o.op = .call { callee := .builtin .append, args := #[x, y], argTypes := #[t, tx] }) (h : app0E P E H kn t tx x y = some (v, H2)) (hg : On ops o l) (hd : o.dst = some d) (hdn : Nat.blt d n = true)
    (hc : ∀ R' L' v', Rn.ext H H2 R R' → SR E w0 R' H2 L' → VR R' v v' → WL P ops Q n F0 w0 rest ((d, v') :: l) (L' ++ X)) : WL P ops Q n F0 w0 (o :: rest) l (L ++ X) := by
  unfold app0E at h
  try simp only [undE_eq, infoE_eq, sizeK_eq] at h
  split at h
  · rename_i a k c sa mc e e' hx hy hu hux
    split at h
    · rename_i s by_ hs hby
      obtain ⟨u, h1, h2⟩ := hK.ev hS.gl hx
      obtain ⟨u2, h3, h4⟩ := hK.ev hS.gl hy
      obtain ⟨sa', mc', rfl, _⟩ := h4.slice_len
      split at h
      · cases hb : (Nat.beq k 0 && Nat.beq c 0)
        · rw [hb] at h; cases h
        · rw [hb] at h
          cases h
          rw [Bool.and_eq_true] at hb
          obtain rfl := Nat.eq_of_beq_eq_true hb.1
          obtain rfl := h2.snil_inv
          exact WL.append0 ho h1 h3 hu hux hs hby (Nat.zero_le _) hg hd hdn (hc R L _ (Rn.ext.same rfl) hS h2)
      · rename_i a
        cases hb : a.spot.isNone
        · rw [hb] at h; cases h
        · rw [hb] at h
          cases h
          obtain ⟨b, q, g1, g2, g3, rfl⟩ := h2.slice_inv (Option.isNone_iff_eq_none.1 hb)
          exact WL.append0 ho h1 h3 hu hux hs hby g3 hg hd hdn (hc R L _ (Rn.ext.same rfl) hS h2)
    · cases h
  · cases h
theorem appZ_ok {t tx : Nat} {x y : Operand} {H2 : Hp} (ho : o.op = .call { callee := .builtin .append, args := #[x, y], argTypes := #[t, tx] }) (h : appZE P E H kn t tx x y = some (v, H2)) (hg : On ops o l) (hd : o.dst = some d) (hdn : Nat.blt d n = true)
    (hc : ∀ R' L' v', Rn.ext H H2 R R' → SR E w0 R' H2 L' → VR R' v v' → WL P ops Q n F0 w0 rest ((d, v') :: l) (L' ++ X)) : WL P ops Q n F0 w0 (o :: rest) l (L ++ X) := by
  unfold appZE at h
  try simp only [undE_eq, infoE_eq, sizeK_eq, zeroK_eq] at h
  split at h
  · rename_i e kk m hu hux hx hy
    split at h
    · rename_i s zs by_ hs hz hby
      cases hb : (Nat.beq zs.length s && Nat.blt 0 s && Nat.blt 0 by_ && Nat.ble (m + 1) 1000000 && Nat.ble by_ 1000 && Nat.blt H.n hpM && Nat.ble E.base H.n)
      · rw [hb] at h; cases h
      · rw [hb] at h
        cases h
        simp only [Bool.and_eq_true] at hb
        obtain ⟨⟨⟨⟨⟨⟨b1, b2⟩, b3⟩, b4⟩, b5⟩, b6⟩, b7⟩ := hb
        have b6' : H.n < hpM := by simpa using b6
        obtain ⟨hz', hzp⟩ := zeroE_ok hz
        obtain ⟨u, h1, h2⟩ := hK.ev hS.gl hx
        obtain rfl := h2.snil_inv
        obtain ⟨u2, h3, h4⟩ := hK.ev hS.gl hy
        obtain rfl := h4.int_inv
        refine WL.appendZ (m := m + 1) ho h1 h3 hu hux hs hby hz' (Nat.eq_of_beq_eq_true b1) b2 b3 (Nat.succ_pos _) (Nat.le_of_ble_eq_true b4) b5 hg hd hdn fun g c' cs hmc hcl => WL.of_st fun w hW => ?_
        obtain ⟨q1, q2⟩ := hS.add (e := .row g cs) (q := c') (o := .row [] (some s)) b6' (Nat.le_of_ble_eq_true b7) (new_at hW) ⟨g, c', [], cs, Rn.set_self .., .nil, List.mem_cons_self .., (fun e => by cases e), fun s' es => by cases es; exact hcl⟩
        refine hc _ (.row g cs :: L) _ q1 q2 ?_
        have := VR.slice (R := R.set H.n (g, c')) (o := 0) (n := m + 1) (c := openCap) (Rn.set_self R H.n (g, c')) (by rw [openCap_cap]; exact hmc)
        rwa [openCap_cap] at this
    · cases h
  · cases h
end
end Go.Proofs.YtmhahajadgkolaaGreatDoor
/- The engine: a scope (a body with labels) through which the run goes without a goto. -/
namespace Go.Proofs.YtmhahajadgkolaaGreatDoor
open Go.RowKit

section
variable {P : Program} {Q : Exit → Act → World → Prop} {n : Nat} {p : Nat → Prop} {w0 : World} {l : Kn} {L : List Ent}
theorem WC.scope {c : Code} (h : WC P c (Exit.noGoto Q) n p w0 l L) : WC P (.scope c) Q n p w0 l L := fun a w ha hS => wp_scope_straight (h a w ha hS)
theorem WE.scope_n (h : WE Q .normal n p w0 l L) : WE (Exit.noGoto Q) .normal n p w0 l L := h
theorem WE.scope_ret (h : WE Q .ret n p w0 l L) : WE (Exit.noGoto Q) .ret n p w0 l L := h
theorem WE.scope_exit {i : Nat} (h : WE Q (.exit i) n p w0 l L) : WE (Exit.noGoto Q) (.exit i) n p w0 l L := h
end
end Go.Proofs.YtmhahajadgkolaaGreatDoor
/- The evaluator: each operation; a region's operations in their order. -/
namespace Go.Proofs.YtmhahajadgkolaaGreatDoor
open Go.RowKit

def Xt.ex : Xt → Exit
  | .normal => .normal
  | .ret => .ret
  | .exit id => .exit id
/-- What a call does. -/
def CallsOk (P : Program) (E : Ev) (w0 : World) (f : FuncId) (vs : List Value) (H : Hp) (v : Value) (H' : Hp) : Prop :=
  ∀ R L X w vs', SR E w0 R H L → VRs R vs vs' → St F0 w0 w (L ++ X) → Calls P f vs'.toArray w fun e w' => ∃ R' L' v', e = .returned v' ∧ Rn.ext H H' R R' ∧ SR E w0 R' H' L' ∧ VR R' v v' ∧ St F0 w0 w' (L' ++ X)
/-- What a loop does. -/
def LoopOk (P : Program) (E : Ev) (w0 : World) (n : Nat) (c : Code) (kn : Kn) (H : Hp) (x : Xt) (kn' : Kn) (H' : Hp) : Prop :=
  ∃ k, ∀ R l L X Q, SR E w0 R H L → KR R (look kn) l → (∀ R' l' L', Rn.ext H H' R R' → SR E w0 R' H' L' → KR R' (look kn') l' → WE Q x.ex n F0 w0 l' (L' ++ X)) → ∀ a w, Has n a l → St F0 w0 w (L ++ X) → Code.rounds P c Q k a w
structure RecOk (P : Program) (E : Ev) (w0 : World) (rec : Job → Er Res) : Prop where
  call : ∀ f vs H v H', rec (.call f vs H) = .ok (.val v H') → callOk P f ∧ CallsOk P E w0 f vs H v H'
  loop : ∀ n c kn H x kn' H', rec (.loop n c kn H) = .ok (.at_ x kn' H') → LoopOk P E w0 n c kn H x kn' H'
section
variable {P : Program} {ops : Array Oper} {Q : Exit → Act → World → Prop} {n : Nat} {E : Ev} {w0 : World} {R : Rn} {H : Hp} {L X : List Ent} {kn : Lk} {l : Kn} {o : Oper} {rest : List Oper} {v : Value} {rec : Job → Er Res}
theorem unit_inv {H2 : Option Hp} {H' : Hp} (h : unitE o H2 = .ok (v, H')) : o.dst = none ∧ v = undef ∧ H2 = some H' := by
  unfold unitE at h
  split at h
  · rename_i hd; cases h; exact ⟨hd, rfl, rfl⟩
  · cases h
theorem dst_inv {r : Option (Value × Hp)} {x : Value × Hp} (h : dstE o r = .ok x) : (∃ d, o.dst = some d) ∧ r = some x := by
  unfold dstE at h
  split at h
  · rename_i d _ hd; cases h; exact ⟨⟨d, hd⟩, rfl⟩
  · cases h
theorem cond_some {b : Bool} {a H2 : Hp} (h : cond b (some a) none = some H2) : a = H2 := by
  cases b
  · cases h
  · cases h; rfl
theorem storeE_n {t : TypeId} {x y : Operand} {H2 : Hp} (h : storeE P E H kn t x y = some H2) : H.n = H2.n := by
  unfold storeE at h
  repeat' split at h
  all_goals first | (cases h; done) | (have := cond_some h; subst this; rfl) | (cases h; rfl)
theorem setE_n {t : TypeId} {m k v : Operand} {H2 : Hp} (h : setE P E H kn t m k v = some H2) : H.n = H2.n := by
  unfold setE at h
  repeat' split at h
  all_goals first | (cases h; done) | (have := cond_some h; subst this; rfl) | (cases h; rfl)
theorem clearE_n {t : TypeId} {x : Operand} {H2 : Hp} (h : clearE P E H kn x t = some H2) : H.n = H2.n := by
  unfold clearE at h
  repeat' split at h
  all_goals first | (cases h; done) | (have := cond_some h; subst this; rfl) | (cases h; rfl)
theorem act_ok (hKs : KeysOk P E) (hrec : RecOk P E w0 rec) (hS : SR E w0 R H L) (hK : KR R kn l) {H2 : Hp} (h : actE P E rec H kn o = .ok (v, H2)) (hg : On ops o l) (hdn : ∀ d, o.dst = some d → Nat.blt d n = true)
    (hc : Kont P E ops Q n w0 rest l X o R v H H2) : WL P ops Q n F0 w0 (o :: rest) l (L ++ X) := by
  unfold actE at h
  try simp only [undE_eq] at h
  split at h
  · rename_i t x y ho
    obtain ⟨hd, rfl, hs⟩ := unit_inv h
    exact store_ok hS hK ho hs hg hd (hc.none (storeE_n hs) hd)
  · rename_i t m k x ho
    obtain ⟨hd, rfl, hs⟩ := unit_inv h
    exact set_ok hKs hS hK (.inl ho) hs hg hd (hc.none (setE_n hs) hd)
  · rename_i t m k x ho
    obtain ⟨hd, rfl, hs⟩ := unit_inv h
    exact set_ok hKs hS hK (.inr ho) hs hg hd (hc.none (setE_n hs) hd)
  · rename_i x args ts ho
    split at h
    · rename_i d f fi ca vs hd hx hvs
      have hr : ∃ v2 H3, rec (.call f (fi.toList ++ vs ++ ca.toList) H) = .ok (.val v2 H3) ∧ v = v2 ∧ H2 = H3 := by
        unfold valR at h
        split at h
        · rename_i v2 H3 hr; cases h; exact ⟨_, _, hr, rfl, rfl⟩
        · cases h
        · cases h
      obtain ⟨v2, H3, hr, rfl, rfl⟩ := hr
      obtain ⟨hok, hcall⟩ := hrec.call _ _ _ _ _ hr
      obtain ⟨u, h1, h2⟩ := hK.ev hS.gl hx
      obtain ⟨fi', ca', rfl, h3, h4⟩ := h2.func_inv
      obtain ⟨vs', h5, h6⟩ := hK.evs hS.gl hvs
      have ho' : o.op = .call { callee := .value x, args := args.toList.toArray, argTypes := ts } := by rw [ho]
      refine WL.callV ho' h1 h5 hok hg hd (hdn d hd) fun w hW => ?_
      have ha : fi'.toArray ++ vs'.toArray ++ ca'.toArray = (fi' ++ vs' ++ ca').toArray := by simp
      rw [ha]
      refine (hcall R L X w (fi' ++ vs' ++ ca') hS ((h3.app h6).app h4) hW).mono ?_
      rintro e w' ⟨R', L', v', rfl, q1, q2, q3, q4⟩
      exact ⟨v', L' ++ X, rfl, q4, hc.some hd R' L' v' q1 q2 q3⟩
    · cases h
  · rename_i args ts ho
    obtain ⟨⟨d, hd⟩, hs⟩ := dst_inv h
    split at hs
    · rename_i x y t tx ha ht
      have ho' : o.op = .call { callee := .builtin .append, args := #[x, y], argTypes := #[t, tx] } := by
        rw [ho, show args = #[x, y] from Array.toList_inj.1 ha, show ts = #[t, tx] from Array.toList_inj.1 ht]
      split at hs
      · rename_i r h0; cases hs; exact app0_ok hS hK ho' h0 hg hd (hdn d hd) (hc.some hd)
      · split at hs
        · rename_i r h0; cases hs; exact app_ok hS hK ho' h0 hg hd (hdn d hd) (hc.some hd)
        · exact appZ_ok hS hK ho' hs hg hd (hdn d hd) (hc.some hd)
    · cases hs
  · rename_i args ts ho
    obtain ⟨hd, rfl, hs⟩ := unit_inv h
    split at hs
    · rename_i x t ha ht
      have ho' : o.op = .call { callee := .builtin .clear, args := #[x], argTypes := #[t] } := by
        rw [ho, show args = #[x] from Array.toList_inj.1 ha, show ts = #[t] from Array.toList_inj.1 ht]
      exact clear_ok hS hK ho' hs hg hd (hc.none (clearE_n hs) hd)
    · cases hs
  · rename_i args ts ho
    obtain ⟨⟨d, hd⟩, hs⟩ := dst_inv h
    split at hs
    · rename_i x y t tx ha ht
      have ho' : o.op = .call { callee := .builtin .copy, args := #[x, y], argTypes := #[t, tx] } := by
        rw [ho, show args = #[x, y] from Array.toList_inj.1 ha, show ts = #[t, tx] from Array.toList_inj.1 ht]
      exact copy_ok hS hK ho' hs hg hd (hdn d hd) (hc.some hd)
    · cases hs
  · rename_i s d0 x ho
    obtain ⟨⟨d, hd⟩, hs⟩ := dst_inv h
    split at hs
    · rename_i ds hus; exact strBytes_ok hS hK ho ⟨ds, hus⟩ hs hg hd (hdn d hd) (hc.some hd)
    · cases hs
  · rename_i t x ho
    obtain ⟨⟨d, hd⟩, hs⟩ := dst_inv h
    exact range_ok hS hK ho hs hg hd (hdn d hd) (hc.some hd)
  · rename_i x ho
    obtain ⟨⟨d, hd⟩, hs⟩ := dst_inv h
    exact next_ok hS hK hKs ho hs hg hd (hdn d hd) (hc.some hd)
  · obtain ⟨⟨d, hd⟩, hs⟩ := dst_inv h
    split at hs
    · rename_i vo f hm
      cases hb : (Nat.blt H.n hpM && Nat.ble E.base H.n)
      · rw [hb] at hs; cases hs
      · rw [hb] at hs
        cases hs
        rw [Bool.and_eq_true] at hb
        have b1 : H.n < hpM := by simpa using hb.1
        exact made_ok hS hK hm (hS.new _ (Nat.le_refl _)) (Nat.le_of_ble_eq_true hb.2) (Hp.get_new b1 vo) (fun j hj => Hp.get_new_ne b1 hj vo) (Nat.le_succ _) (Nat.lt_succ_self _) b1 hg hd (hdn d hd) fun R' L' v' q => hc.some hd R' L' v' ⟨q.1, Nat.le_succ _, fun k hk => q.2 k (Nat.ne_of_lt hk)⟩
    · cases hs
theorem op_ok (hKs : KeysOk P E) (hrec : RecOk P E w0 rec) (hS : SR E w0 R H L) (hK : KR R kn l) {H2 : Hp} (h : opE P E rec H kn o = .ok (v, H2)) (hg : On ops o l) (hdn : ∀ d, o.dst = some d → Nat.blt d n = true)
    (hc : Kont P E ops Q n w0 rest l X o R v H H2) : WL P ops Q n F0 w0 (o :: rest) l (L ++ X) := by
  unfold opE at h
  rw [valueK_eq] at h
  split at h
  · rename_i u hu
    cases h
    obtain ⟨v', h1, h2⟩ := value_ok (X := X) hKs hS hK hu
    cases hd : o.dst with
    | some d => exact WL.val h2 hg hd (hdn d hd) (hc.some hd R L v' (Rn.ext.same rfl) hS h1)
    | none =>
      refine WL.act hg hd fun a w ha hW => ⟨w, L ++ X, .inr ⟨v', h2 a w ha hW⟩, hW, ?_⟩
      have := hc R L v' (Rn.ext.same rfl) hS h1
      rw [hd] at this
      exact this
  · exact act_ok hKs hrec hS hK h hg hdn hc
theorem isB_VR {v v' : Value} (h : VR R v v') (b : Bool) : isB v' b = isB v b := by
  cases h <;> rfl
theorem guard_ok (hK : KR R kn l) {b : Bool} (h : guardE ops kn o = some b) : (b = true → On ops o l) ∧ (b = false → ∃ j dj want v', o.guard = some (j, want) ∧ (ops[j]?).bind (·.dst) = some dj ∧ look l dj = some v' ∧ isB v' want = false) := by
  unfold guardE at h
  split at h
  · rename_i hg
    cases h
    exact ⟨fun _ => .none hg, fun e => by cases e⟩
  · rename_i j want hg
    rw [lget_eq, Array.getElem?_toList] at h
    split at h
    · rename_i dj hj
      split at h
      · rename_i u hu
        cases h
        obtain ⟨u', h1, h2⟩ := hK dj u hu
        refine ⟨fun e => ?_, fun e => ⟨j, dj, want, u', hg, hj, h1, by rw [isB_VR h2]; exact e⟩⟩
        rw [← isB_VR h2] at e
        have : u' = .bool want := by
          cases u' <;> first | (cases e; done) | (rename_i c; unfold isB at e; simp at e; rw [e])
        rw [this] at h1
        exact .some hg hj h1
      · cases h
    · cases h
theorem put_inv {kn kn' : Kn} (h : putE n o v kn = some kn') : (∀ d, o.dst = some d → Nat.blt d n = true) ∧ kn' = (match o.dst with | some d => (d, v) :: kn | none => kn) := by
  unfold putE at h
  split at h
  · rename_i d hd
    cases hb : Nat.blt d n
    · rw [hb] at h; cases h
    · rw [hb] at h; cases h
      exact ⟨fun d' e => by rw [hd] at e; cases e; exact hb, by first | rw [hd] | rfl⟩
  · rename_i hd
    cases h
    exact ⟨fun d' e => (by rw [hd] at e; cases e), by first | rw [hd] | rfl⟩
theorem WL.skipAny {j dj : Nat} {b : Bool} {v : Value} {p : Nat → Prop} {L : List Ent} (hg : o.guard = some (j, b)) (hj : (ops[j]?).bind (·.dst) = some dj) (hl : look l dj = some v) (hv : isB v b = false) (hdn : ∀ d, o.dst = some d → Nat.blt d n = true)
    (h : WL P ops Q n p w0 rest (match o.dst with | some d => (d, undef) :: l | none => l) L) : WL P ops Q n p w0 (o :: rest) l L := by
  cases hd : o.dst with
  | some d =>
    rw [hd] at h
    exact WL.skip hg hj hl hv hd (hdn d hd) h
  | none =>
    rw [hd] at h
    intro a w ha hS
    unfold wpList
    rw [if_neg (by rw [wanted_not hg hj ha hl hv]; decide)]
    exact h _ _ (by rw [hd]; exact ha) hS
theorem ops_ok (hKs : KeysOk P E) (hrec : RecOk P E w0 rec) : ∀ (os : List Oper) (R : Rn) (H : Hp) (L : List Ent) (kn l : Kn) (kn' : Kn) (H' : Hp), SR E w0 R H L → KR R (look kn) l → opsE P E rec n ops os kn H = .ok (kn', H') →
    (∀ R' l' L', Rn.ext H H' R R' → SR E w0 R' H' L' → KR R' (look kn') l' → WE Q .normal n F0 w0 l' (L' ++ X)) → WL P ops Q n F0 w0 os l (L ++ X)
  | [], R, H, L, kn, l, kn', H', hS, hK, h, hc => by
    cases h
    exact WL.nil (hc R l L (Rn.ext.same rfl) hS hK)
  | o :: rest, R, H, L, kn, l, kn', H', hS, hK, h, hc => by
    unfold opsE at h
    rw [lookE_eq] at h
    split at h
    · rename_i hgd
      split at h
      · rename_i v H1 hop
        split at h
        · rename_i kn1 hp
          obtain ⟨hdn, rfl⟩ := put_inv hp
          refine op_ok hKs hrec hS hK hop ((guard_ok hK hgd).1 rfl) hdn fun R' L' v' q1 q2 q3 => ?_
          refine ops_ok hKs hrec rest R' H1 L' _ _ kn' H' q2 ?_ h fun R2 l2 L2 p1 p2 p3 => hc R2 l2 L2 (q1.trans p1) p2 p3
          cases o.dst with
          | some d => rw [look_put]; exact (hK.mono q1.le).put q3
          | none => exact hK.mono q1.le
        · cases h
      · cases h
    · rename_i hgd
      split at h
      · rename_i kn1 hp
        obtain ⟨hdn, rfl⟩ := put_inv hp
        obtain ⟨j, dj, want, v', e1, e2, e3, e4⟩ := (guard_ok hK hgd).2 rfl
        refine WL.skipAny e1 e2 e3 e4 hdn ?_
        refine ops_ok hKs hrec rest R H L _ _ kn' H' hS ?_ h hc
        cases o.dst with
        | some d => rw [look_put]; exact hK.put (.plain rfl)
        | none => exact hK
      · cases h
    · cases h
end
end Go.Proofs.YtmhahajadgkolaaGreatDoor
/- The evaluator: code, functions, but for the regions that draw their order. -/
namespace Go.Proofs.YtmhahajadgkolaaGreatDoor
open Go.RowKit

section
variable {P : Program} {E : Ev} {w0 : World} {rec : Job → Er Res}
/-- What a piece of code does. -/
def CodeOk (P : Program) (E : Ev) (w0 : World) (n : Nat) (c : Code) (kn : Kn) (H : Hp) (x : Xt) (kn' : Kn) (H' : Hp) : Prop :=
  ∀ R l L X Q, SR E w0 R H L → KR R (look kn) l → (∀ R' l' L', Rn.ext H H' R R' → SR E w0 R' H' L' → KR R' (look kn') l' → WE Q x.ex n F0 w0 l' (L' ++ X)) → WC P c Q n F0 w0 l (L ++ X)
/-- The regions that draw their order. -/
def DrawOk (P : Program) (E : Ev) (w0 : World) (rec : Job → Er Res) : Prop :=
  ∀ n id ops kn H kn' H', drawE P E rec n ops kn H = .ok (kn', H') → CodeOk P E w0 n (.region id ops true) kn H .normal kn' H'
theorem WE.pass {Q : Exit → Act → World → Prop} {K : Act → World → Prop} {n : Nat} {l : Kn} {L : List Ent} {x : Xt} (hx : x ≠ .normal) (h : WE Q x.ex n F0 w0 l L) : WE (Exit.then K Q) x.ex n F0 w0 l L := by
  cases x with
  | normal => exact absurd rfl hx
  | ret => exact WE.then_ret h
  | exit id => exact WE.then_exit h
theorem nor_inv {r : Er (Kn × Hp)} {x : Xt} {kn : Kn} {H : Hp} (h : norE r = .ok (x, kn, H)) : x = .normal ∧ r = .ok (kn, H) := by
  unfold norE at h
  split at h
  · cases h; exact ⟨rfl, rfl⟩
  · cases h
theorem code_ok (hKs : KeysOk P E) (hrec : RecOk P E w0 rec) (hdraw : DrawOk P E w0 rec) (n : Nat) : ∀ (c : Code) (kn : Kn) (H : Hp) (x : Xt) (kn' : Kn) (H' : Hp), codeE P E rec n c kn H = .ok (x, kn', H') → CodeOk P E w0 n c kn H x kn' H' := by
  intro c
  induction c with
  | skip => intro kn H x kn' H' h R l L X Q hS hK hc; cases h; exact WC.skip (hc R l L (Rn.ext.same rfl) hS hK)
  | label i => intro kn H x kn' H' h R l L X Q hS hK hc; cases h; exact WC.label (hc R l L (Rn.ext.same rfl) hS hK)
  | exit id => intro kn H x kn' H' h R l L X Q hS hK hc; cases h; exact WC.exit (hc R l L (Rn.ext.same rfl) hS hK)
  | ret => intro kn H x kn' H' h R l L X Q hS hK hc; cases h; exact WC.ret (hc R l L (Rn.ext.same rfl) hS hK)
  | region id ops draw =>
    intro kn H x kn' H' h
    cases draw with
    | false =>
      obtain ⟨rfl, h'⟩ := nor_inv (show norE (opsE P E rec n ops ops.toList kn H) = _ from h)
      intro R l L X Q hS hK hc
      have e : (Code.region id ops false) = .region id ops.toList.toArray false := by rw [Array.toArray_toList]
      rw [e]
      refine WC.region ?_
      rw [Array.toArray_toList]
      exact ops_ok hKs hrec ops.toList R H L kn l kn' H' hS hK h' hc
    | true =>
      obtain ⟨rfl, h'⟩ := nor_inv (show norE (drawE P E rec n ops kn H) = _ from h)
      exact hdraw n id ops kn H kn' H' h'
  | seq a b iha ihb =>
    intro kn H x kn' H' h R l L X Q hS hK hc
    unfold codeE at h
    refine WC.seq ?_
    split at h
    · rename_i kn1 H1 ha
      exact iha _ _ _ _ _ ha R l L X _ hS hK fun R' l' L' q1 q2 q3 => WE.then_n (ihb _ _ _ _ _ h R' l' L' X Q q2 q3 fun R2 l2 L2 p1 p2 p3 => hc R2 l2 L2 (q1.trans p1) p2 p3)
    · rename_i r hr
      refine iha _ _ _ _ _ h R l L X _ hS hK fun R' l' L' q1 q2 q3 => WE.pass (fun e => ?_) (hc R' l' L' q1 q2 q3)
      subst e
      exact hr _ _ h
  | cond c a b iha ihb =>
    intro kn H x kn' H' h R l L X Q hS hK hc
    unfold codeE at h
    rw [lookE_eq] at h
    split at h
    · rename_i hcv
      obtain ⟨u, h1, h2⟩ := hK.ev hS.gl hcv
      obtain rfl := h2.bool_inv
      exact WC.cond_t h1 (iha _ _ _ _ _ h R l L X Q hS hK hc)
    · rename_i hcv
      obtain ⟨u, h1, h2⟩ := hK.ev hS.gl hcv
      obtain rfl := h2.bool_inv
      exact WC.cond_f h1 (ihb _ _ _ _ _ h R l L X Q hS hK hc)
    · cases h
  | block id c ih =>
    intro kn H x kn' H' h R l L X Q hS hK hc
    unfold codeE at h
    refine WC.block ?_
    split at h
    · rename_i j kn1 H1 ha
      cases hb : Nat.beq j id
      · rw [hb] at h
        cases h
        exact ih _ _ _ _ _ ha R l L X _ hS hK fun R' l' L' q1 q2 q3 => WE.block_miss hb (hc R' l' L' q1 q2 q3)
      · rw [hb] at h
        cases h
        obtain rfl := Nat.eq_of_beq_eq_true hb
        exact ih _ _ _ _ _ ha R l L X _ hS hK fun R' l' L' q1 q2 q3 => WE.block_hit (hc R' l' L' q1 q2 q3)
    · rename_i r hr
      refine ih _ _ _ _ _ h R l L X _ hS hK fun R' l' L' q1 q2 q3 => ?_
      cases x with
      | normal => exact WE.block_n (hc R' l' L' q1 q2 q3)
      | ret => exact WE.block_ret (hc R' l' L' q1 q2 q3)
      | exit j => exact absurd h (hr _ _ _)
  | loop c ih =>
    intro kn H x kn' H' h R l L X Q hS hK hc
    unfold codeE at h
    split at h
    · rename_i x2 kn2 H2 hr
      cases h
      obtain ⟨k, hk⟩ := hrec.loop _ _ _ _ _ _ _ hr
      exact fun a w ha hW => wp_loop_rounds k (hk R l L X Q hS hK hc a w ha hW)
    · cases h
    · cases h
  | rangeFunc f ps a b iha ihb => intro kn H x kn' H' h; cases h
  | scope c ih =>
    intro kn H x kn' H' h R l L X Q hS hK hc
    unfold codeE at h
    refine WC.scope (ih _ _ _ _ _ h R l L X _ hS hK fun R' l' L' q1 q2 q3 => ?_)
    have := hc R' l' L' q1 q2 q3
    cases x with
    | normal => exact WE.scope_n this
    | ret => exact WE.scope_ret this
    | exit j => exact WE.scope_exit this
  | goto i => intro kn H x kn' H' h; cases h
  | refuse w => intro kn H x kn' H' h; cases h
/-! ### Results -/
theorem res_ok {R : Rn} {H : Hp} {L X : List Ent} {kn l : Kn} (hS : SR E w0 R H L) (hK : KR R (look kn) l) {r : ResultVar} {v : Value} (h : resE P kn H r = some v) : ∃ v', VR R v v' ∧ ResOk P (fun w => St F0 w0 w (L ++ X)) l r v' := by
  cases r with
  | tmp t => obtain ⟨v', h1, h2⟩ := hK t v (by rw [← lookE_eq]; exact h); exact ⟨v', h2, h1⟩
  | cell t ty =>
    unfold resE at h
    dsimp only at h
    rw [lookE_eq] at h
    split at h
    · rename_i a hl
      split at h
      · rename_i cs op hk
        obtain ⟨u, h1, h2⟩ := hK t _ hl
        obtain ⟨b, q, h3, h4, rfl⟩ := h2.ptr_inv
        obtain ⟨b', q', cs', h5, h6, h7⟩ := hS.cells (X := X) hk
        rw [h4] at h5
        cases h5
        obtain ⟨v', h8, h9⟩ := cut_ok h6 h
        refine ⟨v', h8, _, h1, fun w hW => ?_⟩
        rcases h9 with ⟨ht, hv⟩ | ⟨m, ht, rfl, hm⟩
        · have h2 := h7 w hW _ _ hv
          rw [Nat.zero_add] at h2
          simp [loadVar, ht.agg, load, Sem.run, h2]
        · obtain ⟨⟨dd, hu, hd⟩, hs⟩ := ht
          replace hs : (P.info? ty).map (·.size) = some (YtmhahajadgkolaaGreatDoor.seg cs' a.off m).length := by rw [hm]; exact hs
          refine run_loadVar_mid (P := P) w b a.off ty _ dd (fun j u hj => ?_) hu hd hs
          unfold YtmhahajadgkolaaGreatDoor.seg at hj
          rw [List.getElem?_take] at hj
          split at hj
          · rw [List.getElem?_drop] at hj
            have := h7 w hW _ _ hj
            rwa [Nat.zero_add] at this
          · cases hj
      · cases h
    · cases h
theorem ress_ok {R : Rn} {H : Hp} {L X : List Ent} {kn l : Kn} {n : Nat} (hS : SR E w0 R H L) (hK : KR R (look kn) l) : ∀ {rs : List ResultVar} {vs : List Value}, ressE P kn H rs = some vs → ∃ vs', VRs R vs vs' ∧ ∀ a w, Has n a l → St F0 w0 w (L ++ X) → Runs P (resRun P a.tmps) w rs vs'
  | [], _, h => by cases h; exact ⟨[], .nil, fun _ _ _ _ => .nil⟩
  | r :: rs, vs, h => by
    unfold ressE at h
    split at h
    · rename_i v hv
      split at h
      · rename_i us hus
        cases h
        obtain ⟨v', h1, h2⟩ := res_ok (X := X) hS hK hv
        obtain ⟨us', h3, h4⟩ := ress_ok (X := X) (n := n) hS hK hus
        exact ⟨v' :: us', .cons h1 h3, fun a w ha hW => .cons (h2.run ha hW) (h4 a w ha hW)⟩
      · cases h
    · cases h
theorem argKn_VR {R : Rn} : ∀ {vs vs' : List Value} (k : Nat), VRs R vs vs' → KR R (look (argKn k vs)) (argKn k vs')
  | _, _, k, .nil => fun t v hv => by simp [argKn, look] at hv
  | _, _, k, .cons a b => by
    unfold argKn
    rw [look_put]
    exact (argKn_VR (k + 1) b).put a
theorem step_ok (hKs : KeysOk P E) (hrec : RecOk P E w0 rec) (hdraw : DrawOk P E w0 rec) : RecOk P E w0 (stepE P E rec) := by
  constructor
  · intro f vs H v H' h
    unfold stepE at h
    dsimp only at h
    rw [lget_eq, Array.getElem?_toList] at h
    split at h
    · rename_i fn hf
      split at h
      · rename_i c hb
        cases hcc : (!(fn.name == "runtime.NumGoroutine") && Nat.ble vs.length fn.ntmps)
        · rw [hcc] at h; cases h
        · rw [hcc] at h
          dsimp only [cond_true] at h
          rw [Bool.and_eq_true] at hcc
          have hname : (fn.name == "runtime.NumGoroutine") = false := by simpa using hcc.1
          refine ⟨callOk_of hf hname hb, fun R L X w vs' hS hvs hW => ?_⟩
          split at h
          · cases h
          · rename_i x kn H1 hx hcode
            have hK0 : KR R (look (argKn 0 vs)) (argKn 0 vs') := argKn_VR 0 hvs
            refine enter hf hb rfl (by rw [hvs.length]; exact hcc.2) hW ?_
            refine code_ok hKs hrec hdraw fn.ntmps c _ _ _ _ _ hcode R _ L X _ hS hK0 fun R' l' L' q1 q2 q3 => ?_
            have hxe : x.ex = .ret ∨ x.ex = .normal := by
              cases x with
              | normal => exact .inr rfl
              | ret => exact .inl rfl
              | exit j => exact absurd rfl (hx j)
            split at h
            · rename_i u hr
              cases h
              obtain ⟨us', h1, h2⟩ := ress_ok (X := X) (n := fn.ntmps) q2 q3 hr
              cases h1 with
              | cons a b =>
                cases b
                rename_i u'
                refine WE.fin (v := u') hxe (fun a w ha hW => ?_) fun w hW => ⟨R', L', u', rfl, q1, q2, a, hW⟩
                rw [results_eq (P := P), Sem.run_bind, runs_array (h2 a w ha hW), Result.andThen_ok]
                rfl
            · rename_i us hno hr
              cases h
              obtain ⟨us', h1, h2⟩ := ress_ok (X := X) (n := fn.ntmps) q2 q3 hr
              refine WE.fin (v := .tuple us'.toArray) hxe (fun a w ha hW => ?_) fun w hW => ⟨R', L', _, rfl, q1, q2, .tuple h1, hW⟩
              rw [results_eq (P := P), Sem.run_bind, runs_array (h2 a w ha hW), Result.andThen_ok]
              have hne : ¬ us'.toArray.size = 1 := fun e => by
                have hl := h1.length
                match us, hl with
                | [], hl => rw [List.size_toArray, hl] at e; simp at e
                | [u], hl => exact hno u rfl
                | _ :: _ :: _, hl => rw [List.size_toArray, hl] at e; simp at e
              rw [dif_neg hne]
              rfl
            · cases h
          · cases h
      · cases h
    · cases h
  · intro n c kn H x kn' H' h
    unfold stepE at h
    dsimp only at h
    split at h
    · rename_i kn1 H1 hcode
      obtain ⟨k, hk⟩ := hrec.loop _ _ _ _ _ _ _ h
      refine ⟨k + 1, fun R l L X Q hS hK hc a w ha hW => ?_⟩
      rw [rounds_succ]
      exact code_ok hKs hrec hdraw n c _ _ _ _ _ hcode R l L X _ hS hK (fun R' l' L' q1 q2 q3 => fun a w ha hW => hk R' l' L' X Q q2 q3 (fun R2 l2 L2 p1 p2 p3 => hc R2 l2 L2 (q1.trans p1) p2 p3) a w ha hW) a w ha hW
    · rename_i x1 kn1 H1 hx hcode
      cases h
      refine ⟨1, fun R l L X Q hS hK hc a w ha hW => ?_⟩
      rw [rounds_succ]
      exact code_ok hKs hrec hdraw n c _ _ _ _ _ hcode R l L X _ hS hK (fun R' l' L' q1 q2 q3 => WE.pass (fun e => hx e) (hc R' l' L' q1 q2 q3)) a w ha hW
    · cases h
theorem run_ok (hKs : KeysOk P E) (hdraw : ∀ rec, RecOk P E w0 rec → DrawOk P E w0 rec) : ∀ k, RecOk P E w0 (runE P E k)
  | 0 => ⟨fun f vs H v H' h => (by cases h), fun n c kn H x kn' H' h => (by cases h)⟩
  | k + 1 => step_ok hKs (run_ok hKs hdraw k) (hdraw _ (run_ok hKs hdraw k))
end
end Go.Proofs.YtmhahajadgkolaaGreatDoor
/- The evaluator: part of the memory, and what lies beside it. -/
namespace Go.Proofs.YtmhahajadgkolaaGreatDoor
open Go.RowKit

/-! ### Values that are equal -/
mutual
theorem eqV_eq : ∀ (a b : Value), eqV a b = true → a = b
  | .agg a, b, h => by
    cases b <;> first | (simp only [eqV] at h; rw [eqA_eq a _ h]) | (simp [eqV] at h; done)
  | .tuple a, b, h => by
    cases b <;> first | (simp only [eqV] at h; rw [eqA_eq a _ h]) | (simp [eqV] at h; done)
  | .bool a, b, h => by
    cases b <;> first | (simp [eqV] at h; done) | (simp [eqV] at h; rw [h])
  | .int k a, b, h => by
    cases b <;> first | (simp [eqV] at h; done) | (simp [eqV] at h; rw [h.1, h.2])
  | .string a, b, h => by
    cases b with
    | string c =>
      simp only [eqV, decide_eq_true_eq] at h
      obtain ⟨⟨a⟩⟩ := a
      obtain ⟨⟨c⟩⟩ := c
      simp at h
      rw [h]
    | _ => simp [eqV] at h
  | .pointer a, b, h => by
    cases b with
    | pointer c =>
      cases a <;> cases c <;> first | rfl | (simp [eqV] at h; done) | skip
      rename_i a c
      obtain ⟨a1, a2, a3⟩ := a
      obtain ⟨c1, c2, c3⟩ := c
      simp only [eqV, Bool.and_eq_true, Option.isNone_iff_eq_none] at h
      obtain ⟨⟨⟨h1, h2⟩, h3⟩, h4⟩ := h
      rw [Nat.eq_of_beq_eq_true h1, Nat.eq_of_beq_eq_true h2, h3, h4]
    | _ => cases a <;> simp [eqV] at h
  | .slice a n k, b, h => by
    cases b with
    | slice c n' k' =>
      cases a <;> cases c <;> first | (simp [eqV] at h; done) | (simp [eqV] at h; rw [h.1, h.2]; done) | skip
      rename_i a c
      obtain ⟨a1, a2, a3⟩ := a
      obtain ⟨c1, c2, c3⟩ := c
      simp only [eqV, Bool.and_eq_true, Option.isNone_iff_eq_none] at h
      obtain ⟨⟨⟨⟨⟨h1, h2⟩, h3⟩, h4⟩, h5⟩, h6⟩ := h
      rw [Nat.eq_of_beq_eq_true h1, Nat.eq_of_beq_eq_true h2, h3, h4, Nat.eq_of_beq_eq_true h5, Nat.eq_of_beq_eq_true h6]
    | _ => cases a <;> simp [eqV] at h
  | .map a, b, h => by
    cases b with
    | map c => cases a <;> cases c <;> first | rfl | (simp [eqV] at h; done) | (simp [eqV] at h; rw [h])
    | _ => cases a <;> simp [eqV] at h
  | .nilFunc, b, h => by cases b <;> first | rfl | (simp [eqV] at h; done)
  | .nilIface, b, h => by cases b <;> first | rfl | (simp [eqV] at h; done)
  | .float .., b, h => by simp [eqV] at h
  | .complex .., b, h => by simp [eqV] at h
  | .chan .., b, h => by simp [eqV] at h
  | .func .., b, h => by simp [eqV] at h
  | .iface .., b, h => by simp [eqV] at h
theorem eqA_eq : ∀ (a b : Array Value), eqA a b = true → a = b
  | ⟨a⟩, ⟨b⟩, h => by rw [eqL_eq a b (by simpa only [eqA] using h)]
theorem eqL_eq : ∀ (a b : List Value), eqL a b = true → a = b
  | [], [], _ => rfl
  | [], _ :: _, h => by simp [eqL] at h
  | _ :: _, [], h => by simp [eqL] at h
  | a :: as_, b :: bs, h => by
    simp only [eqL, Bool.and_eq_true] at h
    rw [eqV_eq a b h.1, eqL_eq as_ bs h.2]
end
/-! ### What does not look at the memory -/
theorem value_noread {P : Program} {E : Ev} {kn : Lk} {o : Oper} (hr : readsE o.op = false) (H H' : Hp) : valueE P E H kn o = valueE P E H' kn o := by
  obtain ⟨dst, op, ty, pos, after, guard⟩ := o
  cases op with
  | slice t x lo hi mx => cases mx <;> rfl
  | load t x => cases hr
  | lookup t x i ok => cases hr
  | convert s d x => cases hr
  | call c => cases hr
  | entry x => cases hr
  | _ => rfl
/-! ### Parts of the memory -/
theorem SR.congr {E : Ev} {w0 : World} {R : Rn} {H H' : Hp} {L : List Ent} (h : SR E w0 R H L) (hn : H'.n = H.n) (hg : ∀ k, H'.get k = H.get k) : SR E w0 R H' L := by
  refine ⟨by rw [hn]; exact h.lim, fun k hk => h.new k (by rw [← hn]; exact hk), h.gl, fun k o hk => h.own k o (by rw [← hg]; exact hk), fun j k b q r hj hk => ?_, fun k o hk => h.old k o (by rw [← hg]; exact hk)⟩
  rw [hg] at hj hk
  exact h.inj j k b q r hj hk
/-- What stands alone: rows and maps that no iterator goes through. -/
def loneVO : VO → Prop
  | .row _ _ => True
  | .map _ _ none => True
  | _ => False
theorem ER.pick {E : Ev} {R : Rn} {k : Nat} {L L' : List Ent} {o : VO} (h : ER E R k L o) (hl : loneVO o) (hL : ∀ e ∈ L, (∃ q, R k = some (e.at, q)) → notIter e → e ∈ L') : ER E R k L' o := by
  cases o with
  | row cs op =>
    obtain ⟨b, q, cs', t, h1, h2, h3, h4⟩ := h
    exact ⟨b, q, cs', t, h1, h2, hL _ h3 ⟨q, h1⟩ trivial, h4⟩
  | map kt es it =>
    cases it with
    | none =>
      obtain ⟨b, q, es', c, kb, m, h1, h2, h3, _⟩ := h
      exact ⟨b, q, es', c, kb, m, h1, hL _ h2 ⟨q, h1⟩ trivial, h3, fun i dn e => by cases e⟩
    | some x => exact hl.elim
  | iter m => exact hl.elim
open Classical in
/-- Part of the memory alone; what is left of it lies beside. -/
theorem SR.take {E : Ev} {w0 : World} {R : Rn} {H Hr : Hp} {L : List Ent} (h : SR E w0 R H L) (hn : Hr.n = H.n) (hsub : ∀ k o, Hr.get k = some o → H.get k = some o) (hdrop : ∀ k o, H.get k = some o → Hr.get k = none → E.base ≤ k ∧ loneVO o) :
    ∃ L1 M, L.Perm (L1 ++ M) ∧ SR E w0 R Hr L1 ∧ ∀ k o, H.get k = some o → Hr.get k = none → ER E R k M o := by
  let p : Ent → Bool := fun e => decide (notIter e ∧ ∃ k o q, H.get k = some o ∧ Hr.get k = none ∧ E.base ≤ k ∧ R k = some (e.at, q))
  have hp : ∀ e, p e = true ↔ notIter e ∧ ∃ k o q, H.get k = some o ∧ Hr.get k = none ∧ E.base ≤ k ∧ R k = some (e.at, q) := fun e => decide_eq_true_iff
  refine ⟨L.filter fun e => !p e, L.filter p, ((List.filter_append_perm p L).symm.trans List.perm_append_comm), ⟨by rw [hn]; exact h.lim, fun k hk => h.new k (by rw [← hn]; exact hk), h.gl, fun k o hk hb => ?_, fun j k b q r hj hk hbj hbk => ?_, fun k o hk hb => h.old k o (hsub k o hk) hb⟩, fun k o hk hr => ?_⟩
  · have h0 := h.own k o (hsub k o hk) hb
    have keep : ∀ e ∈ L, ∀ q, R k = some (e.at, q) → e ∈ L.filter fun e => !p e := fun e he q hq => List.mem_filter.2 ⟨he, by
      cases hpe : p e with
      | false => rfl
      | true =>
        obtain ⟨_, k', o', q', a1, a2, a3, a4⟩ := (hp e).1 hpe
        have := h.inj k k' e.at q q' ⟨_, hsub k o hk⟩ ⟨_, a1⟩ hb a3 hq a4
        rw [this, a2] at hk
        cases hk⟩
    cases o with
    | row cs op =>
      obtain ⟨b, q, cs', t, h1, h2, h3, h4⟩ := h0
      exact ⟨b, q, cs', t, h1, h2, keep _ h3 q h1, h4⟩
    | map kt es it =>
      obtain ⟨b, q, es', c, kb, m, h1, h2, h3, h4⟩ := h0
      refine ⟨b, q, es', c, kb, m, h1, keep _ h2 q h1, h3, fun i dn e => ?_⟩
      obtain ⟨bi, qi, seen, g1, g2, g3⟩ := h4 i dn e
      exact ⟨bi, qi, seen, g1, List.mem_filter.2 ⟨g2, by
        cases hpe : p (.obj bi (.mapIter (some b) c seen c)) with
        | false => rfl
        | true => exact ((hp _).1 hpe).1.elim⟩, g3⟩
    | iter m =>
      obtain ⟨b, q, ob, h1, h2, h3⟩ := h0
      exact ⟨b, q, ob, h1, keep _ h2 q h1, h3⟩
  · exact h.inj j k b q r (by obtain ⟨o, ho⟩ := hj; exact ⟨o, hsub j o ho⟩) (by obtain ⟨o, ho⟩ := hk; exact ⟨o, hsub k o ho⟩) hbj hbk
  · obtain ⟨hb, hl⟩ := hdrop k o hk hr
    exact (h.own k o hk hb).pick hl fun e he ⟨q, hq⟩ hi => List.mem_filter.2 ⟨he, (hp e).2 ⟨hi, k, o, q, hk, hr, hb, hq⟩⟩
/-- .. and back. -/
theorem SR.give {E : Ev} {w0 : World} {R : Rn} {H H' : Hp} {L M X : List Ent} {w : World} (h : SR E w0 R H L) (hW : St F0 w0 w (L ++ (M ++ X))) (hn : H'.n = H.n)
    (hget : ∀ k o, H'.get k = some o → H.get k = some o ∨ (E.base ≤ k ∧ loneVO o ∧ ER E R k M o))
    (hinj : ∀ j k o o' b q r, H'.get j = some o → H.get j ≠ some o → H'.get k = some o' → H.get k ≠ some o' → R j = some (b, q) → R k = some (b, r) → j = k) : SR E w0 R H' (L ++ M) := by
  have apart : ∀ d ∈ L, ∀ e ∈ M, d.at ≠ e.at := fun d hd e he => by
    have := hW.dist
    rw [List.map_append, List.nodup_append] at this
    exact this.2.2 _ (List.mem_map_of_mem hd) _ (List.mem_map_of_mem (List.mem_append_left _ he))
  refine ⟨by rw [hn]; exact h.lim, fun k hk => h.new k (by rw [← hn]; exact hk), h.gl, fun k o hk hb => ?_, fun j k b q r hj hk hbj hbk hq hr => ?_, fun k o hk hb => ?_⟩
  · rcases hget k o hk with h1 | ⟨_, _, h1⟩
    · exact (h.own k o h1 hb).mono (Rn.le.refl R) fun e he => List.mem_append_left _ he
    · exact h1.mono (Rn.le.refl R) fun e he => List.mem_append_right _ he
  · obtain ⟨oj, hj⟩ := hj
    obtain ⟨ok, hk⟩ := hk
    have nw : ∀ {i o}, H'.get i = some o → H.get i ≠ some o → ER E R i M o := fun {i o} hi hni => by
      rcases hget i o hi with h1 | ⟨_, _, h1⟩
      · exact absurd h1 hni
      · exact h1
    by_cases h1 : H.get j = some oj
    · by_cases h2 : H.get k = some ok
      · exact h.inj j k b q r ⟨_, h1⟩ ⟨_, h2⟩ hbj hbk hq hr
      · obtain ⟨d, b1, q1, e1, e2, e3⟩ := (h.own j oj h1 hbj).main
        obtain ⟨d', b2, q2, g1, g2, g3⟩ := (nw hk h2).main
        rw [hq] at e1; cases e1
        rw [hr] at g1; cases g1
        exact absurd (e2.trans g2.symm) (apart d e3 d' g3)
    · by_cases h2 : H.get k = some ok
      · obtain ⟨d, b1, q1, e1, e2, e3⟩ := (h.own k ok h2 hbk).main
        obtain ⟨d', b2, q2, g1, g2, g3⟩ := (nw hj h1).main
        rw [hr] at e1; cases e1
        rw [hq] at g1; cases g1
        exact absurd (e2.trans g2.symm) (apart d e3 d' g3)
      · exact hinj j k oj ok b q r hj h1 hk h2 hq hr
  · rcases hget k o hk with h1 | ⟨h2, _, _⟩
    · exact h.old k o h1 hb
    · exact absurd hb (by omega)
/-! ### What waits to be laid -/
theorem layPend_n (bm : Nat) : ∀ (pd : List (Nat × Nat × VO)) (H : Hp), (layPend bm pd H).n = H.n
  | [], H => rfl
  | (i, id, vo) :: r, H => by
    unfold layPend
    cases bm.testBit i
    · exact layPend_n bm r H
    · exact layPend_n bm r H
theorem layPend_get (bm : Nat) : ∀ (pd : List (Nat × Nat × VO)) (H : Hp) (k : Nat), (∀ x ∈ pd, x.2.1 < hpM) →
    ((layPend bm pd H).get k = H.get k ∧ ∀ x ∈ pd, bm.testBit x.1 = true → x.2.1 ≠ k) ∨ ∃ x ∈ pd, bm.testBit x.1 = true ∧ x.2.1 = k ∧ (layPend bm pd H).get k = some x.2.2
  | [], H, k, _ => .inl ⟨rfl, fun x hx => by cases hx⟩
  | (i, id, vo) :: r, H, k, hlt => by
    have ih := layPend_get bm r H k fun x hx => hlt x (List.mem_cons_of_mem _ hx)
    have hid : id < hpM := hlt _ (List.mem_cons_self ..)
    unfold layPend
    cases hb : bm.testBit i
    · rcases ih with ⟨h1, h2⟩ | ⟨x, hx, h1⟩
      · exact .inl ⟨h1, fun x hx hxb => by
          rcases List.mem_cons.1 hx with rfl | hx
          · rw [hb] at hxb; cases hxb
          · exact h2 x hx hxb⟩
      · exact .inr ⟨x, List.mem_cons_of_mem _ hx, h1⟩
    · by_cases hk : k = id
      · subst hk
        exact .inr ⟨_, List.mem_cons_self .., hb, rfl, Hp.get_put hid _⟩
      · dsimp only [cond_true]
        rw [Hp.get_put_ne hid hk]
        rcases ih with ⟨h1, h2⟩ | ⟨x, hx, h1⟩
        · exact .inl ⟨h1, fun x hx hxb => by
            rcases List.mem_cons.1 hx with rfl | hx
            · exact fun e => hk e.symm
            · exact h2 x hx hxb⟩
        · exact .inr ⟨x, List.mem_cons_of_mem _ hx, h1⟩
theorem layAll_n : ∀ (pd : List (Nat × Nat × VO)) (H : Hp), (layAll pd H).n = H.n
  | [], _ => rfl
  | (_, _, _) :: r, H => layAll_n r H
theorem layAll_get : ∀ (pd : List (Nat × Nat × VO)) (H : Hp) (k : Nat), (∀ x ∈ pd, x.2.1 < hpM) →
    ((layAll pd H).get k = H.get k ∧ ∀ x ∈ pd, x.2.1 ≠ k) ∨ ∃ x ∈ pd, x.2.1 = k ∧ (layAll pd H).get k = some x.2.2
  | [], H, k, _ => .inl ⟨rfl, fun x hx => by cases hx⟩
  | (i, id, vo) :: r, H, k, hlt => by
    have ih := layAll_get r H k fun x hx => hlt x (List.mem_cons_of_mem _ hx)
    have hid : id < hpM := hlt _ (List.mem_cons_self ..)
    unfold layAll
    by_cases hk : k = id
    · subst hk
      exact .inr ⟨_, List.mem_cons_self .., rfl, Hp.get_put hid _⟩
    · rw [Hp.get_put_ne hid hk]
      rcases ih with ⟨h1, h2⟩ | ⟨x, hx, h1⟩
      · exact .inl ⟨h1, fun x hx => by
          rcases List.mem_cons.1 hx with rfl | hx
          · exact fun e => hk e.symm
          · exact h2 x hx⟩
      · exact .inr ⟨x, List.mem_cons_of_mem _ hx, h1⟩
theorem leftPend_mem (bm : Nat) : ∀ (pd : List (Nat × Nat × VO)) (x : Nat × Nat × VO), x ∈ leftPend bm pd ↔ x ∈ pd ∧ bm.testBit x.1 = false
  | [], x => by simp [leftPend]
  | (i, id, vo) :: r, x => by
    have ih := leftPend_mem bm r x
    unfold leftPend
    cases hb : bm.testBit i
    · rw [cond_false, List.mem_cons, List.mem_cons, ih]
      constructor
      · rintro (rfl | ⟨h1, h2⟩)
        · exact ⟨.inl rfl, hb⟩
        · exact ⟨.inr h1, h2⟩
      · rintro ⟨rfl | h1, h2⟩
        · exact .inl rfl
        · exact .inr ⟨h1, h2⟩
    · rw [cond_true, List.mem_cons, ih]
      constructor
      · rintro ⟨h1, h2⟩; exact ⟨.inr h1, h2⟩
      · rintro ⟨rfl | h1, h2⟩
        · rw [hb] at h2; cases h2
        · exact ⟨h1, h2⟩
theorem cond_inv {α : Type} {b : Bool} {a : Option α} {r : α} (h : cond b a none = some r) : a = some r := by
  cases b
  · cases h
  · exact h
theorem madeE_lone {P : Program} {E : Ev} {kn : Lk} {op : Op} {vo : VO} {f : Nat → Value} (h : madeE P E kn op = some (vo, f)) : loneVO vo := by
  unfold madeE at h
  split at h
  · split at h
    · cases h; trivial
    · cases h
  · split at h
    · cases h; trivial
    · cases h
  · split at h
    · split at h
      · have h' := cond_inv h
        split at h'
        · cases h'; trivial
        · cases h'
      · cases h
    · cases h
  · split at h
    · split at h
      · have h' := cond_inv h
        cases h'; trivial
      · cases h
    · cases h
  · split at h
    · have h' := cond_inv h
      cases h'; trivial
    · cases h
  · cases h
end Go.Proofs.YtmhahajadgkolaaGreatDoor
/- The evaluator: a region that draws its order: what the steps, in the text's order, write down. -/
namespace Go.Proofs.YtmhahajadgkolaaGreatDoor
open Go.RowKit

section
variable {P : Program} {E : Ev} {rec : Job → Er Res} {n : Nat} {ops : Array Oper} {kn0 : Kn} {id0 : Nat} {bef : List Nat}
def noteL (m : Nat) (o : Oper) (v : Value) (rk : List (Nat × Nat × Value)) : List (Nat × Nat × Value) := match o.dst with
  | some d => (m, d, v) :: rk
  | none => rk
theorem note_inv {D : Dr} {i : Nat} {o : Oper} {v : Value} {rk : List (Nat × Nat × Value)} (h : D.note n i o v = some rk) : rk = noteL i o v D.rk ∧ ∀ d, o.dst = some d → Nat.blt d n = true := by
  unfold Dr.note at h
  unfold noteL
  split at h
  · rename_i d hd
    rw [hd]
    cases hb : Nat.blt d n
    · rw [hb] at h; cases h
    · rw [hb] at h; cases h
      exact ⟨rfl, fun d' e => by cases e; exact hb⟩
  · rename_i hd
    rw [hd]
    cases h
    exact ⟨rfl, fun d e => by cases e⟩
/-- What a step does. -/
inductive StepIs (P : Program) (E : Ev) (rec : Job → Er Res) (ops : Array Oper) (kn0 : Kn) (id0 : Nat) (bef : List Nat) (m : Nat) (o : Oper) (D D' : Dr) : Prop
  | skip : guardE ops (knI ops bef kn0 D.rk m) o = some false → D' = ⟨noteL m o undef D.rk, D.H, D.pend, D.ws, D.rs⟩ → StepIs P E rec ops kn0 id0 bef m o D D'
  | made (vo : VO) (f : Nat → Value) (d : Nat) : guardE ops (knI ops bef kn0 D.rk m) o = some true → isMade o.op = true → madeE P E (knI ops bef kn0 D.rk m) o.op = some (vo, f) → o.dst = some d →
      D' = ⟨(m, d, f (id0 + m)) :: D.rk, D.H, (m, id0 + m, vo) :: D.pend, D.ws, D.rs⟩ → StepIs P E rec ops kn0 id0 bef m o D D'
  | val (v : Value) : guardE ops (knI ops bef kn0 D.rk m) o = some true → readsE o.op = false → valueE P E (layPend (lgetD bef m) D.pend D.H) (knI ops bef kn0 D.rk m) o = some v →
      D' = ⟨noteL m o v D.rk, D.H, D.pend, D.ws, D.rs⟩ → StepIs P E rec ops kn0 id0 bef m o D D'
  | read (v : Value) : guardE ops (knI ops bef kn0 D.rk m) o = some true → valueE P E (layPend (lgetD bef m) D.pend D.H) (knI ops bef kn0 D.rk m) o = some v →
      stagesOk P E (knI ops bef kn0 D.rk m) o v (lgetD bef m) D.pend D.ws = true →
      D' = ⟨noteL m o v D.rk, D.H, D.pend, D.ws, (m, o, v) :: D.rs⟩ → StepIs P E rec ops kn0 id0 bef m o D D'
  | act (v : Value) (H2 : Hp) : guardE ops (knI ops bef kn0 D.rk m) o = some true → actE P E rec (layPend (lgetD bef m) D.pend D.H) (knI ops bef kn0 D.rk m) o = .ok (v, H2) →
      (∀ j Hb r, D.ws = (j, Hb) :: r → (lgetD bef m).testBit j = true) → freeIds id0 (lgetD bef m) H2 0 ops.toList = true →
      readsOk P E ops bef kn0 D.rk H2 (lgetD bef m) (leftPend (lgetD bef m) D.pend) D.rs = true →
      D' = ⟨noteL m o v D.rk, H2, leftPend (lgetD bef m) D.pend, (m, D.H) :: D.ws, D.rs⟩ → StepIs P E rec ops kn0 id0 bef m o D D'
theorem step_inv {m : Nat} {o : Oper} {D D' : Dr} (h : drawStep P E rec n ops kn0 id0 bef m o D = .ok D') : (∀ d, o.dst = some d → Nat.blt d n = true) ∧ StepIs P E rec ops kn0 id0 bef m o D D' := by
  unfold drawStep at h
  rw [valueK_eq] at h
  split at h
  · cases h
  · rename_i hg
    split at h
    · rename_i rk hn
      cases h
      obtain ⟨rfl, hd⟩ := note_inv hn
      exact ⟨hd, .skip hg rfl⟩
    · cases h
  · rename_i hg
    split at h
    · rename_i hmd
      split at h
      · rename_i vo f hm
        split at h
        · rename_i rk d hn hd
          cases h
          obtain ⟨rfl, hdn⟩ := note_inv hn
          refine ⟨hdn, .made vo f d hg hmd hm hd ?_⟩
          unfold noteL
          rw [hd]
        · cases h
      · cases h
    · split at h
      · rename_i v hv
        split at h
        · rename_i hr
          cases hb : stagesOk P E (knI ops bef kn0 D.rk m) o v (lgetD bef m) D.pend D.ws
          · rw [hb] at h; cases h
          · rw [hb, cond_true] at h
            split at h
            · rename_i rk hn
              cases h
              obtain ⟨rfl, hd⟩ := note_inv hn
              exact ⟨hd, .read v hg hv hb rfl⟩
            · cases h
        · rename_i hr
          split at h
          · rename_i rk hn
            cases h
            obtain ⟨rfl, hd⟩ := note_inv hn
            exact ⟨hd, .val v hg hr hv rfl⟩
          · cases h
      · generalize hB : headOk (lgetD bef m) D.ws = B at h
        cases B
        · cases h
        · rw [cond_true] at h
          split at h
          · rename_i v H2 ha
            split at h
            · rename_i rk hn
              generalize hC : (freeIds id0 (lgetD bef m) H2 0 ops.toList && readsOk P E ops bef kn0 D.rk H2 (lgetD bef m) (leftPend (lgetD bef m) D.pend) D.rs) = C at h
              cases C
              · cases h
              · cases h
                rw [Bool.and_eq_true] at hC
                obtain ⟨rfl, hd⟩ := note_inv hn
                exact ⟨hd, .act v H2 hg ha (fun j Hb r e => by rw [e] at hB; exact hB) hC.1 hC.2 rfl⟩
            · cases h
          · cases h
theorem trace_of : ∀ (os : List Oper) (i : Nat) (D Df : Dr), drawOps P E rec n ops kn0 id0 bef i os D = .ok Df → ∃ Ds : Nat → Dr, Ds 0 = D ∧ Ds os.length = Df ∧ ∀ m o, os[m]? = some o → drawStep P E rec n ops kn0 id0 bef (i + m) o (Ds m) = .ok (Ds (m + 1))
  | [], i, D, Df, h => by cases h; exact ⟨fun _ => D, rfl, rfl, fun m o hm => by simp at hm⟩
  | o :: rest, i, D, Df, h => by
    unfold drawOps at h
    split at h
    · rename_i D' hs
      obtain ⟨Ds, h1, h2, h3⟩ := trace_of rest (i + 1) D' Df h
      refine ⟨fun k => match k with | 0 => D | k + 1 => Ds k, rfl, h2, fun m o' hm => ?_⟩
      cases m with
      | zero =>
        simp at hm
        subst hm
        show drawStep P E rec n ops kn0 id0 bef (i + 0) o D = .ok (Ds 0)
        rw [h1]
        exact hs
      | succ m =>
        have := h3 m o' (by simpa using hm)
        show drawStep P E rec n ops kn0 id0 bef (i + (m + 1)) o' (Ds m) = .ok (Ds (m + 1))
        rw [show i + (m + 1) = i + 1 + m by omega]
        exact this
    · cases h
end
/-! ### The marks -/
theorem befOk_at {bef : List Nat} : ∀ (os : List Oper) (i : Nat), befOk bef i os = true → ∀ m o, os[m]? = some o → befOk1 bef (i + m) o = true
  | [], i, _, m, o, hm => by simp at hm
  | a :: r, i, h, m, o, hm => by
    unfold befOk at h
    rw [Bool.and_eq_true] at h
    cases m with
    | zero => simp at hm; subst hm; exact h.1
    | succ m =>
      rw [show i + (m + 1) = i + 1 + m by omega]
      exact befOk_at r (i + 1) h.2 m o (by simpa using hm)
structure BefIs (bef : List Nat) (ops : Array Oper) : Prop where
  edge : ∀ i o, ops[i]? = some o → ∀ e ∈ o.after, Region.binds .any e = true → e.on < i
  why : ∀ i o, ops[i]? = some o → ∀ j, (lgetD bef i).testBit j = true → j < i ∧ ∃ e ∈ o.after, Region.binds .any e = true ∧ (e.on = j ∨ (lgetD bef e.on).testBit j = true)
theorem befOk_is {bef : List Nat} {ops : Array Oper} (h : befOk bef 0 ops.toList = true) : BefIs bef ops := by
  have key : ∀ i o, ops[i]? = some o → befOk1 bef i o = true := fun i o hi => by
    have := befOk_at ops.toList 0 h i o (by rw [Array.getElem?_toList]; exact hi)
    rwa [Nat.zero_add] at this
  constructor
  · intro i o hi e he hb
    have h1 := key i o hi
    unfold befOk1 at h1
    rw [Bool.and_eq_true, Bool.and_eq_true] at h1
    have := List.all_eq_true.1 h1.1.1 e (by simpa using he)
    rw [hb] at this
    simpa using this
  · intro i o hi j hj
    have h1 := key i o hi
    unfold befOk1 at h1
    rw [Bool.and_eq_true, Bool.and_eq_true] at h1
    have hlt : lgetD bef i < 2 ^ i := by simpa using h1.2
    have hji : j < i := by
      rcases Nat.lt_or_ge j i with h2 | h2
      · exact h2
      · rw [Nat.testBit_lt_two_pow (Nat.lt_of_lt_of_le hlt (Nat.pow_le_pow_right (by omega) h2))] at hj
        cases hj
    refine ⟨hji, ?_⟩
    have := List.all_eq_true.1 h1.1.2 j (List.mem_range.2 hji)
    rw [hj] at this
    simp only [Bool.not_true, Bool.false_or, List.any_eq_true, Bool.and_eq_true, Bool.or_eq_true] at this
    obtain ⟨e, he, hb, h2⟩ := this
    exact ⟨e, by simpa using he, hb, by simpa using h2⟩
/-- What is listed, or ready, has all that comes ahead of it listed. -/
theorem BefIs.closed {bef : List Nat} {ops : Array Oper} (hB : BefIs bef ops) {listed : Array Bool} (hC : Closed .any ops listed) : ∀ (i : Nat) (o : Oper), ops[i]? = some o → (∀ e ∈ o.after, Region.binds .any e = true → listed.getD e.on false = true) → ∀ j, (lgetD bef i).testBit j = true → listed.getD j false = true := by
  intro i
  induction i using Nat.strongRecOn with
  | ind i ih =>
    intro o hi hall j hj
    obtain ⟨hji, e, he, hb, h1⟩ := hB.why i o hi j hj
    have hon := hall e he hb
    rcases h1 with rfl | h1
    · exact hon
    · have hlt := hB.edge i o hi e he hb
      have hsz : i < ops.size := (Array.getElem?_eq_some_iff.1 hi).1
      have hoe : ops[e.on]? = some ops[e.on] := Array.getElem?_eq_getElem (by omega)
      exact ih e.on hlt _ hoe (fun e' he' hb' => hC e.on _ hoe hon e' he' hb') j h1
/-! ### Slots -/
theorem dstsOk_spec : ∀ (os : List Oper) (ds : List Nat), dstsOk ds os = true → (∀ (m : Nat) o d, os[m]? = some o → o.dst = some d → d ∉ ds) ∧ ∀ (m m' : Nat) (o o' : Oper) (d : Nat), os[m]? = some o → os[m']? = some o' → o.dst = some d → o'.dst = some d → m = m'
  | [], ds, _ => ⟨fun m o d hm => by simp at hm, fun m m' o o' d hm => by simp at hm⟩
  | a :: r, ds, h => by
    unfold dstsOk at h
    split at h
    · rename_i d0 hd0
      rw [Bool.and_eq_true] at h
      obtain ⟨i1, i2⟩ := dstsOk_spec r (d0 :: ds) h.2
      have hn : d0 ∉ ds := by simpa using h.1
      refine ⟨fun m o d hm hd => ?_, fun m m' o o' d hm hm' hd hd' => ?_⟩
      · cases m with
        | zero => simp at hm; subst hm; rw [hd0] at hd; cases hd; exact hn
        | succ m => exact fun e => i1 m o d (by simpa using hm) hd (List.mem_cons_of_mem _ e)
      · cases m with
        | zero =>
          simp at hm; subst hm; rw [hd0] at hd; cases hd
          cases m' with
          | zero => rfl
          | succ m' => exact absurd (List.mem_cons_self ..) (i1 m' o' d0 (by simpa using hm') hd')
        | succ m =>
          cases m' with
          | zero => simp at hm'; subst hm'; rw [hd0] at hd'; cases hd'; exact absurd (List.mem_cons_self ..) (i1 m o d0 (by simpa using hm) hd)
          | succ m' => rw [i2 m m' o o' d (by simpa using hm) (by simpa using hm') hd hd']
    · rename_i hd0
      obtain ⟨i1, i2⟩ := dstsOk_spec r ds h
      refine ⟨fun m o d hm hd => ?_, fun m m' o o' d hm hm' hd hd' => ?_⟩
      · cases m with
        | zero => simp at hm; subst hm; rw [hd0] at hd; cases hd
        | succ m => exact i1 m o d (by simpa using hm) hd
      · cases m with
        | zero => simp at hm; subst hm; rw [hd0] at hd; cases hd
        | succ m =>
          cases m' with
          | zero => simp at hm'; subst hm'; rw [hd0] at hd'; cases hd'
          | succ m' => rw [i2 m m' o o' d (by simpa using hm) (by simpa using hm') hd hd']
end Go.Proofs.YtmhahajadgkolaaGreatDoor
/- The evaluator: a region that draws its order: facts of the steps. -/
namespace Go.Proofs.YtmhahajadgkolaaGreatDoor
open Go.RowKit

structure Trk (P : Program) (E : Ev) (rec : Job → Er Res) (n : Nat) (ops : Array Oper) (kn0 : Kn) (id0 : Nat) (bef : List Nat) (Ds : Nat → Dr) : Prop where
  rk0 : (Ds 0).rk = []
  pend0 : (Ds 0).pend = []
  ws0 : (Ds 0).ws = []
  rs0 : (Ds 0).rs = []
  dn : ∀ (m : Nat) (o : Oper), ops[m]? = some o → ∀ d, o.dst = some d → Nat.blt d n = true
  step : ∀ (m : Nat) (o : Oper), ops[m]? = some o → StepIs P E rec ops kn0 id0 bef m o (Ds m) (Ds (m + 1))
  bef : BefIs bef ops
  dst : ∀ (m m' : Nat) (o o' : Oper) (d : Nat), ops[m]? = some o → ops[m']? = some o' → o.dst = some d → o'.dst = some d → m = m'
def ActS (Ds : Nat → Dr) (m : Nat) : Prop := (Ds (m + 1)).ws = (m, (Ds m).H) :: (Ds m).ws
def Item (Ds : Nat → Dr) (id0 j : Nat) (vo : VO) : Prop := (Ds (j + 1)).pend = (j, id0 + j, vo) :: (Ds j).pend
def Unabs (Ds : Nat → Dr) (bef : List Nat) (c j : Nat) : Prop := ∀ a, a < c → ActS Ds a → (lgetD bef a).testBit j = false
section
variable {P : Program} {E : Ev} {rec : Job → Er Res} {n : Nat} {ops : Array Oper} {kn0 : Kn} {id0 : Nat} {bef : List Nat} {Ds : Nat → Dr}
theorem op_at {m : Nat} (h : m < ops.size) : ops[m]? = some ops[m] := Array.getElem?_eq_getElem h
theorem op_lt {m : Nat} {o : Oper} (h : ops[m]? = some o) : m < ops.size := (Array.getElem?_eq_some_iff.1 h).1
variable (T : Trk P E rec n ops kn0 id0 bef Ds)
include T
theorem Trk.act_or {m : Nat} (hm : m < ops.size) : ActS Ds m ∨ (¬ ActS Ds m ∧ (Ds (m + 1)).ws = (Ds m).ws ∧ (Ds (m + 1)).H = (Ds m).H) := by
  have key : (Ds (m + 1)).ws = (Ds m).ws → ¬ ActS Ds m := fun h h' => by
    unfold ActS at h'
    rw [h] at h'
    exact absurd (congrArg List.length h') (by simp)
  cases T.step m _ (op_at hm) with
  | skip _ e => rw [e] at key ⊢; exact .inr ⟨key rfl, rfl, rfl⟩
  | made vo f d _ _ _ _ e => rw [e] at key ⊢; exact .inr ⟨key rfl, rfl, rfl⟩
  | val v _ _ _ e => rw [e] at key ⊢; exact .inr ⟨key rfl, rfl, rfl⟩
  | read v _ _ _ e => rw [e] at key ⊢; exact .inr ⟨key rfl, rfl, rfl⟩
  | act v H2 _ _ _ _ _ e => left; unfold ActS; rw [e]
theorem Trk.ws_spec : ∀ m, m ≤ ops.size → ∀ j Hb, (j, Hb) ∈ (Ds m).ws ↔ j < m ∧ ActS Ds j ∧ Hb = (Ds j).H
  | 0, _, j, Hb => by rw [T.ws0]; simp
  | m + 1, hm, j, Hb => by
    have ih := Trk.ws_spec m (by omega) j Hb
    rcases T.act_or (m := m) (by omega) with ha | ⟨hna, hw, _⟩
    · have ha' := ha
      unfold ActS at ha'
      rw [ha', List.mem_cons, ih]
      constructor
      · rintro (h | ⟨h1, h2, h3⟩)
        · cases h; exact ⟨Nat.lt_succ_self _, ha, rfl⟩
        · exact ⟨by omega, h2, h3⟩
      · rintro ⟨h1, h2, h3⟩
        by_cases hjm : j = m
        · subst hjm; subst h3; exact .inl rfl
        · exact .inr ⟨by omega, h2, h3⟩
    · rw [hw, ih]
      constructor
      · rintro ⟨h1, h2, h3⟩; exact ⟨by omega, h2, h3⟩
      · rintro ⟨h1, h2, h3⟩
        have : j ≠ m := fun e => hna (e ▸ h2)
        exact ⟨by omega, h2, h3⟩
theorem Trk.same {m : Nat} : ∀ k, m + k ≤ ops.size → (∀ a, m ≤ a → a < m + k → ¬ ActS Ds a) → (Ds (m + k)).H = (Ds m).H ∧ (Ds (m + k)).ws = (Ds m).ws
  | 0, _, _ => ⟨rfl, rfl⟩
  | k + 1, hk, h => by
    obtain ⟨h1, h2⟩ := Trk.same k (by omega) fun a ha hb => h a ha (by omega)
    rcases T.act_or (m := m + k) (by omega) with ha | ⟨_, hw, hH⟩
    · exact absurd ha (h _ (by omega) (by omega))
    · rw [← Nat.add_assoc]
      exact ⟨hH.trans h1, hw.trans h2⟩
theorem Trk.H_same {m m' : Nat} (h : m ≤ m') (hm : m' ≤ ops.size) (hno : ∀ a, m ≤ a → a < m' → ¬ ActS Ds a) : (Ds m').H = (Ds m).H := by
  obtain ⟨k, rfl⟩ := Nat.le.dest h
  exact (T.same k hm hno).1
/-- The act ahead comes ahead in every order. -/
theorem Trk.chain {m j : Nat} (hm : m < ops.size) (ha : ActS Ds m) (hj : ActS Ds j) (hjm : j < m) (hno : ∀ a, j < a → a < m → ¬ ActS Ds a) : (lgetD bef m).testBit j = true := by
  obtain ⟨k, hk⟩ := Nat.le.dest (show j + 1 ≤ m from hjm)
  have hw := (T.same (m := j + 1) k (by omega) fun a h1 h2 => hno a (by omega) (by omega)).2
  rw [hk] at hw
  unfold ActS at hj
  rw [hj] at hw
  have no : (Ds (m + 1)).ws = (Ds m).ws → False := fun h => by
    unfold ActS at ha
    rw [h] at ha
    exact absurd (congrArg List.length ha) (by simp)
  cases T.step m _ (op_at hm) with
  | skip _ e => exact (no (by rw [e])).elim
  | made vo f d _ _ _ _ e => exact (no (by rw [e])).elim
  | val v _ _ _ e => exact (no (by rw [e])).elim
  | read v _ _ _ e => exact (no (by rw [e])).elim
  | act v H2 _ _ hh _ _ e => exact hh j _ _ hw
theorem Trk.pre_lt {i j : Nat} (hi : i < ops.size) (h : (lgetD bef i).testBit j = true) : j < i := (T.bef.why i _ (op_at hi) j h).1
theorem Trk.pend_spec : ∀ m, m ≤ ops.size → ∀ j id vo, (j, id, vo) ∈ (Ds m).pend ↔ j < m ∧ Item Ds id0 j vo ∧ id = id0 + j ∧ Unabs Ds bef m j
  | 0, _, j, id, vo => by rw [T.pend0]; simp
  | m + 1, hm, j, id, vo => by
    have ihm := Trk.pend_spec m (by omega)
    have ih := ihm j id vo
    have hself : ∀ a, a < m + 1 → ActS Ds a → (lgetD bef a).testBit m = false := fun a ha _ => by
      cases hb : (lgetD bef a).testBit m with
      | false => rfl
      | true => exact absurd (T.pre_lt (by omega) hb) (by omega)
    have plain : ¬ ActS Ds m → (Ds (m + 1)).pend = (Ds m).pend → ((j, id, vo) ∈ (Ds (m + 1)).pend ↔ j < m + 1 ∧ Item Ds id0 j vo ∧ id = id0 + j ∧ Unabs Ds bef (m + 1) j) := fun hna hp => by
      rw [hp, ih]
      constructor
      · rintro ⟨h1, h2, h3, h4⟩
        exact ⟨by omega, h2, h3, fun a ha haa => by
          by_cases e : a = m
          · exact absurd (e ▸ haa) hna
          · exact h4 a (by omega) haa⟩
      · rintro ⟨h1, h2, h3, h4⟩
        have : j ≠ m := fun e => by
          subst e
          unfold Item at h2
          rw [hp] at h2
          exact absurd (congrArg List.length h2) (by simp)
        exact ⟨by omega, h2, h3, fun a ha => h4 a (by omega)⟩
    have noact : (Ds (m + 1)).ws = (Ds m).ws → ¬ ActS Ds m := fun h h' => by
      unfold ActS at h'
      rw [h] at h'
      exact absurd (congrArg List.length h') (by simp)
    cases T.step m _ (op_at (show m < ops.size by omega)) with
    | skip _ e => exact plain (noact (by rw [e])) (by rw [e])
    | val v _ _ _ e => exact plain (noact (by rw [e])) (by rw [e])
    | read v _ _ _ e => exact plain (noact (by rw [e])) (by rw [e])
    | made vo2 f d _ _ _ _ e =>
      have hna := noact (by rw [e])
      have hp : (Ds (m + 1)).pend = (m, id0 + m, vo2) :: (Ds m).pend := by rw [e]
      rw [hp, List.mem_cons, ih]
      constructor
      · rintro (h | ⟨h1, h2, h3, h4⟩)
        · cases h; exact ⟨Nat.lt_succ_self _, hp, rfl, hself⟩
        · exact ⟨by omega, h2, h3, fun a ha haa => by
            by_cases e : a = m
            · exact absurd (e ▸ haa) hna
            · exact h4 a (by omega) haa⟩
      · rintro ⟨h1, h2, h3, h4⟩
        by_cases e : j = m
        · subst e
          unfold Item at h2
          rw [hp] at h2
          left
          rw [h3]
          exact (List.cons.inj h2).1.symm
        · exact .inr ⟨by omega, h2, h3, fun a ha => h4 a (by omega)⟩
    | act v H2 _ _ _ _ _ e =>
      have hact : ActS Ds m := by unfold ActS; rw [e]
      have hp : (Ds (m + 1)).pend = leftPend (lgetD bef m) (Ds m).pend := by rw [e]
      rw [hp, leftPend_mem, ih]
      constructor
      · rintro ⟨⟨h1, h2, h3, h4⟩, h5⟩
        exact ⟨by omega, h2, h3, fun a ha haa => by
          by_cases e : a = m
          · subst e; exact h5
          · exact h4 a (by omega) haa⟩
      · rintro ⟨h1, h2, h3, h4⟩
        have : j ≠ m := fun e2 => by
          subst e2
          unfold Item at h2
          rw [hp] at h2
          have hm2 : (j, id0 + j, vo) ∈ leftPend (lgetD bef j) (Ds j).pend := by rw [h2]; exact List.mem_cons_self ..
          rw [leftPend_mem] at hm2
          have := ((ihm j (id0 + j) vo).1 hm2.1).1
          omega
        exact ⟨⟨by omega, h2, h3, fun a ha => h4 a (by omega)⟩, h4 m (by omega) hact⟩
/-! ### What is written down of the frame -/
theorem Trk.rk_front {m : Nat} : ∀ k, m + k ≤ ops.size → ∃ fr, (Ds (m + k)).rk = fr ++ (Ds m).rk ∧ ∀ x ∈ fr, m ≤ x.1 ∧ x.1 < m + k
  | 0, _ => ⟨[], rfl, fun x hx => by cases hx⟩
  | k + 1, hk => by
    obtain ⟨fr, h1, h2⟩ := Trk.rk_front (m := m) k (by omega)
    have key : ∀ v, ∃ fr2, noteL (m + k) ops[m + k] v (Ds (m + k)).rk = fr2 ++ (Ds m).rk ∧ ∀ x ∈ fr2, m ≤ x.1 ∧ x.1 < m + (k + 1) := fun v => by
      unfold noteL
      split
      · rename_i d _
        refine ⟨(m + k, d, v) :: fr, by rw [h1]; rfl, fun x hx => ?_⟩
        rcases List.mem_cons.1 hx with rfl | hx
        · exact ⟨Nat.le_add_right .., Nat.lt_succ_self _⟩
        · have := h2 x hx; omega
      · exact ⟨fr, h1, fun x hx => by have := h2 x hx; omega⟩
    rw [← Nat.add_assoc]
    cases T.step (m + k) _ (op_at (show m + k < ops.size by omega)) with
    | skip _ e => rw [e]; exact key _
    | val v _ _ _ e => rw [e]; exact key _
    | read v _ _ _ e => rw [e]; exact key _
    | act v H2 _ _ _ _ _ e => rw [e]; exact key _
    | made vo f d _ _ _ hd e =>
      have := key (f (id0 + (m + k)))
      unfold noteL at this
      rw [hd] at this
      rw [e]
      exact this
omit T in
theorem rkGet_front (bm : Nat) : ∀ (fr rk : List (Nat × Nat × Value)) (t : Nat), (∀ x ∈ fr, bm.testBit x.1 = false) → rkGet bm (fr ++ rk) t = rkGet bm rk t
  | [], rk, t, _ => rfl
  | (j, d, v) :: fr, rk, t, h => by
    rw [List.cons_append]
    show cond (Nat.beq d t && bm.testBit j) (some v) (rkGet bm (fr ++ rk) t) = _
    rw [h (j, d, v) (List.mem_cons_self ..), Bool.and_false, cond_false]
    exact rkGet_front bm fr rk t fun x hx => h x (List.mem_cons_of_mem _ hx)
theorem Trk.knI_eq {i m : Nat} (him : i ≤ m) (hm : m ≤ ops.size) (hi : i < ops.size) : knI ops bef kn0 (Ds m).rk i = knI ops bef kn0 (Ds i).rk i := by
  obtain ⟨k, rfl⟩ := Nat.le.dest him
  obtain ⟨fr, h1, h2⟩ := T.rk_front k hm
  funext t
  unfold knI
  rw [h1, rkGet_front]
  intro x hx
  cases hb : (lgetD bef i).testBit x.1 with
  | false => rfl
  | true =>
    have := T.pre_lt hi hb
    have := h2 x hx
    omega
omit T in
/-- The numbers of what is made stay free until it is laid. -/
theorem freeIds_spec {id0 bm : Nat} {H : Hp} : ∀ (os : List Oper) (i : Nat), freeIds id0 bm H i os = true → ∀ (m : Nat) (o : Oper), os[m]? = some o → isMade o.op = true → bm.testBit (i + m) = false → H.get (id0 + (i + m)) = none
  | [], i, _, m, o, hm, _, _ => by simp at hm
  | a :: r, i, h, m, o, hm, hmd, hb => by
    unfold freeIds at h
    rw [Bool.and_eq_true] at h
    cases m with
    | zero =>
      simp at hm
      subst hm
      rw [Nat.add_zero] at hb ⊢
      have := h.1
      rw [hmd, hb] at this
      simpa using this
    | succ m =>
      rw [show i + (m + 1) = i + 1 + m by omega] at hb ⊢
      exact freeIds_spec r (i + 1) h.2 m o (by simpa using hm) hmd hb
theorem Trk.free (h0 : ∀ j, j < ops.size → (Ds 0).H.get (id0 + j) = none) : ∀ m, m ≤ ops.size → ∀ j o, ops[j]? = some o → isMade o.op = true → Unabs Ds bef m j → (Ds m).H.get (id0 + j) = none
  | 0, _, j, o, hj, _, _ => h0 j (op_lt hj)
  | m + 1, hm, j, o, hj, hmd, hu => by
    have ih := Trk.free h0 m (by omega) j o hj hmd fun a ha => hu a (by omega)
    cases T.step m _ (op_at (show m < ops.size by omega)) with
    | skip _ e => rw [e]; exact ih
    | val v _ _ _ e => rw [e]; exact ih
    | read v _ _ _ e => rw [e]; exact ih
    | made vo f d _ _ _ hd e => rw [e]; exact ih
    | act v H2 _ _ _ hf _ e =>
      have hact : ActS Ds m := by unfold ActS; rw [e]
      have := freeIds_spec ops.toList 0 hf j o (by rw [Array.getElem?_toList]; exact hj) hmd (by rw [Nat.zero_add]; exact hu m (by omega) hact)
      rw [Nat.zero_add] at this
      rw [e]
      exact this
end
end Go.Proofs.YtmhahajadgkolaaGreatDoor
/- The evaluator: a region that draws its order: reads at any stage; the state in between. -/
namespace Go.Proofs.YtmhahajadgkolaaGreatDoor
open Go.RowKit

section
variable {P : Program} {E : Ev} {rec : Job → Er Res} {n : Nat} {ops : Array Oper} {kn0 : Kn} {id0 : Nat} {bef : List Nat} {Ds : Nat → Dr}
theorem sameE_inv {kn : Lk} {H : Hp} {o : Oper} {v : Value} (h : sameE P E kn H o v = true) : valueE P E H kn o = some v := by
  unfold sameE at h
  rw [valueK_eq] at h
  split at h
  · rename_i u hu; rw [hu, eqV_eq u v h]
  · cases h
theorem stagesOk_spec {kn : Lk} {o : Oper} {v : Value} {bm : Nat} {pend : List (Nat × Nat × VO)} : ∀ {ws : List (Nat × Hp)}, stagesOk P E kn o v bm pend ws = true → ∀ j Hb, (j, Hb) ∈ ws → bm.testBit j = true ∨ valueE P E (layPend bm pend Hb) kn o = some v
  | [], _, j, Hb, h => by cases h
  | (a, Ha) :: r, h, j, Hb, hm => by
    unfold stagesOk at h
    rw [Bool.and_eq_true, Bool.or_eq_true] at h
    rcases List.mem_cons.1 hm with e | hm
    · cases e; exact h.1.imp id sameE_inv
    · exact stagesOk_spec h.2 j Hb hm
theorem readsOk_spec {rk : List (Nat × Nat × Value)} {H : Hp} {bm : Nat} {pend : List (Nat × Nat × VO)} : ∀ {rs : List (Nat × Oper × Value)}, readsOk P E ops bef kn0 rk H bm pend rs = true → ∀ i o v, (i, o, v) ∈ rs → bm.testBit i = true ∨ valueE P E (layPend (lgetD bef i) pend H) (knI ops bef kn0 rk i) o = some v
  | [], _, i, o, v, h => by cases h
  | (a, oa, va) :: r, h, i, o, v, hm => by
    unfold readsOk at h
    rw [Bool.and_eq_true, Bool.or_eq_true] at h
    rcases List.mem_cons.1 hm with e | hm
    · cases e; exact h.1.imp id sameE_inv
    · exact readsOk_spec h.2 i o v hm
theorem largest {p : Nat → Prop} {i : Nat} : ∀ c, (∃ a, i < a ∧ a < c ∧ p a) → ∃ a, i < a ∧ a < c ∧ p a ∧ ∀ b, a < b → b < c → ¬ p b
  | 0, ⟨a, _, h, _⟩ => absurd h (Nat.not_lt_zero _)
  | c + 1, ⟨a, h1, h2, h3⟩ => by
    by_cases hc : p c ∧ i < c
    · exact ⟨c, hc.2, Nat.lt_succ_self _, hc.1, fun b hb hb' => absurd hb' (by omega)⟩
    · have : a < c := by
        rcases Nat.lt_or_ge a c with h | h
        · exact h
        · exact absurd ⟨by have : a = c := by omega
                           rw [← this]; exact h3, by omega⟩ hc
      obtain ⟨b, g1, g2, g3, g4⟩ := largest c ⟨a, h1, this, h3⟩
      refine ⟨b, g1, by omega, g3, fun x hx hx' => ?_⟩
      by_cases e : x = c
      · subst e; exact fun hp => hc ⟨hp, by omega⟩
      · exact g4 x hx (by omega)
variable (T : Trk P E rec n ops kn0 id0 bef Ds)
include T
theorem Trk.rs_keep {m : Nat} {x : Nat × Oper × Value} (hx : x ∈ (Ds m).rs) : ∀ k, m + k ≤ ops.size → x ∈ (Ds (m + k)).rs
  | 0, _ => hx
  | k + 1, hk => by
    have ih := Trk.rs_keep hx k (by omega)
    rw [← Nat.add_assoc]
    cases T.step (m + k) _ (op_at (show m + k < ops.size by omega)) with
    | skip _ e => rw [e]; exact ih
    | val v _ _ _ e => rw [e]; exact ih
    | read v _ _ _ e => rw [e]; exact List.mem_cons_of_mem _ ih
    | act v H2 _ _ _ _ _ e => rw [e]; exact ih
    | made vo f d _ _ _ hd e => rw [e]; exact ih
/-- What a read yields, whenever it comes up. -/
theorem Trk.read_at {i c : Nat} {o : Oper} {v : Value} {listed : Array Bool} (hi : ops[i]? = some o) (hv : valueE P E (layPend (lgetD bef i) (Ds i).pend (Ds i).H) (knI ops bef kn0 (Ds i).rk i) o = some v)
    (hst : stagesOk P E (knI ops bef kn0 (Ds i).rk i) o v (lgetD bef i) (Ds i).pend (Ds i).ws = true) (hrs : (i, o, v) ∈ (Ds (i + 1)).rs) (hna : ¬ ActS Ds i)
    (hcl : Closed .any ops listed) (hc : c ≤ ops.size) (hca : c < ops.size → ActS Ds c) (hbe : ∀ a, a < c → ActS Ds a → listed.getD a false = true) (haf : ∀ a, c ≤ a → a < ops.size → ActS Ds a → listed.getD a false = false)
    (hnl : listed.getD i false = false) (hpre : ∀ j, (lgetD bef i).testBit j = true → listed.getD j false = true) :
    ∃ pd : List (Nat × Nat × VO), valueE P E (layPend (lgetD bef i) pd (Ds c).H) (knI ops bef kn0 (Ds i).rk i) o = some v ∧ ∀ x ∈ pd, x.1 < ops.size ∧ x.2.1 = id0 + x.1 ∧ Item Ds id0 x.1 x.2.2 ∧ Unabs Ds bef c x.1 := by
  have hin := op_lt hi
  by_cases h1 : ∃ a, i < a ∧ a < c ∧ ActS Ds a
  · obtain ⟨a, ha1, ha2, ha3, ha4⟩ := largest c h1
    have han : a < ops.size := by omega
    have hrs' : (i, o, v) ∈ (Ds a).rs := by
      obtain ⟨k, hk⟩ := Nat.le.dest (show i + 1 ≤ a from ha1)
      have := T.rs_keep hrs k (by omega)
      rwa [hk] at this
    have hH : (Ds c).H = (Ds (a + 1)).H := T.H_same (by omega) hc fun b hb hb' => ha4 b (by omega) hb'
    have no : (Ds (a + 1)).ws = (Ds a).ws → False := fun h => by
      unfold ActS at ha3
      rw [h] at ha3
      exact absurd (congrArg List.length ha3) (by simp)
    cases T.step a _ (op_at han) with
    | skip _ e => exact (no (by rw [e])).elim
    | made vo f d _ _ _ _ e => exact (no (by rw [e])).elim
    | val v _ _ _ e => exact (no (by rw [e])).elim
    | read v _ _ _ e => exact (no (by rw [e])).elim
    | act v2 H2 _ _ _ _ hr e =>
      rcases readsOk_spec hr i o v hrs' with h2 | h2
      · have hal : listed.getD a false = true := hbe a ha2 ha3
        have := T.bef.closed hcl a _ (op_at han) (fun e he hb => hcl a _ (op_at han) hal e he hb) i h2
        rw [hnl] at this
        cases this
      · rw [T.knI_eq (Nat.le_of_lt ha1) (Nat.le_of_lt han) hin] at h2
        have hp : (Ds (a + 1)).pend = leftPend (lgetD bef a) (Ds a).pend := by rw [e]
        have hH2 : (Ds (a + 1)).H = H2 := by rw [e]
        refine ⟨(Ds (a + 1)).pend, by rw [hp, hH, hH2]; exact h2, fun x hx => ?_⟩
        obtain ⟨j, id, vo⟩ := x
        obtain ⟨g1, g2, g3, g4⟩ := (T.pend_spec (a + 1) (by omega) j id vo).1 hx
        exact ⟨by dsimp only; omega, g3, g2, fun b hb hba => by
          by_cases e : b < a + 1
          · exact g4 b e hba
          · exact absurd hba (ha4 b (by omega) hb)⟩
  · by_cases h2 : c < i
    · have hcA := hca (by omega)
      have hw := (T.ws_spec i (Nat.le_of_lt hin) c (Ds c).H).2 ⟨h2, hcA, rfl⟩
      rcases stagesOk_spec hst c _ hw with h3 | h3
      · have := hpre c h3
        rw [haf c (Nat.le_refl _) (by omega) hcA] at this
        cases this
      · refine ⟨(Ds i).pend, h3, fun x hx => ?_⟩
        obtain ⟨j, id, vo⟩ := x
        obtain ⟨g1, g2, g3, g4⟩ := (T.pend_spec i (Nat.le_of_lt hin) j id vo).1 hx
        exact ⟨by dsimp only; omega, g3, g2, fun b hb hba => g4 b (by omega) hba⟩
    · have hno : ∀ a, i ≤ a → a < c → ¬ ActS Ds a := fun a ha hac hA => by
        by_cases e : a = i
        · exact hna (e ▸ hA)
        · exact h1 ⟨a, by omega, hac, hA⟩
      have hH : (Ds c).H = (Ds i).H := T.H_same (by omega) hc hno
      refine ⟨(Ds i).pend, by rw [hH]; exact hv, fun x hx => ?_⟩
      obtain ⟨j, id, vo⟩ := x
      obtain ⟨g1, g2, g3, g4⟩ := (T.pend_spec i (Nat.le_of_lt hin) j id vo).1 hx
      exact ⟨by dsimp only; omega, g3, g2, fun b hb hba => by
        by_cases e : b < i
        · exact g4 b e hba
        · exact absurd hba (hno b (by omega) hb)⟩
/-- What is made. -/
theorem Trk.item_made {j : Nat} {vo : VO} (hj : j < ops.size) (h : Item Ds id0 j vo) : isMade ops[j].op = true ∧ loneVO vo := by
  have no : (Ds (j + 1)).pend = (Ds j).pend → False := fun e => by
    unfold Item at h
    rw [e] at h
    exact absurd (congrArg List.length h) (by simp)
  cases T.step j _ (op_at hj) with
  | skip _ e => exact (no (by rw [e])).elim
  | val v _ _ _ e => exact (no (by rw [e])).elim
  | read v _ _ _ e => exact (no (by rw [e])).elim
  | made vo2 f d _ hmd hm _ e =>
    unfold Item at h
    rw [e] at h
    have := (List.cons.inj h).1
    cases this
    exact ⟨hmd, madeE_lone hm⟩
  | act v H2 _ _ _ _ _ e =>
    unfold Item at h
    have hp : (Ds (j + 1)).pend = leftPend (lgetD bef j) (Ds j).pend := by rw [e]
    rw [hp] at h
    have hm2 : (j, id0 + j, vo) ∈ leftPend (lgetD bef j) (Ds j).pend := by rw [h]; exact List.mem_cons_self ..
    rw [leftPend_mem] at hm2
    have := ((T.pend_spec j (Nat.le_of_lt hj) j (id0 + j) vo).1 hm2.1).1
    omega
theorem Trk.item_one {j : Nat} {vo vo' : VO} (h : Item Ds id0 j vo) (h' : Item Ds id0 j vo') : vo = vo' := by
  have _ := T
  unfold Item at h h'
  rw [h] at h'
  have := (List.cons.inj h').1
  cases this
  rfl
end
end Go.Proofs.YtmhahajadgkolaaGreatDoor
/- The evaluator: a region that draws its order: the state between two operations. -/
namespace Go.Proofs.YtmhahajadgkolaaGreatDoor
open Go.RowKit

theorem rkGet_mem {bm t : Nat} {v : Value} : ∀ {rk : List (Nat × Nat × Value)}, rkGet bm rk t = some v → ∃ j, (j, t, v) ∈ rk ∧ bm.testBit j = true
  | [], h => by cases h
  | (j, d, u) :: r, h => by
    unfold rkGet at h
    cases hb : (Nat.beq d t && bm.testBit j)
    · rw [hb, cond_false] at h
      obtain ⟨j', h1, h2⟩ := rkGet_mem h
      exact ⟨j', List.mem_cons_of_mem _ h1, h2⟩
    · rw [hb, cond_true] at h
      cases h
      rw [Bool.and_eq_true] at hb
      obtain rfl := Nat.eq_of_beq_eq_true hb.1
      exact ⟨j, List.mem_cons_self .., hb.2⟩
theorem freeSlot_spec {bef : List Nat} {i t : Nat} : ∀ (os : List Oper) (k : Nat), freeSlot bef i t k os = true → ∀ (m : Nat) (o : Oper), os[m]? = some o → o.dst = some t → (lgetD bef (k + m)).testBit i = true
  | [], k, _, m, o, hm, _ => by simp at hm
  | a :: r, k, h, m, o, hm, hd => by
    unfold freeSlot at h
    rw [Bool.and_eq_true] at h
    cases m with
    | zero =>
      simp at hm
      subst hm
      have h1 := h.1
      rw [hd] at h1
      simpa using h1
    | succ m =>
      rw [show k + (m + 1) = k + 1 + m by omega]
      exact freeSlot_spec r (k + 1) h.2 m o (by simpa using hm) hd
/-- The state between two operations: these are done; memory; frame. -/
structure Rt (P : Program) (E : Ev) (w0 : World) (ops : Array Oper) (kn0 : Kn) (id0 : Nat) (bef : List Nat) (Ds : Nat → Dr) (R0 : Rn) (H0 : Hp) (listed : Array Bool) (l : Kn) (R : Rn) (Mem : Hp) (L : List Ent) (c : Nat) : Prop where
  closed : Closed .any ops listed
  size : listed.size = ops.size
  cN : c ≤ ops.size
  cAct : c < ops.size → ActS Ds c
  before : ∀ a, a < c → ActS Ds a → listed.getD a false = true
  after : ∀ a, c ≤ a → a < ops.size → ActS Ds a → listed.getD a false = false
  memn : Mem.n = (Ds c).H.n
  item : ∀ j vo, j < ops.size → Item Ds id0 j vo → listed.getD j false = true → Unabs Ds bef c j → Mem.get (id0 + j) = some vo
  core : ∀ k, (∀ j vo, j < ops.size → Item Ds id0 j vo → listed.getD j false = true → Unabs Ds bef c j → k ≠ id0 + j) → Mem.get k = (Ds c).H.get k
  sr : SR E w0 R Mem L
  rle : R0.le R
  req : ∀ k, k < H0.n → R k = R0 k
  nle : (Ds 0).H.n ≤ Mem.n
  res : ∀ (j : Nat) (o : Oper), ops[j]? = some o → isMade o.op = true → listed.getD j false = false → R (id0 + j) = none
  fr1 : ∀ j d v, (j, d, v) ∈ (Ds ops.size).rk → listed.getD j false = true → ∃ v', look l d = some v' ∧ VR R v v'
  fr2 : ∀ t, (∀ (j : Nat) (o : Oper), ops[j]? = some o → listed.getD j false = true → o.dst ≠ some t) → ∀ v, look kn0 t = some v → ∃ v', look l t = some v' ∧ VR R v v'
section
variable {P : Program} {E : Ev} {w0 : World} {rec : Job → Er Res} {n : Nat} {ops : Array Oper} {kn0 : Kn} {id0 : Nat} {bef : List Nat} {Ds : Nat → Dr} {R0 : Rn} {H0 : Hp} {listed : Array Bool} {l : Kn} {R : Rn} {Mem : Hp} {L : List Ent} {c : Nat}
variable (T : Trk P E rec n ops kn0 id0 bef Ds)
include T
theorem Trk.rk_at {j d : Nat} {v : Value} (h : (j, d, v) ∈ (Ds ops.size).rk) : j < ops.size ∧ (j, d, v) ∈ (Ds (j + 1)).rk ∧ (j, d, v) ∉ (Ds j).rk := by
  obtain ⟨fr, h1, h2⟩ := T.rk_front (m := 0) ops.size (by omega)
  rw [Nat.zero_add, T.rk0, List.append_nil] at h1
  have hj : j < ops.size := by
    rw [h1] at h
    have := (h2 _ h).2
    rwa [Nat.zero_add] at this
  obtain ⟨k, hk⟩ := Nat.le.dest (show j + 1 ≤ ops.size from hj)
  obtain ⟨fr2, g1, g2⟩ := T.rk_front (m := j + 1) k (by omega)
  rw [hk] at g1
  obtain ⟨fr3, e1, e2⟩ := T.rk_front (m := 0) j (by omega)
  rw [Nat.zero_add, T.rk0, List.append_nil] at e1
  refine ⟨hj, ?_, fun hc => ?_⟩
  · rw [g1] at h
    rcases List.mem_append.1 h with h | h
    · have := (g2 _ h).1
      dsimp only at this
      omega
    · exact h
  · rw [e1] at hc
    have := (e2 _ hc).2
    dsimp only at this
    omega
theorem Trk.rk_dst {j d : Nat} {v : Value} (h : (j, d, v) ∈ (Ds ops.size).rk) : ∃ o, ops[j]? = some o ∧ o.dst = some d := by
  obtain ⟨hj, h1, h2⟩ := T.rk_at h
  have key : ∀ u, (j, d, v) ∈ noteL j ops[j] u (Ds j).rk → ops[j].dst = some d := fun u hu => by
    unfold noteL at hu
    split at hu
    · rename_i d' hd'
      rcases List.mem_cons.1 hu with e | hu
      · cases e; exact hd'
      · exact absurd hu h2
    · exact absurd hu h2
  refine ⟨_, op_at hj, ?_⟩
  cases T.step j _ (op_at hj) with
  | skip _ e => rw [e] at h1; exact key _ h1
  | val v _ _ _ e => rw [e] at h1; exact key _ h1
  | read v _ _ _ e => rw [e] at h1; exact key _ h1
  | act v H2 _ _ _ _ _ e => rw [e] at h1; exact key _ h1
  | made vo f d2 _ _ _ hd e =>
    rw [e] at h1
    rcases List.mem_cons.1 h1 with e2 | h1
    · cases e2; exact hd
    · exact absurd h1 h2
/-- What an operation that is ready may see of the frame. -/
theorem Rt.kr (S : Rt P E w0 ops kn0 id0 bef Ds R0 H0 listed l R Mem L c) {i : Nat} {o : Oper} (hi : ops[i]? = some o) (hnl : listed.getD i false = false) (hall : ∀ e ∈ o.after, Region.binds .any e = true → listed.getD e.on false = true) : KR R (knI ops bef kn0 (Ds i).rk i) l := fun t v hv => by
  have hin := op_lt hi
  rw [← T.knI_eq (Nat.le_of_lt hin) (Nat.le_refl _) hin] at hv
  unfold knI at hv
  split at hv
  · rename_i u hu
    cases hv
    obtain ⟨j, h1, h2⟩ := rkGet_mem hu
    exact S.fr1 j t v h1 (T.bef.closed S.closed i o hi hall j h2)
  · rename_i hu
    cases hf : freeSlot bef i t 0 ops.toList
    · rw [hf] at hv; cases hv
    · rw [hf, cond_true, lookE_eq] at hv
      refine S.fr2 t (fun j oj hj hl hd => ?_) v hv
      have := freeSlot_spec ops.toList 0 hf j oj (by rw [Array.getElem?_toList]; exact hj) hd
      rw [Nat.zero_add] at this
      have := T.bef.closed S.closed j oj hj (fun e he hb => S.closed j oj hj hl e he hb) i this
      rw [hnl] at this
      cases this
/-- The frame, after an operation. -/
theorem Rt.frame (S : Rt P E w0 ops kn0 id0 bef Ds R0 H0 listed l R Mem L c) {i : Nat} {o : Oper} (hi : ops[i]? = some o) {R' : Rn} (hle : R.le R') {v' : Value} (hv : ∀ d v, (i, d, v) ∈ (Ds ops.size).rk → VR R' v v') :
    (∀ j d v, (j, d, v) ∈ (Ds ops.size).rk → (listed.setIfInBounds i true).getD j false = true → ∃ v2, look (match o.dst with | some d => (d, v') :: l | none => l) d = some v2 ∧ VR R' v v2) ∧
    (∀ t, (∀ (j : Nat) (o' : Oper), ops[j]? = some o' → (listed.setIfInBounds i true).getD j false = true → o'.dst ≠ some t) → ∀ v, look kn0 t = some v → ∃ v2, look (match o.dst with | some d => (d, v') :: l | none => l) t = some v2 ∧ VR R' v v2) := by
  have hself : (listed.setIfInBounds i true).getD i false = true := by
    have : i < listed.size := by rw [S.size]; exact op_lt hi
    simp [this]
  have mono : ∀ {j}, listed.getD j false = true → (listed.setIfInBounds i true).getD j false = true := fun h => getD_set_true h
  constructor
  · intro j d v hm hl
    obtain ⟨oj, hj, hd⟩ := T.rk_dst hm
    by_cases e : j = i
    · subst e
      have : oj = o := Option.some.inj (hj.symm.trans hi)
      subst this
      rw [hd]
      refine ⟨v', ?_, hv d v hm⟩
      unfold look
      rw [show Nat.beq d d = true from Nat.beq_refl d]
      rfl
    · rw [getD_set_ne false (Ne.symm e)] at hl
      obtain ⟨v2, h1, h2⟩ := S.fr1 j d v hm hl
      refine ⟨v2, ?_, h2.mono hle⟩
      split
      · rename_i d' hd'
        have hne : d' ≠ d := fun ee => e (T.dst j i oj o d hj hi hd (by rw [hd', ee]))
        rw [look_put]
        unfold Lk.put
        rw [show Nat.beq d' d = false by cases hb : Nat.beq d' d with | false => rfl | true => exact absurd (Nat.eq_of_beq_eq_true hb) hne]
        exact h1
      · exact h1
  · intro t ht v hv0
    obtain ⟨v2, h1, h2⟩ := S.fr2 t (fun j o' hj hl => ht j o' hj (mono hl)) v hv0
    refine ⟨v2, ?_, h2.mono hle⟩
    split
    · rename_i d' hd'
      have hne : d' ≠ t := fun ee => ht i o hi hself (by rw [hd', ee])
      rw [look_put]
      unfold Lk.put
      rw [show Nat.beq d' t = false by cases hb : Nat.beq d' t with | false => rfl | true => exact absurd (Nat.eq_of_beq_eq_true hb) hne]
      exact h1
    · exact h1
/-- The part of the memory that an operation sees. -/
theorem Rt.sub (S : Rt P E w0 ops kn0 id0 bef Ds R0 H0 listed l R Mem L c) (h0 : ∀ j, j < ops.size → (Ds 0).H.get (id0 + j) = none) (hM : id0 + ops.size ≤ hpM) {i : Nat} (hpre : ∀ j, (lgetD bef i).testBit j = true → listed.getD j false = true)
    {pd : List (Nat × Nat × VO)} (hpd : ∀ x ∈ pd, x.1 < ops.size ∧ x.2.1 = id0 + x.1 ∧ Item Ds id0 x.1 x.2.2 ∧ Unabs Ds bef c x.1) :
    (layPend (lgetD bef i) pd (Ds c).H).n = Mem.n ∧ (∀ k o, (layPend (lgetD bef i) pd (Ds c).H).get k = some o → Mem.get k = some o) ∧
    ∀ k o, Mem.get k = some o → (layPend (lgetD bef i) pd (Ds c).H).get k = none → ∃ j, j < ops.size ∧ k = id0 + j ∧ Item Ds id0 j o ∧ listed.getD j false = true ∧ Unabs Ds bef c j := by
  have hlt : ∀ x ∈ pd, x.2.1 < hpM := fun x hx => by
    obtain ⟨h1, h2, _⟩ := hpd x hx
    omega
  refine ⟨by rw [layPend_n, S.memn], fun k o hk => ?_, fun k o hk hn => ?_⟩
  · rcases layPend_get (lgetD bef i) pd (Ds c).H k hlt with ⟨h1, _⟩ | ⟨x, hx, h2, h3, h4⟩
    · rw [h1] at hk
      rw [S.core k (fun j vo hj hI hl hu e => ?_)]
      · exact hk
      · have := T.free h0 c S.cN j _ (op_at hj) (T.item_made hj hI).1 hu
        rw [← e, hk] at this
        cases this
    · obtain ⟨g1, g2, g3, g4⟩ := hpd x hx
      rw [h4] at hk
      cases hk
      have := S.item x.1 x.2.2 g1 g3 (hpre _ h2) g4
      rwa [← g2, h3] at this
  · rcases layPend_get (lgetD bef i) pd (Ds c).H k hlt with ⟨h1, _⟩ | ⟨x, hx, h2, h3, h4⟩
    · by_cases hit : ∃ j vo, j < ops.size ∧ Item Ds id0 j vo ∧ listed.getD j false = true ∧ Unabs Ds bef c j ∧ k = id0 + j
      · obtain ⟨j, vo, g1, g2, g3, g4, g5⟩ := hit
        have := S.item j vo g1 g2 g3 g4
        rw [← g5, hk] at this
        cases this
        exact ⟨j, g1, g5, g2, g3, g4⟩
      · have := S.core k fun j vo a1 a2 a3 a4 a5 => hit ⟨j, vo, a1, a2, a3, a4, a5⟩
        rw [this, ← h1, hn] at hk
        cases hk
    · rw [h4] at hn
      cases hn
end
end Go.Proofs.YtmhahajadgkolaaGreatDoor
/- The evaluator: a region that draws its order: each operation, whenever it comes up. -/
namespace Go.Proofs.YtmhahajadgkolaaGreatDoor
open Go.RowKit

/-- What comes next, in the place of the end. -/
def QK (K : Act → World → Prop) (Q : Exit → Act → World → Prop) : Exit → Act → World → Prop
  | .normal => K
  | e => Q e
theorem Oper.wp_QK {P : Program} {o : Oper} {a : Act} {w : World} {K N : Act → World → Prop} {Q : Exit → Act → World → Prop} (h : o.wp P a w N (QK K Q)) : o.wp P a w N Q := by
  unfold Oper.wp at *
  generalize (execOp a.eval o).run P w = r at *
  cases r with
  | ok x w' => cases x <;> exact h
  | halt x w' => cases x <;> exact h
theorem wpOp_of {P : Program} {ops : Array Oper} {Q : Exit → Act → World → Prop} {n : Nat} {w0 : World} {l : Kn} {L : List Ent} {i : Nat} {o : Oper} {K : Act → World → Prop} (hi : ops[i]? = some o) (h : WL P ops (QK K Q) n F0 w0 [o] l L) : ∀ a w, Has n a l → St F0 w0 w L → wpOp P ops Q i K a w := fun a w ha hW => by
  have h1 := h a w ha hW
  unfold wpList at h1
  unfold wpOp
  rw [hi]
  dsimp only
  split at h1
  · rename_i hw
    rw [if_pos hw]
    rcases h1 with h1 | ⟨h1, h2⟩
    · exact .inl (Oper.wp_QK h1)
    · exact .inr ⟨h1, h2⟩
  · rename_i hw
    rw [if_neg hw]
    exact h1
theorem val_ok {P : Program} {ops : Array Oper} {Q : Exit → Act → World → Prop} {n : Nat} {w0 : World} {l : Kn} {L : List Ent} {o : Oper} {rest : List Oper} {v' : Value} (h2 : Val P (fun w => St F0 w0 w L) n l o v') (hg : On ops o l) (hdn : ∀ d, o.dst = some d → Nat.blt d n = true)
    (hc : WL P ops Q n F0 w0 rest (match o.dst with | some d => (d, v') :: l | none => l) L) : WL P ops Q n F0 w0 (o :: rest) l L := by
  cases hd : o.dst with
  | some d => rw [hd] at hc; exact WL.val h2 hg hd (hdn d hd) hc
  | none =>
    rw [hd] at hc
    exact WL.act hg hd fun a w ha hW => ⟨w, L, .inr ⟨v', h2 a w ha hW⟩, hW, hc⟩
theorem nextact (p : Nat → Prop) (N : Nat) : ∀ k m, m + k = N → ∃ c, m ≤ c ∧ c ≤ N ∧ (c < N → p c) ∧ ∀ a, m ≤ a → a < c → ¬ p a
  | 0, m, h => ⟨m, Nat.le_refl _, by omega, fun h' => by omega, fun a h1 h2 => by omega⟩
  | k + 1, m, h => by
    by_cases hp : p m
    · exact ⟨m, Nat.le_refl _, by omega, fun _ => hp, fun a h1 h2 => by omega⟩
    · obtain ⟨c, h1, h2, h3, h4⟩ := nextact p N k (m + 1) (by omega)
      exact ⟨c, by omega, h2, h3, fun a ha hb => by
        by_cases e : a = m
        · exact e ▸ hp
        · exact h4 a (by omega) hb⟩
theorem largest0 {p : Nat → Prop} : ∀ c, (∃ a, a < c ∧ p a) → ∃ a, a < c ∧ p a ∧ ∀ b, a < b → b < c → ¬ p b
  | 0, ⟨a, h, _⟩ => absurd h (Nat.not_lt_zero _)
  | c + 1, ⟨a, h2, h3⟩ => by
    by_cases hc : p c
    · exact ⟨c, Nat.lt_succ_self _, hc, fun b hb hb' => by omega⟩
    · have hac : a ≠ c := fun e => hc (e ▸ h3)
      obtain ⟨b, g2, g3, g4⟩ := largest0 c ⟨a, by omega, h3⟩
      refine ⟨b, by omega, g3, fun x hx hx' => ?_⟩
      by_cases e : x = c
      · exact e ▸ hc
      · exact g4 x hx (by omega)
section
variable {P : Program} {E : Ev} {w0 : World} {rec : Job → Er Res} {n : Nat} {ops : Array Oper} {kn0 : Kn} {id0 : Nat} {bef : List Nat} {Ds : Nat → Dr} {R0 : Rn} {H0 : Hp} {listed : Array Bool} {l : Kn} {R : Rn} {Mem : Hp} {L : List Ent} {c : Nat}
variable (T : Trk P E rec n ops kn0 id0 bef Ds)
include T
theorem Rt.self (S : Rt P E w0 ops kn0 id0 bef Ds R0 H0 listed l R Mem L c) {i : Nat} (hi : i < ops.size) : (listed.setIfInBounds i true).getD i false = true := by
  have _ := T
  have : i < listed.size := by rw [S.size]; exact hi
  simp [this]
/-- An operation that is no act, and makes nothing. -/
theorem Rt.quiet (S : Rt P E w0 ops kn0 id0 bef Ds R0 H0 listed l R Mem L c) {i : Nat} {o : Oper} (hi : ops[i]? = some o) (hr : i ∈ Region.ready .any ops listed) (hna : ¬ ActS Ds i) (hni : ∀ vo, ¬ Item Ds id0 i vo) {v' : Value} (hv : ∀ d v, (i, d, v) ∈ (Ds ops.size).rk → VR R v v') :
    Rt P E w0 ops kn0 id0 bef Ds R0 H0 (listed.setIfInBounds i true) (match o.dst with | some d => (d, v') :: l | none => l) R Mem L c := by
  obtain ⟨f1, f2⟩ := S.frame T hi (Rn.le.refl R) hv
  have back : ∀ {j}, j ≠ i → (listed.setIfInBounds i true).getD j false = true → listed.getD j false = true := fun hji h => by rwa [getD_set_ne false (Ne.symm hji)] at h
  refine ⟨S.closed.set hr, by simp [S.size], S.cN, S.cAct, fun a ha hA => getD_set_true (S.before a ha hA), fun a ha han hA => ?_, S.memn, fun j vo hj hI hl hu => ?_, fun k hk => S.core k fun j vo a1 a2 a3 a4 => hk j vo a1 a2 (getD_set_true a3) a4, S.sr, S.rle, S.req, S.nle, fun j oj hj hmd hl => ?_, f1, f2⟩
  · have : a ≠ i := fun e => hna (e ▸ hA)
    rw [getD_set_ne false (Ne.symm this)]
    exact S.after a ha han hA
  · have : j ≠ i := fun e => hni vo (e ▸ hI)
    exact S.item j vo hj hI (back this hl) hu
  · refine S.res j oj hj hmd ?_
    cases h : listed.getD j false with
    | false => rfl
    | true => rw [getD_set_true h] at hl; cases hl
/-- An operation that makes a block. -/
theorem Rt.madeS (S : Rt P E w0 ops kn0 id0 bef Ds R0 H0 listed l R Mem L c) (hM : id0 + ops.size ≤ hpM) (hid : H0.n ≤ id0) {i : Nat} {o : Oper} (hi : ops[i]? = some o) (hr : i ∈ Region.ready .any ops listed) (hna : ¬ ActS Ds i) {vo : VO} (hI : Item Ds id0 i vo) {R' : Rn} {L' : List Ent} {v' : Value}
    (hle : R.le R') (hoth : ∀ k, k ≠ id0 + i → R' k = R k) (hSR : SR E w0 R' (Mem.put (id0 + i) (some vo)) L') (hv : ∀ d v, (i, d, v) ∈ (Ds ops.size).rk → VR R' v v') :
    Rt P E w0 ops kn0 id0 bef Ds R0 H0 (listed.setIfInBounds i true) (match o.dst with | some d => (d, v') :: l | none => l) R' (Mem.put (id0 + i) (some vo)) L' c := by
  have hin := op_lt hi
  have hlt : id0 + i < hpM := by omega
  obtain ⟨f1, f2⟩ := S.frame T hi hle hv
  have hun := getD_both (mem_ready.1 hr).1
  have back : ∀ {j}, j ≠ i → (listed.setIfInBounds i true).getD j false = true → listed.getD j false = true := fun hji h => by rwa [getD_set_ne false (Ne.symm hji)] at h
  have hu : Unabs Ds bef c i := fun a ha hA => by
    cases hb : (lgetD bef a).testBit i with
    | false => rfl
    | true =>
      have hal := S.before a ha hA
      have han : a < ops.size := by have := S.cN; omega
      have := T.bef.closed S.closed a _ (op_at han) (fun e he hb => S.closed a _ (op_at han) hal e he hb) i hb
      rw [hun] at this
      cases this
  refine ⟨S.closed.set hr, by simp [S.size], S.cN, S.cAct, fun a ha hA => getD_set_true (S.before a ha hA), fun a ha han hA => ?_, S.memn, fun j vo2 hj hI2 hl hu2 => ?_, fun k hk => ?_, hSR, S.rle.trans hle, fun k hk => ?_, S.nle, fun j oj hj hmd hl => ?_, f1, f2⟩
  · have : a ≠ i := fun e => hna (e ▸ hA)
    rw [getD_set_ne false (Ne.symm this)]
    exact S.after a ha han hA
  · by_cases e : j = i
    · subst e
      rw [Hp.get_put hlt, T.item_one hI hI2]
    · rw [Hp.get_put_ne hlt (by omega)]
      exact S.item j vo2 hj hI2 (back e hl) hu2
  · have hki : k ≠ id0 + i := hk i vo hin hI (S.self T hin) hu
    rw [Hp.get_put_ne hlt hki]
    exact S.core k fun j vo a1 a2 a3 a4 => hk j vo a1 a2 (getD_set_true a3) a4
  · rw [hoth k (by omega)]; exact S.req k hk
  · have hji : j ≠ i := fun e => by subst e; rw [S.self T hin] at hl; cases hl
    rw [hoth _ (by omega)]
    refine S.res j oj hj hmd ?_
    cases h : listed.getD j false with
    | false => rfl
    | true => rw [getD_set_true h] at hl; cases hl
theorem Trk.item_noact {j : Nat} {vo : VO} (hj : j < ops.size) (h : Item Ds id0 j vo) : ¬ ActS Ds j := fun hA => by
  have no : (Ds (j + 1)).ws = (Ds j).ws → False := fun e => by
    unfold ActS at hA
    rw [e] at hA
    exact absurd (congrArg List.length hA) (by simp)
  cases T.step j _ (op_at hj) with
  | skip _ e => exact no (by rw [e])
  | val v _ _ _ e => exact no (by rw [e])
  | read v _ _ _ e => exact no (by rw [e])
  | made vo2 f d _ hmd hm _ e => exact no (by rw [e])
  | act v H2 _ _ _ _ _ e =>
    unfold Item at h
    have hp : (Ds (j + 1)).pend = leftPend (lgetD bef j) (Ds j).pend := by rw [e]
    rw [hp] at h
    have hm2 : (j, id0 + j, vo) ∈ leftPend (lgetD bef j) (Ds j).pend := by rw [h]; exact List.mem_cons_self ..
    rw [leftPend_mem] at hm2
    have := ((T.pend_spec j (Nat.le_of_lt hj) j (id0 + j) vo).1 hm2.1).1
    omega
/-- The act that comes up is the next. -/
theorem Rt.act_is (S : Rt P E w0 ops kn0 id0 bef Ds R0 H0 listed l R Mem L c) {i : Nat} {o : Oper} (hi : ops[i]? = some o) (hA : ActS Ds i) (hun : listed.getD i false = false) (hall : ∀ e ∈ o.after, Region.binds .any e = true → listed.getD e.on false = true) : i = c := by
  have hin := op_lt hi
  have h1 : c ≤ i := by
    rcases Nat.lt_or_ge i c with h | h
    · have := S.before i h hA; rw [hun] at this; cases this
    · exact h
  rcases Nat.lt_or_ge c i with h2 | h2
  · exfalso
    have hcA := S.cAct (by omega)
    obtain ⟨a, g1, ⟨g2, g3⟩, g4⟩ := largest0 (p := fun a => c ≤ a ∧ ActS Ds a) i ⟨c, h2, Nat.le_refl _, hcA⟩
    have hp := T.chain hin hA g3 g1 fun b hb hb' hB => g4 b hb hb' ⟨by omega, hB⟩
    have := T.bef.closed S.closed i o hi hall a hp
    rw [S.after a g2 (by omega) g3] at this
    cases this
  · omega
end
end Go.Proofs.YtmhahajadgkolaaGreatDoor
/- The evaluator: a region that draws its order: acts; all of it. -/
namespace Go.Proofs.YtmhahajadgkolaaGreatDoor
open Go.RowKit

section
variable {P : Program} {E : Ev} {w0 : World} {rec : Job → Er Res} {n : Nat} {ops : Array Oper} {kn0 : Kn} {id0 : Nat} {bef : List Nat} {Ds : Nat → Dr} {R0 : Rn} {H0 : Hp} {listed : Array Bool} {l : Kn} {R : Rn} {Mem : Hp} {L : List Ent} {c : Nat}
variable (T : Trk P E rec n ops kn0 id0 bef Ds)
include T
open Classical in
/-- What was made and no act took. -/
theorem Trk.left (h : Nat → Prop) : ∃ pd : List (Nat × Nat × VO), ∀ x, x ∈ pd ↔ x.1 < ops.size ∧ h x.1 ∧ x.2.1 = id0 + x.1 ∧ Item Ds id0 x.1 x.2.2 := by
  refine ⟨(List.range ops.size).filterMap fun j => if hh : h j ∧ ∃ vo, Item Ds id0 j vo then some (j, id0 + j, hh.2.choose) else none, fun x => ?_⟩
  rw [List.mem_filterMap]
  constructor
  · rintro ⟨j, hj, hx⟩
    split at hx
    · rename_i hh
      cases hx
      exact ⟨List.mem_range.1 hj, hh.1, rfl, hh.2.choose_spec⟩
    · cases hx
  · rintro ⟨h1, h2, h3, h4⟩
    obtain ⟨j, id, vo⟩ := x
    dsimp only at h1 h2 h3 h4
    refine ⟨j, List.mem_range.2 h1, ?_⟩
    have hh : h j ∧ ∃ vo, Item Ds id0 j vo := ⟨h2, vo, h4⟩
    rw [dif_pos hh, T.item_one hh.2.choose_spec h4, h3]
/-- The next act. -/
theorem Rt.actS (S : Rt P E w0 ops kn0 id0 bef Ds R0 H0 listed l R Mem L c) (h0 : ∀ j, j < ops.size → (Ds 0).H.get (id0 + j) = none) (hM : id0 + ops.size ≤ hpM) (hb : E.base ≤ id0) (_ : H0.n ≤ id0) (h0n : H0.n ≤ (Ds 0).H.n)
    (hmn : ∀ (j : Nat) (o : Oper), ops[j]? = some o → isMade o.op = true → id0 + ops.size ≤ (Ds 0).H.n) {o : Oper} (hi : ops[c]? = some o) (hr : c ∈ Region.ready .any ops listed) (hA : ActS Ds c) {H2 : Hp} (hH2 : (Ds (c + 1)).H = H2) :
    ∃ L1 M c', L.Perm (L1 ++ M) ∧ SR E w0 R (layPend (lgetD bef c) (Ds c).pend (Ds c).H) L1 ∧ ∀ R' L' X v' w, Rn.ext (layPend (lgetD bef c) (Ds c).pend (Ds c).H) H2 R R' → SR E w0 R' H2 L' → (∀ d v, (c, d, v) ∈ (Ds ops.size).rk → VR R' v v') → St F0 w0 w (L' ++ (M ++ X)) →
      ∃ Mem', Rt P E w0 ops kn0 id0 bef Ds R0 H0 (listed.setIfInBounds c true) (match o.dst with | some d => (d, v') :: l | none => l) R' Mem' (L' ++ M) c' := by
  have hcn := op_lt hi
  obtain ⟨_, o', ho', hall⟩ := mem_ready.1 hr
  have : o' = o := Option.some.inj (ho'.symm.trans hi)
  subst this
  have hpre := T.bef.closed S.closed c _ hi hall
  have hpd : ∀ x ∈ (Ds c).pend, x.1 < ops.size ∧ x.2.1 = id0 + x.1 ∧ Item Ds id0 x.1 x.2.2 ∧ Unabs Ds bef c x.1 := fun x hx => by
    obtain ⟨j, id, vo⟩ := x
    obtain ⟨g1, g2, g3, g4⟩ := (T.pend_spec c S.cN j id vo).1 hx
    exact ⟨by dsimp only; omega, g3, g2, g4⟩
  obtain ⟨s1, s2, s3⟩ := S.sub T h0 hM hpre hpd
  obtain ⟨L1, M, hperm, hSR, hER⟩ := S.sr.take s1 s2 fun k ov hk hn => by
    obtain ⟨j, g1, g2, g3, _⟩ := s3 k ov hk hn
    exact ⟨by omega, (T.item_made g1 g3).2⟩
  obtain ⟨c', c1, c2, c3, c4⟩ := nextact (ActS Ds) ops.size (ops.size - (c + 1)) (c + 1) (by omega)
  refine ⟨L1, M, c', hperm, hSR, fun R' L' X v' w q1 q2 q3 hW => ?_⟩
  obtain ⟨pd, hpd2⟩ := T.left (id0 := id0) fun j => (listed.setIfInBounds c true).getD j false = true ∧ Unabs Ds bef c' j
  have hself := S.self T hcn
  have back : ∀ {j}, j ≠ c → (listed.setIfInBounds c true).getD j false = true → listed.getD j false = true := fun hji h => by rwa [getD_set_ne false (Ne.symm hji)] at h
  have hHc : (Ds c').H = H2 := by rw [← hH2]; exact T.H_same c1 c2 c4
  -- what lies beside
  have beside : ∀ j vo, j < ops.size → Item Ds id0 j vo → (listed.setIfInBounds c true).getD j false = true → Unabs Ds bef c' j → Mem.get (id0 + j) = some vo ∧ (layPend (lgetD bef c) (Ds c).pend (Ds c).H).get (id0 + j) = none := fun j vo hj hI hl hu => by
    have hjc : j ≠ c := fun e => by subst e; exact T.item_noact hj hI hA
    have hu' : Unabs Ds bef c j := fun a ha => hu a (by omega)
    refine ⟨S.item j vo hj hI (back hjc hl) hu', ?_⟩
    rcases layPend_get (lgetD bef c) (Ds c).pend (Ds c).H (id0 + j) (fun x hx => by obtain ⟨a1, a2, _⟩ := hpd x hx; omega) with ⟨h1, _⟩ | ⟨x, hx, h2, h3, h4⟩
    · rw [h1]
      exact T.free h0 c S.cN j _ (op_at hj) (T.item_made hj hI).1 hu'
    · obtain ⟨a1, a2, _⟩ := hpd x hx
      have : x.1 = j := by omega
      rw [this, hu c (by omega) hA] at h2
      cases h2
  have hlt : ∀ x ∈ pd, x.2.1 < hpM := fun x hx => by obtain ⟨a1, _, a2, _⟩ := (hpd2 x).1 hx; omega
  have hnew : ∀ k ov, (layAll pd H2).get k = some ov → H2.get k = some ov ∨ ∃ j, j < ops.size ∧ k = id0 + j ∧ Item Ds id0 j ov ∧ (listed.setIfInBounds c true).getD j false = true ∧ Unabs Ds bef c' j := fun k ov hk => by
    rcases layAll_get pd H2 k hlt with ⟨h1, _⟩ | ⟨x, hx, h2, h3⟩
    · rw [h1] at hk; exact .inl hk
    · rw [h3] at hk
      cases hk
      obtain ⟨a1, ⟨a2, a3⟩, a4, a5⟩ := (hpd2 x).1 hx
      exact .inr ⟨x.1, a1, h2.symm.trans a4, a5, a2, a3⟩
  have hRk : ∀ k ov b q, Mem.get k = some ov → E.base ≤ k → R' k = some (b, q) → R k = some (b, q) := fun k ov b q hk hbk hq => by
    obtain ⟨d, b2, q2, g1, _, _⟩ := (S.sr.own k ov hk hbk).main
    have := q1.le _ _ g1
    rw [hq] at this
    rw [g1, ← this]
  have hG : SR E w0 R' (layAll pd H2) (L' ++ M) := by
    refine q2.give hW (layAll_n pd H2) (fun k ov hk => ?_) (fun j k ov ov' b q r hj nj hk nk hqj hqk => ?_)
    · rcases hnew k ov hk with h | ⟨j, a1, a2, a3, a4, a5⟩
      · exact .inl h
      · obtain ⟨b1, b2⟩ := beside j ov a1 a3 a4 a5
        rw [← a2] at b1 b2
        exact .inr ⟨by omega, (T.item_made a1 a3).2, (hER k ov b1 b2).mono q1.le fun e he => he⟩
    · rcases hnew j ov hj with h | ⟨j1, a1, a2, a3, a4, a5⟩
      · exact absurd h nj
      · rcases hnew k ov' hk with h | ⟨k1, b1, b2, b3, b4, b5⟩
        · exact absurd h nk
        · have e1 := (beside j1 ov a1 a3 a4 a5).1
          have e2 := (beside k1 ov' b1 b3 b4 b5).1
          rw [← a2] at e1
          rw [← b2] at e2
          exact S.sr.inj j k b q r ⟨_, e1⟩ ⟨_, e2⟩ (by omega) (by omega) (hRk j ov b q e1 (by omega) hqj) (hRk k ov' b r e2 (by omega) hqk)
  obtain ⟨f1, f2⟩ := S.frame T hi q1.le q3
  have hn1 : (layPend (lgetD bef c) (Ds c).pend (Ds c).H).n = Mem.n := s1
  refine ⟨layAll pd H2, S.closed.set hr, by simp [S.size], c2, c3, fun a ha haA => ?_, fun a ha han haA => ?_, by rw [layAll_n, hHc], fun j vo hj hI hl hu => ?_, fun k hk => ?_, hG, S.rle.trans q1.le, fun k hk => ?_, ?_, fun j oj hj hmd hl => ?_, f1, f2⟩
  · by_cases e : a = c
    · subst e; exact hself
    · rcases Nat.lt_or_ge a c with h | h
      · exact getD_set_true (S.before a h haA)
      · exact absurd haA (c4 a (by omega) ha)
  · have : a ≠ c := by omega
    rw [getD_set_ne false (Ne.symm this)]
    exact S.after a (by omega) han haA
  · rcases layAll_get pd H2 (id0 + j) hlt with ⟨_, h2⟩ | ⟨x, hx, h2, h3⟩
    · exact absurd rfl (h2 (j, id0 + j, vo) ((hpd2 _).2 ⟨hj, ⟨hl, hu⟩, rfl, hI⟩))
    · obtain ⟨a1, _, a4, a5⟩ := (hpd2 x).1 hx
      have hx1 : x.1 = j := by omega
      rw [hx1] at a5
      rw [h3, T.item_one a5 hI]
  · rcases layAll_get pd H2 k hlt with ⟨h1, _⟩ | ⟨x, hx, h2, h3⟩
    · rw [h1, hHc]
    · obtain ⟨a1, ⟨a2, a3⟩, a4, a5⟩ := (hpd2 x).1 hx
      exact absurd (h2.symm.trans a4) (hk x.1 x.2.2 a1 a5 a2 a3)
  · have := S.nle
    rw [q1.2.2 k (by omega)]
    exact S.req k hk
  · have := S.nle
    have := q1.2.1
    rw [layAll_n]
    omega
  · have hjc : j ≠ c := fun e => by subst e; rw [hself] at hl; cases hl
    have h1 := hmn j oj hj hmd
    have := S.nle
    have := op_lt hj
    rw [q1.2.2 _ (by omega)]
    refine S.res j oj hj hmd ?_
    rwa [getD_set_ne false (Ne.symm hjc)] at hl
end
end Go.Proofs.YtmhahajadgkolaaGreatDoor
/- The evaluator: regions that draw their order. -/
namespace Go.Proofs.YtmhahajadgkolaaGreatDoor
open Go.RowKit

section
variable {P : Program} {E : Ev} {w0 : World} {rec : Job → Er Res} {n : Nat} {ops : Array Oper} {kn0 : Kn} {id0 : Nat} {bef : List Nat} {Ds : Nat → Dr} {R0 : Rn} {H0 : Hp}
theorem all_done (hB : BefIs bef ops) {listed : Array Bool} (hs : listed.size = ops.size) (h : Region.ready .any ops listed = []) : ∀ j, j < ops.size → listed.getD j false = true := by
  intro j
  induction j using Nat.strongRecOn with
  | ind j ih =>
    intro hj
    cases hl : listed.getD j false with
    | true => rfl
    | false =>
      exfalso
      have hm : j ∈ Region.ready .any ops listed := mem_ready.2 ⟨by
        have : j < listed.size := by rw [hs]; exact hj
        simp [this] at hl ⊢
        exact hl, _, op_at hj, fun e he hb => ih e.on (hB.edge j _ (op_at hj) e he hb) (by have := hB.edge j _ (op_at hj) e he hb; omega)⟩
      rw [h] at hm
      cases hm
variable (T : Trk P E rec n ops kn0 id0 bef Ds)
include T
theorem Trk.note_val {i d : Nat} {o : Oper} {v u : Value} (_ : ops[i]? = some o) (hrk : (Ds (i + 1)).rk = noteL i o u (Ds i).rk) (h : (i, d, v) ∈ (Ds ops.size).rk) : v = u := by
  obtain ⟨_, h1, h2⟩ := T.rk_at h
  rw [hrk] at h1
  unfold noteL at h1
  split at h1
  · rcases List.mem_cons.1 h1 with e | h1
    · cases e; rfl
    · exact absurd h1 h2
  · exact absurd h1 h2
theorem Trk.any_ok (hKs : KeysOk P E) (hrec : RecOk P E w0 rec) {Q : Exit → Act → World → Prop} {X : List Ent} (h0 : ∀ j, j < ops.size → (Ds 0).H.get (id0 + j) = none) (hM : id0 + ops.size ≤ hpM) (hb : E.base ≤ id0) (hid : H0.n ≤ id0) (h0n : H0.n ≤ (Ds 0).H.n)
    (hmn : ∀ (j : Nat) (o : Oper), ops[j]? = some o → isMade o.op = true → id0 + ops.size ≤ (Ds 0).H.n)
    (hend : ∀ listed l R Mem L, Rt P E w0 ops kn0 id0 bef Ds R0 H0 listed l R Mem L ops.size → (∀ j, j < ops.size → listed.getD j false = true) → WE Q .normal n F0 w0 l (L ++ X)) :
    ∀ (g : Nat) (listed : Array Bool) (l : Kn) (R : Rn) (Mem : Hp) (L : List Ent) (c : Nat), Rt P E w0 ops kn0 id0 bef Ds R0 H0 listed l R Mem L c → (∃ U : List Nat, U.length ≤ g ∧ ∀ j, j < ops.size → listed.getD j false = false → j ∈ U) →
      ∀ a w, Has n a l → St F0 w0 w (L ++ X) → wpAny P .any ops Q g listed a w := by
  have fin : ∀ (listed : Array Bool) (l : Kn) (R : Rn) (Mem : Hp) (L : List Ent) (c : Nat), Rt P E w0 ops kn0 id0 bef Ds R0 H0 listed l R Mem L c → Region.ready .any ops listed = [] → ∀ a w, Has n a l → St F0 w0 w (L ++ X) → Q .normal a w := fun listed l R Mem L c S hr a w ha hW => by
    have hall := all_done T.bef S.size hr
    have hc : c = ops.size := by
      rcases Nat.lt_or_ge c ops.size with h | h
      · have := S.after c (Nat.le_refl _) h (S.cAct h)
        rw [hall c h] at this
        cases this
      · have := S.cN; omega
    subst hc
    exact hend listed l R Mem L S hall a w ha hW
  intro g
  induction g with
  | zero =>
    intro listed l R Mem L c S hU a w ha hW
    obtain ⟨U, hU1, hU2⟩ := hU
    have hU0 : U = [] := List.length_eq_zero_iff.1 (by omega)
    have hr : Region.ready .any ops listed = [] := List.eq_nil_iff_forall_not_mem.2 fun i hi => by
      obtain ⟨h1, o, h2, _⟩ := mem_ready.1 hi
      have := hU2 i (op_lt h2) (getD_both h1)
      rw [hU0] at this
      cases this
    exact ⟨hr, fin listed l R Mem L c S hr a w ha hW⟩
  | succ g ih =>
    intro listed l R Mem L c S hU a w ha hW
    refine ⟨fun hr => fin listed l R Mem L c S hr a w ha hW, fun i hr => ?_⟩
    obtain ⟨hun0, o, hi, hall⟩ := mem_ready.1 hr
    have hun := getD_both hun0
    have hin := op_lt hi
    have hU' : ∃ U : List Nat, U.length ≤ g ∧ ∀ j, j < ops.size → (listed.setIfInBounds i true).getD j false = false → j ∈ U := by
      obtain ⟨U, hU1, hU2⟩ := hU
      have hiU := hU2 i hin hun
      refine ⟨U.erase i, by rw [List.length_erase_of_mem hiU]; omega, fun j hj hl => ?_⟩
      have hji : j ≠ i := fun e => by subst e; rw [S.self T hin] at hl; cases hl
      rw [getD_set_ne false (Ne.symm hji)] at hl
      exact (List.mem_erase_of_ne hji).2 (hU2 j hj hl)
    have hK := S.kr T hi hun hall
    have hpre := T.bef.closed S.closed i o hi hall
    have hdn := T.dn i o hi
    have noact : (Ds (i + 1)).ws = (Ds i).ws → ¬ ActS Ds i := fun h h' => by
      unfold ActS at h'
      rw [h] at h'
      exact absurd (congrArg List.length h') (by simp)
    have noitem : (Ds (i + 1)).pend = (Ds i).pend → ∀ vo, ¬ Item Ds id0 i vo := fun h vo h' => by
      unfold Item at h'
      rw [h] at h'
      exact absurd (congrArg List.length h') (by simp)
    refine wpOp_of hi ?_ a w ha hW
    have hst := T.step i o hi
    cases hst with
    | skip hg e =>
      obtain ⟨j, dj, want, u, e1, e2, e3, e4⟩ := (guard_ok hK hg).2 rfl
      refine WL.skipAny e1 e2 e3 e4 hdn fun a w ha hW => ?_
      exact ih _ _ _ _ _ _ (S.quiet T hi hr (noact (by rw [e])) (noitem (by rw [e])) fun d v hv => by
        rw [T.note_val hi (by rw [e]) hv]; exact .plain rfl) hU' a w ha hW
    | made vo f d hg hmd hm hd e =>
      have hI : Item Ds id0 i vo := by unfold Item; rw [e]
      have hlt : id0 + i < hpM := by omega
      have h1 := hmn i o hi hmd
      have := S.nle
      refine made_ok S.sr hK hm (S.res i o hi hmd hun) (by omega) (Hp.get_put (H := Mem) hlt (some vo)) (fun j hj => Hp.get_put_ne hlt hj _) (Nat.le_refl _) (show id0 + i < Mem.n by omega) S.sr.lim ((guard_ok hK hg).1 rfl) hd (hdn d hd) fun R' L' v' q1 q2 q3 => ?_
      intro a w ha hW
      have hS := S.madeS T hM hid hi hr (noact (by rw [e])) hI (v' := v') q1.1 q1.2 q2 fun d' v hv => by
        rw [T.note_val (u := f (id0 + i)) hi (by rw [e]; unfold noteL; rw [hd]) hv]; exact q3
      rw [hd] at hS
      exact ih _ _ _ _ _ _ hS hU' a w ha hW
    | val v hg hrd hv e =>
      rw [value_noread hrd _ Mem] at hv
      obtain ⟨v', h1, h2⟩ := value_ok (X := X) hKs S.sr hK hv
      refine val_ok h2 ((guard_ok hK hg).1 rfl) hdn fun a w ha hW => ?_
      exact ih _ _ _ _ _ _ (S.quiet T hi hr (noact (by rw [e])) (noitem (by rw [e])) fun d u hu => by
        rw [T.note_val hi (by rw [e]) hu]; exact h1) hU' a w ha hW
    | read v hg hv hstg e =>
      have hna := noact (by rw [e])
      obtain ⟨pd, hv2, hpd⟩ := T.read_at hi hv hstg (by rw [e]; exact List.mem_cons_self ..) hna S.closed S.cN S.cAct S.before S.after hun hpre
      obtain ⟨s1, s2, s3⟩ := S.sub T h0 hM hpre hpd
      obtain ⟨L1, M, hperm, hSR, _⟩ := S.sr.take s1 s2 fun k ov hk hn => by
        obtain ⟨j, g1, g2, g3, _⟩ := s3 k ov hk hn
        exact ⟨by omega, (T.item_made g1 g3).2⟩
      obtain ⟨v', h1, h2⟩ := value_ok (X := M ++ X) hKs hSR hK hv2
      have h3 : Val P (fun w => St F0 w0 w (L ++ X)) n l o v' := fun a w ha hW => h2 a w ha (hW.perm (by
        rw [← List.append_assoc]
        exact (hperm.append_right X).symm))
      refine val_ok h3 ((guard_ok hK hg).1 rfl) hdn fun a w ha hW => ?_
      exact ih _ _ _ _ _ _ (S.quiet T hi hr hna (noitem (by rw [e])) fun d u hu => by
        rw [T.note_val hi (by rw [e]) hu]; exact h1) hU' a w ha hW
    | act v H2 hg hact hh hf hrd e =>
      have hA : ActS Ds i := by unfold ActS; rw [e]
      obtain rfl := S.act_is T hi hA hun hall
      obtain ⟨L1, M, c', hperm, hSR, hnext⟩ := S.actS T h0 hM hb hid h0n hmn hi hr hA (show (Ds (i + 1)).H = H2 by rw [e])
      have hW1 : ∀ w, St F0 w0 w (L ++ X) → St F0 w0 w (L1 ++ (M ++ X)) := fun w hW => hW.perm (by
        rw [← List.append_assoc]
        exact (hperm.append_right X).symm)
      have hWL : WL P ops (QK (wpAny P .any ops Q g (listed.setIfInBounds i true)) Q) n F0 w0 [o] l (L1 ++ (M ++ X)) := by
        refine act_ok hKs hrec hSR hK hact ((guard_ok hK hg).1 rfl) hdn fun R' L' v' q1 q2 q3 => ?_
        intro a w ha hW
        obtain ⟨Mem', S'⟩ := hnext R' L' X v' w q1 q2 (fun d u hu => by
          rw [T.note_val hi (by rw [e]) hu]; exact q3) hW
        exact ih _ _ _ _ _ _ S' hU' a w ha (by rw [List.append_assoc]; exact hW)
      exact fun a w ha hW => hWL a w ha (hW1 w hW)
end
end Go.Proofs.YtmhahajadgkolaaGreatDoor
/- The evaluator: regions that draw their order; what it yields the true run yields. -/
namespace Go.Proofs.YtmhahajadgkolaaGreatDoor
open Go.RowKit

section
variable {P : Program} {E : Ev} {w0 : World} {rec : Job → Er Res}
theorem look_rkKn {t : Nat} {v : Value} : ∀ {rk : List (Nat × Nat × Value)} {kn : Kn}, look (rkKn rk kn) t = some v → (∃ j, (j, t, v) ∈ rk) ∨ ((∀ j u, (j, t, u) ∉ rk) ∧ look kn t = some v)
  | [], kn, h => .inr ⟨fun j u hm => (by cases hm), h⟩
  | (j, d, u) :: r, kn, h => by
    unfold rkKn at h
    rw [look_put] at h
    unfold Lk.put at h
    cases hb : Nat.beq d t
    · rw [hb, cond_false] at h
      rcases look_rkKn h with ⟨j', h1⟩ | ⟨h1, h2⟩
      · exact .inl ⟨j', List.mem_cons_of_mem _ h1⟩
      · refine .inr ⟨fun j' u' hm => ?_, h2⟩
        rcases List.mem_cons.1 hm with e | hm
        · cases e; rw [Nat.beq_refl] at hb; cases hb
        · exact h1 j' u' hm
    · rw [hb, cond_true] at h
      cases h
      obtain rfl := Nat.eq_of_beq_eq_true hb
      exact .inl ⟨j, List.mem_cons_self ..⟩
theorem Trk.rk_has {n : Nat} {ops : Array Oper} {kn0 : Kn} {id0 : Nat} {bef : List Nat} {Ds : Nat → Dr} (T : Trk P E rec n ops kn0 id0 bef Ds) {j d : Nat} {o : Oper} (hj : ops[j]? = some o) (hd : o.dst = some d) : ∃ v, (j, d, v) ∈ (Ds ops.size).rk := by
  have hjn := op_lt hj
  have h1 : ∃ v, (j, d, v) ∈ (Ds (j + 1)).rk := by
    have key : ∀ u rk, (j, d, u) ∈ noteL j o u rk := fun u rk => by
      unfold noteL
      rw [hd]
      exact List.mem_cons_self ..
    cases T.step j o hj with
    | skip _ e => exact ⟨_, by rw [e]; exact key _ _⟩
    | val v _ _ _ e => exact ⟨_, by rw [e]; exact key _ _⟩
    | read v _ _ _ e => exact ⟨_, by rw [e]; exact key _ _⟩
    | act v H2 _ _ _ _ _ e => exact ⟨_, by rw [e]; exact key _ _⟩
    | made vo f d2 _ _ _ hd2 e =>
      rw [hd] at hd2
      cases hd2
      exact ⟨_, by rw [e]; exact List.mem_cons_self ..⟩
  obtain ⟨v, hv⟩ := h1
  obtain ⟨k, hk⟩ := Nat.le.dest (show j + 1 ≤ ops.size from hjn)
  obtain ⟨fr, g1, _⟩ := T.rk_front (m := j + 1) k (by omega)
  rw [hk] at g1
  exact ⟨v, by rw [g1]; exact List.mem_append_right _ hv⟩
theorem draw_ok (hmix : P.follows .mixedOrders = true) (hKs : KeysOk P E) (hrec : RecOk P E w0 rec) : DrawOk P E w0 rec := by
  intro n id ops kn H kn' H' h
  unfold drawE at h
  generalize hB : (befOk (befE ops.toList) 0 ops.toList && dstsOk [] ops.toList && Nat.ble (H.n + ops.size) hpM && Nat.ble E.base H.n) = B at h
  cases B
  · cases h
  rw [cond_true] at h
  simp only [Bool.and_eq_true] at hB
  obtain ⟨⟨⟨hB1, hB2⟩, hB3⟩, hB4⟩ := hB
  have hB3 := Nat.le_of_ble_eq_true hB3
  have hB4 := Nat.le_of_ble_eq_true hB4
  split at h
  · rename_i Df hdr
    cases h
    obtain ⟨Ds, d1, d2, d3⟩ := trace_of _ _ _ _ hdr
    rw [Array.length_toList] at d2
    have step : ∀ (m : Nat) (o : Oper), ops[m]? = some o → drawStep P E rec n ops kn H.n (befE ops.toList) m o (Ds m) = .ok (Ds (m + 1)) := fun m o hm => by
      have := d3 m o (by rw [Array.getElem?_toList]; exact hm)
      rwa [Nat.zero_add] at this
    have T : Trk P E rec n ops kn H.n (befE ops.toList) Ds :=
      ⟨by rw [d1], by rw [d1], by rw [d1], by rw [d1], fun m o hm => (step_inv (step m o hm)).1, fun m o hm => (step_inv (step m o hm)).2, befOk_is hB1,
        fun m m' o o' d hm hm' => (dstsOk_spec ops.toList [] hB2).2 m m' o o' d (by rw [Array.getElem?_toList]; exact hm) (by rw [Array.getElem?_toList]; exact hm')⟩
    intro R l L X Q hS hK hc a w ha hW
    refine wp_region_any hmix ?_
    have hH0 : (Ds 0).H = cond (ops.any fun o => isMade o.op) ⟨H.n + ops.size, H.t⟩ H := by rw [d1]
    have hget0 : ∀ k, (Ds 0).H.get k = H.get k := fun k => by rw [hH0]; cases (ops.any fun o => isMade o.op) <;> rfl
    have hn0 : H.n ≤ (Ds 0).H.n := by rw [hH0]; cases (ops.any fun o => isMade o.op) <;> simp
    have hlim : (Ds 0).H.n ≤ hpM := by
      rw [hH0]
      cases (ops.any fun o => isMade o.op)
      · exact hS.lim
      · exact hB3
    have hmn : ∀ (j : Nat) (o : Oper), ops[j]? = some o → isMade o.op = true → H.n + ops.size ≤ (Ds 0).H.n := fun j o hj hmd => by
      have : (ops.any fun o => isMade o.op) = true := Array.any_eq_true'.2 ⟨o, Array.mem_of_getElem? hj, hmd⟩
      rw [hH0, this]
      exact Nat.le_refl _
    have h0 : ∀ j, j < ops.size → (Ds 0).H.get (H.n + j) = none := fun j _ => by
      rw [hget0]
      cases hg : H.get (H.n + j) with
      | none => rfl
      | some o =>
        obtain ⟨e, b, q, g1, _, _⟩ := (hS.own _ o hg (by omega)).main
        rw [hS.new _ (by omega)] at g1
        cases g1
    have hS0 : SR E w0 R (Ds 0).H L := by
      refine ⟨hlim, fun k hk => hS.new k (by omega), hS.gl, fun k o hk => hS.own k o (by rw [← hget0]; exact hk), fun j k b q r hj hk => ?_, fun k o hk => hS.old k o (by rw [← hget0]; exact hk)⟩
      rw [hget0] at hj hk
      exact hS.inj j k b q r hj hk
    obtain ⟨c, _, c2, c3, c4⟩ := nextact (ActS Ds) ops.size ops.size 0 (by omega)
    have hHc : (Ds c).H = (Ds 0).H := T.H_same (Nat.zero_le _) c2 c4
    have hrep : ∀ j, (Array.replicate ops.size false).getD j false = false := getD_replicate_false _
    have nol : ∀ {j} {p : Prop}, (Array.replicate ops.size false).getD j false = true → p := fun h => by rw [hrep] at h; cases h
    have S0 : Rt P E w0 ops kn H.n (befE ops.toList) Ds R H (Array.replicate ops.size false) l R (Ds 0).H L c :=
      ⟨fun j oj _ hl => nol hl, by simp, c2, c3, fun a ha hA => absurd hA (c4 a (Nat.zero_le _) ha), fun a _ _ _ => hrep a, by rw [hHc], fun j vo _ _ hl => nol hl, fun k _ => by rw [hHc], hS0, Rn.le.refl R, fun _ _ => rfl, Nat.le_refl _,
        fun j o _ _ _ => hS.new _ (by omega), fun j d v _ hl => nol hl, fun t _ v hv => hK t v hv⟩
    refine T.any_ok hKs hrec (R0 := R) (H0 := H) h0 hB3 hB4 (Nat.le_refl _) hn0 hmn (fun listed l2 R2 Mem L2 S hall => ?_) ops.size _ l R (Ds 0).H L c S0 ⟨List.range ops.size, by simp, fun j hj _ => List.mem_range.2 hj⟩ a _ ha (hW.drew)
    rw [← d2] at hc
    have hpd : ∀ x ∈ (Ds ops.size).pend, x.2.1 < hpM := fun x hx => by
      obtain ⟨j, i2, vo⟩ := x
      obtain ⟨g1, _, g3, _⟩ := (T.pend_spec ops.size (Nat.le_refl _) j i2 vo).1 hx
      dsimp only
      omega
    have hn : (layAll (Ds ops.size).pend (Ds ops.size).H).n = Mem.n := by rw [layAll_n, S.memn]
    refine hc R2 l2 L2 ⟨S.rle, ?_, S.req⟩ (S.sr.congr hn fun k => ?_) fun t v hv => ?_
    · have := S.nle
      show H.n ≤ (layAll (Ds ops.size).pend (Ds ops.size).H).n
      omega
    · rcases layAll_get (Ds ops.size).pend (Ds ops.size).H k hpd with ⟨h1, h2⟩ | ⟨x, hx, h2, h3⟩
      · rw [h1]
        refine (S.core k fun j vo a1 a2 a3 a4 e => ?_).symm
        exact h2 (j, H.n + j, vo) ((T.pend_spec ops.size (Nat.le_refl _) j _ vo).2 ⟨a1, a2, rfl, a4⟩) e.symm
      · obtain ⟨j, i2, vo⟩ := x
        obtain ⟨g1, g2, g3, g4⟩ := (T.pend_spec ops.size (Nat.le_refl _) j i2 vo).1 hx
        have := S.item j vo g1 g2 (hall j g1) g4
        dsimp only at h2 h3
        rw [h3, ← h2, g3, this]
    · rcases look_rkKn hv with ⟨j, hj⟩ | ⟨h1, h2⟩
      · exact S.fr1 j t v hj (hall j (T.rk_at hj).1)
      · refine S.fr2 t (fun j o hj _ hd => ?_) v h2
        obtain ⟨u, hu⟩ := T.rk_has hj hd
        exact h1 j u hu
  · cases h
/-- What the evaluator yields, the true run yields. -/
theorem ev_ok (hmix : P.follows .mixedOrders = true) (hKs : KeysOk P E) (k : Nat) : RecOk P E w0 (runE P E k) :=
  run_ok hKs (fun _ hr => draw_ok hmix hKs hr) k
end
end Go.Proofs.YtmhahajadgkolaaGreatDoor
/- The evaluator: this program's maps' keys. -/
namespace Go.Proofs.YtmhahajadgkolaaGreatDoor
open Go.RowKit

/-- What may be a key: what has a form as bytes, is plain, and is equal to itself. -/
def kbP (P : Program) (kt : Nat) : Value → Bool := fun v => (keyOf P kt v).isSome && (eqV v v && plainB v)
def KDeep (P : Program) (kt : Nat) : Value → Prop := fun v => ∃ l, keyOf P kt v = some l
theorem KeyP.sub {P : Program} {kt : Nat} {K K' : Value → Prop} (h : KeyP P kt K) (hK : ∀ v, K' v → K v) : KeyP P kt K' :=
  ⟨fun b w v hv => h.check b w v (hK v hv), fun w x es hx he => h.find w x es (hK x hx) fun e hm => hK _ (he e hm), fun w v hv => h.stays w v (hK v hv)⟩
theorem kbP_key {P : Program} {kt : Nat} (L : WideMaps.KeyLaw P kt) : KeyP P kt (fun v => kbP P kt v = true) :=
  KeyP.sub (K := KDeep P kt) ⟨fun b w v ⟨l, h⟩ => L.check w b h, fun w x es ⟨l, h⟩ he => L.find w h es he, fun w v ⟨l, h⟩ => L.stays w h⟩ fun v hv => by
    unfold kbP at hv
    rw [Bool.and_eq_true] at hv
    cases hk : keyOf P kt v with
    | none => rw [hk] at hv; cases hv.1
    | some l => exact ⟨l, hk⟩
/-- A key's type is as the evaluator says. -/
structure KeyOk1 (P : Program) (kt : Nat) (kb : Value → Bool) : Prop where
  key : KeyP P kt (fun v => kb v = true)
  plain : ∀ v, kb v = true → plainB v = true
  eq : ∀ a b, kb a = true → kb b = true → (eqV a b = true ↔ a = b)
theorem kbP_ok {P : Program} {kt : Nat} (L : WideMaps.KeyLaw P kt) : KeyOk1 P kt (kbP P kt) where
  key := kbP_key L
  plain v hv := by
    unfold kbP at hv
    simp only [Bool.and_eq_true] at hv
    exact hv.2.2
  eq a b ha hb := by
    unfold kbP at ha
    simp only [Bool.and_eq_true] at ha
    exact ⟨eqV_eq a b, fun e => e ▸ ha.2.1⟩
def kbI (k : IntKind) : Value → Bool
  | .int k' _ => decide (k' = k)
  | _ => false
theorem kbI_inv {k : IntKind} {v : Value} (h : kbI k v = true) : ∃ x, v = .int k x := by
  unfold kbI at h
  split at h
  · rename_i k' x; exact ⟨x, by rw [of_decide_eq_true h]⟩
  · cases h
theorem kbI_ok {P : Program} {kt : Nat} {k : IntKind} (h : P.underlying kt = some (.int k)) : KeyOk1 P kt (kbI k) where
  key := KeyP.sub (keyI h) fun v hv => kbI_inv hv
  plain v hv := by obtain ⟨x, rfl⟩ := kbI_inv hv; rfl
  eq a b ha hb := by
    obtain ⟨x, rfl⟩ := kbI_inv ha
    obtain ⟨y, rfl⟩ := kbI_inv hb
    exact ⟨eqV_eq _ _, fun e => by cases e; simp [eqV]⟩
def AllK (P : Program) : List (Nat × (Value → Bool)) → Prop
  | [] => True
  | (g, k) :: r => KeyOk1 P g k ∧ AllK P r
theorem allK_get {P : Program} : ∀ {ks : List (Nat × (Value → Bool))}, AllK P ks → ∀ kt kb, keyGet ks kt = some kb → KeyOk1 P kt kb
  | [], _, kt, kb, h => by cases h
  | (g, k) :: r, hp, kt, kb, h => by
    unfold keyGet at h
    cases hb : Nat.beq g kt
    · rw [hb, cond_false] at h
      exact allK_get hp.2 kt kb h
    · rw [hb, cond_true] at h
      cases h
      rw [← Nat.eq_of_beq_eq_true hb]
      exact hp.1
theorem keysOk_of {P : Program} {E : Ev} (h : AllK P E.keys) : KeysOk P E where
  key kt kb hk := (allK_get h kt kb hk).key
  plain kt kb v hk hv := (allK_get h kt kb hk).plain v hv
  eq kt kb a b hk ha hb := (allK_get h kt kb hk).eq a b ha hb
theorem k1_84 : KeyOk1 Tryz.prog 84 (kbP Tryz.prog 84) := kbP_ok (deep_law (m := 4) (by decide) (by kernel_rfl) (by kernel_rfl) (by kernel_rfl))
theorem k1_82 : KeyOk1 Tryz.prog 82 (kbP Tryz.prog 82) := kbP_ok (deep_law (m := 4) (by decide) (by kernel_rfl) (by kernel_rfl) (by kernel_rfl))
theorem k1_220 : KeyOk1 Tryz.prog 220 (kbP Tryz.prog 220) := kbP_ok (deep_law (m := 4) (by decide) (by kernel_rfl) (by kernel_rfl) (by kernel_rfl))
theorem k1_3 : KeyOk1 Tryz.prog 3 (kbI .i64) := kbI_ok Tryz.underlying3
theorem k1_30 : KeyOk1 Tryz.prog 30 (kbI .u32) := kbI_ok Tryz.underlying30
noncomputable def EK : List (Nat × (Value → Bool)) := [(84, kbP Tryz.prog 84), (82, kbP Tryz.prog 82), (3, kbI .i64), (30, kbI .u32), (220, kbP Tryz.prog 220)]
theorem keys_ok {b : Nat} {gl : List (Nat × Nat)} : KeysOk Tryz.prog ⟨b, gl, EK⟩ :=
  keysOk_of ⟨k1_84, k1_82, k1_3, k1_30, k1_220, trivial⟩
end Go.Proofs.YtmhahajadgkolaaGreatDoor
/- The evaluator: closed calls with nothing in memory. -/
namespace Go.Proofs.YtmhahajadgkolaaGreatDoor
open Go.RowKit

noncomputable def Ez : Ev := ⟨0, [], EK⟩
def Hz : Hp := ⟨0, .e⟩
theorem Hz_get (k : Nat) : Hz.get k = none := by
  unfold Hp.get
  show cond _ (Tr.get hpD .e k) none = none
  rw [Tr.get_e]
  cases Nat.blt k hpM <;> rfl
theorem srz {w : World} : SR Ez w (fun _ => none) Hz [] := by
  refine ⟨by decide, fun k hk => rfl, fun g k hg => (by cases hg), fun k o hk hb => ?_, fun j k b q r hj hk hbj hbk _ _ => ?_, fun k o hk hb => ?_⟩
  · rw [Hz_get] at hk; cases hk
  · obtain ⟨o, ho⟩ := hj
    rw [Hz_get] at ho; cases ho
  · rw [Hz_get] at hk; cases hk
def isV (v : Value) (r : Er Res) : Bool := match r with
  | .ok (.val u _) => eqV u v && plainB u
  | _ => false
theorem ev_call {k f : Nat} {vs : List Value} {v : Value} (w : World) (h : isV v (runE Tryz.prog Ez k (.call f vs Hz)) = true) (hp : plainL vs = true) : Calls Tryz.prog f vs.toArray w fun e w' => e = .returned v ∧ Frm (fun _ => False) w w' := by
  unfold isV at h
  split at h
  · rename_i u H' hr
    rw [Bool.and_eq_true] at h
    obtain ⟨h1, h2⟩ := h
    obtain rfl := eqV_eq _ _ h1
    have hc := ((ev_ok (w0 := w) mixed keys_ok k).call _ _ _ _ _ hr).2
    refine (hc _ [] [] w _ srz (VRs.plain hp) (St.start _ _)).mono ?_
    rintro e w' ⟨R', L', v', rfl, _, _, hv, hW⟩
    rw [hv.same h2]
    exact ⟨rfl, hW.frm⟩
  · cases h
end Go.Proofs.YtmhahajadgkolaaGreatDoor
/- sdx: closed calls, run by the kernel: lists that are empty; an exchange that is none. -/
namespace Go.Proofs.YtmhahajadgkolaaGreatDoor
open Go.RowKit

theorem sort0_c (w : World) : Calls Tryz.prog 63 #[.slice none 0 0, .func (.func 64) #[] #[]] w fun e w' => e = .returned (.tuple #[]) ∧ Frm (fun _ => False) w w' :=
  ev_call (k := 50) (vs := [.slice none 0 0, .func (.func 64) #[] #[]]) w (by decide +kernel) rfl
theorem compact0_c (w : World) : Calls Tryz.prog 65 #[.slice none 0 0] w fun e w' => e = .returned (.slice none 0 0) ∧ Frm (fun _ => False) w w' :=
  ev_call (k := 50) (vs := [.slice none 0 0]) w (by decide +kernel) rfl
theorem pchk0_c (w : World) : Calls Tryz.prog 150 #[.agg #[.int .u32 0, .int .i64 0]] w fun e w' => e = .returned (.int .i64 0) ∧ Frm (fun _ => False) w w' :=
  ev_call (k := 50) (vs := [.agg #[.int .u32 0, .int .i64 0]]) w (by decide +kernel) rfl
end Go.Proofs.YtmhahajadgkolaaGreatDoor
