/- More operations: literals, copy, append, strings, tests for equality. -/
import Derived.Test.YtodaanhhnjkncaaDoorMem
import Derived.ChangeKeysEq
namespace Go.Proofs.YtodaanhhnjkncaaDoor
open Go.RowKit

section
variable {P : Program} {C : World → Prop} {ops : Array Oper} {Q : Exit → Act → World → Prop} {n : Nat} {p : Nat → Prop} {w0 : World} {o : Oper} {rest : List Oper} {l : Kn} {L : List Ent}

theorem mask_i64 {i : Nat} {x c m : Int} (hi : i ≤ 63) (hc : (2 : Int) ^ i - 1 = c) (hm : (2 : Int) ^ i = m) (h0 : 0 ≤ x) (h1 : x ≤ 9223372036854775807) : bits .and .i64 x c = x % m := by
  subst hc hm; exact bits_mask .i64 63 (by decide) wraps_i64 i hi x h0 (by omega)
theorem mask_u8 {i : Nat} {x c m : Int} (hi : i ≤ 8) (hc : (2 : Int) ^ i - 1 = c) (hm : (2 : Int) ^ i = m) (h0 : 0 ≤ x) (h1 : x ≤ 255) : bits .and .u8 x c = x % m := by
  subst hc hm; exact bits_mask .u8 8 (by decide) wraps_u8 i hi x h0 (by omega)
theorem mask_u32 {i : Nat} {x c m : Int} (hi : i ≤ 32) (hc : (2 : Int) ^ i - 1 = c) (hm : (2 : Int) ^ i = m) (h0 : 0 ≤ x) (h1 : x ≤ 4294967295) : bits .and .u32 x c = x % m := by
  subst hc hm; exact bits_mask .u32 32 (by decide) wraps_u32 i hi x h0 (by omega)
theorem wraps_u64' (n : Int) (h₀ : 0 ≤ n) (h₁ : n < 2 ^ 64) : IntKind.u64.wrap n = n := by rw [IntKind.wrap_u64]; omega
theorem mask_u64 {i : Nat} {x c m : Int} (hi : i ≤ 64) (hc : (2 : Int) ^ i - 1 = c) (hm : (2 : Int) ^ i = m) (h0 : 0 ≤ x) (h1 : x ≤ 18446744073709551615) : bits .and .u64 x c = x % m := by
  subst hc hm; exact bits_mask .u64 64 (by decide) wraps_u64' i hi x h0 (by omega)

theorem mask_i64' {i : Nat} {x c m : Int} (hi : i ≤ 62) (hc : (2 : Int) ^ i - 1 = c) (hm : (2 : Int) ^ i = m) : bits .and .i64 x c = x % m := by
  subst hc hm
  have hp : (2 : Int) ^ i = ((2 ^ i : Nat) : Int) := by simp
  have hpos : 0 < 2 ^ i := Nat.two_pow_pos i
  have hle : 2 ^ i ≤ 2 ^ 62 := Nat.pow_le_pow_right (by decide) hi
  have hc : ((2 : Int) ^ i - 1) = ((2 ^ i - 1 : Nat) : Int) := by rw [Int.natCast_sub hpos]; simp
  have key : (BitVec.ofInt 64 x &&& BitVec.ofInt 64 ((2 ^ i - 1 : Nat) : Int)).toNat = (x % 18446744073709551616).toNat % 2 ^ i := by
    rw [BitVec.toNat_and, BitVec.toNat_ofInt, BitVec.ofInt_natCast, BitVec.toNat_ofNat, Nat.mod_eq_of_lt (a := 2 ^ i - 1) (by omega), Nat.and_two_pow_sub_one_eq_mod]
    rfl
  rw [hc]
  show IntKind.i64.wrap ((BitVec.ofInt 64 x &&& BitVec.ofInt 64 ((2 ^ i - 1 : Nat) : Int)).toNat : Int) = _
  rw [key]
  have h2 : ((x % 18446744073709551616).toNat : Int) = x % 18446744073709551616 := Int.toNat_of_nonneg (by omega)
  have h3 : (((x % 18446744073709551616).toNat % 2 ^ i : Nat) : Int) = x % ((2 ^ i : Nat) : Int) := by
    rw [Int.natCast_emod, h2]
    refine Int.emod_emod_of_dvd x ?_
    have : (18446744073709551616 : Int) = ((2 ^ 64 : Nat) : Int) := by decide
    rw [this]
    exact Int.natCast_dvd_natCast.2 (Nat.pow_dvd_pow 2 (by omega : i ≤ 64))
  rw [h3, ← hp]
  have h4 := Int.emod_nonneg x (b := (2 : Int) ^ i) (by rw [hp]; omega)
  have h5 := Int.emod_lt_of_pos x (b := (2 : Int) ^ i) (by rw [hp]; omega)
  have h6 : (2 : Int) ^ i ≤ 4611686018427387904 := by rw [hp]; omega
  rw [IntKind.wrap_i64]
  omega
theorem andNot_u32_1 {x : Int} (h0 : 0 ≤ x) (h1 : x ≤ 4294967295) : bits .andNot .u32 x 1 = x - x % 2 := by
  obtain ⟨a, rfl⟩ := Int.eq_ofNat_of_zero_le h0
  have e : (BitVec.ofNat 32 a &&& ~~~ (1#32)) = (BitVec.ofNat 32 a >>> 1) <<< 1 := by
    apply BitVec.eq_of_getLsbD_eq
    intro j hj
    rw [BitVec.getLsbD_and, BitVec.getLsbD_not, BitVec.getLsbD_one, BitVec.getLsbD_shiftLeft, BitVec.getLsbD_ushiftRight]
    cases j with
    | zero => simp
    | succ j => simp [hj]; rw [show 1 + j = j + 1 by omega]; rfl
  show IntKind.u32.wrap ((BitVec.ofInt 32 (a : Int) &&& ~~~ (BitVec.ofInt 32 1)).toNat : Int) = _
  rw [BitVec.ofInt_natCast]
  have e1 : BitVec.ofInt 32 1 = 1#32 := rfl
  rw [e1, e, BitVec.toNat_shiftLeft, BitVec.toNat_ushiftRight, BitVec.toNat_ofNat, IntKind.wrap_u32]
  have : a % 2 ^ 32 = a := Nat.mod_eq_of_lt (by omega)
  rw [this, Nat.shiftLeft_eq, Nat.shiftRight_eq_div_pow]
  omega

theorem nat_xor16 {x : Nat} (h : x ≤ 65535) : 65535 ^^^ x = 65535 - x := by
  have h1 : (BitVec.allOnes 16 ^^^ BitVec.ofNat 16 x).toNat = 65535 ^^^ x := by
    rw [BitVec.toNat_xor, BitVec.toNat_ofNat, Nat.mod_eq_of_lt (by omega)]; rfl
  have h2 : BitVec.allOnes 16 ^^^ BitVec.ofNat 16 x = ~~~ BitVec.ofNat 16 x := by
    rw [BitVec.allOnes_xor]
  rw [h2, BitVec.toNat_not, BitVec.toNat_ofNat, Nat.mod_eq_of_lt (by omega)] at h1
  omega
theorem xor16_i64 {x : Int} (h0 : 0 ≤ x) (h1 : x ≤ 65535) : bits .xor .i64 65535 x = 65535 - x := by
  obtain ⟨a, rfl⟩ := Int.eq_ofNat_of_zero_le h0
  show IntKind.i64.wrap ((BitVec.ofInt 64 65535 ^^^ BitVec.ofInt 64 (a : Int)).toNat : Int) = _
  have e1 : BitVec.ofInt 64 65535 = BitVec.ofNat 64 65535 := rfl
  rw [BitVec.ofInt_natCast, e1, BitVec.toNat_xor, BitVec.toNat_ofNat, BitVec.toNat_ofNat, Nat.mod_eq_of_lt (by omega), Nat.mod_eq_of_lt (by omega), nat_xor16 (by omega), IntKind.wrap_i64]
  omega

/-! ### Struct and array literals -/
def evp (l : Kn) : List (Nat × Operand) → Option (List (Nat × Value))
  | [] => some []
  | (i, x) :: xs => match ev l x, evp l xs with | some v, some vs => some ((i, v) :: vs) | _, _ => none
theorem Has.evp {a : Act} (h : Has n a l) : ∀ {xs : List (Nat × Operand)} {vs : List (Nat × Value)}, evp l xs = some vs → xs.map (fun (i, x) => (i, a.eval x)) = vs
  | [], vs, hx => by simpa [YtodaanhhnjkncaaDoor.evp] using hx
  | (i, x) :: xs, vs, hx => by
    unfold YtodaanhhnjkncaaDoor.evp at hx
    split at hx
    · rename_i v vs' h1 h2
      simp only [Option.some.injEq] at hx
      subst hx
      simp only [List.map_cons, h.ev h1, h.evp h2]
    · cases hx
def fillL (place : Nat → Option (Nat × Nat)) (cs : List Value) : List (Nat × Value) → Option (List Value)
  | [] => some cs
  | (i, v) :: r => match place i with
    | none => none
    | some (off, sz) => cond (Nat.beq v.cells.toList.length sz && Nat.ble (off + sz) cs.length) (fillL place (splice cs off v.cells.toList) r) none
theorem fold_splice (off : Nat) : ∀ (vs : List Value) (j : Nat) (cs : List Value), off + j + vs.length ≤ cs.length →
    (vs.zipIdx j).foldl (fun (c : Array Value) (x : Value × Nat) => c.setIfInBounds (off + x.2) x.1) cs.toArray = (splice cs (off + j) vs).toArray
  | [], j, cs, _ => by simp [splice_nil]
  | v :: vs, j, cs, h => by
    simp only [List.length_cons] at h
    simp only [List.zipIdx_cons, List.foldl_cons]
    have e : cs.toArray.setIfInBounds (off + j) v = (cs.set (off + j) v).toArray := by simp
    rw [e, fold_splice off vs (j + 1) (cs.set (off + j) v) (by rw [List.length_set]; omega), ← splice_cons cs (off + j) v vs (by omega)]
    rfl
theorem fill_eq (place : Nat → Option (Nat × Nat)) : ∀ (ps : List (Nat × Value)) (cs out : List Value), fillL place cs ps = some out → Instr.fill place cs.toArray ps = some out.toArray
  | [], cs, out, h => by simp only [fillL, Option.some.injEq] at h; subst h; rfl
  | (i, v) :: r, cs, out, h => by
    unfold fillL at h
    unfold Instr.fill
    cases hp : place i with
    | none => rw [hp] at h; cases h
    | some q =>
      obtain ⟨off, sz⟩ := q
      rw [hp] at h
      simp only at h ⊢
      cases hb : (Nat.beq v.cells.toList.length sz && Nat.ble (off + sz) cs.length) with
      | false => rw [hb] at h; cases h
      | true =>
        rw [hb] at h
        simp only [cond_true] at h
        simp only [Bool.and_eq_true] at hb
        have h1 := Nat.eq_of_beq_eq_true hb.1
        have h2 := Nat.le_of_ble_eq_true hb.2
        have h3 : v.cells.size = sz := by simpa using h1
        rw [if_neg (by simp [h3]; omega)]
        have hf := fold_splice off v.cells.toList 0 cs (by omega)
        have e : v.cells.zipIdx.foldl (fun (c : Array Value) (x : Value × Nat) => c.setIfInBounds (off + x.2) x.1) cs.toArray = (splice cs off v.cells.toList).toArray := by
          rw [← Array.foldl_toList, Array.toList_zipIdx]; simpa using hf
        exact (congrArg (fun c => Instr.fill place c r) e).trans (fill_eq place r _ out h)
/-- Where a struct's fields lie: offset and size, field by field. -/
def Places (P : Program) (t : TypeId) (pl : List (Nat × Nat)) : Prop := ∃ fs, P.underlying t = some (.struct fs) ∧ ∀ w, (fs.mapM (fun f => do pure (f.offset, ← sizeOf f.type) : Field → Sem (Nat × Nat))).run P w = .ok pl.toArray w
theorem v_build {t : TypeId} {parts : List (Nat × Operand)} {vs : List (Nat × Value)} {zs out : List Value} {pl : List (Nat × Nat)} (ho : o.op = .build t parts.toArray) (hx : evp l parts = some vs) (hz : Zero P t zs) (hp : Places P t pl)
    (hf : fillL (fun i => pl[i]?) zs vs = some out) : Val P C n l o (.agg out.toArray) := fun a w ha _ => by
  obtain ⟨z, hz, hzs⟩ := hz
  obtain ⟨fs, hu, hm⟩ := hp
  have h1 := ha.evp hx
  have h2 := fill_eq _ _ _ _ hf
  have hzc : z.cells = zs.toArray := by rw [← hzs]
  have hm' : ∀ w, (fs.mapM (fun f => Prod.mk f.offset <$> sizeOf f.type)).run P w = .ok pl.toArray w := fun w => by
    have := hm w
    simpa using this
  unfold execOp
  simp [ho, Instr.build, run_zeroValue hz, run_underlying hu, hm', hzc, h1, h2]
theorem v_buildA {t e m s : Nat} {parts : List (Nat × Operand)} {vs : List (Nat × Value)} {zs out : List Value} (ho : o.op = .build t parts.toArray) (hx : evp l parts = some vs) (hz : Zero P t zs) (hu : P.underlying t = some (.array m e)) (hs : (P.info? e).map (·.size) = some s)
    (hf : fillL (fun i => some (i * s, s)) zs vs = some out) : Val P C n l o (.agg out.toArray) := fun a w ha _ => by
  obtain ⟨z, hz, hzs⟩ := hz
  have h1 := ha.evp hx
  have h2 := fill_eq _ _ _ _ hf
  have hzc : z.cells = zs.toArray := by rw [← hzs]
  unfold execOp
  simp [ho, Instr.build, run_zeroValue hz, run_underlying hu, run_sizeOf hs, hzc, h1, h2]

/-! ### Equality -/
/-- What a cell holds that is compared. -/
inductive CK | b | i (k : IntKind) | s
def CK.fits : CK → Value → Bool
  | .b, .bool _ => true
  | .i k, .int k' _ => decide (k' = k)
  | .s, .string _ => true
  | _, _ => false
def fitsAll : List CK → List Value → Bool
  | [], [] => true
  | c :: cs, v :: vs => c.fits v && fitsAll cs vs
  | _, _ => false
theorem fitsAll_length : ∀ {ks : List CK} {vs : List Value}, fitsAll ks vs = true → vs.length = ks.length
  | [], [], _ => rfl
  | [], _ :: _, h => by simp [fitsAll] at h
  | _ :: _, [], h => by simp [fitsAll] at h
  | k :: ks, v :: vs, h => by
    simp only [fitsAll, Bool.and_eq_true] at h
    simp [fitsAll_length h.2]
theorem fitsAll_take : ∀ {k1 k2 : List CK} {vs : List Value}, fitsAll (k1 ++ k2) vs = true → fitsAll k1 (vs.take k1.length) = true ∧ fitsAll k2 (vs.drop k1.length) = true
  | [], k2, vs, h => by simpa [fitsAll] using h
  | k :: k1, k2, [], h => by simp [fitsAll] at h
  | k :: k1, k2, v :: vs, h => by
    simp only [List.cons_append, fitsAll, Bool.and_eq_true] at h
    have := fitsAll_take h.2
    simp [fitsAll, h.1, this]
/-- The value of a type's cells. -/
def mkV (row : Bool) (vs : List Value) : Value := match row, vs with | false, [v] => v | _, vs => .agg vs.toArray
structure EqK (P : Program) (d : Nat) (t : TypeId) (row : Bool) (ks : List CK) : Prop where
  size : (P.info? t).map (·.size) = some ks.length
  agg : ∃ dd, P.underlying t = some dd ∧ dd.isRow = row
  one : row = false → ks.length = 1
  eq : ∀ (w : World) (xs ys : List Value), fitsAll ks xs = true → fitsAll ks ys = true → ∃ r : Bool, (Op.equalIn d t (mkV row xs) (mkV row ys)).run P w = .ok r w ∧ (r = true ↔ xs = ys)
theorem EqK.int {d t : Nat} {k : IntKind} (hu : P.underlying t = some (.int k)) (hs : (P.info? t).map (·.size) = some 1) : EqK P (d + 1) t false [.i k] := by
  refine ⟨hs, ⟨_, hu, rfl⟩, fun _ => rfl, ?_⟩
  intro w xs ys hx hy
  have one : ∀ zs : List Value, fitsAll [.i k] zs = true → ∃ a, zs = [.int k a] := fun zs h => by
    match zs, h with
    | [.int k' a], h =>
      simp only [fitsAll, CK.fits, Bool.and_true, decide_eq_true_eq] at h
      exact ⟨a, by rw [h]⟩
    | [], h => simp [fitsAll] at h
    | v :: v' :: vs, h => simp [fitsAll] at h
    | [.bool _], h => simp [fitsAll, CK.fits] at h
    | [.float _ _], h => simp [fitsAll, CK.fits] at h
    | [.complex _ _ _], h => simp [fitsAll, CK.fits] at h
    | [.string _], h => simp [fitsAll, CK.fits] at h
    | [.pointer _], h => simp [fitsAll, CK.fits] at h
    | [.slice _ _ _], h => simp [fitsAll, CK.fits] at h
    | [.map _], h => simp [fitsAll, CK.fits] at h
    | [.chan _], h => simp [fitsAll, CK.fits] at h
    | [.func _ _ _], h => simp [fitsAll, CK.fits] at h
    | [.nilFunc], h => simp [fitsAll, CK.fits] at h
    | [.iface _ _], h => simp [fitsAll, CK.fits] at h
    | [.nilIface], h => simp [fitsAll, CK.fits] at h
    | [.agg _], h => simp [fitsAll, CK.fits] at h
    | [.tuple _], h => simp [fitsAll, CK.fits] at h
  obtain ⟨a, rfl⟩ := one xs hx
  obtain ⟨b, rfl⟩ := one ys hy
  exact ⟨a == b, run_equalIn_int w d t k k a b hu, by simp⟩
theorem EqK.bool {d t : Nat} (hu : P.underlying t = some .bool) (hs : (P.info? t).map (·.size) = some 1) : EqK P (d + 1) t false [.b] := by
  refine ⟨hs, ⟨_, hu, rfl⟩, fun _ => rfl, ?_⟩
  intro w xs ys hx hy
  match xs, ys, hx, hy with
  | [.bool a], [.bool b], hx, hy =>
    exact ⟨a == b, run_equalIn_bool w d t a b hu, by simp⟩
theorem EqK.string {d t : Nat} (hu : P.underlying t = some .string) (hs : (P.info? t).map (·.size) = some 1) : EqK P (d + 1) t false [.s] := by
  refine ⟨hs, ⟨_, hu, rfl⟩, fun _ => rfl, ?_⟩
  intro w xs ys hx hy
  match xs, ys, hx, hy with
  | [.string a], [.string b], hx, hy =>
    refine ⟨a.toList == b.toList, run_equalIn_string w d t a b hu, ?_⟩
    have : (a.toList = b.toList) ↔ a = b := by
      constructor
      · intro h
        rw [ByteArray.toList_eq, ByteArray.toList_eq] at h
        obtain ⟨⟨x⟩⟩ := a; obtain ⟨⟨y⟩⟩ := b
        simp_all
      · intro h; rw [h]
    simp [this]
theorem run_part_k {d t : Nat} {row : Bool} {ks : List CK} (h : EqK P d t row ks) (w : World) (all : List Value) (off : Nat) (hf : fitsAll ks ((all.drop off).take ks.length) = true) :
    (part t all.toArray off).run P w = .ok (mkV row ((all.drop off).take ks.length)) w := by
  obtain ⟨dd, hu, hr⟩ := h.agg
  have hl := fitsAll_length hf
  cases row with
  | true =>
    have ha := (Many.mk hu hr h.size).agg w
    simp [part, ha, run_sizeOf h.size, mkV, List.extract_eq_take_drop, Nat.add_sub_cancel_left]
  | false =>
    have h1 := h.one rfl
    rw [h1] at hl hf ⊢
    have ha := (One.mk hu hr (by rw [h.size, h1])).agg w
    obtain ⟨v, hv⟩ : ∃ v, (all.drop off).take 1 = [v] := by
      match hq : (all.drop off).take 1, hl with
      | [v], _ => exact ⟨v, rfl⟩
    have hg : all[off]? = some v := by
      have : ((all.drop off).take 1)[0]? = some v := by rw [hv]; rfl
      rw [List.getElem?_take_of_lt (by omega), List.getElem?_drop] at this
      simpa using this
    rw [hv]
    simp [part, ha, hg, mkV]
inductive FieldsK (P : Program) (d : Nat) : List Field → Nat → List CK → Prop
  | nil {off : Nat} : FieldsK P d [] off []
  | cons {f : Field} {fs : List Field} {off : Nat} {row : Bool} {k1 k2 : List CK} (hn : (f.name == "_") = false) (ho : f.offset = off) (h : EqK P d f.type row k1) (r : FieldsK P d fs (off + k1.length) k2) : FieldsK P d (f :: fs) off (k1 ++ k2)
theorem eqFields_k {d : Nat} {fs : List Field} {off : Nat} {ks : List CK} (h : FieldsK P d fs off ks) : ∀ (w : World) (xs ys : List Value), fitsAll ks (xs.drop off) = true → fitsAll ks (ys.drop off) = true →
    ∃ r : Bool, (Op.eqFields d xs.toArray ys.toArray fs).run P w = .ok r w ∧ (r = true ↔ xs.drop off = ys.drop off) := by
  induction h with
  | nil => 
    intro w xs ys hx hy
    have h1 := fitsAll_length hx; have h2 := fitsAll_length hy
    simp only [List.length_nil, List.length_eq_zero_iff] at h1 h2
    exact ⟨true, by simp [Op.eqFields], by simp [h1, h2]⟩
  | @cons f fs off row k1 k2 hn ho hE r ih =>
    intro w xs ys hx hy
    obtain ⟨hx1, hx2⟩ := fitsAll_take hx
    obtain ⟨hy1, hy2⟩ := fitsAll_take hy
    have p1 := run_part_k hE w xs off hx1
    have p2 := run_part_k hE w ys off hy1
    obtain ⟨r1, e, he⟩ := hE.eq w _ _ hx1 hy1
    have hn' : f.name ≠ "_" := by simpa using hn
    rw [List.drop_drop] at hx2 hy2
    obtain ⟨r2, i, hi⟩ := ih w xs ys hx2 hy2
    simp only [Op.eqFields, hn', ne_eq, not_false_eq_true, if_true, Sem.run_bind, ho, p1, p2, e, Result.andThen_ok]
    have hsp : ∀ zs : List Value, zs.drop off = (zs.drop off).take k1.length ++ zs.drop (off + k1.length) := fun zs => by rw [← List.drop_drop]; exact (List.take_append_drop _ _).symm
    have hlx := fitsAll_length hx1
    have hly := fitsAll_length hy1
    cases r1 with
    | true =>
      have hq := he.1 rfl
      refine ⟨r2, by simpa using i, ?_⟩
      rw [hi, hsp xs, hsp ys, hq]
      exact ⟨fun h => by rw [h], fun h => List.append_cancel_left h⟩
    | false =>
      refine ⟨false, by simp, ?_⟩
      constructor
      · intro h; simp at h
      · intro h
        rw [hsp xs, hsp ys] at h
        have := he.2 (List.append_inj_left h (by rw [hlx, hly]))
        simp at this
theorem EqK.struct {d t : Nat} {fs : Array Field} {ks : List CK} (hu : P.underlying t = some (.struct fs)) (hp : P.stoodInHeld t = false) (hs : (P.info? t).map (·.size) = some ks.length) (h : FieldsK P d fs.toList 0 ks) : EqK P (d + 1) t true ks := by
  refine ⟨hs, ⟨_, hu, rfl⟩, fun h => by simp at h, ?_⟩
  intro w xs ys hx hy
  have hfs : P.fieldsOf t = fs := by simp [Program.fieldsOf, hu]
  obtain ⟨r, h1, h2⟩ := eqFields_k h w xs ys (by simpa using hx) (by simpa using hy)
  refine ⟨r, ?_, by simpa using h2⟩
  show (Op.equalIn (d + 1) t (.agg xs.toArray) (.agg ys.toArray)).run P w = _
  rw [run_equalIn_struct w d t xs.toArray ys.toArray (by rw [hfs]; exact hu) hp, hfs]
  exact h1
theorem eqItems_k {d e : Nat} {row : Bool} {k1 : List CK} (hE : EqK P d e row k1) (w : World) (xs ys : List Value) : ∀ (m j : Nat), fitsAll ((List.replicate m k1).flatten) (xs.drop (j * k1.length)) = true → fitsAll ((List.replicate m k1).flatten) (ys.drop (j * k1.length)) = true →
    ∃ r : Bool, (Op.eqItems d e k1.length xs.toArray ys.toArray (List.range' j m)).run P w = .ok r w ∧ (r = true ↔ xs.drop (j * k1.length) = ys.drop (j * k1.length))
  | 0, j, hx, hy => by
    have h1 := fitsAll_length hx; have h2 := fitsAll_length hy
    simp only [List.replicate_zero, List.flatten_nil, List.length_nil, List.length_eq_zero_iff] at h1 h2
    exact ⟨true, by simp [Op.eqItems], by simp [h1, h2]⟩
  | m + 1, j, hx, hy => by
    rw [List.replicate_succ, List.flatten_cons] at hx hy
    obtain ⟨hx1, hx2⟩ := fitsAll_take hx
    obtain ⟨hy1, hy2⟩ := fitsAll_take hy
    have p1 := run_part_k hE w xs (j * k1.length) hx1
    have p2 := run_part_k hE w ys (j * k1.length) hy1
    obtain ⟨r1, e1, he⟩ := hE.eq w _ _ hx1 hy1
    have hj : j * k1.length + k1.length = (j + 1) * k1.length := by rw [Nat.add_mul, Nat.one_mul]
    rw [List.drop_drop, hj] at hx2 hy2
    obtain ⟨r2, i, hi⟩ := eqItems_k hE w xs ys m (j + 1) hx2 hy2
    simp only [List.range'_succ, Op.eqItems, Sem.run_bind, p1, p2, e1, Result.andThen_ok]
    have hsp : ∀ zs : List Value, zs.drop (j * k1.length) = (zs.drop (j * k1.length)).take k1.length ++ zs.drop ((j + 1) * k1.length) := fun zs => by rw [← hj, ← List.drop_drop]; exact (List.take_append_drop _ _).symm
    have hlx := fitsAll_length hx1
    have hly := fitsAll_length hy1
    cases r1 with
    | true =>
      have hq := he.1 rfl
      refine ⟨r2, by simpa using i, ?_⟩
      rw [hi, hsp xs, hsp ys, hq]
      exact ⟨fun h => by rw [h], fun h => List.append_cancel_left h⟩
    | false =>
      refine ⟨false, by simp, ?_⟩
      constructor
      · intro h; simp at h
      · intro h
        rw [hsp xs, hsp ys] at h
        have := he.2 (List.append_inj_left h (by rw [hlx, hly]))
        simp at this
theorem EqK.array {d t e m : Nat} {row : Bool} {k1 ks : List CK} (hu : P.underlying t = some (.array m e)) (hs : (P.info? t).map (·.size) = some ks.length) (hE : EqK P d e row k1) (hks : (List.replicate m k1).flatten = ks) : EqK P (d + 1) t true ks := by
  subst hks
  refine ⟨hs, ⟨_, hu, rfl⟩, fun h => by simp at h, ?_⟩
  intro w xs ys hx hy
  obtain ⟨r, h1, h2⟩ := eqItems_k hE w xs ys m 0 (by simpa using hx) (by simpa using hy)
  refine ⟨r, ?_, by simpa using h2⟩
  have hi := hE.size
  cases hq : P.info? e with
  | none => simp [hq] at hi
  | some i =>
    have hc : P.cellsOf e = k1.length := by simp [Program.cellsOf, hi]
    show (Op.equalIn (d + 1) t (.agg xs.toArray) (.agg ys.toArray)).run P w = _
    rw [run_equalIn_array w d xs.toArray ys.toArray hu hq, hc, List.range_eq_range']
    exact h1
section
variable {t yt : TypeId} {x y : Operand} {xs ys : List Value} {ks : List CK}
theorem run_eql_agg {a : Act} {w : World} (ho : o.op = .binOp .eql t x y yt) (h1 : a.eval x = .agg xs.toArray) (h2 : a.eval y = .agg ys.toArray) (hE : EqK P 10000 t true ks) (hg : P.eqGuardType P.depth t = false)
    (fx : fitsAll ks xs = true) (fy : fitsAll ks ys = true) : ∃ r : Bool, (execOp a.eval o).run P w = .ok (.value (.bool r)) w ∧ (r = true ↔ xs = ys) := by
  obtain ⟨r, h, hr⟩ := hE.eq w xs ys fx fy
  have h' : (Op.equalIn 10000 t (.agg xs.toArray) (.agg ys.toArray)).run P w = .ok r w := h
  refine ⟨r, ?_, hr⟩
  unfold execOp
  simp only [ho, h1, h2, Sem.run_bind, run_eqGuard_agg w _ t _ _ _ _ hg, Result.andThen_ok, run_eql_struct, h']
  rfl
theorem run_neq_agg {a : Act} {w : World} (ho : o.op = .binOp .neq t x y yt) (h1 : a.eval x = .agg xs.toArray) (h2 : a.eval y = .agg ys.toArray) (hE : EqK P 10000 t true ks) (hg : P.eqGuardType P.depth t = false)
    (fx : fitsAll ks xs = true) (fy : fitsAll ks ys = true) : ∃ r : Bool, (execOp a.eval o).run P w = .ok (.value (.bool (!r))) w ∧ (r = true ↔ xs = ys) := by
  obtain ⟨r, h, hr⟩ := hE.eq w xs ys fx fy
  have h' : (Op.equalIn 10000 t (.agg xs.toArray) (.agg ys.toArray)).run P w = .ok r w := h
  refine ⟨r, ?_, hr⟩
  unfold execOp
  simp only [ho, h1, h2, Sem.run_bind, run_eqGuard_agg w _ t _ _ _ _ hg, Result.andThen_ok, run_neq_struct, h']
  rfl
theorem v_eql_aggT (ho : o.op = .binOp .eql t x y yt) (hx : ev l x = some (.agg xs.toArray)) (hy : ev l y = some (.agg ys.toArray)) (hE : EqK P 10000 t true ks) (hg : P.eqGuardType P.depth t = false)
    (fx : fitsAll ks xs = true) (fy : fitsAll ks ys = true) (e : xs = ys) : Val P C n l o (.bool true) := fun a w ha _ => by
  obtain ⟨r, h, hr⟩ := run_eql_agg (w := w) ho (ha.ev hx) (ha.ev hy) hE hg fx fy
  rw [hr.2 e] at h; exact h
theorem v_eql_aggF (ho : o.op = .binOp .eql t x y yt) (hx : ev l x = some (.agg xs.toArray)) (hy : ev l y = some (.agg ys.toArray)) (hE : EqK P 10000 t true ks) (hg : P.eqGuardType P.depth t = false)
    (fx : fitsAll ks xs = true) (fy : fitsAll ks ys = true) (e : ¬ xs = ys) : Val P C n l o (.bool false) := fun a w ha _ => by
  obtain ⟨r, h, hr⟩ := run_eql_agg (w := w) ho (ha.ev hx) (ha.ev hy) hE hg fx fy
  cases r
  · exact h
  · exact absurd (hr.1 rfl) e
theorem v_neq_aggF (ho : o.op = .binOp .neq t x y yt) (hx : ev l x = some (.agg xs.toArray)) (hy : ev l y = some (.agg ys.toArray)) (hE : EqK P 10000 t true ks) (hg : P.eqGuardType P.depth t = false)
    (fx : fitsAll ks xs = true) (fy : fitsAll ks ys = true) (e : xs = ys) : Val P C n l o (.bool false) := fun a w ha _ => by
  obtain ⟨r, h, hr⟩ := run_neq_agg (w := w) ho (ha.ev hx) (ha.ev hy) hE hg fx fy
  rw [hr.2 e] at h; exact h
theorem v_neq_aggT (ho : o.op = .binOp .neq t x y yt) (hx : ev l x = some (.agg xs.toArray)) (hy : ev l y = some (.agg ys.toArray)) (hE : EqK P 10000 t true ks) (hg : P.eqGuardType P.depth t = false)
    (fx : fitsAll ks xs = true) (fy : fitsAll ks ys = true) (e : ¬ xs = ys) : Val P C n l o (.bool true) := fun a w ha _ => by
  obtain ⟨r, h, hr⟩ := run_neq_agg (w := w) ho (ha.ev hx) (ha.ev hy) hE hg fx fy
  cases r
  · exact h
  · exact absurd (hr.1 rfl) e
end
theorem v_eql_string {t yt : TypeId} {x y : Operand} {A B : ByteArray} (ho : o.op = .binOp .eql t x y yt) (hx : ev l x = some (.string A)) (hy : ev l y = some (.string B)) {d : TypeDesc} (_hu : P.underlying t = some d) : Val P C n l o (.bool (decide (A.toList = B.toList))) := fun a w ha _ => by
  have h1 := ha.ev hx; have h2 := ha.ev hy
  have e : (A.toList == B.toList) = decide (A.toList = B.toList) := by by_cases h : A.toList = B.toList <;> simp [h]
  unfold execOp
  simp only [ho, h1, h2, eqGuard]
  simp [binOp, Op.stringOp, e]
theorem v_neq_string {t yt : TypeId} {x y : Operand} {A B : ByteArray} (ho : o.op = .binOp .neq t x y yt) (hx : ev l x = some (.string A)) (hy : ev l y = some (.string B)) {d : TypeDesc} (_hu : P.underlying t = some d) : Val P C n l o (.bool (decide (A.toList ≠ B.toList))) := fun a w ha _ => by
  have h1 := ha.ev hx; have h2 := ha.ev hy
  have e : (A.toList == B.toList) = decide (A.toList = B.toList) := by by_cases h : A.toList = B.toList <;> simp [h]
  unfold execOp
  simp only [ho, h1, h2, eqGuard]
  simp [binOp, Op.stringOp, e]
theorem run_eq2 {op : BinOp} {t yt : TypeId} {x y : Operand} {u v : Value} {b : Bool} {a : Act} {w : World} (ho : o.op = .binOp op t x y yt) (h1 : a.eval x = u) (h2 : a.eval y = v) (hg : (eqGuard op t x y u v).run P w = .ok () w) (hb : (binOp op t u v).run P w = .ok (.bool b) w) :
    (execOp a.eval o).run P w = .ok (.value (.bool b)) w := by
  unfold execOp
  simp only [ho, h1, h2, Sem.run_bind, hg, Result.andThen_ok, hb]
  rfl
theorem v_eql_pnil {t yt e : TypeId} {x : Operand} {A : Option Addr} (ho : o.op = .binOp .eql t x (.const (.pointer none)) yt) (hx : ev l x = some (.pointer A)) (hu : P.underlying t = some (.pointer e)) : Val P C n l o (.bool (decide (A = none))) := fun a w ha _ => by
  have h : ∀ d, (Op.equalIn (d + 1) t (.pointer A) (.pointer none)).run P w = .ok A.isNone w := fun d => by
    cases A <;> simp [Op.equalIn, run_underlying hu]
  have e : A.isNone = decide (A = none) := by cases A <;> simp
  have h' : (Op.equal t (.pointer A) (.pointer none)).run P w = .ok (decide (A = none)) w := by rw [← e]; exact h 9999
  exact run_eq2 (v := .pointer none) ho (ha.ev hx) rfl (by simp [eqGuard]) (by simp only [binOp]; simp [h'])
theorem v_neq_pnil {t yt e : TypeId} {x : Operand} {A : Option Addr} (ho : o.op = .binOp .neq t x (.const (.pointer none)) yt) (hx : ev l x = some (.pointer A)) (hu : P.underlying t = some (.pointer e)) : Val P C n l o (.bool (decide (A ≠ none))) := fun a w ha _ => by
  have h : ∀ d, (Op.equalIn (d + 1) t (.pointer A) (.pointer none)).run P w = .ok A.isNone w := fun d => by
    cases A <;> simp [Op.equalIn, run_underlying hu]
  have e : (!A.isNone) = decide (A ≠ none) := by cases A <;> simp
  have h' : (Op.equal t (.pointer A) (.pointer none)).run P w = .ok A.isNone w := h 9999
  exact run_eq2 (v := .pointer none) ho (ha.ev hx) rfl (by simp [eqGuard]) (by simp only [binOp]; rw [← e]; simp [h'])
theorem v_eql_bool {t yt : TypeId} {x y : Operand} {A B : Bool} (ho : o.op = .binOp .eql t x y yt) (hx : ev l x = some (.bool A)) (hy : ev l y = some (.bool B)) (hu : P.underlying t = some .bool) : Val P C n l o (.bool (decide (A = B))) := fun a w ha _ => by
  have h' : (Op.equal t (.bool A) (.bool B)).run P w = .ok (A == B) w := run_equalIn_bool w 9999 t A B hu
  have e : (A == B) = decide (A = B) := by cases A <;> cases B <;> rfl
  exact run_eq2 ho (ha.ev hx) (ha.ev hy) (by simp [eqGuard]) (by simp only [binOp]; rw [← e]; simp [h'])
theorem v_neq_bool {t yt : TypeId} {x y : Operand} {A B : Bool} (ho : o.op = .binOp .neq t x y yt) (hx : ev l x = some (.bool A)) (hy : ev l y = some (.bool B)) (hu : P.underlying t = some .bool) : Val P C n l o (.bool (decide (A ≠ B))) := fun a w ha _ => by
  have h' : (Op.equal t (.bool A) (.bool B)).run P w = .ok (A == B) w := run_equalIn_bool w 9999 t A B hu
  have e : (!(A == B)) = decide (A ≠ B) := by cases A <;> cases B <;> rfl
  exact run_eq2 ho (ha.ev hx) (ha.ev hy) (by simp [eqGuard]) (by simp only [binOp]; rw [← e]; simp [h'])
end
end Go.Proofs.YtodaanhhnjkncaaDoor
