/- The engine: copy, append, literals of slices, strings as bytes. -/
import Derived.Test.YtodaanhhnjkncaaDoorMem2
namespace Go.Proofs.YtodaanhhnjkncaaDoor
open Go.RowKit

section
variable {P : Program} {C : World → Prop} {ops : Array Oper} {Q : Exit → Act → World → Prop} {n : Nat} {p : Nat → Prop} {w0 : World} {o : Oper} {rest : List Oper} {l : Kn} {L : List Ent}

instance {E L : List Ent} {g : Nat} {cs : List Value} [h : At L g cs] : At (E ++ L) g cs := ⟨List.mem_append_right _ h.mem⟩
instance {E L : List Ent} {g : Nat} {ob : Obj} [h : AtO L g ob] : AtO (E ++ L) g ob := ⟨List.mem_append_right _ h.mem⟩
instance {E L L' : List Ent} {g : Nat} {e : Ent} [h : Put L g e L'] : Put (E ++ L) g e (E ++ L') :=
  ⟨fun he => let ⟨A, B, e', h1, h2, h3⟩ := h.ok he; ⟨E ++ A, B, e', by rw [h1, List.append_assoc], by rw [h2, List.append_assoc], h3⟩⟩

theorem run_loadRange {w : World} {g off m : Nat} {cs : List Value} (hm : cs.length = m) (hc : w.rangeAt g off cs) : (loadCells ⟨g, off, none⟩ m).run P w = .ok cs.toArray w := by
  subst hm
  exact run_loadCells_list (P := P) w ⟨g, off, none⟩ cs (fun j v hv => by rw [addr_add]; exact hc j v hv)

/-! ### copy -/
theorem WL.copyL {t ts e d g off dl dc b so sl sc : Nat} {x y : Operand} {cs new : List Value} {L' : List Ent} (ho : o.op = .call { callee := .builtin .copy, args := #[x, y], argTypes := #[t, ts] })
    (hx : ev l x = some (.slice (some ⟨g, off, none⟩) dl dc)) (hy : ev l y = some (.slice (some ⟨b, so, none⟩) sl sc)) (hu : P.underlying t = some (.slice e)) (hs : (P.info? e).map (·.size) = some 1)
    (hlen : new.length = min sl dl) (hc : ∀ w, St p w0 w L → w.rangeAt b so new) (hall : new.all one = true) [At L g cs] (hle : off + new.length ≤ cs.length) [Put L g (.row g (splice cs off new)) L'] (hg : On ops o l) (hd : o.dst = some d) (hn : Nat.blt d n = true)
    (h : WL P ops Q n p w0 rest ((d, .int .i64 new.length) :: l) L') : WL P ops Q n p w0 (o :: rest) l L := by
  refine WL.op hg hd hn fun a w ha hS => ?_
  have hxy : evs l [x, y] = some [.slice (some ⟨g, off, none⟩) dl dc, .slice (some ⟨b, so, none⟩) sl sc] := by simp [evs, hx, hy]
  obtain ⟨cc, hr⟩ := run_builtin (P := P) (w := w) (xs := [x, y]) ho hxy ha
  obtain ⟨w', hst, hR', hF⟩ := run_storeCells_row (P := P) new 0 off cs w (hS.row (g := g)) (by omega) hall
  refine ⟨_, w', L', ?_, hS.put (g := g) (e := .row g (splice cs off new)) rfl hF (show Row _ _ _ by simpa using hR'), h⟩
  rw [hr]
  have hl := run_loadRange (P := P) hlen (hc w hS)
  simp [builtin, Builtin.copy_, run_underlying hu, Builtin.lenOf, run_sizeOf hs, Builtin.firstCells, hl, hst, goInt, hlen]
def bcell (b : UInt8) : Value := .int .u8 b.toNat
theorem WL.copyS {t ts e d g off dl dc : Nat} {x y : Operand} {bs : ByteArray} {cs new : List Value} {L' : List Ent} (ho : o.op = .call { callee := .builtin .copy, args := #[x, y], argTypes := #[t, ts] })
    (hx : ev l x = some (.slice (some ⟨g, off, none⟩) dl dc)) (hy : ev l y = some (.string bs)) (hu : P.underlying t = some (.slice e)) (hs : (P.info? e).map (·.size) = some 1)
    (hnew : (bs.data.toList.take (min bs.size dl)).map bcell = new) [At L g cs] (hle : off + new.length ≤ cs.length) [Put L g (.row g (splice cs off new)) L'] (hg : On ops o l) (hd : o.dst = some d) (hn : Nat.blt d n = true)
    (h : WL P ops Q n p w0 rest ((d, .int .i64 new.length) :: l) L') : WL P ops Q n p w0 (o :: rest) l L := by
  refine WL.op hg hd hn fun a w ha hS => ?_
  have hxy : evs l [x, y] = some [.slice (some ⟨g, off, none⟩) dl dc, .string bs] := by simp [evs, hx, hy]
  obtain ⟨cc, hr⟩ := run_builtin (P := P) (w := w) (xs := [x, y]) ho hxy ha
  have hall : new.all one = true := by rw [← hnew]; exact List.all_eq_true.2 (fun v hv => by obtain ⟨b, _, rfl⟩ := List.mem_map.1 hv; rfl)
  obtain ⟨w', hst, hR', hF⟩ := run_storeCells_row (P := P) new 0 off cs w (hS.row (g := g)) (by omega) hall
  refine ⟨_, w', L', ?_, hS.put (g := g) (e := .row g (splice cs off new)) rfl hF (show Row _ _ _ by simpa using hR'), h⟩
  rw [hr]
  have hlen : new.length = min bs.size dl := by
    rw [← hnew]; simp
  have e : List.take (bs.size.min dl) (List.map (fun b => Value.int .u8 (b.toNat : Int)) bs.data.toList) = new := by rw [← hnew, List.map_take]; rfl
  simp [builtin, Builtin.copy_, run_underlying hu, Builtin.lenOf, run_sizeOf hs, Builtin.firstCells, goInt]
  rw [e, hst]
  simp [Result.andThen, hlen]

/-! ### append -/
/-- A slice of the call's own, from its block's beginning: k elements of s cells each, xs in all; nil: none. -/
def Vec (s : Nat) (ad : Option Addr) (k c : Nat) (xs : List Value) (E : List Ent) : Prop :=
  (ad = none ∧ k = 0 ∧ c = 0 ∧ xs = [] ∧ E = []) ∨ (∃ g cs, ad = some ⟨g, 0, none⟩ ∧ E = [.row g cs] ∧ cs.take (k * s) = xs ∧ cs.length = c * s ∧ k ≤ c)
theorem Vec.nil (s : Nat) : Vec s none 0 0 [] [] := .inl ⟨rfl, rfl, rfl, rfl, rfl⟩
theorem Vec.row {s g k c : Nat} {cs xs : List Value} (hx : cs.take (k * s) = xs) (hl : cs.length = c * s) (hk : k ≤ c) : Vec s (some ⟨g, 0, none⟩) k c xs [.row g cs] := .inr ⟨g, cs, rfl, rfl, hx, hl, hk⟩
theorem Vec.len {s k c : Nat} {ad : Option Addr} {xs : List Value} {E : List Ent} (h : Vec s ad k c xs E) : xs.length = k * s ∧ k ≤ c := by
  rcases h with ⟨_, rfl, rfl, rfl, _⟩ | ⟨g, cs, _, _, rfl, hl, hk⟩
  · simp
  · refine ⟨?_, hk⟩
    rw [List.length_take, hl]
    have := Nat.mul_le_mul_right s hk
    omega
theorem growBy_le (m : Nat) (c : Nat) : Builtin.growBy m 4 c ≤ 3 * c + 1200 := by
  have h0 : ∀ c, Builtin.growBy m 0 c = c := fun c => rfl
  have h1 : ∀ c, Builtin.growBy m 1 c ≤ max c (c + (c + 768) / 4) := fun c => by
    rw [Builtin.growBy, h0]; split <;> omega
  have h2 : ∀ c, Builtin.growBy m 2 c ≤ max c (Builtin.growBy m 1 (c + (c + 768) / 4)) := fun c => by
    rw [Builtin.growBy]; split <;> omega
  have h3 : ∀ c, Builtin.growBy m 3 c ≤ max c (Builtin.growBy m 2 (c + (c + 768) / 4)) := fun c => by
    rw [Builtin.growBy]; split <;> omega
  have h4 : ∀ c, Builtin.growBy m 4 c ≤ max c (Builtin.growBy m 3 (c + (c + 768) / 4)) := fun c => by
    rw [Builtin.growBy]; split <;> omega
  have a4 := h4 c
  have a3 := h3 (c + (c + 768) / 4)
  have a2 := h2 (c + (c + 768) / 4 + (c + (c + 768) / 4 + 768) / 4)
  have a1 := h1 (c + (c + 768) / 4 + (c + (c + 768) / 4 + 768) / 4 + (c + (c + 768) / 4 + (c + (c + 768) / 4 + 768) / 4 + 768) / 4)
  omega
theorem nextslicecap_le (m c : Nat) (h : c < m) : Builtin.nextslicecap m c ≤ 3 * m + 1200 := by
  unfold Builtin.nextslicecap
  have := growBy_le m c
  split
  · omega
  · split <;> omega
theorem zeroCells_length (z : Array Value) (k : Nat) : (Builtin.zeroCells z k).toList.length = k * z.size := by simp [Builtin.zeroCells]

theorem append_run {t tx e s by_ k c m : Nat} {ad : Option Addr} {xs new zs : List Value} {E L0 : List Ent} {w : World} {y : Value} {ty : TypeId} {dx : TypeDesc}
    (hu : P.underlying t = some (.slice e)) (hux : P.underlying tx = some dx) (hxi : ∀ k, dx ≠ .int k) (hs : (P.info? e).map (·.size) = some s) (hb : (P.info? e).map (·.bytes) = some by_) (hz : Zero P e zs) (hzl : zs.length = s)
    (hby : 0 < by_) (hV : Vec s ad k c xs E) (hS : St p w0 w (E ++ L0)) (hlen : (Builtin.lenOf y).run P w = .ok m w) (hfc : ∀ w', St p w0 w' (E ++ L0) → (Builtin.firstCells s m y).run P w' = .ok new.toArray w') (hnl : new.length = m * s) (hall : new.all one = true)
    (hbig : (3 * (k + m) + 1200) * by_ ≤ 281474976710656) :
    ∃ ad' c' E' w', (Builtin.append_ #[t, tx] ty #[.slice ad k c, y]).run P w = .ok (.slice ad' (k + m) c') w' ∧ Vec s ad' (k + m) c' (xs ++ new) E' ∧ St p w0 w' (E' ++ L0) ∧ (k + m ≤ c → ad' = ad ∧ c' = c) := by
  have hq : ∃ i, P.info? e = some i ∧ i.bytes = by_ := by
    cases hq : P.info? e with
    | none => simp [hq] at hb
    | some i => exact ⟨i, rfl, by simpa [hq] using hb⟩
  obtain ⟨ti, hi, hib⟩ := hq
  have hzi : (match dx with | .int _ => true | _ => false) = false := by
    cases dx <;> first | rfl | (exact absurd rfl (hxi _))
  have hask : ∀ (k : Nat) (w : World), (askRoom k).run P w = .ok () w := fun k w => by
    unfold askRoom
    by_cases h : k > roomBytes
    · rw [if_pos h]; rfl
    · rw [if_neg h]; rfl
  by_cases hroom : k + m ≤ c
  · rcases hV with ⟨rfl, rfl, rfl, rfl, rfl⟩ | ⟨g, cs, rfl, rfl, rfl, hcl, hk⟩
    · obtain rfl : m = 0 := by omega
      have hn0 : new = [] := List.length_eq_zero_iff.1 (by omega)
      subst hn0
      refine ⟨none, 0, [], w, ?_, .inl ⟨rfl, rfl, rfl, rfl, rfl⟩, hS, fun _ => ⟨rfl, rfl⟩⟩
      simp [Builtin.append_, run_underlying hu, run_underlying hux, run_sizeOf hs, hlen, hfc w hS]
    · replace hS : St p w0 w (.row g cs :: L0) := hS
      have hmul : (k + m) * s ≤ c * s := Nat.mul_le_mul_right s hroom
      rw [Nat.add_mul] at hmul
      obtain ⟨w', hst, hR', hF⟩ := run_storeCells_row (P := P) new 0 (k * s) cs w (hS.row (g := g) (cs := cs)) (by omega) hall
      have hsp : (splice cs (k * s) new).take ((k + m) * s) = cs.take (k * s) ++ new := by
        rw [splice_eq _ _ _ (by omega), Nat.add_mul, List.take_append_of_le_length (by simp; omega)]
        rw [List.take_of_length_le (by simp; omega)]
      refine ⟨some ⟨g, 0, none⟩, c, [.row g (splice cs (k * s) new)], w', ?_, Vec.row hsp (by rw [splice_length _ _ _ (by omega), hcl]) hroom,
        hS.put (L' := .row g (splice cs (k * s) new) :: L0) (g := g) (e := .row g (splice cs (k * s) new)) rfl hF (show Row _ _ _ by simpa using hR'), fun _ => ⟨rfl, rfl⟩⟩
      simp [Builtin.append_, run_underlying hu, run_underlying hux, run_sizeOf hs, hlen, hfc w hS, hroom, addr_add, hst]
  · have hle := nextslicecap_le (k + m) c (by omega)
    have hmul : Builtin.nextslicecap (k + m) c * by_ ≤ (3 * (k + m) + 1200) * by_ := Nat.mul_le_mul_right by_ hle
    have hcap : ¬ (Builtin.nextslicecap (k + m) c * by_ > 2 ^ 48) := by omega
    have hvl := hV.len
    have hold : ∀ w', St p w0 w' (E ++ L0) → (Builtin.firstCells s k (.slice ad k c)).run P w' = .ok xs.toArray w' := fun w' hS' => by
      rcases hV with ⟨rfl, rfl, rfl, rfl, rfl⟩ | ⟨g, cs, rfl, rfl, rfl, hcl, hk⟩
      · simp [Builtin.firstCells]
      · replace hS' : St p w0 w' (.row g cs :: L0) := hS'
        refine run_loadRange (P := P) hvl.1 ?_
        intro i v hv
        rw [Nat.zero_add]
        refine hS'.cell (g := g) (cs := cs) ?_
        rw [List.getElem?_take] at hv
        split at hv
        · exact hv
        · cases hv
    obtain ⟨z, hz, hzs⟩ := hz
    have hzc : z.cells = zs.toArray := by rw [← hzs]
    have hd := hS.drew
    let nc := (Question.appendCap (k + m) c e).cut (w.tape w.drawn (.appendCap (k + m) c e))
    have hnc : k + m ≤ nc := by show k + m ≤ (k + m) + _; omega
    let rs := (Builtin.zeroCells zs.toArray (nc - (k + m))).toList
    have hrl : rs.length = (nc - (k + m)) * s := by rw [zeroCells_length]; simp [hzl]
    have hnew : St p w0 (w.drew.alloc (.cells (xs ++ new ++ rs).toArray e)) (.row w.drew.heap.size (xs ++ new ++ rs) :: L0) := by
      have : St p w0 w.drew L0 := by
        refine hd.sub ?_
        exact List.sublist_append_right E L0
      exact St.new this
    refine ⟨some ⟨w.drew.heap.size, 0, none⟩, nc, [.row w.drew.heap.size (xs ++ new ++ rs)], _, ?_, Vec.row ?_ ?_ hnc, hnew, fun h => absurd h hroom⟩
    · have hcut : (choose (.appendCap (k + m) c e)).run P w = .ok nc w.drew := rfl
      have hi64 : ¬ ((k : Int) + (m : Int) > IntKind.i64.max ∧ (false = true ∨ by_ = 0)) := fun h => by
        rcases h.2 with h | h
        · cases h
        · omega
      simp only [Builtin.append_, List.getElem?_toArray, List.getElem?_cons_zero, List.getElem?_cons_succ, Sem.run_bind, run_underlying hu, run_underlying hux, Result.andThen_ok, run_sizeOf hs, Sem.run_pure]
      simp only [Bool.false_eq_true, if_false, hlen, Result.andThen_ok, hroom, typeInfo, program, Sem.run, hi, Sem.run_bind, false_or]
      have hby0 : ¬ (by_ = 0) := by omega
      simp only [hby0, and_false, if_false, Result.andThen_ok, Sem.run_pure, hcap, hcut, hask, hold _ hd, hfc _ hd, run_zeroValue hz, hzc, Bool.not_false, if_true, Sem.run_bind, newRow, newObj, Sem.run, hi, hib]
      have ee : xs.toArray ++ new.toArray ++ Builtin.zeroCells zs.toArray (nc - (k + m)) = (xs ++ new ++ rs).toArray := by simp [rs]
      rw [ee]
      rfl
    · rw [Nat.add_mul, List.append_assoc, ← List.append_assoc, List.take_append_of_le_length (by simp; omega), List.take_of_length_le (by simp; omega)]
    · simp only [List.length_append, hvl.1, hnl, hrl]
      rw [← Nat.add_mul, ← Nat.add_mul]
      congr 1
      omega
section
variable {t tx e s by_ k c d m : Nat} {ad : Option Addr} {xs new zs : List Value} {E L0 : List Ent} {x y : Operand} {dx : TypeDesc}
/-- append(x, y...): y a slice whose cells are known. -/
theorem WL.appendL {sa : Option Addr} {mc : Nat} (ho : o.op = .call { callee := .builtin .append, args := #[x, y], argTypes := #[t, tx] }) (hx : ev l x = some (.slice ad k c)) (hy : ev l y = some (.slice sa m mc))
    (hu : P.underlying t = some (.slice e)) {e' : TypeId} (hux : P.underlying tx = some (.slice e')) (hs : (P.info? e).map (·.size) = some s) (hb : (P.info? e).map (·.bytes) = some by_) (hz : Zero P e zs) (hzl : zs.length = s) (hby : Nat.blt 0 by_ = true)
    (hV : Vec s ad k c xs E) (hc : 0 < m → ∃ b so, sa = some ⟨b, so, none⟩ ∧ ∀ w, St p w0 w (E ++ L0) → w.rangeAt b so new) (hnl : new.length = m * s) (hall : new.all one = true) (hbig : (3 * (k + m) + 1200) * by_ ≤ 281474976710656)
    (hg : On ops o l) (hd : o.dst = some d) (hn : Nat.blt d n = true)
    (h : ∀ ad' c' E', Vec s ad' (k + m) c' (xs ++ new) E' → (k + m ≤ c → ad' = ad ∧ c' = c) → WL P ops Q n p w0 rest ((d, .slice ad' (k + m) c') :: l) (E' ++ L0)) : WL P ops Q n p w0 (o :: rest) l (E ++ L0) := by
  refine WL.op hg hd hn fun a w ha hS => ?_
  have hxy : evs l [x, y] = some [.slice ad k c, .slice sa m mc] := by simp [evs, hx, hy]
  obtain ⟨cc, hr⟩ := run_builtin (P := P) (w := w) (xs := [x, y]) ho hxy ha
  have hfc : ∀ w', St p w0 w' (E ++ L0) → (Builtin.firstCells s m (.slice sa m mc)).run P w' = .ok new.toArray w' := fun w' hS' => by
    by_cases hm : 0 < m
    · obtain ⟨b, so, rfl, hcs⟩ := hc hm
      exact run_loadRange (P := P) hnl (hcs w' hS')
    · obtain rfl : m = 0 := by omega
      have hn0 : new = [] := List.length_eq_zero_iff.1 (by omega)
      subst hn0
      cases sa with
      | none => rfl
      | some q => simp [Builtin.firstCells, loadCells, loadCellsFrom]
  obtain ⟨ad', c', E', w', h1, h2, h3, h4⟩ := append_run (P := P) (ty := o.type) hu hux (fun _ => by simp) hs hb hz hzl (by simpa using hby) hV hS (by simp [Builtin.lenOf]) hfc hnl hall hbig
  refine ⟨_, w', E' ++ L0, ?_, h3, h ad' c' E' h2 h4⟩
  rw [hr]
  simp [builtin, h1]
/-- append(x, s...): s a string. -/
theorem WL.appendS {bs : ByteArray} (ho : o.op = .call { callee := .builtin .append, args := #[x, y], argTypes := #[t, tx] }) (hx : ev l x = some (.slice ad k c)) (hy : ev l y = some (.string bs)) (hm : bs.size = m)
    (hu : P.underlying t = some (.slice e)) (hux : P.underlying tx = some .string) (hs : (P.info? e).map (·.size) = some 1) (hb : (P.info? e).map (·.bytes) = some by_) (hz : Zero P e zs) (hzl : zs.length = 1) (hby : Nat.blt 0 by_ = true)
    (hV : Vec 1 ad k c xs E) (hnew : bs.data.toList.map bcell = new) (hbig : (3 * (k + m) + 1200) * by_ ≤ 281474976710656)
    (hg : On ops o l) (hd : o.dst = some d) (hn : Nat.blt d n = true)
    (h : ∀ ad' c' E', Vec 1 ad' (k + m) c' (xs ++ new) E' → (k + m ≤ c → ad' = ad ∧ c' = c) → WL P ops Q n p w0 rest ((d, .slice ad' (k + m) c') :: l) (E' ++ L0)) : WL P ops Q n p w0 (o :: rest) l (E ++ L0) := by
  subst hm hnew
  refine WL.op hg hd hn fun a w ha hS => ?_
  have hxy : evs l [x, y] = some [.slice ad k c, .string bs] := by simp [evs, hx, hy]
  obtain ⟨cc, hr⟩ := run_builtin (P := P) (w := w) (xs := [x, y]) ho hxy ha
  have hfc : ∀ w', St p w0 w' (E ++ L0) → (Builtin.firstCells 1 bs.size (.string bs)).run P w' = .ok (bs.data.toList.map bcell).toArray w' := fun w' hS' => by
    have : bs.data.map (fun b => Value.int .u8 (b.toNat : Int)) = (bs.data.toList.map bcell).toArray := by
      apply Array.toList_inj.1
      rw [Array.toList_map]
      rfl
    simp [Builtin.firstCells, this]
  obtain ⟨ad', c', E', w', h1, h2, h3, h4⟩ := append_run (P := P) (ty := o.type) hu hux (fun _ => by simp) hs hb hz hzl (by simpa using hby) hV hS (by simp [Builtin.lenOf]) hfc (by simp) (List.all_eq_true.2 (fun v hv => by obtain ⟨b, _, rfl⟩ := List.mem_map.1 hv; rfl)) hbig
  refine ⟨_, w', E' ++ L0, ?_, h3, h ad' c' E' h2 h4⟩
  rw [hr]
  simp [builtin, h1]
end

/-! ### Literals of slices -/
theorem flat_get {zs : List Value} {s : Nat} (hzl : zs.length = s) : ∀ (len i : Nat), i < len * s → ((List.replicate len zs).flatten)[i]? = zs[i % s]?
  | 0, i, h => by simp at h
  | k + 1, i, h => by
    rw [List.replicate_succ, List.flatten_cons]
    rw [Nat.add_mul] at h
    by_cases hlt : i < s
    · rw [List.getElem?_append_left (by omega), Nat.mod_eq_of_lt hlt]
    · rw [List.getElem?_append_right (by omega), hzl, flat_get hzl k (i - s) (by omega), ← Nat.mod_eq_sub_mod (by omega)]
theorem flat_len {zs : List Value} {s : Nat} (hzl : zs.length = s) (len : Nat) : ((List.replicate len zs).flatten).length = len * s := by simp [hzl]
theorem zero_row {zs : List Value} {s : Nat} (hzl : zs.length = s) (len : Nat) : (Array.range (len * s)).map (zs.toArray[· % zs.toArray.size]!) = ((List.replicate len zs).flatten).toArray := by
  apply Array.ext
  · simp [hzl]
  · intro i hi1 hi2
    have hi : i < len * s := by simpa using hi1
    have hs0 : 0 < s := by
      rcases Nat.eq_zero_or_pos s with h | h
      · subst h; simp at hi
      · exact h
    have hmod : i % s < zs.length := by rw [hzl]; exact Nat.mod_lt _ hs0
    have h := flat_get hzl len i hi
    rw [List.getElem?_eq_getElem (by simpa using hi2), List.getElem?_eq_getElem hmod] at h
    simp only [Array.getElem_map, Array.getElem_range, List.size_toArray, hzl, List.getElem_toArray]
    rw [getElem!_pos _ _ (by simpa using hmod)]
    simpa using h.symm
theorem WL.buildSlice {t e s len d : Nat} {parts : List (Nat × Operand)} {vs : List (Nat × Value)} {zs out : List Value} (ho : o.op = .buildSlice t len parts.toArray) (hx : evp l parts = some vs) (hu : P.underlying t = some (.slice e)) (hs : (P.info? e).map (·.size) = some s)
    (hz : Zero P e zs) (hzl : zs.length = s) (hbig : len * s ≤ 16777216) (hf : fillL (fun i => some (i * s, s)) ((List.replicate len zs).flatten) vs = some out) (hg : On ops o l) (hd : o.dst = some d) (hn : Nat.blt d n = true)
    (h : ∀ g, w0.heap.size ≤ g → WL P ops Q n p w0 rest ((d, .slice (some ⟨g, 0, none⟩) len len) :: l) (.row g out :: L)) : WL P ops Q n p w0 (o :: rest) l L := by
  refine WL.op hg hd hn fun a w ha hS => ?_
  obtain ⟨z, hz, hzs⟩ := hz
  have hzc : z.cells = zs.toArray := by rw [← hzs]
  have h1 := ha.evp hx
  have h2 := fill_eq _ _ _ _ hf
  refine ⟨_, _, _, ?_, St.new (cs := out) (T := e) hS, h _ hS.frm.size⟩
  have hrow := zero_row hzl len
  have hnb : ¬ (len * s > 2 ^ 24) := by omega
  have hz' : ∀ w : World, (if len * s = 0 then (pure #[] : Sem (Array Value)) else do pure (← zeroValue e).cells).run P w = .ok (if len * s = 0 then #[] else zs.toArray) w := fun w => by
    split <;> simp [run_zeroValue hz, hzc]
  have hrow' : (Array.range (len * s)).map ((if len * s = 0 then (#[] : Array Value) else zs.toArray)[· % (if len * s = 0 then (#[] : Array Value) else zs.toArray).size]!) = ((List.replicate len zs).flatten).toArray := by
    by_cases h0 : len * s = 0
    · have hl := flat_len hzl len
      have : (List.replicate len zs).flatten = [] := List.length_eq_zero_iff.1 (by omega)
      rw [this, h0]
      exact Array.ext (by simp) (fun i h => by simp at h)
    · simp only [h0, if_false]; exact hrow
  unfold execOp
  simp only [ho, Instr.buildSlice, Sem.run_bind, run_underlying hu, Result.andThen_ok, run_sizeOf hs, hnb, if_false, Sem.run_pure]
  by_cases h0 : len * s = 0
  · simp only [h0, if_true] at hrow' ⊢
    have hl := flat_len hzl len
    have hnil : (List.replicate len zs).flatten = [] := List.length_eq_zero_iff.1 (by omega)
    have hz0 : ∀ f : Nat → Value, Array.map f (Array.range 0) = #[] := fun f => Array.ext (by simp) (fun i h => by simp at h)
    rw [hnil] at h2
    simp [h1, hz0, h2, newRow, newObj, Sem.run]
  · simp only [h0, if_false] at hrow' ⊢
    have hr2 : Array.map (fun x => zs[x % zs.length]?.getD default) (Array.range (len * s)) = ((List.replicate len zs).flatten).toArray := by
      rw [← hrow']; simp
    simp [run_zeroValue hz, hzc, h1, hr2, h2, newRow, newObj, Sem.run]
end
end Go.Proofs.YtodaanhhnjkncaaDoor
