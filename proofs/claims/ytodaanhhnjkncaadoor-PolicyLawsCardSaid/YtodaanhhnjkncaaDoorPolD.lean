/- policy: what a policy makes of a header, as a relation between the numbers of headers. -/
import Derived.Test.YtodaanhhnjkncaaDoorPolC
namespace Go.Proofs.YtodaanhhnjkncaaDoor
open Go.RowKit

abbrev Ky := Nat → Int
mutual
def holdsG (h : Ky) : Nd → Bool
  | .mk k f v m _ _ kids => if k = 1 then true else if k = 3 then decide (andN (xorN (h f.toNat) v) m = 0) else if k = 4 then !(holdsGs h kids).getD 0 false else if k = 5 then (holdsGs h kids).all id else if k = 6 then (holdsGs h kids).any id else false
def holdsGs (h : Ky) : List Nd → List Bool
  | [] => []
  | t :: ts => holdsG h t :: holdsGs h ts
end
mutual
theorem holdsT_G (H : Hd) : ∀ t : Nd, holdsT H t = holdsG (getF H) t
  | .mk k f v m a c kids => by rw [holdsT, holdsG, holdsKs_G H kids]
theorem holdsKs_G (H : Hd) : ∀ ts : List Nd, holdsKs H ts = holdsGs (getF H) ts
  | [] => by rw [holdsKs, holdsGs]
  | t :: ts => by rw [holdsKs, holdsGs, holdsT_G H t, holdsKs_G H ts]
end
def updK (k : Nat) (v : Int) (h : Ky) : Ky := fun j => if j = k then v else h j
theorem getF_big (H : Hd) (j : Nat) : getF H (j + 9) = 0 := by
  show rawF H (j + 9) % _ = 0
  rw [show rawF H (j + 9) = 0 from rfl, Int.zero_emod]
theorem getF_ge (H : Hd) {j : Nat} (h : 9 ≤ j) : getF H j = 0 := by
  have := getF_big H (j - 9)
  rwa [show j - 9 + 9 = j by omega] at this
theorem getF_upd {k : Nat} (hk : k < 9) {n : Int} (h0 : 0 ≤ n) (h1 : n ≤ fullI k) (H : Hd) : getF (wthF k n H) = updK k n (getF H) := by
  funext j
  unfold updK
  by_cases e : j = k
  · subst e; rw [if_pos rfl]; exact getF_with hk h0 h1 H
  · rw [if_neg e]
    by_cases h9 : j < 9
    · exact getF_with_ne h9 (fun q => e q.symm) n H
    · rw [getF_ge _ (by omega), getF_ge _ (by omega)]
theorem getF_ext {A B : Hd} (h : ∀ i, i < 9 → getF A i = getF B i) : getF A = getF B := by
  funext j
  by_cases h9 : j < 9
  · exact h j h9
  · rw [getF_ge _ (by omega), getF_ge _ (by omega)]
mutual
/-- g is among what a policy makes of h. -/
def OutT : Nd → Ky → Ky → Prop
  | .mk k f v _ _ _ kids, h, g =>
    if k = 12 then g = h
    else if k = 13 then (holdsGs h kids).getD 0 false = true ∧ g = h
    else if k = 14 then g = updK f.toNat v h
    else if k = 15 then OutPar kids h g
    else if k = 16 then OutSeq kids h g
    else if k = 17 then (if (holdsGs h kids).getD 0 false then OutNth kids 1 h g else OutNth kids 2 h g)
    else False
def OutPar : List Nd → Ky → Ky → Prop
  | [], _, _ => False
  | t :: ts, h, g => OutT t h g ∨ OutPar ts h g
def OutSeq : List Nd → Ky → Ky → Prop
  | [], h, g => g = h
  | t :: ts, h, g => ∃ m, OutT t h m ∧ OutSeq ts m g
def OutNth : List Nd → Nat → Ky → Ky → Prop
  | [], _, _, _ => False
  | t :: _, 0, h, g => OutT t h g
  | _ :: ts, i + 1, h, g => OutNth ts i h g
end
/-! ### Headers that are right -/
structure Hd.Rt (H : Hd) : Prop where
  isIn : H.In
  ok : H.okB = true
theorem Hd.Rt.nums {H : Hd} (h : H.Rt) : (0 ≤ H.port ∧ H.port ≤ 255) ∧ (0 ≤ H.ty ∧ H.ty ≤ 65535) ∧ (0 ≤ H.proto ∧ H.proto ≤ 255) ∧ (0 ≤ H.sp ∧ H.sp ≤ 65535) ∧ (0 ≤ H.dp ∧ H.dp ≤ 65535) := by
  have h1 := h.ok
  unfold Hd.okB at h1
  simp only [Bool.and_eq_true] at h1
  obtain ⟨⟨⟨⟨a, b⟩, c⟩, d⟩, e⟩ := h1
  have a := of_decide_eq_true a
  have b := of_decide_eq_true b
  have c := of_decide_eq_true c
  have d := of_decide_eq_true d
  have e := of_decide_eq_true e
  rw [show fullI 0 = 255 by decide] at a
  rw [show fullI 3 = 65535 by decide] at b
  rw [show fullI 6 = 255 by decide] at c
  rw [show fullI 7 = 65535 by decide] at d
  rw [show fullI 8 = 65535 by decide] at e
  exact ⟨a, b, c, d, e⟩
theorem numK_inj {f g : Nat → Int} (hf : Byt f) (hg : Byt g) (h : numK f 6 = numK g 6) : ∀ i, i < 6 → f i = g i := by
  have a0 := hf 0; have a1 := hf 1; have a2 := hf 2; have a3 := hf 3; have a4 := hf 4; have a5 := hf 5
  have b0 := hg 0; have b1 := hg 1; have b2 := hg 2; have b3 := hg 3; have b4 := hg 4; have b5 := hg 5
  simp only [numK] at h
  intro i hi
  match i, hi with
  | 0, _ | 1, _ | 2, _ | 3, _ | 4, _ | 5, _ => omega
theorem numK_congr {f g : Nat → Int} (h : ∀ i, i < 6 → f i = g i) : numK f 6 = numK g 6 := by
  simp only [numK]
  rw [h 0 (by omega), h 1 (by omega), h 2 (by omega), h 3 (by omega), h 4 (by omega), h 5 (by omega)]
theorem same_getF {A B : Hd} (hA : A.Rt) (hB : B.Rt) : A.same B ↔ getF A = getF B := by
  constructor
  · rintro ⟨h0, h1, h2, h3, h4, h5, h6, h7, h8⟩
    refine getF_ext fun i hi => ?_
    unfold getF
    have e : rawF A i = rawF B i := by
      match i, hi with
      | 0, _ => show A.port % _ = B.port % _; rw [h0]
      | 1, _ => exact numK_congr h1
      | 2, _ => exact numK_congr h2
      | 3, _ => show A.ty % _ = B.ty % _; rw [h3]
      | 4, _ => exact h4
      | 5, _ => exact h5
      | 6, _ => show A.proto % _ = B.proto % _; rw [h6]
      | 7, _ => show A.sp % _ = B.sp % _; rw [h7]
      | 8, _ => show A.dp % _ = B.dp % _; rw [h8]
    rw [e]
  · intro h
    have hh : ∀ i, getF A i = getF B i := fun i => congrFun h i
    obtain ⟨a0, a3, a6, a7, a8⟩ := hA.nums
    obtain ⟨b0, b3, b6, b7, b8⟩ := hB.nums
    have n1 := numK_le hA.isIn.src (Nat.le_refl 6); have n2 := numK_le hA.isIn.dst (Nat.le_refl 6)
    have m1 := numK_le hB.isIn.src (Nat.le_refl 6); have m2 := numK_le hB.isIn.dst (Nat.le_refl 6)
    have s1 := hA.isIn.sip; have s2 := hA.isIn.dip; have t1 := hB.isIn.sip; have t2 := hB.isIn.dip
    have g0 : A.port % 18446744073709551616 % 256 = B.port % 18446744073709551616 % 256 := hh 0
    have g1 : numK A.src 6 % 281474976710656 = numK B.src 6 % 281474976710656 := hh 1
    have g2 : numK A.dst 6 % 281474976710656 = numK B.dst 6 % 281474976710656 := hh 2
    have g3 : A.ty % 18446744073709551616 % 65536 = B.ty % 18446744073709551616 % 65536 := hh 3
    have g4 : A.sip % 4294967296 = B.sip % 4294967296 := hh 4
    have g5 : A.dip % 4294967296 = B.dip % 4294967296 := hh 5
    have g6 : A.proto % 18446744073709551616 % 256 = B.proto % 18446744073709551616 % 256 := hh 6
    have g7 : A.sp % 18446744073709551616 % 65536 = B.sp % 18446744073709551616 % 65536 := hh 7
    have g8 : A.dp % 18446744073709551616 % 65536 = B.dp % 18446744073709551616 % 65536 := hh 8
    exact ⟨by omega, numK_inj hA.isIn.src hB.isIn.src (by omega), numK_inj hA.isIn.dst hB.isIn.dst (by omega), by omega, by omega, by omega, by omega, by omega, by omega⟩
theorem okB_with {k : Nat} (hk : k < 9) {n : Int} (h0 : 0 ≤ n) (h1 : n ≤ fullI k) {H : Hd} (h : H.okB = true) : (wthF k n H).okB = true := by
  unfold Hd.okB at h ⊢
  simp only [Bool.and_eq_true] at h ⊢
  have hf : ∀ j, j = k → fitsB j n = true := fun j e => by subst e; exact decide_eq_true ⟨h0, h1⟩
  obtain ⟨⟨⟨⟨a, b⟩, c⟩, d⟩, e⟩ := h
  match k, hk with
  | 0, _ => exact ⟨⟨⟨⟨hf 0 rfl, b⟩, c⟩, d⟩, e⟩
  | 1, _ => exact ⟨⟨⟨⟨a, b⟩, c⟩, d⟩, e⟩
  | 2, _ => exact ⟨⟨⟨⟨a, b⟩, c⟩, d⟩, e⟩
  | 3, _ => exact ⟨⟨⟨⟨a, hf 3 rfl⟩, c⟩, d⟩, e⟩
  | 4, _ => exact ⟨⟨⟨⟨a, b⟩, c⟩, d⟩, e⟩
  | 5, _ => exact ⟨⟨⟨⟨a, b⟩, c⟩, d⟩, e⟩
  | 6, _ => exact ⟨⟨⟨⟨a, b⟩, hf 6 rfl⟩, d⟩, e⟩
  | 7, _ => exact ⟨⟨⟨⟨a, b⟩, c⟩, hf 7 rfl⟩, e⟩
  | 8, _ => exact ⟨⟨⟨⟨a, b⟩, c⟩, d⟩, hf 8 rfl⟩
theorem Rt_with {k : Nat} (hk : k < 9) {n : Int} (h0 : 0 ≤ n) (h1 : n ≤ fullI k) {H : Hd} (h : H.Rt) : (wthF k n H).Rt := ⟨wthF_in h.isIn h0 h1, okB_with hk h0 h1 h.ok⟩
/-! ### Lists of headers -/
/-- A number list stands among headers. -/
def inK (Rs : List Hd) (g : Ky) : Prop := ∃ x ∈ Rs, getF x = g
/-- Right headers, each once. -/
structure Once (Rs : List Hd) : Prop where
  all : ∀ x ∈ Rs, x.Rt
  nd : (Rs.map getF).Nodup
theorem Once.nil : Once [] := ⟨(fun _ h => by cases h), List.nodup_nil⟩
theorem Once.one {H : Hd} (h : H.Rt) : Once [H] := ⟨fun x hx => by rw [List.mem_singleton.1 hx]; exact h, (by simp)⟩
theorem inK_nil (g : Ky) : ¬ inK [] g := fun ⟨_, h, _⟩ => by cases h
theorem inK_one (H : Hd) (g : Ky) : inK [H] g ↔ g = getF H := ⟨fun ⟨x, hx, e⟩ => by rw [List.mem_singleton.1 hx] at e; exact e.symm, fun e => ⟨H, by simp, e.symm⟩⟩
theorem inK_cons (x : Hd) (xs : List Hd) (g : Ky) : inK (x :: xs) g ↔ g = getF x ∨ inK xs g := by
  constructor
  · rintro ⟨y, hy, e⟩
    rcases List.mem_cons.1 hy with h | h
    · rw [h] at e; exact .inl e.symm
    · exact .inr ⟨y, h, e⟩
  · rintro (e | ⟨y, hy, e⟩)
    · exact ⟨x, by simp, e.symm⟩
    · exact ⟨y, by simp [hy], e⟩
theorem inK_append (xs ys : List Hd) (g : Ky) : inK (xs ++ ys) g ↔ inK xs g ∨ inK ys g := by
  constructor
  · rintro ⟨y, hy, e⟩
    rcases List.mem_append.1 hy with h | h
    · exact .inl ⟨y, h, e⟩
    · exact .inr ⟨y, h, e⟩
  · rintro (⟨y, hy, e⟩ | ⟨y, hy, e⟩)
    · exact ⟨y, List.mem_append_left _ hy, e⟩
    · exact ⟨y, List.mem_append_right _ hy, e⟩
theorem inHs_iff {As : List Hd} (hA : ∀ x ∈ As, x.Rt) {h : Hd} (hh : h.Rt) : inHs As h = true ↔ inK As (getF h) := by
  unfold inHs
  rw [List.any_eq_true]
  constructor
  · rintro ⟨x, hx, e⟩
    exact ⟨x, hx, ((same_getF hh (hA x hx)).1 (of_decide_eq_true e)).symm⟩
  · rintro ⟨x, hx, e⟩
    exact ⟨x, hx, decide_eq_true ((same_getF hh (hA x hx)).2 e.symm)⟩
theorem gatherT_keys : ∀ (Bs As Rs : List Hd), Once As → (∀ x ∈ Bs, x.Rt) → gatherT As Bs = some Rs → Once Rs ∧ ∀ g, inK Rs g ↔ inK As g ∨ inK Bs g
  | [], As, Rs, hA, _, e => by
    rw [gatherT] at e; cases e
    exact ⟨hA, fun g => ⟨.inl, fun h => h.elim id fun h => absurd h (inK_nil g)⟩⟩
  | b :: Bs, As, Rs, hA, hB, e => by
    rw [gatherT] at e
    have hb := hB b (by simp)
    have hB' : ∀ x ∈ Bs, x.Rt := fun x hx => hB x (by simp [hx])
    split at e
    · rename_i h
      have hi := (inHs_iff hA.all hb).1 h
      obtain ⟨h1, h2⟩ := gatherT_keys Bs As Rs hA hB' e
      refine ⟨h1, fun g => ?_⟩
      rw [h2, inK_cons]
      constructor
      · rintro (h | h); exact .inl h; exact .inr (.inr h)
      · rintro (h | h | h)
        · exact .inl h
        · rw [h]; exact .inl hi
        · exact .inr h
    · rename_i h
      have hi : ¬ inK As (getF b) := fun q => h ((inHs_iff hA.all hb).2 q)
      split at e
      · cases e
      · have hA' : Once (As ++ [b]) := by
          refine ⟨fun x hx => ?_, ?_⟩
          · rcases List.mem_append.1 hx with h | h
            · exact hA.all x h
            · rw [List.mem_singleton.1 h]; exact hb
          · rw [List.map_append, List.nodup_append]
            refine ⟨hA.nd, (by simp), ?_⟩
            rintro a ha c hc rfl
            obtain ⟨x, hx, ex⟩ := List.mem_map.1 ha
            rw [List.map_singleton, List.mem_singleton] at hc
            exact hi ⟨x, hx, ex.trans hc⟩
        obtain ⟨h1, h2⟩ := gatherT_keys Bs (As ++ [b]) Rs hA' hB' e
        refine ⟨h1, fun g => ?_⟩
        rw [h2, inK_append, inK_one, inK_cons]
        constructor
        · rintro ((h | h) | h)
          · exact .inl h
          · exact .inr (.inl h)
          · exact .inr (.inr h)
        · rintro (h | h | h)
          · exact .inl (.inl h)
          · exact .inl (.inr h)
          · exact .inr h
theorem seqStep_keys {f : Hd → Option (List Hd)} {R : Ky → Ky → Prop} (hf : ∀ g, g.Rt → ∀ out, f g = some out → Once out ∧ ∀ k, inK out k ↔ R (getF g) k) : ∀ (all nx Rs : List Hd), (∀ g ∈ all, g.Rt) → Once nx → seqStep f all nx = some Rs → Once Rs ∧ ∀ k, inK Rs k ↔ inK nx k ∨ ∃ m, inK all m ∧ R m k
  | [], nx, Rs, _, hn, e => by
    rw [seqStep] at e; cases e
    exact ⟨hn, fun k => ⟨.inl, fun h => h.elim id fun ⟨m, hm, _⟩ => absurd hm (inK_nil m)⟩⟩
  | g :: gs, nx, Rs, ha, hn, e => by
    rw [seqStep] at e
    obtain ⟨out, h1, e⟩ := Option.bind_eq_some_iff.1 e
    obtain ⟨nx', h2, e⟩ := Option.bind_eq_some_iff.1 e
    have hg := ha g (by simp)
    obtain ⟨o1, o2⟩ := hf g hg out h1
    obtain ⟨g1, g2⟩ := gatherT_keys _ _ _ hn o1.all h2
    obtain ⟨r1, r2⟩ := seqStep_keys hf gs nx' Rs (fun x hx => ha x (by simp [hx])) g1 e
    refine ⟨r1, fun k => ?_⟩
    rw [r2, g2, o2]
    constructor
    · rintro ((h | h) | ⟨m, hm, hr⟩)
      · exact .inl h
      · exact .inr ⟨getF g, ⟨g, by simp, rfl⟩, h⟩
      · exact .inr ⟨m, (inK_cons _ _ _).2 (.inr hm), hr⟩
    · rintro (h | ⟨m, hm, hr⟩)
      · exact .inl (.inl h)
      · rcases (inK_cons _ _ _).1 hm with e | h
        · rw [e] at hr; exact .inl (.inr hr)
        · exact .inr ⟨m, h, hr⟩
mutual
theorem runT_keys : ∀ (t : Nd) (pred : Bool) (H : Hd) (Rs : List Hd), okT pred t → t.In → H.Rt → runT t H = some Rs → Once Rs ∧ ∀ g, inK Rs g ↔ OutT t (getF H) g
  | .mk k f v m a c kids, pred, H, Rs, hk, hI, hH, e => by
    rw [runT, holdsKs_G] at e
    have hkids := hk.parts.2.2.2
    have hIk := hI.kids
    unfold OutT
    by_cases k12 : k = 12
    · rw [if_pos k12] at e; cases e
      exact ⟨Once.one hH, fun g => by rw [if_pos k12, inK_one]⟩
    rw [if_neg k12] at e
    by_cases k13 : k = 13
    · rw [if_pos k13] at e
      simp only [if_neg k12, if_pos k13]
      split at e
      · rename_i hh; cases e
        exact ⟨Once.one hH, fun g => by rw [inK_one]; exact ⟨fun q => ⟨hh, q⟩, fun q => q.2⟩⟩
      · rename_i hh; cases e
        exact ⟨Once.nil, fun g => ⟨fun q => absurd q (inK_nil g), fun q => absurd q.1 hh⟩⟩
    rw [if_neg k13] at e
    by_cases k14 : k = 14
    · rw [if_pos k14] at e; cases e
      obtain ⟨q, _, hq, e2, hv⟩ := argE_set hk.parts.2.1 k14
      have e3 : f.toNat = q := e2
      rw [e3]
      refine ⟨Once.one (Rt_with hq hI.nums.2.2.1.1 hv hH), fun g => ?_⟩
      rw [if_neg k12, if_neg k13, if_pos k14, inK_one, getF_upd (n := v) hq hI.nums.2.2.1.1 hv]
    rw [if_neg k14] at e
    by_cases k15 : k = 15
    · rw [if_pos k15] at e
      simp only [if_neg k12, if_neg k13, if_neg k14, if_pos k15]
      obtain ⟨h1, h2⟩ := parKs_keys k 0 kids H [] Rs hkids hIk hH Once.nil e
      exact ⟨h1, fun g => by rw [h2]; exact ⟨fun q => q.elim (fun q => absurd q (inK_nil g)) id, .inr⟩⟩
    rw [if_neg k15] at e
    by_cases k16 : k = 16
    · rw [if_pos k16] at e
      simp only [if_neg k12, if_neg k13, if_neg k14, if_neg k15, if_pos k16]
      obtain ⟨h1, h2⟩ := seqKs_keys k 0 kids [H] Rs hkids hIk (Once.one hH) e
      refine ⟨h1, fun g => ?_⟩
      rw [h2]
      exact ⟨fun ⟨m, hm, hr⟩ => by rw [inK_one] at hm; rwa [hm] at hr, fun hr => ⟨_, (inK_one _ _).2 rfl, hr⟩⟩
    rw [if_neg k16] at e
    by_cases k17 : k = 17
    · rw [if_pos k17] at e
      simp only [if_neg k12, if_neg k13, if_neg k14, if_neg k15, if_neg k16, if_pos k17]
      split at e
      · rename_i hh
        simp only [if_pos hh]
        exact nthKs_keys k 0 kids 1 H Rs hkids hIk hH e
      · rename_i hh
        simp only [if_neg hh]
        exact nthKs_keys k 0 kids 2 H Rs hkids hIk hH e
    rw [if_neg k17] at e; cases e
    simp only [if_neg k12, if_neg k13, if_neg k14, if_neg k15, if_neg k16, if_neg k17]
    exact ⟨Once.nil, fun g => ⟨fun q => absurd q (inK_nil g), False.elim⟩⟩
theorem parKs_keys (k : Int) : ∀ (i : Nat) (ts : List Nd) (H : Hd) (all Rs : List Hd), okKs k i ts → KidsIn ts → H.Rt → Once all → parKs ts H all = some Rs → Once Rs ∧ ∀ g, inK Rs g ↔ inK all g ∨ OutPar ts (getF H) g
  | _, [], H, all, Rs, _, _, _, ha, e => by
    rw [parKs] at e; cases e
    exact ⟨ha, fun g => by unfold OutPar; exact ⟨.inl, fun q => q.elim id False.elim⟩⟩
  | i, t :: ts, H, all, Rs, hk, hI, hH, ha, e => by
    rw [parKs] at e
    unfold okKs at hk
    unfold KidsIn at hI
    obtain ⟨out, h1, e⟩ := Option.bind_eq_some_iff.1 e
    obtain ⟨all', h2, e⟩ := Option.bind_eq_some_iff.1 e
    obtain ⟨o1, o2⟩ := runT_keys t _ H out hk.1 hI.1 hH h1
    obtain ⟨g1, g2⟩ := gatherT_keys _ _ _ ha o1.all h2
    obtain ⟨r1, r2⟩ := parKs_keys k (i + 1) ts H all' Rs hk.2 hI.2 hH g1 e
    refine ⟨r1, fun g => ?_⟩
    rw [r2, g2, o2]
    rw [OutPar]
    exact or_assoc
theorem seqKs_keys (k : Int) : ∀ (i : Nat) (ts : List Nd) (all Rs : List Hd), okKs k i ts → KidsIn ts → Once all → seqKs ts all = some Rs → Once Rs ∧ ∀ g, inK Rs g ↔ ∃ m, inK all m ∧ OutSeq ts m g
  | _, [], all, Rs, _, _, ha, e => by
    rw [seqKs] at e; cases e
    exact ⟨ha, fun g => ⟨fun h => ⟨g, h, by rw [OutSeq]⟩, fun ⟨m, hm, hr⟩ => by rw [OutSeq] at hr; rw [hr]; exact hm⟩⟩
  | i, t :: ts, all, Rs, hk, hI, ha, e => by
    rw [seqKs] at e
    unfold okKs at hk
    unfold KidsIn at hI
    obtain ⟨nx, h1, e⟩ := Option.bind_eq_some_iff.1 e
    obtain ⟨s1, s2⟩ := seqStep_keys (R := OutT t) (fun g hg out ho => runT_keys t _ g out hk.1 hI.1 hg ho) all [] nx ha.all Once.nil h1
    obtain ⟨r1, r2⟩ := seqKs_keys k (i + 1) ts nx Rs hk.2 hI.2 s1 e
    refine ⟨r1, fun g => ?_⟩
    rw [r2]
    constructor
    · rintro ⟨m, hm, hr⟩
      rcases (s2 m).1 hm with h | ⟨q, hq, hr2⟩
      · exact absurd h (inK_nil m)
      · exact ⟨q, hq, by rw [OutSeq]; exact ⟨m, hr2, hr⟩⟩
    · rintro ⟨q, hq, hr⟩
      rw [OutSeq] at hr
      obtain ⟨m, h1, h2⟩ := hr
      exact ⟨m, (s2 m).2 (.inr ⟨q, hq, h1⟩), h2⟩
theorem nthKs_keys (k : Int) : ∀ (i : Nat) (ts : List Nd) (j : Nat) (H : Hd) (Rs : List Hd), okKs k i ts → KidsIn ts → H.Rt → nthKs ts j H = some Rs → Once Rs ∧ ∀ g, inK Rs g ↔ OutNth ts j (getF H) g
  | _, [], j, H, Rs, _, _, _, e => by rw [nthKs] at e; cases e
  | i, t :: ts, 0, H, Rs, hk, hI, hH, e => by
    rw [nthKs] at e
    unfold okKs at hk
    unfold KidsIn at hI
    simp only [OutNth]
    exact runT_keys t _ H Rs hk.1 hI.1 hH e
  | i, t :: ts, j + 1, H, Rs, hk, hI, hH, e => by
    rw [nthKs] at e
    unfold okKs at hk
    unfold KidsIn at hI
    simp only [OutNth]
    exact nthKs_keys k (i + 1) ts j H Rs hk.2 hI.2 hH e
end
/-! ### Sorted lists -/
theorem strict_unique {α : Type} {lt : α → α → Prop} (irr : ∀ a, ¬ lt a a) (tr : ∀ a b c, lt a b → lt b c → lt a c) : ∀ (xs ys : List α), xs.Pairwise lt → ys.Pairwise lt → (∀ z, z ∈ xs ↔ z ∈ ys) → xs = ys
  | [], [], _, _, _ => rfl
  | [], y :: ys, _, _, h => absurd ((h y).2 (by simp)) (by simp)
  | x :: xs, [], _, _, h => absurd ((h x).1 (by simp)) (by simp)
  | x :: xs, y :: ys, hx, hy, h => by
    rw [List.pairwise_cons] at hx hy
    have e : x = y := by
      rcases List.mem_cons.1 ((h x).1 (by simp)) with e | hm
      · exact e
      · rcases List.mem_cons.1 ((h y).2 (by simp)) with e | hn
        · exact e.symm
        · exact absurd (tr _ _ _ (hy.1 x hm) (hx.1 y hn)) (irr _)
    subst e
    congr 1
    refine strict_unique irr tr xs ys hx.2 hy.2 fun z => ?_
    constructor
    · intro hz
      rcases List.mem_cons.1 ((h z).1 (by simp [hz])) with e | hm
      · rw [e] at hz; exact absurd (hx.1 x hz) (irr _)
      · exact hm
    · intro hz
      rcases List.mem_cons.1 ((h z).2 (by simp [hz])) with e | hm
      · rw [e] at hz; exact absurd (hy.1 x hz) (irr _)
      · exact hm
def ltK (f g : Ky) : Prop := lexK f g 9 < 0
theorem ltK_irr (f : Ky) : ¬ ltK f f := fun h => by
  unfold ltK at h
  have := (lexK_zero f f 9).2 (fun _ _ => rfl)
  omega
theorem asc_strict {Rs : List Hd} (ha : Asc Rs) (hn : (Rs.map getF).Nodup) : (Rs.map getF).Pairwise ltK := by
  rw [List.pairwise_iff_getElem]
  intro i j hi hj hij
  rw [List.length_map] at hi hj
  rw [List.getElem_map, List.getElem_map]
  have h := ha i j _ _ (List.getElem?_eq_getElem hi) (List.getElem?_eq_getElem hj) hij
  rw [hcmp_lex] at h
  unfold ltK
  rcases lex_nlt.1 h with q | q
  · exact q
  · have e : getF Rs[j] = getF Rs[i] := getF_ext ((lexK_zero _ _ 9).1 q)
    have := (List.pairwise_iff_getElem.1 hn) i j (by rw [List.length_map]; exact hi) (by rw [List.length_map]; exact hj) hij
    rw [List.getElem_map, List.getElem_map] at this
    exact absurd e.symm this
/-- What Run hands back when all is right. -/
theorem RunIs.keys {t : Nd} {H : Hd} {Rs : List Hd} {er : Int} (h : RunIs t H Rs er) (hI : t.In) (hH : H.In) (e : er = 0) : okT false t ∧ H.Rt ∧ (∀ x ∈ Rs, x.Rt) ∧ (Rs.map getF).Pairwise ltK ∧ (∀ g, inK Rs g ↔ OutT t (getF H) g) ∧ Rs.length ≤ 64 := by
  unfold RunIs at h
  split at h
  · rename_i q; exact absurd (h.1.symm.trans e) q
  · rename_i q
    split at h
    · rename_i q2; rw [h.1] at e; exact absurd e (by decide)
    · rename_i q2
      have hok := walkT_ok _ _ _ _ (Classical.not_not.1 q)
      have hR : H.Rt := ⟨hH, by simpa using q2⟩
      cases hr : runT t H with
      | none => rw [hr] at h; rw [h.1] at e; exact absurd e (by decide)
      | some Qs =>
        rw [hr] at h
        obtain ⟨k1, k2⟩ := runT_keys t false H Qs hok hI hR hr
        have hg := runT_good t false H Qs hok hI hH hr
        have hn : (Rs.map getF).Nodup := (h.2.1.map getF).nodup_iff.2 k1.nd
        refine ⟨hok, hR, fun x hx => k1.all x (h.2.1.subset hx), asc_strict h.2.2 hn, fun g => ?_, by rw [h.2.1.length_eq]; exact hg.len⟩
        rw [← k2]
        exact ⟨fun ⟨x, hx, e⟩ => ⟨x, h.2.1.subset hx, e⟩, fun ⟨x, hx, e⟩ => ⟨x, h.2.1.symm.subset hx, e⟩⟩
/-- Two policies of one header that are the same relation make the same list. -/
theorem runs_same {t u : Nd} {H : Hd} {Xs Ys : List Hd} {e f : Int} (hx : RunIs t H Xs e) (hy : RunIs u H Ys f) (ht : t.In) (hu : u.In) (hH : H.In) (he : e = 0) (hf : f = 0) (h : okT false t → okT false u → ∀ g, OutT t (getF H) g ↔ OutT u (getF H) g) : Xs.length = Ys.length ∧ ∀ (i : Nat) (A B : Hd), Xs[i]? = some A → Ys[i]? = some B → hdL A = hdL B := by
  obtain ⟨o1, _, x1, x2, x3, _⟩ := hx.keys ht hH he
  obtain ⟨o2, _, y1, y2, y3, _⟩ := hy.keys hu hH hf
  have e : Xs.map getF = Ys.map getF := strict_unique ltK_irr (fun a b c h1 h2 => lex_trans h1 h2) _ _ x2 y2 fun z => by
    rw [List.mem_map, List.mem_map]
    exact (x3 z).trans ((h o1 o2 z).trans (y3 z).symm)
  refine ⟨by have := congrArg List.length e; rwa [List.length_map, List.length_map] at this, fun i A B hA hB => ?_⟩
  have q : (Xs.map getF)[i]? = (Ys.map getF)[i]? := by rw [e]
  rw [List.getElem?_map, List.getElem?_map, hA, hB] at q
  exact hdL_same.2 ((same_getF (x1 A (List.mem_of_getElem? hA)) (y1 B (List.mem_of_getElem? hB))).2 (Option.some.inj q))
end Go.Proofs.YtodaanhhnjkncaaDoor
