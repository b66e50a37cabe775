/- Texts joined: engine, contracts and laws, in the order in which they build. -/
import Derived.OrdersHeld
import Derived.Test.YtpjbofodllhjbaaGreatDoorBdBgpWrites
/- attr: what was written is read again: numbers, paths, communities. -/
namespace Go.Proofs.YtpjbofodllhjbaaGreatDoor
open Go.RowKit

theorem numB1 (a : Int) : numB a 1 = [a % 256] := by
  show [a / 2 ^ 0 % 256] = _
  rw [show (2 : Int) ^ 0 = 1 by decide, Int.ediv_one]
theorem numB2 (a : Int) : numB a 2 = [a / 256 % 256, a % 256] := by
  show [a / 2 ^ 8 % 256, a / 2 ^ 0 % 256] = _
  rw [show (2 : Int) ^ 8 = 256 by decide, show (2 : Int) ^ 0 = 1 by decide, Int.ediv_one]
theorem read1 {a : Int} (h : 0 ≤ a ∧ a ≤ 255) : readI (numB a 1) = a := by rw [numB1]; show 0 * 256 + a % 256 = a; omega
theorem read2 {a : Int} (h : 0 ≤ a ∧ a ≤ 65535) : readI (numB a 2) = a := by rw [numB2]; show (0 * 256 + a / 256 % 256) * 256 + a % 256 = a; omega
theorem read4 {a : Int} (h : 0 ≤ a ∧ a ≤ 4294967295) : readI (numB a 4) = a := by
  rw [numB4]; show (((0 * 256 + a / 16777216 % 256) * 256 + a / 65536 % 256) * 256 + a / 256 % 256) * 256 + a % 256 = a; omega
theorem fours_flat : ∀ (cs : List Int), (∀ c ∈ cs, 0 ≤ c ∧ c ≤ 4294967295) → fours (cs.flatMap fun x => numB x 4) = cs
  | [], _ => rfl
  | c :: cs, h => by
    have e := fours_flat cs fun x hx => h x (List.mem_cons_of_mem _ hx)
    have r := read4 (h c (List.mem_cons_self ..))
    rw [List.flatMap_cons, numB4]
    rw [numB4] at r
    show readI _ :: fours (cs.flatMap fun x => numB x 4) = _
    rw [r, e]
theorem flat2_get : ∀ (xs rest : List Int) (i : Nat) (x : Int), xs[i]? = some x → ((xs.flatMap (fun x => numB x 2) ++ rest).drop (2 * i)).take 2 = numB x 2
  | [], _, i, x, h => by simp at h
  | y :: xs, rest, 0, x, h => by
    simp only [List.getElem?_cons_zero, Option.some.injEq] at h
    subst h
    rw [List.flatMap_cons, Nat.mul_zero, List.drop_zero, List.append_assoc, List.take_left' (numB_len _ _)]
  | y :: xs, rest, i + 1, x, h => by
    rw [List.getElem?_cons_succ] at h
    rw [List.flatMap_cons, show 2 * (i + 1) = 2 + 2 * i by omega, ← List.drop_drop, List.append_assoc, List.drop_left' (numB_len _ _)]
    exact flat2_get xs rest i x h
theorem sys_flat (xs rest : List Int) (h : ∀ x ∈ xs, 0 ≤ x ∧ x ≤ 65535) : ((List.range xs.length).map fun i => readI (((xs.flatMap (fun x => numB x 2) ++ rest).drop (2 * i)).take 2)) = xs := by
  apply List.ext_getElem?
  intro i
  by_cases hi : i < xs.length
  · rw [List.getElem?_map, List.getElem?_range hi, List.getElem?_eq_getElem hi]
    simp only [Option.map_some]
    rw [flat2_get xs rest i _ (List.getElem?_eq_getElem hi), read2 (h _ (List.getElem_mem _))]
  · rw [List.getElem?_eq_none (by simp; omega), List.getElem?_eq_none (by omega)]
theorem segB_iff {s : SegL} (h : segB s = true) : 1 ≤ s.asl.length ∧ s.asl.length ≤ 255 ∧ ∀ x ∈ s.asl, 1 ≤ x ∧ x ≤ 65535 := by
  unfold segB at h
  rw [Bool.and_eq_true] at h
  have h1 := of_decide_eq_true h.1
  exact ⟨h1.1, h1.2, fun x hx => of_decide_eq_true (List.all_eq_true.1 h.2 x hx)⟩
theorem pathR_flat : ∀ (ss : List SegL), ss.all segB = true → pathR (ss.flatMap segE) = some (ss.map segD)
  | [], _ => by rw [List.flatMap_nil, pathR]; rfl
  | s :: ss, h => by
    rw [List.all_cons, Bool.and_eq_true] at h
    obtain ⟨h1, h2, h3⟩ := segB_iff h.1
    have ih := pathR_flat ss h.2
    have hk : (if s.set then (1 : Int) else 2) % 256 = if s.set then 1 else 2 := by cases s.set <;> decide
    have hn : ((s.asl.length : Int) % 256).toNat = s.asl.length := by omega
    have e : (s :: ss).flatMap segE = (if s.set then (1 : Int) else 2) :: ((s.asl.length : Int) % 256) :: (s.asl.flatMap (fun x => numB x 2) ++ ss.flatMap segE) := by
      rw [List.flatMap_cons]
      unfold segE
      rw [numB1, numB1, hk]
      simp
    have hl : (s.asl.flatMap fun x => numB x 2).length = 2 * s.asl.length := flat_len2 _ _
    rw [e, pathR_cons, hn, if_neg (by
      rintro (h | h)
      · cases s.set <;> simp at h
      · rw [List.length_append, hl] at h; omega), List.drop_left' hl, ih, sys_flat _ _ fun x hx => by have := h3 x hx; omega]
    show some (_ :: _) = some (_ :: _)
    congr 2
    unfold segD
    congr 1
    cases s.set <;> decide
end Go.Proofs.YtpjbofodllhjbaaGreatDoor
/- attr: what was written is read again. -/
namespace Go.Proofs.YtpjbofodllhjbaaGreatDoor
open Go.RowKit

theorem putE_long {fl t : Int} {v : List Int} (hf : 0 ≤ fl ∧ fl ≤ 224 ∧ fl % 32 = 0) (ht : 0 ≤ t ∧ t ≤ 255) (hv : 255 < v.length) : putE fl t v = (fl + 16) :: t :: ((v.length : Int) / 256 % 256) :: ((v.length : Int) % 256) :: v := by
  unfold putE
  rw [if_pos hv, numB1, numB1, numB2, show (fl + 16) % 256 = fl + 16 by omega, show t % 256 = t by omega]
  rfl
theorem putE_short {fl t : Int} {v : List Int} (hf : 0 ≤ fl ∧ fl ≤ 224 ∧ fl % 32 = 0) (ht : 0 ≤ t ∧ t ≤ 255) (hv : ¬ 255 < v.length) : putE fl t v = fl :: t :: (v.length : Int) :: v := by
  unfold putE
  rw [if_neg hv, numB1, numB1, numB1, show fl % 256 = fl by omega, show t % 256 = t by omega, show (v.length : Int) % 256 = v.length by omega]
  rfl
/-- How an attribute that was put is read. -/
theorem put_parse {fl t : Int} {v : List Int} (rest : List Int) (hf : 0 ≤ fl ∧ fl ≤ 224 ∧ fl % 32 = 0) (ht : 0 ≤ t ∧ t ≤ 255) (hv : v.length ≤ 65535) :
    fOf (putE fl t v ++ rest) 1 = t ∧ fromN (putE fl t v ++ rest) ≤ (putE fl t v).length ∧ toN (putE fl t v ++ rest) = (putE fl t v).length ∧ (putE fl t v).drop (fromN (putE fl t v ++ rest)) = v ∧ 0 < (putE fl t v).length := by
  by_cases h : 255 < v.length
  · have e := putE_long hf ht h
    rw [e]
    have ef : fromN ((fl + 16) :: t :: ((v.length : Int) / 256 % 256) :: ((v.length : Int) % 256) :: v ++ rest) = 4 := by
      unfold fromN
      exact if_pos (by show (fl + 16) / 16 % 2 = 1; omega)
    have et : toN ((fl + 16) :: t :: ((v.length : Int) / 256 % 256) :: ((v.length : Int) % 256) :: v ++ rest) = v.length + 4 := by
      unfold toN
      rw [ef]
      show 4 + ((0 * 256 + (v.length : Int) / 256 % 256) * 256 + (v.length : Int) % 256).toNat = _
      omega
    exact ⟨rfl, by rw [ef]; simp, by rw [et]; rfl, by rw [ef]; rfl, by simp⟩
  · have e := putE_short hf ht h
    rw [e]
    have ef : fromN (fl :: t :: (v.length : Int) :: v ++ rest) = 3 := by
      unfold fromN
      exact if_neg (by show ¬ fl / 16 % 2 = 1; omega)
    have et : toN (fl :: t :: (v.length : Int) :: v ++ rest) = v.length + 3 := by
      unfold toN
      rw [ef]
      show 3 + (0 * 256 + (v.length : Int)).toNat = _
      omega
    exact ⟨rfl, by rw [ef]; simp, by rw [et]; rfl, by rw [ef]; rfl, by simp⟩
theorem put_head {fl t : Int} {v : List Int} (hf : 0 ≤ fl ∧ fl ≤ 224 ∧ fl % 32 = 0) (ht : 0 ≤ t ∧ t ≤ 255) : (fOf (putE fl t v) 0 = fl ∨ fOf (putE fl t v) 0 = fl + 16) ∧ fOf (putE fl t v) 1 = t := by
  by_cases h : 255 < v.length
  · rw [putE_long hf ht h]; exact ⟨.inr rfl, rfl⟩
  · rw [putE_short hf ht h]; exact ⟨.inl rfl, rfl⟩
theorem decD_put {d : AtD} {seen : List Int} {fl t : Int} {v : List Int} (rest : List Int) (hf : 0 ≤ fl ∧ fl ≤ 224 ∧ fl % 32 = 0) (ht : 0 ≤ t ∧ t ≤ 255) (hv : v.length ≤ 65535) (hs : t ∉ seen) {d' : AtD} (hd : stepD d (putE fl t v) v = .inl d') :
    decD d seen (putE fl t v ++ rest) = decD d' (t :: seen) rest := by
  obtain ⟨h1, h2, h3, h4, h5⟩ := put_parse rest hf ht hv
  rw [decD_step (by rw [List.length_append]; omega) (by
    rw [h1, h3, List.length_append]
    rintro (h | h | h)
    · omega
    · omega
    · exact hs h), h3, List.take_left, h4, hd, h1, List.drop_left]
theorem takeD_put {d d' : AtD} {t : Nat} {v : List Int} (h1 : 1 ≤ t) (h8 : t ≤ 8) (hsz : 0 ≤ sizeI t → (v.length : Int) = sizeI t) (hc : t = 8 → v.length % 4 = 0 ∧ v.length / 4 ≤ 256) (hd : setD d t v = some d')
    (g2 : t = 2 → (d'.path.all fun p => segB ⟨p.1, none, 0, p.2⟩) = true) (g1 : t = 1 → wiB d'.origin 2 = true) (g3 : t = 3 → hopB d'.hop = true) : stepD d (putE (flagI t) t v) v = .inl { d' with has := d'.has + 2 ^ t } := by
  have hfl : 0 ≤ flagI t ∧ flagI t ≤ 224 ∧ flagI t % 32 = 0 ∧ flagI t % 64 = 0 := by
    have : t = 1 ∨ t = 2 ∨ t = 3 ∨ t = 4 ∨ t = 5 ∨ t = 6 ∨ t = 7 ∨ t = 8 := by omega
    rcases this with rfl | rfl | rfl | rfl | rfl | rfl | rfl | rfl <;> decide
  obtain ⟨p1, p2⟩ := put_head (fl := flagI t) (t := (t : Int)) (v := v) ⟨hfl.1, hfl.2.1, hfl.2.2.1⟩ (by omega)
  unfold stepD
  rw [p2, if_pos (by omega)]
  unfold takeD
  rw [p2, Int.toNat_natCast, if_neg (by
    rcases p1 with p1 | p1 <;> rw [p1] <;> omega), if_neg (by
    rintro (⟨h, h'⟩ | ⟨h, h'⟩)
    · exact h' (hsz h)
    · exact h' (hc (by omega)).1), if_neg (by
    rintro ⟨h, h'⟩
    have := (hc (by omega)).2
    omega), hd]
  show (if _ then _ else _) = _
  rw [if_neg (by rintro ⟨h, h'⟩; rw [g2 (by omega)] at h'; cases h'), if_neg (by rintro ⟨h, h'⟩; rw [g1 (by omega)] at h'; cases h'), if_neg (by rintro ⟨h, h'⟩; rw [g3 (by omega)] at h'; cases h')]
/-- The known attributes up to one. -/
def dUp (a : AtL) (k : Nat) : AtD :=
  ⟨a.has % 2 ^ (k + 1), if 1 ≤ k then a.origin else 0, if 2 ≤ k then a.path.map segD else [], if 3 ≤ k then a.hop else 0, if 4 ≤ k then a.med else 0, if 5 ≤ k then a.loc else 0, if 7 ≤ k then a.aas else 0, if 7 ≤ k then a.aid else 0, if 8 ≤ k then a.comms else [], []⟩
theorem AtD.ext' {d e : AtD} (h1 : d.has = e.has) (h2 : d.origin = e.origin) (h3 : d.path = e.path) (h4 : d.hop = e.hop) (h5 : d.med = e.med) (h6 : d.loc = e.loc) (h7 : d.aas = e.aas) (h8 : d.aid = e.aid) (h9 : d.comms = e.comms) (h10 : d.others = e.others) : d = e := by
  cases d; cases e; dsimp only at *; subst h1 h2 h3 h4 h5 h6 h7 h8 h9 h10; rfl
theorem hasB_iff {h : Int} {k : Nat} (h1 : 1 ≤ k) (h8 : k ≤ 8) : hasB h k = true ↔ h / 2 ^ k % 2 = 1 := by
  unfold hasB
  exact ⟨fun e => (of_decide_eq_true e).2.2, fun e => decide_eq_true ⟨h1, h8, e⟩⟩
theorem dUp_no {a : AtL} {t : Nat} (h1 : 1 ≤ t) (h8 : t ≤ 8) (hh : hasB a.has t = false) (hz : zeroB a t = true) : dUp a (t - 1) = dUp a t := by
  have hb : ¬ a.has / 2 ^ t % 2 = 1 := fun e => by rw [(hasB_iff h1 h8).2 e] at hh; cases hh
  have : t = 1 ∨ t = 2 ∨ t = 3 ∨ t = 4 ∨ t = 5 ∨ t = 6 ∨ t = 7 ∨ t = 8 := by omega
  unfold zeroB at hz
  rcases this with rfl | rfl | rfl | rfl | rfl | rfl | rfl | rfl
  · have hz2 : a.origin = 0 := of_decide_eq_true hz
    exact AtD.ext' (by show a.has % 2 = a.has % 4; omega) hz2.symm rfl rfl rfl rfl rfl rfl rfl rfl
  · have hz2 : (a.path.length : Int) = 0 := of_decide_eq_true hz
    have : a.path = [] := List.length_eq_zero_iff.1 (by omega)
    exact AtD.ext' (by show a.has % 4 = a.has % 8; omega) rfl (by show [] = a.path.map segD; rw [this]; rfl) rfl rfl rfl rfl rfl rfl rfl
  · have hz2 : a.hop = 0 := of_decide_eq_true hz
    exact AtD.ext' (by show a.has % 8 = a.has % 16; omega) rfl rfl hz2.symm rfl rfl rfl rfl rfl rfl
  · have hz2 : a.med = 0 := of_decide_eq_true hz
    exact AtD.ext' (by show a.has % 16 = a.has % 32; omega) rfl rfl rfl hz2.symm rfl rfl rfl rfl rfl
  · have hz2 : a.loc = 0 := of_decide_eq_true hz
    exact AtD.ext' (by show a.has % 32 = a.has % 64; omega) rfl rfl rfl rfl hz2.symm rfl rfl rfl rfl
  · exact AtD.ext' (by show a.has % 64 = a.has % 128; omega) rfl rfl rfl rfl rfl rfl rfl rfl rfl
  · have hz2 : a.aas = 0 ∧ a.aid = 0 := of_decide_eq_true hz
    exact AtD.ext' (by show a.has % 128 = a.has % 256; omega) rfl rfl rfl rfl rfl hz2.1.symm hz2.2.symm rfl rfl
  · have hz2 : (a.comms.length : Int) = 0 := of_decide_eq_true hz
    have : a.comms = [] := List.length_eq_zero_iff.1 (by omega)
    exact AtD.ext' (by show a.has % 256 = a.has % 512; omega) rfl rfl rfl rfl rfl rfl rfl (by show [] = a.comms; rw [this]) rfl
theorem wiB_iff {n m : Int} (h : wiB n m = true) : 0 ≤ n ∧ n ≤ m := of_decide_eq_true h
theorem path_all' (ss : List SegL) : ((ss.map segD).all fun p => segB ⟨p.1, none, 0, p.2⟩) = ss.all segB := by rw [List.all_map]; rfl
theorem dUp_yes {a : AtL} {t : Nat} (h1 : 1 ≤ t) (h8 : t ≤ 8) (hh : hasB a.has t = true) (hg : goodB a t = true) (hU : U32 a.hop ∧ U32 a.aid) : stepD (dUp a (t - 1)) (putE (flagI t) t (valE a t)) (valE a t) = .inl (dUp a t) := by
  have hb := (hasB_iff h1 h8).1 hh
  have : t = 1 ∨ t = 2 ∨ t = 3 ∨ t = 4 ∨ t = 5 ∨ t = 6 ∨ t = 7 ∨ t = 8 := by omega
  unfold goodB at hg
  rcases this with rfl | rfl | rfl | rfl | rfl | rfl | rfl | rfl
  · have g := wiB_iff hg
    have ev : valE a 1 = numB a.origin 1 := rfl
    rw [ev, takeD_put (d := dUp a 0) (d' := { dUp a 0 with origin := readI (numB a.origin 1) }) (by omega) (by omega) (fun _ => by rw [numB_len]; rfl) (fun h => by omega) rfl (fun h => by omega) (fun _ => by rw [show readI (numB a.origin 1) = a.origin from read1 (by omega)]; exact hg) (fun h => by omega)]
    exact congrArg Sum.inl (AtD.ext' (by show a.has % 2 + 2 = a.has % 4; omega) (read1 (by omega)) rfl rfl rfl rfl rfl rfl rfl rfl)
  · have ev : valE a 2 = a.path.flatMap segE := rfl
    have hs : setD (dUp a 1) 2 (a.path.flatMap segE) = some { dUp a 1 with path := a.path.map segD } := by
      show (pathR (a.path.flatMap segE)).map _ = _
      rw [pathR_flat a.path hg]; rfl
    rw [ev, takeD_put (d := dUp a 1) (by omega) (by omega) (fun h => absurd h (by decide)) (fun h => by omega) hs (fun _ => (path_all' a.path).trans hg) (fun h => by omega) (fun h => by omega)]
    exact congrArg Sum.inl (AtD.ext' (by show a.has % 4 + 4 = a.has % 8; omega) rfl rfl rfl rfl rfl rfl rfl rfl rfl)
  · have ev : valE a 3 = numB a.hop 4 := rfl
    have r := read4 (a := a.hop) hU.1
    rw [ev, takeD_put (d := dUp a 2) (d' := { dUp a 2 with hop := readI (numB a.hop 4) }) (by omega) (by omega) (fun _ => by rw [numB_len]; rfl) (fun h => by omega) rfl (fun h => by omega) (fun h => by omega) (fun _ => by rw [show readI (numB a.hop 4) = a.hop from r]; exact hg)]
    exact congrArg Sum.inl (AtD.ext' (by show a.has % 8 + 8 = a.has % 16; omega) rfl rfl r rfl rfl rfl rfl rfl rfl)
  · have g := wiB_iff hg
    have ev : valE a 4 = numB a.med 4 := rfl
    rw [ev, takeD_put (d := dUp a 3) (d' := { dUp a 3 with med := readI (numB a.med 4) }) (by omega) (by omega) (fun _ => by rw [numB_len]; rfl) (fun h => by omega) rfl (fun h => by omega) (fun h => by omega) (fun h => by omega)]
    exact congrArg Sum.inl (AtD.ext' (by show a.has % 16 + 16 = a.has % 32; omega) rfl rfl rfl (read4 (by omega)) rfl rfl rfl rfl rfl)
  · have g := wiB_iff hg
    have ev : valE a 5 = numB a.loc 4 := rfl
    rw [ev, takeD_put (d := dUp a 4) (d' := { dUp a 4 with loc := readI (numB a.loc 4) }) (by omega) (by omega) (fun _ => by rw [numB_len]; rfl) (fun h => by omega) rfl (fun h => by omega) (fun h => by omega) (fun h => by omega)]
    exact congrArg Sum.inl (AtD.ext' (by show a.has % 32 + 32 = a.has % 64; omega) rfl rfl rfl rfl (read4 (by omega)) rfl rfl rfl rfl)
  · have ev : valE a 6 = [] := rfl
    rw [ev, takeD_put (d := dUp a 5) (d' := dUp a 5) (by omega) (by omega) (fun _ => rfl) (fun h => by omega) rfl (fun h => by omega) (fun h => by omega) (fun h => by omega)]
    exact congrArg Sum.inl (AtD.ext' (by show a.has % 64 + 64 = a.has % 128; omega) rfl rfl rfl rfl rfl rfl rfl rfl rfl)
  · have g := wiB_iff hg
    have ev : valE a 7 = numB a.aas 2 ++ numB a.aid 4 := rfl
    have e1 : (numB a.aas 2 ++ numB a.aid 4).take 2 = numB a.aas 2 := List.take_left' (numB_len _ _)
    have e2 : (numB a.aas 2 ++ numB a.aid 4).drop 2 = numB a.aid 4 := List.drop_left' (numB_len _ _)
    have hs : setD (dUp a 6) 7 (numB a.aas 2 ++ numB a.aid 4) = some { dUp a 6 with aas := a.aas, aid := a.aid } := by
      show some { dUp a 6 with aas := readI ((numB a.aas 2 ++ numB a.aid 4).take 2), aid := readI ((numB a.aas 2 ++ numB a.aid 4).drop 2) } = _
      rw [e1, e2, read2 (by omega), read4 hU.2]
    rw [ev, takeD_put (d := dUp a 6) (by omega) (by omega) (fun _ => by rw [List.length_append, numB_len, numB_len]; rfl) (fun h => by omega) hs (fun h => by omega) (fun h => by omega) (fun h => by omega)]
    exact congrArg Sum.inl (AtD.ext' (by show a.has % 128 + 128 = a.has % 256; omega) rfl rfl rfl rfl rfl rfl rfl rfl rfl)
  · have ev : valE a 8 = a.comms.flatMap fun x => numB x 4 := rfl
    have hl : (a.comms.flatMap fun x => numB x 4).length = 4 * a.comms.length := flat_len2 _ _
    obtain ⟨c1, c2⟩ : (∀ c ∈ a.comms, 0 ≤ c ∧ c ≤ 4294967295) ∧ a.comms.length ≤ 256 := by
      have hg2 : commsB a.comms = true := hg
      unfold commsB at hg2
      rw [Bool.and_eq_true] at hg2
      exact ⟨fun c hc => wiB_iff (List.all_eq_true.1 hg2.1 c hc), of_decide_eq_true hg2.2⟩
    have hs : setD (dUp a 7) 8 (a.comms.flatMap fun x => numB x 4) = some { dUp a 7 with comms := a.comms } := by
      show some { dUp a 7 with comms := (dUp a 7).comms ++ fours (a.comms.flatMap fun x => numB x 4) } = _
      rw [fours_flat a.comms c1]
      rfl
    rw [ev, takeD_put (d := dUp a 7) (by omega) (by omega) (fun h => absurd h (by decide)) (fun h => by omega) hs (fun h => by omega) (fun h => by omega) (fun h => by omega)]
    exact congrArg Sum.inl (AtD.ext' (by show a.has % 256 + 256 = a.has % 512; omega) rfl rfl rfl rfl rfl rfl rfl rfl rfl)
end Go.Proofs.YtpjbofodllhjbaaGreatDoor
/- attr: all attributes that were written are read again. -/
namespace Go.Proofs.YtpjbofodllhjbaaGreatDoor
open Go.RowKit

theorem known_step {a : AtL} {t : Nat} (h1 : 1 ≤ t) (h8 : t ≤ 8) (he : eachB a t = true) (hU : U32 a.hop ∧ U32 a.aid) (hl : (knownE a t).length ≤ 60000) (seen rest : List Int) (hs : ∀ x ∈ seen, x < (t : Int)) :
    ∃ seen', (∀ x ∈ seen', x < ((t + 1 : Nat) : Int)) ∧ decD (dUp a (t - 1)) seen (knownE a t ++ rest) = decD (dUp a t) seen' rest := by
  unfold eachB at he
  cases hh : hasB a.has t with
  | false =>
    rw [hh] at he
    have e : knownE a t = [] := by unfold knownE; rw [hh]; rfl
    refine ⟨seen, fun x hx => by have := hs x hx; omega, ?_⟩
    rw [e, List.nil_append, dUp_no h1 h8 hh he]
  | true =>
    rw [hh] at he
    have e : knownE a t = putE (flagI t) t (valE a t) := by unfold knownE; rw [hh]; rfl
    rw [e, putE_len] at hl
    have hfl : 0 ≤ flagI t ∧ flagI t ≤ 224 ∧ flagI t % 32 = 0 := by
      have : t = 1 ∨ t = 2 ∨ t = 3 ∨ t = 4 ∨ t = 5 ∨ t = 6 ∨ t = 7 ∨ t = 8 := by omega
      rcases this with rfl | rfl | rfl | rfl | rfl | rfl | rfl | rfl <;> decide
    refine ⟨(t : Int) :: seen, fun x hx => ?_, ?_⟩
    · rcases List.mem_cons.1 hx with rfl | hx
      · omega
      · have := hs x hx; omega
    · rw [e]
      exact decD_put rest hfl (by omega) (by omega) (fun hm => by have := hs _ hm; omega) (dUp_yes h1 h8 hh he hU)
theorem decD_oths : ∀ (os : List OthL) (last : Int) (d : AtD) (seen : List Int), ordB last os = true → 8 ≤ last → (∀ x ∈ seen, x ≤ last) → (∀ o ∈ os, o.val.length ≤ 60000) →
    decD d seen (os.flatMap fun o => putE 224 o.ty o.val) = .inl { d with others := d.others ++ os.map othD }
  | [], _, d, seen, _, _, _, _ => by rw [List.flatMap_nil, decD_nil, List.map_nil, List.append_nil]
  | o :: os, last, d, seen, h, h8, hs, hv => by
    unfold ordB at h
    rw [Bool.and_eq_true] at h
    have h1 := of_decide_eq_true h.1
    obtain ⟨p1, p2⟩ := put_head (fl := 224) (t := o.ty) (v := o.val) (by decide) (by omega)
    have hd : stepD d (putE 224 o.ty o.val) o.val = .inl { d with others := d.others ++ [(o.ty, o.val)] } := by
      unfold stepD
      rw [p2, if_neg (by omega)]
      unfold otherD
      rw [p2, if_neg (by rcases p1 with p1 | p1 <;> rw [p1] <;> decide), if_pos ⟨by rcases p1 with p1 | p1 <;> rw [p1] <;> decide, by omega⟩]
    rw [List.flatMap_cons, decD_put _ (by decide) (by omega) (by have := hv o (List.mem_cons_self ..); omega) (fun hm => by have := hs _ hm; omega) hd]
    rw [decD_oths os o.ty _ _ h.2 (by omega) (fun x hx => by
      rcases List.mem_cons.1 hx with rfl | hx
      · omega
      · have := hs x hx; omega) fun p hp => hv p (List.mem_cons_of_mem _ hp)]
    show Sum.inl _ = Sum.inl _
    congr 1
    exact AtD.ext' rfl rfl rfl rfl rfl rfl rfl rfl rfl (by show d.others ++ [(o.ty, o.val)] ++ os.map othD = d.others ++ (othD o :: os.map othD); rw [List.append_assoc]; rfl)
theorem ordB_sorted : ∀ (os : List OthL) (last : Int), ordB last os = true → (os.map othD).Pairwise (fun x y => x.1 < y.1) ∧ ∀ o ∈ os, last < o.ty
  | [], _, _ => ⟨.nil, fun _ h => by cases h⟩
  | o :: os, last, h => by
    unfold ordB at h
    rw [Bool.and_eq_true] at h
    have h1 := of_decide_eq_true h.1
    obtain ⟨i1, i2⟩ := ordB_sorted os o.ty h.2
    refine ⟨List.pairwise_cons.2 ⟨fun x hx => ?_, i1⟩, fun p hp => ?_⟩
    · obtain ⟨p, hp, rfl⟩ := List.mem_map.1 hx
      exact i2 p hp
    · rcases List.mem_cons.1 hp with rfl | hp
      · exact h1.1
      · have := i2 p hp; omega
theorem pair_nodup : ∀ {l : List (Int × List Int)}, l.Pairwise (fun x y => x.1 < y.1) → (l.map (·.1)).Nodup
  | [], _ => List.nodup_nil
  | x :: l, h => by
    rw [List.pairwise_cons] at h
    rw [List.map_cons, List.nodup_cons]
    refine ⟨fun hm => ?_, pair_nodup h.2⟩
    obtain ⟨y, hy, e⟩ := List.mem_map.1 hm
    have := h.1 y hy
    omega
theorem sortO_ord {os : List OthL} {last : Int} (h : ordB last os = true) : sortO (os.map othD) = os.map othD := by
  obtain ⟨h1, _⟩ := ordB_sorted os last h
  exact (sortO_is (.refl _) (pair_nodup h1) (h1.imp fun h => by omega)).symm
/-- Attributes that may be written are read as they were. -/
theorem decD_body {a : AtL} (hc : chkA a = true) (hU : U32 a.hop ∧ U32 a.aid) (hl : (bodyA a).length ≤ 60000) (hv : ∀ o ∈ a.others, o.val.length ≤ 60000) : decD AtL.zero.d [] (bodyA a) = .inl a.d := by
  unfold chkA at hc
  rw [Bool.and_eq_true, Bool.and_eq_true] at hc
  obtain ⟨⟨k1, k2⟩, k3⟩ := hc
  have hk := of_decide_eq_true k1
  have each : ∀ t, 1 ≤ t → t ≤ 8 → eachB a t = true := fun t h1 h8 => List.all_eq_true.1 k2 t (by rw [List.mem_range'_1]; omega)
  have eb : bodyA a = knownE a 1 ++ (knownE a 2 ++ (knownE a 3 ++ (knownE a 4 ++ (knownE a 5 ++ (knownE a 6 ++ (knownE a 7 ++ (knownE a 8 ++ a.others.flatMap fun o => putE 224 o.ty o.val))))))) := by
    unfold bodyA
    show (knownE a 1 ++ (knownE a 2 ++ (knownE a 3 ++ (knownE a 4 ++ (knownE a 5 ++ (knownE a 6 ++ (knownE a 7 ++ (knownE a 8 ++ [])))))))) ++ _ = _
    simp only [List.append_assoc, List.nil_append]
  rw [eb] at hl ⊢
  simp only [List.length_append] at hl
  have ez : AtL.zero.d = dUp a 0 := (AtD.ext' (by show 0 = a.has % 2; omega) rfl rfl rfl rfl rfl rfl rfl rfl rfl)
  obtain ⟨s1, q1, e1⟩ := known_step (t := 1) (by omega) (by omega) (each 1 (by omega) (by omega)) hU (by omega) [] (knownE a 2 ++ (knownE a 3 ++ (knownE a 4 ++ (knownE a 5 ++ (knownE a 6 ++ (knownE a 7 ++ (knownE a 8 ++ a.others.flatMap fun o => putE 224 o.ty o.val))))))) (fun _ h => by cases h)
  obtain ⟨s2, q2, e2⟩ := known_step (t := 2) (by omega) (by omega) (each 2 (by omega) (by omega)) hU (by omega) s1 (knownE a 3 ++ (knownE a 4 ++ (knownE a 5 ++ (knownE a 6 ++ (knownE a 7 ++ (knownE a 8 ++ a.others.flatMap fun o => putE 224 o.ty o.val)))))) q1
  obtain ⟨s3, q3, e3⟩ := known_step (t := 3) (by omega) (by omega) (each 3 (by omega) (by omega)) hU (by omega) s2 (knownE a 4 ++ (knownE a 5 ++ (knownE a 6 ++ (knownE a 7 ++ (knownE a 8 ++ a.others.flatMap fun o => putE 224 o.ty o.val))))) q2
  obtain ⟨s4, q4, e4⟩ := known_step (t := 4) (by omega) (by omega) (each 4 (by omega) (by omega)) hU (by omega) s3 (knownE a 5 ++ (knownE a 6 ++ (knownE a 7 ++ (knownE a 8 ++ a.others.flatMap fun o => putE 224 o.ty o.val)))) q3
  obtain ⟨s5, q5, e5⟩ := known_step (t := 5) (by omega) (by omega) (each 5 (by omega) (by omega)) hU (by omega) s4 (knownE a 6 ++ (knownE a 7 ++ (knownE a 8 ++ a.others.flatMap fun o => putE 224 o.ty o.val))) q4
  obtain ⟨s6, q6, e6⟩ := known_step (t := 6) (by omega) (by omega) (each 6 (by omega) (by omega)) hU (by omega) s5 (knownE a 7 ++ (knownE a 8 ++ a.others.flatMap fun o => putE 224 o.ty o.val)) q5
  obtain ⟨s7, q7, e7⟩ := known_step (t := 7) (by omega) (by omega) (each 7 (by omega) (by omega)) hU (by omega) s6 (knownE a 8 ++ a.others.flatMap fun o => putE 224 o.ty o.val) q6
  obtain ⟨s8, q8, e8⟩ := known_step (t := 8) (by omega) (by omega) (each 8 (by omega) (by omega)) hU (by omega) s7 (a.others.flatMap fun o => putE 224 o.ty o.val) q7
  have e9 := decD_oths a.others 8 (dUp a 8) s8 k3 (by omega) (fun x hx => by have := q8 x hx; omega) hv
  rw [ez]
  refine e1.trans (e2.trans (e3.trans (e4.trans (e5.trans (e6.trans (e7.trans (e8.trans (e9.trans ?_))))))))
  exact congrArg Sum.inl (AtD.ext' (by show a.has % 512 = a.has; omega) rfl rfl rfl rfl rfl rfl rfl rfl (List.nil_append _))
end Go.Proofs.YtpjbofodllhjbaaGreatDoor
/- bgp: what was written is read again: what an Open, an Update has behind its head. -/
namespace Go.Proofs.YtpjbofodllhjbaaGreatDoor
open Go.RowKit

theorem capsR_flat : ∀ (cs : List CapL) (acc : List (Int × List Int)), cs.all capOk = true → capsR acc (capsE cs) = some (acc ++ cs.map capD)
  | [], acc, _ => by unfold capsE; rw [List.flatMap_nil, capsR_nil, List.map_nil, List.append_nil]
  | c :: cs, acc, h => by
    rw [List.all_cons, Bool.and_eq_true] at h
    have hc := of_decide_eq_true h.1
    have e : capsE (c :: cs) = c.code :: (c.val.length : Int) :: (c.val ++ capsE cs) := by
      unfold capsE capE
      rw [List.flatMap_cons, show c.code % 256 = c.code by omega, show (c.val.length : Int) % 256 = c.val.length by omega]
      simp
    rw [e, capsR_cons, Int.toNat_natCast, if_neg (by rw [List.length_append]; omega), List.take_left, List.drop_left, capsR_flat cs _ h.2, List.map_cons, List.append_assoc]
    rfl
theorem capsE_nil {cs : List CapL} (h : (capsE cs).length = 0) : cs = [] := by
  cases cs with
  | nil => rfl
  | cons c cs => unfold capsE capE at h; rw [List.flatMap_cons] at h; simp at h
theorem openR_body {m : MsL} (h : openC m = 0) (hU : U32 m.id) : openR (openB m) = .inl (m.caps.map capD) ∧ asnB (openB m) = m.asn ∧ holdB (openB m) = m.hold ∧ idB (openB m) = m.id ∧ 10 ≤ (openB m).length := by
  unfold openC at h
  split at h
  · cases h
  rename_i hb
  split at h
  · rename_i hk
    split at h
    · cases h
    rename_i hl
    have hb2 : badO m = false := by cases hq : badO m with | false => rfl | true => exact absurd hq hb
    have hd := of_decide_eq_false hb2
    have ha : addrB m.id 4 = [m.id / 16777216 % 256, m.id / 65536 % 256, m.id / 256 % 256, m.id % 256] := by unfold addrB; rw [numB4]; rfl
    have e : ∃ tl, openB m = 4 :: (m.asn / 256 % 256) :: (m.asn % 256) :: (m.hold / 256 % 256) :: (m.hold % 256) :: (m.id / 16777216 % 256) :: (m.id / 65536 % 256) :: (m.id / 256 % 256) :: (m.id % 256) :: tl ∧ tl = if (capsE m.caps).length = 0 then [0] else [(2 + ((capsE m.caps).length : Int)) % 256, 2, ((capsE m.caps).length : Int) % 256] ++ capsE m.caps := by
      refine ⟨_, ?_, rfl⟩
      unfold openB
      rw [numB2, numB2, ha]
      rfl
    obtain ⟨tl, e1, e2⟩ := e
    have f0 : fOf (openB m) 0 = 4 := by rw [e1]; rfl
    have f1 : asnB (openB m) = m.asn := by rw [e1]; show m.asn / 256 % 256 * 256 + m.asn % 256 = _; omega
    have f2 : holdB (openB m) = m.hold := by rw [e1]; show m.hold / 256 % 256 * 256 + m.hold % 256 = _; omega
    have f3 : idB (openB m) = m.id := by
      rw [e1]
      show m.id / 16777216 % 256 * 16777216 + m.id / 65536 % 256 * 65536 + m.id / 256 % 256 * 256 + m.id % 256 = _
      unfold U32 at hU
      omega
    by_cases hz : (capsE m.caps).length = 0
    · rw [if_pos hz] at e2
      have hcn := capsE_nil hz
      subst e2
      refine ⟨?_, f1, f2, f3, by rw [e1]; simp⟩
      have f9 : fOf (openB m) 9 = 0 := by rw [e1]; rfl
      have fd : (openB m).drop 10 = [] := by rw [e1]; rfl
      unfold openR
      rw [f0, f1, f2, f3, f9, fd, if_neg (by decide), if_neg (by omega), if_neg (by omega), if_neg (by omega), if_neg (by decide), optsR_nil, hcn]
      rfl
    · rw [if_neg hz] at e2
      subst e2
      refine ⟨?_, f1, f2, f3, by rw [e1]; simp⟩
      have f9 : fOf (openB m) 9 = 2 + ((capsE m.caps).length : Int) := by rw [e1]; show (2 + ((capsE m.caps).length : Int)) % 256 = _; omega
      have fd : (openB m).drop 10 = 2 :: ((capsE m.caps).length : Int) :: capsE m.caps := by
        rw [e1]
        show 2 :: (((capsE m.caps).length : Int) % 256) :: capsE m.caps = _
        rw [show ((capsE m.caps).length : Int) % 256 = (capsE m.caps).length by omega]
      unfold openR
      rw [f0, f1, f2, f3, f9, fd, if_neg (by decide), if_neg (by omega), if_neg (by omega), if_neg (by omega), if_neg (by simp only [List.length_cons]; omega), optsR_cons, Int.toNat_natCast, if_neg (by omega), if_neg (by decide), List.take_length, capsR_flat _ _ hk, List.drop_length]
      dsimp only
      rw [optsR_nil]
      rfl
  · cases h
theorem netE_eq {p : PfL} (h : pfOk p = true) : netE p = p.len :: addrB p.addr (needN p.len) := by
  have hl := pfOk_len h
  show numB p.len 1 ++ addrB p.addr ((p.len.toNat + 7) / 8) = _
  rw [numB1, show p.len % 256 = p.len by omega]
  rfl
theorem cut_addr {p : PfL} (h : pfOk p = true) (hU : U32 p.addr) : cutI (addrI (addrB p.addr (needN p.len))) p.len = p.addr ∧ inI p.len = p.len := by
  have hl := pfOk_len h
  have hd := of_decide_eq_true h
  refine ⟨?_, hd.2.symm⟩
  obtain ⟨k, hk⟩ := Int.eq_ofNat_of_zero_le hl.1
  have hn : needN p.len = (k + 7) / 8 := by unfold needN; rw [hk, Int.toNat_natCast]
  have hc := hd.1
  rw [hn, hk]
  rw [hk] at hc
  by_cases h0 : k = 0
  · subst h0
    have e1 : cutI p.addr ((0 : Nat) : Int) = p.addr - p.addr % 4294967296 := rfl
    rw [e1] at hc
    unfold U32 at hU
    have h3 : p.addr = 0 := by omega
    rw [h3]
    rfl
  · have hj := (netJ k (by omega) (by omega) p.addr 0 hU hc ⟨by omega, Int.pow_pos (by decide)⟩).2
    rw [Int.add_zero] at hj
    have hs : (addrB p.addr ((k + 7) / 8)).set ((k + 7) / 8 - 1) (fOf (addrB p.addr ((k + 7) / 8)) ((k + 7) / 8 - 1)) = addrB p.addr ((k + 7) / 8) := by
      have hlen := addrB_len p.addr (show (k + 7) / 8 ≤ 4 by omega)
      apply List.ext_getElem?
      intro i
      rw [List.getElem?_set]
      split
      · rename_i hi
        split
        · rw [← hi, fOf_get (by omega)]
        · rename_i h2
          rw [List.getElem?_eq_none (by omega)]
      · rfl
    rw [hs] at hj
    exact hj
theorem netsR_flat : ∀ (ps : List PfL), ps.all pfOk = true → (∀ p ∈ ps, U32 p.addr) → netsR (netsE ps) = some ps
  | [], _, _ => by unfold netsE; rw [List.flatMap_nil, netsR]
  | p :: ps, h, hU => by
    rw [List.all_cons, Bool.and_eq_true] at h
    have hl := pfOk_len h.1
    have hn : needN p.len ≤ 4 := by unfold needN; omega
    obtain ⟨c1, c2⟩ := cut_addr h.1 (hU p (List.mem_cons_self ..))
    have hal := addrB_len p.addr hn
    have e : netsE (p :: ps) = p.len :: (addrB p.addr (needN p.len) ++ netsE ps) := by
      unfold netsE
      rw [List.flatMap_cons, netE_eq h.1]
      rfl
    rw [e, netsR_cons, if_neg (by rw [List.length_append]; omega), List.take_left' hal, List.drop_left' hal, netsR_flat ps h.2 fun q hq => hU q (List.mem_cons_of_mem _ hq), c1, c2]
    rfl
theorem countR_flat (xs rest : List Int) (h : xs.length ≤ 65535) : countR (numB xs.length 2 ++ (xs ++ rest)) = some (xs, rest) := by
  have e : numB (xs.length : Int) 2 ++ (xs ++ rest) = ((xs.length : Int) / 256 % 256) :: ((xs.length : Int) % 256) :: (xs ++ rest) := by rw [numB2]; rfl
  have f : fOf (numB (xs.length : Int) 2 ++ (xs ++ rest)) 0 * 256 + fOf (numB (xs.length : Int) 2 ++ (xs ++ rest)) 1 = (xs.length : Int) := by
    rw [e]; show (xs.length : Int) / 256 % 256 * 256 + (xs.length : Int) % 256 = _; omega
  unfold countR
  rw [f, Int.toNat_natCast, if_neg (by rw [List.length_append, List.length_append, numB_len]; omega)]
  congr 2
  · rw [List.drop_left' (numB_len _ _), List.take_left]
  · rw [← List.drop_drop, List.drop_left' (numB_len _ _), List.drop_left]
theorem encE_ok {a : AtL} (h : encE a = 0) : chkA a = true ∧ (bodyA a).length ≤ 4096 ∧ ∀ o ∈ a.others, o.val.length ≤ 4096 := by
  unfold encE at h
  split at h
  · rename_i hc
    split at h
    · cases h
    · rename_i hb
      simp only [Bool.or_eq_true, decide_eq_true_eq, List.any_eq_true, not_or, not_exists, not_and] at hb
      exact ⟨hc, by omega, fun o ho => by have := hb.1 o ho; omega⟩
  · cases h
theorem updR_body {m : MsL} (h : updC m = 0) (hI : m.In) : updR (updB m) = .inl (m.gone, m.atr.d, m.nets) := by
  unfold updC at h
  split at h
  · cases h
  rename_i hn
  split at h
  · cases h
  rename_i hb
  have hb2 : badN m = false := by cases hq : badN m with | false => rfl | true => exact absurd hq hb
  unfold badN at hb2
  simp only [Bool.or_eq_false_iff, Bool.not_eq_false', decide_eq_false_iff_not] at hb2
  obtain ⟨⟨g1, g2⟩, g3⟩ := hb2
  obtain ⟨c1, c2, c3⟩ := encE_ok h
  have l1 := netsE_len g1
  have hat := decD_body c1 ⟨hI.at_.hop, hI.at_.aid⟩ (by omega) (fun o ho => by have := c3 o ho; omega)
  have k3 : ordB 8 m.atr.others = true := by unfold chkA at c1; rw [Bool.and_eq_true] at c1; exact c1.2
  have e : updB m = numB (netsE m.gone).length 2 ++ (netsE m.gone ++ (numB (bodyA m.atr).length 2 ++ (bodyA m.atr ++ netsE m.nets))) := by
    unfold updB; simp only [List.append_assoc]
  unfold updR
  rw [e, countR_flat _ _ (by omega)]
  dsimp only
  rw [countR_flat _ _ (by omega)]
  dsimp only
  rw [netsR_flat _ g1 fun p hp => (hI.gone p hp).1]
  dsimp only
  rw [hat]
  dsimp only
  rw [netsR_flat _ g2 fun p hp => (hI.nets p hp).1]
  dsimp only
  rw [if_neg (by omega), if_neg (fun q => g3 ⟨q.2, q.1⟩)]
  have es : sortO m.atr.d.others = m.atr.d.others := sortO_ord k3
  rw [es]
end Go.Proofs.YtpjbofodllhjbaaGreatDoor
/- stream: an append of made zeros; slices.Grow, slices.Concat of bytes. -/
namespace Go.Proofs.YtpjbofodllhjbaaGreatDoor
open Go.RowKit

section
variable {P : Program} {ops : Array Oper} {Q : Exit → Act → World → Prop} {n : Nat} {p : Nat → Prop} {w0 : World} {o : Oper} {rest : List Oper} {l : Kn} {L : List Ent}
end
structure SlL where
  ad : Option Addr
  cap : Nat
  val : List Int
def SlL.cells (s : SlL) : List Value := [.slice s.ad s.val.length s.cap]
end Go.Proofs.YtpjbofodllhjbaaGreatDoor
/- stream: what a Reader makes of bytes, as plain lists. -/
namespace Go.Proofs.YtpjbofodllhjbaaGreatDoor
open Go.RowKit

/-- Bytes seen through a slice, in blocks of E. -/
structure View (E : List Ent) (aa : Option Addr) (c : Nat) (ys : List Int) : Prop where
  le : ys.length ≤ c
  bys : Bys ys
  at_ : (aa = none ∧ c = 0 ∧ ys = []) ∨ ∃ b o, aa = some ⟨b, o, none⟩ ∧ ∀ w, (∀ e ∈ E, e.holds w) → w.rangeAt b o (u8s ys)
/-- A Reader. -/
structure RdL where
  ad : Option Addr
  cap : Nat
  wait : List Int
  count : Int
  fc : Int
  fs : Int
  fd : ByteArray
def RdL.cells (r : RdL) : List Value := [.slice r.ad r.wait.length r.cap, .int .i64 r.count, .int .i64 r.fc, .int .i64 r.fs, .string r.fd]
end Go.Proofs.YtpjbofodllhjbaaGreatDoor
/- stream: Reader.Feed, walked. -/
namespace Go.Proofs.YtpjbofodllhjbaaGreatDoor
open Go.RowKit

def RdL.more (r : RdL) (k : Nat) : RdL := { r with count := r.count + k }
end Go.Proofs.YtpjbofodllhjbaaGreatDoor
/- stream: what a Reader tells; messages out of bytes; the document's example. -/
namespace Go.Proofs.YtpjbofodllhjbaaGreatDoor
open Go.RowKit

def RdL.zero : RdL := ⟨none, 0, [], 0, 0, 0, ⟨#[]⟩⟩
end Go.Proofs.YtpjbofodllhjbaaGreatDoor
/- bgp: any message that was written is read again; messages one behind the other, in whatever pieces. -/
namespace Go.Proofs.YtpjbofodllhjbaaGreatDoor
open Go.RowKit

theorem strOf_strI (d : ByteArray) : strOfNums (strI d) = d := by
  unfold strOfNums strI
  rw [List.map_map]
  have : (d.data.toList.map ((fun n : Int => UInt8.ofNat n.toNat) ∘ fun b : UInt8 => (b.toNat : Int))) = d.data.toList := by
    conv => rhs; rw [← List.map_id d.data.toList]
    apply List.map_congr_left
    intro b _
    show UInt8.ofNat ((b.toNat : Int).toNat) = b
    rw [Int.toNat_natCast]
    exact UInt8.ofNat_toNat
  rw [this]
theorem strD_note (a b : Int) (d : ByteArray) : strD (a :: b :: strI d) = d := by
  have h : (List.range (strI d).length).map (fun i => fOf (a :: b :: strI d) (2 + i)) = strI d := by
    apply List.ext_getElem?
    intro i
    by_cases hi : i < (strI d).length
    · rw [List.getElem?_map, List.getElem?_range hi, fOf_get hi]
      show some (fOf (a :: b :: strI d) (2 + i)) = _
      rw [show 2 + i = i + 1 + 1 by omega]
      rfl
    · rw [List.getElem?_eq_none (by simp; omega), List.getElem?_eq_none (by omega)]
  show strOfNums (bl (fun i => fOf (a :: b :: strI d) (2 + i)) ((a :: b :: strI d).length - 2)) = d
  unfold bl
  rw [show (a :: b :: strI d).length - 2 = (strI d).length by simp, h, strOf_strI]
/-- A message with what belongs to its kind alone. -/
def bareD (m : MsL) : MsD :=
  if m.kind = 1 then { (MsL.zero m.kind).d with asn := m.asn, hold := m.hold, id := m.id, caps := m.caps.map capD }
  else if m.kind = 2 then { (MsL.zero m.kind).d with gone := m.gone, atr := m.atr.d, nets := m.nets }
  else if m.kind = 3 then { (MsL.zero m.kind).d with fc := m.fc, fs := m.fs, fd := m.fd }
  else (MsL.zero m.kind).d
theorem bodyM_body {m : MsL} (h : msgC m = 0) (hI : m.In) : bodyM m.kind (bodB m) = .inl (bareD m) ∧ (1 ≤ m.kind ∧ m.kind ≤ 4) ∧ 19 + (bodB m).length ≤ 4096 ∧ leastI m.kind ≤ 19 + (bodB m).length ∧ (m.kind = 4 → bodB m = []) := by
  obtain ⟨hb, hl⟩ := msgC_bod h
  have hk := bodC_kind hb
  unfold bodC at hb
  by_cases k1 : m.kind = 1
  · rw [if_pos k1] at hb
    obtain ⟨o1, o2, o3, o4, o5⟩ := openR_body hb hI.id
    have e : bodB m = openB m := by unfold bodB; rw [if_pos k1]
    rw [e] at hl ⊢
    refine ⟨?_, hk, hl, by rw [k1]; show (29 : Int) ≤ _; omega, fun h => by omega⟩
    unfold bodyM bareD
    rw [if_pos k1, if_pos k1, o1, o2, o3, o4]
  · rw [if_neg k1] at hb
    by_cases k2 : m.kind = 2
    · rw [if_pos k2] at hb
      have e : bodB m = updB m := by unfold bodB; rw [if_neg k1, if_pos k2]
      have hl4 : 4 ≤ (updB m).length := by unfold updB; simp only [List.length_append, numB_len]; omega
      rw [e] at hl ⊢
      refine ⟨?_, hk, hl, by rw [k2]; show (23 : Int) ≤ _; omega, fun h => by omega⟩
      unfold bodyM bareD
      rw [if_neg k1, if_pos k2, if_neg k1, if_pos k2, updR_body hb hI]
    · rw [if_neg k2] at hb
      by_cases k3 : m.kind = 3
      · have e : bodB m = m.fc :: m.fs :: strI m.fd := by unfold bodB; rw [if_neg k1, if_neg k2, if_pos k3]; rfl
        rw [e] at hl ⊢
        refine ⟨?_, hk, hl, by rw [k3]; show (21 : Int) ≤ _; simp only [List.length_cons]; omega, fun h => by omega⟩
        unfold bodyM bareD
        rw [if_neg k1, if_neg k2, if_pos k3, if_neg k1, if_neg k2, if_pos k3, strD_note]
        rfl
      · have e : bodB m = [] := by unfold bodB; rw [if_neg k1, if_neg k2, if_neg k3]
        have k4 : m.kind = 4 := by omega
        rw [e] at hl ⊢
        refine ⟨?_, hk, hl, by rw [k4]; decide, fun _ => rfl⟩
        unfold bodyM bareD
        rw [if_neg k1, if_neg k2, if_neg k3, if_neg k1, if_neg k2, if_neg k3]
theorem decM_msgB {m : MsL} (h : msgC m = 0) (hI : m.In) : decM (msgB m) = .inl (bareD m) := by
  obtain ⟨h1, h2, h3, h4, h5⟩ := bodyM_body h hI
  rw [msgB_of, decM_of _ _ h2 h3 h4 h5, h1]
end Go.Proofs.YtpjbofodllhjbaaGreatDoor
/- bgp: a message's bytes hang on what it says alone, not on where its parts lie. -/
namespace Go.Proofs.YtpjbofodllhjbaaGreatDoor
open Go.RowKit

def capED (p : Int × List Int) : List Int := [p.1 % 256, (p.2.length : Int) % 256] ++ p.2
def capsED (cs : List (Int × List Int)) : List Int := cs.flatMap capED
theorem capsE_d (cs : List CapL) : capsE cs = capsED (cs.map capD) := by unfold capsE capsED; rw [List.flatMap_map]; rfl
theorem capOk_d (cs : List CapL) : cs.all capOk = (cs.map capD).all fun p => decide (0 ≤ p.1 ∧ p.1 ≤ 255 ∧ p.2.length ≤ 255) := by rw [List.all_map]; rfl
def openCD (d : MsD) : Int := if decide (d.asn < 1 ∨ 65535 < d.asn ∨ (d.hold ≠ 0 ∧ (d.hold < 3 ∨ 65535 < d.hold)) ∨ d.id = 0 ∨ 32 < d.caps.length) then 1 else if d.caps.all (fun p => decide (0 ≤ p.1 ∧ p.1 ≤ 255 ∧ p.2.length ≤ 255)) then if 253 < (capsED d.caps).length then 6 else 0 else 1
def openBD (d : MsD) : List Int := [4] ++ numB d.asn 2 ++ numB d.hold 2 ++ addrB d.id 4 ++ (if (capsED d.caps).length = 0 then [0] else [(2 + ((capsED d.caps).length : Int)) % 256, 2, ((capsED d.caps).length : Int) % 256] ++ capsED d.caps)
theorem openC_d (m : MsL) : openC m = openCD m.d := by
  unfold openC openCD badO
  rw [capsE_d, capOk_d, show m.caps.length = m.d.caps.length from (List.length_map ..).symm]
  rfl
theorem openB_d (m : MsL) : openB m = openBD m.d := by unfold openB openBD; rw [capsE_d]; rfl
def segED (p : Bool × List Int) : List Int := numB (if p.1 then 1 else 2) 1 ++ numB p.2.length 1 ++ p.2.flatMap fun x => numB x 2
def segBD (p : Bool × List Int) : Bool := decide (1 ≤ p.2.length ∧ p.2.length ≤ 255) && p.2.all fun x => decide (1 ≤ x ∧ x ≤ 65535)
def valED (a : AtD) (t : Nat) : List Int :=
  if t = 1 then numB a.origin 1 else if t = 2 then a.path.flatMap segED else if t = 3 then numB a.hop 4 else if t = 4 then numB a.med 4
  else if t = 5 then numB a.loc 4 else if t = 7 then numB a.aas 2 ++ numB a.aid 4 else if t = 8 then a.comms.flatMap fun x => numB x 4 else []
theorem valE_d (a : AtL) (t : Nat) : valE a t = valED a.d t := by
  unfold valE valED
  rw [show a.path.flatMap segE = a.d.path.flatMap segED by show _ = (a.path.map segD).flatMap segED; rw [List.flatMap_map]; rfl]
  rfl
def goodBD (a : AtD) (k : Nat) : Bool :=
  if k = 1 then wiB a.origin 2 else if k = 2 then a.path.all segBD else if k = 3 then hopB a.hop else if k = 4 then wiB a.med 4294967295
  else if k = 5 then wiB a.loc 4294967295 else if k = 7 then wiB a.aas 65535 else if k = 8 then commsB a.comms else true
theorem goodB_d (a : AtL) (k : Nat) : goodB a k = goodBD a.d k := by
  unfold goodB goodBD
  rw [show a.path.all segB = a.d.path.all segBD by show _ = (a.path.map segD).all segBD; rw [List.all_map]; rfl]
  rfl
def zeroBD (a : AtD) (k : Nat) : Bool :=
  if k = 1 then decide (a.origin = 0) else if k = 2 then decide ((a.path.length : Int) = 0) else if k = 3 then decide (a.hop = 0) else if k = 4 then decide (a.med = 0)
  else if k = 5 then decide (a.loc = 0) else if k = 7 then decide (a.aas = 0 ∧ a.aid = 0) else if k = 8 then decide ((a.comms.length : Int) = 0) else true
theorem zeroB_d (a : AtL) (k : Nat) : zeroB a k = zeroBD a.d k := by
  unfold zeroB zeroBD
  rw [show a.path.length = a.d.path.length from (List.length_map ..).symm]
  rfl
def ordBD : Int → List (Int × List Int) → Bool
  | _, [] => true
  | last, o :: os => decide (last < o.1 ∧ o.1 ≤ 255) && ordBD o.1 os
theorem ordB_d : ∀ (last : Int) (os : List OthL), ordB last os = ordBD last (os.map othD)
  | _, [] => rfl
  | last, o :: os => by
    show (_ && ordB o.ty os) = (_ && ordBD o.ty (os.map othD))
    rw [ordB_d o.ty os]
    rfl
def eachBD (a : AtD) (k : Nat) : Bool := if hasB a.has k then goodBD a k else zeroBD a k
def chkAD (a : AtD) : Bool := knownB a.has && ((List.range' 1 8).all (eachBD a)) && ordBD 8 a.others
theorem chkA_d (a : AtL) : chkA a = chkAD a.d := by
  unfold chkA chkAD
  rw [ordB_d, show eachB a = eachBD a.d from funext fun k => by unfold eachB eachBD; rw [goodB_d, zeroB_d]; rfl]
  rfl
def bodyAD (a : AtD) : List Int := ((List.range' 1 8).flatMap fun t => if hasB a.has t then putE (flagI t) t (valED a t) else []) ++ a.others.flatMap fun o => putE 224 o.1 o.2
theorem bodyA_d (a : AtL) : bodyA a = bodyAD a.d := by
  unfold bodyA bodyAD
  rw [show knownE a = (fun t => if hasB a.d.has t then putE (flagI t) t (valED a.d t) else []) from funext fun t => by unfold knownE; rw [valE_d]; rfl]
  rw [show (a.others.flatMap fun o => putE 224 o.ty o.val) = a.d.others.flatMap fun o => putE 224 o.1 o.2 by show _ = (a.others.map othD).flatMap _; rw [List.flatMap_map]; rfl]
def encED (a : AtD) : Int := if chkAD a then if (a.others.any fun o => decide (4096 < o.2.length)) || decide (4096 < (bodyAD a).length) then 6 else 0 else 1
theorem encE_d (a : AtL) : encE a = encED a.d := by
  unfold encE encED
  rw [chkA_d, bodyA_d, show (a.others.any fun o => decide (4096 < o.val.length)) = a.d.others.any fun o => decide (4096 < o.2.length) by show _ = (a.others.map othD).any _; rw [List.any_map]; rfl]
def updCD (d : MsD) : Int := if 200 < d.gone.length ∨ 200 < d.nets.length then 3 else if !(d.gone.all pfOk) || !(d.nets.all pfOk) || decide (0 < d.nets.length ∧ missI d.atr.has ≠ 0) then 1 else encED d.atr
def updBD (d : MsD) : List Int := numB (netsE d.gone).length 2 ++ netsE d.gone ++ numB (bodyAD d.atr).length 2 ++ bodyAD d.atr ++ netsE d.nets
theorem updC_d (m : MsL) : updC m = updCD m.d := by unfold updC updCD badN; rw [encE_d]; rfl
theorem updB_d (m : MsL) : updB m = updBD m.d := by unfold updB updBD; rw [bodyA_d]; rfl
def bodCD (d : MsD) : Int := if d.kind = 1 then openCD d else if d.kind = 2 then updCD d else if d.kind = 3 then if d.fc < 1 ∨ 255 < d.fc ∨ d.fs < 0 ∨ 255 < d.fs then 1 else if 4096 < d.fd.size then 6 else 0 else if d.kind = 4 then 0 else 12
def bodBD (d : MsD) : List Int := if d.kind = 1 then openBD d else if d.kind = 2 then updBD d else if d.kind = 3 then [d.fc, d.fs] ++ strI d.fd else []
theorem bodC_d (m : MsL) : bodC m = bodCD m.d := by unfold bodC bodCD noteC; rw [openC_d, updC_d]; rfl
theorem bodB_d (m : MsL) : bodB m = bodBD m.d := by unfold bodB bodBD noteB; rw [openB_d, updB_d]; rfl
def msgCD (d : MsD) : Int := if bodCD d = 0 then if 4096 < 19 + (bodBD d).length then 6 else 0 else bodCD d
def msgBD (d : MsD) : List Int := msgOf d.kind (bodBD d)
theorem msgC_d (m : MsL) : msgC m = msgCD m.d := by unfold msgC msgCD; rw [bodC_d, bodB_d]
theorem msgB_d (m : MsL) : msgB m = msgBD m.d := by rw [msgB_of, bodB_d]; rfl
theorem bod_1 {d : MsD} (k : d.kind = 1) : bodCD d = openCD d ∧ bodBD d = openBD d := ⟨by unfold bodCD; rw [if_pos k], by unfold bodBD; rw [if_pos k]⟩
theorem bod_2 {d : MsD} (k1 : ¬ d.kind = 1) (k : d.kind = 2) : bodCD d = updCD d ∧ bodBD d = updBD d := ⟨by unfold bodCD; rw [if_neg k1, if_pos k], by unfold bodBD; rw [if_neg k1, if_pos k]⟩
theorem bod_3 {d : MsD} (k1 : ¬ d.kind = 1) (k2 : ¬ d.kind = 2) (k : d.kind = 3) : bodCD d = (if d.fc < 1 ∨ 255 < d.fc ∨ d.fs < 0 ∨ 255 < d.fs then 1 else if 4096 < d.fd.size then 6 else 0) ∧ bodBD d = [d.fc, d.fs] ++ strI d.fd := ⟨by unfold bodCD; rw [if_neg k1, if_neg k2, if_pos k], by unfold bodBD; rw [if_neg k1, if_neg k2, if_pos k]⟩
theorem bod_4 {d : MsD} (k1 : ¬ d.kind = 1) (k2 : ¬ d.kind = 2) (k3 : ¬ d.kind = 3) : bodCD d = (if d.kind = 4 then 0 else 12) ∧ bodBD d = [] := ⟨by unfold bodCD; rw [if_neg k1, if_neg k2, if_neg k3], by unfold bodBD; rw [if_neg k1, if_neg k2, if_neg k3]⟩
/-- Numbers in range. -/
structure AtD.In (a : AtD) : Prop where
  nums : I64 a.has ∧ I64 a.origin ∧ U32 a.hop ∧ I64 a.med ∧ I64 a.loc ∧ I64 a.aas ∧ U32 a.aid
  segs : ∀ s ∈ a.path, s.2.length ≤ 9223372036854775807 ∧ ∀ x ∈ s.2, I64 x
  comms : ∀ x ∈ a.comms, I64 x
  oths : ∀ o ∈ a.others, I64 o.1 ∧ o.2.length ≤ 9223372036854775807 ∧ Bys o.2
  lens : a.path.length ≤ 9223372036854775807 ∧ a.comms.length ≤ 9223372036854775807 ∧ a.others.length ≤ 9223372036854775807
structure MsD.In (m : MsD) : Prop where
  nums : I64 m.kind ∧ I64 m.asn ∧ I64 m.hold ∧ U32 m.id ∧ I64 m.fc ∧ I64 m.fs
  caps : ∀ c ∈ m.caps, I64 c.1 ∧ c.2.length ≤ 9223372036854775807 ∧ Bys c.2
  gone : ∀ p ∈ m.gone, U32 p.addr ∧ I64 p.len
  nets : ∀ p ∈ m.nets, U32 p.addr ∧ I64 p.len
  at_ : m.atr.In
  lens : m.caps.length ≤ 9223372036854775807 ∧ m.gone.length ≤ 9223372036854775807 ∧ m.nets.length ≤ 9223372036854775807 ∧ m.fd.size ≤ 9223372036854775807
theorem AtL.in_d {a : AtL} : a.In ↔ a.d.In := by
  constructor
  · intro h
    refine ⟨⟨h.has, h.origin, h.hop, h.med, h.loc, h.aas, h.aid⟩, fun s hs => ?_, h.comms, fun o ho => ?_, ?_⟩
    · obtain ⟨t, ht, rfl⟩ := List.mem_map.1 hs; exact h.segs t ht
    · obtain ⟨t, ht, rfl⟩ := List.mem_map.1 ho; exact h.oths t ht
    · have := h.lens; exact ⟨by show (a.path.map segD).length ≤ _; rw [List.length_map]; exact this.1, this.2.1, by show (a.others.map othD).length ≤ _; rw [List.length_map]; exact this.2.2⟩
  · intro h
    obtain ⟨n1, n2, n3, n4, n5, n6, n7⟩ := h.nums
    obtain ⟨l1, l2, l3⟩ := h.lens
    refine ⟨n1, n2, n3, n4, n5, n6, n7, fun s hs => h.segs (segD s) (List.mem_map.2 ⟨s, hs, rfl⟩), h.comms, fun o ho => h.oths (othD o) (List.mem_map.2 ⟨o, ho, rfl⟩), ⟨?_, l2, ?_⟩⟩
    · have : (a.path.map segD).length ≤ 9223372036854775807 := l1
      rwa [List.length_map] at this
    · have : (a.others.map othD).length ≤ 9223372036854775807 := l3
      rwa [List.length_map] at this
theorem MsL.in_d {m : MsL} : m.In ↔ m.d.In := by
  constructor
  · intro h
    have := h.lens
    exact ⟨⟨h.kind, h.asn, h.hold, h.id, h.fc, h.fs⟩, fun s hs => (by obtain ⟨t, ht, rfl⟩ := List.mem_map.1 hs; exact h.caps t ht), h.gone, h.nets, AtL.in_d.1 h.at_, ⟨by show (m.caps.map capD).length ≤ _; rw [List.length_map]; exact this.1, this.2⟩⟩
  · intro h
    obtain ⟨n1, n2, n3, n4, n5, n6⟩ := h.nums
    obtain ⟨l1, l2⟩ := h.lens
    refine ⟨n1, n2, n3, n4, n5, n6, fun s hs => h.caps (capD s) (List.mem_map.2 ⟨s, hs, rfl⟩), h.gone, h.nets, AtL.in_d.2 h.at_, ⟨?_, l2⟩⟩
    have : (m.caps.map capD).length ≤ 9223372036854775807 := l1
    rwa [List.length_map] at this
theorem zeroM_in {k : Int} (h : I64 k) : (MsL.zero k).In := ⟨h, zero_i, zero_i, zero_u, zero_i, zero_i, (fun c hc => by cases hc), (fun c hc => by cases hc), (fun c hc => by cases hc), AtL.zero_in, ⟨Nat.zero_le _, Nat.zero_le _, Nat.zero_le _, Nat.zero_le _⟩⟩
theorem flatMap_len {α : Type} {enc : α → List Value} {s : Nat} (hs : ∀ x, (enc x).length = s) : ∀ xs : List α, (xs.flatMap enc).length = xs.length * s
  | [] => by simp
  | x :: xs => by rw [List.flatMap_cons, List.length_append, hs, flatMap_len hs xs, List.length_cons, Nat.add_mul, Nat.one_mul]; omega
theorem flatMap_seg {α : Type} {enc : α → List Value} {s : Nat} (hs : ∀ x, (enc x).length = s) : ∀ (xs : List α) (i : Nat) (x : α), xs[i]? = some x → ((xs.flatMap enc).drop (i * s)).take s = enc x
  | [], _, _, h => by simp at h
  | y :: xs, 0, x, h => by
    simp only [List.getElem?_cons_zero, Option.some.injEq] at h
    subst h
    rw [List.flatMap_cons, Nat.zero_mul, List.drop_zero, List.take_left' (hs y)]
  | y :: xs, i + 1, x, h => by
    rw [List.getElem?_cons_succ] at h
    rw [List.flatMap_cons, Nat.add_mul, Nat.one_mul, Nat.add_comm, ← List.drop_drop, List.drop_left' (hs y)]
    exact flatMap_seg hs xs i x h
/-- Elements whose block is there. -/
theorem cells_of {s k c : Nat} {ad : Option Addr} {α : Type} {enc : α → List Value} {xs : List α} {w : World} {E : List Ent} (hV : Vec s ad k c (xs.flatMap enc) E) (hs : ∀ x, (enc x).length = s) (hs0 : 0 < s) (hw : ∀ e ∈ E, e.holds w) : RowsAt w ad s enc xs := fun i x hi => by
  have hl := flatMap_seg hs xs i x hi
  have h0 : 0 < (xs.flatMap enc).length := by
    have := (List.getElem?_eq_some_iff.1 hi).1
    rw [flatMap_len hs]
    exact Nat.mul_pos (by omega) hs0
  rcases hV with ⟨_, _, _, h, _⟩ | ⟨g, cs, rfl, rfl, hx, _, _⟩
  · rw [h] at h0; exact absurd h0 (Nat.lt_irrefl 0)
  · refine ⟨g, 0, rfl, fun j v hj => ?_⟩
    have hR : Row w g cs := hw (.row g cs) (List.mem_cons_self ..)
    have hjl := (List.getElem?_eq_some_iff.1 hj).1
    have h1 : (xs.flatMap enc)[i * s + j]? = some v := by
      rw [← hj, ← hl, List.getElem?_take, if_pos (by rw [hs] at hjl; exact hjl), List.getElem?_drop]
    rw [← hx, List.getElem?_take] at h1
    split at h1
    · rw [show (0 + i * s + j) = i * s + j by omega]; exact hR.cell h1
    · cases h1
end Go.Proofs.YtpjbofodllhjbaaGreatDoor
/- stream: the document's example; StreamStops. -/
namespace Go.Proofs.YtpjbofodllhjbaaGreatDoor
open Go.RowKit

theorem Vec.src2 {s k c : Nat} {ad : Option Addr} {xs : List Value} {E : List Ent} (hV : Vec s ad k c xs E) (h0 : 0 < xs.length) : ∃ b o, ad = some ⟨b, o, none⟩ ∧ ∀ w, (∀ e ∈ E, e.holds w) → w.rangeAt b o xs := by
  rcases hV with ⟨_, _, _, rfl, _⟩ | ⟨g, cs, rfl, rfl, hx, _, _⟩
  · simp at h0
  · refine ⟨g, 0, rfl, fun w hw j v hj => ?_⟩
    have hR : Row w g cs := hw (.row g cs) (List.mem_cons_self ..)
    rw [← hx, List.getElem?_take] at hj
    split at hj
    · rw [Nat.zero_add]; exact hR.cell hj
    · cases hj
end Go.Proofs.YtpjbofodllhjbaaGreatDoor
/- stream: slices of bytes that begin anywhere in their block, and grow; a Queue. -/
namespace Go.Proofs.YtpjbofodllhjbaaGreatDoor
open Go.RowKit

/-- A slice of bytes of one's own, wherever it begins in its block. -/
def VecO (ad : Option Addr) (c : Nat) (xs : List Int) (E : List Ent) : Prop :=
  (ad = none ∧ c = 0 ∧ xs = [] ∧ E = []) ∨ ∃ g o cs, ad = some ⟨g, o, none⟩ ∧ E = [.row g cs] ∧ xs.length ≤ c ∧ o + c ≤ cs.length ∧ ∀ i v, (u8s xs)[i]? = some v → cs[o + i]? = some v
section
variable {P : Program} {ops : Array Oper} {Q : Exit → Act → World → Prop} {n : Nat} {p : Nat → Prop} {w0 : World} {o : Oper} {rest : List Oper} {l : Kn} {E L0 : List Ent}
end
/-- A Queue. -/
structure QuL where
  ad : Option Addr
  cap : Nat
  wait : List Int
  most : Int
def QuL.cells (q : QuL) : List Value := [.slice q.ad q.wait.length q.cap, .int .i64 q.most]
end Go.Proofs.YtpjbofodllhjbaaGreatDoor
/- stream: StreamQueues. -/
namespace Go.Proofs.YtpjbofodllhjbaaGreatDoor
open Go.RowKit

structure OpL where
  k : Int
  ad : Option Addr
  cap : Nat
  val : List Int
  n : Int
def OpL.cells (o : OpL) : List Value := [.int .i64 o.k, .slice o.ad o.val.length o.cap, .int .i64 o.n]
theorem CellsAt.rdo {w : World} {a : Option Addr} {xs : List Int} (h : CellsAt w a (u8s xs)) : RdO w a xs.length (fOf xs) := fun h0 => by
  obtain ⟨b, o, e, hr⟩ := h (by rw [u8s_len]; exact h0)
  exact ⟨b, o, e, rd_u8s hr⟩
structure QS where
  ws : List Int
  qa : Option Addr
  qc : Nat
  Eq : List Ent
  aa : Option Addr
  ac : Nat
  Ea : List Ent
/-- How the queue and the list stand to each other. -/
structure QI (y : QS) (most : Int) (k : Nat) : Prop where
  q : VecO y.qa y.qc y.ws y.Eq
  a : VecO y.aa y.ac y.ws y.Ea
  bys : Bys y.ws
  len : y.ws.length ≤ 300 * k
  fit : (y.ws.length : Int) ≤ most
end Go.Proofs.YtpjbofodllhjbaaGreatDoor
/- stream: StreamSends. -/
namespace Go.Proofs.YtpjbofodllhjbaaGreatDoor
open Go.RowKit

end Go.Proofs.YtpjbofodllhjbaaGreatDoor
/- stream: StreamWrites. -/
namespace Go.Proofs.YtpjbofodllhjbaaGreatDoor
open Go.RowKit

theorem AtAll.at_ {K : List Ent} {a : AtL} (h : AtAll K a) {w : World} (hw : ∀ e ∈ K, e.holds w) : a.At w := by
  obtain ⟨⟨⟨E1, v1, m1⟩, h2, ⟨E3, v3, m3⟩⟩, ⟨E4, v4, m4⟩, h5⟩ := h
  refine ⟨cells_of (enc := SegL.cells) v1 (fun _ => rfl) (by omega) fun e he => hw e (m1 e he), fun s hs => ?_, ?_, cells_of (enc := OthL.cells) v4 (fun _ => rfl) (by omega) fun e he => hw e (m4 e he), fun o ho => ?_⟩
  · obtain ⟨E, v, m⟩ := h2 s hs
    intro h0
    obtain ⟨b, o, e, hr⟩ := v.src2 h0
    exact ⟨b, o, e, hr w fun e he => hw e (m e he)⟩
  · intro h0
    obtain ⟨b, o, e, hr⟩ := v3.src2 h0
    exact ⟨b, o, e, hr w fun e he => hw e (m3 e he)⟩
  · obtain ⟨E, v, m⟩ := h5 o ho
    intro h0
    obtain ⟨b, o, e, hr⟩ := v.src2 h0
    exact ⟨b, o, e, hr w fun e he => hw e (m e he)⟩
theorem MsAll.at {K : List Ent} {m : MsL} (h : MsAll K m) {w : World} (hw : ∀ e ∈ K, e.holds w) : m.At w := by
  obtain ⟨⟨E1, v1, m1⟩, h2, ⟨E3, v3, m3⟩, ⟨E4, v4, m4⟩, h5⟩ := h
  refine ⟨cells_of (enc := CapL.cells) v1 (fun _ => rfl) (by omega) fun e he => hw e (m1 e he), fun s hs => ?_, cells_of (enc := PfL.cells) v3 (fun _ => rfl) (by omega) fun e he => hw e (m3 e he), cells_of (enc := PfL.cells) v4 (fun _ => rfl) (by omega) fun e he => hw e (m4 e he), h5.at_ hw⟩
  obtain ⟨E, v, m⟩ := h2 s hs
  intro h0
  obtain ⟨b, o, e, hr⟩ := v.src2 h0
  exact ⟨b, o, e, hr w fun e he => hw e (m e he)⟩
end Go.Proofs.YtpjbofodllhjbaaGreatDoor
/- The engine: a region that draws its order: what reads only what nobody in the region writes is taken first, although calls come between (the kit's held orders). -/
namespace Go.Proofs.YtpjbofodllhjbaaGreatDoor
open Go.RowKit

section
variable {P : Program} {ops : Array Oper} {Q : Exit → Act → World → Prop} {n : Nat} {p : Nat → Prop} {w0 : World} {o : Oper} {rest os : List Oper} {l : Kn} {L L0 : List Ent} {K : Act → World → Prop}
/-- What is left of the region, as what follows. -/
def RestH (P : Program) (os : List Oper) (Q : Exit → Act → World → Prop) (p : Nat → Prop) (w0 : World) (L0 : List Ent) (g : Nat) (listed : Array Bool) : Act → World → Prop := fun a w => wpAnyH P .any os.toArray (NP Q) (fun w => St p w0 w L0) g listed a w
/-- What is left of a region, of which these are done; the blocks L0 stay as they are. -/
def WRH (P : Program) (os : List Oper) (Q : Exit → Act → World → Prop) (n : Nat) (p : Nat → Prop) (w0 : World) (L0 : List Ent) (g : Nat) (listed : Array Bool) (l : Kn) (L : List Ent) : Prop :=
  ∀ a w, Has n a l → St p w0 w L → RestH P os Q p w0 L0 g listed a w
theorem WC.held {id : Nat} (L0 : List Ent) (hm : P.follows .mixedOrders = true) (h : WRH P os Q n p w0 L0 os.length (Array.replicate os.length false) l L) : WC P (.region id os.toArray true) Q n p w0 l L := fun a w ha hS =>
  Code.wp_mono NP.imp (wp_region_held (S := fun w => St p w0 w L0) hm (by have h1 := h a w.drew ha hS.drew; unfold RestH at h1; simpa using h1))
def wpHeld (P : Program) (ops : Array Oper) (S : World → Prop) (K : Act → Prop) : List Oper → Act → Prop
  | [], a => K a
  | o :: rest, a => ∃ v, YieldsIf P ops S o v a ∧ wpHeld P ops S K rest (a.put o.dst v)
def WH (P : Program) (ops : Array Oper) (K : Act → World → Prop) (n : Nat) (p : Nat → Prop) (w0 : World) (L0 : List Ent) (rest : List Oper) (l : Kn) (L : List Ent) : Prop :=
  ∀ a, Has n a l → wpHeld P ops (fun w => St p w0 w L0) (fun a' => ∀ w, St p w0 w L → K a' w) rest a
theorem anyH_of_held {K : Act → Prop} {S : World → Prop} {w : World} {g : Nat} (hsel : Region.noSelect os.toArray = true) (hw : S w) : ∀ (js : List Nat) (listed : Array Bool) (a : Act), takesB .any os.toArray js listed = true →
    wpHeld P os.toArray S K (js.map (at_ os)) a → (∀ a, K a → wpAnyH P .any os.toArray (NP Q) S g (marks listed js) a w) → wpAnyH P .any os.toArray (NP Q) S (js.length + g) listed a w
  | [], listed, a, _, h, hK => by simpa [marks] using hK a h
  | i :: is, listed, a, hB, h, hK => by
    simp only [takesB, Bool.and_eq_true] at hB
    obtain ⟨⟨hr, hf⟩, hB'⟩ := hB
    obtain ⟨v, hy, h'⟩ := h
    have hr' : i ∈ Region.ready .any os.toArray listed := by simpa using hr
    rw [List.length_cons, show is.length + 1 + g = (is.length + g) + 1 by omega]
    exact wpAnyH_take (at_some hr') hsel hf hr (fun c a w hh => hh) hy hw (anyH_of_held hsel hw is _ _ hB' h' hK)
theorem WRH.first {listed : Array Bool} {g : Nat} (js : List Nat) (hsel : Region.noSelect os.toArray = true) (hB : takesB .any os.toArray js listed = true) (keep : ∀ w, St p w0 w L → St p w0 w L0)
    (h : WH P os.toArray (RestH P os Q p w0 L0 g (marks listed js)) n p w0 L0 (js.map (at_ os)) l L) : WRH P os Q n p w0 L0 (js.length + g) listed l L := fun a w ha hS =>
  anyH_of_held (K := fun a' => ∀ w, St p w0 w L → RestH P os Q p w0 L0 g (marks listed js) a' w) hsel (keep w hS) js listed a hB (h a ha) (fun _ h => h w hS)
theorem WRH.each {g : Nat} {listed : Array Bool} (rs : List Nat) (hr : Region.ready .any os.toArray listed = rs) (hne : rs ≠ [])
    (h : AllOf (fun i => WL P os.toArray (RQ (fun a' w' => St p w0 w' L0 ∧ RestH P os Q p w0 L0 g (listed.setIfInBounds i true) a' w') (NP Q)) n p w0 [at_ os i] l L) rs) : WRH P os Q n p w0 L0 (g + 1) listed l L := fun a w ha hS => by
  refine wpAnyH_all hr hne fun i hi => ?_
  have ho := at_some (listed := listed) (i := i) (by rw [hr]; exact hi)
  have h' : wpList P os.toArray (RQ (fun a' w' => St p w0 w' L0 ∧ RestH P os Q p w0 L0 g (listed.setIfInBounds i true) a' w') (NP Q)) [at_ os i] a w := h.get i hi a w ha hS
  unfold wpOp
  simp only [ho]
  unfold wpList at h'
  split
  · rename_i hwd
    rw [if_pos hwd] at h'
    exact (h'.imp wpRQ (fun h => ⟨h.1, RQ.out h.2⟩)).imp (Oper.wp_mono fun a' w' h => h) id
  · rename_i hwd
    rw [if_neg hwd] at h'
    exact h'
theorem WRH.one {g : Nat} {listed : Array Bool} (i : Nat) (hr : Region.ready .any os.toArray listed = [i])
    (h : WL P os.toArray (RQ (fun a' w' => St p w0 w' L0 ∧ RestH P os Q p w0 L0 g (listed.setIfInBounds i true) a' w') (NP Q)) n p w0 [at_ os i] l L) : WRH P os Q n p w0 L0 (g + 1) listed l L :=
  WRH.each [i] hr (by simp) h
theorem WRH.done {listed : Array Bool} (hB : Region.ready .any os.toArray listed = []) (h : WE Q .normal n p w0 l L) : WRH P os Q n p w0 L0 0 listed l L := fun a w ha hS => ⟨hB, h a w ha hS⟩
theorem WH.nil {listed : Array Bool} {g : Nat} (h : WRH P os Q n p w0 L0 g listed l L) : WH P os.toArray (RestH P os Q p w0 L0 g listed) n p w0 L0 [] l L := fun a ha w hS => h a w ha hS
theorem WL.nilH {listed : Array Bool} {g : Nat} (keep : ∀ w, St p w0 w L → St p w0 w L0) (h : WRH P os Q n p w0 L0 g listed l L) : WL P os.toArray (RQ (fun a' w' => St p w0 w' L0 ∧ RestH P os Q p w0 L0 g listed a' w') (NP Q)) n p w0 [] l L := fun a w ha hS => ⟨keep w hS, h a w ha hS⟩
theorem WH.val {d : Nat} {v : Value} (hv : Val P (fun w => St p w0 w L0) n l o v) (hg : On ops o l) (hd : o.dst = some d) (hn : Nat.blt d n = true)
    (h : WH P ops K n p w0 L0 rest ((d, v) :: l) L) : WH P ops K n p w0 L0 (o :: rest) l L := fun a ha =>
  ⟨v, .inl ⟨hg.ok ha, fun w hw => hv a w ha hw⟩, h _ (ha.put_any hd hn v)⟩
end
end Go.Proofs.YtpjbofodllhjbaaGreatDoor
/- carrefourlaw07.Plain: a message as the reference has it. -/
namespace Go.Proofs.YtpjbofodllhjbaaGreatDoor
open Go.RowKit

/-- Attributes, a message, as the reference has them. -/
def AtL.rcells (a : AtL) : List Value := [.int .i64 a.has, .int .i64 a.origin, .slice a.pad a.path.length a.pc, .int .i64 a.hop, .int .i64 a.med, .int .i64 a.loc, .int .i64 a.aas, .int .i64 a.aid, .slice a.cad a.comms.length a.cc, .slice a.oad a.others.length a.oc]
def MsL.rcells (m : MsL) : List Value := [.int .i64 m.kind, .int .i64 m.asn, .int .i64 m.hold, .int .u32 m.id, .slice m.kad m.caps.length m.kc, .slice m.gad m.gone.length m.gc, .int .i64 m.atr.has, .int .i64 m.atr.origin, .slice m.atr.pad m.atr.path.length m.atr.pc, .int .i64 m.atr.hop, .int .i64 m.atr.med, .int .i64 m.atr.loc, .int .i64 m.atr.aas, .int .i64 m.atr.aid, .slice m.atr.cad m.atr.comms.length m.atr.cc, .slice m.atr.oad m.atr.others.length m.atr.oc, .slice m.nad m.nets.length m.nc, .int .i64 m.fc, .int .i64 m.fs, .string m.fd]
set_option maxHeartbeats 1000000 in
theorem prefixes_c (w : World) (a : Option Addr) (c : Nat) (ps : List PfL) (hR : RowsAt w a 2 PfL.cells ps) (hn : ps.length ≤ 1000000) :
    Calls Tryz.prog 24 #[.slice a ps.length c] w fun e w' => ∃ ad cc E, e = .returned (.slice ad ps.length cc) ∧ Vec 2 ad ps.length cc (pfsL ps) E ∧ St (fun _ => False) w w' E := by
  refine enter Tryz.func24 rfl Tryz.ntmps24 rfl (St.start (fun _ => False) w) ?_
  refine WC.seq <| WC.region <| WL.v (v_assign rfl rfl) rfl <| WL.nt <| WC.seq <| WC.region <| ?_
  refine WL.buildSlice rfl rfl Tryz.underlying44 sz_71 zero_71 rfl (by decide) rfl (.none rfl) rfl rfl ?_
  intro g6 hg6
  refine WL.v (v_assign rfl rfl) rfl <| WL.nt <| WC.seq <| WC.seq <| WC.region <| WL.v (v_move rfl rfl) rfl <| WL.v (v_len_slice rfl rfl Tryz.underlying25) rfl <| WL.v (v_move rfl rfl) rfl <| WL.nt <| WC.block <| ?_
  refine WC.loop (fun x : Nat × Option Addr × Nat × List Ent => [(9, .int .i64 x.1), (8, .int .i64 ps.length), (7, .slice a ps.length c), (3, .slice x.2.1 (ps.take x.1).length x.2.2.1)]) (fun x => x.2.2.2 ++ []) (fun x => x.1 ≤ ps.length ∧ Vec 2 x.2.1 (ps.take x.1).length x.2.2.1 (pfsL (ps.take x.1)) x.2.2.2) (fun x => ps.length - x.1) (0, some ⟨g6, 0, none⟩, 0, [.row g6 []]) ⟨Nat.zero_le _, Vec.row (k := 0) rfl rfl (Nat.le_refl _)⟩ (.cons rfl (.cons rfl (.cons rfl (.cons rfl .nil)))) (.refl _) ?_
  rintro ⟨k, ad, cc, E⟩ ⟨hk, hV⟩
  dsimp only at hk hV
  dsimp only
  refine WC.seq <| WC.region <| ?_
  refine WL.test (v_lss rfl rfl rfl) (.none rfl) rfl rfl (fun h10 => ?_) (fun h10 => ?_)
  ·
   refine WL.nt <| WC.seq <| WC.cond_t rfl <| WC.skip <| WE.then_n <| WC.seq <| WC.block <| WC.seq <| WC.region <| ?_
   obtain ⟨x, hx⟩ : ∃ x, ps[k]? = some x := ⟨ps[k]'(by omega), List.getElem?_eq_getElem _⟩
   obtain ⟨b, o, ea, hr⟩ := hR k x hx
   have htl : (ps.take k).length = k := (by rw [List.length_take]; omega)
   have hts := take_succ_get hx
   refine WL.v ((v_indexAddr (b := b) (off := o) (lo := k) rfl (by show some (Value.slice a _ _) = _; rw [ea]) rfl Tryz.underlying25 sz_99 rfl (by omega))) rfl ?_
   refine WL.v ((v_loadN (cs := x.cells) rfl rfl many_99 rfl (rgIn (fun h => h) hr))) rfl <| WL.alloc rfl zero_99 (.none rfl) rfl rfl <| ?_
   intro g5 hg5
   refine WL.storeW rfl rfl rfl rfl many_99 rfl rfl (.none rfl) rfl <| WL.nt <| WC.region <| WL.v (v_move rfl rfl) rfl <| WL.v (v_fieldAddr0 rfl rfl fld_99_0) rfl <| WL.v (v_load1 rfl rfl one_23 (cellAt rfl)) rfl <| WL.v (v_fieldAddr0 rfl rfl fld_99_1) rfl <| WL.v (v_load1 rfl rfl one_3 (cellAt rfl)) rfl <| WL.v (v_build rfl rfl zero_71 plc_71 rfl) rfl <| ?_
   refine WL.buildSlice rfl rfl Tryz.underlying44 sz_71 zero_71 rfl (by decide) rfl (.none rfl) rfl rfl ?_
   intro g19 hg19
   refine WL.as (L' := .row g19 x.cells :: .row g5 x.cells :: (E ++ [])) rfl ?_
   refine WL.to (L' := E ++ [.row g19 x.cells, .row g5 x.cells]) (fun w hS => by simpa using St.front (R := E) (L := []) [.row g19 x.cells, .row g5 x.cells] hS) ?_
   refine WL.appendL rfl rfl rfl Tryz.underlying44 Tryz.underlying44 sz_71 by_71 zero_71 rfl rfl hV (new := x.cells) (fun _ => ⟨g19, 0, rfl, fun w hS => allAt (g := g19) w hS⟩) rfl rfl (by omega) (.none rfl) rfl rfl ?_
   intro ad20 c20 E20 hV20 hr20
   rw [← pfsL_snoc, ← hts] at hV20
   rw [show (ps.take k).length + 1 = (ps.take (k + 1)).length by rw [hts, List.length_append]; rfl] at hV20 ⊢
   refine WL.v (v_assign rfl rfl) rfl <| WL.nil <| WE.block_n <| WE.then_n <| WC.region <| ?_
   refine WL.v (v_add rfl rfl rfl (w_i64 (by omega) (by omega))) rfl ?_
   refine WL.v (v_move rfl rfl) rfl <| WL.nil <| ?_
   exact WE.next (k + 1, ad20, c20, E20) (by dsimp only; omega) ⟨by dsimp only; omega, hV20⟩ (.int rfl (by dsimp only; omega) (.cons rfl (.cons rfl (.cons rfl .nil)))) (List.Sublist.append_left (List.nil_sublist _) _)
  ·
   refine WL.nt <| WC.seq <| WC.cond_f rfl <| WC.exit <| WE.then_exit <| WE.then_exit <| WE.block_hit <| WE.then_n <| WC.seq <| WC.region <| ?_
   refine WL.v (v_move rfl rfl) rfl <| WL.v (v_assign rfl rfl) rfl <| WL.nt <| WC.ret <| WE.ret1 (P := Tryz.prog) (.inl rfl) Tryz.results24 rfl <| ?_
   have ek : k = ps.length := (by omega)
   rw [ek, List.take_length] at hV ⊢
   exact fun w' h => ⟨ad, cc, E, rfl, hV, h.sub (List.sublist_append_left _ _)⟩
end Go.Proofs.YtpjbofodllhjbaaGreatDoor
/- The reference's small functions: num, in, hop. -/
namespace Go.Proofs.YtpjbofodllhjbaaGreatDoor
open Go.RowKit

theorem RIn_c (w : World) (n lo hi : Int) : Calls Tryz.prog 60 #[.int .i64 n, .int .i64 lo, .int .i64 hi] w fun e w' => e = .returned (.bool (decide (lo ≤ n ∧ n ≤ hi))) ∧ Frm (fun _ => False) w w' := by
  refine enter Tryz.func60 rfl Tryz.ntmps60 rfl (St.start (fun _ => False) w) ?_
  refine WC.seq <| WC.region <| WL.v (v_assign rfl rfl) rfl <| WL.nt <| WC.seq <| WC.region <| WL.v (v_move rfl rfl) rfl <| WL.v (v_move rfl rfl) rfl <| ?_
  refine WL.test (v_geq rfl rfl rfl) (.none rfl) rfl rfl (fun h9 => ?_) (fun h9 => ?_)
  ·
   refine WL.v (v_move rfl rfl) rfl <| WL.val (v_move rfl rfl) (.some rfl rfl rfl) rfl rfl <| WL.val (v_move rfl rfl) (.some rfl rfl rfl) rfl rfl <| ?_
   refine WL.test (v_leq rfl rfl rfl) (.some rfl rfl rfl) rfl rfl (fun h13 => ?_) (fun h13 => ?_)
   ·
    refine WL.v (v_pick_t rfl rfl rfl) rfl <| WL.v (v_assign rfl rfl) rfl <| WL.nt <| WC.ret <| WE.ret1 (P := Tryz.prog) (.inl rfl) Tryz.results60 rfl <| ?_
    exact fun w' h => ⟨by rw [decide_eq_true (by omega)], h.frm⟩
   ·
    refine WL.v (v_pick_t rfl rfl rfl) rfl <| WL.v (v_assign rfl rfl) rfl <| WL.nt <| WC.ret <| WE.ret1 (P := Tryz.prog) (.inl rfl) Tryz.results60 rfl <| ?_
    exact fun w' h => ⟨by rw [decide_eq_false (by omega)], h.frm⟩
  ·
   refine WL.v (v_move rfl rfl) rfl <| WL.sk rfl <| WL.sk rfl <| WL.sk rfl <| WL.v (v_pick_f rfl rfl rfl) rfl <| WL.v (v_assign rfl rfl) rfl <| WL.nt <| WC.ret <| WE.ret1 (P := Tryz.prog) (.inl rfl) Tryz.results60 rfl <| ?_
   exact fun w' h => ⟨by rw [decide_eq_false (by omega)], h.frm⟩
theorem RHop_c (w : World) (a : Int) (ha : 0 ≤ a) (ha2 : a ≤ 4294967295) : Calls Tryz.prog 61 #[.int .i64 a] w fun e w' => e = .returned (.bool (hopB a)) ∧ Frm (fun _ => False) w w' := by
  refine enter Tryz.func61 rfl Tryz.ntmps61 rfl (St.start (fun _ => False) w) ?_
  refine WC.seq <| WC.region <| WL.v (v_assign rfl rfl) rfl <| WL.nt <| WC.seq <| WC.region <| WL.v (v_move rfl rfl) rfl <| ?_
  refine WL.v (v_quoT rfl rfl rfl (by decide) (show _ = a / 16777216 from by rw [Int.tdiv_eq_ediv_of_nonneg ha]; exact w_i64 (by omega) (by omega))) rfl ?_
  refine WL.v (v_assign rfl rfl) rfl <| WL.nt <| WC.seq <| WC.region <| WL.v (v_move rfl rfl) rfl <| ?_
  refine WL.test (v_neq rfl rfl rfl) (.none rfl) rfl rfl (fun h7 => ?_) (fun h7 => ?_)
  ·
   refine WL.v (v_move rfl rfl) rfl <| WL.val (v_move rfl rfl) (.some rfl rfl rfl) rfl rfl <| ?_
   refine WL.test (v_neq rfl rfl rfl) (.some rfl rfl rfl) rfl rfl (fun h10 => ?_) (fun h10 => ?_)
   ·
    refine WL.v (v_pick_t rfl rfl rfl) rfl <| WL.v (v_move rfl rfl) rfl <| WL.val (v_move rfl rfl) (.some rfl rfl rfl) rfl rfl <| ?_
    refine WL.test (v_lss rfl rfl rfl) (.some rfl rfl rfl) rfl rfl (fun h14 => ?_) (fun h14 => ?_)
    ·
     refine WL.v (v_pick_t rfl rfl rfl) rfl <| WL.v (v_assign rfl rfl) rfl <| WL.nt <| WC.ret <| WE.ret1 (P := Tryz.prog) (.inl rfl) Tryz.results61 rfl <| ?_
     exact fun w' h => ⟨by unfold hopB; rw [decide_eq_true (by omega)], h.frm⟩
    ·
     refine WL.v (v_pick_t rfl rfl rfl) rfl <| WL.v (v_assign rfl rfl) rfl <| WL.nt <| WC.ret <| WE.ret1 (P := Tryz.prog) (.inl rfl) Tryz.results61 rfl <| ?_
     exact fun w' h => ⟨by unfold hopB; rw [decide_eq_false (by omega)], h.frm⟩
   ·
    refine WL.v (v_pick_t rfl rfl rfl) rfl <| WL.v (v_move rfl rfl) rfl <| WL.sk rfl <| WL.sk rfl <| WL.v (v_pick_f rfl rfl rfl) rfl <| WL.v (v_assign rfl rfl) rfl <| WL.nt <| WC.ret <| WE.ret1 (P := Tryz.prog) (.inl rfl) Tryz.results61 rfl <| ?_
    exact fun w' h => ⟨by unfold hopB; rw [decide_eq_false (by omega)], h.frm⟩
  ·
   refine WL.v (v_move rfl rfl) rfl <| WL.sk rfl <| WL.sk rfl <| WL.v (v_pick_f rfl rfl rfl) rfl <| WL.v (v_move rfl rfl) rfl <| WL.sk rfl <| WL.sk rfl <| WL.v (v_pick_f rfl rfl rfl) rfl <| WL.v (v_assign rfl rfl) rfl <| WL.nt <| ?_
   refine WC.ret <| WE.ret1 (P := Tryz.prog) (.inl rfl) Tryz.results61 rfl <| ?_
   exact fun w' h => ⟨by unfold hopB; rw [decide_eq_false (by omega)], h.frm⟩
end Go.Proofs.YtpjbofodllhjbaaGreatDoor
/- bgp: BgpForm walked: bytes that are no message. -/
namespace Go.Proofs.YtpjbofodllhjbaaGreatDoor
open Go.RowKit

section
variable {P : Program} {ops : Array Oper} {Q : Exit → Act → World → Prop} {n : Nat} {p : Nat → Prop} {w0 : World} {o : Oper} {rest : List Oper} {l : Kn} {L : List Ent} {t kt et : Nat} {x xi : Operand} {K : Value → Prop} {A : Value} {es : Array MapEntry} {m : Value → Option Value}
end
end Go.Proofs.YtpjbofodllhjbaaGreatDoor
/- carrefourlaw07.attrs. -/
namespace Go.Proofs.YtpjbofodllhjbaaGreatDoor
open Go.RowKit

def AtL.r0 (a : AtL) (ad : Option Addr) (c : Nat) (ss : List SegL) (bd : Option Addr) (bc : Nat) (os : List OthL) : AtL := { a with pad := ad, pc := c, path := ss, oad := bd, oc := bc, others := os }
/-- The reference's routes while they are made. -/
def AtL.rc (a : AtL) (ad : Option Addr) (c n : Nat) (bd : Option Addr) (bc m : Nat) : List Value := [.int .i64 a.has, .int .i64 a.origin, .slice ad n c, .int .i64 a.hop, .int .i64 a.med, .int .i64 a.loc, .int .i64 a.aas, .int .i64 a.aid, .slice a.cad a.comms.length a.cc, .slice bd m bc]
set_option maxHeartbeats 4000000 in
theorem attrs_c (w : World) (a : AtL) (ha : a.At w) (hi : a.In) (hp : a.path.length ≤ 1000000) (ho : a.others.length ≤ 1000000) :
    Calls Tryz.prog 25 #[.agg a.cells.toArray] w fun e w' => ∃ ad c bd bc E1 E2, e = .returned (.agg (a.r0 ad c a.path bd bc a.others).rcells.toArray) ∧ Vec 2 ad a.path.length c (segsL a.path) E1 ∧ Vec 2 bd a.others.length bc (othsL a.others) E2 ∧ St (fun _ => False) w w' (E2 ++ E1) := by
  have hhop := hi.hop
  have haid := hi.aid
  unfold U32 at hhop haid
  have hlp : a.path.length ≤ 1000000 := hp
  refine enter Tryz.func25 rfl Tryz.ntmps25 rfl (St.start (fun _ => False) w) ?_
  refine WC.seq <| WC.region <| WL.box rfl rfl rfl (.none rfl) rfl rfl <| ?_
  intro g1 hg1
  refine WL.alloc rfl zero_48 (.none rfl) rfl rfl ?_
  intro g2 hg2
  refine WL.nt <| WC.seq <| WC.region <| WL.v (v_fieldAddr0 rfl rfl fld_30_0) rfl <| WL.v (v_load1 rfl rfl one_3 (cellAt rfl)) rfl <| WL.v (v_fieldAddr0 rfl rfl fld_30_1) rfl <| WL.v (v_load1 rfl rfl one_3 (cellAt rfl)) rfl <| WL.v (v_fieldAddr0 rfl rfl fld_30_3) rfl <| WL.v (v_load1 rfl rfl one_23 (cellAt rfl)) rfl <| ?_
  refine WL.v (v_conv rfl rfl Tryz.underlying3 Tryz.underlying23 (w_i64 (by omega) (by omega))) rfl ?_
  refine WL.v (v_fieldAddr0 rfl rfl fld_30_4) rfl <| WL.v (v_load1 rfl rfl one_3 (cellAt rfl)) rfl <| WL.v (v_fieldAddr0 rfl rfl fld_30_5) rfl <| WL.v (v_load1 rfl rfl one_3 (cellAt rfl)) rfl <| WL.v (v_fieldAddr0 rfl rfl fld_30_6) rfl <| WL.v (v_load1 rfl rfl one_3 (cellAt rfl)) rfl <| WL.v (v_fieldAddr0 rfl rfl fld_30_7) rfl <| WL.v (v_load1 rfl rfl one_23 (cellAt rfl)) rfl <| ?_
  refine WL.v (v_conv rfl rfl Tryz.underlying3 Tryz.underlying23 (w_i64 (by omega) (by omega))) rfl ?_
  refine WL.v (v_fieldAddr0 rfl rfl fld_30_8) rfl <| WL.v (v_load1 rfl rfl one_27 (cellAt rfl)) rfl <| WL.v (v_build rfl rfl zero_48 plc_48 rfl) rfl <| WL.alloc rfl zero_48 (.none rfl) rfl rfl <| ?_
  intro g3 hg3
  refine WL.storeW rfl rfl rfl rfl many_48 rfl rfl (.none rfl) rfl <| WL.as (L' := .row g3 (a.rc none 0 0 none 0 0) :: .row g2 AtL.zero.rcells :: .row g1 a.cells :: []) rfl <| WL.nt <| WC.seq <| WC.seq <| WC.region <| WL.v (v_fieldAddr0 rfl rfl fld_30_2) rfl <| WL.v (v_load1 rfl rfl one_26 (cellAt rfl)) rfl <| WL.v (v_len_slice rfl rfl Tryz.underlying26) rfl <| WL.v (v_move rfl rfl) rfl <| ?_
  refine WL.nt <| WC.block <| WC.loop (fun x : Nat × Option Addr × Nat × List Ent => [(30, .int .i64 x.1), (29, .int .i64 a.path.length), (28, .slice a.pad a.path.length a.pc), (3, .pointer (some ⟨g3, 0, none⟩)), (2, .pointer (some ⟨g2, 0, none⟩)), (1, .pointer (some ⟨g1, 0, none⟩))]) (fun x => x.2.2.2 ++ (.row g3 (a.rc x.2.1 x.2.2.1 x.1 none 0 0) :: .row g2 AtL.zero.rcells :: .row g1 a.cells :: [])) (fun x => x.1 ≤ a.path.length ∧ Vec 2 x.2.1 x.1 x.2.2.1 (segsL (a.path.take x.1)) x.2.2.2) (fun x => a.path.length - x.1) (0, none, 0, []) ⟨Nat.zero_le _, Vec.nil 2⟩ (.cons rfl (.cons rfl (.cons rfl (.cons rfl (.cons rfl (.cons rfl .nil)))))) (.refl _) <| ?_
  rintro ⟨k, ad, cc, E⟩ ⟨hk, hV⟩
  dsimp only at hk hV
  dsimp only
  refine WC.seq <| WC.region <| ?_
  refine WL.test (v_lss rfl rfl rfl) (.none rfl) rfl rfl (fun h31 => ?_) (fun h31 => ?_)
  ·
   refine WL.nt <| WC.seq <| WC.cond_t rfl <| WC.skip <| WE.then_n <| WC.seq <| WC.block <| WC.seq <| WC.region <| ?_
   obtain ⟨x, hx⟩ : ∃ x, a.path[k]? = some x := ⟨a.path[k]'(by omega), List.getElem?_eq_getElem _⟩
   obtain ⟨b, o, ea, hr⟩ := ha.path k x hx
   have hts := take_succ_get hx
   refine WL.v ((v_indexAddr (b := b) (off := o) (lo := k) rfl (by show some (Value.slice a.pad _ _) = _; rw [ea]) rfl Tryz.underlying26 sz_63 rfl (by omega))) rfl ?_
   refine WL.v ((v_loadN (cs := x.cells) rfl rfl many_63 rfl (rgIn (fun h => h) hr))) rfl <| WL.alloc rfl zero_63 (.none rfl) rfl rfl <| ?_
   intro g5 hg5
   refine WL.storeW rfl rfl rfl rfl many_63 rfl rfl (.none rfl) rfl <| WL.nt <| WC.region <| WL.v (v_fieldAddr0 rfl rfl fld_48_2) rfl <| WL.v (v_load1 rfl rfl one_45 (cellAt rfl)) rfl <| WL.v (v_fieldAddr0 rfl rfl fld_63_0) rfl <| WL.v (v_load1 rfl rfl one_4 (cellAt rfl)) rfl <| WL.v (v_fieldAddr0 rfl rfl fld_63_1) rfl <| WL.v (v_load1 rfl rfl one_27 (cellAt rfl)) rfl <| WL.v (v_build rfl rfl zero_96 plc_96 rfl) rfl <| ?_
   refine WL.buildSlice rfl rfl Tryz.underlying45 sz_96 zero_96 rfl (by decide) rfl (.none rfl) rfl rfl ?_
   intro g41 hg41
   refine WL.as (L' := .row g41 x.cells :: .row g5 x.cells :: (E ++ (.row g3 (a.rc ad cc k none 0 0) :: .row g2 AtL.zero.rcells :: .row g1 a.cells :: []))) rfl ?_
   refine WL.to (L' := E ++ (.row g41 x.cells :: .row g5 x.cells :: .row g3 (a.rc ad cc k none 0 0) :: .row g2 AtL.zero.rcells :: .row g1 a.cells :: [])) (fun w hS => by simpa using St.front (R := E) (L := .row g3 (a.rc ad cc k none 0 0) :: .row g2 AtL.zero.rcells :: .row g1 a.cells :: []) [.row g41 x.cells, .row g5 x.cells] hS) ?_
   refine WL.appendL rfl rfl rfl Tryz.underlying45 Tryz.underlying45 sz_96 by_96 zero_96 rfl rfl hV (new := x.cells) (fun _ => ⟨g41, 0, rfl, fun w hS => allAt (g := g41) w hS⟩) rfl rfl (by omega) (.none rfl) rfl rfl ?_
   intro ad42 c42 E42 hV42 hr42
   rw [← segsL_snoc, ← hts] at hV42
   refine WL.v (v_fieldAddr0 rfl rfl fld_48_2) rfl <| WL.store1 rfl rfl rfl rfl one_45 (Nat.le_of_ble_eq_true rfl) (.none rfl) rfl <| WL.as (L' := E42 ++ (.row g41 x.cells :: .row g5 x.cells :: .row g3 (a.rc ad42 c42 (k + 1) none 0 0) :: .row g2 AtL.zero.rcells :: .row g1 a.cells :: [])) rfl <| WL.nil <| WE.block_n <| WE.then_n <| WC.region <| ?_
   refine WL.v (v_add rfl rfl rfl (w_i64 (by omega) (by omega))) rfl ?_
   refine WL.v (v_move rfl rfl) rfl <| WL.nil <| ?_
   exact WE.next (k + 1, ad42, c42, E42) (by dsimp only; omega) ⟨by dsimp only; omega, hV42⟩ (.int rfl (by dsimp only; omega) (.cons rfl (.cons rfl (.cons rfl (.cons rfl (.cons rfl .nil)))))) (List.Sublist.append_left (.cons _ (.cons _ (.refl _))) _)
  ·
   refine WL.nt <| WC.seq <| WC.cond_f rfl <| WC.exit <| WE.then_exit <| WE.then_exit <| WE.block_hit <| WE.then_n <| WC.seq <| WC.seq <| ?_
   refine WC.region <| WL.v (v_fieldAddr0 rfl rfl fld_30_9) rfl <| ?_
   have ek : k = a.path.length := (by omega)
   rw [ek, List.take_length] at hV
   refine WL.as (L' := E ++ (.row g3 (a.rc ad cc a.path.length none 0 0) :: .row g2 AtL.zero.rcells :: .row g1 a.cells :: [])) (by rw [ek]) ?_
   refine WL.to (L' := .row g3 (a.rc ad cc a.path.length none 0 0) :: .row g2 AtL.zero.rcells :: .row g1 a.cells :: E) (fun w hS => by simpa using St.front (R := [.row g3 (a.rc ad cc a.path.length none 0 0), .row g2 AtL.zero.rcells, .row g1 a.cells]) (L := []) E (by simpa using hS)) ?_
   refine WL.v (v_load1 rfl rfl one_28 (cellAt rfl)) rfl <| WL.v (v_len_slice rfl rfl Tryz.underlying28) rfl <| WL.v (v_move rfl rfl) rfl <| WL.nt <| WC.block <| WC.loop (fun x : Nat × Option Addr × Nat × List Ent => [(48, .int .i64 x.1), (47, .int .i64 a.others.length), (46, .slice a.oad a.others.length a.oc), (3, .pointer (some ⟨g3, 0, none⟩)), (2, .pointer (some ⟨g2, 0, none⟩)), (1, .pointer (some ⟨g1, 0, none⟩))]) (fun x => x.2.2.2 ++ (.row g3 (a.rc ad cc a.path.length x.2.1 x.2.2.1 x.1) :: .row g2 AtL.zero.rcells :: .row g1 a.cells :: E)) (fun x => x.1 ≤ a.others.length ∧ Vec 2 x.2.1 x.1 x.2.2.1 (othsL (a.others.take x.1)) x.2.2.2) (fun x => a.others.length - x.1) (0, none, 0, []) ⟨Nat.zero_le _, Vec.nil 2⟩ (.cons rfl (.cons rfl (.cons rfl (.cons rfl (.cons rfl (.cons rfl .nil)))))) (.refl _) <| ?_
   rintro ⟨k2, bd, bc, F⟩ ⟨hk2, hV2⟩
   dsimp only at hk2 hV2
   dsimp only
   refine WC.seq <| WC.region <| ?_
   refine WL.test (v_lss rfl rfl rfl) (.none rfl) rfl rfl (fun h49 => ?_) (fun h49 => ?_)
   ·
    refine WL.nt <| WC.seq <| WC.cond_t rfl <| WC.skip <| WE.then_n <| WC.seq <| WC.block <| WC.seq <| WC.region <| ?_
    obtain ⟨y, hy⟩ : ∃ y, a.others[k2]? = some y := ⟨a.others[k2]'(by omega), List.getElem?_eq_getElem _⟩
    obtain ⟨b2, o2, ea2, hr2⟩ := ha.oths k2 y hy
    have hts2 := take_succ_get hy
    refine WL.v ((v_indexAddr (b := b2) (off := o2) (lo := k2) rfl (by show some (Value.slice a.oad _ _) = _; rw [ea2]) rfl Tryz.underlying28 sz_65 rfl (by omega))) rfl ?_
    refine WL.v ((v_loadN (cs := y.cells) rfl rfl many_65 rfl (rgIn (fun h => h) hr2))) rfl <| WL.alloc rfl zero_65 (.none rfl) rfl rfl <| ?_
    intro g7 hg7
    refine WL.storeW rfl rfl rfl rfl many_65 rfl rfl (.none rfl) rfl <| WL.nt <| WC.region <| WL.v (v_fieldAddr0 rfl rfl fld_48_9) rfl <| WL.v (v_load1 rfl rfl one_46 (cellAt rfl)) rfl <| WL.v (v_fieldAddr0 rfl rfl fld_65_0) rfl <| WL.v (v_load1 rfl rfl one_3 (cellAt rfl)) rfl <| WL.v (v_fieldAddr0 rfl rfl fld_65_1) rfl <| WL.v (v_load1 rfl rfl one_37 (cellAt rfl)) rfl <| WL.v (v_build rfl rfl zero_97 plc_97 rfl) rfl <| ?_
    refine WL.buildSlice rfl rfl Tryz.underlying46 sz_97 zero_97 rfl (by decide) rfl (.none rfl) rfl rfl ?_
    intro g59 hg59
    refine WL.as (L' := .row g59 y.cells :: .row g7 y.cells :: (F ++ (.row g3 (a.rc ad cc a.path.length bd bc k2) :: .row g2 AtL.zero.rcells :: .row g1 a.cells :: E))) rfl ?_
    refine WL.to (L' := F ++ (.row g59 y.cells :: .row g7 y.cells :: .row g3 (a.rc ad cc a.path.length bd bc k2) :: .row g2 AtL.zero.rcells :: .row g1 a.cells :: E)) (fun w hS => by simpa using St.front (R := F) (L := .row g3 (a.rc ad cc a.path.length bd bc k2) :: .row g2 AtL.zero.rcells :: .row g1 a.cells :: E) [.row g59 y.cells, .row g7 y.cells] hS) ?_
    refine WL.appendL rfl rfl rfl Tryz.underlying46 Tryz.underlying46 sz_97 by_97 zero_97 rfl rfl hV2 (new := y.cells) (fun _ => ⟨g59, 0, rfl, fun w hS => allAt (g := g59) w hS⟩) rfl rfl (by omega) (.none rfl) rfl rfl ?_
    intro ad60 c60 E60 hV60 hr60
    rw [← othsL_snoc, ← hts2] at hV60
    refine WL.v (v_fieldAddr0 rfl rfl fld_48_9) rfl <| WL.store1 rfl rfl rfl rfl one_46 (Nat.le_of_ble_eq_true rfl) (.none rfl) rfl <| WL.as (L' := E60 ++ (.row g59 y.cells :: .row g7 y.cells :: .row g3 (a.rc ad cc a.path.length ad60 c60 (k2 + 1)) :: .row g2 AtL.zero.rcells :: .row g1 a.cells :: E)) rfl <| WL.nil <| WE.block_n <| WE.then_n <| WC.region <| ?_
    refine WL.v (v_add rfl rfl rfl (w_i64 (by omega) (by omega))) rfl ?_
    refine WL.v (v_move rfl rfl) rfl <| WL.nil <| ?_
    exact WE.next (k2 + 1, ad60, c60, E60) (by dsimp only; omega) ⟨by dsimp only; omega, hV60⟩ (.int rfl (by dsimp only; omega) (.cons rfl (.cons rfl (.cons rfl (.cons rfl (.cons rfl .nil)))))) (List.Sublist.append_left (.cons _ (.cons _ (.refl _))) _)
   ·
    refine WL.nt <| WC.seq <| WC.cond_f rfl <| WC.exit <| WE.then_exit <| WE.then_exit <| WE.block_hit <| WE.then_n <| WC.seq <| WC.region <| ?_
    have ek2 : k2 = a.others.length := (by omega)
    rw [ek2, List.take_length] at hV2
    refine WL.as (L' := F ++ (.row g3 (a.rc ad cc a.path.length bd bc a.others.length) :: .row g2 AtL.zero.rcells :: .row g1 a.cells :: E)) (by rw [ek2]) ?_
    refine WL.v (v_loadN rfl rfl many_48 rfl allAt) rfl <| WL.storeW rfl rfl rfl rfl many_48 rfl rfl (.none rfl) rfl <| WL.nt <| WC.ret <| WE.ret1 (P := Tryz.prog) (.inl rfl) Tryz.results25 (resRow rfl many_48 rfl) <| ?_
    exact fun w' h => ⟨ad, cc, bd, bc, E, F, rfl, hV, hV2, h.sub (List.Sublist.append_left (.cons _ (.cons _ (.cons _ (.refl _)))) _)⟩
end Go.Proofs.YtpjbofodllhjbaaGreatDoor
/- carrefourlaw07.Plain: walked. -/
namespace Go.Proofs.YtpjbofodllhjbaaGreatDoor
open Go.RowKit

theorem St.permC {p : Nat → Prop} {w0 w : World} {L L' : List Ent} (hS : St p w0 w L) (h : ∀ c : Ent → List Ent → Nat, (∀ e a b l, c e (a :: b :: l) = c e (b :: l) + c e [a]) → (∀ e a l r, c e (a :: (l ++ r)) = c e (l ++ r) + c e [a]) → (∀ e l r, c e (l ++ r) = c e l + c e r) → ∀ e, c e L = c e L') : St p w0 w L' := hS.perm (by
  classical
  refine List.perm_iff_count.2 fun e => (h (fun e l => l.count e) ?_ ?_ ?_ e).symm
  · intro e a b l
    rw [List.count_cons, List.count_singleton]
  · intro e a l r
    rw [List.count_cons, List.count_singleton]
  · intro e l r
    exact List.count_append)
/-- The reference's message while it is made. -/
def MsL.rc (m : MsL) (kad : Option Addr) (kc kn : Nat) (gad : Option Addr) (gc : Nat) (pad : Option Addr) (pc : Nat) (oad : Option Addr) (oc : Nat) (nad : Option Addr) (nc : Nat) : List Value := [.int .i64 m.kind, .int .i64 m.asn, .int .i64 m.hold, .int .u32 m.id, .slice kad kn kc, .slice gad m.gone.length gc, .int .i64 m.atr.has, .int .i64 m.atr.origin, .slice pad m.atr.path.length pc, .int .i64 m.atr.hop, .int .i64 m.atr.med, .int .i64 m.atr.loc, .int .i64 m.atr.aas, .int .i64 m.atr.aid, .slice m.atr.cad m.atr.comms.length m.atr.cc, .slice oad m.atr.others.length oc, .slice nad m.nets.length nc, .int .i64 m.fc, .int .i64 m.fs, .string m.fd]
structure PlS where
  g3 : Nat
  gad : Option Addr
  gc : Nat
  EG : List Ent
  pad : Option Addr
  pc : Nat
  EP : List Ent
  oad : Option Addr
  oc : Nat
  EO : List Ent
  nad : Option Addr
  nc : Nat
  EN : List Ent
structure PlS.Good (x : PlS) (m : MsL) : Prop where
  gone : Vec 2 x.gad m.gone.length x.gc (pfsL m.gone) x.EG
  path : Vec 2 x.pad m.atr.path.length x.pc (segsL m.atr.path) x.EP
  oths : Vec 2 x.oad m.atr.others.length x.oc (othsL m.atr.others) x.EO
  nets : Vec 2 x.nad m.nets.length x.nc (pfsL m.nets) x.EN
def PlS.cells (x : PlS) (m : MsL) (kad : Option Addr) (kc kn : Nat) : List Value := m.rc kad kc kn x.gad x.gc x.pad x.pc x.oad x.oc x.nad x.nc
def PlS.K (x : PlS) : List Ent := x.EG ++ (x.EP ++ (x.EO ++ x.EN))
def PlS.m (x : PlS) (m : MsL) (kad : Option Addr) (kc : Nat) : MsL := { m with kad := kad, kc := kc, gad := x.gad, gc := x.gc, atr := m.atr.r0 x.pad x.pc m.atr.path x.oad x.oc m.atr.others, nad := x.nad, nc := x.nc }
theorem PlS.Good.at_ {x : PlS} {m : MsL} (h : x.Good m) {kad : Option Addr} {kc : Nat} {E : List Ent} (hV : Vec 2 kad m.caps.length kc (capsL m.caps) E) {w : World} (hm : m.At w) (hw : ∀ e ∈ E ++ x.K, e.holds w) : (x.m m kad kc).At w :=
  ⟨cells_of (enc := CapL.cells) hV (fun _ => rfl) (by omega) fun e he => hw e (List.mem_append_left _ he), hm.vals,
   cells_of (enc := PfL.cells) h.gone (fun _ => rfl) (by omega) fun e he => hw e (List.mem_append_right _ (List.mem_append_left _ he)),
   cells_of (enc := PfL.cells) h.nets (fun _ => rfl) (by omega) fun e he => hw e (List.mem_append_right _ (List.mem_append_right _ (List.mem_append_right _ (List.mem_append_right _ he)))),
   ⟨cells_of (enc := SegL.cells) h.path (fun _ => rfl) (by omega) fun e he => hw e (List.mem_append_right _ (List.mem_append_right _ (List.mem_append_left _ he))), hm.at_.segs, hm.at_.comms,
    cells_of (enc := OthL.cells) h.oths (fun _ => rfl) (by omega) fun e he => hw e (List.mem_append_right _ (List.mem_append_right _ (List.mem_append_right _ (List.mem_append_left _ he)))), hm.at_.vals⟩⟩
structure MsL.Few (m : MsL) : Prop where
  caps : m.caps.length ≤ 1000000
  gone : m.gone.length ≤ 1000000
  nets : m.nets.length ≤ 1000000
  path : m.atr.path.length ≤ 1000000
  oths : m.atr.others.length ≤ 1000000
theorem WL.rowAs {P : Program} {ops : Array Oper} {Q : Exit → Act → World → Prop} {n : Nat} {p : Nat → Prop} {w0 : World} {rest : List Oper} {l : Kn} {L L' : List Ent} {g : Nat} {cs cs' : List Value} [ha : At L g cs] [hp : Put L g (.row g cs') L'] (e : cs = cs')
    (h : WL P ops Q n p w0 rest l L') : WL P ops Q n p w0 rest l L := fun a w hA hS => h a w hA (by
  have hm := ha.mem
  rw [e] at hm
  obtain ⟨A, B, e', h1, h2, h3⟩ := hp.ok rfl
  rw [h2]
  have hd : (A ++ Ent.row g cs' :: B).map Ent.at = L.map Ent.at := by
    rw [h1, List.map_append, List.map_append, List.map_cons, List.map_cons, h3]
    rfl
  have hin : ∀ x ∈ A ++ Ent.row g cs' :: B, x ∈ L := fun x hx => by
    rcases List.mem_append.1 hx with hx | hx
    · rw [h1]; exact List.mem_append_left _ hx
    · rcases List.mem_cons.1 hx with rfl | hx
      · exact hm
      · rw [h1]; exact List.mem_append_right _ (List.mem_cons_of_mem _ hx)
  exact ⟨hS.frm, fun x hx => hS.holds x (hin x hx), by rw [hd]; exact hS.dist, fun x hx => hS.mine x (hin x hx)⟩)
set_option maxHeartbeats 8000000 in
theorem Plain_c (w : World) (m : MsL) (hm : m.At w) (hi : m.In) (hf : m.Few) :
    Calls Tryz.prog 8 #[.agg m.cells.toArray] w fun e w' => ∃ (m' : MsL) (K : List Ent), e = .returned (.agg m'.rcells.toArray) ∧ m'.d = m.d ∧ (∀ w2, m.At w2 → (∀ e ∈ K, e.holds w2) → m'.At w2) ∧ St (fun _ => False) w w' K := by
  have hid := hi.id
  unfold U32 at hid
  have hkl := hf.caps
  have hgl := hf.gone
  have hnl := hf.nets
  refine enter Tryz.func8 rfl Tryz.ntmps8 rfl (St.start (fun _ => False) w) ?_
  refine WC.seq <| WC.region <| WL.box rfl rfl rfl (.none rfl) rfl rfl <| ?_
  intro g1 hg1
  refine WL.alloc rfl zero_51 (.none rfl) rfl rfl ?_
  intro g2 hg2
  refine WL.nt ?_
  refine WC.cut (fun x : PlS => [(3, .pointer (some ⟨x.g3, 0, none⟩)), (2, .pointer (some ⟨g2, 0, none⟩)), (1, .pointer (some ⟨g1, 0, none⟩))]) (fun x => .row x.g3 (x.cells m none 0 0) :: .row g2 (MsL.zero 0).rcells :: (x.K ++ [.row g1 m.cells])) (fun x => x.Good m) ?_ ?_
  ·
   refine WC.held ([.row g1 m.cells]) mixed ?_
   refine WRH.first (g := 6) [0, 1, 2, 3, 4, 5, 6, 7, 8, 9, 11, 12, 14, 15, 17, 18] (by kernel_rfl) (by kernel_rfl) (fun w hS => hS.sub (by repeat (first | exact List.Sublist.refl _ | exact List.nil_sublist _ | refine List.Sublist.cons _ ?_ | refine List.sublist_append_of_sublist_right ?_))) ?_
   refine WH.val (v_fieldAddr0 rfl rfl fld_34_0) (.none rfl) rfl rfl <| WH.val (v_load1 rfl rfl one_3 (cellAt rfl)) (.none rfl) rfl rfl <| WH.val (v_fieldAddr0 rfl rfl fld_34_1) (.none rfl) rfl rfl <| WH.val (v_load1 rfl rfl one_3 (cellAt rfl)) (.none rfl) rfl rfl <| WH.val (v_fieldAddr0 rfl rfl fld_34_2) (.none rfl) rfl rfl <| WH.val (v_load1 rfl rfl one_3 (cellAt rfl)) (.none rfl) rfl rfl <| WH.val (v_fieldAddr0 rfl rfl fld_34_3) (.none rfl) rfl rfl <| WH.val (v_load1 rfl rfl one_23 (cellAt rfl)) (.none rfl) rfl rfl <| WH.val (v_fieldAddr0 rfl rfl fld_34_5) (.none rfl) rfl rfl <| WH.val (v_load1 rfl rfl one_25 (cellAt rfl)) (.none rfl) rfl rfl <| ?_
   refine WH.val (v_fieldAddr0 rfl rfl fld_34_6) (.none rfl) rfl rfl <| WH.val (v_loadN rfl rfl many_30 rfl (segAt (m := 10) rfl)) (.none rfl) rfl rfl <| WH.val (v_fieldAddr0 rfl rfl fld_34_7) (.none rfl) rfl rfl <| WH.val (v_load1 rfl rfl one_25 (cellAt rfl)) (.none rfl) rfl rfl <| WH.val (v_fieldAddr0 rfl rfl fld_34_8) (.none rfl) rfl rfl <| WH.val (v_loadN rfl rfl many_32 rfl (segAt (m := 3) rfl)) (.none rfl) rfl rfl <| WH.nil <| ?_
   refine WRH.each (g := 5) [10, 20] (by kernel_rfl) (by decide) ?_
   refine ⟨?_, ?_⟩
   ·
    refine WL.call rfl rfl ck_24 (.none rfl) rfl rfl ?_
    intro w1 hS
    refine (prefixes_c w1 m.gad m.gc m.gone ((hm.st hS).gone) (by omega)).mono ?_
    rintro e w' ⟨ad16, c16, E16, rfl, hV16, hS'⟩
    refine ⟨_, _, rfl, hS.join hS', ?_⟩
    refine WL.nilH (fun w hS => hS.sub (by repeat (first | exact List.Sublist.refl _ | exact List.nil_sublist _ | refine List.Sublist.cons _ ?_ | refine List.sublist_append_of_sublist_right ?_))) ?_
    refine WRH.each (g := 4) [13, 20] (by kernel_rfl) (by decide) ?_
    refine ⟨?_, ?_⟩
    ·
     refine WL.call rfl rfl ck_25 (.none rfl) rfl rfl ?_
     intro w1 hS
     refine (attrs_c w1 m.atr ((hm.st hS).at_) hi.at_ hf.path hf.oths).mono ?_
     rintro e w' ⟨ad19, c19, bd19, bc19, E19, F19, rfl, hV19, hW19, hS'⟩
     refine ⟨_, _, rfl, hS.join hS', ?_⟩
     refine WL.nilH (fun w hS => hS.sub (by repeat (first | exact List.Sublist.refl _ | exact List.nil_sublist _ | refine List.Sublist.cons _ ?_ | refine List.sublist_append_of_sublist_right ?_))) ?_
     refine WRH.each (g := 3) [16, 20] (by kernel_rfl) (by decide) ?_
     refine ⟨?_, ?_⟩
     ·
      refine WL.call rfl rfl ck_24 (.none rfl) rfl rfl ?_
      intro w1 hS
      refine (prefixes_c w1 m.nad m.nc m.nets ((hm.st hS).nets) (by omega)).mono ?_
      rintro e w' ⟨ad22, c22, E22, rfl, hV22, hS'⟩
      refine ⟨_, _, rfl, hS.join hS', ?_⟩
      refine WL.nilH (fun w hS => hS.sub (by repeat (first | exact List.Sublist.refl _ | exact List.nil_sublist _ | refine List.Sublist.cons _ ?_ | refine List.sublist_append_of_sublist_right ?_))) ?_
      refine WRH.first (g := 2) [19] (by kernel_rfl) (by kernel_rfl) (fun w hS => hS.sub (by repeat (first | exact List.Sublist.refl _ | exact List.nil_sublist _ | refine List.Sublist.cons _ ?_ | refine List.sublist_append_of_sublist_right ?_))) ?_
      refine WH.val (v_build rfl rfl zero_51 plc_51 rfl) (.none rfl) rfl rfl <| WH.nil <| ?_
      refine WRH.one (g := 1) 20 (by kernel_rfl) ?_
      refine WL.alloc rfl zero_51 (.none rfl) rfl rfl ?_
      intro g3 hg3
      refine WL.nilH (fun w hS => hS.sub (by repeat (first | exact List.Sublist.refl _ | exact List.nil_sublist _ | refine List.Sublist.cons _ ?_ | refine List.sublist_append_of_sublist_right ?_))) ?_
      refine WRH.one (g := 0) 21 (by kernel_rfl) ?_
      refine WL.storeW rfl rfl rfl rfl many_51 rfl rfl (.none rfl) rfl ?_
      refine WL.rowAs (g := g3) (cs' := m.rc none 0 0 ad16 c16 ad19 c19 bd19 bc19 ad22 c22) (by kernel_rfl) ?_
      refine WL.rowAs (g := g2) (cs' := (MsL.zero 0).rcells) rfl ?_
      refine WL.to (L' := .row g3 (m.rc none 0 0 ad16 c16 ad19 c19 bd19 bc19 ad22 c22) :: .row g2 (MsL.zero 0).rcells :: ((E16 ++ (E19 ++ (F19 ++ E22))) ++ [.row g1 m.cells])) (fun w hS => hS.permC (by intro c h1 h2 h3 e; simp only [h1, h2, h3]; omega)) ?_
      refine WL.nilH (fun w hS => hS.sub (by repeat (first | exact List.Sublist.refl _ | exact List.nil_sublist _ | refine List.Sublist.cons _ ?_ | refine List.sublist_append_of_sublist_right ?_))) ?_
      refine WRH.done (by kernel_rfl) ?_
      exact WE.mid ⟨g3, ad16, c16, E16, ad19, c19, E19, bd19, bc19, F19, ad22, c22, E22⟩ ⟨hV16, hV19, hW19, hV22⟩ (.cons rfl (.cons rfl (.cons rfl .nil))) (.refl _)
     ·
      refine WL.alloc rfl zero_51 (.none rfl) rfl rfl ?_
      intro g3 hg3
      refine WL.nilH (fun w hS => hS.sub (by repeat (first | exact List.Sublist.refl _ | exact List.nil_sublist _ | refine List.Sublist.cons _ ?_ | refine List.sublist_append_of_sublist_right ?_))) ?_
      refine WRH.one (g := 2) 16 (by kernel_rfl) ?_
      refine WL.call rfl rfl ck_24 (.none rfl) rfl rfl ?_
      intro w1 hS
      refine (prefixes_c w1 m.nad m.nc m.nets ((hm.st hS).nets) (by omega)).mono ?_
      rintro e w' ⟨ad22, c22, E22, rfl, hV22, hS'⟩
      refine ⟨_, _, rfl, hS.join hS', ?_⟩
      refine WL.nilH (fun w hS => hS.sub (by repeat (first | exact List.Sublist.refl _ | exact List.nil_sublist _ | refine List.Sublist.cons _ ?_ | refine List.sublist_append_of_sublist_right ?_))) ?_
      refine WRH.first (g := 1) [19] (by kernel_rfl) (by kernel_rfl) (fun w hS => hS.sub (by repeat (first | exact List.Sublist.refl _ | exact List.nil_sublist _ | refine List.Sublist.cons _ ?_ | refine List.sublist_append_of_sublist_right ?_))) ?_
      refine WH.val (v_build rfl rfl zero_51 plc_51 rfl) (.none rfl) rfl rfl <| WH.nil <| ?_
      refine WRH.one (g := 0) 21 (by kernel_rfl) ?_
      refine WL.storeW rfl rfl rfl rfl many_51 rfl rfl (.none rfl) rfl ?_
      refine WL.rowAs (g := g3) (cs' := m.rc none 0 0 ad16 c16 ad19 c19 bd19 bc19 ad22 c22) (by kernel_rfl) ?_
      refine WL.rowAs (g := g2) (cs' := (MsL.zero 0).rcells) rfl ?_
      refine WL.to (L' := .row g3 (m.rc none 0 0 ad16 c16 ad19 c19 bd19 bc19 ad22 c22) :: .row g2 (MsL.zero 0).rcells :: ((E16 ++ (E19 ++ (F19 ++ E22))) ++ [.row g1 m.cells])) (fun w hS => hS.permC (by intro c h1 h2 h3 e; simp only [h1, h2, h3]; omega)) ?_
      refine WL.nilH (fun w hS => hS.sub (by repeat (first | exact List.Sublist.refl _ | exact List.nil_sublist _ | refine List.Sublist.cons _ ?_ | refine List.sublist_append_of_sublist_right ?_))) ?_
      refine WRH.done (by kernel_rfl) ?_
      exact WE.mid ⟨g3, ad16, c16, E16, ad19, c19, E19, bd19, bc19, F19, ad22, c22, E22⟩ ⟨hV16, hV19, hW19, hV22⟩ (.cons rfl (.cons rfl (.cons rfl .nil))) (.refl _)
    ·
     refine WL.alloc rfl zero_51 (.none rfl) rfl rfl ?_
     intro g3 hg3
     refine WL.nilH (fun w hS => hS.sub (by repeat (first | exact List.Sublist.refl _ | exact List.nil_sublist _ | refine List.Sublist.cons _ ?_ | refine List.sublist_append_of_sublist_right ?_))) ?_
     refine WRH.one (g := 3) 13 (by kernel_rfl) ?_
     refine WL.call rfl rfl ck_25 (.none rfl) rfl rfl ?_
     intro w1 hS
     refine (attrs_c w1 m.atr ((hm.st hS).at_) hi.at_ hf.path hf.oths).mono ?_
     rintro e w' ⟨ad19, c19, bd19, bc19, E19, F19, rfl, hV19, hW19, hS'⟩
     refine ⟨_, _, rfl, hS.join hS', ?_⟩
     refine WL.nilH (fun w hS => hS.sub (by repeat (first | exact List.Sublist.refl _ | exact List.nil_sublist _ | refine List.Sublist.cons _ ?_ | refine List.sublist_append_of_sublist_right ?_))) ?_
     refine WRH.one (g := 2) 16 (by kernel_rfl) ?_
     refine WL.call rfl rfl ck_24 (.none rfl) rfl rfl ?_
     intro w1 hS
     refine (prefixes_c w1 m.nad m.nc m.nets ((hm.st hS).nets) (by omega)).mono ?_
     rintro e w' ⟨ad22, c22, E22, rfl, hV22, hS'⟩
     refine ⟨_, _, rfl, hS.join hS', ?_⟩
     refine WL.nilH (fun w hS => hS.sub (by repeat (first | exact List.Sublist.refl _ | exact List.nil_sublist _ | refine List.Sublist.cons _ ?_ | refine List.sublist_append_of_sublist_right ?_))) ?_
     refine WRH.first (g := 1) [19] (by kernel_rfl) (by kernel_rfl) (fun w hS => hS.sub (by repeat (first | exact List.Sublist.refl _ | exact List.nil_sublist _ | refine List.Sublist.cons _ ?_ | refine List.sublist_append_of_sublist_right ?_))) ?_
     refine WH.val (v_build rfl rfl zero_51 plc_51 rfl) (.none rfl) rfl rfl <| WH.nil <| ?_
     refine WRH.one (g := 0) 21 (by kernel_rfl) ?_
     refine WL.storeW rfl rfl rfl rfl many_51 rfl rfl (.none rfl) rfl ?_
     refine WL.rowAs (g := g3) (cs' := m.rc none 0 0 ad16 c16 ad19 c19 bd19 bc19 ad22 c22) (by kernel_rfl) ?_
     refine WL.rowAs (g := g2) (cs' := (MsL.zero 0).rcells) rfl ?_
     refine WL.to (L' := .row g3 (m.rc none 0 0 ad16 c16 ad19 c19 bd19 bc19 ad22 c22) :: .row g2 (MsL.zero 0).rcells :: ((E16 ++ (E19 ++ (F19 ++ E22))) ++ [.row g1 m.cells])) (fun w hS => hS.permC (by intro c h1 h2 h3 e; simp only [h1, h2, h3]; omega)) ?_
     refine WL.nilH (fun w hS => hS.sub (by repeat (first | exact List.Sublist.refl _ | exact List.nil_sublist _ | refine List.Sublist.cons _ ?_ | refine List.sublist_append_of_sublist_right ?_))) ?_
     refine WRH.done (by kernel_rfl) ?_
     exact WE.mid ⟨g3, ad16, c16, E16, ad19, c19, E19, bd19, bc19, F19, ad22, c22, E22⟩ ⟨hV16, hV19, hW19, hV22⟩ (.cons rfl (.cons rfl (.cons rfl .nil))) (.refl _)
   ·
    refine WL.alloc rfl zero_51 (.none rfl) rfl rfl ?_
    intro g3 hg3
    refine WL.nilH (fun w hS => hS.sub (by repeat (first | exact List.Sublist.refl _ | exact List.nil_sublist _ | refine List.Sublist.cons _ ?_ | refine List.sublist_append_of_sublist_right ?_))) ?_
    refine WRH.one (g := 4) 10 (by kernel_rfl) ?_
    refine WL.call rfl rfl ck_24 (.none rfl) rfl rfl ?_
    intro w1 hS
    refine (prefixes_c w1 m.gad m.gc m.gone ((hm.st hS).gone) (by omega)).mono ?_
    rintro e w' ⟨ad16, c16, E16, rfl, hV16, hS'⟩
    refine ⟨_, _, rfl, hS.join hS', ?_⟩
    refine WL.nilH (fun w hS => hS.sub (by repeat (first | exact List.Sublist.refl _ | exact List.nil_sublist _ | refine List.Sublist.cons _ ?_ | refine List.sublist_append_of_sublist_right ?_))) ?_
    refine WRH.one (g := 3) 13 (by kernel_rfl) ?_
    refine WL.call rfl rfl ck_25 (.none rfl) rfl rfl ?_
    intro w1 hS
    refine (attrs_c w1 m.atr ((hm.st hS).at_) hi.at_ hf.path hf.oths).mono ?_
    rintro e w' ⟨ad19, c19, bd19, bc19, E19, F19, rfl, hV19, hW19, hS'⟩
    refine ⟨_, _, rfl, hS.join hS', ?_⟩
    refine WL.nilH (fun w hS => hS.sub (by repeat (first | exact List.Sublist.refl _ | exact List.nil_sublist _ | refine List.Sublist.cons _ ?_ | refine List.sublist_append_of_sublist_right ?_))) ?_
    refine WRH.one (g := 2) 16 (by kernel_rfl) ?_
    refine WL.call rfl rfl ck_24 (.none rfl) rfl rfl ?_
    intro w1 hS
    refine (prefixes_c w1 m.nad m.nc m.nets ((hm.st hS).nets) (by omega)).mono ?_
    rintro e w' ⟨ad22, c22, E22, rfl, hV22, hS'⟩
    refine ⟨_, _, rfl, hS.join hS', ?_⟩
    refine WL.nilH (fun w hS => hS.sub (by repeat (first | exact List.Sublist.refl _ | exact List.nil_sublist _ | refine List.Sublist.cons _ ?_ | refine List.sublist_append_of_sublist_right ?_))) ?_
    refine WRH.first (g := 1) [19] (by kernel_rfl) (by kernel_rfl) (fun w hS => hS.sub (by repeat (first | exact List.Sublist.refl _ | exact List.nil_sublist _ | refine List.Sublist.cons _ ?_ | refine List.sublist_append_of_sublist_right ?_))) ?_
    refine WH.val (v_build rfl rfl zero_51 plc_51 rfl) (.none rfl) rfl rfl <| WH.nil <| ?_
    refine WRH.one (g := 0) 21 (by kernel_rfl) ?_
    refine WL.storeW rfl rfl rfl rfl many_51 rfl rfl (.none rfl) rfl ?_
    refine WL.rowAs (g := g3) (cs' := m.rc none 0 0 ad16 c16 ad19 c19 bd19 bc19 ad22 c22) (by kernel_rfl) ?_
    refine WL.rowAs (g := g2) (cs' := (MsL.zero 0).rcells) rfl ?_
    refine WL.to (L' := .row g3 (m.rc none 0 0 ad16 c16 ad19 c19 bd19 bc19 ad22 c22) :: .row g2 (MsL.zero 0).rcells :: ((E16 ++ (E19 ++ (F19 ++ E22))) ++ [.row g1 m.cells])) (fun w hS => hS.permC (by intro c h1 h2 h3 e; simp only [h1, h2, h3]; omega)) ?_
    refine WL.nilH (fun w hS => hS.sub (by repeat (first | exact List.Sublist.refl _ | exact List.nil_sublist _ | refine List.Sublist.cons _ ?_ | refine List.sublist_append_of_sublist_right ?_))) ?_
    refine WRH.done (by kernel_rfl) ?_
    exact WE.mid ⟨g3, ad16, c16, E16, ad19, c19, E19, bd19, bc19, F19, ad22, c22, E22⟩ ⟨hV16, hV19, hW19, hV22⟩ (.cons rfl (.cons rfl (.cons rfl .nil))) (.refl _)
  ·
   intro y hy
   refine WC.seq <| WC.seq <| WC.region <| WL.v (v_fieldAddr0 rfl rfl fld_34_4) rfl <| WL.v (v_load1 rfl rfl one_24 (cellAt rfl)) rfl <| WL.v (v_len_slice rfl rfl Tryz.underlying24) rfl <| WL.v (v_move rfl rfl) rfl <| WL.nt <| WC.block <| WC.loop (fun x : Nat × Option Addr × Nat × List Ent => [(29, .int .i64 x.1), (28, .int .i64 m.caps.length), (27, .slice m.kad m.caps.length m.kc), (3, .pointer (some ⟨y.g3, 0, none⟩)), (2, .pointer (some ⟨g2, 0, none⟩)), (1, .pointer (some ⟨g1, 0, none⟩))]) (fun x => x.2.2.2 ++ (.row y.g3 (y.cells m x.2.1 x.2.2.1 x.1) :: .row g2 (MsL.zero 0).rcells :: (y.K ++ [.row g1 m.cells]))) (fun x => x.1 ≤ m.caps.length ∧ Vec 2 x.2.1 x.1 x.2.2.1 (capsL (m.caps.take x.1)) x.2.2.2) (fun x => m.caps.length - x.1) (0, none, 0, []) ⟨Nat.zero_le _, Vec.nil 2⟩ (.cons rfl (.cons rfl (.cons rfl (.cons rfl (.cons rfl (.cons rfl .nil)))))) (.refl _) <| ?_
   rintro ⟨k, ad, cc, E⟩ ⟨hk, hV⟩
   dsimp only at hk hV
   dsimp only
   refine WC.seq <| WC.region <| ?_
   refine WL.test (v_lss rfl rfl rfl) (.none rfl) rfl rfl (fun h30 => ?_) (fun h30 => ?_)
   ·
    refine WL.nt <| WC.seq <| WC.cond_t rfl <| WC.skip <| WE.then_n <| WC.seq <| WC.block <| WC.seq <| WC.region <| ?_
    obtain ⟨x, hx⟩ : ∃ x, m.caps[k]? = some x := ⟨m.caps[k]'(by omega), List.getElem?_eq_getElem _⟩
    obtain ⟨b, o, ea, hr⟩ := hm.caps k x hx
    have hts := take_succ_get hx
    refine WL.v ((v_indexAddr (b := b) (off := o) (lo := k) rfl (by show some (Value.slice m.kad _ _) = _; rw [ea]) rfl Tryz.underlying24 sz_61 rfl (by omega))) rfl ?_
    refine WL.v ((v_loadN (cs := x.cells) rfl rfl many_61 rfl (rgIn (fun h => h) hr))) rfl <| WL.alloc rfl zero_61 (.none rfl) rfl rfl <| ?_
    intro g5 hg5
    refine WL.storeW rfl rfl rfl rfl many_61 rfl rfl (.none rfl) rfl <| WL.nt <| WC.region <| WL.v (v_fieldAddr0 rfl rfl fld_51_4) rfl <| WL.v (v_load1 rfl rfl one_43 (cellAt rfl)) rfl <| WL.v (v_fieldAddr0 rfl rfl fld_61_0) rfl <| WL.v (v_load1 rfl rfl one_3 (cellAt rfl)) rfl <| WL.v (v_fieldAddr0 rfl rfl fld_61_1) rfl <| WL.v (v_load1 rfl rfl one_37 (cellAt rfl)) rfl <| WL.v (v_build rfl rfl zero_68 plc_68 rfl) rfl <| ?_
    refine WL.buildSlice rfl rfl Tryz.underlying43 sz_68 zero_68 rfl (by decide) rfl (.none rfl) rfl rfl ?_
    intro g40 hg40
    refine WL.as (L' := .row g40 x.cells :: .row g5 x.cells :: (E ++ (.row y.g3 (y.cells m ad cc k) :: .row g2 (MsL.zero 0).rcells :: (y.K ++ [.row g1 m.cells])))) rfl ?_
    refine WL.to (L' := E ++ (.row g40 x.cells :: .row g5 x.cells :: .row y.g3 (y.cells m ad cc k) :: .row g2 (MsL.zero 0).rcells :: (y.K ++ [.row g1 m.cells]))) (fun w hS => by simpa using St.front (R := E) (L := .row y.g3 (y.cells m ad cc k) :: .row g2 (MsL.zero 0).rcells :: (y.K ++ [.row g1 m.cells])) [.row g40 x.cells, .row g5 x.cells] hS) ?_
    refine WL.appendL rfl rfl rfl Tryz.underlying43 Tryz.underlying43 sz_68 by_68 zero_68 rfl rfl hV (new := x.cells) (fun _ => ⟨g40, 0, rfl, fun w hS => allAt (g := g40) w hS⟩) rfl rfl (by omega) (.none rfl) rfl rfl ?_
    intro ad41 c41 E41 hV41 hr41
    rw [← capsL_snoc, ← hts] at hV41
    refine WL.v (v_fieldAddr0 rfl rfl fld_51_4) rfl <| WL.store1 rfl rfl rfl rfl one_43 (Nat.le_of_ble_eq_true rfl) (.none rfl) rfl <| WL.as (L' := E41 ++ (.row g40 x.cells :: .row g5 x.cells :: .row y.g3 (y.cells m ad41 c41 (k + 1)) :: .row g2 (MsL.zero 0).rcells :: (y.K ++ [.row g1 m.cells]))) rfl <| WL.nil <| WE.block_n <| WE.then_n <| WC.region <| ?_
    refine WL.v (v_add rfl rfl rfl (w_i64 (by omega) (by omega))) rfl ?_
    refine WL.v (v_move rfl rfl) rfl <| WL.nil <| ?_
    exact WE.next (k + 1, ad41, c41, E41) (by dsimp only; omega) ⟨by dsimp only; omega, hV41⟩ (.int rfl (by dsimp only; omega) (.cons rfl (.cons rfl (.cons rfl (.cons rfl (.cons rfl .nil)))))) (List.Sublist.append_left (.cons _ (.cons _ (.refl _))) _)
   ·
    refine WL.nt <| WC.seq <| WC.cond_f rfl <| WC.exit <| WE.then_exit <| WE.then_exit <| WE.block_hit <| WE.then_n <| WC.seq <| WC.region <| ?_
    have ek : k = m.caps.length := (by omega)
    rw [ek, List.take_length] at hV
    refine WL.as (L' := E ++ (.row y.g3 (y.cells m ad cc m.caps.length) :: .row g2 (MsL.zero 0).rcells :: (y.K ++ [.row g1 m.cells]))) (by rw [ek]) ?_
    refine WL.v (v_loadN rfl rfl many_51 rfl (segAt (m := 20) rfl)) rfl <| WL.storeW rfl rfl rfl rfl many_51 rfl rfl (.none rfl) rfl <| WL.nt <| WC.ret <| WE.ret1 (P := Tryz.prog) (.inl rfl) Tryz.results8 (resRow rfl many_51 rfl) <| ?_
    exact fun w' h => ⟨y.m m ad cc, E ++ y.K, rfl, rfl, fun w2 h1 h2 => hy.at_ hV h1 h2, h.sub (List.Sublist.append_left (.cons _ (.cons _ (List.sublist_append_left _ _))) _)⟩
end Go.Proofs.YtpjbofodllhjbaaGreatDoor
/- carrefourref06.list and Same, carrefourref07.same and Same: what says the same is the same. -/
namespace Go.Proofs.YtpjbofodllhjbaaGreatDoor
open Go.RowKit

theorem rgOne {w : World} {b o k : Nat} {cs : List Value} {v : Value} (h : w.rangeAt b o cs) (hk : cs[k]? = some v) : w.cell? ⟨b, o + k * 1, none⟩ = some v := by rw [Nat.mul_one]; exact h k v hk
theorem list_c (w : World) (a b : Option Addr) (ca cb : Nat) (xs ys : List Int) (e : xs = ys) (h1 : CellsAt w a (i64s xs)) (h2 : CellsAt w b (i64s ys)) (hn : xs.length ≤ 9223372036854775807) :
    Calls Tryz.prog 51 #[.slice a xs.length ca, .slice b ys.length cb] w fun e w' => e = .returned (.bool true) ∧ Frm (fun _ => False) w w' := by
  subst e
  refine enter Tryz.func51 rfl Tryz.ntmps51 rfl (St.start (fun _ => False) w) ?_
  refine WC.seq <| WC.region <| WL.v (v_assign rfl rfl) rfl <| WL.nt <| WC.seq <| WC.seq <| WC.region <| WL.v (v_move rfl rfl) rfl <| WL.v (v_len_slice rfl rfl Tryz.underlying27) rfl <| WL.v (v_move rfl rfl) rfl <| ?_
  refine WL.v (v_len_slice rfl rfl Tryz.underlying27) rfl ?_
  refine WL.v ((v_neq rfl rfl rfl).f (by omega)) rfl ?_
  refine WL.nt <| WC.cond_f rfl <| WC.skip <| WE.then_n <| WC.seq <| WC.seq <| WC.region <| WL.v (v_move rfl rfl) rfl <| WL.v (v_len_slice rfl rfl Tryz.underlying27) rfl <| WL.v (v_move rfl rfl) rfl <| ?_
  refine WL.nt <| WC.block <| WC.loop (fun k : Nat => [(13, .int .i64 k), (12, .int .i64 xs.length), (1, .slice b xs.length cb), (0, .slice a xs.length ca)]) (fun _ => []) (fun k => k ≤ xs.length) (fun k => xs.length - k) 0 (Nat.zero_le _) (.cons rfl (.cons rfl (.cons rfl (.cons rfl .nil)))) (.refl _) <| ?_
  intro k hk
  refine WC.seq <| WC.region <| ?_
  refine WL.test (v_lss rfl rfl rfl) (.none rfl) rfl rfl (fun h14 => ?_) (fun h14 => ?_)
  ·
   refine WL.nt <| WC.seq <| WC.cond_t rfl <| WC.skip <| WE.then_n <| WC.seq <| WC.block <| WC.seq <| WC.region <| WL.v (v_move rfl rfl) rfl <| ?_
   refine WL.v (v_assign rfl rfl) rfl <| WL.nt <| WC.seq <| ?_
   refine WC.quiet mixed (by kernel_rfl) ?_
   obtain ⟨x, hx⟩ : ∃ x, xs[k]? = some x := ⟨xs[k]'(by omega), List.getElem?_eq_getElem _⟩
   obtain ⟨b1, o1, e1, r1⟩ := h1 (by rw [i64s_len]; omega)
   obtain ⟨b2, o2, e2, r2⟩ := h2 (by rw [i64s_len]; omega)
   refine WQ.val (v_move rfl rfl) (.none rfl) rfl rfl <| WQ.val (v_move rfl rfl) (.none rfl) rfl rfl <| ?_
   refine WQ.val ((v_indexAddr (b := b1) (off := o1) (lo := k) rfl (by show some (Value.slice a _ _) = _; rw [e1]) rfl Tryz.underlying27 sz_3 rfl (by omega))) (.none rfl) rfl rfl ?_
   refine WQ.val (v_load1 rfl rfl one_3 (cellOld (fun h => h) (rgOne r1 (i64s_get hx)))) (.none rfl) rfl rfl <| WQ.val (v_move rfl rfl) (.none rfl) rfl rfl <| WQ.val (v_move rfl rfl) (.none rfl) rfl rfl <| ?_
   refine WQ.val ((v_indexAddr (b := b2) (off := o2) (lo := k) rfl (by show some (Value.slice b _ _) = _; rw [e2]) rfl Tryz.underlying27 sz_3 rfl (by omega))) (.none rfl) rfl rfl ?_
   refine WQ.val (v_load1 rfl rfl one_3 (cellOld (fun h => h) (rgOne r2 (i64s_get hx)))) (.none rfl) rfl rfl ?_
   refine WQ.val ((v_neq rfl rfl rfl).f (by omega)) (.none rfl) rfl rfl ?_
   refine WQ.nil <| WE.then_n <| WC.cond_f rfl <| WC.skip <| WE.block_n <| WE.then_n <| WC.region <| ?_
   refine WL.v (v_add rfl rfl rfl (w_i64 (by omega) (by omega))) rfl ?_
   refine WL.v (v_move rfl rfl) rfl <| WL.nil <| ?_
   exact WE.next (k + 1) (by omega) (by omega) (.int rfl (by omega) (.cons rfl (.cons rfl (.cons rfl .nil)))) (.refl _)
  ·
   refine WL.nt <| WC.seq <| WC.cond_f rfl <| WC.exit <| WE.then_exit <| WE.then_exit <| WE.block_hit <| WE.then_n <| WC.seq <| WC.region <| ?_
   refine WL.v (v_assign rfl rfl) rfl <| WL.nt <| WC.ret <| WE.ret1 (P := Tryz.prog) (.inl rfl) Tryz.results51 rfl <| ?_
   exact fun w' h => ⟨rfl, h.frm⟩
theorem same_c (w : World) (a b : Option Addr) (ca cb : Nat) (xs ys : List PfL) (e : xs = ys) (h1 : RowsAt w a 2 PfL.cells xs) (h2 : RowsAt w b 2 PfL.cells ys) (hn : xs.length ≤ 1000000) :
    Calls Tryz.prog 31 #[.slice a xs.length ca, .slice b ys.length cb] w fun e w' => e = .returned (.bool true) ∧ Frm (fun _ => False) w w' := by
  subst e
  refine enter Tryz.func31 rfl Tryz.ntmps31 rfl (St.start (fun _ => False) w) ?_
  refine WC.seq <| WC.region <| WL.v (v_assign rfl rfl) rfl <| WL.nt <| WC.seq <| WC.seq <| WC.region <| WL.v (v_move rfl rfl) rfl <| WL.v (v_len_slice rfl rfl Tryz.underlying44) rfl <| WL.v (v_move rfl rfl) rfl <| ?_
  refine WL.v (v_len_slice rfl rfl Tryz.underlying44) rfl ?_
  refine WL.v ((v_neq rfl rfl rfl).f (by omega)) rfl ?_
  refine WL.nt <| WC.cond_f rfl <| WC.skip <| WE.then_n <| WC.seq <| WC.seq <| WC.region <| WL.v (v_move rfl rfl) rfl <| WL.v (v_len_slice rfl rfl Tryz.underlying44) rfl <| WL.v (v_move rfl rfl) rfl <| ?_
  refine WL.nt <| WC.block <| WC.loop (fun k : Nat => [(13, .int .i64 k), (12, .int .i64 xs.length), (1, .slice b xs.length cb), (0, .slice a xs.length ca)]) (fun _ => []) (fun k => k ≤ xs.length) (fun k => xs.length - k) 0 (Nat.zero_le _) (.cons rfl (.cons rfl (.cons rfl (.cons rfl .nil)))) (.refl _) <| ?_
  intro k hk
  refine WC.seq <| WC.region <| ?_
  refine WL.test (v_lss rfl rfl rfl) (.none rfl) rfl rfl (fun h14 => ?_) (fun h14 => ?_)
  ·
   refine WL.nt <| WC.seq <| WC.cond_t rfl <| WC.skip <| WE.then_n <| WC.seq <| WC.block <| WC.seq <| WC.region <| WL.v (v_move rfl rfl) rfl <| ?_
   refine WL.v (v_assign rfl rfl) rfl <| WL.nt <| WC.seq <| ?_
   refine WC.quiet mixed (by kernel_rfl) ?_
   obtain ⟨x, hx⟩ : ∃ x, xs[k]? = some x := ⟨xs[k]'(by omega), List.getElem?_eq_getElem _⟩
   obtain ⟨b1, o1, e1, r1⟩ := h1 k x hx
   obtain ⟨b2, o2, e2, r2⟩ := h2 k x hx
   refine WQ.val (v_move rfl rfl) (.none rfl) rfl rfl <| WQ.val (v_move rfl rfl) (.none rfl) rfl rfl <| ?_
   refine WQ.val ((v_indexAddr (b := b1) (off := o1) (lo := k) rfl (by show some (Value.slice a _ _) = _; rw [e1]) rfl Tryz.underlying44 sz_71 rfl (by omega))) (.none rfl) rfl rfl ?_
   refine WQ.val ((v_loadN (cs := x.cells) rfl rfl many_71 rfl (rgIn (fun h => h) r1))) (.none rfl) rfl rfl <| WQ.val (v_move rfl rfl) (.none rfl) rfl rfl <| WQ.val (v_move rfl rfl) (.none rfl) rfl rfl <| ?_
   refine WQ.val ((v_indexAddr (b := b2) (off := o2) (lo := k) rfl (by show some (Value.slice b _ _) = _; rw [e2]) rfl Tryz.underlying44 sz_71 rfl (by omega))) (.none rfl) rfl rfl ?_
   refine WQ.val ((v_loadN (cs := x.cells) rfl rfl many_71 rfl (rgIn (fun h => h) r2))) (.none rfl) rfl rfl ?_
   refine WQ.val (v_neq_aggF rfl rfl rfl eqk_71 eqg_71 rfl rfl (by rfl)) (.none rfl) rfl rfl ?_
   refine WQ.nil <| WE.then_n <| WC.cond_f rfl <| WC.skip <| WE.block_n <| WE.then_n <| WC.region <| ?_
   refine WL.v (v_add rfl rfl rfl (w_i64 (by omega) (by omega))) rfl ?_
   refine WL.v (v_move rfl rfl) rfl <| WL.nil <| ?_
   exact WE.next (k + 1) (by omega) (by omega) (.int rfl (by omega) (.cons rfl (.cons rfl (.cons rfl .nil)))) (.refl _)
  ·
   refine WL.nt <| WC.seq <| WC.cond_f rfl <| WC.exit <| WE.then_exit <| WE.then_exit <| WE.block_hit <| WE.then_n <| WC.seq <| WC.region <| ?_
   refine WL.v (v_assign rfl rfl) rfl <| WL.nt <| WC.ret <| WE.ret1 (P := Tryz.prog) (.inl rfl) Tryz.results31 rfl <| ?_
   exact fun w' h => ⟨rfl, h.frm⟩
end Go.Proofs.YtpjbofodllhjbaaGreatDoor
/- carrefourref06.Same, carrefourref07.Same: what says the same is the same. -/
namespace Go.Proofs.YtpjbofodllhjbaaGreatDoor
open Go.RowKit

theorem map_get_eq {α β : Type} {f : α → β} {xs ys : List α} (h : xs.map f = ys.map f) {k : Nat} {x : α} (hx : xs[k]? = some x) : ∃ y, ys[k]? = some y ∧ f x = f y := by
  have e : (xs.map f)[k]? = (ys.map f)[k]? := by rw [h]
  rw [List.getElem?_map, List.getElem?_map, hx] at e
  cases hy : ys[k]? with
  | none => rw [hy] at e; cases e
  | some y => rw [hy] at e; exact ⟨y, rfl, Option.some.inj e⟩
theorem map_len_eq {α β : Type} {f : α → β} {xs ys : List α} (h : xs.map f = ys.map f) : xs.length = ys.length := by
  have e := congrArg List.length h
  rwa [List.length_map, List.length_map] at e
theorem rdVal {w w' : World} {L : List Ent} {ad : Option Addr} {xs : List Int} (h : CellsAt w ad (u8s xs)) (hS : St (fun _ => False) w w' L) : RdO w' ad xs.length (fOf xs) := fun hn => by
  obtain ⟨b, o, e, hr⟩ := h (by rw [u8s_len]; exact hn)
  exact ⟨b, o, e, rd_u8s (hS.rng (fun _ h => h) _ _ _ hr)⟩
set_option maxHeartbeats 4000000 in
theorem RSame06_c (w : World) (A B : AtL) (hA : A.At w) (hB : B.At w) (he : A.d = B.d) (hI : A.In) (hp : A.path.length ≤ 1000000) (ho : A.others.length ≤ 1000000) :
    Calls Tryz.prog 32 #[.agg A.rcells.toArray, .agg B.rcells.toArray] w fun e w' => e = .returned (.bool true) ∧ Frm (fun _ => False) w w' := by
  have e1 : A.has = B.has := congrArg AtD.has he
  have e2 : A.origin = B.origin := congrArg AtD.origin he
  have e3 : A.hop = B.hop := congrArg AtD.hop he
  have e4 : A.med = B.med := congrArg AtD.med he
  have e5 : A.loc = B.loc := congrArg AtD.loc he
  have e6 : A.aas = B.aas := congrArg AtD.aas he
  have e7 : A.aid = B.aid := congrArg AtD.aid he
  have e8 : A.comms = B.comms := congrArg AtD.comms he
  have e9 : A.path.map segD = B.path.map segD := congrArg AtD.path he
  have e10 : A.others.map othD = B.others.map othD := congrArg AtD.others he
  have l9 := map_len_eq e9
  have l10 := map_len_eq e10
  refine enter Tryz.func32 rfl Tryz.ntmps32 rfl (St.start (fun _ => False) w) ?_
  refine WC.seq <| WC.region <| WL.box rfl rfl rfl (.none rfl) rfl rfl <| ?_
  intro g2 hg2
  refine WL.box rfl rfl rfl (.none rfl) rfl rfl ?_
  intro g3 hg3
  refine WL.v (v_assign rfl rfl) rfl <| WL.nt <| WC.seq <| WC.seq <| WC.region <| WL.v (v_fieldAddr0 rfl rfl fld_48_0) rfl <| WL.v (v_load1 rfl rfl one_3 (cellAt rfl)) rfl <| WL.v (v_fieldAddr0 rfl rfl fld_48_0) rfl <| WL.v (v_load1 rfl rfl one_3 (cellAt rfl)) rfl <| ?_
  refine WL.v ((v_neq rfl rfl rfl).f (by omega)) rfl ?_
  refine WL.v (v_move rfl rfl) rfl <| WL.val (v_fieldAddr0 rfl rfl fld_48_1) (.some rfl rfl rfl) rfl rfl <| WL.val (v_load1 rfl rfl one_3 (cellAt rfl)) (.some rfl rfl rfl) rfl rfl <| WL.val (v_fieldAddr0 rfl rfl fld_48_1) (.some rfl rfl rfl) rfl rfl <| WL.val (v_load1 rfl rfl one_3 (cellAt rfl)) (.some rfl rfl rfl) rfl rfl <| ?_
  refine WL.val ((v_neq rfl rfl rfl).f (by omega)) (.some rfl rfl rfl) rfl rfl ?_
  refine WL.v (v_pick_f rfl rfl rfl) rfl <| WL.v (v_move rfl rfl) rfl <| WL.val (v_fieldAddr0 rfl rfl fld_48_3) (.some rfl rfl rfl) rfl rfl <| WL.val (v_load1 rfl rfl one_3 (cellAt rfl)) (.some rfl rfl rfl) rfl rfl <| WL.val (v_fieldAddr0 rfl rfl fld_48_3) (.some rfl rfl rfl) rfl rfl <| WL.val (v_load1 rfl rfl one_3 (cellAt rfl)) (.some rfl rfl rfl) rfl rfl <| ?_
  refine WL.val ((v_neq rfl rfl rfl).f (by omega)) (.some rfl rfl rfl) rfl rfl ?_
  refine WL.v (v_pick_f rfl rfl rfl) rfl <| WL.v (v_move rfl rfl) rfl <| WL.val (v_fieldAddr0 rfl rfl fld_48_4) (.some rfl rfl rfl) rfl rfl <| WL.val (v_load1 rfl rfl one_3 (cellAt rfl)) (.some rfl rfl rfl) rfl rfl <| WL.val (v_fieldAddr0 rfl rfl fld_48_4) (.some rfl rfl rfl) rfl rfl <| WL.val (v_load1 rfl rfl one_3 (cellAt rfl)) (.some rfl rfl rfl) rfl rfl <| ?_
  refine WL.val ((v_neq rfl rfl rfl).f (by omega)) (.some rfl rfl rfl) rfl rfl ?_
  refine WL.v (v_pick_f rfl rfl rfl) rfl <| WL.v (v_move rfl rfl) rfl <| WL.val (v_fieldAddr0 rfl rfl fld_48_5) (.some rfl rfl rfl) rfl rfl <| WL.val (v_load1 rfl rfl one_3 (cellAt rfl)) (.some rfl rfl rfl) rfl rfl <| WL.val (v_fieldAddr0 rfl rfl fld_48_5) (.some rfl rfl rfl) rfl rfl <| WL.val (v_load1 rfl rfl one_3 (cellAt rfl)) (.some rfl rfl rfl) rfl rfl <| ?_
  refine WL.val ((v_neq rfl rfl rfl).f (by omega)) (.some rfl rfl rfl) rfl rfl ?_
  refine WL.v (v_pick_f rfl rfl rfl) rfl <| WL.v (v_move rfl rfl) rfl <| WL.val (v_fieldAddr0 rfl rfl fld_48_6) (.some rfl rfl rfl) rfl rfl <| WL.val (v_load1 rfl rfl one_3 (cellAt rfl)) (.some rfl rfl rfl) rfl rfl <| WL.val (v_fieldAddr0 rfl rfl fld_48_6) (.some rfl rfl rfl) rfl rfl <| WL.val (v_load1 rfl rfl one_3 (cellAt rfl)) (.some rfl rfl rfl) rfl rfl <| ?_
  refine WL.val ((v_neq rfl rfl rfl).f (by omega)) (.some rfl rfl rfl) rfl rfl ?_
  refine WL.v (v_pick_f rfl rfl rfl) rfl <| WL.v (v_move rfl rfl) rfl <| WL.val (v_fieldAddr0 rfl rfl fld_48_7) (.some rfl rfl rfl) rfl rfl <| WL.val (v_load1 rfl rfl one_3 (cellAt rfl)) (.some rfl rfl rfl) rfl rfl <| WL.val (v_fieldAddr0 rfl rfl fld_48_7) (.some rfl rfl rfl) rfl rfl <| WL.val (v_load1 rfl rfl one_3 (cellAt rfl)) (.some rfl rfl rfl) rfl rfl <| ?_
  refine WL.val ((v_neq rfl rfl rfl).f (by omega)) (.some rfl rfl rfl) rfl rfl ?_
  refine WL.v (v_pick_f rfl rfl rfl) rfl <| WL.v (v_move rfl rfl) rfl <| WL.val (v_fieldAddr0 rfl rfl fld_48_8) (.some rfl rfl rfl) rfl rfl <| WL.val (v_load1 rfl rfl one_27 (cellAt rfl)) (.some rfl rfl rfl) rfl rfl <| WL.val (v_fieldAddr0 rfl rfl fld_48_8) (.some rfl rfl rfl) rfl rfl <| WL.val (v_load1 rfl rfl one_27 (cellAt rfl)) (.some rfl rfl rfl) rfl rfl <| WL.call rfl rfl ck_51 (.some rfl rfl rfl) rfl rfl <| ?_
  intro w hS
  refine Calls.then (list_c _ A.cad B.cad A.cc B.cc A.comms B.comms e8 ((hA.st hS).comms) ((hB.st hS).comms) hI.lens.2.1) hS ?_
  refine WL.val (v_not rfl rfl rfl) (.some rfl rfl rfl) rfl rfl <| WL.v (v_pick_f rfl rfl rfl) rfl <| WL.v (v_move rfl rfl) rfl <| WL.val (v_fieldAddr0 rfl rfl fld_48_2) (.some rfl rfl rfl) rfl rfl <| WL.val (v_load1 rfl rfl one_45 (cellAt rfl)) (.some rfl rfl rfl) rfl rfl <| WL.val (v_len_slice rfl rfl Tryz.underlying45) (.some rfl rfl rfl) rfl rfl <| WL.val (v_fieldAddr0 rfl rfl fld_48_2) (.some rfl rfl rfl) rfl rfl <| WL.val (v_load1 rfl rfl one_45 (cellAt rfl)) (.some rfl rfl rfl) rfl rfl <| WL.val (v_len_slice rfl rfl Tryz.underlying45) (.some rfl rfl rfl) rfl rfl <| ?_
  refine WL.val ((v_neq rfl rfl rfl).f (by omega)) (.some rfl rfl rfl) rfl rfl ?_
  refine WL.v (v_pick_f rfl rfl rfl) rfl <| WL.v (v_move rfl rfl) rfl <| WL.val (v_fieldAddr0 rfl rfl fld_48_9) (.some rfl rfl rfl) rfl rfl <| WL.val (v_load1 rfl rfl one_46 (cellAt rfl)) (.some rfl rfl rfl) rfl rfl <| WL.val (v_len_slice rfl rfl Tryz.underlying46) (.some rfl rfl rfl) rfl rfl <| WL.val (v_fieldAddr0 rfl rfl fld_48_9) (.some rfl rfl rfl) rfl rfl <| WL.val (v_load1 rfl rfl one_46 (cellAt rfl)) (.some rfl rfl rfl) rfl rfl <| WL.val (v_len_slice rfl rfl Tryz.underlying46) (.some rfl rfl rfl) rfl rfl <| ?_
  refine WL.val ((v_neq rfl rfl rfl).f (by omega)) (.some rfl rfl rfl) rfl rfl ?_
  refine WL.v (v_pick_f rfl rfl rfl) rfl <| WL.nt <| WC.cond_f rfl <| WC.skip <| WE.then_n <| WC.seq <| WC.seq <| WC.region <| WL.v (v_fieldAddr0 rfl rfl fld_48_2) rfl <| WL.v (v_load1 rfl rfl one_45 (cellAt rfl)) rfl <| ?_
  refine WL.v (v_len_slice rfl rfl Tryz.underlying45) rfl <| WL.v (v_move rfl rfl) rfl <| WL.nt <| WC.block <| WC.loop (fun k : Nat => [(83, .int .i64 k), (82, .int .i64 A.path.length), (3, .pointer (some ⟨g3, 0, none⟩)), (2, .pointer (some ⟨g2, 0, none⟩))]) (fun _ => [.row g3 B.rcells, .row g2 A.rcells]) (fun k => k ≤ A.path.length) (fun k => A.path.length - k) 0 (Nat.zero_le _) (.cons rfl (.cons rfl (.cons rfl (.cons rfl .nil)))) (.refl _) <| ?_
  intro k hk
  refine WC.seq <| WC.region <| ?_
  refine WL.test (v_lss rfl rfl rfl) (.none rfl) rfl rfl (fun h84 => ?_) (fun h84 => ?_)
  ·
   refine WL.nt <| WC.seq <| WC.cond_t rfl <| WC.skip <| WE.then_n <| WC.seq <| WC.block <| WC.seq <| WC.region <| WL.v (v_move rfl rfl) rfl <| ?_
   refine WL.v (v_assign rfl rfl) rfl <| WL.nt <| WC.seq <| ?_
   refine WC.quiet mixed (by kernel_rfl) ?_
   obtain ⟨x, hx⟩ : ∃ x, A.path[k]? = some x := ⟨A.path[k]'(by omega), List.getElem?_eq_getElem _⟩
   obtain ⟨y, hy, exy⟩ := map_get_eq e9 hx
   have es : x.set = y.set := congrArg Prod.fst exy
   have el : x.asl = y.asl := congrArg Prod.snd exy
   obtain ⟨b1, o1, ea1, r1⟩ := hA.path k x hx
   obtain ⟨b2, o2, ea2, r2⟩ := hB.path k y hy
   have hxm := List.mem_of_getElem? hx
   have hym := List.mem_of_getElem? hy
   refine WQ.val (v_fieldAddr0 rfl rfl fld_48_2) (.none rfl) rfl rfl <| WQ.val (v_load1 rfl rfl one_45 (cellAt rfl)) (.none rfl) rfl rfl <| WQ.val (v_move rfl rfl) (.none rfl) rfl rfl <| ?_
   refine WQ.val ((v_indexAddr (b := b1) (off := o1) (lo := k) rfl (by show some (Value.slice A.pad _ _) = _; rw [ea1]) rfl Tryz.underlying45 sz_96 rfl (by omega))) (.none rfl) rfl rfl ?_
   refine WQ.val (v_fieldAddr rfl rfl fld_96_0) (.none rfl) rfl rfl <| WQ.val (v_load1 rfl rfl one_4 (cellOld (fun h => h) (r1 0 _ rfl))) (.none rfl) rfl rfl <| WQ.val (v_fieldAddr0 rfl rfl fld_48_2) (.none rfl) rfl rfl <| WQ.val (v_load1 rfl rfl one_45 (cellAt rfl)) (.none rfl) rfl rfl <| WQ.val (v_move rfl rfl) (.none rfl) rfl rfl <| ?_
   refine WQ.val ((v_indexAddr (b := b2) (off := o2) (lo := k) rfl (by show some (Value.slice B.pad _ _) = _; rw [ea2]) rfl Tryz.underlying45 sz_96 rfl (by omega))) (.none rfl) rfl rfl ?_
   refine WQ.val (v_fieldAddr rfl rfl fld_96_0) (.none rfl) rfl rfl <| WQ.val (v_load1 rfl rfl one_4 (cellOld (fun h => h) (r2 0 _ rfl))) (.none rfl) rfl rfl <| WQ.val ((v_neq_bool rfl rfl rfl Tryz.underlying4).f (fun h => h es)) (.none rfl) rfl rfl <| WQ.val (v_move rfl rfl) (.none rfl) rfl rfl <| WQ.val (v_fieldAddr0 rfl rfl fld_48_2) (.some rfl rfl rfl) rfl rfl <| WQ.val (v_load1 rfl rfl one_45 (cellAt rfl)) (.some rfl rfl rfl) rfl rfl <| WQ.val (v_move rfl rfl) (.some rfl rfl rfl) rfl rfl <| ?_
   refine WQ.val ((v_indexAddr (b := b1) (off := o1) (lo := k) rfl (by show some (Value.slice A.pad _ _) = _; rw [ea1]) rfl Tryz.underlying45 sz_96 rfl (by omega))) (.some rfl rfl rfl) rfl rfl ?_
   refine WQ.val (v_fieldAddr rfl rfl fld_96_1) (.some rfl rfl rfl) rfl rfl <| WQ.val (v_load1 rfl rfl one_27 (cellOld (fun h => h) (r1 1 _ rfl))) (.some rfl rfl rfl) rfl rfl <| WQ.val (v_fieldAddr0 rfl rfl fld_48_2) (.some rfl rfl rfl) rfl rfl <| WQ.val (v_load1 rfl rfl one_45 (cellAt rfl)) (.some rfl rfl rfl) rfl rfl <| WQ.val (v_move rfl rfl) (.some rfl rfl rfl) rfl rfl <| ?_
   refine WQ.val ((v_indexAddr (b := b2) (off := o2) (lo := k) rfl (by show some (Value.slice B.pad _ _) = _; rw [ea2]) rfl Tryz.underlying45 sz_96 rfl (by omega))) (.some rfl rfl rfl) rfl rfl ?_
   refine WQ.val (v_fieldAddr rfl rfl fld_96_1) (.some rfl rfl rfl) rfl rfl <| WQ.val (v_load1 rfl rfl one_27 (cellOld (fun h => h) (r2 1 _ rfl))) (.some rfl rfl rfl) rfl rfl <| WQ.call _ rfl rfl ck_51 (.some rfl rfl rfl) rfl rfl (fun w hS => Calls.still (list_c _ x.ad y.ad x.cap y.cap x.asl y.asl el ((hA.st hS).segs x hxm) ((hB.st hS).segs y hym) (hI.segs x hxm).1) hS) <| WQ.val (v_not rfl rfl rfl) (.some rfl rfl rfl) rfl rfl <| WQ.val (v_pick_f rfl rfl rfl) (.none rfl) rfl rfl <| WQ.nil <| WE.then_n <| WC.cond_f rfl <| WC.skip <| WE.block_n <| ?_
   refine WE.then_n <| WC.region <| ?_
   refine WL.v (v_add rfl rfl rfl (w_i64 (by omega) (by omega))) rfl ?_
   refine WL.v (v_move rfl rfl) rfl <| WL.nil <| ?_
   exact WE.next (k + 1) (by omega) (by omega) (.int rfl (by omega) (.cons rfl (.cons rfl (.cons rfl .nil)))) (.refl _)
  ·
   refine WL.nt <| WC.seq <| WC.cond_f rfl <| WC.exit <| WE.then_exit <| WE.then_exit <| WE.block_hit <| WE.then_n <| WC.seq <| WC.seq <| ?_
   refine WC.region <| WL.v (v_fieldAddr0 rfl rfl fld_48_9) rfl <| WL.v (v_load1 rfl rfl one_46 (cellAt rfl)) rfl <| WL.v (v_len_slice rfl rfl Tryz.underlying46) rfl <| WL.v (v_move rfl rfl) rfl <| WL.nt <| WC.block <| WC.loop (fun k : Nat => [(119, .int .i64 k), (118, .int .i64 A.others.length), (3, .pointer (some ⟨g3, 0, none⟩)), (2, .pointer (some ⟨g2, 0, none⟩))]) (fun _ => [.row g3 B.rcells, .row g2 A.rcells]) (fun k => k ≤ A.others.length) (fun k => A.others.length - k) 0 (Nat.zero_le _) (.cons rfl (.cons rfl (.cons rfl (.cons rfl .nil)))) (.refl _) <| ?_
   intro k hk
   refine WC.seq <| WC.region <| ?_
   refine WL.test (v_lss rfl rfl rfl) (.none rfl) rfl rfl (fun h120 => ?_) (fun h120 => ?_)
   ·
    refine WL.nt <| WC.seq <| WC.cond_t rfl <| WC.skip <| WE.then_n <| WC.seq <| WC.block <| WC.seq <| WC.region <| WL.v (v_move rfl rfl) rfl <| ?_
    refine WL.v (v_assign rfl rfl) rfl <| WL.nt <| WC.seq <| ?_
    refine WC.quiet mixed (by kernel_rfl) ?_
    obtain ⟨x, hx⟩ : ∃ x, A.others[k]? = some x := ⟨A.others[k]'(by omega), List.getElem?_eq_getElem _⟩
    obtain ⟨y, hy, exy⟩ := map_get_eq e10 hx
    have es : x.ty = y.ty := congrArg Prod.fst exy
    have el : x.val = y.val := congrArg Prod.snd exy
    obtain ⟨b1, o1, ea1, r1⟩ := hA.oths k x hx
    obtain ⟨b2, o2, ea2, r2⟩ := hB.oths k y hy
    have hxm := List.mem_of_getElem? hx
    have hym := List.mem_of_getElem? hy
    refine WQ.val (v_fieldAddr0 rfl rfl fld_48_9) (.none rfl) rfl rfl <| WQ.val (v_load1 rfl rfl one_46 (cellAt rfl)) (.none rfl) rfl rfl <| WQ.val (v_move rfl rfl) (.none rfl) rfl rfl <| ?_
    refine WQ.val ((v_indexAddr (b := b1) (off := o1) (lo := k) rfl (by show some (Value.slice A.oad _ _) = _; rw [ea1]) rfl Tryz.underlying46 sz_97 rfl (by omega))) (.none rfl) rfl rfl ?_
    refine WQ.val (v_fieldAddr rfl rfl fld_97_0) (.none rfl) rfl rfl <| WQ.val (v_load1 rfl rfl one_3 (cellOld (fun h => h) (r1 0 _ rfl))) (.none rfl) rfl rfl <| WQ.val (v_fieldAddr0 rfl rfl fld_48_9) (.none rfl) rfl rfl <| WQ.val (v_load1 rfl rfl one_46 (cellAt rfl)) (.none rfl) rfl rfl <| WQ.val (v_move rfl rfl) (.none rfl) rfl rfl <| ?_
    refine WQ.val ((v_indexAddr (b := b2) (off := o2) (lo := k) rfl (by show some (Value.slice B.oad _ _) = _; rw [ea2]) rfl Tryz.underlying46 sz_97 rfl (by omega))) (.none rfl) rfl rfl ?_
    refine WQ.val (v_fieldAddr rfl rfl fld_97_0) (.none rfl) rfl rfl <| WQ.val (v_load1 rfl rfl one_3 (cellOld (fun h => h) (r2 0 _ rfl))) (.none rfl) rfl rfl <| ?_
    refine WQ.val ((v_neq rfl rfl rfl).f (by omega)) (.none rfl) rfl rfl ?_
    refine WQ.val (v_move rfl rfl) (.none rfl) rfl rfl <| WQ.val (v_fieldAddr0 rfl rfl fld_48_9) (.some rfl rfl rfl) rfl rfl <| WQ.val (v_load1 rfl rfl one_46 (cellAt rfl)) (.some rfl rfl rfl) rfl rfl <| WQ.val (v_move rfl rfl) (.some rfl rfl rfl) rfl rfl <| ?_
    refine WQ.val ((v_indexAddr (b := b1) (off := o1) (lo := k) rfl (by show some (Value.slice A.oad _ _) = _; rw [ea1]) rfl Tryz.underlying46 sz_97 rfl (by omega))) (.some rfl rfl rfl) rfl rfl ?_
    refine WQ.val (v_fieldAddr rfl rfl fld_97_1) (.some rfl rfl rfl) rfl rfl <| WQ.val (v_load1 rfl rfl one_37 (cellOld (fun h => h) (r1 1 _ rfl))) (.some rfl rfl rfl) rfl rfl <| WQ.val (v_convBS (fOf x.val) rfl rfl Tryz.underlying37 Tryz.underlying5 Tryz.underlying9 (fun w' hS' => rdVal (hA.vals x hxm) hS')) (.some rfl rfl rfl) rfl rfl <| WQ.val (v_fieldAddr0 rfl rfl fld_48_9) (.some rfl rfl rfl) rfl rfl <| WQ.val (v_load1 rfl rfl one_46 (cellAt rfl)) (.some rfl rfl rfl) rfl rfl <| WQ.val (v_move rfl rfl) (.some rfl rfl rfl) rfl rfl <| ?_
    refine WQ.val ((v_indexAddr (b := b2) (off := o2) (lo := k) rfl (by show some (Value.slice B.oad _ _) = _; rw [ea2]) rfl Tryz.underlying46 sz_97 rfl (by omega))) (.some rfl rfl rfl) rfl rfl ?_
    refine WQ.val (v_fieldAddr rfl rfl fld_97_1) (.some rfl rfl rfl) rfl rfl <| WQ.val (v_load1 rfl rfl one_37 (cellOld (fun h => h) (r2 1 _ rfl))) (.some rfl rfl rfl) rfl rfl <| WQ.val (v_convBS (fOf y.val) rfl rfl Tryz.underlying37 Tryz.underlying5 Tryz.underlying9 (fun w' hS' => rdVal (hB.vals y hym) hS')) (.some rfl rfl rfl) rfl rfl <| ?_
    refine WQ.val ((v_neq_string rfl rfl rfl Tryz.underlying9).f (fun h => h (by rw [el]))) (.some rfl rfl rfl) rfl rfl ?_
    refine WQ.val (v_pick_f rfl rfl rfl) (.none rfl) rfl rfl <| WQ.nil <| WE.then_n <| WC.cond_f rfl <| WC.skip <| WE.block_n <| WE.then_n <| WC.region <| ?_
    refine WL.v (v_add rfl rfl rfl (w_i64 (by omega) (by omega))) rfl ?_
    refine WL.v (v_move rfl rfl) rfl <| WL.nil <| ?_
    exact WE.next (k + 1) (by omega) (by omega) (.int rfl (by omega) (.cons rfl (.cons rfl (.cons rfl .nil)))) (.refl _)
   ·
    refine WL.nt <| WC.seq <| WC.cond_f rfl <| WC.exit <| WE.then_exit <| WE.then_exit <| WE.block_hit <| WE.then_n <| WC.seq <| WC.region <| ?_
    refine WL.v (v_assign rfl rfl) rfl <| WL.nt <| WC.ret <| WE.ret1 (P := Tryz.prog) (.inl rfl) Tryz.results32 rfl <| ?_
    exact fun w' h => ⟨rfl, h.frm⟩
end Go.Proofs.YtpjbofodllhjbaaGreatDoor
/- carrefourref07.Same: what says the same is the same. -/
namespace Go.Proofs.YtpjbofodllhjbaaGreatDoor
open Go.RowKit

set_option maxHeartbeats 4000000 in
theorem RSame07_c (w : World) (A B : MsL) (hA : A.At w) (hB : B.At w) (he : A.d = B.d) (hI : A.In) (hf : A.Few) :
    Calls Tryz.prog 12 #[.agg A.rcells.toArray, .agg B.rcells.toArray] w fun e w' => e = .returned (.bool true) ∧ Frm (fun _ => False) w w' := by
  have e1 : A.kind = B.kind := congrArg MsD.kind he
  have e2 : A.asn = B.asn := congrArg MsD.asn he
  have e3 : A.hold = B.hold := congrArg MsD.hold he
  have e4 : A.id = B.id := congrArg MsD.id he
  have e5 : A.caps.map capD = B.caps.map capD := congrArg MsD.caps he
  have e6 : A.gone = B.gone := congrArg MsD.gone he
  have e7 : A.nets = B.nets := congrArg MsD.nets he
  have e8 : A.atr.d = B.atr.d := congrArg MsD.atr he
  have e9 : A.fc = B.fc := congrArg MsD.fc he
  have e10 : A.fs = B.fs := congrArg MsD.fs he
  have e11 : A.fd = B.fd := congrArg MsD.fd he
  have l5 := map_len_eq e5
  have hkl := hf.caps
  refine enter Tryz.func12 rfl Tryz.ntmps12 rfl (St.start (fun _ => False) w) ?_
  refine WC.seq <| WC.region <| WL.box rfl rfl rfl (.none rfl) rfl rfl <| ?_
  intro g2 hg2
  refine WL.box rfl rfl rfl (.none rfl) rfl rfl ?_
  intro g3 hg3
  refine WL.v (v_assign rfl rfl) rfl <| WL.nt <| WC.seq <| WC.seq <| WC.region <| WL.v (v_fieldAddr0 rfl rfl fld_51_0) rfl <| WL.v (v_load1 rfl rfl one_3 (cellAt rfl)) rfl <| WL.v (v_fieldAddr0 rfl rfl fld_51_0) rfl <| WL.v (v_load1 rfl rfl one_3 (cellAt rfl)) rfl <| ?_
  refine WL.v ((v_neq rfl rfl rfl).f (by omega)) rfl ?_
  refine WL.v (v_move rfl rfl) rfl <| WL.val (v_fieldAddr0 rfl rfl fld_51_1) (.some rfl rfl rfl) rfl rfl <| WL.val (v_load1 rfl rfl one_3 (cellAt rfl)) (.some rfl rfl rfl) rfl rfl <| WL.val (v_fieldAddr0 rfl rfl fld_51_1) (.some rfl rfl rfl) rfl rfl <| WL.val (v_load1 rfl rfl one_3 (cellAt rfl)) (.some rfl rfl rfl) rfl rfl <| ?_
  refine WL.val ((v_neq rfl rfl rfl).f (by omega)) (.some rfl rfl rfl) rfl rfl ?_
  refine WL.v (v_pick_f rfl rfl rfl) rfl <| WL.v (v_move rfl rfl) rfl <| WL.val (v_fieldAddr0 rfl rfl fld_51_2) (.some rfl rfl rfl) rfl rfl <| WL.val (v_load1 rfl rfl one_3 (cellAt rfl)) (.some rfl rfl rfl) rfl rfl <| WL.val (v_fieldAddr0 rfl rfl fld_51_2) (.some rfl rfl rfl) rfl rfl <| WL.val (v_load1 rfl rfl one_3 (cellAt rfl)) (.some rfl rfl rfl) rfl rfl <| ?_
  refine WL.val ((v_neq rfl rfl rfl).f (by omega)) (.some rfl rfl rfl) rfl rfl ?_
  refine WL.v (v_pick_f rfl rfl rfl) rfl <| WL.v (v_move rfl rfl) rfl <| WL.val (v_fieldAddr0 rfl rfl fld_51_3) (.some rfl rfl rfl) rfl rfl <| WL.val (v_load1 rfl rfl one_22 (cellAt rfl)) (.some rfl rfl rfl) rfl rfl <| WL.val (v_fieldAddr0 rfl rfl fld_51_3) (.some rfl rfl rfl) rfl rfl <| WL.val (v_load1 rfl rfl one_22 (cellAt rfl)) (.some rfl rfl rfl) rfl rfl <| ?_
  refine WL.val ((v_neq rfl rfl rfl).f (by omega)) (.some rfl rfl rfl) rfl rfl ?_
  refine WL.v (v_pick_f rfl rfl rfl) rfl <| WL.v (v_move rfl rfl) rfl <| WL.val (v_fieldAddr0 rfl rfl fld_51_4) (.some rfl rfl rfl) rfl rfl <| WL.val (v_load1 rfl rfl one_43 (cellAt rfl)) (.some rfl rfl rfl) rfl rfl <| WL.val (v_len_slice rfl rfl Tryz.underlying43) (.some rfl rfl rfl) rfl rfl <| WL.val (v_fieldAddr0 rfl rfl fld_51_4) (.some rfl rfl rfl) rfl rfl <| WL.val (v_load1 rfl rfl one_43 (cellAt rfl)) (.some rfl rfl rfl) rfl rfl <| WL.val (v_len_slice rfl rfl Tryz.underlying43) (.some rfl rfl rfl) rfl rfl <| ?_
  refine WL.val ((v_neq rfl rfl rfl).f (by omega)) (.some rfl rfl rfl) rfl rfl ?_
  refine WL.v (v_pick_f rfl rfl rfl) rfl <| WL.v (v_move rfl rfl) rfl <| WL.val (v_fieldAddr0 rfl rfl fld_51_5) (.some rfl rfl rfl) rfl rfl <| WL.val (v_load1 rfl rfl one_44 (cellAt rfl)) (.some rfl rfl rfl) rfl rfl <| WL.val (v_fieldAddr0 rfl rfl fld_51_5) (.some rfl rfl rfl) rfl rfl <| WL.val (v_load1 rfl rfl one_44 (cellAt rfl)) (.some rfl rfl rfl) rfl rfl <| WL.call rfl rfl ck_31 (.some rfl rfl rfl) rfl rfl <| ?_
  intro w hS
  refine Calls.then (same_c _ A.gad B.gad A.gc B.gc A.gone B.gone e6 ((hA.st hS).gone) ((hB.st hS).gone) hf.gone) hS ?_
  refine WL.val (v_not rfl rfl rfl) (.some rfl rfl rfl) rfl rfl <| WL.v (v_pick_f rfl rfl rfl) rfl <| WL.v (v_move rfl rfl) rfl <| WL.val (v_fieldAddr0 rfl rfl fld_51_7) (.some rfl rfl rfl) rfl rfl <| WL.val (v_load1 rfl rfl one_44 (cellAt rfl)) (.some rfl rfl rfl) rfl rfl <| WL.val (v_fieldAddr0 rfl rfl fld_51_7) (.some rfl rfl rfl) rfl rfl <| WL.val (v_load1 rfl rfl one_44 (cellAt rfl)) (.some rfl rfl rfl) rfl rfl <| WL.call rfl rfl ck_31 (.some rfl rfl rfl) rfl rfl <| ?_
  intro w hS
  refine Calls.then (same_c _ A.nad B.nad A.nc B.nc A.nets B.nets e7 ((hA.st hS).nets) ((hB.st hS).nets) hf.nets) hS ?_
  refine WL.val (v_not rfl rfl rfl) (.some rfl rfl rfl) rfl rfl <| WL.v (v_pick_f rfl rfl rfl) rfl <| WL.v (v_move rfl rfl) rfl <| WL.val (v_fieldAddr0 rfl rfl fld_51_6) (.some rfl rfl rfl) rfl rfl <| WL.val (v_loadN rfl rfl many_48 rfl (segAt (m := 10) rfl)) (.some rfl rfl rfl) rfl rfl <| WL.val (v_fieldAddr0 rfl rfl fld_51_6) (.some rfl rfl rfl) rfl rfl <| WL.val (v_loadN rfl rfl many_48 rfl (segAt (m := 10) rfl)) (.some rfl rfl rfl) rfl rfl <| WL.call rfl rfl ck_32 (.some rfl rfl rfl) rfl rfl <| ?_
  intro w hS
  refine Calls.then (RSame06_c _ A.atr B.atr ((hA.st hS).at_) ((hB.st hS).at_) e8 hI.at_ hf.path hf.oths) hS ?_
  refine WL.val (v_not rfl rfl rfl) (.some rfl rfl rfl) rfl rfl <| WL.v (v_pick_f rfl rfl rfl) rfl <| WL.v (v_move rfl rfl) rfl <| WL.val (v_fieldAddr0 rfl rfl fld_51_8) (.some rfl rfl rfl) rfl rfl <| WL.val (v_fieldAddr rfl rfl fld_49_0) (.some rfl rfl rfl) rfl rfl <| WL.val (v_load1 rfl rfl one_3 (cellAt rfl)) (.some rfl rfl rfl) rfl rfl <| WL.val (v_fieldAddr0 rfl rfl fld_51_8) (.some rfl rfl rfl) rfl rfl <| WL.val (v_fieldAddr rfl rfl fld_49_0) (.some rfl rfl rfl) rfl rfl <| WL.val (v_load1 rfl rfl one_3 (cellAt rfl)) (.some rfl rfl rfl) rfl rfl <| ?_
  refine WL.val ((v_neq rfl rfl rfl).f (by omega)) (.some rfl rfl rfl) rfl rfl ?_
  refine WL.v (v_pick_f rfl rfl rfl) rfl <| WL.v (v_move rfl rfl) rfl <| WL.val (v_fieldAddr0 rfl rfl fld_51_8) (.some rfl rfl rfl) rfl rfl <| WL.val (v_fieldAddr rfl rfl fld_49_1) (.some rfl rfl rfl) rfl rfl <| WL.val (v_load1 rfl rfl one_3 (cellAt rfl)) (.some rfl rfl rfl) rfl rfl <| WL.val (v_fieldAddr0 rfl rfl fld_51_8) (.some rfl rfl rfl) rfl rfl <| WL.val (v_fieldAddr rfl rfl fld_49_1) (.some rfl rfl rfl) rfl rfl <| WL.val (v_load1 rfl rfl one_3 (cellAt rfl)) (.some rfl rfl rfl) rfl rfl <| ?_
  refine WL.val ((v_neq rfl rfl rfl).f (by omega)) (.some rfl rfl rfl) rfl rfl ?_
  refine WL.v (v_pick_f rfl rfl rfl) rfl <| WL.v (v_move rfl rfl) rfl <| WL.val (v_fieldAddr0 rfl rfl fld_51_8) (.some rfl rfl rfl) rfl rfl <| WL.val (v_fieldAddr rfl rfl fld_49_2) (.some rfl rfl rfl) rfl rfl <| WL.val (v_load1 rfl rfl one_9 (cellAt rfl)) (.some rfl rfl rfl) rfl rfl <| WL.val (v_fieldAddr0 rfl rfl fld_51_8) (.some rfl rfl rfl) rfl rfl <| WL.val (v_fieldAddr rfl rfl fld_49_2) (.some rfl rfl rfl) rfl rfl <| WL.val (v_load1 rfl rfl one_9 (cellAt rfl)) (.some rfl rfl rfl) rfl rfl <| WL.val ((v_neq_string rfl rfl rfl Tryz.underlying9).f (fun h => h (congrArg ByteArray.toList e11))) (.some rfl rfl rfl) rfl rfl <| WL.v (v_pick_f rfl rfl rfl) rfl <| ?_
  refine WL.nt <| WC.cond_f rfl <| WC.skip <| WE.then_n <| WC.seq <| WC.seq <| WC.region <| WL.v (v_fieldAddr0 rfl rfl fld_51_4) rfl <| WL.v (v_load1 rfl rfl one_43 (cellAt rfl)) rfl <| WL.v (v_len_slice rfl rfl Tryz.underlying43) rfl <| ?_
  refine WL.v (v_move rfl rfl) rfl <| WL.nt <| WC.block <| WC.loop (fun k : Nat => [(95, .int .i64 k), (94, .int .i64 A.caps.length), (3, .pointer (some ⟨g3, 0, none⟩)), (2, .pointer (some ⟨g2, 0, none⟩))]) (fun _ => [.row g3 B.rcells, .row g2 A.rcells]) (fun k => k ≤ A.caps.length) (fun k => A.caps.length - k) 0 (Nat.zero_le _) (.cons rfl (.cons rfl (.cons rfl (.cons rfl .nil)))) (.refl _) <| ?_
  intro k hk
  refine WC.seq <| WC.region <| ?_
  refine WL.test (v_lss rfl rfl rfl) (.none rfl) rfl rfl (fun h96 => ?_) (fun h96 => ?_)
  ·
   refine WL.nt <| WC.seq <| WC.cond_t rfl <| WC.skip <| WE.then_n <| WC.seq <| WC.block <| WC.seq <| WC.region <| WL.v (v_move rfl rfl) rfl <| ?_
   refine WL.v (v_assign rfl rfl) rfl <| WL.nt <| WC.seq <| ?_
   refine WC.quiet mixed (by kernel_rfl) ?_
   obtain ⟨x, hx⟩ : ∃ x, A.caps[k]? = some x := ⟨A.caps[k]'(by omega), List.getElem?_eq_getElem _⟩
   obtain ⟨y, hy, exy⟩ := map_get_eq e5 hx
   have es : x.code = y.code := congrArg Prod.fst exy
   have el : x.val = y.val := congrArg Prod.snd exy
   obtain ⟨b1, o1, ea1, r1⟩ := hA.caps k x hx
   obtain ⟨b2, o2, ea2, r2⟩ := hB.caps k y hy
   have hxm := List.mem_of_getElem? hx
   have hym := List.mem_of_getElem? hy
   refine WQ.val (v_fieldAddr0 rfl rfl fld_51_4) (.none rfl) rfl rfl <| WQ.val (v_load1 rfl rfl one_43 (cellAt rfl)) (.none rfl) rfl rfl <| WQ.val (v_move rfl rfl) (.none rfl) rfl rfl <| ?_
   refine WQ.val ((v_indexAddr (b := b1) (off := o1) (lo := k) rfl (by show some (Value.slice A.kad _ _) = _; rw [ea1]) rfl Tryz.underlying43 sz_68 rfl (by omega))) (.none rfl) rfl rfl ?_
   refine WQ.val (v_fieldAddr rfl rfl fld_68_0) (.none rfl) rfl rfl <| WQ.val (v_load1 rfl rfl one_3 (cellOld (fun h => h) (r1 0 _ rfl))) (.none rfl) rfl rfl <| WQ.val (v_fieldAddr0 rfl rfl fld_51_4) (.none rfl) rfl rfl <| WQ.val (v_load1 rfl rfl one_43 (cellAt rfl)) (.none rfl) rfl rfl <| WQ.val (v_move rfl rfl) (.none rfl) rfl rfl <| ?_
   refine WQ.val ((v_indexAddr (b := b2) (off := o2) (lo := k) rfl (by show some (Value.slice B.kad _ _) = _; rw [ea2]) rfl Tryz.underlying43 sz_68 rfl (by omega))) (.none rfl) rfl rfl ?_
   refine WQ.val (v_fieldAddr rfl rfl fld_68_0) (.none rfl) rfl rfl <| WQ.val (v_load1 rfl rfl one_3 (cellOld (fun h => h) (r2 0 _ rfl))) (.none rfl) rfl rfl <| ?_
   refine WQ.val ((v_neq rfl rfl rfl).f (by omega)) (.none rfl) rfl rfl ?_
   refine WQ.val (v_move rfl rfl) (.none rfl) rfl rfl <| WQ.val (v_fieldAddr0 rfl rfl fld_51_4) (.some rfl rfl rfl) rfl rfl <| WQ.val (v_load1 rfl rfl one_43 (cellAt rfl)) (.some rfl rfl rfl) rfl rfl <| WQ.val (v_move rfl rfl) (.some rfl rfl rfl) rfl rfl <| ?_
   refine WQ.val ((v_indexAddr (b := b1) (off := o1) (lo := k) rfl (by show some (Value.slice A.kad _ _) = _; rw [ea1]) rfl Tryz.underlying43 sz_68 rfl (by omega))) (.some rfl rfl rfl) rfl rfl ?_
   refine WQ.val (v_fieldAddr rfl rfl fld_68_1) (.some rfl rfl rfl) rfl rfl <| WQ.val (v_load1 rfl rfl one_37 (cellOld (fun h => h) (r1 1 _ rfl))) (.some rfl rfl rfl) rfl rfl <| WQ.val (v_convBS (fOf x.val) rfl rfl Tryz.underlying37 Tryz.underlying5 Tryz.underlying9 (fun w' hS' => rdVal (hA.vals x hxm) hS')) (.some rfl rfl rfl) rfl rfl <| WQ.val (v_fieldAddr0 rfl rfl fld_51_4) (.some rfl rfl rfl) rfl rfl <| WQ.val (v_load1 rfl rfl one_43 (cellAt rfl)) (.some rfl rfl rfl) rfl rfl <| WQ.val (v_move rfl rfl) (.some rfl rfl rfl) rfl rfl <| ?_
   refine WQ.val ((v_indexAddr (b := b2) (off := o2) (lo := k) rfl (by show some (Value.slice B.kad _ _) = _; rw [ea2]) rfl Tryz.underlying43 sz_68 rfl (by omega))) (.some rfl rfl rfl) rfl rfl ?_
   refine WQ.val (v_fieldAddr rfl rfl fld_68_1) (.some rfl rfl rfl) rfl rfl <| WQ.val (v_load1 rfl rfl one_37 (cellOld (fun h => h) (r2 1 _ rfl))) (.some rfl rfl rfl) rfl rfl <| WQ.val (v_convBS (fOf y.val) rfl rfl Tryz.underlying37 Tryz.underlying5 Tryz.underlying9 (fun w' hS' => rdVal (hB.vals y hym) hS')) (.some rfl rfl rfl) rfl rfl <| ?_
   refine WQ.val ((v_neq_string rfl rfl rfl Tryz.underlying9).f (fun h => h (by rw [el]))) (.some rfl rfl rfl) rfl rfl ?_
   refine WQ.val (v_pick_f rfl rfl rfl) (.none rfl) rfl rfl <| WQ.nil <| WE.then_n <| WC.cond_f rfl <| WC.skip <| WE.block_n <| WE.then_n <| WC.region <| ?_
   refine WL.v (v_add rfl rfl rfl (w_i64 (by omega) (by omega))) rfl ?_
   refine WL.v (v_move rfl rfl) rfl <| WL.nil <| ?_
   exact WE.next (k + 1) (by omega) (by omega) (.int rfl (by omega) (.cons rfl (.cons rfl (.cons rfl .nil)))) (.refl _)
  ·
   refine WL.nt <| WC.seq <| WC.cond_f rfl <| WC.exit <| WE.then_exit <| WE.then_exit <| WE.block_hit <| WE.then_n <| WC.seq <| WC.region <| ?_
   refine WL.v (v_assign rfl rfl) rfl <| WL.nt <| WC.ret <| WE.ret1 (P := Tryz.prog) (.inl rfl) Tryz.results12 rfl <| ?_
   exact fun w' h => ⟨rfl, h.frm⟩
end Go.Proofs.YtpjbofodllhjbaaGreatDoor
/- bgp: BgpForm walked: bytes that are a message. -/
namespace Go.Proofs.YtpjbofodllhjbaaGreatDoor
open Go.RowKit

/-- What a read message must be for BgpForm. -/
structure FormOk (md : MsD) : Prop where
  in_ : md.In
  path : md.atr.path.length ≤ 1100
  oths : md.atr.others.length ≤ 300
  caps : md.caps.length ≤ 5000
  gone : md.gone.length ≤ 5000
  nets : md.nets.length ≤ 5000
  code : msgCD md = 0 ∨ msgCD md = 6 ∨ msgCD md = 1 ∧ (md.kind = 3 ∧ md.fc = 0 ∨ 32 < md.caps.length)
  back : msgCD md = 0 → decM (msgBD md) = .inl md ∧ Bys (msgBD md) ∧ 0 < (msgBD md).length ∧ (msgBD md).length ≤ 5000
theorem FormOk.few {md : MsD} (h : FormOk md) {m : MsL} (e : m.d = md) : m.Few ∧ m.In ∧ m.atr.path.length ≤ 1100 ∧ m.atr.others.length ≤ 300 ∧ m.caps.length = md.caps.length := by
  subst e
  have h1 := map_len_eq (f := capD) (xs := m.caps) (ys := m.caps) rfl
  have e1 : m.d.caps.length = m.caps.length := List.length_map ..
  have e2 : m.d.atr.path.length = m.atr.path.length := List.length_map ..
  have e3 : m.d.atr.others.length = m.atr.others.length := List.length_map ..
  have h2 := h.caps
  have h3 := h.path
  have h4 := h.oths
  have h5 : m.gone.length ≤ 5000 := h.gone
  have h6 : m.nets.length ≤ 5000 := h.nets
  exact ⟨⟨by omega, by omega, by omega, by omega, by omega⟩, MsL.in_d.2 h.in_, by omega, by omega, by omega⟩
end Go.Proofs.YtpjbofodllhjbaaGreatDoor
/- attr: what was read is well formed. -/
namespace Go.Proofs.YtpjbofodllhjbaaGreatDoor
open Go.RowKit

/-- Attributes as they are read: what is there is good, what is not is zero. -/
structure AtG (N : Nat) (d : AtD) : Prop where
  each : ∀ k, 1 ≤ k → k ≤ 8 → eachBD d k = true
  hop : U32 d.hop
  aid : U32 d.aid
  path : 4 * d.path.length ≤ N
  oths : ∀ o ∈ d.others, 9 ≤ o.1 ∧ o.1 ≤ 255 ∧ Bys o.2 ∧ o.2.length ≤ N
theorem each_keep {d d' : AtD} {k : Nat} (h1 : hasB d'.has k = hasB d.has k) (h2 : goodBD d' k = goodBD d k) (h3 : zeroBD d' k = zeroBD d k) (h : eachBD d k = true) : eachBD d' k = true := by
  unfold eachBD at h ⊢
  rw [h1, h2, h3]
  exact h
theorem each_new {d : AtD} {k : Nat} (h1 : hasB d.has k = true) (h2 : goodBD d k = true) : eachBD d k = true := by
  unfold eachBD
  rw [h1]
  exact h2
theorem hasB_same {h : Int} {t : Nat} (h1 : 1 ≤ t) (h8 : t ≤ 8) (hb : h / 2 ^ t % 2 = 0) : hasB (h + 2 ^ t) t = true := by
  refine (hasB_iff h1 h8).2 ?_
  have : t = 1 ∨ t = 2 ∨ t = 3 ∨ t = 4 ∨ t = 5 ∨ t = 6 ∨ t = 7 ∨ t = 8 := by omega
  rcases this with rfl | rfl | rfl | rfl | rfl | rfl | rfl | rfl <;> omega
theorem hasB_other {h : Int} {t k : Nat} (h0 : 0 ≤ h) (h1 : h ≤ 511) (ht : t ≤ 8) (hb : h / 2 ^ t % 2 = 0) (hk : k ≤ 8) (hne : k ≠ t) : hasB (h + 2 ^ t) k = hasB h k := by
  have := (bits_addI h0 h1 ht hb).2 k hk hne
  unfold hasB
  rw [this]
theorem readI2 {v : List Int} (h : Bys v) (hl : v.length = 2) : 0 ≤ readI v ∧ readI v ≤ 65535 := by
  match v, hl with
  | [a, b], _ => have := h a (by simp); have := h b (by simp); show 0 ≤ (0 * 256 + a) * 256 + b ∧ (0 * 256 + a) * 256 + b ≤ 65535; omega
theorem readI4 {v : List Int} (h : Bys v) (hl : v.length = 4) : 0 ≤ readI v ∧ readI v ≤ 4294967295 := by
  match v, hl with
  | [a, b, c, d], _ =>
    have := h a (by simp); have := h b (by simp); have := h c (by simp); have := h d (by simp)
    show 0 ≤ (((0 * 256 + a) * 256 + b) * 256 + c) * 256 + d ∧ (((0 * 256 + a) * 256 + b) * 256 + c) * 256 + d ≤ 4294967295; omega
theorem fours_b : ∀ {v : List Int}, Bys v → ∀ x ∈ fours v, 0 ≤ x ∧ x ≤ 4294967295
  | a :: b :: c :: d :: xs, h, x, hx => by
    rw [fours] at hx
    rcases List.mem_cons.1 hx with rfl | hx
    · exact readI4 (fun y hy => h y (by simp at hy ⊢; rcases hy with h | h | h | h <;> simp [h])) rfl
    · exact fours_b (fun y hy => h y (by simp [hy])) x hx
  | [], _, x, hx => by simp [fours] at hx
  | [_], _, x, hx => by simp [fours] at hx
  | [_, _], _, x, hx => by simp [fours] at hx
  | [_, _, _], _, x, hx => by simp [fours] at hx
theorem fours_l : ∀ (v : List Int), (fours v).length ≤ v.length / 4
  | a :: b :: c :: d :: xs => by have := fours_l xs; simp only [fours, List.length_cons]; omega
  | [] => by simp [fours]
  | [_] => by simp [fours]
  | [_, _] => by simp [fours]
  | [_, _, _] => by simp [fours]
theorem pathR_len : ∀ (v : List Int) {p : List (Bool × List Int)}, pathR v = some p → p.all segBD = true → 4 * p.length ≤ v.length
  | [], p, h, _ => by rw [pathR] at h; cases h; exact Nat.le_refl _
  | [_], p, h, _ => by rw [pathR] at h; cases h
  | x :: n :: xs, p, h, ha => by
    rw [pathR_cons] at h
    split at h
    · cases h
    · rename_i hn
      obtain ⟨q, hq, rfl⟩ := Option.map_eq_some_iff.1 h
      rw [List.all_cons, Bool.and_eq_true] at ha
      have ih := pathR_len (xs.drop (2 * n.toNat)) hq ha.2
      have h1 := ha.1
      unfold segBD at h1
      rw [Bool.and_eq_true] at h1
      have h2 := of_decide_eq_true h1.1
      rw [List.length_map, List.length_range] at h2
      rw [List.length_drop] at ih
      rw [List.length_cons, List.length_cons, List.length_cons]
      omega
termination_by v => v.length
decreasing_by simp only [List.length_drop, List.length_cons]; omega
theorem kcases {k : Nat} (h1 : 1 ≤ k) (h8 : k ≤ 8) : k = 1 ∨ k = 2 ∨ k = 3 ∨ k = 4 ∨ k = 5 ∨ k = 6 ∨ k = 7 ∨ k = 8 := by omega
theorem AtG.zero (N : Nat) : AtG N AtL.zero.d := ⟨fun k h1 h8 => by rcases kcases h1 h8 with rfl | rfl | rfl | rfl | rfl | rfl | rfl | rfl <;> decide, ⟨by decide, by decide⟩, ⟨by decide, by decide⟩, Nat.zero_le _, fun _ h => by cases h⟩
set_option maxHeartbeats 1000000 in
theorem AtG.take {N : Nat} {d d' : AtD} {all v : List Int} (hG : AtG N d) (hv : Bys v) (hvl : v.length ≤ N) (h18 : 1 ≤ fOf all 1 ∧ fOf all 1 ≤ 8) (h0 : 0 ≤ d.has) (h1 : d.has ≤ 511) (hb : d.has / 2 ^ (fOf all 1).toNat % 2 = 0) (hcom : fOf all 1 = 8 → d.comms = []) (h : takeD d all v = .inl d') : AtG N d' := by
  obtain ⟨t, ht⟩ := Int.eq_ofNat_of_zero_le (show 0 ≤ fOf all 1 by omega)
  unfold takeD at h
  rw [ht, Int.toNat_natCast] at h
  rw [ht, Int.toNat_natCast] at hb
  rw [ht] at hcom
  split at h
  · cases h
  split at h
  · cases h
  rename_i hsz
  split at h
  · cases h
  rename_i h256
  split at h
  · cases h
  rename_i d2 hs
  split at h
  · cases h
  rename_i g2
  split at h
  · cases h
  rename_i g1
  split at h
  · cases h
  rename_i g3
  cases h
  have t1 : 1 ≤ t := by omega
  have t8 : t ≤ 8 := by omega
  have hn := hasB_same t1 t8 hb
  have hk : ∀ k, k ≤ 8 → k ≠ t → hasB (d.has + 2 ^ t) k = hasB d.has k := fun k k8 e => hasB_other h0 h1 t8 hb k8 e
  rcases kcases t1 t8 with rfl | rfl | rfl | rfl | rfl | rfl | rfl | rfl
  · obtain rfl : { d with origin := readI v } = d2 := Option.some.inj hs
    refine ⟨fun k k1 k8 => ?_, hG.hop, hG.aid, hG.path, hG.oths⟩
    by_cases e : k = 1
    · subst e
      refine each_new hn ?_
      show wiB (readI v) 2 = true
      cases hw : wiB (readI v) 2
      · exact absurd ⟨rfl, hw⟩ g1
      · rfl
    · exact each_keep (hk k k8 e) (by rcases kcases k1 k8 with rfl | rfl | rfl | rfl | rfl | rfl | rfl | rfl <;> first | rfl | exact absurd rfl e) (by rcases kcases k1 k8 with rfl | rfl | rfl | rfl | rfl | rfl | rfl | rfl <;> first | rfl | exact absurd rfl e) (hG.each k k1 k8)
  · obtain ⟨p, hp, rfl⟩ := Option.map_eq_some_iff.1 (show (pathR v).map (fun p => { d with path := p }) = some d2 from hs)
    have hall : p.all segBD = true := by
      cases hw : p.all segBD
      · exact absurd ⟨rfl, hw⟩ g2
      · rfl
    have hpl := pathR_len v hp hall
    refine ⟨fun k k1 k8 => ?_, hG.hop, hG.aid, by show 4 * p.length ≤ N; omega, hG.oths⟩
    by_cases e : k = 2
    · subst e
      exact each_new hn hall
    · exact each_keep (hk k k8 e) (by rcases kcases k1 k8 with rfl | rfl | rfl | rfl | rfl | rfl | rfl | rfl <;> first | rfl | exact absurd rfl e) (by rcases kcases k1 k8 with rfl | rfl | rfl | rfl | rfl | rfl | rfl | rfl <;> first | rfl | exact absurd rfl e) (hG.each k k1 k8)
  · obtain rfl : { d with hop := readI v } = d2 := Option.some.inj hs
    have hl : v.length = 4 := by
      have : ¬ ((0 ≤ (4 : Int) ∧ (v.length : Int) ≠ 4) ∨ _) := hsz
      omega
    refine ⟨fun k k1 k8 => ?_, readI4 hv hl, hG.aid, hG.path, hG.oths⟩
    by_cases e : k = 3
    · subst e
      refine each_new hn ?_
      show hopB (readI v) = true
      cases hw : hopB (readI v)
      · exact absurd ⟨rfl, hw⟩ g3
      · rfl
    · exact each_keep (hk k k8 e) (by rcases kcases k1 k8 with rfl | rfl | rfl | rfl | rfl | rfl | rfl | rfl <;> first | rfl | exact absurd rfl e) (by rcases kcases k1 k8 with rfl | rfl | rfl | rfl | rfl | rfl | rfl | rfl <;> first | rfl | exact absurd rfl e) (hG.each k k1 k8)
  · obtain rfl : { d with med := readI v } = d2 := Option.some.inj hs
    have hl : v.length = 4 := by
      have : ¬ ((0 ≤ (4 : Int) ∧ (v.length : Int) ≠ 4) ∨ _) := hsz
      omega
    refine ⟨fun k k1 k8 => ?_, hG.hop, hG.aid, hG.path, hG.oths⟩
    by_cases e : k = 4
    · subst e
      exact each_new hn (decide_eq_true (readI4 hv hl))
    · exact each_keep (hk k k8 e) (by rcases kcases k1 k8 with rfl | rfl | rfl | rfl | rfl | rfl | rfl | rfl <;> first | rfl | exact absurd rfl e) (by rcases kcases k1 k8 with rfl | rfl | rfl | rfl | rfl | rfl | rfl | rfl <;> first | rfl | exact absurd rfl e) (hG.each k k1 k8)
  · obtain rfl : { d with loc := readI v } = d2 := Option.some.inj hs
    have hl : v.length = 4 := by
      have : ¬ ((0 ≤ (4 : Int) ∧ (v.length : Int) ≠ 4) ∨ _) := hsz
      omega
    refine ⟨fun k k1 k8 => ?_, hG.hop, hG.aid, hG.path, hG.oths⟩
    by_cases e : k = 5
    · subst e
      exact each_new hn (decide_eq_true (readI4 hv hl))
    · exact each_keep (hk k k8 e) (by rcases kcases k1 k8 with rfl | rfl | rfl | rfl | rfl | rfl | rfl | rfl <;> first | rfl | exact absurd rfl e) (by rcases kcases k1 k8 with rfl | rfl | rfl | rfl | rfl | rfl | rfl | rfl <;> first | rfl | exact absurd rfl e) (hG.each k k1 k8)
  · obtain rfl : d = d2 := Option.some.inj hs
    refine ⟨fun k k1 k8 => ?_, hG.hop, hG.aid, hG.path, hG.oths⟩
    by_cases e : k = 6
    · subst e
      exact each_new hn rfl
    · exact each_keep (hk k k8 e) (by rcases kcases k1 k8 with rfl | rfl | rfl | rfl | rfl | rfl | rfl | rfl <;> first | rfl | exact absurd rfl e) (by rcases kcases k1 k8 with rfl | rfl | rfl | rfl | rfl | rfl | rfl | rfl <;> first | rfl | exact absurd rfl e) (hG.each k k1 k8)
  · obtain rfl : { d with aas := readI (v.take 2), aid := readI (v.drop 2) } = d2 := Option.some.inj hs
    have hl : v.length = 6 := by
      have : ¬ ((0 ≤ (6 : Int) ∧ (v.length : Int) ≠ 6) ∨ _) := hsz
      omega
    refine ⟨fun k k1 k8 => ?_, hG.hop, readI4 (fun x hx => hv x (List.mem_of_mem_drop hx)) (by rw [List.length_drop]; omega), hG.path, hG.oths⟩
    by_cases e : k = 7
    · subst e
      exact each_new hn (decide_eq_true (readI2 (fun x hx => hv x (List.mem_of_mem_take hx)) (by rw [List.length_take]; omega)))
    · exact each_keep (hk k k8 e) (by rcases kcases k1 k8 with rfl | rfl | rfl | rfl | rfl | rfl | rfl | rfl <;> first | rfl | exact absurd rfl e) (by rcases kcases k1 k8 with rfl | rfl | rfl | rfl | rfl | rfl | rfl | rfl <;> first | rfl | exact absurd rfl e) (hG.each k k1 k8)
  · obtain rfl : { d with comms := d.comms ++ fours v } = d2 := Option.some.inj hs
    have hl : ¬ 256 < v.length / 4 := fun hh => h256 ⟨rfl, hh⟩
    refine ⟨fun k k1 k8 => ?_, hG.hop, hG.aid, hG.path, hG.oths⟩
    by_cases e : k = 8
    · subst e
      refine each_new hn ?_
      show commsB (d.comms ++ fours v) = true
      rw [hcom rfl, List.nil_append]
      unfold commsB
      have := fours_l v
      rw [decide_eq_true (show (fours v).length ≤ 256 by omega), Bool.and_true]
      exact List.all_eq_true.2 fun x hx => decide_eq_true (fours_b hv x hx)
    · exact each_keep (hk k k8 e) (by rcases kcases k1 k8 with rfl | rfl | rfl | rfl | rfl | rfl | rfl | rfl <;> first | rfl | exact absurd rfl e) (by rcases kcases k1 k8 with rfl | rfl | rfl | rfl | rfl | rfl | rfl | rfl <;> first | rfl | exact absurd rfl e) (hG.each k k1 k8)
end Go.Proofs.YtpjbofodllhjbaaGreatDoor
/- attr: what was read is well formed: whole; prefixes. -/
namespace Go.Proofs.YtpjbofodllhjbaaGreatDoor
open Go.RowKit

theorem AtG.other {N : Nat} {d d' : AtD} {all v : List Int} (hG : AtG N d) (hB : Bys all) (hv : Bys v) (hvl : v.length ≤ N) (h18 : ¬ (1 ≤ fOf all 1 ∧ fOf all 1 ≤ 8)) (h : otherD d all v = .inl d') : AtG N d' := by
  have hb := fOf_b hB 1
  unfold otherD at h
  split at h
  · cases h
  split at h
  · rename_i hc
    cases h
    refine ⟨hG.each, hG.hop, hG.aid, hG.path, fun o ho => ?_⟩
    rcases List.mem_append.1 ho with ho | ho
    · exact hG.oths o ho
    · obtain rfl : o = (fOf all 1, v) := by simpa using ho
      exact ⟨by show 9 ≤ fOf all 1; omega, hb.2, hv, hvl⟩
  · cases h; exact hG
theorem AtG.step {N : Nat} {d d' : AtD} {seen all v : List Int} (hG : AtG N d) (hS : SeenI d seen) (hB : Bys all) (hv : Bys v) (hvl : v.length ≤ N) (hn : fOf all 1 ∉ seen) (h : stepD d all v = .inl d') : AtG N d' := by
  have hb := fOf_b hB 1
  unfold stepD at h
  split at h
  · rename_i h18
    refine hG.take hv hvl h18 hS.h0 hS.h1 ?_ (fun e => hS.com (by rw [← e]; exact hn)) h
    obtain ⟨t, ht⟩ := Int.eq_ofNat_of_zero_le hb.1
    rw [ht, Int.toNat_natCast]
    exact hS.bit t (by omega) (.inr (by rw [← ht]; exact hn))
  · rename_i h18
    exact hG.other hB hv hvl h18 h
theorem decD_good (N : Nat) : ∀ (n : Nat) (d : AtD) (seen xs : List Int) {d' : AtD}, xs.length ≤ n → xs.length ≤ N → Bys xs → SeenI d seen → AtG N d → decD d seen xs = .inl d' → AtG N d' ∧ ∃ seen', SeenI d' seen'
  | _, d, seen, [], d', _, _, _, hS, hG, h => by
    rw [decD_nil] at h
    cases h
    exact ⟨hG, seen, hS⟩
  | 0, d, seen, x :: xs, d', hn, _, _, _, _, _ => by simp at hn
  | n + 1, d, seen, x :: xs, d', hn, hN, hB, hS, hG, h => by
    by_cases hc : (x :: xs).length < fromN (x :: xs) ∨ (x :: xs).length < toN (x :: xs) ∨ fOf (x :: xs) 1 ∈ seen
    · rw [decD_bad (by simp) hc] at h; cases h
    · rw [decD_step (by simp) hc] at h
      have hf := fromN_b (x :: xs)
      have ht := toN_ge (x :: xs)
      have e1 : fOf ((x :: xs).take (toN (x :: xs))) 1 = fOf (x :: xs) 1 := by
        unfold fOf
        rw [List.getD_eq_getElem?_getD, List.getD_eq_getElem?_getD, List.getElem?_take, if_pos (by omega)]
      have hBt : Bys ((x :: xs).take (toN (x :: xs))) := fun y hy => hB y (List.mem_of_mem_take hy)
      have hBv : Bys (((x :: xs).take (toN (x :: xs))).drop (fromN (x :: xs))) := fun y hy => hBt y (List.mem_of_mem_drop hy)
      have hvl : (((x :: xs).take (toN (x :: xs))).drop (fromN (x :: xs))).length ≤ N := by rw [List.length_drop, List.length_take]; omega
      have hns : fOf ((x :: xs).take (toN (x :: xs))) 1 ∉ seen := by rw [e1]; exact fun hh => hc (.inr (.inr hh))
      cases hs : stepD d ((x :: xs).take (toN (x :: xs))) (((x :: xs).take (toN (x :: xs))).drop (fromN (x :: xs))) with
      | inr f => rw [hs] at h; cases h
      | inl d2 =>
        rw [hs] at h
        have hS2 := hS.step hBt hns hs
        rw [e1] at hS2
        exact decD_good N n d2 _ _ (by rw [List.length_drop]; omega) (by rw [List.length_drop]; omega) (fun y hy => hB y (List.mem_of_mem_drop hy)) hS2 (hG.step hS hBt hBv hvl hns hs) h
theorem SeenI.zero : SeenI AtL.zero.d [] := ⟨by decide, by decide, fun t _ _ => by show (0 : Int) / 2 ^ t % 2 = 0; rw [Int.zero_ediv]; rfl, fun _ => rfl, List.nodup_nil, fun t h => by cases h⟩
theorem ordBD_of : ∀ (last : Int) (os : List (Int × List Int)), (os.map (·.1)).Nodup → os.Pairwise (fun x y => x.1 ≤ y.1) → (∀ o ∈ os, last < o.1 ∧ o.1 ≤ 255) → ordBD last os = true
  | _, [], _, _, _ => rfl
  | last, o :: os, hn, hp, h => by
    rw [List.map_cons, List.nodup_cons] at hn
    rw [List.pairwise_cons] at hp
    have h0 := h o (List.mem_cons_self ..)
    unfold ordBD
    rw [decide_eq_true h0, Bool.true_and]
    refine ordBD_of o.1 os hn.2 hp.2 fun q hq => ?_
    have h1 := hp.1 q hq
    have h2 := h q (List.mem_cons_of_mem _ hq)
    have h3 : o.1 ≠ q.1 := fun e => hn.1 (by rw [e]; exact List.mem_map.2 ⟨q, hq, rfl⟩)
    omega
theorem ordBD_len : ∀ (last : Int) (os : List (Int × List Int)), ordBD last os = true → last ≤ 255 → last + os.length ≤ 255
  | last, [], _, h => by simpa using h
  | last, o :: os, h, _ => by
    unfold ordBD at h
    rw [Bool.and_eq_true] at h
    have h1 := of_decide_eq_true h.1
    have := ordBD_len o.1 os h.2 h1.2
    rw [List.length_cons]
    omega
/-- Attributes that were read, in order: they have bytes, but for their number. -/
theorem AtG.chk {N : Nat} {d : AtD} {seen : List Int} (hG : AtG N d) (hS : SeenI d seen) : chkAD { d with others := sortO d.others } = true ∧ d.others.length ≤ 247 := by
  have hp := sortO_perm d.others
  have hord : ordBD 8 (sortO d.others) = true := ordBD_of 8 _ ((hp.map _).nodup_iff.2 hS.nd) (sortO_asc _) fun o ho => by
    have := hG.oths o (hp.mem_iff.1 ho)
    omega
  have hl := ordBD_len 8 _ hord (by decide)
  rw [hp.length_eq] at hl
  refine ⟨?_, by omega⟩
  unfold chkAD
  have h0 := hS.h0
  have h1 := hS.h1
  have h2 := hS.bit 0 (by omega) (.inl rfl)
  have hkn : knownB d.has = true := decide_eq_true (by
    rw [show (2 : Int) ^ 0 = 1 from rfl, Int.ediv_one] at h2
    omega)
  show (knownB d.has && _ && ordBD 8 (sortO d.others)) = true
  rw [hkn, hord, Bool.true_and, Bool.and_true]
  exact List.all_eq_true.2 fun k hk => by
    obtain ⟨k1, k2⟩ := List.mem_range'_1.1 hk
    exact hG.each k k1 (by omega)
theorem AtG.in_ {N : Nat} {d : AtD} {seen : List Int} (hG : AtG N d) (hS : SeenI d seen) (hN : N ≤ 1000000) : AtD.In { d with others := sortO d.others } ∧ d.path.length ≤ N / 4 := by
  have hp := sortO_perm d.others
  have hc := hG.chk hS
  have hE : ∀ k, 1 ≤ k → k ≤ 8 → (hasB d.has k = true ∧ goodBD d k = true) ∨ zeroBD d k = true := fun k k1 k8 => by
    have := hG.each k k1 k8
    unfold eachBD at this
    cases hb : hasB d.has k
    · rw [hb] at this; exact .inr this
    · rw [hb] at this; exact .inl ⟨rfl, this⟩
  have h0 := hS.h0
  have h1 := hS.h1
  have hor : 0 ≤ d.origin ∧ d.origin ≤ 2 := by
    rcases hE 1 (by decide) (by decide) with ⟨_, h⟩ | h
    · exact wiB_iff h
    · have := of_decide_eq_true (show decide (d.origin = 0) = true from h); omega
  have hme : 0 ≤ d.med ∧ d.med ≤ 4294967295 := by
    rcases hE 4 (by decide) (by decide) with ⟨_, h⟩ | h
    · exact wiB_iff h
    · have := of_decide_eq_true (show decide (d.med = 0) = true from h); omega
  have hlo : 0 ≤ d.loc ∧ d.loc ≤ 4294967295 := by
    rcases hE 5 (by decide) (by decide) with ⟨_, h⟩ | h
    · exact wiB_iff h
    · have := of_decide_eq_true (show decide (d.loc = 0) = true from h); omega
  have has : 0 ≤ d.aas ∧ d.aas ≤ 65535 := by
    rcases hE 7 (by decide) (by decide) with ⟨_, h⟩ | h
    · exact wiB_iff h
    · have := of_decide_eq_true (show decide (d.aas = 0 ∧ d.aid = 0) = true from h); omega
  have hpa : ∀ s ∈ d.path, s.2.length ≤ 255 ∧ ∀ x ∈ s.2, 1 ≤ x ∧ x ≤ 65535 := by
    rcases hE 2 (by decide) (by decide) with ⟨_, h⟩ | h
    · intro s hs
      have := List.all_eq_true.1 (show d.path.all segBD = true from h) s hs
      unfold segBD at this
      rw [Bool.and_eq_true] at this
      exact ⟨(of_decide_eq_true this.1).2, fun x hx => of_decide_eq_true (List.all_eq_true.1 this.2 x hx)⟩
    · have := of_decide_eq_true (show decide ((d.path.length : Int) = 0) = true from h)
      have : d.path = [] := List.length_eq_zero_iff.1 (by omega)
      rw [this]; intro s hs; cases hs
  have hco : (∀ x ∈ d.comms, 0 ≤ x ∧ x ≤ 4294967295) ∧ d.comms.length ≤ 256 := by
    rcases hE 8 (by decide) (by decide) with ⟨_, h⟩ | h
    · have h' : commsB d.comms = true := h
      unfold commsB at h'
      rw [Bool.and_eq_true] at h'
      exact ⟨fun x hx => wiB_iff (List.all_eq_true.1 h'.1 x hx), of_decide_eq_true h'.2⟩
    · have := of_decide_eq_true (show decide ((d.comms.length : Int) = 0) = true from h)
      have : d.comms = [] := List.length_eq_zero_iff.1 (by omega)
      rw [this]; exact ⟨fun x hx => (by cases hx), by decide⟩
  have hpl := hG.path
  refine ⟨⟨⟨⟨by show _ ≤ d.has; omega, by show d.has ≤ _; omega⟩, ⟨by show _ ≤ d.origin; omega, by show d.origin ≤ _; omega⟩, hG.hop, ⟨by show _ ≤ d.med; omega, by show d.med ≤ _; omega⟩, ⟨by show _ ≤ d.loc; omega, by show d.loc ≤ _; omega⟩, ⟨by show _ ≤ d.aas; omega, by show d.aas ≤ _; omega⟩, hG.aid⟩, fun s hs => ?_, fun x hx => ?_, fun o ho => ?_, ⟨?_, ?_, ?_⟩⟩, by omega⟩
  · have := hpa s hs
    exact ⟨by omega, fun x hx => by have := this.2 x hx; exact ⟨by omega, by omega⟩⟩
  · have := hco.1 x hx; exact ⟨by omega, by omega⟩
  · have := hG.oths o (hp.mem_iff.1 ho)
    exact ⟨⟨by omega, by omega⟩, by omega, this.2.2.1⟩
  · show d.path.length ≤ _; omega
  · show d.comms.length ≤ _; omega
  · show (sortO d.others).length ≤ _; rw [hp.length_eq]; omega
end Go.Proofs.YtpjbofodllhjbaaGreatDoor
/- The reference's paths: parts. -/
namespace Go.Proofs.YtpjbofodllhjbaaGreatDoor
open Go.RowKit

/-- The parts of a path, as the reference reads them. -/
def partsR (v : List Int) : Option (List (Bool × List Int)) := (pathR v).bind fun p => if p.all segBD then some p else none
def PartsP (w w' : World) (v : List Int) (e : Ending) : Prop :=
  match partsR v with
  | none => e = .returned (.tuple #[.slice none 0 0, .bool false]) ∧ Frm (fun _ => False) w w'
  | some ps => ∃ ss ad c E K, e = .returned (.tuple #[.slice ad ss.length c, .bool true]) ∧ ss.map segD = ps ∧ Vec 2 ad ss.length c (segsL ss) E ∧ (∀ s ∈ ss, SegOwn K s) ∧ St (fun _ => False) w w' (E ++ K)
end Go.Proofs.YtpjbofodllhjbaaGreatDoor
/- The reference's bits: carrefourref01.Num. -/
namespace Go.Proofs.YtpjbofodllhjbaaGreatDoor
open Go.RowKit

def Bits (bs : List Int) : Prop := ∀ b ∈ bs, b = 0 ∨ b = 1
end Go.Proofs.YtpjbofodllhjbaaGreatDoor
/- The reference's prefixes: what its bits say, plainly. -/
namespace Go.Proofs.YtpjbofodllhjbaaGreatDoor
open Go.RowKit

/-- The last bits of a number. -/
def lowB (x : Int) : Nat → List Int
  | 0 => []
  | i + 1 => (x / 2 ^ i % 2) :: lowB x i
theorem lowB_len (x : Int) : ∀ i, (lowB x i).length = i
  | 0 => rfl
  | i + 1 => by rw [lowB, List.length_cons, lowB_len x i]
theorem lowB_bits (x : Int) : ∀ i, Bits (lowB x i)
  | 0 => fun b h => by cases h
  | i + 1 => fun b h => by
    rw [lowB] at h
    rcases List.mem_cons.1 h with rfl | h
    · omega
    · exact lowB_bits x i b h
end Go.Proofs.YtpjbofodllhjbaaGreatDoor
/- The reference's prefixes: carrefourref07.read. -/
namespace Go.Proofs.YtpjbofodllhjbaaGreatDoor
open Go.RowKit

def ReadP (w w' : World) (xs : List Int) (e : Ending) : Prop :=
  match netsR xs with
  | none => e = .returned (.tuple #[.slice none 0 0, .bool false]) ∧ Frm (fun _ => False) w w'
  | some ps => ∃ ad c E, e = .returned (.tuple #[.slice ad ps.length c, .bool true]) ∧ Vec 2 ad ps.length c (pfsL ps) E ∧ St (fun _ => False) w w' E
end Go.Proofs.YtpjbofodllhjbaaGreatDoor
/- The reference: missing. -/
namespace Go.Proofs.YtpjbofodllhjbaaGreatDoor
open Go.RowKit

theorem RMissing_c (w : World) (a : AtL) (h0 : 0 ≤ a.has) (h1 : a.has ≤ 511) : Calls Tryz.prog 21 #[.agg a.rcells.toArray] w fun e w' => e = .returned (.int .i64 (missI a.has)) ∧ Frm (fun _ => False) w w' := by
  have e1 : hasB a.has 1 = decide (a.has / 2 % 2 = 1) := by unfold hasB; exact decide_eq_decide.2 ⟨fun h => h.2.2, fun h => ⟨by omega, by omega, h⟩⟩
  have e2 : hasB a.has 2 = decide (a.has / 4 % 2 = 1) := by unfold hasB; exact decide_eq_decide.2 ⟨fun h => h.2.2, fun h => ⟨by omega, by omega, h⟩⟩
  have e3 : hasB a.has 3 = decide (a.has / 8 % 2 = 1) := by unfold hasB; exact decide_eq_decide.2 ⟨fun h => h.2.2, fun h => ⟨by omega, by omega, h⟩⟩
  have t1 : ∀ n : Int, 0 ≤ n → n.tmod 2 = n % 2 := fun n hn => Int.tmod_eq_emod_of_nonneg hn
  have q2 : IntKind.i64.wrap (a.has.tdiv 2) = a.has / 2 := by rw [Int.tdiv_eq_ediv_of_nonneg h0]; exact w_i64 (by omega) (by omega)
  have q4 : IntKind.i64.wrap (a.has.tdiv 4) = a.has / 4 := by rw [Int.tdiv_eq_ediv_of_nonneg h0]; exact w_i64 (by omega) (by omega)
  have q8 : IntKind.i64.wrap (a.has.tdiv 8) = a.has / 8 := by rw [Int.tdiv_eq_ediv_of_nonneg h0]; exact w_i64 (by omega) (by omega)
  refine enter Tryz.func21 rfl Tryz.ntmps21 rfl (St.start (fun _ => False) w) ?_
  refine WC.seq <| WC.region <| WL.box rfl rfl rfl (.none rfl) rfl rfl <| ?_
  intro g1 hg1
  refine WL.v (v_assign rfl rfl) rfl <| WL.nt <| WC.seq <| WC.seq <| WC.region <| WL.v (v_fieldAddr0 rfl rfl fld_48_0) rfl <| WL.v (v_load1 rfl rfl one_3 (cellAt rfl)) rfl <| ?_
  refine WL.v (v_quoT rfl rfl rfl (by decide) (q2)) rfl ?_
  refine WL.v (v_remT rfl rfl rfl (by decide)) rfl ?_
  rw [t1 _ (by omega)]
  refine WL.test (v_eql rfl rfl rfl) (.none rfl) rfl rfl (fun h7 => ?_) (fun h7 => ?_)
  ·
   refine WL.nt <| WC.cond_t rfl <| WC.seq <| WC.region <| WL.v (v_assign rfl rfl) rfl <| WL.nt <| WC.ret <| WE.then_ret <| WE.ret1 (P := Tryz.prog) (.inl rfl) Tryz.results21 rfl <| ?_
   exact fun w' h => ⟨by unfold missI; rw [e1, decide_eq_false (by omega)]; rfl, h.frm⟩
  ·
   refine WL.nt <| WC.cond_f rfl <| WC.skip <| WE.then_n <| WC.seq <| WC.seq <| WC.region <| WL.v (v_fieldAddr0 rfl rfl fld_48_0) rfl <| WL.v (v_load1 rfl rfl one_3 (cellAt rfl)) rfl <| ?_
   refine WL.v (v_quoT rfl rfl rfl (by decide) (q4)) rfl ?_
   refine WL.v (v_remT rfl rfl rfl (by decide)) rfl ?_
   rw [t1 _ (by omega)]
   refine WL.test (v_eql rfl rfl rfl) (.none rfl) rfl rfl (fun h12 => ?_) (fun h12 => ?_)
   ·
    refine WL.nt <| WC.cond_t rfl <| WC.seq <| WC.region <| WL.v (v_assign rfl rfl) rfl <| WL.nt <| WC.ret <| WE.then_ret <| WE.ret1 (P := Tryz.prog) (.inl rfl) Tryz.results21 rfl <| ?_
    exact fun w' h => ⟨by unfold missI; rw [e1, e2, decide_eq_true (by omega), decide_eq_false (by omega)]; rfl, h.frm⟩
   ·
    refine WL.nt <| WC.cond_f rfl <| WC.skip <| WE.then_n <| WC.seq <| WC.seq <| WC.region <| WL.v (v_fieldAddr0 rfl rfl fld_48_0) rfl <| WL.v (v_load1 rfl rfl one_3 (cellAt rfl)) rfl <| ?_
    refine WL.v (v_quoT rfl rfl rfl (by decide) (q8)) rfl ?_
    refine WL.v (v_remT rfl rfl rfl (by decide)) rfl ?_
    rw [t1 _ (by omega)]
    refine WL.test (v_eql rfl rfl rfl) (.none rfl) rfl rfl (fun h17 => ?_) (fun h17 => ?_)
    ·
     refine WL.nt <| WC.cond_t rfl <| WC.seq <| WC.region <| WL.v (v_assign rfl rfl) rfl <| WL.nt <| WC.ret <| WE.then_ret <| WE.ret1 (P := Tryz.prog) (.inl rfl) Tryz.results21 rfl <| ?_
     exact fun w' h => ⟨by unfold missI; rw [e1, e2, e3, decide_eq_true (by omega), decide_eq_true (by omega), decide_eq_false (by omega)]; rfl, h.frm⟩
    ·
     refine WL.nt <| WC.cond_f rfl <| WC.skip <| WE.then_n <| WC.seq <| WC.region <| WL.v (v_assign rfl rfl) rfl <| WL.nt <| WC.ret <| WE.ret1 (P := Tryz.prog) (.inl rfl) Tryz.results21 rfl <| ?_
     exact fun w' h => ⟨by unfold missI; rw [e1, e2, e3, decide_eq_true (by omega), decide_eq_true (by omega), decide_eq_true (by omega)]; rfl, h.frm⟩
end Go.Proofs.YtpjbofodllhjbaaGreatDoor
/- The reference's attributes: an attribute put in among the others, plainly. -/
namespace Go.Proofs.YtpjbofodllhjbaaGreatDoor
open Go.RowKit

end Go.Proofs.YtpjbofodllhjbaaGreatDoor
/- The reference's attributes: carrefourref06.Decode. (Under way: what stands behind the head of an attribute is not walked yet.) -/
namespace Go.Proofs.YtpjbofodllhjbaaGreatDoor
open Go.RowKit

structure ReS where
  k : Nat
  d : AtD
  seen : List Int
  a : AtL
  es : Array MapEntry
  mc : Nat
  mm : Value → Option Value
  E : List Ent
  K : List Ent
/-- What the reference holds while it reads. -/
structure ReS.Good (y : ReS) (xs : List Int) : Prop where
  k : y.k ≤ xs.length
  dec : decD AtL.zero.d [] xs = decD y.d y.seen (xs.drop y.k)
  seen : SeenI y.d y.seen
  same : y.a.d = { y.d with others := sortO y.d.others }
  own : AtOwn y.K y.a
  oths : Vec 2 y.a.oad y.a.others.length y.a.oc (othsL y.a.others) y.E
  vals : ∀ o ∈ y.a.others, OthOwn y.K o
  map : IMap (KInt .i64) y.es y.mm
  com : (8 : Int) ∉ y.seen → y.a.cad = none ∧ y.a.cc = 0
  ol : y.a.others.length ≤ y.k
  known : ∀ t : Int, (y.mm (.int .i64 t)).getD (.bool false) = .bool (decide (t ∈ y.seen))
section
variable {P : Program} {ops : Array Oper} {Q : Exit → Act → World → Prop} {n : Nat} {p : Nat → Prop} {w0 : World} {o : Oper} {l : Kn} {L : List Ent}
def loAdS (ad : Option Addr) (lo cap s : Nat) : Option Addr := ad.map fun a => ⟨a.block, sAddr a.off lo cap s, a.spot⟩
/-- x[lo:] of a slice, nil or not. -/
theorem v_slice_loN {C : World → Prop} {t e len cap lo s : Nat} {k : IntKind} {A : Int} {ad : Option Addr} {x xl : Operand} (ho : o.op = .slice t x (some xl) none none) (hx : ev l x = some (.slice ad len cap)) (hl : ev l xl = some (.int k A)) (hu : P.underlying t = some (.slice e)) (hs : (P.info? e).map (·.size) = some s) (hA : A = (lo : Int)) (hle : lo ≤ len)
    (had : ad = none ∨ ∃ b o, ad = some ⟨b, o, none⟩) : Val P C n l o (.slice (loAdS ad lo cap s) (len - lo) (cap - lo)) := by
  rcases had with rfl | ⟨b, off, rfl⟩
  · intro a w ha _
    have h1 := ha.ev hx; have h2 := ha.ev hl
    subst hA
    have hi : (0 : Int) ≤ lo ∧ (lo : Int) ≤ len := by omega
    unfold execOp
    simp [ho, h1, h2, Instr.sliceAt, run_underlying hu, Instr.slice, Instr.sliceBounds, Instr.sliceBound, asIntOf, hle, run_sizeOf hs, loAdS]
  · exact v_slice_lo ho hx hl hu hs hA hle
end
theorem Vec.cellsAt {ad : Option Addr} {c : Nat} {xs : List Int} {E : List Ent} (hV : BV ad c xs E) {w : World} (hw : ∀ e ∈ E, e.holds w) : CellsAt w ad (u8s xs) := fun hn => by
  obtain ⟨b, o, e, hr⟩ := Vec.src2 hV hn
  exact ⟨b, o, e, hr w hw⟩
theorem Vec.ad {s k c : Nat} {ad : Option Addr} {xs : List Value} {E : List Ent} (h : Vec s ad k c xs E) : ad = none ∨ ∃ b o, ad = some ⟨b, o, none⟩ := by
  rcases h with ⟨h, _⟩ | ⟨g, _, h, _⟩
  · exact .inl h
  · exact .inr ⟨g, 0, h⟩
end Go.Proofs.YtpjbofodllhjbaaGreatDoor
/- The reference's writing: carrefourref01.Bits and Right, carrefourref06.bytes, there, lay, carrefourref07.num. -/
namespace Go.Proofs.YtpjbofodllhjbaaGreatDoor
open Go.RowKit

theorem lowB_drop (x : Int) : ∀ (k n : Nat), n ≤ k → (lowB x k).drop n = lowB x (k - n)
  | k, 0, _ => by rw [List.drop_zero, Nat.sub_zero]
  | 0, n + 1, h => by omega
  | k + 1, n + 1, h => by rw [lowB, List.drop_succ_cons, lowB_drop x k n (by omega), Nat.add_sub_add_right]
theorem lowB_zero (x : Int) : ∀ k : Nat, (∀ b ∈ lowB x k, b = 0) ↔ x % 2 ^ k = 0
  | 0 => ⟨fun _ => by rw [Int.pow_zero]; omega, fun _ b h => by cases h⟩
  | k + 1 => by
    have ih := lowB_zero x k
    have hp : (0 : Int) < 2 ^ k := Int.pow_pos (by decide)
    have e : x % 2 ^ (k + 1) = (x / 2 ^ k % 2) * 2 ^ k + x % 2 ^ k := by
      rw [Int.pow_succ]
      have h1 := Int.emod_add_mul_ediv x (2 ^ k)
      have h2 := Int.emod_add_mul_ediv (x / 2 ^ k) 2
      have h3 := Int.emod_nonneg x (show (2 : Int) ^ k ≠ 0 by omega)
      have h4 := Int.emod_lt_of_pos x hp
      have h5 : 0 ≤ x / 2 ^ k % 2 ∧ x / 2 ^ k % 2 < 2 := by omega
      have h6 : x = (x / 2 ^ k % 2 * 2 ^ k + x % 2 ^ k) + (2 ^ k * 2) * (x / 2 ^ k / 2) := by
        have h7 : 2 ^ k * (x / 2 ^ k) = 2 ^ k * (x / 2 ^ k % 2 + 2 * (x / 2 ^ k / 2)) := by rw [h2]
        rw [Int.mul_add, ← Int.mul_assoc] at h7
        have h8 : 2 ^ k * (x / 2 ^ k % 2) = x / 2 ^ k % 2 * 2 ^ k := Int.mul_comm ..
        omega
      have h9 : 0 ≤ x / 2 ^ k % 2 * 2 ^ k + x % 2 ^ k ∧ x / 2 ^ k % 2 * 2 ^ k + x % 2 ^ k < 2 ^ k * 2 := by
        rcases (show x / 2 ^ k % 2 = 0 ∨ x / 2 ^ k % 2 = 1 by omega) with h | h <;> rw [h] <;> omega
      conv => lhs; rw [h6]
      rw [Int.add_mul_emod_self_left]
      exact Int.emod_eq_of_lt h9.1 h9.2
    rw [lowB, List.forall_mem_cons, ih, e]
    have h3 := Int.emod_nonneg x (show (2 : Int) ^ k ≠ 0 by omega)
    constructor
    · rintro ⟨h1, h2⟩; rw [h1, h2]; omega
    · intro h
      rcases (show x / 2 ^ k % 2 = 0 ∨ x / 2 ^ k % 2 = 1 by omega) with h1 | h1
      · rw [h1] at h ⊢; exact ⟨rfl, by omega⟩
      · rw [h1] at h; omega
theorem pow_half (x : Int) (i : Nat) : x / 2 ^ i / 2 = x / 2 ^ (i + 1) := by rw [Int.pow_succ, Int.ediv_ediv_of_nonneg (by exact Int.le_of_lt (Int.pow_pos (by decide)))]
theorem div_small {x : Int} (h0 : 0 ≤ x) {m : Int} (h : x ≤ m) (i : Nat) : 0 ≤ x / 2 ^ i ∧ x / 2 ^ i ≤ m := by
  have hp : (0 : Int) < 2 ^ i := Int.pow_pos (by decide)
  exact ⟨Int.ediv_nonneg h0 (by omega), Int.le_trans (Int.ediv_le_self _ h0) h⟩
theorem RBits_c (w : World) (x : Int) (h0 : 0 ≤ x) (h1 : x ≤ 4294967295) : Calls Tryz.prog 40 #[.int .u32 x] w fun e w' => ∃ ad c E, e = .returned (.slice ad 32 c) ∧ Vec 1 ad 32 c (i64s (lowB x 32)) E ∧ St (fun _ => False) w w' E := by
  refine enter Tryz.func40 rfl Tryz.ntmps40 rfl (St.start (fun _ => False) w) ?_
  refine WC.seq <| WC.region <| WL.v (v_assign rfl rfl) rfl <| WL.nt <| WC.seq <| WC.region <| ?_
  refine WL.buildSlice rfl rfl Tryz.underlying27 sz_3 zero_3 rfl (by decide) rfl (.none rfl) rfl rfl ?_
  intro g5 hg5
  refine WL.v (v_assign rfl rfl) rfl <| WL.nt <| WC.seq <| WC.seq <| WC.region <| WL.v (v_assign rfl rfl) rfl <| WL.nt <| WC.block <| ?_
  refine WC.loop (fun y : Nat × Option Addr × Nat × List Ent => [(4, .int .i64 y.1), (3, .slice y.2.1 y.1 y.2.2.1), (0, .int .u32 (x / 2 ^ y.1))]) (fun y => y.2.2.2 ++ []) (fun y => y.1 ≤ 32 ∧ Vec 1 y.2.1 y.1 y.2.2.1 (i64s (lowB x y.1)) y.2.2.2) (fun y => 32 - y.1) (0, some ⟨g5, 0, none⟩, 0, [.row g5 []]) ⟨Nat.zero_le _, Vec.row (k := 0) rfl rfl (Nat.le_refl _)⟩ (.cons rfl (.cons rfl (.int rfl (by rw [Int.pow_zero]; omega) .nil))) (.refl _) ?_
  rintro ⟨i, ad, c, E⟩ ⟨hi, hV⟩
  dsimp only at hi hV
  dsimp only
  have hd := div_small h0 h1 i
  refine WC.seq <| WC.seq <| WC.region <| WL.v (v_move rfl rfl) rfl <| ?_
  refine WL.test (v_lss rfl rfl rfl) (.none rfl) rfl rfl (fun h7 => ?_) (fun h7 => ?_)
  ·
   refine WL.nt <| WC.cond_t rfl <| WC.skip <| WE.then_n <| WC.seq <| WC.block <| WC.seq <| WC.region <| WL.v (v_move rfl rfl) rfl <| ?_
   refine WL.v (v_rem rfl rfl rfl (by omega) (by omega)) rfl ?_
   refine WL.v (v_conv rfl rfl Tryz.underlying3 Tryz.underlying22 (w_i64 (by omega) (by omega))) rfl ?_
   refine WL.buildSlice rfl rfl Tryz.underlying27 sz_3 zero_3 rfl (by decide) rfl (.none rfl) rfl rfl ?_
   intro g13 hg13
   refine WL.as (L' := [.row g13 [.int .i64 (x / 2 ^ i % 2)]] ++ (E ++ [])) rfl <| WL.v (v_move rfl rfl) rfl <| ?_
   refine WL.appendL rfl rfl rfl Tryz.underlying27 Tryz.underlying27 sz_3 by_3 zero_3 rfl rfl (Vec.row (k := 1) (s := 1) (c := 1) rfl rfl (Nat.le_refl _)) (new := i64s (lowB x i)) (fun h => (hV.src (L := .row g13 [.int .i64 (x / 2 ^ i % 2)] :: (E ++ [])) (fun e he => List.mem_cons_of_mem _ (List.mem_append_left _ he)) (by rw [i64s_len, lowB_len]; omega)).elim fun b1 h1 => h1.elim fun o1 h2 => ⟨b1, o1, h2.1, fun w hS => h2.2 _ _ w hS⟩) (by rw [i64s_len, lowB_len, Nat.mul_one]) (i64s_one _) (by omega) (.none rfl) rfl rfl ?_
   intro ad15 c15 E15 hV15 hr15
   rw [show List.take (1 * 1) [Value.int .i64 (x / 2 ^ i % 2)] ++ i64s (lowB x i) = i64s (lowB x (i + 1)) from rfl, Nat.add_comm 1 i] at hV15
   rw [Nat.add_comm 1 i]
   refine WL.v (v_assign rfl rfl) rfl <| WL.nt <| WC.region <| WL.v (v_move rfl rfl) rfl <| ?_
   refine WL.v (v_quo rfl rfl rfl (by omega) (by omega) (show _ = x / 2 ^ (i + 1) from by first | exact (w_u32 (by omega) (by omega)).trans (pow_half x i) | (rw [← pow_half]; exact w_u32 (by omega) (by omega)))) rfl ?_
   refine WL.v (v_assign rfl rfl) rfl <| WL.nil <| WE.block_n <| WE.then_n <| WC.region <| WL.v (v_move rfl rfl) rfl <| ?_
   refine WL.v (v_add rfl rfl rfl (w_i64 (by omega) (by omega))) rfl ?_
   refine WL.v (v_assign rfl rfl) rfl <| WL.nil <| ?_
   exact WE.next (i + 1, ad15, c15, E15) (by dsimp only; omega) ⟨by dsimp only; omega, hV15⟩ (.int rfl (by dsimp only; omega) (.cons rfl (.cons rfl .nil))) (List.Sublist.append_left (List.nil_sublist _) _)
  ·
   refine WL.nt <| WC.cond_f rfl <| WC.exit <| WE.then_exit <| WE.then_exit <| WE.block_hit <| WE.then_n <| WC.seq <| WC.region <| WL.v (v_move rfl rfl) rfl <| ?_
   refine WL.v (v_assign rfl rfl) rfl <| WL.nt <| WC.ret <| WE.ret1 (P := Tryz.prog) (.inl rfl) Tryz.results40 rfl <| ?_
   have ei : i = 32 := (by omega)
   rw [ei] at hV ⊢
   exact fun w' h => ⟨ad, c, E, rfl, hV, h.sub (List.sublist_append_left _ _)⟩
theorem pfOk_bits {p : PfL} : pfOk p = true ↔ 0 ≤ p.len ∧ p.len ≤ 32 ∧ ∀ b ∈ lowB p.addr (32 - p.len.toNat), b = 0 := by
  unfold pfOk
  rw [decide_eq_true_iff]
  have hi : ∀ n : Int, 0 ≤ n → n ≤ 32 → inI n = n := fun n h1 h2 => by unfold inI; omega
  constructor
  · rintro ⟨h1, h2⟩
    have hb := inI_b p.len
    rw [← h2] at hb
    refine ⟨hb.1, hb.2, (lowB_zero _ _).2 ?_⟩
    unfold cutI at h1
    rw [hi _ hb.1 hb.2] at h1
    have e : (32 - p.len).toNat = 32 - p.len.toNat := by omega
    rw [e, ← pow_cast] at h1
    omega
  · rintro ⟨h1, h2, h3⟩
    have h4 := (lowB_zero _ _).1 h3
    have e : (32 - p.len).toNat = 32 - p.len.toNat := by omega
    refine ⟨?_, (hi _ h1 h2).symm⟩
    unfold cutI
    rw [hi _ h1 h2, e, ← pow_cast]
    omega
set_option maxHeartbeats 1000000 in
theorem RRight01_c (w : World) (p : PfL) (hu : U32 p.addr) : Calls Tryz.prog 20 #[.int .u32 p.addr, .int .i64 p.len] w fun e w' => e = .returned (.bool (pfOk p)) ∧ Frm (fun _ => False) w w' := by
  refine enter Tryz.func20 rfl Tryz.ntmps20 rfl (St.start (fun _ => False) w) ?_
  refine WC.seq <| WC.region <| WL.v (v_assign rfl rfl) rfl <| WL.nt <| WC.seq <| WC.seq <| WC.region <| WL.v (v_move rfl rfl) rfl <| ?_
  refine WL.test (v_lss rfl rfl rfl) (.none rfl) rfl rfl (fun h8 => ?_) (fun h8 => ?_)
  ·
   refine WL.v (v_move rfl rfl) rfl ?_
   iterate 2 refine WL.sk rfl ?_
   refine WL.v (v_pick_t rfl rfl rfl) rfl <| WL.nt <| WC.cond_t rfl <| WC.seq <| WC.region <| WL.v (v_assign rfl rfl) rfl <| WL.nt <| WC.ret <| WE.then_ret <| WE.ret1 (P := Tryz.prog) (.inl rfl) Tryz.results20 rfl <| ?_
   have e0 : pfOk p = false := (by
     cases h : pfOk p
     · rfl
     · have := pfOk_bits.1 h; omega)
   exact fun w' h => ⟨by rw [e0], h.frm⟩
  ·
   refine WL.v (v_move rfl rfl) rfl <| WL.val (v_move rfl rfl) (.some rfl rfl rfl) rfl rfl <| ?_
   refine WL.test (v_gtr rfl rfl rfl) (.some rfl rfl rfl) rfl rfl (fun h11 => ?_) (fun h11 => ?_)
   ·
    refine WL.v (v_pick_f rfl rfl rfl) rfl <| WL.nt <| WC.cond_t rfl <| WC.seq <| WC.region <| WL.v (v_assign rfl rfl) rfl <| WL.nt <| WC.ret <| WE.then_ret <| WE.ret1 (P := Tryz.prog) (.inl rfl) Tryz.results20 rfl <| ?_
    have e0 : pfOk p = false := (by
      cases h : pfOk p
      · rfl
      · have := pfOk_bits.1 h; omega)
    exact fun w' h => ⟨by rw [e0], h.frm⟩
   ·
    refine WL.v (v_pick_f rfl rfl rfl) rfl <| WL.nt <| WC.cond_f rfl <| WC.skip <| WE.then_n <| WC.seq <| WC.seq <| WC.region <| WL.v (v_move rfl rfl) rfl <| WL.call rfl rfl ck_40 (.none rfl) rfl rfl <| ?_
    intro w1 hS
    refine (RBits_c w1 p.addr hu.1 hu.2).mono ?_
    rintro e w' ⟨ad, c, E, rfl, hV, hS'⟩
    refine ⟨_, _, rfl, hS.join hS', ?_⟩
    refine WL.v (v_move rfl rfl) rfl ?_
    obtain ⟨n, hn⟩ := Int.eq_ofNat_of_zero_le (show 0 ≤ p.len by omega)
    rw [hn]
    have hvl := hV.len
    have hls := lowB_drop p.addr 32 n (by omega)
    have hlz : p.len.toNat = n := (by omega)
    refine WL.v ((v_slice_loN (lo := n) rfl rfl rfl Tryz.underlying27 sz_3 rfl (by omega) hV.ad)) rfl ?_
    refine WL.v (v_len_slice rfl rfl Tryz.underlying27) rfl <| WL.v (v_move rfl rfl) rfl <| WL.nt <| WC.block <| ?_
    refine WC.loop (fun i : Nat => [(18, .int .i64 i), (17, .int .i64 ((32 - n : Nat) : Int)), (16, .slice (loAdS ad n c 1) (32 - n) (c - n))]) (fun _ => E ++ []) (fun i => i ≤ 32 - n ∧ ∀ j b, j < i → (lowB p.addr (32 - n))[j]? = some b → b = 0) (fun i => 32 - n - i) 0 ⟨Nat.zero_le _, fun j b h => by omega⟩ (.cons rfl (.cons rfl (.cons rfl .nil))) (.refl _) ?_
    rintro i ⟨hi, hz⟩
    refine WC.seq <| WC.region <| ?_
    refine WL.test (v_lss rfl rfl rfl) (.none rfl) rfl rfl (fun h19 => ?_) (fun h19 => ?_)
    ·
     refine WL.nt <| WC.seq <| WC.cond_t rfl <| WC.skip <| WE.then_n <| WC.seq <| WC.block <| WC.seq <| WC.region <| ?_
     obtain ⟨b1, o1, e1, r1⟩ := hV.src (L := E ++ []) (fun e he => List.mem_append_left _ he) (by rw [i64s_len, lowB_len]; omega)
     obtain ⟨b, hb⟩ : ∃ b, (lowB p.addr (32 - n))[i]? = some b := ⟨_, List.getElem?_eq_getElem (by rw [lowB_len]; omega)⟩
     have hb2 : (lowB p.addr 32)[n + i]? = some b := (by rw [← List.getElem?_drop, hls]; exact hb)
     have hbb := lowB_bits p.addr 32 b (List.mem_of_getElem? hb2)
     refine WL.v ((v_indexAddr (b := b1) (off := o1 + n) (lo := i) rfl (by show some (Value.slice (loAdS ad n c 1) _ _) = _; rw [e1]; show some (Value.slice (some ⟨b1, sAddr o1 n c 1, none⟩) _ _) = _; unfold sAddr; rw [if_neg (by omega), Nat.mul_one]) rfl Tryz.underlying27 sz_3 rfl (by omega))) rfl ?_
     refine WL.v (v_load1 rfl rfl one_3 ((fun w hS => by have := r1 _ _ w hS (n + i) _ (i64s_get hb2); rwa [show o1 + n + i * 1 = o1 + (n + i) by omega]))) rfl ?_
     refine WL.v (v_assign rfl rfl) rfl <| WL.nt <| WC.seq <| WC.region <| WL.v (v_move rfl rfl) rfl <| ?_
     refine WL.test (v_neq rfl rfl rfl) (.none rfl) rfl rfl (fun h23 => ?_) (fun h23 => ?_)
     ·
      refine WL.nt <| WC.cond_t rfl <| WC.seq <| WC.region <| WL.v (v_assign rfl rfl) rfl <| WL.nt <| WC.ret <| WE.block_ret <| WE.then_ret <| WE.then_ret <| ?_
      refine WE.block_ret <| WE.then_ret <| WE.ret1 (P := Tryz.prog) (.inl rfl) Tryz.results20 rfl <| ?_
      have e0 : pfOk p = false := (by
        cases h : pfOk p
        · rfl
        · have := (pfOk_bits.1 h).2.2
          rw [hlz] at this
          exact absurd (this b (List.mem_of_getElem? hb)) h23)
      exact fun w' h => ⟨by rw [e0], h.frm⟩
     ·
      refine WL.nt <| WC.cond_f rfl <| WC.skip <| WE.block_n <| WE.then_n <| WC.region <| ?_
      refine WL.v (v_add rfl rfl rfl (show _ = ((i + 1 : Nat) : Int) from (w_i64 (by omega) (by omega)).trans (by omega))) rfl ?_
      refine WL.v (v_move rfl rfl) rfl <| WL.nil <| ?_
      exact WE.next (i + 1) (by omega) ⟨by omega, fun j b' hj hb' => by
      rcases Nat.lt_or_ge j i with h | h
      · exact hz j b' h hb'
      · obtain rfl : j = i := by omega
        rw [hb] at hb'; cases hb'; omega⟩ (.cons rfl (.cons rfl (.cons rfl .nil))) (.refl _)
    ·
     refine WL.nt <| WC.seq <| WC.cond_f rfl <| WC.exit <| WE.then_exit <| WE.then_exit <| WE.block_hit <| WE.then_n <| WC.seq <| WC.region <| ?_
     refine WL.v (v_assign rfl rfl) rfl <| WL.nt <| WC.ret <| WE.ret1 (P := Tryz.prog) (.inl rfl) Tryz.results20 rfl <| ?_
     have e0 : pfOk p = true := pfOk_bits.2 ⟨by omega, by omega, fun b hb => by
       rw [hlz] at hb
       obtain ⟨j, hj, e⟩ := List.getElem_of_mem hb
       rw [lowB_len] at hj
       exact hz j b (by omega) (by rw [← e, List.getElem?_eq_getElem])⟩
     exact fun w' h => ⟨by rw [e0], h.frm⟩
theorem pow_byte (x : Int) (i : Nat) : x / 2 ^ (8 * i) / 256 = x / 2 ^ (8 * (i + 1)) := by
  rw [show (256 : Int) = 2 ^ 8 by decide, Int.ediv_ediv_of_nonneg (by exact Int.le_of_lt (Int.pow_pos (by decide))), ← Int.pow_add, Nat.mul_add, Nat.mul_one]
theorem RBytes06_c (w : World) (x : Int) (n : Nat) (h0 : 0 ≤ x) (h1 : x ≤ 4611686018427387904) (hn : n ≤ 8) : Calls Tryz.prog 44 #[.int .i64 x, .int .i64 n] w fun e w' => ∃ ad c E, e = .returned (.slice ad n c) ∧ BV ad c (numB x n) E ∧ St (fun _ => False) w w' E := by
  refine enter Tryz.func44 rfl Tryz.ntmps44 rfl (St.start (fun _ => False) w) ?_
  refine WC.seq <| WC.region <| WL.v (v_assign rfl rfl) rfl <| WL.nt <| WC.seq <| WC.region <| ?_
  refine WL.buildSlice rfl rfl Tryz.underlying37 sz_5 zero_5 rfl (by decide) rfl (.none rfl) rfl rfl ?_
  intro g7 hg7
  refine WL.v (v_assign rfl rfl) rfl <| WL.nt <| WC.seq <| WC.seq <| WC.region <| WL.v (v_assign rfl rfl) rfl <| WL.nt <| WC.block <| ?_
  refine WC.loop (fun y : Nat × Option Addr × Nat × List Ent => [(6, .int .i64 y.1), (5, .slice y.2.1 y.1 y.2.2.1), (1, .int .i64 n), (0, .int .i64 (x / 2 ^ (8 * y.1)))]) (fun y => y.2.2.2 ++ []) (fun y => y.1 ≤ n ∧ Vec 1 y.2.1 y.1 y.2.2.1 (u8s (numB x y.1)) y.2.2.2) (fun y => n - y.1) (0, some ⟨g7, 0, none⟩, 0, [.row g7 []]) ⟨Nat.zero_le _, Vec.row (k := 0) rfl rfl (Nat.le_refl _)⟩ (.cons rfl (.cons rfl (.cons rfl (.int rfl (by rw [Nat.mul_zero, Int.pow_zero]; omega) .nil)))) (.refl _) ?_
  rintro ⟨i, ad, c, E⟩ ⟨hi, hV⟩
  dsimp only at hi hV
  dsimp only
  have hd := div_small h0 h1 (8 * i)
  refine WC.seq <| WC.seq <| WC.region <| WL.v (v_move rfl rfl) rfl <| WL.v (v_move rfl rfl) rfl <| ?_
  refine WL.test (v_lss rfl rfl rfl) (.none rfl) rfl rfl (fun h10 => ?_) (fun h10 => ?_)
  ·
   refine WL.nt <| WC.cond_t rfl <| WC.skip <| WE.then_n <| WC.seq <| WC.block <| WC.seq <| WC.region <| WL.v (v_move rfl rfl) rfl <| ?_
   refine WL.v (v_rem rfl rfl rfl (by omega) (by omega)) rfl ?_
   refine WL.v (v_conv rfl rfl Tryz.underlying5 Tryz.underlying3 (show _ = x / 2 ^ (8 * i) % 256 from (w_u8m _).trans (by omega))) rfl ?_
   refine WL.buildSlice rfl rfl Tryz.underlying37 sz_5 zero_5 rfl (by decide) rfl (.none rfl) rfl rfl ?_
   intro g16 hg16
   refine WL.as (L' := [.row g16 [.int .u8 (x / 2 ^ (8 * i) % 256)]] ++ (E ++ [])) rfl <| WL.v (v_move rfl rfl) rfl <| ?_
   refine WL.appendL rfl rfl rfl Tryz.underlying37 Tryz.underlying37 sz_5 by_5 zero_5 rfl rfl (Vec.row (k := 1) (s := 1) (c := 1) rfl rfl (Nat.le_refl _)) (new := u8s (numB x i)) (fun h => (hV.src (L := .row g16 [.int .u8 (x / 2 ^ (8 * i) % 256)] :: (E ++ [])) (fun e he => List.mem_cons_of_mem _ (List.mem_append_left _ he)) (by rw [u8s_len, numB_len]; omega)).elim fun b1 h1 => h1.elim fun o1 h2 => ⟨b1, o1, h2.1, fun w hS => h2.2 _ _ w hS⟩) (by rw [u8s_len, numB_len, Nat.mul_one]) (u8s_one _) (by omega) (.none rfl) rfl rfl ?_
   intro ad18 c18 E18 hV18 hr18
   rw [show List.take (1 * 1) [Value.int .u8 (x / 2 ^ (8 * i) % 256)] ++ u8s (numB x i) = u8s (numB x (i + 1)) from rfl, Nat.add_comm 1 i] at hV18
   rw [Nat.add_comm 1 i]
   refine WL.v (v_assign rfl rfl) rfl <| WL.nt <| WC.region <| WL.v (v_move rfl rfl) rfl <| ?_
   refine WL.v (v_quo rfl rfl rfl (by omega) (by omega) (show _ = x / 2 ^ (8 * (i + 1)) from by rw [← pow_byte]; exact w_i64 (by omega) (by omega))) rfl ?_
   refine WL.v (v_assign rfl rfl) rfl <| WL.nil <| WE.block_n <| WE.then_n <| WC.region <| WL.v (v_move rfl rfl) rfl <| ?_
   refine WL.v (v_add rfl rfl rfl (w_i64 (by omega) (by omega))) rfl ?_
   refine WL.v (v_assign rfl rfl) rfl <| WL.nil <| ?_
   exact WE.next (i + 1, ad18, c18, E18) (by dsimp only; omega) ⟨by dsimp only; omega, hV18⟩ (.int rfl (by dsimp only; omega) (.cons rfl (.cons rfl (.cons rfl .nil)))) (List.Sublist.append_left (List.nil_sublist _) _)
  ·
   refine WL.nt <| WC.cond_f rfl <| WC.exit <| WE.then_exit <| WE.then_exit <| WE.block_hit <| WE.then_n <| WC.seq <| WC.region <| WL.v (v_move rfl rfl) rfl <| ?_
   refine WL.v (v_assign rfl rfl) rfl <| WL.nt <| WC.ret <| WE.ret1 (P := Tryz.prog) (.inl rfl) Tryz.results44 rfl <| ?_
   have ei : i = n := (by omega)
   rw [ei] at hV ⊢
   exact fun w' h => ⟨ad, c, E, rfl, by unfold BV; rw [numB_len]; exact hV, h.sub (List.sublist_append_left _ _)⟩
theorem RNum07_c (w : World) (x : Int) (n : Nat) (h0 : 0 ≤ x) (h1 : x ≤ 4611686018427387904) (hn : n ≤ 8) : Calls Tryz.prog 19 #[.int .i64 x, .int .i64 n] w fun e w' => ∃ ad c E, e = .returned (.slice ad n c) ∧ BV ad c (numB x n) E ∧ St (fun _ => False) w w' E := by
  refine enter Tryz.func19 rfl Tryz.ntmps19 rfl (St.start (fun _ => False) w) ?_
  refine WC.seq <| WC.region <| WL.v (v_assign rfl rfl) rfl <| WL.nt <| WC.seq <| WC.region <| ?_
  refine WL.buildSlice rfl rfl Tryz.underlying37 sz_5 zero_5 rfl (by decide) rfl (.none rfl) rfl rfl ?_
  intro g7 hg7
  refine WL.v (v_assign rfl rfl) rfl <| WL.nt <| WC.seq <| WC.seq <| WC.region <| WL.v (v_assign rfl rfl) rfl <| WL.nt <| WC.block <| ?_
  refine WC.loop (fun y : Nat × Option Addr × Nat × List Ent => [(6, .int .i64 y.1), (5, .slice y.2.1 y.1 y.2.2.1), (1, .int .i64 n), (0, .int .i64 (x / 2 ^ (8 * y.1)))]) (fun y => y.2.2.2 ++ []) (fun y => y.1 ≤ n ∧ Vec 1 y.2.1 y.1 y.2.2.1 (u8s (numB x y.1)) y.2.2.2) (fun y => n - y.1) (0, some ⟨g7, 0, none⟩, 0, [.row g7 []]) ⟨Nat.zero_le _, Vec.row (k := 0) rfl rfl (Nat.le_refl _)⟩ (.cons rfl (.cons rfl (.cons rfl (.int rfl (by rw [Nat.mul_zero, Int.pow_zero]; omega) .nil)))) (.refl _) ?_
  rintro ⟨i, ad, c, E⟩ ⟨hi, hV⟩
  dsimp only at hi hV
  dsimp only
  have hd := div_small h0 h1 (8 * i)
  refine WC.seq <| WC.seq <| WC.region <| WL.v (v_move rfl rfl) rfl <| WL.v (v_move rfl rfl) rfl <| ?_
  refine WL.test (v_lss rfl rfl rfl) (.none rfl) rfl rfl (fun h10 => ?_) (fun h10 => ?_)
  ·
   refine WL.nt <| WC.cond_t rfl <| WC.skip <| WE.then_n <| WC.seq <| WC.block <| WC.seq <| WC.region <| WL.v (v_move rfl rfl) rfl <| ?_
   refine WL.v (v_rem rfl rfl rfl (by omega) (by omega)) rfl ?_
   refine WL.v (v_conv rfl rfl Tryz.underlying5 Tryz.underlying3 (show _ = x / 2 ^ (8 * i) % 256 from (w_u8m _).trans (by omega))) rfl ?_
   refine WL.buildSlice rfl rfl Tryz.underlying37 sz_5 zero_5 rfl (by decide) rfl (.none rfl) rfl rfl ?_
   intro g16 hg16
   refine WL.as (L' := [.row g16 [.int .u8 (x / 2 ^ (8 * i) % 256)]] ++ (E ++ [])) rfl <| WL.v (v_move rfl rfl) rfl <| ?_
   refine WL.appendL rfl rfl rfl Tryz.underlying37 Tryz.underlying37 sz_5 by_5 zero_5 rfl rfl (Vec.row (k := 1) (s := 1) (c := 1) rfl rfl (Nat.le_refl _)) (new := u8s (numB x i)) (fun h => (hV.src (L := .row g16 [.int .u8 (x / 2 ^ (8 * i) % 256)] :: (E ++ [])) (fun e he => List.mem_cons_of_mem _ (List.mem_append_left _ he)) (by rw [u8s_len, numB_len]; omega)).elim fun b1 h1 => h1.elim fun o1 h2 => ⟨b1, o1, h2.1, fun w hS => h2.2 _ _ w hS⟩) (by rw [u8s_len, numB_len, Nat.mul_one]) (u8s_one _) (by omega) (.none rfl) rfl rfl ?_
   intro ad18 c18 E18 hV18 hr18
   rw [show List.take (1 * 1) [Value.int .u8 (x / 2 ^ (8 * i) % 256)] ++ u8s (numB x i) = u8s (numB x (i + 1)) from rfl, Nat.add_comm 1 i] at hV18
   rw [Nat.add_comm 1 i]
   refine WL.v (v_assign rfl rfl) rfl <| WL.nt <| WC.region <| WL.v (v_move rfl rfl) rfl <| ?_
   refine WL.v (v_quo rfl rfl rfl (by omega) (by omega) (show _ = x / 2 ^ (8 * (i + 1)) from by rw [← pow_byte]; exact w_i64 (by omega) (by omega))) rfl ?_
   refine WL.v (v_assign rfl rfl) rfl <| WL.nil <| WE.block_n <| WE.then_n <| WC.region <| WL.v (v_move rfl rfl) rfl <| ?_
   refine WL.v (v_add rfl rfl rfl (w_i64 (by omega) (by omega))) rfl ?_
   refine WL.v (v_assign rfl rfl) rfl <| WL.nil <| ?_
   exact WE.next (i + 1, ad18, c18, E18) (by dsimp only; omega) ⟨by dsimp only; omega, hV18⟩ (.int rfl (by dsimp only; omega) (.cons rfl (.cons rfl (.cons rfl .nil)))) (List.Sublist.append_left (List.nil_sublist _) _)
  ·
   refine WL.nt <| WC.cond_f rfl <| WC.exit <| WE.then_exit <| WE.then_exit <| WE.block_hit <| WE.then_n <| WC.seq <| WC.region <| WL.v (v_move rfl rfl) rfl <| ?_
   refine WL.v (v_assign rfl rfl) rfl <| WL.nt <| WC.ret <| WE.ret1 (P := Tryz.prog) (.inl rfl) Tryz.results19 rfl <| ?_
   have ei : i = n := (by omega)
   rw [ei] at hV ⊢
   exact fun w' h => ⟨ad, c, E, rfl, by unfold BV; rw [numB_len]; exact hV, h.sub (List.sublist_append_left _ _)⟩
theorem RThere_c (w : World) (x : Int) (t : Nat) (h0 : 0 ≤ x) (h1 : x ≤ 4611686018427387904) (ht : 1 ≤ t ∧ t ≤ 8) : Calls Tryz.prog 42 #[.int .i64 x, .int .i64 t] w fun e w' => e = .returned (.bool (hasB x t)) ∧ Frm (fun _ => False) w w' := by
  refine enter Tryz.func42 rfl Tryz.ntmps42 rfl (St.start (fun _ => False) w) ?_
  refine WC.seq <| WC.region <| WL.v (v_assign rfl rfl) rfl <| WL.nt <| WC.seq <| WC.seq <| WC.region <| WL.v (v_assign rfl rfl) rfl <| WL.nt <| WC.block <| ?_
  refine WC.loop (fun i : Nat => [(5, .int .i64 i), (1, .int .i64 t), (0, .int .i64 (x / 2 ^ i))]) (fun _ => []) (fun i => i ≤ t) (fun i => t - i) 0 (Nat.zero_le _) (.cons rfl (.cons rfl (.int rfl (by rw [Int.pow_zero]; omega) .nil))) (.refl _) ?_
  intro i hi
  have hd := div_small h0 h1 i
  refine WC.seq <| WC.seq <| WC.region <| WL.v (v_move rfl rfl) rfl <| WL.v (v_move rfl rfl) rfl <| ?_
  refine WL.test (v_lss rfl rfl rfl) (.none rfl) rfl rfl (fun h8 => ?_) (fun h8 => ?_)
  ·
   refine WL.nt <| WC.cond_t rfl <| WC.skip <| WE.then_n <| WC.seq <| WC.block <| WC.region <| WL.v (v_move rfl rfl) rfl <| ?_
   refine WL.v (v_quo rfl rfl rfl (by omega) (by omega) (show _ = x / 2 ^ (i + 1) from by rw [← pow_half]; exact w_i64 (by omega) (by omega))) rfl ?_
   refine WL.v (v_assign rfl rfl) rfl <| WL.nil <| WE.block_n <| WE.then_n <| WC.region <| WL.v (v_move rfl rfl) rfl <| ?_
   refine WL.v (v_add rfl rfl rfl (w_i64 (by omega) (by omega))) rfl ?_
   refine WL.v (v_assign rfl rfl) rfl <| WL.nil <| ?_
   exact WE.next (i + 1) (by omega) (by omega) (.int rfl (by omega) (.cons rfl (.cons rfl .nil))) (.refl _)
  ·
   refine WL.nt <| WC.cond_f rfl <| WC.exit <| WE.then_exit <| WE.then_exit <| WE.block_hit <| WE.then_n <| WC.seq <| WC.region <| WL.v (v_move rfl rfl) rfl <| ?_
   refine WL.v (v_rem rfl rfl rfl (by omega) (by omega)) rfl ?_
   refine WL.test (v_eql rfl rfl rfl) (.none rfl) rfl rfl (fun h15 => ?_) (fun h15 => ?_)
   ·
    refine WL.v (v_assign rfl rfl) rfl <| WL.nt <| WC.ret <| WE.ret1 (P := Tryz.prog) (.inl rfl) Tryz.results42 rfl <| ?_
    have ei : i = t := (by omega)
    rw [ei] at h15
    first | exact fun w' h => ⟨by unfold hasB; rw [decide_eq_true ⟨ht.1, ht.2, by omega⟩], h.frm⟩ | exact fun w' h => ⟨by unfold hasB; rw [decide_eq_false (fun hh => h15 (by omega))], h.frm⟩
   ·
    refine WL.v (v_assign rfl rfl) rfl <| WL.nt <| WC.ret <| WE.ret1 (P := Tryz.prog) (.inl rfl) Tryz.results42 rfl <| ?_
    have ei : i = t := (by omega)
    rw [ei] at h15
    first | exact fun w' h => ⟨by unfold hasB; rw [decide_eq_true ⟨ht.1, ht.2, by omega⟩], h.frm⟩ | exact fun w' h => ⟨by unfold hasB; rw [decide_eq_false (fun hh => h15 (by omega))], h.frm⟩
end Go.Proofs.YtpjbofodllhjbaaGreatDoor
/- The engine: a region's operations cut in two: what stands behind is walked once. -/
namespace Go.Proofs.YtpjbofodllhjbaaGreatDoor
open Go.RowKit

section
variable {P : Program} {ops : Array Oper} {Q : Exit → Act → World → Prop} {n : Nat} {p : Nat → Prop} {w0 : World} {l : Kn} {L : List Ent}
theorem upon_then {o : Oper} {a : Act} {next K : Act → World → Prop} (r : Result _root_.Go.Next) (h : o.upon P a next (Exit.then K Q) r) : o.upon P a next Q r := by
  cases r with
  | ok n w' => cases n <;> exact h
  | halt x w' => cases x <;> exact h
theorem upon_to {o : Oper} {a : Act} {next K : Act → World → Prop} (r : Result _root_.Go.Next) (h : o.upon P a next Q r) : o.upon P a next (Exit.then K Q) r := by
  cases r with
  | ok n w' => cases n <;> exact h
  | halt x w' => cases x <;> exact h
theorem wpList_app (ys : List Oper) : ∀ (xs : List Oper) (a : Act) (w : World), wpList P ops (Exit.then (wpList P ops Q ys) Q) xs a w → wpList P ops Q (xs ++ ys) a w
  | [], _, _, h => h
  | o :: xs, a, w, h => by
    rw [List.cons_append]
    unfold wpList at h ⊢
    split
    · rename_i hw
      rw [if_pos hw] at h
      rcases h with h | h
      · exact .inl (Oper.wp_mono (fun a' w' h' => wpList_app ys xs a' w' h') (upon_then _ h))
      · exact .inr h
    · rename_i hw
      rw [if_neg hw] at h
      exact wpList_app ys xs _ _ h
/-- The first k operations, and what is said behind them. -/
theorem WL.cut {ι : Type} {os : List Oper} (k : Nat) (lI : ι → Kn) (LI : ι → List Ent) (good : ι → Prop) (h : WL P ops (Exit.then (Mid lI LI good n p w0) Q) n p w0 (os.take k) l L)
    (hy : ∀ i, good i → WL P ops Q n p w0 (os.drop k) (lI i) (LI i)) : WL P ops Q n p w0 os l L := fun a w ha hS => by
  have h1 : wpList P ops (Exit.then (wpList P ops Q (os.drop k)) Q) (os.take k) a w := by
    have h2 := h a w ha hS
    have mono : ∀ (xs : List Oper) (a : Act) (w : World), wpList P ops (Exit.then (Mid lI LI good n p w0) Q) xs a w → wpList P ops (Exit.then (wpList P ops Q (os.drop k)) Q) xs a w := by
      intro xs
      induction xs with
      | nil => rintro a w ⟨i, hi, hA, hW⟩; exact hy i hi a w hA hW
      | cons o xs ih =>
        intro a w h
        unfold wpList at h ⊢
        split
        · rename_i hw
          rw [if_pos hw] at h
          rcases h with h | h
          · have h3 : Oper.wp P o a w (wpList P ops (Exit.then (Mid lI LI good n p w0) Q) xs) Q := upon_then _ h
            have h4 := Oper.wp_mono (fun a' w' h' => ih a' w' h') h3
            exact .inl (upon_to _ h4)
          · exact .inr h
        · rename_i hw
          rw [if_neg hw] at h
          exact ih _ _ h
    exact mono _ a w h2
  have := wpList_app (os.drop k) (os.take k) a w h1
  rwa [List.take_append_drop] at this
theorem WL.nilC {K : Act → World → Prop} (h : WE (Exit.then K Q) .normal n p w0 l L) : WL P ops (Exit.then K Q) n p w0 [] l L := fun a w ha hS => h a w ha hS
end
end Go.Proofs.YtpjbofodllhjbaaGreatDoor
