/- Texts joined: engine, contracts and laws, in the order in which they build. -/
import Derived.OrdersHeld
import Derived.Test.YtcmpamnhegndnaaGreatDoorBdPeerMeets
namespace Go.Proofs.YtcmpamnhegndnaaGreatDoor
open Go.RowKit

theorem putE_long {fl t : Int} {v : List Int} (hf : 0 ≤ fl ∧ fl ≤ 224 ∧ fl % 32 = 0) (ht : 0 ≤ t ∧ t ≤ 255) (hv : 255 < v.length) : putE fl t v = (fl + 16) :: t :: ((v.length : Int) / 256 % 256) :: ((v.length : Int) % 256) :: v := by
  unfold putE
  rw [if_pos hv, numB1, numB1, numB2, show (fl + 16) % 256 = fl + 16 by omega, show t % 256 = t by omega]
  rfl
theorem putE_short {fl t : Int} {v : List Int} (hf : 0 ≤ fl ∧ fl ≤ 224 ∧ fl % 32 = 0) (ht : 0 ≤ t ∧ t ≤ 255) (hv : ¬ 255 < v.length) : putE fl t v = fl :: t :: (v.length : Int) :: v := by
  unfold putE
  rw [if_neg hv, numB1, numB1, numB1, show fl % 256 = fl by omega, show t % 256 = t by omega, show (v.length : Int) % 256 = v.length by omega]
  rfl
theorem put_parse {fl t : Int} {v : List Int} (rest : List Int) (hf : 0 ≤ fl ∧ fl ≤ 224 ∧ fl % 32 = 0) (ht : 0 ≤ t ∧ t ≤ 255) (hv : v.length ≤ 65535) :
    fOf (putE fl t v ++ rest) 1 = t ∧ fromN (putE fl t v ++ rest) ≤ (putE fl t v).length ∧ toN (putE fl t v ++ rest) = (putE fl t v).length ∧ (putE fl t v).drop (fromN (putE fl t v ++ rest)) = v ∧ 0 < (putE fl t v).length := by
  by_cases h : 255 < v.length
  · have e := putE_long hf ht h
    rw [e]
    have ef : fromN ((fl + 16) :: t :: ((v.length : Int) / 256 % 256) :: ((v.length : Int) % 256) :: v ++ rest) = 4 := by
      unfold fromN
      exact if_pos (by show (fl + 16) / 16 % 2 = 1; omega)
    have et : toN ((fl + 16) :: t :: ((v.length : Int) / 256 % 256) :: ((v.length : Int) % 256) :: v ++ rest) = v.length + 4 := by
      unfold toN
      rw [ef]
      show 4 + ((0 * 256 + (v.length : Int) / 256 % 256) * 256 + (v.length : Int) % 256).toNat = _
      omega
    exact ⟨rfl, by rw [ef]; simp, by rw [et]; rfl, by rw [ef]; rfl, by simp⟩
  · have e := putE_short hf ht h
    rw [e]
    have ef : fromN (fl :: t :: (v.length : Int) :: v ++ rest) = 3 := by
      unfold fromN
      exact if_neg (by show ¬ fl / 16 % 2 = 1; omega)
    have et : toN (fl :: t :: (v.length : Int) :: v ++ rest) = v.length + 3 := by
      unfold toN
      rw [ef]
      show 3 + (0 * 256 + (v.length : Int)).toNat = _
      omega
    exact ⟨rfl, by rw [ef]; simp, by rw [et]; rfl, by rw [ef]; rfl, by simp⟩
theorem put_head {fl t : Int} {v : List Int} (hf : 0 ≤ fl ∧ fl ≤ 224 ∧ fl % 32 = 0) (ht : 0 ≤ t ∧ t ≤ 255) : (fOf (putE fl t v) 0 = fl ∨ fOf (putE fl t v) 0 = fl + 16) ∧ fOf (putE fl t v) 1 = t := by
  by_cases h : 255 < v.length
  · rw [putE_long hf ht h]; exact ⟨.inr rfl, rfl⟩
  · rw [putE_short hf ht h]; exact ⟨.inl rfl, rfl⟩
theorem decD_put {d : AtD} {seen : List Int} {fl t : Int} {v : List Int} (rest : List Int) (hf : 0 ≤ fl ∧ fl ≤ 224 ∧ fl % 32 = 0) (ht : 0 ≤ t ∧ t ≤ 255) (hv : v.length ≤ 65535) (hs : t ∉ seen) {d' : AtD} (hd : stepD d (putE fl t v) v = .inl d') :
    decD d seen (putE fl t v ++ rest) = decD d' (t :: seen) rest := by
  obtain ⟨h1, h2, h3, h4, h5⟩ := put_parse rest hf ht hv
  rw [decD_step (by rw [List.length_append]; omega) (by
    rw [h1, h3, List.length_append]
    rintro (h | h | h)
    · omega
    · omega
    · exact hs h), h3, List.take_left, h4, hd, h1, List.drop_left]
theorem takeD_put {d d' : AtD} {t : Nat} {v : List Int} (h1 : 1 ≤ t) (h8 : t ≤ 8) (hsz : 0 ≤ sizeI t → (v.length : Int) = sizeI t) (hc : t = 8 → v.length % 4 = 0 ∧ v.length / 4 ≤ 256) (hd : setD d t v = some d')
    (g2 : t = 2 → (d'.path.all fun p => segB ⟨p.1, none, 0, p.2⟩) = true) (g1 : t = 1 → wiB d'.origin 2 = true) (g3 : t = 3 → hopB d'.hop = true) : stepD d (putE (flagI t) t v) v = .inl { d' with has := d'.has + 2 ^ t } := by
  have hfl : 0 ≤ flagI t ∧ flagI t ≤ 224 ∧ flagI t % 32 = 0 ∧ flagI t % 64 = 0 := by
    have : t = 1 ∨ t = 2 ∨ t = 3 ∨ t = 4 ∨ t = 5 ∨ t = 6 ∨ t = 7 ∨ t = 8 := by omega
    rcases this with rfl | rfl | rfl | rfl | rfl | rfl | rfl | rfl <;> decide
  obtain ⟨p1, p2⟩ := put_head (fl := flagI t) (t := (t : Int)) (v := v) ⟨hfl.1, hfl.2.1, hfl.2.2.1⟩ (by omega)
  unfold stepD
  rw [p2, if_pos (by omega)]
  unfold takeD
  rw [p2, Int.toNat_natCast, if_neg (by
    rcases p1 with p1 | p1 <;> rw [p1] <;> omega), if_neg (by
    rintro (⟨h, h'⟩ | ⟨h, h'⟩)
    · exact h' (hsz h)
    · exact h' (hc (by omega)).1), if_neg (by
    rintro ⟨h, h'⟩
    have := (hc (by omega)).2
    omega), hd]
  show (if _ then _ else _) = _
  rw [if_neg (by rintro ⟨h, h'⟩; rw [g2 (by omega)] at h'; cases h'), if_neg (by rintro ⟨h, h'⟩; rw [g1 (by omega)] at h'; cases h'), if_neg (by rintro ⟨h, h'⟩; rw [g3 (by omega)] at h'; cases h')]
def dUp (a : AtL) (k : Nat) : AtD :=
  ⟨a.has % 2 ^ (k + 1), if 1 ≤ k then a.origin else 0, if 2 ≤ k then a.path.map segD else [], if 3 ≤ k then a.hop else 0, if 4 ≤ k then a.med else 0, if 5 ≤ k then a.loc else 0, if 7 ≤ k then a.aas else 0, if 7 ≤ k then a.aid else 0, if 8 ≤ k then a.comms else [], []⟩
theorem AtD.ext' {d e : AtD} (h1 : d.has = e.has) (h2 : d.origin = e.origin) (h3 : d.path = e.path) (h4 : d.hop = e.hop) (h5 : d.med = e.med) (h6 : d.loc = e.loc) (h7 : d.aas = e.aas) (h8 : d.aid = e.aid) (h9 : d.comms = e.comms) (h10 : d.others = e.others) : d = e := by
  cases d; cases e; dsimp only at *; subst h1 h2 h3 h4 h5 h6 h7 h8 h9 h10; rfl
theorem hasB_iff {h : Int} {k : Nat} (h1 : 1 ≤ k) (h8 : k ≤ 8) : hasB h k = true ↔ h / 2 ^ k % 2 = 1 := by
  unfold hasB
  exact ⟨fun e => (of_decide_eq_true e).2.2, fun e => decide_eq_true ⟨h1, h8, e⟩⟩
theorem dUp_no {a : AtL} {t : Nat} (h1 : 1 ≤ t) (h8 : t ≤ 8) (hh : hasB a.has t = false) (hz : zeroB a t = true) : dUp a (t - 1) = dUp a t := by
  have hb : ¬ a.has / 2 ^ t % 2 = 1 := fun e => by rw [(hasB_iff h1 h8).2 e] at hh; cases hh
  have : t = 1 ∨ t = 2 ∨ t = 3 ∨ t = 4 ∨ t = 5 ∨ t = 6 ∨ t = 7 ∨ t = 8 := by omega
  unfold zeroB at hz
  rcases this with rfl | rfl | rfl | rfl | rfl | rfl | rfl | rfl
  · have hz2 : a.origin = 0 := of_decide_eq_true hz
    exact AtD.ext' (by show a.has % 2 = a.has % 4; omega) hz2.symm rfl rfl rfl rfl rfl rfl rfl rfl
  · have hz2 : (a.path.length : Int) = 0 := of_decide_eq_true hz
    have : a.path = [] := List.length_eq_zero_iff.1 (by omega)
    exact AtD.ext' (by show a.has % 4 = a.has % 8; omega) rfl (by show [] = a.path.map segD; rw [this]; rfl) rfl rfl rfl rfl rfl rfl rfl
  · have hz2 : a.hop = 0 := of_decide_eq_true hz
    exact AtD.ext' (by show a.has % 8 = a.has % 16; omega) rfl rfl hz2.symm rfl rfl rfl rfl rfl rfl
  · have hz2 : a.med = 0 := of_decide_eq_true hz
    exact AtD.ext' (by show a.has % 16 = a.has % 32; omega) rfl rfl rfl hz2.symm rfl rfl rfl rfl rfl
  · have hz2 : a.loc = 0 := of_decide_eq_true hz
    exact AtD.ext' (by show a.has % 32 = a.has % 64; omega) rfl rfl rfl rfl hz2.symm rfl rfl rfl rfl
  · exact AtD.ext' (by show a.has % 64 = a.has % 128; omega) rfl rfl rfl rfl rfl rfl rfl rfl rfl
  · have hz2 : a.aas = 0 ∧ a.aid = 0 := of_decide_eq_true hz
    exact AtD.ext' (by show a.has % 128 = a.has % 256; omega) rfl rfl rfl rfl rfl hz2.1.symm hz2.2.symm rfl rfl
  · have hz2 : (a.comms.length : Int) = 0 := of_decide_eq_true hz
    have : a.comms = [] := List.length_eq_zero_iff.1 (by omega)
    exact AtD.ext' (by show a.has % 256 = a.has % 512; omega) rfl rfl rfl rfl rfl rfl rfl (by show [] = a.comms; rw [this]) rfl
theorem wiB_iff {n m : Int} (h : wiB n m = true) : 0 ≤ n ∧ n ≤ m := of_decide_eq_true h
theorem path_all' (ss : List SegL) : ((ss.map segD).all fun p => segB ⟨p.1, none, 0, p.2⟩) = ss.all segB := by rw [List.all_map]; rfl
theorem dUp_yes {a : AtL} {t : Nat} (h1 : 1 ≤ t) (h8 : t ≤ 8) (hh : hasB a.has t = true) (hg : goodB a t = true) (hU : U32 a.hop ∧ U32 a.aid) : stepD (dUp a (t - 1)) (putE (flagI t) t (valE a t)) (valE a t) = .inl (dUp a t) := by
  have hb := (hasB_iff h1 h8).1 hh
  have : t = 1 ∨ t = 2 ∨ t = 3 ∨ t = 4 ∨ t = 5 ∨ t = 6 ∨ t = 7 ∨ t = 8 := by omega
  unfold goodB at hg
  rcases this with rfl | rfl | rfl | rfl | rfl | rfl | rfl | rfl
  · have g := wiB_iff hg
    have ev : valE a 1 = numB a.origin 1 := rfl
    rw [ev, takeD_put (d := dUp a 0) (d' := { dUp a 0 with origin := readI (numB a.origin 1) }) (by omega) (by omega) (fun _ => by rw [numB_len]; rfl) (fun h => by omega) rfl (fun h => by omega) (fun _ => by rw [show readI (numB a.origin 1) = a.origin from read1 (by omega)]; exact hg) (fun h => by omega)]
    exact congrArg Sum.inl (AtD.ext' (by show a.has % 2 + 2 = a.has % 4; omega) (read1 (by omega)) rfl rfl rfl rfl rfl rfl rfl rfl)
  · have ev : valE a 2 = a.path.flatMap segE := rfl
    have hs : setD (dUp a 1) 2 (a.path.flatMap segE) = some { dUp a 1 with path := a.path.map segD } := by
      show (pathR (a.path.flatMap segE)).map _ = _
      rw [pathR_flat a.path hg]; rfl
    rw [ev, takeD_put (d := dUp a 1) (by omega) (by omega) (fun h => absurd h (by decide)) (fun h => by omega) hs (fun _ => (path_all' a.path).trans hg) (fun h => by omega) (fun h => by omega)]
    exact congrArg Sum.inl (AtD.ext' (by show a.has % 4 + 4 = a.has % 8; omega) rfl rfl rfl rfl rfl rfl rfl rfl rfl)
  · have ev : valE a 3 = numB a.hop 4 := rfl
    have r := read4 (a := a.hop) hU.1
    rw [ev, takeD_put (d := dUp a 2) (d' := { dUp a 2 with hop := readI (numB a.hop 4) }) (by omega) (by omega) (fun _ => by rw [numB_len]; rfl) (fun h => by omega) rfl (fun h => by omega) (fun h => by omega) (fun _ => by rw [show readI (numB a.hop 4) = a.hop from r]; exact hg)]
    exact congrArg Sum.inl (AtD.ext' (by show a.has % 8 + 8 = a.has % 16; omega) rfl rfl r rfl rfl rfl rfl rfl rfl)
  · have g := wiB_iff hg
    have ev : valE a 4 = numB a.med 4 := rfl
    rw [ev, takeD_put (d := dUp a 3) (d' := { dUp a 3 with med := readI (numB a.med 4) }) (by omega) (by omega) (fun _ => by rw [numB_len]; rfl) (fun h => by omega) rfl (fun h => by omega) (fun h => by omega) (fun h => by omega)]
    exact congrArg Sum.inl (AtD.ext' (by show a.has % 16 + 16 = a.has % 32; omega) rfl rfl rfl (read4 (by omega)) rfl rfl rfl rfl rfl)
  · have g := wiB_iff hg
    have ev : valE a 5 = numB a.loc 4 := rfl
    rw [ev, takeD_put (d := dUp a 4) (d' := { dUp a 4 with loc := readI (numB a.loc 4) }) (by omega) (by omega) (fun _ => by rw [numB_len]; rfl) (fun h => by omega) rfl (fun h => by omega) (fun h => by omega) (fun h => by omega)]
    exact congrArg Sum.inl (AtD.ext' (by show a.has % 32 + 32 = a.has % 64; omega) rfl rfl rfl rfl (read4 (by omega)) rfl rfl rfl rfl)
  · have ev : valE a 6 = [] := rfl
    rw [ev, takeD_put (d := dUp a 5) (d' := dUp a 5) (by omega) (by omega) (fun _ => rfl) (fun h => by omega) rfl (fun h => by omega) (fun h => by omega) (fun h => by omega)]
    exact congrArg Sum.inl (AtD.ext' (by show a.has % 64 + 64 = a.has % 128; omega) rfl rfl rfl rfl rfl rfl rfl rfl rfl)
  · have g := wiB_iff hg
    have ev : valE a 7 = numB a.aas 2 ++ numB a.aid 4 := rfl
    have e1 : (numB a.aas 2 ++ numB a.aid 4).take 2 = numB a.aas 2 := List.take_left' (numB_len _ _)
    have e2 : (numB a.aas 2 ++ numB a.aid 4).drop 2 = numB a.aid 4 := List.drop_left' (numB_len _ _)
    have hs : setD (dUp a 6) 7 (numB a.aas 2 ++ numB a.aid 4) = some { dUp a 6 with aas := a.aas, aid := a.aid } := by
      show some { dUp a 6 with aas := readI ((numB a.aas 2 ++ numB a.aid 4).take 2), aid := readI ((numB a.aas 2 ++ numB a.aid 4).drop 2) } = _
      rw [e1, e2, read2 (by omega), read4 hU.2]
    rw [ev, takeD_put (d := dUp a 6) (by omega) (by omega) (fun _ => by rw [List.length_append, numB_len, numB_len]; rfl) (fun h => by omega) hs (fun h => by omega) (fun h => by omega) (fun h => by omega)]
    exact congrArg Sum.inl (AtD.ext' (by show a.has % 128 + 128 = a.has % 256; omega) rfl rfl rfl rfl rfl rfl rfl rfl rfl)
  · have ev : valE a 8 = a.comms.flatMap fun x => numB x 4 := rfl
    have hl : (a.comms.flatMap fun x => numB x 4).length = 4 * a.comms.length := flat_len2 _ _
    obtain ⟨c1, c2⟩ : (∀ c ∈ a.comms, 0 ≤ c ∧ c ≤ 4294967295) ∧ a.comms.length ≤ 256 := by
      have hg2 : commsB a.comms = true := hg
      unfold commsB at hg2
      rw [Bool.and_eq_true] at hg2
      exact ⟨fun c hc => wiB_iff (List.all_eq_true.1 hg2.1 c hc), of_decide_eq_true hg2.2⟩
    have hs : setD (dUp a 7) 8 (a.comms.flatMap fun x => numB x 4) = some { dUp a 7 with comms := a.comms } := by
      show some { dUp a 7 with comms := (dUp a 7).comms ++ fours (a.comms.flatMap fun x => numB x 4) } = _
      rw [fours_flat a.comms c1]
      rfl
    rw [ev, takeD_put (d := dUp a 7) (by omega) (by omega) (fun h => absurd h (by decide)) (fun h => by omega) hs (fun h => by omega) (fun h => by omega) (fun h => by omega)]
    exact congrArg Sum.inl (AtD.ext' (by show a.has % 256 + 256 = a.has % 512; omega) rfl rfl rfl rfl rfl rfl rfl rfl rfl)

theorem known_step {a : AtL} {t : Nat} (h1 : 1 ≤ t) (h8 : t ≤ 8) (he : eachB a t = true) (hU : U32 a.hop ∧ U32 a.aid) (hl : (knownE a t).length ≤ 60000) (seen rest : List Int) (hs : ∀ x ∈ seen, x < (t : Int)) :
    ∃ seen', (∀ x ∈ seen', x < ((t + 1 : Nat) : Int)) ∧ decD (dUp a (t - 1)) seen (knownE a t ++ rest) = decD (dUp a t) seen' rest := by
  unfold eachB at he
  cases hh : hasB a.has t with
  | false =>
    rw [hh] at he
    have e : knownE a t = [] := by unfold knownE; rw [hh]; rfl
    refine ⟨seen, fun x hx => by have := hs x hx; omega, ?_⟩
    rw [e, List.nil_append, dUp_no h1 h8 hh he]
  | true =>
    rw [hh] at he
    have e : knownE a t = putE (flagI t) t (valE a t) := by unfold knownE; rw [hh]; rfl
    rw [e, putE_len] at hl
    have hfl : 0 ≤ flagI t ∧ flagI t ≤ 224 ∧ flagI t % 32 = 0 := by
      have : t = 1 ∨ t = 2 ∨ t = 3 ∨ t = 4 ∨ t = 5 ∨ t = 6 ∨ t = 7 ∨ t = 8 := by omega
      rcases this with rfl | rfl | rfl | rfl | rfl | rfl | rfl | rfl <;> decide
    refine ⟨(t : Int) :: seen, fun x hx => ?_, ?_⟩
    · rcases List.mem_cons.1 hx with rfl | hx
      · omega
      · have := hs x hx; omega
    · rw [e]
      exact decD_put rest hfl (by omega) (by omega) (fun hm => by have := hs _ hm; omega) (dUp_yes h1 h8 hh he hU)
theorem decD_oths : ∀ (os : List OthL) (last : Int) (d : AtD) (seen : List Int), ordB last os = true → 8 ≤ last → (∀ x ∈ seen, x ≤ last) → (∀ o ∈ os, o.val.length ≤ 60000) →
    decD d seen (os.flatMap fun o => putE 224 o.ty o.val) = .inl { d with others := d.others ++ os.map othD }
  | [], _, d, seen, _, _, _, _ => by rw [List.flatMap_nil, decD_nil, List.map_nil, List.append_nil]
  | o :: os, last, d, seen, h, h8, hs, hv => by
    unfold ordB at h
    rw [Bool.and_eq_true] at h
    have h1 := of_decide_eq_true h.1
    obtain ⟨p1, p2⟩ := put_head (fl := 224) (t := o.ty) (v := o.val) (by decide) (by omega)
    have hd : stepD d (putE 224 o.ty o.val) o.val = .inl { d with others := d.others ++ [(o.ty, o.val)] } := by
      unfold stepD
      rw [p2, if_neg (by omega)]
      unfold otherD
      rw [p2, if_neg (by rcases p1 with p1 | p1 <;> rw [p1] <;> decide), if_pos ⟨by rcases p1 with p1 | p1 <;> rw [p1] <;> decide, by omega⟩]
    rw [List.flatMap_cons, decD_put _ (by decide) (by omega) (by have := hv o (List.mem_cons_self ..); omega) (fun hm => by have := hs _ hm; omega) hd]
    rw [decD_oths os o.ty _ _ h.2 (by omega) (fun x hx => by
      rcases List.mem_cons.1 hx with rfl | hx
      · omega
      · have := hs x hx; omega) fun p hp => hv p (List.mem_cons_of_mem _ hp)]
    show Sum.inl _ = Sum.inl _
    congr 1
    exact AtD.ext' rfl rfl rfl rfl rfl rfl rfl rfl rfl (by show d.others ++ [(o.ty, o.val)] ++ os.map othD = d.others ++ (othD o :: os.map othD); rw [List.append_assoc]; rfl)
theorem ordB_sorted : ∀ (os : List OthL) (last : Int), ordB last os = true → (os.map othD).Pairwise (fun x y => x.1 < y.1) ∧ ∀ o ∈ os, last < o.ty
  | [], _, _ => ⟨.nil, fun _ h => by cases h⟩
  | o :: os, last, h => by
    unfold ordB at h
    rw [Bool.and_eq_true] at h
    have h1 := of_decide_eq_true h.1
    obtain ⟨i1, i2⟩ := ordB_sorted os o.ty h.2
    refine ⟨List.pairwise_cons.2 ⟨fun x hx => ?_, i1⟩, fun p hp => ?_⟩
    · obtain ⟨p, hp, rfl⟩ := List.mem_map.1 hx
      exact i2 p hp
    · rcases List.mem_cons.1 hp with rfl | hp
      · exact h1.1
      · have := i2 p hp; omega
theorem pair_nodup : ∀ {l : List (Int × List Int)}, l.Pairwise (fun x y => x.1 < y.1) → (l.map (·.1)).Nodup
  | [], _ => List.nodup_nil
  | x :: l, h => by
    rw [List.pairwise_cons] at h
    rw [List.map_cons, List.nodup_cons]
    refine ⟨fun hm => ?_, pair_nodup h.2⟩
    obtain ⟨y, hy, e⟩ := List.mem_map.1 hm
    have := h.1 y hy
    omega
theorem sortO_ord {os : List OthL} {last : Int} (h : ordB last os = true) : sortO (os.map othD) = os.map othD := by
  obtain ⟨h1, _⟩ := ordB_sorted os last h
  exact (sortO_is (.refl _) (pair_nodup h1) (h1.imp fun h => by omega)).symm
theorem decD_body {a : AtL} (hc : chkA a = true) (hU : U32 a.hop ∧ U32 a.aid) (hl : (bodyA a).length ≤ 60000) (hv : ∀ o ∈ a.others, o.val.length ≤ 60000) : decD AtL.zero.d [] (bodyA a) = .inl a.d := by
  unfold chkA at hc
  rw [Bool.and_eq_true, Bool.and_eq_true] at hc
  obtain ⟨⟨k1, k2⟩, k3⟩ := hc
  have hk := of_decide_eq_true k1
  have each : ∀ t, 1 ≤ t → t ≤ 8 → eachB a t = true := fun t h1 h8 => List.all_eq_true.1 k2 t (by rw [List.mem_range'_1]; omega)
  have eb : bodyA a = knownE a 1 ++ (knownE a 2 ++ (knownE a 3 ++ (knownE a 4 ++ (knownE a 5 ++ (knownE a 6 ++ (knownE a 7 ++ (knownE a 8 ++ a.others.flatMap fun o => putE 224 o.ty o.val))))))) := by
    unfold bodyA
    show (knownE a 1 ++ (knownE a 2 ++ (knownE a 3 ++ (knownE a 4 ++ (knownE a 5 ++ (knownE a 6 ++ (knownE a 7 ++ (knownE a 8 ++ [])))))))) ++ _ = _
    simp only [List.append_assoc, List.nil_append]
  rw [eb] at hl ⊢
  simp only [List.length_append] at hl
  have ez : AtL.zero.d = dUp a 0 := (AtD.ext' (by show 0 = a.has % 2; omega) rfl rfl rfl rfl rfl rfl rfl rfl rfl)
  obtain ⟨s1, q1, e1⟩ := known_step (t := 1) (by omega) (by omega) (each 1 (by omega) (by omega)) hU (by omega) [] (knownE a 2 ++ (knownE a 3 ++ (knownE a 4 ++ (knownE a 5 ++ (knownE a 6 ++ (knownE a 7 ++ (knownE a 8 ++ a.others.flatMap fun o => putE 224 o.ty o.val))))))) (fun _ h => by cases h)
  obtain ⟨s2, q2, e2⟩ := known_step (t := 2) (by omega) (by omega) (each 2 (by omega) (by omega)) hU (by omega) s1 (knownE a 3 ++ (knownE a 4 ++ (knownE a 5 ++ (knownE a 6 ++ (knownE a 7 ++ (knownE a 8 ++ a.others.flatMap fun o => putE 224 o.ty o.val)))))) q1
  obtain ⟨s3, q3, e3⟩ := known_step (t := 3) (by omega) (by omega) (each 3 (by omega) (by omega)) hU (by omega) s2 (knownE a 4 ++ (knownE a 5 ++ (knownE a 6 ++ (knownE a 7 ++ (knownE a 8 ++ a.others.flatMap fun o => putE 224 o.ty o.val))))) q2
  obtain ⟨s4, q4, e4⟩ := known_step (t := 4) (by omega) (by omega) (each 4 (by omega) (by omega)) hU (by omega) s3 (knownE a 5 ++ (knownE a 6 ++ (knownE a 7 ++ (knownE a 8 ++ a.others.flatMap fun o => putE 224 o.ty o.val)))) q3
  obtain ⟨s5, q5, e5⟩ := known_step (t := 5) (by omega) (by omega) (each 5 (by omega) (by omega)) hU (by omega) s4 (knownE a 6 ++ (knownE a 7 ++ (knownE a 8 ++ a.others.flatMap fun o => putE 224 o.ty o.val))) q4
  obtain ⟨s6, q6, e6⟩ := known_step (t := 6) (by omega) (by omega) (each 6 (by omega) (by omega)) hU (by omega) s5 (knownE a 7 ++ (knownE a 8 ++ a.others.flatMap fun o => putE 224 o.ty o.val)) q5
  obtain ⟨s7, q7, e7⟩ := known_step (t := 7) (by omega) (by omega) (each 7 (by omega) (by omega)) hU (by omega) s6 (knownE a 8 ++ a.others.flatMap fun o => putE 224 o.ty o.val) q6
  obtain ⟨s8, q8, e8⟩ := known_step (t := 8) (by omega) (by omega) (each 8 (by omega) (by omega)) hU (by omega) s7 (a.others.flatMap fun o => putE 224 o.ty o.val) q7
  have e9 := decD_oths a.others 8 (dUp a 8) s8 k3 (by omega) (fun x hx => by have := q8 x hx; omega) hv
  rw [ez]
  refine e1.trans (e2.trans (e3.trans (e4.trans (e5.trans (e6.trans (e7.trans (e8.trans (e9.trans ?_))))))))
  exact congrArg Sum.inl (AtD.ext' (by show a.has % 512 = a.has; omega) rfl rfl rfl rfl rfl rfl rfl rfl (List.nil_append _))

theorem capsR_flat : ∀ (cs : List CapL) (acc : List (Int × List Int)), cs.all capOk = true → capsR acc (capsE cs) = some (acc ++ cs.map capD)
  | [], acc, _ => by unfold capsE; rw [List.flatMap_nil, capsR_nil, List.map_nil, List.append_nil]
  | c :: cs, acc, h => by
    rw [List.all_cons, Bool.and_eq_true] at h
    have hc := of_decide_eq_true h.1
    have e : capsE (c :: cs) = c.code :: (c.val.length : Int) :: (c.val ++ capsE cs) := by
      unfold capsE capE
      rw [List.flatMap_cons, show c.code % 256 = c.code by omega, show (c.val.length : Int) % 256 = c.val.length by omega]
      simp
    rw [e, capsR_cons, Int.toNat_natCast, if_neg (by rw [List.length_append]; omega), List.take_left, List.drop_left, capsR_flat cs _ h.2, List.map_cons, List.append_assoc]
    rfl
theorem capsE_nil {cs : List CapL} (h : (capsE cs).length = 0) : cs = [] := by
  cases cs with
  | nil => rfl
  | cons c cs => unfold capsE capE at h; rw [List.flatMap_cons] at h; simp at h
theorem openR_body {m : MsL} (h : openC m = 0) (hU : U32 m.id) : openR (openB m) = .inl (m.caps.map capD) ∧ asnB (openB m) = m.asn ∧ holdB (openB m) = m.hold ∧ idB (openB m) = m.id ∧ 10 ≤ (openB m).length := by
  unfold openC at h
  split at h
  · cases h
  rename_i hb
  split at h
  · rename_i hk
    split at h
    · cases h
    rename_i hl
    have hb2 : badO m = false := by cases hq : badO m with | false => rfl | true => exact absurd hq hb
    have hd := of_decide_eq_false hb2
    have ha : addrB m.id 4 = [m.id / 16777216 % 256, m.id / 65536 % 256, m.id / 256 % 256, m.id % 256] := by unfold addrB; rw [numB4]; rfl
    have e : ∃ tl, openB m = 4 :: (m.asn / 256 % 256) :: (m.asn % 256) :: (m.hold / 256 % 256) :: (m.hold % 256) :: (m.id / 16777216 % 256) :: (m.id / 65536 % 256) :: (m.id / 256 % 256) :: (m.id % 256) :: tl ∧ tl = if (capsE m.caps).length = 0 then [0] else [(2 + ((capsE m.caps).length : Int)) % 256, 2, ((capsE m.caps).length : Int) % 256] ++ capsE m.caps := by
      refine ⟨_, ?_, rfl⟩
      unfold openB
      rw [numB2, numB2, ha]
      rfl
    obtain ⟨tl, e1, e2⟩ := e
    have f0 : fOf (openB m) 0 = 4 := by rw [e1]; rfl
    have f1 : asnB (openB m) = m.asn := by rw [e1]; show m.asn / 256 % 256 * 256 + m.asn % 256 = _; omega
    have f2 : holdB (openB m) = m.hold := by rw [e1]; show m.hold / 256 % 256 * 256 + m.hold % 256 = _; omega
    have f3 : idB (openB m) = m.id := by
      rw [e1]
      show m.id / 16777216 % 256 * 16777216 + m.id / 65536 % 256 * 65536 + m.id / 256 % 256 * 256 + m.id % 256 = _
      unfold U32 at hU
      omega
    by_cases hz : (capsE m.caps).length = 0
    · rw [if_pos hz] at e2
      have hcn := capsE_nil hz
      subst e2
      refine ⟨?_, f1, f2, f3, by rw [e1]; simp⟩
      have f9 : fOf (openB m) 9 = 0 := by rw [e1]; rfl
      have fd : (openB m).drop 10 = [] := by rw [e1]; rfl
      unfold openR
      rw [f0, f1, f2, f3, f9, fd, if_neg (by decide), if_neg (by omega), if_neg (by omega), if_neg (by omega), if_neg (by decide), optsR_nil, hcn]
      rfl
    · rw [if_neg hz] at e2
      subst e2
      refine ⟨?_, f1, f2, f3, by rw [e1]; simp⟩
      have f9 : fOf (openB m) 9 = 2 + ((capsE m.caps).length : Int) := by rw [e1]; show (2 + ((capsE m.caps).length : Int)) % 256 = _; omega
      have fd : (openB m).drop 10 = 2 :: ((capsE m.caps).length : Int) :: capsE m.caps := by
        rw [e1]
        show 2 :: (((capsE m.caps).length : Int) % 256) :: capsE m.caps = _
        rw [show ((capsE m.caps).length : Int) % 256 = (capsE m.caps).length by omega]
      unfold openR
      rw [f0, f1, f2, f3, f9, fd, if_neg (by decide), if_neg (by omega), if_neg (by omega), if_neg (by omega), if_neg (by simp only [List.length_cons]; omega), optsR_cons, Int.toNat_natCast, if_neg (by omega), if_neg (by decide), List.take_length, capsR_flat _ _ hk, List.drop_length]
      dsimp only
      rw [optsR_nil]
      rfl
  · cases h
theorem netE_eq {p : PfL} (h : pfOk p = true) : netE p = p.len :: addrB p.addr (needN p.len) := by
  have hl := pfOk_len h
  show numB p.len 1 ++ addrB p.addr ((p.len.toNat + 7) / 8) = _
  rw [numB1, show p.len % 256 = p.len by omega]
  rfl
theorem cut_addr {p : PfL} (h : pfOk p = true) (hU : U32 p.addr) : cutI (addrI (addrB p.addr (needN p.len))) p.len = p.addr ∧ inI p.len = p.len := by
  have hl := pfOk_len h
  have hd := of_decide_eq_true h
  refine ⟨?_, hd.2.symm⟩
  obtain ⟨k, hk⟩ := Int.eq_ofNat_of_zero_le hl.1
  have hn : needN p.len = (k + 7) / 8 := by unfold needN; rw [hk, Int.toNat_natCast]
  have hc := hd.1
  rw [hn, hk]
  rw [hk] at hc
  by_cases h0 : k = 0
  · subst h0
    have e1 : cutI p.addr ((0 : Nat) : Int) = p.addr - p.addr % 4294967296 := rfl
    rw [e1] at hc
    unfold U32 at hU
    have h3 : p.addr = 0 := by omega
    rw [h3]
    rfl
  · have hj := (netJ k (by omega) (by omega) p.addr 0 hU hc ⟨by omega, Int.pow_pos (by decide)⟩).2
    rw [Int.add_zero] at hj
    have hs : (addrB p.addr ((k + 7) / 8)).set ((k + 7) / 8 - 1) (fOf (addrB p.addr ((k + 7) / 8)) ((k + 7) / 8 - 1)) = addrB p.addr ((k + 7) / 8) := by
      have hlen := addrB_len p.addr (show (k + 7) / 8 ≤ 4 by omega)
      apply List.ext_getElem?
      intro i
      rw [List.getElem?_set]
      split
      · rename_i hi
        split
        · rw [← hi, fOf_get (by omega)]
        · rename_i h2
          rw [List.getElem?_eq_none (by omega)]
      · rfl
    rw [hs] at hj
    exact hj
theorem netsR_flat : ∀ (ps : List PfL), ps.all pfOk = true → (∀ p ∈ ps, U32 p.addr) → netsR (netsE ps) = some ps
  | [], _, _ => by unfold netsE; rw [List.flatMap_nil, netsR]
  | p :: ps, h, hU => by
    rw [List.all_cons, Bool.and_eq_true] at h
    have hl := pfOk_len h.1
    have hn : needN p.len ≤ 4 := by unfold needN; omega
    obtain ⟨c1, c2⟩ := cut_addr h.1 (hU p (List.mem_cons_self ..))
    have hal := addrB_len p.addr hn
    have e : netsE (p :: ps) = p.len :: (addrB p.addr (needN p.len) ++ netsE ps) := by
      unfold netsE
      rw [List.flatMap_cons, netE_eq h.1]
      rfl
    rw [e, netsR_cons, if_neg (by rw [List.length_append]; omega), List.take_left' hal, List.drop_left' hal, netsR_flat ps h.2 fun q hq => hU q (List.mem_cons_of_mem _ hq), c1, c2]
    rfl
theorem countR_flat (xs rest : List Int) (h : xs.length ≤ 65535) : countR (numB xs.length 2 ++ (xs ++ rest)) = some (xs, rest) := by
  have e : numB (xs.length : Int) 2 ++ (xs ++ rest) = ((xs.length : Int) / 256 % 256) :: ((xs.length : Int) % 256) :: (xs ++ rest) := by rw [numB2]; rfl
  have f : fOf (numB (xs.length : Int) 2 ++ (xs ++ rest)) 0 * 256 + fOf (numB (xs.length : Int) 2 ++ (xs ++ rest)) 1 = (xs.length : Int) := by
    rw [e]; show (xs.length : Int) / 256 % 256 * 256 + (xs.length : Int) % 256 = _; omega
  unfold countR
  rw [f, Int.toNat_natCast, if_neg (by rw [List.length_append, List.length_append, numB_len]; omega)]
  congr 2
  · rw [List.drop_left' (numB_len _ _), List.take_left]
  · rw [← List.drop_drop, List.drop_left' (numB_len _ _), List.drop_left]
theorem encE_ok {a : AtL} (h : encE a = 0) : chkA a = true ∧ (bodyA a).length ≤ 4096 ∧ ∀ o ∈ a.others, o.val.length ≤ 4096 := by
  unfold encE at h
  split at h
  · rename_i hc
    split at h
    · cases h
    · rename_i hb
      simp only [Bool.or_eq_true, decide_eq_true_eq, List.any_eq_true, not_or, not_exists, not_and] at hb
      exact ⟨hc, by omega, fun o ho => by have := hb.1 o ho; omega⟩
  · cases h
theorem updR_body {m : MsL} (h : updC m = 0) (hI : m.In) : updR (updB m) = .inl (m.gone, m.atr.d, m.nets) := by
  unfold updC at h
  split at h
  · cases h
  rename_i hn
  split at h
  · cases h
  rename_i hb
  have hb2 : badN m = false := by cases hq : badN m with | false => rfl | true => exact absurd hq hb
  unfold badN at hb2
  simp only [Bool.or_eq_false_iff, Bool.not_eq_false', decide_eq_false_iff_not] at hb2
  obtain ⟨⟨g1, g2⟩, g3⟩ := hb2
  obtain ⟨c1, c2, c3⟩ := encE_ok h
  have l1 := netsE_len g1
  have hat := decD_body c1 ⟨hI.at_.hop, hI.at_.aid⟩ (by omega) (fun o ho => by have := c3 o ho; omega)
  have k3 : ordB 8 m.atr.others = true := by unfold chkA at c1; rw [Bool.and_eq_true] at c1; exact c1.2
  have e : updB m = numB (netsE m.gone).length 2 ++ (netsE m.gone ++ (numB (bodyA m.atr).length 2 ++ (bodyA m.atr ++ netsE m.nets))) := by
    unfold updB; simp only [List.append_assoc]
  unfold updR
  rw [e, countR_flat _ _ (by omega)]
  dsimp only
  rw [countR_flat _ _ (by omega)]
  dsimp only
  rw [netsR_flat _ g1 fun p hp => (hI.gone p hp).1]
  dsimp only
  rw [hat]
  dsimp only
  rw [netsR_flat _ g2 fun p hp => (hI.nets p hp).1]
  dsimp only
  rw [if_neg (by omega), if_neg (fun q => g3 ⟨q.2, q.1⟩)]
  have es : sortO m.atr.d.others = m.atr.d.others := sortO_ord k3
  rw [es]

theorem szOf (k : Int) (body more : List Int) (hk : 1 ≤ k ∧ k ≤ 4) (hl : 19 + body.length ≤ 4096) (hle : leastI k ≤ 19 + body.length) (h4 : k = 4 → body = []) : sizeR (msgOf k body ++ more).length (fOf (msgOf k body ++ more)) = (((19 + body.length : Nat) : Int), 0, 0, ⟨#[]⟩) := by
  have hml := msgOf_len k body
  have hh := head_of (zs := msgOf k body ++ more) (L := 19 + body.length) (k := k) (fun i hi => by rw [List.getElem?_append_left (by omega)]; exact msgOf_head hi) (by omega)
  rw [sizeR_on (by rw [List.length_append]; omega) hh.1, hh.2.1, hh.2.2, if_neg (by omega), if_neg (fun h => leastI_zero.1 h hk), if_neg (by
      rintro (h | ⟨h, h'⟩)
      · omega
      · rw [h4 h] at h'; exact h' rfl)]
theorem feedM_msg {acc : List MsD} {k : Int} {body more : List Int} {m : MsD} (hk : 1 ≤ k ∧ k ≤ 4) (hl : 19 + body.length ≤ 4096) (hle : leastI k ≤ 19 + body.length) (h4 : k = 4 → body = []) (hb : bodyM k body = .inl m) : feedM acc (msgOf k body ++ more) = feedM (acc ++ [m]) more := by
  have hs := szOf k body more hk hl hle h4
  have hml := msgOf_len k body
  have hz : szL (msgOf k body ++ more) = (msgOf k body).length := by unfold szL; rw [hs, hml]; exact Int.toNat_natCast _
  rw [feedM_on (m := m) (by rw [List.length_append]; omega) (by rw [hs]) (by rw [hz, List.length_append]; omega) (by rw [hz, List.take_left, decM_of k body hk hl hle h4, hb]), hz, List.drop_left]
def RdL.zero : RdL := ⟨none, 0, [], 0, 0, 0, ⟨#[]⟩⟩

theorem strOf_strI (d : ByteArray) : strOfNums (strI d) = d := by
  unfold strOfNums strI
  rw [List.map_map]
  have : (d.data.toList.map ((fun n : Int => UInt8.ofNat n.toNat) ∘ fun b : UInt8 => (b.toNat : Int))) = d.data.toList := by
    conv => rhs; rw [← List.map_id d.data.toList]
    apply List.map_congr_left
    intro b _
    show UInt8.ofNat ((b.toNat : Int).toNat) = b
    rw [Int.toNat_natCast]
    exact UInt8.ofNat_toNat
  rw [this]
theorem strD_note (a b : Int) (d : ByteArray) : strD (a :: b :: strI d) = d := by
  have h : (List.range (strI d).length).map (fun i => fOf (a :: b :: strI d) (2 + i)) = strI d := by
    apply List.ext_getElem?
    intro i
    by_cases hi : i < (strI d).length
    · rw [List.getElem?_map, List.getElem?_range hi, fOf_get hi]
      show some (fOf (a :: b :: strI d) (2 + i)) = _
      rw [show 2 + i = i + 1 + 1 by omega]
      rfl
    · rw [List.getElem?_eq_none (by simp; omega), List.getElem?_eq_none (by omega)]
  show strOfNums (bl (fun i => fOf (a :: b :: strI d) (2 + i)) ((a :: b :: strI d).length - 2)) = d
  unfold bl
  rw [show (a :: b :: strI d).length - 2 = (strI d).length by simp, h, strOf_strI]
def bareD (m : MsL) : MsD :=
  if m.kind = 1 then { (MsL.zero m.kind).d with asn := m.asn, hold := m.hold, id := m.id, caps := m.caps.map capD }
  else if m.kind = 2 then { (MsL.zero m.kind).d with gone := m.gone, atr := m.atr.d, nets := m.nets }
  else if m.kind = 3 then { (MsL.zero m.kind).d with fc := m.fc, fs := m.fs, fd := m.fd }
  else (MsL.zero m.kind).d
theorem bodyM_body {m : MsL} (h : msgC m = 0) (hI : m.In) : bodyM m.kind (bodB m) = .inl (bareD m) ∧ (1 ≤ m.kind ∧ m.kind ≤ 4) ∧ 19 + (bodB m).length ≤ 4096 ∧ leastI m.kind ≤ 19 + (bodB m).length ∧ (m.kind = 4 → bodB m = []) := by
  obtain ⟨hb, hl⟩ := msgC_bod h
  have hk := bodC_kind hb
  unfold bodC at hb
  by_cases k1 : m.kind = 1
  · rw [if_pos k1] at hb
    obtain ⟨o1, o2, o3, o4, o5⟩ := openR_body hb hI.id
    have e : bodB m = openB m := by unfold bodB; rw [if_pos k1]
    rw [e] at hl ⊢
    refine ⟨?_, hk, hl, by rw [k1]; show (29 : Int) ≤ _; omega, fun h => by omega⟩
    unfold bodyM bareD
    rw [if_pos k1, if_pos k1, o1, o2, o3, o4]
  · rw [if_neg k1] at hb
    by_cases k2 : m.kind = 2
    · rw [if_pos k2] at hb
      have e : bodB m = updB m := by unfold bodB; rw [if_neg k1, if_pos k2]
      have hl4 : 4 ≤ (updB m).length := by unfold updB; simp only [List.length_append, numB_len]; omega
      rw [e] at hl ⊢
      refine ⟨?_, hk, hl, by rw [k2]; show (23 : Int) ≤ _; omega, fun h => by omega⟩
      unfold bodyM bareD
      rw [if_neg k1, if_pos k2, if_neg k1, if_pos k2, updR_body hb hI]
    · rw [if_neg k2] at hb
      by_cases k3 : m.kind = 3
      · have e : bodB m = m.fc :: m.fs :: strI m.fd := by unfold bodB; rw [if_neg k1, if_neg k2, if_pos k3]; rfl
        rw [e] at hl ⊢
        refine ⟨?_, hk, hl, by rw [k3]; show (21 : Int) ≤ _; simp only [List.length_cons]; omega, fun h => by omega⟩
        unfold bodyM bareD
        rw [if_neg k1, if_neg k2, if_pos k3, if_neg k1, if_neg k2, if_pos k3, strD_note]
        rfl
      · have e : bodB m = [] := by unfold bodB; rw [if_neg k1, if_neg k2, if_neg k3]
        have k4 : m.kind = 4 := by omega
        rw [e] at hl ⊢
        refine ⟨?_, hk, hl, by rw [k4]; decide, fun _ => rfl⟩
        unfold bodyM bareD
        rw [if_neg k1, if_neg k2, if_neg k3, if_neg k1, if_neg k2, if_neg k3]
def Fine (ms : List MsL) : Prop := ∀ m ∈ ms, msgC m = 0 ∧ m.In
def flatB (ms : List MsL) : List Int := ms.flatMap msgB
theorem feedM_part {acc : List MsD} {m : MsL} (h : msgC m = 0) (hI : m.In) {xs more : List Int} (e : ∃ tl, xs ++ more = msgB m ++ tl) (hl : xs.length < (msgB m).length) : feedM acc xs = (acc, none, xs) := by
  by_cases h19 : xs.length < 19
  · exact feedM_few h19
  · obtain ⟨h1, h2, h3, h4, h5⟩ := bodyM_body h hI
    obtain ⟨tl, e⟩ := e
    have hml := msgB_len m
    have hx : ∀ i, i < 19 → xs[i]? = (msgOf m.kind (bodB m))[i]? := fun i hi => by
      have : (xs ++ more)[i]? = (msgB m ++ tl)[i]? := by rw [e]
      rw [List.getElem?_append_left (by omega), List.getElem?_append_left (by omega)] at this
      exact this
    have hh := head_of (zs := xs) (L := 19 + (bodB m).length) (k := m.kind) (fun i hi => by rw [hx i hi]; exact msgOf_head hi) (by omega)
    have hs : sizeR xs.length (fOf xs) = (((19 + (bodB m).length : Nat) : Int), 0, 0, ⟨#[]⟩) := by
      rw [sizeR_on h19 hh.1, hh.2.1, hh.2.2, if_neg (by omega), if_neg (fun h => leastI_zero.1 h h2), if_neg (by
        rintro (h | ⟨h, h'⟩)
        · omega
        · rw [h5 h] at h'; exact h' rfl)]
    exact feedM_wait h19 (by rw [hs]) (by unfold szL; rw [hs]; dsimp only; rw [Int.toNat_natCast]; omega)
theorem feedM_prefix : ∀ (ms : List MsL) (acc : List MsD) (xs more : List Int), Fine ms → xs ++ more = flatB ms →
    ∃ j rest, j ≤ ms.length ∧ feedM acc xs = (acc ++ (ms.take j).map bareD, none, rest) ∧ rest ++ more = flatB (ms.drop j) ∧ (more = [] → j = ms.length ∧ rest = [])
  | [], acc, xs, more, _, e => by
    have e2 : xs ++ more = [] := e
    obtain ⟨rfl, rfl⟩ := List.append_eq_nil_iff.1 e2
    exact ⟨0, [], Nat.le_refl _, by rw [feedM_few (by decide)]; simp, rfl, fun _ => ⟨rfl, rfl⟩⟩
  | m :: ms, acc, xs, more, hf, e => by
    obtain ⟨hc, hI⟩ := hf m (List.mem_cons_self ..)
    have e2 : xs ++ more = msgB m ++ flatB ms := e
    by_cases hl : xs.length < (msgB m).length
    · have hlen := congrArg List.length e2
      rw [List.length_append, List.length_append] at hlen
      refine ⟨0, xs, Nat.zero_le _, by rw [feedM_part hc hI ⟨_, e2⟩ hl]; simp, e, fun h => ?_⟩
      rw [h, List.length_nil] at hlen
      omega
    · obtain ⟨ys, rfl⟩ : ∃ ys, xs = msgB m ++ ys := by
        refine ⟨xs.drop (msgB m).length, ?_⟩
        have h1 : (xs ++ more).take (msgB m).length = (msgB m ++ flatB ms).take (msgB m).length := by rw [e2]
        rw [List.take_append_of_le_length (by omega), List.take_left] at h1
        have h2 := List.take_append_drop (msgB m).length xs
        rw [h1] at h2
        exact h2.symm
      rw [List.append_assoc, List.append_cancel_left_eq] at e2
      obtain ⟨j, rest, h1, h2, h3, h4⟩ := feedM_prefix ms (acc ++ [bareD m]) ys more (fun x hx => hf x (List.mem_cons_of_mem _ hx)) e2
      obtain ⟨b1, b2, b3, b4, b5⟩ := bodyM_body hc hI
      refine ⟨j + 1, rest, by simp only [List.length_cons]; omega, ?_, h3, fun h => ⟨by rw [(h4 h).1]; rfl, (h4 h).2⟩⟩
      rw [msgB_of, feedM_msg b2 b3 b4 b5 b1, h2]
      simp

def segBD (p : Bool × List Int) : Bool := decide (1 ≤ p.2.length ∧ p.2.length ≤ 255) && p.2.all fun x => decide (1 ≤ x ∧ x ≤ 65535)
def goodBD (a : AtD) (k : Nat) : Bool :=
  if k = 1 then wiB a.origin 2 else if k = 2 then a.path.all segBD else if k = 3 then hopB a.hop else if k = 4 then wiB a.med 4294967295
  else if k = 5 then wiB a.loc 4294967295 else if k = 7 then wiB a.aas 65535 else if k = 8 then commsB a.comms else true
def zeroBD (a : AtD) (k : Nat) : Bool :=
  if k = 1 then decide (a.origin = 0) else if k = 2 then decide ((a.path.length : Int) = 0) else if k = 3 then decide (a.hop = 0) else if k = 4 then decide (a.med = 0)
  else if k = 5 then decide (a.loc = 0) else if k = 7 then decide (a.aas = 0 ∧ a.aid = 0) else if k = 8 then decide ((a.comms.length : Int) = 0) else true
def eachBD (a : AtD) (k : Nat) : Bool := if hasB a.has k then goodBD a k else zeroBD a k
structure AtD.In (a : AtD) : Prop where
  nums : I64 a.has ∧ I64 a.origin ∧ U32 a.hop ∧ I64 a.med ∧ I64 a.loc ∧ I64 a.aas ∧ U32 a.aid
  segs : ∀ s ∈ a.path, s.2.length ≤ 9223372036854775807 ∧ ∀ x ∈ s.2, I64 x
  comms : ∀ x ∈ a.comms, I64 x
  oths : ∀ o ∈ a.others, I64 o.1 ∧ o.2.length ≤ 9223372036854775807 ∧ Bys o.2
  lens : a.path.length ≤ 9223372036854775807 ∧ a.comms.length ≤ 9223372036854775807 ∧ a.others.length ≤ 9223372036854775807
structure MsD.In (m : MsD) : Prop where
  nums : I64 m.kind ∧ I64 m.asn ∧ I64 m.hold ∧ U32 m.id ∧ I64 m.fc ∧ I64 m.fs
  caps : ∀ c ∈ m.caps, I64 c.1 ∧ c.2.length ≤ 9223372036854775807 ∧ Bys c.2
  gone : ∀ p ∈ m.gone, U32 p.addr ∧ I64 p.len
  nets : ∀ p ∈ m.nets, U32 p.addr ∧ I64 p.len
  at_ : m.atr.In
  lens : m.caps.length ≤ 9223372036854775807 ∧ m.gone.length ≤ 9223372036854775807 ∧ m.nets.length ≤ 9223372036854775807 ∧ m.fd.size ≤ 9223372036854775807
theorem zeroM_in {k : Int} (h : I64 k) : (MsL.zero k).In := ⟨h, zero_i, zero_i, zero_u, zero_i, zero_i, (fun c hc => by cases hc), (fun c hc => by cases hc), (fun c hc => by cases hc), AtL.zero_in, ⟨Nat.zero_le _, Nat.zero_le _, Nat.zero_le _, Nat.zero_le _⟩⟩
theorem flatMap_seg {α : Type} {enc : α → List Value} {s : Nat} (hs : ∀ x, (enc x).length = s) : ∀ (xs : List α) (i : Nat) (x : α), xs[i]? = some x → ((xs.flatMap enc).drop (i * s)).take s = enc x
  | [], _, _, h => by simp at h
  | y :: xs, 0, x, h => by
    simp only [List.getElem?_cons_zero, Option.some.injEq] at h
    subst h
    rw [List.flatMap_cons, Nat.zero_mul, List.drop_zero, List.take_left' (hs y)]
  | y :: xs, i + 1, x, h => by
    rw [List.getElem?_cons_succ] at h
    rw [List.flatMap_cons, Nat.add_mul, Nat.one_mul, Nat.add_comm, ← List.drop_drop, List.drop_left' (hs y)]
    exact flatMap_seg hs xs i x h

theorem noteM_at (w : World) (C S : Int) (d : ByteArray) : (noteM C S d).At w := ⟨fun i s h => (by cases h), (fun s h => by cases h), fun i s h => (by cases h), fun i s h => (by cases h), ⟨fun i s h => (by cases h), (fun s h => by cases h), (fun h => absurd h (Nat.lt_irrefl 0)), fun i s h => (by cases h), (fun s h => by cases h)⟩⟩
theorem noteM_in {C S : Int} {d : ByteArray} (hC : I64 C) (hS : I64 S) (hd : d.size ≤ 100000) : (noteM C S d).In :=
  have z := zeroM_in (k := 3) ⟨by decide, by decide⟩
  ⟨z.kind, z.asn, z.hold, z.id, hC, hS, z.caps, z.gone, z.nets, z.at_, ⟨Nat.zero_le _, Nat.zero_le _, Nat.zero_le _, by show d.size ≤ _; omega⟩⟩
def EffO (w0 w' : World) (es : List EfD) (e : Ending) : Prop := ∃ ad c fs E K, e = .returned (.slice ad fs.length c) ∧ EfsV ad c fs E K ∧ fs.map EfL.d = es ∧ St (fun _ => False) w0 w' (E ++ K)
theorem sendE_len (n : Int) (m : MsL) : (sendE n m).length ≤ 1 := by
  unfold sendE
  split
  · exact Nat.le_refl _
  · exact Nat.zero_le _
theorem goneE_len (s : Se) (n : Nat) : (goneE s n).length ≤ 1 := by
  unfold goneE
  split
  · exact Nat.le_refl _
  · exact Nat.zero_le _
theorem efs_len {fs : List EfL} {es : List EfD} (h : fs.map EfL.d = es) : fs.length = es.length := by rw [← h, List.length_map]
theorem efsL_len (fs : List EfL) : (efsL fs).length = fs.length * 23 := by
  induction fs with
  | nil => rfl
  | cons f fs ih => unfold efsL at ih ⊢; rw [List.flatMap_cons, List.length_append, ih, List.length_cons]; show 23 + _ = _; omega
theorem efsL_one (fs : List EfL) : (efsL fs).all one = true := by
  unfold efsL
  rw [List.all_flatMap]
  exact List.all_eq_true.2 fun f _ => rfl
theorem efsL_app (fs gs : List EfL) : efsL fs ++ efsL gs = efsL (fs ++ gs) := by unfold efsL; rw [List.flatMap_append]
set_option maxHeartbeats 1000000 in
theorem send_c (w0 : World) (n : Int) (m : MsL) (hM : m.At w0) (hI : m.In) (hG : GF w0) (hP : m.atr.path.length ≤ 1000) (hO : m.atr.others.length ≤ 90) : Calls Tryz.prog 54 #[.int .i64 n, .agg m.cells.toArray] w0 fun e w' => EffO w0 w' (sendE n m) e := by
  refine enter Tryz.func54 rfl Tryz.ntmps54 rfl (St.start (fun _ => False) w0) ?_
  refine cR <| WL.box rfl rfl rfl (.none rfl) rfl rfl <| ?_
  intro g3 hg3
  refine zA rfl <| zR <| zV (v_loadN rfl rfl many_39 rfl allAt) rfl <| zK ck_10 rfl <| ?_
  intro w1 hS
  refine (Enc_c w1 m (hM.st hS) hI (hG.keep (fun h => h) hS) hP hO).mono ?_
  rintro e w' ⟨_, rfl, ad9, c9, E9, rfl, hV9, hS'⟩
  refine ⟨_, _, rfl, hS.join hS', ?_⟩
  refine zM rfl <| zX rfl <| zX rfl <| zA rfl <| zA rfl <| zN <| cS <| cR <| zM rfl <| ?_
  refine zT (v_neq rfl rfl rfl) rfl (fun h13 => ?_) (fun h13 => ?_)
  refine zN <| cT rfl <| cR <| zA rfl <| zN <| cE <| eR <| tR Tryz.results54 rfl <| ?_
  exact fun w' h => ⟨none, 0, [], [], [], rfl, ⟨Vec.nil 23, fun e he => by cases he⟩, by unfold sendE; rw [if_neg h13]; rfl, h.sub (List.nil_sublist _)⟩
  refine zN <| cF rfl <| cK <| eN <| cR <| ?_
  have hc : msgC m = 0 := (by omega)
  rw [if_pos hc] at hV9 ⊢
  refine zM rfl <| zM rfl <| zV (v_build rfl rfl zero_54 plc_54 rfl) rfl <| zB Tryz.underlying46 sz_54 zero_54 rfl rfl <| ?_
  intro g17 hg17
  refine WL.as (L' := .row g17 (EfL.cells ⟨2, n, ad9, c9, msgB m, MsL.zero 0⟩) :: (E9 ++ [.row g3 m.cells])) rfl <| zA rfl <| zN <| cE <| tR Tryz.results54 rfl <| ?_
  refine fun w' h => ⟨some ⟨g17, 0, none⟩, 1, [⟨2, n, ad9, c9, msgB m, MsL.zero 0⟩], [.row g17 (EfL.cells ⟨2, n, ad9, c9, msgB m, MsL.zero 0⟩)], E9, rfl, ⟨Vec.row (k := 1) (c := 1) rfl rfl (Nat.le_refl _), fun e he => ?_⟩, by unfold sendE; rw [if_pos hc]; rfl, h.sub (List.Sublist.cons_cons _ (List.sublist_append_left _ _))⟩
  obtain rfl := List.mem_singleton.1 he
  exact ⟨⟨E9, hV9, fun _ h => h⟩⟩
set_option maxHeartbeats 1000000 in
theorem close0_c (w0 w : World) (g : Nat) (p : PeL) (s : Se) (E0 E1 L : List Ent) (d : Ck) (hA : PeAt g p s E0 E1 d) (hS0 : St (fun _ => False) w0 w (.row g p.cells :: (E0 ++ (E1 ++ d.L p.gC s.now L)))) :
    Calls Tryz.prog 87 #[.pointer (some ⟨g, 0, none⟩), .int .i64 0] w fun e w' => EffC w0 w' g (closeE s 0) (s.gone 0) L e := by
  refine enter Tryz.func87 rfl Tryz.ntmps87 rfl hS0 ?_
  refine cR <| zA rfl <| zR <| zM rfl <| zV (v_build rfl rfl zero_54 plc_54 rfl) rfl <| zB Tryz.underlying46 sz_54 zero_54 rfl rfl <| ?_
  intro g7 hg7
  refine WL.as (L' := .row g7 (efZ 3 0).cells :: .row g p.cells :: (E0 ++ (E1 ++ d.L p.gC s.now L))) rfl <| zM rfl <| zM rfl <| zK ck_59 rfl <| ?_
  intro w1 hS
  refine (gone0_c w0 w1 g p s E0 E1 (.row g7 (efZ 3 0).cells :: L) d hA (hS.permK )).mono ?_
  rintro e w' ⟨ad2, c2, fs, EF, KF, p2, E02, E12, d2, rfl, hV2, hes, hA2, hS'⟩
  have hfl := efs_len hes
  have hgl := goneE_len s 0
  refine ⟨_, [.row g7 (efZ 3 0).cells] ++ (EF ++ (KF ++ (.row g p2.cells :: (E02 ++ (E12 ++ d2.L p2.gC (s.gone 0).now L))))), rfl, hS'.permK , ?_⟩
  refine WL.appendL rfl rfl rfl Tryz.underlying46 Tryz.underlying46 sz_54 by_54 zero_54 rfl rfl (efZ_one 3 0).1 (new := efsL fs) (hV2.1.src (fun e he => List.mem_append_right _ (List.mem_append_left _ he)) |> fun f h => (f (by rw [efsL_len]; omega)).elim fun b1 h1 => h1.elim fun o1 h2 => ⟨b1, o1, h2.1, fun w hS => h2.2 _ _ w hS⟩) (efsL_len fs) (efsL_one fs) (by omega) (.none rfl) rfl rfl ?_
  intro ad11 c11 E11 hV11 hr11
  rw [efsL_app] at hV11
  rw [show 1 + fs.length = ([efZ 3 0] ++ fs).length by rw [List.length_append]; rfl] at hV11 ⊢
  refine zA rfl <| zN <| cE <| tR Tryz.results87 rfl <| ?_
  refine fun w' h => ⟨ad11, c11, [efZ 3 0] ++ fs, E11, KF, p2, E02, E12, d2, rfl, ⟨hV11, fun e he => ?_⟩, by rw [List.map_append, hes]; rfl, hA2, h.dropK EF ⟩
  rcases List.mem_append.1 he with he | he
  · obtain rfl := List.mem_singleton.1 he
    exact efZ_own _ _ _
  · exact hV2.2 e he
set_option maxHeartbeats 1000000 in
theorem close1_c (w0 w : World) (g : Nat) (p : PeL) (s : Se) (E0 E1 L : List Ent) (d : Ck) (hA : PeAt g p s E0 E1 d) (hS0 : St (fun _ => False) w0 w (.row g p.cells :: (E0 ++ (E1 ++ d.L p.gC s.now L)))) :
    Calls Tryz.prog 87 #[.pointer (some ⟨g, 0, none⟩), .int .i64 1] w fun e w' => EffC w0 w' g (closeE s 1) (s.gone 1) L e := by
  refine enter Tryz.func87 rfl Tryz.ntmps87 rfl hS0 ?_
  refine cR <| zA rfl <| zR <| zM rfl <| zV (v_build rfl rfl zero_54 plc_54 rfl) rfl <| zB Tryz.underlying46 sz_54 zero_54 rfl rfl <| ?_
  intro g7 hg7
  refine WL.as (L' := .row g7 (efZ 3 1).cells :: .row g p.cells :: (E0 ++ (E1 ++ d.L p.gC s.now L))) rfl <| zM rfl <| zM rfl <| zK ck_59 rfl <| ?_
  intro w1 hS
  refine (gone1_c w0 w1 g p s E0 E1 (.row g7 (efZ 3 1).cells :: L) d hA (hS.permK )).mono ?_
  rintro e w' ⟨ad2, c2, fs, EF, KF, p2, E02, E12, d2, rfl, hV2, hes, hA2, hS'⟩
  have hfl := efs_len hes
  have hgl := goneE_len s 1
  refine ⟨_, [.row g7 (efZ 3 1).cells] ++ (EF ++ (KF ++ (.row g p2.cells :: (E02 ++ (E12 ++ d2.L p2.gC (s.gone 1).now L))))), rfl, hS'.permK , ?_⟩
  refine WL.appendL rfl rfl rfl Tryz.underlying46 Tryz.underlying46 sz_54 by_54 zero_54 rfl rfl (efZ_one 3 1).1 (new := efsL fs) (hV2.1.src (fun e he => List.mem_append_right _ (List.mem_append_left _ he)) |> fun f h => (f (by rw [efsL_len]; omega)).elim fun b1 h1 => h1.elim fun o1 h2 => ⟨b1, o1, h2.1, fun w hS => h2.2 _ _ w hS⟩) (efsL_len fs) (efsL_one fs) (by omega) (.none rfl) rfl rfl ?_
  intro ad11 c11 E11 hV11 hr11
  rw [efsL_app] at hV11
  rw [show 1 + fs.length = ([efZ 3 1] ++ fs).length by rw [List.length_append]; rfl] at hV11 ⊢
  refine zA rfl <| zN <| cE <| tR Tryz.results87 rfl <| ?_
  refine fun w' h => ⟨ad11, c11, [efZ 3 1] ++ fs, E11, KF, p2, E02, E12, d2, rfl, ⟨hV11, fun e he => ?_⟩, by rw [List.map_append, hes]; rfl, hA2, h.dropK EF ⟩
  rcases List.mem_append.1 he with he | he
  · obtain rfl := List.mem_singleton.1 he
    exact efZ_own _ _ _
  · exact hV2.2 e he

theorem EfOwn.mono {K K' : List Ent} {e : EfL} (h : EfOwn K e) (hm : ∀ x ∈ K, x ∈ K') : EfOwn K' e := by
  obtain ⟨⟨E, h1, h2⟩⟩ := h
  exact ⟨⟨E, h1, fun x hx => hm x (h2 x hx)⟩⟩
structure EffS where
  ad : Option Addr
  c : Nat
  fs : List EfL
  E : List Ent
  K : List Ent
theorem endE_len (s : Se) (n : Nat) (C S : Int) (d : ByteArray) : (endE s n C S d).length ≤ 3 := by
  have h1 := sendE_len n (noteM C S d)
  have h2 := goneE_len s n
  unfold endE closeE
  rw [List.length_append, List.length_cons]
  split
  · rw [List.length_nil]; omega
  · omega
set_option maxHeartbeats 1000000 in
theorem end0_c (w0 w : World) (g : Nat) (p : PeL) (s : Se) (E0 E1 L : List Ent) (d : Ck) (hA : PeAt g p s E0 E1 d) (hG : GF w0) (hS0 : St (fun _ => False) w0 w (.row g p.cells :: (E0 ++ (E1 ++ d.L p.gC s.now L)))) (C S : Int) (f : ByteArray) (hC : I64 C) (hSb : I64 S) (hf : f.size ≤ 100000) :
    Calls Tryz.prog 57 #[.pointer (some ⟨g, 0, none⟩), .int .i64 0, .agg (fltL C S f).toArray] w fun e w' => EffC w0 w' g (endE s 0 C S f) (s.gone 0) L e := by
  refine enter Tryz.func57 rfl Tryz.ntmps57 rfl hS0 ?_
  refine cR <| WL.box rfl rfl rfl (.none rfl) rfl rfl <| ?_
  intro g5 hg5
  refine zA rfl <| zR <| zA rfl <| zN <| ?_
  refine WC.cut (fun y : EffS => [(7, .slice y.ad y.fs.length y.c), (1, .int .i64 0), (0, .pointer (some ⟨g, 0, none⟩))]) (fun y => y.E ++ (y.K ++ (.row g p.cells :: (E0 ++ (E1 ++ d.L p.gC s.now L))))) (fun y => EfsV y.ad y.c y.fs y.E y.K ∧ y.fs.map EfL.d = (if C = 0 then [] else sendE 0 (noteM C S f))) ?_ ?_
  refine cR <| zF rfl fld_37_0 <| zL rfl one_3 rfl <| ?_
  refine zT (v_neq rfl rfl rfl) rfl (fun h10 => ?_) (fun h10 => ?_)
  refine zN <| cT rfl <| WC.region <| zM rfl <| zV (v_loadN rfl rfl many_37 rfl allAt) rfl <| zV (v_build rfl rfl zero_39 plc_39 rfl) rfl <| zK ck_54 rfl <| ?_
  intro w1 hS
  refine (send_c w1 0 (noteM C S f) (noteM_at _ _ _ _) (noteM_in hC hSb hf) (hG.keep (fun h => h) hS) (Nat.zero_le _) (Nat.zero_le _)).mono ?_
  rintro e w' ⟨ad14, c14, fs, EF, KF, rfl, hV14, hes, hS'⟩
  refine ⟨_, _, rfl, hS.join hS', ?_⟩
  refine zA rfl <| WL.nil <| ?_
  refine WE.mid ⟨ad14, c14, fs, EF, KF⟩ ⟨hV14, by dsimp only; rw [if_neg h10]; exact hes⟩ (.cons rfl (.cons rfl (.cons rfl .nil))) ?_
  dsimp only
  rw [List.append_assoc]
  exact List.Sublist.append_left (List.Sublist.append_left (.cons _ (.refl _)) _) _
  refine zN <| cF rfl <| cK <| ?_
  exact WE.mid ⟨none, 0, [], [], []⟩ ⟨⟨Vec.nil 23, fun e he => by cases he⟩, by dsimp only; rw [if_pos (Decidable.of_not_not h10)]; rfl⟩ (.cons rfl (.cons rfl (.cons rfl .nil))) (.cons _ (.refl _))
  rintro ⟨ad7, c7, fs, EF, KF⟩ ⟨hV7, hes⟩
  dsimp only at hV7 hes
  dsimp only
  have hfl := efs_len hes
  have hfb : fs.length ≤ 1 := (by rw [hfl]; split; exact Nat.zero_le _; exact sendE_len _ _)
  refine cR <| zM rfl <| zM rfl <| zM rfl <| zK ck_87 rfl <| ?_
  intro w1 hS
  refine (close0_c w0 w1 g p s E0 E1 (EF ++ (KF ++ L)) d hA (hS.permK )).mono ?_
  rintro e w' ⟨ad2, c2, gs, EG, KG, p2, E02, E12, d2, rfl, hV2, heg, hA2, hS'⟩
  have hgl := efs_len heg
  have hgb : gs.length ≤ 2 := (by rw [hgl]; unfold closeE; rw [List.length_cons]; have := goneE_len s 0; omega)
  refine ⟨_, EF ++ (EG ++ (KG ++ (KF ++ (.row g p2.cells :: (E02 ++ (E12 ++ d2.L p2.gC (s.gone 0).now L)))))), rfl, hS'.permK , ?_⟩
  refine WL.appendL rfl rfl rfl Tryz.underlying46 Tryz.underlying46 sz_54 by_54 zero_54 rfl rfl hV7.1 (new := efsL gs) (hV2.1.src (fun e he => List.mem_append_right _ (List.mem_append_left _ he)) |> fun f h => (f (by rw [efsL_len]; omega)).elim fun b1 h1 => h1.elim fun o1 h2 => ⟨b1, o1, h2.1, fun w hS => h2.2 _ _ w hS⟩) (efsL_len gs) (efsL_one gs) (by omega) (.none rfl) rfl rfl ?_
  intro ad19 c19 E19 hV19 hr19
  rw [efsL_app] at hV19
  rw [show fs.length + gs.length = (fs ++ gs).length from List.length_append.symm] at hV19 ⊢
  refine zA rfl <| zN <| cE <| tR Tryz.results57 rfl <| ?_
  refine fun w' h => ⟨ad19, c19, fs ++ gs, E19, KG ++ KF, p2, E02, E12, d2, rfl, ⟨hV19, fun e he => ?_⟩, by rw [List.map_append, hes, heg]; rfl, hA2, h.dropK EG ⟩
  rcases List.mem_append.1 he with he | he
  · exact (hV7.2 e he).mono fun x hx => List.mem_append_right _ hx
  · exact (hV2.2 e he).mono fun x hx => List.mem_append_left _ hx
theorem fault0_c (w0 w : World) (g : Nat) (p : PeL) (s : Se) (E0 E1 L : List Ent) (d : Ck) (hA : PeAt g p s E0 E1 d) (hG : GF w0) (hS0 : St (fun _ => False) w0 w (.row g p.cells :: (E0 ++ (E1 ++ d.L p.gC s.now L)))) (C S : Int) (hC : I64 C) (hSb : I64 S) :
    Calls Tryz.prog 63 #[.pointer (some ⟨g, 0, none⟩), .int .i64 0, .int .i64 C, .int .i64 S] w fun e w' => EffC w0 w' g (endE s 0 C S ⟨#[]⟩) (s.gone 0) L e := by
  refine enter Tryz.func63 rfl Tryz.ntmps63 rfl hS0 ?_
  refine cR <| zA rfl <| zR <| zM rfl <| zM rfl <| zM rfl <| zM rfl <| zV (v_build rfl rfl zero_37 plc_37 rfl) rfl <| zK ck_57 rfl <| ?_
  intro w1 hS
  refine (end0_c w0 w1 g p s E0 E1 L d hA hG hS C S ⟨#[]⟩ hC hSb (by decide)).mono ?_
  rintro e w' ⟨ad2, c2, gs, EG, KG, p2, E02, E12, d2, rfl, hV2, heg, hA2, hS'⟩
  refine ⟨_, _, rfl, hS', ?_⟩
  refine zA rfl <| zN <| cE <| tR Tryz.results63 rfl <| ?_
  exact fun w' h => ⟨ad2, c2, gs, EG, KG, p2, E02, E12, d2, rfl, hV2, heg, hA2, h⟩
set_option maxHeartbeats 1000000 in
theorem end1_c (w0 w : World) (g : Nat) (p : PeL) (s : Se) (E0 E1 L : List Ent) (d : Ck) (hA : PeAt g p s E0 E1 d) (hG : GF w0) (hS0 : St (fun _ => False) w0 w (.row g p.cells :: (E0 ++ (E1 ++ d.L p.gC s.now L)))) (C S : Int) (f : ByteArray) (hC : I64 C) (hSb : I64 S) (hf : f.size ≤ 100000) :
    Calls Tryz.prog 57 #[.pointer (some ⟨g, 0, none⟩), .int .i64 1, .agg (fltL C S f).toArray] w fun e w' => EffC w0 w' g (endE s 1 C S f) (s.gone 1) L e := by
  refine enter Tryz.func57 rfl Tryz.ntmps57 rfl hS0 ?_
  refine cR <| WL.box rfl rfl rfl (.none rfl) rfl rfl <| ?_
  intro g5 hg5
  refine zA rfl <| zR <| zA rfl <| zN <| ?_
  refine WC.cut (fun y : EffS => [(7, .slice y.ad y.fs.length y.c), (1, .int .i64 1), (0, .pointer (some ⟨g, 0, none⟩))]) (fun y => y.E ++ (y.K ++ (.row g p.cells :: (E0 ++ (E1 ++ d.L p.gC s.now L))))) (fun y => EfsV y.ad y.c y.fs y.E y.K ∧ y.fs.map EfL.d = (if C = 0 then [] else sendE 1 (noteM C S f))) ?_ ?_
  refine cR <| zF rfl fld_37_0 <| zL rfl one_3 rfl <| ?_
  refine zT (v_neq rfl rfl rfl) rfl (fun h10 => ?_) (fun h10 => ?_)
  refine zN <| cT rfl <| WC.region <| zM rfl <| zV (v_loadN rfl rfl many_37 rfl allAt) rfl <| zV (v_build rfl rfl zero_39 plc_39 rfl) rfl <| zK ck_54 rfl <| ?_
  intro w1 hS
  refine (send_c w1 1 (noteM C S f) (noteM_at _ _ _ _) (noteM_in hC hSb hf) (hG.keep (fun h => h) hS) (Nat.zero_le _) (Nat.zero_le _)).mono ?_
  rintro e w' ⟨ad14, c14, fs, EF, KF, rfl, hV14, hes, hS'⟩
  refine ⟨_, _, rfl, hS.join hS', ?_⟩
  refine zA rfl <| WL.nil <| ?_
  refine WE.mid ⟨ad14, c14, fs, EF, KF⟩ ⟨hV14, by dsimp only; rw [if_neg h10]; exact hes⟩ (.cons rfl (.cons rfl (.cons rfl .nil))) ?_
  dsimp only
  rw [List.append_assoc]
  exact List.Sublist.append_left (List.Sublist.append_left (.cons _ (.refl _)) _) _
  refine zN <| cF rfl <| cK <| ?_
  exact WE.mid ⟨none, 0, [], [], []⟩ ⟨⟨Vec.nil 23, fun e he => by cases he⟩, by dsimp only; rw [if_pos (Decidable.of_not_not h10)]; rfl⟩ (.cons rfl (.cons rfl (.cons rfl .nil))) (.cons _ (.refl _))
  rintro ⟨ad7, c7, fs, EF, KF⟩ ⟨hV7, hes⟩
  dsimp only at hV7 hes
  dsimp only
  have hfl := efs_len hes
  have hfb : fs.length ≤ 1 := (by rw [hfl]; split; exact Nat.zero_le _; exact sendE_len _ _)
  refine cR <| zM rfl <| zM rfl <| zM rfl <| zK ck_87 rfl <| ?_
  intro w1 hS
  refine (close1_c w0 w1 g p s E0 E1 (EF ++ (KF ++ L)) d hA (hS.permK )).mono ?_
  rintro e w' ⟨ad2, c2, gs, EG, KG, p2, E02, E12, d2, rfl, hV2, heg, hA2, hS'⟩
  have hgl := efs_len heg
  have hgb : gs.length ≤ 2 := (by rw [hgl]; unfold closeE; rw [List.length_cons]; have := goneE_len s 1; omega)
  refine ⟨_, EF ++ (EG ++ (KG ++ (KF ++ (.row g p2.cells :: (E02 ++ (E12 ++ d2.L p2.gC (s.gone 1).now L)))))), rfl, hS'.permK , ?_⟩
  refine WL.appendL rfl rfl rfl Tryz.underlying46 Tryz.underlying46 sz_54 by_54 zero_54 rfl rfl hV7.1 (new := efsL gs) (hV2.1.src (fun e he => List.mem_append_right _ (List.mem_append_left _ he)) |> fun f h => (f (by rw [efsL_len]; omega)).elim fun b1 h1 => h1.elim fun o1 h2 => ⟨b1, o1, h2.1, fun w hS => h2.2 _ _ w hS⟩) (efsL_len gs) (efsL_one gs) (by omega) (.none rfl) rfl rfl ?_
  intro ad19 c19 E19 hV19 hr19
  rw [efsL_app] at hV19
  rw [show fs.length + gs.length = (fs ++ gs).length from List.length_append.symm] at hV19 ⊢
  refine zA rfl <| zN <| cE <| tR Tryz.results57 rfl <| ?_
  refine fun w' h => ⟨ad19, c19, fs ++ gs, E19, KG ++ KF, p2, E02, E12, d2, rfl, ⟨hV19, fun e he => ?_⟩, by rw [List.map_append, hes, heg]; rfl, hA2, h.dropK EG ⟩
  rcases List.mem_append.1 he with he | he
  · exact (hV7.2 e he).mono fun x hx => List.mem_append_right _ hx
  · exact (hV2.2 e he).mono fun x hx => List.mem_append_left _ hx
theorem fault1_c (w0 w : World) (g : Nat) (p : PeL) (s : Se) (E0 E1 L : List Ent) (d : Ck) (hA : PeAt g p s E0 E1 d) (hG : GF w0) (hS0 : St (fun _ => False) w0 w (.row g p.cells :: (E0 ++ (E1 ++ d.L p.gC s.now L)))) (C S : Int) (hC : I64 C) (hSb : I64 S) :
    Calls Tryz.prog 63 #[.pointer (some ⟨g, 0, none⟩), .int .i64 1, .int .i64 C, .int .i64 S] w fun e w' => EffC w0 w' g (endE s 1 C S ⟨#[]⟩) (s.gone 1) L e := by
  refine enter Tryz.func63 rfl Tryz.ntmps63 rfl hS0 ?_
  refine cR <| zA rfl <| zR <| zM rfl <| zM rfl <| zM rfl <| zM rfl <| zV (v_build rfl rfl zero_37 plc_37 rfl) rfl <| zK ck_57 rfl <| ?_
  intro w1 hS
  refine (end1_c w0 w1 g p s E0 E1 L d hA hG hS C S ⟨#[]⟩ hC hSb (by decide)).mono ?_
  rintro e w' ⟨ad2, c2, gs, EG, KG, p2, E02, E12, d2, rfl, hV2, heg, hA2, hS'⟩
  refine ⟨_, _, rfl, hS', ?_⟩
  refine zA rfl <| zN <| cE <| tR Tryz.results63 rfl <| ?_
  exact fun w' h => ⟨ad2, c2, gs, EG, KG, p2, E02, E12, d2, rfl, hV2, heg, hA2, h⟩

def Se.alive (s : Se) (n : Nat) : Se := if (s.c n).hold = 0 then s else s.due (1 + n) (s.c n).hold
def Se.kept (s : Se) (n : Nat) : Se := if (s.c n).hold = 0 then s else s.due (3 + n) ((s.c n).hold.tdiv 3)
theorem alive_now (s : Se) (n : Nat) : (s.alive n).now = s.now := by unfold Se.alive; split <;> rfl
theorem kept_now (s : Se) (n : Nat) : (s.kept n).now = s.now := by unfold Se.kept; split <;> rfl
theorem tdiv3 {x : Int} (h0 : 0 ≤ x) (h1 : x ≤ 65535) : 0 ≤ x.tdiv 3 ∧ x.tdiv 3 ≤ 65535 := by
  rw [Int.tdiv_eq_ediv_of_nonneg h0]
  omega
theorem alive0_c (w0 w : World) (g : Nat) (p : PeL) (s : Se) (E0 E1 L : List Ent) (d : Ck) (hA : PeAt g p s E0 E1 d) (hS0 : St (fun _ => False) w0 w (.row g p.cells :: (E0 ++ (E1 ++ d.L p.gC s.now L)))) :
    Calls Tryz.prog 90 #[.pointer (some ⟨g, 0, none⟩), .int .i64 0] w fun e w' => ∃ d', e = .returned (.tuple #[]) ∧ PeAt g p (s.alive 0) E0 E1 d' ∧ St (fun _ => False) w0 w' (.row g p.cells :: (E0 ++ (E1 ++ d'.L p.gC s.now L))) := by
  have hc : p.c0.m = s.c0 := (congrArg Se.c0 hA.eq :)
  have hh : p.c0.hold = (s.c 0).hold := (congrArg CnM.hold hc :)
  have hb := hA.ok0.2.2.2.1
  rw [show s.c0.hold = (s.c 0).hold from rfl, ← hh] at hb
  have ht3 := tdiv3 hb.1 hb.2
  refine enter Tryz.func90 rfl Tryz.ntmps90 rfl hS0 ?_
  refine cR <| zM rfl <| zM rfl <| zC rfl <| zF rfl fld_106_3 <| ?_
  refine zV (v_indexAddrA (lo := 0) rfl rfl rfl Tryz.underlying104 sz_103 (by omega) (by omega)) rfl ?_
  refine zV (v_fieldAddr rfl rfl fld_103_2) rfl <| zV (v_load1 rfl rfl one_3 (cellAt (v := .int .i64 p.c0.hold) rfl)) rfl <| zA rfl <| zR <| zM rfl <| ?_
  refine zT (v_neq rfl rfl rfl) rfl (fun h13 => ?_) (fun h13 => ?_)
  refine zN <| cT rfl <| WC.region <| zM rfl <| zM rfl <| ?_
  refine zV (v_add rfl rfl rfl (show _ = (1 : Int) from w_i64 (by decide) (by decide))) rfl ?_
  refine zM rfl <| zK ck_53 rfl <| ?_
  intro w1 hS
  refine (due_c w0 w1 g p s E0 E1 L d hA hS 1 (by omega) (p.c0.hold) (by omega)).mono ?_
  rintro e w' ⟨d', rfl, hA', hS'⟩
  refine ⟨_, _, rfl, hS', ?_⟩
  refine WL.nil <| WE.ret0 (P := Tryz.prog) (.inr rfl) Tryz.results90  <| ?_
  have e0 : s.alive 0 = s.due (1) (p.c0.hold) := (by unfold Se.alive; rw [← hh, if_neg h13])
  exact fun w' h => ⟨d', rfl, by rw [e0]; exact hA', h⟩
  refine zN <| cF rfl <| cK <| WE.ret0 (P := Tryz.prog) (.inr rfl) Tryz.results90  <| ?_
  have e0 : s.alive 0 = s := (by unfold Se.alive; rw [← hh, if_pos (Decidable.of_not_not h13)])
  exact fun w' h => ⟨d, rfl, by rw [e0]; exact hA, h⟩
theorem kept0_c (w0 w : World) (g : Nat) (p : PeL) (s : Se) (E0 E1 L : List Ent) (d : Ck) (hA : PeAt g p s E0 E1 d) (hS0 : St (fun _ => False) w0 w (.row g p.cells :: (E0 ++ (E1 ++ d.L p.gC s.now L)))) :
    Calls Tryz.prog 64 #[.pointer (some ⟨g, 0, none⟩), .int .i64 0] w fun e w' => ∃ d', e = .returned (.tuple #[]) ∧ PeAt g p (s.kept 0) E0 E1 d' ∧ St (fun _ => False) w0 w' (.row g p.cells :: (E0 ++ (E1 ++ d'.L p.gC s.now L))) := by
  have hc : p.c0.m = s.c0 := (congrArg Se.c0 hA.eq :)
  have hh : p.c0.hold = (s.c 0).hold := (congrArg CnM.hold hc :)
  have hb := hA.ok0.2.2.2.1
  rw [show s.c0.hold = (s.c 0).hold from rfl, ← hh] at hb
  have ht3 := tdiv3 hb.1 hb.2
  refine enter Tryz.func64 rfl Tryz.ntmps64 rfl hS0 ?_
  refine cR <| zM rfl <| zM rfl <| zC rfl <| zF rfl fld_106_3 <| ?_
  refine zV (v_indexAddrA (lo := 0) rfl rfl rfl Tryz.underlying104 sz_103 (by omega) (by omega)) rfl ?_
  refine zV (v_fieldAddr rfl rfl fld_103_2) rfl <| zV (v_load1 rfl rfl one_3 (cellAt (v := .int .i64 p.c0.hold) rfl)) rfl <| zA rfl <| zR <| zM rfl <| ?_
  refine zT (v_neq rfl rfl rfl) rfl (fun h13 => ?_) (fun h13 => ?_)
  refine zN <| cT rfl <| WC.region <| zM rfl <| zM rfl <| ?_
  refine zV (v_add rfl rfl rfl (show _ = (3 : Int) from w_i64 (by decide) (by decide))) rfl ?_
  refine zM rfl ?_
  refine zV (v_quoT rfl rfl rfl (by first | decide | omega) (w_i64 (by omega) (by omega))) rfl ?_
  refine zK ck_53 rfl ?_
  intro w1 hS
  refine (due_c w0 w1 g p s E0 E1 L d hA hS 3 (by omega) (p.c0.hold.tdiv 3) (by omega)).mono ?_
  rintro e w' ⟨d', rfl, hA', hS'⟩
  refine ⟨_, _, rfl, hS', ?_⟩
  refine WL.nil <| WE.ret0 (P := Tryz.prog) (.inr rfl) Tryz.results64  <| ?_
  have e0 : s.kept 0 = s.due (3) (p.c0.hold.tdiv 3) := (by unfold Se.kept; rw [← hh, if_neg h13])
  exact fun w' h => ⟨d', rfl, by rw [e0]; exact hA', h⟩
  refine zN <| cF rfl <| cK <| WE.ret0 (P := Tryz.prog) (.inr rfl) Tryz.results64  <| ?_
  have e0 : s.kept 0 = s := (by unfold Se.kept; rw [← hh, if_pos (Decidable.of_not_not h13)])
  exact fun w' h => ⟨d, rfl, by rw [e0]; exact hA, h⟩
theorem alive1_c (w0 w : World) (g : Nat) (p : PeL) (s : Se) (E0 E1 L : List Ent) (d : Ck) (hA : PeAt g p s E0 E1 d) (hS0 : St (fun _ => False) w0 w (.row g p.cells :: (E0 ++ (E1 ++ d.L p.gC s.now L)))) :
    Calls Tryz.prog 90 #[.pointer (some ⟨g, 0, none⟩), .int .i64 1] w fun e w' => ∃ d', e = .returned (.tuple #[]) ∧ PeAt g p (s.alive 1) E0 E1 d' ∧ St (fun _ => False) w0 w' (.row g p.cells :: (E0 ++ (E1 ++ d'.L p.gC s.now L))) := by
  have hc : p.c1.m = s.c1 := (congrArg Se.c1 hA.eq :)
  have hh : p.c1.hold = (s.c 1).hold := (congrArg CnM.hold hc :)
  have hb := hA.ok1.2.2.2.1
  rw [show s.c1.hold = (s.c 1).hold from rfl, ← hh] at hb
  have ht3 := tdiv3 hb.1 hb.2
  refine enter Tryz.func90 rfl Tryz.ntmps90 rfl hS0 ?_
  refine cR <| zM rfl <| zM rfl <| zC rfl <| zF rfl fld_106_3 <| ?_
  refine zV (v_indexAddrA (lo := 1) rfl rfl rfl Tryz.underlying104 sz_103 (by omega) (by omega)) rfl ?_
  refine zV (v_fieldAddr rfl rfl fld_103_2) rfl <| zV (v_load1 rfl rfl one_3 (cellAt (v := .int .i64 p.c1.hold) rfl)) rfl <| zA rfl <| zR <| zM rfl <| ?_
  refine zT (v_neq rfl rfl rfl) rfl (fun h13 => ?_) (fun h13 => ?_)
  refine zN <| cT rfl <| WC.region <| zM rfl <| zM rfl <| ?_
  refine zV (v_add rfl rfl rfl (show _ = (2 : Int) from w_i64 (by decide) (by decide))) rfl ?_
  refine zM rfl <| zK ck_53 rfl <| ?_
  intro w1 hS
  refine (due_c w0 w1 g p s E0 E1 L d hA hS 2 (by omega) (p.c1.hold) (by omega)).mono ?_
  rintro e w' ⟨d', rfl, hA', hS'⟩
  refine ⟨_, _, rfl, hS', ?_⟩
  refine WL.nil <| WE.ret0 (P := Tryz.prog) (.inr rfl) Tryz.results90  <| ?_
  have e0 : s.alive 1 = s.due (2) (p.c1.hold) := (by unfold Se.alive; rw [← hh, if_neg h13])
  exact fun w' h => ⟨d', rfl, by rw [e0]; exact hA', h⟩
  refine zN <| cF rfl <| cK <| WE.ret0 (P := Tryz.prog) (.inr rfl) Tryz.results90  <| ?_
  have e0 : s.alive 1 = s := (by unfold Se.alive; rw [← hh, if_pos (Decidable.of_not_not h13)])
  exact fun w' h => ⟨d, rfl, by rw [e0]; exact hA, h⟩
theorem kept1_c (w0 w : World) (g : Nat) (p : PeL) (s : Se) (E0 E1 L : List Ent) (d : Ck) (hA : PeAt g p s E0 E1 d) (hS0 : St (fun _ => False) w0 w (.row g p.cells :: (E0 ++ (E1 ++ d.L p.gC s.now L)))) :
    Calls Tryz.prog 64 #[.pointer (some ⟨g, 0, none⟩), .int .i64 1] w fun e w' => ∃ d', e = .returned (.tuple #[]) ∧ PeAt g p (s.kept 1) E0 E1 d' ∧ St (fun _ => False) w0 w' (.row g p.cells :: (E0 ++ (E1 ++ d'.L p.gC s.now L))) := by
  have hc : p.c1.m = s.c1 := (congrArg Se.c1 hA.eq :)
  have hh : p.c1.hold = (s.c 1).hold := (congrArg CnM.hold hc :)
  have hb := hA.ok1.2.2.2.1
  rw [show s.c1.hold = (s.c 1).hold from rfl, ← hh] at hb
  have ht3 := tdiv3 hb.1 hb.2
  refine enter Tryz.func64 rfl Tryz.ntmps64 rfl hS0 ?_
  refine cR <| zM rfl <| zM rfl <| zC rfl <| zF rfl fld_106_3 <| ?_
  refine zV (v_indexAddrA (lo := 1) rfl rfl rfl Tryz.underlying104 sz_103 (by omega) (by omega)) rfl ?_
  refine zV (v_fieldAddr rfl rfl fld_103_2) rfl <| zV (v_load1 rfl rfl one_3 (cellAt (v := .int .i64 p.c1.hold) rfl)) rfl <| zA rfl <| zR <| zM rfl <| ?_
  refine zT (v_neq rfl rfl rfl) rfl (fun h13 => ?_) (fun h13 => ?_)
  refine zN <| cT rfl <| WC.region <| zM rfl <| zM rfl <| ?_
  refine zV (v_add rfl rfl rfl (show _ = (4 : Int) from w_i64 (by decide) (by decide))) rfl ?_
  refine zM rfl ?_
  refine zV (v_quoT rfl rfl rfl (by first | decide | omega) (w_i64 (by omega) (by omega))) rfl ?_
  refine zK ck_53 rfl ?_
  intro w1 hS
  refine (due_c w0 w1 g p s E0 E1 L d hA hS 4 (by omega) (p.c1.hold.tdiv 3) (by omega)).mono ?_
  rintro e w' ⟨d', rfl, hA', hS'⟩
  refine ⟨_, _, rfl, hS', ?_⟩
  refine WL.nil <| WE.ret0 (P := Tryz.prog) (.inr rfl) Tryz.results64  <| ?_
  have e0 : s.kept 1 = s.due (4) (p.c1.hold.tdiv 3) := (by unfold Se.kept; rw [← hh, if_neg h13])
  exact fun w' h => ⟨d', rfl, by rw [e0]; exact hA', h⟩
  refine zN <| cF rfl <| cK <| WE.ret0 (P := Tryz.prog) (.inr rfl) Tryz.results64  <| ?_
  have e0 : s.kept 1 = s := (by unfold Se.kept; rw [← hh, if_pos (Decidable.of_not_not h13)])
  exact fun w' h => ⟨d, rfl, by rw [e0]; exact hA, h⟩
def liveP (p : PeL) : Int := if p.c0.st = 5 then 0 else if p.c1.st = 5 then 1 else -1
theorem live_c (w : World) (g : Nat) (p : PeL) (hR : Row w g p.cells) : Calls Tryz.prog 60 #[.pointer (some ⟨g, 0, none⟩)] w fun e w' => e = .returned (.int .i64 (liveP p)) ∧ Frm (fun _ => False) w w' := by
  have hst : ∀ n, n < 2 → p.cells[7 + n * 8]? = some (.int .i64 (p.c n).st) := fun n hn => by
    match n, hn with
    | 0, _ => rfl
    | 1, _ => rfl
  refine enter Tryz.func60 rfl Tryz.ntmps60 rfl (St.start (fun _ => False) w) ?_
  refine cR <| zA rfl <| zN <| cS <| cR <| zM rfl <| zN <| cB <| WC.loop (fun k : Nat => [(4, .int .i64 k), (0, .pointer (some ⟨g, 0, none⟩))]) (fun _ => []) (fun k => k ≤ 2 ∧ ∀ j, j < k → (p.c j).st ≠ 5) (fun k => 2 - k) 0 ⟨Nat.zero_le _, fun j h => absurd h (Nat.not_lt_zero _)⟩ (.cons rfl (.cons rfl .nil)) (.refl _) <| ?_
  rintro k ⟨hk, hz⟩
  refine cR ?_
  refine zT (v_lss rfl rfl rfl) rfl (fun h5 => ?_) (fun h5 => ?_)
  refine zN <| cS <| cT rfl <| cK <| eN <| cS <| cB <| cR <| zM rfl <| zA rfl <| zR <| ?_
  refine zM rfl <| zM rfl <| zC rfl <| zF rfl fld_106_3 <| ?_
  refine zV (v_indexAddrA (lo := k) rfl rfl rfl Tryz.underlying104 sz_103 (by omega) (by omega)) rfl ?_
  refine zV (v_fieldAddr rfl rfl fld_103_0) rfl ?_
  refine zV (v_load1 rfl rfl one_3 (cellOld (fun h => h) (hR.cell (hst k (by omega))))) rfl ?_
  refine zT (v_eql rfl rfl rfl) rfl (fun h14 => ?_) (fun h14 => ?_)
  refine zN <| cT rfl <| cR <| zM rfl <| zA rfl <| zN <| cE <| eB <| eR <| eR <| eB <| eR <| tR Tryz.results60 rfl <| ?_
  have e0 : liveP p = (k : Int) := (by
    unfold liveP
    match k, (by omega : k < 2), h14, hz with
    | 0, _, h14, _ => exact if_pos h14
    | 1, _, h14, hz => exact (if_neg (show p.c0.st ≠ 5 from hz 0 (by decide))).trans (if_pos (show p.c1.st = 5 from h14)))
  exact fun w' h => ⟨by rw [e0], h.frm⟩
  refine zN <| cF rfl <| cK <| eY <| eN <| WC.region <| ?_
  refine zV (v_add rfl rfl rfl (show _ = ((k + 1 : Nat) : Int) from (w_i64 (by omega) (by omega)).trans (by omega))) rfl ?_
  refine zM rfl <| WL.nil <| ?_
  exact WE.next (k + 1) (by omega) ⟨by omega, fun j hj => by
  by_cases e : j = k
  · rw [e]; exact h14
  · exact hz j (by omega)⟩ (.cons rfl (.cons rfl .nil)) (.refl _)
  refine zN <| cS <| cF rfl <| cX <| eX <| eX <| eH <| eN <| cR <| zA rfl <| zN <| cE <| tR Tryz.results60 rfl <| ?_
  have e0 : liveP p = -1 := (by
    unfold liveP
    exact (if_neg (show p.c0.st ≠ 5 from hz 0 (by omega))).trans (if_neg (show p.c1.st ≠ 5 from hz 1 (by omega))))
  exact fun w' h => ⟨by rw [e0], h.frm⟩
theorem start_c (w0 w : World) (g : Nat) (p : PeL) (s : Se) (E0 E1 L : List Ent) (d : Ck) (hA : PeAt g p s E0 E1 d) (hS0 : St (fun _ => False) w0 w (.row g p.cells :: (E0 ++ (E1 ++ d.L p.gC s.now L)))) :
    Calls Tryz.prog 13 #[.pointer (some ⟨g, 0, none⟩)] w fun e w' => EffC w0 w' g (if s.base = 0 then [ef 1 0] else []) (if s.base = 0 then s.dial else s) L e := by
  have hb0 : p.base = s.base := (congrArg Se.base hA.eq :)
  refine enter Tryz.func13 rfl Tryz.ntmps13 rfl hS0 ?_
  refine cR <| zA rfl <| zN <| cS <| cR <| zM rfl <| zV (v_eql_nil false rfl rfl Tryz.underlying40 rfl) rfl <| zM rfl <| zS (v_move rfl rfl) rfl <| zS (v_nilCheck rfl rfl) rfl <| zS (v_fieldAddr0 rfl rfl fld_106_2) rfl <| zS (v_load1 rfl rfl one_3 (cellAt rfl)) rfl <| ?_
  refine WL.test (v_neq rfl rfl rfl) (.some rfl rfl rfl) rfl rfl (fun h10 => ?_) (fun h10 => ?_)
  refine zQ rfl <| zN <| cT rfl <| cR <| zA rfl <| zN <| cE <| eR <| tR Tryz.results13 rfl <| ?_
  refine fun w' h => ⟨none, 0, [], [], [], p, E0, E1, d, rfl, ⟨Vec.nil 23, fun e he => by cases he⟩, ?_, ?_, ?_⟩
  · rw [if_neg (by omega)]; rfl
  · rw [if_neg (by omega)]; exact hA
  · rw [if_neg (by omega)]; exact h
  refine zQ rfl <| zN <| cF rfl <| cK <| eN <| cR <| zM rfl <| zK ck_50 rfl <| ?_
  intro w1 hS
  refine (dial_c w0 w1 g p s E0 E1 L d hA hS).mono ?_
  rintro e w' ⟨ad2, c2, gs, EG, KG, p2, E02, E12, d2, rfl, hV2, heg, hA2, hS'⟩
  refine ⟨_, _, rfl, hS', ?_⟩
  refine zA rfl <| zN <| cE <| tR Tryz.results13 rfl <| ?_
  rw [if_pos (by omega), if_pos (by omega)]
  exact fun w' h => ⟨ad2, c2, gs, EG, KG, p2, E02, E12, d2, rfl, hV2, heg, hA2, h⟩

def Se.up5 (s : Se) (n : Nat) : Se := (s.set n { s.c n with st := 5 }).alive n
def Se.establish (s : Se) (n : Nat) : Se := if ((s.up5 n).c (1 - n)).st = 0 then s.up5 n else (s.up5 n).gone (1 - n)
def estabE (s : Se) (n : Nat) : List EfD := (if ((s.up5 n).c (1 - n)).st = 0 then [] else endE (s.up5 n) (1 - n) 6 7 ⟨#[]⟩) ++ [ef 4 n]
theorem alive_c (s : Se) (n k : Nat) : (s.alive n).c k = s.c k := by unfold Se.alive; split <;> rfl
theorem set_now (s : Se) (n : Nat) (c : CnM) : (s.set n c).now = s.now := by unfold Se.set; split <;> rfl
theorem CnM.Ok.to5 {c : CnM} (h : c.Ok) : ({ c with st := 5 } : CnM).Ok := ⟨.inr ⟨show (3 : Int) ≤ 5 by decide, show (5 : Int) ≤ 5 by decide⟩, h.2⟩
set_option maxHeartbeats 1000000 in
theorem establish0_c (w0 w : World) (g : Nat) (p : PeL) (s : Se) (E0 E1 L : List Ent) (d : Ck) (hA : PeAt g p s E0 E1 d) (hG : GF w0) (hS0 : St (fun _ => False) w0 w (.row g p.cells :: (E0 ++ (E1 ++ d.L p.gC s.now L)))) :
    Calls Tryz.prog 89 #[.pointer (some ⟨g, 0, none⟩), .int .i64 0] w fun e w' => EffC w0 w' g (estabE s 0) (s.establish 0) L e := by
  have hc : p.c1.m = s.c1 := (congrArg Se.c1 hA.eq :)
  have hst : p.c1.st = (s.c 1).st := (congrArg CnM.st hc :)
  have hA1 : PeAt g ({ p with c0 := { p.c0 with st := 5 } } : PeL) (s.set 0 { s.c 0 with st := 5 }) E0 E1 d := by
    refine ⟨?_, hA.ok, ?_, ?_, hA.v0, hA.v1, hA.b0, hA.b1, hA.bag⟩
    · exact (congrArg (fun z : Se => z.set 0 { z.c 0 with st := 5 }) hA.eq :)
    all_goals first | exact hA.ok0 | exact hA.ok1 | exact hA.ok0.to5 | exact hA.ok1.to5
  have hum : ((s.up5 0).c 1).st = p.c1.st := by
    unfold Se.up5
    rw [alive_c]
    exact hst.symm
  have hun : (s.up5 0).now = s.now := by unfold Se.up5; rw [alive_now]; exact set_now _ _ _
  have hen : (s.establish 0).now = s.now := by
    unfold Se.establish
    split
    · exact hun
    · rw [gone_now]; exact hun
  refine enter Tryz.func89 rfl Tryz.ntmps89 rfl hS0 ?_
  refine cR <| zA rfl <| zR <| zM rfl <| zM rfl <| zC rfl <| zF rfl fld_106_3 <| ?_
  refine zV (v_indexAddrA (lo := 0) rfl rfl rfl Tryz.underlying104 sz_103 (by omega) (by omega)) rfl ?_
  refine zV (v_fieldAddr rfl rfl fld_103_0) rfl <| zO one_3 rfl rfl <| WL.as (L' := .row g ({ p with c0 := { p.c0 with st := 5 } } : PeL).cells :: (E0 ++ (E1 ++ d.L p.gC s.now L))) rfl <| zR <| zM rfl <| zM rfl <| zK ck_90 rfl <| ?_
  intro w1 hS
  refine (alive0_c w0 w1 g ({ p with c0 := { p.c0 with st := 5 } } : PeL) (s.set 0 { s.c 0 with st := 5 }) E0 E1 L d hA1 hS).mono ?_
  rintro e w' ⟨d2, rfl, hA2, hS'⟩
  refine ⟨_, .row g ({ p with c0 := { p.c0 with st := 5 } } : PeL).cells :: (E0 ++ (E1 ++ d2.L p.gC s.now L)), rfl, hS', ?_⟩
  refine zR <| zA rfl <| zN <| ?_
  refine WC.cut (fun y : PS => [(5, .slice y.ad y.fs.length y.c), (1, .int .i64 0)]) (fun y => y.L g s.now L) (fun y => PeAt g y.p (s.establish 0) y.E0 y.E1 y.d ∧ EfsV y.ad y.c y.fs y.E y.K ∧ y.fs.map EfL.d ++ [ef 4 0] = estabE s 0 ∧ y.fs.length ≤ 3) ?_ ?_
  refine cR <| zM rfl <| zM rfl <| ?_
  refine zV (v_sub rfl rfl rfl (show _ = (1 : Int) from w_i64 (by decide) (by decide))) rfl ?_
  refine zK ck_51 rfl ?_
  intro w hS
  refine Calls.then (there_c w g ({ p with c0 := { p.c0 with st := 5 } } : PeL) (hS.row (g := g)) 1 (by decide)) hS ?_
  generalize hth : decide ((({ p with c0 := { p.c0 with st := 5 } } : PeL).c 1).st ≠ 0) = b18
  cases b18
  refine zN <| cF rfl <| cK <| ?_
  have hz : ((s.up5 0).c 1).st = 0 := (by rw [hum]; exact Decidable.of_not_not (of_decide_eq_false hth))
  have e1 : s.establish 0 = s.up5 0 := if_pos hz
  refine WE.mid ⟨({ p with c0 := { p.c0 with st := 5 } } : PeL), E0, E1, d2, none, 0, [], [], []⟩ ⟨?_, ⟨Vec.nil 23, fun e he => by cases he⟩, ?_, Nat.zero_le _⟩ (.cons rfl (.cons rfl .nil)) (.refl _)
  · dsimp only; rw [e1]; exact hA2
  · dsimp only; unfold estabE; rw [if_pos hz]; rfl
  refine zN <| cT rfl <| WC.region <| zM rfl <| zM rfl <| ?_
  refine zV (v_sub rfl rfl rfl (show _ = (1 : Int) from w_i64 (by decide) (by decide))) rfl ?_
  refine zK ck_63 rfl ?_
  intro w1 hS
  refine (fault1_c w0 w1 g ({ p with c0 := { p.c0 with st := 5 } } : PeL) (s.up5 0) E0 E1 L d2 hA2 hG (by rw [hun]; exact hS) 6 7 ⟨by decide, by decide⟩ ⟨by decide, by decide⟩).mono ?_
  rintro e w' ⟨ad3, c3, gs, EG, KG, p3, E03, E13, d3, rfl, hV3, heg, hA3, hS'⟩
  refine ⟨_, _, rfl, hS', ?_⟩
  refine zA rfl <| WL.nil <| ?_
  have hz : ¬ ((s.up5 0).c 1).st = 0 := (by rw [hum]; exact of_decide_eq_true hth)
  have hgl := efs_len heg
  have hgb := endE_len (s.up5 0) 1 6 7 ⟨#[]⟩
  have e1 : s.establish 0 = (s.up5 0).gone 1 := if_neg hz
  refine WE.mid ⟨p3, E03, E13, d3, ad3, c3, gs, EG, KG⟩ ⟨?_, hV3, ?_, by dsimp only; omega⟩ (.cons rfl (.cons rfl .nil)) ?_
  · dsimp only; rw [e1]; exact hA3
  · dsimp only; unfold estabE; (rw [if_neg hz, heg]) <;> rfl
  · unfold PS.L; dsimp only; rw [gone_now, hun]; exact .refl _
  rintro ⟨p4, E04, E14, d4, ad4, c4, fs, EF, KF⟩ ⟨hA4, hV4, hes, hfl⟩
  dsimp only at hA4 hV4 hes hfl
  unfold PS.L
  dsimp only
  refine cR <| zM rfl <| zM rfl <| zV (v_build rfl rfl zero_54 plc_54 rfl) rfl <| zB Tryz.underlying46 sz_54 zero_54 rfl rfl <| ?_
  intro g26 hg26
  refine WL.as (L' := .row g26 (efZ 4 0).cells :: (EF ++ (KF ++ (.row g p4.cells :: (E04 ++ (E14 ++ d4.L p4.gC s.now L)))))) rfl <| WL.to (L' := EF ++ (.row g26 (efZ 4 0).cells :: (KF ++ (.row g p4.cells :: (E04 ++ (E14 ++ d4.L p4.gC s.now L)))))) (fun w hS => hS.permK ) <| ?_
  refine WL.appendL rfl rfl rfl Tryz.underlying46 Tryz.underlying46 sz_54 by_54 zero_54 rfl rfl hV4.1 (new := efsL [efZ 4 0]) (fun _ => ⟨g26, 0, rfl, fun w hS => allAt (g := g26) w hS⟩) rfl rfl (by omega) (.none rfl) rfl rfl ?_
  intro ad27 c27 E27 hV27 hr27
  rw [efsL_app] at hV27
  rw [show fs.length + 1 = (fs ++ [efZ 4 0]).length by rw [List.length_append]; rfl] at hV27 ⊢
  refine zA rfl <| zN <| cE <| tR Tryz.results89 rfl <| ?_
  refine fun w' h => ⟨ad27, c27, fs ++ [efZ 4 0], E27, KF, p4, E04, E14, d4, rfl, ⟨hV27, fun e he => ?_⟩, by rw [List.map_append]; exact hes, hA4, by rw [hen]; exact h.dropK [.row g26 (efZ 4 0).cells] ⟩
  rcases List.mem_append.1 he with he | he
  · exact hV4.2 e he
  · obtain rfl := List.mem_singleton.1 he
    exact efZ_own _ _ _
set_option maxHeartbeats 1000000 in
theorem establish1_c (w0 w : World) (g : Nat) (p : PeL) (s : Se) (E0 E1 L : List Ent) (d : Ck) (hA : PeAt g p s E0 E1 d) (hG : GF w0) (hS0 : St (fun _ => False) w0 w (.row g p.cells :: (E0 ++ (E1 ++ d.L p.gC s.now L)))) :
    Calls Tryz.prog 89 #[.pointer (some ⟨g, 0, none⟩), .int .i64 1] w fun e w' => EffC w0 w' g (estabE s 1) (s.establish 1) L e := by
  have hc : p.c0.m = s.c0 := (congrArg Se.c0 hA.eq :)
  have hst : p.c0.st = (s.c 0).st := (congrArg CnM.st hc :)
  have hA1 : PeAt g ({ p with c1 := { p.c1 with st := 5 } } : PeL) (s.set 1 { s.c 1 with st := 5 }) E0 E1 d := by
    refine ⟨?_, hA.ok, ?_, ?_, hA.v0, hA.v1, hA.b0, hA.b1, hA.bag⟩
    · exact (congrArg (fun z : Se => z.set 1 { z.c 1 with st := 5 }) hA.eq :)
    all_goals first | exact hA.ok0 | exact hA.ok1 | exact hA.ok0.to5 | exact hA.ok1.to5
  have hum : ((s.up5 1).c 0).st = p.c0.st := by
    unfold Se.up5
    rw [alive_c]
    exact hst.symm
  have hun : (s.up5 1).now = s.now := by unfold Se.up5; rw [alive_now]; exact set_now _ _ _
  have hen : (s.establish 1).now = s.now := by
    unfold Se.establish
    split
    · exact hun
    · rw [gone_now]; exact hun
  refine enter Tryz.func89 rfl Tryz.ntmps89 rfl hS0 ?_
  refine cR <| zA rfl <| zR <| zM rfl <| zM rfl <| zC rfl <| zF rfl fld_106_3 <| ?_
  refine zV (v_indexAddrA (lo := 1) rfl rfl rfl Tryz.underlying104 sz_103 (by omega) (by omega)) rfl ?_
  refine zV (v_fieldAddr rfl rfl fld_103_0) rfl <| zO one_3 rfl rfl <| WL.as (L' := .row g ({ p with c1 := { p.c1 with st := 5 } } : PeL).cells :: (E0 ++ (E1 ++ d.L p.gC s.now L))) rfl <| zR <| zM rfl <| zM rfl <| zK ck_90 rfl <| ?_
  intro w1 hS
  refine (alive1_c w0 w1 g ({ p with c1 := { p.c1 with st := 5 } } : PeL) (s.set 1 { s.c 1 with st := 5 }) E0 E1 L d hA1 hS).mono ?_
  rintro e w' ⟨d2, rfl, hA2, hS'⟩
  refine ⟨_, .row g ({ p with c1 := { p.c1 with st := 5 } } : PeL).cells :: (E0 ++ (E1 ++ d2.L p.gC s.now L)), rfl, hS', ?_⟩
  refine zR <| zA rfl <| zN <| ?_
  refine WC.cut (fun y : PS => [(5, .slice y.ad y.fs.length y.c), (1, .int .i64 1)]) (fun y => y.L g s.now L) (fun y => PeAt g y.p (s.establish 1) y.E0 y.E1 y.d ∧ EfsV y.ad y.c y.fs y.E y.K ∧ y.fs.map EfL.d ++ [ef 4 1] = estabE s 1 ∧ y.fs.length ≤ 3) ?_ ?_
  refine cR <| zM rfl <| zM rfl <| ?_
  refine zV (v_sub rfl rfl rfl (show _ = (0 : Int) from w_i64 (by decide) (by decide))) rfl ?_
  refine zK ck_51 rfl ?_
  intro w hS
  refine Calls.then (there_c w g ({ p with c1 := { p.c1 with st := 5 } } : PeL) (hS.row (g := g)) 0 (by decide)) hS ?_
  generalize hth : decide ((({ p with c1 := { p.c1 with st := 5 } } : PeL).c 0).st ≠ 0) = b18
  cases b18
  refine zN <| cF rfl <| cK <| ?_
  have hz : ((s.up5 1).c 0).st = 0 := (by rw [hum]; exact Decidable.of_not_not (of_decide_eq_false hth))
  have e1 : s.establish 1 = s.up5 1 := if_pos hz
  refine WE.mid ⟨({ p with c1 := { p.c1 with st := 5 } } : PeL), E0, E1, d2, none, 0, [], [], []⟩ ⟨?_, ⟨Vec.nil 23, fun e he => by cases he⟩, ?_, Nat.zero_le _⟩ (.cons rfl (.cons rfl .nil)) (.refl _)
  · dsimp only; rw [e1]; exact hA2
  · dsimp only; unfold estabE; rw [if_pos hz]; rfl
  refine zN <| cT rfl <| WC.region <| zM rfl <| zM rfl <| ?_
  refine zV (v_sub rfl rfl rfl (show _ = (0 : Int) from w_i64 (by decide) (by decide))) rfl ?_
  refine zK ck_63 rfl ?_
  intro w1 hS
  refine (fault0_c w0 w1 g ({ p with c1 := { p.c1 with st := 5 } } : PeL) (s.up5 1) E0 E1 L d2 hA2 hG (by rw [hun]; exact hS) 6 7 ⟨by decide, by decide⟩ ⟨by decide, by decide⟩).mono ?_
  rintro e w' ⟨ad3, c3, gs, EG, KG, p3, E03, E13, d3, rfl, hV3, heg, hA3, hS'⟩
  refine ⟨_, _, rfl, hS', ?_⟩
  refine zA rfl <| WL.nil <| ?_
  have hz : ¬ ((s.up5 1).c 0).st = 0 := (by rw [hum]; exact of_decide_eq_true hth)
  have hgl := efs_len heg
  have hgb := endE_len (s.up5 1) 0 6 7 ⟨#[]⟩
  have e1 : s.establish 1 = (s.up5 1).gone 0 := if_neg hz
  refine WE.mid ⟨p3, E03, E13, d3, ad3, c3, gs, EG, KG⟩ ⟨?_, hV3, ?_, by dsimp only; omega⟩ (.cons rfl (.cons rfl .nil)) ?_
  · dsimp only; rw [e1]; exact hA3
  · dsimp only; unfold estabE; (rw [if_neg hz, heg]) <;> rfl
  · unfold PS.L; dsimp only; rw [gone_now, hun]; exact .refl _
  rintro ⟨p4, E04, E14, d4, ad4, c4, fs, EF, KF⟩ ⟨hA4, hV4, hes, hfl⟩
  dsimp only at hA4 hV4 hes hfl
  unfold PS.L
  dsimp only
  refine cR <| zM rfl <| zM rfl <| zV (v_build rfl rfl zero_54 plc_54 rfl) rfl <| zB Tryz.underlying46 sz_54 zero_54 rfl rfl <| ?_
  intro g26 hg26
  refine WL.as (L' := .row g26 (efZ 4 1).cells :: (EF ++ (KF ++ (.row g p4.cells :: (E04 ++ (E14 ++ d4.L p4.gC s.now L)))))) rfl <| WL.to (L' := EF ++ (.row g26 (efZ 4 1).cells :: (KF ++ (.row g p4.cells :: (E04 ++ (E14 ++ d4.L p4.gC s.now L)))))) (fun w hS => hS.permK ) <| ?_
  refine WL.appendL rfl rfl rfl Tryz.underlying46 Tryz.underlying46 sz_54 by_54 zero_54 rfl rfl hV4.1 (new := efsL [efZ 4 1]) (fun _ => ⟨g26, 0, rfl, fun w hS => allAt (g := g26) w hS⟩) rfl rfl (by omega) (.none rfl) rfl rfl ?_
  intro ad27 c27 E27 hV27 hr27
  rw [efsL_app] at hV27
  rw [show fs.length + 1 = (fs ++ [efZ 4 1]).length by rw [List.length_append]; rfl] at hV27 ⊢
  refine zA rfl <| zN <| cE <| tR Tryz.results89 rfl <| ?_
  refine fun w' h => ⟨ad27, c27, fs ++ [efZ 4 1], E27, KF, p4, E04, E14, d4, rfl, ⟨hV27, fun e he => ?_⟩, by rw [List.map_append]; exact hes, hA4, by rw [hen]; exact h.dropK [.row g26 (efZ 4 1).cells] ⟩
  rcases List.mem_append.1 he with he | he
  · exact hV4.2 e he
  · obtain rfl := List.mem_singleton.1 he
    exact efZ_own _ _ _

section
variable {P : Program} {C : World → Prop} {n : Nat} {o : Oper} {l : Kn}
theorem v_max3 {t t' t'' : TypeId} {x y z : Operand} {k : IntKind} {A B D : Int} (ho : o.op = .call { callee := .builtin .max, args := #[x, y, z], argTypes := #[t, t', t''] }) (hx : ev l x = some (.int k A)) (hy : ev l y = some (.int k B)) (hz : ev l z = some (.int k D)) : Val P C n l o (.int k (max (max A B) D)) := fun a w ha _ => by
  have hx' : evs l [x, y, z] = some [.int k A, .int k B, .int k D] := by simp [evs, hx, hy, hz]
  obtain ⟨cs, h⟩ := run_builtin (P := P) (w := w) (xs := [x, y, z]) ho hx' ha
  rw [h]
  have e : (if D > (if B > A then B else A) then D else (if B > A then B else A)) = max (max A B) D := by split <;> split <;> omega
  simp [builtin, Builtin.max_, Builtin.max2, ← e]
end
theorem state_c (w : World) (g : Nat) (p : PeL) (hR : Row w g p.cells) : Calls Tryz.prog 18 #[.pointer (some ⟨g, 0, none⟩)] w fun e w' => e = .returned (.int .i64 (max (max p.base p.c0.st) p.c1.st)) ∧ Frm (fun _ => False) w w' := by
  refine enter Tryz.func18 rfl Tryz.ntmps18 rfl (St.start (fun _ => False) w) ?_
  refine cR <| zA rfl <| zN <| cS <| cR <| zM rfl <| zV (v_eql_nil false rfl rfl Tryz.underlying40 rfl) rfl <| zN <| cF rfl <| cK <| eN <| cS <| ?_
  refine cQ mixed <| qV (v_move rfl rfl) rfl <| qV (v_nilCheck rfl rfl) rfl <| qV (v_fieldAddr0 rfl rfl fld_106_2) rfl <| qV (v_load1 rfl rfl one_3 (cellOld (fun h => h) (hR.cell (v := .int .i64 p.base) rfl))) rfl <| qV (v_move rfl rfl) rfl <| qV (v_nilCheck rfl rfl) rfl <| qV (v_fieldAddr0 rfl rfl fld_106_3) rfl <| ?_
  refine qV (v_indexAddrA (lo := 0) rfl rfl rfl Tryz.underlying104 sz_103 rfl (by omega)) rfl ?_
  refine qV (v_fieldAddr rfl rfl fld_103_0) rfl <| qV (v_load1 rfl rfl one_3 (cellOld (fun h => h) (hR.cell (v := .int .i64 p.c0.st) rfl))) rfl <| qV (v_move rfl rfl) rfl <| qV (v_nilCheck rfl rfl) rfl <| qV (v_fieldAddr0 rfl rfl fld_106_3) rfl <| ?_
  refine qV (v_indexAddrA (lo := 1) rfl rfl rfl Tryz.underlying104 sz_103 rfl (by omega)) rfl ?_
  refine qV (v_fieldAddr rfl rfl fld_103_0) rfl <| qV (v_load1 rfl rfl one_3 (cellOld (fun h => h) (hR.cell (v := .int .i64 p.c1.st) rfl))) rfl <| qV (v_max3 rfl rfl rfl rfl) rfl <| qV (v_assign rfl rfl) rfl <| WQ.nil <| eN <| cE <| tR Tryz.results18 rfl <| ?_
  exact fun w' h => ⟨rfl, h.frm⟩
def theirP (p : PeL) : Int := if p.c0.st = 5 then p.c0.id else if p.c1.st = 5 then p.c1.id else 0
theorem their_c (w : World) (g : Nat) (p : PeL) (hR : Row w g p.cells) : Calls Tryz.prog 21 #[.pointer (some ⟨g, 0, none⟩)] w fun e w' => e = .returned (.int .u32 (theirP p)) ∧ Frm (fun _ => False) w w' := by
  by_cases h0 : p.c0.st = 5
  · have e : liveP p = 0 := if_pos h0
    have e2 : theirP p = p.c0.id := if_pos h0
    rw [e2]
    refine enter Tryz.func21 rfl Tryz.ntmps21 rfl (St.start (fun _ => False) w) ?_
    refine cR <| zA rfl <| zN <| cS <| cR <| zM rfl <| zV (v_eql_nil false rfl rfl Tryz.underlying40 rfl) rfl <| zN <| cF rfl <| cK <| eN <| cS <| ?_
    refine WC.region <| zM rfl <| zK ck_60 rfl <| ?_
    intro w hS
    refine Calls.then (by have h := live_c w g p (hS.oldRow (fun h => h) hR); rw [e] at h; exact h) hS ?_
    refine zA rfl <| zN <| cS <| cR <| zM rfl <| ?_
    refine zV ((v_lss rfl rfl rfl).f ((by decide))) rfl ?_
    refine zN <| cF rfl <| cK <| eN <| cR <| zM rfl <| zM rfl <| zC rfl <| zF rfl fld_106_3 <| ?_
    refine zV (v_indexAddrA (lo := 0) rfl rfl rfl Tryz.underlying104 sz_103 (by omega) (by omega)) rfl ?_
    refine zV (v_fieldAddr rfl rfl fld_103_3) rfl <| zV (v_load1 rfl rfl one_23 (cellOld (fun h => h) (hR.cell (v := .int .u32 p.c0.id) rfl))) rfl <| zA rfl <| zN <| cE <| tR Tryz.results21 rfl <| ?_
    exact fun w' h => ⟨rfl, h.frm⟩
  by_cases h1 : p.c1.st = 5
  · have e : liveP p = 1 := (if_neg h0).trans (if_pos h1)
    have e2 : theirP p = p.c1.id := (if_neg h0).trans (if_pos h1)
    rw [e2]
    refine enter Tryz.func21 rfl Tryz.ntmps21 rfl (St.start (fun _ => False) w) ?_
    refine cR <| zA rfl <| zN <| cS <| cR <| zM rfl <| zV (v_eql_nil false rfl rfl Tryz.underlying40 rfl) rfl <| zN <| cF rfl <| cK <| eN <| cS <| ?_
    refine WC.region <| zM rfl <| zK ck_60 rfl <| ?_
    intro w hS
    refine Calls.then (by have h := live_c w g p (hS.oldRow (fun h => h) hR); rw [e] at h; exact h) hS ?_
    refine zA rfl <| zN <| cS <| cR <| zM rfl <| ?_
    refine zV ((v_lss rfl rfl rfl).f ((by decide))) rfl ?_
    refine zN <| cF rfl <| cK <| eN <| cR <| zM rfl <| zM rfl <| zC rfl <| zF rfl fld_106_3 <| ?_
    refine zV (v_indexAddrA (lo := 1) rfl rfl rfl Tryz.underlying104 sz_103 (by omega) (by omega)) rfl ?_
    refine zV (v_fieldAddr rfl rfl fld_103_3) rfl <| zV (v_load1 rfl rfl one_23 (cellOld (fun h => h) (hR.cell (v := .int .u32 p.c1.id) rfl))) rfl <| zA rfl <| zN <| cE <| tR Tryz.results21 rfl <| ?_
    exact fun w' h => ⟨rfl, h.frm⟩
  · have e : liveP p = -1 := (if_neg h0).trans (if_neg h1)
    have e2 : theirP p = 0 := (if_neg h0).trans (if_neg h1)
    rw [e2]
    refine enter Tryz.func21 rfl Tryz.ntmps21 rfl (St.start (fun _ => False) w) ?_
    refine cR <| zA rfl <| zN <| cS <| cR <| zM rfl <| zV (v_eql_nil false rfl rfl Tryz.underlying40 rfl) rfl <| zN <| cF rfl <| cK <| eN <| cS <| ?_
    refine WC.region <| zM rfl <| zK ck_60 rfl <| ?_
    intro w hS
    refine Calls.then (by have h := live_c w g p (hS.oldRow (fun h => h) hR); rw [e] at h; exact h) hS ?_
    refine zA rfl <| zN <| cS <| cR <| zM rfl <| ?_
    refine zV ((v_lss rfl rfl rfl).t ((by decide))) rfl ?_
    refine zN <| cT rfl <| cR <| zA rfl <| zN <| cE <| eR <| tR Tryz.results21 rfl <| ?_
    exact fun w' h => ⟨rfl, h.frm⟩
theorem system_c (w : World) (x : Int) : Calls Tryz.prog 65 #[.int .i64 x] w fun e w' => e = .returned (.bool (decide (1 ≤ x ∧ x ≤ 65535))) ∧ Frm (fun _ => False) w w' := by
  refine enter Tryz.func65 rfl Tryz.ntmps65 rfl (St.start (fun _ => False) w) ?_
  refine cR <| zA rfl <| zR <| zM rfl <| ?_
  refine zT (v_geq rfl rfl rfl) rfl (fun h4 => ?_) (fun h4 => ?_)
  refine zM rfl <| zS (v_move rfl rfl) rfl <| ?_
  refine WL.test (v_leq rfl rfl rfl) (.some rfl rfl rfl) rfl rfl (fun h7 => ?_) (fun h7 => ?_)
  refine zP rfl <| zA rfl <| zN <| cE <| tR Tryz.results65 rfl <| ?_
  exact fun w' h => ⟨by rw [decide_eq_true (by omega)], h.frm⟩
  refine zP rfl <| zA rfl <| zN <| cE <| tR Tryz.results65 rfl <| ?_
  exact fun w' h => ⟨by rw [decide_eq_false (by omega)], h.frm⟩
  refine zM rfl ?_
  iterate 2 refine WL.sk rfl ?_
  refine zQ rfl <| zA rfl <| zN <| cE <| tR Tryz.results65 rfl <| ?_
  exact fun w' h => ⟨by rw [decide_eq_false (by omega)], h.frm⟩
def confL (asn id their hold retry : Int) : List Value := [.int .i64 asn, .int .u32 id, .int .i64 their, .int .i64 hold, .int .i64 retry]
def confOk (asn id their hold retry : Int) : Prop := (1 ≤ asn ∧ asn ≤ 65535) ∧ (1 ≤ their ∧ their ≤ 65535) ∧ id ≠ 0 ∧ (hold = 0 ∨ 3 ≤ hold ∧ hold ≤ 65535) ∧ 1 ≤ retry ∧ retry ≤ 65535
instance (a b c d e : Int) : Decidable (confOk a b c d e) := by unfold confOk; infer_instance

section
variable {P : Program} {ops : Array Oper} {Q : Exit → Act → World → Prop} {n : Nat} {p : Nat → Prop} {w0 : World} {o : Oper} {rest os : List Oper} {l : Kn} {L L0 : List Ent} {K : Act → World → Prop}
def RestH (P : Program) (os : List Oper) (Q : Exit → Act → World → Prop) (p : Nat → Prop) (w0 : World) (L0 : List Ent) (g : Nat) (listed : Array Bool) : Act → World → Prop := fun a w => wpAnyH P .any os.toArray (NP Q) (fun w => St p w0 w L0) g listed a w
def WRH (P : Program) (os : List Oper) (Q : Exit → Act → World → Prop) (n : Nat) (p : Nat → Prop) (w0 : World) (L0 : List Ent) (g : Nat) (listed : Array Bool) (l : Kn) (L : List Ent) : Prop :=
  ∀ a w, Has n a l → St p w0 w L → RestH P os Q p w0 L0 g listed a w
theorem WC.held {id : Nat} (L0 : List Ent) (hm : P.follows .mixedOrders = true) (h : WRH P os Q n p w0 L0 os.length (Array.replicate os.length false) l L) : WC P (.region id os.toArray true) Q n p w0 l L := fun a w ha hS =>
  Code.wp_mono NP.imp (wp_region_held (S := fun w => St p w0 w L0) hm (by have h1 := h a w.drew ha hS.drew; unfold RestH at h1; simpa using h1))
def wpHeld (P : Program) (ops : Array Oper) (S : World → Prop) (K : Act → Prop) : List Oper → Act → Prop
  | [], a => K a
  | o :: rest, a => ∃ v, YieldsIf P ops S o v a ∧ wpHeld P ops S K rest (a.put o.dst v)
def WH (P : Program) (ops : Array Oper) (K : Act → World → Prop) (n : Nat) (p : Nat → Prop) (w0 : World) (L0 : List Ent) (rest : List Oper) (l : Kn) (L : List Ent) : Prop :=
  ∀ a, Has n a l → wpHeld P ops (fun w => St p w0 w L0) (fun a' => ∀ w, St p w0 w L → K a' w) rest a
theorem anyH_of_held {K : Act → Prop} {S : World → Prop} {w : World} {g : Nat} (hsel : Region.noSelect os.toArray = true) (hw : S w) : ∀ (js : List Nat) (listed : Array Bool) (a : Act), takesB .any os.toArray js listed = true →
    wpHeld P os.toArray S K (js.map (at_ os)) a → (∀ a, K a → wpAnyH P .any os.toArray (NP Q) S g (marks listed js) a w) → wpAnyH P .any os.toArray (NP Q) S (js.length + g) listed a w
  | [], listed, a, _, h, hK => by simpa [marks] using hK a h
  | i :: is, listed, a, hB, h, hK => by
    simp only [takesB, Bool.and_eq_true] at hB
    obtain ⟨⟨hr, hf⟩, hB'⟩ := hB
    obtain ⟨v, hy, h'⟩ := h
    have hr' : i ∈ Region.ready .any os.toArray listed := by simpa using hr
    rw [List.length_cons, show is.length + 1 + g = (is.length + g) + 1 by omega]
    exact wpAnyH_take (at_some hr') hsel hf hr (fun c a w hh => hh) hy hw (anyH_of_held hsel hw is _ _ hB' h' hK)
theorem WRH.first {listed : Array Bool} {g : Nat} (js : List Nat) (hsel : Region.noSelect os.toArray = true) (hB : takesB .any os.toArray js listed = true) (keep : ∀ w, St p w0 w L → St p w0 w L0)
    (h : WH P os.toArray (RestH P os Q p w0 L0 g (marks listed js)) n p w0 L0 (js.map (at_ os)) l L) : WRH P os Q n p w0 L0 (js.length + g) listed l L := fun a w ha hS =>
  anyH_of_held (K := fun a' => ∀ w, St p w0 w L → RestH P os Q p w0 L0 g (marks listed js) a' w) hsel (keep w hS) js listed a hB (h a ha) (fun _ h => h w hS)
theorem WRH.each {g : Nat} {listed : Array Bool} (rs : List Nat) (hr : Region.ready .any os.toArray listed = rs) (hne : rs ≠ [])
    (h : AllOf (fun i => WL P os.toArray (RQ (fun a' w' => St p w0 w' L0 ∧ RestH P os Q p w0 L0 g (listed.setIfInBounds i true) a' w') (NP Q)) n p w0 [at_ os i] l L) rs) : WRH P os Q n p w0 L0 (g + 1) listed l L := fun a w ha hS => by
  refine wpAnyH_all hr hne fun i hi => ?_
  have ho := at_some (listed := listed) (i := i) (by rw [hr]; exact hi)
  have h' : wpList P os.toArray (RQ (fun a' w' => St p w0 w' L0 ∧ RestH P os Q p w0 L0 g (listed.setIfInBounds i true) a' w') (NP Q)) [at_ os i] a w := h.get i hi a w ha hS
  unfold wpOp
  simp only [ho]
  unfold wpList at h'
  split
  · rename_i hwd
    rw [if_pos hwd] at h'
    exact (h'.imp wpRQ (fun h => ⟨h.1, RQ.out h.2⟩)).imp (Oper.wp_mono fun a' w' h => h) id
  · rename_i hwd
    rw [if_neg hwd] at h'
    exact h'
theorem WRH.one {g : Nat} {listed : Array Bool} (i : Nat) (hr : Region.ready .any os.toArray listed = [i])
    (h : WL P os.toArray (RQ (fun a' w' => St p w0 w' L0 ∧ RestH P os Q p w0 L0 g (listed.setIfInBounds i true) a' w') (NP Q)) n p w0 [at_ os i] l L) : WRH P os Q n p w0 L0 (g + 1) listed l L :=
  WRH.each [i] hr (by simp) h
theorem WRH.done {listed : Array Bool} (hB : Region.ready .any os.toArray listed = []) (h : WE Q .normal n p w0 l L) : WRH P os Q n p w0 L0 0 listed l L := fun a w ha hS => ⟨hB, h a w ha hS⟩
theorem WH.nil {listed : Array Bool} {g : Nat} (h : WRH P os Q n p w0 L0 g listed l L) : WH P os.toArray (RestH P os Q p w0 L0 g listed) n p w0 L0 [] l L := fun a ha w hS => h a w ha hS
theorem WL.nilH {listed : Array Bool} {g : Nat} (keep : ∀ w, St p w0 w L → St p w0 w L0) (h : WRH P os Q n p w0 L0 g listed l L) : WL P os.toArray (RQ (fun a' w' => St p w0 w' L0 ∧ RestH P os Q p w0 L0 g listed a' w') (NP Q)) n p w0 [] l L := fun a w ha hS => ⟨keep w hS, h a w ha hS⟩
theorem WH.val {d : Nat} {v : Value} (hv : Val P (fun w => St p w0 w L0) n l o v) (hg : On ops o l) (hd : o.dst = some d) (hn : Nat.blt d n = true)
    (h : WH P ops K n p w0 L0 rest ((d, v) :: l) L) : WH P ops K n p w0 L0 (o :: rest) l L := fun a ha =>
  ⟨v, .inl ⟨hg.ok ha, fun w hw => hv a w ha hw⟩, h _ (ha.put_any hd hn v)⟩
end

theorem check_c (w : World) (asn id their hold retry : Int) : Calls Tryz.prog 30 #[.agg (confL asn id their hold retry).toArray] w fun e w' => e = .returned (.int .i64 (if confOk asn id their hold retry then 0 else 1)) ∧ Frm (fun _ => False) w w' := by
  refine enter Tryz.func30 rfl Tryz.ntmps30 rfl (St.start (fun _ => False) w) ?_
  refine cR <| WL.box rfl rfl rfl (.none rfl) rfl rfl <| ?_
  intro g1 hg1
  refine zA rfl <| zN <| cS <| cB <| cS <| cR <| zF rfl fld_44_0 <| zL rfl one_3 rfl <| zK ck_65 rfl <| ?_
  intro w hS
  refine Calls.then (system_c w asn) hS ?_
  generalize h6 : decide (1 ≤ asn ∧ asn ≤ 65535) = b6
  cases b6
  refine zV (v_not rfl rfl rfl) rfl <| zA rfl <| zN <| cT rfl <| cK <| eN <| cT rfl <| cR <| zA rfl <| zN <| cE <| eB <| eR <| ?_
  refine tR Tryz.results30 rfl ?_
  have a6 := of_decide_eq_false h6
  first | exact fun w' h => ⟨by rw [if_neg (by unfold confOk; omega)], h.frm⟩ | exact fun w' h => ⟨by rw [if_pos (by unfold confOk; omega)], h.frm⟩
  refine zV (v_not rfl rfl rfl) rfl <| zA rfl <| zN <| cF rfl <| cR <| zF rfl fld_44_2 <| zL rfl one_3 rfl <| zK ck_65 rfl <| ?_
  intro w hS
  refine Calls.then (system_c w their) hS ?_
  generalize h10 : decide (1 ≤ their ∧ their ≤ 65535) = b10
  cases b10
  refine zV (v_not rfl rfl rfl) rfl <| zA rfl <| zN <| cT rfl <| cK <| eN <| cT rfl <| cR <| zA rfl <| zN <| cE <| eB <| eR <| ?_
  refine tR Tryz.results30 rfl ?_
  have a6 := of_decide_eq_true h6
  have a10 := of_decide_eq_false h10
  first | exact fun w' h => ⟨by rw [if_neg (by unfold confOk; omega)], h.frm⟩ | exact fun w' h => ⟨by rw [if_pos (by unfold confOk; omega)], h.frm⟩
  refine zV (v_not rfl rfl rfl) rfl <| zA rfl <| zN <| cF rfl <| WC.region <| zF rfl fld_44_1 <| zL rfl one_23 rfl <| ?_
  refine zT (v_eql rfl rfl rfl) rfl (fun h14 => ?_) (fun h14 => ?_)
  refine zA rfl <| zN <| cT rfl <| cR <| zA rfl <| zN <| cE <| eB <| eR <| tR Tryz.results30 rfl <| ?_
  have a6 := of_decide_eq_true h6
  have a10 := of_decide_eq_true h10
  first | exact fun w' h => ⟨by rw [if_neg (by unfold confOk; omega)], h.frm⟩ | exact fun w' h => ⟨by rw [if_pos (by unfold confOk; omega)], h.frm⟩
  refine zA rfl <| zN <| cF rfl <| cR <| zF rfl fld_44_3 <| zL rfl one_3 rfl <| ?_
  refine zT (v_neq rfl rfl rfl) rfl (fun h18 => ?_) (fun h18 => ?_)
  refine zM rfl <| zS (v_fieldAddr0 rfl rfl fld_44_3) rfl <| zS (v_load1 rfl rfl one_3 (cellAt rfl)) rfl <| ?_
  refine WL.test (v_lss rfl rfl rfl) (.some rfl rfl rfl) rfl rfl (fun h22 => ?_) (fun h22 => ?_)
  refine zS (v_move rfl rfl) rfl ?_
  iterate 3 refine WL.sk rfl ?_
  refine zS (v_pick_t rfl rfl rfl) rfl <| zP rfl <| zA rfl <| zN <| cT rfl <| cR <| zA rfl <| zN <| cE <| eB <| eR <| tR Tryz.results30 rfl <| ?_
  have a6 := of_decide_eq_true h6
  have a10 := of_decide_eq_true h10
  first | exact fun w' h => ⟨by rw [if_neg (by unfold confOk; omega)], h.frm⟩ | exact fun w' h => ⟨by rw [if_pos (by unfold confOk; omega)], h.frm⟩
  refine zS (v_move rfl rfl) rfl <| zS (v_fieldAddr0 rfl rfl fld_44_3) rfl <| zS (v_load1 rfl rfl one_3 (cellAt rfl)) rfl <| ?_
  refine WL.test (v_gtr rfl rfl rfl) (.some rfl rfl rfl) rfl rfl (fun h26 => ?_) (fun h26 => ?_)
  refine zS (v_pick_f rfl rfl rfl) rfl <| zP rfl <| zA rfl <| zN <| cT rfl <| cR <| zA rfl <| zN <| cE <| eB <| eR <| tR Tryz.results30 rfl <| ?_
  have a6 := of_decide_eq_true h6
  have a10 := of_decide_eq_true h10
  first | exact fun w' h => ⟨by rw [if_neg (by unfold confOk; omega)], h.frm⟩ | exact fun w' h => ⟨by rw [if_pos (by unfold confOk; omega)], h.frm⟩
  refine zS (v_pick_f rfl rfl rfl) rfl <| zP rfl <| zA rfl <| zN <| cF rfl <| cR <| zF rfl fld_44_4 <| zL rfl one_3 rfl <| ?_
  refine zT (v_lss rfl rfl rfl) rfl (fun h32 => ?_) (fun h32 => ?_)
  refine zM rfl ?_
  iterate 3 refine WL.sk rfl ?_
  refine zP rfl <| zA rfl <| zN <| cT rfl <| cR <| zA rfl <| zN <| cE <| eB <| eR <| tR Tryz.results30 rfl <| ?_
  have a6 := of_decide_eq_true h6
  have a10 := of_decide_eq_true h10
  first | exact fun w' h => ⟨by rw [if_neg (by unfold confOk; omega)], h.frm⟩ | exact fun w' h => ⟨by rw [if_pos (by unfold confOk; omega)], h.frm⟩
  refine zM rfl <| zS (v_fieldAddr0 rfl rfl fld_44_4) rfl <| zS (v_load1 rfl rfl one_3 (cellAt rfl)) rfl <| ?_
  refine WL.test (v_gtr rfl rfl rfl) (.some rfl rfl rfl) rfl rfl (fun h36 => ?_) (fun h36 => ?_)
  refine zQ rfl <| zA rfl <| zN <| cT rfl <| cR <| zA rfl <| zN <| cE <| eB <| eR <| tR Tryz.results30 rfl <| ?_
  have a6 := of_decide_eq_true h6
  have a10 := of_decide_eq_true h10
  first | exact fun w' h => ⟨by rw [if_neg (by unfold confOk; omega)], h.frm⟩ | exact fun w' h => ⟨by rw [if_pos (by unfold confOk; omega)], h.frm⟩
  refine zQ rfl <| zA rfl <| zN <| cF rfl <| cK <| eY <| eN <| cR <| zA rfl <| zN <| cE <| tR Tryz.results30 rfl <| ?_
  have a6 := of_decide_eq_true h6
  have a10 := of_decide_eq_true h10
  first | exact fun w' h => ⟨by rw [if_neg (by unfold confOk; omega)], h.frm⟩ | exact fun w' h => ⟨by rw [if_pos (by unfold confOk; omega)], h.frm⟩
  refine zM rfl ?_
  iterate 8 refine WL.sk rfl ?_
  refine zQ rfl <| zA rfl <| zN <| cF rfl <| cR <| zF rfl fld_44_4 <| zL rfl one_3 rfl <| ?_
  refine zT (v_lss rfl rfl rfl) rfl (fun h32 => ?_) (fun h32 => ?_)
  refine zM rfl ?_
  iterate 3 refine WL.sk rfl ?_
  refine zP rfl <| zA rfl <| zN <| cT rfl <| cR <| zA rfl <| zN <| cE <| eB <| eR <| tR Tryz.results30 rfl <| ?_
  have a6 := of_decide_eq_true h6
  have a10 := of_decide_eq_true h10
  first | exact fun w' h => ⟨by rw [if_neg (by unfold confOk; omega)], h.frm⟩ | exact fun w' h => ⟨by rw [if_pos (by unfold confOk; omega)], h.frm⟩
  refine zM rfl <| zS (v_fieldAddr0 rfl rfl fld_44_4) rfl <| zS (v_load1 rfl rfl one_3 (cellAt rfl)) rfl <| ?_
  refine WL.test (v_gtr rfl rfl rfl) (.some rfl rfl rfl) rfl rfl (fun h36 => ?_) (fun h36 => ?_)
  refine zQ rfl <| zA rfl <| zN <| cT rfl <| cR <| zA rfl <| zN <| cE <| eB <| eR <| tR Tryz.results30 rfl <| ?_
  have a6 := of_decide_eq_true h6
  have a10 := of_decide_eq_true h10
  first | exact fun w' h => ⟨by rw [if_neg (by unfold confOk; omega)], h.frm⟩ | exact fun w' h => ⟨by rw [if_pos (by unfold confOk; omega)], h.frm⟩
  refine zQ rfl <| zA rfl <| zN <| cF rfl <| cK <| eY <| eN <| cR <| zA rfl <| zN <| cE <| tR Tryz.results30 rfl <| ?_
  have a6 := of_decide_eq_true h6
  have a10 := of_decide_eq_true h10
  first | exact fun w' h => ⟨by rw [if_neg (by unfold confOk; omega)], h.frm⟩ | exact fun w' h => ⟨by rw [if_pos (by unfold confOk; omega)], h.frm⟩
def Se.new (asn id their hold retry : Int) : Se := ⟨asn, id, their, hold, retry, 0, CnM.zero, CnM.zero, 0, [-1, -1, -1, -1, -1]⟩
theorem new_c (w0 w : World) (L : List Ent) (hS0 : St (fun _ => False) w0 w L) (asn id their hold retry : Int) (hok : confOk asn id their hold retry) (hid : U32 id) :
    Calls Tryz.prog 11 #[.agg (confL asn id their hold retry).toArray] w fun e w' => ∃ g p d, e = .returned (.tuple #[.pointer (some ⟨g, 0, none⟩), .int .i64 0]) ∧ PeAt g p (Se.new asn id their hold retry) [] [] d ∧ St (fun _ => False) w0 w' (.row g p.cells :: ([] ++ ([] ++ d.L p.gC 0 L))) := by
  have hck : ∀ w, Calls Tryz.prog 30 #[.agg (confL asn id their hold retry).toArray] w fun e w' => e = .returned (.int .i64 0) ∧ Frm (fun _ => False) w w' := fun w => by
    have h := check_c w asn id their hold retry
    rw [if_pos hok] at h
    exact h
  refine enter Tryz.func11 rfl Tryz.ntmps11 rfl hS0 ?_
  refine cR <| WL.box rfl rfl rfl (.none rfl) rfl rfl <| ?_
  intro g1 hg1
  refine zA rfl <| zA rfl <| zN <| cS <| cR <| zV (v_loadN rfl rfl many_44 rfl allAt) rfl <| zK ck_30 rfl <| ?_
  intro w hS
  refine Calls.then (hck w) hS ?_
  refine zA rfl <| zR <| zM rfl <| ?_
  refine zV ((v_neq rfl rfl rfl).f (by omega)) rfl ?_
  refine zN <| cF rfl <| cK <| eN <| cS <| WC.held (.row g1 (confL asn id their hold retry) :: L) mixed <| ?_
  refine WRH.first (g := 5) [0] (by kernel_rfl) (by kernel_rfl) (fun w hS => hS.sub (by repeat (first | exact List.Sublist.refl _ | exact List.nil_sublist _ | refine List.Sublist.cons_cons _ ?_ | refine List.Sublist.cons _ ?_ | refine List.sublist_append_of_sublist_right ?_))) ?_
  refine WH.val (v_loadN rfl rfl many_44 rfl allAt) (.none rfl) rfl rfl <| WH.nil <| ?_
  refine WRH.one (g := 4) 1 (by kernel_rfl) ?_
  refine zK ck_49 rfl ?_
  intro w1 hS
  refine (New_b hS).mono ?_
  rintro e w' ⟨gC, d, rfl, hb, hS'⟩
  refine ⟨_, _, rfl, hS', ?_⟩
  refine WL.nilH (fun w hS => hS.sub (by repeat (first | exact List.Sublist.refl _ | exact List.nil_sublist _ | refine List.Sublist.cons_cons _ ?_ | refine List.Sublist.cons _ ?_ | refine List.sublist_append_of_sublist_right ?_))) ?_
  refine WRH.first (g := 3) [2] (by kernel_rfl) (by kernel_rfl) (fun w hS => hS.sub (by repeat (first | exact List.Sublist.refl _ | exact List.nil_sublist _ | refine List.Sublist.cons_cons _ ?_ | refine List.Sublist.cons _ ?_ | refine List.sublist_append_of_sublist_right ?_))) ?_
  refine WH.val (v_build rfl rfl zero_106 plc_106 rfl) (.none rfl) rfl rfl <| WH.nil <| ?_
  refine WRH.one (g := 2) 3 (by kernel_rfl) ?_
  refine WL.box rfl rfl rfl (.none rfl) rfl rfl ?_
  intro g13 hg13
  refine WL.as (L' := .row g13 (PeL.cells ⟨asn, id, their, hold, retry, gC, 0, CnL.zero, CnL.zero⟩) :: d.L gC 0 (.row g1 (confL asn id their hold retry) :: L)) rfl ?_
  refine WL.nilH (fun w hS => hS.sub (by repeat (first | exact List.Sublist.refl _ | exact List.nil_sublist _ | refine List.Sublist.cons_cons _ ?_ | refine List.Sublist.cons _ ?_ | refine List.sublist_append_of_sublist_right ?_))) ?_
  refine WRH.first (g := 0) [4, 5] (by kernel_rfl) (by kernel_rfl) (fun w hS => hS.sub (by repeat (first | exact List.Sublist.refl _ | exact List.nil_sublist _ | refine List.Sublist.cons_cons _ ?_ | refine List.Sublist.cons _ ?_ | refine List.sublist_append_of_sublist_right ?_))) ?_
  refine WH.val (v_assign rfl rfl) (.none rfl) rfl rfl <| WH.val (v_assign rfl rfl) (.none rfl) rfl rfl <| WH.nil <| ?_
  refine WRH.done (by kernel_rfl) ?_
  refine eN <| cE <| WE.ret2 (P := Tryz.prog) (.inl rfl) Tryz.results11 rfl rfl <| ?_
  refine fun w' h => ⟨_, ⟨asn, id, their, hold, retry, gC, 0, CnL.zero, CnL.zero⟩, d, rfl, ⟨rfl, ⟨hok.2.2.2.2, ?_, ⟨Int.le_refl _, show (0 : Int) ≤ 2 by decide⟩, ⟨Int.le_refl _, show (0 : Int) ≤ maxT by decide⟩, rfl, fun t ht => ?_, hid⟩, zero_okC, zero_okC, Vec.nil 1, Vec.nil 1, Bys.nil, Bys.nil, hb⟩, h.dropK [.row g1 (confL asn id their hold retry)]⟩
  · have := hok.2.2.2.1
    show 0 ≤ hold ∧ hold ≤ 65535
    omega
  · left
    simpa [Se.new] using ht

def openM (asn hold id : Int) : MsL := { MsL.zero 1 with asn := asn, hold := hold, id := id }
theorem openM_at (w : World) (a h i : Int) : (openM a h i).At w := ⟨fun i s h => (by cases h), (fun s h => by cases h), fun i s h => (by cases h), fun i s h => (by cases h), ⟨fun i s h => (by cases h), (fun s h => by cases h), (fun h => absurd h (Nat.lt_irrefl 0)), fun i s h => (by cases h), (fun s h => by cases h)⟩⟩
theorem openM_in {a h i : Int} (ha : I64 a) (hh : I64 h) (hi : U32 i) : (openM a h i).In :=
  have z := zeroM_in (k := 1) ⟨by decide, by decide⟩
  ⟨z.kind, ha, hh, hi, z.fc, z.fs, z.caps, z.gone, z.nets, z.at_, z.lens⟩
def sentC : CnM := ⟨3, [], 0, 0, 0, ⟨#[]⟩, 0, 0⟩
def sentL : CnL := ⟨3, ⟨none, 0, [], 0, 0, 0, ⟨#[]⟩⟩, 0, 0⟩
def Se.sent (s : Se) (n : Nat) : Se := { (s.set n sentC) with base := (if n = 0 then 2 else s.base), D := s.D.set 0 (-1) }
def upNo (s : Se) (n : Nat) : Prop := s.base = 0 ∨ (s.c n).st ≠ 0 ∨ (n = 0 ∧ s.base ≠ 1)
instance (s : Se) (n : Nat) : Decidable (upNo s n) := by unfold upNo; infer_instance
def Se.up (s : Se) (n : Nat) : Se := if upNo s n then s else (s.sent n).due (1 + n) 240
def upE (s : Se) (n : Nat) : List EfD := if upNo s n then [ef 3 n] else sendE n (openM s.asn s.hold s.id)
theorem sent_now (s : Se) (n : Nat) : (s.sent n).now = s.now := set_now _ _ _
theorem sentC_ok : sentC.Ok := ⟨.inr ⟨show (3 : Int) ≤ 3 by decide, show (3 : Int) ≤ 5 by decide⟩, Nat.zero_le _, ⟨Int.le_refl _, by decide⟩, ⟨Int.le_refl _, by decide⟩, ⟨Int.le_refl _, by decide⟩⟩
set_option maxHeartbeats 1000000 in
theorem up0_c (w0 w : World) (g : Nat) (p : PeL) (s : Se) (E0 E1 L : List Ent) (d : Ck) (hA : PeAt g p s E0 E1 d) (hG : GF w0) (hS0 : St (fun _ => False) w0 w (.row g p.cells :: (E0 ++ (E1 ++ d.L p.gC s.now L)))) (ha : I64 s.asn) :
    Calls Tryz.prog 14 #[.pointer (some ⟨g, 0, none⟩), .int .i64 0] w fun e w' => EffC w0 w' g (upE s 0) (s.up 0) L e := by
  have hD5 := hA.ok.2.2.2.2.1
  have hhold := hA.ok.2.1
  have hid := hA.ok.2.2.2.2.2.2
  have hb0 : p.base = s.base := (congrArg Se.base hA.eq :)
  have hea : p.asn = s.asn := (congrArg Se.asn hA.eq :)
  have heh : p.hold = s.hold := (congrArg Se.hold hA.eq :)
  have hei : p.id = s.id := (congrArg Se.id hA.eq :)
  have hc : p.c0.m = s.c0 := (congrArg Se.c0 hA.eq :)
  have hst : p.c0.st = (s.c 0).st := (congrArg CnM.st hc :)
  refine enter Tryz.func14 rfl Tryz.ntmps14 rfl hS0 ?_
  refine cR <| zA rfl <| zN <| cS <| cR <| zM rfl <| zV (v_eql_nil false rfl rfl Tryz.underlying40 rfl) rfl <| zM rfl <| zS (v_move rfl rfl) rfl <| ?_
  refine zS ((v_neq rfl rfl rfl).f ((by decide))) rfl ?_
  refine zS (v_move rfl rfl) rfl ?_
  iterate 2 refine WL.sk rfl ?_
  refine zS (v_pick_f rfl rfl rfl) rfl <| zQ rfl <| zN <| cF rfl <| cK <| eN <| cS <| cR <| zM rfl <| zC rfl <| zF rfl fld_106_2 <| zL rfl one_3 rfl <| ?_
  refine zT (v_eql rfl rfl rfl) rfl (fun h19 => ?_) (fun h19 => ?_)
  refine zM rfl ?_
  iterate 3 refine WL.sk rfl ?_
  generalize hth : decide ((p.c 0).st ≠ 0) = b23
  cases b23
  refine zP rfl <| zM rfl <| ?_
  iterate 9 refine WL.sk rfl ?_
  refine zP rfl <| zN <| cT rfl <| cR <| zM rfl <| zV (v_build rfl rfl zero_54 plc_54 rfl) rfl <| zB Tryz.underlying46 sz_54 zero_54 rfl rfl <| ?_
  intro g38 hg38
  refine WL.as (L' := .row g38 (efZ 3 0).cells :: .row g p.cells :: (E0 ++ (E1 ++ d.L p.gC s.now L))) rfl <| zA rfl <| zN <| cE <| eR <| tR Tryz.results14 rfl <| ?_
  have hc : upNo s 0 := (.inl (hb0.symm.trans h19))
  have e1 : s.up 0 = s := if_pos hc
  exact fun w' h => ⟨_, 1, [efZ 3 0], _, [], p, E0, E1, d, rfl, efZ_one 3 0, by unfold upE; rw [if_pos hc]; rfl, by rw [e1]; exact hA, by rw [e1]; exact h⟩
  refine zP rfl <| zM rfl <| ?_
  iterate 9 refine WL.sk rfl ?_
  refine zP rfl <| zN <| cT rfl <| cR <| zM rfl <| zV (v_build rfl rfl zero_54 plc_54 rfl) rfl <| zB Tryz.underlying46 sz_54 zero_54 rfl rfl <| ?_
  intro g38 hg38
  refine WL.as (L' := .row g38 (efZ 3 0).cells :: .row g p.cells :: (E0 ++ (E1 ++ d.L p.gC s.now L))) rfl <| zA rfl <| zN <| cE <| eR <| tR Tryz.results14 rfl <| ?_
  have hc : upNo s 0 := (.inl (hb0.symm.trans h19))
  have e1 : s.up 0 = s := if_pos hc
  exact fun w' h => ⟨_, 1, [efZ 3 0], _, [], p, E0, E1, d, rfl, efZ_one 3 0, by unfold upE; rw [if_pos hc]; rfl, by rw [e1]; exact hA, by rw [e1]; exact h⟩
  ·
   refine zM rfl <| zS (v_move rfl rfl) rfl <| zS (v_move rfl rfl) rfl <| WL.call rfl rfl ck_51 (.some rfl rfl rfl) rfl rfl <| ?_
   intro w hS
   refine Calls.then (there_c w g p (hS.row (g := g)) 0 (by decide)) hS ?_
   generalize hth : decide ((p.c 0).st ≠ 0) = b23
   cases b23
   ·
    refine zQ rfl <| zM rfl <| zS (v_move rfl rfl) rfl <| ?_
    refine zS ((v_eql rfl rfl rfl).t ((by decide))) rfl ?_
    refine zS (v_move rfl rfl) rfl <| zS (v_move rfl rfl) rfl <| zS (v_nilCheck rfl rfl) rfl <| zS (v_fieldAddr0 rfl rfl fld_106_2) rfl <| zS (v_load1 rfl rfl one_3 (cellAt rfl)) rfl <| ?_
    refine WL.test (v_neq rfl rfl rfl) (.some rfl rfl rfl) rfl rfl (fun h33 => ?_) (fun h33 => ?_)
    refine zS (v_pick_t rfl rfl rfl) rfl <| zQ rfl <| zN <| cT rfl <| cR <| zM rfl <| zV (v_build rfl rfl zero_54 plc_54 rfl) rfl <| zB Tryz.underlying46 sz_54 zero_54 rfl rfl <| ?_
    intro g38 hg38
    refine WL.as (L' := .row g38 (efZ 3 0).cells :: .row g p.cells :: (E0 ++ (E1 ++ d.L p.gC s.now L))) rfl <| zA rfl <| zN <| cE <| eR <| tR Tryz.results14 rfl <| ?_
    have hc : upNo s 0 := (.inr (.inr ⟨rfl, fun hh => h33 (hb0.trans hh)⟩))
    have e1 : s.up 0 = s := if_pos hc
    exact fun w' h => ⟨_, 1, [efZ 3 0], _, [], p, E0, E1, d, rfl, efZ_one 3 0, by unfold upE; rw [if_pos hc]; rfl, by rw [e1]; exact hA, by rw [e1]; exact h⟩
    ·
     refine zS (v_pick_t rfl rfl rfl) rfl <| zQ rfl <| zN <| cF rfl <| cK <| eN <| cS <| cR <| zM rfl <| ?_
     refine zV ((v_eql rfl rfl rfl).t ((by decide))) rfl ?_
     refine zN <| cT rfl <| WC.region <| zM rfl <| zC rfl <| zF rfl fld_106_2 <| zO one_3 rfl rfl <| WL.as (L' := .row g ({ p with base := 2 } : PeL).cells :: (E0 ++ (E1 ++ d.L p.gC s.now L))) rfl <| zR <| zM rfl <| zC rfl <| zF rfl fld_106_1 <| ?_
     refine zL rfl one_98 rfl <| zK ck_52 rfl <| ?_
     intro w1 hS
     refine (Stop_d (gC := p.gC) (now := s.now) (R := .row g ({ p with base := 2 } : PeL).cells :: (E0 ++ (E1 ++ L))) (hS.permK ) hA.bag 0 (by omega)).mono ?_
     rintro e w' ⟨b1, d1, rfl, hb1, hS'⟩
     refine ⟨_, .row g ({ p with base := 2 } : PeL).cells :: ([] ++ (E1 ++ d1.L p.gC s.now L)), rfl, hS'.dropK E0 , ?_⟩
     have hA2 : PeAt g ({ p with base := 2, c0 := sentL } : PeL) (s.sent 0) [] E1 d1 := (by
       refine ⟨?_, ⟨hA.ok.1, hA.ok.2.1, ?_, hA.ok.2.2.2.1, ?_, fun t ht => ?_, hA.ok.2.2.2.2.2.2⟩, ?_, ?_, ?_, ?_, ?_, ?_, hb1⟩
       · exact (congrArg (fun z : Se => z.sent 0) hA.eq :)
       · exact ⟨show (0 : Int) ≤ 2 by decide, show (2 : Int) ≤ 2 by decide⟩
       · exact (List.length_set ..).trans hD5
       · rcases List.mem_or_eq_of_mem_set ht with h | h
         · exact hA.ok.2.2.2.2.2.1 t h
         · exact .inl h
       all_goals first | exact sentC_ok | exact hA.ok0 | exact hA.ok1 | exact Vec.nil 1 | exact hA.v0 | exact hA.v1 | exact Bys.nil | exact hA.b0 | exact hA.b1)
     refine zR <| zM rfl <| zM rfl <| zV (v_build rfl rfl zero_103 plc_103 rfl) rfl <| zC rfl <| zF rfl fld_106_3 <| ?_
     refine zV (v_indexAddrA (lo := 0) rfl rfl rfl Tryz.underlying104 sz_103 (by omega) (by omega)) rfl ?_
     refine WL.storeN rfl rfl rfl rfl many_103 rfl (by first | exact Nat.le_of_ble_eq_true rfl | simp) (.none rfl) rfl ?_
     refine WL.as (L' := .row g ({ p with base := 2, c0 := sentL } : PeL).cells :: ([] ++ (E1 ++ d1.L p.gC s.now L))) rfl <| zR <| zM rfl <| zM rfl <| ?_
     refine zV (v_add rfl rfl rfl (show _ = (1 : Int) from w_i64 (by decide) (by decide))) rfl ?_
     refine zK ck_53 rfl ?_
     intro w1 hS
     refine (due_c w0 w1 g ({ p with base := 2, c0 := sentL } : PeL) (s.sent 0) [] E1 L d1 hA2 (by rw [sent_now]; exact hS) 1 (by omega) 240 (by omega)).mono ?_
     rintro e w' ⟨d2, rfl, hA3, hS'⟩
     refine ⟨_, _, rfl, hS', ?_⟩
     refine zN <| cS <| WC.orders mixed <| rF 6 [0, 1, 2, 3, 4, 6, 7, 8, 9, 11, 12, 13, 14] <| pV (v_move rfl rfl) rfl <| pV (v_move rfl rfl) rfl <| pV (v_nilCheck rfl rfl) rfl <| pV (v_fieldAddr0 rfl rfl fld_106_0) rfl <| pV (v_fieldAddr0 rfl rfl fld_44_0) rfl <| pV (v_move rfl rfl) rfl <| pV (v_nilCheck rfl rfl) rfl <| pV (v_fieldAddr0 rfl rfl fld_106_0) rfl <| pV (v_fieldAddr0 rfl rfl fld_44_3) rfl <| pV (v_move rfl rfl) rfl <| ?_
     refine pV (v_nilCheck rfl rfl) rfl <| pV (v_fieldAddr0 rfl rfl fld_106_0) rfl <| pV (v_fieldAddr0 rfl rfl fld_44_1) rfl <| WP.nil <| rA 2 [5, 10, 15, 16] rfl <| qV (v_load1 rfl rfl one_3 (cellAt rfl)) rfl <| qV (v_load1 rfl rfl one_3 (cellAt rfl)) rfl <| qV (v_load1 rfl rfl one_23 (cellAt rfl)) rfl <| qV (v_build rfl rfl zero_39 plc_39 rfl) rfl <| WQ.nilR <| rO 1 [17] <| zK ck_54 rfl <| ?_
     intro w1 hS
     refine (send_c w1 0 (openM p.asn p.hold p.id) (openM_at _ _ _ _) (openM_in (by rw [hea]; exact ha) (by rw [heh]; unfold I64; omega) (by rw [hei]; exact hid)) (hG.keep (fun h => h) hS) (Nat.zero_le _) (Nat.zero_le _)).mono ?_
     rintro e w' ⟨ad3, c3, gs, EG, KG, rfl, hV3, heg, hS'⟩
     refine ⟨_, _, rfl, hS.join hS', ?_⟩
     refine zH <| rF 0 [18] <| pV (v_assign rfl rfl) rfl <| WP.nil <| rD <| eN <| cE <| tR Tryz.results14 rfl <| ?_
     have hc : ¬ upNo s 0 := (by
       rintro (h | h | ⟨_, h⟩)
       · exact h19 (hb0.trans h)
       · exact of_decide_eq_false hth (fun hh => h (hst.symm.trans hh))
       · exact h33 (fun hh => h (hb0.symm.trans hh)))
     have e1 : s.up 0 = (s.sent 0).due 1 240 := if_neg hc
     refine fun w' h => ⟨ad3, c3, gs, EG, KG, _, _, _, d2, rfl, hV3, ?_, by rw [e1]; exact hA3, ?_⟩
     · unfold upE
       rw [if_neg hc, heg, hea, heh, hei]
       rfl
     · rw [e1]
       rw [List.append_assoc] at h
       exact h
   refine zQ rfl <| zM rfl <| ?_
   iterate 9 refine WL.sk rfl ?_
   refine zP rfl <| zN <| cT rfl <| cR <| zM rfl <| zV (v_build rfl rfl zero_54 plc_54 rfl) rfl <| zB Tryz.underlying46 sz_54 zero_54 rfl rfl <| ?_
   intro g38 hg38
   refine WL.as (L' := .row g38 (efZ 3 0).cells :: .row g p.cells :: (E0 ++ (E1 ++ d.L p.gC s.now L))) rfl <| zA rfl <| zN <| cE <| eR <| tR Tryz.results14 rfl <| ?_
   have hc : upNo s 0 := (.inr (.inl (fun hh => of_decide_eq_true hth (hst.trans hh))))
   have e1 : s.up 0 = s := if_pos hc
   exact fun w' h => ⟨_, 1, [efZ 3 0], _, [], p, E0, E1, d, rfl, efZ_one 3 0, by unfold upE; rw [if_pos hc]; rfl, by rw [e1]; exact hA, by rw [e1]; exact h⟩
set_option maxHeartbeats 1000000 in
theorem up1_c (w0 w : World) (g : Nat) (p : PeL) (s : Se) (E0 E1 L : List Ent) (d : Ck) (hA : PeAt g p s E0 E1 d) (hG : GF w0) (hS0 : St (fun _ => False) w0 w (.row g p.cells :: (E0 ++ (E1 ++ d.L p.gC s.now L)))) (ha : I64 s.asn) :
    Calls Tryz.prog 14 #[.pointer (some ⟨g, 0, none⟩), .int .i64 1] w fun e w' => EffC w0 w' g (upE s 1) (s.up 1) L e := by
  have hD5 := hA.ok.2.2.2.2.1
  have hhold := hA.ok.2.1
  have hid := hA.ok.2.2.2.2.2.2
  have hb0 : p.base = s.base := (congrArg Se.base hA.eq :)
  have hea : p.asn = s.asn := (congrArg Se.asn hA.eq :)
  have heh : p.hold = s.hold := (congrArg Se.hold hA.eq :)
  have hei : p.id = s.id := (congrArg Se.id hA.eq :)
  have hc : p.c1.m = s.c1 := (congrArg Se.c1 hA.eq :)
  have hst : p.c1.st = (s.c 1).st := (congrArg CnM.st hc :)
  refine enter Tryz.func14 rfl Tryz.ntmps14 rfl hS0 ?_
  refine cR <| zA rfl <| zN <| cS <| cR <| zM rfl <| zV (v_eql_nil false rfl rfl Tryz.underlying40 rfl) rfl <| zM rfl <| zS (v_move rfl rfl) rfl <| ?_
  refine zS ((v_neq rfl rfl rfl).t ((by decide))) rfl ?_
  refine zS (v_move rfl rfl) rfl <| zS (v_move rfl rfl) rfl <| ?_
  refine zS ((v_neq rfl rfl rfl).f ((by decide))) rfl ?_
  refine zS (v_pick_t rfl rfl rfl) rfl <| zQ rfl <| zN <| cF rfl <| cK <| eN <| cS <| cR <| zM rfl <| zC rfl <| zF rfl fld_106_2 <| zL rfl one_3 rfl <| ?_
  refine zT (v_eql rfl rfl rfl) rfl (fun h19 => ?_) (fun h19 => ?_)
  refine zM rfl ?_
  iterate 3 refine WL.sk rfl ?_
  generalize hth : decide ((p.c 1).st ≠ 0) = b23
  cases b23
  refine zP rfl <| zM rfl <| ?_
  iterate 9 refine WL.sk rfl ?_
  refine zP rfl <| zN <| cT rfl <| cR <| zM rfl <| zV (v_build rfl rfl zero_54 plc_54 rfl) rfl <| zB Tryz.underlying46 sz_54 zero_54 rfl rfl <| ?_
  intro g38 hg38
  refine WL.as (L' := .row g38 (efZ 3 1).cells :: .row g p.cells :: (E0 ++ (E1 ++ d.L p.gC s.now L))) rfl <| zA rfl <| zN <| cE <| eR <| tR Tryz.results14 rfl <| ?_
  have hc : upNo s 1 := (.inl (hb0.symm.trans h19))
  have e1 : s.up 1 = s := if_pos hc
  exact fun w' h => ⟨_, 1, [efZ 3 1], _, [], p, E0, E1, d, rfl, efZ_one 3 1, by unfold upE; rw [if_pos hc]; rfl, by rw [e1]; exact hA, by rw [e1]; exact h⟩
  refine zP rfl <| zM rfl <| ?_
  iterate 9 refine WL.sk rfl ?_
  refine zP rfl <| zN <| cT rfl <| cR <| zM rfl <| zV (v_build rfl rfl zero_54 plc_54 rfl) rfl <| zB Tryz.underlying46 sz_54 zero_54 rfl rfl <| ?_
  intro g38 hg38
  refine WL.as (L' := .row g38 (efZ 3 1).cells :: .row g p.cells :: (E0 ++ (E1 ++ d.L p.gC s.now L))) rfl <| zA rfl <| zN <| cE <| eR <| tR Tryz.results14 rfl <| ?_
  have hc : upNo s 1 := (.inl (hb0.symm.trans h19))
  have e1 : s.up 1 = s := if_pos hc
  exact fun w' h => ⟨_, 1, [efZ 3 1], _, [], p, E0, E1, d, rfl, efZ_one 3 1, by unfold upE; rw [if_pos hc]; rfl, by rw [e1]; exact hA, by rw [e1]; exact h⟩
  ·
   refine zM rfl <| zS (v_move rfl rfl) rfl <| zS (v_move rfl rfl) rfl <| WL.call rfl rfl ck_51 (.some rfl rfl rfl) rfl rfl <| ?_
   intro w hS
   refine Calls.then (there_c w g p (hS.row (g := g)) 1 (by decide)) hS ?_
   generalize hth : decide ((p.c 1).st ≠ 0) = b23
   cases b23
   ·
    refine zQ rfl <| zM rfl <| zS (v_move rfl rfl) rfl <| ?_
    refine zS ((v_eql rfl rfl rfl).f ((by decide))) rfl ?_
    refine zS (v_move rfl rfl) rfl ?_
    iterate 5 refine WL.sk rfl ?_
    refine zS (v_pick_f rfl rfl rfl) rfl <| zQ rfl <| zN <| cF rfl <| cK <| eN <| cS <| cR <| zM rfl <| ?_
    refine zV ((v_eql rfl rfl rfl).f ((by decide))) rfl ?_
    refine zN <| cF rfl <| cK <| eN <| cR <| zM rfl <| zC rfl <| zF rfl fld_106_1 <| zL rfl one_98 rfl <| zK ck_52 rfl <| ?_
    intro w1 hS
    refine (Stop_d (gC := p.gC) (now := s.now) (R := .row g p.cells :: (E0 ++ (E1 ++ L))) (hS.permK ) hA.bag 0 (by omega)).mono ?_
    rintro e w' ⟨b1, d1, rfl, hb1, hS'⟩
    refine ⟨_, .row g p.cells :: (E0 ++ ([] ++ d1.L p.gC s.now L)), rfl, hS'.dropK E1 , ?_⟩
    have hA2 : PeAt g ({ p with c1 := sentL } : PeL) (s.sent 1) E0 [] d1 := (by
      refine ⟨?_, ⟨hA.ok.1, hA.ok.2.1, ?_, hA.ok.2.2.2.1, ?_, fun t ht => ?_, hA.ok.2.2.2.2.2.2⟩, ?_, ?_, ?_, ?_, ?_, ?_, hb1⟩
      · exact (congrArg (fun z : Se => z.sent 1) hA.eq :)
      · exact hA.ok.2.2.1
      · exact (List.length_set ..).trans hD5
      · rcases List.mem_or_eq_of_mem_set ht with h | h
        · exact hA.ok.2.2.2.2.2.1 t h
        · exact .inl h
      all_goals first | exact sentC_ok | exact hA.ok0 | exact hA.ok1 | exact Vec.nil 1 | exact hA.v0 | exact hA.v1 | exact Bys.nil | exact hA.b0 | exact hA.b1)
    refine zR <| zM rfl <| zM rfl <| zV (v_build rfl rfl zero_103 plc_103 rfl) rfl <| zC rfl <| zF rfl fld_106_3 <| ?_
    refine zV (v_indexAddrA (lo := 1) rfl rfl rfl Tryz.underlying104 sz_103 (by omega) (by omega)) rfl ?_
    refine WL.storeN rfl rfl rfl rfl many_103 rfl (by first | exact Nat.le_of_ble_eq_true rfl | simp) (.none rfl) rfl ?_
    refine WL.as (L' := .row g ({ p with c1 := sentL } : PeL).cells :: (E0 ++ ([] ++ d1.L p.gC s.now L))) rfl <| zR <| zM rfl <| zM rfl <| ?_
    refine zV (v_add rfl rfl rfl (show _ = (2 : Int) from w_i64 (by decide) (by decide))) rfl ?_
    refine zK ck_53 rfl ?_
    intro w1 hS
    refine (due_c w0 w1 g ({ p with c1 := sentL } : PeL) (s.sent 1) E0 [] L d1 hA2 (by rw [sent_now]; exact hS) 2 (by omega) 240 (by omega)).mono ?_
    rintro e w' ⟨d2, rfl, hA3, hS'⟩
    refine ⟨_, _, rfl, hS', ?_⟩
    refine zN <| cS <| WC.orders mixed <| rF 6 [0, 1, 2, 3, 4, 6, 7, 8, 9, 11, 12, 13, 14] <| pV (v_move rfl rfl) rfl <| pV (v_move rfl rfl) rfl <| pV (v_nilCheck rfl rfl) rfl <| pV (v_fieldAddr0 rfl rfl fld_106_0) rfl <| pV (v_fieldAddr0 rfl rfl fld_44_0) rfl <| pV (v_move rfl rfl) rfl <| pV (v_nilCheck rfl rfl) rfl <| pV (v_fieldAddr0 rfl rfl fld_106_0) rfl <| pV (v_fieldAddr0 rfl rfl fld_44_3) rfl <| pV (v_move rfl rfl) rfl <| ?_
    refine pV (v_nilCheck rfl rfl) rfl <| pV (v_fieldAddr0 rfl rfl fld_106_0) rfl <| pV (v_fieldAddr0 rfl rfl fld_44_1) rfl <| WP.nil <| rA 2 [5, 10, 15, 16] rfl <| qV (v_load1 rfl rfl one_3 (cellAt rfl)) rfl <| qV (v_load1 rfl rfl one_3 (cellAt rfl)) rfl <| qV (v_load1 rfl rfl one_23 (cellAt rfl)) rfl <| qV (v_build rfl rfl zero_39 plc_39 rfl) rfl <| WQ.nilR <| rO 1 [17] <| zK ck_54 rfl <| ?_
    intro w1 hS
    refine (send_c w1 1 (openM p.asn p.hold p.id) (openM_at _ _ _ _) (openM_in (by rw [hea]; exact ha) (by rw [heh]; unfold I64; omega) (by rw [hei]; exact hid)) (hG.keep (fun h => h) hS) (Nat.zero_le _) (Nat.zero_le _)).mono ?_
    rintro e w' ⟨ad3, c3, gs, EG, KG, rfl, hV3, heg, hS'⟩
    refine ⟨_, _, rfl, hS.join hS', ?_⟩
    refine zH <| rF 0 [18] <| pV (v_assign rfl rfl) rfl <| WP.nil <| rD <| eN <| cE <| tR Tryz.results14 rfl <| ?_
    have hc : ¬ upNo s 1 := (by
      rintro (h | h | ⟨h, _⟩)
      · exact h19 (hb0.trans h)
      · exact of_decide_eq_false hth (fun hh => h (hst.symm.trans hh))
      · exact absurd h (by decide))
    have e1 : s.up 1 = (s.sent 1).due 2 240 := if_neg hc
    refine fun w' h => ⟨ad3, c3, gs, EG, KG, _, _, _, d2, rfl, hV3, ?_, by rw [e1]; exact hA3, ?_⟩
    · unfold upE
      rw [if_neg hc, heg, hea, heh, hei]
      rfl
    · rw [e1]
      rw [List.append_assoc] at h
      exact h
   refine zQ rfl <| zM rfl <| ?_
   iterate 9 refine WL.sk rfl ?_
   refine zP rfl <| zN <| cT rfl <| cR <| zM rfl <| zV (v_build rfl rfl zero_54 plc_54 rfl) rfl <| zB Tryz.underlying46 sz_54 zero_54 rfl rfl <| ?_
   intro g38 hg38
   refine WL.as (L' := .row g38 (efZ 3 1).cells :: .row g p.cells :: (E0 ++ (E1 ++ d.L p.gC s.now L))) rfl <| zA rfl <| zN <| cE <| eR <| tR Tryz.results14 rfl <| ?_
   have hc : upNo s 1 := (.inr (.inl (fun hh => of_decide_eq_true hth (hst.trans hh))))
   have e1 : s.up 1 = s := if_pos hc
   exact fun w' h => ⟨_, 1, [efZ 3 1], _, [], p, E0, E1, d, rfl, efZ_one 3 1, by unfold upE; rw [if_pos hc]; rfl, by rw [e1]; exact hA, by rw [e1]; exact h⟩

instance {d : Ck} {gC : Nat} {now : Int} {R : List Ent} {g : Nat} {cs : List Value} [h : At R g cs] : At (d.L gC now R) g cs := ⟨List.mem_append_right _ (List.mem_append_right _ (List.mem_cons_of_mem _ (List.mem_cons_of_mem _ h.mem)))⟩
def Se.conf4 (s : Se) (n : Nat) (h i : Int) : Se := s.set n { s.c n with st := 4, hold := min s.hold h, id := i }
def Se.confirm (s : Se) (n : Nat) (h i : Int) : Se := if min s.hold h = 0 then { s.conf4 n h i with D := (s.D.set (1 + n) (-1)).set (3 + n) (-1) } else ((s.conf4 n h i).alive n).kept n
theorem zero4_at (w : World) : (MsL.zero 4).At w := openM_at w 0 0 0 |> fun h => ⟨h.caps, h.vals, h.gone, h.nets, h.at_⟩
def openS (s : Se) (n : Nat) (a h i : Int) : Se × List EfD :=
  if a ≠ s.their then (s.gone n, endE s n 2 2 ⟨#[]⟩)
  else if i = s.id then (s.gone n, endE s n 2 3 ⟨#[]⟩)
  else if (s.c (1 - n)).st = 5 then (s.gone n, endE s n 6 7 ⟨#[]⟩)
  else if (s.c (1 - n)).st = 4 then
    if (if s.id < i then 1 else 0) ≠ (n : Int) then (s.gone n, endE s n 6 7 ⟨#[]⟩)
    else ((s.gone (1 - n)).confirm n h i, endE s (1 - n) 6 7 ⟨#[]⟩ ++ sendE n (MsL.zero 4))
  else (s.confirm n h i, sendE n (MsL.zero 4))
set_option maxHeartbeats 2000000 in
theorem open0_c (w0 w : World) (g : Nat) (p : PeL) (s : Se) (E0 E1 L : List Ent) (d : Ck) (hA : PeAt g p s E0 E1 d) (hG : GF w0) (hS0 : St (fun _ => False) w0 w (.row g p.cells :: (E0 ++ (E1 ++ d.L p.gC s.now L)))) (m : MsL) (hI : U32 m.id) (hmh : 0 ≤ m.hold) :
    Calls Tryz.prog 88 #[.pointer (some ⟨g, 0, none⟩), .int .i64 0, .agg m.cells.toArray] w fun e w' => EffC w0 w' g (openS s 0 m.asn m.hold m.id).2 (openS s 0 m.asn m.hold m.id).1 L e := by
  have het : p.their = s.their := (congrArg Se.their hA.eq :)
  have hei : p.id = s.id := (congrArg Se.id hA.eq :)
  have hc : p.c1.m = s.c1 := (congrArg Se.c1 hA.eq :)
  have hst : p.c1.st = (s.c 1).st := (congrArg CnM.st hc :)
  refine enter Tryz.func88 rfl Tryz.ntmps88 rfl hS0 ?_
  refine cR <| WL.box rfl rfl rfl (.none rfl) rfl rfl <| ?_
  intro g5 hg5
  refine WL.to (L' := .row g p.cells :: (E0 ++ (E1 ++ d.L p.gC s.now (.row g5 m.cells :: L)))) (fun w hS => hS.permK ) <| zA rfl <| zR <| zM rfl <| ?_
  refine zV (v_sub rfl rfl rfl (show _ = (1 : Int) from w_i64 (by decide) (by decide))) rfl ?_
  refine zA rfl <| zN <| cS <| cB <| cS <| cQ mixed <| qV (v_fieldAddr0 rfl rfl fld_39_1) rfl <| qV (v_load1 rfl rfl one_3 (cellAt rfl)) rfl <| qV (v_move rfl rfl) rfl <| qV (v_nilCheck rfl rfl) rfl <| qV (v_fieldAddr0 rfl rfl fld_106_0) rfl <| qV (v_fieldAddr0 rfl rfl fld_44_2) rfl <| qV (v_load1 rfl rfl one_3 (cellAt rfl)) rfl <| ?_
  refine qT (v_neq rfl rfl rfl) rfl (fun h21 => ?_) (fun h21 => ?_)
  refine qV (v_assign rfl rfl) rfl <| WQ.nil <| eN <| cT rfl <| cR <| zM rfl <| zM rfl <| zK ck_63 rfl <| ?_
  intro w1 hS
  refine (fault0_c w0 w1 g p s E0 E1 (.row g5 m.cells :: L) d hA hG hS 2 2 ⟨by decide, by decide⟩ ⟨by decide, by decide⟩).mono ?_
  rintro e w' ⟨ad2, c2, gs, EG, KG, p2, E02, E12, d2, rfl, hV2, heg, hA2, hS'⟩
  refine ⟨_, _, rfl, hS', ?_⟩
  refine zA rfl <| zN <| cE <| eB <| eR <| tR Tryz.results88 rfl <| ?_
  have e0 : openS s 0 m.asn m.hold m.id = (s.gone 0, endE s 0 2 2 ⟨#[]⟩) := (by unfold openS; rw [if_pos (by rw [← het]; exact h21)])
  rw [e0]
  exact fun w' h => ⟨ad2, c2, gs, EG, KG, p2, E02, E12, d2, rfl, hV2, heg, hA2, h.dropK [.row g5 m.cells] ⟩
  ·
   refine qV (v_assign rfl rfl) rfl <| WQ.nil <| eN <| cF rfl <| cS <| cQ mixed <| qV (v_fieldAddr0 rfl rfl fld_39_3) rfl <| qV (v_load1 rfl rfl one_23 (cellAt rfl)) rfl <| qV (v_move rfl rfl) rfl <| qV (v_nilCheck rfl rfl) rfl <| qV (v_fieldAddr0 rfl rfl fld_106_0) rfl <| qV (v_fieldAddr0 rfl rfl fld_44_1) rfl <| qV (v_load1 rfl rfl one_23 (cellAt rfl)) rfl <| ?_
   refine qT (v_eql rfl rfl rfl) rfl (fun h33 => ?_) (fun h33 => ?_)
   refine qV (v_assign rfl rfl) rfl <| WQ.nil <| eN <| cT rfl <| cR <| zM rfl <| zM rfl <| zK ck_63 rfl <| ?_
   intro w1 hS
   refine (fault0_c w0 w1 g p s E0 E1 (.row g5 m.cells :: L) d hA hG hS 2 3 ⟨by decide, by decide⟩ ⟨by decide, by decide⟩).mono ?_
   rintro e w' ⟨ad2, c2, gs, EG, KG, p2, E02, E12, d2, rfl, hV2, heg, hA2, hS'⟩
   refine ⟨_, _, rfl, hS', ?_⟩
   refine zA rfl <| zN <| cE <| eB <| eR <| tR Tryz.results88 rfl <| ?_
   have e0 : openS s 0 m.asn m.hold m.id = (s.gone 0, endE s 0 2 3 ⟨#[]⟩) := (by unfold openS; rw [if_neg (by rw [← het]; exact h21), if_pos (by rw [← hei]; exact h33)])
   rw [e0]
   exact fun w' h => ⟨ad2, c2, gs, EG, KG, p2, E02, E12, d2, rfl, hV2, heg, hA2, h.dropK [.row g5 m.cells] ⟩
   ·
    refine qV (v_assign rfl rfl) rfl <| WQ.nil <| eN <| cF rfl <| cR <| zM rfl <| zM rfl <| zC rfl <| zF rfl fld_106_3 <| ?_
    refine zV (v_indexAddrA (lo := 1) rfl rfl rfl Tryz.underlying104 sz_103 (by omega) (by omega)) rfl ?_
    refine zV (v_fieldAddr rfl rfl fld_103_0) rfl <| zV (v_load1 rfl rfl one_3 (cellAt (v := .int .i64 p.c1.st) rfl)) rfl <| ?_
    refine zT (v_eql rfl rfl rfl) rfl (fun h45 => ?_) (fun h45 => ?_)
    refine zA rfl <| zN <| cT rfl <| cR <| zM rfl <| zM rfl <| zK ck_63 rfl <| ?_
    intro w1 hS
    refine (fault0_c w0 w1 g p s E0 E1 (.row g5 m.cells :: L) d hA hG hS 6 7 ⟨by decide, by decide⟩ ⟨by decide, by decide⟩).mono ?_
    rintro e w' ⟨ad2, c2, gs, EG, KG, p2, E02, E12, d2, rfl, hV2, heg, hA2, hS'⟩
    refine ⟨_, _, rfl, hS', ?_⟩
    refine zA rfl <| zN <| cE <| eB <| eR <| tR Tryz.results88 rfl <| ?_
    have e0 : openS s 0 m.asn m.hold m.id = (s.gone 0, endE s 0 6 7 ⟨#[]⟩) := (by unfold openS; rw [if_neg (by rw [← het]; exact h21), if_neg (by rw [← hei]; exact h33), if_pos (hst.symm.trans h45)])
    rw [e0]
    exact fun w' h => ⟨ad2, c2, gs, EG, KG, p2, E02, E12, d2, rfl, hV2, heg, hA2, h.dropK [.row g5 m.cells] ⟩
    ·
     refine zA rfl <| zN <| cF rfl <| cK <| eY <| eN <| cR <| zA rfl <| zN <| ?_
     refine WC.cut (fun y : PS × Se => [(8, .slice y.1.ad y.1.fs.length y.1.c), (5, .pointer (some ⟨g5, 0, none⟩)), (1, .int .i64 0), (0, .pointer (some ⟨g, 0, none⟩))]) (fun y => y.1.L g s.now (.row g5 m.cells :: L)) (fun y => PeAt g y.1.p y.2 y.1.E0 y.1.E1 y.1.d ∧ y.2.now = s.now ∧ EfsV y.1.ad y.1.c y.1.fs y.1.E y.1.K ∧ y.1.fs.length ≤ 3 ∧ openS s 0 m.asn m.hold m.id = (y.2.confirm 0 m.hold m.id, y.1.fs.map EfL.d ++ sendE 0 (MsL.zero 4))) ?_ ?_
     refine cR <| zM rfl <| zM rfl <| zC rfl <| zF rfl fld_106_3 <| ?_
     refine zV (v_indexAddrA (lo := 1) rfl rfl rfl Tryz.underlying104 sz_103 (by omega) (by omega)) rfl ?_
     refine zV (v_fieldAddr rfl rfl fld_103_0) rfl <| zV (v_load1 rfl rfl one_3 (cellAt (v := .int .i64 p.c1.st) rfl)) rfl <| ?_
     refine zT (v_eql rfl rfl rfl) rfl (fun h56 => ?_) (fun h56 => ?_)
     refine zN <| cT rfl <| cR <| zA rfl <| zN <| cS <| cS <| cQ mixed <| qV (v_move rfl rfl) rfl <| qV (v_nilCheck rfl rfl) rfl <| qV (v_fieldAddr0 rfl rfl fld_106_0) rfl <| qV (v_fieldAddr0 rfl rfl fld_44_1) rfl <| qV (v_load1 rfl rfl one_23 (cellAt rfl)) rfl <| ?_
     refine qV (v_fieldAddr0 rfl rfl fld_39_3) rfl <| qV (v_load1 rfl rfl one_23 (cellAt rfl)) rfl <| ?_
     refine qT (v_lss rfl rfl rfl) rfl (fun h64 => ?_) (fun h64 => ?_)
     refine WQ.nil <| eN <| cT rfl <| WC.region <| zA rfl <| zN <| cS <| cR <| zM rfl <| zM rfl <| ?_
     refine zT (v_neq rfl rfl rfl) rfl (fun h67 => ?_) (fun h67 => ?_)
     refine zN <| cT rfl <| cR <| zM rfl <| zM rfl <| zK ck_63 rfl <| ?_
     intro w1 hS
     refine (fault0_c w0 w1 g p s E0 E1 (.row g5 m.cells :: L) d hA hG hS 6 7 ⟨by decide, by decide⟩ ⟨by decide, by decide⟩).mono ?_
     rintro e w' ⟨ad2, c2, gs, EG, KG, p2, E02, E12, d2, rfl, hV2, heg, hA2, hS'⟩
     refine ⟨_, _, rfl, hS', ?_⟩
     refine zA rfl <| zN <| cE <| eR <| eR <| tR Tryz.results88 rfl <| ?_
     have e0 : openS s 0 m.asn m.hold m.id = (s.gone 0, endE s 0 6 7 ⟨#[]⟩) := (by unfold openS; rw [if_neg (by rw [← het]; exact h21), if_neg (by rw [← hei]; exact h33), if_neg (fun hh => h45 (hst.trans hh)), if_pos (hst.symm.trans h56), if_pos (by split <;> omega)])
     rw [e0]
     exact fun w' h => ⟨ad2, c2, gs, EG, KG, p2, E02, E12, d2, rfl, hV2, heg, hA2, h.dropK [.row g5 m.cells] ⟩
     refine zN <| cF rfl <| cK <| eN <| WC.region <| zM rfl <| zM rfl <| zK ck_63 rfl <| ?_
     intro w1 hS
     refine (fault1_c w0 w1 g p s E0 E1 (.row g5 m.cells :: L) d hA hG hS 6 7 ⟨by decide, by decide⟩ ⟨by decide, by decide⟩).mono ?_
     rintro e w' ⟨ad3, c3, gs, EG, KG, p3, E03, E13, d3, rfl, hV3, heg, hA3, hS'⟩
     refine ⟨_, _, rfl, hS', ?_⟩
     refine zA rfl <| WL.nil <| ?_
     have e0 : openS s 0 m.asn m.hold m.id = ((s.gone 1).confirm 0 m.hold m.id, endE s 1 6 7 ⟨#[]⟩ ++ sendE 0 (MsL.zero 4)) := (by unfold openS; rw [if_neg (by rw [← het]; exact h21), if_neg (by rw [← hei]; exact h33), if_neg (fun hh => h45 (hst.trans hh)), if_pos (hst.symm.trans h56), if_neg (by split <;> omega)]; rfl)
     have hgl := efs_len heg
     have hgb := endE_len s 1 6 7 ⟨#[]⟩
     refine WE.mid (⟨p3, E03, E13, d3, ad3, c3, gs, EG, KG⟩, s.gone 1) ⟨hA3, gone_now _ _, hV3, by dsimp only; omega, by dsimp only; rw [e0, heg]⟩ (.cons rfl (.cons rfl (.cons rfl (.cons rfl .nil)))) ?_
     unfold PS.L; dsimp only; rw [gone_now]; exact .refl _
     refine WQ.nil <| eN <| cF rfl <| cK <| eN <| cS <| cR <| zM rfl <| zM rfl <| ?_
     refine zT (v_neq rfl rfl rfl) rfl (fun h67 => ?_) (fun h67 => ?_)
     refine zN <| cT rfl <| cR <| zM rfl <| zM rfl <| zK ck_63 rfl <| ?_
     intro w1 hS
     refine (fault0_c w0 w1 g p s E0 E1 (.row g5 m.cells :: L) d hA hG hS 6 7 ⟨by decide, by decide⟩ ⟨by decide, by decide⟩).mono ?_
     rintro e w' ⟨ad2, c2, gs, EG, KG, p2, E02, E12, d2, rfl, hV2, heg, hA2, hS'⟩
     refine ⟨_, _, rfl, hS', ?_⟩
     refine zA rfl <| zN <| cE <| eR <| eR <| tR Tryz.results88 rfl <| ?_
     have e0 : openS s 0 m.asn m.hold m.id = (s.gone 0, endE s 0 6 7 ⟨#[]⟩) := (by unfold openS; rw [if_neg (by rw [← het]; exact h21), if_neg (by rw [← hei]; exact h33), if_neg (fun hh => h45 (hst.trans hh)), if_pos (hst.symm.trans h56), if_pos (by split <;> omega)])
     rw [e0]
     exact fun w' h => ⟨ad2, c2, gs, EG, KG, p2, E02, E12, d2, rfl, hV2, heg, hA2, h.dropK [.row g5 m.cells] ⟩
     refine zN <| cF rfl <| cK <| eN <| WC.region <| zM rfl <| zM rfl <| zK ck_63 rfl <| ?_
     intro w1 hS
     refine (fault1_c w0 w1 g p s E0 E1 (.row g5 m.cells :: L) d hA hG hS 6 7 ⟨by decide, by decide⟩ ⟨by decide, by decide⟩).mono ?_
     rintro e w' ⟨ad3, c3, gs, EG, KG, p3, E03, E13, d3, rfl, hV3, heg, hA3, hS'⟩
     refine ⟨_, _, rfl, hS', ?_⟩
     refine zA rfl <| WL.nil <| ?_
     have e0 : openS s 0 m.asn m.hold m.id = ((s.gone 1).confirm 0 m.hold m.id, endE s 1 6 7 ⟨#[]⟩ ++ sendE 0 (MsL.zero 4)) := (by unfold openS; rw [if_neg (by rw [← het]; exact h21), if_neg (by rw [← hei]; exact h33), if_neg (fun hh => h45 (hst.trans hh)), if_pos (hst.symm.trans h56), if_neg (by split <;> omega)]; rfl)
     have hgl := efs_len heg
     have hgb := endE_len s 1 6 7 ⟨#[]⟩
     refine WE.mid (⟨p3, E03, E13, d3, ad3, c3, gs, EG, KG⟩, s.gone 1) ⟨hA3, gone_now _ _, hV3, by dsimp only; omega, by dsimp only; rw [e0, heg]⟩ (.cons rfl (.cons rfl (.cons rfl (.cons rfl .nil)))) ?_
     unfold PS.L; dsimp only; rw [gone_now]; exact .refl _
     refine zN <| cF rfl <| cK <| ?_
     have e0 : openS s 0 m.asn m.hold m.id = (s.confirm 0 m.hold m.id, [] ++ sendE 0 (MsL.zero 4)) := (by unfold openS; rw [if_neg (by rw [← het]; exact h21), if_neg (by rw [← hei]; exact h33), if_neg (fun hh => h45 (hst.trans hh)), if_neg (fun hh => h56 (hst.trans hh))]; rfl)
     exact WE.mid (⟨p, E0, E1, d, none, 0, [], [], []⟩, s) ⟨hA, rfl, ⟨Vec.nil 23, fun e he => by cases he⟩, Nat.zero_le _, e0⟩ (.cons rfl (.cons rfl (.cons rfl (.cons rfl .nil)))) (.refl _)
     ·
      rintro ⟨⟨p4, E04, E14, d4, ad4, c4, fs, EF, KF⟩, t⟩ ⟨hA4, hnt, hV4, hfl, e0⟩
      dsimp only at hA4 hnt hV4 hfl e0
      unfold PS.L
      dsimp only
      have hth : p4.hold = t.hold := (congrArg Se.hold hA4.eq :)
      have hhb := hA4.ok.2.1
      have hD5 := hA4.ok.2.2.2.2.1
      refine cR <| zM rfl <| zM rfl <| zC rfl <| zF rfl fld_106_3 <| ?_
      refine zV (v_indexAddrA (lo := 0) rfl rfl rfl Tryz.underlying104 sz_103 (by omega) (by omega)) rfl ?_
      refine zA rfl <| zR <| zM rfl <| zC rfl <| zV (v_fieldAddr rfl rfl fld_103_0) rfl <| zO one_3 rfl rfl <| WL.as (L' := EF ++ (KF ++ (.row g ({ p4 with c0 := { p4.c0 with st := 4 } } : PeL).cells :: (E04 ++ (E14 ++ d4.L p4.gC s.now (.row g5 m.cells :: L)))))) rfl <| zR <| zM rfl <| zF rfl fld_39_3 <| ?_
      refine zL rfl one_23 rfl <| zC rfl <| zV (v_fieldAddr rfl rfl fld_103_3) rfl <| zO one_23 rfl rfl <| WL.as (L' := EF ++ (KF ++ (.row g ({ p4 with c0 := { p4.c0 with st := 4, id := m.id } } : PeL).cells :: (E04 ++ (E14 ++ d4.L p4.gC s.now (.row g5 m.cells :: L)))))) rfl <| zN <| cS <| WC.orders mixed <| rF 6 [0, 1, 2, 3, 4, 6] <| pV (v_move rfl rfl) rfl <| pV (v_move rfl rfl) rfl <| pV (v_nilCheck rfl rfl) rfl <| pV (v_fieldAddr0 rfl rfl fld_106_0) rfl <| pV (v_fieldAddr0 rfl rfl fld_44_3) rfl <| ?_
      refine pV (v_fieldAddr0 rfl rfl fld_39_2) rfl <| WP.nil <| rA 1 [5, 7, 8, 9, 10] rfl <| qV (v_load1 rfl rfl one_3 (cellAt rfl)) rfl <| qV (v_load1 rfl rfl one_3 (cellAt rfl)) rfl <| qV (v_min rfl rfl rfl) rfl <| qV (v_nilCheck rfl rfl) rfl <| qV (v_fieldAddr rfl rfl fld_103_2) rfl <| WQ.nilR <| rO 0 [11] <| zO one_3 rfl rfl <| WL.as (L' := EF ++ (KF ++ (.row g ({ p4 with c0 := { p4.c0 with st := 4, hold := min p4.hold m.hold, id := m.id } } : PeL).cells :: (E04 ++ (E14 ++ d4.L p4.gC s.now (.row g5 m.cells :: L)))))) rfl <| ?_
      have hA5 : PeAt g ({ p4 with c0 := { p4.c0 with st := 4, hold := min p4.hold m.hold, id := m.id } } : PeL) (t.conf4 0 m.hold m.id) E04 E14 d4 := (by
        refine ⟨?_, hA4.ok, ?_, ?_, hA4.v0, hA4.v1, hA4.b0, hA4.b1, hA4.bag⟩
        · exact (congrArg (fun z : Se => z.conf4 0 m.hold m.id) hA4.eq :)
        all_goals first | exact hA4.ok0 | exact hA4.ok1 | exact ⟨.inr ⟨show (3 : Int) ≤ 4 by decide, show (4 : Int) ≤ 5 by decide⟩, hA4.ok0.2.1, hA4.ok0.2.2.1, (by show 0 ≤ min t.hold m.hold ∧ min t.hold m.hold ≤ 65535; omega), hI⟩ | exact ⟨.inr ⟨show (3 : Int) ≤ 4 by decide, show (4 : Int) ≤ 5 by decide⟩, hA4.ok1.2.1, hA4.ok1.2.2.1, (by show 0 ≤ min t.hold m.hold ∧ min t.hold m.hold ≤ 65535; omega), hI⟩)
      refine zH <| rD <| eN <| cR <| zM rfl <| zM rfl <| zV (v_build rfl rfl zero_39 plc_39 rfl) rfl <| zK ck_54 rfl <| ?_
      intro w1 hS
      refine (send_c w1 0 (MsL.zero 4) (zero4_at _) (zeroM_in ⟨by decide, by decide⟩) (hG.keep (fun h => h) hS) (Nat.zero_le _) (Nat.zero_le _)).mono ?_
      rintro e w' ⟨ad6, c6, ks, EJ, KJ, rfl, hV6, hek, hS'⟩
      have hkl := efs_len hek
      have hkb := sendE_len 0 (MsL.zero 4)
      refine ⟨_, EF ++ (EJ ++ (KJ ++ (KF ++ (.row g ({ p4 with c0 := { p4.c0 with st := 4, hold := min p4.hold m.hold, id := m.id } } : PeL).cells :: (E04 ++ (E14 ++ d4.L p4.gC s.now (.row g5 m.cells :: L))))))), rfl, (hS.join hS').permK , ?_⟩
      refine WL.appendL rfl rfl rfl Tryz.underlying46 Tryz.underlying46 sz_54 by_54 zero_54 rfl rfl hV4.1 (new := efsL ks) (hV6.1.src (fun e he => List.mem_append_right _ (List.mem_append_left _ he)) |> fun f h => (f (by rw [efsL_len]; omega)).elim fun b1 h1 => h1.elim fun o1 h2 => ⟨b1, o1, h2.1, fun w hS => h2.2 _ _ w hS⟩) (efsL_len ks) (efsL_one ks) (by omega) (.none rfl) rfl rfl ?_
      intro ad102 c102 E102 hV102 hr102
      rw [efsL_app] at hV102
      rw [show fs.length + ks.length = (fs ++ ks).length by rw [List.length_append]] at hV102 ⊢
      refine zA rfl <| zN <| cS <| cR <| zM rfl <| zC rfl <| zV (v_fieldAddr rfl rfl fld_103_2) rfl <| zL rfl one_3 rfl <| ?_
      refine zT (v_eql rfl rfl rfl) rfl (fun h107 => ?_) (fun h107 => ?_)
      refine zN <| cT rfl <| cR <| zM rfl <| zC rfl <| zF rfl fld_106_1 <| zL rfl one_98 rfl <| zM rfl <| ?_
      refine zV (v_add rfl rfl rfl (show _ = (1 : Int) from w_i64 (by decide) (by decide))) rfl ?_
      refine zK ck_52 rfl ?_
      intro w1 hS
      refine (Stop_d (gC := p4.gC) (now := s.now) (R := E102 ++ (EJ ++ (KJ ++ (KF ++ (.row g ({ p4 with c0 := { p4.c0 with st := 4, hold := min p4.hold m.hold, id := m.id } } : PeL).cells :: (E04 ++ (E14 ++ (.row g5 m.cells :: L)))))))) (hS.permK ) hA4.bag 1 (by omega)).mono ?_
      rintro e w' ⟨b5, d5, rfl, hb5, hS'⟩
      refine ⟨_, d5.L p4.gC s.now (E102 ++ (EJ ++ (KJ ++ (KF ++ (.row g ({ p4 with c0 := { p4.c0 with st := 4, hold := min p4.hold m.hold, id := m.id } } : PeL).cells :: (E04 ++ (E14 ++ (.row g5 m.cells :: L)))))))), rfl, hS', ?_⟩
      refine zR <| zM rfl <| zC rfl <| zF rfl fld_106_1 <| zL rfl one_98 rfl <| zM rfl <| ?_
      refine zV (v_add rfl rfl rfl (show _ = (3 : Int) from w_i64 (by decide) (by decide))) rfl ?_
      refine zK ck_52 rfl ?_
      intro w1 hS
      refine (Stop_d (gC := p4.gC) (now := s.now) (R := E102 ++ (EJ ++ (KJ ++ (KF ++ (.row g ({ p4 with c0 := { p4.c0 with st := 4, hold := min p4.hold m.hold, id := m.id } } : PeL).cells :: (E04 ++ (E14 ++ (.row g5 m.cells :: L)))))))) hS hb5 3 (by rw [List.length_set]; omega)).mono ?_
      rintro e w' ⟨b6, d6, rfl, hb6, hS'⟩
      refine ⟨_, d6.L p4.gC s.now (E102 ++ (EJ ++ (KJ ++ (KF ++ (.row g ({ p4 with c0 := { p4.c0 with st := 4, hold := min p4.hold m.hold, id := m.id } } : PeL).cells :: (E04 ++ (E14 ++ (.row g5 m.cells :: L)))))))), rfl, hS', ?_⟩
      refine zR <| zM rfl <| zA rfl <| zN <| cE <| eR <| tR Tryz.results88 rfl <| ?_
      have e1 : t.confirm 0 m.hold m.id = { t.conf4 0 m.hold m.id with D := (t.D.set 1 (-1)).set 3 (-1) } := if_pos (by rw [← hth]; exact h107)
      rw [e0, e1]
      refine fun w' h => ⟨ad102, c102, fs ++ ks, E102, KJ ++ KF, ({ p4 with c0 := { p4.c0 with st := 4, hold := min p4.hold m.hold, id := m.id } } : PeL), E04, E14, d6, rfl, ⟨hV102, fun e he => ?_⟩, by rw [List.map_append, hek], ⟨?_, ⟨hA5.ok.1, hA5.ok.2.1, hA5.ok.2.2.1, hA5.ok.2.2.2.1, ?_, fun y hy => ?_, hA5.ok.2.2.2.2.2.2⟩, hA5.ok0, hA5.ok1, hA5.v0, hA5.v1, hA5.b0, hA5.b1, hb6⟩, ?_⟩
      · rcases List.mem_append.1 he with he | he
        · exact (hV4.2 e he).mono fun x hx => List.mem_append_right _ hx
        · exact (hV6.2 e he).mono fun x hx => List.mem_append_left _ hx
      · exact (congrArg (fun z : Se => { z with D := (t.D.set 1 (-1)).set 3 (-1) }) hA5.eq :)
      · exact ((List.length_set ..).trans (List.length_set ..)).trans hD5
      · rcases List.mem_or_eq_of_mem_set hy with hy | hy
        · rcases List.mem_or_eq_of_mem_set hy with hy | hy
          · exact hA5.ok.2.2.2.2.2.1 y hy
          · exact .inl hy
        · exact .inl hy
      · have en : (t.conf4 0 m.hold m.id).now = s.now := (set_now _ _ _).trans hnt
        show St _ _ _ (_ ++ (_ ++ (_ :: (_ ++ (_ ++ d6.L p4.gC (t.conf4 0 m.hold m.id).now L)))))
        rw [en]
        exact h.dropK (EJ ++ [.row g5 m.cells]) 
      refine zN <| cF rfl <| cK <| eN <| cR <| zM rfl <| zM rfl <| zK ck_90 rfl <| ?_
      intro w1 hS
      refine (alive0_c w0 w1 g ({ p4 with c0 := { p4.c0 with st := 4, hold := min p4.hold m.hold, id := m.id } } : PeL) (t.conf4 0 m.hold m.id) E04 E14 (E102 ++ (EJ ++ (KJ ++ (KF ++ (.row g5 m.cells :: L))))) d4 hA5 (by rw [show (t.conf4 0 m.hold m.id).now = s.now from (set_now _ _ _).trans hnt]; exact hS.permK )).mono ?_
      rintro e w' ⟨d5, rfl, hA6, hS'⟩
      refine ⟨_, _, rfl, hS', ?_⟩
      refine zR <| zM rfl <| zM rfl <| zK ck_64 rfl <| ?_
      intro w1 hS
      refine (kept0_c w0 w1 g ({ p4 with c0 := { p4.c0 with st := 4, hold := min p4.hold m.hold, id := m.id } } : PeL) ((t.conf4 0 m.hold m.id).alive 0) E04 E14 (E102 ++ (EJ ++ (KJ ++ (KF ++ (.row g5 m.cells :: L))))) d5 hA6 (by rw [alive_now]; exact hS)).mono ?_
      rintro e w' ⟨d6, rfl, hA7, hS'⟩
      refine ⟨_, _, rfl, hS', ?_⟩
      refine zR <| zM rfl <| zA rfl <| zN <| cE <| tR Tryz.results88 rfl <| ?_
      have e1 : t.confirm 0 m.hold m.id = ((t.conf4 0 m.hold m.id).alive 0).kept 0 := if_neg (by rw [← hth]; exact h107)
      rw [e0, e1]
      refine fun w' h => ⟨ad102, c102, fs ++ ks, E102, KJ ++ KF, ({ p4 with c0 := { p4.c0 with st := 4, hold := min p4.hold m.hold, id := m.id } } : PeL), E04, E14, d6, rfl, ⟨hV102, fun e he => ?_⟩, by rw [List.map_append, hek], hA7, ?_⟩
      · rcases List.mem_append.1 he with he | he
        · exact (hV4.2 e he).mono fun x hx => List.mem_append_right _ hx
        · exact (hV6.2 e he).mono fun x hx => List.mem_append_left _ hx
      · rw [kept_now]
        exact h.dropK (EJ ++ [.row g5 m.cells]) 
set_option maxHeartbeats 2000000 in
theorem open1_c (w0 w : World) (g : Nat) (p : PeL) (s : Se) (E0 E1 L : List Ent) (d : Ck) (hA : PeAt g p s E0 E1 d) (hG : GF w0) (hS0 : St (fun _ => False) w0 w (.row g p.cells :: (E0 ++ (E1 ++ d.L p.gC s.now L)))) (m : MsL) (hI : U32 m.id) (hmh : 0 ≤ m.hold) :
    Calls Tryz.prog 88 #[.pointer (some ⟨g, 0, none⟩), .int .i64 1, .agg m.cells.toArray] w fun e w' => EffC w0 w' g (openS s 1 m.asn m.hold m.id).2 (openS s 1 m.asn m.hold m.id).1 L e := by
  have het : p.their = s.their := (congrArg Se.their hA.eq :)
  have hei : p.id = s.id := (congrArg Se.id hA.eq :)
  have hc : p.c0.m = s.c0 := (congrArg Se.c0 hA.eq :)
  have hst : p.c0.st = (s.c 0).st := (congrArg CnM.st hc :)
  refine enter Tryz.func88 rfl Tryz.ntmps88 rfl hS0 ?_
  refine cR <| WL.box rfl rfl rfl (.none rfl) rfl rfl <| ?_
  intro g5 hg5
  refine WL.to (L' := .row g p.cells :: (E0 ++ (E1 ++ d.L p.gC s.now (.row g5 m.cells :: L)))) (fun w hS => hS.permK ) <| zA rfl <| zR <| zM rfl <| ?_
  refine zV (v_sub rfl rfl rfl (show _ = (0 : Int) from w_i64 (by decide) (by decide))) rfl ?_
  refine zA rfl <| zN <| cS <| cB <| cS <| cQ mixed <| qV (v_fieldAddr0 rfl rfl fld_39_1) rfl <| qV (v_load1 rfl rfl one_3 (cellAt rfl)) rfl <| qV (v_move rfl rfl) rfl <| qV (v_nilCheck rfl rfl) rfl <| qV (v_fieldAddr0 rfl rfl fld_106_0) rfl <| qV (v_fieldAddr0 rfl rfl fld_44_2) rfl <| qV (v_load1 rfl rfl one_3 (cellAt rfl)) rfl <| ?_
  refine qT (v_neq rfl rfl rfl) rfl (fun h21 => ?_) (fun h21 => ?_)
  refine qV (v_assign rfl rfl) rfl <| WQ.nil <| eN <| cT rfl <| cR <| zM rfl <| zM rfl <| zK ck_63 rfl <| ?_
  intro w1 hS
  refine (fault1_c w0 w1 g p s E0 E1 (.row g5 m.cells :: L) d hA hG hS 2 2 ⟨by decide, by decide⟩ ⟨by decide, by decide⟩).mono ?_
  rintro e w' ⟨ad2, c2, gs, EG, KG, p2, E02, E12, d2, rfl, hV2, heg, hA2, hS'⟩
  refine ⟨_, _, rfl, hS', ?_⟩
  refine zA rfl <| zN <| cE <| eB <| eR <| tR Tryz.results88 rfl <| ?_
  have e0 : openS s 1 m.asn m.hold m.id = (s.gone 1, endE s 1 2 2 ⟨#[]⟩) := (by unfold openS; rw [if_pos (by rw [← het]; exact h21)])
  rw [e0]
  exact fun w' h => ⟨ad2, c2, gs, EG, KG, p2, E02, E12, d2, rfl, hV2, heg, hA2, h.dropK [.row g5 m.cells] ⟩
  ·
   refine qV (v_assign rfl rfl) rfl <| WQ.nil <| eN <| cF rfl <| cS <| cQ mixed <| qV (v_fieldAddr0 rfl rfl fld_39_3) rfl <| qV (v_load1 rfl rfl one_23 (cellAt rfl)) rfl <| qV (v_move rfl rfl) rfl <| qV (v_nilCheck rfl rfl) rfl <| qV (v_fieldAddr0 rfl rfl fld_106_0) rfl <| qV (v_fieldAddr0 rfl rfl fld_44_1) rfl <| qV (v_load1 rfl rfl one_23 (cellAt rfl)) rfl <| ?_
   refine qT (v_eql rfl rfl rfl) rfl (fun h33 => ?_) (fun h33 => ?_)
   refine qV (v_assign rfl rfl) rfl <| WQ.nil <| eN <| cT rfl <| cR <| zM rfl <| zM rfl <| zK ck_63 rfl <| ?_
   intro w1 hS
   refine (fault1_c w0 w1 g p s E0 E1 (.row g5 m.cells :: L) d hA hG hS 2 3 ⟨by decide, by decide⟩ ⟨by decide, by decide⟩).mono ?_
   rintro e w' ⟨ad2, c2, gs, EG, KG, p2, E02, E12, d2, rfl, hV2, heg, hA2, hS'⟩
   refine ⟨_, _, rfl, hS', ?_⟩
   refine zA rfl <| zN <| cE <| eB <| eR <| tR Tryz.results88 rfl <| ?_
   have e0 : openS s 1 m.asn m.hold m.id = (s.gone 1, endE s 1 2 3 ⟨#[]⟩) := (by unfold openS; rw [if_neg (by rw [← het]; exact h21), if_pos (by rw [← hei]; exact h33)])
   rw [e0]
   exact fun w' h => ⟨ad2, c2, gs, EG, KG, p2, E02, E12, d2, rfl, hV2, heg, hA2, h.dropK [.row g5 m.cells] ⟩
   ·
    refine qV (v_assign rfl rfl) rfl <| WQ.nil <| eN <| cF rfl <| cR <| zM rfl <| zM rfl <| zC rfl <| zF rfl fld_106_3 <| ?_
    refine zV (v_indexAddrA (lo := 0) rfl rfl rfl Tryz.underlying104 sz_103 (by omega) (by omega)) rfl ?_
    refine zV (v_fieldAddr rfl rfl fld_103_0) rfl <| zV (v_load1 rfl rfl one_3 (cellAt (v := .int .i64 p.c0.st) rfl)) rfl <| ?_
    refine zT (v_eql rfl rfl rfl) rfl (fun h45 => ?_) (fun h45 => ?_)
    refine zA rfl <| zN <| cT rfl <| cR <| zM rfl <| zM rfl <| zK ck_63 rfl <| ?_
    intro w1 hS
    refine (fault1_c w0 w1 g p s E0 E1 (.row g5 m.cells :: L) d hA hG hS 6 7 ⟨by decide, by decide⟩ ⟨by decide, by decide⟩).mono ?_
    rintro e w' ⟨ad2, c2, gs, EG, KG, p2, E02, E12, d2, rfl, hV2, heg, hA2, hS'⟩
    refine ⟨_, _, rfl, hS', ?_⟩
    refine zA rfl <| zN <| cE <| eB <| eR <| tR Tryz.results88 rfl <| ?_
    have e0 : openS s 1 m.asn m.hold m.id = (s.gone 1, endE s 1 6 7 ⟨#[]⟩) := (by unfold openS; rw [if_neg (by rw [← het]; exact h21), if_neg (by rw [← hei]; exact h33), if_pos (hst.symm.trans h45)])
    rw [e0]
    exact fun w' h => ⟨ad2, c2, gs, EG, KG, p2, E02, E12, d2, rfl, hV2, heg, hA2, h.dropK [.row g5 m.cells] ⟩
    ·
     refine zA rfl <| zN <| cF rfl <| cK <| eY <| eN <| cR <| zA rfl <| zN <| ?_
     refine WC.cut (fun y : PS × Se => [(8, .slice y.1.ad y.1.fs.length y.1.c), (5, .pointer (some ⟨g5, 0, none⟩)), (1, .int .i64 1), (0, .pointer (some ⟨g, 0, none⟩))]) (fun y => y.1.L g s.now (.row g5 m.cells :: L)) (fun y => PeAt g y.1.p y.2 y.1.E0 y.1.E1 y.1.d ∧ y.2.now = s.now ∧ EfsV y.1.ad y.1.c y.1.fs y.1.E y.1.K ∧ y.1.fs.length ≤ 3 ∧ openS s 1 m.asn m.hold m.id = (y.2.confirm 1 m.hold m.id, y.1.fs.map EfL.d ++ sendE 1 (MsL.zero 4))) ?_ ?_
     refine cR <| zM rfl <| zM rfl <| zC rfl <| zF rfl fld_106_3 <| ?_
     refine zV (v_indexAddrA (lo := 0) rfl rfl rfl Tryz.underlying104 sz_103 (by omega) (by omega)) rfl ?_
     refine zV (v_fieldAddr rfl rfl fld_103_0) rfl <| zV (v_load1 rfl rfl one_3 (cellAt (v := .int .i64 p.c0.st) rfl)) rfl <| ?_
     refine zT (v_eql rfl rfl rfl) rfl (fun h56 => ?_) (fun h56 => ?_)
     refine zN <| cT rfl <| cR <| zA rfl <| zN <| cS <| cS <| cQ mixed <| qV (v_move rfl rfl) rfl <| qV (v_nilCheck rfl rfl) rfl <| qV (v_fieldAddr0 rfl rfl fld_106_0) rfl <| qV (v_fieldAddr0 rfl rfl fld_44_1) rfl <| qV (v_load1 rfl rfl one_23 (cellAt rfl)) rfl <| ?_
     refine qV (v_fieldAddr0 rfl rfl fld_39_3) rfl <| qV (v_load1 rfl rfl one_23 (cellAt rfl)) rfl <| ?_
     refine qT (v_lss rfl rfl rfl) rfl (fun h64 => ?_) (fun h64 => ?_)
     refine WQ.nil <| eN <| cT rfl <| WC.region <| zA rfl <| zN <| cS <| cR <| zM rfl <| zM rfl <| ?_
     refine zT (v_neq rfl rfl rfl) rfl (fun h67 => ?_) (fun h67 => ?_)
     refine zN <| cT rfl <| cR <| zM rfl <| zM rfl <| zK ck_63 rfl <| ?_
     intro w1 hS
     refine (fault1_c w0 w1 g p s E0 E1 (.row g5 m.cells :: L) d hA hG hS 6 7 ⟨by decide, by decide⟩ ⟨by decide, by decide⟩).mono ?_
     rintro e w' ⟨ad2, c2, gs, EG, KG, p2, E02, E12, d2, rfl, hV2, heg, hA2, hS'⟩
     refine ⟨_, _, rfl, hS', ?_⟩
     refine zA rfl <| zN <| cE <| eR <| eR <| tR Tryz.results88 rfl <| ?_
     have e0 : openS s 1 m.asn m.hold m.id = (s.gone 1, endE s 1 6 7 ⟨#[]⟩) := (by unfold openS; rw [if_neg (by rw [← het]; exact h21), if_neg (by rw [← hei]; exact h33), if_neg (fun hh => h45 (hst.trans hh)), if_pos (hst.symm.trans h56), if_pos (by split <;> omega)])
     rw [e0]
     exact fun w' h => ⟨ad2, c2, gs, EG, KG, p2, E02, E12, d2, rfl, hV2, heg, hA2, h.dropK [.row g5 m.cells] ⟩
     refine zN <| cF rfl <| cK <| eN <| WC.region <| zM rfl <| zM rfl <| zK ck_63 rfl <| ?_
     intro w1 hS
     refine (fault0_c w0 w1 g p s E0 E1 (.row g5 m.cells :: L) d hA hG hS 6 7 ⟨by decide, by decide⟩ ⟨by decide, by decide⟩).mono ?_
     rintro e w' ⟨ad3, c3, gs, EG, KG, p3, E03, E13, d3, rfl, hV3, heg, hA3, hS'⟩
     refine ⟨_, _, rfl, hS', ?_⟩
     refine zA rfl <| WL.nil <| ?_
     have e0 : openS s 1 m.asn m.hold m.id = ((s.gone 0).confirm 1 m.hold m.id, endE s 0 6 7 ⟨#[]⟩ ++ sendE 1 (MsL.zero 4)) := (by unfold openS; rw [if_neg (by rw [← het]; exact h21), if_neg (by rw [← hei]; exact h33), if_neg (fun hh => h45 (hst.trans hh)), if_pos (hst.symm.trans h56), if_neg (by split <;> omega)]; rfl)
     have hgl := efs_len heg
     have hgb := endE_len s 0 6 7 ⟨#[]⟩
     refine WE.mid (⟨p3, E03, E13, d3, ad3, c3, gs, EG, KG⟩, s.gone 0) ⟨hA3, gone_now _ _, hV3, by dsimp only; omega, by dsimp only; rw [e0, heg]⟩ (.cons rfl (.cons rfl (.cons rfl (.cons rfl .nil)))) ?_
     unfold PS.L; dsimp only; rw [gone_now]; exact .refl _
     refine WQ.nil <| eN <| cF rfl <| cK <| eN <| cS <| cR <| zM rfl <| zM rfl <| ?_
     refine zT (v_neq rfl rfl rfl) rfl (fun h67 => ?_) (fun h67 => ?_)
     refine zN <| cT rfl <| cR <| zM rfl <| zM rfl <| zK ck_63 rfl <| ?_
     intro w1 hS
     refine (fault1_c w0 w1 g p s E0 E1 (.row g5 m.cells :: L) d hA hG hS 6 7 ⟨by decide, by decide⟩ ⟨by decide, by decide⟩).mono ?_
     rintro e w' ⟨ad2, c2, gs, EG, KG, p2, E02, E12, d2, rfl, hV2, heg, hA2, hS'⟩
     refine ⟨_, _, rfl, hS', ?_⟩
     refine zA rfl <| zN <| cE <| eR <| eR <| tR Tryz.results88 rfl <| ?_
     have e0 : openS s 1 m.asn m.hold m.id = (s.gone 1, endE s 1 6 7 ⟨#[]⟩) := (by unfold openS; rw [if_neg (by rw [← het]; exact h21), if_neg (by rw [← hei]; exact h33), if_neg (fun hh => h45 (hst.trans hh)), if_pos (hst.symm.trans h56), if_pos (by split <;> omega)])
     rw [e0]
     exact fun w' h => ⟨ad2, c2, gs, EG, KG, p2, E02, E12, d2, rfl, hV2, heg, hA2, h.dropK [.row g5 m.cells] ⟩
     refine zN <| cF rfl <| cK <| eN <| WC.region <| zM rfl <| zM rfl <| zK ck_63 rfl <| ?_
     intro w1 hS
     refine (fault0_c w0 w1 g p s E0 E1 (.row g5 m.cells :: L) d hA hG hS 6 7 ⟨by decide, by decide⟩ ⟨by decide, by decide⟩).mono ?_
     rintro e w' ⟨ad3, c3, gs, EG, KG, p3, E03, E13, d3, rfl, hV3, heg, hA3, hS'⟩
     refine ⟨_, _, rfl, hS', ?_⟩
     refine zA rfl <| WL.nil <| ?_
     have e0 : openS s 1 m.asn m.hold m.id = ((s.gone 0).confirm 1 m.hold m.id, endE s 0 6 7 ⟨#[]⟩ ++ sendE 1 (MsL.zero 4)) := (by unfold openS; rw [if_neg (by rw [← het]; exact h21), if_neg (by rw [← hei]; exact h33), if_neg (fun hh => h45 (hst.trans hh)), if_pos (hst.symm.trans h56), if_neg (by split <;> omega)]; rfl)
     have hgl := efs_len heg
     have hgb := endE_len s 0 6 7 ⟨#[]⟩
     refine WE.mid (⟨p3, E03, E13, d3, ad3, c3, gs, EG, KG⟩, s.gone 0) ⟨hA3, gone_now _ _, hV3, by dsimp only; omega, by dsimp only; rw [e0, heg]⟩ (.cons rfl (.cons rfl (.cons rfl (.cons rfl .nil)))) ?_
     unfold PS.L; dsimp only; rw [gone_now]; exact .refl _
     refine zN <| cF rfl <| cK <| ?_
     have e0 : openS s 1 m.asn m.hold m.id = (s.confirm 1 m.hold m.id, [] ++ sendE 1 (MsL.zero 4)) := (by unfold openS; rw [if_neg (by rw [← het]; exact h21), if_neg (by rw [← hei]; exact h33), if_neg (fun hh => h45 (hst.trans hh)), if_neg (fun hh => h56 (hst.trans hh))]; rfl)
     exact WE.mid (⟨p, E0, E1, d, none, 0, [], [], []⟩, s) ⟨hA, rfl, ⟨Vec.nil 23, fun e he => by cases he⟩, Nat.zero_le _, e0⟩ (.cons rfl (.cons rfl (.cons rfl (.cons rfl .nil)))) (.refl _)
     ·
      rintro ⟨⟨p4, E04, E14, d4, ad4, c4, fs, EF, KF⟩, t⟩ ⟨hA4, hnt, hV4, hfl, e0⟩
      dsimp only at hA4 hnt hV4 hfl e0
      unfold PS.L
      dsimp only
      have hth : p4.hold = t.hold := (congrArg Se.hold hA4.eq :)
      have hhb := hA4.ok.2.1
      have hD5 := hA4.ok.2.2.2.2.1
      refine cR <| zM rfl <| zM rfl <| zC rfl <| zF rfl fld_106_3 <| ?_
      refine zV (v_indexAddrA (lo := 1) rfl rfl rfl Tryz.underlying104 sz_103 (by omega) (by omega)) rfl ?_
      refine zA rfl <| zR <| zM rfl <| zC rfl <| zV (v_fieldAddr rfl rfl fld_103_0) rfl <| zO one_3 rfl rfl <| WL.as (L' := EF ++ (KF ++ (.row g ({ p4 with c1 := { p4.c1 with st := 4 } } : PeL).cells :: (E04 ++ (E14 ++ d4.L p4.gC s.now (.row g5 m.cells :: L)))))) rfl <| zR <| zM rfl <| zF rfl fld_39_3 <| ?_
      refine zL rfl one_23 rfl <| zC rfl <| zV (v_fieldAddr rfl rfl fld_103_3) rfl <| zO one_23 rfl rfl <| WL.as (L' := EF ++ (KF ++ (.row g ({ p4 with c1 := { p4.c1 with st := 4, id := m.id } } : PeL).cells :: (E04 ++ (E14 ++ d4.L p4.gC s.now (.row g5 m.cells :: L)))))) rfl <| zN <| cS <| WC.orders mixed <| rF 6 [0, 1, 2, 3, 4, 6] <| pV (v_move rfl rfl) rfl <| pV (v_move rfl rfl) rfl <| pV (v_nilCheck rfl rfl) rfl <| pV (v_fieldAddr0 rfl rfl fld_106_0) rfl <| pV (v_fieldAddr0 rfl rfl fld_44_3) rfl <| ?_
      refine pV (v_fieldAddr0 rfl rfl fld_39_2) rfl <| WP.nil <| rA 1 [5, 7, 8, 9, 10] rfl <| qV (v_load1 rfl rfl one_3 (cellAt rfl)) rfl <| qV (v_load1 rfl rfl one_3 (cellAt rfl)) rfl <| qV (v_min rfl rfl rfl) rfl <| qV (v_nilCheck rfl rfl) rfl <| qV (v_fieldAddr rfl rfl fld_103_2) rfl <| WQ.nilR <| rO 0 [11] <| zO one_3 rfl rfl <| WL.as (L' := EF ++ (KF ++ (.row g ({ p4 with c1 := { p4.c1 with st := 4, hold := min p4.hold m.hold, id := m.id } } : PeL).cells :: (E04 ++ (E14 ++ d4.L p4.gC s.now (.row g5 m.cells :: L)))))) rfl <| ?_
      have hA5 : PeAt g ({ p4 with c1 := { p4.c1 with st := 4, hold := min p4.hold m.hold, id := m.id } } : PeL) (t.conf4 1 m.hold m.id) E04 E14 d4 := (by
        refine ⟨?_, hA4.ok, ?_, ?_, hA4.v0, hA4.v1, hA4.b0, hA4.b1, hA4.bag⟩
        · exact (congrArg (fun z : Se => z.conf4 1 m.hold m.id) hA4.eq :)
        all_goals first | exact hA4.ok0 | exact hA4.ok1 | exact ⟨.inr ⟨show (3 : Int) ≤ 4 by decide, show (4 : Int) ≤ 5 by decide⟩, hA4.ok0.2.1, hA4.ok0.2.2.1, (by show 0 ≤ min t.hold m.hold ∧ min t.hold m.hold ≤ 65535; omega), hI⟩ | exact ⟨.inr ⟨show (3 : Int) ≤ 4 by decide, show (4 : Int) ≤ 5 by decide⟩, hA4.ok1.2.1, hA4.ok1.2.2.1, (by show 0 ≤ min t.hold m.hold ∧ min t.hold m.hold ≤ 65535; omega), hI⟩)
      refine zH <| rD <| eN <| cR <| zM rfl <| zM rfl <| zV (v_build rfl rfl zero_39 plc_39 rfl) rfl <| zK ck_54 rfl <| ?_
      intro w1 hS
      refine (send_c w1 1 (MsL.zero 4) (zero4_at _) (zeroM_in ⟨by decide, by decide⟩) (hG.keep (fun h => h) hS) (Nat.zero_le _) (Nat.zero_le _)).mono ?_
      rintro e w' ⟨ad6, c6, ks, EJ, KJ, rfl, hV6, hek, hS'⟩
      have hkl := efs_len hek
      have hkb := sendE_len 1 (MsL.zero 4)
      refine ⟨_, EF ++ (EJ ++ (KJ ++ (KF ++ (.row g ({ p4 with c1 := { p4.c1 with st := 4, hold := min p4.hold m.hold, id := m.id } } : PeL).cells :: (E04 ++ (E14 ++ d4.L p4.gC s.now (.row g5 m.cells :: L))))))), rfl, (hS.join hS').permK , ?_⟩
      refine WL.appendL rfl rfl rfl Tryz.underlying46 Tryz.underlying46 sz_54 by_54 zero_54 rfl rfl hV4.1 (new := efsL ks) (hV6.1.src (fun e he => List.mem_append_right _ (List.mem_append_left _ he)) |> fun f h => (f (by rw [efsL_len]; omega)).elim fun b1 h1 => h1.elim fun o1 h2 => ⟨b1, o1, h2.1, fun w hS => h2.2 _ _ w hS⟩) (efsL_len ks) (efsL_one ks) (by omega) (.none rfl) rfl rfl ?_
      intro ad102 c102 E102 hV102 hr102
      rw [efsL_app] at hV102
      rw [show fs.length + ks.length = (fs ++ ks).length by rw [List.length_append]] at hV102 ⊢
      refine zA rfl <| zN <| cS <| cR <| zM rfl <| zC rfl <| zV (v_fieldAddr rfl rfl fld_103_2) rfl <| zL rfl one_3 rfl <| ?_
      refine zT (v_eql rfl rfl rfl) rfl (fun h107 => ?_) (fun h107 => ?_)
      refine zN <| cT rfl <| cR <| zM rfl <| zC rfl <| zF rfl fld_106_1 <| zL rfl one_98 rfl <| zM rfl <| ?_
      refine zV (v_add rfl rfl rfl (show _ = (2 : Int) from w_i64 (by decide) (by decide))) rfl ?_
      refine zK ck_52 rfl ?_
      intro w1 hS
      refine (Stop_d (gC := p4.gC) (now := s.now) (R := E102 ++ (EJ ++ (KJ ++ (KF ++ (.row g ({ p4 with c1 := { p4.c1 with st := 4, hold := min p4.hold m.hold, id := m.id } } : PeL).cells :: (E04 ++ (E14 ++ (.row g5 m.cells :: L)))))))) (hS.permK ) hA4.bag 2 (by omega)).mono ?_
      rintro e w' ⟨b5, d5, rfl, hb5, hS'⟩
      refine ⟨_, d5.L p4.gC s.now (E102 ++ (EJ ++ (KJ ++ (KF ++ (.row g ({ p4 with c1 := { p4.c1 with st := 4, hold := min p4.hold m.hold, id := m.id } } : PeL).cells :: (E04 ++ (E14 ++ (.row g5 m.cells :: L)))))))), rfl, hS', ?_⟩
      refine zR <| zM rfl <| zC rfl <| zF rfl fld_106_1 <| zL rfl one_98 rfl <| zM rfl <| ?_
      refine zV (v_add rfl rfl rfl (show _ = (4 : Int) from w_i64 (by decide) (by decide))) rfl ?_
      refine zK ck_52 rfl ?_
      intro w1 hS
      refine (Stop_d (gC := p4.gC) (now := s.now) (R := E102 ++ (EJ ++ (KJ ++ (KF ++ (.row g ({ p4 with c1 := { p4.c1 with st := 4, hold := min p4.hold m.hold, id := m.id } } : PeL).cells :: (E04 ++ (E14 ++ (.row g5 m.cells :: L)))))))) hS hb5 4 (by rw [List.length_set]; omega)).mono ?_
      rintro e w' ⟨b6, d6, rfl, hb6, hS'⟩
      refine ⟨_, d6.L p4.gC s.now (E102 ++ (EJ ++ (KJ ++ (KF ++ (.row g ({ p4 with c1 := { p4.c1 with st := 4, hold := min p4.hold m.hold, id := m.id } } : PeL).cells :: (E04 ++ (E14 ++ (.row g5 m.cells :: L)))))))), rfl, hS', ?_⟩
      refine zR <| zM rfl <| zA rfl <| zN <| cE <| eR <| tR Tryz.results88 rfl <| ?_
      have e1 : t.confirm 1 m.hold m.id = { t.conf4 1 m.hold m.id with D := (t.D.set 2 (-1)).set 4 (-1) } := if_pos (by rw [← hth]; exact h107)
      rw [e0, e1]
      refine fun w' h => ⟨ad102, c102, fs ++ ks, E102, KJ ++ KF, ({ p4 with c1 := { p4.c1 with st := 4, hold := min p4.hold m.hold, id := m.id } } : PeL), E04, E14, d6, rfl, ⟨hV102, fun e he => ?_⟩, by rw [List.map_append, hek], ⟨?_, ⟨hA5.ok.1, hA5.ok.2.1, hA5.ok.2.2.1, hA5.ok.2.2.2.1, ?_, fun y hy => ?_, hA5.ok.2.2.2.2.2.2⟩, hA5.ok0, hA5.ok1, hA5.v0, hA5.v1, hA5.b0, hA5.b1, hb6⟩, ?_⟩
      · rcases List.mem_append.1 he with he | he
        · exact (hV4.2 e he).mono fun x hx => List.mem_append_right _ hx
        · exact (hV6.2 e he).mono fun x hx => List.mem_append_left _ hx
      · exact (congrArg (fun z : Se => { z with D := (t.D.set 2 (-1)).set 4 (-1) }) hA5.eq :)
      · exact ((List.length_set ..).trans (List.length_set ..)).trans hD5
      · rcases List.mem_or_eq_of_mem_set hy with hy | hy
        · rcases List.mem_or_eq_of_mem_set hy with hy | hy
          · exact hA5.ok.2.2.2.2.2.1 y hy
          · exact .inl hy
        · exact .inl hy
      · have en : (t.conf4 1 m.hold m.id).now = s.now := (set_now _ _ _).trans hnt
        show St _ _ _ (_ ++ (_ ++ (_ :: (_ ++ (_ ++ d6.L p4.gC (t.conf4 1 m.hold m.id).now L)))))
        rw [en]
        exact h.dropK (EJ ++ [.row g5 m.cells]) 
      refine zN <| cF rfl <| cK <| eN <| cR <| zM rfl <| zM rfl <| zK ck_90 rfl <| ?_
      intro w1 hS
      refine (alive1_c w0 w1 g ({ p4 with c1 := { p4.c1 with st := 4, hold := min p4.hold m.hold, id := m.id } } : PeL) (t.conf4 1 m.hold m.id) E04 E14 (E102 ++ (EJ ++ (KJ ++ (KF ++ (.row g5 m.cells :: L))))) d4 hA5 (by rw [show (t.conf4 1 m.hold m.id).now = s.now from (set_now _ _ _).trans hnt]; exact hS.permK )).mono ?_
      rintro e w' ⟨d5, rfl, hA6, hS'⟩
      refine ⟨_, _, rfl, hS', ?_⟩
      refine zR <| zM rfl <| zM rfl <| zK ck_64 rfl <| ?_
      intro w1 hS
      refine (kept1_c w0 w1 g ({ p4 with c1 := { p4.c1 with st := 4, hold := min p4.hold m.hold, id := m.id } } : PeL) ((t.conf4 1 m.hold m.id).alive 1) E04 E14 (E102 ++ (EJ ++ (KJ ++ (KF ++ (.row g5 m.cells :: L))))) d5 hA6 (by rw [alive_now]; exact hS)).mono ?_
      rintro e w' ⟨d6, rfl, hA7, hS'⟩
      refine ⟨_, _, rfl, hS', ?_⟩
      refine zR <| zM rfl <| zA rfl <| zN <| cE <| tR Tryz.results88 rfl <| ?_
      have e1 : t.confirm 1 m.hold m.id = ((t.conf4 1 m.hold m.id).alive 1).kept 1 := if_neg (by rw [← hth]; exact h107)
      rw [e0, e1]
      refine fun w' h => ⟨ad102, c102, fs ++ ks, E102, KJ ++ KF, ({ p4 with c1 := { p4.c1 with st := 4, hold := min p4.hold m.hold, id := m.id } } : PeL), E04, E14, d6, rfl, ⟨hV102, fun e he => ?_⟩, by rw [List.map_append, hek], hA7, ?_⟩
      · rcases List.mem_append.1 he with he | he
        · exact (hV4.2 e he).mono fun x hx => List.mem_append_right _ hx
        · exact (hV6.2 e he).mono fun x hx => List.mem_append_left _ hx
      · rw [kept_now]
        exact h.dropK (EJ ++ [.row g5 m.cells]) 

def hearS (s : Se) (n : Nat) (m : MsL) : Se × List EfD :=
  if m.kind = 3 then (s.gone n, closeE s n)
  else if m.kind = 1 ∧ (s.c n).st = 3 then openS s n m.asn m.hold m.id
  else if m.kind = 4 ∧ (s.c n).st = 4 then (s.establish n, estabE s n)
  else if m.kind = 4 ∧ (s.c n).st = 5 then (s.alive n, [])
  else if m.kind = 2 ∧ (s.c n).st = 5 then (s.alive n, [⟨6, n, [], m.d⟩])
  else (s.gone n, endE s n 5 ((s.c n).st - 2) ⟨#[]⟩)
set_option maxHeartbeats 2000000 in
theorem hear0_c (w0 w : World) (g : Nat) (p : PeL) (s : Se) (E0 E1 L : List Ent) (d : Ck) (hA : PeAt g p s E0 E1 d) (hG : GF w0) (hS0 : St (fun _ => False) w0 w (.row g p.cells :: (E0 ++ (E1 ++ d.L p.gC s.now L)))) (m : MsL) (hI : U32 m.id) (hmh : 0 ≤ m.hold) :
    Calls Tryz.prog 56 #[.pointer (some ⟨g, 0, none⟩), .int .i64 0, .agg m.cells.toArray] w fun e w' => EffC w0 w' g (hearS s 0 m).2 (hearS s 0 m).1 L e := by
  have hc : p.c0.m = s.c0 := (congrArg Se.c0 hA.eq :)
  have hst : p.c0.st = (s.c 0).st := (congrArg CnM.st hc :)
  have hstb := hA.ok0.1
  rw [show s.c0.st = (s.c 0).st from rfl, ← hst] at hstb
  refine enter Tryz.func56 rfl Tryz.ntmps56 rfl hS0 ?_
  refine cR <| WL.box rfl rfl rfl (.none rfl) rfl rfl <| ?_
  intro g5 hg5
  refine WL.to (L' := .row g p.cells :: (E0 ++ (E1 ++ d.L p.gC s.now (.row g5 m.cells :: L)))) (fun w hS => hS.permK ) <| zA rfl <| zR <| zM rfl <| zM rfl <| zC rfl <| zF rfl fld_106_3 <| ?_
  refine zV (v_indexAddrA (lo := 0) rfl rfl rfl Tryz.underlying104 sz_103 (by omega) (by omega)) rfl ?_
  refine zV (v_fieldAddr rfl rfl fld_103_0) rfl <| zV (v_load1 rfl rfl one_3 (cellAt (v := .int .i64 p.c0.st) rfl)) rfl <| zA rfl <| zN <| cS <| cB <| cR <| zF rfl fld_39_0 <| zL rfl one_3 rfl <| ?_
  refine zT (v_eql rfl rfl rfl) rfl (fun h18 => ?_) (fun h18 => ?_)
  refine zA rfl <| zN <| cT rfl <| cR <| zM rfl <| zM rfl <| zK ck_87 rfl <| ?_
  intro w1 hS
  refine (close0_c w0 w1 g p s E0 E1 (.row g5 m.cells :: L) d hA hS).mono ?_
  rintro e w' ⟨ad2, c2, gs, EG, KG, p2, E02, E12, d2, rfl, hV2, heg, hA2, hS'⟩
  refine ⟨_, _, rfl, hS', ?_⟩
  refine zA rfl <| zN <| cE <| eB <| eR <| tR Tryz.results56 rfl <| ?_
  have e0 : hearS s 0 m = (s.gone 0, closeE s 0) := (by unfold hearS; exact if_pos h18)
  rw [e0]
  exact fun w' h => ⟨ad2, c2, gs, EG, KG, p2, E02, E12, d2, rfl, hV2, heg, hA2, h.dropK [.row g5 m.cells] ⟩
  refine zA rfl <| zN <| cF rfl <| cR <| zF rfl fld_39_0 <| zL rfl one_3 rfl <| ?_
  refine zT (v_eql rfl rfl rfl) rfl (fun h25 => ?_) (fun h25 => ?_)
  refine zM rfl <| zS (v_move rfl rfl) rfl <| ?_
  refine WL.test (v_eql rfl rfl rfl) (.some rfl rfl rfl) rfl rfl (fun h28 => ?_) (fun h28 => ?_)
  refine zP rfl <| zA rfl <| zN <| cT rfl <| cR <| zM rfl <| zM rfl <| zV (v_loadN rfl rfl many_39 rfl allAt) rfl <| zK ck_88 rfl <| ?_
  intro w1 hS
  refine (open0_c w0 w1 g p s E0 E1 (.row g5 m.cells :: L) d hA hG hS m hI hmh).mono ?_
  rintro e w' ⟨ad2, c2, gs, EG, KG, p2, E02, E12, d2, rfl, hV2, heg, hA2, hS'⟩
  refine ⟨_, _, rfl, hS', ?_⟩
  refine zA rfl <| zN <| cE <| eB <| eR <| tR Tryz.results56 rfl <| ?_
  have e0 : hearS s 0 m = openS s 0 m.asn m.hold m.id := (by unfold hearS; rw [if_neg h18, if_pos (by rw [← hst]; omega)])
  rw [e0]
  exact fun w' h => ⟨ad2, c2, gs, EG, KG, p2, E02, E12, d2, rfl, hV2, heg, hA2, h.dropK [.row g5 m.cells] ⟩
  refine zP rfl <| zA rfl <| zN <| cF rfl <| cR <| zF rfl fld_39_0 <| zL rfl one_3 rfl <| ?_
  refine zV ((v_eql rfl rfl rfl).f ((by omega))) rfl ?_
  refine zM rfl ?_
  iterate 2 refine WL.sk rfl ?_
  refine zQ rfl <| zA rfl <| zN <| cF rfl <| cR <| zF rfl fld_39_0 <| zL rfl one_3 rfl <| ?_
  refine zV ((v_eql rfl rfl rfl).f ((by omega))) rfl ?_
  refine zM rfl ?_
  iterate 2 refine WL.sk rfl ?_
  refine zQ rfl <| zA rfl <| zN <| cF rfl <| cR <| zF rfl fld_39_0 <| zL rfl one_3 rfl <| ?_
  refine zV ((v_eql rfl rfl rfl).f ((by omega))) rfl ?_
  refine zM rfl ?_
  iterate 2 refine WL.sk rfl ?_
  refine zQ rfl <| zA rfl <| zN <| cF rfl <| cK <| eY <| eN <| cR <| zM rfl <| zM rfl <| zM rfl <| ?_
  refine zV (v_sub rfl rfl rfl (show _ = p.c0.st - 3 from w_i64 (by omega) (by omega))) rfl ?_
  refine zV (v_add rfl rfl rfl (show _ = p.c0.st - 2 from (w_i64 (by omega) (by omega)).trans (by omega))) rfl ?_
  refine zK ck_63 rfl ?_
  intro w1 hS
  refine (fault0_c w0 w1 g p s E0 E1 (.row g5 m.cells :: L) d hA hG hS 5 (p.c0.st - 2) ⟨by decide, by decide⟩ ⟨by omega, by omega⟩).mono ?_
  rintro e w' ⟨ad2, c2, gs, EG, KG, p2, E02, E12, d2, rfl, hV2, heg, hA2, hS'⟩
  refine ⟨_, _, rfl, hS', ?_⟩
  refine zA rfl <| zN <| cE <| tR Tryz.results56 rfl <| ?_
  have e0 : hearS s 0 m = (s.gone 0, endE s 0 5 (p.c0.st - 2) ⟨#[]⟩) := (by unfold hearS; rw [if_neg h18, if_neg (by rw [← hst]; omega), if_neg (by rw [← hst]; omega), if_neg (by rw [← hst]; omega), if_neg (by rw [← hst]; omega), hst])
  rw [e0]
  exact fun w' h => ⟨ad2, c2, gs, EG, KG, p2, E02, E12, d2, rfl, hV2, heg, hA2, h.dropK [.row g5 m.cells] ⟩
  refine zM rfl ?_
  iterate 2 refine WL.sk rfl ?_
  refine zQ rfl <| zA rfl <| zN <| cF rfl <| cR <| zF rfl fld_39_0 <| zL rfl one_3 rfl <| ?_
  refine zT (v_eql rfl rfl rfl) rfl (fun h37 => ?_) (fun h37 => ?_)
  refine zM rfl <| zS (v_move rfl rfl) rfl <| ?_
  refine WL.test (v_eql rfl rfl rfl) (.some rfl rfl rfl) rfl rfl (fun h40 => ?_) (fun h40 => ?_)
  refine zP rfl <| zA rfl <| zN <| cT rfl <| cR <| zM rfl <| zM rfl <| zK ck_89 rfl <| ?_
  intro w1 hS
  refine (establish0_c w0 w1 g p s E0 E1 (.row g5 m.cells :: L) d hA hG hS).mono ?_
  rintro e w' ⟨ad2, c2, gs, EG, KG, p2, E02, E12, d2, rfl, hV2, heg, hA2, hS'⟩
  refine ⟨_, _, rfl, hS', ?_⟩
  refine zA rfl <| zN <| cE <| eB <| eR <| tR Tryz.results56 rfl <| ?_
  have e0 : hearS s 0 m = (s.establish 0, estabE s 0) := (by unfold hearS; rw [if_neg h18, if_neg (by rw [← hst]; omega), if_pos (by rw [← hst]; omega)])
  rw [e0]
  exact fun w' h => ⟨ad2, c2, gs, EG, KG, p2, E02, E12, d2, rfl, hV2, heg, hA2, h.dropK [.row g5 m.cells] ⟩
  refine zP rfl <| zA rfl <| zN <| cF rfl <| cR <| zF rfl fld_39_0 <| zL rfl one_3 rfl <| zV ((v_eql rfl rfl rfl).t (h37)) rfl <| zM rfl <| zS (v_move rfl rfl) rfl <| ?_
  refine WL.test (v_eql rfl rfl rfl) (.some rfl rfl rfl) rfl rfl (fun h51 => ?_) (fun h51 => ?_)
  refine zP rfl <| zA rfl <| zN <| cT rfl <| cR <| zM rfl <| zM rfl <| zK ck_90 rfl <| ?_
  intro w1 hS
  refine (alive0_c w0 w1 g p s E0 E1 (.row g5 m.cells :: L) d hA hS).mono ?_
  rintro e w' ⟨d2, rfl, hA2, hS'⟩
  refine ⟨_, _, rfl, hS', ?_⟩
  refine zR <| zA rfl <| zN <| cE <| eB <| eR <| tR Tryz.results56 rfl <| ?_
  have e0 : hearS s 0 m = (s.alive 0, []) := (by unfold hearS; rw [if_neg h18, if_neg (by rw [← hst]; omega), if_neg (by rw [← hst]; omega), if_pos (by rw [← hst]; omega)])
  rw [e0]
  exact fun w' h => ⟨none, 0, [], [], [], p, E0, E1, d2, rfl, ⟨Vec.nil 23, fun e he => by cases he⟩, rfl, hA2, by rw [alive_now]; exact h.dropK [.row g5 m.cells] ⟩
  refine zP rfl <| zA rfl <| zN <| cF rfl <| cR <| zF rfl fld_39_0 <| zL rfl one_3 rfl <| ?_
  refine zV ((v_eql rfl rfl rfl).f ((by omega))) rfl ?_
  refine zM rfl ?_
  iterate 2 refine WL.sk rfl ?_
  refine zQ rfl <| zA rfl <| zN <| cF rfl <| cK <| eY <| eN <| cR <| zM rfl <| zM rfl <| zM rfl <| ?_
  refine zV (v_sub rfl rfl rfl (show _ = p.c0.st - 3 from w_i64 (by omega) (by omega))) rfl ?_
  refine zV (v_add rfl rfl rfl (show _ = p.c0.st - 2 from (w_i64 (by omega) (by omega)).trans (by omega))) rfl ?_
  refine zK ck_63 rfl ?_
  intro w1 hS
  refine (fault0_c w0 w1 g p s E0 E1 (.row g5 m.cells :: L) d hA hG hS 5 (p.c0.st - 2) ⟨by decide, by decide⟩ ⟨by omega, by omega⟩).mono ?_
  rintro e w' ⟨ad2, c2, gs, EG, KG, p2, E02, E12, d2, rfl, hV2, heg, hA2, hS'⟩
  refine ⟨_, _, rfl, hS', ?_⟩
  refine zA rfl <| zN <| cE <| tR Tryz.results56 rfl <| ?_
  have e0 : hearS s 0 m = (s.gone 0, endE s 0 5 (p.c0.st - 2) ⟨#[]⟩) := (by unfold hearS; rw [if_neg h18, if_neg (by rw [← hst]; omega), if_neg (by rw [← hst]; omega), if_neg (by rw [← hst]; omega), if_neg (by rw [← hst]; omega), hst])
  rw [e0]
  exact fun w' h => ⟨ad2, c2, gs, EG, KG, p2, E02, E12, d2, rfl, hV2, heg, hA2, h.dropK [.row g5 m.cells] ⟩
  refine zM rfl ?_
  iterate 2 refine WL.sk rfl ?_
  refine zQ rfl <| zA rfl <| zN <| cF rfl <| cR <| zF rfl fld_39_0 <| zL rfl one_3 rfl <| zV ((v_eql rfl rfl rfl).f (h37)) rfl <| zM rfl <| ?_
  iterate 2 refine WL.sk rfl ?_
  refine zQ rfl <| zA rfl <| zN <| cF rfl <| cR <| zF rfl fld_39_0 <| zL rfl one_3 rfl <| ?_
  refine zT (v_eql rfl rfl rfl) rfl (fun h59 => ?_) (fun h59 => ?_)
  refine zM rfl <| zS (v_move rfl rfl) rfl <| ?_
  refine WL.test (v_eql rfl rfl rfl) (.some rfl rfl rfl) rfl rfl (fun h62 => ?_) (fun h62 => ?_)
  refine zP rfl <| zA rfl <| zN <| cT rfl <| cR <| zM rfl <| zM rfl <| zK ck_90 rfl <| ?_
  intro w1 hS
  refine (alive0_c w0 w1 g p s E0 E1 (.row g5 m.cells :: L) d hA hS).mono ?_
  rintro e w' ⟨d2, rfl, hA2, hS'⟩
  refine ⟨_, _, rfl, hS', ?_⟩
  refine zR <| zM rfl <| zV (v_loadN rfl rfl many_39 rfl allAt) rfl <| zV (v_build rfl rfl zero_54 plc_54 rfl) rfl <| zB Tryz.underlying46 sz_54 zero_54 rfl rfl <| ?_
  intro g70 hg70
  refine WL.as (L' := .row g70 (EfL.cells ⟨6, 0, none, 0, [], m⟩) :: .row g p.cells :: (E0 ++ (E1 ++ d2.L p.gC s.now (.row g5 m.cells :: L)))) rfl <| zA rfl <| zN <| cE <| eB <| eR <| tR Tryz.results56 rfl <| ?_
  have e0 : hearS s 0 m = (s.alive 0, [⟨6, 0, [], m.d⟩]) := (by unfold hearS; rw [if_neg h18, if_neg (by rw [← hst]; omega), if_neg (by rw [← hst]; omega), if_neg (by rw [← hst]; omega), if_pos (by rw [← hst]; omega)]; rfl)
  rw [e0]
  refine fun w' h => ⟨some ⟨g70, 0, none⟩, 1, [⟨6, 0, none, 0, [], m⟩], [.row g70 (EfL.cells ⟨6, 0, none, 0, [], m⟩)], [], p, E0, E1, d2, rfl, ⟨Vec.row (k := 1) (c := 1) rfl rfl (Nat.le_refl _), fun e he => ?_⟩, rfl, hA2, by rw [alive_now]; exact h.dropK [.row g5 m.cells] ⟩
  obtain rfl := List.mem_singleton.1 he
  exact ⟨⟨[], Vec.nil 1, fun _ h => by cases h⟩⟩
  refine zP rfl <| zA rfl <| zN <| cF rfl <| cK <| eY <| eN <| cR <| zM rfl <| zM rfl <| zM rfl <| ?_
  refine zV (v_sub rfl rfl rfl (show _ = p.c0.st - 3 from w_i64 (by omega) (by omega))) rfl ?_
  refine zV (v_add rfl rfl rfl (show _ = p.c0.st - 2 from (w_i64 (by omega) (by omega)).trans (by omega))) rfl ?_
  refine zK ck_63 rfl ?_
  intro w1 hS
  refine (fault0_c w0 w1 g p s E0 E1 (.row g5 m.cells :: L) d hA hG hS 5 (p.c0.st - 2) ⟨by decide, by decide⟩ ⟨by omega, by omega⟩).mono ?_
  rintro e w' ⟨ad2, c2, gs, EG, KG, p2, E02, E12, d2, rfl, hV2, heg, hA2, hS'⟩
  refine ⟨_, _, rfl, hS', ?_⟩
  refine zA rfl <| zN <| cE <| tR Tryz.results56 rfl <| ?_
  have e0 : hearS s 0 m = (s.gone 0, endE s 0 5 (p.c0.st - 2) ⟨#[]⟩) := (by unfold hearS; rw [if_neg h18, if_neg (by rw [← hst]; omega), if_neg (by rw [← hst]; omega), if_neg (by rw [← hst]; omega), if_neg (by rw [← hst]; omega), hst])
  rw [e0]
  exact fun w' h => ⟨ad2, c2, gs, EG, KG, p2, E02, E12, d2, rfl, hV2, heg, hA2, h.dropK [.row g5 m.cells] ⟩
  refine zM rfl ?_
  iterate 2 refine WL.sk rfl ?_
  refine zQ rfl <| zA rfl <| zN <| cF rfl <| cK <| eY <| eN <| cR <| zM rfl <| zM rfl <| zM rfl <| ?_
  refine zV (v_sub rfl rfl rfl (show _ = p.c0.st - 3 from w_i64 (by omega) (by omega))) rfl ?_
  refine zV (v_add rfl rfl rfl (show _ = p.c0.st - 2 from (w_i64 (by omega) (by omega)).trans (by omega))) rfl ?_
  refine zK ck_63 rfl ?_
  intro w1 hS
  refine (fault0_c w0 w1 g p s E0 E1 (.row g5 m.cells :: L) d hA hG hS 5 (p.c0.st - 2) ⟨by decide, by decide⟩ ⟨by omega, by omega⟩).mono ?_
  rintro e w' ⟨ad2, c2, gs, EG, KG, p2, E02, E12, d2, rfl, hV2, heg, hA2, hS'⟩
  refine ⟨_, _, rfl, hS', ?_⟩
  refine zA rfl <| zN <| cE <| tR Tryz.results56 rfl <| ?_
  have e0 : hearS s 0 m = (s.gone 0, endE s 0 5 (p.c0.st - 2) ⟨#[]⟩) := (by unfold hearS; rw [if_neg h18, if_neg (by rw [← hst]; omega), if_neg (by rw [← hst]; omega), if_neg (by rw [← hst]; omega), if_neg (by rw [← hst]; omega), hst])
  rw [e0]
  exact fun w' h => ⟨ad2, c2, gs, EG, KG, p2, E02, E12, d2, rfl, hV2, heg, hA2, h.dropK [.row g5 m.cells] ⟩
set_option maxHeartbeats 2000000 in
theorem hear1_c (w0 w : World) (g : Nat) (p : PeL) (s : Se) (E0 E1 L : List Ent) (d : Ck) (hA : PeAt g p s E0 E1 d) (hG : GF w0) (hS0 : St (fun _ => False) w0 w (.row g p.cells :: (E0 ++ (E1 ++ d.L p.gC s.now L)))) (m : MsL) (hI : U32 m.id) (hmh : 0 ≤ m.hold) :
    Calls Tryz.prog 56 #[.pointer (some ⟨g, 0, none⟩), .int .i64 1, .agg m.cells.toArray] w fun e w' => EffC w0 w' g (hearS s 1 m).2 (hearS s 1 m).1 L e := by
  have hc : p.c1.m = s.c1 := (congrArg Se.c1 hA.eq :)
  have hst : p.c1.st = (s.c 1).st := (congrArg CnM.st hc :)
  have hstb := hA.ok1.1
  rw [show s.c1.st = (s.c 1).st from rfl, ← hst] at hstb
  refine enter Tryz.func56 rfl Tryz.ntmps56 rfl hS0 ?_
  refine cR <| WL.box rfl rfl rfl (.none rfl) rfl rfl <| ?_
  intro g5 hg5
  refine WL.to (L' := .row g p.cells :: (E0 ++ (E1 ++ d.L p.gC s.now (.row g5 m.cells :: L)))) (fun w hS => hS.permK ) <| zA rfl <| zR <| zM rfl <| zM rfl <| zC rfl <| zF rfl fld_106_3 <| ?_
  refine zV (v_indexAddrA (lo := 1) rfl rfl rfl Tryz.underlying104 sz_103 (by omega) (by omega)) rfl ?_
  refine zV (v_fieldAddr rfl rfl fld_103_0) rfl <| zV (v_load1 rfl rfl one_3 (cellAt (v := .int .i64 p.c1.st) rfl)) rfl <| zA rfl <| zN <| cS <| cB <| cR <| zF rfl fld_39_0 <| zL rfl one_3 rfl <| ?_
  refine zT (v_eql rfl rfl rfl) rfl (fun h18 => ?_) (fun h18 => ?_)
  refine zA rfl <| zN <| cT rfl <| cR <| zM rfl <| zM rfl <| zK ck_87 rfl <| ?_
  intro w1 hS
  refine (close1_c w0 w1 g p s E0 E1 (.row g5 m.cells :: L) d hA hS).mono ?_
  rintro e w' ⟨ad2, c2, gs, EG, KG, p2, E02, E12, d2, rfl, hV2, heg, hA2, hS'⟩
  refine ⟨_, _, rfl, hS', ?_⟩
  refine zA rfl <| zN <| cE <| eB <| eR <| tR Tryz.results56 rfl <| ?_
  have e0 : hearS s 1 m = (s.gone 1, closeE s 1) := (by unfold hearS; exact if_pos h18)
  rw [e0]
  exact fun w' h => ⟨ad2, c2, gs, EG, KG, p2, E02, E12, d2, rfl, hV2, heg, hA2, h.dropK [.row g5 m.cells] ⟩
  refine zA rfl <| zN <| cF rfl <| cR <| zF rfl fld_39_0 <| zL rfl one_3 rfl <| ?_
  refine zT (v_eql rfl rfl rfl) rfl (fun h25 => ?_) (fun h25 => ?_)
  refine zM rfl <| zS (v_move rfl rfl) rfl <| ?_
  refine WL.test (v_eql rfl rfl rfl) (.some rfl rfl rfl) rfl rfl (fun h28 => ?_) (fun h28 => ?_)
  refine zP rfl <| zA rfl <| zN <| cT rfl <| cR <| zM rfl <| zM rfl <| zV (v_loadN rfl rfl many_39 rfl allAt) rfl <| zK ck_88 rfl <| ?_
  intro w1 hS
  refine (open1_c w0 w1 g p s E0 E1 (.row g5 m.cells :: L) d hA hG hS m hI hmh).mono ?_
  rintro e w' ⟨ad2, c2, gs, EG, KG, p2, E02, E12, d2, rfl, hV2, heg, hA2, hS'⟩
  refine ⟨_, _, rfl, hS', ?_⟩
  refine zA rfl <| zN <| cE <| eB <| eR <| tR Tryz.results56 rfl <| ?_
  have e0 : hearS s 1 m = openS s 1 m.asn m.hold m.id := (by unfold hearS; rw [if_neg h18, if_pos (by rw [← hst]; omega)])
  rw [e0]
  exact fun w' h => ⟨ad2, c2, gs, EG, KG, p2, E02, E12, d2, rfl, hV2, heg, hA2, h.dropK [.row g5 m.cells] ⟩
  refine zP rfl <| zA rfl <| zN <| cF rfl <| cR <| zF rfl fld_39_0 <| zL rfl one_3 rfl <| ?_
  refine zV ((v_eql rfl rfl rfl).f ((by omega))) rfl ?_
  refine zM rfl ?_
  iterate 2 refine WL.sk rfl ?_
  refine zQ rfl <| zA rfl <| zN <| cF rfl <| cR <| zF rfl fld_39_0 <| zL rfl one_3 rfl <| ?_
  refine zV ((v_eql rfl rfl rfl).f ((by omega))) rfl ?_
  refine zM rfl ?_
  iterate 2 refine WL.sk rfl ?_
  refine zQ rfl <| zA rfl <| zN <| cF rfl <| cR <| zF rfl fld_39_0 <| zL rfl one_3 rfl <| ?_
  refine zV ((v_eql rfl rfl rfl).f ((by omega))) rfl ?_
  refine zM rfl ?_
  iterate 2 refine WL.sk rfl ?_
  refine zQ rfl <| zA rfl <| zN <| cF rfl <| cK <| eY <| eN <| cR <| zM rfl <| zM rfl <| zM rfl <| ?_
  refine zV (v_sub rfl rfl rfl (show _ = p.c1.st - 3 from w_i64 (by omega) (by omega))) rfl ?_
  refine zV (v_add rfl rfl rfl (show _ = p.c1.st - 2 from (w_i64 (by omega) (by omega)).trans (by omega))) rfl ?_
  refine zK ck_63 rfl ?_
  intro w1 hS
  refine (fault1_c w0 w1 g p s E0 E1 (.row g5 m.cells :: L) d hA hG hS 5 (p.c1.st - 2) ⟨by decide, by decide⟩ ⟨by omega, by omega⟩).mono ?_
  rintro e w' ⟨ad2, c2, gs, EG, KG, p2, E02, E12, d2, rfl, hV2, heg, hA2, hS'⟩
  refine ⟨_, _, rfl, hS', ?_⟩
  refine zA rfl <| zN <| cE <| tR Tryz.results56 rfl <| ?_
  have e0 : hearS s 1 m = (s.gone 1, endE s 1 5 (p.c1.st - 2) ⟨#[]⟩) := (by unfold hearS; rw [if_neg h18, if_neg (by rw [← hst]; omega), if_neg (by rw [← hst]; omega), if_neg (by rw [← hst]; omega), if_neg (by rw [← hst]; omega), hst])
  rw [e0]
  exact fun w' h => ⟨ad2, c2, gs, EG, KG, p2, E02, E12, d2, rfl, hV2, heg, hA2, h.dropK [.row g5 m.cells] ⟩
  refine zM rfl ?_
  iterate 2 refine WL.sk rfl ?_
  refine zQ rfl <| zA rfl <| zN <| cF rfl <| cR <| zF rfl fld_39_0 <| zL rfl one_3 rfl <| ?_
  refine zT (v_eql rfl rfl rfl) rfl (fun h37 => ?_) (fun h37 => ?_)
  refine zM rfl <| zS (v_move rfl rfl) rfl <| ?_
  refine WL.test (v_eql rfl rfl rfl) (.some rfl rfl rfl) rfl rfl (fun h40 => ?_) (fun h40 => ?_)
  refine zP rfl <| zA rfl <| zN <| cT rfl <| cR <| zM rfl <| zM rfl <| zK ck_89 rfl <| ?_
  intro w1 hS
  refine (establish1_c w0 w1 g p s E0 E1 (.row g5 m.cells :: L) d hA hG hS).mono ?_
  rintro e w' ⟨ad2, c2, gs, EG, KG, p2, E02, E12, d2, rfl, hV2, heg, hA2, hS'⟩
  refine ⟨_, _, rfl, hS', ?_⟩
  refine zA rfl <| zN <| cE <| eB <| eR <| tR Tryz.results56 rfl <| ?_
  have e0 : hearS s 1 m = (s.establish 1, estabE s 1) := (by unfold hearS; rw [if_neg h18, if_neg (by rw [← hst]; omega), if_pos (by rw [← hst]; omega)])
  rw [e0]
  exact fun w' h => ⟨ad2, c2, gs, EG, KG, p2, E02, E12, d2, rfl, hV2, heg, hA2, h.dropK [.row g5 m.cells] ⟩
  refine zP rfl <| zA rfl <| zN <| cF rfl <| cR <| zF rfl fld_39_0 <| zL rfl one_3 rfl <| zV ((v_eql rfl rfl rfl).t (h37)) rfl <| zM rfl <| zS (v_move rfl rfl) rfl <| ?_
  refine WL.test (v_eql rfl rfl rfl) (.some rfl rfl rfl) rfl rfl (fun h51 => ?_) (fun h51 => ?_)
  refine zP rfl <| zA rfl <| zN <| cT rfl <| cR <| zM rfl <| zM rfl <| zK ck_90 rfl <| ?_
  intro w1 hS
  refine (alive1_c w0 w1 g p s E0 E1 (.row g5 m.cells :: L) d hA hS).mono ?_
  rintro e w' ⟨d2, rfl, hA2, hS'⟩
  refine ⟨_, _, rfl, hS', ?_⟩
  refine zR <| zA rfl <| zN <| cE <| eB <| eR <| tR Tryz.results56 rfl <| ?_
  have e0 : hearS s 1 m = (s.alive 1, []) := (by unfold hearS; rw [if_neg h18, if_neg (by rw [← hst]; omega), if_neg (by rw [← hst]; omega), if_pos (by rw [← hst]; omega)])
  rw [e0]
  exact fun w' h => ⟨none, 0, [], [], [], p, E0, E1, d2, rfl, ⟨Vec.nil 23, fun e he => by cases he⟩, rfl, hA2, by rw [alive_now]; exact h.dropK [.row g5 m.cells] ⟩
  refine zP rfl <| zA rfl <| zN <| cF rfl <| cR <| zF rfl fld_39_0 <| zL rfl one_3 rfl <| ?_
  refine zV ((v_eql rfl rfl rfl).f ((by omega))) rfl ?_
  refine zM rfl ?_
  iterate 2 refine WL.sk rfl ?_
  refine zQ rfl <| zA rfl <| zN <| cF rfl <| cK <| eY <| eN <| cR <| zM rfl <| zM rfl <| zM rfl <| ?_
  refine zV (v_sub rfl rfl rfl (show _ = p.c1.st - 3 from w_i64 (by omega) (by omega))) rfl ?_
  refine zV (v_add rfl rfl rfl (show _ = p.c1.st - 2 from (w_i64 (by omega) (by omega)).trans (by omega))) rfl ?_
  refine zK ck_63 rfl ?_
  intro w1 hS
  refine (fault1_c w0 w1 g p s E0 E1 (.row g5 m.cells :: L) d hA hG hS 5 (p.c1.st - 2) ⟨by decide, by decide⟩ ⟨by omega, by omega⟩).mono ?_
  rintro e w' ⟨ad2, c2, gs, EG, KG, p2, E02, E12, d2, rfl, hV2, heg, hA2, hS'⟩
  refine ⟨_, _, rfl, hS', ?_⟩
  refine zA rfl <| zN <| cE <| tR Tryz.results56 rfl <| ?_
  have e0 : hearS s 1 m = (s.gone 1, endE s 1 5 (p.c1.st - 2) ⟨#[]⟩) := (by unfold hearS; rw [if_neg h18, if_neg (by rw [← hst]; omega), if_neg (by rw [← hst]; omega), if_neg (by rw [← hst]; omega), if_neg (by rw [← hst]; omega), hst])
  rw [e0]
  exact fun w' h => ⟨ad2, c2, gs, EG, KG, p2, E02, E12, d2, rfl, hV2, heg, hA2, h.dropK [.row g5 m.cells] ⟩
  refine zM rfl ?_
  iterate 2 refine WL.sk rfl ?_
  refine zQ rfl <| zA rfl <| zN <| cF rfl <| cR <| zF rfl fld_39_0 <| zL rfl one_3 rfl <| zV ((v_eql rfl rfl rfl).f (h37)) rfl <| zM rfl <| ?_
  iterate 2 refine WL.sk rfl ?_
  refine zQ rfl <| zA rfl <| zN <| cF rfl <| cR <| zF rfl fld_39_0 <| zL rfl one_3 rfl <| ?_
  refine zT (v_eql rfl rfl rfl) rfl (fun h59 => ?_) (fun h59 => ?_)
  refine zM rfl <| zS (v_move rfl rfl) rfl <| ?_
  refine WL.test (v_eql rfl rfl rfl) (.some rfl rfl rfl) rfl rfl (fun h62 => ?_) (fun h62 => ?_)
  refine zP rfl <| zA rfl <| zN <| cT rfl <| cR <| zM rfl <| zM rfl <| zK ck_90 rfl <| ?_
  intro w1 hS
  refine (alive1_c w0 w1 g p s E0 E1 (.row g5 m.cells :: L) d hA hS).mono ?_
  rintro e w' ⟨d2, rfl, hA2, hS'⟩
  refine ⟨_, _, rfl, hS', ?_⟩
  refine zR <| zM rfl <| zV (v_loadN rfl rfl many_39 rfl allAt) rfl <| zV (v_build rfl rfl zero_54 plc_54 rfl) rfl <| zB Tryz.underlying46 sz_54 zero_54 rfl rfl <| ?_
  intro g70 hg70
  refine WL.as (L' := .row g70 (EfL.cells ⟨6, 1, none, 0, [], m⟩) :: .row g p.cells :: (E0 ++ (E1 ++ d2.L p.gC s.now (.row g5 m.cells :: L)))) rfl <| zA rfl <| zN <| cE <| eB <| eR <| tR Tryz.results56 rfl <| ?_
  have e0 : hearS s 1 m = (s.alive 1, [⟨6, 1, [], m.d⟩]) := (by unfold hearS; rw [if_neg h18, if_neg (by rw [← hst]; omega), if_neg (by rw [← hst]; omega), if_neg (by rw [← hst]; omega), if_pos (by rw [← hst]; omega)]; rfl)
  rw [e0]
  refine fun w' h => ⟨some ⟨g70, 0, none⟩, 1, [⟨6, 1, none, 0, [], m⟩], [.row g70 (EfL.cells ⟨6, 1, none, 0, [], m⟩)], [], p, E0, E1, d2, rfl, ⟨Vec.row (k := 1) (c := 1) rfl rfl (Nat.le_refl _), fun e he => ?_⟩, rfl, hA2, by rw [alive_now]; exact h.dropK [.row g5 m.cells] ⟩
  obtain rfl := List.mem_singleton.1 he
  exact ⟨⟨[], Vec.nil 1, fun _ h => by cases h⟩⟩
  refine zP rfl <| zA rfl <| zN <| cF rfl <| cK <| eY <| eN <| cR <| zM rfl <| zM rfl <| zM rfl <| ?_
  refine zV (v_sub rfl rfl rfl (show _ = p.c1.st - 3 from w_i64 (by omega) (by omega))) rfl ?_
  refine zV (v_add rfl rfl rfl (show _ = p.c1.st - 2 from (w_i64 (by omega) (by omega)).trans (by omega))) rfl ?_
  refine zK ck_63 rfl ?_
  intro w1 hS
  refine (fault1_c w0 w1 g p s E0 E1 (.row g5 m.cells :: L) d hA hG hS 5 (p.c1.st - 2) ⟨by decide, by decide⟩ ⟨by omega, by omega⟩).mono ?_
  rintro e w' ⟨ad2, c2, gs, EG, KG, p2, E02, E12, d2, rfl, hV2, heg, hA2, hS'⟩
  refine ⟨_, _, rfl, hS', ?_⟩
  refine zA rfl <| zN <| cE <| tR Tryz.results56 rfl <| ?_
  have e0 : hearS s 1 m = (s.gone 1, endE s 1 5 (p.c1.st - 2) ⟨#[]⟩) := (by unfold hearS; rw [if_neg h18, if_neg (by rw [← hst]; omega), if_neg (by rw [← hst]; omega), if_neg (by rw [← hst]; omega), if_neg (by rw [← hst]; omega), hst])
  rw [e0]
  exact fun w' h => ⟨ad2, c2, gs, EG, KG, p2, E02, E12, d2, rfl, hV2, heg, hA2, h.dropK [.row g5 m.cells] ⟩
  refine zM rfl ?_
  iterate 2 refine WL.sk rfl ?_
  refine zQ rfl <| zA rfl <| zN <| cF rfl <| cK <| eY <| eN <| cR <| zM rfl <| zM rfl <| zM rfl <| ?_
  refine zV (v_sub rfl rfl rfl (show _ = p.c1.st - 3 from w_i64 (by omega) (by omega))) rfl ?_
  refine zV (v_add rfl rfl rfl (show _ = p.c1.st - 2 from (w_i64 (by omega) (by omega)).trans (by omega))) rfl ?_
  refine zK ck_63 rfl ?_
  intro w1 hS
  refine (fault1_c w0 w1 g p s E0 E1 (.row g5 m.cells :: L) d hA hG hS 5 (p.c1.st - 2) ⟨by decide, by decide⟩ ⟨by omega, by omega⟩).mono ?_
  rintro e w' ⟨ad2, c2, gs, EG, KG, p2, E02, E12, d2, rfl, hV2, heg, hA2, hS'⟩
  refine ⟨_, _, rfl, hS', ?_⟩
  refine zA rfl <| zN <| cE <| tR Tryz.results56 rfl <| ?_
  have e0 : hearS s 1 m = (s.gone 1, endE s 1 5 (p.c1.st - 2) ⟨#[]⟩) := (by unfold hearS; rw [if_neg h18, if_neg (by rw [← hst]; omega), if_neg (by rw [← hst]; omega), if_neg (by rw [← hst]; omega), if_neg (by rw [← hst]; omega), hst])
  rw [e0]
  exact fun w' h => ⟨ad2, c2, gs, EG, KG, p2, E02, E12, d2, rfl, hV2, heg, hA2, h.dropK [.row g5 m.cells] ⟩

theorem lbytes_c (w0 : World) (m : MsL) (hM : m.At w0) (hI : m.In) (hG : GF w0) (hP : m.atr.path.length ≤ 1000) (hO : m.atr.others.length ≤ 90) : Calls Tryz.prog 23 #[.agg m.cells.toArray] w0 fun e w' => ∃ v, e = .returned v ∧ OwnB w0 w' (if msgC m = 0 then msgB m else []) v := by
  refine enter Tryz.func23 rfl Tryz.ntmps23 rfl (St.start (fun _ => False) w0) ?_
  refine cR <| WL.box rfl rfl rfl (.none rfl) rfl rfl <| ?_
  intro g1 hg1
  refine zA rfl <| zR <| zV (v_loadN rfl rfl many_39 rfl allAt) rfl <| zK ck_10 rfl <| ?_
  intro w1 hS
  refine (Enc_c w1 m (hM.st hS) hI (hG.keep (fun h => h) hS) hP hO).mono ?_
  rintro e w' ⟨_, rfl, ad9, c9, E9, rfl, hV9, hS'⟩
  refine ⟨_, _, rfl, hS.join hS', ?_⟩
  refine zM rfl <| zX rfl <| zX rfl <| zA rfl <| zA rfl <| zR <| zM rfl <| zA rfl <| zN <| cE <| tR Tryz.results23 rfl <| ?_
  exact fun w' h => ⟨_, rfl, OwnB.of hV9 h rfl⟩
theorem lopen_c (w0 : World) (id hold : Int) (hid : U32 id) (hh : I64 hold) (hG : GF w0) : Calls Tryz.prog 22 #[.int .u32 id, .int .i64 hold] w0 fun e w' => ∃ v, e = .returned v ∧ OwnB w0 w' (if msgC (openM 65001 hold id) = 0 then msgB (openM 65001 hold id) else []) v := by
  refine enter Tryz.func22 rfl Tryz.ntmps22 rfl (St.start (fun _ => False) w0) ?_
  refine cR <| zA rfl <| zR <| zM rfl <| zM rfl <| zV (v_build rfl rfl zero_39 plc_39 rfl) rfl <| zK ck_23 rfl <| ?_
  intro w1 hS
  refine (lbytes_c w1 (openM 65001 hold id) (openM_at _ _ _ _) (openM_in ⟨by decide, by decide⟩ hh hid) (hG.keep (fun h => h) hS) (Nat.zero_le _) (Nat.zero_le _)).mono ?_
  rintro e w' ⟨_, rfl, ad8, c8, E8, rfl, hV8, hS'⟩
  refine ⟨_, _, rfl, hS.join hS', ?_⟩
  refine zA rfl <| zN <| cE <| tR Tryz.results22 rfl <| ?_
  exact fun w' h => ⟨_, rfl, OwnB.of hV8 h rfl⟩
theorem lconf_c (w : World) : Calls Tryz.prog 12 #[] w fun e w' => e = .returned (.agg (confL 65000 5 65001 90 10).toArray) ∧ Frm (fun _ => False) w w' := by
  refine enter (vs := []) Tryz.func12 rfl Tryz.ntmps12 rfl (St.start (fun _ => False) w) ?_
  refine cR <| WL.alloc rfl zero_44 (.none rfl) rfl rfl <| ?_
  intro g0 hg0
  refine zR <| zV (v_build rfl rfl zero_44 plc_44 rfl) rfl <| zW many_44 rfl rfl <| zN <| cE <| tR Tryz.results12 (resRow rfl many_44 rfl) <| ?_
  exact fun w' h => ⟨rfl, h.frm⟩

theorem Vec.src2 {s k c : Nat} {ad : Option Addr} {xs : List Value} {E : List Ent} (hV : Vec s ad k c xs E) (h0 : 0 < xs.length) : ∃ b o, ad = some ⟨b, o, none⟩ ∧ ∀ w, (∀ e ∈ E, e.holds w) → w.rangeAt b o xs := by
  rcases hV with ⟨_, _, _, rfl, _⟩ | ⟨g, cs, rfl, rfl, hx, _, _⟩
  · simp at h0
  · refine ⟨g, 0, rfl, fun w hw j v hj => ?_⟩
    have hR : Row w g cs := hw (.row g cs) (List.mem_cons_self ..)
    rw [← hx, List.getElem?_take] at hj
    split at hj
    · rw [Nat.zero_add]; exact hR.cell hj
    · cases hj

theorem ef_kind {w : World} {b o : Nat} {fs : List EfL} {i : Nat} {x : EfL} (h : w.rangeAt b o (efsL fs)) (hi : fs[i]? = some x) : w.rangeAt b (o + i * 23) x.cells := fun j v hj => by
  have hl := flatMap_seg (enc := EfL.cells) (s := 23) (fun _ => rfl) fs i x hi
  have hj2 : j < 23 := (List.getElem?_eq_some_iff.1 hj).1
  have h2 : (efsL fs)[i * 23 + j]? = some v := by
    unfold efsL
    rw [← List.getElem?_drop, ← hj, ← hl, List.getElem?_take, if_pos hj2]
  have := h _ _ h2
  rwa [Nat.add_assoc]
theorem kinds_c (w : World) (ad : Option Addr) (c : Nat) (fs : List EfL) (E : List Ent) (hV : Vec 23 ad fs.length c (efsL fs) E) (hE : ∀ e ∈ E, e.holds w) (wa : Option Addr) (wc : Nat) (ws : List Int) (hW : CellsAt w wa (i64s ws)) (he : fs.map EfL.kind = ws) (hb : fs.length ≤ 1000000) :
    Calls Tryz.prog 16 #[.slice ad fs.length c, .slice wa ws.length wc] w fun e w' => e = .returned (.bool true) ∧ Frm (fun _ => False) w w' := by
  have hl : ws.length = fs.length := by rw [← he, List.length_map]
  refine enter Tryz.func16 rfl Tryz.ntmps16 rfl (St.start (fun _ => False) w) ?_
  refine cR <| zA rfl <| zN <| cS <| cR <| zM rfl <| zV (v_len_slice rfl rfl Tryz.underlying46) rfl <| zM rfl <| zV (v_len_slice rfl rfl Tryz.underlying32) rfl <| ?_
  refine zV ((v_neq rfl rfl rfl).f ((by omega))) rfl ?_
  refine zN <| cF rfl <| cK <| eN <| cS <| cR <| zM rfl <| zV (v_len_slice rfl rfl Tryz.underlying46) rfl <| zM rfl <| zN <| cB <| WC.loop (fun k : Nat => [(13, .int .i64 k), (12, .int .i64 fs.length), (0, .slice ad fs.length c), (1, .slice wa ws.length wc)]) (fun _ => []) (fun k => k ≤ fs.length) (fun k => fs.length - k) 0 (Nat.zero_le _) (.cons rfl (.cons rfl (.cons rfl (.cons rfl .nil)))) (.refl _) <| ?_
  intro k hk
  refine cR ?_
  refine zT (v_lss rfl rfl rfl) rfl (fun h14 => ?_) (fun h14 => ?_)
  refine zN <| cS <| cT rfl <| cK <| eN <| cS <| cB <| cR <| ?_
  obtain ⟨x, hx⟩ : ∃ x, fs[k]? = some x := ⟨fs[k]'(by omega), List.getElem?_eq_getElem _⟩
  obtain ⟨b1, o1, ea1, r1⟩ := hV.src2 (by rw [efsL_len]; omega)
  obtain ⟨b2, o2, ea2, r2⟩ := hW (by rw [i64s_len]; omega)
  have hwk : ws[k]? = some x.kind := (by rw [← he, List.getElem?_map, hx]; rfl)
  have r3 := ef_kind (r1 w hE) hx
  refine zM rfl <| zA rfl <| zN <| cS <| cQ mixed <| qV (v_move rfl rfl) rfl <| qV (v_move rfl rfl) rfl <| ?_
  refine qV ((v_indexAddr (b := b1) (off := o1) (lo := k) rfl (by show some (Value.slice ad _ _) = _; rw [ea1]) rfl Tryz.underlying46 sz_54 rfl (by omega))) rfl ?_
  refine qV (v_fieldAddr rfl rfl fld_54_0) rfl <| qV (v_load1 rfl rfl one_3 (cellOld (fun h => h) (r3 0 (.int .i64 x.kind) rfl))) rfl <| qV (v_move rfl rfl) rfl <| qV (v_move rfl rfl) rfl <| ?_
  refine qV ((v_indexAddr (b := b2) (off := o2) (lo := k) rfl (by show some (Value.slice wa _ _) = _; rw [ea2]) rfl Tryz.underlying32 sz_3 rfl (by omega))) rfl ?_
  refine qV (v_load1 rfl rfl one_3 (cellOld (fun h => h) (by have := r2 k _ (i64s_get hwk); rwa [show o2 + k * 1 = o2 + k by omega]))) rfl ?_
  refine qV ((v_neq rfl rfl rfl).f ((fun h => h rfl))) rfl <| WQ.nil <| eN <| cF rfl <| cK <| eY <| eN <| WC.region <| ?_
  refine zV (v_add rfl rfl rfl (show _ = ((k + 1 : Nat) : Int) from (w_i64 (by omega) (by omega)).trans (by omega))) rfl ?_
  refine zM rfl <| WL.nil <| ?_
  exact WE.next (k + 1) (by omega) (by omega) (.cons rfl (.cons rfl (.cons rfl (.cons rfl .nil)))) (.refl _)
  refine zN <| cS <| cF rfl <| cX <| eX <| eX <| eH <| eN <| cR <| zA rfl <| zN <| cE <| tR Tryz.results16 rfl <| ?_
  exact fun w' h => ⟨rfl, h.frm⟩

def Se.down (s : Se) (n : Nat) : Se := if (s.c n).st ≠ 0 then s.gone n else if n ≠ 0 ∨ s.base ≠ 1 then s else if (s.c 1).st = 0 then ({ s with base := 2 } : Se).due 0 s.retry else { s with base := 2 }
def downE (s : Se) (n : Nat) : List EfD := if (s.c n).st ≠ 0 then goneE s n else []
set_option maxHeartbeats 1000000 in
theorem down0_c (w0 w : World) (g : Nat) (p : PeL) (s : Se) (E0 E1 L : List Ent) (d : Ck) (hA : PeAt g p s E0 E1 d) (hS0 : St (fun _ => False) w0 w (.row g p.cells :: (E0 ++ (E1 ++ d.L p.gC s.now L)))) :
    Calls Tryz.prog 20 #[.pointer (some ⟨g, 0, none⟩), .int .i64 0] w fun e w' => EffC w0 w' g (downE s 0) (s.down 0) L e := by
  have hretry := hA.ok.1
  have hr0 : p.retry = s.retry := (congrArg Se.retry hA.eq :)
  have hb0 : p.base = s.base := (congrArg Se.base hA.eq :)
  have hc : p.c0.m = s.c0 := (congrArg Se.c0 hA.eq :)
  have hst : p.c0.st = (s.c 0).st := (congrArg CnM.st hc :)
  have hc1 : p.c1.m = s.c1 := (congrArg Se.c1 hA.eq :)
  have hs1 : p.c1.st = (s.c 1).st := (congrArg CnM.st hc1 :)
  refine enter Tryz.func20 rfl Tryz.ntmps20 rfl hS0 ?_
  refine cR <| zA rfl <| zN <| cS <| cR <| zM rfl <| zM rfl <| zK ck_51 rfl <| ?_
  intro w hS
  refine Calls.then (there_c w g p (hS.row (g := g)) 0 (by decide)) hS ?_
  generalize hth : decide ((p.c 0).st ≠ 0) = b7
  cases b7
  refine zN <| cF rfl <| cK <| eN <| cS <| cR <| ?_
  have e2 : List.map EfL.d [] = downE s 0 := (by unfold downE; rw [if_neg (fun hh => of_decide_eq_false hth (fun h => hh (hst.symm.trans h)))]; rfl)
  refine zM rfl <| zV (v_eql_nil false rfl rfl Tryz.underlying40 rfl) rfl <| zM rfl <| zS (v_move rfl rfl) rfl <| ?_
  refine zS ((v_neq rfl rfl rfl).f ((by decide))) rfl ?_
  refine zQ rfl <| zM rfl <| zS (v_move rfl rfl) rfl <| zS (v_nilCheck rfl rfl) rfl <| zS (v_fieldAddr0 rfl rfl fld_106_2) rfl <| zS (v_load1 rfl rfl one_3 (cellAt rfl)) rfl <| ?_
  refine WL.test (v_neq rfl rfl rfl) (.some rfl rfl rfl) rfl rfl (fun h22 => ?_) (fun h22 => ?_)
  refine zQ rfl <| zN <| cT rfl <| cR <| zA rfl <| zN <| cE <| eR <| tR Tryz.results20 rfl <| ?_
  have e1 : s.down 0 = s := (by unfold Se.down; rw [if_neg (fun hh => of_decide_eq_false hth (fun h => hh (hst.symm.trans h))), if_pos (.inr (by rw [← hb0]; exact h22))])
  exact fun w' h => ⟨none, 0, [], [], [], p, E0, E1, d, rfl, ⟨Vec.nil 23, fun e he => by cases he⟩, e2, by rw [e1]; exact hA, by rw [e1]; exact h⟩
  refine zQ rfl <| zN <| cF rfl <| cK <| eN <| cR <| zM rfl <| zC rfl <| zF rfl fld_106_2 <| zO one_3 rfl rfl <| WL.as (L' := .row g ({ p with base := 2 } : PeL).cells :: (E0 ++ (E1 ++ d.L p.gC s.now L))) rfl <| ?_
  have hA1 := hA.base 2 ⟨by decide, by decide⟩
  refine zN <| cS <| cR <| zM rfl <| zK ck_51 rfl <| ?_
  intro w hS
  refine Calls.then (there_c w g { p with base := 2 } (hS.row (g := g)) 1 (by decide)) hS ?_
  generalize ht1 : decide ((({ p with base := 2 } : PeL).c 1).st ≠ 0) = b28
  cases b28
  refine zV (v_not rfl rfl rfl) rfl <| zN <| cT rfl <| WC.region <| zM rfl <| zM rfl <| zC rfl <| zF rfl fld_106_0 <| zF rfl fld_44_4 <| zL rfl one_3 rfl <| zK ck_53 rfl <| ?_
  intro w1 hS
  refine (due_c w0 w1 g { p with base := 2 } { s with base := 2 } E0 E1 L d hA1 hS 0 (by omega) p.retry (by omega)).mono ?_
  rintro e w' ⟨d2, rfl, hA2, hS'⟩
  refine ⟨_, _, rfl, hS', ?_⟩
  refine zR <| zA rfl <| zN <| cE <| tR Tryz.results20 rfl <| ?_
  have e1 : s.down 0 = ({ s with base := 2 } : Se).due 0 p.retry := (by unfold Se.down; rw [if_neg (fun hh => of_decide_eq_false hth (fun h => hh (hst.symm.trans h))), if_neg (by rw [← hb0]; omega), if_pos (hs1.symm.trans (Decidable.of_not_not (of_decide_eq_false ht1))), hr0])
  exact fun w' h => ⟨none, 0, [], [], [], _, E0, E1, d2, rfl, ⟨Vec.nil 23, fun e he => by cases he⟩, e2, by rw [e1]; exact hA2, by rw [e1]; exact h⟩
  refine zV (v_not rfl rfl rfl) rfl <| zN <| cF rfl <| cK <| eN <| cR <| zA rfl <| zN <| cE <| tR Tryz.results20 rfl <| ?_
  have e1 : s.down 0 = ({ s with base := 2 } : Se) := (by unfold Se.down; rw [if_neg (fun hh => of_decide_eq_false hth (fun h => hh (hst.symm.trans h))), if_neg (by rw [← hb0]; omega), if_neg (fun hh => of_decide_eq_true ht1 (hs1.trans hh))])
  exact fun w' h => ⟨none, 0, [], [], [], _, E0, E1, d, rfl, ⟨Vec.nil 23, fun e he => by cases he⟩, e2, by rw [e1]; exact hA1, by rw [e1]; exact h⟩
  refine zN <| cT rfl <| cR <| zM rfl <| zM rfl <| zK ck_59 rfl <| ?_
  intro w1 hS
  refine (gone0_c w0 w1 g p s E0 E1 L d hA hS).mono ?_
  rintro e w' ⟨ad2, c2, gs, EG, KG, p2, E02, E12, d2, rfl, hV2, heg, hA2, hS'⟩
  refine ⟨_, _, rfl, hS', ?_⟩
  refine zA rfl <| zN <| cE <| eR <| tR Tryz.results20 rfl <| ?_
  have hz : (s.c 0).st ≠ 0 := fun hh => of_decide_eq_true hth (hst.trans hh)
  have e1 : s.down 0 = s.gone 0 := if_pos hz
  have e2 : downE s 0 = goneE s 0 := if_pos hz
  rw [e1, e2]
  exact fun w' h => ⟨ad2, c2, gs, EG, KG, p2, E02, E12, d2, rfl, hV2, heg, hA2, h⟩
set_option maxHeartbeats 1000000 in
theorem down1_c (w0 w : World) (g : Nat) (p : PeL) (s : Se) (E0 E1 L : List Ent) (d : Ck) (hA : PeAt g p s E0 E1 d) (hS0 : St (fun _ => False) w0 w (.row g p.cells :: (E0 ++ (E1 ++ d.L p.gC s.now L)))) :
    Calls Tryz.prog 20 #[.pointer (some ⟨g, 0, none⟩), .int .i64 1] w fun e w' => EffC w0 w' g (downE s 1) (s.down 1) L e := by
  have hretry := hA.ok.1
  have hr0 : p.retry = s.retry := (congrArg Se.retry hA.eq :)
  have hb0 : p.base = s.base := (congrArg Se.base hA.eq :)
  have hc : p.c1.m = s.c1 := (congrArg Se.c1 hA.eq :)
  have hst : p.c1.st = (s.c 1).st := (congrArg CnM.st hc :)
  have hc1 : p.c1.m = s.c1 := (congrArg Se.c1 hA.eq :)
  have hs1 : p.c1.st = (s.c 1).st := (congrArg CnM.st hc1 :)
  refine enter Tryz.func20 rfl Tryz.ntmps20 rfl hS0 ?_
  refine cR <| zA rfl <| zN <| cS <| cR <| zM rfl <| zM rfl <| zK ck_51 rfl <| ?_
  intro w hS
  refine Calls.then (there_c w g p (hS.row (g := g)) 1 (by decide)) hS ?_
  generalize hth : decide ((p.c 1).st ≠ 0) = b7
  cases b7
  refine zN <| cF rfl <| cK <| eN <| cS <| cR <| ?_
  have e2 : List.map EfL.d [] = downE s 1 := (by unfold downE; rw [if_neg (fun hh => of_decide_eq_false hth (fun h => hh (hst.symm.trans h)))]; rfl)
  refine zM rfl <| zV (v_eql_nil false rfl rfl Tryz.underlying40 rfl) rfl <| zM rfl <| zS (v_move rfl rfl) rfl <| ?_
  refine zS ((v_neq rfl rfl rfl).t ((by decide))) rfl ?_
  refine zQ rfl <| zM rfl <| ?_
  iterate 5 refine WL.sk rfl ?_
  refine zP rfl <| zN <| cT rfl <| cR <| zA rfl <| zN <| cE <| eR <| tR Tryz.results20 rfl <| ?_
  have e1 : s.down 1 = s := (by unfold Se.down; rw [if_neg (fun hh => of_decide_eq_false hth (fun h => hh (hst.symm.trans h))), if_pos (.inl (by decide))])
  exact fun w' h => ⟨none, 0, [], [], [], p, E0, E1, d, rfl, ⟨Vec.nil 23, fun e he => by cases he⟩, e2, by rw [e1]; exact hA, by rw [e1]; exact h⟩
  refine zN <| cT rfl <| cR <| zM rfl <| zM rfl <| zK ck_59 rfl <| ?_
  intro w1 hS
  refine (gone1_c w0 w1 g p s E0 E1 L d hA hS).mono ?_
  rintro e w' ⟨ad2, c2, gs, EG, KG, p2, E02, E12, d2, rfl, hV2, heg, hA2, hS'⟩
  refine ⟨_, _, rfl, hS', ?_⟩
  refine zA rfl <| zN <| cE <| eR <| tR Tryz.results20 rfl <| ?_
  have hz : (s.c 1).st ≠ 0 := fun hh => of_decide_eq_true hth (hst.trans hh)
  have e1 : s.down 1 = s.gone 1 := if_pos hz
  have e2 : downE s 1 = goneE s 1 := if_pos hz
  rw [e1, e2]
  exact fun w' h => ⟨ad2, c2, gs, EG, KG, p2, E02, E12, d2, rfl, hV2, heg, hA2, h⟩

def VecO (ad : Option Addr) (c : Nat) (xs : List Int) (E : List Ent) : Prop :=
  (ad = none ∧ c = 0 ∧ xs = [] ∧ E = []) ∨ ∃ g o cs, ad = some ⟨g, o, none⟩ ∧ E = [.row g cs] ∧ xs.length ≤ c ∧ o + c ≤ cs.length ∧ ∀ i v, (u8s xs)[i]? = some v → cs[o + i]? = some v
section
variable {P : Program} {ops : Array Oper} {Q : Exit → Act → World → Prop} {n : Nat} {p : Nat → Prop} {w0 : World} {o : Oper} {rest : List Oper} {l : Kn} {E L0 : List Ent}
end
structure QuL where
  ad : Option Addr
  cap : Nat
  wait : List Int
  most : Int
def QuL.cells (q : QuL) : List Value := [.slice q.ad q.wait.length q.cap, .int .i64 q.most]

structure OpL where
  k : Int
  ad : Option Addr
  cap : Nat
  val : List Int
  n : Int
def OpL.cells (o : OpL) : List Value := [.int .i64 o.k, .slice o.ad o.val.length o.cap, .int .i64 o.n]
structure QS where
  ws : List Int
  qa : Option Addr
  qc : Nat
  Eq : List Ent
  aa : Option Addr
  ac : Nat
  Ea : List Ent
structure QI (y : QS) (most : Int) (k : Nat) : Prop where
  q : VecO y.qa y.qc y.ws y.Eq
  a : VecO y.aa y.ac y.ws y.Ea
  bys : Bys y.ws
  len : y.ws.length ≤ 300 * k
  fit : (y.ws.length : Int) ≤ most



def AtL.rcells (a : AtL) : List Value := [.int .i64 a.has, .int .i64 a.origin, .slice a.pad a.path.length a.pc, .int .i64 a.hop, .int .i64 a.med, .int .i64 a.loc, .int .i64 a.aas, .int .i64 a.aid, .slice a.cad a.comms.length a.cc, .slice a.oad a.others.length a.oc]
def MsL.rcells (m : MsL) : List Value := [.int .i64 m.kind, .int .i64 m.asn, .int .i64 m.hold, .int .u32 m.id, .slice m.kad m.caps.length m.kc, .slice m.gad m.gone.length m.gc, .int .i64 m.atr.has, .int .i64 m.atr.origin, .slice m.atr.pad m.atr.path.length m.atr.pc, .int .i64 m.atr.hop, .int .i64 m.atr.med, .int .i64 m.atr.loc, .int .i64 m.atr.aas, .int .i64 m.atr.aid, .slice m.atr.cad m.atr.comms.length m.atr.cc, .slice m.atr.oad m.atr.others.length m.atr.oc, .slice m.nad m.nets.length m.nc, .int .i64 m.fc, .int .i64 m.fs, .string m.fd]


section
variable {P : Program} {ops : Array Oper} {Q : Exit → Act → World → Prop} {n : Nat} {p : Nat → Prop} {w0 : World} {o : Oper} {rest : List Oper} {l : Kn} {L : List Ent} {t kt et : Nat} {x xi : Operand} {K : Value → Prop} {A : Value} {es : Array MapEntry} {m : Value → Option Value}
end
def mostS (c : Int) : Int := if c = 1 then 3 else if c = 2 then 6 else if c = 3 then 11 else if c = 6 then 1 else 0

def AtL.r0 (a : AtL) (ad : Option Addr) (c : Nat) (ss : List SegL) (bd : Option Addr) (bc : Nat) (os : List OthL) : AtL := { a with pad := ad, pc := c, path := ss, oad := bd, oc := bc, others := os }
def AtL.rc (a : AtL) (ad : Option Addr) (c n : Nat) (bd : Option Addr) (bc m : Nat) : List Value := [.int .i64 a.has, .int .i64 a.origin, .slice ad n c, .int .i64 a.hop, .int .i64 a.med, .int .i64 a.loc, .int .i64 a.aas, .int .i64 a.aid, .slice a.cad a.comms.length a.cc, .slice bd m bc]

def MsL.rc (m : MsL) (kad : Option Addr) (kc kn : Nat) (gad : Option Addr) (gc : Nat) (pad : Option Addr) (pc : Nat) (oad : Option Addr) (oc : Nat) (nad : Option Addr) (nc : Nat) : List Value := [.int .i64 m.kind, .int .i64 m.asn, .int .i64 m.hold, .int .u32 m.id, .slice kad kn kc, .slice gad m.gone.length gc, .int .i64 m.atr.has, .int .i64 m.atr.origin, .slice pad m.atr.path.length pc, .int .i64 m.atr.hop, .int .i64 m.atr.med, .int .i64 m.atr.loc, .int .i64 m.atr.aas, .int .i64 m.atr.aid, .slice m.atr.cad m.atr.comms.length m.atr.cc, .slice oad m.atr.others.length oc, .slice nad m.nets.length nc, .int .i64 m.fc, .int .i64 m.fs, .string m.fd]
structure PlS where
  g3 : Nat
  gad : Option Addr
  gc : Nat
  EG : List Ent
  pad : Option Addr
  pc : Nat
  EP : List Ent
  oad : Option Addr
  oc : Nat
  EO : List Ent
  nad : Option Addr
  nc : Nat
  EN : List Ent
structure PlS.Good (x : PlS) (m : MsL) : Prop where
  gone : Vec 2 x.gad m.gone.length x.gc (pfsL m.gone) x.EG
  path : Vec 2 x.pad m.atr.path.length x.pc (segsL m.atr.path) x.EP
  oths : Vec 2 x.oad m.atr.others.length x.oc (othsL m.atr.others) x.EO
  nets : Vec 2 x.nad m.nets.length x.nc (pfsL m.nets) x.EN
def PlS.cells (x : PlS) (m : MsL) (kad : Option Addr) (kc kn : Nat) : List Value := m.rc kad kc kn x.gad x.gc x.pad x.pc x.oad x.oc x.nad x.nc
def PlS.K (x : PlS) : List Ent := x.EG ++ (x.EP ++ (x.EO ++ x.EN))
def PlS.m (x : PlS) (m : MsL) (kad : Option Addr) (kc : Nat) : MsL := { m with kad := kad, kc := kc, gad := x.gad, gc := x.gc, atr := m.atr.r0 x.pad x.pc m.atr.path x.oad x.oc m.atr.others, nad := x.nad, nc := x.nc }
theorem WL.rowAs {P : Program} {ops : Array Oper} {Q : Exit → Act → World → Prop} {n : Nat} {p : Nat → Prop} {w0 : World} {rest : List Oper} {l : Kn} {L L' : List Ent} {g : Nat} {cs cs' : List Value} [ha : At L g cs] [hp : Put L g (.row g cs') L'] (e : cs = cs')
    (h : WL P ops Q n p w0 rest l L') : WL P ops Q n p w0 rest l L := fun a w hA hS => h a w hA (by
  have hm := ha.mem
  rw [e] at hm
  obtain ⟨A, B, e', h1, h2, h3⟩ := hp.ok rfl
  rw [h2]
  have hd : (A ++ Ent.row g cs' :: B).map Ent.at = L.map Ent.at := by
    rw [h1, List.map_append, List.map_append, List.map_cons, List.map_cons, h3]
    rfl
  have hin : ∀ x ∈ A ++ Ent.row g cs' :: B, x ∈ L := fun x hx => by
    rcases List.mem_append.1 hx with hx | hx
    · rw [h1]; exact List.mem_append_left _ hx
    · rcases List.mem_cons.1 hx with rfl | hx
      · exact hm
      · rw [h1]; exact List.mem_append_right _ (List.mem_cons_of_mem _ hx)
  exact ⟨hS.frm, fun x hx => hS.holds x (hin x hx), by rw [hd]; exact hS.dist, fun x hx => hS.mine x (hin x hx)⟩)





structure AtG (N : Nat) (d : AtD) : Prop where
  each : ∀ k, 1 ≤ k → k ≤ 8 → eachBD d k = true
  hop : U32 d.hop
  aid : U32 d.aid
  path : 4 * d.path.length ≤ N
  oths : ∀ o ∈ d.others, 9 ≤ o.1 ∧ o.1 ≤ 255 ∧ Bys o.2 ∧ o.2.length ≤ N


def partsR (v : List Int) : Option (List (Bool × List Int)) := (pathR v).bind fun p => if p.all segBD then some p else none
def PartsP (w w' : World) (v : List Int) (e : Ending) : Prop :=
  match partsR v with
  | none => e = .returned (.tuple #[.slice none 0 0, .bool false]) ∧ Frm (fun _ => False) w w'
  | some ps => ∃ ss ad c E K, e = .returned (.tuple #[.slice ad ss.length c, .bool true]) ∧ ss.map segD = ps ∧ Vec 2 ad ss.length c (segsL ss) E ∧ (∀ s ∈ ss, SegOwn K s) ∧ St (fun _ => False) w w' (E ++ K)

def Bits (bs : List Int) : Prop := ∀ b ∈ bs, b = 0 ∨ b = 1


def ReadP (w w' : World) (xs : List Int) (e : Ending) : Prop :=
  match netsR xs with
  | none => e = .returned (.tuple #[.slice none 0 0, .bool false]) ∧ Frm (fun _ => False) w w'
  | some ps => ∃ ad c E, e = .returned (.tuple #[.slice ad ps.length c, .bool true]) ∧ Vec 2 ad ps.length c (pfsL ps) E ∧ St (fun _ => False) w w' E



structure ReS where
  k : Nat
  d : AtD
  seen : List Int
  a : AtL
  es : Array MapEntry
  mc : Nat
  mm : Value → Option Value
  E : List Ent
  K : List Ent
structure ReS.Good (y : ReS) (xs : List Int) : Prop where
  k : y.k ≤ xs.length
  dec : decD AtL.zero.d [] xs = decD y.d y.seen (xs.drop y.k)
  seen : SeenI y.d y.seen
  same : y.a.d = { y.d with others := sortO y.d.others }
  own : AtOwn y.K y.a
  oths : Vec 2 y.a.oad y.a.others.length y.a.oc (othsL y.a.others) y.E
  vals : ∀ o ∈ y.a.others, OthOwn y.K o
  map : IMap (KInt .i64) y.es y.mm
  com : (8 : Int) ∉ y.seen → y.a.cad = none ∧ y.a.cc = 0
  ol : y.a.others.length ≤ y.k
  known : ∀ t : Int, (y.mm (.int .i64 t)).getD (.bool false) = .bool (decide (t ∈ y.seen))
section
variable {P : Program} {ops : Array Oper} {Q : Exit → Act → World → Prop} {n : Nat} {p : Nat → Prop} {w0 : World} {o : Oper} {l : Kn} {L : List Ent}
end
theorem Vec.cellsAt {ad : Option Addr} {c : Nat} {xs : List Int} {E : List Ent} (hV : BV ad c xs E) {w : World} (hw : ∀ e ∈ E, e.holds w) : CellsAt w ad (u8s xs) := fun hn => by
  obtain ⟨b, o, e, hr⟩ := Vec.src2 hV hn
  exact ⟨b, o, e, hr w hw⟩

def RDecP (w w' : World) (xs : List Int) (e : Ending) : Prop :=
  match decD AtL.zero.d [] xs with
  | .inr (s, d) => e = .returned (.tuple #[.agg AtL.zero.rcells.toArray, .agg (fltL 3 s d).toArray]) ∧ Frm (fun _ => False) w w'
  | .inl d => ∃ a K, e = .returned (.tuple #[.agg a.rcells.toArray, .agg (fltL 0 0 ⟨#[]⟩).toArray]) ∧ a.d = { d with others := sortO d.others } ∧ AtAll K a ∧ St (fun _ => False) w w' K

def RMsP (w w' : World) (xs : List Int) (e : Ending) : Prop :=
  match decM xs with
  | .inr (c, s, d) => e = .returned (.tuple #[.agg (MsL.zero 0).rcells.toArray, .agg (fltL c s d).toArray]) ∧ Frm (fun _ => False) w w'
  | .inl md => ∃ m K, e = .returned (.tuple #[.agg m.rcells.toArray, .agg (fltL 0 0 ⟨#[]⟩).toArray]) ∧ m.d = md ∧ MsAll K m ∧ St (fun _ => False) w w' K

theorem takeD_sub {d : AtD} {all v : List Int} {s : Int} {x : ByteArray} (h : takeD d all v = .inr (s, x)) : 0 ≤ s ∧ s ≤ 11 := by
  unfold takeD at h
  split at h
  · cases h; decide
  split at h
  · cases h; decide
  split at h
  · cases h; decide
  split at h
  · cases h; decide
  split at h
  · cases h; decide
  split at h
  · cases h; decide
  split at h
  · cases h; decide
  · cases h
theorem otherD_sub {d : AtD} {all v : List Int} {s : Int} {x : ByteArray} (h : otherD d all v = .inr (s, x)) : 0 ≤ s ∧ s ≤ 11 := by
  unfold otherD at h
  split at h
  · cases h; decide
  split at h <;> cases h
theorem decD_sub : ∀ (n : Nat) (d : AtD) (seen xs : List Int) {s : Int} {x : ByteArray}, xs.length ≤ n → decD d seen xs = .inr (s, x) → 0 ≤ s ∧ s ≤ 11
  | _, d, seen, [], s, x, _, h => by rw [decD_nil] at h; cases h
  | 0, d, seen, y :: xs, s, x, hn, _ => by simp at hn
  | n + 1, d, seen, y :: xs, s, x, hn, h => by
    by_cases hc : (y :: xs).length < fromN (y :: xs) ∨ (y :: xs).length < toN (y :: xs) ∨ fOf (y :: xs) 1 ∈ seen
    · rw [decD_bad (by simp) hc] at h; cases h; decide
    · rw [decD_step (by simp) hc] at h
      have hf := fromN_b (y :: xs)
      have ht := toN_ge (y :: xs)
      cases hs : stepD d ((y :: xs).take (toN (y :: xs))) (((y :: xs).take (toN (y :: xs))).drop (fromN (y :: xs))) with
      | inr f =>
        rw [hs] at h
        cases h
        unfold stepD at hs
        split at hs
        · exact takeD_sub hs
        · exact otherD_sub hs
      | inl d2 =>
        rw [hs] at h
        exact decD_sub n d2 _ _ (by rw [List.length_drop]; omega) h
theorem optsR_sub : ∀ (n : Nat) (acc : List (Int × List Int)) (xs : List Int) {s : Int}, xs.length ≤ n → optsR acc xs = .inr s → s = 0 ∨ s = 4
  | _, acc, [], s, _, h => by rw [optsR] at h; cases h
  | _, acc, [_], s, _, h => by rw [optsR] at h; cases h; exact .inl rfl
  | 0, acc, y :: z :: xs, s, hn, _ => by simp at hn
  | n + 1, acc, y :: z :: xs, s, hn, h => by
    rw [optsR_cons] at h
    split at h
    · cases h; exact .inl rfl
    split at h
    · cases h; exact .inr rfl
    split at h
    · cases h; exact .inl rfl
    · rw [List.length_cons, List.length_cons] at hn
      exact optsR_sub n _ _ (by rw [List.length_drop]; omega) h
theorem sizeR_sub (n : Nat) (f : Nat → Int) : (sizeR n f).2.1 ≠ 0 → (sizeR n f).2.1 = 1 ∧ 0 ≤ (sizeR n f).2.2.1 ∧ (sizeR n f).2.2.1 ≤ 3 := by
  unfold sizeR
  repeat' split
  all_goals (intro h; dsimp only at h ⊢; first | exact absurd rfl h | exact ⟨rfl, by decide, by decide⟩)
theorem decM_sub {xs : List Int} {c s : Int} {d : ByteArray} (h : decM xs = .inr (c, s, d)) : c ≠ 0 ∧ 0 ≤ s ∧ s ≤ mostS c := by
  have m1 : mostS 1 = 3 := rfl
  have m2 : mostS 2 = 6 := rfl
  have m3 : mostS 3 = 11 := rfl
  have m6 : mostS 6 = 1 := rfl
  unfold decM at h
  split at h
  · rename_i hne
    have e : (sizeR xs.length (fOf xs)).2 = (c, s, d) := Sum.inr.inj h
    have hs := sizeR_sub _ _ hne
    rw [e] at hs
    obtain ⟨h1, h2, h3⟩ := hs
    have h1' : c = 1 := h1
    rw [h1', m1]
    exact ⟨by decide, h2, h3⟩
  split at h
  · cases h; exact ⟨by decide, by decide, by rw [m1]; decide⟩
  unfold bodyM at h
  split at h
  · split at h
    · cases h
    · rename_i s' d' ho
      cases h
      unfold openR at ho
      refine ⟨by decide, ?_⟩
      rw [m2]
      split at ho
      · cases ho; decide
      split at ho
      · cases ho; decide
      split at ho
      · cases ho; decide
      split at ho
      · cases ho; decide
      split at ho
      · cases ho; decide
      split at ho
      · cases ho
      · rename_i s2 hs2
        cases ho
        rcases optsR_sub _ _ _ (Nat.le_refl _) hs2 with rfl | rfl <;> decide
  split at h
  · split at h
    · cases h
    · rename_i f hu
      cases h
      unfold updR at hu
      split at hu
      · cases hu; exact ⟨by decide, by decide, by rw [m3]; decide⟩
      split at hu
      · cases hu; exact ⟨by decide, by decide, by rw [m3]; decide⟩
      split at hu
      · cases hu; exact ⟨by decide, by decide, by rw [m3]; decide⟩
      split at hu
      · rename_i s2 d2 hd2
        cases hu
        have := decD_sub _ _ _ _ (Nat.le_refl _) hd2
        exact ⟨by decide, this.1, by rw [m3]; exact this.2⟩
      split at hu
      · cases hu; exact ⟨by decide, by decide, by rw [m3]; decide⟩
      split at hu
      · cases hu; exact ⟨by decide, by decide, by rw [m6]; decide⟩
      split at hu
      · cases hu; exact ⟨by decide, by decide, by rw [m3]; decide⟩
      · cases hu
  split at h <;> cases h

def AtD.m (a : AtD) : AtL := ⟨a.has, a.origin, none, 0, a.path.map fun p => ⟨p.1, none, 0, p.2⟩, a.hop, a.med, a.loc, a.aas, a.aid, none, 0, a.comms, none, 0, a.others.map fun p => ⟨p.1, none, 0, p.2⟩⟩
def MsD.m (d : MsD) : MsL := ⟨d.kind, d.asn, d.hold, d.id, none, 0, d.caps.map fun p => ⟨p.1, none, 0, p.2⟩, none, 0, d.gone, d.atr.m, none, 0, d.nets, d.fc, d.fs, d.fd⟩

theorem Bys.drop {xs : List Int} (h : Bys xs) (n : Nat) : Bys (xs.drop n) := fun x hx => h x (List.mem_of_mem_drop hx)
theorem Bys.take {xs : List Int} (h : Bys xs) (n : Nat) : Bys (xs.take n) := fun x hx => h x (List.mem_of_mem_take hx)


def DecIs (xs : List Int) (C S : Int) (d : ByteArray) (md : MsD) : Prop := match decM xs with
  | .inr f => f = (C, S, d) ∧ md = (MsL.zero 0).d
  | .inl y => C = 0 ∧ S = 0 ∧ d = ⟨#[]⟩ ∧ md = y


theorem szL_ge {xs : List Int} (h : (sizeR xs.length (fOf xs)).2.1 = 0) : 19 ≤ szL xs := by
  rcases sizeR_cases xs.length (fOf xs) with ⟨C, S, d, e, hC⟩ | ⟨e, _, _, h, _⟩
  · rw [e] at h; exact absurd h hC
  · have : szL xs = (lenI (fOf xs)).toNat := by unfold szL; rw [e]
    omega
theorem feedM_both : ∀ (n : Nat) (acc : List MsD) (xs : List Int) (ms : List MsD) (f : Option (Int × Int × ByteArray)) (rest : List Int), xs.length ≤ n → feedM acc xs = (ms, f, rest) → ms.length + rest.length ≤ acc.length + xs.length
  | n, acc, xs, ms, f, rest, hn, h => by
    by_cases h1 : xs.length < 19
    · rw [feedM_few h1] at h; cases h; omega
    · by_cases h2 : (sizeR xs.length (fOf xs)).2.1 = 0
      · by_cases h3 : xs.length < szL xs
        · rw [feedM_wait h1 h2 h3] at h; cases h; omega
        · cases hd : decM (xs.take (szL xs)) with
          | inr f => rw [feedM_flt h1 h2 h3 hd] at h; cases h; show _ + 0 ≤ _; omega
          | inl m =>
            have hz := szL_ge h2
            rw [feedM_on h1 h2 h3 hd] at h
            match n with
            | 0 => omega
            | n + 1 =>
              have := feedM_both n _ _ _ _ _ (by rw [List.length_drop]; omega) h
              rw [List.length_drop, List.length_append, List.length_cons, List.length_nil] at this
              omega
      · rw [feedM_bad h1 rfl h2] at h; cases h; show _ + 0 ≤ _; omega

structure MsD.Fit (m : MsD) : Prop where
  kind : 1 ≤ m.kind ∧ m.kind ≤ 4
  id : U32 m.id
  hold : m.hold = 0 ∨ 3 ≤ m.hold ∧ m.hold ≤ 65535
theorem zero_fit {k : Int} (h : 1 ≤ k ∧ k ≤ 4) : ((MsL.zero k).d).Fit := ⟨h, zero_u, .inl rfl⟩
theorem openR_fit {xs : List Int} {cs : List (Int × List Int)} (hB : Bys xs) (h : openR xs = .inl cs) : U32 (idB xs) ∧ (holdB xs = 0 ∨ 3 ≤ holdB xs ∧ holdB xs ≤ 65535) := by
  have a3 := fOf_b hB 3
  have a4 := fOf_b hB 4
  have hid : 0 ≤ idB xs ∧ idB xs ≤ 4294967295 := addrI_b ((hB.take 9).drop 5)
  have eh : holdB xs = fOf xs 3 * 256 + fOf xs 4 := rfl
  unfold openR at h
  split at h
  · cases h
  split at h
  · cases h
  split at h
  · cases h
  · exact ⟨hid, by omega⟩
theorem decM_fit {xs : List Int} {m : MsD} (hB : Bys xs) (h : decM xs = .inl m) : m.Fit := by
  unfold decM at h
  split at h
  · cases h
  rename_i hz
  split at h
  · cases h
  have hk : 1 ≤ fOf xs 18 ∧ fOf xs 18 ≤ 4 := by
    rcases sizeR_cases xs.length (fOf xs) with ⟨C, S, d, e, hC⟩ | ⟨_, _, _, _, _, h1, h2, _⟩
    · rw [e] at hz; exact absurd hC hz
    · exact ⟨h1, h2⟩
  unfold bodyM at h
  split at h
  · split at h
    · rename_i ho
      cases h
      have := openR_fit (Bys.drop hB 19) ho
      exact ⟨hk, this.1, this.2⟩
    · cases h
  split at h
  · split at h
    · cases h
      exact ⟨hk, zero_u, .inl rfl⟩
    · cases h
  split at h
  · cases h
    exact ⟨hk, zero_u, .inl rfl⟩
  · cases h
    exact zero_fit hk
def FltOk (f : Int × Int × ByteArray) : Prop := (f.1 = 1 ∨ f.1 = 2 ∨ f.1 = 3 ∨ f.1 = 6) ∧ (0 ≤ f.2.1 ∧ f.2.1 ≤ 11) ∧ f.2.2.size ≤ 4075
theorem takeD_data {d : AtD} {all v : List Int} {s : Int} {x : ByteArray} (h : takeD d all v = .inr (s, x)) : x.size ≤ all.length := by
  have e : (strOf all).size = all.length := str_size _ _
  unfold takeD at h
  repeat' split at h
  all_goals first | (cases h; rw [e]; exact Nat.le_refl _) | (cases h; exact Nat.zero_le _) | cases h
theorem otherD_data {d : AtD} {all v : List Int} {s : Int} {x : ByteArray} (h : otherD d all v = .inr (s, x)) : x.size ≤ all.length := by
  have e : (strOf all).size = all.length := str_size _ _
  unfold otherD at h
  repeat' split at h
  all_goals first | (cases h; rw [e]; exact Nat.le_refl _) | cases h
theorem decD_data : ∀ (n : Nat) (d : AtD) (seen xs : List Int) {s : Int} {x : ByteArray}, xs.length ≤ n → decD d seen xs = .inr (s, x) → x.size ≤ xs.length
  | _, d, seen, [], s, x, _, h => by rw [decD_nil] at h; cases h
  | 0, d, seen, y :: xs, s, x, hn, _ => by simp at hn
  | n + 1, d, seen, y :: xs, s, x, hn, h => by
    by_cases hc : (y :: xs).length < fromN (y :: xs) ∨ (y :: xs).length < toN (y :: xs) ∨ fOf (y :: xs) 1 ∈ seen
    · rw [decD_bad (by simp) hc] at h; cases h; exact Nat.zero_le _
    · rw [decD_step (by simp) hc] at h
      have hf := fromN_b (y :: xs)
      have ht := toN_ge (y :: xs)
      cases hs : stepD d ((y :: xs).take (toN (y :: xs))) (((y :: xs).take (toN (y :: xs))).drop (fromN (y :: xs))) with
      | inr f =>
        rw [hs] at h
        cases h
        have hl : ((y :: xs).take (toN (y :: xs))).length ≤ (y :: xs).length := by rw [List.length_take]; omega
        unfold stepD at hs
        split at hs
        · exact Nat.le_trans (takeD_data hs) hl
        · exact Nat.le_trans (otherD_data hs) hl
      | inl d2 =>
        rw [hs] at h
        have := decD_data n d2 _ _ (by rw [List.length_drop]; omega) h
        rw [List.length_drop] at this
        omega
theorem countR_len {xs g r : List Int} (hB : Bys xs) (h : countR xs = some (g, r)) : g.length + r.length + 2 ≤ xs.length := by
  have a0 := fOf_b hB 0
  have a1 := fOf_b hB 1
  unfold countR at h
  split at h
  · cases h
  · cases h
    rw [List.length_take, List.length_drop, List.length_drop]
    omega
theorem sizeR_flt {n : Nat} {f : Nat → Int} (hne : (sizeR n f).2.1 ≠ 0) : FltOk (sizeR n f).2 := by
  have h := sizeR_sub n f hne
  refine ⟨.inl h.1, ⟨h.2.1, by omega⟩, ?_⟩
  have hd : (sizeR n f).2.2.2.size ≤ 2 := by
    unfold sizeR
    repeat' split
    all_goals first | exact Nat.zero_le _ | (show ByteArray.size (str _ _) ≤ 2; rw [str_size]; omega)
  omega
theorem decM_flt {xs : List Int} {f : Int × Int × ByteArray} (hB : Bys xs) (hn : xs.length ≤ 4096) (h : decM xs = .inr f) : FltOk f := by
  have h2s : (str (fun i => fOf xs (16 + i)) 2).size = 2 := str_size _ _
  obtain ⟨c, s, d⟩ := f
  have hsub := decM_sub h
  have m1 : mostS 1 = 3 := rfl
  have m2 : mostS 2 = 6 := rfl
  have m3 : mostS 3 = 11 := rfl
  have m6 : mostS 6 = 1 := rfl
  have key : (c = 1 ∨ c = 2 ∨ c = 3 ∨ c = 6) ∧ d.size ≤ 4075 := by
    unfold decM at h
    split at h
    · rename_i hne
      have e : (sizeR xs.length (fOf xs)).2 = (c, s, d) := Sum.inr.inj h
      have hs := sizeR_flt hne
      rw [e] at hs
      exact ⟨hs.1, hs.2.2⟩
    split at h
    · cases h; exact ⟨.inl rfl, by rw [h2s]; decide⟩
    unfold bodyM at h
    split at h
    · split at h
      · cases h
      · rename_i s' d' ho
        cases h
        refine ⟨.inr (.inl rfl), ?_⟩
        unfold openR at ho
        repeat' split at ho
        all_goals first | (cases ho; exact (by decide : (4 : Nat) ≤ 4075) |> fun _ => (by first | exact Nat.zero_le _ | decide)) | cases ho
    split at h
    · split at h
      · cases h
      · rename_i f hu
        cases h
        unfold updR at hu
        split at hu
        · cases hu; exact ⟨.inr (.inr (.inl rfl)), Nat.zero_le _⟩
        rename_i g r hc1
        have l1 := countR_len (Bys.drop hB 19) hc1
        have hBr : Bys r := by
          unfold countR at hc1
          split at hc1
          · cases hc1
          · cases hc1; exact (hB.drop 19).drop _
        split at hu
        · cases hu; exact ⟨.inr (.inr (.inl rfl)), Nat.zero_le _⟩
        rename_i sx nx hc2
        have l2 := countR_len hBr hc2
        rw [List.length_drop] at l1
        split at hu
        · cases hu; exact ⟨.inr (.inr (.inl rfl)), Nat.zero_le _⟩
        split at hu
        · rename_i s2 d2 hd2
          cases hu
          have := decD_data _ _ _ _ (Nat.le_refl _) hd2
          exact ⟨.inr (.inr (.inl rfl)), by omega⟩
        split at hu
        · cases hu; exact ⟨.inr (.inr (.inl rfl)), Nat.zero_le _⟩
        split at hu
        · cases hu; exact ⟨.inr (.inr (.inr rfl)), Nat.zero_le _⟩
        split at hu
        · cases hu
          exact ⟨.inr (.inr (.inl rfl)), by unfold oneS; rw [str_size]; decide⟩
        · cases hu
    split at h <;> cases h
  refine ⟨key.1, ⟨hsub.2.1, ?_⟩, key.2⟩
  rcases key.1 with e | e | e | e
  all_goals (have h3 := hsub.2.2; rw [e] at h3; show s ≤ 11; omega)
theorem feedM_fit : ∀ (n : Nat) (acc : List MsD) (xs : List Int), xs.length ≤ n → Bys xs → (∀ m ∈ acc, m.Fit) → (∀ m ∈ (feedM acc xs).1, m.Fit) ∧ (∀ f, (feedM acc xs).2.1 = some f → FltOk f) ∧ Bys (feedM acc xs).2.2 := by
  intro n
  induction n with
  | zero =>
    intro acc xs h hB ha
    rw [feedM_few (by omega)]
    exact ⟨ha, fun f e => (by cases e), hB⟩
  | succ n ih =>
    intro acc xs h hB ha
    by_cases h19 : xs.length < 19
    · rw [feedM_few h19]
      exact ⟨ha, fun f e => (by cases e), hB⟩
    by_cases hz : (sizeR xs.length (fOf xs)).2.1 = 0
    · by_cases hw : xs.length < szL xs
      · rw [feedM_wait h19 hz hw]
        exact ⟨ha, fun f e => (by cases e), hB⟩
      · have hs : szL xs ≤ 4096 ∧ 0 < szL xs := by
          rcases sizeR_cases xs.length (fOf xs) with ⟨C, S, d, e, hC⟩ | ⟨e, _, _, h1, h2, _⟩
          · rw [e] at hz; exact absurd hz hC
          · unfold szL; rw [e]; dsimp only; omega
        have hB1 : Bys (xs.take (szL xs)) := Bys.take hB _
        cases hd : decM (xs.take (szL xs)) with
        | inr f =>
          rw [feedM_flt h19 hz hw hd]
          exact ⟨ha, fun g e => (by cases e; exact decM_flt hB1 (by rw [List.length_take]; omega) hd), Bys.nil⟩
        | inl m =>
          rw [feedM_on h19 hz hw hd]
          refine ih _ _ (by rw [List.length_drop]; omega) (Bys.drop hB _) fun x hx => ?_
          rcases List.mem_append.1 hx with hx | hx
          · exact ha x hx
          · obtain rfl := List.mem_singleton.1 hx
            exact decM_fit hB1 hd
    · rw [feedM_bad h19 rfl hz]
      refine ⟨ha, fun f e => ?_, Bys.nil⟩
      cases e
      exact sizeR_flt hz
end Go.Proofs.YtcmpamnhegndnaaGreatDoor
