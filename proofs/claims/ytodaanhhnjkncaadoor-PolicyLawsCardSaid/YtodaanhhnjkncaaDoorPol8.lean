/- policy: run, par, seq. -/
import Derived.Test.YtodaanhhnjkncaaDoorPol7
import Derived.Test.YtodaanhhnjkncaaDoorActP
namespace Go.Proofs.YtodaanhhnjkncaaDoor
open Go.RowKit

/-- One stage of a sequence: what each header gives, gathered. -/
def seqStep (f : Hd → Option (List Hd)) : List Hd → List Hd → Option (List Hd)
  | [], nx => some nx
  | g :: gs, nx => (f g).bind fun out => (gatherT nx out).bind fun nx' => seqStep f gs nx'
mutual
/-- What a policy makes of a header, in the order in which it comes. -/
def runT : Nd → Hd → Option (List Hd)
  | .mk k f v _ _ _ kids, H =>
    if k = 12 then some [H]
    else if k = 13 then (if (holdsKs H kids).getD 0 false then some [H] else some [])
    else if k = 14 then some [wthF f.toNat v H]
    else if k = 15 then parKs kids H []
    else if k = 16 then seqKs kids [H]
    else if k = 17 then (if (holdsKs H kids).getD 0 false then nthKs kids 1 H else nthKs kids 2 H)
    else some []
def parKs : List Nd → Hd → List Hd → Option (List Hd)
  | [], _, all => some all
  | t :: ts, H, all => (runT t H).bind fun out => (gatherT all out).bind fun all' => parKs ts H all'
def seqKs : List Nd → List Hd → Option (List Hd)
  | [], all => some all
  | t :: ts, all => (seqStep (fun g => runT t g) all []).bind fun next => seqKs ts next
def nthKs : List Nd → Nat → Hd → Option (List Hd)
  | [], _, _ => none
  | t :: _, 0, H => runT t H
  | _ :: ts, i + 1, H => nthKs ts i H
end
theorem runT_eq (t : Nd) (H : Hd) : runT t H =
    if t.kind = 12 then some [H]
    else if t.kind = 13 then (if (t.kids.map (holdsT H)).getD 0 false then some [H] else some [])
    else if t.kind = 14 then some [wthF t.f.toNat t.val H]
    else if t.kind = 15 then parKs t.kids H []
    else if t.kind = 16 then seqKs t.kids [H]
    else if t.kind = 17 then (if (t.kids.map (holdsT H)).getD 0 false then nthKs t.kids 1 H else nthKs t.kids 2 H)
    else some [] := by
  cases t; rw [runT, holdsKs_map]; rfl
theorem nthKs_get : ∀ (ts : List Nd) (i : Nat) (u : Nd) (H : Hd), ts[i]? = some u → nthKs ts i H = runT u H
  | [], _, _, _, h => by simp at h
  | t :: ts, 0, u, H, h => by
    simp only [List.getElem?_cons_zero, Option.some.injEq] at h
    subst h; rw [nthKs]
  | t :: ts, i + 1, u, H, h => by
    rw [List.getElem?_cons_succ] at h
    rw [nthKs]; exact nthKs_get ts i u H h
/-- A list that may be carried on. -/
structure Good (Rs : List Hd) : Prop where
  len : Rs.length ≤ 64
  all : ∀ x ∈ Rs, x.In
theorem Good.nil : Good [] := ⟨by decide, fun x h => by cases h⟩
theorem Good.one {H : Hd} (h : H.In) : Good [H] := ⟨show 1 ≤ 64 by omega, fun x hx => by rw [List.mem_singleton.1 hx]; exact h⟩
theorem gatherT_good {As Bs Rs : List Hd} (hA : Good As) (hB : ∀ x ∈ Bs, x.In) (e : gatherT As Bs = some Rs) : Good Rs :=
  ⟨gatherT_len Bs As Rs hA.len e, fun x hx => (gatherT_mem Bs As Rs e x hx).elim (hA.all x) (hB x)⟩
theorem seqStep_good {f : Hd → Option (List Hd)} (hf : ∀ g, g.In → ∀ out, f g = some out → Good out) : ∀ (all nx R : List Hd), (∀ g ∈ all, g.In) → Good nx → seqStep f all nx = some R → Good R
  | [], nx, R, _, hn, e => by rw [seqStep] at e; cases e; exact hn
  | g :: gs, nx, R, ha, hn, e => by
    rw [seqStep] at e
    obtain ⟨out, h1, e⟩ := Option.bind_eq_some_iff.1 e
    obtain ⟨nx', h2, e⟩ := Option.bind_eq_some_iff.1 e
    exact seqStep_good hf gs nx' R (fun x hx => ha x (List.mem_cons_of_mem _ hx)) (gatherT_good hn (hf g (ha g (List.mem_cons_self ..)) out h1).all h2) e
/-- A Set's field and number are in their bounds. -/
theorem argE_set {t : Nd} (h : argE t = 0) (hk : t.kind = 14) : ∃ q : Nat, t.f = q ∧ q < 9 ∧ t.f.toNat = q ∧ t.val ≤ fullI q := by
  unfold argE at h
  rw [if_neg (by omega), if_pos hk] at h
  split at h
  · cases h
  · rename_i hh
    obtain ⟨q, e, hq, e2⟩ := isFld.nat (Classical.not_not.1 fun k => hh (.inl k))
    refine ⟨q, e, hq, e2, ?_⟩
    rw [← e2]
    exact Int.not_lt.1 fun k => hh (.inr (.inr (.inr k)))
mutual
theorem runT_good : ∀ (t : Nd) (pred : Bool) (H : Hd) (Rs : List Hd), okT pred t → t.In → H.In → runT t H = some Rs → Good Rs
  | .mk k f v m a c kids, pred, H, Rs, hk, hI, hH, e => by
    rw [runT] at e
    have hkids := hk.parts.2.2.2
    have hIk := hI.kids
    split at e
    · cases e; exact Good.one hH
    · split at e
      · split at e <;> (cases e; first | exact Good.one hH | exact Good.nil)
      · split at e
        · rename_i h14
          cases e
          obtain ⟨q, _, hq, e2, hv⟩ := argE_set hk.parts.2.1 h14
          have e3 : f.toNat = q := e2
          rw [e3]
          exact Good.one (wthF_in hH hI.nums.2.2.1.1 hv)
        · split at e
          · exact parKs_good k 0 kids H [] Rs hkids hIk hH Good.nil e
          · split at e
            · exact seqKs_good k 0 kids [H] Rs hkids hIk (Good.one hH) e
            · split at e
              · split at e
                · exact nthKs_good k 0 kids 1 H Rs hkids hIk hH e
                · exact nthKs_good k 0 kids 2 H Rs hkids hIk hH e
              · cases e; exact Good.nil
theorem parKs_good (k : Int) : ∀ (i : Nat) (ts : List Nd) (H : Hd) (all Rs : List Hd), okKs k i ts → KidsIn ts → H.In → Good all → parKs ts H all = some Rs → Good Rs
  | _, [], H, all, Rs, _, _, _, ha, e => by rw [parKs] at e; cases e; exact ha
  | i, t :: ts, H, all, Rs, hk, hI, hH, ha, e => by
    rw [parKs] at e
    unfold okKs at hk
    unfold KidsIn at hI
    obtain ⟨out, h1, e⟩ := Option.bind_eq_some_iff.1 e
    obtain ⟨all', h2, e⟩ := Option.bind_eq_some_iff.1 e
    exact parKs_good k (i + 1) ts H all' Rs hk.2 hI.2 hH (gatherT_good ha (runT_good t _ H out hk.1 hI.1 hH h1).all h2) e
theorem seqKs_good (k : Int) : ∀ (i : Nat) (ts : List Nd) (all Rs : List Hd), okKs k i ts → KidsIn ts → Good all → seqKs ts all = some Rs → Good Rs
  | _, [], all, Rs, _, _, ha, e => by rw [seqKs] at e; cases e; exact ha
  | i, t :: ts, all, Rs, hk, hI, ha, e => by
    rw [seqKs] at e
    unfold okKs at hk
    unfold KidsIn at hI
    obtain ⟨nx, h1, e⟩ := Option.bind_eq_some_iff.1 e
    exact seqKs_good k (i + 1) ts nx Rs hk.2 hI.2 (seqStep_good (fun g hg out ho => runT_good t _ g out hk.1 hI.1 hg ho) all [] nx ha.all Good.nil h1) e
theorem nthKs_good (k : Int) : ∀ (i : Nat) (ts : List Nd) (j : Nat) (H : Hd) (Rs : List Hd), okKs k i ts → KidsIn ts → H.In → nthKs ts j H = some Rs → Good Rs
  | _, [], j, H, Rs, _, _, _, e => by rw [nthKs] at e; cases e
  | i, t :: ts, 0, H, Rs, hk, hI, hH, e => by
    rw [nthKs] at e
    unfold okKs at hk
    unfold KidsIn at hI
    exact runT_good t _ H Rs hk.1 hI.1 hH e
  | i, t :: ts, j + 1, H, Rs, hk, hI, hH, e => by
    rw [nthKs] at e
    unfold okKs at hk
    unfold KidsIn at hI
    exact nthKs_good k (i + 1) ts j H Rs hk.2 hI.2 hH e
end
end Go.Proofs.YtodaanhhnjkncaaDoor
