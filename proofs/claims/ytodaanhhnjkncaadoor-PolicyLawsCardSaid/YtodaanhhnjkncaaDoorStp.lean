/- The engine's steps: regions, calls, branches, loops, returns. -/
import Derived.Test.YtodaanhhnjkncaaDoorEng
namespace Go.Proofs.YtodaanhhnjkncaaDoor
open Go.RowKit

section
variable {P : Program} {ops : Array Oper} {Q : Exit → Act → World → Prop} {n : Nat} {p : Nat → Prop} {w0 : World} {o : Oper} {rest : List Oper} {l : Kn} {L : List Ent}

def WL (P : Program) (ops : Array Oper) (Q : Exit → Act → World → Prop) (n : Nat) (p : Nat → Prop) (w0 : World) (rest : List Oper) (l : Kn) (L : List Ent) : Prop :=
  ∀ a w, Has n a l → St p w0 w L → wpList P ops Q rest a w
def WC (P : Program) (c : Code) (Q : Exit → Act → World → Prop) (n : Nat) (p : Nat → Prop) (w0 : World) (l : Kn) (L : List Ent) : Prop :=
  ∀ a w, Has n a l → St p w0 w L → c.wp P Q a w
def WE (Q : Exit → Act → World → Prop) (e : Exit) (n : Nat) (p : Nat → Prop) (w0 : World) (l : Kn) (L : List Ent) : Prop :=
  ∀ a w, Has n a l → St p w0 w L → Q e a w
def WQ (P : Program) (ops : Array Oper) (K : Act → World → Prop) (n : Nat) (p : Nat → Prop) (w0 : World) (rest : List Oper) (l : Kn) (L : List Ent) : Prop :=
  ∀ a, Has n a l → wpQuiet P ops (fun w => St p w0 w L) (fun a' => ∀ w', St p w0 w' L → K a' w') rest a
/-- In a frame of which l is known, in a world of the class, an operation yields v and leaves the world as it is. -/
def Val (P : Program) (C : World → Prop) (n : Nat) (l : Kn) (o : Oper) (v : Value) : Prop := ∀ a w, Has n a l → C w → (execOp a.eval o).run P w = .ok (.value v) w

theorem wanted_none (hg : o.guard = none) (f : Nat → Option Bool) : Region.wanted o f = true := by simp [Region.wanted, hg]
theorem wanted_some {j dj : Nat} {b : Bool} {a : Act} (hg : o.guard = some (j, b)) (hj : (ops[j]?).bind (·.dst) = some dj) (ha : Has n a l) (hl : look l dj = some (.bool b)) : Region.wanted o (yielded ops a.tmps) = true := by
  have h := ha.got dj _ hl
  have h2 : a.tmps[dj]? = some (.bool b) := by
    rw [Array.getD_eq_getD_getElem?] at h
    cases hq : a.tmps[dj]? with
    | none => rw [hq] at h; simp [undef] at h
    | some x => rw [hq] at h; simpa using h
  simp [Region.wanted, hg, yielded, hj, h2]
def isB (v : Value) (b : Bool) : Bool := match v with | .bool c => c == b | _ => false
theorem wanted_not {j dj : Nat} {b : Bool} {v : Value} {a : Act} (hg : o.guard = some (j, b)) (hj : (ops[j]?).bind (·.dst) = some dj) (ha : Has n a l) (hl : look l dj = some v) (hv : isB v b = false) : Region.wanted o (yielded ops a.tmps) = false := by
  have h := ha.got dj _ hl
  unfold Region.wanted
  rw [hg]
  simp only [yielded, hj, Option.bind_some]
  rw [Array.getD_eq_getD_getElem?] at h
  cases hq : a.tmps[dj]? with
  | none => simp
  | some x =>
    rw [hq] at h
    simp only [Option.getD_some] at h
    subst h
    cases x <;> simp_all [isB]

/-- An operation takes part: it has no guard, or its guard says so. -/
def On (ops : Array Oper) (o : Oper) (l : Kn) : Prop := o.guard = none ∨ ∃ j dj b, o.guard = some (j, b) ∧ (ops[j]?).bind (·.dst) = some dj ∧ look l dj = some (.bool b)
theorem On.none (hg : o.guard = Option.none) : On ops o l := .inl hg
theorem On.some {j dj : Nat} {b : Bool} (hg : o.guard = Option.some (j, b)) (hj : (ops[j]?).bind (·.dst) = Option.some dj) (hl : look l dj = Option.some (.bool b)) : On ops o l := .inr ⟨j, dj, b, hg, hj, hl⟩
theorem On.ok {a : Act} (h : On ops o l) (ha : Has n a l) : Region.wanted o (yielded ops a.tmps) = true := by
  rcases h with hg | ⟨j, dj, b, hg, hj, hl⟩
  · exact wanted_none hg _
  · exact wanted_some hg hj ha hl

theorem wpList_on {a : Act} {w : World} (hw : Region.wanted o (yielded ops a.tmps) = true) (h : o.wp P a w (wpList P ops Q rest) Q) : wpList P ops Q (o :: rest) a w := by
  unfold wpList; rw [if_pos hw]; exact .inl h

theorem WL.nil (h : WE Q .normal n p w0 l L) : WL P ops Q n p w0 [] l L := h
theorem WL.val {d : Nat} {v : Value} (hv : Val P (fun w => St p w0 w L) n l o v) (hg : On ops o l) (hd : o.dst = some d) (hn : Nat.blt d n = true)
    (h : WL P ops Q n p w0 rest ((d, v) :: l) L) : WL P ops Q n p w0 (o :: rest) l L := by
  intro a w ha hS
  refine wpList_on (hg.ok ha) ?_
  unfold Oper.wp
  rw [hv a w ha hS]
  exact h _ _ (ha.put_any hd hn v) hS
theorem WL.skip {j dj d : Nat} {b : Bool} {v : Value} (hg : o.guard = some (j, b)) (hj : (ops[j]?).bind (·.dst) = some dj) (hl : look l dj = some v) (hv : isB v b = false) (hd : o.dst = some d) (hn : Nat.blt d n = true)
    (h : WL P ops Q n p w0 rest ((d, undef) :: l) L) : WL P ops Q n p w0 (o :: rest) l L := by
  intro a w ha hS
  unfold wpList
  rw [if_neg (by rw [wanted_not hg hj ha hl hv]; decide)]
  exact h _ _ (ha.put_any hd hn _) hS
theorem WL.op {d : Nat} (hg : On ops o l) (hd : o.dst = some d) (hn : Nat.blt d n = true)
    (h : ∀ a w, Has n a l → St p w0 w L → ∃ v w' L', (execOp a.eval o).run P w = .ok (.value v) w' ∧ St p w0 w' L' ∧ WL P ops Q n p w0 rest ((d, v) :: l) L') : WL P ops Q n p w0 (o :: rest) l L := by
  intro a w ha hS
  refine wpList_on (hg.ok ha) ?_
  obtain ⟨v, w', L', hr, hS', hK⟩ := h a w ha hS
  unfold Oper.wp
  rw [hr]
  exact hK _ _ (ha.put_any hd hn v) hS'
/-- .. whose value goes nowhere, or that has none. -/
theorem WL.act (hg : On ops o l) (hd : o.dst = none)
    (h : ∀ a w, Has n a l → St p w0 w L → ∃ w' L', ((execOp a.eval o).run P w = .ok .skip w' ∨ ∃ v, (execOp a.eval o).run P w = .ok (.value v) w') ∧ St p w0 w' L' ∧ WL P ops Q n p w0 rest l L') : WL P ops Q n p w0 (o :: rest) l L := by
  intro a w ha hS
  refine wpList_on (hg.ok ha) ?_
  obtain ⟨w', L', hr, hS', hK⟩ := h a w ha hS
  unfold Oper.wp
  rcases hr with hr | ⟨v, hr⟩ <;> rw [hr]
  · exact hK _ _ (by rw [hd]; exact ha) hS'
  · exact hK _ _ (by rw [hd]; exact ha) hS'

theorem WQ.nil (h : WE Q .normal n p w0 l L) : WQ P ops (Q .normal) n p w0 [] l L := fun a ha w hS => h a w ha hS
theorem WQ.nilT {os : List Oper} (h : WL P ops Q n p w0 os l L) : WQ P ops (fun a w => wpList P ops Q os a w) n p w0 [] l L := fun a ha w hS => h a w ha hS
theorem WQ.val {K : Act → World → Prop} {d : Nat} {v : Value} (hv : Val P (fun w => St p w0 w L) n l o v) (hg : On ops o l) (hd : o.dst = some d) (hn : Nat.blt d n = true)
    (h : WQ P ops K n p w0 rest ((d, v) :: l) L) : WQ P ops K n p w0 (o :: rest) l L := by
  intro a ha
  unfold wpQuiet
  rw [if_pos (hg.ok ha)]
  refine ⟨v, fun w hS => ?_, h _ (ha.put_any hd hn v)⟩
  unfold Oper.quietAt
  rw [hv a w ha hS]
  exact ⟨rfl, rfl⟩
theorem WQ.skip {K : Act → World → Prop} {j dj d : Nat} {b : Bool} {v : Value} (hg : o.guard = some (j, b)) (hj : (ops[j]?).bind (·.dst) = some dj) (hl : look l dj = some v) (hv : isB v b = false) (hd : o.dst = some d) (hn : Nat.blt d n = true)
    (h : WQ P ops K n p w0 rest ((d, undef) :: l) L) : WQ P ops K n p w0 (o :: rest) l L := by
  intro a ha
  unfold wpQuiet
  rw [if_neg (by rw [wanted_not hg hj ha hl hv]; decide)]
  exact h _ (ha.put_any hd hn _)

/-! ### Calls -/
def callOk (P : Program) (f : FuncId) : Prop := ∀ (args : Array Value) (w : World), (callFunc f args).run P w = .ok (.enter f args) w
theorem callOk_of {f : FuncId} {fn : Func} {c : Code} (hf : P.funcs[f]? = some fn) (hname : (fn.name == "runtime.NumGoroutine") = false) (hb : fn.body = some c) : callOk P f := fun args w => by
  unfold callFunc
  have hne : ¬ fn.name = "runtime.NumGoroutine" := by simpa using hname
  simp [program, Sem.run, hf, hne, hb]
def evs (l : Kn) : List Operand → Option (List Value)
  | [] => some []
  | x :: xs => match ev l x, evs l xs with | some v, some vs => some (v :: vs) | _, _ => none
theorem Has.evs {a : Act} (h : Has n a l) : ∀ {xs : List Operand} {vs : List Value}, evs l xs = some vs → xs.map a.eval = vs
  | [], vs, hx => by simpa [YtodaanhhnjkncaaDoor.evs] using hx
  | x :: xs, vs, hx => by
    unfold YtodaanhhnjkncaaDoor.evs at hx
    split at hx
    · rename_i v vs' h1 h2
      simp only [Option.some.injEq] at hx
      subst hx
      simp [h.ev h1, h.evs h2]
    · cases hx
theorem run_call {a : Act} {f : FuncId} {x : Operand} {xs : List Operand} {ts : Array TypeId} {vs : List Value} {fi cap : Array Value} {w : World} (ho : o.op = .call { callee := .value x, args := xs.toArray, argTypes := ts })
    (hfv : ev l x = some (.func (.func f) fi cap)) (hx : evs l xs = some vs) (hf : callOk P f) (ha : Has n a l) :
    (execOp a.eval o).run P w = .ok (.enter f (fi ++ vs.toArray ++ cap)) w := by
  have h1 := ha.ev hfv
  have h2 := ha.evs hx
  unfold execOp
  have hf' := fun args => hf args w
  simp [ho, resolve, h1, Deferred.ofValue, invoke, hf', ← h2]

theorem WL.callV {f : FuncId} {x : Operand} {xs : List Operand} {ts : Array TypeId} {vs : List Value} {fi cap : Array Value} {d : Nat} (ho : o.op = .call { callee := .value x, args := xs.toArray, argTypes := ts })
    (hfv : ev l x = some (.func (.func f) fi cap)) (hx : evs l xs = some vs) (hf : callOk P f) (hg : On ops o l) (hd : o.dst = some d) (hn : Nat.blt d n = true)
    (h : ∀ w, St p w0 w L → Calls P f (fi ++ vs.toArray ++ cap) w fun e w' => ∃ v L', e = .returned v ∧ St p w0 w' L' ∧ WL P ops Q n p w0 rest ((d, v) :: l) L') : WL P ops Q n p w0 (o :: rest) l L := by
  intro a w ha hS
  refine wpList_on (hg.ok ha) ?_
  unfold Oper.wp
  rw [run_call ho hfv hx hf ha]
  refine (h w hS).mono ?_
  rintro e w' ⟨v, L', rfl, hS', hK⟩
  exact hK _ _ (ha.put_any hd hn v) hS'
theorem WL.call {f : FuncId} {xs : List Operand} {ts : Array TypeId} {vs : List Value} {d : Nat} (ho : o.op = .call { callee := .value (.func f), args := xs.toArray, argTypes := ts })
    (hx : evs l xs = some vs) (hf : callOk P f) (hg : On ops o l) (hd : o.dst = some d) (hn : Nat.blt d n = true)
    (h : ∀ w, St p w0 w L → Calls P f vs.toArray w fun e w' => ∃ v L', e = .returned v ∧ St p w0 w' L' ∧ WL P ops Q n p w0 rest ((d, v) :: l) L') : WL P ops Q n p w0 (o :: rest) l L :=
  WL.callV (l := l) ho rfl hx hf hg hd hn (fun w hS => by simpa using h w hS)
theorem WQ.callV {K : Act → World → Prop} {f : FuncId} {x : Operand} {xs : List Operand} {ts : Array TypeId} {vs : List Value} {fi cap : Array Value} {d : Nat} (v : Value) (ho : o.op = .call { callee := .value x, args := xs.toArray, argTypes := ts })
    (hfv : ev l x = some (.func (.func f) fi cap)) (hx : evs l xs = some vs) (hf : callOk P f) (hg : On ops o l) (hd : o.dst = some d) (hn : Nat.blt d n = true)
    (hc : ∀ w, St p w0 w L → Calls P f (fi ++ vs.toArray ++ cap) w fun e w' => e = .returned v ∧ St p w0 w' L) (h : WQ P ops K n p w0 rest ((d, v) :: l) L) : WQ P ops K n p w0 (o :: rest) l L := by
  intro a ha
  unfold wpQuiet
  rw [if_pos (hg.ok ha)]
  refine ⟨v, fun w hS => ?_, h _ (ha.put_any hd hn v)⟩
  unfold Oper.quietAt
  rw [run_call ho hfv hx hf ha]
  exact ⟨rfl, hc w hS⟩
theorem WQ.call {K : Act → World → Prop} {f : FuncId} {xs : List Operand} {ts : Array TypeId} {vs : List Value} {d : Nat} (v : Value) (ho : o.op = .call { callee := .value (.func f), args := xs.toArray, argTypes := ts })
    (hx : evs l xs = some vs) (hf : callOk P f) (hg : On ops o l) (hd : o.dst = some d) (hn : Nat.blt d n = true)
    (hc : ∀ w, St p w0 w L → Calls P f vs.toArray w fun e w' => e = .returned v ∧ St p w0 w' L) (h : WQ P ops K n p w0 rest ((d, v) :: l) L) : WQ P ops K n p w0 (o :: rest) l L :=
  WQ.callV (l := l) v ho rfl hx hf hg hd hn (fun w hS => by simpa using hc w hS) h
/-- A contract that leaves all that was there alone. -/
theorem Calls.still {f : FuncId} {args : Array Value} {w : World} {v : Value} (h : Calls P f args w fun e w' => e = .returned v ∧ Frm (fun _ => False) w w') (hS : St p w0 w L) :
    Calls P f args w fun e w' => e = .returned v ∧ St p w0 w' L := h.mono fun _ _ ⟨he, hf⟩ => ⟨he, hS.ext hf⟩
theorem Calls.drawn {f : FuncId} {args : Array Value} {w : World} {v : Value} (h : Calls P f args w fun e w' => e = .returned v ∧ ∃ m, w' = w.drewN m) :
    Calls P f args w fun e w' => e = .returned v ∧ Frm (fun _ => False) w w' := h.mono fun _ _ ⟨he, m, hw⟩ => ⟨he, by rw [hw]; exact Frm.drewN (Frm.refl _ _) m⟩
theorem Calls.same {f : FuncId} {args : Array Value} {w : World} {v : Value} (h : Calls P f args w fun e w' => e = .returned v ∧ w = w') :
    Calls P f args w fun e w' => e = .returned v ∧ Frm (fun _ => False) w w' := h.mono fun _ _ ⟨he, hw⟩ => ⟨he, by rw [← hw]; exact Frm.refl _ _⟩
theorem Calls.then {f : FuncId} {args : Array Value} {w : World} {v : Value} {d : Nat} (h : Calls P f args w fun e w' => e = .returned v ∧ Frm (fun _ => False) w w') (hS : St p w0 w L) (hK : WL P ops Q n p w0 rest ((d, v) :: l) L) :
    Calls P f args w fun e w' => ∃ v L', e = .returned v ∧ St p w0 w' L' ∧ WL P ops Q n p w0 rest ((d, v) :: l) L' := h.mono fun _ _ ⟨he, hf⟩ => ⟨v, L, he, hS.ext hf, hK⟩

theorem Calls.thenS {f : FuncId} {args : Array Value} {w : World} {v : Value} {d : Nat} {L' : List Ent} (h : Calls P f args w fun e w' => e = .returned v ∧ St p w0 w' L') (hK : WL P ops Q n p w0 rest ((d, v) :: l) L') :
    Calls P f args w fun e w' => ∃ v L', e = .returned v ∧ St p w0 w' L' ∧ WL P ops Q n p w0 rest ((d, v) :: l) L' := h.mono fun _ _ ⟨he, hS⟩ => ⟨v, L', he, hS, hK⟩
/-! ### Regions -/
theorem WC.region {id : Nat} {os : List Oper} (h : WL P os.toArray Q n p w0 os l L) : WC P (.region id os.toArray false) Q n p w0 l L := fun a w ha hS => wp_region_lit (h a w ha hS)
theorem WC.quiet {id : Nat} {os : List Oper} (hm : P.follows .mixedOrders = true) (hB : Region.lexB .any os.toArray = true) (h : WQ P os.toArray (Q .normal) n p w0 os l L) : WC P (.region id os.toArray true) Q n p w0 l L :=
  fun a _ ha hS => wp_region_quiet (C := fun w => St p w0 w L) hm hB hS.drew (h a ha)

theorem region_tailC {id : Nat} {a : Act} {w : World} {os : List Oper} (C : World → Prop) (k : Nat) (hm : P.follows .mixedOrders = true) (hB : Region.lexTailB .any os.toArray k = true) (hC : C w.drew)
    (h : wpQuiet P os.toArray C (fun a' => ∀ w', C w' → wpList P os.toArray Q (os.drop k) a' w') (os.take k) a) : (Code.region id os.toArray true).wp P Q a w := by
  simp only [Region.lexTailB, Bool.and_eq_true, decide_eq_true_eq] at hB
  obtain ⟨⟨⟨⟨hsel, hn⟩, hs⟩, hc⟩, hlex⟩ := hB
  have hn' : k < os.length := by simpa using hn
  have htl : (os.take k).length = k := by simp; omega
  have hdl : (os.drop k).length = os.toArray.size - k := by simp
  have inv0 : HeadInv .any os.toArray k (Array.replicate os.toArray.size false) :=
    ⟨by simp, fun j oj _ hl => (by rw [getD_replicate_false] at hl; cases hl), fun t _ ht => getD_in (by simpa using ht) (getD_replicate_false _ _)⟩
  have H := headQ_lex (md := .any) (g := os.toArray.size - k) hsel hs hc hn (os.take k) 0 _ a (fun j hj => by
    have hj' : j < k := by rw [htl] at hj; exact hj
    simp [hj']) (by simpa using htl) inv0 (by rw [htl]; exact hlex) h
  refine wp_region_any hm ?_
  have := any_of_headQ (Q' := Q) (g := os.toArray.size - k) (fun listed a' w' hC hL => by
    have := wpAny_of_seq (md := .any) (Q' := Q) (os.drop k) k listed a' w' (fun j => by simp [List.getElem?_drop]) (by rw [hdl]; exact hL.1) (hL.2 w' hC)
    rwa [hdl] at this) _ _ _ w.drew hC H
  rw [htl, show k + (os.toArray.size - k) = os.toArray.size by omega] at this
  exact this
theorem WC.tail {id : Nat} {os : List Oper} (k : Nat) (hm : P.follows .mixedOrders = true) (hB : Region.lexTailB .any os.toArray k = true)
    (h : WQ P os.toArray (fun a w => wpList P os.toArray Q (os.drop k) a w) n p w0 (os.take k) l L) : WC P (.region id os.toArray true) Q n p w0 l L :=
  fun a _ ha hS => region_tailC (fun w => St p w0 w L) k hm hB hS.drew (h a ha)

/-! ### Codes -/
theorem WC.seq {x y : Code} (h : WC P x (Exit.then (y.wp P Q) Q) n p w0 l L) : WC P (.seq x y) Q n p w0 l L := fun a w ha hS => wp_seq (h a w ha hS)
theorem WE.then_n {y : Code} (h : WC P y Q n p w0 l L) : WE (Exit.then (y.wp P Q) Q) .normal n p w0 l L := h
theorem WE.then_ret {K : Act → World → Prop} (h : WE Q .ret n p w0 l L) : WE (Exit.then K Q) .ret n p w0 l L := h
theorem WE.then_exit {K : Act → World → Prop} {id : Nat} (h : WE Q (.exit id) n p w0 l L) : WE (Exit.then K Q) (.exit id) n p w0 l L := h
theorem WE.then_goto {K : Act → World → Prop} {id : Nat} (h : WE Q (.goto id) n p w0 l L) : WE (Exit.then K Q) (.goto id) n p w0 l L := h
theorem WC.cond_t {c : Operand} {x y : Code} (hc : ev l c = some (.bool true)) (h : WC P x Q n p w0 l L) : WC P (.cond c x y) Q n p w0 l L := fun a w ha hS => wp_cond_true (ha.ev hc) (h a w ha hS)
theorem WC.cond_f {c : Operand} {x y : Code} (hc : ev l c = some (.bool false)) (h : WC P y Q n p w0 l L) : WC P (.cond c x y) Q n p w0 l L := fun a w ha hS => wp_cond_false (ha.ev hc) (h a w ha hS)
theorem WC.cond_d {c : Operand} {x y : Code} {q : Prop} [Decidable q] (hc : ev l c = some (.bool (decide q))) (ht : q → WC P x Q n p w0 l L) (hf : ¬ q → WC P y Q n p w0 l L) : WC P (.cond c x y) Q n p w0 l L := by
  by_cases hq : q
  · exact WC.cond_t (by rw [hc]; simp [hq]) (ht hq)
  · exact WC.cond_f (by rw [hc]; simp [hq]) (hf hq)
theorem WC.cond_b {c : Operand} {x y : Code} {b : Bool} (hc : ev l c = some (.bool b)) (ht : b = true → WC P x Q n p w0 l L) (hf : b = false → WC P y Q n p w0 l L) : WC P (.cond c x y) Q n p w0 l L := by
  cases b
  · exact WC.cond_f hc (hf rfl)
  · exact WC.cond_t hc (ht rfl)
theorem WC.skip (h : WE Q .normal n p w0 l L) : WC P .skip Q n p w0 l L := fun a w ha hS => wp_skip (h a w ha hS)
theorem WC.label {i : Nat} (h : WE Q .normal n p w0 l L) : WC P (.label i) Q n p w0 l L := fun a w ha hS => wp_label (h a w ha hS)
theorem WC.exit {i : Nat} (h : WE Q (.exit i) n p w0 l L) : WC P (.exit i) Q n p w0 l L := fun a w ha hS => wp_exit (h a w ha hS)
theorem WC.ret (h : WE Q .ret n p w0 l L) : WC P .ret Q n p w0 l L := fun a w ha hS => wp_ret (h a w ha hS)
theorem WC.block {i : Nat} {c : Code} (h : WC P c (Exit.inBlock i Q) n p w0 l L) : WC P (.block i c) Q n p w0 l L := fun a w ha hS => wp_block (h a w ha hS)
theorem WE.block_n {i : Nat} (h : WE Q .normal n p w0 l L) : WE (Exit.inBlock i Q) .normal n p w0 l L := h
theorem WE.block_ret {i : Nat} (h : WE Q .ret n p w0 l L) : WE (Exit.inBlock i Q) .ret n p w0 l L := h
theorem WE.block_hit {i : Nat} (h : WE Q .normal n p w0 l L) : WE (Exit.inBlock i Q) (.exit i) n p w0 l L := fun a w ha hS => by
  unfold Exit.inBlock; simp only [if_true]; exact h a w ha hS
theorem WE.block_miss {i j : Nat} (hij : Nat.beq j i = false) (h : WE Q (.exit j) n p w0 l L) : WE (Exit.inBlock i Q) (.exit j) n p w0 l L := fun a w ha hS => by
  unfold Exit.inBlock; simp only; rw [if_neg (by intro e; subst e; simp at hij)]; exact h a w ha hS
/-- Less is known. -/
theorem WC.less {c : Code} {l' : Kn} {L' : List Ent} (hl : Sub l l') (hL : L'.Sublist L) (h : WC P c Q n p w0 l' L') : WC P c Q n p w0 l L := fun a w ha hS => h a w (ha.sub hl) (hS.sub hL)
/-- A cut: what stands behind is walked once, from what is said here. -/
def Mid {ι : Type} (lI : ι → Kn) (LI : ι → List Ent) (good : ι → Prop) (n : Nat) (p : Nat → Prop) (w0 : World) (a : Act) (w : World) : Prop := ∃ i, good i ∧ Has n a (lI i) ∧ St p w0 w (LI i)
theorem WC.cut {ι : Type} (lI : ι → Kn) (LI : ι → List Ent) (good : ι → Prop) {x y : Code} (h : WC P x (Exit.then (Mid lI LI good n p w0) Q) n p w0 l L)
    (hy : ∀ i, good i → WC P y Q n p w0 (lI i) (LI i)) : WC P (.seq x y) Q n p w0 l L := fun a w ha hS => wp_seq (wp_mono (h a w ha hS) (fun e a' w' hq => by
      cases e with
      | normal => obtain ⟨i, hi, hA, hW⟩ := hq; exact hy i hi _ _ hA hW
      | _ => exact hq))
theorem WE.mid {ι : Type} {lI : ι → Kn} {LI : ι → List Ent} {good : ι → Prop} (i : ι) (hi : good i) (hl : Sub l (lI i)) (hL : (LI i).Sublist L) : WE (Exit.then (Mid lI LI good n p w0) Q) .normal n p w0 l L :=
  fun _ _ ha hS => ⟨i, hi, ha.sub hl, hS.sub hL⟩
/-- What a round hands on. -/
def Next {ι : Type} (lI : ι → Kn) (LI : ι → List Ent) (good : ι → Prop) (m : ι → Nat) (k : Nat) (n : Nat) (p : Nat → Prop) (w0 : World) (a : Act) (w : World) : Prop := ∃ i, m i < k ∧ good i ∧ Has n a (lI i) ∧ St p w0 w (LI i)
theorem WC.loop {ι : Type} (lI : ι → Kn) (LI : ι → List Ent) (good : ι → Prop) (m : ι → Nat) {c : Code} (i0 : ι) (h0 : good i0) (hl : Sub l (lI i0)) (hL : (LI i0).Sublist L)
    (round : ∀ i, good i → WC P c (Exit.then (Next lI LI good m (m i) n p w0) Q) n p w0 (lI i) (LI i)) : WC P (.loop c) Q n p w0 l L := by
  intro a w ha hS
  refine wp_loop_ghost (fun k a w => ∃ i, m i = k ∧ good i ∧ Has n a (lI i) ∧ St p w0 w (LI i)) (m i0) ⟨i0, rfl, h0, ha.sub hl, hS.sub hL⟩ ?_
  rintro k a w ⟨i, rfl, hi, ha, hS⟩
  refine wp_mono (round i hi a w ha hS) ?_
  intro e a' w' hq
  cases e with
  | normal => obtain ⟨j, hj, hg, hA, hW⟩ := hq; exact ⟨m j, hj, j, rfl, hg, hA, hW⟩
  | _ => exact hq
theorem WE.next {ι : Type} {lI : ι → Kn} {LI : ι → List Ent} {good : ι → Prop} {m : ι → Nat} {k : Nat} (i : ι) (hm : m i < k) (hi : good i) (hl : Sub l (lI i)) (hL : (LI i).Sublist L) : WE (Exit.then (Next lI LI good m k n p w0) Q) .normal n p w0 l L :=
  fun _ _ ha hS => ⟨i, hm, hi, ha.sub hl, hS.sub hL⟩

/-! ### Entry and end -/
def argKn : Nat → List Value → Kn
  | _, [] => []
  | k, v :: vs => (k, v) :: argKn (k + 1) vs
theorem argKn_get : ∀ (vs : List Value) (k t : Nat) (v : Value), look (argKn k vs) t = some v → k ≤ t ∧ vs[t - k]? = some v
  | [], k, t, v, h => by simp [argKn, look] at h
  | u :: vs, k, t, v, h => by
    simp only [argKn, look] at h
    cases hb : Nat.beq k t
    · rw [hb] at h
      have := argKn_get vs (k + 1) t v h
      refine ⟨by omega, ?_⟩
      rw [show t - k = (t - (k + 1)) + 1 by omega]
      simpa using this.2
    · rw [hb] at h
      have : k = t := Nat.eq_of_beq_eq_true hb
      subst this
      simpa using h
theorem enter {f : FuncId} {fn : Func} {c : Code} {vs : List Value} {w : World} {R : Ending → World → Prop} (hf : P.funcs[f]? = some fn) (hb : fn.body = some c) (hn : fn.ntmps = n) (hle : Nat.ble vs.length n = true)
    (hS : St p w0 w L) (h : WC P c (bodyPost P fn R) n p w0 (argKn 0 vs) L) : Calls P f vs.toArray w R := by
  refine calls_of_wp hf hb (h _ _ ⟨?_, rfl, ?_⟩ hS)
  · have := Nat.le_of_ble_eq_true hle
    simp [hn]; omega
  · intro t v hv
    have h1 := (argKn_get vs 0 t v hv).2
    simp only [Nat.sub_zero] at h1
    simp only [Array.getD_eq_getD_getElem?]
    rw [Array.getElem?_append_left (by have := (List.getElem?_eq_some_iff.1 h1).1; simpa using this)]
    simp [h1]

/-- A result: a slot, or a block that a slot points to. -/
def ResOk (P : Program) (C : World → Prop) (l : Kn) (r : ResultVar) (v : Value) : Prop := match r with
  | .tmp t => look l t = some v
  | .cell t ty => ∃ a, look l t = some (.pointer (some a)) ∧ ∀ w, C w → (loadVar ty a).run P w = .ok v w
def resRun (_ : Program) (tmps : Array Value) : ResultVar → Sem Value
  | .tmp t => pure (tmps.getD t undef)
  | .cell a t => do loadVar t (← asAddr (tmps.getD a undef))
theorem ResOk.run {C : World → Prop} {r : ResultVar} {v : Value} {a : Act} {w : World} (h : ResOk P C l r v) (ha : Has n a l) (hC : C w) : (resRun P a.tmps r).run P w = .ok v w := by
  cases r with
  | tmp t => show (pure (a.tmps.getD t undef) : Sem Value).run P w = _; rw [ha.got t v h]; rfl
  | cell t ty =>
    obtain ⟨ad, h1, h2⟩ := h
    show (do loadVar ty (← asAddr (a.tmps.getD t undef)) : Sem Value).run P w = _
    rw [ha.got t _ h1]
    simp [asAddr, h2 w hC]
theorem results_eq (fn : Func) (tmps : Array Value) : results fn tmps = (do let vs ← fn.results.mapM (resRun P tmps); pure (if h : vs.size = 1 then vs[0] else .tuple vs)) := by
  unfold results
  congr 1
variable {fn : Func} {R : Ending → World → Prop} {e : Exit}
theorem WE.fin (he : e = .ret ∨ e = .normal) {v : Value} (hv : ∀ a w, Has n a l → St p w0 w L → (results fn a.tmps).run P w = .ok v w) (h : ∀ w, St p w0 w L → R (.returned v) w) : WE (bodyPost P fn R) e n p w0 l L := by
  intro a w ha hS
  rcases he with rfl | rfl
  · exact ⟨ha.defers, v, hv a w ha hS, h w hS⟩
  · exact ⟨ha.defers, v, hv a w ha hS, h w hS⟩
theorem WE.ret0 (he : e = .ret ∨ e = .normal) (hr : fn.results = #[]) (h : ∀ w, St p w0 w L → R (.returned (.tuple #[])) w) : WE (bodyPost P fn R) e n p w0 l L :=
  WE.fin he (fun a w ha hS => by rw [results_eq (P := P), hr]; simp) h
theorem WE.ret1 (he : e = .ret ∨ e = .normal) {r1 : ResultVar} {v1 : Value} (hr : fn.results = #[r1]) (h1 : ResOk P (fun w => St p w0 w L) l r1 v1) (h : ∀ w, St p w0 w L → R (.returned v1) w) : WE (bodyPost P fn R) e n p w0 l L :=
  WE.fin he (fun a w ha hS => by rw [results_eq (P := P), hr]; simp [h1.run ha hS]) h
theorem WE.ret2 (he : e = .ret ∨ e = .normal) {r1 r2 : ResultVar} {v1 v2 : Value} (hr : fn.results = #[r1, r2]) (h1 : ResOk P (fun w => St p w0 w L) l r1 v1) (h2 : ResOk P (fun w => St p w0 w L) l r2 v2)
    (h : ∀ w, St p w0 w L → R (.returned (.tuple #[v1, v2])) w) : WE (bodyPost P fn R) e n p w0 l L :=
  WE.fin he (fun a w ha hS => by rw [results_eq (P := P), hr]; simp [h1.run ha hS, h2.run ha hS]) h
theorem WE.ret3 (he : e = .ret ∨ e = .normal) {r1 r2 r3 : ResultVar} {v1 v2 v3 : Value} (hr : fn.results = #[r1, r2, r3]) (h1 : ResOk P (fun w => St p w0 w L) l r1 v1) (h2 : ResOk P (fun w => St p w0 w L) l r2 v2) (h3 : ResOk P (fun w => St p w0 w L) l r3 v3)
    (h : ∀ w, St p w0 w L → R (.returned (.tuple #[v1, v2, v3])) w) : WE (bodyPost P fn R) e n p w0 l L :=
  WE.fin he (fun a w ha hS => by rw [results_eq (P := P), hr]; simp [h1.run ha hS, h2.run ha hS, h3.run ha hS]) h
theorem WE.ret4 (he : e = .ret ∨ e = .normal) {r1 r2 r3 r4 : ResultVar} {v1 v2 v3 v4 : Value} (hr : fn.results = #[r1, r2, r3, r4]) (h1 : ResOk P (fun w => St p w0 w L) l r1 v1) (h2 : ResOk P (fun w => St p w0 w L) l r2 v2) (h3 : ResOk P (fun w => St p w0 w L) l r3 v3) (h4 : ResOk P (fun w => St p w0 w L) l r4 v4)
    (h : ∀ w, St p w0 w L → R (.returned (.tuple #[v1, v2, v3, v4])) w) : WE (bodyPost P fn R) e n p w0 l L :=
  WE.fin he (fun a w ha hS => by rw [results_eq (P := P), hr]; simp [h1.run ha hS, h2.run ha hS, h3.run ha hS, h4.run ha hS]) h
end
end Go.Proofs.YtodaanhhnjkncaaDoor
