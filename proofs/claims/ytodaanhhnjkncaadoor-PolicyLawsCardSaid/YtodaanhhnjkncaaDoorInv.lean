/- Calls of methods through an interface, type assertions, max, min, quotients of whatever sign. -/
import Derived.Test.YtodaanhhnjkncaaDoorTys
namespace Go.Proofs.YtodaanhhnjkncaaDoor
open Go.RowKit

section
variable {P : Program} {C : World → Prop} {ops : Array Oper} {Q : Exit → Act → World → Prop} {n : Nat} {p : Nat → Prop} {w0 : World} {o : Oper} {rest : List Oper} {l : Kn} {L : List Ent}

/-- Of a value of this dynamic type the method is that function, and that its receiver. -/
def Meth (P : Program) (C : World → Prop) (t : TypeId) (v : Value) (name : String) (f : FuncId) (rv : Value) : Prop := ∀ w, C w → (method (P.types.size + Made.depth) t v name).run P w = .ok (f, rv) w
theorem run_invokeM {a : Act} {f : FuncId} {r : Operand} {name : String} {t : TypeId} {v rv : Value} {xs : List Operand} {ts : Array TypeId} {vs : List Value} {w : World} (ho : o.op = .call { callee := .invoke r name, args := xs.toArray, argTypes := ts })
    (hr : ev l r = some (.iface t v)) (hx : evs l xs = some vs) (hm : (method (P.types.size + Made.depth) t v name).run P w = .ok (f, rv) w) (hf : callOk P f) (ha : Has n a l) :
    (execOp a.eval o).run P w = .ok (.enter f (rv :: vs).toArray) w := by
  have h1 := ha.ev hr
  have h2 := ha.evs hx
  have hf' := hf (rv :: vs).toArray w
  have e1 : (#[Value.iface t v] ++ xs.toArray.map a.eval)[0]? = some (Value.iface t v) := by simp
  have e2 : (#[Value.iface t v] ++ xs.toArray.map a.eval).extract 1 (#[Value.iface t v] ++ xs.toArray.map a.eval).size = vs.toArray := by
    apply Array.ext'
    simp [← h2]
    exact List.take_of_length_le (by simp)
  have e3 : #[rv] ++ vs.toArray = (rv :: vs).toArray := by simp
  unfold execOp
  simp only [ho, resolve, h1, Sem.run_bind, Sem.run_pure, Result.andThen_ok]
  unfold invoke
  simp only [e1, e2]
  unfold callMethod
  simp only [Sem.run_bind, program, Sem.run, Result.andThen_ok, hm, e3, hf']
theorem WL.invoke {f : FuncId} {r : Operand} {name : String} {t : TypeId} {v rv : Value} {xs : List Operand} {ts : Array TypeId} {vs : List Value} {d : Nat} (ho : o.op = .call { callee := .invoke r name, args := xs.toArray, argTypes := ts })
    (hr : ev l r = some (.iface t v)) (hx : evs l xs = some vs) (hm : Meth P (fun w => St p w0 w L) t v name f rv) (hf : callOk P f) (hg : On ops o l) (hd : o.dst = some d) (hn : Nat.blt d n = true)
    (h : ∀ w, St p w0 w L → Calls P f (rv :: vs).toArray w fun e w' => ∃ v L', e = .returned v ∧ St p w0 w' L' ∧ WL P ops Q n p w0 rest ((d, v) :: l) L') : WL P ops Q n p w0 (o :: rest) l L := by
  intro a w ha hS
  refine wpList_on (hg.ok ha) ?_
  unfold Oper.wp
  rw [run_invokeM ho hr hx (hm w hS) hf ha]
  refine (h w hS).mono ?_
  rintro e w' ⟨v, L', rfl, hS', hK⟩
  exact hK _ _ (ha.put_any hd hn v) hS'
theorem WQ.invoke {K : Act → World → Prop} {f : FuncId} {r : Operand} {name : String} {t : TypeId} {v rv : Value} {xs : List Operand} {ts : Array TypeId} {vs : List Value} {d : Nat} (u : Value) (ho : o.op = .call { callee := .invoke r name, args := xs.toArray, argTypes := ts })
    (hr : ev l r = some (.iface t v)) (hx : evs l xs = some vs) (hm : Meth P (fun w => St p w0 w L) t v name f rv) (hf : callOk P f) (hg : On ops o l) (hd : o.dst = some d) (hn : Nat.blt d n = true)
    (hc : ∀ w, St p w0 w L → Calls P f (rv :: vs).toArray w fun e w' => e = .returned u ∧ St p w0 w' L) (h : WQ P ops K n p w0 rest ((d, u) :: l) L) : WQ P ops K n p w0 (o :: rest) l L := by
  intro a ha
  unfold wpQuiet
  rw [if_pos (hg.ok ha)]
  refine ⟨u, fun w hS => ?_, h _ (ha.put_any hd hn u)⟩
  unfold Oper.quietAt
  rw [run_invokeM ho hr hx (hm w hS) hf ha]
  exact ⟨rfl, hc w hS⟩
def isIf : TypeDesc → Bool | .interface _ => true | _ => false
theorem v_typeAssert {x : Operand} {xt t : TypeId} {v : Value} {ds : TypeDesc} (ho : o.op = .typeAssert x xt t false) (hx : ev l x = some (.iface t v)) (hu : P.underlying t = some ds) (hd : isIf ds = false) : Val P C n l o v := fun a w ha _ => by
  have h1 := ha.ev hx
  unfold execOp
  simp only [ho, h1, Instr.typeAssert, Sem.run_bind, run_underlying hu, Result.andThen_ok]
  cases ds <;> first | (simp [isIf] at hd; done) | simp
theorem v_max {t t' : TypeId} {x y : Operand} {k : IntKind} {A B : Int} (ho : o.op = .call { callee := .builtin .max, args := #[x, y], argTypes := #[t, t'] }) (hx : ev l x = some (.int k A)) (hy : ev l y = some (.int k B)) : Val P C n l o (.int k (max A B)) := fun a w ha _ => by
  have hx' : evs l [x, y] = some [.int k A, .int k B] := by simp [evs, hx, hy]
  obtain ⟨cs, h⟩ := run_builtin (P := P) (w := w) (xs := [x, y]) ho hx' ha
  rw [h]
  have e : (if B > A then B else A) = max A B := by omega
  simp [builtin, Builtin.max_, Builtin.max2, e]
theorem v_min {t t' : TypeId} {x y : Operand} {k : IntKind} {A B : Int} (ho : o.op = .call { callee := .builtin .min, args := #[x, y], argTypes := #[t, t'] }) (hx : ev l x = some (.int k A)) (hy : ev l y = some (.int k B)) : Val P C n l o (.int k (min A B)) := fun a w ha _ => by
  have hx' : evs l [x, y] = some [.int k A, .int k B] := by simp [evs, hx, hy]
  obtain ⟨cs, h⟩ := run_builtin (P := P) (w := w) (xs := [x, y]) ho hx' ha
  rw [h]
  have e : (if B < A then B else A) = min A B := by omega
  simp [builtin, Builtin.min_, Builtin.min2, e]
theorem v_quoT {t yt : TypeId} {x y : Operand} {k : IntKind} {A B r : Int} (ho : o.op = .binOp .quo t x y yt) (hx : ev l x = some (.int k A)) (hy : ev l y = some (.int k B)) (hB : B ≠ 0) (hr : k.wrap (A.tdiv B) = r) : Val P C n l o (.int k r) := fun a w ha _ => by
  rw [run_int2 ho (ha.ev hx) (ha.ev hy), ← hr]; simp [binOp, Op.intDiv, hB, Result.andThen]
theorem v_remT {t yt : TypeId} {x y : Operand} {k : IntKind} {A B : Int} (ho : o.op = .binOp .rem t x y yt) (hx : ev l x = some (.int k A)) (hy : ev l y = some (.int k B)) (hB : B ≠ 0) : Val P C n l o (.int k (A.tmod B)) := fun a w ha _ => by
  rw [run_int2 ho (ha.ev hx) (ha.ev hy)]; simp [binOp, Op.intDiv, hB, Result.andThen]
theorem chk_run (ts : Array TypeId) (t : TypeId) (a : Addr) (x y : String) (w : World) : (Builtin.ssaWrapNilChk_ ts t #[.pointer (some a), strVal x, strVal y]).run P w = .ok (.pointer (some a)) w := rfl
def methOf (P : Program) (t : TypeId) (name : String) : Option (Array FieldStep × Option (FuncId × Bool)) := (P.info? t).bind fun i => (i.methods.find? (·.name == name)).map fun m => (m.path, m.func)
/-- A method of the elements' type, called of a pointer to one. -/
theorem meth_val {t e : TypeId} {a : Addr} {name : String} {f : FuncId} {v : Value} {w : World} (hm : methOf P t name = some (#[], some (f, false))) (hu : P.underlying t = some (.pointer e))
    (hv : (loadVar e a).run P w = .ok v w) : (method (P.types.size + Made.depth) t (.pointer (some a)) name).run P w = .ok (f, v) w := by
  unfold methOf at hm
  cases hq : P.info? t with
  | none => simp [hq] at hm
  | some i =>
    simp only [hq, Option.bind_some, Option.map_eq_some_iff, Prod.mk.injEq] at hm
    obtain ⟨m, hm, hp, hf⟩ := hm
    have e1 : P.types.size + Made.depth = (P.types.size + 99) + 1 := rfl
    rw [e1]
    unfold method
    simp [typeInfo, hq, hm, hp, follow, hf, receiverAt, run_underlying hu, Place.get, chk_run, asAddr, hv]
theorem meth_ptr {t e : TypeId} {u : Value} {name : String} {f : FuncId} {w : World} (hm : methOf P t name = some (#[], some (f, true))) (hu : P.underlying t = some (.pointer e)) :
    (method (P.types.size + Made.depth) t u name).run P w = .ok (f, u) w := by
  unfold methOf at hm
  cases hq : P.info? t with
  | none => simp [hq] at hm
  | some i =>
    simp only [hq, Option.bind_some, Option.map_eq_some_iff, Prod.mk.injEq] at hm
    obtain ⟨m, hm, hp, hf⟩ := hm
    have e1 : P.types.size + Made.depth = (P.types.size + 99) + 1 := rfl
    rw [e1]
    unfold method
    simp [typeInfo, hq, hm, hp, follow, hf, receiverAt, run_underlying hu, Place.get]
/-- A method of the value's own type (no pointer). -/
theorem meth_own {t : TypeId} {ds : TypeDesc} {u : Value} {name : String} {f : FuncId} {w : World} (hm : methOf P t name = some (#[], some (f, false))) (hu : P.underlying t = some ds) (hd : (match ds with | .pointer _ => true | _ => false) = false) :
    (method (P.types.size + Made.depth) t u name).run P w = .ok (f, u) w := by
  unfold methOf at hm
  cases hq : P.info? t with
  | none => simp [hq] at hm
  | some i =>
    simp only [hq, Option.bind_some, Option.map_eq_some_iff, Prod.mk.injEq] at hm
    obtain ⟨m, hm, hp, hf⟩ := hm
    have e1 : P.types.size + Made.depth = (P.types.size + 99) + 1 := rfl
    rw [e1]
    unfold method
    cases ds <;> first | (simp at hd; done) | simp [typeInfo, hq, hm, hp, follow, hf, receiverAt, run_underlying hu, Place.get]
theorem load1_cell {t g k : Nat} {v : Value} {w : World} (h : One P t) (hv : w.cell? ⟨g, k, none⟩ = some v) : (loadVar t ⟨g, k, none⟩).run P w = .ok v w := by
  simp [loadVar, h.agg, load, Sem.run, hv]
end
end Go.Proofs.YtodaanhhnjkncaaDoor
