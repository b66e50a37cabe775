/- Texts joined: engine, contracts and laws, in the order in which they build. -/
import Derived.Lib.MakeNoZero
import Derived.Shelf.SlSortCmp.WholeK
import Derived.Shelf.SlSortCmp.NoneTotal
import Derived.Shelf.SlLaysF0
import Derived.Shelf.SlSortCmp.InsertionK
import Derived.Test.YtkeonnnhogaggaaDoorBaTableFull
/- The engine: a region that draws its order, of which every operation only makes new things: each operation's value is said by itself, and the order does not matter. -/
namespace Go.Proofs.YtkeonnnhogaggaaDoor
open Go.RowKit

/-- What is said of a value; it stays true where only new blocks come. -/
structure SpT where
  S : Value → World → Prop
  st : ∀ v w w', S v w → Frm (fun _ => False) w w' → S v w'
def spec (Ss : List SpT) (i : Nat) (v : Value) (w : World) : Prop := match Ss[i]? with | some s => s.S v w | none => True
def Given (Ss : List SpT) (w1 : World) (G : Kn → Prop) : List (Nat × Nat) → Kn → Prop
  | [], l => G l
  | x :: js, l => ∀ v, spec Ss x.1 v w1 → Given Ss w1 G js ((x.2, v) :: l)
abbrev FreeX := Nat × Nat × List (Nat × Nat)
section
variable {P : Program} {os : List Oper} {Q : Exit → Act → World → Prop} {n : Nat} {p : Nat → Prop} {w0 : World} {l : Kn} {L : List Ent}
/-- What an operation must hand on. -/
def FreeK (Ss : List SpT) (i d : Nat) (w1 : World) (n : Nat) (l' : Kn) : Act → World → Prop := fun a' w' => Frm (fun _ => False) w1 w' ∧ ∃ v, spec Ss i v w' ∧ Has n a' ((d, v) :: l')
def FreeStep (P : Program) (os : List Oper) (Q : Exit → Act → World → Prop) (n : Nat) (p : Nat → Prop) (w0 : World) (Ss : List SpT) (l : Kn) (L : List Ent) (x : FreeX) : Prop :=
  ∀ w1, St p w0 w1 L → ∀ lx : Kn, Given Ss w1 (fun l' => WL P os.toArray (RQ (FreeK Ss x.1 x.2.1 w1 n l') (NP Q)) n (fun _ => False) w1 [at_ os x.1] l' []) x.2.2 (l ++ lx)
/-! ### The checks -/
def boundTo (o : Oper) (j : Nat) : Bool := o.after.toList.any fun e => Region.binds .any e && Nat.beq e.on j
def slotIs (os : List Oper) (j d : Nat) : Bool := match os[j]? with | some o => (match o.dst with | some e => Nat.beq e d | none => false) | none => false
def frB1 (os : List Oper) (ks : List Nat) (n : Nat) (k : Nat) (x : FreeX) : Bool :=
  Nat.beq x.1 k && slotIs os k x.2.1 && Nat.blt x.2.1 n && !(ks.contains x.2.1) &&
  (match os[k]? with
   | some o => o.after.toList.all (fun e => Nat.blt e.on k) && x.2.2.all (fun y => boundTo o y.1 && slotIs os y.1 y.2)
   | none => false)
def frB (os : List Oper) (ks : List Nat) (n : Nat) : Nat → List FreeX → List Nat → Bool
  | k, [], _ => Nat.beq k os.length
  | k, x :: X, used => frB1 os ks n k x && !(used.contains x.2.1) && frB os ks n (k + 1) X (x.2.1 :: used)
structure FreeOk (os : List Oper) (ks : List Nat) (n : Nat) (X : List FreeX) : Prop where
  len : X.length = os.length
  one : ∀ (k : Nat) (x : FreeX), X[k]? = some x → frB1 os ks n k x = true
  dif : ∀ (j k : Nat) (x y : FreeX), X[j]? = some x → X[k]? = some y → j ≠ k → x.2.1 ≠ y.2.1
/-- All that is listed, as the frame says. -/
def seen (os : List Oper) (listed : Array Bool) (a : Act) : Nat → Kn
  | 0 => []
  | k + 1 => match os[k]? with
    | some o => (match o.dst with | some d => if listed.getD k false = true then (d, a.tmps.getD d undef) :: seen os listed a k else seen os listed a k | none => seen os listed a k)
    | none => seen os listed a k
/-- What holds on the way. -/
structure FreeInv (os : List Oper) (n : Nat) (p : Nat → Prop) (w0 : World) (Ss : List SpT) (l : Kn) (L : List Ent) (listed : Array Bool) (a : Act) (w : World) : Prop where
  size : listed.size = os.length
  has : Has n a l
  st : St p w0 w L
  sp : ∀ j o d, os[j]? = some o → o.dst = some d → listed.getD j false = true → spec Ss j (a.tmps.getD d undef) w
def left (os : List Oper) (listed : Array Bool) : Nat := ((List.range os.length).filter fun j => !listed.getD j false).length
def outsB (os : List Oper) (outs : List (Nat × Nat)) : Bool := outs.all fun y => slotIs os y.1 y.2
end
end Go.Proofs.YtkeonnnhogaggaaDoor
/- The engine: functions of the runtime's own (externs), append to a full slice whose cells are known, x[:hi:max]. -/
namespace Go.Proofs.YtkeonnnhogaggaaDoor
open Go.RowKit

/-- What a call has made beside what was there. -/
theorem St.join {p : Nat → Prop} {w0 w1 w' : World} {L M : List Ent} (hS : St p w0 w1 L) (h : St (fun _ => False) w1 w' M) : St p w0 w' (M ++ L) := by
  refine ⟨hS.frm.trans (h.frm.mono (fun _ h => h.elim)), ?_, ?_, ?_⟩
  · intro e he
    rcases List.mem_append.1 he with he | he
    · exact h.holds e he
    · exact Ent.keep (hS.holds e he) (h.frm.block _ (Ent.lt (hS.holds e he)) (fun h => h))
  · rw [List.map_append, List.nodup_append]
    refine ⟨h.dist, hS.dist, ?_⟩
    rintro a ha b hb rfl
    obtain ⟨e, he, e1⟩ := List.mem_map.1 ha
    obtain ⟨e', he', e2⟩ := List.mem_map.1 hb
    have h1 := (h.mine e he).resolve_left (fun h => h)
    have h2 := Ent.lt (hS.holds e' he')
    omega
  · intro e he
    rcases List.mem_append.1 he with he | he
    · exact .inr (Nat.le_trans hS.frm.size ((h.mine e he).resolve_left (fun h => h)))
    · exact hS.mine e he
theorem rgIn {p : Nat → Prop} {w0 : World} {L : List Ent} {b off : Nat} {cs : List Value} (hp : ¬ p b) (h : w0.rangeAt b off cs) : ∀ w, St p w0 w L → w.rangeAt b off cs := fun _ hS j v hj => hS.old hp (h j v hj)
section
variable {P : Program} {C : World → Prop} {ops : Array Oper} {Q : Exit → Act → World → Prop} {n : Nat} {p : Nat → Prop} {w0 : World} {o : Oper} {rest : List Oper} {l : Kn} {L : List Ent}
section
variable {t tx e s by_ k d m : Nat} {ad : Option Addr} {xs new zs : List Value} {x y : Operand}
end
end
end Go.Proofs.YtkeonnnhogaggaaDoor
/- slices.SortFunc at any element of k cells, whatever their number: the kit's sort as my worlds. -/
namespace Go.Proofs.YtkeonnnhogaggaaDoor
open Go.RowKit Go.Sort Go.Shelf

theorem gs_ext : ∀ a b : World, a.heap = b.heap → a.tape = b.tape → a.drawn = b.drawn → a.os = b.os → a.output = b.output → a = b := by
  rintro ⟨⟩ ⟨⟩ h1 h2 h3 h4 h5
  dsimp only at h1 h2 h3 h4 h5
  subst h1 h2 h3 h4 h5
  rfl
theorem Frm.grows {w w' : World} (h : Frm (fun _ => False) w w') : ∃ q os', w' = Go.Sort.grow (w.drewN q) os' := by
  refine ⟨w'.drawn - w.drawn, (w'.heap.toList.drop w.heap.size).toArray, ?_⟩
  have h1 := h.drawn
  have hh : w'.heap = w.heap ++ (w'.heap.toList.drop w.heap.size).toArray := by
    apply Array.ext_getElem?
    intro k
    rw [Array.getElem?_append]
    split
    · rename_i hk; exact h.block k hk (fun h => h)
    · rename_i hk
      simp only [List.getElem?_toArray, List.getElem?_drop, Array.getElem?_toList]
      rw [show w.heap.size + (k - w.heap.size) = k by omega]
  exact gs_ext _ _ hh h.tape (by show w'.drawn = w.drawn + (w'.drawn - w.drawn); omega) h.os h.output
/-- Elements as cells. -/
def encL {α : Type} (enc : α → List Value) : List α → List Value
  | [] => []
  | x :: xs => enc x ++ encL enc xs
theorem encL_len {α : Type} {enc : α → List Value} {k : Nat} (hk : ∀ x, (enc x).length = k) : ∀ xs : List α, (encL enc xs).length = xs.length * k
  | [] => by simp [encL]
  | x :: xs => by
    show (enc x ++ encL enc xs).length = _
    rw [List.length_append, encL_len hk xs, hk, List.length_cons, Nat.add_mul, Nat.one_mul]; omega
theorem encL_seg {α : Type} {enc : α → List Value} {k : Nat} (hk : ∀ x, (enc x).length = k) : ∀ (xs : List α) (i : Nat) (x : α), xs[i]? = some x → ((encL enc xs).drop (i * k)).take k = enc x
  | [], _, _, h => by simp at h
  | y :: xs, 0, x, h => by
    simp only [List.getElem?_cons_zero, Option.some.injEq] at h
    subst h
    show ((enc y ++ encL enc xs).drop (0 * k)).take k = _
    rw [Nat.zero_mul, List.drop_zero, List.take_left' (hk y)]
  | y :: xs, i + 1, x, h => by
    rw [List.getElem?_cons_succ] at h
    show ((enc y ++ encL enc xs).drop ((i + 1) * k)).take k = _
    rw [Nat.add_mul, Nat.one_mul, Nat.add_comm, ← List.drop_drop, List.drop_left' (hk y)]
    exact encL_seg hk xs i x h
section
variable {α : Type} [Inhabited α] {enc : α → List Value} {k : Nat}
theorem gsW_frm (w : World) (blk off m : Nat) (d : Array α) (os : Array Obj) : Frm (fun b => b = blk) w (sortWorldK enc k w blk off m d os) := by
  have hsz : (putRowK enc k (Go.Sort.ahead w m) blk off d).heap.size = w.heap.size := by unfold putRowK; rw [Go.Sort.size_putRow]; rfl
  refine ⟨rfl, rfl, rfl, ?_, ?_, Nat.le_add_right _ _⟩
  · show w.heap.size ≤ ((putRowK enc k (Go.Sort.ahead w m) blk off d).heap ++ os).size
    rw [Array.size_append, hsz]; omega
  · intro j hj hn
    show ((putRowK enc k (Go.Sort.ahead w m) blk off d).heap ++ os)[j]? = _
    rw [Array.getElem?_append_left (by rw [hsz]; exact hj)]
    show (w.heap.modify blk _)[j]? = _
    rw [Array.getElem?_modify, if_neg (fun e => hn e.symm)]
def gsL (enc : α → List Value) (k : Nat) (d : Array α) (cs : List Value) : List Value := (Go.Sort.putCells id 0 (flatK enc k d) cs.toArray).toList
theorem gsL_len (d : Array α) (cs : List Value) : (gsL enc k d cs).length = cs.length := by simp [gsL, Go.Sort.putCells]
theorem encL_get (hk : ∀ x, (enc x).length = k) (hk0 : 0 < k) (d : Array α) {t : Nat} (ht : t < d.size * k) : (encL enc d.toList)[t]? = some ((enc d[t / k]!)[t % k]!) := by
  have hq : t / k < d.size := (Nat.div_lt_iff_lt_mul hk0).2 ht
  have hr : t % k < k := Nat.mod_lt _ hk0
  have e2 : d.toList[t / k]? = some d[t / k]! := by
    rw [Array.getElem?_toList, Array.getElem?_eq_getElem hq, getElem!_pos d (t / k) hq]
  have e3 := encL_seg hk _ _ _ e2
  have e4 : (enc d[t / k]!)[t % k]? = (encL enc d.toList)[t]? := by
    rw [← e3, List.getElem?_take, if_pos hr, List.getElem?_drop]
    congr 1
    exact Nat.div_add_mod' t k
  rw [← e4, getElem!_pos (enc d[t / k]!) (t % k) (by rw [hk]; exact hr)]
  exact List.getElem?_eq_getElem _
theorem gsL_take (hk : ∀ x, (enc x).length = k) (hk0 : 0 < k) (d : Array α) (cs : List Value) (h : d.size * k ≤ cs.length) : (gsL enc k d cs).take (d.size * k) = encL enc d.toList := by
  have hl : (encL enc d.toList).length = d.size * k := by rw [encL_len hk, Array.length_toList]
  apply List.ext_getElem?
  intro t
  by_cases ht : t < d.size * k
  · rw [List.getElem?_take, if_pos ht]
    have e1 : (gsL enc k d cs)[t]? = some ((enc d[t / k]!)[t % k]!) := by
      unfold gsL Go.Sort.putCells
      rw [Array.getElem?_toList, Array.getElem?_mapIdx]
      rw [show cs.toArray[t]? = some (cs[t]'(by omega)) by rw [List.getElem?_toArray]; exact List.getElem?_eq_getElem _]
      simp only [Option.map_some, size_flatK]
      rw [if_pos (by omega), Nat.sub_zero, get_flatK _ _ _ _ ht]
      rfl
    rw [e1, encL_get hk hk0 d ht]
  · rw [List.getElem?_eq_none (by rw [List.length_take]; omega), List.getElem?_eq_none (by rw [hl]; omega)]
theorem gsW_row {w : World} {blk m : Nat} {cs : List Value} {d : Array α} {os : Array Obj} (h : Row w blk cs) : Row (sortWorldK enc k w blk 0 m d os) blk (gsL enc k d cs) := by
  have hlt := h.lt
  obtain ⟨T, lo, hi, hb, hf⟩ := h
  refine ⟨T, lo, hi, ?_, by rw [gsL_len]; exact hf⟩
  have hsz : (putRowK enc k (Go.Sort.ahead w m) blk 0 d).heap.size = w.heap.size := by unfold putRowK; rw [Go.Sort.size_putRow]; rfl
  show ((putRowK enc k (Go.Sort.ahead w m) blk 0 d).heap ++ os)[blk]? = _
  rw [Array.getElem?_append_left (by rw [hsz]; exact hlt)]
  show (w.heap.modify blk _)[blk]? = _
  rw [Array.getElem?_modify, if_pos rfl, hb]
  rfl
theorem gsW_st {p : Nat → Prop} {w0 w : World} {blk m : Nat} {cs : List Value} {d : Array α} {os : Array Obj} {L : List Ent} (hS : St p w0 w (.row blk cs :: L)) : St p w0 (sortWorldK enc k w blk 0 m d os) (.row blk (gsL enc k d cs) :: L) := by
  have hF := gsW_frm (enc := enc) (k := k) w blk 0 m d os
  have hR : Row w blk cs := hS.holds (.row blk cs) (by simp)
  have hm := hS.mine (.row blk cs) (by simp)
  refine ⟨⟨hF.os.trans hS.frm.os, hF.tape.trans hS.frm.tape, hF.output.trans hS.frm.output, Nat.le_trans hS.frm.size hF.size, fun j hj hn => ?_, Nat.le_trans hS.frm.drawn hF.drawn⟩, ?_, hS.dist, ?_⟩
  · have hne : ¬ j = blk := fun e => by
      subst e
      rcases hm with h | h
      · exact hn h
      · exact absurd hj (by show ¬ j < w0.heap.size; have : w0.heap.size ≤ j := h; omega)
    exact (hF.block j (Nat.lt_of_lt_of_le hj hS.frm.size) hne).trans (hS.frm.block j hj hn)
  · intro e he
    rcases List.mem_cons.1 he with rfl | he
    · exact gsW_row hR
    · have hh := hS.holds e (List.mem_cons_of_mem _ he)
      refine Ent.keep hh (hF.block _ (Ent.lt hh) fun e' => ?_)
      have hd := hS.dist
      simp only [List.map_cons, List.nodup_cons] at hd
      exact hd.1 (List.mem_map.2 ⟨e, he, e'⟩)
  · intro e he
    rcases List.mem_cons.1 he with rfl | he
    · exact hm
    · exact hS.mine e (List.mem_cons_of_mem _ he)
/-- Ascending by an order: no later one is less than an earlier one. -/
def AscBy (cf : α → α → Int) (ys : List α) : Prop := ∀ (i j : Nat) (x y : α), ys[i]? = some x → ys[j]? = some y → i < j → ¬ cf y x < 0
theorem gsort_c {P : Program} {ρ : Go.Shelf.Ren} (Ly : SlLaysF0.n6 P ρ) (hk0 : 0 < k) (aE : ∀ w, (isAgg (ρ.t 24)).run P w = .ok true w) (zE : ∀ w, (Go.sizeOf (ρ.t 24)).run P w = .ok k w) (hk : ∀ x, (enc x).length = k) (h1 : ∀ x, ∀ v ∈ enc x, v.oneCell' = true)
    (cf : α → α → Int) (hO : SWO (ltOf cf)) (g : Nat) (cb : Array Value) (eg : ∀ args w, (callFunc g args).run P w = .ok (.enter g args) w) (p : Nat → Prop) (w0 w : World) (L E : List Ent) (ad : Option Addr) (c : Nat) (xs : List α)
    (hcmp : ∀ gb cs, St p w0 w (.row gb cs :: L) → ∀ w', Frm (fun b => b = gb) w w' → ∀ x y, Calls P g (#[.agg (enc x).toArray, .agg (enc y).toArray] ++ cb) w' fun e w'' => e = .returned (.int .i64 (cf x y)) ∧ Frm (fun _ => False) w' w'')
    (hV : Vec k ad xs.length c (encL enc xs) E) (hS : St p w0 w (E ++ L)) (hlen : xs.length < 4611686018427387904) :
    Calls P (ρ.f 6) #[.slice ad xs.length c, .func (.func g) #[] cb] w fun e w' =>
      e = .returned (.tuple #[]) ∧ ∃ ys E', ys.Perm xs ∧ AscBy cf ys ∧ Vec k ad xs.length c (encL enc ys) E' ∧ St p w0 w' (E' ++ L) := by
  rcases hV with ⟨ha, hn, hc, hx, hE⟩ | ⟨gb, cs, rfl, rfl, hx, hcl, hkc⟩
  · have e0 : xs = [] := List.length_eq_zero_iff.1 hn
    subst e0
    refine (Go.Proofs.AnyF.slices_SortFunc_none Ly ad c _ w).mono fun e w' h => ⟨h.1, [], E, .refl _, fun i j A B h => by simp at h, .inl ⟨ha, hn, hc, hx, hE⟩, by rw [h.2]; exact hS⟩
  · have hS' : St p w0 w (.row gb cs :: L) := hS
    have hR : Row w gb cs := hS'.holds (.row gb cs) (by simp)
    have hcs : xs.length * k ≤ cs.length := by rw [hcl]; exact Nat.mul_le_mul_right k hkc
    have hsz : xs.toArray.size = xs.length := by simp
    have hcm : CmpLays P g cb enc k cf gb 0 xs.toArray.size w := fun m os dk hs x y =>
      (hcmp gb cs hS' _ (gsW_frm w gb 0 m dk os) x y).mono fun e w' ⟨he, hF⟩ => ⟨he, hF.grows⟩
    have hH : HoldsK enc k w gb 0 xs.toArray := fun t ht => by
      rw [size_flatK] at ht
      have ht2 : t < cs.length := by rw [hsz] at ht; omega
      rw [Nat.zero_add]
      refine ⟨hR.cell ?_, hR.frozen ht2⟩
      show cs[t]? = some ((flatK enc k xs.toArray)[t]!)
      rw [get_flatK _ _ _ _ ht, ← encL_get hk hk0 _ ht]
      show cs[t]? = (encL enc xs)[t]?
      rw [← hx, List.getElem?_take, if_pos (by rw [← hsz]; exact ht)]
    have key := Go.Proofs.AnyQ.slices_SortFunc Ly k aE zE enc hk h1 cf hO g cb gb 0 c xs.toArray w eg hcm hH hR.lt (by rw [hsz]; exact hlen)
    rw [hsz] at key
    refine key.mono ?_
    rintro e w' ⟨he, d', n, os, ⟨hs1, _, hperm⟩, hsort, rfl⟩
    have hd' : d'.size = xs.length := by rw [hs1, hsz]
    have f1 : d'.extract 0 xs.length = d' := by rw [← hd']; simp
    have f2 : xs.toArray.extract 0 xs.length = xs.toArray := by rw [← hsz]; exact Array.extract_size
    rw [f1, f2] at hperm
    have hrow := gsL_take hk hk0 d' cs (by rw [hd']; exact hcs)
    refine ⟨he, d'.toList, [.row gb (gsL enc k d' cs)], ?_, ?_, ?_, gsW_st hS'⟩
    · exact hperm
    · intro i j A B hi hj hij
      have li := (List.getElem?_eq_some_iff.1 hi).1
      have lj := (List.getElem?_eq_some_iff.1 hj).1
      rw [Array.length_toList] at li lj
      have h := hsort i j (Nat.zero_le _) hij (by rw [← hd']; exact lj)
      rw [Array.getElem?_toList, Array.getElem?_eq_getElem li] at hi
      rw [Array.getElem?_toList, Array.getElem?_eq_getElem lj] at hj
      rw [getElem!_pos d' i li, getElem!_pos d' j lj] at h
      have ea := Option.some.inj hi
      have eb := Option.some.inj hj
      subst ea eb
      exact of_decide_eq_false h
    · exact .inr ⟨gb, gsL enc k d' cs, rfl, rfl, by rw [← hd', hrow], by rw [gsL_len]; exact hcl, hkc⟩
end
end Go.Proofs.YtkeonnnhogaggaaDoor
/- make of elements of s cells; clear of a slice; elements laid over others in a block. -/
namespace Go.Proofs.YtkeonnnhogaggaaDoor
open Go.RowKit

/-- The same blocks in another order, by counting. -/
theorem St.permX {p : Nat → Prop} {w0 w : World} {L L' : List Ent} (hS : St p w0 w L) (h : ∀ (c : Ent → List Ent → Nat) (k : Ent → Ent → Nat), (∀ e a l, c e (a :: l) = c e l + k e a) → (∀ e l r, c e (l ++ r) = c e l + c e r) → (∀ e, c e [] = 0) → ∀ e, c e L = c e L' := by intro c k h1 h2 h3 e; simp only [h1, h2, h3] <;> omega) : St p w0 w L' := hS.perm (by
  classical
  exact List.perm_iff_count.2 fun e => (h (fun e l => l.count e) (fun e a => if a == e then 1 else 0) (fun _ _ _ => List.count_cons) (fun _ _ _ => List.count_append) (fun _ => List.count_nil) e).symm)
/-- Some of the blocks, in whatever order; Z: the others. -/
theorem St.dropX {p : Nat → Prop} {w0 w : World} {L L' : List Ent} (Z : List Ent) (hS : St p w0 w L) (h : ∀ (c : Ent → List Ent → Nat) (k : Ent → Ent → Nat), (∀ e a l, c e (a :: l) = c e l + k e a) → (∀ e l r, c e (l ++ r) = c e l + c e r) → (∀ e, c e [] = 0) → ∀ e, c e L = c e (L' ++ Z) := by intro c k h1 h2 h3 e; simp only [h1, h2, h3] <;> omega) : St p w0 w L' :=
  (hS.permX (L' := L' ++ Z) h).sub (List.sublist_append_left _ _)
section
variable {P : Program} {ops : Array Oper} {Q : Exit → Act → World → Prop} {n : Nat} {p : Nat → Prop} {w0 : World} {o : Oper} {rest : List Oper} {l : Kn} {L : List Ent}
/-- make([]T, m, c), an element s cells. -/
theorem WL.makeN {t e d m c by_ s : Nat} {x y : Operand} {k k' : IntKind} {A B : Int} {zs : List Value} (ho : o.op = .makeSlice t x y) (hx : ev l x = some (.int k A)) (hy : ev l y = some (.int k' B)) (hA : A = (m : Int)) (hB : B = (c : Int)) (hmc : m ≤ c)
    (hu : P.underlying t = some (.slice e)) (hb : (P.info? e).map (·.bytes) = some by_) (hbig : by_ * c ≤ 281474976710656) (hc63 : c < 2 ^ 62) (hs : (P.info? e).map (·.size) = some s) (hz : Zero P e zs) (hzl : zs.length = s) (hg : On ops o l) (hd : o.dst = some d) (hn : Nat.blt d n = true)
    (h : ∀ g, w0.heap.size ≤ g → WL P ops Q n p w0 rest ((d, .slice (some ⟨g, 0, none⟩) m c) :: l) (.row g (List.replicate c zs).flatten :: L)) : WL P ops Q n p w0 (o :: rest) l L := by
  refine WL.op hg hd hn fun a w ha hS => ?_
  have h1 := ha.ev hx
  have h2 := ha.ev hy
  subst hA hB
  obtain ⟨zz, hz, hzz⟩ := hz
  refine ⟨_, _, _, ?_, St.new (cs := (List.replicate c zs).flatten) (T := e) hS, h _ hS.frm.size⟩
  have hzc : zz.cells = zs.toArray := by rw [← hzz]
  have hwm : IntKind.i64.wrap (m : Int) = m := w_i64 (by omega) (by omega)
  have hwc : IntKind.i64.wrap (c : Int) = c := w_i64 (by omega) (by omega)
  have hsz := run_sizeOf (P := P) hs
  have hq : ∃ i, P.info? e = some i ∧ i.bytes = by_ := by
    cases hq : P.info? e with
    | none => simp [hq] at hb
    | some i => exact ⟨i, rfl, by simpa [hq] using hb⟩
  obtain ⟨i, hi, hib⟩ := hq
  have hnc : ¬ ((by_ : Int) * (c : Int) > 2 ^ 48) := by
    have h := Int.ofNat_le.2 hbig
    rw [Int.natCast_mul] at h
    omega
  have hask : ∀ (k : Nat) (w : World), (askRoom k).run P w = .ok () w := fun k w => by
    unfold askRoom
    by_cases h : k > roomBytes
    · rw [if_pos h]; rfl
    · rw [if_neg h]; rfl
  have hrow := zero_row hzl c
  unfold execOp
  simp only [ho, h1, h2, Instr.makeSlice, Sem.run_bind, run_underlying hu, Result.andThen, asInt, asIntOf, Sem.run_pure, typeInfo, program, Sem.run, hi, hib, hwm, hwc]
  have ht1 : (decide ((c : Int) < 0) || decide ((by_ : Int) * (c : Int) > 2 ^ 48) || decide ((m : Int) < 0) || decide ((m : Int) > (c : Int))) = false := by
    simp only [Bool.or_eq_false_iff, decide_eq_false_iff_not]
    exact ⟨⟨⟨by omega, hnc⟩, by omega⟩, by omega⟩
  simp only [ht1, Bool.false_eq_true, if_false, Int.toNat_natCast]
  by_cases h0 : c * s = 0
  · have hnil : (List.replicate c zs).flatten = [] := List.length_eq_zero_iff.1 (by rw [flat_len hzl]; exact h0)
    have h0' : ∀ f : Nat → Value, Array.map f (Array.range 0) = #[] := fun f => Array.ext (by simp) (fun i h => by simp at h)
    rw [hnil]
    simp [hask, hsz, newRow, newObj, Sem.run, h0, h0']
  · have hr2 : Array.map (fun x => zs[x % zs.length]?.getD default) (Array.range (c * s)) = ((List.replicate c zs).flatten).toArray := by
      rw [← hrow]; simp
    simp [hask, hsz, h0, run_zeroValue hz, hzc, hr2, newRow, newObj, Sem.run]
theorem WL.makeMapN {t d kt et : Nat} {x : Operand} {k : IntKind} {A : Int} (ho : o.op = .makeMap t (some x)) (hx : ev l x = some (.int k A)) (hu : P.underlying t = some (.map kt et)) (hg : On ops o l) (hd : o.dst = some d) (hn : Nat.blt d n = true)
    (h : ∀ g, w0.heap.size ≤ g → WL P ops Q n p w0 rest ((d, .map (some g)) :: l) (.obj g (.map #[] 0) :: L)) : WL P ops Q n p w0 (o :: rest) l L := by
  refine WL.op hg hd hn fun a w ha hS => ?_
  have h1 := ha.ev hx
  refine ⟨_, _, _, ?_, St.newObj (ob := .map #[] 0) hS trivial, h _ hS.frm.size⟩
  unfold execOp
  simp [ho, h1, Instr.makeMap, run_underlying hu, asInt, asIntOf, newObj, Sem.run]
theorem Vec.made {s g c : Nat} {zs : List Value} (hzl : zs.length = s) : Vec s (some ⟨g, 0, none⟩) 0 c [] [.row g (List.replicate c zs).flatten] := Vec.row (by rw [Nat.zero_mul]; rfl) (flat_len hzl c) (Nat.zero_le _)
def zrs (zs : List Value) (k : Nat) : List Value := (List.replicate k zs).flatten
theorem zrs_len (zs : List Value) (k : Nat) : (zrs zs k).length = k * zs.length := by unfold zrs; simp
theorem zrs_one {zs : List Value} (h : zs.all one = true) (k : Nat) : (zrs zs k).all one = true := by
  unfold zrs
  rw [List.all_eq_true] at h ⊢
  intro v hv
  obtain ⟨l, hl, hv⟩ := List.mem_flatten.1 hv
  rw [List.eq_of_mem_replicate hl] at hv
  exact h v hv
/-- clear(s): its k elements are zero. -/
theorem WL.clear {t e g off k c s : Nat} {x : Operand} {zs cs : List Value} {L' : List Ent} (ho : o.op = .call { callee := .builtin .clear, args := #[x], argTypes := #[t] }) (hx : ev l x = some (.slice (some ⟨g, off, none⟩) k c))
    (hu : P.underlying t = some (.slice e)) (hz : Zero P e zs) (hzl : zs.length = s) (hall : zs.all one = true) [At L g cs] (hle : off + k * s ≤ cs.length) [Put L g (.row g (splice cs off (zrs zs k))) L'] (hg : On ops o l) (hd : o.dst = none)
    (h : WL P ops Q n p w0 rest l L') : WL P ops Q n p w0 (o :: rest) l L := by
  refine WL.act hg hd fun a w ha hS => ?_
  have hx' : evs l [x] = some [.slice (some ⟨g, off, none⟩) k c] := by simp [evs, hx]
  obtain ⟨cc, hr⟩ := run_builtin (P := P) (w := w) (xs := [x]) ho hx' ha
  obtain ⟨z, hz, hzs⟩ := hz
  have hzc : z.cells = zs.toArray := by rw [← hzs]
  have hl : off + (zrs zs k).length ≤ cs.length := by rw [zrs_len, hzl]; exact hle
  obtain ⟨w', hst, hR', hF⟩ := run_storeCells_row (P := P) (zrs zs k) 0 off cs w (hS.row (g := g)) (by simpa using hl) (zrs_one hall k)
  have hzr : Builtin.zeroCells zs.toArray k = (zrs zs k).toArray := by
    have := zero_row (zs := zs) rfl k
    unfold Builtin.zeroCells zrs
    rw [← this]
    simp
  by_cases h0 : k = 0
  · subst h0
    have e0 : splice cs off (zrs zs 0) = cs := splice_nil cs off
    refine ⟨w, L', .inr ⟨.tuple #[], ?_⟩, hS.put (g := g) (e := .row g (splice cs off (zrs zs 0))) rfl (Frm.refl _ _) (by rw [e0]; exact hS.row (g := g)), h⟩
    rw [hr]
    simp [builtin, Builtin.clear_, run_underlying hu]
  · refine ⟨w', L', .inr ⟨.tuple #[], ?_⟩, hS.put (g := g) (e := .row g (splice cs off (zrs zs k))) rfl hF (show Row _ _ _ by simpa using hR'), h⟩
    obtain ⟨m, rfl⟩ : ∃ m, k = m + 1 := ⟨k - 1, by omega⟩
    rw [hr]
    simp [builtin, Builtin.clear_, run_underlying hu, run_zeroValue hz, hzc, hzr, hst]
section
variable {C : World → Prop}
theorem v_neq_aggE {t yt : TypeId} {x y : Operand} {xs ys : List Value} {ks : List CK} {b : Bool} (ho : o.op = .binOp .neq t x y yt) (hx : ev l x = some (.agg xs.toArray)) (hy : ev l y = some (.agg ys.toArray)) (hE : EqK P 10000 t true ks) (hg : P.eqGuardType P.depth t = false)
    (fx : fitsAll ks xs = true) (fy : fitsAll ks ys = true) (hb : b = true ↔ ¬ xs = ys) : Val P C n l o (.bool b) := by
  cases b with
  | true => exact v_neq_aggT ho hx hy hE hg fx fy (hb.1 rfl)
  | false => exact v_neq_aggF ho hx hy hE hg fx fy (Classical.byContradiction fun h => by have := hb.2 h; cases this)
theorem v_eql_aggD {t yt : TypeId} {x y : Operand} {xs ys : List Value} {ks : List CK} {b : Bool} (ho : o.op = .binOp .eql t x y yt) (hx : ev l x = some (.agg xs.toArray)) (hy : ev l y = some (.agg ys.toArray)) (hE : EqK P 10000 t true ks) (hg : P.eqGuardType P.depth t = false)
    (fx : fitsAll ks xs = true) (fy : fitsAll ks ys = true) (hb : b = true ↔ xs = ys) : Val P C n l o (.bool b) := by
  cases b with
  | false => exact v_eql_aggF ho hx hy hE hg fx fy fun h => by have := hb.2 h; cases this
  | true => exact v_eql_aggT ho hx hy hE hg fx fy (hb.1 rfl)
end
theorem splice_take {cs new : List Value} {k : Nat} (h : k + new.length ≤ cs.length) : (splice cs k new).take k = cs.take k := by
  rw [splice_eq _ _ _ h, List.append_assoc, List.take_left' (by rw [List.length_take]; omega)]
end
/-! ### Elements in a block -/
section
variable {α : Type} {enc : α → List Value} {s : Nat} (hk : ∀ x, (enc x).length = s)
include hk
theorem encL_take : ∀ (ys : List α) (k : Nat) (R : List Value), k ≤ ys.length → (encL enc ys ++ R).take (k * s) = encL enc (ys.take k)
  | ys, 0, R, _ => by rw [Nat.zero_mul]; cases ys <;> rfl
  | [], k + 1, R, h => by simp at h
  | y :: ys, k + 1, R, h => by
    show ((enc y ++ encL enc ys) ++ R).take ((k + 1) * s) = enc y ++ encL enc (ys.take k)
    rw [List.append_assoc, Nat.add_mul, Nat.one_mul, Nat.add_comm, ← hk y, List.take_length_add_append, hk y, encL_take ys k R (by simp at h; omega)]
theorem encL_drop : ∀ (ys : List α) (k : Nat) (R : List Value), k ≤ ys.length → (encL enc ys ++ R).drop (k * s) = encL enc (ys.drop k) ++ R
  | ys, 0, R, _ => by rw [Nat.zero_mul]; cases ys <;> rfl
  | [], k + 1, R, h => by simp at h
  | y :: ys, k + 1, R, h => by
    show ((enc y ++ encL enc ys) ++ R).drop ((k + 1) * s) = encL enc (ys.drop k) ++ R
    rw [List.append_assoc, Nat.add_mul, Nat.one_mul, Nat.add_comm, ← List.drop_drop, List.drop_left' (hk y), encL_drop ys k R (by simp at h; omega)]
/-- An element laid over another one. -/
theorem encL_set (ys : List α) (i : Nat) (x : α) (R : List Value) (h : i < ys.length) : splice (encL enc ys ++ R) (i * s) (enc x) = encL enc (ys.set i x) ++ R := by
  have hl := encL_len hk ys
  have h1 : i * s + s ≤ ys.length * s := by rw [← Nat.succ_mul]; exact Nat.mul_le_mul_right _ h
  rw [splice_eq _ _ _ (by rw [hk, List.length_append]; omega), hk, encL_take hk ys i R (by omega), show i * s + s = (i + 1) * s by rw [Nat.succ_mul], encL_drop hk ys (i + 1) R h]
  have e : ys.set i x = ys.take i ++ x :: ys.drop (i + 1) := by
    rw [List.set_eq_take_append_cons_drop, if_pos h]
  rw [e]
  have : ∀ (xs zs : List α), encL enc (xs ++ zs) = encL enc xs ++ encL enc zs := fun xs zs => by
    induction xs with
    | nil => rfl
    | cons a xs ih => show enc a ++ encL enc (xs ++ zs) = (enc a ++ encL enc xs) ++ encL enc zs; rw [ih, List.append_assoc]
  rw [this]
  show _ = (_ ++ (enc x ++ _)) ++ R
  simp only [List.append_assoc]
theorem encL_at {ys : List α} {i : Nat} {x : α} {R : List Value} (h : ys[i]? = some x) : seg (encL enc ys ++ R) (i * s) s = enc x := by
  have hi := (List.getElem?_eq_some_iff.1 h).1
  unfold seg
  rw [encL_drop hk ys i R (by omega)]
  have e : ys.drop i = x :: ys.drop (i + 1) := by
    rw [List.drop_eq_getElem_cons hi]
    congr 1
    exact Option.some.inj ((List.getElem?_eq_getElem hi).symm.trans h)
  rw [e]
  show ((enc x ++ encL enc (ys.drop (i + 1))) ++ R).take s = enc x
  rw [List.append_assoc, List.take_left' (hk x)]
omit hk in
/-- A slice of one's own: its block's cells are its elements', then others. -/
theorem Vec.split {ad : Option Addr} {c : Nat} {xs : List α} {E : List Ent} (hV : Vec s ad xs.length c (encL enc xs) E) (h : xs ≠ []) : ∃ g R, ad = some ⟨g, 0, none⟩ ∧ E = [.row g (encL enc xs ++ R)] ∧ (encL enc xs ++ R).length = c * s ∧ xs.length ≤ c := by
  rcases hV with ⟨_, hn, _⟩ | ⟨g, cs, rfl, rfl, hx, hl, hc⟩
  · exact absurd (List.length_eq_zero_iff.1 hn) h
  · refine ⟨g, cs.drop (xs.length * s), rfl, ?_, ?_, hc⟩
    · rw [← hx, List.take_append_drop]
    · rw [← hx, List.take_append_drop]; exact hl
end
end Go.Proofs.YtkeonnnhogaggaaDoor
/- Rules and entries of a table: as they lie, as data; their orders. -/
namespace Go.Proofs.YtkeonnnhogaggaaDoor
open Go.RowKit

theorem cmpI_cm : Cm cmpI := by
  refine ⟨fun a => ?_, fun a b => ?_, fun a b c h1 h2 => ?_⟩ <;> unfold cmpI at * <;> (repeat' (split at *)) <;> omega
theorem cmpI_zero {x y : Int} : cmpI x y = 0 ↔ x = y := by unfold cmpI; split <;> (try split) <;> omega
theorem lexK_cm {α : Type} (f : α → Nat → Int) : ∀ k, Cm (fun a b => lexK (f a) (f b) k)
  | 0 => Cm.triv
  | k + 1 => Cm.lex (lexK_cm f k) (cmpI_cm.on fun a => f a k)
theorem lexK_same {f g : Nat → Int} : ∀ {k}, lexK f g k = 0 → ∀ i, i < k → f i = g i
  | 0, _, i, hi => absurd hi (Nat.not_lt_zero i)
  | k + 1, h, i, hi => by
    have h : (if lexK f g k ≠ 0 then lexK f g k else cmpI (f k) (g k)) = 0 := h
    by_cases e : lexK f g k = 0
    · rw [if_neg (fun q => q e)] at h
      by_cases e2 : i = k
      · subst e2; exact cmpI_zero.1 h
      · exact lexK_same e i (by omega)
    · rw [if_pos e] at h; exact absurd h e
theorem acmp_cm : Cm acmp := Cm.lex (cmpI_cm.on Ac.set) (lexK_cm Ac.val 9)
/-- Numbers behind a field's are 0: so an act is told by its cells. -/
def Ac.Nz (a : Ac) : Prop := ∀ k, 9 ≤ k → a.val k = 0
def Mt.Nz (m : Mt) : Prop := ∀ k, 9 ≤ k → m.val k = 0 ∧ m.mask k = 0
theorem Ac.ext' {a b : Ac} (ha : a.Nz) (hb : b.Nz) (h1 : a.set = b.set) (h2 : ∀ k, k < 9 → a.val k = b.val k) : a = b := by
  cases a; cases b
  dsimp only at h1 h2
  subst h1
  congr 1
  funext k
  by_cases hk : k < 9
  · exact h2 k hk
  · exact (ha k (by omega)).trans (hb k (by omega)).symm
theorem acmp_same {a b : Ac} (ha : a.Nz) (hb : b.Nz) (h : acmp a b = 0) : a = b := by
  unfold acmp at h
  split at h
  · rename_i q; exact absurd h q
  · rename_i q; exact Ac.ext' ha hb (cmpI_zero.1 (by omega)) (lexK_same h)
/-- The order of matches: field by field, the mask first. -/
def mcmpK (m n : Mt) : Nat → Int
  | 0 => 0
  | k + 1 => if mcmpK m n k ≠ 0 then mcmpK m n k else (if cmpI (m.mask k) (n.mask k) ≠ 0 then cmpI (m.mask k) (n.mask k) else cmpI (m.val k) (n.val k))
theorem mcmp_cm : ∀ k, Cm (fun a b => mcmpK a b k)
  | 0 => Cm.triv
  | k + 1 => Cm.lex (mcmp_cm k) (Cm.lex (cmpI_cm.on fun m : Mt => m.mask k) (cmpI_cm.on fun m : Mt => m.val k))
/-! ### Rules -/
structure RuD where
  m : Mt
  acts : List Ac
structure RuL where
  m : Mt
  ad : Option Addr
  c : Nat
  acts : List Ac
def RuL.d (r : RuL) : RuD := ⟨r.m, r.acts⟩
def RuL.ru (r : RuL) : Ru := ⟨r.m, r.ad, r.acts.length, r.c⟩
def RuL.cells (r : RuL) : List Value := ruL r.ru
theorem RuL.len (r : RuL) : r.cells.length = 19 := ruL_len _
abbrev actsL (xs : List Ac) : List Value := encL acL xs
abbrev rulesL (rs : List RuL) : List Value := encL RuL.cells rs
theorem acL_len (a : Ac) : (acL a).length = 10 := by show (_ :: ucs a.val 9).length = 10; rw [List.length_cons, ucs_len]
theorem actsL_len (xs : List Ac) : (actsL xs).length = xs.length * 10 := encL_len acL_len xs
theorem rulesL_len (rs : List RuL) : (rulesL rs).length = rs.length * 19 := encL_len RuL.len rs
theorem encL_append {α : Type} (enc : α → List Value) : ∀ xs ys : List α, encL enc (xs ++ ys) = encL enc xs ++ encL enc ys
  | [], _ => rfl
  | x :: xs, ys => by show enc x ++ encL enc (xs ++ ys) = (enc x ++ encL enc xs) ++ encL enc ys; rw [encL_append enc xs ys, List.append_assoc]
theorem encL_snoc {α : Type} (enc : α → List Value) (xs : List α) (x : α) : encL enc (xs ++ [x]) = encL enc xs ++ enc x := by rw [encL_append]; show _ ++ (enc x ++ []) = _; rw [List.append_nil]
/-- Cells that can be read, from so far on. -/
def Rg (w : World) (ad : Option Addr) (cs : List Value) : Prop := cs ≠ [] → ∃ b o, ad = some ⟨b, o, none⟩ ∧ w.rangeAt b o cs
theorem Rg.seg {w : World} {b o : Nat} {α : Type} {enc : α → List Value} {k : Nat} (hk : ∀ x, (enc x).length = k) {xs : List α} {i : Nat} {x : α} (h : w.rangeAt b o (encL enc xs)) (hx : xs[i]? = some x) : w.rangeAt b (o + i * k) (enc x) := fun j v hj => by
  have := encL_seg hk xs i x hx
  rw [← this] at hj
  rw [List.getElem?_take] at hj
  split at hj
  · rw [List.getElem?_drop] at hj
    have := h _ _ hj
    rwa [Nat.add_assoc]
  · cases hj
theorem Rg.frm {q : Nat → Prop} {w w' : World} {ad : Option Addr} {cs : List Value} (hF : Frm q w w') (h : Rg w ad cs) (hq : ∀ b o, ad = some ⟨b, o, none⟩ → ¬ q b) : Rg w' ad cs := fun hn => by
  obtain ⟨b, o, e, hr⟩ := h hn
  exact ⟨b, o, e, rgIn (p := q) (L := []) (hq b o e) hr w' ⟨hF, (fun _ h => by cases h), (by simp), (fun _ h => by cases h)⟩⟩
def actErr (xs : List Ac) : Int := if xs.length > 64 then 34 else if ∀ a ∈ xs, a.Ok then 0 else 1
def Mt.Okk (m : Mt) : Prop := ∀ k, k < 9 → mtOk k (m.val k) (m.mask k)
instance (m : Mt) : Decidable m.Okk := by unfold Mt.Okk; infer_instance
def RuD.err (r : RuD) : Int := if r.m.Okk then actErr r.acts else 1
/-- The first error. -/
def errs {α : Type} (f : α → Int) : List α → Int
  | [] => 0
  | x :: xs => if f x ≠ 0 then f x else errs f xs
theorem errs_zero {α : Type} {f : α → Int} : ∀ {xs : List α}, errs f xs = 0 ↔ ∀ x ∈ xs, f x = 0
  | [] => ⟨fun _ _ h => (by cases h), fun _ => rfl⟩
  | x :: xs => by
    show (if f x ≠ 0 then f x else errs f xs) = 0 ↔ _
    by_cases h : f x = 0
    · rw [if_neg (fun q => q h), errs_zero]
      exact ⟨fun k y hy => (by rcases List.mem_cons.1 hy with e | hy; (rw [e]; exact h); exact k y hy), fun k y hy => k y (List.mem_cons_of_mem _ hy)⟩
    · rw [if_pos h]
      exact ⟨fun k => absurd k h, fun k => k x (List.mem_cons_self ..)⟩
/-! ### Entries -/
structure EnD where
  prio : Int
  mark : Int
  r : RuD
structure EnL where
  prio : Int
  mark : Int
  r : RuL
def EnL.d (e : EnL) : EnD := ⟨e.prio, e.mark, e.r.d⟩
def EnL.cells (e : EnL) : List Value := .int .i64 e.prio :: .int .i64 e.mark :: e.r.cells
theorem EnL.len (e : EnL) : e.cells.length = 21 := by show (_ :: _ :: e.r.cells).length = 21; rw [List.length_cons, List.length_cons, RuL.len]
abbrev ensL (es : List EnL) : List Value := encL EnL.cells es
theorem ensL_len (es : List EnL) : (ensL es).length = es.length * 21 := encL_len EnL.len es
structure RuD.In (r : RuD) : Prop where
  m : r.m.In
  nz : r.m.Nz
  act : ∀ a ∈ r.acts, a.In ∧ a.Nz
structure EnD.In (e : EnD) : Prop where
  prio : -9223372036854775808 ≤ e.prio ∧ e.prio ≤ 9223372036854775807
  mark : -9223372036854775808 ≤ e.mark ∧ e.mark ≤ 9223372036854775807
  r : e.r.In
def EnD.err (e : EnD) : Int := if 0 ≤ e.prio ∧ e.prio ≤ 1073741824 then e.r.err else 1
/-- The order of entries. -/
def ordE (a b : EnD) : Int := if cmpI b.prio a.prio ≠ 0 then cmpI b.prio a.prio else mcmpK a.r.m b.r.m 9
theorem ordE_cm : Cm ordE := Cm.lex (cmpI_cm.on EnD.prio).flip ((mcmp_cm 9).on fun e : EnD => e.r.m)
/-- Acts in order, each once. -/
def NormP (xs ys : List Ac) : Prop := ys.Pairwise (fun a b => acmp a b < 0) ∧ ∀ x, x ∈ ys ↔ x ∈ xs
theorem NormP.one {xs ys zs : List Ac} (h1 : NormP xs ys) (h2 : NormP xs zs) : ys = zs := strict_only acmp_cm ys zs h1.1 h2.1 fun x => (h1.2 x).trans (h2.2 x).symm
end Go.Proofs.YtkeonnnhogaggaaDoor
/- match.Check, match.Cmp; rules.List.Check of one rule; an entry's check; the order of entries. -/
namespace Go.Proofs.YtkeonnnhogaggaaDoor
open Go.RowKit

theorem splice_all {cs new : List Value} (h : new.length = cs.length) : splice cs 0 new = new := by
  rw [splice_eq _ _ _ (by omega), List.take_zero, List.nil_append, List.drop_eq_nil_of_le (by omega), List.append_nil]
theorem ite01_no {c : Prop} [Decidable c] (h : ¬ (if c then (0 : Int) else 1) ≠ 0) : c := by
  by_cases k : c
  · exact k
  · exact absurd (by rw [if_neg k]; decide) h
theorem ite01_yes {c : Prop} [Decidable c] (h : (if c then (0 : Int) else 1) ≠ 0) : ¬ c := fun k => h (if_pos k)
theorem mcmp_stays {m n : Mt} {k : Nat} (h : mcmpK m n k ≠ 0) : ∀ j, mcmpK m n (k + j) = mcmpK m n k
  | 0 => rfl
  | j + 1 => by
    have := mcmp_stays h j
    show (if mcmpK m n (k + j) ≠ 0 then mcmpK m n (k + j) else _) = _
    rw [this, if_pos h]
theorem MCheck_c (w : World) (m : Mt) (hm : m.In) (hG : GW w) :
    Calls Tryd.prog 42 #[mtV m] w fun e w' => e = .returned (.int .i64 (if m.Okk then 0 else 1)) ∧ Frm (fun _ => False) w w' := by
  refine enter Tryd.func42 rfl Tryd.ntmps42 rfl (St.start (fun _ => False) w) ?_
  refine WC.seq ?_
  refine WC.region ?_
  refine WL.box rfl rfl rfl (.none rfl) rfl rfl ?_
  intro g1 hg1
  refine WL.val (v_assign rfl rfl) (.none rfl) rfl rfl ?_
  refine WL.nil ?_
  refine WE.then_n ?_
  refine WC.seq ?_
  refine WC.seq ?_
  refine WC.region ?_
  refine WL.val (v_move rfl rfl) (.none rfl) rfl rfl ?_
  refine WL.nil ?_
  refine WE.then_n ?_
  refine WC.block ?_
  refine WC.loop (fun k : Nat => [(4, .int .i64 k), (1, .pointer (some ⟨g1, 0, none⟩))]) (fun _ => [.row g1 (mtL m)]) (fun k => k ≤ 9 ∧ ∀ j, j < k → mtOk j (m.val j) (m.mask j)) (fun k => 9 - k) 0 ⟨Nat.zero_le _, fun j h => absurd h (by omega)⟩ (.cons rfl (.cons rfl .nil)) (.refl _) ?_
  rintro k ⟨hk, hok⟩
  refine WC.seq ?_
  refine WC.region ?_
  refine WL.test (v_lss rfl rfl rfl) (.none rfl) rfl rfl (fun h5 => ?_) (fun h5 => ?_)
  ·
   refine WL.nil ?_
   refine WE.then_n ?_
   refine WC.seq ?_
   refine WC.cond_t rfl ?_
   refine WC.skip ?_
   refine WE.then_n ?_
   refine WC.seq ?_
   refine WC.block ?_
   refine WC.seq ?_
   refine WC.region ?_
   refine WL.val (v_move rfl rfl) (.none rfl) rfl rfl ?_
   refine WL.val (v_assign rfl rfl) (.none rfl) rfl rfl ?_
   refine WL.nil ?_
   refine WE.then_n ?_
   refine WC.seq ?_
   refine WC.quiet mixed (by kernel_rfl) ?_
   refine WQ.val (v_move rfl rfl) (.none rfl) rfl rfl ?_
   refine WQ.val (v_move rfl rfl) (.none rfl) rfl rfl ?_
   refine WQ.val (v_fieldAddr0 rfl rfl fld_43_0) (.none rfl) rfl rfl ?_
   refine WQ.val (v_indexAddrA (lo := k) rfl rfl rfl Tryd.underlying41 sz_40 (by omega) (by omega)) (.none rfl) rfl rfl ?_
   refine WQ.val (v_load1 rfl rfl one_40 (cellAt (mtL_val m (by omega)))) (.none rfl) rfl rfl ?_
   refine WQ.val (v_move rfl rfl) (.none rfl) rfl rfl ?_
   refine WQ.val (v_fieldAddr0 rfl rfl fld_43_1) (.none rfl) rfl rfl ?_
   refine WQ.val (v_indexAddrA (lo := k) rfl rfl rfl Tryd.underlying41 sz_40 (by omega) (by omega)) (.none rfl) rfl rfl ?_
   refine WQ.val (v_load1 rfl rfl one_40 (cellAt (mtL_mask m (by omega)))) (.none rfl) rfl rfl ?_
   refine WQ.call _ rfl rfl ck_40 (.none rfl) rfl rfl (fun w hS => Calls.still (MRight_c w k (by omega) (m.val k) (m.mask k) (hm.val k) (hm.mask k) (hG.keep (fun h => h) hS)) hS) ?_
   refine WQ.val (v_notD rfl rfl) (.none rfl) rfl rfl ?_
   refine WQ.nil ?_
   refine WE.then_n ?_
   refine WC.cond_d rfl (fun h17 => ?_) (fun h17 => ?_)
   ·
    refine WC.seq ?_
    refine WC.region ?_
    refine WL.val (v_assign rfl rfl) (.none rfl) rfl rfl ?_
    refine WL.nil ?_
    refine WE.then_n ?_
    refine WC.ret ?_
    refine WE.block_ret ?_
    refine WE.then_ret ?_
    refine WE.then_ret ?_
    refine WE.block_ret ?_
    refine WE.then_ret ?_
    refine WE.ret1 (P := Tryd.prog) (.inl rfl) Tryd.results42 rfl ?_
    exact fun w' h => ⟨by rw [if_neg (fun q => h17 (q k (by omega)))], h.frm⟩
   ·
    refine WC.skip ?_
    refine WE.block_n ?_
    refine WE.then_n ?_
    refine WC.region ?_
    refine WL.val (v_add rfl rfl rfl (w_i64 (by omega) (by omega))) (.none rfl) rfl rfl ?_
    refine WL.val (v_move rfl rfl) (.none rfl) rfl rfl ?_
    refine WL.nil ?_
    exact WE.next (k + 1) (by omega) ⟨by omega, fun j hj => by
    by_cases e : j = k
    · subst e; exact Classical.not_not.1 h17
    · exact hok j (by omega)⟩ (.int rfl (by omega) (.cons rfl .nil)) (.refl _)
  ·
   refine WL.nil ?_
   refine WE.then_n ?_
   refine WC.seq ?_
   refine WC.cond_f rfl ?_
   refine WC.exit ?_
   refine WE.then_exit ?_
   refine WE.then_exit ?_
   refine WE.block_hit ?_
   refine WE.then_n ?_
   refine WC.seq ?_
   refine WC.region ?_
   refine WL.val (v_assign rfl rfl) (.none rfl) rfl rfl ?_
   refine WL.nil ?_
   refine WE.then_n ?_
   refine WC.ret ?_
   refine WE.ret1 (P := Tryd.prog) (.inl rfl) Tryd.results42 rfl ?_
   obtain rfl : k = 9 := (by omega)
   exact fun w' h => ⟨by rw [if_pos (c := m.Okk) hok], h.frm⟩
theorem actErr_bad {xs : List Ac} {k : Nat} {a : Ac} (h64 : ¬ xs.length > 64) (ha : xs[k]? = some a) (h : ¬ a.Ok) : actErr xs = 1 := by
  unfold actErr
  rw [if_neg h64, if_neg (fun q => h (q a (List.mem_of_getElem? ha)))]
theorem actErr_ok {xs : List Ac} (h64 : ¬ xs.length > 64) (h : ∀ j a, j < xs.length → xs[j]? = some a → a.Ok) : actErr xs = 0 := by
  unfold actErr
  rw [if_neg h64, if_pos (fun a ha => by
    obtain ⟨i, hi, e⟩ := List.mem_iff_getElem.1 ha
    exact h i a hi (by rw [List.getElem?_eq_getElem hi, e]))]
theorem ruC_match (r : RuL) : seg r.cells 0 18 = mtL r.m := ruL_match _
theorem ruC_acts (r : RuL) : r.cells[18]? = some (.slice r.ad r.acts.length r.c) := ruL_acts _
/-- One rule alone. -/
theorem RsCheck_c (w : World) (b c : Nat) (r : RuL) (hI : r.d.In) (hb : w.rangeAt b 0 r.cells) (ha : Rg w r.ad (actsL r.acts)) (hG : GW w) :
    Calls Tryd.prog 26 #[.slice (some ⟨b, 0, none⟩) 1 c] w fun e w' => e = .returned (.int .i64 r.d.err) ∧ Frm (fun _ => False) w w' := by
  refine enter Tryd.func26 rfl Tryd.ntmps26 rfl (St.start (fun _ => False) w) ?_
  refine WC.seq ?_
  refine WC.region ?_
  refine WL.val (v_assign rfl rfl) (.none rfl) rfl rfl ?_
  refine WL.nil ?_
  refine WE.then_n ?_
  refine WC.seq ?_
  refine WC.seq ?_
  refine WC.region ?_
  refine WL.val (v_move rfl rfl) (.none rfl) rfl rfl ?_
  refine WL.val (v_len_slice rfl rfl Tryd.underlying74) (.none rfl) rfl rfl ?_
  refine WL.val ((v_gtr rfl rfl rfl).f (by omega)) (.none rfl) rfl rfl ?_
  refine WL.nil ?_
  refine WE.then_n ?_
  refine WC.cond_f rfl ?_
  refine WC.skip ?_
  refine WE.then_n ?_
  refine WC.seq ?_
  refine WC.seq ?_
  refine WC.region ?_
  refine WL.val (v_move rfl rfl) (.none rfl) rfl rfl ?_
  refine WL.val (v_len_slice rfl rfl Tryd.underlying74) (.none rfl) rfl rfl ?_
  refine WL.val (v_move rfl rfl) (.none rfl) rfl rfl ?_
  refine WL.nil ?_
  refine WE.then_n ?_
  refine WC.block ?_
  refine WC.loop (fun k : Nat => [(14, .int .i64 k), (13, .int .i64 1), (12, .slice (some ⟨b, 0, none⟩) 1 c)]) (fun _ => []) (fun k => k ≤ 1 ∧ (k = 1 → r.d.err = 0)) (fun k => 1 - k) 0 ⟨Nat.zero_le _, fun h => absurd h (by omega)⟩ (.cons rfl (.cons rfl (.cons rfl .nil))) (.refl _) ?_
  rintro k ⟨hk, hk1⟩
  refine WC.seq ?_
  refine WC.region ?_
  refine WL.test (v_lss rfl rfl rfl) (.none rfl) rfl rfl (fun h15 => ?_) (fun h15 => ?_)
  ·
   refine WL.nil ?_
   refine WE.then_n ?_
   refine WC.seq ?_
   refine WC.cond_t rfl ?_
   refine WC.skip ?_
   refine WE.then_n ?_
   refine WC.seq ?_
   refine WC.block ?_
   refine WC.seq ?_
   refine WC.region ?_
   refine WL.val (v_indexAddr (lo := 0) rfl rfl rfl Tryd.underlying74 sz_46 (by omega) (by omega)) (.none rfl) rfl rfl ?_
   refine WL.val (v_loadN (cs := r.cells) rfl rfl many_46 (RuL.len r) (rgIn (fun h => h) hb)) (.none rfl) rfl rfl ?_
   refine WL.alloc rfl zero_46 (.none rfl) rfl rfl ?_
   intro g4 hg4
   refine WL.storeW rfl rfl rfl rfl many_46 rfl rfl (.none rfl) rfl ?_
   refine WL.as (L' := [.row g4 r.cells]) rfl ?_
   refine WL.nil ?_
   refine WE.then_n ?_
   refine WC.seq ?_
   refine WC.seq ?_
   refine WC.region ?_
   refine WL.val (v_fieldAddr0 rfl rfl fld_46_0) (.none rfl) rfl rfl ?_
   refine WL.val (v_loadN rfl rfl many_43 rfl (segAt (m := 18) (ruC_match r))) (.none rfl) rfl rfl ?_
   refine WL.call rfl rfl ck_42 (.none rfl) rfl rfl ?_
   intro w hS
   refine Calls.then (MCheck_c w r.m hI.m (hG.keep (fun h => h) hS)) hS ?_
   refine WL.val (v_assign rfl rfl) (.none rfl) rfl rfl ?_
   refine WL.nil ?_
   refine WE.then_n ?_
   refine WC.seq ?_
   refine WC.region ?_
   refine WL.val (v_move rfl rfl) (.none rfl) rfl rfl ?_
   refine WL.test (v_neq rfl rfl rfl) (.none rfl) rfl rfl (fun h22 => ?_) (fun h22 => ?_)
   ·
    refine WL.nil ?_
    refine WE.then_n ?_
    refine WC.cond_t rfl ?_
    refine WC.seq ?_
    refine WC.region ?_
    refine WL.val (v_move rfl rfl) (.none rfl) rfl rfl ?_
    refine WL.val (v_assign rfl rfl) (.none rfl) rfl rfl ?_
    refine WL.nil ?_
    refine WE.then_n ?_
    refine WC.ret ?_
    refine WE.then_ret ?_
    refine WE.block_ret ?_
    refine WE.then_ret ?_
    refine WE.then_ret ?_
    refine WE.block_ret ?_
    refine WE.then_ret ?_
    refine WE.ret1 (P := Tryd.prog) (.inl rfl) Tryd.results26 rfl ?_
    exact fun w' h => ⟨by unfold RuD.err; rw [if_neg (show ¬ r.m.Okk from ite01_yes h22), if_neg (show ¬ (RuL.d r).m.Okk from ite01_yes h22)], h.frm⟩
   ·
    refine WL.nil ?_
    refine WE.then_n ?_
    refine WC.cond_f rfl ?_
    refine WC.skip ?_
    refine WE.then_n ?_
    refine WC.seq ?_
    refine WC.seq ?_
    refine WC.region ?_
    refine WL.val (v_fieldAddr0 rfl rfl fld_46_1) (.none rfl) rfl rfl ?_
    refine WL.val (v_load1 rfl rfl one_44 (cellAt (ruC_acts r))) (.none rfl) rfl rfl ?_
    refine WL.val (v_len_slice rfl rfl Tryd.underlying44) (.none rfl) rfl rfl ?_
    refine WL.test (v_gtr rfl rfl rfl) (.none rfl) rfl rfl (fun h27 => ?_) (fun h27 => ?_)
    ·
     refine WL.nil ?_
     refine WE.then_n ?_
     refine WC.cond_t rfl ?_
     refine WC.seq ?_
     refine WC.region ?_
     refine WL.val (v_assign rfl rfl) (.none rfl) rfl rfl ?_
     refine WL.nil ?_
     refine WE.then_n ?_
     refine WC.ret ?_
     refine WE.then_ret ?_
     refine WE.block_ret ?_
     refine WE.then_ret ?_
     refine WE.then_ret ?_
     refine WE.block_ret ?_
     refine WE.then_ret ?_
     refine WE.ret1 (P := Tryd.prog) (.inl rfl) Tryd.results26 rfl ?_
     exact fun w' h => ⟨by unfold RuD.err actErr; rw [if_pos (show (RuL.d r).m.Okk from ite01_no h22), if_pos (by have : (RuL.d r).acts.length = r.acts.length := rfl; omega)], h.frm⟩
    ·
     refine WL.nil ?_
     refine WE.then_n ?_
     refine WC.cond_f rfl ?_
     refine WC.skip ?_
     refine WE.then_n ?_
     refine WC.seq ?_
     refine WC.region ?_
     refine WL.val (v_fieldAddr0 rfl rfl fld_46_1) (.none rfl) rfl rfl ?_
     refine WL.val (v_load1 rfl rfl one_44 (cellAt (ruC_acts r))) (.none rfl) rfl rfl ?_
     refine WL.val (v_len_slice rfl rfl Tryd.underlying44) (.none rfl) rfl rfl ?_
     refine WL.val (v_move rfl rfl) (.none rfl) rfl rfl ?_
     refine WL.nil ?_
     refine WE.then_n ?_
     refine WC.block ?_
     refine WC.loop (fun j : Nat => [(31, .int .i64 j), (30, .int .i64 r.acts.length), (29, .slice r.ad r.acts.length r.c), (14, .int .i64 k), (13, .int .i64 1), (12, .slice (some ⟨b, 0, none⟩) 1 c)]) (fun _ => []) (fun j => j ≤ r.acts.length ∧ ∀ i a, i < j → r.acts[i]? = some a → a.Ok) (fun j => r.acts.length - j) 0 ⟨Nat.zero_le _, fun i a h => absurd h (by omega)⟩ (.cons rfl (.cons rfl (.cons rfl (.cons rfl (.cons rfl (.cons rfl .nil)))))) (List.nil_sublist _) ?_
     rintro j ⟨hj, hjo⟩
     refine WC.seq ?_
     refine WC.region ?_
     refine WL.test (v_lss rfl rfl rfl) (.none rfl) rfl rfl (fun h32 => ?_) (fun h32 => ?_)
     ·
      refine WL.nil ?_
      refine WE.then_n ?_
      refine WC.seq ?_
      refine WC.cond_t rfl ?_
      refine WC.skip ?_
      refine WE.then_n ?_
      refine WC.seq ?_
      refine WC.block ?_
      refine WC.seq ?_
      refine WC.region ?_
      obtain ⟨a, hja⟩ : ∃ a, r.acts[j]? = some a := ⟨r.acts[j]'(by omega), List.getElem?_eq_getElem _⟩
      obtain ⟨b1, o1, ea1, r1⟩ := ha (by intro hn; have := actsL_len r.acts; rw [hn] at this; simp at this; omega)
      refine WL.val ((v_indexAddr (b := b1) (off := o1) (lo := j) rfl (by show some (Value.slice r.ad _ _) = _; rw [ea1]) rfl Tryd.underlying44 sz_70 rfl (by omega))) (.none rfl) rfl rfl ?_
      refine WL.val (v_loadN (cs := acL a) rfl rfl many_70 (acL_len a) (rgIn (fun h => h) (Rg.seg acL_len r1 hja))) (.none rfl) rfl rfl ?_
      refine WL.alloc rfl zero_70 (.none rfl) rfl rfl ?_
      intro g7 hg7
      refine WL.storeW rfl rfl rfl rfl many_70 rfl rfl (.none rfl) rfl ?_
      refine WL.nil ?_
      refine WE.then_n ?_
      refine WC.seq ?_
      refine WC.region ?_
      refine WL.val (v_loadN rfl rfl many_70 rfl allAt) (.none rfl) rfl rfl ?_
      refine WL.call rfl rfl ck_43 (.none rfl) rfl rfl ?_
      intro w hS
      refine Calls.then (ACheck_c w a (hG.keep (fun h => h) hS)) hS ?_
      refine WL.val (v_assign rfl rfl) (.none rfl) rfl rfl ?_
      refine WL.nil ?_
      refine WE.then_n ?_
      refine WC.seq ?_
      refine WC.region ?_
      refine WL.val (v_move rfl rfl) (.none rfl) rfl rfl ?_
      refine WL.test (v_neq rfl rfl rfl) (.none rfl) rfl rfl (fun h38 => ?_) (fun h38 => ?_)
      ·
       refine WL.nil ?_
       refine WE.then_n ?_
       refine WC.cond_t rfl ?_
       refine WC.seq ?_
       refine WC.region ?_
       refine WL.val (v_move rfl rfl) (.none rfl) rfl rfl ?_
       refine WL.val (v_assign rfl rfl) (.none rfl) rfl rfl ?_
       refine WL.nil ?_
       refine WE.then_n ?_
       refine WC.ret ?_
       refine WE.block_ret ?_
       refine WE.then_ret ?_
       refine WE.then_ret ?_
       refine WE.block_ret ?_
       refine WE.block_ret ?_
       refine WE.then_ret ?_
       refine WE.then_ret ?_
       refine WE.block_ret ?_
       refine WE.then_ret ?_
       refine WE.ret1 (P := Tryd.prog) (.inl rfl) Tryd.results26 rfl ?_
       exact fun w' h => ⟨by unfold RuD.err; rw [if_neg (ite01_yes h38), if_pos (show (RuL.d r).m.Okk from ite01_no h22), actErr_bad (xs := (RuL.d r).acts) (fun q => h27 (by have : (RuL.d r).acts.length = r.acts.length := rfl; omega)) hja (ite01_yes h38)], h.frm⟩
      ·
       refine WL.nil ?_
       refine WE.then_n ?_
       refine WC.cond_f rfl ?_
       refine WC.skip ?_
       refine WE.block_n ?_
       refine WE.then_n ?_
       refine WC.region ?_
       refine WL.val (v_add rfl rfl rfl (w_i64 (by omega) (by omega))) (.none rfl) rfl rfl ?_
       refine WL.val (v_move rfl rfl) (.none rfl) rfl rfl ?_
       refine WL.nil ?_
       exact WE.next (j + 1) (by omega) ⟨by omega, fun i a' hi ha' => by
       by_cases e : i = j
       · subst e; rw [hja] at ha'; cases ha'; exact ite01_no h38
       · exact hjo i a' (by omega) ha'⟩ (.int rfl (by omega) (.cons rfl (.cons rfl (.cons rfl (.cons rfl (.cons rfl .nil)))))) (List.nil_sublist _)
     ·
      refine WL.nil ?_
      refine WE.then_n ?_
      refine WC.seq ?_
      refine WC.cond_f rfl ?_
      refine WC.exit ?_
      refine WE.then_exit ?_
      refine WE.then_exit ?_
      refine WE.block_hit ?_
      refine WE.block_n ?_
      refine WE.then_n ?_
      refine WC.region ?_
      refine WL.val (v_add rfl rfl rfl (w_i64 (by omega) (by omega))) (.none rfl) rfl rfl ?_
      refine WL.val (v_move rfl rfl) (.none rfl) rfl rfl ?_
      refine WL.nil ?_
      exact WE.next (k + 1) (by omega) ⟨by omega, fun _ => by unfold RuD.err; rw [if_pos (show (RuL.d r).m.Okk from ite01_no h22)]; exact actErr_ok (fun q => h27 (by have : (RuL.d r).acts.length = r.acts.length := rfl; omega)) fun i a hi => hjo i a (by have : (RuL.d r).acts.length = r.acts.length := rfl; omega)⟩ (.int rfl (by omega) (.cons rfl (.cons rfl .nil))) (List.nil_sublist _)
  ·
   refine WL.nil ?_
   refine WE.then_n ?_
   refine WC.seq ?_
   refine WC.cond_f rfl ?_
   refine WC.exit ?_
   refine WE.then_exit ?_
   refine WE.then_exit ?_
   refine WE.block_hit ?_
   refine WE.then_n ?_
   refine WC.seq ?_
   refine WC.region ?_
   refine WL.val (v_assign rfl rfl) (.none rfl) rfl rfl ?_
   refine WL.nil ?_
   refine WE.then_n ?_
   refine WC.ret ?_
   refine WE.ret1 (P := Tryd.prog) (.inl rfl) Tryd.results26 rfl ?_
   obtain rfl : k = 1 := (by omega)
   exact fun w' h => ⟨by rw [hk1 rfl], h.frm⟩
theorem MCmp_c (w : World) (m n : Mt) :
    Calls Tryd.prog 34 #[mtV m, mtV n] w fun e w' => e = .returned (.int .i64 (mcmpK m n 9)) ∧ Frm (fun _ => False) w w' := by
  refine enter Tryd.func34 rfl Tryd.ntmps34 rfl (St.start (fun _ => False) w) ?_
  refine WC.seq ?_
  refine WC.region ?_
  refine WL.box rfl rfl rfl (.none rfl) rfl rfl ?_
  intro g2 hg2
  refine WL.box rfl rfl rfl (.none rfl) rfl rfl ?_
  intro g3 hg3
  refine WL.val (v_assign rfl rfl) (.none rfl) rfl rfl ?_
  refine WL.nil ?_
  refine WE.then_n ?_
  refine WC.seq ?_
  refine WC.seq ?_
  refine WC.region ?_
  refine WL.val (v_move rfl rfl) (.none rfl) rfl rfl ?_
  refine WL.nil ?_
  refine WE.then_n ?_
  refine WC.block ?_
  refine WC.loop (fun k : Nat => [(7, .int .i64 k), (2, .pointer (some ⟨g2, 0, none⟩)), (3, .pointer (some ⟨g3, 0, none⟩))]) (fun _ => [.row g3 (mtL n), .row g2 (mtL m)]) (fun k => k ≤ 9 ∧ mcmpK m n k = 0) (fun k => 9 - k) 0 ⟨Nat.zero_le _, rfl⟩ (.cons rfl (.cons rfl (.cons rfl .nil))) (.refl _) ?_
  rintro k ⟨hk, h0⟩
  refine WC.seq ?_
  refine WC.region ?_
  refine WL.test (v_lss rfl rfl rfl) (.none rfl) rfl rfl (fun h8 => ?_) (fun h8 => ?_)
  ·
   refine WL.nil ?_
   refine WE.then_n ?_
   refine WC.seq ?_
   refine WC.cond_t rfl ?_
   refine WC.skip ?_
   refine WE.then_n ?_
   refine WC.seq ?_
   refine WC.block ?_
   refine WC.seq ?_
   refine WC.region ?_
   refine WL.val (v_move rfl rfl) (.none rfl) rfl rfl ?_
   refine WL.val (v_assign rfl rfl) (.none rfl) rfl rfl ?_
   refine WL.nil ?_
   refine WE.then_n ?_
   refine WC.seq ?_
   refine WC.orders mixed ?_
   refine WR.first (g := 9) [0, 1, 2, 4, 5, 6, 9, 10, 11, 13, 14, 15] (by kernel_rfl) (by kernel_rfl) ?_
   refine WP.val (v_move rfl rfl) (.none rfl) rfl rfl ?_
   refine WP.val (v_fieldAddr0 rfl rfl fld_43_1) (.none rfl) rfl rfl ?_
   refine WP.val (v_indexAddrA (lo := k) rfl rfl rfl Tryd.underlying41 sz_40 (by omega) (by omega)) (.none rfl) rfl rfl ?_
   refine WP.val (v_move rfl rfl) (.none rfl) rfl rfl ?_
   refine WP.val (v_fieldAddr0 rfl rfl fld_43_1) (.none rfl) rfl rfl ?_
   refine WP.val (v_indexAddrA (lo := k) rfl rfl rfl Tryd.underlying41 sz_40 (by omega) (by omega)) (.none rfl) rfl rfl ?_
   refine WP.val (v_move rfl rfl) (.none rfl) rfl rfl ?_
   refine WP.val (v_fieldAddr0 rfl rfl fld_43_0) (.none rfl) rfl rfl ?_
   refine WP.val (v_indexAddrA (lo := k) rfl rfl rfl Tryd.underlying41 sz_40 (by omega) (by omega)) (.none rfl) rfl rfl ?_
   refine WP.val (v_move rfl rfl) (.none rfl) rfl rfl ?_
   refine WP.val (v_fieldAddr0 rfl rfl fld_43_0) (.none rfl) rfl rfl ?_
   refine WP.val (v_indexAddrA (lo := k) rfl rfl rfl Tryd.underlying41 sz_40 (by omega) (by omega)) (.none rfl) rfl rfl ?_
   refine WP.nil ?_
   refine WR.read (g := 3) [3, 7, 8, 12, 16, 17] (by kernel_rfl) (by kernel_rfl) (by kernel_rfl) (by kernel_rfl) rfl ?_
   refine WQ.val (v_load1 rfl rfl one_40 (cellAt (mtL_mask m (by omega)))) (.none rfl) rfl rfl ?_
   refine WQ.val (v_load1 rfl rfl one_40 (cellAt (mtL_mask n (by omega)))) (.none rfl) rfl rfl ?_
   refine WQ.call _ rfl rfl ck_50 (.none rfl) rfl rfl (fun w hS => Calls.still (CmpU_c w (m.mask k) (n.mask k)) hS) ?_
   refine WQ.val (v_load1 rfl rfl one_40 (cellAt (mtL_val m (by omega)))) (.none rfl) rfl rfl ?_
   refine WQ.val (v_load1 rfl rfl one_40 (cellAt (mtL_val n (by omega)))) (.none rfl) rfl rfl ?_
   refine WQ.call _ rfl rfl ck_50 (.none rfl) rfl rfl (fun w hS => Calls.still (CmpU_c w (m.val k) (n.val k)) hS) ?_
   refine WQ.nilR ?_
   refine WR.ones (g := 2) [18] (by kernel_rfl) ?_
   refine WL.buildSlice rfl rfl Tryd.underlying31 sz_3 zero_3 rfl (by decide) rfl (.none rfl) rfl rfl ?_
   intro g28 hg28
   refine WL.nilR ?_
   refine WR.read (g := 0) [19, 20] (by kernel_rfl) (by kernel_rfl) (by kernel_rfl) (by kernel_rfl) rfl ?_
   refine WQ.call _ rfl rfl ck_32 (.none rfl) rfl rfl (fun w hS => Calls.still (Or_c w _ _ _ (hS.cell rfl) (hS.cell rfl)) hS) ?_
   refine WQ.val (v_assign rfl rfl) (.none rfl) rfl rfl ?_
   refine WQ.nilR ?_
   refine WR.done (by kernel_rfl) ?_
   refine WE.then_n ?_
   refine WC.seq ?_
   refine WC.region ?_
   refine WL.val (v_move rfl rfl) (.none rfl) rfl rfl ?_
   refine WL.test (v_neq rfl rfl rfl) (.none rfl) rfl rfl (fun h31 => ?_) (fun h31 => ?_)
   ·
    refine WL.nil ?_
    refine WE.then_n ?_
    refine WC.cond_t rfl ?_
    refine WC.seq ?_
    refine WC.region ?_
    refine WL.val (v_move rfl rfl) (.none rfl) rfl rfl ?_
    refine WL.val (v_assign rfl rfl) (.none rfl) rfl rfl ?_
    refine WL.nil ?_
    refine WE.then_n ?_
    refine WC.ret ?_
    refine WE.block_ret ?_
    refine WE.then_ret ?_
    refine WE.then_ret ?_
    refine WE.block_ret ?_
    refine WE.then_ret ?_
    refine WE.ret1 (P := Tryd.prog) (.inl rfl) Tryd.results34 rfl ?_
    have e1 : mcmpK m n (k + 1) = (if cmpI (m.mask k) (n.mask k) ≠ 0 then cmpI (m.mask k) (n.mask k) else cmpI (m.val k) (n.val k)) := (by show (if mcmpK m n k ≠ 0 then mcmpK m n k else _) = _; rw [if_neg (fun q => q h0)])
    have e2 := mcmp_stays (m := m) (n := n) (k := k + 1) (by rw [e1]; exact h31) (8 - k)
    rw [show k + 1 + (8 - k) = 9 by omega] at e2
    exact fun w' h => ⟨by rw [e2, e1], h.frm⟩
   ·
    refine WL.nil ?_
    refine WE.then_n ?_
    refine WC.cond_f rfl ?_
    refine WC.skip ?_
    refine WE.block_n ?_
    refine WE.then_n ?_
    refine WC.region ?_
    refine WL.val (v_add rfl rfl rfl (w_i64 (by omega) (by omega))) (.none rfl) rfl rfl ?_
    refine WL.val (v_move rfl rfl) (.none rfl) rfl rfl ?_
    refine WL.nil ?_
    exact WE.next (k + 1) (by omega) ⟨by omega, by show (if _ then _ else _) = _; rw [if_neg (fun q => q h0)]; exact Classical.not_not.1 h31⟩ (.int rfl (by omega) (.cons rfl (.cons rfl .nil))) (.cons _ (.refl _))
  ·
   refine WL.nil ?_
   refine WE.then_n ?_
   refine WC.seq ?_
   refine WC.cond_f rfl ?_
   refine WC.exit ?_
   refine WE.then_exit ?_
   refine WE.then_exit ?_
   refine WE.block_hit ?_
   refine WE.then_n ?_
   refine WC.seq ?_
   refine WC.region ?_
   refine WL.val (v_assign rfl rfl) (.none rfl) rfl rfl ?_
   refine WL.nil ?_
   refine WE.then_n ?_
   refine WC.ret ?_
   refine WE.ret1 (P := Tryd.prog) (.inl rfl) Tryd.results34 rfl ?_
   obtain rfl : k = 9 := (by omega)
   exact fun w' h => ⟨by rw [h0], h.frm⟩
theorem enC_match (e : EnL) : seg e.cells 2 18 = mtL e.r.m := by
  unfold seg EnL.cells
  exact (congrArg (List.take 18) (show List.drop 2 (.int .i64 e.prio :: .int .i64 e.mark :: e.r.cells) = List.drop 0 e.r.cells from rfl)).trans (ruC_match e.r)
theorem enC_rule (e : EnL) : seg e.cells 2 19 = e.r.cells := by
  unfold seg EnL.cells
  show List.take 19 e.r.cells = _
  exact List.take_of_length_le (by rw [RuL.len]; omega)
theorem order_c (w : World) (x y : EnL) :
    Calls Tryd.prog 20 #[.agg x.cells.toArray, .agg y.cells.toArray] w fun e w' => e = .returned (.int .i64 (ordE x.d y.d)) ∧ Frm (fun _ => False) w w' := by
  refine enter Tryd.func20 rfl Tryd.ntmps20 rfl (St.start (fun _ => False) w) ?_
  refine WC.seq ?_
  refine WC.region ?_
  refine WL.box rfl rfl rfl (.none rfl) rfl rfl ?_
  intro g2 hg2
  refine WL.box rfl rfl rfl (.none rfl) rfl rfl ?_
  intro g3 hg3
  refine WL.val (v_assign rfl rfl) (.none rfl) rfl rfl ?_
  refine WL.nil ?_
  refine WE.then_n ?_
  refine WC.seq ?_
  refine WC.orders mixed ?_
  refine WR.first (g := 9) [0, 2, 5, 6, 8, 9] (by kernel_rfl) (by kernel_rfl) ?_
  refine WP.val (v_fieldAddr0 rfl rfl fld_48_0) (.none rfl) rfl rfl ?_
  refine WP.val (v_fieldAddr0 rfl rfl fld_48_0) (.none rfl) rfl rfl ?_
  refine WP.val (v_fieldAddr0 rfl rfl fld_48_2) (.none rfl) rfl rfl ?_
  refine WP.val (v_fieldAddr rfl rfl fld_46_0) (.none rfl) rfl rfl ?_
  refine WP.val (v_fieldAddr0 rfl rfl fld_48_2) (.none rfl) rfl rfl ?_
  refine WP.val (v_fieldAddr rfl rfl fld_46_0) (.none rfl) rfl rfl ?_
  refine WP.nil ?_
  refine WR.read (g := 3) [1, 3, 4, 7, 10, 11] (by kernel_rfl) (by kernel_rfl) (by kernel_rfl) (by kernel_rfl) rfl ?_
  refine WQ.val (v_load1 rfl rfl one_3 (cellAt (v := .int .i64 y.prio) rfl)) (.none rfl) rfl rfl ?_
  refine WQ.val (v_load1 rfl rfl one_3 (cellAt (v := .int .i64 x.prio) rfl)) (.none rfl) rfl rfl ?_
  refine WQ.call _ rfl rfl ck_33 (.none rfl) rfl rfl (fun w hS => Calls.still (CmpI_c w y.prio x.prio) hS) ?_
  refine WQ.val (v_loadN rfl rfl many_43 rfl (segAt (m := 18) (enC_match x))) (.none rfl) rfl rfl ?_
  refine WQ.val (v_loadN rfl rfl many_43 rfl (segAt (m := 18) (enC_match y))) (.none rfl) rfl rfl ?_
  refine WQ.call _ rfl rfl ck_34 (.none rfl) rfl rfl (fun w hS => Calls.still (MCmp_c w x.r.m y.r.m) hS) ?_
  refine WQ.nilR ?_
  refine WR.ones (g := 2) [12] (by kernel_rfl) ?_
  refine WL.buildSlice rfl rfl Tryd.underlying31 sz_3 zero_3 rfl (by decide) rfl (.none rfl) rfl rfl ?_
  intro g17 hg17
  refine WL.nilR ?_
  refine WR.read (g := 0) [13, 14] (by kernel_rfl) (by kernel_rfl) (by kernel_rfl) (by kernel_rfl) rfl ?_
  refine WQ.call _ rfl rfl ck_32 (.none rfl) rfl rfl (fun w hS => Calls.still (Or_c w _ _ _ (hS.cell rfl) (hS.cell rfl)) hS) ?_
  refine WQ.val (v_assign rfl rfl) (.none rfl) rfl rfl ?_
  refine WQ.nilR ?_
  refine WR.done (by kernel_rfl) ?_
  refine WE.then_n ?_
  refine WC.ret ?_
  refine WE.ret1 (P := Tryd.prog) (.inl rfl) Tryd.results20 rfl ?_
  exact fun w' h => ⟨rfl, h.frm⟩
theorem EnCheck_c (w : World) (x : EnL) (hI : x.d.In) (ha : Rg w x.r.ad (actsL x.r.acts)) (hG : GW w) :
    Calls Tryd.prog 16 #[.agg x.cells.toArray] w fun e w' => e = .returned (.int .i64 x.d.err) ∧ Frm (fun _ => False) w w' := by
  refine enter Tryd.func16 rfl Tryd.ntmps16 rfl (St.start (fun _ => False) w) ?_
  refine WC.seq ?_
  refine WC.region ?_
  refine WL.box rfl rfl rfl (.none rfl) rfl rfl ?_
  intro g1 hg1
  refine WL.val (v_assign rfl rfl) (.none rfl) rfl rfl ?_
  refine WL.nil ?_
  refine WE.then_n ?_
  refine WC.seq ?_
  refine WC.seq ?_
  refine WC.region ?_
  refine WL.val (v_fieldAddr0 rfl rfl fld_48_0) (.none rfl) rfl rfl ?_
  refine WL.val (v_load1 rfl rfl one_3 (cellAt (v := .int .i64 x.prio) rfl)) (.none rfl) rfl rfl ?_
  refine WL.test (v_lss rfl rfl rfl) (.none rfl) rfl rfl (fun h5 => ?_) (fun h5 => ?_)
  ·
   refine WL.val (v_move rfl rfl) (.none rfl) rfl rfl ?_
   iterate 3 refine WL.skip rfl rfl rfl rfl rfl rfl ?_
   refine WL.val (v_pick_t rfl rfl rfl) (.none rfl) rfl rfl ?_
   refine WL.nil ?_
   refine WE.then_n ?_
   refine WC.cond_t rfl ?_
   refine WC.seq ?_
   refine WC.region ?_
   refine WL.val (v_assign rfl rfl) (.none rfl) rfl rfl ?_
   refine WL.nil ?_
   refine WE.then_n ?_
   refine WC.ret ?_
   refine WE.then_ret ?_
   refine WE.ret1 (P := Tryd.prog) (.inl rfl) Tryd.results16 rfl ?_
   exact fun w' h => ⟨by unfold EnD.err; rw [if_neg (by show ¬ (0 ≤ x.prio ∧ x.prio ≤ 1073741824); omega)], h.frm⟩
  ·
   refine WL.val (v_move rfl rfl) (.none rfl) rfl rfl ?_
   refine WL.val (v_fieldAddr0 rfl rfl fld_48_0) (.some rfl rfl rfl) rfl rfl ?_
   refine WL.val (v_load1 rfl rfl one_3 (cellAt (v := .int .i64 x.prio) rfl)) (.some rfl rfl rfl) rfl rfl ?_
   refine WL.test (v_gtr rfl rfl rfl) (.some rfl rfl rfl) rfl rfl (fun h9 => ?_) (fun h9 => ?_)
   ·
    refine WL.val (v_pick_f rfl rfl rfl) (.none rfl) rfl rfl ?_
    refine WL.nil ?_
    refine WE.then_n ?_
    refine WC.cond_t rfl ?_
    refine WC.seq ?_
    refine WC.region ?_
    refine WL.val (v_assign rfl rfl) (.none rfl) rfl rfl ?_
    refine WL.nil ?_
    refine WE.then_n ?_
    refine WC.ret ?_
    refine WE.then_ret ?_
    refine WE.ret1 (P := Tryd.prog) (.inl rfl) Tryd.results16 rfl ?_
    exact fun w' h => ⟨by unfold EnD.err; rw [if_neg (by show ¬ (0 ≤ x.prio ∧ x.prio ≤ 1073741824); omega)], h.frm⟩
   ·
    refine WL.val (v_pick_f rfl rfl rfl) (.none rfl) rfl rfl ?_
    refine WL.nil ?_
    refine WE.then_n ?_
    refine WC.cond_f rfl ?_
    refine WC.skip ?_
    refine WE.then_n ?_
    refine WC.seq ?_
    refine WC.region ?_
    refine WL.val (v_fieldAddr0 rfl rfl fld_48_2) (.none rfl) rfl rfl ?_
    refine WL.val (v_loadN rfl rfl many_46 rfl (segAt (m := 19) (enC_rule x))) (.none rfl) rfl rfl ?_
    refine WL.buildSlice rfl rfl Tryd.underlying74 sz_46 zero_46 rfl (by decide) (by show some (splice (List.replicate 1 _).flatten 0 (x.r.cells)) = some x.r.cells; rw [splice_all (by rw [RuL.len]; rfl)]) (.none rfl) rfl rfl ?_
    intro g13 hg13
    refine WL.call rfl rfl ck_26 (.none rfl) rfl rfl ?_
    intro w hS
    refine Calls.then (RsCheck_c w _ 1 x.r hI.r (allAt (g := g13) w hS) (ha.frm hS.frm (fun _ _ _ h => h)) (hG.keep (fun h => h) hS)) hS ?_
    refine WL.val (v_assign rfl rfl) (.none rfl) rfl rfl ?_
    refine WL.nil ?_
    refine WE.then_n ?_
    refine WC.ret ?_
    refine WE.ret1 (P := Tryd.prog) (.inl rfl) Tryd.results16 rfl ?_
    exact fun w' h => ⟨by unfold EnD.err; rw [if_pos (by show 0 ≤ x.prio ∧ x.prio ≤ 1073741824; omega)]; rfl, h.frm⟩
end Go.Proofs.YtkeonnnhogaggaaDoor
/- slices.Clone, slices.Compact of rules.Act (printed by gen/slc.py). -/
namespace Go.Proofs.YtkeonnnhogaggaaDoor
open Go.RowKit

set_option maxHeartbeats 1000000 in
theorem CloneAc_c (w : World) (ad : Option Addr) (c : Nat) (xs : List Ac) (hr : Rg w ad (encL acL xs)) (hone : (encL acL xs).all one = true) (hn : xs.length ≤ 100000) :
    Calls Tryd.prog 27 #[.slice ad xs.length c] w fun e w' => ∃ ad' c' E, e = .returned (.slice ad' xs.length c') ∧ Vec 10 ad' xs.length c' (encL acL xs) E ∧ St (fun _ => False) w w' E := by
  cases ad with
  | none =>
    obtain rfl : xs = [] := Classical.byContradiction fun h => by
      obtain ⟨b, o, e, _⟩ := hr (fun hn => h (List.length_eq_zero_iff.1 (by have := encL_len acL_len xs; rw [hn] at this; simp at this; omega)))
      cases e
    refine enter Tryd.func27 rfl Tryd.ntmps27 rfl (St.start (fun _ => False) w) ?_
    refine WC.seq ?_
    refine WC.region ?_
    refine WL.val (v_assign rfl rfl) (.none rfl) rfl rfl ?_
    refine WL.nil ?_
    refine WE.then_n ?_
    refine WC.seq ?_
    refine WC.seq ?_
    refine WC.region ?_
    refine WL.val (v_move rfl rfl) (.none rfl) rfl rfl ?_
    refine WL.val (v_eql_nil true rfl rfl Tryd.underlying44 rfl) (.none rfl) rfl rfl ?_
    refine WL.nil ?_
    refine WE.then_n ?_
    refine WC.cond_t rfl ?_
    refine WC.seq ?_
    refine WC.region ?_
    refine WL.val (v_assign rfl rfl) (.none rfl) rfl rfl ?_
    refine WL.nil ?_
    refine WE.then_n ?_
    refine WC.ret ?_
    refine WE.then_ret ?_
    refine WE.ret1 (P := Tryd.prog) (.inl rfl) Tryd.results27 rfl ?_
    exact fun w' h => ⟨none, 0, [], rfl, Vec.nil 10, h⟩
  | some a =>
    have hl := encL_len acL_len xs
    refine enter Tryd.func27 rfl Tryd.ntmps27 rfl (St.start (fun _ => False) w) ?_
    refine WC.seq ?_
    refine WC.region ?_
    refine WL.val (v_assign rfl rfl) (.none rfl) rfl rfl ?_
    refine WL.nil ?_
    refine WE.then_n ?_
    refine WC.seq ?_
    refine WC.seq ?_
    refine WC.region ?_
    refine WL.val (v_move rfl rfl) (.none rfl) rfl rfl ?_
    refine WL.val (v_eql_nil false rfl rfl Tryd.underlying44 rfl) (.none rfl) rfl rfl ?_
    refine WL.nil ?_
    refine WE.then_n ?_
    refine WC.cond_f rfl ?_
    refine WC.skip ?_
    refine WE.then_n ?_
    refine WC.seq ?_
    refine WC.region ?_
    refine WL.buildSlice rfl rfl Tryd.underlying44 sz_70 zero_70 rfl (by decide) rfl (.none rfl) rfl rfl ?_
    intro g5 hg5
    refine WL.val (v_move rfl rfl) (.none rfl) rfl rfl ?_
    refine WL.appendL rfl rfl rfl Tryd.underlying44 Tryd.underlying44 sz_70 by_70 zero_70 rfl rfl (E := [.row g5 []]) (Vec.row (k := 0) (s := 10) (c := 0) rfl rfl (by omega)) (new := encL acL xs) (fun h => by obtain ⟨b', o', e', hr'⟩ := hr (fun hn => by rw [hn] at hl; simp at hl; omega); exact ⟨b', o', e', rgIn (fun h => h) hr'⟩) hl hone (by omega) (.none rfl) rfl rfl ?_
    intro ad7 c7 E7 hV7 hr7
    refine WL.val (v_assign rfl rfl) (.none rfl) rfl rfl ?_
    refine WL.nil ?_
    refine WE.then_n ?_
    refine WC.ret ?_
    refine WE.ret1 (P := Tryd.prog) (.inl rfl) Tryd.results27 rfl ?_
    exact fun w' h => ⟨ad7, c7, E7, by rw [Nat.zero_add], by simpa using hV7, h.sub (List.sublist_append_left _ _)⟩
structure CsAc where
  k : Nat
  j : Nat
  ys : List Ac
set_option maxHeartbeats 4000000 in
theorem CompactAc_c (p : Nat → Prop) (w0 w : World) (L E : List Ent) (ad : Option Addr) (c : Nat) (xs : List Ac) (eq : Ac → Ac → Bool) (heq : ∀ x y, eq x y = true ↔ acL x = acL y) (hV : Vec 10 ad xs.length c (encL acL xs) E) (hS : St p w0 w (E ++ L)) (hn : xs.length ≤ 100000) :
    Calls Tryd.prog 30 #[.slice ad xs.length c] w fun e w' => ∃ E', e = .returned (.slice ad (uniq eq xs).length c) ∧ Vec 10 ad (uniq eq xs).length c (encL acL (uniq eq xs)) E' ∧ St p w0 w' (E' ++ L) := by
  by_cases h2 : xs.length < 2
  · have e0 : uniq eq xs = xs := (match xs, h2 with | [], _ => rfl | [x], _ => rfl | _ :: _ :: _, h => absurd h (by simp))
    rw [e0]
    refine enter Tryd.func30 rfl Tryd.ntmps30 rfl hS ?_
    refine WC.seq ?_
    refine WC.region ?_
    refine WL.val (v_assign rfl rfl) (.none rfl) rfl rfl ?_
    refine WL.nil ?_
    refine WE.then_n ?_
    refine WC.seq ?_
    refine WC.seq ?_
    refine WC.region ?_
    refine WL.val (v_move rfl rfl) (.none rfl) rfl rfl ?_
    refine WL.val (v_len_slice rfl rfl Tryd.underlying44) (.none rfl) rfl rfl ?_
    refine WL.val ((v_lss rfl rfl rfl).t (by omega)) (.none rfl) rfl rfl ?_
    refine WL.nil ?_
    refine WE.then_n ?_
    refine WC.cond_t rfl ?_
    refine WC.seq ?_
    refine WC.region ?_
    refine WL.val (v_move rfl rfl) (.none rfl) rfl rfl ?_
    refine WL.val (v_assign rfl rfl) (.none rfl) rfl rfl ?_
    refine WL.nil ?_
    refine WE.then_n ?_
    refine WC.ret ?_
    refine WE.then_ret ?_
    refine WE.ret1 (P := Tryd.prog) (.inl rfl) Tryd.results30 rfl ?_
    exact fun w' h => ⟨E, rfl, hV, h⟩
  have hlen := @acL_len
  obtain ⟨g, R, rfl, rfl, hcl, hcap⟩ := hV.split (fun e => h2 (by rw [e]; exact Nat.zero_lt_two))
  have hel := encL_len hlen xs
  rw [List.length_append, hel] at hcl
  refine enter Tryd.func30 rfl Tryd.ntmps30 rfl hS ?_
  refine WC.seq ?_
  refine WC.region ?_
  refine WL.val (v_assign rfl rfl) (.none rfl) rfl rfl ?_
  refine WL.nil ?_
  refine WE.then_n ?_
  refine WC.seq ?_
  refine WC.seq ?_
  refine WC.region ?_
  refine WL.val (v_move rfl rfl) (.none rfl) rfl rfl ?_
  refine WL.val (v_len_slice rfl rfl Tryd.underlying44) (.none rfl) rfl rfl ?_
  refine WL.val ((v_lss rfl rfl rfl).f (by omega)) (.none rfl) rfl rfl ?_
  refine WL.nil ?_
  refine WE.then_n ?_
  refine WC.cond_f rfl ?_
  refine WC.skip ?_
  refine WE.then_n ?_
  refine WC.seq ?_
  refine WC.seq ?_
  refine WC.region ?_
  refine WL.val (v_assign rfl rfl) (.none rfl) rfl rfl ?_
  refine WL.nil ?_
  refine WE.then_n ?_
  refine WC.block ?_
  refine WC.loop (fun k : Nat => [(3, .int .i64 k), (0, .slice (some ⟨g, 0, none⟩) xs.length c)]) (fun _ => .row g (encL acL xs ++ R) :: L) (fun k => 1 ≤ k ∧ k ≤ xs.length ∧ uniq eq (xs.take k) = xs.take k) (fun k => xs.length - k) 1 ⟨Nat.le_refl _, by omega, by match xs, h2 with | x :: l, _ => rfl⟩ (.cons rfl (.cons rfl .nil)) (.refl _) ?_
  rintro k ⟨hk1, hk, hu⟩
  refine WC.seq ?_
  refine WC.seq ?_
  refine WC.region ?_
  refine WL.val (v_move rfl rfl) (.none rfl) rfl rfl ?_
  refine WL.val (v_move rfl rfl) (.none rfl) rfl rfl ?_
  refine WL.val (v_len_slice rfl rfl Tryd.underlying44) (.none rfl) rfl rfl ?_
  refine WL.test (v_lss rfl rfl rfl) (.none rfl) rfl rfl (fun h13 => ?_) (fun h13 => ?_)
  ·
   refine WL.nil ?_
   refine WE.then_n ?_
   refine WC.cond_t rfl ?_
   refine WC.skip ?_
   refine WE.then_n ?_
   refine WC.seq ?_
   refine WC.block ?_
   refine WC.seq ?_
   refine WC.quiet mixed (by kernel_rfl) ?_
   refine WQ.val (v_move rfl rfl) (.none rfl) rfl rfl ?_
   refine WQ.val (v_move rfl rfl) (.none rfl) rfl rfl ?_
   obtain ⟨m, rfl⟩ : ∃ m, k = m + 1 := ⟨k - 1, by omega⟩
   obtain ⟨a, ha⟩ : ∃ a, xs[m]? = some a := ⟨xs[m]'(by omega), List.getElem?_eq_getElem _⟩
   obtain ⟨b, hb⟩ : ∃ b, xs[m + 1]? = some b := ⟨xs[m + 1]'(by omega), List.getElem?_eq_getElem _⟩
   obtain ⟨b25, hb25⟩ : ∃ q, q = eq b a := ⟨_, rfl⟩
   have hbe : b25 = true ↔ acL b = acL a := (by rw [hb25]; exact heq b a)
   have hut := uniq_take (eq := eq) ha hb
   have htk : xs.take (m + 1) ++ [b] = xs.take (m + 2) := (by rw [show m + 2 = (m + 1) + 1 from rfl, List.take_succ_eq_append_getElem (show m + 1 < xs.length by omega)]; exact congrArg (fun z => xs.take (m + 1) ++ [z]) (Option.some.inj (hb.symm.trans (List.getElem?_eq_getElem _))))
   refine WQ.val (v_indexAddr (lo := m + 1) rfl rfl rfl Tryd.underlying44 sz_70 (by omega) (by omega)) (.none rfl) rfl rfl ?_
   refine WQ.val (v_loadN (cs := acL b) rfl rfl many_70 (acL_len b) (segAt (m := 10) (by rw [Nat.zero_add]; exact encL_at hlen hb))) (.none rfl) rfl rfl ?_
   refine WQ.val (v_move rfl rfl) (.none rfl) rfl rfl ?_
   refine WQ.val (v_move rfl rfl) (.none rfl) rfl rfl ?_
   refine WQ.val (v_sub rfl rfl rfl (w_i64 (by omega) (by omega))) (.none rfl) rfl rfl ?_
   refine WQ.val (v_indexAddr (lo := m) rfl rfl rfl Tryd.underlying44 sz_70 (by omega) (by omega)) (.none rfl) rfl rfl ?_
   refine WQ.val (v_loadN (cs := acL a) rfl rfl many_70 (acL_len a) (segAt (m := 10) (by rw [Nat.zero_add]; exact encL_at hlen ha))) (.none rfl) rfl rfl ?_
   refine WQ.val (v_eql_aggD (b := b25) rfl rfl rfl eqk_70 eqg_70 rfl rfl hbe) (.none rfl) rfl rfl ?_
   cases b25
   ·
    refine WQ.nil ?_
    refine WE.then_n ?_
    refine WC.cond_f rfl ?_
    refine WC.skip ?_
    refine WE.block_n ?_
    refine WE.then_n ?_
    refine WC.region ?_
    refine WL.val (v_move rfl rfl) (.none rfl) rfl rfl ?_
    refine WL.val (v_add rfl rfl rfl (w_i64 (by omega) (by omega))) (.none rfl) rfl rfl ?_
    refine WL.val (v_assign rfl rfl) (.none rfl) rfl rfl ?_
    refine WL.nil ?_
    exact WE.next (m + 2) (by omega) ⟨by omega, by omega, by rw [hut, ← hb25, if_neg (by decide), hu]; exact htk⟩ (.int rfl (by omega) (.cons rfl .nil)) (.refl _)
   ·
    refine WQ.nil ?_
    refine WE.then_n ?_
    refine WC.cond_t rfl ?_
    refine WC.seq ?_
    refine WC.region ?_
    refine WL.val (v_move rfl rfl) (.none rfl) rfl rfl ?_
    refine WL.val (v_move rfl rfl) (.none rfl) rfl rfl ?_
    refine WL.val (v_slice_loS (lo := m + 1) rfl rfl rfl Tryd.underlying44 sz_70 (by omega) (by omega) (by omega)) (.none rfl) rfl rfl ?_
    refine WL.val (v_assign rfl rfl) (.none rfl) rfl rfl ?_
    refine WL.nil ?_
    refine WE.then_n ?_
    refine WC.seq ?_
    refine WC.seq ?_
    refine WC.region ?_
    refine WL.val (v_assign rfl rfl) (.none rfl) rfl rfl ?_
    refine WL.nil ?_
    refine WE.then_n ?_
    refine WC.block ?_
    refine WC.loop (fun x : CsAc => [(3, .int .i64 x.k), (5, .int .i64 x.j), (4, .slice (some ⟨g, 0 + (m + 1) * 10, none⟩) (xs.length - (m + 1)) (c - (m + 1))), (0, .slice (some ⟨g, 0, none⟩) xs.length c)]) (fun x => .row g (encL acL x.ys ++ R) :: L) (fun x => x.ys.length = xs.length ∧ 1 ≤ x.j ∧ m + 1 + x.j ≤ xs.length ∧ x.k ≤ m + x.j ∧ x.ys.take x.k = uniq eq (xs.take (m + 1 + x.j)) ∧ ∀ i, m + x.j ≤ i → x.ys[i]? = xs[i]?) (fun x => xs.length - x.j) ⟨m + 1, 1, xs⟩ ⟨rfl, Nat.le_refl _, by dsimp only; omega, Nat.le_refl _, by dsimp only; rw [show m + 1 + 1 = m + 2 from rfl, hut, ← hb25, if_pos rfl, hu, List.append_nil], fun i _ => rfl⟩ (.int rfl (by first | rfl | (dsimp only; omega)) (.int rfl rfl (.cons rfl (.cons rfl .nil)))) (.refl _) ?_
    rintro ⟨k, j, ys⟩ ⟨hyl, hj1, hj, hkj, hut', hys⟩
    dsimp only at hyl hj1 hj hkj hut' hys
    dsimp only
    refine WC.seq ?_
    refine WC.seq ?_
    refine WC.region ?_
    refine WL.val (v_move rfl rfl) (.none rfl) rfl rfl ?_
    refine WL.val (v_move rfl rfl) (.none rfl) rfl rfl ?_
    refine WL.val (v_len_slice rfl rfl Tryd.underlying44) (.none rfl) rfl rfl ?_
    refine WL.test (v_lss rfl rfl rfl) (.none rfl) rfl rfl (fun h32 => ?_) (fun h32 => ?_)
    ·
     refine WL.nil ?_
     refine WE.then_n ?_
     refine WC.cond_t rfl ?_
     refine WC.skip ?_
     refine WE.then_n ?_
     refine WC.seq ?_
     refine WC.block ?_
     refine WC.seq ?_
     refine WC.quiet mixed (by kernel_rfl) ?_
     refine WQ.val (v_move rfl rfl) (.none rfl) rfl rfl ?_
     refine WQ.val (v_move rfl rfl) (.none rfl) rfl rfl ?_
     obtain ⟨i, rfl⟩ : ∃ i, j = i + 1 := ⟨j - 1, by omega⟩
     obtain ⟨a', ha'⟩ : ∃ a, xs[m + 1 + i]? = some a := ⟨xs[m + 1 + i]'(by omega), List.getElem?_eq_getElem _⟩
     obtain ⟨b', hb'⟩ : ∃ b, xs[m + 1 + i + 1]? = some b := ⟨xs[m + 1 + i + 1]'(by omega), List.getElem?_eq_getElem _⟩
     obtain ⟨b44, hb44⟩ : ∃ q, q = !eq b' a' := ⟨_, rfl⟩
     have hbe' : b44 = true ↔ ¬ acL b' = acL a' := (by rw [hb44, ← heq]; simp)
     have hb44' : eq b' a' = !b44 := (by rw [hb44]; simp)
     have hut2 := uniq_take (eq := eq) ha' hb'
     have ya : ys[m + 1 + i]? = some a' := (by rw [hys _ (by omega)]; exact ha')
     have yb : ys[m + 1 + i + 1]? = some b' := (by rw [hys _ (by omega)]; exact hb')
     refine WQ.val (v_indexAddr (lo := i + 1) rfl rfl rfl Tryd.underlying44 sz_70 (by omega) (by omega)) (.none rfl) rfl rfl ?_
     refine WQ.val (v_loadN (cs := acL b') rfl rfl many_70 (acL_len b') (segAt (m := 10) (by rw [show 0 + (m + 1) * 10 + (i + 1) * 10 = (m + 1 + i + 1) * 10 by omega]; exact encL_at hlen yb))) (.none rfl) rfl rfl ?_
     refine WQ.val (v_move rfl rfl) (.none rfl) rfl rfl ?_
     refine WQ.val (v_move rfl rfl) (.none rfl) rfl rfl ?_
     refine WQ.val (v_sub rfl rfl rfl (w_i64 (by omega) (by omega))) (.none rfl) rfl rfl ?_
     refine WQ.val (v_indexAddr (lo := i) rfl rfl rfl Tryd.underlying44 sz_70 (by omega) (by omega)) (.none rfl) rfl rfl ?_
     refine WQ.val (v_loadN (cs := acL a') rfl rfl many_70 (acL_len a') (segAt (m := 10) (by rw [show 0 + (m + 1) * 10 + i * 10 = (m + 1 + i) * 10 by omega]; exact encL_at hlen ya))) (.none rfl) rfl rfl ?_
     refine WQ.val (v_neq_aggE (b := b44) rfl rfl rfl eqk_70 eqg_70 rfl rfl hbe') (.none rfl) rfl rfl ?_
     cases b44
     ·
      refine WQ.nil ?_
      refine WE.then_n ?_
      refine WC.cond_f rfl ?_
      refine WC.skip ?_
      refine WE.block_n ?_
      refine WE.then_n ?_
      refine WC.region ?_
      refine WL.val (v_move rfl rfl) (.none rfl) rfl rfl ?_
      refine WL.val (v_add rfl rfl rfl (w_i64 (by omega) (by omega))) (.none rfl) rfl rfl ?_
      refine WL.val (v_assign rfl rfl) (.none rfl) rfl rfl ?_
      refine WL.nil ?_
      exact WE.next ⟨k, i + 2, ys⟩ (by dsimp only; omega) ⟨hyl, by dsimp only; omega, by dsimp only; omega, by dsimp only; omega, by
      dsimp only
      rw [show m + 1 + (i + 2) = m + 1 + i + 2 by omega, hut2, hb44', if_pos (show (!false) = true from rfl), List.append_nil, show m + 1 + i + 1 = m + 1 + (i + 1) by omega]; exact hut', fun q hq => by dsimp only at hq ⊢; exact hys q (by omega)⟩ (.int rfl rfl (.int rfl (by dsimp only; omega) (.cons rfl (.cons rfl .nil)))) (.refl _)
     ·
      refine WQ.nil ?_
      refine WE.then_n ?_
      refine WC.cond_t rfl ?_
      refine WC.seq ?_
      refine WC.region ?_
      refine WL.val (v_move rfl rfl) (.none rfl) rfl rfl ?_
      refine WL.val (v_move rfl rfl) (.none rfl) rfl rfl ?_
      refine WL.val (v_move rfl rfl) (.none rfl) rfl rfl ?_
      refine WL.val (v_move rfl rfl) (.none rfl) rfl rfl ?_
      refine WL.val (v_indexAddr (lo := i + 1) rfl rfl rfl Tryd.underlying44 sz_70 (by omega) (by omega)) (.none rfl) rfl rfl ?_
      refine WL.val (v_loadN (cs := acL b') rfl rfl many_70 (acL_len b') (segAt (m := 10) (by rw [show 0 + (m + 1) * 10 + (i + 1) * 10 = (m + 1 + i + 1) * 10 by omega]; exact encL_at hlen yb))) (.none rfl) rfl rfl ?_
      refine WL.val (v_indexAddr (lo := k) rfl rfl rfl Tryd.underlying44 sz_70 (by omega) (by omega)) (.none rfl) rfl rfl ?_
      refine WL.storeN rfl rfl rfl rfl many_70 rfl (by rw [List.length_append, encL_len hlen, hyl]; omega) (.none rfl) rfl ?_
      refine WL.as (L' := .row g (encL acL (ys.set k b') ++ R) :: L) (by rw [Nat.zero_add, encL_set hlen ys k b' R (by omega)]) ?_
      refine WL.nil ?_
      refine WE.then_n ?_
      refine WC.region ?_
      refine WL.val (v_move rfl rfl) (.none rfl) rfl rfl ?_
      refine WL.val (v_add rfl rfl rfl (w_i64 (by omega) (by omega))) (.none rfl) rfl rfl ?_
      refine WL.val (v_assign rfl rfl) (.none rfl) rfl rfl ?_
      refine WL.nil ?_
      refine WE.block_n ?_
      refine WE.then_n ?_
      refine WC.region ?_
      refine WL.val (v_move rfl rfl) (.none rfl) rfl rfl ?_
      refine WL.val (v_add rfl rfl rfl (w_i64 (by omega) (by omega))) (.none rfl) rfl rfl ?_
      refine WL.val (v_assign rfl rfl) (.none rfl) rfl rfl ?_
      refine WL.nil ?_
      exact WE.next ⟨k + 1, i + 2, ys.set k b'⟩ (by dsimp only; omega) ⟨by dsimp only; rw [List.length_set]; exact hyl, by dsimp only; omega, by dsimp only; omega, by dsimp only; omega, by
      dsimp only
      rw [show m + 1 + (i + 2) = m + 1 + i + 2 by omega, hut2, hb44', if_neg (show ¬ (!true) = true by decide), show m + 1 + i + 1 = m + 1 + (i + 1) by omega, ← hut', List.take_succ_eq_append_getElem (by rw [List.length_set]; omega), List.take_set_of_le (Nat.le_refl _), List.getElem_set_self], fun q hq => by dsimp only at hq ⊢; rw [List.getElem?_set_ne (by omega)]; exact hys q (by omega)⟩ (.int rfl (by dsimp only; omega) (.int rfl (by dsimp only; omega) (.cons rfl (.cons rfl .nil)))) (.refl _)
    ·
     refine WL.nil ?_
     refine WE.then_n ?_
     refine WC.cond_f rfl ?_
     refine WC.exit ?_
     refine WE.then_exit ?_
     refine WE.then_exit ?_
     refine WE.block_hit ?_
     refine WE.then_n ?_
     refine WC.seq ?_
     refine WC.region ?_
     refine WL.val (v_move rfl rfl) (.none rfl) rfl rfl ?_
     refine WL.val (v_move rfl rfl) (.none rfl) rfl rfl ?_
     refine WL.val (v_slice_loS (lo := k) rfl rfl rfl Tryd.underlying44 sz_70 (by omega) (by omega) (by omega)) (.none rfl) rfl rfl ?_
     refine WL.clear (s := 10) rfl rfl Tryd.underlying44 zero_70 rfl rfl (by rw [List.length_append, encL_len hlen, hyl]; omega) (.none rfl) rfl ?_
     refine WL.nil ?_
     refine WE.then_n ?_
     refine WC.seq ?_
     refine WC.region ?_
     refine WL.val (v_move rfl rfl) (.none rfl) rfl rfl ?_
     refine WL.val (v_move rfl rfl) (.none rfl) rfl rfl ?_
     refine WL.val (v_slice_hi (hi := k) rfl rfl rfl Tryd.underlying44 sz_70 (by omega) (by omega)) (.none rfl) rfl rfl ?_
     refine WL.val (v_assign rfl rfl) (.none rfl) rfl rfl ?_
     refine WL.nil ?_
     refine WE.then_n ?_
     refine WC.ret ?_
     refine WE.block_ret ?_
     refine WE.then_ret ?_
     refine WE.then_ret ?_
     refine WE.block_ret ?_
     refine WE.then_ret ?_
     refine WE.ret1 (P := Tryd.prog) (.inl rfl) Tryd.results30 rfl ?_
     obtain rfl : j = xs.length - (m + 1) := (by omega)
     have e1 : uniq eq xs = ys.take k := (by rw [hut', show m + 1 + (xs.length - (m + 1)) = xs.length by omega, List.take_length])
     have e2 : (uniq eq xs).length = k := (by rw [e1, List.length_take]; omega)
     refine fun w' h => ⟨[.row g _], by rw [e2], ?_, h⟩
     rw [e2, e1]
     refine Vec.row ?_ ?_ (by omega)
     · rw [Nat.zero_add, splice_take (by rw [zrs_len, List.length_append, encL_len hlen, hyl]; show _ + (xs.length - k) * 10 ≤ _; omega)]
       exact encL_take hlen ys k R (by omega)
     · rw [splice_length _ _ _ (by rw [zrs_len, List.length_append, encL_len hlen, hyl]; show _ + (xs.length - k) * 10 ≤ _; omega), List.length_append, encL_len hlen, hyl]
       exact hcl
  ·
   refine WL.nil ?_
   refine WE.then_n ?_
   refine WC.cond_f rfl ?_
   refine WC.exit ?_
   refine WE.then_exit ?_
   refine WE.then_exit ?_
   refine WE.block_hit ?_
   refine WE.then_n ?_
   refine WC.seq ?_
   refine WC.region ?_
   refine WL.val (v_move rfl rfl) (.none rfl) rfl rfl ?_
   refine WL.val (v_assign rfl rfl) (.none rfl) rfl rfl ?_
   refine WL.nil ?_
   refine WE.then_n ?_
   refine WC.ret ?_
   refine WE.ret1 (P := Tryd.prog) (.inl rfl) Tryd.results30 rfl ?_
   have e1 : uniq eq xs = xs := (by have := hu; rwa [show k = xs.length by omega, List.take_length] at this)
   rw [e1]
   exact fun w' h => ⟨_, rfl, Vec.row (by rw [encL_take hlen xs xs.length R (Nat.le_refl _), List.take_length]) (by rw [List.length_append, hel]; exact hcl) hcap, h⟩
end Go.Proofs.YtkeonnnhogaggaaDoor
/- The kit's laying SlLaysF0.n6 at this seat's functions. Printed by wip/tools/lays.py. -/
namespace Go.Proofs.YtkeonnnhogaggaaDoor
open Go.RowKit Go.Shelf

def ren28 : Ren := ⟨fun n => match n with | 6 => 28 | 14 => 44 | 15 => 45 | 20 => 53 | 21 => 54 | 22 => 55 | 23 => 56 | 24 => 57 | 25 => 58 | 26 => 59 | 27 => 60 | 28 => 61 | 29 => 62 | 46 => 66 | 47 => 67 | 48 => 68 | 49 => 69 | 50 => 70 | 57 => 72 | n => n, fun n => match n with | 0 => 0 | 3 => 3 | 4 => 4 | 5 => 5 | 9 => 9 | 22 => 44 | 24 => 70 | 25 => 79 | 39 => 94 | 45 => 102 | 46 => 103 | 50 => 107 | 53 => 25 | 55 => 40 | 66 => 113 | 70 => 117 | 76 => 119 | 77 => 120 | n => n, fun n => n⟩
set_option maxRecDepth 100000 in
theorem lays28 : SlLaysF0.n6 Tryd.prog ren28 where
  mixed := mixed
  f6 := ⟨Tryd.f28.name, by decide, Tryd.func28.trans (congrArg some (by kernel_rfl))⟩
  f14 := ⟨Tryd.f44.name, by decide, Tryd.func44.trans (congrArg some (by kernel_rfl))⟩
  f15 := Tryd.func45.trans (congrArg some (by kernel_rfl))
  f20 := ⟨Tryd.f53.name, by decide, Tryd.func53.trans (congrArg some (by kernel_rfl))⟩
  f21 := ⟨Tryd.f54.name, by decide, Tryd.func54.trans (congrArg some (by kernel_rfl))⟩
  f22 := ⟨Tryd.f55.name, by decide, Tryd.func55.trans (congrArg some (by kernel_rfl))⟩
  f23 := ⟨Tryd.f56.name, by decide, Tryd.func56.trans (congrArg some (by kernel_rfl))⟩
  f24 := ⟨Tryd.f57.name, by decide, Tryd.func57.trans (congrArg some (by kernel_rfl))⟩
  f25 := ⟨Tryd.f58.name, by decide, Tryd.func58.trans (congrArg some (by kernel_rfl))⟩
  f26 := ⟨Tryd.f59.name, by decide, Tryd.func59.trans (congrArg some (by kernel_rfl))⟩
  f27 := ⟨Tryd.f60.name, by decide, Tryd.func60.trans (congrArg some (by kernel_rfl))⟩
  f28 := Tryd.func61.trans (congrArg some (by kernel_rfl))
  f29 := Tryd.func62.trans (congrArg some (by kernel_rfl))
  f46 := ⟨Tryd.f66.name, by decide, Tryd.func66.trans (congrArg some (by kernel_rfl))⟩
  f47 := Tryd.func67.trans (congrArg some (by kernel_rfl))
  f48 := Tryd.func68.trans (congrArg some (by kernel_rfl))
  f49 := ⟨Tryd.f69.name, by decide, Tryd.func69.trans (congrArg some (by kernel_rfl))⟩
  f50 := ⟨Tryd.f70.name, by decide, Tryd.func70.trans (congrArg some (by kernel_rfl))⟩
  f57 := ⟨Tryd.f72.name, by decide, Tryd.func72.trans (congrArg some (by kernel_rfl))⟩
  t0 := Tryd.underlying0
  a0 := Tryd.isAgg0
  z0 := Tryd.sizeOf0
  v0 := Tryd.zeroValue0
  t3 := Tryd.underlying3
  a3 := Tryd.isAgg3
  z3 := Tryd.sizeOf3
  v3 := Tryd.zeroValue3
  t4 := Tryd.underlying4
  a4 := Tryd.isAgg4
  z4 := Tryd.sizeOf4
  v4 := Tryd.zeroValue4
  t5 := Tryd.underlying5
  a5 := Tryd.isAgg5
  z5 := Tryd.sizeOf5
  v5 := Tryd.zeroValue5
  t9 := Tryd.underlying9
  a9 := Tryd.isAgg9
  z9 := Tryd.sizeOf9
  v9 := Tryd.zeroValue9
  t22 := Tryd.underlying44
  a22 := Tryd.isAgg44
  z22 := Tryd.sizeOf44
  v22 := Tryd.zeroValue44
  t25 := Tryd.underlying79
  a25 := Tryd.isAgg79
  z25 := Tryd.sizeOf79
  v25 := Tryd.zeroValue79
  t39 := Tryd.underlying94
  a39 := Tryd.isAgg94
  z39 := Tryd.sizeOf94
  v39 := Tryd.zeroValue94
  t45 := Tryd.underlying102
  a45 := Tryd.isAgg102
  z45 := Tryd.sizeOf102
  v45 := Tryd.zeroValue102
  t46 := Tryd.underlying103
  a46 := Tryd.isAgg103
  z46 := Tryd.sizeOf103
  v46 := Tryd.zeroValue103
  t50 := Tryd.underlying107
  a50 := Tryd.isAgg107
  z50 := Tryd.sizeOf107
  v50 := Tryd.zeroValue107
  t53 := Tryd.underlying25
  a53 := Tryd.isAgg25
  z53 := Tryd.sizeOf25
  v53 := Tryd.zeroValue25
  t55 := Tryd.underlying40
  a55 := Tryd.isAgg40
  z55 := Tryd.sizeOf40
  v55 := Tryd.zeroValue40
  t66 := Tryd.underlying113
  a66 := Tryd.isAgg113
  z66 := Tryd.sizeOf113
  v66 := Tryd.zeroValue113
  t70 := Tryd.underlying117
  a70 := Tryd.isAgg117
  z70 := Tryd.sizeOf117
  v70 := Tryd.zeroValue117
  t76 := Tryd.underlying119
  a76 := Tryd.isAgg119
  z76 := Tryd.sizeOf119
  v76 := Tryd.zeroValue119
  t77 := Tryd.underlying120
  a77 := Tryd.isAgg120
  z77 := Tryd.sizeOf120
  v77 := Tryd.zeroValue120
end Go.Proofs.YtkeonnnhogaggaaDoor
/- rules.Norm: acts in order, each once. -/
namespace Go.Proofs.YtkeonnnhogaggaaDoor
open Go.RowKit Go.Sort

theorem swo_of {α : Type} {c : α → α → Int} (h : Cm c) : Go.Sort.SWO (ltOf c) := by
  constructor
  · intro x; unfold ltOf; exact decide_eq_false (by have := h.refl x; omega)
  · intro x y z h1 h2; unfold ltOf at *; have a := of_decide_eq_true h1; have b := of_decide_eq_true h2; exact decide_eq_true (h.lt_le a (by omega))
  · intro x y z h1 h2
    unfold ltOf at *
    have a := of_decide_eq_false h1; have b := of_decide_eq_false h2
    refine decide_eq_false fun k => ?_
    have s1 := h.sgn x y; have s2 := h.sgn y x; have s3 := h.sgn z y; have s4 := h.sgn y z; have s5 := h.sgn x z; have s6 := h.sgn z x
    have t1 : c y x ≤ 0 := by omega
    have t2 : c z y ≤ 0 := by omega
    have := h.tr z y x t2 t1
    omega
theorem asc_le {α : Type} {c : α → α → Int} (h : Cm c) {ys : List α} (ha : AscBy c ys) : ys.Pairwise fun a b => c a b ≤ 0 := by
  rw [List.pairwise_iff_getElem]
  intro i j hi hj hij
  have := ha i j _ _ (List.getElem?_eq_getElem hi) (List.getElem?_eq_getElem hj) hij
  have s := h.sgn ys[i] ys[j]
  omega
instance : Inhabited Ac := ⟨⟨0, fun _ => 0⟩⟩
theorem acL_one (a : Ac) : ∀ v ∈ acL a, v.oneCell' = true := fun v hv => by
  rcases List.mem_cons.1 hv with rfl | hv
  · rfl
  · obtain ⟨i, _, rfl⟩ := List.mem_map.1 hv; rfl
theorem one_of {v : Value} (h : v.oneCell' = true) : one v = true := by cases v <;> first | rfl | (simp [Value.oneCell'] at h)
theorem encL_one {α : Type} {enc : α → List Value} (h : ∀ x, ∀ v ∈ enc x, v.oneCell' = true) : ∀ xs : List α, (encL enc xs).all one = true
  | [] => rfl
  | x :: xs => by
    show (enc x ++ encL enc xs).all one = true
    rw [List.all_append, encL_one h xs, Bool.and_true]
    exact List.all_eq_true.2 fun v hv => one_of (h x v hv)
theorem encL_one1 {α : Type} {enc : α → List Value} (h : ∀ x, ∀ v ∈ enc x, v.oneCell' = true) (x : α) : (enc x).all one = true := List.all_eq_true.2 fun v hv => one_of (h x v hv)
theorem mtL_one (m : Mt) : ∀ v ∈ mtL m, v.oneCell' = true := fun v hv => by
  rcases List.mem_append.1 hv with hv | hv <;> (obtain ⟨i, _, rfl⟩ := List.mem_map.1 hv; rfl)
theorem ruC_one (r : RuL) : ∀ v ∈ r.cells, v.oneCell' = true := fun v hv => by
  rcases List.mem_append.1 hv with hv | hv
  · exact mtL_one _ v hv
  · rw [List.mem_singleton.1 hv]; rfl
theorem enL_one (e : EnL) : ∀ v ∈ e.cells, v.oneCell' = true := fun v hv => by
  rcases List.mem_cons.1 hv with rfl | hv
  · rfl
  rcases List.mem_cons.1 hv with rfl | hv
  · rfl
  · exact ruC_one _ v hv
theorem SortAc_c (p : Nat → Prop) (w0 w : World) (L E : List Ent) (ad : Option Addr) (c : Nat) (xs : List Ac) (hV : Vec 10 ad xs.length c (actsL xs) E) (hS : St p w0 w (E ++ L)) (hlen : xs.length < 1000000) :
    Calls Tryd.prog 28 #[.slice ad xs.length c, .func (.func 29) #[] #[]] w fun e w' =>
      e = .returned (.tuple #[]) ∧ ∃ ys E', ys.Perm xs ∧ (ys.Pairwise fun a b => acmp a b ≤ 0) ∧ Vec 10 ad xs.length c (actsL ys) E' ∧ St p w0 w' (E' ++ L) := by
  refine (gsort_c (P := Tryd.prog) lays28 (by omega) Tryd.isAgg70 Tryd.sizeOf70 acL_len acL_one acmp (swo_of acmp_cm) 29 #[] ck_29 p w0 w L E ad c xs (fun gb cs _ w' _ x y => ACmp_c w' x y) hV hS (by omega)).mono ?_
  rintro e w' ⟨he, ys, E', hp, ha, hV', hS'⟩
  exact ⟨he, ys, E', hp, asc_le acmp_cm ha, hV', hS'⟩
open Classical in
noncomputable def acEq (a b : Ac) : Bool := decide (acL a = acL b)
theorem acEq_iff (a b : Ac) : acEq a b = true ↔ acL a = acL b := by unfold acEq; simp
theorem acL_same {a b : Ac} (ha : a.Nz) (hb : b.Nz) (h : acL a = acL b) : a = b := by
  have h1 : (Value.int .i64 a.set) = .int .i64 b.set := (List.cons.inj h).1
  have h2 : ucs a.val 9 = ucs b.val 9 := (List.cons.inj h).2
  refine Ac.ext' ha hb (by injection h1) fun k hk => ?_
  have this : (ucs a.val 9)[k]? = (ucs b.val 9)[k]? := congrArg (fun z : List Value => z[k]?) h2
  rw [ucs_get _ hk, ucs_get _ hk] at this
  injection this with this
  injection this
theorem acmp_cells {a b : Ac} (h : acL a ≠ acL b) (ha : a.Nz) (hb : b.Nz) : acmp a b ≠ 0 := fun e => h (by rw [acmp_same ha hb e])
theorem normP_uniq {xs ys : List Ac} (hp : ys.Perm xs) (ha : ys.Pairwise fun a b => acmp a b ≤ 0) (hN : ∀ x ∈ xs, x.Nz) : NormP xs (uniq acEq ys) := by
  have hN' : ∀ x ∈ ys, x.Nz := fun x hx => hN x (hp.mem_iff.1 hx)
  refine ⟨uniq_strict acmp_cm ha fun x hx y hy e => ?_, fun x => (uniq_mem (fun x hx y hy e => acL_same (hN' x hx) (hN' y hy) ((acEq_iff x y).1 e)) x).trans hp.mem_iff⟩
  exact acmp_cells (fun k => by rw [(acEq_iff x y).2 k.symm] at e; cases e) (hN' y hy) (hN' x hx)
/-- What Norm hands back: a list of its own. -/
def NormC (w w' : World) (xs : List Ac) (e : Ending) : Prop := ∃ ad' c' E ys, e = .returned (.slice ad' ys.length c') ∧ NormP xs ys ∧ ys.length ≤ xs.length ∧ Vec 10 ad' ys.length c' (actsL ys) E ∧ St (fun _ => False) w w' E
theorem Norm_c (w : World) (ad : Option Addr) (c : Nat) (xs : List Ac) (hr : Rg w ad (actsL xs)) (hN : ∀ x ∈ xs, x.Nz) (hn : xs.length ≤ 100000) :
    Calls Tryd.prog 18 #[.slice ad xs.length c] w fun e w' => NormC w w' xs e := by
  refine enter Tryd.func18 rfl Tryd.ntmps18 rfl (St.start (fun _ => False) w) ?_
  refine WC.seq ?_
  refine WC.region ?_
  refine WL.val (v_assign rfl rfl) (.none rfl) rfl rfl ?_
  refine WL.nil ?_
  refine WE.then_n ?_
  refine WC.seq ?_
  refine WC.region ?_
  refine WL.val (v_move rfl rfl) (.none rfl) rfl rfl ?_
  refine WL.call rfl rfl ck_27 (.none rfl) rfl rfl ?_
  intro w1 hS
  refine (CloneAc_c w1 ad c xs (hr.frm hS.frm (fun _ _ _ h => h)) (encL_one acL_one xs) hn).mono ?_
  rintro e w' ⟨ad1, c1, E1, rfl, hV1, hS'⟩
  refine ⟨_, _, rfl, hS.join hS', ?_⟩
  refine WL.val (v_assign rfl rfl) (.none rfl) rfl rfl ?_
  refine WL.nil ?_
  refine WE.then_n ?_
  refine WC.seq ?_
  refine WC.region ?_
  refine WL.val (v_move rfl rfl) (.none rfl) rfl rfl ?_
  refine WL.call rfl rfl ck_28 (.none rfl) rfl rfl ?_
  intro w1 hS
  refine (SortAc_c (fun _ => False) _ w1 [] E1 ad1 c1 xs hV1 hS (by omega)).mono ?_
  rintro e w' ⟨rfl, ys, E2, hp, ha, hV2, hS'⟩
  refine ⟨_, _, rfl, hS', ?_⟩
  refine WL.nil ?_
  refine WE.then_n ?_
  refine WC.seq ?_
  refine WC.region ?_
  refine WL.val (v_move rfl rfl) (.none rfl) rfl rfl ?_
  refine WL.call rfl rfl ck_30 (.none rfl) rfl rfl ?_
  intro w1 hS
  rw [← hp.length_eq] at hV2
  rw [← hp.length_eq]
  refine (CompactAc_c (fun _ => False) _ w1 [] E2 ad1 c1 ys acEq acEq_iff hV2 hS (by rw [hp.length_eq]; exact hn)).mono ?_
  rintro e w' ⟨E3, rfl, hV3, hS'⟩
  refine ⟨_, _, rfl, hS', ?_⟩
  refine WL.val (v_assign rfl rfl) (.none rfl) rfl rfl ?_
  refine WL.nil ?_
  refine WE.then_n ?_
  refine WC.ret ?_
  refine WE.ret1 (P := Tryd.prog) (.inl rfl) Tryd.results18 rfl ?_
  exact fun w' h => ⟨ad1, c1, E3, uniq acEq ys, rfl, normP_uniq hp ha hN, by have := uniq_len (eq := acEq) ys; rw [hp.length_eq] at this; exact this, hV3, by simpa using h⟩
end Go.Proofs.YtkeonnnhogaggaaDoor
/- table: what Change and Take make of a table, as data; entries put in one by one, or all at once, are one table; what was taken out is as if it had never been put in. -/
namespace Go.Proofs.YtkeonnnhogaggaaDoor
open Go.RowKit

def insA (x : Ac) : List Ac → List Ac
  | [] => [x]
  | y :: l => if acmp x y < 0 then x :: y :: l else if acmp x y = 0 then y :: l else y :: insA x l
def normF : List Ac → List Ac
  | [] => []
  | x :: l => insA x (normF l)
theorem insA_sub (x z : Ac) : ∀ l : List Ac, z ∈ insA x l → z = x ∨ z ∈ l
  | [], h => .inl (List.mem_singleton.1 h)
  | y :: l, h => by
    unfold insA at h
    split at h
    · exact List.mem_cons.1 h
    split at h
    · exact .inr h
    · rcases List.mem_cons.1 h with rfl | h
      · exact .inr (List.mem_cons_self ..)
      · exact (insA_sub x z l h).imp id (List.mem_cons_of_mem _)
theorem insA_mem {x : Ac} (hx : x.Nz) : ∀ {l : List Ac}, (∀ y ∈ l, y.Nz) → ∀ z, z ∈ insA x l ↔ z = x ∨ z ∈ l
  | [], _, z => by unfold insA; simp
  | y :: l, hl, z => by
    refine ⟨insA_sub x z _, fun h => ?_⟩
    unfold insA
    split
    · exact List.mem_cons.2 h
    split
    · rename_i h0
      have e := acmp_same hx (hl y (List.mem_cons_self ..)) h0
      subst e
      rcases h with rfl | h
      · exact List.mem_cons_self ..
      · exact h
    · have ih := insA_mem hx (l := l) (fun y hy => hl y (List.mem_cons_of_mem _ hy)) z
      rcases h with rfl | h
      · exact List.mem_cons_of_mem _ (ih.2 (.inl rfl))
      · rcases List.mem_cons.1 h with rfl | h
        · exact List.mem_cons_self ..
        · exact List.mem_cons_of_mem _ (ih.2 (.inr h))
theorem insA_strict (x : Ac) : ∀ {l : List Ac}, l.Pairwise (fun a b => acmp a b < 0) → (insA x l).Pairwise fun a b => acmp a b < 0
  | [], _ => List.pairwise_singleton _ _
  | y :: l, h => by
    have h' := List.pairwise_cons.1 h
    unfold insA
    split
    · rename_i h0
      refine List.pairwise_cons.2 ⟨fun z hz => ?_, h⟩
      rcases List.mem_cons.1 hz with rfl | hz
      · exact h0
      · have := h'.1 z hz; exact acmp_cm.lt_le h0 (by omega)
    split
    · exact h
    · rename_i h0 h1
      refine List.pairwise_cons.2 ⟨fun z hz => ?_, insA_strict x h'.2⟩
      rcases insA_sub x z l hz with rfl | hz
      · have := acmp_cm.sgn z y; omega
      · exact h'.1 z hz
theorem normF_sub : ∀ {xs : List Ac} {z : Ac}, z ∈ normF xs → z ∈ xs
  | [], _, h => by cases h
  | x :: l, z, h => by
    rcases insA_sub x z _ h with rfl | h
    · exact List.mem_cons_self ..
    · exact List.mem_cons_of_mem _ (normF_sub h)
theorem normF_P : ∀ {xs : List Ac}, (∀ x ∈ xs, x.Nz) → NormP xs (normF xs)
  | [], _ => ⟨List.Pairwise.nil, fun _ => Iff.rfl⟩
  | x :: l, h => by
    have ih := normF_P (xs := l) fun y hy => h y (List.mem_cons_of_mem _ hy)
    refine ⟨insA_strict x ih.1, fun z => (insA_mem (h x (List.mem_cons_self ..)) (fun y hy => h y (List.mem_cons_of_mem _ (normF_sub hy))) z).trans ?_⟩
    rw [ih.2, List.mem_cons]
theorem normF_of {xs ys : List Ac} (hN : ∀ x ∈ xs, x.Nz) (h : NormP xs ys) : normF xs = ys := NormP.one (normF_P hN) h
def EnD.norm (e : EnD) : EnD := ⟨e.prio, e.mark, e.r.m, normF e.r.acts⟩
theorem EnD.norm_in {e : EnD} (h : e.In) : e.norm.In := ⟨h.prio, h.mark, h.r.m, h.r.nz, fun a ha => h.r.act a (normF_sub ha)⟩
def Strict (T : List EnD) : Prop := T.Pairwise fun a b => ordE a b < 0
def Apart (T : List EnD) : Prop := T.Pairwise fun a b => ordE a b ≠ 0
def leftD (T : List EnD) (outs : List Int) : List EnD := T.filter fun e => decide (e.mark ∉ outs)
/-- What Change answers, and the table behind it. -/
structure ChangeP (most : Int) (T : List EnD) (outs : List Int) (ins : List EnD) (code : Int) (T' : List EnD) : Prop where
  err : errs EnD.err ins ≠ 0 → code = errs EnD.err ins
  full : errs EnD.err ins = 0 → (ins.length : Int) > most - (leftD T outs).length → code = 30
  have_ : errs EnD.err ins = 0 → (ins.length : Int) ≤ most - (leftD T outs).length → ¬ Apart (leftD T outs ++ ins.map EnD.norm) → code = 5
  ok : errs EnD.err ins = 0 → (ins.length : Int) ≤ most - (leftD T outs).length → Apart (leftD T outs ++ ins.map EnD.norm) → code = 0
  not : code ≠ 0 → T' = T
  yes : code = 0 → Strict T' ∧ T'.Perm (leftD T outs ++ ins.map EnD.norm)
theorem Apart.perm {A B : List EnD} (h : A.Perm B) (hA : Apart A) : Apart B := (List.Perm.pairwise_iff (fun hab e => hab (ordE_cm.zero e)) h).1 hA
theorem Strict.apart {A : List EnD} (h : Strict A) : Apart A := h.imp fun k e => by omega
theorem Strict.one {A B : List EnD} (hA : Strict A) (hB : Strict B) (h : A.Perm B) : A = B := strict_only ordE_cm A B hA hB fun _ => h.mem_iff
theorem leftD_nil (T : List EnD) : leftD T [] = T := by
  unfold leftD
  rw [List.filter_eq_self]
  intro a _
  exact decide_eq_true (by simp)
theorem leftD_sub (T : List EnD) (outs : List Int) : (leftD T outs).Sublist T := List.filter_sublist
end Go.Proofs.YtkeonnnhogaggaaDoor
/- table: without, merge. -/
namespace Go.Proofs.YtkeonnnhogaggaaDoor
open Go.RowKit

/-- A table as it lies. -/
structure TbL where
  most : Int
  ad : Option Addr
  c : Nat
  es : List EnL
def TbL.cells (t : TbL) : List Value := [.int .i64 t.most, .slice t.ad t.es.length t.c]
def TbL.d (t : TbL) : List EnD := t.es.map EnL.d
/-- A rule's acts lie in blocks of K. -/
def RuOwn (K : List Ent) (r : RuL) : Prop := ∃ E, Vec 10 r.ad r.acts.length r.c (actsL r.acts) E ∧ ∀ x ∈ E, x ∈ K
def EnsOwn (K : List Ent) (es : List EnL) : Prop := ∀ e ∈ es, RuOwn K e.r
theorem RuOwn.sub {K K' : List Ent} {r : RuL} (h : RuOwn K r) (hs : ∀ x ∈ K, x ∈ K') : RuOwn K' r := let ⟨E, h1, h2⟩ := h; ⟨E, h1, fun x hx => hs x (h2 x hx)⟩
theorem Vec.rg {s : Nat} {ad : Option Addr} {k c : Nat} {xs : List Value} {E : List Ent} {w : World} (hV : Vec s ad k c xs E) (hw : ∀ e ∈ E, e.holds w) : Rg w ad xs := fun hn => by
  rcases hV with ⟨_, _, _, h, _⟩ | ⟨g, cs, rfl, rfl, hx, hl, hk⟩
  · exact absurd h hn
  · refine ⟨g, 0, rfl, fun j v hj => ?_⟩
    have hR : Row w g cs := hw (.row g cs) (List.mem_singleton.2 rfl)
    rw [Nat.zero_add]
    refine hR.cell ?_
    rw [← hx, List.getElem?_take] at hj
    split at hj
    · exact hj
    · cases hj
/-- Elements one by one, some of them. -/
theorem filter_take_succ {α : Type} (q : α → Bool) (xs : List α) {k : Nat} (h : k < xs.length) : (xs.take (k + 1)).filter q = (xs.take k).filter q ++ (if q xs[k] then [xs[k]] else []) := by
  rw [List.take_succ_eq_append_getElem h, List.filter_append]
  congr 1
  by_cases hq : q xs[k] = true
  · rw [if_pos hq, List.filter_cons_of_pos hq]; rfl
  · rw [if_neg hq, List.filter_cons_of_neg hq]; rfl
def keepE (outs : List Int) (e : EnL) : Bool := decide (e.mark ∉ outs)
structure WoS where
  k : Nat
  es : Array MapEntry
  c : Nat
  m : Value → Option Value
structure WpS where
  k : Nat
  ls : List EnL
  ad : Option Addr
  c : Nat
  E : List Ent
theorem enC_mark (e : EnL) : e.cells[1]? = some (.int .i64 e.mark) := rfl
set_option maxRecDepth 8000 in
set_option maxHeartbeats 2000000 in
theorem Without_c (w : World) (g : Nat) (t : TbL) (oa : Option Addr) (oc : Nat) (outs : List Int) (hg : w.cell? ⟨g, 1, none⟩ = some (.slice t.ad t.es.length t.c)) (hes : Rg w t.ad (ensL t.es)) (ho : Rg w oa (outs.map (Value.int .i64))) (hn : t.es.length ≤ 100000) (hon : outs.length ≤ 100000) :
    Calls Tryd.prog 17 #[.pointer (some ⟨g, 0, none⟩), .slice oa outs.length oc] w fun e w' => ∃ ad c E, e = .returned (.slice ad (t.es.filter (keepE outs)).length c) ∧ Vec 21 ad (t.es.filter (keepE outs)).length c (ensL (t.es.filter (keepE outs))) E ∧ St (fun _ => False) w w' E := by
  refine enter Tryd.func17 rfl Tryd.ntmps17 rfl (St.start (fun _ => False) w) ?_
  refine WC.seq ?_
  refine WC.region ?_
  refine WL.val (v_assign rfl rfl) (.none rfl) rfl rfl ?_
  refine WL.nil ?_
  refine WE.then_n ?_
  refine WC.seq ?_
  refine WC.region ?_
  refine WL.val (v_move rfl rfl) (.none rfl) rfl rfl ?_
  refine WL.val (v_len_slice rfl rfl Tryd.underlying31) (.none rfl) rfl rfl ?_
  refine WL.makeMapN rfl rfl Tryd.underlying75 (.none rfl) rfl rfl ?_
  intro g15 hg15
  refine WL.val (v_assign rfl rfl) (.none rfl) rfl rfl ?_
  refine WL.nil ?_
  refine WE.then_n ?_
  refine WC.seq ?_
  refine WC.seq ?_
  refine WC.region ?_
  refine WL.val (v_move rfl rfl) (.none rfl) rfl rfl ?_
  refine WL.val (v_len_slice rfl rfl Tryd.underlying31) (.none rfl) rfl rfl ?_
  refine WL.val (v_move rfl rfl) (.none rfl) rfl rfl ?_
  refine WL.nil ?_
  refine WE.then_n ?_
  refine WC.block ?_
  refine WC.loop (fun x : WoS => [(18, .int .i64 x.k), (17, .int .i64 outs.length), (16, .slice oa outs.length oc), (5, .map (some g15)), (0, .pointer (some ⟨g, 0, none⟩))]) (fun x => [.obj g15 (.map x.es x.c)]) (fun x => x.k ≤ outs.length ∧ IMap (KInt .i64) x.es x.m ∧ (∀ q : Int, (x.m (.int .i64 q)).isSome = true ↔ q ∈ outs.take x.k) ∧ ∀ a v, x.m a = some v → v = .agg #[]) (fun x => outs.length - x.k) ⟨0, #[], 0, fun _ => none⟩ ⟨Nat.zero_le _, IMap.empty _, fun q => by simp, fun a v h => by cases h⟩ (.cons rfl (.cons rfl (.cons rfl (.cons rfl (.cons rfl .nil))))) (.refl _) ?_
  rintro ⟨k, es, mc, m⟩ ⟨hk, hM, hm, hmz⟩
  dsimp only at hk hM hm hmz
  dsimp only
  refine WC.seq ?_
  refine WC.region ?_
  refine WL.test (v_lss rfl rfl rfl) (.none rfl) rfl rfl (fun h19 => ?_) (fun h19 => ?_)
  ·
   refine WL.nil ?_
   refine WE.then_n ?_
   refine WC.seq ?_
   refine WC.cond_t rfl ?_
   refine WC.skip ?_
   refine WE.then_n ?_
   refine WC.seq ?_
   refine WC.block ?_
   refine WC.seq ?_
   refine WC.region ?_
   obtain ⟨y, hy⟩ : ∃ y, outs[k]? = some y := ⟨outs[k]'(by omega), List.getElem?_eq_getElem _⟩
   obtain ⟨b1, o1, ea1, r1⟩ := ho (by intro hh; have := congrArg List.length hh; simp at this; rw [this] at h19; simp at h19; omega)
   refine WL.val ((v_indexAddr (b := b1) (off := o1) (lo := k) rfl (by show some (Value.slice oa _ _) = _; rw [ea1]) rfl Tryd.underlying31 sz_3 rfl (by omega))) (.none rfl) rfl rfl ?_
   refine WL.val (v_load1 rfl rfl one_3 (cellOld (fun h => h) (r1 _ (.int .i64 y) (by rw [Nat.mul_one, List.getElem?_map, hy]; rfl)))) (.none rfl) rfl rfl ?_
   refine WL.val (v_assign rfl rfl) (.none rfl) rfl rfl ?_
   refine WL.nil ?_
   refine WE.then_n ?_
   refine WC.region ?_
   refine WL.val (v_move rfl rfl) (.none rfl) rfl rfl ?_
   refine WL.val (v_move rfl rfl) (.none rfl) rfl rfl ?_
   refine WL.val (v_build rfl rfl zero_76 plc_76 rfl) (.none rfl) rfl rfl ?_
   refine WL.mapUpdate rfl rfl rfl rfl Tryd.underlying75 (keyI Tryd.underlying3) (KInt.mk _ _) (hM) (.none rfl) rfl ?_
   intro esU cU hMU hsU
   refine WL.nil ?_
   refine WE.block_n ?_
   refine WE.then_n ?_
   refine WC.region ?_
   refine WL.val (v_add rfl rfl rfl (w_i64 (by omega) (by omega))) (.none rfl) rfl rfl ?_
   refine WL.val (v_move rfl rfl) (.none rfl) rfl rfl ?_
   refine WL.nil ?_
   refine WE.next ⟨k + 1, esU, cU, updM m (.int .i64 y) (some (.agg #[]))⟩ (by dsimp only; omega) ⟨by dsimp only; omega, hMU, fun q => ?_, fun a v h => ?_⟩ (.int rfl (by dsimp only; omega) (.cons rfl (.cons rfl (.cons rfl (.cons rfl .nil))))) (.refl _)
   · show (updM m (.int .i64 y) (some (.agg #[])) (.int .i64 q)).isSome = true ↔ q ∈ outs.take (k + 1)
     rw [List.take_add_one, hy, Option.toList_some, List.mem_append, List.mem_singleton, ← hm q]
     by_cases e : q = y
     · subst e; rw [updM_eq]; simp
     · rw [updM_ne _ _ (fun h => e (by injection h))]; simp [e]
   · have h : updM m (.int .i64 y) (some (.agg #[])) a = some v := h
     by_cases e : a = .int .i64 y
     · subst e; rw [updM_eq] at h; cases h; rfl
     · rw [updM_ne _ _ e] at h; exact hmz a v h
  ·
   refine WL.nil ?_
   refine WE.then_n ?_
   refine WC.seq ?_
   refine WC.cond_f rfl ?_
   refine WC.exit ?_
   refine WE.then_exit ?_
   refine WE.then_exit ?_
   refine WE.block_hit ?_
   refine WE.then_n ?_
   refine WC.seq ?_
   refine WC.region ?_
   refine WL.val (v_move rfl rfl) (.none rfl) rfl rfl ?_
   refine WL.val (v_nilCheck rfl rfl) (.none rfl) rfl rfl ?_
   refine WL.val (v_fieldAddr0 rfl rfl fld_60_1) (.none rfl) rfl rfl ?_
   refine WL.val (v_load1 rfl rfl one_22 (cellOld (fun h => h) hg)) (.none rfl) rfl rfl ?_
   refine WL.val (v_len_slice rfl rfl Tryd.underlying22) (.none rfl) rfl rfl ?_
   refine WL.makeN (m := 0) (c := t.es.length) rfl rfl rfl (by omega) (by omega) (by omega) Tryd.underlying22 by_48 (by omega) (by omega) sz_48 zero_48 rfl (.none rfl) rfl rfl ?_
   intro g31 hg31
   generalize hZ : List.flatten _ = Z
   have hV0 : Vec 21 (some ⟨g31, 0, none⟩) 0 t.es.length [] [.row g31 Z] := (by rw [← hZ]; exact Vec.made rfl)
   refine WL.val (v_assign rfl rfl) (.none rfl) rfl rfl ?_
   refine WL.nil ?_
   refine WE.then_n ?_
   refine WC.seq ?_
   refine WC.seq ?_
   refine WC.region ?_
   refine WL.val (v_move rfl rfl) (.none rfl) rfl rfl ?_
   refine WL.val (v_nilCheck rfl rfl) (.none rfl) rfl rfl ?_
   refine WL.val (v_fieldAddr0 rfl rfl fld_60_1) (.none rfl) rfl rfl ?_
   refine WL.val (v_load1 rfl rfl one_22 (cellOld (fun h => h) hg)) (.none rfl) rfl rfl ?_
   refine WL.val (v_len_slice rfl rfl Tryd.underlying22) (.none rfl) rfl rfl ?_
   refine WL.val (v_move rfl rfl) (.none rfl) rfl rfl ?_
   refine WL.nil ?_
   refine WE.then_n ?_
   refine WC.block ?_
   refine WC.loop (fun x : WpS => [(37, .int .i64 x.k), (36, .int .i64 t.es.length), (35, .slice t.ad t.es.length t.c), (8, .slice x.ad x.ls.length x.c), (5, .map (some g15))]) (fun x => x.E ++ [.obj g15 (.map es mc)]) (fun x => x.k ≤ t.es.length ∧ x.ls = (t.es.take x.k).filter (keepE outs) ∧ Vec 21 x.ad x.ls.length x.c (ensL x.ls) x.E) (fun x => t.es.length - x.k) ⟨0, [], some ⟨g31, 0, none⟩, t.es.length, [.row g31 Z]⟩ ⟨Nat.zero_le _, rfl, hV0⟩ (.cons rfl (.cons rfl (.cons rfl (.cons rfl (.cons rfl .nil))))) (.refl _) ?_
   rintro ⟨k2, ls, ad, c, E⟩ ⟨hk2, hls, hV⟩
   dsimp only at hk2 hls hV
   dsimp only
   have hfl : ls.length ≤ 100000 := (by rw [hls]; exact Nat.le_trans (List.length_filter_le _ _) (by rw [List.length_take]; omega))
   refine WC.seq ?_
   refine WC.region ?_
   refine WL.test (v_lss rfl rfl rfl) (.none rfl) rfl rfl (fun h38 => ?_) (fun h38 => ?_)
   ·
    refine WL.nil ?_
    refine WE.then_n ?_
    refine WC.seq ?_
    refine WC.cond_t rfl ?_
    refine WC.skip ?_
    refine WE.then_n ?_
    refine WC.seq ?_
    refine WC.block ?_
    refine WC.seq ?_
    refine WC.region ?_
    obtain ⟨b2, o2, ea2, r2⟩ := hes (by intro hh; have := ensL_len t.es; rw [hh] at this; simp at this; omega)
    have hx : t.es[k2]? = some (t.es[k2]'(by omega)) := List.getElem?_eq_getElem _
    have hft := filter_take_succ (keepE outs) t.es (show k2 < t.es.length by omega)
    generalize t.es[k2]'(by omega) = x at hx hft
    refine WL.val ((v_indexAddr (b := b2) (off := o2) (lo := k2) rfl (by show some (Value.slice t.ad _ _) = _; rw [ea2]) rfl Tryd.underlying22 sz_48 rfl (by omega))) (.none rfl) rfl rfl ?_
    refine WL.val (v_loadN (cs := x.cells) rfl rfl many_48 (EnL.len x) (rgIn (fun h => h) (Rg.seg EnL.len r2 hx))) (.none rfl) rfl rfl ?_
    refine WL.alloc rfl zero_48 (.none rfl) rfl rfl ?_
    intro g10 hg10
    refine WL.storeW rfl rfl rfl rfl many_48 rfl rfl (.none rfl) rfl ?_
    refine WL.nil ?_
    refine WE.then_n ?_
    refine WC.seq ?_
    refine WC.region ?_
    refine WL.val (v_move rfl rfl) (.none rfl) rfl rfl ?_
    refine WL.val (v_fieldAddr0 rfl rfl fld_48_1) (.none rfl) rfl rfl ?_
    refine WL.val (v_load1 rfl rfl one_3 (cellAt (enC_mark x))) (.none rfl) rfl rfl ?_
    refine WL.val (v_lookup2 rfl rfl rfl Tryd.underlying75 (keyI Tryd.underlying3) (KInt.mk _ _) rfl (mapBlk (es := es) (c := mc) g15 (by simp)) (hM)) (.none rfl) rfl rfl ?_
    have hz45 : (m (.int .i64 x.mark)).getD (.agg #[]) = .agg #[] := (by cases hq : m (.int .i64 x.mark) with | none => rfl | some v => exact hmz _ v hq)
    rw [hz45]
    refine WL.val (v_move rfl rfl) (.none rfl) rfl rfl ?_
    refine WL.val (v_extract rfl rfl rfl) (.none rfl) rfl rfl ?_
    refine WL.val (v_extract rfl rfl rfl) (.none rfl) rfl rfl ?_
    generalize hb : (m (.int .i64 x.mark)).isSome = bb
    cases bb
    ·
     refine WL.alloc rfl zero_76 (.none rfl) rfl rfl ?_
     intro g11 hg11
     refine WL.storeW rfl rfl rfl rfl many_76 rfl rfl (.none rfl) rfl ?_
     refine WL.val (v_assign rfl rfl) (.none rfl) rfl rfl ?_
     refine WL.nil ?_
     refine WE.then_n ?_
     refine WC.seq ?_
     refine WC.region ?_
     refine WL.val (v_move rfl rfl) (.none rfl) rfl rfl ?_
     refine WL.val (v_not rfl rfl rfl) (.none rfl) rfl rfl ?_
     refine WL.nil ?_
     refine WE.then_n ?_
     refine WC.cond_t rfl ?_
     refine WC.region ?_
     refine WL.val (v_move rfl rfl) (.none rfl) rfl rfl ?_
     refine WL.val (v_loadN rfl rfl many_48 rfl allAt) (.none rfl) rfl rfl ?_
     refine WL.buildSlice rfl rfl Tryd.underlying22 sz_48 zero_48 rfl (by decide) (by show some (splice (List.replicate 1 _).flatten 0 x.cells) = some x.cells; rw [splice_all (by rw [EnL.len]; rfl)]) (.none rfl) rfl rfl ?_
     intro g52 hg52
     refine WL.to (L' := E ++ [.row g52 x.cells, .obj g15 (.map es mc)]) (fun w hS => hS.dropX [.row g11 [], .row g10 x.cells]) ?_
     refine WL.appendL rfl rfl rfl Tryd.underlying22 Tryd.underlying22 sz_48 by_48 zero_48 rfl rfl hV (new := x.cells) (fun _ => ⟨g52, 0, rfl, fun w hS => allAt (g := g52) w hS⟩) (EnL.len x) (encL_one1 enL_one x) (by omega) (.none rfl) rfl rfl ?_
     intro ad53 c53 E53 hV53 hr53
     have hkeep : keepE outs x = true := (by
     refine decide_eq_true fun hin => ?_
     have := (hm x.mark).2 (by rw [List.take_of_length_le (by omega)]; exact hin)
     rw [hb] at this; cases this)
     refine WL.val (v_assign rfl rfl) (.none rfl) rfl rfl ?_
     refine WL.nil ?_
     refine WE.block_n ?_
     refine WE.then_n ?_
     refine WC.region ?_
     refine WL.val (v_add rfl rfl rfl (w_i64 (by omega) (by omega))) (.none rfl) rfl rfl ?_
     refine WL.val (v_move rfl rfl) (.none rfl) rfl rfl ?_
     refine WL.nil ?_
     exact WE.next ⟨k2 + 1, ls ++ [x], ad53, c53, E53⟩ (by dsimp only; omega) ⟨by dsimp only; omega, by dsimp only; rw [hft, hkeep, hls]; simp, by dsimp only; rw [List.length_append]; show Vec 21 ad53 (ls.length + 1) c53 (ensL (ls ++ [x])) E53; rw [show ensL (ls ++ [x]) = ensL ls ++ x.cells from encL_snoc _ _ _]; exact hV53⟩ (.int rfl (by dsimp only; omega) (.cons rfl (.cons rfl (.eq rfl (by dsimp only; rw [List.length_append]; rfl) (.cons rfl .nil))))) (List.Sublist.append_left (.cons _ (.refl _)) _)
    ·
     refine WL.alloc rfl zero_76 (.none rfl) rfl rfl ?_
     intro g11 hg11
     refine WL.storeW rfl rfl rfl rfl many_76 rfl rfl (.none rfl) rfl ?_
     refine WL.val (v_assign rfl rfl) (.none rfl) rfl rfl ?_
     refine WL.nil ?_
     refine WE.then_n ?_
     refine WC.seq ?_
     refine WC.region ?_
     refine WL.val (v_move rfl rfl) (.none rfl) rfl rfl ?_
     refine WL.val (v_not rfl rfl rfl) (.none rfl) rfl rfl ?_
     refine WL.nil ?_
     refine WE.then_n ?_
     refine WC.cond_f rfl ?_
     refine WC.skip ?_
     refine WE.block_n ?_
     refine WE.then_n ?_
     refine WC.region ?_
     refine WL.val (v_add rfl rfl rfl (w_i64 (by omega) (by omega))) (.none rfl) rfl rfl ?_
     refine WL.val (v_move rfl rfl) (.none rfl) rfl rfl ?_
     refine WL.nil ?_
     have hkeep : keepE outs x = false := (by
       refine decide_eq_false fun hin => hin ?_
       have := (hm x.mark).1 hb
       exact List.mem_of_mem_take this)
     exact WE.next ⟨k2 + 1, ls, ad, c, E⟩ (by dsimp only; omega) ⟨by dsimp only; omega, by dsimp only; rw [hft, hkeep, hls]; simp, hV⟩ (.int rfl (by dsimp only; omega) (.cons rfl (.cons rfl (.cons rfl (.cons rfl .nil))))) (.cons _ (.cons _ (.refl _)))
   ·
    refine WL.nil ?_
    refine WE.then_n ?_
    refine WC.seq ?_
    refine WC.cond_f rfl ?_
    refine WC.exit ?_
    refine WE.then_exit ?_
    refine WE.then_exit ?_
    refine WE.block_hit ?_
    refine WE.then_n ?_
    refine WC.seq ?_
    refine WC.region ?_
    refine WL.val (v_move rfl rfl) (.none rfl) rfl rfl ?_
    refine WL.val (v_assign rfl rfl) (.none rfl) rfl rfl ?_
    refine WL.nil ?_
    refine WE.then_n ?_
    refine WC.ret ?_
    refine WE.ret1 (P := Tryd.prog) (.inl rfl) Tryd.results17 rfl ?_
    obtain rfl : k2 = t.es.length := (by omega)
    rw [List.take_length] at hls
    subst hls
    exact fun w' h => ⟨ad, c, E, rfl, hV, h.sub (List.sublist_append_left _ _)⟩
end Go.Proofs.YtkeonnnhogaggaaDoor
/- table: merge; the stable sort of fewer than 20 entries. -/
namespace Go.Proofs.YtkeonnnhogaggaaDoor
open Go.RowKit

/-- Two lists in order, as one. -/
def mergeL : List EnL → List EnL → List EnL
  | [], B => B
  | x :: A, [] => x :: A
  | x :: A, y :: B => if ordE x.d y.d ≤ 0 then x :: mergeL A (y :: B) else y :: mergeL (x :: A) B
termination_by A B => A.length + B.length
theorem mergeL_nil (A : List EnL) : mergeL A [] = A := by cases A <;> (unfold mergeL; rfl)
theorem mergeL_nil' (B : List EnL) : mergeL [] B = B := by unfold mergeL; rfl
theorem mergeL_le {x y : EnL} (A B : List EnL) (h : ordE x.d y.d ≤ 0) : mergeL (x :: A) (y :: B) = x :: mergeL A (y :: B) := by rw [mergeL, if_pos h]
theorem mergeL_gt {x y : EnL} (A B : List EnL) (h : ¬ ordE x.d y.d ≤ 0) : mergeL (x :: A) (y :: B) = y :: mergeL (x :: A) B := by rw [mergeL, if_neg h]
theorem mergeL_perm : ∀ (A B : List EnL), (mergeL A B).Perm (A ++ B)
  | [], B => by rw [mergeL_nil']; exact .refl _
  | x :: A, [] => by rw [mergeL_nil, List.append_nil]
  | x :: A, y :: B => by
    by_cases h : ordE x.d y.d ≤ 0
    · rw [mergeL_le A B h]; exact (mergeL_perm A (y :: B)).cons x
    · rw [mergeL_gt A B h]
      exact ((mergeL_perm (x :: A) B).cons y).trans (List.perm_middle (l₁ := x :: A) (l₂ := B) (a := y)).symm
termination_by A B => A.length + B.length
theorem mergeL_sorted : ∀ (A B : List EnL), (A.Pairwise fun a b => ordE a.d b.d ≤ 0) → (B.Pairwise fun a b => ordE a.d b.d ≤ 0) → (mergeL A B).Pairwise fun a b => ordE a.d b.d ≤ 0
  | [], B, _, hB => by rw [mergeL_nil']; exact hB
  | x :: A, [], hA, _ => by rw [mergeL_nil]; exact hA
  | x :: A, y :: B, hA, hB => by
    have hx := List.pairwise_cons.1 hA
    have hy := List.pairwise_cons.1 hB
    by_cases h : ordE x.d y.d ≤ 0
    · rw [mergeL_le A B h]
      refine List.pairwise_cons.2 ⟨fun z hz => ?_, mergeL_sorted A (y :: B) hx.2 hB⟩
      rcases List.mem_append.1 ((mergeL_perm A (y :: B)).mem_iff.1 hz) with hz | hz
      · exact hx.1 z hz
      · rcases List.mem_cons.1 hz with rfl | hz
        · exact h
        · exact ordE_cm.tr _ _ _ h (hy.1 z hz)
    · have h' : ordE y.d x.d ≤ 0 := by have := ordE_cm.sgn x.d y.d; omega
      rw [mergeL_gt A B h]
      refine List.pairwise_cons.2 ⟨fun z hz => ?_, mergeL_sorted (x :: A) B hA hy.2⟩
      rcases List.mem_append.1 ((mergeL_perm (x :: A) B).mem_iff.1 hz) with hz | hz
      · rcases List.mem_cons.1 hz with rfl | hz
        · exact h'
        · exact ordE_cm.tr _ _ _ h' (hx.1 z hz)
      · exact hy.1 z hz
termination_by A B => A.length + B.length
theorem Rg.tail {w : World} {b o c k : Nat} {α : Type} {enc : α → List Value} (hk : ∀ x, (enc x).length = k) {x : α} {xs : List α} (h : w.rangeAt b o (encL enc (x :: xs))) (hc : (x :: xs).length ≤ c) : Rg w (some ⟨b, sAddr o 1 c k, none⟩) (encL enc xs) := fun hn => by
  have h1 : 1 < c := by
    cases xs with
    | nil => exact absurd rfl hn
    | cons y ys => simp at hc; omega
  refine ⟨b, o + k, by unfold sAddr; rw [if_neg (by omega), Nat.one_mul], fun j v hj => ?_⟩
  have h2 := h (k + j) v (by
    show (enc x ++ encL enc xs)[k + j]? = some v
    rw [List.getElem?_append_right (by rw [hk]; omega), hk, Nat.add_sub_cancel_left]; exact hj)
  rwa [Nat.add_assoc]
structure MeS where
  A : List EnL
  aa : Option Addr
  ca : Nat
  B : List EnL
  ab : Option Addr
  cb : Nat
  S : List EnL
  ad : Option Addr
  c : Nat
  E : List Ent
set_option maxHeartbeats 2000000 in
theorem Merge_c (w : World) (as_ bs : List EnL) (aa ab : Option Addr) (ca cb : Nat) (hA : Rg w aa (ensL as_)) (hB : Rg w ab (ensL bs)) (hca : as_.length ≤ ca) (hcb : bs.length ≤ cb) (hn : as_.length + bs.length ≤ 100000) :
    Calls Tryd.prog 21 #[.slice aa as_.length ca, .slice ab bs.length cb] w fun e w' => ∃ ad c E, e = .returned (.slice ad (mergeL as_ bs).length c) ∧ Vec 21 ad (mergeL as_ bs).length c (ensL (mergeL as_ bs)) E ∧ St (fun _ => False) w w' E := by
  refine enter Tryd.func21 rfl Tryd.ntmps21 rfl (St.start (fun _ => False) w) ?_
  refine WC.seq ?_
  refine WC.region ?_
  refine WL.val (v_assign rfl rfl) (.none rfl) rfl rfl ?_
  refine WL.nil ?_
  refine WE.then_n ?_
  refine WC.seq ?_
  refine WC.region ?_
  refine WL.val (v_move rfl rfl) (.none rfl) rfl rfl ?_
  refine WL.val (v_len_slice rfl rfl Tryd.underlying22) (.none rfl) rfl rfl ?_
  refine WL.val (v_move rfl rfl) (.none rfl) rfl rfl ?_
  refine WL.val (v_len_slice rfl rfl Tryd.underlying22) (.none rfl) rfl rfl ?_
  refine WL.val (v_add rfl rfl rfl (w_i64 (by omega) (by omega))) (.none rfl) rfl rfl ?_
  refine WL.makeN (m := 0) (c := as_.length + bs.length) rfl rfl rfl (by omega) (by omega) (by omega) Tryd.underlying22 by_48 (by omega) (by omega) sz_48 zero_48 rfl (.none rfl) rfl rfl ?_
  intro g11 hg11
  generalize hZ : List.flatten _ = Z
  have hV0 : Vec 21 (some ⟨g11, 0, none⟩) 0 (as_.length + bs.length) [] [.row g11 Z] := (by rw [← hZ]; exact Vec.made rfl)
  refine WL.val (v_assign rfl rfl) (.none rfl) rfl rfl ?_
  refine WL.nil ?_
  refine WE.then_n ?_
  refine WC.seq ?_
  refine WC.block ?_
  refine WC.loop (fun x : MeS => [(0, .slice x.aa x.A.length x.ca), (1, .slice x.ab x.B.length x.cb), (5, .slice x.ad x.S.length x.c)]) (fun x => x.E) (fun x => Rg w x.aa (ensL x.A) ∧ Rg w x.ab (ensL x.B) ∧ x.A.length ≤ x.ca ∧ x.B.length ≤ x.cb ∧ Vec 21 x.ad x.S.length x.c (ensL x.S) x.E ∧ mergeL as_ bs = x.S ++ mergeL x.A x.B) (fun x => x.A.length + x.B.length) ⟨as_, aa, ca, bs, ab, cb, [], some ⟨g11, 0, none⟩, as_.length + bs.length, [.row g11 Z]⟩ ⟨hA, hB, hca, hcb, hV0, rfl⟩ (.cons rfl (.cons rfl (.cons rfl .nil))) (.refl _) ?_
  rintro ⟨A, aa1, ca1, B, ab1, cb1, S, ad, c, E⟩ ⟨hA1, hB1, hca1, hcb1, hV, hm⟩
  dsimp only at hA1 hB1 hca1 hcb1 hV hm
  dsimp only
  have hlen : S.length + A.length + B.length ≤ 100000 := (by
    have h1 := congrArg List.length hm
    rw [List.length_append, (mergeL_perm as_ bs).length_eq, (mergeL_perm A B).length_eq, List.length_append, List.length_append] at h1
    omega)
  refine WC.seq ?_
  refine WC.seq ?_
  refine WC.region ?_
  refine WL.val (v_move rfl rfl) (.none rfl) rfl rfl ?_
  refine WL.val (v_len_slice rfl rfl Tryd.underlying22) (.none rfl) rfl rfl ?_
  refine WL.test (v_gtr rfl rfl rfl) (.none rfl) rfl rfl (fun h14 => ?_) (fun h14 => ?_)
  ·
   refine WL.val (v_move rfl rfl) (.none rfl) rfl rfl ?_
   refine WL.val (v_move rfl rfl) (.some rfl rfl rfl) rfl rfl ?_
   refine WL.val (v_len_slice rfl rfl Tryd.underlying22) (.some rfl rfl rfl) rfl rfl ?_
   refine WL.test (v_gtr rfl rfl rfl) (.some rfl rfl rfl) rfl rfl (fun h18 => ?_) (fun h18 => ?_)
   ·
    refine WL.val (v_pick_t rfl rfl rfl) (.none rfl) rfl rfl ?_
    refine WL.nil ?_
    refine WE.then_n ?_
    refine WC.cond_t rfl ?_
    refine WC.skip ?_
    refine WE.then_n ?_
    refine WC.block ?_
    refine WC.seq ?_
    refine WC.quiet mixed (by kernel_rfl) ?_
    refine WQ.val (v_move rfl rfl) (.none rfl) rfl rfl ?_
    obtain ⟨x, A, rfl⟩ : ∃ x A', A = x :: A' := (by cases A with | nil => simp at h14 | cons x A => exact ⟨x, A, rfl⟩)
    obtain ⟨y, B, rfl⟩ : ∃ y B', B = y :: B' := (by cases B with | nil => simp at h18 | cons y B => exact ⟨y, B, rfl⟩)
    obtain ⟨b1, o1, e1, r1⟩ := hA1 (by show x.cells ++ ensL A ≠ []; intro h; have := congrArg List.length h; rw [List.length_append, EnL.len] at this; simp at this)
    obtain ⟨b2, o2, e2, r2⟩ := hB1 (by show y.cells ++ ensL B ≠ []; intro h; have := congrArg List.length h; rw [List.length_append, EnL.len] at this; simp at this)
    subst e1 e2
    have r1x := Rg.seg EnL.len r1 (i := 0) (x := x) rfl
    have r2y := Rg.seg EnL.len r2 (i := 0) (x := y) rfl
    have hl1 : (x :: A).length = A.length + 1 := rfl
    have hl2 : (y :: B).length = B.length + 1 := rfl
    refine WQ.val (v_indexAddr (lo := 0) rfl rfl rfl Tryd.underlying22 sz_48 rfl (by omega)) (.none rfl) rfl rfl ?_
    refine WQ.val (v_loadN (cs := x.cells) rfl rfl many_48 (EnL.len x) (rgIn (fun h => h) r1x)) (.none rfl) rfl rfl ?_
    refine WQ.val (v_move rfl rfl) (.none rfl) rfl rfl ?_
    refine WQ.val (v_indexAddr (lo := 0) rfl rfl rfl Tryd.underlying22 sz_48 rfl (by omega)) (.none rfl) rfl rfl ?_
    refine WQ.val (v_loadN (cs := y.cells) rfl rfl many_48 (EnL.len y) (rgIn (fun h => h) r2y)) (.none rfl) rfl rfl ?_
    refine WQ.call _ rfl rfl ck_20 (.none rfl) rfl rfl (fun w hS => Calls.still (order_c w x y) hS) ?_
    refine WQ.test (v_leq rfl rfl rfl) (.none rfl) rfl rfl (fun h27 => ?_) (fun h27 => ?_)
    ·
     refine WQ.nil ?_
     refine WE.then_n ?_
     refine WC.cond_t rfl ?_
     refine WC.seq ?_
     refine WC.region ?_
     refine WL.val (v_move rfl rfl) (.none rfl) rfl rfl ?_
     refine WL.val (v_move rfl rfl) (.none rfl) rfl rfl ?_
     refine WL.val (v_indexAddr (lo := 0) rfl rfl rfl Tryd.underlying22 sz_48 rfl (by omega)) (.none rfl) rfl rfl ?_
     refine WL.val (v_loadN (cs := x.cells) rfl rfl many_48 (EnL.len x) (rgIn (fun h => h) r1x)) (.none rfl) rfl rfl ?_
     refine WL.buildSlice rfl rfl Tryd.underlying22 sz_48 zero_48 rfl (by decide) (by show some (splice (List.replicate 1 _).flatten 0 x.cells) = some x.cells; rw [splice_all (by rw [EnL.len]; rfl)]) (.none rfl) rfl rfl ?_
     intro g32 hg32
     refine WL.to (L' := E ++ [.row g32 x.cells]) (fun w hS => hS.permX) ?_
     refine WL.appendL rfl rfl rfl Tryd.underlying22 Tryd.underlying22 sz_48 by_48 zero_48 rfl rfl hV (new := x.cells) (fun _ => ⟨g32, 0, rfl, fun w hS => allAt (g := g32) w hS⟩) (EnL.len x) (encL_one1 enL_one x) (by omega) (.none rfl) rfl rfl ?_
     intro ad33 c33 E33 hV33 hr33
     refine WL.val (v_assign rfl rfl) (.none rfl) rfl rfl ?_
     refine WL.nil ?_
     refine WE.then_n ?_
     refine WC.region ?_
     refine WL.val (v_move rfl rfl) (.none rfl) rfl rfl ?_
     refine WL.val ((v_slice_lo (lo := 1) rfl rfl rfl Tryd.underlying22 sz_48 rfl (by omega))) (.none rfl) rfl rfl ?_
     refine WL.val (v_assign rfl rfl) (.none rfl) rfl rfl ?_
     refine WL.nil ?_
     refine WE.block_n ?_
     exact WE.next ⟨A, some ⟨b1, sAddr o1 1 ca1 21, none⟩, ca1 - 1, y :: B, _, cb1, S ++ [x], ad33, c33, E33⟩ (by dsimp only; omega) ⟨Rg.tail EnL.len r1 hca1, hB1, by dsimp only; omega, hcb1, by dsimp only; rw [List.length_append, show ensL (S ++ [x]) = ensL S ++ x.cells from encL_snoc _ _ _]; exact hV33, by dsimp only; rw [hm, mergeL_le A B h27, List.append_assoc]; rfl⟩ (.eq rfl (by dsimp only; rw [hl1, Nat.add_sub_cancel]) (.cons rfl (.eq rfl (by dsimp only; rw [List.length_append]; rfl) .nil))) (List.sublist_append_left _ _)
    ·
     refine WQ.nil ?_
     refine WE.then_n ?_
     refine WC.cond_f rfl ?_
     refine WC.seq ?_
     refine WC.region ?_
     refine WL.val (v_move rfl rfl) (.none rfl) rfl rfl ?_
     refine WL.val (v_move rfl rfl) (.none rfl) rfl rfl ?_
     refine WL.val (v_indexAddr (lo := 0) rfl rfl rfl Tryd.underlying22 sz_48 rfl (by omega)) (.none rfl) rfl rfl ?_
     refine WL.val (v_loadN (cs := y.cells) rfl rfl many_48 (EnL.len y) (rgIn (fun h => h) r2y)) (.none rfl) rfl rfl ?_
     refine WL.buildSlice rfl rfl Tryd.underlying22 sz_48 zero_48 rfl (by decide) (by show some (splice (List.replicate 1 _).flatten 0 y.cells) = some y.cells; rw [splice_all (by rw [EnL.len]; rfl)]) (.none rfl) rfl rfl ?_
     intro g40 hg40
     refine WL.to (L' := E ++ [.row g40 y.cells]) (fun w hS => hS.permX) ?_
     refine WL.appendL rfl rfl rfl Tryd.underlying22 Tryd.underlying22 sz_48 by_48 zero_48 rfl rfl hV (new := y.cells) (fun _ => ⟨g40, 0, rfl, fun w hS => allAt (g := g40) w hS⟩) (EnL.len y) (encL_one1 enL_one y) (by omega) (.none rfl) rfl rfl ?_
     intro ad41 c41 E41 hV41 hr41
     refine WL.val (v_assign rfl rfl) (.none rfl) rfl rfl ?_
     refine WL.nil ?_
     refine WE.then_n ?_
     refine WC.region ?_
     refine WL.val (v_move rfl rfl) (.none rfl) rfl rfl ?_
     refine WL.val ((v_slice_lo (lo := 1) rfl rfl rfl Tryd.underlying22 sz_48 rfl (by omega))) (.none rfl) rfl rfl ?_
     refine WL.val (v_assign rfl rfl) (.none rfl) rfl rfl ?_
     refine WL.nil ?_
     refine WE.block_n ?_
     exact WE.next ⟨x :: A, _, ca1, B, some ⟨b2, sAddr o2 1 cb1 21, none⟩, cb1 - 1, S ++ [y], ad41, c41, E41⟩ (by dsimp only; omega) ⟨hA1, Rg.tail EnL.len r2 hcb1, hca1, by dsimp only; omega, by dsimp only; rw [List.length_append, show ensL (S ++ [y]) = ensL S ++ y.cells from encL_snoc _ _ _]; exact hV41, by dsimp only; rw [hm, mergeL_gt A B h27, List.append_assoc]; rfl⟩ (.cons rfl (.eq rfl (by dsimp only; rw [hl2, Nat.add_sub_cancel]) (.eq rfl (by dsimp only; rw [List.length_append]; rfl) .nil))) (List.sublist_append_left _ _)
   ·
    refine WL.val (v_pick_t rfl rfl rfl) (.none rfl) rfl rfl ?_
    refine WL.nil ?_
    refine WE.then_n ?_
    refine WC.cond_f rfl ?_
    refine WC.exit ?_
    refine WE.then_exit ?_
    refine WE.then_exit ?_
    refine WE.block_hit ?_
    refine WE.then_n ?_
    refine WC.seq ?_
    refine WC.region ?_
    refine WL.val (v_move rfl rfl) (.none rfl) rfl rfl ?_
    refine WL.val (v_move rfl rfl) (.none rfl) rfl rfl ?_
    have hAB : mergeL A B = A ++ B := (by
      rcases Nat.eq_zero_or_pos A.length with h0 | h0
      · rw [List.length_eq_zero_iff.1 h0]; exact mergeL_nil' B
      · have h1 : B = [] := List.length_eq_zero_iff.1 (by omega)
        rw [h1, mergeL_nil, List.append_nil])
    refine WL.to (L' := E ++ []) (fun w hS => by simpa using hS) ?_
    refine WL.appendL rfl rfl rfl Tryd.underlying22 Tryd.underlying22 sz_48 by_48 zero_48 rfl rfl hV (new := ensL A) (fun hp => by obtain ⟨b1, o1, e1, r1⟩ := hA1 (by intro h; have := ensL_len A; rw [h] at this; simp at this; omega); exact ⟨b1, o1, e1, rgIn (fun h => h) r1⟩) (ensL_len A) (encL_one enL_one A) (by omega) (.none rfl) rfl rfl ?_
    intro ad46 c46 E46 hV46 hr46
    refine WL.val (v_assign rfl rfl) (.none rfl) rfl rfl ?_
    refine WL.nil ?_
    refine WE.then_n ?_
    refine WC.seq ?_
    refine WC.region ?_
    refine WL.val (v_move rfl rfl) (.none rfl) rfl rfl ?_
    refine WL.val (v_move rfl rfl) (.none rfl) rfl rfl ?_
    refine WL.appendL rfl rfl rfl Tryd.underlying22 Tryd.underlying22 sz_48 by_48 zero_48 rfl rfl hV46 (new := ensL B) (fun hp => by obtain ⟨b1, o1, e1, r1⟩ := hB1 (by intro h; have := ensL_len B; rw [h] at this; simp at this; omega); exact ⟨b1, o1, e1, rgIn (fun h => h) r1⟩) (ensL_len B) (encL_one enL_one B) (by omega) (.none rfl) rfl rfl ?_
    intro ad49 c49 E49 hV49 hr49
    refine WL.val (v_assign rfl rfl) (.none rfl) rfl rfl ?_
    refine WL.nil ?_
    refine WE.then_n ?_
    refine WC.ret ?_
    refine WE.ret1 (P := Tryd.prog) (.inl rfl) Tryd.results21 rfl ?_
    have e3 : mergeL as_ bs = S ++ A ++ B := (by rw [hm, hAB, List.append_assoc])
    rw [e3]
    refine fun w' h => ⟨ad49, c49, E49, by rw [List.length_append, List.length_append], ?_, by simpa using h⟩
    rw [List.length_append, List.length_append, show ensL (S ++ A ++ B) = ensL S ++ ensL A ++ ensL B from (encL_append EnL.cells (S ++ A) B).trans (congrArg (· ++ ensL B) (encL_append EnL.cells S A))]
    exact hV49
  ·
   refine WL.val (v_move rfl rfl) (.none rfl) rfl rfl ?_
   iterate 3 refine WL.skip rfl rfl rfl rfl rfl rfl ?_
   refine WL.val (v_pick_f rfl rfl rfl) (.none rfl) rfl rfl ?_
   refine WL.nil ?_
   refine WE.then_n ?_
   refine WC.cond_f rfl ?_
   refine WC.exit ?_
   refine WE.then_exit ?_
   refine WE.then_exit ?_
   refine WE.block_hit ?_
   refine WE.then_n ?_
   refine WC.seq ?_
   refine WC.region ?_
   refine WL.val (v_move rfl rfl) (.none rfl) rfl rfl ?_
   refine WL.val (v_move rfl rfl) (.none rfl) rfl rfl ?_
   have hAB : mergeL A B = A ++ B := (by
     rcases Nat.eq_zero_or_pos A.length with h0 | h0
     · rw [List.length_eq_zero_iff.1 h0]; exact mergeL_nil' B
     · have h1 : B = [] := List.length_eq_zero_iff.1 (by omega)
       rw [h1, mergeL_nil, List.append_nil])
   refine WL.to (L' := E ++ []) (fun w hS => by simpa using hS) ?_
   refine WL.appendL rfl rfl rfl Tryd.underlying22 Tryd.underlying22 sz_48 by_48 zero_48 rfl rfl hV (new := ensL A) (fun hp => by obtain ⟨b1, o1, e1, r1⟩ := hA1 (by intro h; have := ensL_len A; rw [h] at this; simp at this; omega); exact ⟨b1, o1, e1, rgIn (fun h => h) r1⟩) (ensL_len A) (encL_one enL_one A) (by omega) (.none rfl) rfl rfl ?_
   intro ad46 c46 E46 hV46 hr46
   refine WL.val (v_assign rfl rfl) (.none rfl) rfl rfl ?_
   refine WL.nil ?_
   refine WE.then_n ?_
   refine WC.seq ?_
   refine WC.region ?_
   refine WL.val (v_move rfl rfl) (.none rfl) rfl rfl ?_
   refine WL.val (v_move rfl rfl) (.none rfl) rfl rfl ?_
   refine WL.appendL rfl rfl rfl Tryd.underlying22 Tryd.underlying22 sz_48 by_48 zero_48 rfl rfl hV46 (new := ensL B) (fun hp => by obtain ⟨b1, o1, e1, r1⟩ := hB1 (by intro h; have := ensL_len B; rw [h] at this; simp at this; omega); exact ⟨b1, o1, e1, rgIn (fun h => h) r1⟩) (ensL_len B) (encL_one enL_one B) (by omega) (.none rfl) rfl rfl ?_
   intro ad49 c49 E49 hV49 hr49
   refine WL.val (v_assign rfl rfl) (.none rfl) rfl rfl ?_
   refine WL.nil ?_
   refine WE.then_n ?_
   refine WC.ret ?_
   refine WE.ret1 (P := Tryd.prog) (.inl rfl) Tryd.results21 rfl ?_
   have e3 : mergeL as_ bs = S ++ A ++ B := (by rw [hm, hAB, List.append_assoc])
   rw [e3]
   refine fun w' h => ⟨ad49, c49, E49, by rw [List.length_append, List.length_append], ?_, by simpa using h⟩
   rw [List.length_append, List.length_append, show ensL (S ++ A ++ B) = ensL S ++ ensL A ++ ensL B from (encL_append EnL.cells (S ++ A) B).trans (congrArg (· ++ ensL B) (encL_append EnL.cells S A))]
   exact hV49

instance : Inhabited EnL := ⟨⟨0, 0, ⟨⟨fun _ => 0, fun _ => 0⟩, none, 0, []⟩⟩⟩
end Go.Proofs.YtkeonnnhogaggaaDoor
/- The kit's laying SlLaysF0.n20 (insertion sort by a comparison) at entries. -/
namespace Go.Proofs.YtkeonnnhogaggaaDoor
open Go.RowKit Go.Shelf

def renI : Ren := ⟨fun n => match n with | 20 => 47 | n => n, fun n => match n with | 0 => 0 | 3 => 3 | 4 => 4 | 22 => 22 | 24 => 48 | 25 => 65 | n => n, fun n => n⟩
set_option maxRecDepth 100000 in
theorem laysI : SlLaysF0.n20 Tryd.prog renI where
  mixed := mixed
  f20 := ⟨Tryd.f47.name, by decide, Tryd.func47.trans (congrArg some (by kernel_rfl))⟩
  t0 := Tryd.underlying0
  a0 := Tryd.isAgg0
  z0 := Tryd.sizeOf0
  v0 := Tryd.zeroValue0
  t3 := Tryd.underlying3
  a3 := Tryd.isAgg3
  z3 := Tryd.sizeOf3
  v3 := Tryd.zeroValue3
  t4 := Tryd.underlying4
  a4 := Tryd.isAgg4
  z4 := Tryd.sizeOf4
  v4 := Tryd.zeroValue4
  t22 := Tryd.underlying22
  a22 := Tryd.isAgg22
  z22 := Tryd.sizeOf22
  v22 := Tryd.zeroValue22
  t25 := Tryd.underlying65
  a25 := Tryd.isAgg65
  z25 := Tryd.sizeOf65
  v25 := Tryd.zeroValue65
end Go.Proofs.YtkeonnnhogaggaaDoor
/- table: the stable sort of entries, fewer than 20. -/
namespace Go.Proofs.YtkeonnnhogaggaaDoor
open Go.RowKit Go.Sort

def ordL (a b : EnL) : Int := ordE a.d b.d
theorem ordL_cm : Cm ordL := ordE_cm.on EnL.d
theorem InsE_c (p : Nat → Prop) (w0 w : World) (L : List Ent) (g c : Nat) (cs : List Value) (xs : List EnL) (a b : Nat) (hab : a ≤ b) (hb : b ≤ xs.length) (hx : cs.take (xs.length * 21) = ensL xs) (hS : St p w0 w (.row g cs :: L)) (hlen : xs.length < 1000000) :
    Calls Tryd.prog 47 #[.slice (some ⟨g, 0, none⟩) xs.length c, .int .i64 a, .int .i64 b, .func (.func 20) #[] #[]] w fun e w' =>
      e = .returned (.tuple #[]) ∧ ∃ (ys : List EnL) (cs' : List Value), PermIn a b xs.toArray ys.toArray ∧ SortedIn (ltOf ordL) a b ys.toArray ∧ cs'.length = cs.length ∧ cs'.take (xs.length * 21) = ensL ys ∧ St p w0 w' (.row g cs' :: L) := by
  have hR : Row w g cs := hS.holds (.row g cs) (by simp)
  have hsz : xs.toArray.size = xs.length := by simp
  have hcs : xs.length * 21 ≤ cs.length := by
    have := congrArg List.length hx
    rw [List.length_take, ensL_len] at this
    omega
  have hcm : CmpLays Tryd.prog 20 #[] EnL.cells 21 ordL g 0 xs.toArray.size w := fun m os dk hs x y =>
    (order_c (sortWorldK EnL.cells 21 w g 0 m dk os) x y).mono fun e w' ⟨he, hF⟩ => ⟨he, hF.grows⟩
  have hH : HoldsK EnL.cells 21 w g 0 xs.toArray := fun t ht => by
    rw [size_flatK] at ht
    have ht2 : t < cs.length := by rw [hsz] at ht; omega
    rw [Nat.zero_add]
    refine ⟨hR.cell ?_, hR.frozen ht2⟩
    show cs[t]? = some ((flatK EnL.cells 21 xs.toArray)[t]!)
    rw [get_flatK _ _ _ _ ht, ← encL_get EnL.len (by decide) _ ht]
    show cs[t]? = (encL EnL.cells xs)[t]?
    rw [show encL EnL.cells xs = cs.take (xs.length * 21) from hx.symm, List.getElem?_take, if_pos (by rw [← hsz]; exact ht)]
  have key := Go.Proofs.AnyQ.insertionSortCmpFunc (P := Tryd.prog) laysI 21 Tryd.isAgg48 Tryd.sizeOf48 EnL.cells EnL.len enL_one ordL 20 #[] g 0 c a b xs.toArray w ck_20 hcm hH hR.lt hab (by rw [hsz]; exact hb) (by rw [hsz]; omega)
  rw [hsz] at key
  refine key.mono ?_
  rintro e w' ⟨he, n, os, rfl⟩
  have hi := insertionSort_holds (lt := ltOf ordL) (swo_of ordL_cm) xs.toArray a b hab (by rw [hsz]; exact hb)
  have hsz' : (insertionSort (ltOf ordL) xs.toArray a b).size = xs.length := by rw [hi.1.1, hsz]
  refine ⟨he, (insertionSort (ltOf ordL) xs.toArray a b).toList, gsL EnL.cells 21 (insertionSort (ltOf ordL) xs.toArray a b) cs, by simpa using hi.1, by simpa using hi.2, gsL_len _ _, ?_, gsW_st hS⟩
  have := gsL_take EnL.len (by decide) (insertionSort (ltOf ordL) xs.toArray a b) cs (by rw [hsz']; exact hcs)
  rwa [hsz'] at this
theorem sortedIn_le {ys : List EnL} (h : SortedIn (ltOf ordL) 0 ys.length ys.toArray) : ys.Pairwise fun a b => ordE a.d b.d ≤ 0 := by
  rw [List.pairwise_iff_getElem]
  intro i j hi hj hij
  have h1 := h i j (Nat.zero_le _) hij hj
  rw [getElem!_pos ys.toArray i (by simpa using hi), getElem!_pos ys.toArray j (by simpa using hj)] at h1
  have h1 := of_decide_eq_false h1
  have : ¬ ordL ys[j] ys[i] < 0 := by simpa using h1
  have s := ordL_cm.sgn ys[i] ys[j]
  show ordL ys[i] ys[j] ≤ 0
  omega
theorem permIn_perm {xs ys : List EnL} (h : PermIn 0 xs.length xs.toArray ys.toArray) : ys.Perm xs ∧ ys.length = xs.length := by
  have hl : ys.length = xs.length := by have := h.1; simpa using this
  have hp := h.2.2
  have f1 : ys.toArray.extract 0 xs.length = ys.toArray := by rw [← hl]; simp
  have f2 : xs.toArray.extract 0 xs.length = xs.toArray := by simp
  rw [f1, f2] at hp
  exact ⟨by simpa using hp, hl⟩
theorem Stable_c (p : Nat → Prop) (w0 w : World) (L E : List Ent) (g c : Nat) (xs : List EnL) (hV : Vec 21 (some ⟨g, 0, none⟩) xs.length c (ensL xs) E) (hS : St p w0 w (E ++ L)) (hn : xs.length < 20) :
    Calls Tryd.prog 19 #[.slice (some ⟨g, 0, none⟩) xs.length c, .func (.func 20) #[] #[]] w fun e w' =>
      e = .returned (.tuple #[]) ∧ ∃ ys E', ys.Perm xs ∧ (ys.Pairwise fun a b => ordE a.d b.d ≤ 0) ∧ Vec 21 (some ⟨g, 0, none⟩) ys.length c (ensL ys) E' ∧ St p w0 w' (E' ++ L) := by
  rcases hV with ⟨ha, _⟩ | ⟨g1, cs, e1, rfl, hx, hcl, hkc⟩
  · cases ha
  have e1 := Option.some.inj e1
  have e1 : g = g1 := congrArg Addr.block e1
  subst e1
  have inner : ∀ w, St p w0 w (.row g cs :: L) → Calls Tryd.prog 31 #[.slice (some ⟨g, 0, none⟩) xs.length c, .int .i64 xs.length, .func (.func 20) #[] #[]] w fun e w' =>
      e = .returned (.tuple #[]) ∧ ∃ ys E', ys.Perm xs ∧ (ys.Pairwise fun a b => ordE a.d b.d ≤ 0) ∧ Vec 21 (some ⟨g, 0, none⟩) ys.length c (ensL ys) E' ∧ St p w0 w' (E' ++ L) := by
    intro w hS
    refine enter Tryd.func31 rfl Tryd.ntmps31 rfl hS ?_
    refine WC.seq ?_
    refine WC.region ?_
    refine WL.val (v_assign rfl rfl) (.none rfl) rfl rfl ?_
    refine WL.nil ?_
    refine WE.then_n ?_
    refine WC.seq ?_
    refine WC.region ?_
    refine WL.val (v_move rfl rfl) (.none rfl) rfl rfl ?_
    refine WL.val (v_assign rfl rfl) (.none rfl) rfl rfl ?_
    refine WL.val (v_assign rfl rfl) (.none rfl) rfl rfl ?_
    refine WL.nil ?_
    refine WE.then_n ?_
    refine WC.seq ?_
    refine WC.block ?_
    refine WC.loop (fun _ : Unit => [(6, .int .i64 20), (7, .int .i64 0), (8, .int .i64 20), (0, .slice (some ⟨g, 0, none⟩) xs.length c), (1, .int .i64 xs.length), (2, .func (.func 20) #[] #[])]) (fun _ => .row g cs :: L) (fun _ => True) (fun _ => 0) () trivial (.cons rfl (.cons rfl (.cons rfl (.cons rfl (.cons rfl (.cons rfl .nil)))))) (.refl _) ?_
    intro _ _
    refine WC.seq ?_
    refine WC.seq ?_
    refine WC.region ?_
    refine WL.val (v_move rfl rfl) (.none rfl) rfl rfl ?_
    refine WL.val (v_move rfl rfl) (.none rfl) rfl rfl ?_
    refine WL.val ((v_leq rfl rfl rfl).f (by omega)) (.none rfl) rfl rfl ?_
    refine WL.nil ?_
    refine WE.then_n ?_
    refine WC.cond_f rfl ?_
    refine WC.exit ?_
    refine WE.then_exit ?_
    refine WE.then_exit ?_
    refine WE.block_hit ?_
    refine WE.then_n ?_
    refine WC.seq ?_
    refine WC.region ?_
    refine WL.val (v_move rfl rfl) (.none rfl) rfl rfl ?_
    refine WL.val (v_move rfl rfl) (.none rfl) rfl rfl ?_
    refine WL.val (v_move rfl rfl) (.none rfl) rfl rfl ?_
    refine WL.val (v_move rfl rfl) (.none rfl) rfl rfl ?_
    refine WL.call rfl rfl ck_47 (.none rfl) rfl rfl ?_
    intro w1 hS
    refine (InsE_c p w0 w1 L g c cs xs 0 xs.length (Nat.zero_le _) (Nat.le_refl _) hx hS (by omega)).mono ?_
    rintro e w' ⟨rfl, ys, cs', hp, hs, hl', hx', hS'⟩
    obtain ⟨hp1, hl1⟩ := permIn_perm hp
    refine ⟨_, .row g cs' :: L, rfl, hS', ?_⟩
    refine WL.nil ?_
    refine WE.then_n ?_
    refine WC.block ?_
    refine WC.loop (fun _ : Unit => [(6, .int .i64 20), (0, .slice (some ⟨g, 0, none⟩) xs.length c), (1, .int .i64 xs.length)]) (fun _ => .row g cs' :: L) (fun _ => True) (fun _ => 0) () trivial (.cons rfl (.cons rfl (.cons rfl .nil))) (.refl _) ?_
    intro _ _
    refine WC.seq ?_
    refine WC.seq ?_
    refine WC.region ?_
    refine WL.val (v_move rfl rfl) (.none rfl) rfl rfl ?_
    refine WL.val (v_move rfl rfl) (.none rfl) rfl rfl ?_
    refine WL.val ((v_lss rfl rfl rfl).f (by omega)) (.none rfl) rfl rfl ?_
    refine WL.nil ?_
    refine WE.then_n ?_
    refine WC.cond_f rfl ?_
    refine WC.exit ?_
    refine WE.then_exit ?_
    refine WE.then_exit ?_
    refine WE.block_hit ?_
    refine WE.ret0 (P := Tryd.prog) (.inr rfl) Tryd.results31  ?_
    exact fun w' h => ⟨rfl, ys, [.row g cs'], hp1, sortedIn_le (by rw [hl1]; exact hs), Vec.row (by rw [hl1]; exact hx') (by rw [hl', hcl]) (by omega), h⟩
  refine enter Tryd.func19 rfl Tryd.ntmps19 rfl hS ?_
  refine WC.region ?_
  refine WL.val (v_move rfl rfl) (.none rfl) rfl rfl ?_
  refine WL.val (v_move rfl rfl) (.none rfl) rfl rfl ?_
  refine WL.val (v_len_slice rfl rfl Tryd.underlying22) (.none rfl) rfl rfl ?_
  refine WL.val (v_move rfl rfl) (.none rfl) rfl rfl ?_
  refine WL.call rfl rfl ck_31 (.none rfl) rfl rfl ?_
  intro w1 hS
  refine (inner w1 hS).mono ?_
  rintro e w' ⟨rfl, ys, E', h1, h2, h3, hS'⟩
  refine ⟨_, _, rfl, hS', ?_⟩
  refine WL.nil ?_
  refine WE.ret0 (P := Tryd.prog) (.inr rfl) Tryd.results19  ?_
  exact fun w' h => ⟨rfl, ys, E', h1, h2, h3, h⟩
end Go.Proofs.YtkeonnnhogaggaaDoor
/- table: rotating a range of entries. -/
namespace Go.Proofs.YtkeonnnhogaggaaDoor
open Go.RowKit Go.Sort

/-- A list by its places. -/
def tab (f : Nat → EnL) (N : Nat) : List EnL := (List.range N).map f
theorem tab_len (f : Nat → EnL) (N : Nat) : (tab f N).length = N := by unfold tab; rw [List.length_map, List.length_range]
theorem tab_get {f : Nat → EnL} {N k : Nat} (h : k < N) : (tab f N)[k]? = some (f k) := by
  unfold tab
  rw [List.getElem?_map, List.getElem?_range h]; rfl
theorem tab_of (xs : List EnL) (d : EnL) : tab (fun k => xs.getD k d) xs.length = xs := List.ext_getElem? fun k => by
  by_cases h : k < xs.length
  · rw [tab_get h, List.getD_eq_getElem?_getD, List.getElem?_eq_getElem h]; rfl
  · rw [List.getElem?_eq_none (by rw [tab_len]; omega), List.getElem?_eq_none (by omega)]
def updN (f : Nat → EnL) (k : Nat) (x : EnL) : Nat → EnL := fun i => if i = k then x else f i
theorem tab_set (f : Nat → EnL) (N k : Nat) (x : EnL) : (tab f N).set k x = tab (updN f k x) N := List.ext_getElem? fun i => by
  by_cases h : i < N
  · rw [tab_get h]
    unfold updN
    by_cases e : i = k
    · subst e
      rw [if_pos rfl, List.getElem?_set_self (by rw [tab_len]; exact h)]
    · rw [if_neg e, List.getElem?_set_ne (fun q => e q.symm), tab_get h]
  · rw [List.getElem?_eq_none (by rw [List.length_set, tab_len]; omega), List.getElem?_eq_none (by rw [tab_len]; omega)]
abbrev tabE (g N : Nat) (R : List Value) (f : Nat → EnL) : Ent := .row g (encL EnL.cells (tab f N) ++ R)
def swapR (f : Nat → EnL) (a b n : Nat) : Nat → EnL := fun k => if a ≤ k ∧ k < a + n then f (k - a + b) else if b ≤ k ∧ k < b + n then f (k - b + a) else f k
theorem swapR_step (f : Nat → EnL) (a b i : Nat) (h : a + i < b) : updN (updN (swapR f a b i) (a + i) (swapR f a b i (b + i))) (b + i) (swapR f a b i (a + i)) = swapR f a b (i + 1) := by
  funext k
  unfold updN swapR
  (repeat' split) <;> first | rfl | (exfalso; omega) | (congr 1; omega)
abbrev ordV : Value := .func (.func 20) #[] #[]
set_option maxHeartbeats 1000000 in
theorem swapRange_c (p : Nat → Prop) (w0 w : World) (L : List Ent) (g c N : Nat) (R : List Value) (f : Nat → EnL) (a b n : Nat) (h1 : a + n ≤ b) (h2 : b + n ≤ N) (hN : N ≤ 100000) (hS : St p w0 w (tabE g N R f :: L)) :
    Calls Tryd.prog 71 #[.slice (some ⟨g, 0, none⟩) N c, .int .i64 a, .int .i64 b, .int .i64 n, ordV] w fun e w' => e = .returned (.tuple #[]) ∧ St p w0 w' (tabE g N R (swapR f a b n) :: L) := by
  refine enter Tryd.func71 rfl Tryd.ntmps71 rfl hS ?_
  refine WC.seq ?_
  refine WC.region ?_
  refine WL.val (v_assign rfl rfl) (.none rfl) rfl rfl ?_
  refine WL.nil ?_
  refine WE.then_n ?_
  refine WC.block ?_
  refine WC.loop (fun i : Nat => [(10, .int .i64 i), (0, .slice (some ⟨g, 0, none⟩) N c), (1, .int .i64 a), (2, .int .i64 b), (3, .int .i64 n)]) (fun i => tabE g N R (swapR f a b i) :: L) (fun i => i ≤ n) (fun i => n - i) 0 (Nat.zero_le _) (.cons rfl (.cons rfl (.cons rfl (.cons rfl (.cons rfl .nil))))) (by rw [show swapR f a b 0 = f from funext fun k => by unfold swapR; rw [if_neg (by omega), if_neg (by omega)]]; exact .refl _) ?_
  intro i hi
  refine WC.seq ?_
  refine WC.seq ?_
  refine WC.region ?_
  refine WL.val (v_move rfl rfl) (.none rfl) rfl rfl ?_
  refine WL.val (v_move rfl rfl) (.none rfl) rfl rfl ?_
  refine WL.test (v_lss rfl rfl rfl) (.none rfl) rfl rfl (fun h13 => ?_) (fun h13 => ?_)
  ·
   refine WL.nil ?_
   refine WE.then_n ?_
   refine WC.cond_t rfl ?_
   refine WC.skip ?_
   refine WE.then_n ?_
   refine WC.seq ?_
   refine WC.block ?_
   refine WC.orders mixed ?_
   refine WR.first (g := 6) [0, 1, 2, 3, 4, 5, 6, 7, 8, 9, 10, 11, 12, 14, 15, 16, 17, 18] (by kernel_rfl) (by kernel_rfl) ?_
   refine WP.val (v_move rfl rfl) (.none rfl) rfl rfl ?_
   refine WP.val (v_move rfl rfl) (.none rfl) rfl rfl ?_
   refine WP.val (v_move rfl rfl) (.none rfl) rfl rfl ?_
   refine WP.val (v_add rfl rfl rfl (w_i64 (by omega) (by omega))) (.none rfl) rfl rfl ?_
   refine WP.val (v_move rfl rfl) (.none rfl) rfl rfl ?_
   refine WP.val (v_move rfl rfl) (.none rfl) rfl rfl ?_
   refine WP.val (v_move rfl rfl) (.none rfl) rfl rfl ?_
   refine WP.val (v_add rfl rfl rfl (w_i64 (by omega) (by omega))) (.none rfl) rfl rfl ?_
   refine WP.val (v_move rfl rfl) (.none rfl) rfl rfl ?_
   refine WP.val (v_move rfl rfl) (.none rfl) rfl rfl ?_
   refine WP.val (v_move rfl rfl) (.none rfl) rfl rfl ?_
   refine WP.val (v_add rfl rfl rfl (w_i64 (by omega) (by omega))) (.none rfl) rfl rfl ?_
   refine WP.val (v_indexAddr (lo := b + i) rfl rfl rfl Tryd.underlying22 sz_48 (by omega) (by omega)) (.none rfl) rfl rfl ?_
   refine WP.val (v_move rfl rfl) (.none rfl) rfl rfl ?_
   refine WP.val (v_move rfl rfl) (.none rfl) rfl rfl ?_
   refine WP.val (v_move rfl rfl) (.none rfl) rfl rfl ?_
   refine WP.val (v_add rfl rfl rfl (w_i64 (by omega) (by omega))) (.none rfl) rfl rfl ?_
   refine WP.val (v_indexAddr (lo := a + i) rfl rfl rfl Tryd.underlying22 sz_48 (by omega) (by omega)) (.none rfl) rfl rfl ?_
   refine WP.nil ?_
   refine WR.read (g := 3) [13, 19, 20] (by kernel_rfl) (by kernel_rfl) (by kernel_rfl) (by kernel_rfl) rfl ?_
   refine WQ.val (v_loadN (cs := (swapR f a b i (b + i)).cells) rfl rfl many_48 (EnL.len _) (segAt (m := 21) (by rw [Nat.zero_add]; exact encL_at EnL.len (tab_get (by omega))))) (.none rfl) rfl rfl ?_
   refine WQ.val (v_loadN (cs := (swapR f a b i (a + i)).cells) rfl rfl many_48 (EnL.len _) (segAt (m := 21) (by rw [Nat.zero_add]; exact encL_at EnL.len (tab_get (by omega))))) (.none rfl) rfl rfl ?_
   refine WQ.val (v_indexAddr (lo := a + i) rfl rfl rfl Tryd.underlying22 sz_48 (by omega) (by omega)) (.none rfl) rfl rfl ?_
   refine WQ.nilR ?_
   refine WR.ones (g := 2) [21] (by kernel_rfl) ?_
   refine WL.storeN rfl rfl rfl rfl many_48 rfl (by rw [List.length_append, encL_len EnL.len, tab_len]; omega) (.none rfl) rfl ?_
   refine WL.as (L' := tabE g N R (updN (swapR f a b i) (a + i) (swapR f a b i (b + i))) :: L) (by rw [Nat.zero_add, encL_set EnL.len _ _ _ R (by rw [tab_len]; omega), tab_set]) ?_
   refine WL.nilR ?_
   refine WR.first (g := 1) [22] (by kernel_rfl) (by kernel_rfl) ?_
   refine WP.val (v_indexAddr (lo := b + i) rfl rfl rfl Tryd.underlying22 sz_48 (by omega) (by omega)) (.none rfl) rfl rfl ?_
   refine WP.nil ?_
   refine WR.ones (g := 0) [23] (by kernel_rfl) ?_
   refine WL.storeN rfl rfl rfl rfl many_48 rfl (by rw [List.length_append, encL_len EnL.len, tab_len]; omega) (.none rfl) rfl ?_
   refine WL.nilR ?_
   refine WR.done (by kernel_rfl) ?_
   refine WE.block_n ?_
   refine WE.then_n ?_
   refine WC.region ?_
   refine WL.val (v_move rfl rfl) (.none rfl) rfl rfl ?_
   refine WL.val (v_add rfl rfl rfl (w_i64 (by omega) (by omega))) (.none rfl) rfl rfl ?_
   refine WL.val (v_assign rfl rfl) (.none rfl) rfl rfl ?_
   refine WL.nil ?_
   exact WE.next (i + 1) (by omega) (by omega) (.int rfl (by omega) (.cons rfl (.cons rfl (.cons rfl (.cons rfl .nil))))) (by rw [Nat.zero_add, encL_set EnL.len _ _ _ R (by rw [tab_len]; omega), tab_set, swapR_step f a b i (by omega)]; exact .refl _)
  ·
   refine WL.nil ?_
   refine WE.then_n ?_
   refine WC.cond_f rfl ?_
   refine WC.exit ?_
   refine WE.then_exit ?_
   refine WE.then_exit ?_
   refine WE.block_hit ?_
   refine WE.ret0 (P := Tryd.prog) (.inr rfl) Tryd.results71  ?_
   obtain rfl : i = n := (by omega)
   exact fun w' h => ⟨rfl, h⟩
def rotR (f : Nat → EnL) (a m b : Nat) : Nat → EnL := fun k => if a ≤ k ∧ k < b then (if k < a + (b - m) then f (k + (m - a)) else f (k - (b - m))) else f k
structure RoS where
  i : Nat
  j : Nat
  f : Nat → EnL
theorem rot_big {f : Nat → EnL} {m i j : Nat} (hi : i ≤ m) (h : j < i) : rotR (swapR f (m - i) m j) (m - (i - j)) m (m + j) = rotR f (m - i) m (m + j) := by
  funext k
  unfold rotR swapR
  (repeat' split) <;> first | rfl | (exfalso; omega) | (congr 1; omega)
theorem rot_small {f : Nat → EnL} {m i j : Nat} (hi : i ≤ m) (h : i < j) : rotR (swapR f (m - i) (m + j - i) i) (m - i) m (m + (j - i)) = rotR f (m - i) m (m + j) := by
  funext k
  unfold rotR swapR
  (repeat' split) <;> first | rfl | (exfalso; omega) | (congr 1; omega)
theorem rot_same {f : Nat → EnL} {m i : Nat} (hi : i ≤ m) : swapR f (m - i) m i = rotR f (m - i) m (m + i) := by
  funext k
  unfold rotR swapR
  (repeat' split) <;> first | rfl | (exfalso; omega) | (congr 1; omega)
theorem w_nat {z : Int} {r : Nat} (h : z = r) (h' : r ≤ 1000000) : IntKind.i64.wrap z = (r : Int) := by
  rw [h]; exact w_i64 (by omega) (by omega)
set_option maxHeartbeats 1000000 in
theorem rotate_c (p : Nat → Prop) (w0 w : World) (L : List Ent) (g c N : Nat) (R : List Value) (f : Nat → EnL) (a m b : Nat) (h1 : a < m) (h2 : m < b) (hb : b ≤ N) (hN : N ≤ 100000) (hS : St p w0 w (tabE g N R f :: L)) :
    Calls Tryd.prog 63 #[.slice (some ⟨g, 0, none⟩) N c, .int .i64 a, .int .i64 m, .int .i64 b, ordV] w fun e w' => e = .returned (.tuple #[]) ∧ St p w0 w' (tabE g N R (rotR f a m b) :: L) := by
  refine enter Tryd.func63 rfl Tryd.ntmps63 rfl hS ?_
  refine WC.seq ?_
  refine WC.region ?_
  refine WL.val (v_move rfl rfl) (.none rfl) rfl rfl ?_
  refine WL.val (v_move rfl rfl) (.none rfl) rfl rfl ?_
  refine WL.val (v_sub rfl rfl rfl (w_nat (r := m - a) (by omega) (by omega))) (.none rfl) rfl rfl ?_
  refine WL.val (v_assign rfl rfl) (.none rfl) rfl rfl ?_
  refine WL.nil ?_
  refine WE.then_n ?_
  refine WC.seq ?_
  refine WC.region ?_
  refine WL.val (v_move rfl rfl) (.none rfl) rfl rfl ?_
  refine WL.val (v_move rfl rfl) (.none rfl) rfl rfl ?_
  refine WL.val (v_sub rfl rfl rfl (w_nat (r := b - m) (by omega) (by omega))) (.none rfl) rfl rfl ?_
  refine WL.val (v_assign rfl rfl) (.none rfl) rfl rfl ?_
  refine WL.nil ?_
  refine WE.then_n ?_
  refine WC.seq ?_
  refine WC.block ?_
  refine WC.loop (fun x : RoS => [(10, .int .i64 x.i), (11, .int .i64 x.j), (0, .slice (some ⟨g, 0, none⟩) N c), (2, .int .i64 m), (4, ordV)]) (fun x => tabE g N R x.f :: L) (fun x => 1 ≤ x.i ∧ 1 ≤ x.j ∧ a + x.i ≤ m ∧ m + x.j ≤ b ∧ rotR x.f (m - x.i) m (m + x.j) = rotR f a m b) (fun x => x.i + x.j) ⟨m - a, b - m, f⟩ ⟨by dsimp only; omega, by dsimp only; omega, by dsimp only; omega, by dsimp only; omega, by dsimp only; rw [show m - (m - a) = a by omega, show m + (b - m) = b by omega]⟩ (.cons rfl (.cons rfl (.cons rfl (.cons rfl (.cons rfl .nil))))) (.refl _) ?_
  rintro ⟨i, j, f1⟩ ⟨hi, hj, hai, hbj, hF⟩
  dsimp only at hi hj hai hbj hF
  dsimp only
  refine WC.seq ?_
  refine WC.seq ?_
  refine WC.region ?_
  refine WL.val (v_move rfl rfl) (.none rfl) rfl rfl ?_
  refine WL.val (v_move rfl rfl) (.none rfl) rfl rfl ?_
  refine WL.test (v_neq rfl rfl rfl) (.none rfl) rfl rfl (fun h20 => ?_) (fun h20 => ?_)
  ·
   refine WL.nil ?_
   refine WE.then_n ?_
   refine WC.cond_t rfl ?_
   refine WC.skip ?_
   refine WE.then_n ?_
   refine WC.block ?_
   refine WC.seq ?_
   refine WC.region ?_
   refine WL.val (v_move rfl rfl) (.none rfl) rfl rfl ?_
   refine WL.val (v_move rfl rfl) (.none rfl) rfl rfl ?_
   refine WL.test (v_gtr rfl rfl rfl) (.none rfl) rfl rfl (fun h23 => ?_) (fun h23 => ?_)
   ·
    refine WL.nil ?_
    refine WE.then_n ?_
    refine WC.cond_t rfl ?_
    refine WC.seq ?_
    refine WC.region ?_
    refine WL.val (v_move rfl rfl) (.none rfl) rfl rfl ?_
    refine WL.val (v_move rfl rfl) (.none rfl) rfl rfl ?_
    refine WL.val (v_move rfl rfl) (.none rfl) rfl rfl ?_
    refine WL.val (v_sub rfl rfl rfl (w_nat (r := m - i) (by omega) (by omega))) (.none rfl) rfl rfl ?_
    refine WL.val (v_move rfl rfl) (.none rfl) rfl rfl ?_
    refine WL.val (v_move rfl rfl) (.none rfl) rfl rfl ?_
    refine WL.val (v_move rfl rfl) (.none rfl) rfl rfl ?_
    refine WL.call rfl rfl ck_71 (.none rfl) rfl rfl ?_
    intro w1 hS
    refine (swapRange_c p w0 w1 L g c N R f1 (m - i) m j (by omega) (by omega) hN hS).mono ?_
    rintro e w' ⟨rfl, hS'⟩
    refine ⟨_, _, rfl, hS', ?_⟩
    refine WL.nil ?_
    refine WE.then_n ?_
    refine WC.region ?_
    refine WL.val (v_move rfl rfl) (.none rfl) rfl rfl ?_
    refine WL.val (v_move rfl rfl) (.none rfl) rfl rfl ?_
    refine WL.val (v_sub rfl rfl rfl (w_nat (r := i - j) (by omega) (by omega))) (.none rfl) rfl rfl ?_
    refine WL.val (v_assign rfl rfl) (.none rfl) rfl rfl ?_
    refine WL.nil ?_
    refine WE.block_n ?_
    exact WE.next ⟨i - j, j, swapR f1 (m - i) m j⟩ (by dsimp only; omega) ⟨by dsimp only; omega, hj, by dsimp only; omega, hbj, by dsimp only; rw [rot_big (by omega) (by omega)]; exact hF⟩ (.cons rfl (.cons rfl (.cons rfl (.cons rfl (.cons rfl .nil))))) (.refl _)
   ·
    refine WL.nil ?_
    refine WE.then_n ?_
    refine WC.cond_f rfl ?_
    refine WC.seq ?_
    refine WC.region ?_
    refine WL.val (v_move rfl rfl) (.none rfl) rfl rfl ?_
    refine WL.val (v_move rfl rfl) (.none rfl) rfl rfl ?_
    refine WL.val (v_move rfl rfl) (.none rfl) rfl rfl ?_
    refine WL.val (v_sub rfl rfl rfl (w_nat (r := m - i) (by omega) (by omega))) (.none rfl) rfl rfl ?_
    refine WL.val (v_move rfl rfl) (.none rfl) rfl rfl ?_
    refine WL.val (v_move rfl rfl) (.none rfl) rfl rfl ?_
    refine WL.val (v_add rfl rfl rfl (w_nat (r := m + j) (by omega) (by omega))) (.none rfl) rfl rfl ?_
    refine WL.val (v_move rfl rfl) (.none rfl) rfl rfl ?_
    refine WL.val (v_sub rfl rfl rfl (w_nat (r := m + j - i) (by omega) (by omega))) (.none rfl) rfl rfl ?_
    refine WL.val (v_move rfl rfl) (.none rfl) rfl rfl ?_
    refine WL.val (v_move rfl rfl) (.none rfl) rfl rfl ?_
    refine WL.call rfl rfl ck_71 (.none rfl) rfl rfl ?_
    intro w1 hS
    refine (swapRange_c p w0 w1 L g c N R f1 (m - i) (m + j - i) i (by omega) (by omega) hN hS).mono ?_
    rintro e w' ⟨rfl, hS'⟩
    refine ⟨_, _, rfl, hS', ?_⟩
    refine WL.nil ?_
    refine WE.then_n ?_
    refine WC.region ?_
    refine WL.val (v_move rfl rfl) (.none rfl) rfl rfl ?_
    refine WL.val (v_move rfl rfl) (.none rfl) rfl rfl ?_
    refine WL.val (v_sub rfl rfl rfl (w_nat (r := j - i) (by omega) (by omega))) (.none rfl) rfl rfl ?_
    refine WL.val (v_assign rfl rfl) (.none rfl) rfl rfl ?_
    refine WL.nil ?_
    refine WE.block_n ?_
    exact WE.next ⟨i, j - i, swapR f1 (m - i) (m + j - i) i⟩ (by dsimp only; omega) ⟨hi, by dsimp only; omega, hai, by dsimp only; omega, by dsimp only; rw [rot_small (by omega) (by omega)]; exact hF⟩ (.cons rfl (.cons rfl (.cons rfl (.cons rfl (.cons rfl .nil))))) (.refl _)
  ·
   refine WL.nil ?_
   refine WE.then_n ?_
   refine WC.cond_f rfl ?_
   refine WC.exit ?_
   refine WE.then_exit ?_
   refine WE.then_exit ?_
   refine WE.block_hit ?_
   refine WE.then_n ?_
   refine WC.region ?_
   refine WL.val (v_move rfl rfl) (.none rfl) rfl rfl ?_
   refine WL.val (v_move rfl rfl) (.none rfl) rfl rfl ?_
   refine WL.val (v_move rfl rfl) (.none rfl) rfl rfl ?_
   refine WL.val (v_sub rfl rfl rfl (w_nat (r := m - i) (by omega) (by omega))) (.none rfl) rfl rfl ?_
   refine WL.val (v_move rfl rfl) (.none rfl) rfl rfl ?_
   refine WL.val (v_move rfl rfl) (.none rfl) rfl rfl ?_
   refine WL.val (v_move rfl rfl) (.none rfl) rfl rfl ?_
   refine WL.call rfl rfl ck_71 (.none rfl) rfl rfl ?_
   intro w1 hS
   obtain rfl : i = j := (by omega)
   refine (swapRange_c p w0 w1 L g c N R f1 (m - i) m i (by omega) (by omega) hN hS).mono ?_
   rintro e w' ⟨rfl, hS'⟩
   rw [rot_same (by omega), hF] at hS'
   refine ⟨_, _, rfl, hS', ?_⟩
   refine WL.nil ?_
   refine WE.ret0 (P := Tryd.prog) (.inr rfl) Tryd.results63  ?_
   exact fun w' h => ⟨rfl, h⟩
end Go.Proofs.YtkeonnnhogaggaaDoor
/- table: symMerge where every entry on the right stands before every one on the left: a rotation. -/
namespace Go.Proofs.YtkeonnnhogaggaaDoor
open Go.RowKit Go.Sort

theorem w_natU {z : Int} {r : Nat} (h : z = r) (h' : r ≤ 1000000) : IntKind.u64.wrap z = (r : Int) := by
  rw [h, IntKind.wrap_u64]; omega
def upF (f : Nat → EnL) (a k : Nat) : Nat → EnL := rotR f a (a + 1) (k + 1)
def dnF (f : Nat → EnL) (m k : Nat) : Nat → EnL := rotR f k m (m + 1)
theorem up_zero (f : Nat → EnL) (a : Nat) : upF f a a = f := by
  funext k
  unfold upF rotR
  (repeat' split) <;> first | rfl | (exfalso; omega) | (congr 1; omega)
theorem up_step {f : Nat → EnL} {a k : Nat} (h : a ≤ k) : updN (updN (upF f a k) k (upF f a k (k + 1))) (k + 1) (upF f a k k) = upF f a (k + 1) := by
  funext j
  unfold updN upF rotR
  (repeat' split) <;> first | rfl | (exfalso; omega) | (congr 1; omega)
theorem dn_zero (f : Nat → EnL) (m : Nat) : dnF f m m = f := by
  funext k
  unfold dnF rotR
  (repeat' split) <;> first | rfl | (exfalso; omega) | (congr 1; omega)
theorem dn_step {f : Nat → EnL} {m k : Nat} (h : k + 1 ≤ m) : updN (updN (dnF f m (k + 1)) (k + 1) (dnF f m (k + 1) k)) k (dnF f m (k + 1) (k + 1)) = dnF f m k := by
  funext j
  unfold updN dnF rotR
  (repeat' split) <;> first | rfl | (exfalso; omega) | (congr 1; omega)
theorem rot_left {f : Nat → EnL} {a m b s mid : Nat} (h1 : a < s) (h2 : s < m) (h3 : m < b) (h4 : s + (b - m) = mid) : rotR (rotR f s m b) a s mid = rotR f a m b := by
  funext k
  unfold rotR
  (repeat' split) <;> first | rfl | (exfalso; omega) | (congr 1; omega)
theorem rot_right {f : Nat → EnL} {a m b e mid : Nat} (h1 : a < m) (h2 : m < e) (h3 : e < b) (h4 : a + (e - m) = mid) : rotR (rotR f a m e) mid e b = rotR f a m b := by
  funext k
  unfold rotR
  (repeat' split) <;> first | rfl | (exfalso; omega) | (congr 1; omega)
def Befr (f : Nat → EnL) (a m b : Nat) : Prop := ∀ x y, a ≤ x → x < m → m ≤ y → y < b → ordL (f y) (f x) < 0
theorem befr_left {f : Nat → EnL} {a m b s mid : Nat} (h : Befr f a m b) (_ : a ≤ s) (h2 : s < m) (h3 : m < b) (h4 : s + (b - m) = mid) : Befr (rotR f s m b) a s mid := fun x y x1 x2 y1 y2 => by
  unfold rotR
  rw [if_pos (by omega), if_pos (by omega), if_neg (by omega)]
  exact h x (y + (m - s)) (by omega) (by omega) (by omega) (by omega)
theorem befr_right {f : Nat → EnL} {a m b e mid : Nat} (h : Befr f a m b) (_ : a < m) (h2 : m < e) (_ : e < b) (h4 : a + (e - m) = mid) : Befr (rotR f a m e) mid e b := fun x y x1 x2 y1 y2 => by
  unfold rotR
  rw [if_neg (by omega), if_pos (by omega), if_neg (by omega)]
  exact h (x - (e - m)) y (by omega) (by omega) (by omega) (by omega)
structure SmS where
  s : Nat
  r : Nat
set_option maxRecDepth 8000 in
set_option maxHeartbeats 4000000 in
theorem symM_c (g c N : Nat) (R : List Value) (hN : N ≤ 100000) (p : Nat → Prop) (w0 : World) (L : List Ent) : ∀ (S : Nat) (w : World) (f : Nat → EnL) (a m b : Nat), b - a ≤ S → a < m → m < b → b ≤ N → Befr f a m b → St p w0 w (tabE g N R f :: L) →
    Calls Tryd.prog 48 #[.slice (some ⟨g, 0, none⟩) N c, .int .i64 a, .int .i64 m, .int .i64 b, ordV] w fun e w' => e = .returned (.tuple #[]) ∧ St p w0 w' (tabE g N R (rotR f a m b) :: L)
  | 0 => fun w f a m b h h1 h2 => by omega
  | S + 1 => by
    intro w f a m b hSz h1 h2 hb hB hS
    obtain ⟨mid, hmid⟩ : ∃ x, x = (a + b) / 2 := ⟨_, rfl⟩
    refine enter Tryd.func48 rfl Tryd.ntmps48 rfl hS ?_
    refine WC.seq ?_
    refine WC.seq ?_
    refine WC.region ?_
    refine WL.val (v_move rfl rfl) (.none rfl) rfl rfl ?_
    refine WL.val (v_move rfl rfl) (.none rfl) rfl rfl ?_
    refine WL.val (v_sub rfl rfl rfl (w_i64 (by omega) (by omega))) (.none rfl) rfl rfl ?_
    refine WL.test (v_eql rfl rfl rfl) (.none rfl) rfl rfl (fun h28 => ?_) (fun h28 => ?_)
    ·
     refine WL.nil ?_
     refine WE.then_n ?_
     refine WC.cond_t rfl ?_
     refine WC.seq ?_
     refine WC.region ?_
     refine WL.val (v_move rfl rfl) (.none rfl) rfl rfl ?_
     refine WL.val (v_assign rfl rfl) (.none rfl) rfl rfl ?_
     refine WL.nil ?_
     refine WE.then_n ?_
     refine WC.seq ?_
     refine WC.region ?_
     refine WL.val (v_move rfl rfl) (.none rfl) rfl rfl ?_
     refine WL.val (v_assign rfl rfl) (.none rfl) rfl rfl ?_
     refine WL.nil ?_
     refine WE.then_n ?_
     refine WC.seq ?_
     refine WC.block ?_
     refine WC.loop (fun i : Nat => [(10, .int .i64 i), (11, .int .i64 b), (0, .slice (some ⟨g, 0, none⟩) N c), (1, .int .i64 a), (4, ordV)]) (fun _ => tabE g N R f :: L) (fun i => m ≤ i ∧ i ≤ b) (fun i => b - i) m ⟨Nat.le_refl _, by omega⟩ (.cons rfl (.cons rfl (.cons rfl (.cons rfl (.cons rfl .nil))))) (.refl _) ?_
     rintro i ⟨hi1, hi2⟩
     obtain ⟨h, hh⟩ : ∃ x, x = (i + b) / 2 := ⟨_, rfl⟩
     refine WC.seq ?_
     refine WC.seq ?_
     refine WC.region ?_
     refine WL.val (v_move rfl rfl) (.none rfl) rfl rfl ?_
     refine WL.val (v_move rfl rfl) (.none rfl) rfl rfl ?_
     refine WL.test (v_lss rfl rfl rfl) (.none rfl) rfl rfl (fun h33 => ?_) (fun h33 => ?_)
     ·
      refine WL.nil ?_
      refine WE.then_n ?_
      refine WC.cond_t rfl ?_
      refine WC.skip ?_
      refine WE.then_n ?_
      refine WC.block ?_
      refine WC.seq ?_
      refine WC.region ?_
      refine WL.val (v_move rfl rfl) (.none rfl) rfl rfl ?_
      refine WL.val (v_move rfl rfl) (.none rfl) rfl rfl ?_
      refine WL.val (v_add rfl rfl rfl (w_nat (r := i + b) (by omega) (by omega))) (.none rfl) rfl rfl ?_
      refine WL.val (v_conv rfl rfl Tryd.underlying94 Tryd.underlying3 (w_natU (r := i + b) (by omega) (by omega))) (.none rfl) rfl rfl ?_
      refine WL.val ((v_shr (m := 1) (c := 2) rfl rfl rfl rfl (by decide) rfl).int (B := ((h : Nat) : Int)) (by omega)) (.none rfl) rfl rfl ?_
      refine WL.val (v_conv rfl rfl Tryd.underlying3 Tryd.underlying94 (w_nat (r := h) (by omega) (by omega))) (.none rfl) rfl rfl ?_
      refine WL.val (v_assign rfl rfl) (.none rfl) rfl rfl ?_
      refine WL.nil ?_
      refine WE.then_n ?_
      refine WC.seq ?_
      refine WC.quiet mixed (by kernel_rfl) ?_
      refine WQ.val (v_move rfl rfl) (.none rfl) rfl rfl ?_
      refine WQ.val (v_move rfl rfl) (.none rfl) rfl rfl ?_
      refine WQ.val (v_move rfl rfl) (.none rfl) rfl rfl ?_
      refine WQ.val (v_indexAddr (lo := h) rfl rfl rfl Tryd.underlying22 sz_48 (by omega) (by omega)) (.none rfl) rfl rfl ?_
      refine WQ.val (v_loadN (cs := (f (h)).cells) rfl rfl many_48 (EnL.len _) (segAt (m := 21) (by rw [Nat.zero_add]; exact encL_at EnL.len (tab_get (by omega))))) (.none rfl) rfl rfl ?_
      refine WQ.val (v_move rfl rfl) (.none rfl) rfl rfl ?_
      refine WQ.val (v_move rfl rfl) (.none rfl) rfl rfl ?_
      refine WQ.val (v_indexAddr (lo := a) rfl rfl rfl Tryd.underlying22 sz_48 (by omega) (by omega)) (.none rfl) rfl rfl ?_
      refine WQ.val (v_loadN (cs := (f (a)).cells) rfl rfl many_48 (EnL.len _) (segAt (m := 21) (by rw [Nat.zero_add]; exact encL_at EnL.len (tab_get (by omega))))) (.none rfl) rfl rfl ?_
      refine WQ.callV _ rfl rfl rfl ck_20 (.none rfl) rfl rfl (fun w hS => Calls.still (order_c w (f h) (f a)) hS) ?_
      refine WQ.val ((v_lss rfl rfl rfl).t (hB a h (by omega) (by omega) (by omega) (by omega))) (.none rfl) rfl rfl ?_
      refine WQ.nil ?_
      refine WE.then_n ?_
      refine WC.cond_t rfl ?_
      refine WC.region ?_
      refine WL.val (v_move rfl rfl) (.none rfl) rfl rfl ?_
      refine WL.val (v_add rfl rfl rfl (w_i64 (by omega) (by omega))) (.none rfl) rfl rfl ?_
      refine WL.val (v_assign rfl rfl) (.none rfl) rfl rfl ?_
      refine WL.nil ?_
      refine WE.block_n ?_
      exact WE.next (h + 1) (by omega) ⟨by omega, by omega⟩ (.int rfl (by omega) (.cons rfl (.cons rfl (.cons rfl (.cons rfl .nil))))) (.refl _)
     ·
      refine WL.nil ?_
      refine WE.then_n ?_
      refine WC.cond_f rfl ?_
      refine WC.exit ?_
      refine WE.then_exit ?_
      refine WE.then_exit ?_
      refine WE.block_hit ?_
      refine WE.then_n ?_
      refine WC.seq ?_
      refine WC.seq ?_
      refine WC.region ?_
      refine WL.val (v_move rfl rfl) (.none rfl) rfl rfl ?_
      refine WL.val (v_assign rfl rfl) (.none rfl) rfl rfl ?_
      refine WL.nil ?_
      refine WE.then_n ?_
      refine WC.block ?_
      refine WC.loop (fun k : Nat => [(13, .int .i64 k), (10, .int .i64 b), (0, .slice (some ⟨g, 0, none⟩) N c)]) (fun k => tabE g N R (upF f a k) :: L) (fun k => a ≤ k ∧ k < b) (fun k => b - k) a ⟨Nat.le_refl _, by omega⟩ (.cons rfl (.int rfl (by omega) (.cons rfl .nil))) (by rw [up_zero]; exact .refl _) ?_
      rintro k ⟨hk1, hk2⟩
      refine WC.seq ?_
      refine WC.seq ?_
      refine WC.region ?_
      refine WL.val (v_move rfl rfl) (.none rfl) rfl rfl ?_
      refine WL.val (v_move rfl rfl) (.none rfl) rfl rfl ?_
      refine WL.val (v_sub rfl rfl rfl (w_i64 (by omega) (by omega))) (.none rfl) rfl rfl ?_
      refine WL.test (v_lss rfl rfl rfl) (.none rfl) rfl rfl (fun h58 => ?_) (fun h58 => ?_)
      ·
       refine WL.nil ?_
       refine WE.then_n ?_
       refine WC.cond_t rfl ?_
       refine WC.skip ?_
       refine WE.then_n ?_
       refine WC.seq ?_
       refine WC.block ?_
       refine WC.orders mixed ?_
       refine WR.first (g := 6) [0, 1, 2, 3, 4, 5, 6, 7, 8, 10, 11, 12] (by kernel_rfl) (by kernel_rfl) ?_
       refine WP.val (v_move rfl rfl) (.none rfl) rfl rfl ?_
       refine WP.val (v_move rfl rfl) (.none rfl) rfl rfl ?_
       refine WP.val (v_move rfl rfl) (.none rfl) rfl rfl ?_
       refine WP.val (v_move rfl rfl) (.none rfl) rfl rfl ?_
       refine WP.val (v_add rfl rfl rfl (w_i64 (by omega) (by omega))) (.none rfl) rfl rfl ?_
       refine WP.val (v_move rfl rfl) (.none rfl) rfl rfl ?_
       refine WP.val (v_move rfl rfl) (.none rfl) rfl rfl ?_
       refine WP.val (v_add rfl rfl rfl (w_i64 (by omega) (by omega))) (.none rfl) rfl rfl ?_
       refine WP.val (v_indexAddr (lo := k + 1) rfl rfl rfl Tryd.underlying22 sz_48 (by omega) (by omega)) (.none rfl) rfl rfl ?_
       refine WP.val (v_move rfl rfl) (.none rfl) rfl rfl ?_
       refine WP.val (v_move rfl rfl) (.none rfl) rfl rfl ?_
       refine WP.val (v_indexAddr (lo := k) rfl rfl rfl Tryd.underlying22 sz_48 (by omega) (by omega)) (.none rfl) rfl rfl ?_
       refine WP.nil ?_
       refine WR.read (g := 3) [9, 13, 14] (by kernel_rfl) (by kernel_rfl) (by kernel_rfl) (by kernel_rfl) rfl ?_
       refine WQ.val (v_loadN (cs := (upF f a k (k + 1)).cells) rfl rfl many_48 (EnL.len _) (segAt (m := 21) (by rw [Nat.zero_add]; exact encL_at EnL.len (tab_get (by omega))))) (.none rfl) rfl rfl ?_
       refine WQ.val (v_loadN (cs := (upF f a k (k)).cells) rfl rfl many_48 (EnL.len _) (segAt (m := 21) (by rw [Nat.zero_add]; exact encL_at EnL.len (tab_get (by omega))))) (.none rfl) rfl rfl ?_
       refine WQ.val (v_indexAddr (lo := k) rfl rfl rfl Tryd.underlying22 sz_48 (by omega) (by omega)) (.none rfl) rfl rfl ?_
       refine WQ.nilR ?_
       refine WR.ones (g := 2) [15] (by kernel_rfl) ?_
       refine WL.storeN rfl rfl rfl rfl many_48 rfl (by rw [List.length_append, encL_len EnL.len, tab_len]; omega) (.none rfl) rfl ?_
       refine WL.as (L' := tabE g N R (updN (upF f a k) (k) ((upF f a k) (k + 1))) :: L) (by rw [Nat.zero_add, encL_set EnL.len _ _ _ R (by rw [tab_len]; omega), tab_set]) ?_
       refine WL.nilR ?_
       refine WR.first (g := 1) [16] (by kernel_rfl) (by kernel_rfl) ?_
       refine WP.val (v_indexAddr (lo := k + 1) rfl rfl rfl Tryd.underlying22 sz_48 (by omega) (by omega)) (.none rfl) rfl rfl ?_
       refine WP.nil ?_
       refine WR.ones (g := 0) [17] (by kernel_rfl) ?_
       refine WL.storeN rfl rfl rfl rfl many_48 rfl (by rw [List.length_append, encL_len EnL.len, tab_len]; omega) (.none rfl) rfl ?_
       refine WL.nilR ?_
       refine WR.done (by kernel_rfl) ?_
       refine WE.block_n ?_
       refine WE.then_n ?_
       refine WC.region ?_
       refine WL.val (v_move rfl rfl) (.none rfl) rfl rfl ?_
       refine WL.val (v_add rfl rfl rfl (w_i64 (by omega) (by omega))) (.none rfl) rfl rfl ?_
       refine WL.val (v_assign rfl rfl) (.none rfl) rfl rfl ?_
       refine WL.nil ?_
       exact WE.next (k + 1) (by omega) ⟨by omega, by omega⟩ (.int rfl (by omega) (.cons rfl (.cons rfl .nil))) (by rw [Nat.zero_add, encL_set EnL.len _ _ _ R (by rw [tab_len]; omega), tab_set, up_step (by omega)]; exact .refl _)
      ·
       refine WL.nil ?_
       refine WE.then_n ?_
       refine WC.cond_f rfl ?_
       refine WC.exit ?_
       refine WE.then_exit ?_
       refine WE.then_exit ?_
       refine WE.block_hit ?_
       refine WE.then_n ?_
       refine WC.ret ?_
       refine WE.then_ret ?_
       refine WE.ret0 (P := Tryd.prog) (.inl rfl) Tryd.results48  ?_
       obtain rfl : m = a + 1 := (by omega)
       obtain rfl : b = k + 1 := (by omega)
       exact fun w' h => ⟨rfl, h⟩
    ·
     refine WL.nil ?_
     refine WE.then_n ?_
     refine WC.cond_f rfl ?_
     refine WC.skip ?_
     refine WE.then_n ?_
     refine WC.seq ?_
     refine WC.seq ?_
     refine WC.region ?_
     refine WL.val (v_move rfl rfl) (.none rfl) rfl rfl ?_
     refine WL.val (v_move rfl rfl) (.none rfl) rfl rfl ?_
     refine WL.val (v_sub rfl rfl rfl (w_i64 (by omega) (by omega))) (.none rfl) rfl rfl ?_
     refine WL.test (v_eql rfl rfl rfl) (.none rfl) rfl rfl (fun h80 => ?_) (fun h80 => ?_)
     ·
      refine WL.nil ?_
      refine WE.then_n ?_
      refine WC.cond_t rfl ?_
      refine WC.seq ?_
      refine WC.region ?_
      refine WL.val (v_move rfl rfl) (.none rfl) rfl rfl ?_
      refine WL.val (v_assign rfl rfl) (.none rfl) rfl rfl ?_
      refine WL.nil ?_
      refine WE.then_n ?_
      refine WC.seq ?_
      refine WC.region ?_
      refine WL.val (v_move rfl rfl) (.none rfl) rfl rfl ?_
      refine WL.val (v_assign rfl rfl) (.none rfl) rfl rfl ?_
      refine WL.nil ?_
      refine WE.then_n ?_
      refine WC.seq ?_
      refine WC.block ?_
      refine WC.loop (fun j : Nat => [(14, .int .i64 a), (15, .int .i64 j), (0, .slice (some ⟨g, 0, none⟩) N c), (2, .int .i64 m), (4, ordV)]) (fun _ => tabE g N R f :: L) (fun j => a ≤ j ∧ j ≤ m) (fun j => j - a) m ⟨by omega, Nat.le_refl _⟩ (.cons rfl (.cons rfl (.cons rfl (.cons rfl (.cons rfl .nil))))) (.refl _) ?_
      rintro j ⟨hj1, hj2⟩
      obtain ⟨h, hh⟩ : ∃ x, x = (a + j) / 2 := ⟨_, rfl⟩
      refine WC.seq ?_
      refine WC.seq ?_
      refine WC.region ?_
      refine WL.val (v_move rfl rfl) (.none rfl) rfl rfl ?_
      refine WL.val (v_move rfl rfl) (.none rfl) rfl rfl ?_
      refine WL.test (v_lss rfl rfl rfl) (.none rfl) rfl rfl (fun h85 => ?_) (fun h85 => ?_)
      ·
       refine WL.nil ?_
       refine WE.then_n ?_
       refine WC.cond_t rfl ?_
       refine WC.skip ?_
       refine WE.then_n ?_
       refine WC.block ?_
       refine WC.seq ?_
       refine WC.region ?_
       refine WL.val (v_move rfl rfl) (.none rfl) rfl rfl ?_
       refine WL.val (v_move rfl rfl) (.none rfl) rfl rfl ?_
       refine WL.val (v_add rfl rfl rfl (w_nat (r := a + j) (by omega) (by omega))) (.none rfl) rfl rfl ?_
       refine WL.val (v_conv rfl rfl Tryd.underlying94 Tryd.underlying3 (w_natU (r := a + j) (by omega) (by omega))) (.none rfl) rfl rfl ?_
       refine WL.val ((v_shr (m := 1) (c := 2) rfl rfl rfl rfl (by decide) rfl).int (B := ((h : Nat) : Int)) (by omega)) (.none rfl) rfl rfl ?_
       refine WL.val (v_conv rfl rfl Tryd.underlying3 Tryd.underlying94 (w_nat (r := h) (by omega) (by omega))) (.none rfl) rfl rfl ?_
       refine WL.val (v_assign rfl rfl) (.none rfl) rfl rfl ?_
       refine WL.nil ?_
       refine WE.then_n ?_
       refine WC.seq ?_
       refine WC.quiet mixed (by kernel_rfl) ?_
       refine WQ.val (v_move rfl rfl) (.none rfl) rfl rfl ?_
       refine WQ.val (v_move rfl rfl) (.none rfl) rfl rfl ?_
       refine WQ.val (v_move rfl rfl) (.none rfl) rfl rfl ?_
       refine WQ.val (v_indexAddr (lo := m) rfl rfl rfl Tryd.underlying22 sz_48 (by omega) (by omega)) (.none rfl) rfl rfl ?_
       refine WQ.val (v_loadN (cs := (f (m)).cells) rfl rfl many_48 (EnL.len _) (segAt (m := 21) (by rw [Nat.zero_add]; exact encL_at EnL.len (tab_get (by omega))))) (.none rfl) rfl rfl ?_
       refine WQ.val (v_move rfl rfl) (.none rfl) rfl rfl ?_
       refine WQ.val (v_move rfl rfl) (.none rfl) rfl rfl ?_
       refine WQ.val (v_indexAddr (lo := h) rfl rfl rfl Tryd.underlying22 sz_48 (by omega) (by omega)) (.none rfl) rfl rfl ?_
       refine WQ.val (v_loadN (cs := (f (h)).cells) rfl rfl many_48 (EnL.len _) (segAt (m := 21) (by rw [Nat.zero_add]; exact encL_at EnL.len (tab_get (by omega))))) (.none rfl) rfl rfl ?_
       refine WQ.callV _ rfl rfl rfl ck_20 (.none rfl) rfl rfl (fun w hS => Calls.still (order_c w (f m) (f h)) hS) ?_
       refine WQ.val ((v_lss rfl rfl rfl).t (hB h m (by omega) (by omega) (by omega) (by omega))) (.none rfl) rfl rfl ?_
       refine WQ.val (v_not rfl rfl rfl) (.none rfl) rfl rfl ?_
       refine WQ.nil ?_
       refine WE.then_n ?_
       refine WC.cond_f rfl ?_
       refine WC.region ?_
       refine WL.val (v_move rfl rfl) (.none rfl) rfl rfl ?_
       refine WL.val (v_assign rfl rfl) (.none rfl) rfl rfl ?_
       refine WL.nil ?_
       refine WE.block_n ?_
       exact WE.next h (by omega) ⟨by omega, by omega⟩ (.cons rfl (.cons rfl (.cons rfl (.cons rfl (.cons rfl .nil))))) (.refl _)
      ·
       refine WL.nil ?_
       refine WE.then_n ?_
       refine WC.cond_f rfl ?_
       refine WC.exit ?_
       refine WE.then_exit ?_
       refine WE.then_exit ?_
       refine WE.block_hit ?_
       refine WE.then_n ?_
       refine WC.seq ?_
       refine WC.seq ?_
       refine WC.region ?_
       refine WL.val (v_move rfl rfl) (.none rfl) rfl rfl ?_
       refine WL.val (v_assign rfl rfl) (.none rfl) rfl rfl ?_
       refine WL.nil ?_
       refine WE.then_n ?_
       refine WC.block ?_
       refine WC.loop (fun k : Nat => [(17, .int .i64 k), (14, .int .i64 a), (0, .slice (some ⟨g, 0, none⟩) N c)]) (fun k => tabE g N R (dnF f m k) :: L) (fun k => a ≤ k ∧ k ≤ m) (fun k => k - a) m ⟨by omega, Nat.le_refl _⟩ (.cons rfl (.cons rfl (.cons rfl .nil))) (by rw [dn_zero]; exact .refl _) ?_
       rintro k ⟨hk1, hk2⟩
       refine WC.seq ?_
       refine WC.seq ?_
       refine WC.region ?_
       refine WL.val (v_move rfl rfl) (.none rfl) rfl rfl ?_
       refine WL.val (v_move rfl rfl) (.none rfl) rfl rfl ?_
       refine WL.test (v_gtr rfl rfl rfl) (.none rfl) rfl rfl (fun h110 => ?_) (fun h110 => ?_)
       ·
        refine WL.nil ?_
        refine WE.then_n ?_
        refine WC.cond_t rfl ?_
        refine WC.skip ?_
        refine WE.then_n ?_
        refine WC.seq ?_
        refine WC.block ?_
        refine WC.orders mixed ?_
        refine WR.first (g := 6) [0, 1, 2, 3, 4, 5, 6, 7, 8, 10, 11, 12] (by kernel_rfl) (by kernel_rfl) ?_
        refine WP.val (v_move rfl rfl) (.none rfl) rfl rfl ?_
        refine WP.val (v_move rfl rfl) (.none rfl) rfl rfl ?_
        refine WP.val (v_move rfl rfl) (.none rfl) rfl rfl ?_
        refine WP.val (v_move rfl rfl) (.none rfl) rfl rfl ?_
        obtain ⟨k', rfl⟩ : ∃ k', k = k' + 1 := ⟨k - 1, by omega⟩
        refine WP.val (v_sub rfl rfl rfl (w_nat (r := k') (by omega) (by omega))) (.none rfl) rfl rfl ?_
        refine WP.val (v_move rfl rfl) (.none rfl) rfl rfl ?_
        refine WP.val (v_move rfl rfl) (.none rfl) rfl rfl ?_
        refine WP.val (v_sub rfl rfl rfl (w_nat (r := k') (by omega) (by omega))) (.none rfl) rfl rfl ?_
        refine WP.val (v_indexAddr (lo := k') rfl rfl rfl Tryd.underlying22 sz_48 (by omega) (by omega)) (.none rfl) rfl rfl ?_
        refine WP.val (v_move rfl rfl) (.none rfl) rfl rfl ?_
        refine WP.val (v_move rfl rfl) (.none rfl) rfl rfl ?_
        refine WP.val (v_indexAddr (lo := k' + 1) rfl rfl rfl Tryd.underlying22 sz_48 (by omega) (by omega)) (.none rfl) rfl rfl ?_
        refine WP.nil ?_
        refine WR.read (g := 3) [9, 13, 14] (by kernel_rfl) (by kernel_rfl) (by kernel_rfl) (by kernel_rfl) rfl ?_
        refine WQ.val (v_loadN (cs := (dnF f m (k' + 1) (k')).cells) rfl rfl many_48 (EnL.len _) (segAt (m := 21) (by rw [Nat.zero_add]; exact encL_at EnL.len (tab_get (by omega))))) (.none rfl) rfl rfl ?_
        refine WQ.val (v_loadN (cs := (dnF f m (k' + 1) (k' + 1)).cells) rfl rfl many_48 (EnL.len _) (segAt (m := 21) (by rw [Nat.zero_add]; exact encL_at EnL.len (tab_get (by omega))))) (.none rfl) rfl rfl ?_
        refine WQ.val (v_indexAddr (lo := k' + 1) rfl rfl rfl Tryd.underlying22 sz_48 (by omega) (by omega)) (.none rfl) rfl rfl ?_
        refine WQ.nilR ?_
        refine WR.ones (g := 2) [15] (by kernel_rfl) ?_
        refine WL.storeN rfl rfl rfl rfl many_48 rfl (by rw [List.length_append, encL_len EnL.len, tab_len]; omega) (.none rfl) rfl ?_
        refine WL.as (L' := tabE g N R (updN (dnF f m (k' + 1)) (k' + 1) ((dnF f m (k' + 1)) (k'))) :: L) (by rw [Nat.zero_add, encL_set EnL.len _ _ _ R (by rw [tab_len]; omega), tab_set]) ?_
        refine WL.nilR ?_
        refine WR.first (g := 1) [16] (by kernel_rfl) (by kernel_rfl) ?_
        refine WP.val (v_indexAddr (lo := k') rfl rfl rfl Tryd.underlying22 sz_48 (by omega) (by omega)) (.none rfl) rfl rfl ?_
        refine WP.nil ?_
        refine WR.ones (g := 0) [17] (by kernel_rfl) ?_
        refine WL.storeN rfl rfl rfl rfl many_48 rfl (by rw [List.length_append, encL_len EnL.len, tab_len]; omega) (.none rfl) rfl ?_
        refine WL.nilR ?_
        refine WR.done (by kernel_rfl) ?_
        refine WE.block_n ?_
        refine WE.then_n ?_
        refine WC.region ?_
        refine WL.val (v_move rfl rfl) (.none rfl) rfl rfl ?_
        refine WL.val (v_sub rfl rfl rfl (w_nat (r := k') (by omega) (by omega))) (.none rfl) rfl rfl ?_
        refine WL.val (v_assign rfl rfl) (.none rfl) rfl rfl ?_
        refine WL.nil ?_
        exact WE.next k' (by omega) ⟨by omega, by omega⟩ (.cons rfl (.cons rfl (.cons rfl .nil))) (by rw [Nat.zero_add, encL_set EnL.len _ _ _ R (by rw [tab_len]; omega), tab_set, dn_step (by omega)]; exact .refl _)
       ·
        refine WL.nil ?_
        refine WE.then_n ?_
        refine WC.cond_f rfl ?_
        refine WC.exit ?_
        refine WE.then_exit ?_
        refine WE.then_exit ?_
        refine WE.block_hit ?_
        refine WE.then_n ?_
        refine WC.ret ?_
        refine WE.then_ret ?_
        refine WE.ret0 (P := Tryd.prog) (.inl rfl) Tryd.results48  ?_
        obtain rfl : b = m + 1 := (by omega)
        obtain rfl : k = a := (by omega)
        exact fun w' h => ⟨rfl, h⟩
     ·
      refine WL.nil ?_
      refine WE.then_n ?_
      refine WC.cond_f rfl ?_
      refine WC.skip ?_
      refine WE.then_n ?_
      refine WC.seq ?_
      refine WC.region ?_
      refine WL.val (v_move rfl rfl) (.none rfl) rfl rfl ?_
      refine WL.val (v_move rfl rfl) (.none rfl) rfl rfl ?_
      refine WL.val (v_add rfl rfl rfl (w_nat (r := a + b) (by omega) (by omega))) (.none rfl) rfl rfl ?_
      refine WL.val (v_conv rfl rfl Tryd.underlying94 Tryd.underlying3 (w_natU (r := a + b) (by omega) (by omega))) (.none rfl) rfl rfl ?_
      refine WL.val ((v_shr (m := 1) (c := 2) rfl rfl rfl rfl (by decide) rfl).int (B := ((mid : Nat) : Int)) (by omega)) (.none rfl) rfl rfl ?_
      refine WL.val (v_conv rfl rfl Tryd.underlying3 Tryd.underlying94 (w_nat (r := mid) (by omega) (by omega))) (.none rfl) rfl rfl ?_
      refine WL.val (v_assign rfl rfl) (.none rfl) rfl rfl ?_
      refine WL.nil ?_
      refine WE.then_n ?_
      refine WC.seq ?_
      refine WC.region ?_
      refine WL.val (v_move rfl rfl) (.none rfl) rfl rfl ?_
      refine WL.val (v_move rfl rfl) (.none rfl) rfl rfl ?_
      refine WL.val (v_add rfl rfl rfl (w_nat (r := mid + m) (by omega) (by omega))) (.none rfl) rfl rfl ?_
      refine WL.val (v_assign rfl rfl) (.none rfl) rfl rfl ?_
      refine WL.nil ?_
      refine WE.then_n ?_
      refine WC.seq ?_
      refine WC.region ?_
      refine WL.val (v_assign rfl rfl) (.none rfl) rfl rfl ?_
      refine WL.val (v_assign rfl rfl) (.none rfl) rfl rfl ?_
      refine WL.nil ?_
      refine WE.then_n ?_
      refine WC.cut (fun x : SmS => [(20, .int .i64 x.s), (21, .int .i64 x.r), (18, .int .i64 mid), (19, .int .i64 (mid + m : Nat)), (0, .slice (some ⟨g, 0, none⟩) N c), (1, .int .i64 a), (2, .int .i64 m), (3, .int .i64 b), (4, ordV)]) (fun _ => tabE g N R f :: L) (fun x => (mid < m ∧ x.s = mid + m - b ∧ x.r = mid) ∨ (m ≤ mid ∧ x.s = a ∧ x.r = m)) ?_ ?_
      ·
       refine WC.seq ?_
       refine WC.region ?_
       refine WL.val (v_move rfl rfl) (.none rfl) rfl rfl ?_
       refine WL.val (v_move rfl rfl) (.none rfl) rfl rfl ?_
       refine WL.test (v_gtr rfl rfl rfl) (.none rfl) rfl rfl (fun h140 => ?_) (fun h140 => ?_)
       ·
        refine WL.nil ?_
        refine WE.then_n ?_
        refine WC.cond_t rfl ?_
        refine WC.seq ?_
        refine WC.region ?_
        refine WL.val (v_move rfl rfl) (.none rfl) rfl rfl ?_
        refine WL.val (v_move rfl rfl) (.none rfl) rfl rfl ?_
        refine WL.val (v_sub rfl rfl rfl (w_nat (r := mid + m - b) (by omega) (by omega))) (.none rfl) rfl rfl ?_
        refine WL.val (v_assign rfl rfl) (.none rfl) rfl rfl ?_
        refine WL.nil ?_
        refine WE.then_n ?_
        refine WC.region ?_
        refine WL.val (v_move rfl rfl) (.none rfl) rfl rfl ?_
        refine WL.val (v_assign rfl rfl) (.none rfl) rfl rfl ?_
        refine WL.nil ?_
        exact WE.mid ⟨mid + m - b, mid⟩ (.inl ⟨by omega, rfl, rfl⟩) (.cons rfl (.cons rfl (.cons rfl (.cons rfl (.cons rfl (.cons rfl (.cons rfl (.cons rfl (.cons rfl .nil))))))))) (.refl _)
       ·
        refine WL.nil ?_
        refine WE.then_n ?_
        refine WC.cond_f rfl ?_
        refine WC.seq ?_
        refine WC.region ?_
        refine WL.val (v_move rfl rfl) (.none rfl) rfl rfl ?_
        refine WL.val (v_assign rfl rfl) (.none rfl) rfl rfl ?_
        refine WL.nil ?_
        refine WE.then_n ?_
        refine WC.region ?_
        refine WL.val (v_move rfl rfl) (.none rfl) rfl rfl ?_
        refine WL.val (v_assign rfl rfl) (.none rfl) rfl rfl ?_
        refine WL.nil ?_
        exact WE.mid ⟨a, m⟩ (.inr ⟨by omega, rfl, rfl⟩) (.cons rfl (.cons rfl (.cons rfl (.cons rfl (.cons rfl (.cons rfl (.cons rfl (.cons rfl (.cons rfl .nil))))))))) (.refl _)
      ·
       rintro ⟨s, r⟩ hsr
       dsimp only at hsr
       dsimp only
       refine WC.seq ?_
       refine WC.region ?_
       refine WL.val (v_move rfl rfl) (.none rfl) rfl rfl ?_
       refine WL.val (v_sub rfl rfl rfl (w_nat (r := mid + m - 1) (by omega) (by omega))) (.none rfl) rfl rfl ?_
       refine WL.val (v_assign rfl rfl) (.none rfl) rfl rfl ?_
       refine WL.nil ?_
       refine WE.then_n ?_
       refine WC.seq ?_
       refine WC.block ?_
       refine WC.loop (fun r : Nat => [(20, .int .i64 s), (21, .int .i64 r), (22, .int .i64 (mid + m - 1 : Nat)), (18, .int .i64 mid), (19, .int .i64 (mid + m : Nat)), (0, .slice (some ⟨g, 0, none⟩) N c), (1, .int .i64 a), (2, .int .i64 m), (3, .int .i64 b), (4, ordV)]) (fun _ => tabE g N R f :: L) (fun x => s ≤ x ∧ x ≤ r) (fun x => x - s) r ⟨by omega, Nat.le_refl _⟩ (.cons rfl (.cons rfl (.cons rfl (.cons rfl (.cons rfl (.cons rfl (.cons rfl (.cons rfl (.cons rfl (.cons rfl .nil)))))))))) (.refl _) ?_
       rintro q ⟨hq1, hq2⟩
       obtain ⟨h, hh⟩ : ∃ x, x = (s + q) / 2 := ⟨_, rfl⟩
       refine WC.seq ?_
       refine WC.seq ?_
       refine WC.region ?_
       refine WL.val (v_move rfl rfl) (.none rfl) rfl rfl ?_
       refine WL.val (v_move rfl rfl) (.none rfl) rfl rfl ?_
       refine WL.test (v_lss rfl rfl rfl) (.none rfl) rfl rfl (fun h151 => ?_) (fun h151 => ?_)
       ·
        refine WL.nil ?_
        refine WE.then_n ?_
        refine WC.cond_t rfl ?_
        refine WC.skip ?_
        refine WE.then_n ?_
        refine WC.block ?_
        refine WC.seq ?_
        refine WC.region ?_
        refine WL.val (v_move rfl rfl) (.none rfl) rfl rfl ?_
        refine WL.val (v_move rfl rfl) (.none rfl) rfl rfl ?_
        refine WL.val (v_add rfl rfl rfl (w_nat (r := s + q) (by omega) (by omega))) (.none rfl) rfl rfl ?_
        refine WL.val (v_conv rfl rfl Tryd.underlying94 Tryd.underlying3 (w_natU (r := s + q) (by omega) (by omega))) (.none rfl) rfl rfl ?_
        refine WL.val ((v_shr (m := 1) (c := 2) rfl rfl rfl rfl (by decide) rfl).int (B := ((h : Nat) : Int)) (by omega)) (.none rfl) rfl rfl ?_
        refine WL.val (v_conv rfl rfl Tryd.underlying3 Tryd.underlying94 (w_nat (r := h) (by omega) (by omega))) (.none rfl) rfl rfl ?_
        refine WL.val (v_assign rfl rfl) (.none rfl) rfl rfl ?_
        refine WL.nil ?_
        refine WE.then_n ?_
        refine WC.seq ?_
        refine WC.quiet mixed (by kernel_rfl) ?_
        refine WQ.val (v_move rfl rfl) (.none rfl) rfl rfl ?_
        refine WQ.val (v_move rfl rfl) (.none rfl) rfl rfl ?_
        refine WQ.val (v_move rfl rfl) (.none rfl) rfl rfl ?_
        refine WQ.val (v_move rfl rfl) (.none rfl) rfl rfl ?_
        refine WQ.val (v_sub rfl rfl rfl (w_nat (r := mid + m - 1 - h) (by omega) (by omega))) (.none rfl) rfl rfl ?_
        refine WQ.val (v_indexAddr (lo := mid + m - 1 - h) rfl rfl rfl Tryd.underlying22 sz_48 (by omega) (by omega)) (.none rfl) rfl rfl ?_
        refine WQ.val (v_loadN (cs := (f (mid + m - 1 - h)).cells) rfl rfl many_48 (EnL.len _) (segAt (m := 21) (by rw [Nat.zero_add]; exact encL_at EnL.len (tab_get (by omega))))) (.none rfl) rfl rfl ?_
        refine WQ.val (v_move rfl rfl) (.none rfl) rfl rfl ?_
        refine WQ.val (v_move rfl rfl) (.none rfl) rfl rfl ?_
        refine WQ.val (v_indexAddr (lo := h) rfl rfl rfl Tryd.underlying22 sz_48 (by omega) (by omega)) (.none rfl) rfl rfl ?_
        refine WQ.val (v_loadN (cs := (f (h)).cells) rfl rfl many_48 (EnL.len _) (segAt (m := 21) (by rw [Nat.zero_add]; exact encL_at EnL.len (tab_get (by omega))))) (.none rfl) rfl rfl ?_
        refine WQ.callV _ rfl rfl rfl ck_20 (.none rfl) rfl rfl (fun w hS => Calls.still (order_c w (f (mid + m - 1 - h)) (f h)) hS) ?_
        refine WQ.val ((v_lss rfl rfl rfl).t (hB h (mid + m - 1 - h) (by omega) (by omega) (by omega) (by omega))) (.none rfl) rfl rfl ?_
        refine WQ.val (v_not rfl rfl rfl) (.none rfl) rfl rfl ?_
        refine WQ.nil ?_
        refine WE.then_n ?_
        refine WC.cond_f rfl ?_
        refine WC.region ?_
        refine WL.val (v_move rfl rfl) (.none rfl) rfl rfl ?_
        refine WL.val (v_assign rfl rfl) (.none rfl) rfl rfl ?_
        refine WL.nil ?_
        refine WE.block_n ?_
        exact WE.next h (by omega) ⟨by omega, by omega⟩ (.cons rfl (.cons rfl (.cons rfl (.cons rfl (.cons rfl (.cons rfl (.cons rfl (.cons rfl (.cons rfl (.cons rfl .nil)))))))))) (.refl _)
       ·
        refine WL.nil ?_
        refine WE.then_n ?_
        refine WC.cond_f rfl ?_
        refine WC.exit ?_
        refine WE.then_exit ?_
        refine WE.then_exit ?_
        refine WE.block_hit ?_
        refine WE.then_n ?_
        refine WC.seq ?_
        refine WC.region ?_
        refine WL.val (v_move rfl rfl) (.none rfl) rfl rfl ?_
        refine WL.val (v_move rfl rfl) (.none rfl) rfl rfl ?_
        refine WL.val (v_sub rfl rfl rfl (w_nat (r := mid + m - s) (by omega) (by omega))) (.none rfl) rfl rfl ?_
        refine WL.val (v_assign rfl rfl) (.none rfl) rfl rfl ?_
        refine WL.nil ?_
        refine WE.then_n ?_
        refine WC.seq ?_
        refine WC.seq ?_
        refine WC.region ?_
        refine WL.val (v_move rfl rfl) (.none rfl) rfl rfl ?_
        refine WL.val (v_move rfl rfl) (.none rfl) rfl rfl ?_
        refine WL.val ((v_lss rfl rfl rfl).t ((by omega))) (.none rfl) rfl rfl ?_
        refine WL.val (v_move rfl rfl) (.none rfl) rfl rfl ?_
        refine WL.val (v_move rfl rfl) (.some rfl rfl rfl) rfl rfl ?_
        refine WL.val (v_move rfl rfl) (.some rfl rfl rfl) rfl rfl ?_
        refine WL.val ((v_lss rfl rfl rfl).t ((by omega))) (.some rfl rfl rfl) rfl rfl ?_
        refine WL.val (v_pick_t rfl rfl rfl) (.none rfl) rfl rfl ?_
        refine WL.nil ?_
        refine WE.then_n ?_
        refine WC.cond_t rfl ?_
        refine WC.region ?_
        refine WL.val (v_move rfl rfl) (.none rfl) rfl rfl ?_
        refine WL.val (v_move rfl rfl) (.none rfl) rfl rfl ?_
        refine WL.val (v_move rfl rfl) (.none rfl) rfl rfl ?_
        refine WL.val (v_move rfl rfl) (.none rfl) rfl rfl ?_
        refine WL.val (v_move rfl rfl) (.none rfl) rfl rfl ?_
        refine WL.call rfl rfl ck_63 (.none rfl) rfl rfl ?_
        intro w1 hS
        refine (rotate_c p w0 w1 L g c N R f s m (mid + m - s) (by omega) (by omega) (by omega) hN hS).mono ?_
        rintro e w' ⟨rfl, hS'⟩
        refine ⟨_, _, rfl, hS', ?_⟩
        refine WL.nil ?_
        refine WE.then_n ?_
        refine WC.seq ?_
        refine WC.seq ?_
        refine WC.region ?_
        refine WL.val (v_move rfl rfl) (.none rfl) rfl rfl ?_
        refine WL.val (v_move rfl rfl) (.none rfl) rfl rfl ?_
        refine WL.test (v_lss rfl rfl rfl) (.none rfl) rfl rfl (fun h194 => ?_) (fun h194 => ?_)
        ·
         refine WL.val (v_move rfl rfl) (.none rfl) rfl rfl ?_
         refine WL.val (v_move rfl rfl) (.some rfl rfl rfl) rfl rfl ?_
         refine WL.val (v_move rfl rfl) (.some rfl rfl rfl) rfl rfl ?_
         refine WL.val ((v_lss rfl rfl rfl).t ((by omega))) (.some rfl rfl rfl) rfl rfl ?_
         refine WL.val (v_pick_t rfl rfl rfl) (.none rfl) rfl rfl ?_
         refine WL.nil ?_
         refine WE.then_n ?_
         refine WC.cond_t rfl ?_
         refine WC.region ?_
         refine WL.val (v_move rfl rfl) (.none rfl) rfl rfl ?_
         refine WL.val (v_move rfl rfl) (.none rfl) rfl rfl ?_
         refine WL.val (v_move rfl rfl) (.none rfl) rfl rfl ?_
         refine WL.val (v_move rfl rfl) (.none rfl) rfl rfl ?_
         refine WL.val (v_move rfl rfl) (.none rfl) rfl rfl ?_
         refine WL.call rfl rfl ck_48 (.none rfl) rfl rfl ?_
         intro w1 hS
         have hc1 : mid < m ∧ s = mid + m - b := (by omega)
         obtain ⟨e1, e2⟩ : mid + m - s = b ∧ s + (b - m) = mid := (by omega)
         rw [e1] at hS
         refine (symM_c g c N R hN p w0 L S w1 _ a s mid (by omega) (by omega) (by omega) (by omega) (befr_left hB (by omega) (by omega) h2 e2) hS).mono ?_
         rintro e w' ⟨rfl, hS'⟩
         rw [rot_left (by omega) (by omega) h2 e2] at hS'
         refine ⟨_, _, rfl, hS', ?_⟩
         refine WL.nil ?_
         refine WE.then_n ?_
         refine WC.seq ?_
         refine WC.region ?_
         refine WL.val (v_move rfl rfl) (.none rfl) rfl rfl ?_
         refine WL.val (v_move rfl rfl) (.none rfl) rfl rfl ?_
         refine WL.val ((v_lss rfl rfl rfl).t ((by omega))) (.none rfl) rfl rfl ?_
         refine WL.val (v_move rfl rfl) (.none rfl) rfl rfl ?_
         refine WL.val (v_move rfl rfl) (.some rfl rfl rfl) rfl rfl ?_
         refine WL.val (v_move rfl rfl) (.some rfl rfl rfl) rfl rfl ?_
         refine WL.val ((v_lss rfl rfl rfl).f (by omega)) (.some rfl rfl rfl) rfl rfl ?_
         refine WL.val (v_pick_t rfl rfl rfl) (.none rfl) rfl rfl ?_
         refine WL.nil ?_
         refine WE.then_n ?_
         refine WC.cond_f rfl ?_
         refine WC.skip ?_
         refine WE.ret0 (P := Tryd.prog) (.inr rfl) Tryd.results48  ?_
         exact fun w' h => ⟨rfl, h⟩
        ·
         refine WL.val (v_move rfl rfl) (.none rfl) rfl rfl ?_
         iterate 3 refine WL.skip rfl rfl rfl rfl rfl rfl ?_
         refine WL.val (v_pick_f rfl rfl rfl) (.none rfl) rfl rfl ?_
         refine WL.nil ?_
         refine WE.then_n ?_
         refine WC.cond_f rfl ?_
         refine WC.skip ?_
         refine WE.then_n ?_
         refine WC.seq ?_
         refine WC.region ?_
         refine WL.val (v_move rfl rfl) (.none rfl) rfl rfl ?_
         refine WL.val (v_move rfl rfl) (.none rfl) rfl rfl ?_
         refine WL.val ((v_lss rfl rfl rfl).t ((by omega))) (.none rfl) rfl rfl ?_
         refine WL.val (v_move rfl rfl) (.none rfl) rfl rfl ?_
         refine WL.val (v_move rfl rfl) (.some rfl rfl rfl) rfl rfl ?_
         refine WL.val (v_move rfl rfl) (.some rfl rfl rfl) rfl rfl ?_
         refine WL.test (v_lss rfl rfl rfl) (.some rfl rfl rfl) rfl rfl (fun h212 => ?_) (fun h212 => ?_)
         ·
          refine WL.val (v_pick_t rfl rfl rfl) (.none rfl) rfl rfl ?_
          refine WL.nil ?_
          refine WE.then_n ?_
          refine WC.cond_t rfl ?_
          refine WC.region ?_
          refine WL.val (v_move rfl rfl) (.none rfl) rfl rfl ?_
          refine WL.val (v_move rfl rfl) (.none rfl) rfl rfl ?_
          refine WL.val (v_move rfl rfl) (.none rfl) rfl rfl ?_
          refine WL.val (v_move rfl rfl) (.none rfl) rfl rfl ?_
          refine WL.val (v_move rfl rfl) (.none rfl) rfl rfl ?_
          refine WL.call rfl rfl ck_48 (.none rfl) rfl rfl ?_
          intro w1 hS
          have hc1 : m ≤ mid ∧ s = a := (by omega)
          obtain ⟨rfl, e2⟩ : s = a ∧ a + (mid + m - s - m) = mid := (by omega)
          refine (symM_c g c N R hN p w0 L S w1 _ mid (mid + m - s) b (by omega) (by omega) (by omega) (by omega) (befr_right hB (by omega) (by omega) (by omega) e2) hS).mono ?_
          rintro e w' ⟨rfl, hS'⟩
          rw [rot_right (by omega) (by omega) (by omega) e2] at hS'
          refine ⟨_, _, rfl, hS', ?_⟩
          refine WL.nil ?_
          refine WE.ret0 (P := Tryd.prog) (.inr rfl) Tryd.results48  ?_
          exact fun w' h => ⟨rfl, h⟩
         ·
          refine WL.val (v_pick_t rfl rfl rfl) (.none rfl) rfl rfl ?_
          refine WL.nil ?_
          refine WE.then_n ?_
          refine WC.cond_f rfl ?_
          refine WC.skip ?_
          refine WE.ret0 (P := Tryd.prog) (.inr rfl) Tryd.results48  ?_
          obtain ⟨rfl, e1⟩ : s = a ∧ mid + m - s = b := (by omega)
          rw [e1]
          exact fun w' h => ⟨rfl, h⟩
end Go.Proofs.YtkeonnnhogaggaaDoor
/- table: blocks of entries whose Prio goes up from block to block. -/
namespace Go.Proofs.YtkeonnnhogaggaaDoor
open Go.RowKit Go.Sort

theorem ord_gt {x y : EnL} (h : y.prio < x.prio) : ordL x y < 0 := by
  have e : cmpI y.prio x.prio = -1 := by unfold cmpI; rw [if_pos h]
  show (if cmpI y.prio x.prio ≠ 0 then cmpI y.prio x.prio else _) < 0
  rw [e, if_pos (by decide)]; decide
/-- Each entry's Prio lies in its block's range; blocks are in order. Up to hi blocks are cs long, from there on bs. -/
structure MI (bs cs N hi : Nat) (f : Nat → EnL) : Prop where
  r1 : ∀ k, k < N → k < hi → ((k / cs * cs : Nat) : Int) ≤ (f k).prio ∧ (f k).prio < ((k / cs * cs + cs : Nat) : Int)
  r2 : ∀ k, k < N → hi ≤ k → ((k / bs * bs : Nat) : Int) ≤ (f k).prio ∧ (f k).prio < ((k / bs * bs + bs : Nat) : Int)
  s1 : ∀ i j, i < j → j < N → j < hi → i / cs = j / cs → ordL (f i) (f j) ≤ 0
  s2 : ∀ i j, i < j → j < N → hi ≤ i → i / bs = j / bs → ordL (f i) (f j) ≤ 0
theorem mi_befr {bs cs N t b : Nat} {f : Nat → EnL} (hbc : (bs = 20 ∧ cs = 40) ∨ (bs = 40 ∧ cs = 80)) (h : MI bs cs N (cs * t) f) (h3 : b ≤ N) (h4 : b ≤ cs * t + cs) : Befr f (cs * t) (cs * t + bs) b := fun x y x1 x2 y1 y2 => by
  refine ord_gt ?_
  have a := h.r2 x (by omega) x1
  have c := h.r2 y (by omega) (by omega)
  rcases hbc with ⟨rfl, rfl⟩ | ⟨rfl, rfl⟩ <;> omega
theorem mi_step {bs cs N t b : Nat} {f : Nat → EnL} (hbc : (bs = 20 ∧ cs = 40) ∨ (bs = 40 ∧ cs = 80)) (h : MI bs cs N (cs * t) f) (h2 : cs * t + bs < b) (h3 : b ≤ N) (h4 : b = cs * t + cs ∨ (b = N ∧ N ≤ cs * t + cs)) : MI bs cs N (cs * t + cs) (rotR f (cs * t) (cs * t + bs) b) := by
  have hB := mi_befr hbc h h3 (by omega)
  obtain ⟨r1, r2, s1, s2⟩ := h
  unfold rotR
  refine ⟨fun k k1 k2 => ?_, fun k k1 k2 => ?_, fun i j h5 h6 h7 h8 => ?_, fun i j h5 h6 h7 h8 => ?_⟩
  · by_cases hk : k < cs * t
    · rw [if_neg (by omega)]; exact r1 k k1 hk
    · rw [if_pos (by omega)]
      by_cases hq : k < cs * t + (b - (cs * t + bs))
      · rw [if_pos hq]
        have := r2 (k + (cs * t + bs - cs * t)) (by omega) (by omega)
        rcases hbc with ⟨rfl, rfl⟩ | ⟨rfl, rfl⟩ <;> omega
      · rw [if_neg hq]
        have := r2 (k - (b - (cs * t + bs))) (by omega) (by omega)
        rcases hbc with ⟨rfl, rfl⟩ | ⟨rfl, rfl⟩ <;> omega
  · rw [if_neg (by omega)]; exact r2 k k1 (by omega)
  · by_cases hj : j < cs * t
    · rw [if_neg (by omega), if_neg (by omega)]; exact s1 i j h5 h6 hj h8
    · have hi : cs * t ≤ i := by rcases hbc with ⟨rfl, rfl⟩ | ⟨rfl, rfl⟩ <;> omega
      have hib : cs * t ≤ i ∧ i < b := ⟨hi, by omega⟩
      have hjb : cs * t ≤ j ∧ j < b := ⟨by omega, by omega⟩
      rw [if_pos hib, if_pos hjb]
      by_cases hq : i < cs * t + (b - (cs * t + bs))
      · rw [if_pos hq]
        by_cases hp : j < cs * t + (b - (cs * t + bs))
        · rw [if_pos hp]
          exact s2 _ _ (by omega) (by omega) (by omega) (by rcases hbc with ⟨rfl, rfl⟩ | ⟨rfl, rfl⟩ <;> omega)
        · rw [if_neg hp]
          exact Int.le_of_lt (hB _ _ (by omega) (by omega) (by omega) (by omega))
      · rw [if_neg hq, if_neg (by omega)]
        exact s2 _ _ (by omega) (by omega) (by omega) (by rcases hbc with ⟨rfl, rfl⟩ | ⟨rfl, rfl⟩ <;> omega)
  · rw [if_neg (by omega), if_neg (by omega)]; exact s2 i j h5 h6 (by omega) h8
theorem mi_last {bs cs N t : Nat} {f : Nat → EnL} (hbc : (bs = 20 ∧ cs = 40) ∨ (bs = 40 ∧ cs = 80)) (h : MI bs cs N (cs * t) f) (h2 : N ≤ cs * t + bs) : MI bs cs N (cs * t + cs) f := by
  obtain ⟨r1, r2, s1, s2⟩ := h
  refine ⟨fun k k1 k2 => ?_, fun k k1 k2 => ?_, fun i j h5 h6 h7 h8 => ?_, fun i j h5 h6 h7 h8 => ?_⟩
  · by_cases hk : k < cs * t
    · exact r1 k k1 hk
    · have := r2 k k1 (by omega)
      rcases hbc with ⟨rfl, rfl⟩ | ⟨rfl, rfl⟩ <;> omega
  · rcases hbc with ⟨rfl, rfl⟩ | ⟨rfl, rfl⟩ <;> omega
  · by_cases hj : j < cs * t
    · exact s1 i j h5 h6 hj h8
    · exact s2 i j h5 h6 (by rcases hbc with ⟨rfl, rfl⟩ | ⟨rfl, rfl⟩ <;> omega) (by rcases hbc with ⟨rfl, rfl⟩ | ⟨rfl, rfl⟩ <;> omega)
  · rcases hbc with ⟨rfl, rfl⟩ | ⟨rfl, rfl⟩ <;> omega
/-- Where a place comes from. -/
def rotN (a m b : Nat) : Nat → Nat := fun k => if a ≤ k ∧ k < b then (if k < a + (b - m) then k + (m - a) else k - (b - m)) else k
theorem rot_rotN (f : Nat → EnL) (a m b : Nat) : rotR f a m b = fun k => f (rotN a m b k) := by
  funext k
  unfold rotR rotN
  (repeat' split) <;> rfl
theorem rot_perm (f : Nat → EnL) {a m b N : Nat} (h1 : a < m) (h2 : m < b) (h3 : b ≤ N) : (tab (rotR f a m b) N).Perm (tab f N) := by
  have hp : ((List.range N).map (rotN a m b)).Perm (List.range N) := by
    refine (List.perm_ext_iff_of_nodup ?_ List.nodup_range).2 fun k => ?_
    · refine List.pairwise_map.2 (List.pairwise_lt_range.imp fun {i j} h e => ?_)
      unfold rotN at e
      revert e
      (repeat' split) <;> omega
    · rw [List.mem_map, List.mem_range]
      constructor
      · rintro ⟨i, hi, rfl⟩
        rw [List.mem_range] at hi
        unfold rotN
        (repeat' split) <;> omega
      · intro hk
        by_cases hq : a ≤ k ∧ k < b
        · by_cases hm : k < m
          · refine ⟨k + (b - m), List.mem_range.2 (by omega), ?_⟩
            unfold rotN
            rw [if_pos (by omega), if_neg (by omega)]; omega
          · refine ⟨k - (m - a), List.mem_range.2 (by omega), ?_⟩
            unfold rotN
            rw [if_pos (by omega), if_pos (by omega)]; omega
        · refine ⟨k, List.mem_range.2 hk, ?_⟩
          unfold rotN
          rw [if_neg hq]
  have := hp.map f
  rw [rot_rotN]
  unfold tab
  rwa [List.map_map] at this
end Go.Proofs.YtkeonnnhogaggaaDoor
/- table: the stable sort of up to 64 entries whose Prio goes up. -/
namespace Go.Proofs.YtkeonnnhogaggaaDoor
open Go.RowKit Go.Sort

theorem arr_get {ys : List EnL} {f : Nat → EnL} {N k : Nat} (h : tab f N = ys) (hk : k < N) : ys.toArray[k]! = f k := by
  subst h
  have hl : k < (tab f N).toArray.size := by simpa [tab_len] using hk
  rw [getElem!_pos _ k hl]
  have := tab_get (f := f) hk
  rw [List.getElem?_eq_getElem (by rw [tab_len]; exact hk)] at this
  simpa using this
structure InsP (a b N : Nat) (f f' : Nat → EnL) : Prop where
  out : ∀ k, k < N → k < a ∨ b ≤ k → f' k = f k
  all : ∀ P : EnL → Prop, (∀ i, a ≤ i → i < b → P (f i)) → ∀ i, a ≤ i → i < b → P (f' i)
  srt : ∀ i j, a ≤ i → i < j → j < b → ordL (f' i) (f' j) ≤ 0
  perm : (tab f' N).Perm (tab f N)
theorem InsT_c (p : Nat → Prop) (w0 w : World) (L : List Ent) (g c N : Nat) (R : List Value) (f : Nat → EnL) (a b : Nat) (hab : a ≤ b) (hb : b ≤ N) (hN : N ≤ 100000) (hS : St p w0 w (tabE g N R f :: L)) :
    Calls Tryd.prog 47 #[.slice (some ⟨g, 0, none⟩) N c, .int .i64 a, .int .i64 b, ordV] w fun e w' => e = .returned (.tuple #[]) ∧ ∃ f' R', InsP a b N f f' ∧ R'.length = R.length ∧ St p w0 w' (tabE g N R' f' :: L) := by
  have key := InsE_c p w0 w L g c (encL EnL.cells (tab f N) ++ R) (tab f N) a b hab (by rw [tab_len]; exact hb) (by rw [encL_take EnL.len _ _ R (Nat.le_refl _), List.take_length]) hS (by rw [tab_len]; omega)
  rw [tab_len] at key
  refine key.mono ?_
  rintro e w' ⟨rfl, ys, cs', hp, hs, hl, hx, hS'⟩
  have hyl : ys.length = N := by have := hp.1; simpa [tab_len] using this
  obtain ⟨f', hf'⟩ : ∃ f', tab f' N = ys := ⟨fun k => ys.getD k (f 0), by rw [← hyl]; exact tab_of ys (f 0)⟩
  have gx : ∀ k, k < N → (tab f N).toArray[k]! = f k := fun k hk => arr_get rfl hk
  have gy : ∀ k, k < N → ys.toArray[k]! = f' k := fun k hk => arr_get hf' hk
  refine ⟨rfl, f', cs'.drop (N * 21), ⟨fun k hk ho => ?_, fun P hP i h1 h2 => ?_, fun i j h1 h2 h3 => ?_, ?_⟩, ?_, ?_⟩
  · rw [← gy k hk, ← gx k hk]; exact hp.2.1 k ho
  · have := permIn_all (tab f N).toArray ys.toArray a b P (by simpa [tab_len] using hb) hp (fun i k1 k2 => by rw [gx i (by omega)]; exact hP i k1 k2) i h1 h2
    rwa [gy i (by omega)] at this
  · have h4 := hs i j h1 h2 h3
    rw [gy i (by omega), gy j (by omega)] at h4
    have h4 := of_decide_eq_false h4
    have h5 : ¬ ordL (f' j) (f' i) < 0 := by simpa using h4
    have s := ordL_cm.sgn (f' i) (f' j)
    omega
  · have := permIn_mono (tab f N).toArray ys.toArray a b 0 (tab f N).length (Nat.zero_le _) (by rw [tab_len]; exact hb) (by simp) hp
    rw [hf']
    exact (permIn_perm this).1
  · rw [List.length_drop, hl, List.length_append, encL_len EnL.len, tab_len]; omega
  · show St p w0 w' (.row g (encL EnL.cells (tab f' N) ++ cs'.drop (N * 21)) :: L)
    rw [hf', show encL EnL.cells ys = cs'.take (N * 21) from hx.symm, List.take_append_drop]
    exact hS'
/-- The input: each entry's Prio is its place. -/
def Ramp (xs : List EnL) : Prop := ∀ (k : Nat) (x : EnL), xs[k]? = some x → x.prio = k
theorem mi_ins {a b N : Nat} {f f' : Nat → EnL} {t : Nat} (ha : a = 20 * t) (hb : b = 20 * t + 20 ∨ (b = N ∧ N ≤ 20 * t + 20)) (hbN : b ≤ N) (hI : InsP a b N f f') (h : (∀ k, k < N → ((k / 20 * 20 : Nat) : Int) ≤ (f k).prio ∧ (f k).prio < ((k / 20 * 20 + 20 : Nat) : Int)) ∧ ∀ i j, i < j → j < N → j < 20 * t → i / 20 = j / 20 → ordL (f i) (f j) ≤ 0) :
    (∀ k, k < N → ((k / 20 * 20 : Nat) : Int) ≤ (f' k).prio ∧ (f' k).prio < ((k / 20 * 20 + 20 : Nat) : Int)) ∧ ∀ i j, i < j → j < N → j < 20 * t + 20 → i / 20 = j / 20 → ordL (f' i) (f' j) ≤ 0 := by
  obtain ⟨h1, h2⟩ := h
  refine ⟨fun k hk => ?_, fun i j h5 h6 h7 h8 => ?_⟩
  · by_cases hq : a ≤ k ∧ k < b
    · have := hI.all (fun x => ((20 * t : Nat) : Int) ≤ x.prio ∧ x.prio < ((20 * t + 20 : Nat) : Int)) (fun i k1 k2 => by have := h1 i (by omega); omega) k hq.1 hq.2
      omega
    · rw [hI.out k hk (by omega)]; exact h1 k hk
  · by_cases hq : j < 20 * t
    · rw [hI.out i (by omega) (by omega), hI.out j h6 (by omega)]; exact h2 i j h5 h6 hq h8
    · exact hI.srt i j (by omega) h5 (by omega)
theorem mi_up {bs cs N hi : Nat} {f : Nat → EnL} (hbc : (bs = 20 ∧ cs = 40) ∨ (bs = 40 ∧ cs = 80)) (h : MI bs cs N hi f) (hN : N ≤ 64) (hh : N ≤ hi) : (cs = 20 ∧ MI 20 40 N 0 f) ∨ (cs = 40 ∧ MI 40 80 N 0 f) ∨ (cs = 80 ∧ ∀ i j, i < j → j < N → ordL (f i) (f j) ≤ 0) := by
  obtain ⟨r1, r2, s1, s2⟩ := h
  rcases hbc with ⟨rfl, rfl⟩ | ⟨rfl, rfl⟩
  · exact .inr (.inl ⟨rfl, ⟨fun k _ h => (by omega), fun k hk _ => r1 k hk (by omega), fun i j _ _ h _ => (by omega), fun i j h5 h6 _ h8 => s1 i j h5 h6 (by omega) h8⟩⟩)
  · exact .inr (.inr ⟨rfl, fun i j h5 h6 => s1 i j h5 h6 (by omega) (by omega)⟩)
structure StS where
  t : Nat
  f : Nat → EnL
  R : List Value
structure StT where
  bs : Nat
  f : Nat → EnL
  R : List Value
set_option maxRecDepth 8000 in
set_option maxHeartbeats 4000000 in
theorem stableR_c (p : Nat → Prop) (w0 w : World) (L : List Ent) (g c N : Nat) (R : List Value) (f : Nat → EnL) (hN : N ≤ 64) (hf : ∀ k, k < N → (f k).prio = (k : Int)) (hS : St p w0 w (tabE g N R f :: L)) :
    Calls Tryd.prog 31 #[.slice (some ⟨g, 0, none⟩) N c, .int .i64 N, ordV] w fun e w' => e = .returned (.tuple #[]) ∧ ∃ f' R', (tab f' N).Perm (tab f N) ∧ (∀ i j, i < j → j < N → ordL (f' i) (f' j) ≤ 0) ∧ R'.length = R.length ∧ St p w0 w' (tabE g N R' f' :: L) := by
  refine enter Tryd.func31 rfl Tryd.ntmps31 rfl hS ?_
  refine WC.seq ?_
  refine WC.region ?_
  refine WL.val (v_assign rfl rfl) (.none rfl) rfl rfl ?_
  refine WL.nil ?_
  refine WE.then_n ?_
  refine WC.seq ?_
  refine WC.region ?_
  refine WL.val (v_move rfl rfl) (.none rfl) rfl rfl ?_
  refine WL.val (v_assign rfl rfl) (.none rfl) rfl rfl ?_
  refine WL.val (v_assign rfl rfl) (.none rfl) rfl rfl ?_
  refine WL.nil ?_
  refine WE.then_n ?_
  refine WC.seq ?_
  refine WC.block ?_
  refine WC.loop (fun x : StS => [(6, .int .i64 20), (7, .int .i64 (20 * x.t : Nat)), (8, .int .i64 (20 * x.t + 20 : Nat)), (0, .slice (some ⟨g, 0, none⟩) N c), (1, .int .i64 N), (2, ordV)]) (fun x => tabE g N x.R x.f :: L) (fun x => 20 * x.t ≤ N ∧ ((∀ k, k < N → ((k / 20 * 20 : Nat) : Int) ≤ (x.f k).prio ∧ (x.f k).prio < ((k / 20 * 20 + 20 : Nat) : Int)) ∧ ∀ i j, i < j → j < N → j < 20 * x.t → i / 20 = j / 20 → ordL (x.f i) (x.f j) ≤ 0) ∧ (tab x.f N).Perm (tab f N) ∧ x.R.length = R.length) (fun x => N - 20 * x.t) ⟨0, f, R⟩ ⟨by dsimp only; omega, ⟨fun k hk => by dsimp only; rw [hf k hk]; omega, fun i j _ _ h _ => by dsimp only at h; omega⟩, .refl _, rfl⟩ (.cons rfl (.int rfl rfl (.int rfl rfl (.cons rfl (.cons rfl (.cons rfl .nil)))))) (.refl _) ?_
  rintro ⟨t, f1, R1⟩ ⟨ht, hM, hp1, hr1⟩
  dsimp only at ht hM hp1 hr1
  dsimp only
  refine WC.seq ?_
  refine WC.seq ?_
  refine WC.region ?_
  refine WL.val (v_move rfl rfl) (.none rfl) rfl rfl ?_
  refine WL.val (v_move rfl rfl) (.none rfl) rfl rfl ?_
  refine WL.test (v_leq rfl rfl rfl) (.none rfl) rfl rfl (fun h13 => ?_) (fun h13 => ?_)
  ·
   refine WL.nil ?_
   refine WE.then_n ?_
   refine WC.cond_t rfl ?_
   refine WC.skip ?_
   refine WE.then_n ?_
   refine WC.block ?_
   refine WC.seq ?_
   refine WC.region ?_
   refine WL.val (v_move rfl rfl) (.none rfl) rfl rfl ?_
   refine WL.val (v_move rfl rfl) (.none rfl) rfl rfl ?_
   refine WL.val (v_move rfl rfl) (.none rfl) rfl rfl ?_
   refine WL.val (v_move rfl rfl) (.none rfl) rfl rfl ?_
   refine WL.call rfl rfl ck_47 (.none rfl) rfl rfl ?_
   intro w1 hS
   refine (InsT_c p w0 w1 L g c N R1 f1 (20 * t) (20 * t + 20) (by omega) (by omega) (by omega) hS).mono ?_
   rintro e w' ⟨rfl, f2, R2, hI, hR2, hS'⟩
   refine ⟨_, _, rfl, hS', ?_⟩
   refine WL.nil ?_
   refine WE.then_n ?_
   refine WC.seq ?_
   refine WC.region ?_
   refine WL.val (v_move rfl rfl) (.none rfl) rfl rfl ?_
   refine WL.val (v_assign rfl rfl) (.none rfl) rfl rfl ?_
   refine WL.nil ?_
   refine WE.then_n ?_
   refine WC.region ?_
   refine WL.val (v_move rfl rfl) (.none rfl) rfl rfl ?_
   refine WL.val (v_move rfl rfl) (.none rfl) rfl rfl ?_
   refine WL.val (v_add rfl rfl rfl (w_nat (r := 20 * (t + 1) + 20) (by omega) (by omega))) (.none rfl) rfl rfl ?_
   refine WL.val (v_assign rfl rfl) (.none rfl) rfl rfl ?_
   refine WL.nil ?_
   refine WE.block_n ?_
   exact WE.next ⟨t + 1, f2, R2⟩ (by dsimp only; omega) ⟨by dsimp only; omega, mi_ins rfl (.inl rfl) (by omega) hI hM, hI.perm.trans hp1, hR2.trans hr1⟩ (.cons rfl (.int rfl (by dsimp only; omega) (.cons rfl (.cons rfl (.cons rfl (.cons rfl .nil)))))) (.refl _)
  ·
   refine WL.nil ?_
   refine WE.then_n ?_
   refine WC.cond_f rfl ?_
   refine WC.exit ?_
   refine WE.then_exit ?_
   refine WE.then_exit ?_
   refine WE.block_hit ?_
   refine WE.then_n ?_
   refine WC.seq ?_
   refine WC.region ?_
   refine WL.val (v_move rfl rfl) (.none rfl) rfl rfl ?_
   refine WL.val (v_move rfl rfl) (.none rfl) rfl rfl ?_
   refine WL.val (v_move rfl rfl) (.none rfl) rfl rfl ?_
   refine WL.val (v_move rfl rfl) (.none rfl) rfl rfl ?_
   refine WL.call rfl rfl ck_47 (.none rfl) rfl rfl ?_
   intro w1 hS
   refine (InsT_c p w0 w1 L g c N R1 f1 (20 * t) N (by omega) (Nat.le_refl _) (by omega) hS).mono ?_
   rintro e w' ⟨rfl, f2, R2, hI, hR2, hS'⟩
   have hM2 := mi_ins rfl (.inr ⟨rfl, by omega⟩) (Nat.le_refl _) hI hM
   refine ⟨_, _, rfl, hS', ?_⟩
   refine WL.nil ?_
   refine WE.then_n ?_
   refine WC.block ?_
   refine WC.loop (fun x : StT => [(6, .int .i64 x.bs), (0, .slice (some ⟨g, 0, none⟩) N c), (1, .int .i64 N), (2, ordV)]) (fun x => tabE g N x.R x.f :: L) (fun x => ((x.bs = 20 ∧ MI 20 40 N 0 x.f) ∨ (x.bs = 40 ∧ MI 40 80 N 0 x.f) ∨ (x.bs = 80 ∧ ∀ i j, i < j → j < N → ordL (x.f i) (x.f j) ≤ 0)) ∧ (tab x.f N).Perm (tab f N) ∧ x.R.length = R.length) (fun x => 80 - x.bs) ⟨20, f2, R2⟩ ⟨.inl ⟨rfl, ⟨fun k _ h => (by omega), fun k hk _ => hM2.1 k hk, fun i j _ _ h _ => (by omega), fun i j h5 h6 _ h8 => hM2.2 i j h5 h6 (by omega) h8⟩⟩, hI.perm.trans hp1, hR2.trans hr1⟩ (.cons rfl (.cons rfl (.cons rfl (.cons rfl .nil)))) (.refl _) ?_
   rintro ⟨bs, f3, R3⟩ ⟨hM3, hp3, hr3⟩
   dsimp only at hM3 hp3 hr3
   dsimp only
   refine WC.seq ?_
   refine WC.seq ?_
   refine WC.region ?_
   refine WL.val (v_move rfl rfl) (.none rfl) rfl rfl ?_
   refine WL.val (v_move rfl rfl) (.none rfl) rfl rfl ?_
   refine WL.test (v_lss rfl rfl rfl) (.none rfl) rfl rfl (fun h30 => ?_) (fun h30 => ?_)
   ·
    refine WL.nil ?_
    refine WE.then_n ?_
    refine WC.cond_t rfl ?_
    refine WC.skip ?_
    refine WE.then_n ?_
    refine WC.block ?_
    refine WC.seq ?_
    refine WC.region ?_
    refine WL.val (v_move rfl rfl) (.none rfl) rfl rfl ?_
    obtain ⟨cs, hbc, hM4⟩ : ∃ cs, ((bs = 20 ∧ cs = 40) ∨ (bs = 40 ∧ cs = 80)) ∧ MI bs cs N 0 f3 := (by
    rcases hM3 with ⟨h1, h2⟩ | ⟨h1, h2⟩ | ⟨h1, _⟩
    · exact ⟨40, .inl ⟨h1, rfl⟩, by rw [h1]; exact h2⟩
    · exact ⟨80, .inr ⟨h1, rfl⟩, by rw [h1]; exact h2⟩
    · omega)
    refine WL.val (v_mul rfl rfl rfl (w_nat (r := cs) (by omega) (by omega))) (.none rfl) rfl rfl ?_
    refine WL.val (v_assign rfl rfl) (.none rfl) rfl rfl ?_
    refine WL.val (v_assign rfl rfl) (.none rfl) rfl rfl ?_
    refine WL.nil ?_
    refine WE.then_n ?_
    refine WC.seq ?_
    refine WC.block ?_
    refine WC.loop (fun x : StS => [(6, .int .i64 bs), (7, .int .i64 x.t), (8, .int .i64 (x.t + cs : Nat)), (0, .slice (some ⟨g, 0, none⟩) N c), (1, .int .i64 N), (2, ordV)]) (fun x => tabE g N x.R x.f :: L) (fun x => x.t ≤ N ∧ (∃ t, x.t = cs * t) ∧ MI bs cs N x.t x.f ∧ (tab x.f N).Perm (tab f N) ∧ x.R.length = R.length) (fun x => N - x.t) ⟨0, f3, R3⟩ ⟨Nat.zero_le _, ⟨0, rfl⟩, hM4, hp3, hr3⟩ (.cons rfl (.cons rfl (.int rfl (by dsimp only; omega) (.cons rfl (.cons rfl (.cons rfl .nil)))))) (.refl _) ?_
    rintro ⟨hi, f4, R4⟩ ⟨hh, ⟨t4, ht4⟩, hM5, hp4, hr4⟩
    dsimp only at hh ht4 hM5 hp4 hr4
    dsimp only
    refine WC.seq ?_
    refine WC.seq ?_
    refine WC.region ?_
    refine WL.val (v_move rfl rfl) (.none rfl) rfl rfl ?_
    refine WL.val (v_move rfl rfl) (.none rfl) rfl rfl ?_
    refine WL.test (v_leq rfl rfl rfl) (.none rfl) rfl rfl (fun h35 => ?_) (fun h35 => ?_)
    ·
     refine WL.nil ?_
     refine WE.then_n ?_
     refine WC.cond_t rfl ?_
     refine WC.skip ?_
     refine WE.then_n ?_
     refine WC.block ?_
     refine WC.seq ?_
     refine WC.region ?_
     refine WL.val (v_move rfl rfl) (.none rfl) rfl rfl ?_
     refine WL.val (v_move rfl rfl) (.none rfl) rfl rfl ?_
     refine WL.val (v_move rfl rfl) (.none rfl) rfl rfl ?_
     refine WL.val (v_move rfl rfl) (.none rfl) rfl rfl ?_
     refine WL.val (v_add rfl rfl rfl (w_nat (r := hi + bs) (by omega) (by omega))) (.none rfl) rfl rfl ?_
     refine WL.val (v_move rfl rfl) (.none rfl) rfl rfl ?_
     refine WL.val (v_move rfl rfl) (.none rfl) rfl rfl ?_
     refine WL.call rfl rfl ck_48 (.none rfl) rfl rfl ?_
     intro w1 hS
     refine (symM_c g c N R4 (by omega) p w0 L N w1 f4 hi (hi + bs) (hi + cs) (by omega) (by omega) (by omega) (by omega) (by subst ht4; exact mi_befr hbc hM5 (by omega) (by omega)) hS).mono ?_
     rintro e w' ⟨rfl, hS'⟩
     refine ⟨_, _, rfl, hS', ?_⟩
     refine WL.nil ?_
     refine WE.then_n ?_
     refine WC.seq ?_
     refine WC.region ?_
     refine WL.val (v_move rfl rfl) (.none rfl) rfl rfl ?_
     refine WL.val (v_assign rfl rfl) (.none rfl) rfl rfl ?_
     refine WL.nil ?_
     refine WE.then_n ?_
     refine WC.region ?_
     refine WL.val (v_move rfl rfl) (.none rfl) rfl rfl ?_
     refine WL.val (v_move rfl rfl) (.none rfl) rfl rfl ?_
     refine WL.val (v_mul rfl rfl rfl (w_nat (r := cs) (by omega) (by omega))) (.none rfl) rfl rfl ?_
     refine WL.val (v_add rfl rfl rfl (w_nat (r := hi + cs + cs) (by omega) (by omega))) (.none rfl) rfl rfl ?_
     refine WL.val (v_assign rfl rfl) (.none rfl) rfl rfl ?_
     refine WL.nil ?_
     refine WE.block_n ?_
     exact WE.next ⟨hi + cs, rotR f4 hi (hi + bs) (hi + cs), R4⟩ (by dsimp only; omega) ⟨by dsimp only; omega, ⟨t4 + 1, by dsimp only; rw [ht4, Nat.mul_succ]⟩, by dsimp only; subst ht4; exact mi_step hbc hM5 (by omega) (by omega) (.inl rfl), (rot_perm f4 (by omega) (by omega) (by omega)).trans hp4, hr4⟩ (.cons rfl (.cons rfl (.cons rfl (.cons rfl (.cons rfl (.cons rfl .nil)))))) (.refl _)
    ·
     refine WL.nil ?_
     refine WE.then_n ?_
     refine WC.cond_f rfl ?_
     refine WC.exit ?_
     refine WE.then_exit ?_
     refine WE.then_exit ?_
     refine WE.block_hit ?_
     refine WE.then_n ?_
     refine WC.seq ?_
     refine WC.seq ?_
     refine WC.region ?_
     refine WL.val (v_move rfl rfl) (.none rfl) rfl rfl ?_
     refine WL.val (v_move rfl rfl) (.none rfl) rfl rfl ?_
     refine WL.val (v_add rfl rfl rfl (w_nat (r := hi + bs) (by omega) (by omega))) (.none rfl) rfl rfl ?_
     refine WL.val (v_assign rfl rfl) (.none rfl) rfl rfl ?_
     refine WL.nil ?_
     refine WE.then_n ?_
     refine WC.seq ?_
     refine WC.region ?_
     refine WL.val (v_move rfl rfl) (.none rfl) rfl rfl ?_
     refine WL.val (v_move rfl rfl) (.none rfl) rfl rfl ?_
     refine WL.test (v_lss rfl rfl rfl) (.none rfl) rfl rfl (fun h54 => ?_) (fun h54 => ?_)
     ·
      refine WL.nil ?_
      refine WE.then_n ?_
      refine WC.cond_t rfl ?_
      refine WC.region ?_
      refine WL.val (v_move rfl rfl) (.none rfl) rfl rfl ?_
      refine WL.val (v_move rfl rfl) (.none rfl) rfl rfl ?_
      refine WL.val (v_move rfl rfl) (.none rfl) rfl rfl ?_
      refine WL.val (v_move rfl rfl) (.none rfl) rfl rfl ?_
      refine WL.val (v_move rfl rfl) (.none rfl) rfl rfl ?_
      refine WL.call rfl rfl ck_48 (.none rfl) rfl rfl ?_
      intro w1 hS
      refine (symM_c g c N R4 (by omega) p w0 L N w1 f4 hi (hi + bs) N (by omega) (by omega) (by omega) (by omega) (by subst ht4; exact mi_befr hbc hM5 (by omega) (by omega)) hS).mono ?_
      rintro e w' ⟨rfl, hS'⟩
      refine ⟨_, _, rfl, hS', ?_⟩
      refine WL.nil ?_
      refine WE.then_n ?_
      refine WC.region ?_
      refine WL.val (v_move rfl rfl) (.none rfl) rfl rfl ?_
      refine WL.val (v_mul rfl rfl rfl (w_nat (r := cs) (by omega) (by omega))) (.none rfl) rfl rfl ?_
      refine WL.val (v_assign rfl rfl) (.none rfl) rfl rfl ?_
      refine WL.nil ?_
      refine WE.block_n ?_
      have hM6 : MI bs cs N (hi + cs) (rotR f4 hi (hi + bs) N) := (by subst ht4; exact mi_step hbc hM5 (by omega) (by omega) (.inr ⟨rfl, by omega⟩))
      exact WE.next ⟨cs, rotR f4 hi (hi + bs) N, R4⟩ (by dsimp only; omega) ⟨mi_up hbc hM6 hN (by omega), (rot_perm f4 (by omega) (by omega) (by omega)).trans hp4, hr4⟩ (.cons rfl (.cons rfl (.cons rfl (.cons rfl .nil)))) (.refl _)
     ·
      refine WL.nil ?_
      refine WE.then_n ?_
      refine WC.cond_f rfl ?_
      refine WC.skip ?_
      refine WE.then_n ?_
      refine WC.region ?_
      refine WL.val (v_move rfl rfl) (.none rfl) rfl rfl ?_
      refine WL.val (v_mul rfl rfl rfl (w_nat (r := cs) (by omega) (by omega))) (.none rfl) rfl rfl ?_
      refine WL.val (v_assign rfl rfl) (.none rfl) rfl rfl ?_
      refine WL.nil ?_
      refine WE.block_n ?_
      have hM6 : MI bs cs N (hi + cs) f4 := (by subst ht4; exact mi_last hbc hM5 (by omega))
      exact WE.next ⟨cs, f4, R4⟩ (by dsimp only; omega) ⟨mi_up hbc hM6 hN (by omega), hp4, hr4⟩ (.cons rfl (.cons rfl (.cons rfl (.cons rfl .nil)))) (.refl _)
   ·
    refine WL.nil ?_
    refine WE.then_n ?_
    refine WC.cond_f rfl ?_
    refine WC.exit ?_
    refine WE.then_exit ?_
    refine WE.then_exit ?_
    refine WE.block_hit ?_
    refine WE.ret0 (P := Tryd.prog) (.inr rfl) Tryd.results31  ?_
    have hfin : ∀ i j, i < j → j < N → ordL (f3 i) (f3 j) ≤ 0 := (by
      rcases hM3 with ⟨h1, h2⟩ | ⟨h1, h2⟩ | ⟨_, h2⟩
      · exact fun i j h5 h6 => h2.s2 i j h5 h6 (Nat.zero_le _) (by omega)
      · exact fun i j h5 h6 => h2.s2 i j h5 h6 (Nat.zero_le _) (by omega)
      · exact h2)
    exact fun w' h => ⟨rfl, f3, R3, hp3, hfin, hr3, h⟩
end Go.Proofs.YtkeonnnhogaggaaDoor
