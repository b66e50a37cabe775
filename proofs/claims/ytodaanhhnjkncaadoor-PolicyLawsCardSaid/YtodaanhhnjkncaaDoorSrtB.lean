/- slices.SortFunc of headers, whatever their number. -/
import Derived.Shelf.SlSortCmp.WholeK
import Derived.Test.YtodaanhhnjkncaaDoorSrt
import Derived.Test.YtodaanhhnjkncaaDoorSortH
namespace Go.Proofs.YtodaanhhnjkncaaDoor
open Go.RowKit Go.Sort

theorem GW.frm {q : Nat → Prop} {w w' : World} (hF : Frm q w w') (hq : ¬ q 0) (h : GW w) : GW w' :=
  h.keep (L := []) hq ⟨hF, (fun _ h => by cases h), (by simp), (fun _ h => by cases h)⟩
theorem GW.lt {w : World} (h : GW w) : 0 < w.heap.size := by
  have h0 := h 0 (by omega)
  unfold World.cell? at h0
  rcases Nat.lt_or_ge 0 w.heap.size with h' | h'
  · exact h'
  · rw [Array.getElem?_eq_none h'] at h0; cases h0
theorem hflat_get (d : Array HdI) {t : Nat} (ht : t < d.size * 19) : (hdsL (d.toList.map (·.1)))[t]? = some ((hEnc d[t / 19]!)[t % 19]!) := by
  have hq : t / 19 < d.size := by omega
  have hr : t % 19 < 19 := Nat.mod_lt _ (by omega)
  have e2 : (d.toList.map (·.1))[t / 19]? = some (d[t / 19]!).1 := by
    rw [List.getElem?_map, Array.getElem?_toList, Array.getElem?_eq_getElem hq, getElem!_pos d (t / 19) hq]; rfl
  have e3 := hdsL_seg _ _ _ e2
  have e4 : (hdL (d[t / 19]!).1)[t % 19]? = (hdsL (d.toList.map (·.1)))[t]? := by
    rw [← e3, List.getElem?_take, if_pos hr, List.getElem?_drop]
    congr 1
    omega
  rw [← e4]
  show _ = some ((hdL (d[t / 19]!).1)[t % 19]!)
  rw [getElem!_pos (hdL (d[t / 19]!).1) (t % 19) (by rw [hdL_len]; exact hr)]
  exact List.getElem?_eq_getElem _
/-- Ascending: no later one is less than an earlier one. -/
def Asc (Rs : List Hd) : Prop := ∀ (i j : Nat) (A B : Hd), Rs[i]? = some A → Rs[j]? = some B → i < j → ¬ hcmpK B A 9 < 0
theorem sort_c (p : Nat → Prop) (hp : ∀ b, ¬ p b) (w0 w : World) (hG : GW w0) (L E : List Ent) (ad : Option Addr) (c : Nat) (Hs : List Hd) (hIn : ∀ x ∈ Hs, x.In) (hV : Vec 19 ad Hs.length c (hdsL Hs) E) (hS : St p w0 w (E ++ L)) (hlen : Hs.length < 4611686018427387904) :
    Calls Tryd.prog 57 #[.slice ad Hs.length c, .func (.func 58) #[] #[]] w fun e w' =>
      e = .returned (.tuple #[]) ∧ ∃ Rs E', Rs.Perm Hs ∧ Asc Rs ∧ Vec 19 ad Hs.length c (hdsL Rs) E' ∧ St p w0 w' (E' ++ L) := by
  rcases hV with ⟨ha, hn, hc, hx, hE⟩ | ⟨g, cs, rfl, rfl, hx, hcl, hk⟩
  · have e0 : Hs = [] := List.length_eq_zero_iff.1 hn
    subst e0
    refine (Sort_s w ad _ c _ (by show 0 ≤ 1; omega)).mono fun e w' h => ⟨h.1, [], E, .refl _, fun i j A B h => by simp at h, .inl ⟨ha, hn, hc, hx, hE⟩, hS.ext h.2⟩
  · have hS' : St p w0 w (.row g cs :: L) := hS
    have hR : Row w g cs := hS'.holds (.row g cs) (by simp)
    have hgw : GW w := hG.keep (hp _) hS'
    have hgne : ¬ 0 = g := fun e => by
      rcases hS'.mine (.row g cs) (by simp) with h | h
      · exact hp _ h
      · have := hG.lt; have : w0.heap.size ≤ g := h; omega
    have hd : ∃ d : Array HdI, d.toList.map (·.1) = Hs ∧ d.size = Hs.length := ⟨(Hs.attach.map fun x => (⟨x.1, hIn x.1 x.2⟩ : HdI)).toArray, by rw [List.map_map]; exact List.attach_map_subtype_val Hs, by simp⟩
    obtain ⟨d, hd1, hd2⟩ := hd
    have hcs : Hs.length * 19 ≤ cs.length := by rw [hcl]; exact Nat.mul_le_mul_right 19 hk
    have hcmp : CmpLays Tryd.prog 58 #[] hEnc 19 hcf g 0 d.size w := fun m os dk hs x y => by
      have h := HCmp_c (sortWorldK hEnc 19 w g 0 m dk os) x.1 y.1 x.2 y.2 (GW.frm (sortW_frm w g 0 m dk os) hgne hgw)
      exact h.mono fun e w' ⟨he, hF⟩ => ⟨he, hF.grown⟩
    have hH : HoldsK hEnc 19 w g 0 d := fun t ht => by
      rw [size_flatK] at ht
      have ht2 : t < cs.length := by rw [hd2] at ht; omega
      rw [Nat.zero_add]
      refine ⟨hR.cell ?_, hR.frozen ht2⟩
      show cs[t]? = some ((flatK hEnc 19 d)[t]!)
      rw [get_flatK _ _ _ _ ht, ← hflat_get d ht, hd1, ← hx, List.getElem?_take, if_pos (by rw [← hd2]; exact ht)]
    have key := AnyQ.slices_SortFunc (P := Tryd.prog) lays57 19 Tryd.isAgg31 Tryd.sizeOf31 hEnc hEnc_len (fun x v hv => by
      unfold hEnc hdL at hv
      simp only [List.mem_cons, List.not_mem_nil, or_false] at hv
      rcases hv with h | h | h | h | h | h | h | h | h | h | h | h | h | h | h | h | h | h | h <;> (subst h; rfl)) hcf hcf_swo 58 #[] g 0 c d w ck_58 hcmp hH hR.lt (by rw [hd2]; exact hlen)
    rw [hd2] at key
    refine key.mono ?_
    rintro e w' ⟨he, d', n, os, ⟨hs1, _, hperm⟩, hsort, rfl⟩
    have hd' : d'.size = Hs.length := by rw [hs1, hd2]
    rw [← hd2] at hperm
    have f1 : d'.extract 0 d.size = d' := by rw [← hs1]; simp
    have f2 : d.extract 0 d.size = d := by simp
    rw [f1, f2] at hperm
    have hrow := srtL_take d' cs (by rw [hd']; exact hcs)
    refine ⟨he, d'.toList.map (·.1), [.row g (srtL d' cs)], ?_, ?_, ?_, sortW_st hS'⟩
    · rw [← hd1]; exact hperm.map _
    · intro i j A B hi hj hij
      have li := (List.getElem?_eq_some_iff.1 hi).1
      have lj := (List.getElem?_eq_some_iff.1 hj).1
      rw [List.length_map, Array.length_toList] at li lj
      have h := hsort i j (Nat.zero_le _) hij (by rw [← hd']; exact lj)
      rw [List.getElem?_map, Array.getElem?_toList, Array.getElem?_eq_getElem li] at hi
      rw [List.getElem?_map, Array.getElem?_toList, Array.getElem?_eq_getElem lj] at hj
      rw [getElem!_pos d' i li, getElem!_pos d' j lj] at h
      have ea := Option.some.inj hi
      have eb := Option.some.inj hj
      subst ea eb
      exact of_decide_eq_false h
    · exact .inr ⟨g, srtL d' cs, rfl, rfl, by rw [← hd', hrow], by rw [srtL_len]; exact hcl, hk⟩
end Go.Proofs.YtodaanhhnjkncaaDoor
