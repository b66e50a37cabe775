/- policy: the laws of brackets, as relations; how many nodes there are. -/
import Derived.Test.YtodaanhhnjkncaaDoorPolD
namespace Go.Proofs.YtodaanhhnjkncaaDoor
open Go.RowKit

theorem out_par {f v m : Int} {ad : Option Addr} {c : Nat} {ks : List Nd} {h g : Ky} : OutT (.mk 15 f v m ad c ks) h g ↔ OutPar ks h g := by
  rw [OutT, if_neg (by decide), if_neg (by decide), if_neg (by decide), if_pos rfl]
theorem out_seq {f v m : Int} {ad : Option Addr} {c : Nat} {ks : List Nd} {h g : Ky} : OutT (.mk 16 f v m ad c ks) h g ↔ OutSeq ks h g := by
  rw [OutT, if_neg (by decide), if_neg (by decide), if_neg (by decide), if_neg (by decide), if_pos rfl]
theorem out_drop {f v m : Int} {ad : Option Addr} {c : Nat} {ks : List Nd} {h g : Ky} : OutT (.mk 11 f v m ad c ks) h g ↔ False := by
  rw [OutT, if_neg (by decide), if_neg (by decide), if_neg (by decide), if_neg (by decide), if_neg (by decide), if_neg (by decide)]
theorem out_id {f v m : Int} {ad : Option Addr} {c : Nat} {ks : List Nd} {h g : Ky} : OutT (.mk 12 f v m ad c ks) h g ↔ g = h := by
  rw [OutT, if_pos rfl]
theorem out_fil {f v m : Int} {ad : Option Addr} {c : Nat} {u : Nd} {h g : Ky} : OutT (.mk 13 f v m ad c [u]) h g ↔ holdsG h u = true ∧ g = h := by
  rw [OutT, if_neg (by decide), if_pos rfl, holdsGs, holdsGs]; rfl
theorem par0 {h g : Ky} : OutPar [] h g ↔ False := by rw [OutPar]
theorem par1 {t : Nd} {ts : List Nd} {h g : Ky} : OutPar (t :: ts) h g ↔ OutT t h g ∨ OutPar ts h g := by rw [OutPar]
theorem seq0 {h g : Ky} : OutSeq [] h g ↔ g = h := by rw [OutSeq]
theorem seq1 {t : Nd} {ts : List Nd} {h g : Ky} : OutSeq (t :: ts) h g ↔ ∃ m, OutT t h m ∧ OutSeq ts m g := by rw [OutSeq]
abbrev dropN : Nd := .mk 11 0 0 0 none 0 []
abbrev idN : Nd := .mk 12 0 0 0 none 0 []
abbrev parN (g c : Nat) (ks : List Nd) : Nd := .mk 15 0 0 0 (some ⟨g, 0, none⟩) c ks
abbrev seqN (g c : Nat) (ks : List Nd) : Nd := .mk 16 0 0 0 (some ⟨g, 0, none⟩) c ks
/-! ### How many nodes there are -/
mutual
def countT : Nd → Int → Int
  | .mk _ _ _ _ _ _ kids, most => countKs kids most 1
def countKs : List Nd → Int → Int → Int
  | [], _, all => all
  | t :: ts, most, all => if all > most then all else countKs ts most (all + countT t (most - all))
end
theorem countT_eq (t : Nd) (most : Int) : countT t most = countKs t.kids most 1 := by cases t; rw [countT]; rfl
mutual
theorem countT_le : ∀ (t : Nd) (most : Int), 0 ≤ most → 1 ≤ countT t most ∧ countT t most ≤ most + 1
  | .mk _ _ _ _ _ _ kids, most, h => by rw [countT]; exact countKs_le kids most 1 (by omega)
theorem countKs_le : ∀ (ts : List Nd) (most all : Int), all ≤ most + 1 → all ≤ countKs ts most all ∧ countKs ts most all ≤ most + 1
  | [], most, all, h => by rw [countKs]; omega
  | t :: ts, most, all, h => by
    rw [countKs]
    split
    · omega
    · rename_i hh
      have h1 := countT_le t (most - all) (by omega)
      have h2 := countKs_le ts most (all + countT t (most - all)) (by omega)
      omega
end
mutual
def sizeN : Nd → Int
  | .mk _ _ _ _ _ _ kids => 1 + sizeKs kids
def sizeKs : List Nd → Int
  | [] => 0
  | t :: ts => sizeN t + sizeKs ts
end
theorem sizeN_eq (t : Nd) : sizeN t = 1 + sizeKs t.kids := by cases t; rw [sizeN]; rfl
mutual
theorem sizeN_pos : ∀ t : Nd, 1 ≤ sizeN t
  | .mk _ _ _ _ _ _ kids => by rw [sizeN]; have := sizeKs_len kids; omega
theorem sizeKs_len : ∀ ts : List Nd, (ts.length : Int) ≤ sizeKs ts
  | [] => by rw [sizeKs]; exact Int.le_refl _
  | t :: ts => by
    rw [sizeKs]
    have h1 := sizeN_pos t
    have h2 := sizeKs_len ts
    rw [List.length_cons]; omega
end
theorem sizeKs_get : ∀ (ts : List Nd) (i : Nat) (t : Nd), ts[i]? = some t → sizeN t ≤ sizeKs ts
  | [], _, _, h => by simp at h
  | t :: ts, 0, u, h => by
    simp only [List.getElem?_cons_zero, Option.some.injEq] at h
    subst h
    rw [sizeKs]; have := sizeKs_len ts; omega
  | t :: ts, i + 1, u, h => by
    rw [List.getElem?_cons_succ] at h
    have := sizeKs_get ts i u h
    have := sizeN_pos t
    rw [sizeKs]; omega
theorem sizeN_kid {t u : Nd} {i : Nat} (h : t.kids[i]? = some u) : sizeN u < sizeN t := by
  have := sizeKs_get _ _ _ h
  rw [sizeN_eq t]; omega
theorem sizeN_kids (t : Nd) : (t.kids.length : Int) < sizeN t := by
  have := sizeKs_len t.kids
  rw [sizeN_eq t]; omega
mutual
theorem countT_size : ∀ (t : Nd) (most : Int), 0 ≤ most → countT t most ≤ most → countT t most = sizeN t
  | .mk _ _ _ _ _ _ kids, most, h0, h => by
    rw [countT] at h ⊢
    rw [sizeN]
    exact countKs_size kids most 1 (by omega) h
theorem countKs_size : ∀ (ts : List Nd) (most all : Int), all ≤ most + 1 → countKs ts most all ≤ most → countKs ts most all = all + sizeKs ts
  | [], most, all, h0, h => by rw [countKs, sizeKs]; omega
  | t :: ts, most, all, h0, h => by
    rw [countKs] at h ⊢
    rw [sizeKs]
    split at h
    · omega
    · rename_i hh
      rw [if_neg hh]
      have h1 := countT_le t (most - all) (by omega)
      have h2 := countKs_le ts most (all + countT t (most - all)) (by omega)
      have h3 := countT_size t (most - all) (by omega) (by omega)
      have h4 := countKs_size ts most (all + countT t (most - all)) (by omega) h
      omega
end
end Go.Proofs.YtodaanhhnjkncaaDoor
