/- Texts joined: engine, contracts and laws, in the order in which they build. -/
import Derived.OrdersHeld
import Derived.Test.YtpjbofodllhjbaaDoorRows
import Derived.Lib.LaidTab
import Derived.Test.YtpjbofodllhjbaaDoorBeBgpForm
/- bgp: what was written is read again: what an Open, an Update has behind its head. -/
namespace Go.Proofs.YtpjbofodllhjbaaDoor
open Go.RowKit

theorem capsR_flat : ∀ (cs : List CapL) (acc : List (Int × List Int)), cs.all capOk = true → capsR acc (capsE cs) = some (acc ++ cs.map capD)
  | [], acc, _ => by unfold capsE; rw [List.flatMap_nil, capsR_nil, List.map_nil, List.append_nil]
  | c :: cs, acc, h => by
    rw [List.all_cons, Bool.and_eq_true] at h
    have hc := of_decide_eq_true h.1
    have e : capsE (c :: cs) = c.code :: (c.val.length : Int) :: (c.val ++ capsE cs) := by
      unfold capsE capE
      rw [List.flatMap_cons, show c.code % 256 = c.code by omega, show (c.val.length : Int) % 256 = c.val.length by omega]
      simp
    rw [e, capsR_cons, Int.toNat_natCast, if_neg (by rw [List.length_append]; omega), List.take_left, List.drop_left, capsR_flat cs _ h.2, List.map_cons, List.append_assoc]
    rfl
theorem capsE_nil {cs : List CapL} (h : (capsE cs).length = 0) : cs = [] := by
  cases cs with
  | nil => rfl
  | cons c cs => unfold capsE capE at h; rw [List.flatMap_cons] at h; simp at h
theorem openR_body {m : MsL} (h : openC m = 0) (hU : U32 m.id) : openR (openB m) = .inl (m.caps.map capD) ∧ asnB (openB m) = m.asn ∧ holdB (openB m) = m.hold ∧ idB (openB m) = m.id ∧ 10 ≤ (openB m).length := by
  unfold openC at h
  split at h
  · cases h
  rename_i hb
  split at h
  · rename_i hk
    split at h
    · cases h
    rename_i hl
    have hb2 : badO m = false := by cases hq : badO m with | false => rfl | true => exact absurd hq hb
    have hd := of_decide_eq_false hb2
    have ha : addrB m.id 4 = [m.id / 16777216 % 256, m.id / 65536 % 256, m.id / 256 % 256, m.id % 256] := by unfold addrB; rw [numB4]; rfl
    have e : ∃ tl, openB m = 4 :: (m.asn / 256 % 256) :: (m.asn % 256) :: (m.hold / 256 % 256) :: (m.hold % 256) :: (m.id / 16777216 % 256) :: (m.id / 65536 % 256) :: (m.id / 256 % 256) :: (m.id % 256) :: tl ∧ tl = if (capsE m.caps).length = 0 then [0] else [(2 + ((capsE m.caps).length : Int)) % 256, 2, ((capsE m.caps).length : Int) % 256] ++ capsE m.caps := by
      refine ⟨_, ?_, rfl⟩
      unfold openB
      rw [numB2, numB2, ha]
      rfl
    obtain ⟨tl, e1, e2⟩ := e
    have f0 : fOf (openB m) 0 = 4 := by rw [e1]; rfl
    have f1 : asnB (openB m) = m.asn := by rw [e1]; show m.asn / 256 % 256 * 256 + m.asn % 256 = _; omega
    have f2 : holdB (openB m) = m.hold := by rw [e1]; show m.hold / 256 % 256 * 256 + m.hold % 256 = _; omega
    have f3 : idB (openB m) = m.id := by
      rw [e1]
      show m.id / 16777216 % 256 * 16777216 + m.id / 65536 % 256 * 65536 + m.id / 256 % 256 * 256 + m.id % 256 = _
      unfold U32 at hU
      omega
    by_cases hz : (capsE m.caps).length = 0
    · rw [if_pos hz] at e2
      have hcn := capsE_nil hz
      subst e2
      refine ⟨?_, f1, f2, f3, by rw [e1]; simp⟩
      have f9 : fOf (openB m) 9 = 0 := by rw [e1]; rfl
      have fd : (openB m).drop 10 = [] := by rw [e1]; rfl
      unfold openR
      rw [f0, f1, f2, f3, f9, fd, if_neg (by decide), if_neg (by omega), if_neg (by omega), if_neg (by omega), if_neg (by decide), optsR_nil, hcn]
      rfl
    · rw [if_neg hz] at e2
      subst e2
      refine ⟨?_, f1, f2, f3, by rw [e1]; simp⟩
      have f9 : fOf (openB m) 9 = 2 + ((capsE m.caps).length : Int) := by rw [e1]; show (2 + ((capsE m.caps).length : Int)) % 256 = _; omega
      have fd : (openB m).drop 10 = 2 :: ((capsE m.caps).length : Int) :: capsE m.caps := by
        rw [e1]
        show 2 :: (((capsE m.caps).length : Int) % 256) :: capsE m.caps = _
        rw [show ((capsE m.caps).length : Int) % 256 = (capsE m.caps).length by omega]
      unfold openR
      rw [f0, f1, f2, f3, f9, fd, if_neg (by decide), if_neg (by omega), if_neg (by omega), if_neg (by omega), if_neg (by simp only [List.length_cons]; omega), optsR_cons, Int.toNat_natCast, if_neg (by omega), if_neg (by decide), List.take_length, capsR_flat _ _ hk, List.drop_length]
      dsimp only
      rw [optsR_nil]
      rfl
  · cases h
theorem netE_eq {p : PfL} (h : pfOk p = true) : netE p = p.len :: addrB p.addr (needN p.len) := by
  have hl := pfOk_len h
  show numB p.len 1 ++ addrB p.addr ((p.len.toNat + 7) / 8) = _
  rw [numB1, show p.len % 256 = p.len by omega]
  rfl
theorem cut_addr {p : PfL} (h : pfOk p = true) (hU : U32 p.addr) : cutI (addrI (addrB p.addr (needN p.len))) p.len = p.addr ∧ inI p.len = p.len := by
  have hl := pfOk_len h
  have hd := of_decide_eq_true h
  refine ⟨?_, hd.2.symm⟩
  obtain ⟨k, hk⟩ := Int.eq_ofNat_of_zero_le hl.1
  have hn : needN p.len = (k + 7) / 8 := by unfold needN; rw [hk, Int.toNat_natCast]
  have hc := hd.1
  rw [hn, hk]
  rw [hk] at hc
  by_cases h0 : k = 0
  · subst h0
    have e1 : cutI p.addr ((0 : Nat) : Int) = p.addr - p.addr % 4294967296 := rfl
    rw [e1] at hc
    unfold U32 at hU
    have h3 : p.addr = 0 := by omega
    rw [h3]
    rfl
  · have hj := (netJ k (by omega) (by omega) p.addr 0 hU hc ⟨by omega, Int.pow_pos (by decide)⟩).2
    rw [Int.add_zero] at hj
    have hs : (addrB p.addr ((k + 7) / 8)).set ((k + 7) / 8 - 1) (fOf (addrB p.addr ((k + 7) / 8)) ((k + 7) / 8 - 1)) = addrB p.addr ((k + 7) / 8) := by
      have hlen := addrB_len p.addr (show (k + 7) / 8 ≤ 4 by omega)
      apply List.ext_getElem?
      intro i
      rw [List.getElem?_set]
      split
      · rename_i hi
        split
        · rw [← hi, fOf_get (by omega)]
        · rename_i h2
          rw [List.getElem?_eq_none (by omega)]
      · rfl
    rw [hs] at hj
    exact hj
theorem netsR_flat : ∀ (ps : List PfL), ps.all pfOk = true → (∀ p ∈ ps, U32 p.addr) → netsR (netsE ps) = some ps
  | [], _, _ => by unfold netsE; rw [List.flatMap_nil, netsR]
  | p :: ps, h, hU => by
    rw [List.all_cons, Bool.and_eq_true] at h
    have hl := pfOk_len h.1
    have hn : needN p.len ≤ 4 := by unfold needN; omega
    obtain ⟨c1, c2⟩ := cut_addr h.1 (hU p (List.mem_cons_self ..))
    have hal := addrB_len p.addr hn
    have e : netsE (p :: ps) = p.len :: (addrB p.addr (needN p.len) ++ netsE ps) := by
      unfold netsE
      rw [List.flatMap_cons, netE_eq h.1]
      rfl
    rw [e, netsR_cons, if_neg (by rw [List.length_append]; omega), List.take_left' hal, List.drop_left' hal, netsR_flat ps h.2 fun q hq => hU q (List.mem_cons_of_mem _ hq), c1, c2]
    rfl
theorem countR_flat (xs rest : List Int) (h : xs.length ≤ 65535) : countR (numB xs.length 2 ++ (xs ++ rest)) = some (xs, rest) := by
  have e : numB (xs.length : Int) 2 ++ (xs ++ rest) = ((xs.length : Int) / 256 % 256) :: ((xs.length : Int) % 256) :: (xs ++ rest) := by rw [numB2]; rfl
  have f : fOf (numB (xs.length : Int) 2 ++ (xs ++ rest)) 0 * 256 + fOf (numB (xs.length : Int) 2 ++ (xs ++ rest)) 1 = (xs.length : Int) := by
    rw [e]; show (xs.length : Int) / 256 % 256 * 256 + (xs.length : Int) % 256 = _; omega
  unfold countR
  rw [f, Int.toNat_natCast, if_neg (by rw [List.length_append, List.length_append, numB_len]; omega)]
  congr 2
  · rw [List.drop_left' (numB_len _ _), List.take_left]
  · rw [← List.drop_drop, List.drop_left' (numB_len _ _), List.drop_left]
theorem encE_ok {a : AtL} (h : encE a = 0) : chkA a = true ∧ (bodyA a).length ≤ 4096 ∧ ∀ o ∈ a.others, o.val.length ≤ 4096 := by
  unfold encE at h
  split at h
  · rename_i hc
    split at h
    · cases h
    · rename_i hb
      simp only [Bool.or_eq_true, decide_eq_true_eq, List.any_eq_true, not_or, not_exists, not_and] at hb
      exact ⟨hc, by omega, fun o ho => by have := hb.1 o ho; omega⟩
  · cases h
theorem updR_body {m : MsL} (h : updC m = 0) (hI : m.In) : updR (updB m) = .inl (m.gone, m.atr.d, m.nets) := by
  unfold updC at h
  split at h
  · cases h
  rename_i hn
  split at h
  · cases h
  rename_i hb
  have hb2 : badN m = false := by cases hq : badN m with | false => rfl | true => exact absurd hq hb
  unfold badN at hb2
  simp only [Bool.or_eq_false_iff, Bool.not_eq_false', decide_eq_false_iff_not] at hb2
  obtain ⟨⟨g1, g2⟩, g3⟩ := hb2
  obtain ⟨c1, c2, c3⟩ := encE_ok h
  have l1 := netsE_len g1
  have hat := decD_body c1 ⟨hI.at_.hop, hI.at_.aid⟩ (by omega) (fun o ho => by have := c3 o ho; omega)
  have k3 : ordB 8 m.atr.others = true := by unfold chkA at c1; rw [Bool.and_eq_true] at c1; exact c1.2
  have e : updB m = numB (netsE m.gone).length 2 ++ (netsE m.gone ++ (numB (bodyA m.atr).length 2 ++ (bodyA m.atr ++ netsE m.nets))) := by
    unfold updB; simp only [List.append_assoc]
  unfold updR
  rw [e, countR_flat _ _ (by omega)]
  dsimp only
  rw [countR_flat _ _ (by omega)]
  dsimp only
  rw [netsR_flat _ g1 fun p hp => (hI.gone p hp).1]
  dsimp only
  rw [hat]
  dsimp only
  rw [netsR_flat _ g2 fun p hp => (hI.nets p hp).1]
  dsimp only
  rw [if_neg (by omega), if_neg (fun q => g3 ⟨q.2, q.1⟩)]
  have es : sortO m.atr.d.others = m.atr.d.others := sortO_ord k3
  rw [es]
end Go.Proofs.YtpjbofodllhjbaaDoor
/- stream: an append of made zeros; slices.Grow, slices.Concat of bytes. -/
namespace Go.Proofs.YtpjbofodllhjbaaDoor
open Go.RowKit

section
variable {P : Program} {ops : Array Oper} {Q : Exit → Act → World → Prop} {n : Nat} {p : Nat → Prop} {w0 : World} {o : Oper} {rest : List Oper} {l : Kn} {L : List Ent}
end
structure SlL where
  ad : Option Addr
  cap : Nat
  val : List Int
def SlL.cells (s : SlL) : List Value := [.slice s.ad s.val.length s.cap]
end Go.Proofs.YtpjbofodllhjbaaDoor
/- stream: what a Reader makes of bytes, as plain lists. -/
namespace Go.Proofs.YtpjbofodllhjbaaDoor
open Go.RowKit

/-- Bytes seen through a slice, in blocks of E. -/
structure View (E : List Ent) (aa : Option Addr) (c : Nat) (ys : List Int) : Prop where
  le : ys.length ≤ c
  bys : Bys ys
  at_ : (aa = none ∧ c = 0 ∧ ys = []) ∨ ∃ b o, aa = some ⟨b, o, none⟩ ∧ ∀ w, (∀ e ∈ E, e.holds w) → w.rangeAt b o (u8s ys)
theorem View.of {ad : Option Addr} {c : Nat} {xs : List Int} {E : List Ent} (h : BV ad c xs E) (hb : Bys xs) : View E ad c xs := by
  refine ⟨h.len.2, hb, ?_⟩
  rcases h with ⟨ha, hn, hc, _⟩ | ⟨g, cs, rfl, rfl, hx, _, _⟩
  · exact .inl ⟨ha, hc, List.length_eq_zero_iff.1 hn⟩
  · refine .inr ⟨g, 0, rfl, fun w hw j v hj => ?_⟩
    have hR : Row w g cs := hw (.row g cs) (List.mem_cons_self ..)
    rw [← hx, List.getElem?_take] at hj
    split at hj
    · rw [Nat.zero_add]; exact hR.cell hj
    · cases hj
theorem View.win {E : List Ent} {b o c : Nat} {ys : List Int} (h : View E (some ⟨b, o, none⟩) c ys) {w : World} (hw : ∀ e ∈ E, e.holds w) : Win w b o c ys := by
  rcases h.at_ with ⟨h1, _, _⟩ | ⟨b', o', e, hr⟩
  · exact nomatch h1
  · cases e; exact ⟨hr w hw, h.bys, h.le⟩
theorem View.some {E : List Ent} {aa : Option Addr} {c : Nat} {ys : List Int} (h : View E aa c ys) (h0 : 0 < ys.length) : ∃ b o, aa = some ⟨b, o, none⟩ := by
  rcases h.at_ with ⟨_, _, e⟩ | ⟨b, o, e, _⟩
  · rw [e] at h0; exact absurd h0 (Nat.lt_irrefl 0)
  · exact ⟨b, o, e⟩
theorem View.drop {E : List Ent} {b o c : Nat} {ys : List Int} (h : View E (.some ⟨b, o, none⟩) c ys) (k : Nat) : View E (.some ⟨b, sAddr o k c 1, none⟩) (c - k) (ys.drop k) := by
  have hle := h.le
  refine ⟨by rw [List.length_drop]; omega, fun x hx => h.bys x (List.mem_of_mem_drop hx), .inr ⟨b, sAddr o k c 1, rfl, fun w hw => ((h.win hw).drop k).at_⟩⟩
/-- A Reader. -/
structure RdL where
  ad : Option Addr
  cap : Nat
  wait : List Int
  count : Int
  fc : Int
  fs : Int
  fd : ByteArray
def RdL.cells (r : RdL) : List Value := [.slice r.ad r.wait.length r.cap, .int .i64 r.count, .int .i64 r.fc, .int .i64 r.fs, .string r.fd]
theorem MsAll.mono {K K' : List Ent} {m : MsL} (h : MsAll K m) (hm : ∀ e ∈ K, e ∈ K') : MsAll K' m := by
  obtain ⟨⟨E1, a1, b1⟩, h2, ⟨E3, a3, b3⟩, ⟨E4, a4, b4⟩, h5⟩ := h
  exact ⟨⟨E1, a1, fun e he => hm e (b1 e he)⟩, fun c hc => by obtain ⟨E, q1, q2⟩ := h2 c hc; exact ⟨E, q1, fun e he => hm e (q2 e he)⟩, ⟨E3, a3, fun e he => hm e (b3 e he)⟩, ⟨E4, a4, fun e he => hm e (b4 e he)⟩, h5.mono hm⟩
end Go.Proofs.YtpjbofodllhjbaaDoor
/- stream: Reader.Feed, walked. -/
namespace Go.Proofs.YtpjbofodllhjbaaDoor
open Go.RowKit

def RdL.more (r : RdL) (k : Nat) : RdL := { r with count := r.count + k }
end Go.Proofs.YtpjbofodllhjbaaDoor
/- stream: what a Reader tells; messages out of bytes; the document's example. -/
namespace Go.Proofs.YtpjbofodllhjbaaDoor
open Go.RowKit

def RdL.zero : RdL := ⟨none, 0, [], 0, 0, 0, ⟨#[]⟩⟩
end Go.Proofs.YtpjbofodllhjbaaDoor
/- bgp: any message that was written is read again; messages one behind the other, in whatever pieces. -/
namespace Go.Proofs.YtpjbofodllhjbaaDoor
open Go.RowKit

theorem strOf_strI (d : ByteArray) : strOfNums (strI d) = d := by
  unfold strOfNums strI
  rw [List.map_map]
  have : (d.data.toList.map ((fun n : Int => UInt8.ofNat n.toNat) ∘ fun b : UInt8 => (b.toNat : Int))) = d.data.toList := by
    conv => rhs; rw [← List.map_id d.data.toList]
    apply List.map_congr_left
    intro b _
    show UInt8.ofNat ((b.toNat : Int).toNat) = b
    rw [Int.toNat_natCast]
    exact UInt8.ofNat_toNat
  rw [this]
theorem strD_note (a b : Int) (d : ByteArray) : strD (a :: b :: strI d) = d := by
  have h : (List.range (strI d).length).map (fun i => fOf (a :: b :: strI d) (2 + i)) = strI d := by
    apply List.ext_getElem?
    intro i
    by_cases hi : i < (strI d).length
    · rw [List.getElem?_map, List.getElem?_range hi, fOf_get hi]
      show some (fOf (a :: b :: strI d) (2 + i)) = _
      rw [show 2 + i = i + 1 + 1 by omega]
      rfl
    · rw [List.getElem?_eq_none (by simp; omega), List.getElem?_eq_none (by omega)]
  show strOfNums (bl (fun i => fOf (a :: b :: strI d) (2 + i)) ((a :: b :: strI d).length - 2)) = d
  unfold bl
  rw [show (a :: b :: strI d).length - 2 = (strI d).length by simp, h, strOf_strI]
/-- A message with what belongs to its kind alone. -/
def bareD (m : MsL) : MsD :=
  if m.kind = 1 then { (MsL.zero m.kind).d with asn := m.asn, hold := m.hold, id := m.id, caps := m.caps.map capD }
  else if m.kind = 2 then { (MsL.zero m.kind).d with gone := m.gone, atr := m.atr.d, nets := m.nets }
  else if m.kind = 3 then { (MsL.zero m.kind).d with fc := m.fc, fs := m.fs, fd := m.fd }
  else (MsL.zero m.kind).d
theorem bodyM_body {m : MsL} (h : msgC m = 0) (hI : m.In) : bodyM m.kind (bodB m) = .inl (bareD m) ∧ (1 ≤ m.kind ∧ m.kind ≤ 4) ∧ 19 + (bodB m).length ≤ 4096 ∧ leastI m.kind ≤ 19 + (bodB m).length ∧ (m.kind = 4 → bodB m = []) := by
  obtain ⟨hb, hl⟩ := msgC_bod h
  have hk := bodC_kind hb
  unfold bodC at hb
  by_cases k1 : m.kind = 1
  · rw [if_pos k1] at hb
    obtain ⟨o1, o2, o3, o4, o5⟩ := openR_body hb hI.id
    have e : bodB m = openB m := by unfold bodB; rw [if_pos k1]
    rw [e] at hl ⊢
    refine ⟨?_, hk, hl, by rw [k1]; show (29 : Int) ≤ _; omega, fun h => by omega⟩
    unfold bodyM bareD
    rw [if_pos k1, if_pos k1, o1, o2, o3, o4]
  · rw [if_neg k1] at hb
    by_cases k2 : m.kind = 2
    · rw [if_pos k2] at hb
      have e : bodB m = updB m := by unfold bodB; rw [if_neg k1, if_pos k2]
      have hl4 : 4 ≤ (updB m).length := by unfold updB; simp only [List.length_append, numB_len]; omega
      rw [e] at hl ⊢
      refine ⟨?_, hk, hl, by rw [k2]; show (23 : Int) ≤ _; omega, fun h => by omega⟩
      unfold bodyM bareD
      rw [if_neg k1, if_pos k2, if_neg k1, if_pos k2, updR_body hb hI]
    · rw [if_neg k2] at hb
      by_cases k3 : m.kind = 3
      · have e : bodB m = m.fc :: m.fs :: strI m.fd := by unfold bodB; rw [if_neg k1, if_neg k2, if_pos k3]; rfl
        rw [e] at hl ⊢
        refine ⟨?_, hk, hl, by rw [k3]; show (21 : Int) ≤ _; simp only [List.length_cons]; omega, fun h => by omega⟩
        unfold bodyM bareD
        rw [if_neg k1, if_neg k2, if_pos k3, if_neg k1, if_neg k2, if_pos k3, strD_note]
        rfl
      · have e : bodB m = [] := by unfold bodB; rw [if_neg k1, if_neg k2, if_neg k3]
        have k4 : m.kind = 4 := by omega
        rw [e] at hl ⊢
        refine ⟨?_, hk, hl, by rw [k4]; decide, fun _ => rfl⟩
        unfold bodyM bareD
        rw [if_neg k1, if_neg k2, if_neg k3, if_neg k1, if_neg k2, if_neg k3]
theorem decM_msgB {m : MsL} (h : msgC m = 0) (hI : m.In) : decM (msgB m) = .inl (bareD m) := by
  obtain ⟨h1, h2, h3, h4, h5⟩ := bodyM_body h hI
  rw [msgB_of, decM_of _ _ h2 h3 h4 h5, h1]
end Go.Proofs.YtpjbofodllhjbaaDoor
/- bgp: a message's bytes hang on what it says alone, not on where its parts lie. -/
namespace Go.Proofs.YtpjbofodllhjbaaDoor
open Go.RowKit

def capED (p : Int × List Int) : List Int := [p.1 % 256, (p.2.length : Int) % 256] ++ p.2
def capsED (cs : List (Int × List Int)) : List Int := cs.flatMap capED
theorem capsE_d (cs : List CapL) : capsE cs = capsED (cs.map capD) := by unfold capsE capsED; rw [List.flatMap_map]; rfl
theorem capOk_d (cs : List CapL) : cs.all capOk = (cs.map capD).all fun p => decide (0 ≤ p.1 ∧ p.1 ≤ 255 ∧ p.2.length ≤ 255) := by rw [List.all_map]; rfl
def openCD (d : MsD) : Int := if decide (d.asn < 1 ∨ 65535 < d.asn ∨ (d.hold ≠ 0 ∧ (d.hold < 3 ∨ 65535 < d.hold)) ∨ d.id = 0 ∨ 32 < d.caps.length) then 1 else if d.caps.all (fun p => decide (0 ≤ p.1 ∧ p.1 ≤ 255 ∧ p.2.length ≤ 255)) then if 253 < (capsED d.caps).length then 6 else 0 else 1
def openBD (d : MsD) : List Int := [4] ++ numB d.asn 2 ++ numB d.hold 2 ++ addrB d.id 4 ++ (if (capsED d.caps).length = 0 then [0] else [(2 + ((capsED d.caps).length : Int)) % 256, 2, ((capsED d.caps).length : Int) % 256] ++ capsED d.caps)
theorem openC_d (m : MsL) : openC m = openCD m.d := by
  unfold openC openCD badO
  rw [capsE_d, capOk_d, show m.caps.length = m.d.caps.length from (List.length_map ..).symm]
  rfl
theorem openB_d (m : MsL) : openB m = openBD m.d := by unfold openB openBD; rw [capsE_d]; rfl
def segED (p : Bool × List Int) : List Int := numB (if p.1 then 1 else 2) 1 ++ numB p.2.length 1 ++ p.2.flatMap fun x => numB x 2
def segBD (p : Bool × List Int) : Bool := decide (1 ≤ p.2.length ∧ p.2.length ≤ 255) && p.2.all fun x => decide (1 ≤ x ∧ x ≤ 65535)
def valED (a : AtD) (t : Nat) : List Int :=
  if t = 1 then numB a.origin 1 else if t = 2 then a.path.flatMap segED else if t = 3 then numB a.hop 4 else if t = 4 then numB a.med 4
  else if t = 5 then numB a.loc 4 else if t = 7 then numB a.aas 2 ++ numB a.aid 4 else if t = 8 then a.comms.flatMap fun x => numB x 4 else []
theorem valE_d (a : AtL) (t : Nat) : valE a t = valED a.d t := by
  unfold valE valED
  rw [show a.path.flatMap segE = a.d.path.flatMap segED by show _ = (a.path.map segD).flatMap segED; rw [List.flatMap_map]; rfl]
  rfl
def goodBD (a : AtD) (k : Nat) : Bool :=
  if k = 1 then wiB a.origin 2 else if k = 2 then a.path.all segBD else if k = 3 then hopB a.hop else if k = 4 then wiB a.med 4294967295
  else if k = 5 then wiB a.loc 4294967295 else if k = 7 then wiB a.aas 65535 else if k = 8 then commsB a.comms else true
theorem goodB_d (a : AtL) (k : Nat) : goodB a k = goodBD a.d k := by
  unfold goodB goodBD
  rw [show a.path.all segB = a.d.path.all segBD by show _ = (a.path.map segD).all segBD; rw [List.all_map]; rfl]
  rfl
def zeroBD (a : AtD) (k : Nat) : Bool :=
  if k = 1 then decide (a.origin = 0) else if k = 2 then decide ((a.path.length : Int) = 0) else if k = 3 then decide (a.hop = 0) else if k = 4 then decide (a.med = 0)
  else if k = 5 then decide (a.loc = 0) else if k = 7 then decide (a.aas = 0 ∧ a.aid = 0) else if k = 8 then decide ((a.comms.length : Int) = 0) else true
theorem zeroB_d (a : AtL) (k : Nat) : zeroB a k = zeroBD a.d k := by
  unfold zeroB zeroBD
  rw [show a.path.length = a.d.path.length from (List.length_map ..).symm]
  rfl
def ordBD : Int → List (Int × List Int) → Bool
  | _, [] => true
  | last, o :: os => decide (last < o.1 ∧ o.1 ≤ 255) && ordBD o.1 os
theorem ordB_d : ∀ (last : Int) (os : List OthL), ordB last os = ordBD last (os.map othD)
  | _, [] => rfl
  | last, o :: os => by
    show (_ && ordB o.ty os) = (_ && ordBD o.ty (os.map othD))
    rw [ordB_d o.ty os]
    rfl
def eachBD (a : AtD) (k : Nat) : Bool := if hasB a.has k then goodBD a k else zeroBD a k
def chkAD (a : AtD) : Bool := knownB a.has && ((List.range' 1 8).all (eachBD a)) && ordBD 8 a.others
theorem chkA_d (a : AtL) : chkA a = chkAD a.d := by
  unfold chkA chkAD
  rw [ordB_d, show eachB a = eachBD a.d from funext fun k => by unfold eachB eachBD; rw [goodB_d, zeroB_d]; rfl]
  rfl
def bodyAD (a : AtD) : List Int := ((List.range' 1 8).flatMap fun t => if hasB a.has t then putE (flagI t) t (valED a t) else []) ++ a.others.flatMap fun o => putE 224 o.1 o.2
theorem bodyA_d (a : AtL) : bodyA a = bodyAD a.d := by
  unfold bodyA bodyAD
  rw [show knownE a = (fun t => if hasB a.d.has t then putE (flagI t) t (valED a.d t) else []) from funext fun t => by unfold knownE; rw [valE_d]; rfl]
  rw [show (a.others.flatMap fun o => putE 224 o.ty o.val) = a.d.others.flatMap fun o => putE 224 o.1 o.2 by show _ = (a.others.map othD).flatMap _; rw [List.flatMap_map]; rfl]
def encED (a : AtD) : Int := if chkAD a then if (a.others.any fun o => decide (4096 < o.2.length)) || decide (4096 < (bodyAD a).length) then 6 else 0 else 1
theorem encE_d (a : AtL) : encE a = encED a.d := by
  unfold encE encED
  rw [chkA_d, bodyA_d, show (a.others.any fun o => decide (4096 < o.val.length)) = a.d.others.any fun o => decide (4096 < o.2.length) by show _ = (a.others.map othD).any _; rw [List.any_map]; rfl]
def updCD (d : MsD) : Int := if 200 < d.gone.length ∨ 200 < d.nets.length then 3 else if !(d.gone.all pfOk) || !(d.nets.all pfOk) || decide (0 < d.nets.length ∧ missI d.atr.has ≠ 0) then 1 else encED d.atr
def updBD (d : MsD) : List Int := numB (netsE d.gone).length 2 ++ netsE d.gone ++ numB (bodyAD d.atr).length 2 ++ bodyAD d.atr ++ netsE d.nets
theorem updC_d (m : MsL) : updC m = updCD m.d := by unfold updC updCD badN; rw [encE_d]; rfl
theorem updB_d (m : MsL) : updB m = updBD m.d := by unfold updB updBD; rw [bodyA_d]; rfl
def bodCD (d : MsD) : Int := if d.kind = 1 then openCD d else if d.kind = 2 then updCD d else if d.kind = 3 then if d.fc < 1 ∨ 255 < d.fc ∨ d.fs < 0 ∨ 255 < d.fs then 1 else if 4096 < d.fd.size then 6 else 0 else if d.kind = 4 then 0 else 12
def bodBD (d : MsD) : List Int := if d.kind = 1 then openBD d else if d.kind = 2 then updBD d else if d.kind = 3 then [d.fc, d.fs] ++ strI d.fd else []
theorem bodC_d (m : MsL) : bodC m = bodCD m.d := by unfold bodC bodCD noteC; rw [openC_d, updC_d]; rfl
theorem bodB_d (m : MsL) : bodB m = bodBD m.d := by unfold bodB bodBD noteB; rw [openB_d, updB_d]; rfl
def msgCD (d : MsD) : Int := if bodCD d = 0 then if 4096 < 19 + (bodBD d).length then 6 else 0 else bodCD d
def msgBD (d : MsD) : List Int := msgOf d.kind (bodBD d)
theorem msgC_d (m : MsL) : msgC m = msgCD m.d := by unfold msgC msgCD; rw [bodC_d, bodB_d]
theorem msgB_d (m : MsL) : msgB m = msgBD m.d := by rw [msgB_of, bodB_d]; rfl
theorem bod_1 {d : MsD} (k : d.kind = 1) : bodCD d = openCD d ∧ bodBD d = openBD d := ⟨by unfold bodCD; rw [if_pos k], by unfold bodBD; rw [if_pos k]⟩
theorem bod_2 {d : MsD} (k1 : ¬ d.kind = 1) (k : d.kind = 2) : bodCD d = updCD d ∧ bodBD d = updBD d := ⟨by unfold bodCD; rw [if_neg k1, if_pos k], by unfold bodBD; rw [if_neg k1, if_pos k]⟩
theorem bod_3 {d : MsD} (k1 : ¬ d.kind = 1) (k2 : ¬ d.kind = 2) (k : d.kind = 3) : bodCD d = (if d.fc < 1 ∨ 255 < d.fc ∨ d.fs < 0 ∨ 255 < d.fs then 1 else if 4096 < d.fd.size then 6 else 0) ∧ bodBD d = [d.fc, d.fs] ++ strI d.fd := ⟨by unfold bodCD; rw [if_neg k1, if_neg k2, if_pos k], by unfold bodBD; rw [if_neg k1, if_neg k2, if_pos k]⟩
theorem bod_4 {d : MsD} (k1 : ¬ d.kind = 1) (k2 : ¬ d.kind = 2) (k3 : ¬ d.kind = 3) : bodCD d = (if d.kind = 4 then 0 else 12) ∧ bodBD d = [] := ⟨by unfold bodCD; rw [if_neg k1, if_neg k2, if_neg k3], by unfold bodBD; rw [if_neg k1, if_neg k2, if_neg k3]⟩
/-- Numbers in range. -/
structure AtD.In (a : AtD) : Prop where
  nums : I64 a.has ∧ I64 a.origin ∧ U32 a.hop ∧ I64 a.med ∧ I64 a.loc ∧ I64 a.aas ∧ U32 a.aid
  segs : ∀ s ∈ a.path, s.2.length ≤ 9223372036854775807 ∧ ∀ x ∈ s.2, I64 x
  comms : ∀ x ∈ a.comms, I64 x
  oths : ∀ o ∈ a.others, I64 o.1 ∧ o.2.length ≤ 9223372036854775807 ∧ Bys o.2
  lens : a.path.length ≤ 9223372036854775807 ∧ a.comms.length ≤ 9223372036854775807 ∧ a.others.length ≤ 9223372036854775807
structure MsD.In (m : MsD) : Prop where
  nums : I64 m.kind ∧ I64 m.asn ∧ I64 m.hold ∧ U32 m.id ∧ I64 m.fc ∧ I64 m.fs
  caps : ∀ c ∈ m.caps, I64 c.1 ∧ c.2.length ≤ 9223372036854775807 ∧ Bys c.2
  gone : ∀ p ∈ m.gone, U32 p.addr ∧ I64 p.len
  nets : ∀ p ∈ m.nets, U32 p.addr ∧ I64 p.len
  at_ : m.atr.In
  lens : m.caps.length ≤ 9223372036854775807 ∧ m.gone.length ≤ 9223372036854775807 ∧ m.nets.length ≤ 9223372036854775807 ∧ m.fd.size ≤ 9223372036854775807
theorem AtL.in_d {a : AtL} : a.In ↔ a.d.In := by
  constructor
  · intro h
    refine ⟨⟨h.has, h.origin, h.hop, h.med, h.loc, h.aas, h.aid⟩, fun s hs => ?_, h.comms, fun o ho => ?_, ?_⟩
    · obtain ⟨t, ht, rfl⟩ := List.mem_map.1 hs; exact h.segs t ht
    · obtain ⟨t, ht, rfl⟩ := List.mem_map.1 ho; exact h.oths t ht
    · have := h.lens; exact ⟨by show (a.path.map segD).length ≤ _; rw [List.length_map]; exact this.1, this.2.1, by show (a.others.map othD).length ≤ _; rw [List.length_map]; exact this.2.2⟩
  · intro h
    obtain ⟨n1, n2, n3, n4, n5, n6, n7⟩ := h.nums
    obtain ⟨l1, l2, l3⟩ := h.lens
    refine ⟨n1, n2, n3, n4, n5, n6, n7, fun s hs => h.segs (segD s) (List.mem_map.2 ⟨s, hs, rfl⟩), h.comms, fun o ho => h.oths (othD o) (List.mem_map.2 ⟨o, ho, rfl⟩), ⟨?_, l2, ?_⟩⟩
    · have : (a.path.map segD).length ≤ 9223372036854775807 := l1
      rwa [List.length_map] at this
    · have : (a.others.map othD).length ≤ 9223372036854775807 := l3
      rwa [List.length_map] at this
theorem MsL.in_d {m : MsL} : m.In ↔ m.d.In := by
  constructor
  · intro h
    have := h.lens
    exact ⟨⟨h.kind, h.asn, h.hold, h.id, h.fc, h.fs⟩, fun s hs => (by obtain ⟨t, ht, rfl⟩ := List.mem_map.1 hs; exact h.caps t ht), h.gone, h.nets, AtL.in_d.1 h.at_, ⟨by show (m.caps.map capD).length ≤ _; rw [List.length_map]; exact this.1, this.2⟩⟩
  · intro h
    obtain ⟨n1, n2, n3, n4, n5, n6⟩ := h.nums
    obtain ⟨l1, l2⟩ := h.lens
    refine ⟨n1, n2, n3, n4, n5, n6, fun s hs => h.caps (capD s) (List.mem_map.2 ⟨s, hs, rfl⟩), h.gone, h.nets, AtL.in_d.2 h.at_, ⟨?_, l2⟩⟩
    have : (m.caps.map capD).length ≤ 9223372036854775807 := l1
    rwa [List.length_map] at this
theorem zeroM_in {k : Int} (h : I64 k) : (MsL.zero k).In := ⟨h, zero_i, zero_i, zero_u, zero_i, zero_i, (fun c hc => by cases hc), (fun c hc => by cases hc), (fun c hc => by cases hc), AtL.zero_in, ⟨Nat.zero_le _, Nat.zero_le _, Nat.zero_le _, Nat.zero_le _⟩⟩
theorem flatMap_len {α : Type} {enc : α → List Value} {s : Nat} (hs : ∀ x, (enc x).length = s) : ∀ xs : List α, (xs.flatMap enc).length = xs.length * s
  | [] => by simp
  | x :: xs => by rw [List.flatMap_cons, List.length_append, hs, flatMap_len hs xs, List.length_cons, Nat.add_mul, Nat.one_mul]; omega
theorem flatMap_seg {α : Type} {enc : α → List Value} {s : Nat} (hs : ∀ x, (enc x).length = s) : ∀ (xs : List α) (i : Nat) (x : α), xs[i]? = some x → ((xs.flatMap enc).drop (i * s)).take s = enc x
  | [], _, _, h => by simp at h
  | y :: xs, 0, x, h => by
    simp only [List.getElem?_cons_zero, Option.some.injEq] at h
    subst h
    rw [List.flatMap_cons, Nat.zero_mul, List.drop_zero, List.take_left' (hs y)]
  | y :: xs, i + 1, x, h => by
    rw [List.getElem?_cons_succ] at h
    rw [List.flatMap_cons, Nat.add_mul, Nat.one_mul, Nat.add_comm, ← List.drop_drop, List.drop_left' (hs y)]
    exact flatMap_seg hs xs i x h
/-- Elements whose block is there. -/
theorem cells_of {s k c : Nat} {ad : Option Addr} {α : Type} {enc : α → List Value} {xs : List α} {w : World} {E : List Ent} (hV : Vec s ad k c (xs.flatMap enc) E) (hs : ∀ x, (enc x).length = s) (hs0 : 0 < s) (hw : ∀ e ∈ E, e.holds w) : RowsAt w ad s enc xs := fun i x hi => by
  have hl := flatMap_seg hs xs i x hi
  have h0 : 0 < (xs.flatMap enc).length := by
    have := (List.getElem?_eq_some_iff.1 hi).1
    rw [flatMap_len hs]
    exact Nat.mul_pos (by omega) hs0
  rcases hV with ⟨_, _, _, h, _⟩ | ⟨g, cs, rfl, rfl, hx, _, _⟩
  · rw [h] at h0; exact absurd h0 (Nat.lt_irrefl 0)
  · refine ⟨g, 0, rfl, fun j v hj => ?_⟩
    have hR : Row w g cs := hw (.row g cs) (List.mem_cons_self ..)
    have hjl := (List.getElem?_eq_some_iff.1 hj).1
    have h1 : (xs.flatMap enc)[i * s + j]? = some v := by
      rw [← hj, ← hl, List.getElem?_take, if_pos (by rw [hs] at hjl; exact hjl), List.getElem?_drop]
    rw [← hx, List.getElem?_take] at h1
    split at h1
    · rw [show (0 + i * s + j) = i * s + j by omega]; exact hR.cell h1
    · cases h1
end Go.Proofs.YtpjbofodllhjbaaDoor
/- stream: the document's example; StreamStops. -/
namespace Go.Proofs.YtpjbofodllhjbaaDoor
open Go.RowKit

theorem Vec.src2 {s k c : Nat} {ad : Option Addr} {xs : List Value} {E : List Ent} (hV : Vec s ad k c xs E) (h0 : 0 < xs.length) : ∃ b o, ad = some ⟨b, o, none⟩ ∧ ∀ w, (∀ e ∈ E, e.holds w) → w.rangeAt b o xs := by
  rcases hV with ⟨_, _, _, rfl, _⟩ | ⟨g, cs, rfl, rfl, hx, _, _⟩
  · simp at h0
  · refine ⟨g, 0, rfl, fun w hw j v hj => ?_⟩
    have hR : Row w g cs := hw (.row g cs) (List.mem_cons_self ..)
    rw [← hx, List.getElem?_take] at hj
    split at hj
    · rw [Nat.zero_add]; exact hR.cell hj
    · cases hj
end Go.Proofs.YtpjbofodllhjbaaDoor
/- stream: slices of bytes that begin anywhere in their block, and grow; a Queue. -/
namespace Go.Proofs.YtpjbofodllhjbaaDoor
open Go.RowKit

/-- A slice of bytes of one's own, wherever it begins in its block. -/
def VecO (ad : Option Addr) (c : Nat) (xs : List Int) (E : List Ent) : Prop :=
  (ad = none ∧ c = 0 ∧ xs = [] ∧ E = []) ∨ ∃ g o cs, ad = some ⟨g, o, none⟩ ∧ E = [.row g cs] ∧ xs.length ≤ c ∧ o + c ≤ cs.length ∧ ∀ i v, (u8s xs)[i]? = some v → cs[o + i]? = some v
theorem VecO.nil : VecO none 0 [] [] := .inl ⟨rfl, rfl, rfl, rfl⟩
theorem VecO.of {ad : Option Addr} {c : Nat} {xs : List Int} {E : List Ent} (h : BV ad c xs E) : VecO ad c xs E := by
  rcases h with ⟨ha, hn, hc, _, hE⟩ | ⟨g, cs, ha, hE, hx, hl, hk⟩
  · exact .inl ⟨ha, hc, List.length_eq_zero_iff.1 hn, hE⟩
  · refine .inr ⟨g, 0, cs, ha, hE, hk, by omega, fun i v hi => ?_⟩
    rw [Nat.zero_add]
    rw [← hx, List.getElem?_take] at hi
    split at hi
    · exact hi
    · cases hi
theorem VecO.len {ad : Option Addr} {c : Nat} {xs : List Int} {E : List Ent} (h : VecO ad c xs E) : xs.length ≤ c := by
  rcases h with ⟨_, rfl, rfl, _⟩ | ⟨_, _, _, _, _, h, _⟩
  · exact Nat.le_refl _
  · exact h
theorem VecO.range {ad : Option Addr} {c : Nat} {xs : List Int} {E : List Ent} (h : VecO ad c xs E) {w : World} (hw : ∀ e ∈ E, e.holds w) : CellsAt w ad (u8s xs) := fun h0 => by
  rcases h with ⟨_, _, rfl, _⟩ | ⟨g, o, cs, rfl, rfl, _, _, hx⟩
  · exact absurd h0 (Nat.lt_irrefl 0)
  · refine ⟨g, o, rfl, fun j v hj => ?_⟩
    have hR : Row w g cs := hw (.row g cs) (List.mem_cons_self ..)
    exact hR.cell (hx j v hj)
theorem VecO.drop {g o c : Nat} {xs : List Int} {E : List Ent} (h : VecO (some ⟨g, o, none⟩) c xs E) (k : Nat) (hk : k ≤ xs.length) : VecO (some ⟨g, sAddr o k c 1, none⟩) (c - k) (xs.drop k) E := by
  rcases h with ⟨h, _⟩ | ⟨g', o', cs, e, rfl, hl, hb, hx⟩
  · cases h
  · cases e
    refine .inr ⟨g, sAddr o k c 1, cs, rfl, rfl, by rw [List.length_drop]; omega, by unfold sAddr; split <;> omega, fun i v hi => ?_⟩
    unfold sAddr
    split
    · rename_i hck
      rw [List.drop_eq_nil_of_le (by omega)] at hi
      simp [u8s] at hi
    · have := hx (k + i) v (by rw [← hi]; unfold u8s; rw [List.getElem?_map, List.getElem?_map, List.getElem?_drop])
      rw [Nat.mul_one, Nat.add_assoc]; exact this
theorem VecO.ad {ad : Option Addr} {c : Nat} {xs : List Int} {E : List Ent} (h : VecO ad c xs E) : ad = none ∨ ∃ b o, ad = some ⟨b, o, none⟩ := by
  rcases h with ⟨h, _⟩ | ⟨g, o, _, h, _⟩
  · exact .inl h
  · exact .inr ⟨g, o, h⟩
theorem View.take {E : List Ent} {aa : Option Addr} {c : Nat} {ys : List Int} (h : View E aa c ys) (k : Nat) : View E aa c (ys.take k) := by
  refine ⟨by rw [List.length_take]; have := h.le; omega, fun x hx => h.bys x (List.mem_of_mem_take hx), ?_⟩
  rcases h.at_ with ⟨h1, h2, h3⟩ | ⟨b, o, rfl, hr⟩
  · exact .inl ⟨h1, h2, by rw [h3]; simp⟩
  · exact .inr ⟨b, o, rfl, fun w hw => ((h.win hw).take k).at_⟩
section
variable {P : Program} {ops : Array Oper} {Q : Exit → Act → World → Prop} {n : Nat} {p : Nat → Prop} {w0 : World} {o : Oper} {rest : List Oper} {l : Kn} {E L0 : List Ent}
end
/-- A Queue. -/
structure QuL where
  ad : Option Addr
  cap : Nat
  wait : List Int
  most : Int
def QuL.cells (q : QuL) : List Value := [.slice q.ad q.wait.length q.cap, .int .i64 q.most]
end Go.Proofs.YtpjbofodllhjbaaDoor
/- stream: StreamQueues. -/
namespace Go.Proofs.YtpjbofodllhjbaaDoor
open Go.RowKit

structure OpL where
  k : Int
  ad : Option Addr
  cap : Nat
  val : List Int
  n : Int
def OpL.cells (o : OpL) : List Value := [.int .i64 o.k, .slice o.ad o.val.length o.cap, .int .i64 o.n]
structure QS where
  ws : List Int
  qa : Option Addr
  qc : Nat
  Eq : List Ent
  aa : Option Addr
  ac : Nat
  Ea : List Ent
/-- How the queue and the list stand to each other. -/
structure QI (y : QS) (most : Int) (k : Nat) : Prop where
  q : VecO y.qa y.qc y.ws y.Eq
  a : VecO y.aa y.ac y.ws y.Ea
  bys : Bys y.ws
  len : y.ws.length ≤ 300 * k
  fit : (y.ws.length : Int) ≤ most
theorem QI.mono {y : QS} {most : Int} {k k' : Nat} (h : QI y most k) (hk : k ≤ k') : QI y most k' := ⟨h.q, h.a, h.bys, by have := h.len; omega, h.fit⟩
theorem St.mid {p : Nat → Prop} {w0 w : World} {A R L : List Ent} {x : Ent} (h : St p w0 w (A ++ (R ++ (x :: L)))) : St p w0 w (R ++ (x :: (A ++ L))) := by
  have := St.front (R := R ++ [x]) (L := L) A (by simpa only [List.cons_append, List.append_assoc, List.nil_append] using h)
  simpa only [List.cons_append, List.append_assoc, List.nil_append] using this
end Go.Proofs.YtpjbofodllhjbaaDoor
/- stream: StreamSends. -/
namespace Go.Proofs.YtpjbofodllhjbaaDoor
open Go.RowKit

end Go.Proofs.YtpjbofodllhjbaaDoor
/- stream: StreamWrites. -/
namespace Go.Proofs.YtpjbofodllhjbaaDoor
open Go.RowKit

theorem AtAll.at_ {K : List Ent} {a : AtL} (h : AtAll K a) {w : World} (hw : ∀ e ∈ K, e.holds w) : a.At w := by
  obtain ⟨⟨⟨E1, v1, m1⟩, h2, ⟨E3, v3, m3⟩⟩, ⟨E4, v4, m4⟩, h5⟩ := h
  refine ⟨cells_of (enc := SegL.cells) v1 (fun _ => rfl) (by omega) fun e he => hw e (m1 e he), fun s hs => ?_, ?_, cells_of (enc := OthL.cells) v4 (fun _ => rfl) (by omega) fun e he => hw e (m4 e he), fun o ho => ?_⟩
  · obtain ⟨E, v, m⟩ := h2 s hs
    intro h0
    obtain ⟨b, o, e, hr⟩ := v.src2 h0
    exact ⟨b, o, e, hr w fun e he => hw e (m e he)⟩
  · intro h0
    obtain ⟨b, o, e, hr⟩ := v3.src2 h0
    exact ⟨b, o, e, hr w fun e he => hw e (m3 e he)⟩
  · obtain ⟨E, v, m⟩ := h5 o ho
    intro h0
    obtain ⟨b, o, e, hr⟩ := v.src2 h0
    exact ⟨b, o, e, hr w fun e he => hw e (m e he)⟩
theorem MsAll.at {K : List Ent} {m : MsL} (h : MsAll K m) {w : World} (hw : ∀ e ∈ K, e.holds w) : m.At w := by
  obtain ⟨⟨E1, v1, m1⟩, h2, ⟨E3, v3, m3⟩, ⟨E4, v4, m4⟩, h5⟩ := h
  refine ⟨cells_of (enc := CapL.cells) v1 (fun _ => rfl) (by omega) fun e he => hw e (m1 e he), fun s hs => ?_, cells_of (enc := PfL.cells) v3 (fun _ => rfl) (by omega) fun e he => hw e (m3 e he), cells_of (enc := PfL.cells) v4 (fun _ => rfl) (by omega) fun e he => hw e (m4 e he), h5.at_ hw⟩
  obtain ⟨E, v, m⟩ := h2 s hs
  intro h0
  obtain ⟨b, o, e, hr⟩ := v.src2 h0
  exact ⟨b, o, e, hr w fun e he => hw e (m e he)⟩
end Go.Proofs.YtpjbofodllhjbaaDoor
/- The engine: a region that draws its order: what reads only what nobody in the region writes is taken first, although calls come between (the kit's held orders). -/
namespace Go.Proofs.YtpjbofodllhjbaaDoor
open Go.RowKit

section
variable {P : Program} {ops : Array Oper} {Q : Exit → Act → World → Prop} {n : Nat} {p : Nat → Prop} {w0 : World} {o : Oper} {rest os : List Oper} {l : Kn} {L L0 : List Ent} {K : Act → World → Prop}
/-- What is left of the region, as what follows. -/
def RestH (P : Program) (os : List Oper) (Q : Exit → Act → World → Prop) (p : Nat → Prop) (w0 : World) (L0 : List Ent) (g : Nat) (listed : Array Bool) : Act → World → Prop := fun a w => wpAnyH P .any os.toArray (NP Q) (fun w => St p w0 w L0) g listed a w
/-- What is left of a region, of which these are done; the blocks L0 stay as they are. -/
def WRH (P : Program) (os : List Oper) (Q : Exit → Act → World → Prop) (n : Nat) (p : Nat → Prop) (w0 : World) (L0 : List Ent) (g : Nat) (listed : Array Bool) (l : Kn) (L : List Ent) : Prop :=
  ∀ a w, Has n a l → St p w0 w L → RestH P os Q p w0 L0 g listed a w
theorem WC.held {id : Nat} (L0 : List Ent) (hm : P.follows .mixedOrders = true) (h : WRH P os Q n p w0 L0 os.length (Array.replicate os.length false) l L) : WC P (.region id os.toArray true) Q n p w0 l L := fun a w ha hS =>
  Code.wp_mono NP.imp (wp_region_held (S := fun w => St p w0 w L0) hm (by have h1 := h a w.drew ha hS.drew; unfold RestH at h1; simpa using h1))
def wpHeld (P : Program) (ops : Array Oper) (S : World → Prop) (K : Act → Prop) : List Oper → Act → Prop
  | [], a => K a
  | o :: rest, a => ∃ v, YieldsIf P ops S o v a ∧ wpHeld P ops S K rest (a.put o.dst v)
def WH (P : Program) (ops : Array Oper) (K : Act → World → Prop) (n : Nat) (p : Nat → Prop) (w0 : World) (L0 : List Ent) (rest : List Oper) (l : Kn) (L : List Ent) : Prop :=
  ∀ a, Has n a l → wpHeld P ops (fun w => St p w0 w L0) (fun a' => ∀ w, St p w0 w L → K a' w) rest a
theorem anyH_of_held {K : Act → Prop} {S : World → Prop} {w : World} {g : Nat} (hsel : Region.noSelect os.toArray = true) (hw : S w) : ∀ (js : List Nat) (listed : Array Bool) (a : Act), takesB .any os.toArray js listed = true →
    wpHeld P os.toArray S K (js.map (at_ os)) a → (∀ a, K a → wpAnyH P .any os.toArray (NP Q) S g (marks listed js) a w) → wpAnyH P .any os.toArray (NP Q) S (js.length + g) listed a w
  | [], listed, a, _, h, hK => by simpa [marks] using hK a h
  | i :: is, listed, a, hB, h, hK => by
    simp only [takesB, Bool.and_eq_true] at hB
    obtain ⟨⟨hr, hf⟩, hB'⟩ := hB
    obtain ⟨v, hy, h'⟩ := h
    have hr' : i ∈ Region.ready .any os.toArray listed := by simpa using hr
    rw [List.length_cons, show is.length + 1 + g = (is.length + g) + 1 by omega]
    exact wpAnyH_take (at_some hr') hsel hf hr (fun c a w hh => hh) hy hw (anyH_of_held hsel hw is _ _ hB' h' hK)
theorem WRH.first {listed : Array Bool} {g : Nat} (js : List Nat) (hsel : Region.noSelect os.toArray = true) (hB : takesB .any os.toArray js listed = true) (keep : ∀ w, St p w0 w L → St p w0 w L0)
    (h : WH P os.toArray (RestH P os Q p w0 L0 g (marks listed js)) n p w0 L0 (js.map (at_ os)) l L) : WRH P os Q n p w0 L0 (js.length + g) listed l L := fun a w ha hS =>
  anyH_of_held (K := fun a' => ∀ w, St p w0 w L → RestH P os Q p w0 L0 g (marks listed js) a' w) hsel (keep w hS) js listed a hB (h a ha) (fun _ h => h w hS)
theorem WRH.each {g : Nat} {listed : Array Bool} (rs : List Nat) (hr : Region.ready .any os.toArray listed = rs) (hne : rs ≠ [])
    (h : AllOf (fun i => WL P os.toArray (RQ (fun a' w' => St p w0 w' L0 ∧ RestH P os Q p w0 L0 g (listed.setIfInBounds i true) a' w') (NP Q)) n p w0 [at_ os i] l L) rs) : WRH P os Q n p w0 L0 (g + 1) listed l L := fun a w ha hS => by
  refine wpAnyH_all hr hne fun i hi => ?_
  have ho := at_some (listed := listed) (i := i) (by rw [hr]; exact hi)
  have h' : wpList P os.toArray (RQ (fun a' w' => St p w0 w' L0 ∧ RestH P os Q p w0 L0 g (listed.setIfInBounds i true) a' w') (NP Q)) [at_ os i] a w := h.get i hi a w ha hS
  unfold wpOp
  simp only [ho]
  unfold wpList at h'
  split
  · rename_i hwd
    rw [if_pos hwd] at h'
    exact (h'.imp wpRQ (fun h => ⟨h.1, RQ.out h.2⟩)).imp (Oper.wp_mono fun a' w' h => h) id
  · rename_i hwd
    rw [if_neg hwd] at h'
    exact h'
theorem WRH.one {g : Nat} {listed : Array Bool} (i : Nat) (hr : Region.ready .any os.toArray listed = [i])
    (h : WL P os.toArray (RQ (fun a' w' => St p w0 w' L0 ∧ RestH P os Q p w0 L0 g (listed.setIfInBounds i true) a' w') (NP Q)) n p w0 [at_ os i] l L) : WRH P os Q n p w0 L0 (g + 1) listed l L :=
  WRH.each [i] hr (by simp) h
theorem WRH.done {listed : Array Bool} (hB : Region.ready .any os.toArray listed = []) (h : WE Q .normal n p w0 l L) : WRH P os Q n p w0 L0 0 listed l L := fun a w ha hS => ⟨hB, h a w ha hS⟩
theorem WH.nil {listed : Array Bool} {g : Nat} (h : WRH P os Q n p w0 L0 g listed l L) : WH P os.toArray (RestH P os Q p w0 L0 g listed) n p w0 L0 [] l L := fun a ha w hS => h a w ha hS
theorem WL.nilH {listed : Array Bool} {g : Nat} (keep : ∀ w, St p w0 w L → St p w0 w L0) (h : WRH P os Q n p w0 L0 g listed l L) : WL P os.toArray (RQ (fun a' w' => St p w0 w' L0 ∧ RestH P os Q p w0 L0 g listed a' w') (NP Q)) n p w0 [] l L := fun a w ha hS => ⟨keep w hS, h a w ha hS⟩
theorem WH.val {d : Nat} {v : Value} (hv : Val P (fun w => St p w0 w L0) n l o v) (hg : On ops o l) (hd : o.dst = some d) (hn : Nat.blt d n = true)
    (h : WH P ops K n p w0 L0 rest ((d, v) :: l) L) : WH P ops K n p w0 L0 (o :: rest) l L := fun a ha =>
  ⟨v, .inl ⟨hg.ok ha, fun w hw => hv a w ha hw⟩, h _ (ha.put_any hd hn v)⟩
theorem WH.skip {j dj d : Nat} {b : Bool} {v : Value} (hg : o.guard = some (j, b)) (hj : (ops[j]?).bind (·.dst) = some dj) (hl : look l dj = some v) (hv : isB v b = false) (hd : o.dst = some d) (hn : Nat.blt d n = true)
    (h : WH P ops K n p w0 L0 rest ((d, undef) :: l) L) : WH P ops K n p w0 L0 (o :: rest) l L := fun a ha =>
  ⟨undef, .inr ⟨by rw [wanted_not hg hj ha hl hv], rfl⟩, h _ (ha.put_any hd hn _)⟩
theorem WH.test {q : Prop} [Decidable q] {d : Nat} (hv : Val P (fun w => St p w0 w L0) n l o (.bool (decide q))) (hg : On ops o l) (hd : o.dst = some d) (hn : Nat.blt d n = true)
    (ht : q → WH P ops K n p w0 L0 rest ((d, .bool true) :: l) L) (hf : ¬ q → WH P ops K n p w0 L0 rest ((d, .bool false) :: l) L) : WH P ops K n p w0 L0 (o :: rest) l L := by
  by_cases hq : q
  · exact WH.val hv hg hd hn (by rw [decide_eq_true hq]; exact ht hq)
  · exact WH.val hv hg hd hn (by rw [decide_eq_false hq]; exact hf hq)
end
end Go.Proofs.YtpjbofodllhjbaaDoor
/- carrefourlaw07.Plain: a message as the reference has it. -/
namespace Go.Proofs.YtpjbofodllhjbaaDoor
open Go.RowKit

/-- Attributes, a message, as the reference has them. -/
def AtL.rcells (a : AtL) : List Value := [.int .i64 a.has, .int .i64 a.origin, .slice a.pad a.path.length a.pc, .int .i64 a.hop, .int .i64 a.med, .int .i64 a.loc, .int .i64 a.aas, .int .i64 a.aid, .slice a.cad a.comms.length a.cc, .slice a.oad a.others.length a.oc]
def MsL.rcells (m : MsL) : List Value := [.int .i64 m.kind, .int .i64 m.asn, .int .i64 m.hold, .int .u32 m.id, .slice m.kad m.caps.length m.kc, .slice m.gad m.gone.length m.gc, .int .i64 m.atr.has, .int .i64 m.atr.origin, .slice m.atr.pad m.atr.path.length m.atr.pc, .int .i64 m.atr.hop, .int .i64 m.atr.med, .int .i64 m.atr.loc, .int .i64 m.atr.aas, .int .i64 m.atr.aid, .slice m.atr.cad m.atr.comms.length m.atr.cc, .slice m.atr.oad m.atr.others.length m.atr.oc, .slice m.nad m.nets.length m.nc, .int .i64 m.fc, .int .i64 m.fs, .string m.fd]
set_option maxHeartbeats 1000000 in
theorem prefixes_c (w : World) (a : Option Addr) (c : Nat) (ps : List PfL) (hR : RowsAt w a 2 PfL.cells ps) (hn : ps.length ≤ 1000000) :
    Calls Tryd.prog 48 #[.slice a ps.length c] w fun e w' => ∃ ad cc E, e = .returned (.slice ad ps.length cc) ∧ Vec 2 ad ps.length cc (pfsL ps) E ∧ St (fun _ => False) w w' E := by
  refine enter Tryd.func48 rfl Tryd.ntmps48 rfl (St.start (fun _ => False) w) ?_
  refine WC.seq ?_
  refine WC.region ?_
  refine WL.val (v_assign rfl rfl) (.none rfl) rfl rfl ?_
  refine WL.nil ?_
  refine WE.then_n ?_
  refine WC.seq ?_
  refine WC.region ?_
  refine WL.buildSlice rfl rfl Tryd.underlying47 sz_132 zero_132 rfl (by decide) rfl (.none rfl) rfl rfl ?_
  intro g6 hg6
  refine WL.val (v_assign rfl rfl) (.none rfl) rfl rfl ?_
  refine WL.nil ?_
  refine WE.then_n ?_
  refine WC.seq ?_
  refine WC.seq ?_
  refine WC.region ?_
  refine WL.val (v_move rfl rfl) (.none rfl) rfl rfl ?_
  refine WL.val (v_len_slice rfl rfl Tryd.underlying36) (.none rfl) rfl rfl ?_
  refine WL.val (v_move rfl rfl) (.none rfl) rfl rfl ?_
  refine WL.nil ?_
  refine WE.then_n ?_
  refine WC.block ?_
  refine WC.loop (fun x : Nat × Option Addr × Nat × List Ent => [(9, .int .i64 x.1), (8, .int .i64 ps.length), (7, .slice a ps.length c), (3, .slice x.2.1 (ps.take x.1).length x.2.2.1)]) (fun x => x.2.2.2 ++ []) (fun x => x.1 ≤ ps.length ∧ Vec 2 x.2.1 (ps.take x.1).length x.2.2.1 (pfsL (ps.take x.1)) x.2.2.2) (fun x => ps.length - x.1) (0, some ⟨g6, 0, none⟩, 0, [.row g6 []]) ⟨Nat.zero_le _, Vec.row (k := 0) rfl rfl (Nat.le_refl _)⟩ (.cons rfl (.cons rfl (.cons rfl (.cons rfl .nil)))) (.refl _) ?_
  rintro ⟨k, ad, cc, E⟩ ⟨hk, hV⟩
  dsimp only at hk hV
  dsimp only
  refine WC.seq ?_
  refine WC.region ?_
  refine WL.test (v_lss rfl rfl rfl) (.none rfl) rfl rfl (fun h10 => ?_) (fun h10 => ?_)
  · -- 10T
    refine WL.nil ?_
    refine WE.then_n ?_
    refine WC.seq ?_
    refine WC.cond_t rfl ?_
    refine WC.skip ?_
    refine WE.then_n ?_
    refine WC.seq ?_
    refine WC.block ?_
    refine WC.seq ?_
    refine WC.region ?_
    obtain ⟨x, hx⟩ : ∃ x, ps[k]? = some x := ⟨ps[k]'(by omega), List.getElem?_eq_getElem _⟩
    obtain ⟨b, o, ea, hr⟩ := hR k x hx
    have htl : (ps.take k).length = k := (by rw [List.length_take]; omega)
    have hts := take_succ_get hx
    refine WL.val ((v_indexAddr (b := b) (off := o) (lo := k) rfl (by show some (Value.slice a _ _) = _; rw [ea]) rfl Tryd.underlying36 sz_65 rfl (by omega))) (.none rfl) rfl rfl ?_
    refine WL.val ((v_loadN (cs := x.cells) rfl rfl many_65 rfl (rgIn (fun h => h) hr))) (.none rfl) rfl rfl ?_
    refine WL.alloc rfl zero_65 (.none rfl) rfl rfl ?_
    intro g5 hg5
    refine WL.storeW rfl rfl rfl rfl many_65 rfl rfl (.none rfl) rfl ?_
    refine WL.nil ?_
    refine WE.then_n ?_
    refine WC.region ?_
    refine WL.val (v_move rfl rfl) (.none rfl) rfl rfl ?_
    refine WL.val (v_fieldAddr0 rfl rfl fld_65_0) (.none rfl) rfl rfl ?_
    refine WL.val (v_load1 rfl rfl one_34 (cellAt rfl)) (.none rfl) rfl rfl ?_
    refine WL.val (v_fieldAddr0 rfl rfl fld_65_1) (.none rfl) rfl rfl ?_
    refine WL.val (v_load1 rfl rfl one_3 (cellAt rfl)) (.none rfl) rfl rfl ?_
    refine WL.val (v_build rfl rfl zero_132 plc_132 rfl) (.none rfl) rfl rfl ?_
    refine WL.buildSlice rfl rfl Tryd.underlying47 sz_132 zero_132 rfl (by decide) rfl (.none rfl) rfl rfl ?_
    intro g19 hg19
    refine WL.as (L' := .row g19 x.cells :: .row g5 x.cells :: (E ++ [])) rfl ?_
    refine WL.to (L' := E ++ [.row g19 x.cells, .row g5 x.cells]) (fun w hS => by simpa using St.front (R := E) (L := []) [.row g19 x.cells, .row g5 x.cells] hS) ?_
    refine WL.appendL rfl rfl rfl Tryd.underlying47 Tryd.underlying47 sz_132 by_132 zero_132 rfl rfl hV (new := x.cells) (fun _ => ⟨g19, 0, rfl, fun w hS => allAt (g := g19) w hS⟩) rfl rfl (by omega) (.none rfl) rfl rfl ?_
    intro ad20 c20 E20 hV20 hr20
    rw [← pfsL_snoc, ← hts] at hV20
    rw [show (ps.take k).length + 1 = (ps.take (k + 1)).length by rw [hts, List.length_append]; rfl] at hV20 ⊢
    refine WL.val (v_assign rfl rfl) (.none rfl) rfl rfl ?_
    refine WL.nil ?_
    refine WE.block_n ?_
    refine WE.then_n ?_
    refine WC.region ?_
    refine WL.val (v_add rfl rfl rfl (w_i64 (by omega) (by omega))) (.none rfl) rfl rfl ?_
    refine WL.val (v_move rfl rfl) (.none rfl) rfl rfl ?_
    refine WL.nil ?_
    exact WE.next (k + 1, ad20, c20, E20) (by dsimp only; omega) ⟨by dsimp only; omega, hV20⟩ (.int rfl (by dsimp only; omega) (.cons rfl (.cons rfl (.cons rfl .nil)))) (List.Sublist.append_left (List.nil_sublist _) _)
  · -- 10F
    refine WL.nil ?_
    refine WE.then_n ?_
    refine WC.seq ?_
    refine WC.cond_f rfl ?_
    refine WC.exit ?_
    refine WE.then_exit ?_
    refine WE.then_exit ?_
    refine WE.block_hit ?_
    refine WE.then_n ?_
    refine WC.seq ?_
    refine WC.region ?_
    refine WL.val (v_move rfl rfl) (.none rfl) rfl rfl ?_
    refine WL.val (v_assign rfl rfl) (.none rfl) rfl rfl ?_
    refine WL.nil ?_
    refine WE.then_n ?_
    refine WC.ret ?_
    refine WE.ret1 (P := Tryd.prog) (.inl rfl) Tryd.results48 rfl ?_
    have ek : k = ps.length := (by omega)
    rw [ek, List.take_length] at hV ⊢
    exact fun w' h => ⟨ad, cc, E, rfl, hV, h.sub (List.sublist_append_left _ _)⟩
end Go.Proofs.YtpjbofodllhjbaaDoor
/- carrefourlaw07.attrs. -/
namespace Go.Proofs.YtpjbofodllhjbaaDoor
open Go.RowKit

def AtL.r0 (a : AtL) (ad : Option Addr) (c : Nat) (ss : List SegL) (bd : Option Addr) (bc : Nat) (os : List OthL) : AtL := { a with pad := ad, pc := c, path := ss, oad := bd, oc := bc, others := os }
/-- The reference's routes while they are made. -/
def AtL.rc (a : AtL) (ad : Option Addr) (c n : Nat) (bd : Option Addr) (bc m : Nat) : List Value := [.int .i64 a.has, .int .i64 a.origin, .slice ad n c, .int .i64 a.hop, .int .i64 a.med, .int .i64 a.loc, .int .i64 a.aas, .int .i64 a.aid, .slice a.cad a.comms.length a.cc, .slice bd m bc]
set_option maxHeartbeats 4000000 in
theorem attrs_c (w : World) (a : AtL) (ha : a.At w) (hi : a.In) (hp : a.path.length ≤ 1000000) (ho : a.others.length ≤ 1000000) :
    Calls Tryd.prog 49 #[.agg a.cells.toArray] w fun e w' => ∃ ad c bd bc E1 E2, e = .returned (.agg (a.r0 ad c a.path bd bc a.others).rcells.toArray) ∧ Vec 2 ad a.path.length c (segsL a.path) E1 ∧ Vec 2 bd a.others.length bc (othsL a.others) E2 ∧ St (fun _ => False) w w' (E2 ++ E1) := by
  have hhop := hi.hop
  have haid := hi.aid
  unfold U32 at hhop haid
  have hlp : a.path.length ≤ 1000000 := hp
  refine enter Tryd.func49 rfl Tryd.ntmps49 rfl (St.start (fun _ => False) w) ?_
  refine WC.seq ?_
  refine WC.region ?_
  refine WL.box rfl rfl rfl (.none rfl) rfl rfl ?_
  intro g1 hg1
  refine WL.alloc rfl zero_51 (.none rfl) rfl rfl ?_
  intro g2 hg2
  refine WL.nil ?_
  refine WE.then_n ?_
  refine WC.seq ?_
  refine WC.region ?_
  refine WL.val (v_fieldAddr0 rfl rfl fld_41_0) (.none rfl) rfl rfl ?_
  refine WL.val (v_load1 rfl rfl one_3 (cellAt rfl)) (.none rfl) rfl rfl ?_
  refine WL.val (v_fieldAddr0 rfl rfl fld_41_1) (.none rfl) rfl rfl ?_
  refine WL.val (v_load1 rfl rfl one_3 (cellAt rfl)) (.none rfl) rfl rfl ?_
  refine WL.val (v_fieldAddr0 rfl rfl fld_41_3) (.none rfl) rfl rfl ?_
  refine WL.val (v_load1 rfl rfl one_34 (cellAt rfl)) (.none rfl) rfl rfl ?_
  refine WL.val (v_conv rfl rfl Tryd.underlying3 Tryd.underlying34 (w_i64 (by omega) (by omega))) (.none rfl) rfl rfl ?_
  refine WL.val (v_fieldAddr0 rfl rfl fld_41_4) (.none rfl) rfl rfl ?_
  refine WL.val (v_load1 rfl rfl one_3 (cellAt rfl)) (.none rfl) rfl rfl ?_
  refine WL.val (v_fieldAddr0 rfl rfl fld_41_5) (.none rfl) rfl rfl ?_
  refine WL.val (v_load1 rfl rfl one_3 (cellAt rfl)) (.none rfl) rfl rfl ?_
  refine WL.val (v_fieldAddr0 rfl rfl fld_41_6) (.none rfl) rfl rfl ?_
  refine WL.val (v_load1 rfl rfl one_3 (cellAt rfl)) (.none rfl) rfl rfl ?_
  refine WL.val (v_fieldAddr0 rfl rfl fld_41_7) (.none rfl) rfl rfl ?_
  refine WL.val (v_load1 rfl rfl one_34 (cellAt rfl)) (.none rfl) rfl rfl ?_
  refine WL.val (v_conv rfl rfl Tryd.underlying3 Tryd.underlying34 (w_i64 (by omega) (by omega))) (.none rfl) rfl rfl ?_
  refine WL.val (v_fieldAddr0 rfl rfl fld_41_8) (.none rfl) rfl rfl ?_
  refine WL.val (v_load1 rfl rfl one_38 (cellAt rfl)) (.none rfl) rfl rfl ?_
  refine WL.val (v_build rfl rfl zero_51 plc_51 rfl) (.none rfl) rfl rfl ?_
  refine WL.alloc rfl zero_51 (.none rfl) rfl rfl ?_
  intro g3 hg3
  refine WL.storeW rfl rfl rfl rfl many_51 rfl rfl (.none rfl) rfl ?_
  refine WL.as (L' := .row g3 (a.rc none 0 0 none 0 0) :: .row g2 AtL.zero.rcells :: .row g1 a.cells :: []) rfl ?_
  refine WL.nil ?_
  refine WE.then_n ?_
  refine WC.seq ?_
  refine WC.seq ?_
  refine WC.region ?_
  refine WL.val (v_fieldAddr0 rfl rfl fld_41_2) (.none rfl) rfl rfl ?_
  refine WL.val (v_load1 rfl rfl one_37 (cellAt rfl)) (.none rfl) rfl rfl ?_
  refine WL.val (v_len_slice rfl rfl Tryd.underlying37) (.none rfl) rfl rfl ?_
  refine WL.val (v_move rfl rfl) (.none rfl) rfl rfl ?_
  refine WL.nil ?_
  refine WE.then_n ?_
  refine WC.block ?_
  refine WC.loop (fun x : Nat × Option Addr × Nat × List Ent => [(30, .int .i64 x.1), (29, .int .i64 a.path.length), (28, .slice a.pad a.path.length a.pc), (3, .pointer (some ⟨g3, 0, none⟩)), (2, .pointer (some ⟨g2, 0, none⟩)), (1, .pointer (some ⟨g1, 0, none⟩))]) (fun x => x.2.2.2 ++ (.row g3 (a.rc x.2.1 x.2.2.1 x.1 none 0 0) :: .row g2 AtL.zero.rcells :: .row g1 a.cells :: [])) (fun x => x.1 ≤ a.path.length ∧ Vec 2 x.2.1 x.1 x.2.2.1 (segsL (a.path.take x.1)) x.2.2.2) (fun x => a.path.length - x.1) (0, none, 0, []) ⟨Nat.zero_le _, Vec.nil 2⟩ (.cons rfl (.cons rfl (.cons rfl (.cons rfl (.cons rfl (.cons rfl .nil)))))) (.refl _) ?_
  rintro ⟨k, ad, cc, E⟩ ⟨hk, hV⟩
  dsimp only at hk hV
  dsimp only
  refine WC.seq ?_
  refine WC.region ?_
  refine WL.test (v_lss rfl rfl rfl) (.none rfl) rfl rfl (fun h31 => ?_) (fun h31 => ?_)
  · -- 31T
    refine WL.nil ?_
    refine WE.then_n ?_
    refine WC.seq ?_
    refine WC.cond_t rfl ?_
    refine WC.skip ?_
    refine WE.then_n ?_
    refine WC.seq ?_
    refine WC.block ?_
    refine WC.seq ?_
    refine WC.region ?_
    obtain ⟨x, hx⟩ : ∃ x, a.path[k]? = some x := ⟨a.path[k]'(by omega), List.getElem?_eq_getElem _⟩
    obtain ⟨b, o, ea, hr⟩ := ha.path k x hx
    have hts := take_succ_get hx
    refine WL.val ((v_indexAddr (b := b) (off := o) (lo := k) rfl (by show some (Value.slice a.pad _ _) = _; rw [ea]) rfl Tryd.underlying37 sz_113 rfl (by omega))) (.none rfl) rfl rfl ?_
    refine WL.val ((v_loadN (cs := x.cells) rfl rfl many_113 rfl (rgIn (fun h => h) hr))) (.none rfl) rfl rfl ?_
    refine WL.alloc rfl zero_113 (.none rfl) rfl rfl ?_
    intro g5 hg5
    refine WL.storeW rfl rfl rfl rfl many_113 rfl rfl (.none rfl) rfl ?_
    refine WL.nil ?_
    refine WE.then_n ?_
    refine WC.region ?_
    refine WL.val (v_fieldAddr0 rfl rfl fld_51_2) (.none rfl) rfl rfl ?_
    refine WL.val (v_load1 rfl rfl one_48 (cellAt rfl)) (.none rfl) rfl rfl ?_
    refine WL.val (v_fieldAddr0 rfl rfl fld_113_0) (.none rfl) rfl rfl ?_
    refine WL.val (v_load1 rfl rfl one_4 (cellAt rfl)) (.none rfl) rfl rfl ?_
    refine WL.val (v_fieldAddr0 rfl rfl fld_113_1) (.none rfl) rfl rfl ?_
    refine WL.val (v_load1 rfl rfl one_38 (cellAt rfl)) (.none rfl) rfl rfl ?_
    refine WL.val (v_build rfl rfl zero_140 plc_140 rfl) (.none rfl) rfl rfl ?_
    refine WL.buildSlice rfl rfl Tryd.underlying48 sz_140 zero_140 rfl (by decide) rfl (.none rfl) rfl rfl ?_
    intro g41 hg41
    refine WL.as (L' := .row g41 x.cells :: .row g5 x.cells :: (E ++ (.row g3 (a.rc ad cc k none 0 0) :: .row g2 AtL.zero.rcells :: .row g1 a.cells :: []))) rfl ?_
    refine WL.to (L' := E ++ (.row g41 x.cells :: .row g5 x.cells :: .row g3 (a.rc ad cc k none 0 0) :: .row g2 AtL.zero.rcells :: .row g1 a.cells :: [])) (fun w hS => by simpa using St.front (R := E) (L := .row g3 (a.rc ad cc k none 0 0) :: .row g2 AtL.zero.rcells :: .row g1 a.cells :: []) [.row g41 x.cells, .row g5 x.cells] hS) ?_
    refine WL.appendL rfl rfl rfl Tryd.underlying48 Tryd.underlying48 sz_140 by_140 zero_140 rfl rfl hV (new := x.cells) (fun _ => ⟨g41, 0, rfl, fun w hS => allAt (g := g41) w hS⟩) rfl rfl (by omega) (.none rfl) rfl rfl ?_
    intro ad42 c42 E42 hV42 hr42
    rw [← segsL_snoc, ← hts] at hV42
    refine WL.val (v_fieldAddr0 rfl rfl fld_51_2) (.none rfl) rfl rfl ?_
    refine WL.store1 rfl rfl rfl rfl one_48 (Nat.le_of_ble_eq_true rfl) (.none rfl) rfl ?_
    refine WL.as (L' := E42 ++ (.row g41 x.cells :: .row g5 x.cells :: .row g3 (a.rc ad42 c42 (k + 1) none 0 0) :: .row g2 AtL.zero.rcells :: .row g1 a.cells :: [])) rfl ?_
    refine WL.nil ?_
    refine WE.block_n ?_
    refine WE.then_n ?_
    refine WC.region ?_
    refine WL.val (v_add rfl rfl rfl (w_i64 (by omega) (by omega))) (.none rfl) rfl rfl ?_
    refine WL.val (v_move rfl rfl) (.none rfl) rfl rfl ?_
    refine WL.nil ?_
    exact WE.next (k + 1, ad42, c42, E42) (by dsimp only; omega) ⟨by dsimp only; omega, hV42⟩ (.int rfl (by dsimp only; omega) (.cons rfl (.cons rfl (.cons rfl (.cons rfl (.cons rfl .nil)))))) (List.Sublist.append_left (.cons _ (.cons _ (.refl _))) _)
  · -- 31F
    refine WL.nil ?_
    refine WE.then_n ?_
    refine WC.seq ?_
    refine WC.cond_f rfl ?_
    refine WC.exit ?_
    refine WE.then_exit ?_
    refine WE.then_exit ?_
    refine WE.block_hit ?_
    refine WE.then_n ?_
    refine WC.seq ?_
    refine WC.seq ?_
    refine WC.region ?_
    refine WL.val (v_fieldAddr0 rfl rfl fld_41_9) (.none rfl) rfl rfl ?_
    have ek : k = a.path.length := (by omega)
    rw [ek, List.take_length] at hV
    refine WL.as (L' := E ++ (.row g3 (a.rc ad cc a.path.length none 0 0) :: .row g2 AtL.zero.rcells :: .row g1 a.cells :: [])) (by rw [ek]) ?_
    refine WL.to (L' := .row g3 (a.rc ad cc a.path.length none 0 0) :: .row g2 AtL.zero.rcells :: .row g1 a.cells :: E) (fun w hS => by simpa using St.front (R := [.row g3 (a.rc ad cc a.path.length none 0 0), .row g2 AtL.zero.rcells, .row g1 a.cells]) (L := []) E (by simpa using hS)) ?_
    refine WL.val (v_load1 rfl rfl one_39 (cellAt rfl)) (.none rfl) rfl rfl ?_
    refine WL.val (v_len_slice rfl rfl Tryd.underlying39) (.none rfl) rfl rfl ?_
    refine WL.val (v_move rfl rfl) (.none rfl) rfl rfl ?_
    refine WL.nil ?_
    refine WE.then_n ?_
    refine WC.block ?_
    refine WC.loop (fun x : Nat × Option Addr × Nat × List Ent => [(48, .int .i64 x.1), (47, .int .i64 a.others.length), (46, .slice a.oad a.others.length a.oc), (3, .pointer (some ⟨g3, 0, none⟩)), (2, .pointer (some ⟨g2, 0, none⟩)), (1, .pointer (some ⟨g1, 0, none⟩))]) (fun x => x.2.2.2 ++ (.row g3 (a.rc ad cc a.path.length x.2.1 x.2.2.1 x.1) :: .row g2 AtL.zero.rcells :: .row g1 a.cells :: E)) (fun x => x.1 ≤ a.others.length ∧ Vec 2 x.2.1 x.1 x.2.2.1 (othsL (a.others.take x.1)) x.2.2.2) (fun x => a.others.length - x.1) (0, none, 0, []) ⟨Nat.zero_le _, Vec.nil 2⟩ (.cons rfl (.cons rfl (.cons rfl (.cons rfl (.cons rfl (.cons rfl .nil)))))) (.refl _) ?_
    rintro ⟨k2, bd, bc, F⟩ ⟨hk2, hV2⟩
    dsimp only at hk2 hV2
    dsimp only
    refine WC.seq ?_
    refine WC.region ?_
    refine WL.test (v_lss rfl rfl rfl) (.none rfl) rfl rfl (fun h49 => ?_) (fun h49 => ?_)
    · -- 49T
      refine WL.nil ?_
      refine WE.then_n ?_
      refine WC.seq ?_
      refine WC.cond_t rfl ?_
      refine WC.skip ?_
      refine WE.then_n ?_
      refine WC.seq ?_
      refine WC.block ?_
      refine WC.seq ?_
      refine WC.region ?_
      obtain ⟨y, hy⟩ : ∃ y, a.others[k2]? = some y := ⟨a.others[k2]'(by omega), List.getElem?_eq_getElem _⟩
      obtain ⟨b2, o2, ea2, hr2⟩ := ha.oths k2 y hy
      have hts2 := take_succ_get hy
      refine WL.val ((v_indexAddr (b := b2) (off := o2) (lo := k2) rfl (by show some (Value.slice a.oad _ _) = _; rw [ea2]) rfl Tryd.underlying39 sz_115 rfl (by omega))) (.none rfl) rfl rfl ?_
      refine WL.val ((v_loadN (cs := y.cells) rfl rfl many_115 rfl (rgIn (fun h => h) hr2))) (.none rfl) rfl rfl ?_
      refine WL.alloc rfl zero_115 (.none rfl) rfl rfl ?_
      intro g7 hg7
      refine WL.storeW rfl rfl rfl rfl many_115 rfl rfl (.none rfl) rfl ?_
      refine WL.nil ?_
      refine WE.then_n ?_
      refine WC.region ?_
      refine WL.val (v_fieldAddr0 rfl rfl fld_51_9) (.none rfl) rfl rfl ?_
      refine WL.val (v_load1 rfl rfl one_49 (cellAt rfl)) (.none rfl) rfl rfl ?_
      refine WL.val (v_fieldAddr0 rfl rfl fld_115_0) (.none rfl) rfl rfl ?_
      refine WL.val (v_load1 rfl rfl one_3 (cellAt rfl)) (.none rfl) rfl rfl ?_
      refine WL.val (v_fieldAddr0 rfl rfl fld_115_1) (.none rfl) rfl rfl ?_
      refine WL.val (v_load1 rfl rfl one_22 (cellAt rfl)) (.none rfl) rfl rfl ?_
      refine WL.val (v_build rfl rfl zero_135 plc_135 rfl) (.none rfl) rfl rfl ?_
      refine WL.buildSlice rfl rfl Tryd.underlying49 sz_135 zero_135 rfl (by decide) rfl (.none rfl) rfl rfl ?_
      intro g59 hg59
      refine WL.as (L' := .row g59 y.cells :: .row g7 y.cells :: (F ++ (.row g3 (a.rc ad cc a.path.length bd bc k2) :: .row g2 AtL.zero.rcells :: .row g1 a.cells :: E))) rfl ?_
      refine WL.to (L' := F ++ (.row g59 y.cells :: .row g7 y.cells :: .row g3 (a.rc ad cc a.path.length bd bc k2) :: .row g2 AtL.zero.rcells :: .row g1 a.cells :: E)) (fun w hS => by simpa using St.front (R := F) (L := .row g3 (a.rc ad cc a.path.length bd bc k2) :: .row g2 AtL.zero.rcells :: .row g1 a.cells :: E) [.row g59 y.cells, .row g7 y.cells] hS) ?_
      refine WL.appendL rfl rfl rfl Tryd.underlying49 Tryd.underlying49 sz_135 by_135 zero_135 rfl rfl hV2 (new := y.cells) (fun _ => ⟨g59, 0, rfl, fun w hS => allAt (g := g59) w hS⟩) rfl rfl (by omega) (.none rfl) rfl rfl ?_
      intro ad60 c60 E60 hV60 hr60
      rw [← othsL_snoc, ← hts2] at hV60
      refine WL.val (v_fieldAddr0 rfl rfl fld_51_9) (.none rfl) rfl rfl ?_
      refine WL.store1 rfl rfl rfl rfl one_49 (Nat.le_of_ble_eq_true rfl) (.none rfl) rfl ?_
      refine WL.as (L' := E60 ++ (.row g59 y.cells :: .row g7 y.cells :: .row g3 (a.rc ad cc a.path.length ad60 c60 (k2 + 1)) :: .row g2 AtL.zero.rcells :: .row g1 a.cells :: E)) rfl ?_
      refine WL.nil ?_
      refine WE.block_n ?_
      refine WE.then_n ?_
      refine WC.region ?_
      refine WL.val (v_add rfl rfl rfl (w_i64 (by omega) (by omega))) (.none rfl) rfl rfl ?_
      refine WL.val (v_move rfl rfl) (.none rfl) rfl rfl ?_
      refine WL.nil ?_
      exact WE.next (k2 + 1, ad60, c60, E60) (by dsimp only; omega) ⟨by dsimp only; omega, hV60⟩ (.int rfl (by dsimp only; omega) (.cons rfl (.cons rfl (.cons rfl (.cons rfl (.cons rfl .nil)))))) (List.Sublist.append_left (.cons _ (.cons _ (.refl _))) _)
    · -- 49F
      refine WL.nil ?_
      refine WE.then_n ?_
      refine WC.seq ?_
      refine WC.cond_f rfl ?_
      refine WC.exit ?_
      refine WE.then_exit ?_
      refine WE.then_exit ?_
      refine WE.block_hit ?_
      refine WE.then_n ?_
      refine WC.seq ?_
      refine WC.region ?_
      have ek2 : k2 = a.others.length := (by omega)
      rw [ek2, List.take_length] at hV2
      refine WL.as (L' := F ++ (.row g3 (a.rc ad cc a.path.length bd bc a.others.length) :: .row g2 AtL.zero.rcells :: .row g1 a.cells :: E)) (by rw [ek2]) ?_
      refine WL.val (v_loadN rfl rfl many_51 rfl allAt) (.none rfl) rfl rfl ?_
      refine WL.storeW rfl rfl rfl rfl many_51 rfl rfl (.none rfl) rfl ?_
      refine WL.nil ?_
      refine WE.then_n ?_
      refine WC.ret ?_
      refine WE.ret1 (P := Tryd.prog) (.inl rfl) Tryd.results49 (resRow rfl many_51 rfl) ?_
      exact fun w' h => ⟨ad, cc, bd, bc, E, F, rfl, hV, hV2, h.sub (List.Sublist.append_left (.cons _ (.cons _ (.cons _ (.refl _)))) _)⟩
end Go.Proofs.YtpjbofodllhjbaaDoor
/- carrefourlaw07.Plain: walked. -/
namespace Go.Proofs.YtpjbofodllhjbaaDoor
open Go.RowKit

theorem St.permC {p : Nat → Prop} {w0 w : World} {L L' : List Ent} (hS : St p w0 w L) (h : ∀ c : Ent → List Ent → Nat, (∀ e a b l, c e (a :: b :: l) = c e (b :: l) + c e [a]) → (∀ e a l r, c e (a :: (l ++ r)) = c e (l ++ r) + c e [a]) → (∀ e l r, c e (l ++ r) = c e l + c e r) → ∀ e, c e L = c e L') : St p w0 w L' := hS.perm (by
  classical
  refine List.perm_iff_count.2 fun e => (h (fun e l => l.count e) ?_ ?_ ?_ e).symm
  · intro e a b l
    rw [List.count_cons, List.count_singleton]
  · intro e a l r
    rw [List.count_cons, List.count_singleton]
  · intro e l r
    exact List.count_append)
/-- The reference's message while it is made. -/
def MsL.rc (m : MsL) (kad : Option Addr) (kc kn : Nat) (gad : Option Addr) (gc : Nat) (pad : Option Addr) (pc : Nat) (oad : Option Addr) (oc : Nat) (nad : Option Addr) (nc : Nat) : List Value := [.int .i64 m.kind, .int .i64 m.asn, .int .i64 m.hold, .int .u32 m.id, .slice kad kn kc, .slice gad m.gone.length gc, .int .i64 m.atr.has, .int .i64 m.atr.origin, .slice pad m.atr.path.length pc, .int .i64 m.atr.hop, .int .i64 m.atr.med, .int .i64 m.atr.loc, .int .i64 m.atr.aas, .int .i64 m.atr.aid, .slice m.atr.cad m.atr.comms.length m.atr.cc, .slice oad m.atr.others.length oc, .slice nad m.nets.length nc, .int .i64 m.fc, .int .i64 m.fs, .string m.fd]
structure PlS where
  g3 : Nat
  gad : Option Addr
  gc : Nat
  EG : List Ent
  pad : Option Addr
  pc : Nat
  EP : List Ent
  oad : Option Addr
  oc : Nat
  EO : List Ent
  nad : Option Addr
  nc : Nat
  EN : List Ent
structure PlS.Good (x : PlS) (m : MsL) : Prop where
  gone : Vec 2 x.gad m.gone.length x.gc (pfsL m.gone) x.EG
  path : Vec 2 x.pad m.atr.path.length x.pc (segsL m.atr.path) x.EP
  oths : Vec 2 x.oad m.atr.others.length x.oc (othsL m.atr.others) x.EO
  nets : Vec 2 x.nad m.nets.length x.nc (pfsL m.nets) x.EN
def PlS.cells (x : PlS) (m : MsL) (kad : Option Addr) (kc kn : Nat) : List Value := m.rc kad kc kn x.gad x.gc x.pad x.pc x.oad x.oc x.nad x.nc
def PlS.K (x : PlS) : List Ent := x.EG ++ (x.EP ++ (x.EO ++ x.EN))
def PlS.m (x : PlS) (m : MsL) (kad : Option Addr) (kc : Nat) : MsL := { m with kad := kad, kc := kc, gad := x.gad, gc := x.gc, atr := m.atr.r0 x.pad x.pc m.atr.path x.oad x.oc m.atr.others, nad := x.nad, nc := x.nc }
theorem PlS.Good.at_ {x : PlS} {m : MsL} (h : x.Good m) {kad : Option Addr} {kc : Nat} {E : List Ent} (hV : Vec 2 kad m.caps.length kc (capsL m.caps) E) {w : World} (hm : m.At w) (hw : ∀ e ∈ E ++ x.K, e.holds w) : (x.m m kad kc).At w :=
  ⟨cells_of (enc := CapL.cells) hV (fun _ => rfl) (by omega) fun e he => hw e (List.mem_append_left _ he), hm.vals,
   cells_of (enc := PfL.cells) h.gone (fun _ => rfl) (by omega) fun e he => hw e (List.mem_append_right _ (List.mem_append_left _ he)),
   cells_of (enc := PfL.cells) h.nets (fun _ => rfl) (by omega) fun e he => hw e (List.mem_append_right _ (List.mem_append_right _ (List.mem_append_right _ (List.mem_append_right _ he)))),
   ⟨cells_of (enc := SegL.cells) h.path (fun _ => rfl) (by omega) fun e he => hw e (List.mem_append_right _ (List.mem_append_right _ (List.mem_append_left _ he))), hm.at_.segs, hm.at_.comms,
    cells_of (enc := OthL.cells) h.oths (fun _ => rfl) (by omega) fun e he => hw e (List.mem_append_right _ (List.mem_append_right _ (List.mem_append_right _ (List.mem_append_left _ he)))), hm.at_.vals⟩⟩
structure MsL.Few (m : MsL) : Prop where
  caps : m.caps.length ≤ 1000000
  gone : m.gone.length ≤ 1000000
  nets : m.nets.length ≤ 1000000
  path : m.atr.path.length ≤ 1000000
  oths : m.atr.others.length ≤ 1000000
theorem WL.rowAs {P : Program} {ops : Array Oper} {Q : Exit → Act → World → Prop} {n : Nat} {p : Nat → Prop} {w0 : World} {rest : List Oper} {l : Kn} {L L' : List Ent} {g : Nat} {cs cs' : List Value} [ha : At L g cs] [hp : Put L g (.row g cs') L'] (e : cs = cs')
    (h : WL P ops Q n p w0 rest l L') : WL P ops Q n p w0 rest l L := fun a w hA hS => h a w hA (by
  have hm := ha.mem
  rw [e] at hm
  obtain ⟨A, B, e', h1, h2, h3⟩ := hp.ok rfl
  rw [h2]
  have hd : (A ++ Ent.row g cs' :: B).map Ent.at = L.map Ent.at := by
    rw [h1, List.map_append, List.map_append, List.map_cons, List.map_cons, h3]
    rfl
  have hin : ∀ x ∈ A ++ Ent.row g cs' :: B, x ∈ L := fun x hx => by
    rcases List.mem_append.1 hx with hx | hx
    · rw [h1]; exact List.mem_append_left _ hx
    · rcases List.mem_cons.1 hx with rfl | hx
      · exact hm
      · rw [h1]; exact List.mem_append_right _ (List.mem_cons_of_mem _ hx)
  exact ⟨hS.frm, fun x hx => hS.holds x (hin x hx), by rw [hd]; exact hS.dist, fun x hx => hS.mine x (hin x hx)⟩)
set_option maxHeartbeats 8000000 in
theorem Plain_c (w : World) (m : MsL) (hm : m.At w) (hi : m.In) (hf : m.Few) :
    Calls Tryd.prog 20 #[.agg m.cells.toArray] w fun e w' => ∃ (m' : MsL) (K : List Ent), e = .returned (.agg m'.rcells.toArray) ∧ m'.d = m.d ∧ (∀ w2, m.At w2 → (∀ e ∈ K, e.holds w2) → m'.At w2) ∧ St (fun _ => False) w w' K := by
  have hid := hi.id
  unfold U32 at hid
  have hkl := hf.caps
  have hgl := hf.gone
  have hnl := hf.nets
  refine enter Tryd.func20 rfl Tryd.ntmps20 rfl (St.start (fun _ => False) w) ?_
  refine WC.seq ?_
  refine WC.region ?_
  refine WL.box rfl rfl rfl (.none rfl) rfl rfl ?_
  intro g1 hg1
  refine WL.alloc rfl zero_53 (.none rfl) rfl rfl ?_
  intro g2 hg2
  refine WL.nil ?_
  refine WE.then_n ?_
  refine WC.cut (fun x : PlS => [(3, .pointer (some ⟨x.g3, 0, none⟩)), (2, .pointer (some ⟨g2, 0, none⟩)), (1, .pointer (some ⟨g1, 0, none⟩))]) (fun x => .row x.g3 (x.cells m none 0 0) :: .row g2 (MsL.zero 0).rcells :: (x.K ++ [.row g1 m.cells])) (fun x => x.Good m) ?_ ?_
  · -- cutr1
    refine WC.held ([.row g1 m.cells]) mixed ?_
    refine WRH.first (g := 6) [0, 1, 2, 3, 4, 5, 6, 7, 8, 9, 11, 12, 14, 15, 17, 18] (by kernel_rfl) (by kernel_rfl) (fun w hS => hS.sub (by repeat (first | exact List.Sublist.refl _ | exact List.nil_sublist _ | refine List.Sublist.cons _ ?_ | refine List.sublist_append_of_sublist_right ?_))) ?_
    refine WH.val (v_fieldAddr0 rfl rfl fld_43_0) (.none rfl) rfl rfl ?_
    refine WH.val (v_load1 rfl rfl one_3 (cellAt rfl)) (.none rfl) rfl rfl ?_
    refine WH.val (v_fieldAddr0 rfl rfl fld_43_1) (.none rfl) rfl rfl ?_
    refine WH.val (v_load1 rfl rfl one_3 (cellAt rfl)) (.none rfl) rfl rfl ?_
    refine WH.val (v_fieldAddr0 rfl rfl fld_43_2) (.none rfl) rfl rfl ?_
    refine WH.val (v_load1 rfl rfl one_3 (cellAt rfl)) (.none rfl) rfl rfl ?_
    refine WH.val (v_fieldAddr0 rfl rfl fld_43_3) (.none rfl) rfl rfl ?_
    refine WH.val (v_load1 rfl rfl one_34 (cellAt rfl)) (.none rfl) rfl rfl ?_
    refine WH.val (v_fieldAddr0 rfl rfl fld_43_5) (.none rfl) rfl rfl ?_
    refine WH.val (v_load1 rfl rfl one_36 (cellAt rfl)) (.none rfl) rfl rfl ?_
    refine WH.val (v_fieldAddr0 rfl rfl fld_43_6) (.none rfl) rfl rfl ?_
    refine WH.val (v_loadN rfl rfl many_41 rfl (segAt (m := 10) rfl)) (.none rfl) rfl rfl ?_
    refine WH.val (v_fieldAddr0 rfl rfl fld_43_7) (.none rfl) rfl rfl ?_
    refine WH.val (v_load1 rfl rfl one_36 (cellAt rfl)) (.none rfl) rfl rfl ?_
    refine WH.val (v_fieldAddr0 rfl rfl fld_43_8) (.none rfl) rfl rfl ?_
    refine WH.val (v_loadN rfl rfl many_25 rfl (segAt (m := 3) rfl)) (.none rfl) rfl rfl ?_
    refine WH.nil ?_
    refine WRH.each (g := 5) [10, 20] (by kernel_rfl) (by decide) ?_
    refine ⟨?_, ?_⟩
    · -- next 10
      refine WL.call rfl rfl ck_48 (.none rfl) rfl rfl ?_
      intro w1 hS
      refine (prefixes_c w1 m.gad m.gc m.gone ((hm.st hS).gone) (by omega)).mono ?_
      rintro e w' ⟨ad16, c16, E16, rfl, hV16, hS'⟩
      refine ⟨_, _, rfl, hS.join hS', ?_⟩
      refine WL.nilH (fun w hS => hS.sub (by repeat (first | exact List.Sublist.refl _ | exact List.nil_sublist _ | refine List.Sublist.cons _ ?_ | refine List.sublist_append_of_sublist_right ?_))) ?_
      refine WRH.each (g := 4) [13, 20] (by kernel_rfl) (by decide) ?_
      refine ⟨?_, ?_⟩
      · -- next 13
        refine WL.call rfl rfl ck_49 (.none rfl) rfl rfl ?_
        intro w1 hS
        refine (attrs_c w1 m.atr ((hm.st hS).at_) hi.at_ hf.path hf.oths).mono ?_
        rintro e w' ⟨ad19, c19, bd19, bc19, E19, F19, rfl, hV19, hW19, hS'⟩
        refine ⟨_, _, rfl, hS.join hS', ?_⟩
        refine WL.nilH (fun w hS => hS.sub (by repeat (first | exact List.Sublist.refl _ | exact List.nil_sublist _ | refine List.Sublist.cons _ ?_ | refine List.sublist_append_of_sublist_right ?_))) ?_
        refine WRH.each (g := 3) [16, 20] (by kernel_rfl) (by decide) ?_
        refine ⟨?_, ?_⟩
        · -- next 16
          refine WL.call rfl rfl ck_48 (.none rfl) rfl rfl ?_
          intro w1 hS
          refine (prefixes_c w1 m.nad m.nc m.nets ((hm.st hS).nets) (by omega)).mono ?_
          rintro e w' ⟨ad22, c22, E22, rfl, hV22, hS'⟩
          refine ⟨_, _, rfl, hS.join hS', ?_⟩
          refine WL.nilH (fun w hS => hS.sub (by repeat (first | exact List.Sublist.refl _ | exact List.nil_sublist _ | refine List.Sublist.cons _ ?_ | refine List.sublist_append_of_sublist_right ?_))) ?_
          refine WRH.first (g := 2) [19] (by kernel_rfl) (by kernel_rfl) (fun w hS => hS.sub (by repeat (first | exact List.Sublist.refl _ | exact List.nil_sublist _ | refine List.Sublist.cons _ ?_ | refine List.sublist_append_of_sublist_right ?_))) ?_
          refine WH.val (v_build rfl rfl zero_53 plc_53 rfl) (.none rfl) rfl rfl ?_
          refine WH.nil ?_
          refine WRH.one (g := 1) 20 (by kernel_rfl) ?_
          refine WL.alloc rfl zero_53 (.none rfl) rfl rfl ?_
          intro g3 hg3
          refine WL.nilH (fun w hS => hS.sub (by repeat (first | exact List.Sublist.refl _ | exact List.nil_sublist _ | refine List.Sublist.cons _ ?_ | refine List.sublist_append_of_sublist_right ?_))) ?_
          refine WRH.one (g := 0) 21 (by kernel_rfl) ?_
          refine WL.storeW rfl rfl rfl rfl many_53 rfl rfl (.none rfl) rfl ?_
          refine WL.rowAs (g := g3) (cs' := m.rc none 0 0 ad16 c16 ad19 c19 bd19 bc19 ad22 c22) (by kernel_rfl) ?_
          refine WL.rowAs (g := g2) (cs' := (MsL.zero 0).rcells) rfl ?_
          refine WL.to (L' := .row g3 (m.rc none 0 0 ad16 c16 ad19 c19 bd19 bc19 ad22 c22) :: .row g2 (MsL.zero 0).rcells :: ((E16 ++ (E19 ++ (F19 ++ E22))) ++ [.row g1 m.cells])) (fun w hS => hS.permC (by intro c h1 h2 h3 e; simp only [h1, h2, h3]; omega)) ?_
          refine WL.nilH (fun w hS => hS.sub (by repeat (first | exact List.Sublist.refl _ | exact List.nil_sublist _ | refine List.Sublist.cons _ ?_ | refine List.sublist_append_of_sublist_right ?_))) ?_
          refine WRH.done (by kernel_rfl) ?_
          exact WE.mid ⟨g3, ad16, c16, E16, ad19, c19, E19, bd19, bc19, F19, ad22, c22, E22⟩ ⟨hV16, hV19, hW19, hV22⟩ (.cons rfl (.cons rfl (.cons rfl .nil))) (.refl _)
        · -- next 20
          refine WL.alloc rfl zero_53 (.none rfl) rfl rfl ?_
          intro g3 hg3
          refine WL.nilH (fun w hS => hS.sub (by repeat (first | exact List.Sublist.refl _ | exact List.nil_sublist _ | refine List.Sublist.cons _ ?_ | refine List.sublist_append_of_sublist_right ?_))) ?_
          refine WRH.one (g := 2) 16 (by kernel_rfl) ?_
          refine WL.call rfl rfl ck_48 (.none rfl) rfl rfl ?_
          intro w1 hS
          refine (prefixes_c w1 m.nad m.nc m.nets ((hm.st hS).nets) (by omega)).mono ?_
          rintro e w' ⟨ad22, c22, E22, rfl, hV22, hS'⟩
          refine ⟨_, _, rfl, hS.join hS', ?_⟩
          refine WL.nilH (fun w hS => hS.sub (by repeat (first | exact List.Sublist.refl _ | exact List.nil_sublist _ | refine List.Sublist.cons _ ?_ | refine List.sublist_append_of_sublist_right ?_))) ?_
          refine WRH.first (g := 1) [19] (by kernel_rfl) (by kernel_rfl) (fun w hS => hS.sub (by repeat (first | exact List.Sublist.refl _ | exact List.nil_sublist _ | refine List.Sublist.cons _ ?_ | refine List.sublist_append_of_sublist_right ?_))) ?_
          refine WH.val (v_build rfl rfl zero_53 plc_53 rfl) (.none rfl) rfl rfl ?_
          refine WH.nil ?_
          refine WRH.one (g := 0) 21 (by kernel_rfl) ?_
          refine WL.storeW rfl rfl rfl rfl many_53 rfl rfl (.none rfl) rfl ?_
          refine WL.rowAs (g := g3) (cs' := m.rc none 0 0 ad16 c16 ad19 c19 bd19 bc19 ad22 c22) (by kernel_rfl) ?_
          refine WL.rowAs (g := g2) (cs' := (MsL.zero 0).rcells) rfl ?_
          refine WL.to (L' := .row g3 (m.rc none 0 0 ad16 c16 ad19 c19 bd19 bc19 ad22 c22) :: .row g2 (MsL.zero 0).rcells :: ((E16 ++ (E19 ++ (F19 ++ E22))) ++ [.row g1 m.cells])) (fun w hS => hS.permC (by intro c h1 h2 h3 e; simp only [h1, h2, h3]; omega)) ?_
          refine WL.nilH (fun w hS => hS.sub (by repeat (first | exact List.Sublist.refl _ | exact List.nil_sublist _ | refine List.Sublist.cons _ ?_ | refine List.sublist_append_of_sublist_right ?_))) ?_
          refine WRH.done (by kernel_rfl) ?_
          exact WE.mid ⟨g3, ad16, c16, E16, ad19, c19, E19, bd19, bc19, F19, ad22, c22, E22⟩ ⟨hV16, hV19, hW19, hV22⟩ (.cons rfl (.cons rfl (.cons rfl .nil))) (.refl _)
      · -- next 20
        refine WL.alloc rfl zero_53 (.none rfl) rfl rfl ?_
        intro g3 hg3
        refine WL.nilH (fun w hS => hS.sub (by repeat (first | exact List.Sublist.refl _ | exact List.nil_sublist _ | refine List.Sublist.cons _ ?_ | refine List.sublist_append_of_sublist_right ?_))) ?_
        refine WRH.one (g := 3) 13 (by kernel_rfl) ?_
        refine WL.call rfl rfl ck_49 (.none rfl) rfl rfl ?_
        intro w1 hS
        refine (attrs_c w1 m.atr ((hm.st hS).at_) hi.at_ hf.path hf.oths).mono ?_
        rintro e w' ⟨ad19, c19, bd19, bc19, E19, F19, rfl, hV19, hW19, hS'⟩
        refine ⟨_, _, rfl, hS.join hS', ?_⟩
        refine WL.nilH (fun w hS => hS.sub (by repeat (first | exact List.Sublist.refl _ | exact List.nil_sublist _ | refine List.Sublist.cons _ ?_ | refine List.sublist_append_of_sublist_right ?_))) ?_
        refine WRH.one (g := 2) 16 (by kernel_rfl) ?_
        refine WL.call rfl rfl ck_48 (.none rfl) rfl rfl ?_
        intro w1 hS
        refine (prefixes_c w1 m.nad m.nc m.nets ((hm.st hS).nets) (by omega)).mono ?_
        rintro e w' ⟨ad22, c22, E22, rfl, hV22, hS'⟩
        refine ⟨_, _, rfl, hS.join hS', ?_⟩
        refine WL.nilH (fun w hS => hS.sub (by repeat (first | exact List.Sublist.refl _ | exact List.nil_sublist _ | refine List.Sublist.cons _ ?_ | refine List.sublist_append_of_sublist_right ?_))) ?_
        refine WRH.first (g := 1) [19] (by kernel_rfl) (by kernel_rfl) (fun w hS => hS.sub (by repeat (first | exact List.Sublist.refl _ | exact List.nil_sublist _ | refine List.Sublist.cons _ ?_ | refine List.sublist_append_of_sublist_right ?_))) ?_
        refine WH.val (v_build rfl rfl zero_53 plc_53 rfl) (.none rfl) rfl rfl ?_
        refine WH.nil ?_
        refine WRH.one (g := 0) 21 (by kernel_rfl) ?_
        refine WL.storeW rfl rfl rfl rfl many_53 rfl rfl (.none rfl) rfl ?_
        refine WL.rowAs (g := g3) (cs' := m.rc none 0 0 ad16 c16 ad19 c19 bd19 bc19 ad22 c22) (by kernel_rfl) ?_
        refine WL.rowAs (g := g2) (cs' := (MsL.zero 0).rcells) rfl ?_
        refine WL.to (L' := .row g3 (m.rc none 0 0 ad16 c16 ad19 c19 bd19 bc19 ad22 c22) :: .row g2 (MsL.zero 0).rcells :: ((E16 ++ (E19 ++ (F19 ++ E22))) ++ [.row g1 m.cells])) (fun w hS => hS.permC (by intro c h1 h2 h3 e; simp only [h1, h2, h3]; omega)) ?_
        refine WL.nilH (fun w hS => hS.sub (by repeat (first | exact List.Sublist.refl _ | exact List.nil_sublist _ | refine List.Sublist.cons _ ?_ | refine List.sublist_append_of_sublist_right ?_))) ?_
        refine WRH.done (by kernel_rfl) ?_
        exact WE.mid ⟨g3, ad16, c16, E16, ad19, c19, E19, bd19, bc19, F19, ad22, c22, E22⟩ ⟨hV16, hV19, hW19, hV22⟩ (.cons rfl (.cons rfl (.cons rfl .nil))) (.refl _)
    · -- next 20
      refine WL.alloc rfl zero_53 (.none rfl) rfl rfl ?_
      intro g3 hg3
      refine WL.nilH (fun w hS => hS.sub (by repeat (first | exact List.Sublist.refl _ | exact List.nil_sublist _ | refine List.Sublist.cons _ ?_ | refine List.sublist_append_of_sublist_right ?_))) ?_
      refine WRH.one (g := 4) 10 (by kernel_rfl) ?_
      refine WL.call rfl rfl ck_48 (.none rfl) rfl rfl ?_
      intro w1 hS
      refine (prefixes_c w1 m.gad m.gc m.gone ((hm.st hS).gone) (by omega)).mono ?_
      rintro e w' ⟨ad16, c16, E16, rfl, hV16, hS'⟩
      refine ⟨_, _, rfl, hS.join hS', ?_⟩
      refine WL.nilH (fun w hS => hS.sub (by repeat (first | exact List.Sublist.refl _ | exact List.nil_sublist _ | refine List.Sublist.cons _ ?_ | refine List.sublist_append_of_sublist_right ?_))) ?_
      refine WRH.one (g := 3) 13 (by kernel_rfl) ?_
      refine WL.call rfl rfl ck_49 (.none rfl) rfl rfl ?_
      intro w1 hS
      refine (attrs_c w1 m.atr ((hm.st hS).at_) hi.at_ hf.path hf.oths).mono ?_
      rintro e w' ⟨ad19, c19, bd19, bc19, E19, F19, rfl, hV19, hW19, hS'⟩
      refine ⟨_, _, rfl, hS.join hS', ?_⟩
      refine WL.nilH (fun w hS => hS.sub (by repeat (first | exact List.Sublist.refl _ | exact List.nil_sublist _ | refine List.Sublist.cons _ ?_ | refine List.sublist_append_of_sublist_right ?_))) ?_
      refine WRH.one (g := 2) 16 (by kernel_rfl) ?_
      refine WL.call rfl rfl ck_48 (.none rfl) rfl rfl ?_
      intro w1 hS
      refine (prefixes_c w1 m.nad m.nc m.nets ((hm.st hS).nets) (by omega)).mono ?_
      rintro e w' ⟨ad22, c22, E22, rfl, hV22, hS'⟩
      refine ⟨_, _, rfl, hS.join hS', ?_⟩
      refine WL.nilH (fun w hS => hS.sub (by repeat (first | exact List.Sublist.refl _ | exact List.nil_sublist _ | refine List.Sublist.cons _ ?_ | refine List.sublist_append_of_sublist_right ?_))) ?_
      refine WRH.first (g := 1) [19] (by kernel_rfl) (by kernel_rfl) (fun w hS => hS.sub (by repeat (first | exact List.Sublist.refl _ | exact List.nil_sublist _ | refine List.Sublist.cons _ ?_ | refine List.sublist_append_of_sublist_right ?_))) ?_
      refine WH.val (v_build rfl rfl zero_53 plc_53 rfl) (.none rfl) rfl rfl ?_
      refine WH.nil ?_
      refine WRH.one (g := 0) 21 (by kernel_rfl) ?_
      refine WL.storeW rfl rfl rfl rfl many_53 rfl rfl (.none rfl) rfl ?_
      refine WL.rowAs (g := g3) (cs' := m.rc none 0 0 ad16 c16 ad19 c19 bd19 bc19 ad22 c22) (by kernel_rfl) ?_
      refine WL.rowAs (g := g2) (cs' := (MsL.zero 0).rcells) rfl ?_
      refine WL.to (L' := .row g3 (m.rc none 0 0 ad16 c16 ad19 c19 bd19 bc19 ad22 c22) :: .row g2 (MsL.zero 0).rcells :: ((E16 ++ (E19 ++ (F19 ++ E22))) ++ [.row g1 m.cells])) (fun w hS => hS.permC (by intro c h1 h2 h3 e; simp only [h1, h2, h3]; omega)) ?_
      refine WL.nilH (fun w hS => hS.sub (by repeat (first | exact List.Sublist.refl _ | exact List.nil_sublist _ | refine List.Sublist.cons _ ?_ | refine List.sublist_append_of_sublist_right ?_))) ?_
      refine WRH.done (by kernel_rfl) ?_
      exact WE.mid ⟨g3, ad16, c16, E16, ad19, c19, E19, bd19, bc19, F19, ad22, c22, E22⟩ ⟨hV16, hV19, hW19, hV22⟩ (.cons rfl (.cons rfl (.cons rfl .nil))) (.refl _)
  · -- behind cutr1
    intro y hy
    refine WC.seq ?_
    refine WC.seq ?_
    refine WC.region ?_
    refine WL.val (v_fieldAddr0 rfl rfl fld_43_4) (.none rfl) rfl rfl ?_
    refine WL.val (v_load1 rfl rfl one_35 (cellAt rfl)) (.none rfl) rfl rfl ?_
    refine WL.val (v_len_slice rfl rfl Tryd.underlying35) (.none rfl) rfl rfl ?_
    refine WL.val (v_move rfl rfl) (.none rfl) rfl rfl ?_
    refine WL.nil ?_
    refine WE.then_n ?_
    refine WC.block ?_
    refine WC.loop (fun x : Nat × Option Addr × Nat × List Ent => [(29, .int .i64 x.1), (28, .int .i64 m.caps.length), (27, .slice m.kad m.caps.length m.kc), (3, .pointer (some ⟨y.g3, 0, none⟩)), (2, .pointer (some ⟨g2, 0, none⟩)), (1, .pointer (some ⟨g1, 0, none⟩))]) (fun x => x.2.2.2 ++ (.row y.g3 (y.cells m x.2.1 x.2.2.1 x.1) :: .row g2 (MsL.zero 0).rcells :: (y.K ++ [.row g1 m.cells]))) (fun x => x.1 ≤ m.caps.length ∧ Vec 2 x.2.1 x.1 x.2.2.1 (capsL (m.caps.take x.1)) x.2.2.2) (fun x => m.caps.length - x.1) (0, none, 0, []) ⟨Nat.zero_le _, Vec.nil 2⟩ (.cons rfl (.cons rfl (.cons rfl (.cons rfl (.cons rfl (.cons rfl .nil)))))) (.refl _) ?_
    rintro ⟨k, ad, cc, E⟩ ⟨hk, hV⟩
    dsimp only at hk hV
    dsimp only
    refine WC.seq ?_
    refine WC.region ?_
    refine WL.test (v_lss rfl rfl rfl) (.none rfl) rfl rfl (fun h30 => ?_) (fun h30 => ?_)
    · -- 30T
      refine WL.nil ?_
      refine WE.then_n ?_
      refine WC.seq ?_
      refine WC.cond_t rfl ?_
      refine WC.skip ?_
      refine WE.then_n ?_
      refine WC.seq ?_
      refine WC.block ?_
      refine WC.seq ?_
      refine WC.region ?_
      obtain ⟨x, hx⟩ : ∃ x, m.caps[k]? = some x := ⟨m.caps[k]'(by omega), List.getElem?_eq_getElem _⟩
      obtain ⟨b, o, ea, hr⟩ := hm.caps k x hx
      have hts := take_succ_get hx
      refine WL.val ((v_indexAddr (b := b) (off := o) (lo := k) rfl (by show some (Value.slice m.kad _ _) = _; rw [ea]) rfl Tryd.underlying35 sz_109 rfl (by omega))) (.none rfl) rfl rfl ?_
      refine WL.val ((v_loadN (cs := x.cells) rfl rfl many_109 rfl (rgIn (fun h => h) hr))) (.none rfl) rfl rfl ?_
      refine WL.alloc rfl zero_109 (.none rfl) rfl rfl ?_
      intro g5 hg5
      refine WL.storeW rfl rfl rfl rfl many_109 rfl rfl (.none rfl) rfl ?_
      refine WL.nil ?_
      refine WE.then_n ?_
      refine WC.region ?_
      refine WL.val (v_fieldAddr0 rfl rfl fld_53_4) (.none rfl) rfl rfl ?_
      refine WL.val (v_load1 rfl rfl one_46 (cellAt rfl)) (.none rfl) rfl rfl ?_
      refine WL.val (v_fieldAddr0 rfl rfl fld_109_0) (.none rfl) rfl rfl ?_
      refine WL.val (v_load1 rfl rfl one_3 (cellAt rfl)) (.none rfl) rfl rfl ?_
      refine WL.val (v_fieldAddr0 rfl rfl fld_109_1) (.none rfl) rfl rfl ?_
      refine WL.val (v_load1 rfl rfl one_22 (cellAt rfl)) (.none rfl) rfl rfl ?_
      refine WL.val (v_build rfl rfl zero_99 plc_99 rfl) (.none rfl) rfl rfl ?_
      refine WL.buildSlice rfl rfl Tryd.underlying46 sz_99 zero_99 rfl (by decide) rfl (.none rfl) rfl rfl ?_
      intro g40 hg40
      refine WL.as (L' := .row g40 x.cells :: .row g5 x.cells :: (E ++ (.row y.g3 (y.cells m ad cc k) :: .row g2 (MsL.zero 0).rcells :: (y.K ++ [.row g1 m.cells])))) rfl ?_
      refine WL.to (L' := E ++ (.row g40 x.cells :: .row g5 x.cells :: .row y.g3 (y.cells m ad cc k) :: .row g2 (MsL.zero 0).rcells :: (y.K ++ [.row g1 m.cells]))) (fun w hS => by simpa using St.front (R := E) (L := .row y.g3 (y.cells m ad cc k) :: .row g2 (MsL.zero 0).rcells :: (y.K ++ [.row g1 m.cells])) [.row g40 x.cells, .row g5 x.cells] hS) ?_
      refine WL.appendL rfl rfl rfl Tryd.underlying46 Tryd.underlying46 sz_99 by_99 zero_99 rfl rfl hV (new := x.cells) (fun _ => ⟨g40, 0, rfl, fun w hS => allAt (g := g40) w hS⟩) rfl rfl (by omega) (.none rfl) rfl rfl ?_
      intro ad41 c41 E41 hV41 hr41
      rw [← capsL_snoc, ← hts] at hV41
      refine WL.val (v_fieldAddr0 rfl rfl fld_53_4) (.none rfl) rfl rfl ?_
      refine WL.store1 rfl rfl rfl rfl one_46 (Nat.le_of_ble_eq_true rfl) (.none rfl) rfl ?_
      refine WL.as (L' := E41 ++ (.row g40 x.cells :: .row g5 x.cells :: .row y.g3 (y.cells m ad41 c41 (k + 1)) :: .row g2 (MsL.zero 0).rcells :: (y.K ++ [.row g1 m.cells]))) rfl ?_
      refine WL.nil ?_
      refine WE.block_n ?_
      refine WE.then_n ?_
      refine WC.region ?_
      refine WL.val (v_add rfl rfl rfl (w_i64 (by omega) (by omega))) (.none rfl) rfl rfl ?_
      refine WL.val (v_move rfl rfl) (.none rfl) rfl rfl ?_
      refine WL.nil ?_
      exact WE.next (k + 1, ad41, c41, E41) (by dsimp only; omega) ⟨by dsimp only; omega, hV41⟩ (.int rfl (by dsimp only; omega) (.cons rfl (.cons rfl (.cons rfl (.cons rfl (.cons rfl .nil)))))) (List.Sublist.append_left (.cons _ (.cons _ (.refl _))) _)
    · -- 30F
      refine WL.nil ?_
      refine WE.then_n ?_
      refine WC.seq ?_
      refine WC.cond_f rfl ?_
      refine WC.exit ?_
      refine WE.then_exit ?_
      refine WE.then_exit ?_
      refine WE.block_hit ?_
      refine WE.then_n ?_
      refine WC.seq ?_
      refine WC.region ?_
      have ek : k = m.caps.length := (by omega)
      rw [ek, List.take_length] at hV
      refine WL.as (L' := E ++ (.row y.g3 (y.cells m ad cc m.caps.length) :: .row g2 (MsL.zero 0).rcells :: (y.K ++ [.row g1 m.cells]))) (by rw [ek]) ?_
      refine WL.val (v_loadN rfl rfl many_53 rfl (segAt (m := 20) rfl)) (.none rfl) rfl rfl ?_
      refine WL.storeW rfl rfl rfl rfl many_53 rfl rfl (.none rfl) rfl ?_
      refine WL.nil ?_
      refine WE.then_n ?_
      refine WC.ret ?_
      refine WE.ret1 (P := Tryd.prog) (.inl rfl) Tryd.results20 (resRow rfl many_53 rfl) ?_
      exact fun w' h => ⟨y.m m ad cc, E ++ y.K, rfl, rfl, fun w2 h1 h2 => hy.at_ hV h1 h2, h.sub (List.Sublist.append_left (.cons _ (.cons _ (List.sublist_append_left _ _))) _)⟩
end Go.Proofs.YtpjbofodllhjbaaDoor
/- carrefourref06.list and Same, carrefourref07.same and Same: what says the same is the same. -/
namespace Go.Proofs.YtpjbofodllhjbaaDoor
open Go.RowKit

theorem rgOne {w : World} {b o k : Nat} {cs : List Value} {v : Value} (h : w.rangeAt b o cs) (hk : cs[k]? = some v) : w.cell? ⟨b, o + k * 1, none⟩ = some v := by rw [Nat.mul_one]; exact h k v hk
theorem list_c (w : World) (a b : Option Addr) (ca cb : Nat) (xs ys : List Int) (e : xs = ys) (h1 : CellsAt w a (i64s xs)) (h2 : CellsAt w b (i64s ys)) (hn : xs.length ≤ 9223372036854775807) :
    Calls Tryd.prog 69 #[.slice a xs.length ca, .slice b ys.length cb] w fun e w' => e = .returned (.bool true) ∧ Frm (fun _ => False) w w' := by
  subst e
  refine enter Tryd.func69 rfl Tryd.ntmps69 rfl (St.start (fun _ => False) w) ?_
  refine WC.seq ?_
  refine WC.region ?_
  refine WL.val (v_assign rfl rfl) (.none rfl) rfl rfl ?_
  refine WL.nil ?_
  refine WE.then_n ?_
  refine WC.seq ?_
  refine WC.seq ?_
  refine WC.region ?_
  refine WL.val (v_move rfl rfl) (.none rfl) rfl rfl ?_
  refine WL.val (v_len_slice rfl rfl Tryd.underlying38) (.none rfl) rfl rfl ?_
  refine WL.val (v_move rfl rfl) (.none rfl) rfl rfl ?_
  refine WL.val (v_len_slice rfl rfl Tryd.underlying38) (.none rfl) rfl rfl ?_
  refine WL.val ((v_neq rfl rfl rfl).f (by omega)) (.none rfl) rfl rfl ?_
  refine WL.nil ?_
  refine WE.then_n ?_
  refine WC.cond_f rfl ?_
  refine WC.skip ?_
  refine WE.then_n ?_
  refine WC.seq ?_
  refine WC.seq ?_
  refine WC.region ?_
  refine WL.val (v_move rfl rfl) (.none rfl) rfl rfl ?_
  refine WL.val (v_len_slice rfl rfl Tryd.underlying38) (.none rfl) rfl rfl ?_
  refine WL.val (v_move rfl rfl) (.none rfl) rfl rfl ?_
  refine WL.nil ?_
  refine WE.then_n ?_
  refine WC.block ?_
  refine WC.loop (fun k : Nat => [(13, .int .i64 k), (12, .int .i64 xs.length), (1, .slice b xs.length cb), (0, .slice a xs.length ca)]) (fun _ => []) (fun k => k ≤ xs.length) (fun k => xs.length - k) 0 (Nat.zero_le _) (.cons rfl (.cons rfl (.cons rfl (.cons rfl .nil)))) (.refl _) ?_
  intro k hk
  refine WC.seq ?_
  refine WC.region ?_
  refine WL.test (v_lss rfl rfl rfl) (.none rfl) rfl rfl (fun h14 => ?_) (fun h14 => ?_)
  · -- 14T
    refine WL.nil ?_
    refine WE.then_n ?_
    refine WC.seq ?_
    refine WC.cond_t rfl ?_
    refine WC.skip ?_
    refine WE.then_n ?_
    refine WC.seq ?_
    refine WC.block ?_
    refine WC.seq ?_
    refine WC.region ?_
    refine WL.val (v_move rfl rfl) (.none rfl) rfl rfl ?_
    refine WL.val (v_assign rfl rfl) (.none rfl) rfl rfl ?_
    refine WL.nil ?_
    refine WE.then_n ?_
    refine WC.seq ?_
    refine WC.quiet mixed (by kernel_rfl) ?_
    obtain ⟨x, hx⟩ : ∃ x, xs[k]? = some x := ⟨xs[k]'(by omega), List.getElem?_eq_getElem _⟩
    obtain ⟨b1, o1, e1, r1⟩ := h1 (by rw [i64s_len]; omega)
    obtain ⟨b2, o2, e2, r2⟩ := h2 (by rw [i64s_len]; omega)
    refine WQ.val (v_move rfl rfl) (.none rfl) rfl rfl ?_
    refine WQ.val (v_move rfl rfl) (.none rfl) rfl rfl ?_
    refine WQ.val ((v_indexAddr (b := b1) (off := o1) (lo := k) rfl (by show some (Value.slice a _ _) = _; rw [e1]) rfl Tryd.underlying38 sz_3 rfl (by omega))) (.none rfl) rfl rfl ?_
    refine WQ.val (v_load1 rfl rfl one_3 (cellOld (fun h => h) (rgOne r1 (i64s_get hx)))) (.none rfl) rfl rfl ?_
    refine WQ.val (v_move rfl rfl) (.none rfl) rfl rfl ?_
    refine WQ.val (v_move rfl rfl) (.none rfl) rfl rfl ?_
    refine WQ.val ((v_indexAddr (b := b2) (off := o2) (lo := k) rfl (by show some (Value.slice b _ _) = _; rw [e2]) rfl Tryd.underlying38 sz_3 rfl (by omega))) (.none rfl) rfl rfl ?_
    refine WQ.val (v_load1 rfl rfl one_3 (cellOld (fun h => h) (rgOne r2 (i64s_get hx)))) (.none rfl) rfl rfl ?_
    refine WQ.val ((v_neq rfl rfl rfl).f (by omega)) (.none rfl) rfl rfl ?_
    refine WQ.nil ?_
    refine WE.then_n ?_
    refine WC.cond_f rfl ?_
    refine WC.skip ?_
    refine WE.block_n ?_
    refine WE.then_n ?_
    refine WC.region ?_
    refine WL.val (v_add rfl rfl rfl (w_i64 (by omega) (by omega))) (.none rfl) rfl rfl ?_
    refine WL.val (v_move rfl rfl) (.none rfl) rfl rfl ?_
    refine WL.nil ?_
    exact WE.next (k + 1) (by omega) (by omega) (.int rfl (by omega) (.cons rfl (.cons rfl (.cons rfl .nil)))) (.refl _)
  · -- 14F
    refine WL.nil ?_
    refine WE.then_n ?_
    refine WC.seq ?_
    refine WC.cond_f rfl ?_
    refine WC.exit ?_
    refine WE.then_exit ?_
    refine WE.then_exit ?_
    refine WE.block_hit ?_
    refine WE.then_n ?_
    refine WC.seq ?_
    refine WC.region ?_
    refine WL.val (v_assign rfl rfl) (.none rfl) rfl rfl ?_
    refine WL.nil ?_
    refine WE.then_n ?_
    refine WC.ret ?_
    refine WE.ret1 (P := Tryd.prog) (.inl rfl) Tryd.results69 rfl ?_
    exact fun w' h => ⟨rfl, h.frm⟩
theorem same_c (w : World) (a b : Option Addr) (ca cb : Nat) (xs ys : List PfL) (e : xs = ys) (h1 : RowsAt w a 2 PfL.cells xs) (h2 : RowsAt w b 2 PfL.cells ys) (hn : xs.length ≤ 1000000) :
    Calls Tryd.prog 46 #[.slice a xs.length ca, .slice b ys.length cb] w fun e w' => e = .returned (.bool true) ∧ Frm (fun _ => False) w w' := by
  subst e
  refine enter Tryd.func46 rfl Tryd.ntmps46 rfl (St.start (fun _ => False) w) ?_
  refine WC.seq ?_
  refine WC.region ?_
  refine WL.val (v_assign rfl rfl) (.none rfl) rfl rfl ?_
  refine WL.nil ?_
  refine WE.then_n ?_
  refine WC.seq ?_
  refine WC.seq ?_
  refine WC.region ?_
  refine WL.val (v_move rfl rfl) (.none rfl) rfl rfl ?_
  refine WL.val (v_len_slice rfl rfl Tryd.underlying47) (.none rfl) rfl rfl ?_
  refine WL.val (v_move rfl rfl) (.none rfl) rfl rfl ?_
  refine WL.val (v_len_slice rfl rfl Tryd.underlying47) (.none rfl) rfl rfl ?_
  refine WL.val ((v_neq rfl rfl rfl).f (by omega)) (.none rfl) rfl rfl ?_
  refine WL.nil ?_
  refine WE.then_n ?_
  refine WC.cond_f rfl ?_
  refine WC.skip ?_
  refine WE.then_n ?_
  refine WC.seq ?_
  refine WC.seq ?_
  refine WC.region ?_
  refine WL.val (v_move rfl rfl) (.none rfl) rfl rfl ?_
  refine WL.val (v_len_slice rfl rfl Tryd.underlying47) (.none rfl) rfl rfl ?_
  refine WL.val (v_move rfl rfl) (.none rfl) rfl rfl ?_
  refine WL.nil ?_
  refine WE.then_n ?_
  refine WC.block ?_
  refine WC.loop (fun k : Nat => [(13, .int .i64 k), (12, .int .i64 xs.length), (1, .slice b xs.length cb), (0, .slice a xs.length ca)]) (fun _ => []) (fun k => k ≤ xs.length) (fun k => xs.length - k) 0 (Nat.zero_le _) (.cons rfl (.cons rfl (.cons rfl (.cons rfl .nil)))) (.refl _) ?_
  intro k hk
  refine WC.seq ?_
  refine WC.region ?_
  refine WL.test (v_lss rfl rfl rfl) (.none rfl) rfl rfl (fun h14 => ?_) (fun h14 => ?_)
  · -- 14T
    refine WL.nil ?_
    refine WE.then_n ?_
    refine WC.seq ?_
    refine WC.cond_t rfl ?_
    refine WC.skip ?_
    refine WE.then_n ?_
    refine WC.seq ?_
    refine WC.block ?_
    refine WC.seq ?_
    refine WC.region ?_
    refine WL.val (v_move rfl rfl) (.none rfl) rfl rfl ?_
    refine WL.val (v_assign rfl rfl) (.none rfl) rfl rfl ?_
    refine WL.nil ?_
    refine WE.then_n ?_
    refine WC.seq ?_
    refine WC.quiet mixed (by kernel_rfl) ?_
    obtain ⟨x, hx⟩ : ∃ x, xs[k]? = some x := ⟨xs[k]'(by omega), List.getElem?_eq_getElem _⟩
    obtain ⟨b1, o1, e1, r1⟩ := h1 k x hx
    obtain ⟨b2, o2, e2, r2⟩ := h2 k x hx
    refine WQ.val (v_move rfl rfl) (.none rfl) rfl rfl ?_
    refine WQ.val (v_move rfl rfl) (.none rfl) rfl rfl ?_
    refine WQ.val ((v_indexAddr (b := b1) (off := o1) (lo := k) rfl (by show some (Value.slice a _ _) = _; rw [e1]) rfl Tryd.underlying47 sz_132 rfl (by omega))) (.none rfl) rfl rfl ?_
    refine WQ.val ((v_loadN (cs := x.cells) rfl rfl many_132 rfl (rgIn (fun h => h) r1))) (.none rfl) rfl rfl ?_
    refine WQ.val (v_move rfl rfl) (.none rfl) rfl rfl ?_
    refine WQ.val (v_move rfl rfl) (.none rfl) rfl rfl ?_
    refine WQ.val ((v_indexAddr (b := b2) (off := o2) (lo := k) rfl (by show some (Value.slice b _ _) = _; rw [e2]) rfl Tryd.underlying47 sz_132 rfl (by omega))) (.none rfl) rfl rfl ?_
    refine WQ.val ((v_loadN (cs := x.cells) rfl rfl many_132 rfl (rgIn (fun h => h) r2))) (.none rfl) rfl rfl ?_
    refine WQ.val (v_neq_aggF rfl rfl rfl eqk_132 eqg_132 rfl rfl (by rfl)) (.none rfl) rfl rfl ?_
    refine WQ.nil ?_
    refine WE.then_n ?_
    refine WC.cond_f rfl ?_
    refine WC.skip ?_
    refine WE.block_n ?_
    refine WE.then_n ?_
    refine WC.region ?_
    refine WL.val (v_add rfl rfl rfl (w_i64 (by omega) (by omega))) (.none rfl) rfl rfl ?_
    refine WL.val (v_move rfl rfl) (.none rfl) rfl rfl ?_
    refine WL.nil ?_
    exact WE.next (k + 1) (by omega) (by omega) (.int rfl (by omega) (.cons rfl (.cons rfl (.cons rfl .nil)))) (.refl _)
  · -- 14F
    refine WL.nil ?_
    refine WE.then_n ?_
    refine WC.seq ?_
    refine WC.cond_f rfl ?_
    refine WC.exit ?_
    refine WE.then_exit ?_
    refine WE.then_exit ?_
    refine WE.block_hit ?_
    refine WE.then_n ?_
    refine WC.seq ?_
    refine WC.region ?_
    refine WL.val (v_assign rfl rfl) (.none rfl) rfl rfl ?_
    refine WL.nil ?_
    refine WE.then_n ?_
    refine WC.ret ?_
    refine WE.ret1 (P := Tryd.prog) (.inl rfl) Tryd.results46 rfl ?_
    exact fun w' h => ⟨rfl, h.frm⟩
end Go.Proofs.YtpjbofodllhjbaaDoor
/- carrefourref06.Same, carrefourref07.Same: what says the same is the same. -/
namespace Go.Proofs.YtpjbofodllhjbaaDoor
open Go.RowKit

theorem map_get_eq {α β : Type} {f : α → β} {xs ys : List α} (h : xs.map f = ys.map f) {k : Nat} {x : α} (hx : xs[k]? = some x) : ∃ y, ys[k]? = some y ∧ f x = f y := by
  have e : (xs.map f)[k]? = (ys.map f)[k]? := by rw [h]
  rw [List.getElem?_map, List.getElem?_map, hx] at e
  cases hy : ys[k]? with
  | none => rw [hy] at e; cases e
  | some y => rw [hy] at e; exact ⟨y, rfl, Option.some.inj e⟩
theorem map_len_eq {α β : Type} {f : α → β} {xs ys : List α} (h : xs.map f = ys.map f) : xs.length = ys.length := by
  have e := congrArg List.length h
  rwa [List.length_map, List.length_map] at e
theorem rdVal {w w' : World} {L : List Ent} {ad : Option Addr} {xs : List Int} (h : CellsAt w ad (u8s xs)) (hS : St (fun _ => False) w w' L) : RdO w' ad xs.length (fOf xs) := fun hn => by
  obtain ⟨b, o, e, hr⟩ := h (by rw [u8s_len]; exact hn)
  exact ⟨b, o, e, rd_u8s (hS.rng (fun _ h => h) _ _ _ hr)⟩
set_option maxHeartbeats 4000000 in
theorem RSame06_c (w : World) (A B : AtL) (hA : A.At w) (hB : B.At w) (he : A.d = B.d) (hI : A.In) (hp : A.path.length ≤ 1000000) (ho : A.others.length ≤ 1000000) :
    Calls Tryd.prog 47 #[.agg A.rcells.toArray, .agg B.rcells.toArray] w fun e w' => e = .returned (.bool true) ∧ Frm (fun _ => False) w w' := by
  have e1 : A.has = B.has := congrArg AtD.has he
  have e2 : A.origin = B.origin := congrArg AtD.origin he
  have e3 : A.hop = B.hop := congrArg AtD.hop he
  have e4 : A.med = B.med := congrArg AtD.med he
  have e5 : A.loc = B.loc := congrArg AtD.loc he
  have e6 : A.aas = B.aas := congrArg AtD.aas he
  have e7 : A.aid = B.aid := congrArg AtD.aid he
  have e8 : A.comms = B.comms := congrArg AtD.comms he
  have e9 : A.path.map segD = B.path.map segD := congrArg AtD.path he
  have e10 : A.others.map othD = B.others.map othD := congrArg AtD.others he
  have l9 := map_len_eq e9
  have l10 := map_len_eq e10
  refine enter Tryd.func47 rfl Tryd.ntmps47 rfl (St.start (fun _ => False) w) ?_
  refine WC.seq ?_
  refine WC.region ?_
  refine WL.box rfl rfl rfl (.none rfl) rfl rfl ?_
  intro g2 hg2
  refine WL.box rfl rfl rfl (.none rfl) rfl rfl ?_
  intro g3 hg3
  refine WL.val (v_assign rfl rfl) (.none rfl) rfl rfl ?_
  refine WL.nil ?_
  refine WE.then_n ?_
  refine WC.seq ?_
  refine WC.seq ?_
  refine WC.region ?_
  refine WL.val (v_fieldAddr0 rfl rfl fld_51_0) (.none rfl) rfl rfl ?_
  refine WL.val (v_load1 rfl rfl one_3 (cellAt rfl)) (.none rfl) rfl rfl ?_
  refine WL.val (v_fieldAddr0 rfl rfl fld_51_0) (.none rfl) rfl rfl ?_
  refine WL.val (v_load1 rfl rfl one_3 (cellAt rfl)) (.none rfl) rfl rfl ?_
  refine WL.val ((v_neq rfl rfl rfl).f (by omega)) (.none rfl) rfl rfl ?_
  refine WL.val (v_move rfl rfl) (.none rfl) rfl rfl ?_
  refine WL.val (v_fieldAddr0 rfl rfl fld_51_1) (.some rfl rfl rfl) rfl rfl ?_
  refine WL.val (v_load1 rfl rfl one_3 (cellAt rfl)) (.some rfl rfl rfl) rfl rfl ?_
  refine WL.val (v_fieldAddr0 rfl rfl fld_51_1) (.some rfl rfl rfl) rfl rfl ?_
  refine WL.val (v_load1 rfl rfl one_3 (cellAt rfl)) (.some rfl rfl rfl) rfl rfl ?_
  refine WL.val ((v_neq rfl rfl rfl).f (by omega)) (.some rfl rfl rfl) rfl rfl ?_
  refine WL.val (v_pick_f rfl rfl rfl) (.none rfl) rfl rfl ?_
  refine WL.val (v_move rfl rfl) (.none rfl) rfl rfl ?_
  refine WL.val (v_fieldAddr0 rfl rfl fld_51_3) (.some rfl rfl rfl) rfl rfl ?_
  refine WL.val (v_load1 rfl rfl one_3 (cellAt rfl)) (.some rfl rfl rfl) rfl rfl ?_
  refine WL.val (v_fieldAddr0 rfl rfl fld_51_3) (.some rfl rfl rfl) rfl rfl ?_
  refine WL.val (v_load1 rfl rfl one_3 (cellAt rfl)) (.some rfl rfl rfl) rfl rfl ?_
  refine WL.val ((v_neq rfl rfl rfl).f (by omega)) (.some rfl rfl rfl) rfl rfl ?_
  refine WL.val (v_pick_f rfl rfl rfl) (.none rfl) rfl rfl ?_
  refine WL.val (v_move rfl rfl) (.none rfl) rfl rfl ?_
  refine WL.val (v_fieldAddr0 rfl rfl fld_51_4) (.some rfl rfl rfl) rfl rfl ?_
  refine WL.val (v_load1 rfl rfl one_3 (cellAt rfl)) (.some rfl rfl rfl) rfl rfl ?_
  refine WL.val (v_fieldAddr0 rfl rfl fld_51_4) (.some rfl rfl rfl) rfl rfl ?_
  refine WL.val (v_load1 rfl rfl one_3 (cellAt rfl)) (.some rfl rfl rfl) rfl rfl ?_
  refine WL.val ((v_neq rfl rfl rfl).f (by omega)) (.some rfl rfl rfl) rfl rfl ?_
  refine WL.val (v_pick_f rfl rfl rfl) (.none rfl) rfl rfl ?_
  refine WL.val (v_move rfl rfl) (.none rfl) rfl rfl ?_
  refine WL.val (v_fieldAddr0 rfl rfl fld_51_5) (.some rfl rfl rfl) rfl rfl ?_
  refine WL.val (v_load1 rfl rfl one_3 (cellAt rfl)) (.some rfl rfl rfl) rfl rfl ?_
  refine WL.val (v_fieldAddr0 rfl rfl fld_51_5) (.some rfl rfl rfl) rfl rfl ?_
  refine WL.val (v_load1 rfl rfl one_3 (cellAt rfl)) (.some rfl rfl rfl) rfl rfl ?_
  refine WL.val ((v_neq rfl rfl rfl).f (by omega)) (.some rfl rfl rfl) rfl rfl ?_
  refine WL.val (v_pick_f rfl rfl rfl) (.none rfl) rfl rfl ?_
  refine WL.val (v_move rfl rfl) (.none rfl) rfl rfl ?_
  refine WL.val (v_fieldAddr0 rfl rfl fld_51_6) (.some rfl rfl rfl) rfl rfl ?_
  refine WL.val (v_load1 rfl rfl one_3 (cellAt rfl)) (.some rfl rfl rfl) rfl rfl ?_
  refine WL.val (v_fieldAddr0 rfl rfl fld_51_6) (.some rfl rfl rfl) rfl rfl ?_
  refine WL.val (v_load1 rfl rfl one_3 (cellAt rfl)) (.some rfl rfl rfl) rfl rfl ?_
  refine WL.val ((v_neq rfl rfl rfl).f (by omega)) (.some rfl rfl rfl) rfl rfl ?_
  refine WL.val (v_pick_f rfl rfl rfl) (.none rfl) rfl rfl ?_
  refine WL.val (v_move rfl rfl) (.none rfl) rfl rfl ?_
  refine WL.val (v_fieldAddr0 rfl rfl fld_51_7) (.some rfl rfl rfl) rfl rfl ?_
  refine WL.val (v_load1 rfl rfl one_3 (cellAt rfl)) (.some rfl rfl rfl) rfl rfl ?_
  refine WL.val (v_fieldAddr0 rfl rfl fld_51_7) (.some rfl rfl rfl) rfl rfl ?_
  refine WL.val (v_load1 rfl rfl one_3 (cellAt rfl)) (.some rfl rfl rfl) rfl rfl ?_
  refine WL.val ((v_neq rfl rfl rfl).f (by omega)) (.some rfl rfl rfl) rfl rfl ?_
  refine WL.val (v_pick_f rfl rfl rfl) (.none rfl) rfl rfl ?_
  refine WL.val (v_move rfl rfl) (.none rfl) rfl rfl ?_
  refine WL.val (v_fieldAddr0 rfl rfl fld_51_8) (.some rfl rfl rfl) rfl rfl ?_
  refine WL.val (v_load1 rfl rfl one_38 (cellAt rfl)) (.some rfl rfl rfl) rfl rfl ?_
  refine WL.val (v_fieldAddr0 rfl rfl fld_51_8) (.some rfl rfl rfl) rfl rfl ?_
  refine WL.val (v_load1 rfl rfl one_38 (cellAt rfl)) (.some rfl rfl rfl) rfl rfl ?_
  refine WL.call rfl rfl ck_69 (.some rfl rfl rfl) rfl rfl ?_
  intro w hS
  refine Calls.then (list_c _ A.cad B.cad A.cc B.cc A.comms B.comms e8 ((hA.st hS).comms) ((hB.st hS).comms) hI.lens.2.1) hS ?_
  refine WL.val (v_not rfl rfl rfl) (.some rfl rfl rfl) rfl rfl ?_
  refine WL.val (v_pick_f rfl rfl rfl) (.none rfl) rfl rfl ?_
  refine WL.val (v_move rfl rfl) (.none rfl) rfl rfl ?_
  refine WL.val (v_fieldAddr0 rfl rfl fld_51_2) (.some rfl rfl rfl) rfl rfl ?_
  refine WL.val (v_load1 rfl rfl one_48 (cellAt rfl)) (.some rfl rfl rfl) rfl rfl ?_
  refine WL.val (v_len_slice rfl rfl Tryd.underlying48) (.some rfl rfl rfl) rfl rfl ?_
  refine WL.val (v_fieldAddr0 rfl rfl fld_51_2) (.some rfl rfl rfl) rfl rfl ?_
  refine WL.val (v_load1 rfl rfl one_48 (cellAt rfl)) (.some rfl rfl rfl) rfl rfl ?_
  refine WL.val (v_len_slice rfl rfl Tryd.underlying48) (.some rfl rfl rfl) rfl rfl ?_
  refine WL.val ((v_neq rfl rfl rfl).f (by omega)) (.some rfl rfl rfl) rfl rfl ?_
  refine WL.val (v_pick_f rfl rfl rfl) (.none rfl) rfl rfl ?_
  refine WL.val (v_move rfl rfl) (.none rfl) rfl rfl ?_
  refine WL.val (v_fieldAddr0 rfl rfl fld_51_9) (.some rfl rfl rfl) rfl rfl ?_
  refine WL.val (v_load1 rfl rfl one_49 (cellAt rfl)) (.some rfl rfl rfl) rfl rfl ?_
  refine WL.val (v_len_slice rfl rfl Tryd.underlying49) (.some rfl rfl rfl) rfl rfl ?_
  refine WL.val (v_fieldAddr0 rfl rfl fld_51_9) (.some rfl rfl rfl) rfl rfl ?_
  refine WL.val (v_load1 rfl rfl one_49 (cellAt rfl)) (.some rfl rfl rfl) rfl rfl ?_
  refine WL.val (v_len_slice rfl rfl Tryd.underlying49) (.some rfl rfl rfl) rfl rfl ?_
  refine WL.val ((v_neq rfl rfl rfl).f (by omega)) (.some rfl rfl rfl) rfl rfl ?_
  refine WL.val (v_pick_f rfl rfl rfl) (.none rfl) rfl rfl ?_
  refine WL.nil ?_
  refine WE.then_n ?_
  refine WC.cond_f rfl ?_
  refine WC.skip ?_
  refine WE.then_n ?_
  refine WC.seq ?_
  refine WC.seq ?_
  refine WC.region ?_
  refine WL.val (v_fieldAddr0 rfl rfl fld_51_2) (.none rfl) rfl rfl ?_
  refine WL.val (v_load1 rfl rfl one_48 (cellAt rfl)) (.none rfl) rfl rfl ?_
  refine WL.val (v_len_slice rfl rfl Tryd.underlying48) (.none rfl) rfl rfl ?_
  refine WL.val (v_move rfl rfl) (.none rfl) rfl rfl ?_
  refine WL.nil ?_
  refine WE.then_n ?_
  refine WC.block ?_
  refine WC.loop (fun k : Nat => [(83, .int .i64 k), (82, .int .i64 A.path.length), (3, .pointer (some ⟨g3, 0, none⟩)), (2, .pointer (some ⟨g2, 0, none⟩))]) (fun _ => [.row g3 B.rcells, .row g2 A.rcells]) (fun k => k ≤ A.path.length) (fun k => A.path.length - k) 0 (Nat.zero_le _) (.cons rfl (.cons rfl (.cons rfl (.cons rfl .nil)))) (.refl _) ?_
  intro k hk
  refine WC.seq ?_
  refine WC.region ?_
  refine WL.test (v_lss rfl rfl rfl) (.none rfl) rfl rfl (fun h84 => ?_) (fun h84 => ?_)
  · -- 84T
    refine WL.nil ?_
    refine WE.then_n ?_
    refine WC.seq ?_
    refine WC.cond_t rfl ?_
    refine WC.skip ?_
    refine WE.then_n ?_
    refine WC.seq ?_
    refine WC.block ?_
    refine WC.seq ?_
    refine WC.region ?_
    refine WL.val (v_move rfl rfl) (.none rfl) rfl rfl ?_
    refine WL.val (v_assign rfl rfl) (.none rfl) rfl rfl ?_
    refine WL.nil ?_
    refine WE.then_n ?_
    refine WC.seq ?_
    refine WC.quiet mixed (by kernel_rfl) ?_
    obtain ⟨x, hx⟩ : ∃ x, A.path[k]? = some x := ⟨A.path[k]'(by omega), List.getElem?_eq_getElem _⟩
    obtain ⟨y, hy, exy⟩ := map_get_eq e9 hx
    have es : x.set = y.set := congrArg Prod.fst exy
    have el : x.asl = y.asl := congrArg Prod.snd exy
    obtain ⟨b1, o1, ea1, r1⟩ := hA.path k x hx
    obtain ⟨b2, o2, ea2, r2⟩ := hB.path k y hy
    have hxm := List.mem_of_getElem? hx
    have hym := List.mem_of_getElem? hy
    refine WQ.val (v_fieldAddr0 rfl rfl fld_51_2) (.none rfl) rfl rfl ?_
    refine WQ.val (v_load1 rfl rfl one_48 (cellAt rfl)) (.none rfl) rfl rfl ?_
    refine WQ.val (v_move rfl rfl) (.none rfl) rfl rfl ?_
    refine WQ.val ((v_indexAddr (b := b1) (off := o1) (lo := k) rfl (by show some (Value.slice A.pad _ _) = _; rw [ea1]) rfl Tryd.underlying48 sz_140 rfl (by omega))) (.none rfl) rfl rfl ?_
    refine WQ.val (v_fieldAddr rfl rfl fld_140_0) (.none rfl) rfl rfl ?_
    refine WQ.val (v_load1 rfl rfl one_4 (cellOld (fun h => h) (r1 0 _ rfl))) (.none rfl) rfl rfl ?_
    refine WQ.val (v_fieldAddr0 rfl rfl fld_51_2) (.none rfl) rfl rfl ?_
    refine WQ.val (v_load1 rfl rfl one_48 (cellAt rfl)) (.none rfl) rfl rfl ?_
    refine WQ.val (v_move rfl rfl) (.none rfl) rfl rfl ?_
    refine WQ.val ((v_indexAddr (b := b2) (off := o2) (lo := k) rfl (by show some (Value.slice B.pad _ _) = _; rw [ea2]) rfl Tryd.underlying48 sz_140 rfl (by omega))) (.none rfl) rfl rfl ?_
    refine WQ.val (v_fieldAddr rfl rfl fld_140_0) (.none rfl) rfl rfl ?_
    refine WQ.val (v_load1 rfl rfl one_4 (cellOld (fun h => h) (r2 0 _ rfl))) (.none rfl) rfl rfl ?_
    refine WQ.val ((v_neq_bool rfl rfl rfl Tryd.underlying4).f (fun h => h es)) (.none rfl) rfl rfl ?_
    refine WQ.val (v_move rfl rfl) (.none rfl) rfl rfl ?_
    refine WQ.val (v_fieldAddr0 rfl rfl fld_51_2) (.some rfl rfl rfl) rfl rfl ?_
    refine WQ.val (v_load1 rfl rfl one_48 (cellAt rfl)) (.some rfl rfl rfl) rfl rfl ?_
    refine WQ.val (v_move rfl rfl) (.some rfl rfl rfl) rfl rfl ?_
    refine WQ.val ((v_indexAddr (b := b1) (off := o1) (lo := k) rfl (by show some (Value.slice A.pad _ _) = _; rw [ea1]) rfl Tryd.underlying48 sz_140 rfl (by omega))) (.some rfl rfl rfl) rfl rfl ?_
    refine WQ.val (v_fieldAddr rfl rfl fld_140_1) (.some rfl rfl rfl) rfl rfl ?_
    refine WQ.val (v_load1 rfl rfl one_38 (cellOld (fun h => h) (r1 1 _ rfl))) (.some rfl rfl rfl) rfl rfl ?_
    refine WQ.val (v_fieldAddr0 rfl rfl fld_51_2) (.some rfl rfl rfl) rfl rfl ?_
    refine WQ.val (v_load1 rfl rfl one_48 (cellAt rfl)) (.some rfl rfl rfl) rfl rfl ?_
    refine WQ.val (v_move rfl rfl) (.some rfl rfl rfl) rfl rfl ?_
    refine WQ.val ((v_indexAddr (b := b2) (off := o2) (lo := k) rfl (by show some (Value.slice B.pad _ _) = _; rw [ea2]) rfl Tryd.underlying48 sz_140 rfl (by omega))) (.some rfl rfl rfl) rfl rfl ?_
    refine WQ.val (v_fieldAddr rfl rfl fld_140_1) (.some rfl rfl rfl) rfl rfl ?_
    refine WQ.val (v_load1 rfl rfl one_38 (cellOld (fun h => h) (r2 1 _ rfl))) (.some rfl rfl rfl) rfl rfl ?_
    refine WQ.call _ rfl rfl ck_69 (.some rfl rfl rfl) rfl rfl (fun w hS => Calls.still (list_c _ x.ad y.ad x.cap y.cap x.asl y.asl el ((hA.st hS).segs x hxm) ((hB.st hS).segs y hym) (hI.segs x hxm).1) hS) ?_
    refine WQ.val (v_not rfl rfl rfl) (.some rfl rfl rfl) rfl rfl ?_
    refine WQ.val (v_pick_f rfl rfl rfl) (.none rfl) rfl rfl ?_
    refine WQ.nil ?_
    refine WE.then_n ?_
    refine WC.cond_f rfl ?_
    refine WC.skip ?_
    refine WE.block_n ?_
    refine WE.then_n ?_
    refine WC.region ?_
    refine WL.val (v_add rfl rfl rfl (w_i64 (by omega) (by omega))) (.none rfl) rfl rfl ?_
    refine WL.val (v_move rfl rfl) (.none rfl) rfl rfl ?_
    refine WL.nil ?_
    exact WE.next (k + 1) (by omega) (by omega) (.int rfl (by omega) (.cons rfl (.cons rfl (.cons rfl .nil)))) (.refl _)
  · -- 84F
    refine WL.nil ?_
    refine WE.then_n ?_
    refine WC.seq ?_
    refine WC.cond_f rfl ?_
    refine WC.exit ?_
    refine WE.then_exit ?_
    refine WE.then_exit ?_
    refine WE.block_hit ?_
    refine WE.then_n ?_
    refine WC.seq ?_
    refine WC.seq ?_
    refine WC.region ?_
    refine WL.val (v_fieldAddr0 rfl rfl fld_51_9) (.none rfl) rfl rfl ?_
    refine WL.val (v_load1 rfl rfl one_49 (cellAt rfl)) (.none rfl) rfl rfl ?_
    refine WL.val (v_len_slice rfl rfl Tryd.underlying49) (.none rfl) rfl rfl ?_
    refine WL.val (v_move rfl rfl) (.none rfl) rfl rfl ?_
    refine WL.nil ?_
    refine WE.then_n ?_
    refine WC.block ?_
    refine WC.loop (fun k : Nat => [(119, .int .i64 k), (118, .int .i64 A.others.length), (3, .pointer (some ⟨g3, 0, none⟩)), (2, .pointer (some ⟨g2, 0, none⟩))]) (fun _ => [.row g3 B.rcells, .row g2 A.rcells]) (fun k => k ≤ A.others.length) (fun k => A.others.length - k) 0 (Nat.zero_le _) (.cons rfl (.cons rfl (.cons rfl (.cons rfl .nil)))) (.refl _) ?_
    intro k hk
    refine WC.seq ?_
    refine WC.region ?_
    refine WL.test (v_lss rfl rfl rfl) (.none rfl) rfl rfl (fun h120 => ?_) (fun h120 => ?_)
    · -- 120T
      refine WL.nil ?_
      refine WE.then_n ?_
      refine WC.seq ?_
      refine WC.cond_t rfl ?_
      refine WC.skip ?_
      refine WE.then_n ?_
      refine WC.seq ?_
      refine WC.block ?_
      refine WC.seq ?_
      refine WC.region ?_
      refine WL.val (v_move rfl rfl) (.none rfl) rfl rfl ?_
      refine WL.val (v_assign rfl rfl) (.none rfl) rfl rfl ?_
      refine WL.nil ?_
      refine WE.then_n ?_
      refine WC.seq ?_
      refine WC.quiet mixed (by kernel_rfl) ?_
      obtain ⟨x, hx⟩ : ∃ x, A.others[k]? = some x := ⟨A.others[k]'(by omega), List.getElem?_eq_getElem _⟩
      obtain ⟨y, hy, exy⟩ := map_get_eq e10 hx
      have es : x.ty = y.ty := congrArg Prod.fst exy
      have el : x.val = y.val := congrArg Prod.snd exy
      obtain ⟨b1, o1, ea1, r1⟩ := hA.oths k x hx
      obtain ⟨b2, o2, ea2, r2⟩ := hB.oths k y hy
      have hxm := List.mem_of_getElem? hx
      have hym := List.mem_of_getElem? hy
      refine WQ.val (v_fieldAddr0 rfl rfl fld_51_9) (.none rfl) rfl rfl ?_
      refine WQ.val (v_load1 rfl rfl one_49 (cellAt rfl)) (.none rfl) rfl rfl ?_
      refine WQ.val (v_move rfl rfl) (.none rfl) rfl rfl ?_
      refine WQ.val ((v_indexAddr (b := b1) (off := o1) (lo := k) rfl (by show some (Value.slice A.oad _ _) = _; rw [ea1]) rfl Tryd.underlying49 sz_135 rfl (by omega))) (.none rfl) rfl rfl ?_
      refine WQ.val (v_fieldAddr rfl rfl fld_135_0) (.none rfl) rfl rfl ?_
      refine WQ.val (v_load1 rfl rfl one_3 (cellOld (fun h => h) (r1 0 _ rfl))) (.none rfl) rfl rfl ?_
      refine WQ.val (v_fieldAddr0 rfl rfl fld_51_9) (.none rfl) rfl rfl ?_
      refine WQ.val (v_load1 rfl rfl one_49 (cellAt rfl)) (.none rfl) rfl rfl ?_
      refine WQ.val (v_move rfl rfl) (.none rfl) rfl rfl ?_
      refine WQ.val ((v_indexAddr (b := b2) (off := o2) (lo := k) rfl (by show some (Value.slice B.oad _ _) = _; rw [ea2]) rfl Tryd.underlying49 sz_135 rfl (by omega))) (.none rfl) rfl rfl ?_
      refine WQ.val (v_fieldAddr rfl rfl fld_135_0) (.none rfl) rfl rfl ?_
      refine WQ.val (v_load1 rfl rfl one_3 (cellOld (fun h => h) (r2 0 _ rfl))) (.none rfl) rfl rfl ?_
      refine WQ.val ((v_neq rfl rfl rfl).f (by omega)) (.none rfl) rfl rfl ?_
      refine WQ.val (v_move rfl rfl) (.none rfl) rfl rfl ?_
      refine WQ.val (v_fieldAddr0 rfl rfl fld_51_9) (.some rfl rfl rfl) rfl rfl ?_
      refine WQ.val (v_load1 rfl rfl one_49 (cellAt rfl)) (.some rfl rfl rfl) rfl rfl ?_
      refine WQ.val (v_move rfl rfl) (.some rfl rfl rfl) rfl rfl ?_
      refine WQ.val ((v_indexAddr (b := b1) (off := o1) (lo := k) rfl (by show some (Value.slice A.oad _ _) = _; rw [ea1]) rfl Tryd.underlying49 sz_135 rfl (by omega))) (.some rfl rfl rfl) rfl rfl ?_
      refine WQ.val (v_fieldAddr rfl rfl fld_135_1) (.some rfl rfl rfl) rfl rfl ?_
      refine WQ.val (v_load1 rfl rfl one_22 (cellOld (fun h => h) (r1 1 _ rfl))) (.some rfl rfl rfl) rfl rfl ?_
      refine WQ.val (v_convBS (fOf x.val) rfl rfl Tryd.underlying22 Tryd.underlying5 Tryd.underlying9 (fun w' hS' => rdVal (hA.vals x hxm) hS')) (.some rfl rfl rfl) rfl rfl ?_
      refine WQ.val (v_fieldAddr0 rfl rfl fld_51_9) (.some rfl rfl rfl) rfl rfl ?_
      refine WQ.val (v_load1 rfl rfl one_49 (cellAt rfl)) (.some rfl rfl rfl) rfl rfl ?_
      refine WQ.val (v_move rfl rfl) (.some rfl rfl rfl) rfl rfl ?_
      refine WQ.val ((v_indexAddr (b := b2) (off := o2) (lo := k) rfl (by show some (Value.slice B.oad _ _) = _; rw [ea2]) rfl Tryd.underlying49 sz_135 rfl (by omega))) (.some rfl rfl rfl) rfl rfl ?_
      refine WQ.val (v_fieldAddr rfl rfl fld_135_1) (.some rfl rfl rfl) rfl rfl ?_
      refine WQ.val (v_load1 rfl rfl one_22 (cellOld (fun h => h) (r2 1 _ rfl))) (.some rfl rfl rfl) rfl rfl ?_
      refine WQ.val (v_convBS (fOf y.val) rfl rfl Tryd.underlying22 Tryd.underlying5 Tryd.underlying9 (fun w' hS' => rdVal (hB.vals y hym) hS')) (.some rfl rfl rfl) rfl rfl ?_
      refine WQ.val ((v_neq_string rfl rfl rfl Tryd.underlying9).f (fun h => h (by rw [el]))) (.some rfl rfl rfl) rfl rfl ?_
      refine WQ.val (v_pick_f rfl rfl rfl) (.none rfl) rfl rfl ?_
      refine WQ.nil ?_
      refine WE.then_n ?_
      refine WC.cond_f rfl ?_
      refine WC.skip ?_
      refine WE.block_n ?_
      refine WE.then_n ?_
      refine WC.region ?_
      refine WL.val (v_add rfl rfl rfl (w_i64 (by omega) (by omega))) (.none rfl) rfl rfl ?_
      refine WL.val (v_move rfl rfl) (.none rfl) rfl rfl ?_
      refine WL.nil ?_
      exact WE.next (k + 1) (by omega) (by omega) (.int rfl (by omega) (.cons rfl (.cons rfl (.cons rfl .nil)))) (.refl _)
    · -- 120F
      refine WL.nil ?_
      refine WE.then_n ?_
      refine WC.seq ?_
      refine WC.cond_f rfl ?_
      refine WC.exit ?_
      refine WE.then_exit ?_
      refine WE.then_exit ?_
      refine WE.block_hit ?_
      refine WE.then_n ?_
      refine WC.seq ?_
      refine WC.region ?_
      refine WL.val (v_assign rfl rfl) (.none rfl) rfl rfl ?_
      refine WL.nil ?_
      refine WE.then_n ?_
      refine WC.ret ?_
      refine WE.ret1 (P := Tryd.prog) (.inl rfl) Tryd.results47 rfl ?_
      exact fun w' h => ⟨rfl, h.frm⟩
end Go.Proofs.YtpjbofodllhjbaaDoor
/- carrefourref07.Same: what says the same is the same. -/
namespace Go.Proofs.YtpjbofodllhjbaaDoor
open Go.RowKit

set_option maxHeartbeats 4000000 in
theorem RSame07_c (w : World) (A B : MsL) (hA : A.At w) (hB : B.At w) (he : A.d = B.d) (hI : A.In) (hf : A.Few) :
    Calls Tryd.prog 19 #[.agg A.rcells.toArray, .agg B.rcells.toArray] w fun e w' => e = .returned (.bool true) ∧ Frm (fun _ => False) w w' := by
  have e1 : A.kind = B.kind := congrArg MsD.kind he
  have e2 : A.asn = B.asn := congrArg MsD.asn he
  have e3 : A.hold = B.hold := congrArg MsD.hold he
  have e4 : A.id = B.id := congrArg MsD.id he
  have e5 : A.caps.map capD = B.caps.map capD := congrArg MsD.caps he
  have e6 : A.gone = B.gone := congrArg MsD.gone he
  have e7 : A.nets = B.nets := congrArg MsD.nets he
  have e8 : A.atr.d = B.atr.d := congrArg MsD.atr he
  have e9 : A.fc = B.fc := congrArg MsD.fc he
  have e10 : A.fs = B.fs := congrArg MsD.fs he
  have e11 : A.fd = B.fd := congrArg MsD.fd he
  have l5 := map_len_eq e5
  have hkl := hf.caps
  refine enter Tryd.func19 rfl Tryd.ntmps19 rfl (St.start (fun _ => False) w) ?_
  refine WC.seq ?_
  refine WC.region ?_
  refine WL.box rfl rfl rfl (.none rfl) rfl rfl ?_
  intro g2 hg2
  refine WL.box rfl rfl rfl (.none rfl) rfl rfl ?_
  intro g3 hg3
  refine WL.val (v_assign rfl rfl) (.none rfl) rfl rfl ?_
  refine WL.nil ?_
  refine WE.then_n ?_
  refine WC.seq ?_
  refine WC.seq ?_
  refine WC.region ?_
  refine WL.val (v_fieldAddr0 rfl rfl fld_53_0) (.none rfl) rfl rfl ?_
  refine WL.val (v_load1 rfl rfl one_3 (cellAt rfl)) (.none rfl) rfl rfl ?_
  refine WL.val (v_fieldAddr0 rfl rfl fld_53_0) (.none rfl) rfl rfl ?_
  refine WL.val (v_load1 rfl rfl one_3 (cellAt rfl)) (.none rfl) rfl rfl ?_
  refine WL.val ((v_neq rfl rfl rfl).f (by omega)) (.none rfl) rfl rfl ?_
  refine WL.val (v_move rfl rfl) (.none rfl) rfl rfl ?_
  refine WL.val (v_fieldAddr0 rfl rfl fld_53_1) (.some rfl rfl rfl) rfl rfl ?_
  refine WL.val (v_load1 rfl rfl one_3 (cellAt rfl)) (.some rfl rfl rfl) rfl rfl ?_
  refine WL.val (v_fieldAddr0 rfl rfl fld_53_1) (.some rfl rfl rfl) rfl rfl ?_
  refine WL.val (v_load1 rfl rfl one_3 (cellAt rfl)) (.some rfl rfl rfl) rfl rfl ?_
  refine WL.val ((v_neq rfl rfl rfl).f (by omega)) (.some rfl rfl rfl) rfl rfl ?_
  refine WL.val (v_pick_f rfl rfl rfl) (.none rfl) rfl rfl ?_
  refine WL.val (v_move rfl rfl) (.none rfl) rfl rfl ?_
  refine WL.val (v_fieldAddr0 rfl rfl fld_53_2) (.some rfl rfl rfl) rfl rfl ?_
  refine WL.val (v_load1 rfl rfl one_3 (cellAt rfl)) (.some rfl rfl rfl) rfl rfl ?_
  refine WL.val (v_fieldAddr0 rfl rfl fld_53_2) (.some rfl rfl rfl) rfl rfl ?_
  refine WL.val (v_load1 rfl rfl one_3 (cellAt rfl)) (.some rfl rfl rfl) rfl rfl ?_
  refine WL.val ((v_neq rfl rfl rfl).f (by omega)) (.some rfl rfl rfl) rfl rfl ?_
  refine WL.val (v_pick_f rfl rfl rfl) (.none rfl) rfl rfl ?_
  refine WL.val (v_move rfl rfl) (.none rfl) rfl rfl ?_
  refine WL.val (v_fieldAddr0 rfl rfl fld_53_3) (.some rfl rfl rfl) rfl rfl ?_
  refine WL.val (v_load1 rfl rfl one_33 (cellAt rfl)) (.some rfl rfl rfl) rfl rfl ?_
  refine WL.val (v_fieldAddr0 rfl rfl fld_53_3) (.some rfl rfl rfl) rfl rfl ?_
  refine WL.val (v_load1 rfl rfl one_33 (cellAt rfl)) (.some rfl rfl rfl) rfl rfl ?_
  refine WL.val ((v_neq rfl rfl rfl).f (by omega)) (.some rfl rfl rfl) rfl rfl ?_
  refine WL.val (v_pick_f rfl rfl rfl) (.none rfl) rfl rfl ?_
  refine WL.val (v_move rfl rfl) (.none rfl) rfl rfl ?_
  refine WL.val (v_fieldAddr0 rfl rfl fld_53_4) (.some rfl rfl rfl) rfl rfl ?_
  refine WL.val (v_load1 rfl rfl one_46 (cellAt rfl)) (.some rfl rfl rfl) rfl rfl ?_
  refine WL.val (v_len_slice rfl rfl Tryd.underlying46) (.some rfl rfl rfl) rfl rfl ?_
  refine WL.val (v_fieldAddr0 rfl rfl fld_53_4) (.some rfl rfl rfl) rfl rfl ?_
  refine WL.val (v_load1 rfl rfl one_46 (cellAt rfl)) (.some rfl rfl rfl) rfl rfl ?_
  refine WL.val (v_len_slice rfl rfl Tryd.underlying46) (.some rfl rfl rfl) rfl rfl ?_
  refine WL.val ((v_neq rfl rfl rfl).f (by omega)) (.some rfl rfl rfl) rfl rfl ?_
  refine WL.val (v_pick_f rfl rfl rfl) (.none rfl) rfl rfl ?_
  refine WL.val (v_move rfl rfl) (.none rfl) rfl rfl ?_
  refine WL.val (v_fieldAddr0 rfl rfl fld_53_5) (.some rfl rfl rfl) rfl rfl ?_
  refine WL.val (v_load1 rfl rfl one_47 (cellAt rfl)) (.some rfl rfl rfl) rfl rfl ?_
  refine WL.val (v_fieldAddr0 rfl rfl fld_53_5) (.some rfl rfl rfl) rfl rfl ?_
  refine WL.val (v_load1 rfl rfl one_47 (cellAt rfl)) (.some rfl rfl rfl) rfl rfl ?_
  refine WL.call rfl rfl ck_46 (.some rfl rfl rfl) rfl rfl ?_
  intro w hS
  refine Calls.then (same_c _ A.gad B.gad A.gc B.gc A.gone B.gone e6 ((hA.st hS).gone) ((hB.st hS).gone) hf.gone) hS ?_
  refine WL.val (v_not rfl rfl rfl) (.some rfl rfl rfl) rfl rfl ?_
  refine WL.val (v_pick_f rfl rfl rfl) (.none rfl) rfl rfl ?_
  refine WL.val (v_move rfl rfl) (.none rfl) rfl rfl ?_
  refine WL.val (v_fieldAddr0 rfl rfl fld_53_7) (.some rfl rfl rfl) rfl rfl ?_
  refine WL.val (v_load1 rfl rfl one_47 (cellAt rfl)) (.some rfl rfl rfl) rfl rfl ?_
  refine WL.val (v_fieldAddr0 rfl rfl fld_53_7) (.some rfl rfl rfl) rfl rfl ?_
  refine WL.val (v_load1 rfl rfl one_47 (cellAt rfl)) (.some rfl rfl rfl) rfl rfl ?_
  refine WL.call rfl rfl ck_46 (.some rfl rfl rfl) rfl rfl ?_
  intro w hS
  refine Calls.then (same_c _ A.nad B.nad A.nc B.nc A.nets B.nets e7 ((hA.st hS).nets) ((hB.st hS).nets) hf.nets) hS ?_
  refine WL.val (v_not rfl rfl rfl) (.some rfl rfl rfl) rfl rfl ?_
  refine WL.val (v_pick_f rfl rfl rfl) (.none rfl) rfl rfl ?_
  refine WL.val (v_move rfl rfl) (.none rfl) rfl rfl ?_
  refine WL.val (v_fieldAddr0 rfl rfl fld_53_6) (.some rfl rfl rfl) rfl rfl ?_
  refine WL.val (v_loadN rfl rfl many_51 rfl (segAt (m := 10) rfl)) (.some rfl rfl rfl) rfl rfl ?_
  refine WL.val (v_fieldAddr0 rfl rfl fld_53_6) (.some rfl rfl rfl) rfl rfl ?_
  refine WL.val (v_loadN rfl rfl many_51 rfl (segAt (m := 10) rfl)) (.some rfl rfl rfl) rfl rfl ?_
  refine WL.call rfl rfl ck_47 (.some rfl rfl rfl) rfl rfl ?_
  intro w hS
  refine Calls.then (RSame06_c _ A.atr B.atr ((hA.st hS).at_) ((hB.st hS).at_) e8 hI.at_ hf.path hf.oths) hS ?_
  refine WL.val (v_not rfl rfl rfl) (.some rfl rfl rfl) rfl rfl ?_
  refine WL.val (v_pick_f rfl rfl rfl) (.none rfl) rfl rfl ?_
  refine WL.val (v_move rfl rfl) (.none rfl) rfl rfl ?_
  refine WL.val (v_fieldAddr0 rfl rfl fld_53_8) (.some rfl rfl rfl) rfl rfl ?_
  refine WL.val (v_fieldAddr rfl rfl fld_28_0) (.some rfl rfl rfl) rfl rfl ?_
  refine WL.val (v_load1 rfl rfl one_3 (cellAt rfl)) (.some rfl rfl rfl) rfl rfl ?_
  refine WL.val (v_fieldAddr0 rfl rfl fld_53_8) (.some rfl rfl rfl) rfl rfl ?_
  refine WL.val (v_fieldAddr rfl rfl fld_28_0) (.some rfl rfl rfl) rfl rfl ?_
  refine WL.val (v_load1 rfl rfl one_3 (cellAt rfl)) (.some rfl rfl rfl) rfl rfl ?_
  refine WL.val ((v_neq rfl rfl rfl).f (by omega)) (.some rfl rfl rfl) rfl rfl ?_
  refine WL.val (v_pick_f rfl rfl rfl) (.none rfl) rfl rfl ?_
  refine WL.val (v_move rfl rfl) (.none rfl) rfl rfl ?_
  refine WL.val (v_fieldAddr0 rfl rfl fld_53_8) (.some rfl rfl rfl) rfl rfl ?_
  refine WL.val (v_fieldAddr rfl rfl fld_28_1) (.some rfl rfl rfl) rfl rfl ?_
  refine WL.val (v_load1 rfl rfl one_3 (cellAt rfl)) (.some rfl rfl rfl) rfl rfl ?_
  refine WL.val (v_fieldAddr0 rfl rfl fld_53_8) (.some rfl rfl rfl) rfl rfl ?_
  refine WL.val (v_fieldAddr rfl rfl fld_28_1) (.some rfl rfl rfl) rfl rfl ?_
  refine WL.val (v_load1 rfl rfl one_3 (cellAt rfl)) (.some rfl rfl rfl) rfl rfl ?_
  refine WL.val ((v_neq rfl rfl rfl).f (by omega)) (.some rfl rfl rfl) rfl rfl ?_
  refine WL.val (v_pick_f rfl rfl rfl) (.none rfl) rfl rfl ?_
  refine WL.val (v_move rfl rfl) (.none rfl) rfl rfl ?_
  refine WL.val (v_fieldAddr0 rfl rfl fld_53_8) (.some rfl rfl rfl) rfl rfl ?_
  refine WL.val (v_fieldAddr rfl rfl fld_28_2) (.some rfl rfl rfl) rfl rfl ?_
  refine WL.val (v_load1 rfl rfl one_9 (cellAt rfl)) (.some rfl rfl rfl) rfl rfl ?_
  refine WL.val (v_fieldAddr0 rfl rfl fld_53_8) (.some rfl rfl rfl) rfl rfl ?_
  refine WL.val (v_fieldAddr rfl rfl fld_28_2) (.some rfl rfl rfl) rfl rfl ?_
  refine WL.val (v_load1 rfl rfl one_9 (cellAt rfl)) (.some rfl rfl rfl) rfl rfl ?_
  refine WL.val ((v_neq_string rfl rfl rfl Tryd.underlying9).f (fun h => h (congrArg ByteArray.toList e11))) (.some rfl rfl rfl) rfl rfl ?_
  refine WL.val (v_pick_f rfl rfl rfl) (.none rfl) rfl rfl ?_
  refine WL.nil ?_
  refine WE.then_n ?_
  refine WC.cond_f rfl ?_
  refine WC.skip ?_
  refine WE.then_n ?_
  refine WC.seq ?_
  refine WC.seq ?_
  refine WC.region ?_
  refine WL.val (v_fieldAddr0 rfl rfl fld_53_4) (.none rfl) rfl rfl ?_
  refine WL.val (v_load1 rfl rfl one_46 (cellAt rfl)) (.none rfl) rfl rfl ?_
  refine WL.val (v_len_slice rfl rfl Tryd.underlying46) (.none rfl) rfl rfl ?_
  refine WL.val (v_move rfl rfl) (.none rfl) rfl rfl ?_
  refine WL.nil ?_
  refine WE.then_n ?_
  refine WC.block ?_
  refine WC.loop (fun k : Nat => [(95, .int .i64 k), (94, .int .i64 A.caps.length), (3, .pointer (some ⟨g3, 0, none⟩)), (2, .pointer (some ⟨g2, 0, none⟩))]) (fun _ => [.row g3 B.rcells, .row g2 A.rcells]) (fun k => k ≤ A.caps.length) (fun k => A.caps.length - k) 0 (Nat.zero_le _) (.cons rfl (.cons rfl (.cons rfl (.cons rfl .nil)))) (.refl _) ?_
  intro k hk
  refine WC.seq ?_
  refine WC.region ?_
  refine WL.test (v_lss rfl rfl rfl) (.none rfl) rfl rfl (fun h96 => ?_) (fun h96 => ?_)
  · -- 96T
    refine WL.nil ?_
    refine WE.then_n ?_
    refine WC.seq ?_
    refine WC.cond_t rfl ?_
    refine WC.skip ?_
    refine WE.then_n ?_
    refine WC.seq ?_
    refine WC.block ?_
    refine WC.seq ?_
    refine WC.region ?_
    refine WL.val (v_move rfl rfl) (.none rfl) rfl rfl ?_
    refine WL.val (v_assign rfl rfl) (.none rfl) rfl rfl ?_
    refine WL.nil ?_
    refine WE.then_n ?_
    refine WC.seq ?_
    refine WC.quiet mixed (by kernel_rfl) ?_
    obtain ⟨x, hx⟩ : ∃ x, A.caps[k]? = some x := ⟨A.caps[k]'(by omega), List.getElem?_eq_getElem _⟩
    obtain ⟨y, hy, exy⟩ := map_get_eq e5 hx
    have es : x.code = y.code := congrArg Prod.fst exy
    have el : x.val = y.val := congrArg Prod.snd exy
    obtain ⟨b1, o1, ea1, r1⟩ := hA.caps k x hx
    obtain ⟨b2, o2, ea2, r2⟩ := hB.caps k y hy
    have hxm := List.mem_of_getElem? hx
    have hym := List.mem_of_getElem? hy
    refine WQ.val (v_fieldAddr0 rfl rfl fld_53_4) (.none rfl) rfl rfl ?_
    refine WQ.val (v_load1 rfl rfl one_46 (cellAt rfl)) (.none rfl) rfl rfl ?_
    refine WQ.val (v_move rfl rfl) (.none rfl) rfl rfl ?_
    refine WQ.val ((v_indexAddr (b := b1) (off := o1) (lo := k) rfl (by show some (Value.slice A.kad _ _) = _; rw [ea1]) rfl Tryd.underlying46 sz_99 rfl (by omega))) (.none rfl) rfl rfl ?_
    refine WQ.val (v_fieldAddr rfl rfl fld_99_0) (.none rfl) rfl rfl ?_
    refine WQ.val (v_load1 rfl rfl one_3 (cellOld (fun h => h) (r1 0 _ rfl))) (.none rfl) rfl rfl ?_
    refine WQ.val (v_fieldAddr0 rfl rfl fld_53_4) (.none rfl) rfl rfl ?_
    refine WQ.val (v_load1 rfl rfl one_46 (cellAt rfl)) (.none rfl) rfl rfl ?_
    refine WQ.val (v_move rfl rfl) (.none rfl) rfl rfl ?_
    refine WQ.val ((v_indexAddr (b := b2) (off := o2) (lo := k) rfl (by show some (Value.slice B.kad _ _) = _; rw [ea2]) rfl Tryd.underlying46 sz_99 rfl (by omega))) (.none rfl) rfl rfl ?_
    refine WQ.val (v_fieldAddr rfl rfl fld_99_0) (.none rfl) rfl rfl ?_
    refine WQ.val (v_load1 rfl rfl one_3 (cellOld (fun h => h) (r2 0 _ rfl))) (.none rfl) rfl rfl ?_
    refine WQ.val ((v_neq rfl rfl rfl).f (by omega)) (.none rfl) rfl rfl ?_
    refine WQ.val (v_move rfl rfl) (.none rfl) rfl rfl ?_
    refine WQ.val (v_fieldAddr0 rfl rfl fld_53_4) (.some rfl rfl rfl) rfl rfl ?_
    refine WQ.val (v_load1 rfl rfl one_46 (cellAt rfl)) (.some rfl rfl rfl) rfl rfl ?_
    refine WQ.val (v_move rfl rfl) (.some rfl rfl rfl) rfl rfl ?_
    refine WQ.val ((v_indexAddr (b := b1) (off := o1) (lo := k) rfl (by show some (Value.slice A.kad _ _) = _; rw [ea1]) rfl Tryd.underlying46 sz_99 rfl (by omega))) (.some rfl rfl rfl) rfl rfl ?_
    refine WQ.val (v_fieldAddr rfl rfl fld_99_1) (.some rfl rfl rfl) rfl rfl ?_
    refine WQ.val (v_load1 rfl rfl one_22 (cellOld (fun h => h) (r1 1 _ rfl))) (.some rfl rfl rfl) rfl rfl ?_
    refine WQ.val (v_convBS (fOf x.val) rfl rfl Tryd.underlying22 Tryd.underlying5 Tryd.underlying9 (fun w' hS' => rdVal (hA.vals x hxm) hS')) (.some rfl rfl rfl) rfl rfl ?_
    refine WQ.val (v_fieldAddr0 rfl rfl fld_53_4) (.some rfl rfl rfl) rfl rfl ?_
    refine WQ.val (v_load1 rfl rfl one_46 (cellAt rfl)) (.some rfl rfl rfl) rfl rfl ?_
    refine WQ.val (v_move rfl rfl) (.some rfl rfl rfl) rfl rfl ?_
    refine WQ.val ((v_indexAddr (b := b2) (off := o2) (lo := k) rfl (by show some (Value.slice B.kad _ _) = _; rw [ea2]) rfl Tryd.underlying46 sz_99 rfl (by omega))) (.some rfl rfl rfl) rfl rfl ?_
    refine WQ.val (v_fieldAddr rfl rfl fld_99_1) (.some rfl rfl rfl) rfl rfl ?_
    refine WQ.val (v_load1 rfl rfl one_22 (cellOld (fun h => h) (r2 1 _ rfl))) (.some rfl rfl rfl) rfl rfl ?_
    refine WQ.val (v_convBS (fOf y.val) rfl rfl Tryd.underlying22 Tryd.underlying5 Tryd.underlying9 (fun w' hS' => rdVal (hB.vals y hym) hS')) (.some rfl rfl rfl) rfl rfl ?_
    refine WQ.val ((v_neq_string rfl rfl rfl Tryd.underlying9).f (fun h => h (by rw [el]))) (.some rfl rfl rfl) rfl rfl ?_
    refine WQ.val (v_pick_f rfl rfl rfl) (.none rfl) rfl rfl ?_
    refine WQ.nil ?_
    refine WE.then_n ?_
    refine WC.cond_f rfl ?_
    refine WC.skip ?_
    refine WE.block_n ?_
    refine WE.then_n ?_
    refine WC.region ?_
    refine WL.val (v_add rfl rfl rfl (w_i64 (by omega) (by omega))) (.none rfl) rfl rfl ?_
    refine WL.val (v_move rfl rfl) (.none rfl) rfl rfl ?_
    refine WL.nil ?_
    exact WE.next (k + 1) (by omega) (by omega) (.int rfl (by omega) (.cons rfl (.cons rfl (.cons rfl .nil)))) (.refl _)
  · -- 96F
    refine WL.nil ?_
    refine WE.then_n ?_
    refine WC.seq ?_
    refine WC.cond_f rfl ?_
    refine WC.exit ?_
    refine WE.then_exit ?_
    refine WE.then_exit ?_
    refine WE.block_hit ?_
    refine WE.then_n ?_
    refine WC.seq ?_
    refine WC.region ?_
    refine WL.val (v_assign rfl rfl) (.none rfl) rfl rfl ?_
    refine WL.nil ?_
    refine WE.then_n ?_
    refine WC.ret ?_
    refine WE.ret1 (P := Tryd.prog) (.inl rfl) Tryd.results19 rfl ?_
    exact fun w' h => ⟨rfl, h.frm⟩
end Go.Proofs.YtpjbofodllhjbaaDoor
/- bgp: BgpForm walked: bytes that are a message. -/
namespace Go.Proofs.YtpjbofodllhjbaaDoor
open Go.RowKit

/-- What a read message must be for BgpForm. -/
structure FormOk (md : MsD) : Prop where
  in_ : md.In
  path : md.atr.path.length ≤ 1100
  oths : md.atr.others.length ≤ 300
  caps : md.caps.length ≤ 5000
  gone : md.gone.length ≤ 5000
  nets : md.nets.length ≤ 5000
  code : msgCD md = 0 ∨ msgCD md = 6 ∨ msgCD md = 1 ∧ (md.kind = 3 ∧ md.fc = 0 ∨ 32 < md.caps.length)
  back : msgCD md = 0 → decM (msgBD md) = .inl md ∧ Bys (msgBD md) ∧ 0 < (msgBD md).length ∧ (msgBD md).length ≤ 5000
theorem FormOk.few {md : MsD} (h : FormOk md) {m : MsL} (e : m.d = md) : m.Few ∧ m.In ∧ m.atr.path.length ≤ 1100 ∧ m.atr.others.length ≤ 300 ∧ m.caps.length = md.caps.length := by
  subst e
  have h1 := map_len_eq (f := capD) (xs := m.caps) (ys := m.caps) rfl
  have e1 : m.d.caps.length = m.caps.length := List.length_map ..
  have e2 : m.d.atr.path.length = m.atr.path.length := List.length_map ..
  have e3 : m.d.atr.others.length = m.atr.others.length := List.length_map ..
  have h2 := h.caps
  have h3 := h.path
  have h4 := h.oths
  have h5 : m.gone.length ≤ 5000 := h.gone
  have h6 : m.nets.length ≤ 5000 := h.nets
  exact ⟨⟨by omega, by omega, by omega, by omega, by omega⟩, MsL.in_d.2 h.in_, by omega, by omega, by omega⟩
set_option maxHeartbeats 8000000 in
theorem FormGood_c (w0 : World) (b o c : Nat) (xs : List Int) (hG : GF w0) (hZ : GZ w0) (hW : Win w0 b o c xs) (hn : xs.length ≤ 5000) (md : MsD) (hD : decM xs = .inl md) (hF : FormOk md) :
    Calls Tryd.prog 5 #[.slice (some ⟨b, o, none⟩) xs.length c] w0 fun e w' => e = .returned (.bool true) ∧ Frm (fun _ => False) w0 w' := by
  refine enter Tryd.func5 rfl Tryd.ntmps5 rfl (St.start (fun _ => False) w0) ?_
  refine WC.seq ?_
  refine WC.region ?_
  refine WL.val (v_assign rfl rfl) (.none rfl) rfl rfl ?_
  refine WL.nil ?_
  refine WE.then_n ?_
  refine WC.seq ?_
  refine WC.seq ?_
  refine WC.region ?_
  refine WL.call rfl rfl ck_13 (.none rfl) rfl rfl ?_
  intro w hS
  refine Calls.then (Head07_c w) hS ?_
  refine WL.val (v_not rfl rfl rfl) (.none rfl) rfl rfl ?_
  refine WL.nil ?_
  refine WE.then_n ?_
  refine WC.cond_f rfl ?_
  refine WC.skip ?_
  refine WE.then_n ?_
  refine WC.seq ?_
  refine WC.seq ?_
  refine WC.region ?_
  refine WL.val (v_move rfl rfl) (.none rfl) rfl rfl ?_
  refine WL.val (v_len_slice rfl rfl Tryd.underlying22) (.none rfl) rfl rfl ?_
  refine WL.val ((v_gtr rfl rfl rfl).f (by omega)) (.none rfl) rfl rfl ?_
  refine WL.nil ?_
  refine WE.then_n ?_
  refine WC.cond_f rfl ?_
  refine WC.skip ?_
  refine WE.then_n ?_
  refine WC.seq ?_
  refine WC.region ?_
  refine WL.val (v_move rfl rfl) (.none rfl) rfl rfl ?_
  refine WL.call rfl rfl ck_17 (.none rfl) rfl rfl ?_
  intro w1 hS
  refine (Decode_c w1 b o c xs (hG.keep (fun h => h) hS) (hZ.keep (fun h => h) hS) (hW.st hS) (by omega)).mono ?_
  intro e w' h
  unfold DecP at h
  rw [hD] at h
  obtain ⟨m, K, rfl, em, hM, hS'⟩ := h
  obtain ⟨hfw, hIn, hpl, hol, hcl⟩ := hF.few em
  have hmc : msgC m = msgCD md := (by rw [msgC_d, em])
  have hmb : msgB m = msgBD md := (by rw [msgB_d, em])
  have hk1 : m.kind = md.kind := congrArg MsD.kind em
  have hk2 : m.fc = md.fc := congrArg MsD.fc em
  have hcode := hF.code
  rw [← hmc] at hcode
  refine ⟨_, _, rfl, hS.join hS', ?_⟩
  refine WL.val (v_move rfl rfl) (.none rfl) rfl rfl ?_
  refine WL.val (v_extract rfl rfl rfl) (.none rfl) rfl rfl ?_
  refine WL.val (v_extract rfl rfl rfl) (.none rfl) rfl rfl ?_
  refine WL.alloc rfl zero_43 (.none rfl) rfl rfl ?_
  intro g3 hg3
  refine WL.alloc rfl zero_25 (.none rfl) rfl rfl ?_
  intro g4 hg4
  refine WL.storeW rfl rfl rfl rfl many_43 rfl rfl (.none rfl) rfl ?_
  refine WL.storeW rfl rfl rfl rfl many_25 rfl rfl (.none rfl) rfl ?_
  refine WL.nil ?_
  refine WE.then_n ?_
  refine WC.seq ?_
  refine WC.seq ?_
  refine WC.region ?_
  refine WL.val (v_fieldAddr0 rfl rfl fld_25_0) (.none rfl) rfl rfl ?_
  refine WL.val (v_load1 rfl rfl one_3 (cellAt rfl)) (.none rfl) rfl rfl ?_
  refine WL.val ((v_neq rfl rfl rfl).f (by omega)) (.none rfl) rfl rfl ?_
  refine WL.nil ?_
  refine WE.then_n ?_
  refine WC.cond_f rfl ?_
  refine WC.skip ?_
  refine WE.then_n ?_
  refine WC.seq ?_
  refine WC.region ?_
  refine WL.val (v_loadN rfl rfl many_43 rfl allAt) (.none rfl) rfl rfl ?_
  refine WL.call rfl rfl ck_21 (.none rfl) rfl rfl ?_
  intro w1 hS
  refine (Enc_g w1 m (hM.at fun e he => hS.holds e (by simp [he])) hIn (hG.keep (fun h => h) hS) hpl hol).mono ?_
  rintro e w' ⟨v, rfl, ad, cc, E, rfl, hV, hS'⟩
  obtain ⟨bs, hbs⟩ : ∃ bs, bs = if msgC m = 0 then msgB m else [] := ⟨_, rfl⟩
  rw [← hbs] at hV ⊢
  refine ⟨_, _, rfl, hS.join hS', ?_⟩
  refine WL.val (v_move rfl rfl) (.none rfl) rfl rfl ?_
  refine WL.val (v_extract rfl rfl rfl) (.none rfl) rfl rfl ?_
  refine WL.val (v_extract rfl rfl rfl) (.none rfl) rfl rfl ?_
  refine WL.val (v_assign rfl rfl) (.none rfl) rfl rfl ?_
  refine WL.val (v_assign rfl rfl) (.none rfl) rfl rfl ?_
  refine WL.nil ?_
  refine WE.then_n ?_
  refine WC.seq ?_
  refine WC.seq ?_
  refine WC.region ?_
  refine WL.val (v_move rfl rfl) (.none rfl) rfl rfl ?_
  refine WL.test (v_neq rfl rfl rfl) (.none rfl) rfl rfl (fun h48 => ?_) (fun h48 => ?_)
  · -- 48T
    refine WL.nil ?_
    refine WE.then_n ?_
    refine WC.cond_t rfl ?_
    refine WC.seq ?_
    refine WC.region ?_
    refine WL.val (v_move rfl rfl) (.none rfl) rfl rfl ?_
    refine WL.test (v_eql rfl rfl rfl) (.none rfl) rfl rfl (fun h50 => ?_) (fun h50 => ?_)
    · -- 50T
      refine WL.val (v_move rfl rfl) (.none rfl) rfl rfl ?_
      refine WL.skip rfl rfl rfl rfl rfl rfl ?_
      refine WL.skip rfl rfl rfl rfl rfl rfl ?_
      refine WL.skip rfl rfl rfl rfl rfl rfl ?_
      refine WL.skip rfl rfl rfl rfl rfl rfl ?_
      refine WL.skip rfl rfl rfl rfl rfl rfl ?_
      refine WL.skip rfl rfl rfl rfl rfl rfl ?_
      refine WL.skip rfl rfl rfl rfl rfl rfl ?_
      refine WL.skip rfl rfl rfl rfl rfl rfl ?_
      refine WL.skip rfl rfl rfl rfl rfl rfl ?_
      refine WL.skip rfl rfl rfl rfl rfl rfl ?_
      refine WL.skip rfl rfl rfl rfl rfl rfl ?_
      refine WL.skip rfl rfl rfl rfl rfl rfl ?_
      refine WL.skip rfl rfl rfl rfl rfl rfl ?_
      refine WL.skip rfl rfl rfl rfl rfl rfl ?_
      refine WL.skip rfl rfl rfl rfl rfl rfl ?_
      refine WL.skip rfl rfl rfl rfl rfl rfl ?_
      refine WL.skip rfl rfl rfl rfl rfl rfl ?_
      refine WL.skip rfl rfl rfl rfl rfl rfl ?_
      refine WL.skip rfl rfl rfl rfl rfl rfl ?_
      refine WL.val (v_pick_t rfl rfl rfl) (.none rfl) rfl rfl ?_
      refine WL.val (v_assign rfl rfl) (.none rfl) rfl rfl ?_
      refine WL.nil ?_
      refine WE.then_n ?_
      refine WC.ret ?_
      refine WE.then_ret ?_
      refine WE.ret1 (P := Tryd.prog) (.inl rfl) Tryd.results5 rfl ?_
      first | exact fun w' h => ⟨rfl, h.frm⟩ | (exfalso; rcases hcode with h | h | ⟨h, h' | h'⟩ <;> omega)
    · -- 50F
      refine WL.val (v_move rfl rfl) (.none rfl) rfl rfl ?_
      refine WL.val (v_move rfl rfl) (.some rfl rfl rfl) rfl rfl ?_
      refine WL.test (v_eql rfl rfl rfl) (.some rfl rfl rfl) rfl rfl (fun h53 => ?_) (fun h53 => ?_)
      · -- 53T
        refine WL.val (v_move rfl rfl) (.some rfl rfl rfl) rfl rfl ?_
        refine WL.val (v_fieldAddr0 rfl rfl fld_43_0) (.some rfl rfl rfl) rfl rfl ?_
        refine WL.val (v_load1 rfl rfl one_3 (cellAt rfl)) (.some rfl rfl rfl) rfl rfl ?_
        refine WL.test (v_eql rfl rfl rfl) (.some rfl rfl rfl) rfl rfl (fun h57 => ?_) (fun h57 => ?_)
        · -- 57T
          refine WL.val (v_move rfl rfl) (.some rfl rfl rfl) rfl rfl ?_
          refine WL.val (v_fieldAddr0 rfl rfl fld_43_8) (.some rfl rfl rfl) rfl rfl ?_
          refine WL.val (v_fieldAddr rfl rfl fld_25_0) (.some rfl rfl rfl) rfl rfl ?_
          refine WL.val (v_load1 rfl rfl one_3 (cellAt rfl)) (.some rfl rfl rfl) rfl rfl ?_
          refine WL.test (v_eql rfl rfl rfl) (.some rfl rfl rfl) rfl rfl (fun h62 => ?_) (fun h62 => ?_)
          · -- 62T
            refine WL.val (v_pick_t rfl rfl rfl) (.some rfl rfl rfl) rfl rfl ?_
            refine WL.val (v_move rfl rfl) (.some rfl rfl rfl) rfl rfl ?_
            refine WL.skip rfl rfl rfl rfl rfl rfl ?_
            refine WL.skip rfl rfl rfl rfl rfl rfl ?_
            refine WL.skip rfl rfl rfl rfl rfl rfl ?_
            refine WL.skip rfl rfl rfl rfl rfl rfl ?_
            refine WL.val (v_pick_t rfl rfl rfl) (.some rfl rfl rfl) rfl rfl ?_
            refine WL.val (v_pick_t rfl rfl rfl) (.some rfl rfl rfl) rfl rfl ?_
            refine WL.val (v_pick_f rfl rfl rfl) (.none rfl) rfl rfl ?_
            refine WL.val (v_assign rfl rfl) (.none rfl) rfl rfl ?_
            refine WL.nil ?_
            refine WE.then_n ?_
            refine WC.ret ?_
            refine WE.then_ret ?_
            refine WE.ret1 (P := Tryd.prog) (.inl rfl) Tryd.results5 rfl ?_
            first | exact fun w' h => ⟨rfl, h.frm⟩ | (exfalso; rcases hcode with h | h | ⟨h, h' | h'⟩ <;> omega)
          · -- 62F
            refine WL.val (v_pick_t rfl rfl rfl) (.some rfl rfl rfl) rfl rfl ?_
            refine WL.val (v_move rfl rfl) (.some rfl rfl rfl) rfl rfl ?_
            refine WL.val (v_fieldAddr0 rfl rfl fld_43_4) (.some rfl rfl rfl) rfl rfl ?_
            refine WL.val (v_load1 rfl rfl one_35 (cellAt rfl)) (.some rfl rfl rfl) rfl rfl ?_
            refine WL.val (v_len_slice rfl rfl Tryd.underlying35) (.some rfl rfl rfl) rfl rfl ?_
            refine WL.test (v_gtr rfl rfl rfl) (.some rfl rfl rfl) rfl rfl (fun h68 => ?_) (fun h68 => ?_)
            · -- 68T
              refine WL.val (v_pick_f rfl rfl rfl) (.some rfl rfl rfl) rfl rfl ?_
              refine WL.val (v_pick_t rfl rfl rfl) (.some rfl rfl rfl) rfl rfl ?_
              refine WL.val (v_pick_f rfl rfl rfl) (.none rfl) rfl rfl ?_
              refine WL.val (v_assign rfl rfl) (.none rfl) rfl rfl ?_
              refine WL.nil ?_
              refine WE.then_n ?_
              refine WC.ret ?_
              refine WE.then_ret ?_
              refine WE.ret1 (P := Tryd.prog) (.inl rfl) Tryd.results5 rfl ?_
              first | exact fun w' h => ⟨rfl, h.frm⟩ | (exfalso; rcases hcode with h | h | ⟨h, h' | h'⟩ <;> omega)
            · -- 68F
              refine WL.val (v_pick_f rfl rfl rfl) (.some rfl rfl rfl) rfl rfl ?_
              refine WL.val (v_pick_t rfl rfl rfl) (.some rfl rfl rfl) rfl rfl ?_
              refine WL.val (v_pick_f rfl rfl rfl) (.none rfl) rfl rfl ?_
              refine WL.val (v_assign rfl rfl) (.none rfl) rfl rfl ?_
              refine WL.nil ?_
              refine WE.then_n ?_
              refine WC.ret ?_
              refine WE.then_ret ?_
              refine WE.ret1 (P := Tryd.prog) (.inl rfl) Tryd.results5 rfl ?_
              first | exact fun w' h => ⟨rfl, h.frm⟩ | (exfalso; rcases hcode with h | h | ⟨h, h' | h'⟩ <;> omega)
        · -- 57F
          refine WL.val (v_move rfl rfl) (.some rfl rfl rfl) rfl rfl ?_
          refine WL.skip rfl rfl rfl rfl rfl rfl ?_
          refine WL.skip rfl rfl rfl rfl rfl rfl ?_
          refine WL.skip rfl rfl rfl rfl rfl rfl ?_
          refine WL.skip rfl rfl rfl rfl rfl rfl ?_
          refine WL.val (v_pick_f rfl rfl rfl) (.some rfl rfl rfl) rfl rfl ?_
          refine WL.val (v_move rfl rfl) (.some rfl rfl rfl) rfl rfl ?_
          refine WL.val (v_fieldAddr0 rfl rfl fld_43_4) (.some rfl rfl rfl) rfl rfl ?_
          refine WL.val (v_load1 rfl rfl one_35 (cellAt rfl)) (.some rfl rfl rfl) rfl rfl ?_
          refine WL.val (v_len_slice rfl rfl Tryd.underlying35) (.some rfl rfl rfl) rfl rfl ?_
          refine WL.test (v_gtr rfl rfl rfl) (.some rfl rfl rfl) rfl rfl (fun h68 => ?_) (fun h68 => ?_)
          · -- 68T
            refine WL.val (v_pick_f rfl rfl rfl) (.some rfl rfl rfl) rfl rfl ?_
            refine WL.val (v_pick_t rfl rfl rfl) (.some rfl rfl rfl) rfl rfl ?_
            refine WL.val (v_pick_f rfl rfl rfl) (.none rfl) rfl rfl ?_
            refine WL.val (v_assign rfl rfl) (.none rfl) rfl rfl ?_
            refine WL.nil ?_
            refine WE.then_n ?_
            refine WC.ret ?_
            refine WE.then_ret ?_
            refine WE.ret1 (P := Tryd.prog) (.inl rfl) Tryd.results5 rfl ?_
            first | exact fun w' h => ⟨rfl, h.frm⟩ | (exfalso; rcases hcode with h | h | ⟨h, h' | h'⟩ <;> omega)
          · -- 68F
            refine WL.val (v_pick_f rfl rfl rfl) (.some rfl rfl rfl) rfl rfl ?_
            refine WL.val (v_pick_t rfl rfl rfl) (.some rfl rfl rfl) rfl rfl ?_
            refine WL.val (v_pick_f rfl rfl rfl) (.none rfl) rfl rfl ?_
            refine WL.val (v_assign rfl rfl) (.none rfl) rfl rfl ?_
            refine WL.nil ?_
            refine WE.then_n ?_
            refine WC.ret ?_
            refine WE.then_ret ?_
            refine WE.ret1 (P := Tryd.prog) (.inl rfl) Tryd.results5 rfl ?_
            first | exact fun w' h => ⟨rfl, h.frm⟩ | (exfalso; rcases hcode with h | h | ⟨h, h' | h'⟩ <;> omega)
      · -- 53F
        refine WL.val (v_move rfl rfl) (.some rfl rfl rfl) rfl rfl ?_
        refine WL.skip rfl rfl rfl rfl rfl rfl ?_
        refine WL.skip rfl rfl rfl rfl rfl rfl ?_
        refine WL.skip rfl rfl rfl rfl rfl rfl ?_
        refine WL.skip rfl rfl rfl rfl rfl rfl ?_
        refine WL.skip rfl rfl rfl rfl rfl rfl ?_
        refine WL.skip rfl rfl rfl rfl rfl rfl ?_
        refine WL.skip rfl rfl rfl rfl rfl rfl ?_
        refine WL.skip rfl rfl rfl rfl rfl rfl ?_
        refine WL.skip rfl rfl rfl rfl rfl rfl ?_
        refine WL.skip rfl rfl rfl rfl rfl rfl ?_
        refine WL.skip rfl rfl rfl rfl rfl rfl ?_
        refine WL.skip rfl rfl rfl rfl rfl rfl ?_
        refine WL.skip rfl rfl rfl rfl rfl rfl ?_
        refine WL.skip rfl rfl rfl rfl rfl rfl ?_
        refine WL.skip rfl rfl rfl rfl rfl rfl ?_
        refine WL.val (v_pick_f rfl rfl rfl) (.some rfl rfl rfl) rfl rfl ?_
        refine WL.val (v_pick_f rfl rfl rfl) (.none rfl) rfl rfl ?_
        refine WL.val (v_assign rfl rfl) (.none rfl) rfl rfl ?_
        refine WL.nil ?_
        refine WE.then_n ?_
        refine WC.ret ?_
        refine WE.then_ret ?_
        refine WE.ret1 (P := Tryd.prog) (.inl rfl) Tryd.results5 rfl ?_
        first | exact fun w' h => ⟨rfl, h.frm⟩ | (exfalso; rcases hcode with h | h | ⟨h, h' | h'⟩ <;> omega)
  · -- 48F
    refine WL.nil ?_
    refine WE.then_n ?_
    refine WC.cond_f rfl ?_
    refine WC.skip ?_
    refine WE.then_n ?_
    refine WC.seq ?_
    refine WC.region ?_
    refine WL.val (v_move rfl rfl) (.none rfl) rfl rfl ?_
    rw [if_pos (by omega), hmb] at hbs
    obtain ⟨hba, hby, hb0, hbl⟩ := hF.back (by omega)
    rw [← hbs] at hba hby hb0 hbl
    obtain ⟨b2, o2, e2, hr2⟩ := Vec.src2 hV (by rw [u8s_len]; exact hb0)
    have hcc := hV.len.2
    rw [e2]
    refine WL.call rfl rfl ck_17 (.none rfl) rfl rfl ?_
    intro w1 hS
    refine (Decode_c w1 b2 o2 cc bs (hG.keep (fun h => h) hS) (hZ.keep (fun h => h) hS) ⟨hr2 w1 fun e he => hS.holds e (by simp [he]), hby, hcc⟩ (by omega)).mono ?_
    intro e w' h
    unfold DecP at h
    rw [hba] at h
    obtain ⟨x, K2, rfl, ex, hX, hS'⟩ := h
    obtain ⟨hfx, hInx, _⟩ := hF.few ex
    refine ⟨_, _, rfl, hS.join hS', ?_⟩
    refine WL.val (v_move rfl rfl) (.none rfl) rfl rfl ?_
    refine WL.val (v_extract rfl rfl rfl) (.none rfl) rfl rfl ?_
    refine WL.val (v_extract rfl rfl rfl) (.none rfl) rfl rfl ?_
    refine WL.alloc rfl zero_43 (.none rfl) rfl rfl ?_
    intro g8 hg8
    refine WL.alloc rfl zero_25 (.none rfl) rfl rfl ?_
    intro g9 hg9
    refine WL.storeW rfl rfl rfl rfl many_43 rfl rfl (.none rfl) rfl ?_
    refine WL.storeW rfl rfl rfl rfl many_25 rfl rfl (.none rfl) rfl ?_
    refine WL.as (L' := .row g9 (fltL 0 0 ⟨#[]⟩) :: .row g8 x.cells :: (K2 ++ (E ++ (.row g4 (fltL 0 0 ⟨#[]⟩) :: .row g3 m.cells :: (K ++ []))))) rfl ?_
    refine WL.nil ?_
    refine WE.then_n ?_
    refine WC.seq ?_
    refine WC.held (.row g9 (fltL 0 0 ⟨#[]⟩) :: .row g8 x.cells :: (K2 ++ (E ++ (.row g4 (fltL 0 0 ⟨#[]⟩) :: .row g3 m.cells :: (K ++ []))))) mixed ?_
    refine WRH.first (g := 5) [0, 1, 2, 3, 4, 6] (by kernel_rfl) (by kernel_rfl) (fun w hS => hS.sub (by repeat (first | exact List.Sublist.refl _ | exact List.nil_sublist _ | refine List.Sublist.cons _ ?_ | refine List.sublist_append_of_sublist_right ?_))) ?_
    refine WH.val (v_loadN rfl rfl many_25 rfl allAt) (.none rfl) rfl rfl ?_
    refine WH.val (v_build rfl rfl zero_25 plc_25 rfl) (.none rfl) rfl rfl ?_
    refine WH.val (v_eql_aggT rfl rfl rfl eqk_25 eqg_25 rfl rfl (by rfl)) (.none rfl) rfl rfl ?_
    refine WH.val (v_move rfl rfl) (.none rfl) rfl rfl ?_
    refine WH.val (v_loadN rfl rfl many_43 rfl allAt) (.some rfl rfl rfl) rfl rfl ?_
    refine WH.val (v_loadN rfl rfl many_43 rfl allAt) (.some rfl rfl rfl) rfl rfl ?_
    refine WH.nil ?_
    refine WRH.one (g := 4) 5 (by kernel_rfl) ?_
    refine WL.call rfl rfl ck_20 (.some rfl rfl rfl) rfl rfl ?_
    intro w1 hS
    refine (Plain_c w1 x (hX.at fun e he => hS.holds e (by simp [he])) hInx hfx).mono ?_
    rintro e w' ⟨x', K82, rfl, ex', hx', hS'⟩
    refine ⟨_, _, rfl, hS.join hS', ?_⟩
    refine WL.nilH (fun w hS => hS.sub (by repeat (first | exact List.Sublist.refl _ | exact List.nil_sublist _ | refine List.Sublist.cons _ ?_ | refine List.sublist_append_of_sublist_right ?_))) ?_
    refine WRH.one (g := 3) 7 (by kernel_rfl) ?_
    refine WL.call rfl rfl ck_20 (.some rfl rfl rfl) rfl rfl ?_
    intro w1 hS
    refine (Plain_c w1 m (hM.at fun e he => hS.holds e (by simp [he])) hIn hfw).mono ?_
    rintro e w' ⟨m', K84, rfl, em', hm', hS'⟩
    refine ⟨_, _, rfl, hS.join hS', ?_⟩
    refine WL.nilH (fun w hS => hS.sub (by repeat (first | exact List.Sublist.refl _ | exact List.nil_sublist _ | refine List.Sublist.cons _ ?_ | refine List.sublist_append_of_sublist_right ?_))) ?_
    refine WRH.one (g := 2) 8 (by kernel_rfl) ?_
    obtain ⟨hfx', hInx', _⟩ := hF.few (ex'.trans ex)
    refine WL.call rfl rfl ck_19 (.some rfl rfl rfl) rfl rfl ?_
    intro w hS
    refine Calls.then (RSame07_c _ x' m' (hx' _ (hX.at fun e he => hS.holds e (by simp [he])) fun e he => hS.holds e (by simp [he])) (hm' _ (hM.at fun e he => hS.holds e (by simp [he])) fun e he => hS.holds e (by simp [he])) (by rw [ex', em', ex, em]) hInx' hfx') hS ?_
    refine WL.nilH (fun w hS => hS.sub (by repeat (first | exact List.Sublist.refl _ | exact List.nil_sublist _ | refine List.Sublist.cons _ ?_ | refine List.sublist_append_of_sublist_right ?_))) ?_
    refine WRH.first (g := 0) [9, 10] (by kernel_rfl) (by kernel_rfl) (fun w hS => hS.sub (by repeat (first | exact List.Sublist.refl _ | exact List.nil_sublist _ | refine List.Sublist.cons _ ?_ | refine List.sublist_append_of_sublist_right ?_))) ?_
    refine WH.val (v_pick_t rfl rfl rfl) (.none rfl) rfl rfl ?_
    refine WH.val (v_assign rfl rfl) (.none rfl) rfl rfl ?_
    refine WH.nil ?_
    refine WRH.done (by kernel_rfl) ?_
    refine WE.then_n ?_
    refine WC.ret ?_
    refine WE.ret1 (P := Tryd.prog) (.inl rfl) Tryd.results5 rfl ?_
    exact fun w' h => ⟨rfl, h.frm⟩
end Go.Proofs.YtpjbofodllhjbaaDoor
/- attr: what was read is well formed. -/
namespace Go.Proofs.YtpjbofodllhjbaaDoor
open Go.RowKit

/-- Attributes as they are read: what is there is good, what is not is zero. -/
structure AtG (N : Nat) (d : AtD) : Prop where
  each : ∀ k, 1 ≤ k → k ≤ 8 → eachBD d k = true
  hop : U32 d.hop
  aid : U32 d.aid
  path : 4 * d.path.length ≤ N
  oths : ∀ o ∈ d.others, 9 ≤ o.1 ∧ o.1 ≤ 255 ∧ Bys o.2 ∧ o.2.length ≤ N
theorem each_keep {d d' : AtD} {k : Nat} (h1 : hasB d'.has k = hasB d.has k) (h2 : goodBD d' k = goodBD d k) (h3 : zeroBD d' k = zeroBD d k) (h : eachBD d k = true) : eachBD d' k = true := by
  unfold eachBD at h ⊢
  rw [h1, h2, h3]
  exact h
theorem each_new {d : AtD} {k : Nat} (h1 : hasB d.has k = true) (h2 : goodBD d k = true) : eachBD d k = true := by
  unfold eachBD
  rw [h1]
  exact h2
theorem hasB_same {h : Int} {t : Nat} (h1 : 1 ≤ t) (h8 : t ≤ 8) (hb : h / 2 ^ t % 2 = 0) : hasB (h + 2 ^ t) t = true := by
  refine (hasB_iff h1 h8).2 ?_
  have : t = 1 ∨ t = 2 ∨ t = 3 ∨ t = 4 ∨ t = 5 ∨ t = 6 ∨ t = 7 ∨ t = 8 := by omega
  rcases this with rfl | rfl | rfl | rfl | rfl | rfl | rfl | rfl <;> omega
theorem hasB_other {h : Int} {t k : Nat} (h0 : 0 ≤ h) (h1 : h ≤ 511) (ht : t ≤ 8) (hb : h / 2 ^ t % 2 = 0) (hk : k ≤ 8) (hne : k ≠ t) : hasB (h + 2 ^ t) k = hasB h k := by
  have := (bits_addI h0 h1 ht hb).2 k hk hne
  unfold hasB
  rw [this]
theorem readI2 {v : List Int} (h : Bys v) (hl : v.length = 2) : 0 ≤ readI v ∧ readI v ≤ 65535 := by
  match v, hl with
  | [a, b], _ => have := h a (by simp); have := h b (by simp); show 0 ≤ (0 * 256 + a) * 256 + b ∧ (0 * 256 + a) * 256 + b ≤ 65535; omega
theorem readI4 {v : List Int} (h : Bys v) (hl : v.length = 4) : 0 ≤ readI v ∧ readI v ≤ 4294967295 := by
  match v, hl with
  | [a, b, c, d], _ =>
    have := h a (by simp); have := h b (by simp); have := h c (by simp); have := h d (by simp)
    show 0 ≤ (((0 * 256 + a) * 256 + b) * 256 + c) * 256 + d ∧ (((0 * 256 + a) * 256 + b) * 256 + c) * 256 + d ≤ 4294967295; omega
theorem fours_b : ∀ {v : List Int}, Bys v → ∀ x ∈ fours v, 0 ≤ x ∧ x ≤ 4294967295
  | a :: b :: c :: d :: xs, h, x, hx => by
    rw [fours] at hx
    rcases List.mem_cons.1 hx with rfl | hx
    · exact readI4 (fun y hy => h y (by simp at hy ⊢; rcases hy with h | h | h | h <;> simp [h])) rfl
    · exact fours_b (fun y hy => h y (by simp [hy])) x hx
  | [], _, x, hx => by simp [fours] at hx
  | [_], _, x, hx => by simp [fours] at hx
  | [_, _], _, x, hx => by simp [fours] at hx
  | [_, _, _], _, x, hx => by simp [fours] at hx
theorem fours_l : ∀ (v : List Int), (fours v).length ≤ v.length / 4
  | a :: b :: c :: d :: xs => by have := fours_l xs; simp only [fours, List.length_cons]; omega
  | [] => by simp [fours]
  | [_] => by simp [fours]
  | [_, _] => by simp [fours]
  | [_, _, _] => by simp [fours]
theorem pathR_len : ∀ (v : List Int) {p : List (Bool × List Int)}, pathR v = some p → p.all segBD = true → 4 * p.length ≤ v.length
  | [], p, h, _ => by rw [pathR] at h; cases h; exact Nat.le_refl _
  | [_], p, h, _ => by rw [pathR] at h; cases h
  | x :: n :: xs, p, h, ha => by
    rw [pathR_cons] at h
    split at h
    · cases h
    · rename_i hn
      obtain ⟨q, hq, rfl⟩ := Option.map_eq_some_iff.1 h
      rw [List.all_cons, Bool.and_eq_true] at ha
      have ih := pathR_len (xs.drop (2 * n.toNat)) hq ha.2
      have h1 := ha.1
      unfold segBD at h1
      rw [Bool.and_eq_true] at h1
      have h2 := of_decide_eq_true h1.1
      rw [List.length_map, List.length_range] at h2
      rw [List.length_drop] at ih
      rw [List.length_cons, List.length_cons, List.length_cons]
      omega
termination_by v => v.length
decreasing_by simp only [List.length_drop, List.length_cons]; omega
theorem kcases {k : Nat} (h1 : 1 ≤ k) (h8 : k ≤ 8) : k = 1 ∨ k = 2 ∨ k = 3 ∨ k = 4 ∨ k = 5 ∨ k = 6 ∨ k = 7 ∨ k = 8 := by omega
theorem AtG.zero (N : Nat) : AtG N AtL.zero.d := ⟨fun k h1 h8 => by rcases kcases h1 h8 with rfl | rfl | rfl | rfl | rfl | rfl | rfl | rfl <;> decide, ⟨by decide, by decide⟩, ⟨by decide, by decide⟩, Nat.zero_le _, fun _ h => by cases h⟩
set_option maxHeartbeats 1000000 in
theorem AtG.take {N : Nat} {d d' : AtD} {all v : List Int} (hG : AtG N d) (hv : Bys v) (hvl : v.length ≤ N) (h18 : 1 ≤ fOf all 1 ∧ fOf all 1 ≤ 8) (h0 : 0 ≤ d.has) (h1 : d.has ≤ 511) (hb : d.has / 2 ^ (fOf all 1).toNat % 2 = 0) (hcom : fOf all 1 = 8 → d.comms = []) (h : takeD d all v = .inl d') : AtG N d' := by
  obtain ⟨t, ht⟩ := Int.eq_ofNat_of_zero_le (show 0 ≤ fOf all 1 by omega)
  unfold takeD at h
  rw [ht, Int.toNat_natCast] at h
  rw [ht, Int.toNat_natCast] at hb
  rw [ht] at hcom
  split at h
  · cases h
  split at h
  · cases h
  rename_i hsz
  split at h
  · cases h
  rename_i h256
  split at h
  · cases h
  rename_i d2 hs
  split at h
  · cases h
  rename_i g2
  split at h
  · cases h
  rename_i g1
  split at h
  · cases h
  rename_i g3
  cases h
  have t1 : 1 ≤ t := by omega
  have t8 : t ≤ 8 := by omega
  have hn := hasB_same t1 t8 hb
  have hk : ∀ k, k ≤ 8 → k ≠ t → hasB (d.has + 2 ^ t) k = hasB d.has k := fun k k8 e => hasB_other h0 h1 t8 hb k8 e
  rcases kcases t1 t8 with rfl | rfl | rfl | rfl | rfl | rfl | rfl | rfl
  · obtain rfl : { d with origin := readI v } = d2 := Option.some.inj hs
    refine ⟨fun k k1 k8 => ?_, hG.hop, hG.aid, hG.path, hG.oths⟩
    by_cases e : k = 1
    · subst e
      refine each_new hn ?_
      show wiB (readI v) 2 = true
      cases hw : wiB (readI v) 2
      · exact absurd ⟨rfl, hw⟩ g1
      · rfl
    · exact each_keep (hk k k8 e) (by rcases kcases k1 k8 with rfl | rfl | rfl | rfl | rfl | rfl | rfl | rfl <;> first | rfl | exact absurd rfl e) (by rcases kcases k1 k8 with rfl | rfl | rfl | rfl | rfl | rfl | rfl | rfl <;> first | rfl | exact absurd rfl e) (hG.each k k1 k8)
  · obtain ⟨p, hp, rfl⟩ := Option.map_eq_some_iff.1 (show (pathR v).map (fun p => { d with path := p }) = some d2 from hs)
    have hall : p.all segBD = true := by
      cases hw : p.all segBD
      · exact absurd ⟨rfl, hw⟩ g2
      · rfl
    have hpl := pathR_len v hp hall
    refine ⟨fun k k1 k8 => ?_, hG.hop, hG.aid, by show 4 * p.length ≤ N; omega, hG.oths⟩
    by_cases e : k = 2
    · subst e
      exact each_new hn hall
    · exact each_keep (hk k k8 e) (by rcases kcases k1 k8 with rfl | rfl | rfl | rfl | rfl | rfl | rfl | rfl <;> first | rfl | exact absurd rfl e) (by rcases kcases k1 k8 with rfl | rfl | rfl | rfl | rfl | rfl | rfl | rfl <;> first | rfl | exact absurd rfl e) (hG.each k k1 k8)
  · obtain rfl : { d with hop := readI v } = d2 := Option.some.inj hs
    have hl : v.length = 4 := by
      have : ¬ ((0 ≤ (4 : Int) ∧ (v.length : Int) ≠ 4) ∨ _) := hsz
      omega
    refine ⟨fun k k1 k8 => ?_, readI4 hv hl, hG.aid, hG.path, hG.oths⟩
    by_cases e : k = 3
    · subst e
      refine each_new hn ?_
      show hopB (readI v) = true
      cases hw : hopB (readI v)
      · exact absurd ⟨rfl, hw⟩ g3
      · rfl
    · exact each_keep (hk k k8 e) (by rcases kcases k1 k8 with rfl | rfl | rfl | rfl | rfl | rfl | rfl | rfl <;> first | rfl | exact absurd rfl e) (by rcases kcases k1 k8 with rfl | rfl | rfl | rfl | rfl | rfl | rfl | rfl <;> first | rfl | exact absurd rfl e) (hG.each k k1 k8)
  · obtain rfl : { d with med := readI v } = d2 := Option.some.inj hs
    have hl : v.length = 4 := by
      have : ¬ ((0 ≤ (4 : Int) ∧ (v.length : Int) ≠ 4) ∨ _) := hsz
      omega
    refine ⟨fun k k1 k8 => ?_, hG.hop, hG.aid, hG.path, hG.oths⟩
    by_cases e : k = 4
    · subst e
      exact each_new hn (decide_eq_true (readI4 hv hl))
    · exact each_keep (hk k k8 e) (by rcases kcases k1 k8 with rfl | rfl | rfl | rfl | rfl | rfl | rfl | rfl <;> first | rfl | exact absurd rfl e) (by rcases kcases k1 k8 with rfl | rfl | rfl | rfl | rfl | rfl | rfl | rfl <;> first | rfl | exact absurd rfl e) (hG.each k k1 k8)
  · obtain rfl : { d with loc := readI v } = d2 := Option.some.inj hs
    have hl : v.length = 4 := by
      have : ¬ ((0 ≤ (4 : Int) ∧ (v.length : Int) ≠ 4) ∨ _) := hsz
      omega
    refine ⟨fun k k1 k8 => ?_, hG.hop, hG.aid, hG.path, hG.oths⟩
    by_cases e : k = 5
    · subst e
      exact each_new hn (decide_eq_true (readI4 hv hl))
    · exact each_keep (hk k k8 e) (by rcases kcases k1 k8 with rfl | rfl | rfl | rfl | rfl | rfl | rfl | rfl <;> first | rfl | exact absurd rfl e) (by rcases kcases k1 k8 with rfl | rfl | rfl | rfl | rfl | rfl | rfl | rfl <;> first | rfl | exact absurd rfl e) (hG.each k k1 k8)
  · obtain rfl : d = d2 := Option.some.inj hs
    refine ⟨fun k k1 k8 => ?_, hG.hop, hG.aid, hG.path, hG.oths⟩
    by_cases e : k = 6
    · subst e
      exact each_new hn rfl
    · exact each_keep (hk k k8 e) (by rcases kcases k1 k8 with rfl | rfl | rfl | rfl | rfl | rfl | rfl | rfl <;> first | rfl | exact absurd rfl e) (by rcases kcases k1 k8 with rfl | rfl | rfl | rfl | rfl | rfl | rfl | rfl <;> first | rfl | exact absurd rfl e) (hG.each k k1 k8)
  · obtain rfl : { d with aas := readI (v.take 2), aid := readI (v.drop 2) } = d2 := Option.some.inj hs
    have hl : v.length = 6 := by
      have : ¬ ((0 ≤ (6 : Int) ∧ (v.length : Int) ≠ 6) ∨ _) := hsz
      omega
    refine ⟨fun k k1 k8 => ?_, hG.hop, readI4 (fun x hx => hv x (List.mem_of_mem_drop hx)) (by rw [List.length_drop]; omega), hG.path, hG.oths⟩
    by_cases e : k = 7
    · subst e
      exact each_new hn (decide_eq_true (readI2 (fun x hx => hv x (List.mem_of_mem_take hx)) (by rw [List.length_take]; omega)))
    · exact each_keep (hk k k8 e) (by rcases kcases k1 k8 with rfl | rfl | rfl | rfl | rfl | rfl | rfl | rfl <;> first | rfl | exact absurd rfl e) (by rcases kcases k1 k8 with rfl | rfl | rfl | rfl | rfl | rfl | rfl | rfl <;> first | rfl | exact absurd rfl e) (hG.each k k1 k8)
  · obtain rfl : { d with comms := d.comms ++ fours v } = d2 := Option.some.inj hs
    have hl : ¬ 256 < v.length / 4 := fun hh => h256 ⟨rfl, hh⟩
    refine ⟨fun k k1 k8 => ?_, hG.hop, hG.aid, hG.path, hG.oths⟩
    by_cases e : k = 8
    · subst e
      refine each_new hn ?_
      show commsB (d.comms ++ fours v) = true
      rw [hcom rfl, List.nil_append]
      unfold commsB
      have := fours_l v
      rw [decide_eq_true (show (fours v).length ≤ 256 by omega), Bool.and_true]
      exact List.all_eq_true.2 fun x hx => decide_eq_true (fours_b hv x hx)
    · exact each_keep (hk k k8 e) (by rcases kcases k1 k8 with rfl | rfl | rfl | rfl | rfl | rfl | rfl | rfl <;> first | rfl | exact absurd rfl e) (by rcases kcases k1 k8 with rfl | rfl | rfl | rfl | rfl | rfl | rfl | rfl <;> first | rfl | exact absurd rfl e) (hG.each k k1 k8)
end Go.Proofs.YtpjbofodllhjbaaDoor
/- attr: what was read is well formed: whole; prefixes. -/
namespace Go.Proofs.YtpjbofodllhjbaaDoor
open Go.RowKit

theorem AtG.other {N : Nat} {d d' : AtD} {all v : List Int} (hG : AtG N d) (hB : Bys all) (hv : Bys v) (hvl : v.length ≤ N) (h18 : ¬ (1 ≤ fOf all 1 ∧ fOf all 1 ≤ 8)) (h : otherD d all v = .inl d') : AtG N d' := by
  have hb := fOf_b hB 1
  unfold otherD at h
  split at h
  · cases h
  split at h
  · rename_i hc
    cases h
    refine ⟨hG.each, hG.hop, hG.aid, hG.path, fun o ho => ?_⟩
    rcases List.mem_append.1 ho with ho | ho
    · exact hG.oths o ho
    · obtain rfl : o = (fOf all 1, v) := by simpa using ho
      exact ⟨by show 9 ≤ fOf all 1; omega, hb.2, hv, hvl⟩
  · cases h; exact hG
theorem AtG.step {N : Nat} {d d' : AtD} {seen all v : List Int} (hG : AtG N d) (hS : SeenI d seen) (hB : Bys all) (hv : Bys v) (hvl : v.length ≤ N) (hn : fOf all 1 ∉ seen) (h : stepD d all v = .inl d') : AtG N d' := by
  have hb := fOf_b hB 1
  unfold stepD at h
  split at h
  · rename_i h18
    refine hG.take hv hvl h18 hS.h0 hS.h1 ?_ (fun e => hS.com (by rw [← e]; exact hn)) h
    obtain ⟨t, ht⟩ := Int.eq_ofNat_of_zero_le hb.1
    rw [ht, Int.toNat_natCast]
    exact hS.bit t (by omega) (.inr (by rw [← ht]; exact hn))
  · rename_i h18
    exact hG.other hB hv hvl h18 h
theorem decD_good (N : Nat) : ∀ (n : Nat) (d : AtD) (seen xs : List Int) {d' : AtD}, xs.length ≤ n → xs.length ≤ N → Bys xs → SeenI d seen → AtG N d → decD d seen xs = .inl d' → AtG N d' ∧ ∃ seen', SeenI d' seen'
  | _, d, seen, [], d', _, _, _, hS, hG, h => by
    rw [decD_nil] at h
    cases h
    exact ⟨hG, seen, hS⟩
  | 0, d, seen, x :: xs, d', hn, _, _, _, _, _ => by simp at hn
  | n + 1, d, seen, x :: xs, d', hn, hN, hB, hS, hG, h => by
    by_cases hc : (x :: xs).length < fromN (x :: xs) ∨ (x :: xs).length < toN (x :: xs) ∨ fOf (x :: xs) 1 ∈ seen
    · rw [decD_bad (by simp) hc] at h; cases h
    · rw [decD_step (by simp) hc] at h
      have hf := fromN_b (x :: xs)
      have ht := toN_ge (x :: xs)
      have e1 : fOf ((x :: xs).take (toN (x :: xs))) 1 = fOf (x :: xs) 1 := by
        unfold fOf
        rw [List.getD_eq_getElem?_getD, List.getD_eq_getElem?_getD, List.getElem?_take, if_pos (by omega)]
      have hBt : Bys ((x :: xs).take (toN (x :: xs))) := fun y hy => hB y (List.mem_of_mem_take hy)
      have hBv : Bys (((x :: xs).take (toN (x :: xs))).drop (fromN (x :: xs))) := fun y hy => hBt y (List.mem_of_mem_drop hy)
      have hvl : (((x :: xs).take (toN (x :: xs))).drop (fromN (x :: xs))).length ≤ N := by rw [List.length_drop, List.length_take]; omega
      have hns : fOf ((x :: xs).take (toN (x :: xs))) 1 ∉ seen := by rw [e1]; exact fun hh => hc (.inr (.inr hh))
      cases hs : stepD d ((x :: xs).take (toN (x :: xs))) (((x :: xs).take (toN (x :: xs))).drop (fromN (x :: xs))) with
      | inr f => rw [hs] at h; cases h
      | inl d2 =>
        rw [hs] at h
        have hS2 := hS.step hBt hns hs
        rw [e1] at hS2
        exact decD_good N n d2 _ _ (by rw [List.length_drop]; omega) (by rw [List.length_drop]; omega) (fun y hy => hB y (List.mem_of_mem_drop hy)) hS2 (hG.step hS hBt hBv hvl hns hs) h
theorem SeenI.zero : SeenI AtL.zero.d [] := ⟨by decide, by decide, fun t _ _ => by show (0 : Int) / 2 ^ t % 2 = 0; rw [Int.zero_ediv]; rfl, fun _ => rfl, List.nodup_nil, fun t h => by cases h⟩
theorem ordBD_of : ∀ (last : Int) (os : List (Int × List Int)), (os.map (·.1)).Nodup → os.Pairwise (fun x y => x.1 ≤ y.1) → (∀ o ∈ os, last < o.1 ∧ o.1 ≤ 255) → ordBD last os = true
  | _, [], _, _, _ => rfl
  | last, o :: os, hn, hp, h => by
    rw [List.map_cons, List.nodup_cons] at hn
    rw [List.pairwise_cons] at hp
    have h0 := h o (List.mem_cons_self ..)
    unfold ordBD
    rw [decide_eq_true h0, Bool.true_and]
    refine ordBD_of o.1 os hn.2 hp.2 fun q hq => ?_
    have h1 := hp.1 q hq
    have h2 := h q (List.mem_cons_of_mem _ hq)
    have h3 : o.1 ≠ q.1 := fun e => hn.1 (by rw [e]; exact List.mem_map.2 ⟨q, hq, rfl⟩)
    omega
theorem ordBD_len : ∀ (last : Int) (os : List (Int × List Int)), ordBD last os = true → last ≤ 255 → last + os.length ≤ 255
  | last, [], _, h => by simpa using h
  | last, o :: os, h, _ => by
    unfold ordBD at h
    rw [Bool.and_eq_true] at h
    have h1 := of_decide_eq_true h.1
    have := ordBD_len o.1 os h.2 h1.2
    rw [List.length_cons]
    omega
/-- Attributes that were read, in order: they have bytes, but for their number. -/
theorem AtG.chk {N : Nat} {d : AtD} {seen : List Int} (hG : AtG N d) (hS : SeenI d seen) : chkAD { d with others := sortO d.others } = true ∧ d.others.length ≤ 247 := by
  have hp := sortO_perm d.others
  have hord : ordBD 8 (sortO d.others) = true := ordBD_of 8 _ ((hp.map _).nodup_iff.2 hS.nd) (sortO_asc _) fun o ho => by
    have := hG.oths o (hp.mem_iff.1 ho)
    omega
  have hl := ordBD_len 8 _ hord (by decide)
  rw [hp.length_eq] at hl
  refine ⟨?_, by omega⟩
  unfold chkAD
  have h0 := hS.h0
  have h1 := hS.h1
  have h2 := hS.bit 0 (by omega) (.inl rfl)
  have hkn : knownB d.has = true := decide_eq_true (by
    rw [show (2 : Int) ^ 0 = 1 from rfl, Int.ediv_one] at h2
    omega)
  show (knownB d.has && _ && ordBD 8 (sortO d.others)) = true
  rw [hkn, hord, Bool.true_and, Bool.and_true]
  exact List.all_eq_true.2 fun k hk => by
    obtain ⟨k1, k2⟩ := List.mem_range'_1.1 hk
    exact hG.each k k1 (by omega)
theorem AtG.in_ {N : Nat} {d : AtD} {seen : List Int} (hG : AtG N d) (hS : SeenI d seen) (hN : N ≤ 1000000) : AtD.In { d with others := sortO d.others } ∧ d.path.length ≤ N / 4 := by
  have hp := sortO_perm d.others
  have hc := hG.chk hS
  have hE : ∀ k, 1 ≤ k → k ≤ 8 → (hasB d.has k = true ∧ goodBD d k = true) ∨ zeroBD d k = true := fun k k1 k8 => by
    have := hG.each k k1 k8
    unfold eachBD at this
    cases hb : hasB d.has k
    · rw [hb] at this; exact .inr this
    · rw [hb] at this; exact .inl ⟨rfl, this⟩
  have h0 := hS.h0
  have h1 := hS.h1
  have hor : 0 ≤ d.origin ∧ d.origin ≤ 2 := by
    rcases hE 1 (by decide) (by decide) with ⟨_, h⟩ | h
    · exact wiB_iff h
    · have := of_decide_eq_true (show decide (d.origin = 0) = true from h); omega
  have hme : 0 ≤ d.med ∧ d.med ≤ 4294967295 := by
    rcases hE 4 (by decide) (by decide) with ⟨_, h⟩ | h
    · exact wiB_iff h
    · have := of_decide_eq_true (show decide (d.med = 0) = true from h); omega
  have hlo : 0 ≤ d.loc ∧ d.loc ≤ 4294967295 := by
    rcases hE 5 (by decide) (by decide) with ⟨_, h⟩ | h
    · exact wiB_iff h
    · have := of_decide_eq_true (show decide (d.loc = 0) = true from h); omega
  have has : 0 ≤ d.aas ∧ d.aas ≤ 65535 := by
    rcases hE 7 (by decide) (by decide) with ⟨_, h⟩ | h
    · exact wiB_iff h
    · have := of_decide_eq_true (show decide (d.aas = 0 ∧ d.aid = 0) = true from h); omega
  have hpa : ∀ s ∈ d.path, s.2.length ≤ 255 ∧ ∀ x ∈ s.2, 1 ≤ x ∧ x ≤ 65535 := by
    rcases hE 2 (by decide) (by decide) with ⟨_, h⟩ | h
    · intro s hs
      have := List.all_eq_true.1 (show d.path.all segBD = true from h) s hs
      unfold segBD at this
      rw [Bool.and_eq_true] at this
      exact ⟨(of_decide_eq_true this.1).2, fun x hx => of_decide_eq_true (List.all_eq_true.1 this.2 x hx)⟩
    · have := of_decide_eq_true (show decide ((d.path.length : Int) = 0) = true from h)
      have : d.path = [] := List.length_eq_zero_iff.1 (by omega)
      rw [this]; intro s hs; cases hs
  have hco : (∀ x ∈ d.comms, 0 ≤ x ∧ x ≤ 4294967295) ∧ d.comms.length ≤ 256 := by
    rcases hE 8 (by decide) (by decide) with ⟨_, h⟩ | h
    · have h' : commsB d.comms = true := h
      unfold commsB at h'
      rw [Bool.and_eq_true] at h'
      exact ⟨fun x hx => wiB_iff (List.all_eq_true.1 h'.1 x hx), of_decide_eq_true h'.2⟩
    · have := of_decide_eq_true (show decide ((d.comms.length : Int) = 0) = true from h)
      have : d.comms = [] := List.length_eq_zero_iff.1 (by omega)
      rw [this]; exact ⟨fun x hx => (by cases hx), by decide⟩
  have hpl := hG.path
  refine ⟨⟨⟨⟨by show _ ≤ d.has; omega, by show d.has ≤ _; omega⟩, ⟨by show _ ≤ d.origin; omega, by show d.origin ≤ _; omega⟩, hG.hop, ⟨by show _ ≤ d.med; omega, by show d.med ≤ _; omega⟩, ⟨by show _ ≤ d.loc; omega, by show d.loc ≤ _; omega⟩, ⟨by show _ ≤ d.aas; omega, by show d.aas ≤ _; omega⟩, hG.aid⟩, fun s hs => ?_, fun x hx => ?_, fun o ho => ?_, ⟨?_, ?_, ?_⟩⟩, by omega⟩
  · have := hpa s hs
    exact ⟨by omega, fun x hx => by have := this.2 x hx; exact ⟨by omega, by omega⟩⟩
  · have := hco.1 x hx; exact ⟨by omega, by omega⟩
  · have := hG.oths o (hp.mem_iff.1 ho)
    exact ⟨⟨by omega, by omega⟩, by omega, this.2.2.1⟩
  · show d.path.length ≤ _; omega
  · show d.comms.length ≤ _; omega
  · show (sortO d.others).length ≤ _; rw [hp.length_eq]; omega
end Go.Proofs.YtpjbofodllhjbaaDoor
/- bgp: the faults of what is read; prefixes and capabilities that are read. -/
namespace Go.Proofs.YtpjbofodllhjbaaDoor
open Go.RowKit

theorem takeD_sub {d : AtD} {all v : List Int} {s : Int} {x : ByteArray} (h : takeD d all v = .inr (s, x)) : 0 ≤ s ∧ s ≤ 11 := by
  unfold takeD at h
  split at h
  · cases h; decide
  split at h
  · cases h; decide
  split at h
  · cases h; decide
  split at h
  · cases h; decide
  split at h
  · cases h; decide
  split at h
  · cases h; decide
  split at h
  · cases h; decide
  · cases h
theorem otherD_sub {d : AtD} {all v : List Int} {s : Int} {x : ByteArray} (h : otherD d all v = .inr (s, x)) : 0 ≤ s ∧ s ≤ 11 := by
  unfold otherD at h
  split at h
  · cases h; decide
  split at h <;> cases h
theorem decD_sub : ∀ (n : Nat) (d : AtD) (seen xs : List Int) {s : Int} {x : ByteArray}, xs.length ≤ n → decD d seen xs = .inr (s, x) → 0 ≤ s ∧ s ≤ 11
  | _, d, seen, [], s, x, _, h => by rw [decD_nil] at h; cases h
  | 0, d, seen, y :: xs, s, x, hn, _ => by simp at hn
  | n + 1, d, seen, y :: xs, s, x, hn, h => by
    by_cases hc : (y :: xs).length < fromN (y :: xs) ∨ (y :: xs).length < toN (y :: xs) ∨ fOf (y :: xs) 1 ∈ seen
    · rw [decD_bad (by simp) hc] at h; cases h; decide
    · rw [decD_step (by simp) hc] at h
      have hf := fromN_b (y :: xs)
      have ht := toN_ge (y :: xs)
      cases hs : stepD d ((y :: xs).take (toN (y :: xs))) (((y :: xs).take (toN (y :: xs))).drop (fromN (y :: xs))) with
      | inr f =>
        rw [hs] at h
        cases h
        unfold stepD at hs
        split at hs
        · exact takeD_sub hs
        · exact otherD_sub hs
      | inl d2 =>
        rw [hs] at h
        exact decD_sub n d2 _ _ (by rw [List.length_drop]; omega) h
theorem optsR_sub : ∀ (n : Nat) (acc : List (Int × List Int)) (xs : List Int) {s : Int}, xs.length ≤ n → optsR acc xs = .inr s → s = 0 ∨ s = 4
  | _, acc, [], s, _, h => by rw [optsR] at h; cases h
  | _, acc, [_], s, _, h => by rw [optsR] at h; cases h; exact .inl rfl
  | 0, acc, y :: z :: xs, s, hn, _ => by simp at hn
  | n + 1, acc, y :: z :: xs, s, hn, h => by
    rw [optsR_cons] at h
    split at h
    · cases h; exact .inl rfl
    split at h
    · cases h; exact .inr rfl
    split at h
    · cases h; exact .inl rfl
    · rw [List.length_cons, List.length_cons] at hn
      exact optsR_sub n _ _ (by rw [List.length_drop]; omega) h
theorem sizeR_sub (n : Nat) (f : Nat → Int) : (sizeR n f).2.1 ≠ 0 → (sizeR n f).2.1 = 1 ∧ 0 ≤ (sizeR n f).2.2.1 ∧ (sizeR n f).2.2.1 ≤ 3 := by
  unfold sizeR
  repeat' split
  all_goals (intro h; dsimp only at h ⊢; first | exact absurd rfl h | exact ⟨rfl, by decide, by decide⟩)
theorem decM_sub {xs : List Int} {c s : Int} {d : ByteArray} (h : decM xs = .inr (c, s, d)) : c ≠ 0 ∧ 0 ≤ s ∧ s ≤ mostS c := by
  have m1 : mostS 1 = 3 := rfl
  have m2 : mostS 2 = 6 := rfl
  have m3 : mostS 3 = 11 := rfl
  have m6 : mostS 6 = 1 := rfl
  unfold decM at h
  split at h
  · rename_i hne
    have e : (sizeR xs.length (fOf xs)).2 = (c, s, d) := Sum.inr.inj h
    have hs := sizeR_sub _ _ hne
    rw [e] at hs
    obtain ⟨h1, h2, h3⟩ := hs
    have h1' : c = 1 := h1
    rw [h1', m1]
    exact ⟨by decide, h2, h3⟩
  split at h
  · cases h; exact ⟨by decide, by decide, by rw [m1]; decide⟩
  unfold bodyM at h
  split at h
  · split at h
    · cases h
    · rename_i s' d' ho
      cases h
      unfold openR at ho
      refine ⟨by decide, ?_⟩
      rw [m2]
      split at ho
      · cases ho; decide
      split at ho
      · cases ho; decide
      split at ho
      · cases ho; decide
      split at ho
      · cases ho; decide
      split at ho
      · cases ho; decide
      split at ho
      · cases ho
      · rename_i s2 hs2
        cases ho
        rcases optsR_sub _ _ _ (Nat.le_refl _) hs2 with rfl | rfl <;> decide
  split at h
  · split at h
    · cases h
    · rename_i f hu
      cases h
      unfold updR at hu
      split at hu
      · cases hu; exact ⟨by decide, by decide, by rw [m3]; decide⟩
      split at hu
      · cases hu; exact ⟨by decide, by decide, by rw [m3]; decide⟩
      split at hu
      · cases hu; exact ⟨by decide, by decide, by rw [m3]; decide⟩
      split at hu
      · rename_i s2 d2 hd2
        cases hu
        have := decD_sub _ _ _ _ (Nat.le_refl _) hd2
        exact ⟨by decide, this.1, by rw [m3]; exact this.2⟩
      split at hu
      · cases hu; exact ⟨by decide, by decide, by rw [m3]; decide⟩
      split at hu
      · cases hu; exact ⟨by decide, by decide, by rw [m6]; decide⟩
      split at hu
      · cases hu; exact ⟨by decide, by decide, by rw [m3]; decide⟩
      · cases hu
  split at h <;> cases h
end Go.Proofs.YtpjbofodllhjbaaDoor
/- bgp: a message that was read: what BgpForm needs of it. -/
namespace Go.Proofs.YtpjbofodllhjbaaDoor
open Go.RowKit

theorem inI_idem (x : Int) : inI (inI x) = inI x := by unfold inI; omega
theorem cutI_of (a x : Int) : cutI (cutI a x) (inI x) = cutI a x := by
  unfold cutI
  rw [inI_idem]
  have hM : (0 : Int) < ((2 ^ (32 - inI x).toNat : Nat) : Int) := by exact_mod_cast Nat.two_pow_pos _
  generalize ((2 ^ (32 - inI x).toNat : Nat) : Int) = M at hM
  have e : (a - a % M) % M = 0 := by
    rw [Int.sub_emod, Int.emod_emod_of_dvd _ (Int.dvd_refl M), Int.sub_self, Int.zero_emod]
  rw [e, Int.sub_zero]
theorem cutI_b {a x : Int} (h : 0 ≤ a ∧ a ≤ 4294967295) : U32 (cutI a x) := by
  unfold cutI U32
  have hM : (0 : Int) < ((2 ^ (32 - inI x).toNat : Nat) : Int) := by exact_mod_cast Nat.two_pow_pos _
  generalize ((2 ^ (32 - inI x).toNat : Nat) : Int) = M at hM
  have h1 := Int.emod_nonneg a (show M ≠ 0 by omega)
  have h2 := Int.mul_ediv_self_le (x := a) (k := M) (by omega)
  have h3 := Int.emod_def a M
  have h4 : 0 ≤ M * (a / M) := Int.mul_nonneg (by omega) (Int.ediv_nonneg h.1 (by omega))
  omega
theorem netsR_ok : ∀ (n : Nat) {xs : List Int} {ps : List PfL}, xs.length ≤ n → Bys xs → netsR xs = some ps → ps.all pfOk = true ∧ ∀ p ∈ ps, U32 p.addr ∧ I64 p.len
  | _, [], ps, _, _, h => by rw [netsR] at h; cases h; exact ⟨rfl, fun p hp => by cases hp⟩
  | 0, x :: xs, ps, hn, _, _ => by simp at hn
  | n + 1, x :: xs, ps, hn, hB, h => by
    rw [netsR_cons] at h
    split at h
    · cases h
    · obtain ⟨q, hq, rfl⟩ := Option.map_eq_some_iff.1 h
      rw [List.length_cons] at hn
      have hBx : Bys xs := fun y hy => hB y (List.mem_cons_of_mem _ hy)
      have ih := netsR_ok n (by rw [List.length_drop]; omega) (fun y hy => hBx y (List.mem_of_mem_drop hy)) hq
      have hb := addrI_b (ys := xs.take (needN x)) fun y hy => hBx y (List.mem_of_mem_take hy)
      refine ⟨?_, fun p hp => ?_⟩
      · rw [List.all_cons, ih.1, Bool.and_true]
        exact decide_eq_true ⟨(cutI_of _ _).symm, (inI_idem x).symm⟩
      · rcases List.mem_cons.1 hp with rfl | hp
        · have := inI_b x
          exact ⟨cutI_b hb, by show _ ≤ inI x; omega, by show inI x ≤ _; omega⟩
        · exact ih.2 p hp
/-- A capability that was read. -/
def CapG (c : Int × List Int) : Prop := 0 ≤ c.1 ∧ c.1 ≤ 255 ∧ c.2.length ≤ 255 ∧ Bys c.2
theorem capsR_ok : ∀ (n : Nat) (acc : List (Int × List Int)) {xs : List Int} {cs : List (Int × List Int)}, xs.length ≤ n → Bys xs → (∀ c ∈ acc, CapG c) → capsR acc xs = some cs → (∀ c ∈ cs, CapG c) ∧ cs.length ≤ acc.length + xs.length
  | _, acc, [], cs, _, _, hA, h => by rw [capsR_nil] at h; cases h; exact ⟨hA, by simp⟩
  | _, acc, [_], cs, _, _, _, h => by rw [capsR] at h; cases h
  | 0, acc, y :: z :: xs, cs, hn, _, _, _ => by simp at hn
  | n + 1, acc, y :: z :: xs, cs, hn, hB, hA, h => by
    rw [capsR_cons] at h
    split at h
    · cases h
    · rw [List.length_cons, List.length_cons] at hn
      have hy := hB y (by simp)
      have hz := hB z (by simp)
      have hBx : Bys xs := fun y hy => hB y (by simp [hy])
      have ih := capsR_ok n _ (by rw [List.length_drop]; omega) (fun y hy => hBx y (List.mem_of_mem_drop hy)) (fun c hc => by
        rcases List.mem_append.1 hc with hc | hc
        · exact hA c hc
        · obtain rfl : c = (y, xs.take z.toNat) := by simpa using hc
          exact ⟨hy.1, hy.2, by rw [List.length_take]; omega, fun x hx => hBx x (List.mem_of_mem_take hx)⟩) h
      refine ⟨ih.1, ?_⟩
      have := ih.2
      rw [List.length_append, List.length_drop, List.length_singleton] at this
      rw [List.length_cons, List.length_cons]
      omega
theorem optsR_ok : ∀ (n : Nat) (acc : List (Int × List Int)) {xs : List Int} {cs : List (Int × List Int)}, xs.length ≤ n → Bys xs → (∀ c ∈ acc, CapG c) → optsR acc xs = .inl cs → (∀ c ∈ cs, CapG c) ∧ cs.length ≤ acc.length + xs.length
  | _, acc, [], cs, _, _, hA, h => by rw [optsR_nil] at h; cases h; exact ⟨hA, by simp⟩
  | _, acc, [_], cs, _, _, _, h => by rw [optsR] at h; cases h
  | 0, acc, y :: z :: xs, cs, hn, _, _, _ => by simp at hn
  | n + 1, acc, y :: z :: xs, cs, hn, hB, hA, h => by
    rw [optsR_cons] at h
    split at h
    · cases h
    split at h
    · cases h
    split at h
    · cases h
    · rename_i acc2 hc
      rw [List.length_cons, List.length_cons] at hn
      have hBx : Bys xs := fun y hy => hB y (by simp [hy])
      have h1 := capsR_ok _ _ (Nat.le_refl _) (fun y hy => hBx y (List.mem_of_mem_take hy)) hA hc
      have h2 := optsR_ok n _ (by rw [List.length_drop]; omega) (fun y hy => hBx y (List.mem_of_mem_drop hy)) h1.1 h
      refine ⟨h2.1, ?_⟩
      have a1 := h1.2
      have a2 := h2.2
      rw [List.length_take] at a1
      rw [List.length_drop] at a2
      rw [List.length_cons, List.length_cons]
      omega
/-- A message that says so. -/
def AtD.m (a : AtD) : AtL := ⟨a.has, a.origin, none, 0, a.path.map fun p => ⟨p.1, none, 0, p.2⟩, a.hop, a.med, a.loc, a.aas, a.aid, none, 0, a.comms, none, 0, a.others.map fun p => ⟨p.1, none, 0, p.2⟩⟩
def MsD.m (d : MsD) : MsL := ⟨d.kind, d.asn, d.hold, d.id, none, 0, d.caps.map fun p => ⟨p.1, none, 0, p.2⟩, none, 0, d.gone, d.atr.m, none, 0, d.nets, d.fc, d.fs, d.fd⟩
theorem AtD.m_d (a : AtD) : a.m.d = a := by
  unfold AtD.m AtL.d
  dsimp only
  rw [List.map_map, List.map_map]
  have e1 : (segD ∘ fun p : Bool × List Int => (⟨p.1, none, 0, p.2⟩ : SegL)) = id := rfl
  have e2 : (othD ∘ fun p : Int × List Int => (⟨p.1, none, 0, p.2⟩ : OthL)) = id := rfl
  rw [e1, e2, List.map_id, List.map_id]
theorem MsD.m_d (d : MsD) : d.m.d = d := by
  unfold MsD.m MsL.d
  dsimp only
  rw [List.map_map, AtD.m_d]
  have e1 : (capD ∘ fun p : Int × List Int => (⟨p.1, none, 0, p.2⟩ : CapL)) = _root_.id := rfl
  rw [e1, List.map_id]
theorem back_of {md : MsD} (hI : md.In) (hb : bareD md.m = md) (h : msgCD md = 0) : decM (msgBD md) = .inl md ∧ Bys (msgBD md) ∧ 0 < (msgBD md).length ∧ (msgBD md).length ≤ 5000 := by
  have e := md.m_d
  have hc : msgC md.m = 0 := by rw [msgC_d, e]; exact h
  have hm : md.m.In := MsL.in_d.2 (by rw [e]; exact hI)
  have e2 : msgB md.m = msgBD md := by rw [msgB_d, e]
  have h1 := decM_msgB hc hm
  have h2 := msgB_bys hm hc
  have h3 := msgB_len md.m
  have h4 := (msgC_bod hc).2
  rw [e2] at h1 h2 h3
  rw [hb] at h1
  exact ⟨h1, h2, by omega, by omega⟩
end Go.Proofs.YtpjbofodllhjbaaDoor
/- bgp: a message that was read is one that BgpForm asks for. -/
namespace Go.Proofs.YtpjbofodllhjbaaDoor
open Go.RowKit

theorem Bys.drop {xs : List Int} (h : Bys xs) (n : Nat) : Bys (xs.drop n) := fun x hx => h x (List.mem_of_mem_drop hx)
theorem Bys.take {xs : List Int} (h : Bys xs) (n : Nat) : Bys (xs.take n) := fun x hx => h x (List.mem_of_mem_take hx)
theorem code_of {d : MsD} {P : Prop} (h : bodCD d = 0 ∨ bodCD d = 6 ∨ bodCD d = 1 ∧ P) : msgCD d = 0 ∨ msgCD d = 6 ∨ msgCD d = 1 ∧ P := by
  unfold msgCD
  rcases h with e | e | ⟨e, hp⟩
  · rw [e, if_pos rfl]
    split
    · exact .inr (.inl rfl)
    · exact .inl rfl
  · rw [e]; exact .inr (.inl rfl)
  · rw [e]; exact .inr (.inr ⟨rfl, hp⟩)
theorem openR_form {xs : List Int} {cs : List (Int × List Int)} (hB : Bys xs) (hn : xs.length ≤ 5000) (h : openR xs = .inl cs) : FormOk { (MsL.zero 1).d with asn := asnB xs, hold := holdB xs, id := idB xs, caps := cs } := by
  have a1 := fOf_b hB 1
  have a2 := fOf_b hB 2
  have a3 := fOf_b hB 3
  have a4 := fOf_b hB 4
  have hid : 0 ≤ idB xs ∧ idB xs ≤ 4294967295 := addrI_b ((hB.take 9).drop 5)
  unfold openR at h
  split at h
  · cases h
  split at h
  · cases h
  rename_i hasn
  split at h
  · cases h
  rename_i hhold
  split at h
  · cases h
  rename_i hidz
  split at h
  · cases h
  split at h
  · rename_i cs2 ho
    cases h
    obtain ⟨hc, hl⟩ := optsR_ok _ _ (Nat.le_refl _) (hB.drop 10) (fun c hc => (by cases hc)) ho
    rw [List.length_drop] at hl
    have hcl : cs.length ≤ 5000 := by simp at hl; omega
    have easn : asnB xs = fOf xs 1 * 256 + fOf xs 2 := rfl
    have ehold : holdB xs = fOf xs 3 * 256 + fOf xs 4 := rfl
    have hz := MsL.in_d.1 (zeroM_in (k := 1) ⟨by decide, by decide⟩)
    have hI : MsD.In { (MsL.zero 1).d with asn := asnB xs, hold := holdB xs, id := idB xs, caps := cs } :=
      ⟨⟨hz.nums.1, ⟨by show _ ≤ asnB xs; omega, by show asnB xs ≤ _; omega⟩, ⟨by show _ ≤ holdB xs; omega, by show holdB xs ≤ _; omega⟩, hid, hz.nums.2.2.2.2.1, hz.nums.2.2.2.2.2⟩, fun c hm => (by
        have := hc c hm
        exact ⟨⟨by have := this.1; omega, by have := this.2.1; omega⟩, by have := this.2.2.1; omega, this.2.2.2⟩), hz.gone, hz.nets, hz.at_, ⟨by show cs.length ≤ _; omega, hz.lens.2⟩⟩
    refine ⟨hI, Nat.zero_le _, Nat.zero_le _, hcl, Nat.zero_le _, Nat.zero_le _, ?_, fun hz => back_of hI ?_ hz⟩
    · have hk := bod_1 (d := { (MsL.zero 1).d with asn := asnB xs, hold := holdB xs, id := idB xs, caps := cs }) rfl
      have ho : openCD { (MsL.zero 1).d with asn := asnB xs, hold := holdB xs, id := idB xs, caps := cs } = 0 ∨ openCD { (MsL.zero 1).d with asn := asnB xs, hold := holdB xs, id := idB xs, caps := cs } = 6 ∨ (openCD { (MsL.zero 1).d with asn := asnB xs, hold := holdB xs, id := idB xs, caps := cs } = 1 ∧ 32 < cs.length) := by
        unfold openCD
        dsimp only
        by_cases h32 : 32 < cs.length
        · right; right
          rw [decide_eq_true (show _ ∨ _ ∨ _ ∨ _ ∨ _ from .inr (.inr (.inr (.inr h32))))]
          exact ⟨rfl, h32⟩
        · rw [decide_eq_false (show ¬ (asnB xs < 1 ∨ 65535 < asnB xs ∨ (holdB xs ≠ 0 ∧ (holdB xs < 3 ∨ 65535 < holdB xs)) ∨ idB xs = 0 ∨ 32 < cs.length) by
            rintro (h | h | ⟨h, h'⟩ | h | h) <;> omega)]
          rw [show (cs.all fun p => decide (0 ≤ p.1 ∧ p.1 ≤ 255 ∧ p.2.length ≤ 255)) = true from List.all_eq_true.2 fun c hm => decide_eq_true ⟨(hc c hm).1, (hc c hm).2.1, (hc c hm).2.2.1⟩]
          show (if 253 < _ then (6 : Int) else 0) = 0 ∨ _
          split
          · exact .inr (.inl rfl)
          · exact .inl rfl
      refine code_of ?_
      rw [hk.1]
      exact ho.imp id (Or.imp id fun h => ⟨h.1, .inr h.2⟩)
    · show bareD _ = _
      unfold bareD
      rw [if_pos (show (MsD.m _).kind = 1 from rfl)]
      rw [show List.map capD (MsD.m { (MsL.zero 1).d with asn := asnB xs, hold := holdB xs, id := idB xs, caps := cs }).caps = cs from congrArg MsD.caps (MsD.m_d { (MsL.zero 1).d with asn := asnB xs, hold := holdB xs, id := idB xs, caps := cs })]
      rfl
  · cases h
theorem note_form {xs : List Int} (hB : Bys xs) (hn : xs.length ≤ 5000) : FormOk { (MsL.zero 3).d with fc := fOf xs 0, fs := fOf xs 1, fd := strD xs } := by
  have a0 := fOf_b hB 0
  have a1 := fOf_b hB 1
  have hd : (strD xs).size = xs.length - 2 := str_size _ _
  have hz := MsL.in_d.1 (zeroM_in (k := 3) ⟨by decide, by decide⟩)
  have hI : MsD.In { (MsL.zero 3).d with fc := fOf xs 0, fs := fOf xs 1, fd := strD xs } :=
    ⟨⟨hz.nums.1, hz.nums.2.1, hz.nums.2.2.1, hz.nums.2.2.2.1, ⟨by show _ ≤ fOf xs 0; omega, by show fOf xs 0 ≤ _; omega⟩, ⟨by show _ ≤ fOf xs 1; omega, by show fOf xs 1 ≤ _; omega⟩⟩, hz.caps, hz.gone, hz.nets, hz.at_, ⟨hz.lens.1, hz.lens.2.1, hz.lens.2.2.1, by show (strD xs).size ≤ _; omega⟩⟩
  refine ⟨hI, Nat.zero_le _, Nat.zero_le _, Nat.zero_le _, Nat.zero_le _, Nat.zero_le _, ?_, fun hz => back_of hI rfl hz⟩
  have hk := bod_3 (d := { (MsL.zero 3).d with fc := fOf xs 0, fs := fOf xs 1, fd := strD xs }) (show ¬ (3 : Int) = 1 by decide) (show ¬ (3 : Int) = 2 by decide) rfl
  refine code_of ?_
  rw [hk.1]
  by_cases h : fOf xs 0 < 1 ∨ 255 < fOf xs 0 ∨ fOf xs 1 < 0 ∨ 255 < fOf xs 1
  · rw [if_pos h]
    exact .inr (.inr ⟨rfl, .inl ⟨rfl, by show fOf xs 0 = 0; omega⟩⟩)
  · rw [if_neg h]
    split
    · exact .inr (.inl rfl)
    · exact .inl rfl
theorem live_form : FormOk (MsL.zero 4).d := by
  have hI : MsD.In (MsL.zero 4).d := MsL.in_d.1 (zeroM_in ⟨by decide, by decide⟩)
  refine ⟨hI, Nat.zero_le _, Nat.zero_le _, Nat.zero_le _, Nat.zero_le _, Nat.zero_le _, .inl ?_, fun hz => back_of hI rfl hz⟩
  have hk := bod_4 (d := (MsL.zero 4).d) (by decide) (by decide) (by decide)
  unfold msgCD
  rw [hk.1, hk.2]
  rfl
end Go.Proofs.YtpjbofodllhjbaaDoor
/- bgp: a message that was read is one that BgpForm asks for: an Update; any. -/
namespace Go.Proofs.YtpjbofodllhjbaaDoor
open Go.RowKit

theorem countR_ok {xs p q : List Int} (hB : Bys xs) (h : countR xs = some (p, q)) : Bys p ∧ Bys q ∧ p.length ≤ xs.length ∧ q.length ≤ xs.length := by
  unfold countR at h
  split at h
  · cases h
  · obtain ⟨rfl, rfl⟩ := Prod.mk.inj (Option.some.inj h)
    exact ⟨(hB.drop 2).take _, hB.drop _, by rw [List.length_take, List.length_drop]; omega, by rw [List.length_drop]; omega⟩
theorem bareD_two {m : MsL} (h : m.kind = 2) : bareD m = { (MsL.zero m.kind).d with gone := m.gone, atr := m.atr.d, nets := m.nets } := by
  unfold bareD
  rw [if_neg (by omega), if_pos h]
theorem upd_form {xs : List Int} {gs ns : List PfL} {a : AtD} (hB : Bys xs) (hn : xs.length ≤ 4400) (h : updR xs = .inl (gs, a, ns)) : FormOk { (MsL.zero 2).d with gone := gs, atr := a, nets := ns } := by
  unfold updR at h
  split at h
  · cases h
  rename_i g r hc1
  split at h
  · cases h
  rename_i s n hc2
  split at h
  · cases h
  rename_i gs' hg
  split at h
  · cases h
  rename_i a' ha
  split at h
  · cases h
  rename_i ns' hn'
  split at h
  · cases h
  rename_i h200
  split at h
  · cases h
  rename_i hmiss
  obtain ⟨rfl, h2⟩ := Prod.mk.inj (Sum.inl.inj h)
  obtain ⟨rfl, rfl⟩ := Prod.mk.inj h2
  obtain ⟨b1, b2, l1, l2⟩ := countR_ok hB hc1
  obtain ⟨b3, b4, l3, l4⟩ := countR_ok b2 hc2
  obtain ⟨n1, n2⟩ := netsR_ok _ (Nat.le_refl _) b1 hg
  obtain ⟨n3, n4⟩ := netsR_ok _ (Nat.le_refl _) b4 hn'
  obtain ⟨hG, seen, hS⟩ := decD_good 4400 _ _ _ _ (Nat.le_refl _) (by omega) b3 SeenI.zero (AtG.zero 4400) ha
  obtain ⟨k1, k2⟩ := hG.chk hS
  obtain ⟨i1, i2⟩ := hG.in_ hS (by decide)
  have hz := MsL.in_d.1 (zeroM_in (k := 2) ⟨by decide, by decide⟩)
  have hI : MsD.In { (MsL.zero 2).d with gone := gs', atr := { a' with others := sortO a'.others }, nets := ns' } :=
    ⟨hz.nums, hz.caps, n2, n4, i1, ⟨hz.lens.1, by show gs'.length ≤ _; omega, by show ns'.length ≤ _; omega, hz.lens.2.2.2⟩⟩
  refine ⟨hI, by show a'.path.length ≤ 1100; omega, by show (sortO a'.others).length ≤ 300; rw [(sortO_perm _).length_eq]; omega, Nat.zero_le _, by show gs'.length ≤ 5000; omega, by show ns'.length ≤ 5000; omega, ?_, fun hc => back_of hI ?_ hc⟩
  · refine code_of ?_
    have hk := bod_2 (d := { (MsL.zero 2).d with gone := gs', atr := { a' with others := sortO a'.others }, nets := ns' }) (show ¬ (2 : Int) = 1 by decide) rfl
    rw [hk.1]
    unfold updCD
    dsimp only
    rw [if_neg h200, n1, n3, decide_eq_false (show ¬ (0 < ns'.length ∧ missI a'.has ≠ 0) from fun hh => hmiss ⟨hh.2, hh.1⟩)]
    show encED { a' with others := sortO a'.others } = 0 ∨ _
    unfold encED
    rw [k1]
    show (if _ then (6 : Int) else 0) = 0 ∨ (if _ then (6 : Int) else 0) = 6 ∨ _
    split
    · exact .inr (.inl rfl)
    · exact .inl rfl
  · refine (bareD_two rfl).trans ?_
    rw [show AtL.d (MsD.m { (MsL.zero 2).d with gone := gs', atr := { a' with others := sortO a'.others }, nets := ns' }).atr = { a' with others := sortO a'.others } from AtD.m_d _]
    rfl
theorem decM_form {xs : List Int} {md : MsD} (hB : Bys xs) (h : decM xs = .inl md) : FormOk md := by
  rcases sizeR_cases xs.length (fOf xs) with ⟨C, S, d, e, hC⟩ | ⟨e, _, _, _, hle, hk1, hk4, _, _⟩
  · unfold decM at h
    rw [e] at h
    dsimp only at h
    rw [if_pos hC] at h
    cases h
  · unfold decM at h
    rw [e] at h
    dsimp only at h
    rw [if_neg (by simp)] at h
    split at h
    · cases h
    rename_i hlen
    have hlen : lenI (fOf xs) = xs.length := Classical.byContradiction hlen
    have hdl : (xs.drop 19).length = xs.length - 19 := List.length_drop ..
    unfold bodyM at h
    split at h
    · rename_i k1
      rw [k1] at h
      split at h
      · rename_i cs ho
        obtain rfl := Sum.inl.inj h
        exact openR_form (hB.drop 19) (by omega) ho
      · cases h
    split at h
    · rename_i k2
      rw [k2] at h
      split at h
      · rename_i g a n hu
        obtain rfl := Sum.inl.inj h
        exact upd_form (hB.drop 19) (by omega) hu
      · cases h
    split at h
    · rename_i k3
      rw [k3] at h
      obtain rfl := Sum.inl.inj h
      exact note_form (hB.drop 19) (by omega)
    · rename_i k1 k2 k3
      have k4 : fOf xs 18 = 4 := by omega
      rw [k4] at h
      obtain rfl := Sum.inl.inj h
      exact live_form
/-- BgpForm, whatever bytes. -/
theorem BgpForm_all (w : World) (a : Option Addr) (xs : List Int) (c : Nat) (hG : GF w) (hZ : GZ w) (hB : Bys xs) (hle : xs.length ≤ c) (h : CellsAt w a (u8s xs)) (hn : xs.length ≤ 9223372036854775807) :
    Calls Tryd.prog 5 #[.slice a xs.length c] w fun e w' => e = .returned (.bool true) ∧ Frm (fun _ => False) w w' := by
  by_cases h5 : 5000 < xs.length
  · refine enter Tryd.func5 rfl Tryd.ntmps5 rfl (St.start (fun _ => False) w) ?_
    refine WC.seq ?_
    refine WC.region ?_
    refine WL.val (v_assign rfl rfl) (.none rfl) rfl rfl ?_
    refine WL.nil ?_
    refine WE.then_n ?_
    refine WC.seq ?_
    refine WC.seq ?_
    refine WC.region ?_
    refine WL.call rfl rfl ck_13 (.none rfl) rfl rfl ?_
    intro w hS
    refine Calls.then (Head07_c w) hS ?_
    refine WL.val (v_not rfl rfl rfl) (.none rfl) rfl rfl ?_
    refine WL.nil ?_
    refine WE.then_n ?_
    refine WC.cond_f rfl ?_
    refine WC.skip ?_
    refine WE.then_n ?_
    refine WC.seq ?_
    refine WC.seq ?_
    refine WC.region ?_
    refine WL.val (v_move rfl rfl) (.none rfl) rfl rfl ?_
    refine WL.val (v_len_slice rfl rfl Tryd.underlying22) (.none rfl) rfl rfl ?_
    refine WL.val ((v_gtr rfl rfl rfl).t (by omega)) (.none rfl) rfl rfl ?_
    refine WL.nil ?_
    refine WE.then_n ?_
    refine WC.cond_t rfl ?_
    refine WC.seq ?_
    refine WC.region ?_
    refine WL.val (v_assign rfl rfl) (.none rfl) rfl rfl ?_
    refine WL.nil ?_
    refine WE.then_n ?_
    refine WC.ret ?_
    refine WE.then_ret ?_
    refine WE.ret1 (P := Tryd.prog) (.inl rfl) Tryd.results5 rfl ?_
    exact fun w' h => ⟨rfl, h.frm⟩
  by_cases h0 : xs.length = 0
  · have e0 : xs = [] := List.length_eq_zero_iff.1 h0
    have hs : sizeR 0 (fun _ => 0) = (0, 1, 2, ⟨#[]⟩) := rfl
    rw [h0]
    exact FormBad_c w a 0 c (by omega) 1 2 ⟨#[]⟩ (by decide) ⟨by decide, by decide⟩ fun w1 _ => DecBad_c w1 a 0 c (fun _ => 0) (fun _ => ⟨Int.le_refl _, show (0 : Int) ≤ 255 by decide⟩) (fun hh => by omega) (by omega) (Nat.zero_le _) 1 2 ⟨#[]⟩ hs (by decide)
  · obtain ⟨b, o, e, hr⟩ := h (by rw [u8s_len]; omega)
    rw [e]
    have hW : Win w b o c xs := ⟨hr, hB, hle⟩
    cases hd : decM xs with
    | inl md => exact FormGood_c w b o c xs hG hZ hW (by omega) md hd (decM_form hB hd)
    | inr f =>
      obtain ⟨C, S, d⟩ := f
      have hs := decM_sub hd
      refine FormBad_c w _ _ c (by omega) C S d hs.1 hs.2 fun w1 hF => ?_
      have hS1 : St (fun _ => False) w w1 [] := (St.start (fun _ => False) w).ext hF
      refine (Decode_c w1 b o c xs (hG.keep (fun h => h) hS1) (hZ.keep (fun h => h) hS1) (hW.st hS1) (by omega)).mono ?_
      intro e w' h
      unfold DecP at h
      rw [hd] at h
      exact h
end Go.Proofs.YtpjbofodllhjbaaDoor
/- attr: the two tables that lie there. -/
namespace Go.Proofs.YtpjbofodllhjbaaDoor
open Go.RowKit

theorem laid_tail {P : Program} {x : String × DataW Unit} {r : List (String × DataW Unit)} {w : World} (h : laidMet P (x :: r) w) : laidMet P r w := by
  obtain ⟨ps, ⟨g, t, cs, fuel, p, q, _, _, _, _, hq, rfl⟩, hn, hc⟩ := h
  exact ⟨q, hq, (List.nodup_append.1 hn).2.1, fun b off hm => hc b off (List.mem_append_right _ hm)⟩
theorem laid_attr {w : World} (hL : laidMet Tryd.prog [("carrefour/attr.flags", Rows.laid_carrefour_attr_flags), ("carrefour/attr.sizes", Rows.laid_carrefour_attr_sizes)] w) : GF w ∧ GZ w := by
  constructor
  · have hT := Lib.tabIs_of_head (zs := [0, 64, 64, 64, 128, 64, 64, 192, 192]) (k := .i64) (show Tryd.prog.globalNamed "carrefour/attr.flags" = some 0 by kernel_rfl) (show (Tryd.prog.globals[0]?).map (·.type) = some 157 by kernel_rfl) Tryd.underlying157 Tryd.underlying3 (by kernel_rfl) (by kernel_rfl) hL
    intro i hi
    have := hT.cell (show Tryd.prog.globalNamed "carrefour/attr.flags" = some 0 by kernel_rfl) i hi
    match i, hi with
    | 0, _ | 1, _ | 2, _ | 3, _ | 4, _ | 5, _ | 6, _ | 7, _ | 8, _ => exact this
  · have hT := Lib.tabIs_of_head (zs := [0, 1, -1, 4, 4, 4, 0, 6, -1]) (k := .i64) (show Tryd.prog.globalNamed "carrefour/attr.sizes" = some 2 by kernel_rfl) (show (Tryd.prog.globals[2]?).map (·.type) = some 157 by kernel_rfl) Tryd.underlying157 Tryd.underlying3 (by kernel_rfl) (by kernel_rfl) (laid_tail hL)
    intro i hi
    have := hT.cell (show Tryd.prog.globalNamed "carrefour/attr.sizes" = some 2 by kernel_rfl) i hi
    match i, hi with
    | 0, _ | 1, _ | 2, _ | 3, _ | 4, _ | 5, _ | 6, _ | 7, _ | 8, _ => exact this
end Go.Proofs.YtpjbofodllhjbaaDoor
/- Arguments: a message of BGP. -/
namespace Go.Proofs.YtpjbofodllhjbaaDoor
open Go.RowKit

theorem rows_of {P : Program} {w : World} {e s len : Nat} {a : Option Addr} {α : Type} {enc : α → List Value} {good : α → Prop} (hx : ∀ cs, cs.length = s → Tree P w e cs → ∃ x, cs = enc x ∧ good x) (h : Elems P w e s a len) : ∃ xs : List α, xs.length = len ∧ RowsAt w a s enc xs ∧ ∀ x ∈ xs, good x := by
  by_cases hl : 0 < len
  · obtain ⟨b, off, rfl, hE⟩ := h hl
    have hE' : ∀ i : Fin len, ∃ x, w.rangeAt b (off + i.1 * s) (enc x) ∧ good x := fun i => by
      obtain ⟨cs, hc, hr, hT⟩ := hE i.1 i.2
      obtain ⟨x, rfl, hg⟩ := hx cs hc hT
      exact ⟨x, hr, hg⟩
    refine ⟨List.ofFn fun i => Classical.choose (hE' i), List.length_ofFn, fun i x hi => ?_, fun x hm => ?_⟩
    · rw [List.getElem?_ofFn] at hi
      split at hi
      · rename_i hlt
        obtain rfl := Option.some.inj hi
        exact ⟨b, off, rfl, (Classical.choose_spec (hE' ⟨i, hlt⟩)).1⟩
      · cases hi
    · obtain ⟨i, rfl⟩ := List.mem_ofFn.1 hm
      exact (Classical.choose_spec (hE' i)).2
  · refine ⟨[], by rw [List.length_nil]; omega, fun i x hi => by simp at hi, fun x hm => by cases hm⟩
theorem CellsAt.of_rows {w : World} {a : Option Addr} {f : Int → Value} {xs : List Int} (h : RowsAt w a 1 (fun x => [f x]) xs) : CellsAt w a (xs.map f) := fun hn => by
  rw [List.length_map] at hn
  obtain ⟨b, o, e, _⟩ := h 0 _ (List.getElem?_eq_getElem hn)
  refine ⟨b, o, e, fun j v hj => ?_⟩
  rw [List.getElem?_map] at hj
  cases hx : xs[j]? with
  | none => rw [hx] at hj; cases hj
  | some x =>
    rw [hx] at hj
    obtain rfl := Option.some.inj hj
    obtain ⟨b', o', e', hr⟩ := h j x hx
    rw [e] at e'
    cases e'
    have := hr 0 _ rfl
    rwa [Nat.mul_one, Nat.add_zero] at this
theorem Elems.u8 {w : World} {len : Nat} {a : Option Addr} (h : Elems Tryd.prog w 5 1 a len) : ∃ xs : List Int, xs.length = len ∧ CellsAt w a (u8s xs) ∧ Bys xs := by
  obtain ⟨xs, hl, hr, hg⟩ := rows_of (enc := fun x => [.int .u8 x]) (good := fun x => 0 ≤ x ∧ x ≤ 255) (fun cs hc hT => by
    match cs, hc with
    | [x], _ =>
      obtain ⟨n, rfl, hw⟩ := Tree.int Tryd.underlying5 hT
      exact ⟨n, rfl, wf_u8 hw⟩) h
  exact ⟨xs, hl, CellsAt.of_rows hr, hg⟩
theorem Elems.i64 {w : World} {len : Nat} {a : Option Addr} (h : Elems Tryd.prog w 3 1 a len) : ∃ xs : List Int, xs.length = len ∧ CellsAt w a (i64s xs) ∧ ∀ x ∈ xs, I64 x := by
  obtain ⟨xs, hl, hr, hg⟩ := rows_of (enc := fun x => [.int .i64 x]) (good := fun x => I64 x) (fun cs hc hT => by
    match cs, hc with
    | [x], _ =>
      obtain ⟨n, rfl, hw⟩ := Tree.int Tryd.underlying3 hT
      exact ⟨n, rfl, wf_i64 hw⟩) h
  exact ⟨xs, hl, CellsAt.of_rows hr, hg⟩
theorem Tree.u8sl {w : World} {x : Value} (h : Tree Tryd.prog w 22 [x]) : ∃ a cap, ∃ xs : List Int, x = .slice a xs.length cap ∧ xs.length ≤ cap ∧ cap ≤ maxLen ∧ CellsAt w a (u8s xs) ∧ Bys xs := by
  obtain ⟨a, len, cap, rfl, h1, h2, hE⟩ := Tree.slice (s := 1) Tryd.underlying22 (by kernel_rfl) (by decide) h
  obtain ⟨xs, rfl, hc, hb⟩ := Elems.u8 hE
  exact ⟨a, cap, xs, rfl, h1, h2, hc, hb⟩
theorem Tree.i64sl {w : World} {x : Value} (h : Tree Tryd.prog w 38 [x]) : ∃ a cap, ∃ xs : List Int, x = .slice a xs.length cap ∧ xs.length ≤ cap ∧ cap ≤ maxLen ∧ CellsAt w a (i64s xs) ∧ ∀ x ∈ xs, I64 x := by
  obtain ⟨a, len, cap, rfl, h1, h2, hE⟩ := Tree.slice (s := 1) Tryd.underlying38 (by kernel_rfl) (by decide) h
  obtain ⟨xs, rfl, hc, hb⟩ := Elems.i64 hE
  exact ⟨a, cap, xs, rfl, h1, h2, hc, hb⟩
theorem Tree.flatL {P : Program} {w : World} {t : TypeId} {cs : List Value} {ts : List TypeId} (h : Tree P w t cs) (F : Nat) (hl : layB P F t = true) (hf : flat P F t = ts) : Leaves P w ts cs := hf ▸ Tree.leaves F t cs hl h
theorem maxLen_le : maxLen ≤ 9223372036854775807 := by decide
theorem Tree.caps {w : World} {x : Value} (h : Tree Tryd.prog w 35 [x]) : ∃ a cap, ∃ xs : List CapL, x = .slice a xs.length cap ∧ xs.length ≤ 9223372036854775807 ∧ RowsAt w a 2 CapL.cells xs ∧ ∀ c ∈ xs, CellsAt w c.ad (u8s c.val) ∧ I64 c.code ∧ c.val.length ≤ 9223372036854775807 ∧ Bys c.val := by
  obtain ⟨a, len, cap, rfl, h1, h2, hE⟩ := Tree.slice (s := 2) Tryd.underlying35 (by kernel_rfl) (by decide) h
  have hm := maxLen_le
  obtain ⟨xs, rfl, hr, hg⟩ := rows_of (enc := CapL.cells) (good := fun c => CellsAt w c.ad (u8s c.val) ∧ I64 c.code ∧ c.val.length ≤ 9223372036854775807 ∧ Bys c.val) (fun cs hc hT => by
    have hL := Tree.flatL (ts := [3, 22]) hT 4 (by kernel_rfl) (by kernel_rfl)
    obtain ⟨x, _, rfl, hx, y, _, rfl, hy, rfl⟩ := hL
    obtain ⟨n, rfl, hw⟩ := Tree.int Tryd.underlying3 hx
    obtain ⟨a', cap', ys, rfl, k1, k2, k3, k4⟩ := Tree.u8sl hy
    exact ⟨⟨n, a', cap', ys⟩, rfl, k3, wf_i64 hw, by dsimp only; omega, k4⟩) hE
  exact ⟨a, cap, xs, rfl, by omega, hr, hg⟩
theorem Tree.segs {w : World} {x : Value} (h : Tree Tryd.prog w 37 [x]) : ∃ a cap, ∃ xs : List SegL, x = .slice a xs.length cap ∧ xs.length ≤ 9223372036854775807 ∧ RowsAt w a 2 SegL.cells xs ∧ ∀ c ∈ xs, CellsAt w c.ad (i64s c.asl) ∧ c.asl.length ≤ 9223372036854775807 ∧ ∀ x ∈ c.asl, I64 x := by
  obtain ⟨a, len, cap, rfl, h1, h2, hE⟩ := Tree.slice (s := 2) Tryd.underlying37 (by kernel_rfl) (by decide) h
  have hm := maxLen_le
  obtain ⟨xs, rfl, hr, hg⟩ := rows_of (enc := SegL.cells) (good := fun c => CellsAt w c.ad (i64s c.asl) ∧ c.asl.length ≤ 9223372036854775807 ∧ ∀ x ∈ c.asl, I64 x) (fun cs hc hT => by
    have hL := Tree.flatL (ts := [4, 38]) hT 4 (by kernel_rfl) (by kernel_rfl)
    obtain ⟨x, _, rfl, hx, y, _, rfl, hy, rfl⟩ := hL
    obtain ⟨n, rfl⟩ := Tree.bool Tryd.underlying4 hx
    obtain ⟨a', cap', ys, rfl, k1, k2, k3, k4⟩ := Tree.i64sl hy
    exact ⟨⟨n, a', cap', ys⟩, rfl, k3, by dsimp only; omega, k4⟩) hE
  exact ⟨a, cap, xs, rfl, by omega, hr, hg⟩
theorem Tree.oths {w : World} {x : Value} (h : Tree Tryd.prog w 39 [x]) : ∃ a cap, ∃ xs : List OthL, x = .slice a xs.length cap ∧ xs.length ≤ 9223372036854775807 ∧ RowsAt w a 2 OthL.cells xs ∧ ∀ c ∈ xs, CellsAt w c.ad (u8s c.val) ∧ I64 c.ty ∧ c.val.length ≤ 9223372036854775807 ∧ Bys c.val := by
  obtain ⟨a, len, cap, rfl, h1, h2, hE⟩ := Tree.slice (s := 2) Tryd.underlying39 (by kernel_rfl) (by decide) h
  have hm := maxLen_le
  obtain ⟨xs, rfl, hr, hg⟩ := rows_of (enc := OthL.cells) (good := fun c => CellsAt w c.ad (u8s c.val) ∧ I64 c.ty ∧ c.val.length ≤ 9223372036854775807 ∧ Bys c.val) (fun cs hc hT => by
    have hL := Tree.flatL (ts := [3, 22]) hT 4 (by kernel_rfl) (by kernel_rfl)
    obtain ⟨x, _, rfl, hx, y, _, rfl, hy, rfl⟩ := hL
    obtain ⟨n, rfl, hw⟩ := Tree.int Tryd.underlying3 hx
    obtain ⟨a', cap', ys, rfl, k1, k2, k3, k4⟩ := Tree.u8sl hy
    exact ⟨⟨n, a', cap', ys⟩, rfl, k3, wf_i64 hw, by dsimp only; omega, k4⟩) hE
  exact ⟨a, cap, xs, rfl, by omega, hr, hg⟩
end Go.Proofs.YtpjbofodllhjbaaDoor
