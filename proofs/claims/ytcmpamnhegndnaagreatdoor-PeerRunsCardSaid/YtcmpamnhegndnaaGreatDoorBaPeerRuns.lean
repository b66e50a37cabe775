/- Texts joined: engine, contracts and laws, in the order in which they build. -/
import Derived.WalkKit
import Derived.WalkSpells
import Derived.WalkLawsBesides
import Derived.Deep.QuietTactic
import Derived.BigQuiet
import Derived.Lib.Hide
import Derived.StillTail
import Derived.Deep.LoopGhost
import Derived.Deep.WholeRow
import Derived.Laws.BitsAllLaws
import Derived.Laws.Bits64
import Derived.Deep.MidRow
import Derived.ChangeKeysEq
import Derived.Laws.BytesArg
namespace Go.Proofs.YtcmpamnhegndnaaGreatDoor
open Go.RowKit
theorem Er{p:Prop}(h:p:=by omega):p:=h
theorem Es{p:Prop}(h:p:=by kernel_rfl):p:=h
theorem Et{p:Prop}(h:p:=by decide):p:=h
theorem Eu{p:Prop}(h:p:=by dsimp only;omega):p:=h
theorem Ev{p:Prop}(h:p:=by rcases TX k1 k8 with rfl|rfl|rfl|rfl|rfl|rfl|rfl|rfl <;> first|rfl|exact absurd rfl e):p:=h
theorem Ex{p:Prop}(h:p:=by rw [List.length_drop];omega):p:=h
theorem Ey{p:Prop}(h:p:=by rw [List.length_take];omega):p:=h
theorem Ez{p:Prop}(h:p:=by simpa only [List.cons_append,List.append_assoc,List.nil_append] using hS):p:=h
theorem Fa{p:Prop}(h:p:=by unfold BQ;rw [if_neg (by rw [← het];exact h21),if_neg (by rw [← hei];exact h33),if_neg (fun hh=>h45 (hst.trans hh)),if_pos (hst.symm.trans h56),if_neg (by split <;> omega)];rfl):p:=h
theorem Fb{p:Prop}(h:p:=by first|exact Nat.le_of_ble_eq_true rfl|simp):p:=h
theorem Fc{p:Prop}(h:p:=by unfold I9;omega):p:=h
theorem Fe{p:Prop}(h:p:=by simp):p:=h
theorem Ff{p:Prop}(h:p:=by exact fun h=>by injection h with h1 _;injection h1 with _ h1;exact (hbad rfl).1 h1):p:=h
theorem Fg{p:Prop}(h:p:=by rw [DQ];omega):p:=h
theorem Fh{p:Prop}(h:p:=by rw [GO];omega):p:=h
theorem Fi{p:Prop}(h:p:=by intro h;omega):p:=h
theorem Fj{p:Prop}(h:p:=by rw [List.length_set];omega):p:=h
theorem Fk{p:Prop}(h:p:=by first|omega|(simp only [List.length_append,AW];omega)):p:=h
theorem Fl{p:Prop}(h:p:=by first|decide|omega):p:=h
theorem Fm{p:Prop}(h:p:=by first|exact MI (by omega) (by omega)|exact w_u32m _):p:=h
theorem Fo{p:Prop}(h:p:=by simp;omega):p:=h
theorem Fp{p:Prop}(h:p:=by first|omega|decide):p:=h
theorem Fq{p:Prop}(h:p:=by rw [GO];exact h):p:=h
theorem Fs{p:Prop}(h:p:=by dsimp only;rw [List.length_drop];omega):p:=h
theorem Ft{p:Prop}(h:p:=by rw [List.length_append];omega):p:=h
theorem Fu{p:Prop}(h:p:=by intro c h1 h2 h3 e;simp only [h1,h2,h3];omega):p:=h
theorem Fv{p:Prop}(h:p:=by show 0≤min t.hold m.hold∧min t.hold m.hold≤65535;omega):p:=h
theorem Fw{p:Prop}(h:p:=by first|exact List.mem_cons_self .. | exact List.mem_cons_of_mem _ (List.mem_cons_self ..)):p:=h
theorem Fx{p:Prop}(h:p:=by simp [Ck.L,Kj,he]):p:=h
theorem Fy{p:Prop}(h:p:=by rw [List.length_take];exact Nat.min_eq_left (by omega)):p:=h
theorem Fz{p:Prop}(h:p:=by rw [Nat.zero_add,Nat.mul_one];exact hG t (by omega)):p:=h
theorem F0{p:Prop}(h:p:=by constructor <;> omega):p:=h
theorem F1{p:Prop}(h:p:=by rw [List.length_take,List.length_drop];omega):p:=h
theorem F2{p:Prop}(h:p:=by unfold FB;omega):p:=h
theorem F3{p:Prop}(h:p:=by unfold DY;rw [if_neg (by omega),if_pos ⟨by omega,by omega⟩]):p:=h
theorem F4{p:Prop}(h:p:=by cases e):p:=h
theorem F5{p:Prop}(h:p:=by rw [K8];omega):p:=h
theorem F6{p:Prop}(h:p:=by dsimp only;rw [List.length_drop]):p:=h
theorem F7{p:Prop}(h:p:=by cases h):p:=h
theorem F8{p:Prop}(h:p:=by rw [← show fOf al 1=8 by omega];exact hns6):p:=h
theorem F9{p:Prop}(h:p:=by unfold FB;dsimp only;omega):p:=h
theorem Ga{p:Prop}(h:p:=by simpa using hb5):p:=h
theorem Gb{p:Prop}(h:p:=by rw [Nat.zero_add];exact hRg):p:=h
theorem Gc{p:Prop}(h:p:=by intro c h1 h2 h3 e;simp only [h1,h3];omega):p:=h
theorem Gd{p:Prop}(h:p:=by rw [← hcb.2.1];exact hS'):p:=h
theorem Ge{p:Prop}(h:p:=by show some (Value.slice ad _ _)=_;rw [ea]):p:=h
theorem Gf{p:Prop}(h:p:=by rfl):p:=h
theorem Gg{p:Prop}(h:p:=by rw [Kv];omega):p:=h
theorem Gh{p:Prop}(h:p:=by split at hl <;> split at hgl <;> omega):p:=h
theorem Gi{p:Prop}(h:p:=by rw [hnt];exact hS.AX ):p:=h
theorem Gj{p:Prop}(h:p:=by rw [← hth];exact h107):p:=h
theorem Gk{p:Prop}(h:p:=by rw [h] at hr;cases hr):p:=h
theorem Gl{p:Prop}(h:p:=by rw [hgl];exact DT _ _ _ _ _):p:=h
theorem Gm{p:Prop}(h:p:=by rw [List.length_take,hl32];omega):p:=h
theorem Gn{p:Prop}(h:p:=by rw [e1];exact ⟨rfl,rfl⟩):p:=h
theorem Ei{p:Prop}(h:p:=by
  refine rO 3 [4,5]<|zB Tryz.underlying25 AO BF rfl rfl<|?_
  intro g17 hg17
  refine WL.as (L':=.row g17 (u8s [x.len % 256])::(E2++(.row g6 x.cells::L))) rfl<|WL.to (L':=E2++(.row g17 (u8s [x.len % 256])::.row g6 x.cells::L)) (fun w hS=>hS.front [_])<|?_
  exact Dk):p:=h
theorem Ej{p:Prop}(h:p:=by
  refine zB Tryz.underlying25 AO BF rfl rfl ?_
  intro g17 hg17
  refine WL.as (L':=.row g17 (u8s [x.len % 256])::(E2++(.row g6 x.cells::L))) rfl<|WL.to (L':=E2++(.row g17 (u8s [x.len % 256])::.row g6 x.cells::L)) (fun w hS=>hS.front [_])<|?_
  refine J1 ?_
  refine WR.each (g:=4) [5,9] Es Et ?_
  refine ⟨?_,?_⟩
  exact Dn
  refine J2 ?_
  refine rO 3 [5] ?_
  exact Dk):p:=h
theorem Ek{p:Prop}(h:p:=by
  refine zB Tryz.underlying25 AO BF rfl rfl ?_
  intro g17 hg17
  refine WL.as (L':=.row g17 (u8s [x.len % 256])::(E2++(.row g6 x.cells::L))) rfl<|WL.to (L':=E2++(.row g17 (u8s [x.len % 256])::.row g6 x.cells::L)) (fun w hS=>hS.front [_])<|?_
  refine J1 ?_
  refine WR.each (g:=4) [5,7] Es Et ?_
  refine ⟨?_,?_⟩
  exact Dp
  refine J2 ?_
  refine rO 3 [5] ?_
  exact Dk):p:=h
theorem El{p:Prop}(h:p:=by
  refine zS (AA rfl rfl Lt (cellAt (v:=.int .u32 s.id) rfl)) rfl ?_
  refine J2 ?_
  refine JT (fun h73=>?_) (fun h73=>?_)
  refine J2 ?_
  refine JT (fun h76=>?_) (fun h76=>?_)
  refine J9 ?_
  exact Dm
  refine J10 ?_
  exact An
  refine J13 ?_
  exact An):p:=h
theorem Eo{p:Prop}(h:p:=by
  refine J2 ?_
  refine rO 1 [0,3,6]<|zB Tryz.underlying25 AO BF rfl rfl<|?_
  intro g81 hg81
  refine WL.as (L':=[.row g81 (u8s [4])]++(E++[.row g1 m.cells])) rfl<|zK LU rfl<|?_
  exact Dl):p:=h
theorem Ep{p:Prop}(h:p:=by
  refine J2 ?_
  refine rO 1 [3,6]<|zK LU rfl<|?_
  exact Dl):p:=h
theorem Dk{p:Prop}(h:p:=by
  refine WL.AN rfl rfl rfl Tryz.underlying25 Tryz.underlying25 AO Hx BF rfl rfl hV2 (new:=u8s [x.len % 256]) (fun _=>⟨g17,0,rfl,fun w hS=>BZ (g:=g17) w hS⟩) rfl (CQ _) Er (.none rfl) rfl rfl ?_
  intro ad18 c18 E18 hV18 hr18
  rw [← CH] at hV18
  rw [show ys.length+1=(ys++[x.len % 256]).length by rw [List.length_append];rfl] at hV18 ⊢
  refine J1 ?_
  refine rA 2 [10] rfl ?_
  exact Ab):p:=h
theorem Dl{p:Prop}(h:p:=by
  intro w1 hS
  refine (PD (fun _=>False) w0 w1 _ _ _ _ [4] m.asn (Vec.row (k:=1) (s:=1) (c:=1) (cs:=u8s [4]) rfl rfl Er) hS Et Er Er).mono ?_
  rintro e w' ⟨ad84,c84,E84,rfl,hV84,hS'⟩
  refine ⟨_,_,rfl,hS',?_⟩
  refine zK LU rfl ?_
  exact Aa):p:=h
theorem Dm{p:Prop}(h:p:=by
  refine zK KP rfl ?_
  intro w1 hS
  refine (IH w1 s n hn 6 7 ad c es (hO.frm (hS.rng fun _ h=>h)) Er hX.D5 hX.r).mono ?_
  rintro e w' ⟨ad3,c3,E3,rfl,hT3,hS'⟩
  refine ⟨_,_,rfl,hS.join hS',?_⟩
  refine J7 ?_
  refine eT1 ?_
  rw [show Ie s n K A H J=Kf s n A H J from (if_neg h14).trans (if_pos ⟨h22,h26⟩),show Kf s n A H J=(s.gone n,FP s n 6 7) from (if_neg h32).trans ((if_neg h40).trans ((if_neg h49).trans ((if_pos h58).trans (if_pos Er))))]
  exact Ak):p:=h
theorem Dn{p:Prop}(h:p:=by
  refine WL.AN rfl rfl rfl Tryz.underlying25 Tryz.underlying25 AO Hx BF rfl rfl hV2 (new:=u8s [x.len % 256]) (fun _=>⟨g17,0,rfl,fun w hS=>BZ (g:=g17) w hS⟩) rfl (CQ _) Er (.none rfl) rfl rfl ?_
  intro ad18 c18 E18 hV18 hr18
  rw [← CH] at hV18
  rw [show ys.length+1=(ys++[x.len % 256]).length by rw [List.length_append];rfl] at hV18 ⊢
  refine J1 ?_
  refine rA 2 [9,10] rfl ?_
  refine J1 ?_
  exact Ab):p:=h
theorem Dp{p:Prop}(h:p:=by
  refine WL.AN rfl rfl rfl Tryz.underlying25 Tryz.underlying25 AO Hx BF rfl rfl hV2 (new:=u8s [x.len % 256]) (fun _=>⟨g17,0,rfl,fun w hS=>BZ (g:=g17) w hS⟩) rfl (CQ _) Er (.none rfl) rfl rfl ?_
  intro ad18 c18 E18 hV18 hr18
  rw [← CH] at hV18
  rw [show ys.length+1=(ys++[x.len % 256]).length by rw [List.length_append];rfl] at hV18 ⊢
  refine J1 ?_
  refine rA 2 [7,10] rfl ?_
  refine J1 ?_
  exact Ab):p:=h
theorem Dq{p:Prop}(h:p:=by
  refine J7 ?_
  refine zK H8 rfl ?_
  intro w1 hS
  refine (Hq w0 w1 g p s E0 E1 (.row g5 m.cells::L) d hA hG hS 6 7 ⟨by decide,by decide⟩ ⟨by decide,by decide⟩).mono ?_
  rintro e w' ⟨ad2,c2,gs,EG,KG,p2,E02,E12,d2,rfl,hV2,heg,hA2,hS'⟩
  refine ⟨_,_,rfl,hS',?_⟩
  refine J6 ?_
  refine eT1 ?_
  have e0:BQ s 1 m.asn m.hold m.id=(s.gone 1,DW s 1 6 7 ⟨#[]⟩):=(by unfold BQ;rw [if_neg (by rw [← het];exact h21),if_neg (by rw [← hei];exact h33),if_neg (fun hh=>h45 (hst.trans hh)),if_pos (hst.symm.trans h56),if_pos (by split <;> omega)])
  exact Al):p:=h
theorem Dr{p:Prop}(h:p:=by
  refine J7 ?_
  refine zK H8 rfl ?_
  intro w1 hS
  refine (Ht w0 w1 g p s E0 E1 (.row g5 m.cells::L) d hA hG hS 6 7 ⟨by decide,by decide⟩ ⟨by decide,by decide⟩).mono ?_
  rintro e w' ⟨ad2,c2,gs,EG,KG,p2,E02,E12,d2,rfl,hV2,heg,hA2,hS'⟩
  refine ⟨_,_,rfl,hS',?_⟩
  refine J6 ?_
  refine eT1 ?_
  have e0:BQ s 0 m.asn m.hold m.id=(s.gone 0,DW s 0 6 7 ⟨#[]⟩):=(by unfold BQ;rw [if_neg (by rw [← het];exact h21),if_neg (by rw [← hei];exact h33),if_neg (fun hh=>h45 (hst.trans hh)),if_pos (hst.symm.trans h56),if_pos (by split <;> omega)])
  exact Al):p:=h
theorem Ds{p:Prop}(h:p:=by
  refine JT (fun h139=>?_) (fun h139=>?_)
  refine J3 ?_
  refine JT (fun h143=>?_) (fun h143=>?_)
  exact Ad
  refine J10 ?_
  refine JT (fun h166=>?_) (fun h166=>?_)
  refine J3 ?_
  refine JT (fun h170=>?_) (fun h170=>?_)
  exact Ao
  refine J10 ?_
  exact Ac
  refine J14 ?_
  exact Ac
  refine J14 ?_
  refine JT (fun h166=>?_) (fun h166=>?_)
  refine J3 ?_
  refine JT (fun h170=>?_) (fun h170=>?_)
  exact Ao
  refine J10 ?_
  exact Ac
  refine J14 ?_
  exact Ac):p:=h
theorem Dt{p:Prop}(h:p:=by
  refine rO 3 [8,9]<|zB Tryz.underlying32 AP DB rfl rfl<|?_
  intro g81 hg81
  refine WL.as (L':=.row g81 (CG [AJ [x0,x1,x2,x3]])::(E++(.row ga (AtL.cells { a with cad:=ad,cc:=cc,comms:=cs })::(K++L)))) rfl<|WL.to (L':=E++(.row g81 (CG [AJ [x0,x1,x2,x3]])::.row ga (AtL.cells { a with cad:=ad,cc:=cc,comms:=cs })::(K++L))) (fun w hS=>hS.front [_])<|?_
  exact Ai):p:=h
theorem Du{p:Prop}(h:p:=by
  refine zK LU rfl ?_
  intro w1 hS
  refine (PD (fun _=>False) w0 w1 _ _ _ _ [4] m.asn (Vec.row (k:=1) (s:=1) (c:=1) (cs:=u8s [4]) rfl rfl Er) hS Et Er Er).mono ?_
  rintro e w' ⟨ad84,c84,E84,rfl,hV84,hS'⟩
  refine ⟨_,_,rfl,hS',?_⟩
  refine J1 ?_
  refine rA 2 [5] rfl ?_
  refine J2 ?_
  refine rO 1 [6]<|zK LU rfl<|?_
  exact Aa):p:=h
theorem Dv{p:Prop}(h:p:=by
  refine zV (AY true rfl rfl Tryz.underlying40 rfl) rfl ?_
  refine J10 ?_
  exact A9):p:=h
theorem Dw{p:Prop}(h:p:=by
  refine zV (CJ (fOf all) rfl rfl Tryz.underlying25 Tryz.underlying5 Tryz.underlying9 (fun w' hS' _=>⟨b,oa,rfl,DV (hWa.st hS').at_⟩)) rfl ?_
  refine J6 ?_
  refine eT1 ?_
  have e0:CL a.d all v = .inr (4,strOf all):=(by unfold CL;rw [ht,Int.toNat_natCast,if_pos (by omega)])
  exact Bd):p:=h
theorem Dx{p:Prop}(h:p:=by
  refine eT2 ?_
  have e0:ED AtL.zero.d [] xs = .inr (6,strOf al):=(by rw [hdec];exact Hl Er hnsx (by rw [← hal, ← hvl];rw [Ip hk18];exact Ab1 hnf hnz (by omega) (by have h7:AJ vl > 2:=h237;unfold wiB;exact decide_eq_false (by omega))))
  exact Bh):p:=h
theorem Dy{p:Prop}(h:p:=by
  refine rO 1 [3,7]<|zK FR rfl<|?_
  intro w1 hS
  refine (HC (fun _=>False) w w1 _ [] none 0 [] a.aas 2 (Vec.nil 1) hS Fp Er).mono ?_
  rintro e w' ⟨ad74,c74,E74,rfl,hV74,hS'⟩
  refine ⟨_,_,rfl,hS',?_⟩
  refine zK FR rfl ?_
  exact Av):p:=h
theorem Dz{p:Prop}(h:p:=by
  refine eT2 ?_
  have hc:HT m=1:=(by
    unfold HT
    rw [hb,KE hx (by unfold RZ;exact decide_eq_false (by omega))];rfl)
  exact A2):p:=h
theorem D0{p:Prop}(h:p:=by
  refine J19 ?_
  refine zB Tryz.underlying46 DI BT rfl rfl ?_
  intro g38 hg38
  refine WL.as (L':=.row g38 (efZ 3 0).cells::.row g p.cells::(E0++(E1++d.L p.gC s.now L))) rfl ?_
  refine J5 ?_
  refine eT1 ?_
  have hc:K1 s 0:=(.inl (hb0.symm.trans h19))
  exact Bg):p:=h
theorem D1{p:Prop}(h:p:=by
  refine eT2 ?_
  have hc:Kb m=1:=(by unfold Kb;rw [if_pos (by omega)])
  exact A2):p:=h
theorem D2{p:Prop}(h:p:=by
  refine JT (fun h204=>?_) (fun h204=>?_)
  refine J3 ?_
  refine zS (SH rfl rfl rfl Er Er) rfl ?_
  refine JT (fun h209=>?_) (fun h209=>?_)
  refine J6 ?_
  exact Aj
  refine J6 ?_
  exact Cb
  refine J11 ?_
  exact Cb):p:=h
theorem D3{p:Prop}(h:p:=by
  refine JT (fun h51=>?_) (fun h51=>?_)
  refine J3 ?_
  refine zS (SH rfl rfl rfl Er Er) rfl ?_
  refine JT (fun h56=>?_) (fun h56=>?_)
  refine J8 ?_
  exact Ay
  refine J6 ?_
  exact C6
  refine J11 ?_
  exact C6):p:=h
theorem D4{p:Prop}(h:p:=by
  refine eT2 ?_
  have e0:ED AtL.zero.d [] xs = .inr (9,strOf al):=(by rw [hdec];exact Hl (by omega) hnsx (by rw [← hal, ← hvl];rw [Ip hk18];exact AcU hnf hnz ⟨by omega,by omega⟩))
  exact Bh):p:=h
theorem D6{p:Prop}(h:p:=by
  refine eT2 ?_
  have e0:ED AtL.zero.d [] xs = .inr (8,strOf al):=(by rw [hdec];exact Hl (by omega) hnsx (by rw [← hal, ← hvl];rw [Ip hk18];exact Ado hnf hnz (by omega) hq3))
  exact Bh):p:=h
theorem D7{p:Prop}(h:p:=by
  refine eT2 ?_
  have e0:ED AtL.zero.d [] xs = .inr (2,strOf al):=(by rw [hdec];exact Hl (by omega) hnsx (by rw [← hal, ← hvl];rw [Mw hun];unfold DY;rw [if_pos (by omega)]))
  exact Bh):p:=h
theorem D8{p:Prop}(h:p:=by
  refine JT (fun h34=>?_) (fun h34=>?_)
  refine J18 ?_
  exact Aq
  refine J5 ?_
  refine JT (fun h40=>?_) (fun h40=>?_)
  refine J12 ?_
  exact Aq
  refine J5 ?_
  exact eM () (decide_eq_false Er)):p:=h
theorem D9{p:Prop}(h:p:=by
  rintro e w' ⟨ad33,c33,E33,rfl,hV33,hS'⟩
  refine ⟨_,_,rfl,hS',?_⟩
  refine J1 ?_
  refine rA 2 [4,5] rfl ?_
  refine J3 ?_
  refine rO 1 [6]<|zK FR rfl<|?_
  exact Ar):p:=h
theorem Eb{p:Prop}(h:p:=by
  refine J4 ?_
  exact A9):p:=h
theorem Ec{p:Prop}(h:p:=by
  rintro e w' ⟨ad2,c2,gs,EG,KG,p2,E02,E12,d2,rfl,hV2,heg,hA2,hS'⟩
  refine ⟨_,_,rfl,hS',?_⟩
  refine J4 ?_
  refine eT1 ?_
  exact Bu):p:=h
theorem Ed{p:Prop}(h:p:=by
  refine zS ((Pw rfl rfl rfl).t (hb5)) rfl ?_
  refine J4 ?_
  refine zS ((O9 rfl rfl rfl).t (hb6)) rfl ?_
  refine J3 ?_
  exact Ca):p:=h
theorem Ee{p:Prop}(h:p:=by
  rintro e w' ⟨ad33,c33,E33,rfl,hV33,hS'⟩
  refine ⟨_,_,rfl,hS',?_⟩
  refine zK FR rfl ?_
  exact Ar):p:=h
theorem Ef{p:Prop}(h:p:=by
  refine J9 ?_
  refine zV (AY true rfl rfl Tryz.underlying40 rfl) rfl ?_
  refine J17 ?_
  exact A9):p:=h
theorem Eh{p:Prop}(h:p:=by
  refine eT2 ?_
  have e0:ED AtL.zero.d [] xs = .inr (s,d):=(by rw [hy,hst,hF rfl])
  exact Bz):p:=h
theorem Aa{p:Prop}(h:p:=by
  intro w1 hS
  refine (PD (fun _=>False) w0 w1 _ _ _ _ _ m.hold hV84 hS (by rw [List.length_append,AW];decide) Er Er).mono ?_
  rintro e w' ⟨ad87,c87,E87,rfl,hV87,hS'⟩
  refine ⟨_,_,rfl,hS',?_⟩
  refine J1 ?_
  refine rF 0 [7] ?_
  refine J9 ?_
  refine zK ck_74 rfl ?_
  intro w1 hS
  refine (QC (fun _=>False) w0 w1 _ _ _ _ _ m.id 4 hV87 hS (by rw [List.length_append,List.length_append,AW,AW];decide) Et).mono ?_
  rintro e w' ⟨ad91,c91,E91,rfl,hV91,hS'⟩
  refine ⟨_,_,rfl,hS',?_⟩
  have h91:([4]++BM m.asn 2++BM m.hold 2++FH m.id 4).length=9:=(by rw [List.length_append,List.length_append,List.length_append,AW,AW,IU _ (by decide)];rfl)
  refine J8 ?_
  refine JT (fun h94=>?_) (fun h94=>?_)
  refine J6 ?_
  refine zB Tryz.underlying25 AO BF rfl rfl ?_
  intro g96 hg96
  refine WL.as (L':=.row g96 (u8s [0])::(E91++(E++[.row g1 m.cells]))) rfl<|WL.to (L':=E91++(.row g96 (u8s [0])::(E++[.row g1 m.cells]))) (fun w hS=>hS.front [_])<|?_
  refine WL.AN rfl rfl rfl Tryz.underlying25 Tryz.underlying25 AO Hx BF rfl rfl hV91 (new:=u8s [0]) (fun _=>⟨g96,0,rfl,fun w hS=>BZ (g:=g96) w hS⟩) rfl (CQ _) Er (.none rfl) rfl rfl ?_
  intro ad97 c97 E97 hV97 hr97
  refine J6 ?_
  refine eT2 ?_
  have hc:HT m=0:=(by
    unfold HT
    rw [hb,hall,if_neg (show ¬ 253<(EZ m.CS).length by rw [← hy'];omega)];rfl)
  rw [← CH] at hV97
  have hkl:=hV97.toB
  rw [hkl] at hV97 ⊢
  exact fun w' h=>KZ.good hc hV97 h (by unfold Gx;rw [if_pos (by rw [← hy'];omega)])
  refine J10 ?_
  refine zV (AS rfl rfl rfl (show _=((2+ys.length:Nat):Int) from (AF Er Er).trans Er)) rfl ?_
  refine zV (AQ rfl rfl Tryz.underlying5 Tryz.underlying3 (HL _)) rfl ?_
  refine J2 ?_
  refine zV (AQ rfl rfl Tryz.underlying5 Tryz.underlying3 (HL _)) rfl<|zB Tryz.underlying25 AO BF rfl rfl<|?_
  intro g106 hg106
  refine WL.as (L':=.row g106 (u8s [((2+ys.length:Nat):Int) % 256,2,(ys.length:Int) % 256])::(E91++(E++[.row g1 m.cells]))) rfl<|WL.to (L':=E91++(.row g106 (u8s [((2+ys.length:Nat):Int) % 256,2,(ys.length:Int) % 256])::(E++[.row g1 m.cells]))) (fun w hS=>hS.front [_])<|?_
  refine WL.AN rfl rfl rfl Tryz.underlying25 Tryz.underlying25 AO Hx BF rfl rfl hV91 (new:=u8s [((2+ys.length:Nat):Int) % 256,2,(ys.length:Int) % 256]) (fun _=>⟨g106,0,rfl,fun w hS=>BZ (g:=g106) w hS⟩) rfl (CQ _) Er (.none rfl) rfl rfl ?_
  intro ad107 c107 E107 hV107 hr107
  refine J7 ?_
  refine WL.AN rfl rfl rfl Tryz.underlying25 Tryz.underlying25 AO Hx BF rfl rfl hV107 (new:=u8s ys) (fun h=>by obtain ⟨b',o',e,hr'⟩:=hV.src (L:=E107++(.row g106 (u8s [((2+ys.length:Nat):Int) % 256,2,(ys.length:Int) % 256])::(E++[.row g1 m.cells]))) (fun e he=>List.mem_append_right _ (.tail _ (List.mem_append_left _ he))) Fq;exact ⟨b',o',e,fun w hS=>hr' _ _ w hS⟩) Fh (CQ _) Er (.none rfl) rfl rfl ?_
  intro ad110 c110 E110 hV110 hr110
  refine J5 ?_
  refine eT2 ?_
  have hc:HT m=0:=(by
    unfold HT
    rw [hb,hall,if_neg (show ¬ 253<(EZ m.CS).length by rw [← hy'];omega)];rfl)
  rw [← CH, ← CH] at hV110
  have hkl:=hV110.toB
  rw [hkl] at hV110 ⊢
  exact fun w' h=>KZ.good hc hV110 h (by unfold Gx;rw [if_neg (by rw [← hy'];omega), ← hy',List.append_assoc];rfl)):p:=h
theorem Ab{p:Prop}(h:p:=by
  refine WQ.call _ rfl rfl Zn (.none rfl) rfl rfl (fun w hS=>Calls.still (V7 w x.len Er Er) hS) ?_
  refine J1 ?_
  refine rO 1 [11]<|zK ck_74 rfl<|?_
  intro w1 hS
  refine (QC (fun _=>False) w0 w1 _ _ _ _ _ x.addr ((x.len.toNat+7) / 8) hV18 hS (by rw [List.length_append];show ys.length+1≤_;omega) Er).mono ?_
  rintro e w' ⟨ad24,c24,E24,rfl,hV24,hS'⟩
  refine ⟨_,_,rfl,hS',?_⟩
  refine J1 ?_
  refine rF 0 [12] ?_
  refine J9 ?_
  have hz:ys++[x.len % 256]++FH x.addr ((x.len.toNat+7) / 8)=ys++WU x:=(by unfold WU;rw [List.append_assoc];congr 2;show [_]=[_];rw [show (2:Int) ^ (8*0)=1 by decide,Int.ediv_one])
  exact WE.next (k+1,_,ad24,c24,E24) Eu ⟨by dsimp only;omega,by dsimp only;rw [hz,List.length_append];omega,by dsimp only;rw [hz,List.append_assoc];exact hy,hV24⟩ (.int rfl Eu (.cons rfl (.cons rfl (.cons rfl .nil)))) (List.Sublist.append_left (.cons _ (.cons _ (.refl _))) _)):p:=h
theorem Ac{p:Prop}(h:p:=by
  refine JT (fun h176=>?_) (fun h176=>?_)
  refine J3 ?_
  refine JT (fun h180=>?_) (fun h180=>?_)
  refine J8 ?_
  refine zk Zm rfl (fun w hS=>OI w s n hn ad _ c hX.D5 hch.1 F2) ?_
  refine J2 ?_
  refine zK Ju rfl ?_
  intro w1 hS
  refine (HO w1 (s.alive n) ad c es ⟨6,n,0,0,0⟩ (hO.frm (hS.rng fun _ h=>h)) Er).mono ?_
  rintro e w' ⟨ad3,c3,E3,rfl,hT3,hS'⟩
  refine ⟨_,_,rfl,hS.join hS',?_⟩
  refine J5 ?_
  refine eT1 ?_
  have ne:¬ ((s.c n).st=3∧K=1):=Er
  have ne2:¬ ((s.c n).st=4∧K=4):=Er
  have ne3:¬ ((s.c n).st=5∧K=4):=Er
  rw [show Ie s n K A H J=(s.alive n,[⟨6,n,0,0,0⟩]) from (if_neg h14).trans ((if_neg ne).trans ((if_neg ne2).trans ((if_neg ne3).trans (if_pos ⟨h176,h180⟩))))]
  exact fun w' h=>⟨ad3,c3,E3,rfl,hT3,h.sub (List.sublist_append_left _ _)⟩
  refine J11 ?_
  refine zV (EM rfl rfl rfl ((show _=(s.c n).st-2 from AF Er Er))) rfl ?_
  refine zK KP rfl ?_
  intro w1 hS
  refine (IH w1 s n hn 5 ((s.c n).st-2) ad c es (hO.frm (hS.rng fun _ h=>h)) Er hX.D5 hX.r).mono ?_
  rintro e w' ⟨ad3,c3,E3,rfl,hT3,hS'⟩
  refine ⟨_,_,rfl,hS.join hS',?_⟩
  refine J4 ?_
  refine eT1 ?_
  have ne:¬ ((s.c n).st=3∧K=1):=Er
  have ne2:¬ ((s.c n).st=4∧K=4):=Er
  have ne3:¬ ((s.c n).st=5∧K=4):=Er
  have ne4:¬ ((s.c n).st=5∧K=2):=Er
  rw [show Ie s n K A H J=(s.gone n,FP s n 5 ((s.c n).st-2)) from (if_neg h14).trans ((if_neg ne).trans ((if_neg ne2).trans ((if_neg ne3).trans (if_neg ne4))))]
  exact fun w' h=>⟨ad3,c3,E3,rfl,hT3,h.sub (List.sublist_append_left _ _)⟩
  refine J15 ?_
  refine zV (EM rfl rfl rfl ((show _=(s.c n).st-2 from AF Er Er))) rfl ?_
  refine zK KP rfl ?_
  intro w1 hS
  refine (IH w1 s n hn 5 ((s.c n).st-2) ad c es (hO.frm (hS.rng fun _ h=>h)) Er hX.D5 hX.r).mono ?_
  rintro e w' ⟨ad3,c3,E3,rfl,hT3,hS'⟩
  refine ⟨_,_,rfl,hS.join hS',?_⟩
  refine J4 ?_
  refine eT1 ?_
  have ne:¬ ((s.c n).st=3∧K=1):=Er
  have ne2:¬ ((s.c n).st=4∧K=4):=Er
  have ne3:¬ ((s.c n).st=5∧K=4):=Er
  have ne4:¬ ((s.c n).st=5∧K=2):=Er
  rw [show Ie s n K A H J=(s.gone n,FP s n 5 ((s.c n).st-2)) from (if_neg h14).trans ((if_neg ne).trans ((if_neg ne2).trans ((if_neg ne3).trans (if_neg ne4))))]
  exact fun w' h=>⟨ad3,c3,E3,rfl,hT3,h.sub (List.sublist_append_left _ _)⟩):p:=h
theorem Ad{p:Prop}(h:p:=by
  refine J8 ?_
  refine zV ((BR (lo:=n) rfl rfl rfl Tryz.underlying78 AP rfl hn)) rfl ?_
  refine WL.DA rfl rfl rfl rfl AK (show 7+n<(rfC s (.slice ad es.length c)).length by show 7+n<19;omega) (.none rfl) rfl ?_
  rw [Wi s hn]
  have eu:(s.set n { s.c n with st:=5 }).alive n=s.up5 n:=rfl
  have hca:(s.set n { s.c n with st:=5 }).c n = { s.c n with st:=5 }:=(L5 s n n _ hn hn).trans (if_pos rfl)
  have hna:(s.set n { s.c n with st:=5 }).now=s.now:=FW _ _ _
  have hDa:(s.set n { s.c n with st:=5 }).D.length=5:=setD5 hX.D5 _ _
  refine J6 ?_
  refine zk Zm rfl (fun w hS=>OI w (s.set n { s.c n with st:=5 }) n hn ad _ c hDa (by rw [hca];exact hch.1) (by rw [hca,hna];unfold FB;dsimp only;omega)) ?_
  refine J1 ?_
  rw [eu]
  have hXu:RxH (s.up5 n):=hX.up5 n hn h0
  refine J2 ?_
  refine WC.cut (fun _:Option Addr×Nat×List RE×List Ent=>[(1, .int .i64 n),(3, .pointer (some ⟨g3,0,none⟩)),(5, .pointer (some ⟨g5,0,none⟩)),(6, .pointer (some ⟨g6,0,none⟩))]) (fun y=>y.2.2.2++(.row g6 [.int .i64 0, .int .i64 0, .int .i64 0, .int .i64 0, .int .u32 0, .int .i64 0, .int .i64 0, .int .i64 0, .int .i64 0, .int .u32 0, .int .u32 0, .int .i64 0, .int .i64 0, .int .i64 0, .int .i64 0, .int .i64 0, .int .i64 0, .int .i64 0, .slice none 0 0]::.row g5 [.int .i64 K, .int .i64 A, .int .i64 H, .int .u32 J]::[.row g3 (rfC (s.BD n) (.slice y.1 y.2.2.1.length y.2.1))])) (fun y=>y.2.2.1=es++(if ((s.up5 n).c (1-n)).st=0 then [] else FP (s.up5 n) (1-n) 6 7)∧Trf ad es y.1 y.2.2.1 y.2.2.2) ?_ ?_
  refine J3 ?_
  refine zV (EM rfl rfl rfl ((show _=((1-n:Nat):Int) from (AF Er Er).trans Er))) rfl ?_
  refine J1 ?_
  refine zV ((BR (lo:=1-n) rfl rfl rfl Tryz.underlying78 AP rfl Er)) rfl ?_
  refine zV (AA rfl rfl AK (cellAt (v:=.int .i64 ((s.up5 n).c (1-n)).st) (G0 (s.up5 n) Er _))) rfl ?_
  refine JT (fun h156=>?_) (fun h156=>?_)
  refine J6 ?_
  refine zV (EM rfl rfl rfl ((show _=((1-n:Nat):Int) from (AF Er Er).trans Er))) rfl ?_
  refine zK KP rfl ?_
  intro w1 hS
  refine (IH w1 (s.up5 n) (1-n) Er 6 7 ad c es (hO.frm (hS.rng fun _ h=>h)) Er hXu.D5 hXu.r).mono ?_
  rintro e w' ⟨ad3,c3,E3,rfl,hT3,hS'⟩
  refine ⟨_,_,rfl,hS.join hS',?_⟩
  refine J2 ?_
  exact WE.mid (ad3,c3,es++FP (s.up5 n) (1-n) 6 7,E3) ⟨by rw [if_neg h156],hT3⟩ Km (by dsimp only;rw [show s.BD n=(s.up5 n).gone (1-n) from if_neg h156];exact .refl _)
  refine J4 ?_
  exact WE.mid (ad,c,es,[]) ⟨by rw [if_pos (Decidable.of_not_not h156),List.append_nil], .refl _ _⟩ Km (by dsimp only;rw [show s.BD n=s.up5 n from if_pos (Decidable.of_not_not h156)];exact .refl _)
  rintro ⟨ad4,c4,es4,E4⟩ ⟨he4,hT4⟩
  dsimp only at he4 hT4
  dsimp only
  have hl4:es4.length≤es.length+3:=by
    rw [he4,List.length_append]
    split
    · exact Nat.le_add_right _ _
    · have:=M1 (s.up5 n) (1-n) 6 7;omega
  refine J5 ?_
  refine zK Ju rfl ?_
  intro w1 hS
  refine (HO w1 (s.BD n) ad4 c4 es4 ⟨4,n,0,0,0⟩ (hT4.at hO hS (List.sublist_append_left _ _)) Er).mono ?_
  rintro e w' ⟨ad5,c5,E5,rfl,hT5,hS'⟩
  refine ⟨_,_,rfl,hS.join hS',?_⟩
  refine J5 ?_
  refine eT1 ?_
  have ne:¬ ((s.c n).st=3∧K=1):=Er
  rw [show Ie s n K A H J=(s.BD n,Nt s n) from (if_neg h14).trans ((if_neg ne).trans (if_pos ⟨h139,h143⟩)),show es++Nt s n=es4++[⟨4,n,0,0,0⟩] by rw [he4,Nt,List.append_assoc]]
  exact fun w' h=>⟨ad5,c5,E5++E4,rfl,hT4.trans hT5,h.sub (QG ..)⟩):p:=h
theorem Ae{p:Prop}(h:p:=by
  refine J18 ?_
  refine zV (Le rfl rfl rfl) rfl<|zK ck_82 rfl<|?_
  intro w1 hS
  refine (Set_d (now:=s.now) (R:=.row g p.cells::(E0++(E1++L))) (hS.AX) hA.bag n Er Er (min (s.now+later) 1073741824) Er Er Er).mono ?_
  rintro e w' ⟨d',rfl,hb',hS'⟩
  refine ⟨_, .row g p.cells::(E0++(E1++d'.L p.gC s.now L)),rfl,hS'.AX,?_⟩
  refine J1 ?_
  refine WE.KX (P:=Tryz.prog) (.inr rfl) Tryz.results53  ?_
  have e0:(s.due n later).D=s.D.set n (min (s.now+later) 1073741824):=(by rw [Se.VS,if_neg (by unfold FB;omega)];rfl)
  exact fun w' h=>⟨d',rfl,hA.due n later hl.1 (by rw [e0];exact hb'),h⟩):p:=h
theorem Af{p:Prop}(h:p:=by
  refine zV (EM rfl rfl rfl (show _=p.c1.st-3 from AF Er Er)) rfl ?_
  refine zV (AS rfl rfl rfl (show _=p.c1.st-2 from (AF Er Er).trans Er)) rfl ?_
  refine zK H8 rfl ?_
  intro w1 hS
  refine (Hq w0 w1 g p s E0 E1 (.row g5 m.cells::L) d hA hG hS 5 (p.c1.st-2) ⟨by decide,by decide⟩ ⟨by omega,by omega⟩).mono ?_
  rintro e w' ⟨ad2,c2,gs,EG,KG,p2,E02,E12,d2,rfl,hV2,heg,hA2,hS'⟩
  refine ⟨_,_,rfl,hS',?_⟩
  refine J4 ?_
  refine eT1 ?_
  have e0:EW s 1 m=(s.gone 1,DW s 1 5 (p.c1.st-2) ⟨#[]⟩):=(by unfold EW;rw [if_neg h18,if_neg (by rw [← hst];omega),if_neg (by rw [← hst];omega),if_neg (by rw [← hst];omega),if_neg (by rw [← hst];omega),hst])
  rw [e0]
  exact fun w' h=>⟨ad2,c2,gs,EG,KG,p2,E02,E12,d2,rfl,hV2,heg,hA2,h.CE [.row g5 m.cells] ⟩):p:=h
theorem Ag{p:Prop}(h:p:=by
  refine zV (EM rfl rfl rfl (show _=p.c0.st-3 from AF Er Er)) rfl ?_
  refine zV (AS rfl rfl rfl (show _=p.c0.st-2 from (AF Er Er).trans Er)) rfl ?_
  refine zK H8 rfl ?_
  intro w1 hS
  refine (Ht w0 w1 g p s E0 E1 (.row g5 m.cells::L) d hA hG hS 5 (p.c0.st-2) ⟨by decide,by decide⟩ ⟨by omega,by omega⟩).mono ?_
  rintro e w' ⟨ad2,c2,gs,EG,KG,p2,E02,E12,d2,rfl,hV2,heg,hA2,hS'⟩
  refine ⟨_,_,rfl,hS',?_⟩
  refine J4 ?_
  refine eT1 ?_
  have e0:EW s 0 m=(s.gone 0,DW s 0 5 (p.c0.st-2) ⟨#[]⟩):=(by unfold EW;rw [if_neg h18,if_neg (by rw [← hst];omega),if_neg (by rw [← hst];omega),if_neg (by rw [← hst];omega),if_neg (by rw [← hst];omega),hst])
  rw [e0]
  exact fun w' h=>⟨ad2,c2,gs,EG,KG,p2,E02,E12,d2,rfl,hV2,heg,hA2,h.CE [.row g5 m.cells] ⟩):p:=h
theorem Ah{p:Prop}(h:p:=by
  rintro ⟨zs,ad2,c2,E2⟩ ⟨hz,hV2⟩
  dsimp only at hz hV2
  dsimp only
  refine J9 ?_
  refine WC.loop (fun x:Nat×List Int×Option Addr×Nat×List Ent=>[(41, .int .i64 x.1),(40, .int .i64 s.asl.length),(39, .slice s.ad s.asl.length s.cap),(5, .slice x.2.2.1 x.2.1.length x.2.2.2.1),(25, .int .i64 k),(24, .int .i64 a.path.length),(23, .slice a.pad a.path.length a.pc)]) (fun x=>x.2.2.2.2++[]) (fun x=>x.1≤s.asl.length∧x.2.1.length=ys.length+2+2*x.1∧x.2.1++(s.asl.drop x.1).flatMap (fun y=>BM y 2)=ys++Mq s∧BV x.2.2.1 x.2.2.2.1 x.2.1 x.2.2.2.2) (fun x=>s.asl.length-x.1) (0,zs,ad2,c2,E2) ⟨Nat.zero_le _,by dsimp only;rw [hz,List.length_append,List.length_append,AW,AW],by dsimp only;rw [hz,List.append_assoc,List.append_assoc];rfl,hV2⟩ Km (List.Sublist.append_left (List.nil_sublist _) _) ?_
  rintro ⟨i,us,ad3,c3,E3⟩ ⟨hi,hul,hu,hV3⟩
  dsimp only at hi hul hu hV3
  dsimp only
  refine J2 ?_
  refine JT (fun h42=>?_) (fun h42=>?_)
  refine J10 ?_
  obtain ⟨x,hx⟩:∃ x,s.asl[i]?=some x:=⟨s.asl[i]' Er,List.getElem?_eq_getElem _⟩
  obtain ⟨b2,o2,ea2,hr2⟩:=hA.H5 s hsm F5
  rw [Gt hx,List.flatMap_cons] at hu
  refine zV ((AB (b:=b2) (off:=o2) (lo:=i) rfl (by show some (Value.slice s.ad _ _)=_;rw [ea2]) rfl Tryz.underlying32 AP rfl Er)) rfl ?_
  refine zV (AA rfl rfl AK (AL (v:=.int .i64 x) (fun h=>h) (by rw [Nat.mul_one];exact hr2 i _ (Ke hx)))) rfl ?_
  refine J6 ?_
  refine zK FR rfl ?_
  intro w1 hS
  refine (HC (fun _=>False) w w1 _ _ _ _ _ x 2 hV3 hS Fp Er).mono ?_
  rintro e w' ⟨ad47,c47,E47,rfl,hV47,hS'⟩
  refine ⟨_,_,rfl,hS',?_⟩
  refine J8 ?_
  exact eW (i+1,us++BM x 2,ad47,c47,E47) Eu ⟨by dsimp only;omega,by dsimp only;rw [List.length_append,AW];omega,by dsimp only;rw [List.append_assoc];exact hu,hV47⟩ (.int rfl Eu (.cons rfl (.cons rfl (.cons rfl (.cons rfl (.cons rfl (.cons rfl .nil)))))))
  refine J11 ?_
  obtain rfl:i=s.asl.length:=Er
  rw [List.drop_length,List.flatMap_nil,List.append_nil] at hu
  refine J3 ?_
  exact eW (k+1,us,ad3,c3,E3) Eu ⟨by dsimp only;omega,by dsimp only;rw [hu,List.append_assoc];exact hy,hV3⟩ (.int rfl Eu (.cons rfl (.cons rfl (.cons rfl .nil))))):p:=h
theorem Ai{p:Prop}(h:p:=by
  refine WL.AN rfl rfl rfl Tryz.underlying32 Tryz.underlying32 AP Pf DB rfl rfl hV (new:=CG [AJ [x0,x1,x2,x3]]) (fun _=>⟨g81,0,rfl,fun w hS=>BZ (g:=g81) w hS⟩) rfl (H6 _) Eu (.none rfl) rfl rfl ?_
  intro ad82 c82 E82 hV82 hr82
  rw [← Hs] at hV82
  rw [show cs.length+1=(cs++[AJ [x0,x1,x2,x3]]).length by rw [List.length_append];rfl] at hV82 ⊢
  refine J1 ?_
  refine rF 1 [10,11] ?_
  refine J3 ?_
  refine rO 0 [12] ?_
  refine J1 ?_
  refine WL.as (L':=E82++(.row g81 (CG [AJ [x0,x1,x2,x3]])::.row ga (AtL.cells { a with cad:=ad82,cc:=c82,comms:=cs++[AJ [x0,x1,x2,x3]] })::(K++L))) rfl ?_
  refine J6 ?_
  refine zV ((BW (lo:=4) rfl rfl rfl Tryz.underlying25 AO rfl Er)) rfl ?_
  refine J2 ?_
  have hWd:=hW2.drop 4
  rw [show (x0::x1::x2::x3::zs).drop 4=zs from rfl] at hWd
  exact WE.next (zs,AV o2 4 c2 1,c2-4,cs++[AJ [x0,x1,x2,x3]],ad82,c82,E82) Eu ⟨by dsimp only;omega,by dsimp only;rw [List.length_append,List.length_cons,List.length_nil];omega,hWd,by dsimp only;rw [List.append_assoc];exact hy,hV82⟩ Km (List.Sublist.append_left (.cons _ (.refl _)) _)):p:=h
theorem Aj{p:Prop}(h:p:=by
  refine WC.BB mixed<|rF 4 [0,1]<|?_
  refine J3 ?_
  refine WR.each (g:=3) [2,4] Es Et ?_
  refine ⟨?_,?_⟩
  refine zV (CJ (fOf al) rfl rfl Tryz.underlying25 Tryz.underlying5 Tryz.underlying9 (fun w' hS' _=>⟨b,AV o k cv 1,rfl,DV (hWa.st hS').at_⟩)) rfl ?_
  refine J1 ?_
  refine rF 2 [3] ?_
  refine J2 ?_
  refine rO 0 [4,5] ?_
  refine J11 ?_
  refine eT2 ?_
  have e0:ED AtL.zero.d [] xs = .inr (5,strOf al):=(by rw [hdec];exact Hl (by omega) hnsx (by rw [← hal, ← hvl];rw [Ip hk18];exact V4 hnf (by unfold Nr;rw [htn];omega)))
  exact fun w' h=>K7.no e0 h
  refine J2 ?_
  refine rA 1 [2,3] rfl<|qV (CJ (fOf al) rfl rfl Tryz.underlying25 Tryz.underlying5 Tryz.underlying9 (fun w' hS' _=>⟨b,AV o k cv 1,rfl,DV (hWa.st hS').at_⟩)) rfl<|?_
  refine J2 ?_
  refine rO 0 [5] ?_
  refine J10 ?_
  refine eT2 ?_
  have e0:ED AtL.zero.d [] xs = .inr (5,strOf al):=(by rw [hdec];exact Hl (by omega) hnsx (by rw [← hal, ← hvl];rw [Ip hk18];exact V4 hnf (by unfold Nr;rw [htn];omega)))
  exact fun w' h=>K7.no e0 h):p:=h
theorem Ak{p:Prop}(h:p:=by
  exact fun w' h=>⟨ad3,c3,E3,rfl,hT3,h.sub (List.sublist_append_left _ _)⟩):p:=h
theorem Al{p:Prop}(h:p:=by
  rw [e0]
  exact fun w' h=>⟨ad2,c2,gs,EG,KG,p2,E02,E12,d2,rfl,hV2,heg,hA2,h.CE [.row g5 m.cells] ⟩):p:=h
theorem Am{p:Prop}(h:p:=by
  refine WL.AN rfl rfl rfl Tryz.underlying25 Tryz.underlying25 AO Hx BF rfl rfl hV49 (new:=u8s [m.kind]) (fun _=>⟨g53,0,rfl,fun w hS=>BZ (g:=g53) w hS⟩) rfl (CQ _) Er (.none rfl) rfl rfl ?_
  intro ad54 c54 E54 hV54 hr54
  refine J1 ?_
  refine rF 0 [10] ?_
  refine J8 ?_
  refine WL.AN rfl rfl rfl Tryz.underlying25 Tryz.underlying25 AO Hx BF rfl rfl hV54 (new:=u8s xs) (fun h=>by obtain ⟨b',o',e,hr'⟩:=hV.src (L:=E54++(.row g53 (u8s [m.kind])::.row gb cs::.row g43 [.int .u8 255]::(E++[.row g1 m.cells]))) (fun e he=>List.mem_append_right _ (.tail _ (.tail _ (.tail _ (List.mem_append_left _ he))))) Fq;exact ⟨b',o',e,fun w hS=>hr' _ _ w hS⟩) Fh (CQ _) Er (.none rfl) rfl rfl ?_
  intro ad57 c57 E57 hV57 hr57
  refine J5 ?_
  refine eT2 ?_
  rw [← CH, ← CH] at hV57
  have hkl:=hV57.toB
  rw [hkl] at hV57 ⊢
  exact fun w' h=>KZ.good hc hV57 h (by unfold DG;rw [← hx,hnn])):p:=h
theorem An{p:Prop}(h:p:=by
  refine zV (EM rfl rfl rfl ((show _=((1-n:Nat):Int) from (AF Er Er).trans Er))) rfl ?_
  refine zK KP rfl ?_
  intro w1 hS
  refine (IH w1 s (1-n) Er 6 7 ad c es (hO.frm (hS.rng fun _ h=>h)) Er hX.D5 hX.r).mono ?_
  rintro e w' ⟨ad3,c3,E3,rfl,hT3,hS'⟩
  refine ⟨_,_,rfl,hS.join hS',?_⟩
  refine J2 ?_
  exact eM (s.gone (1-n),ad3,c3,es++FP s (1-n) 6 7,E3) ⟨by rw [if_pos h58],by rw [if_pos h58],by rw [if_pos h58];exact (if_neg h32).trans ((if_neg h40).trans ((if_neg h49).trans ((if_pos h58).trans (if_neg Er)))),hT3⟩):p:=h
theorem Ao{p:Prop}(h:p:=by
  refine J8 ?_
  refine zk Zm rfl (fun w hS=>OI w s n hn ad _ c hX.D5 hch.1 F2) ?_
  refine J5 ?_
  refine eT1 ?_
  have ne:¬ ((s.c n).st=3∧K=1):=Er
  have ne2:¬ ((s.c n).st=4∧K=4):=Er
  rw [show Ie s n K A H J=(s.alive n,[]) from (if_neg h14).trans ((if_neg ne).trans ((if_neg ne2).trans (if_pos ⟨h166,h170⟩))),List.append_nil]
  exact fun w' h=>⟨ad,c,[],rfl, .refl _ _,h.sub (List.nil_sublist _)⟩):p:=h
theorem Ap{p:Prop}(h:p:=by
  refine WC.BB mixed<|rF 4 [0,1]<|?_
  refine J3 ?_
  refine WR.each (g:=3) [2,4] Es Et ?_
  refine ⟨?_,?_⟩
  refine zV (CJ (fOf al) rfl rfl Tryz.underlying25 Tryz.underlying5 Tryz.underlying9 (fun w' hS' _=>⟨b,AV o k cv 1,rfl,DV (hWa.st hS').at_⟩)) rfl ?_
  refine J1 ?_
  refine rF 2 [3] ?_
  refine J2 ?_
  refine rO 0 [4,5] ?_
  refine J11 ?_
  refine eT2 ?_
  have e0:ED AtL.zero.d [] xs = .inr (4,strOf al):=(by rw [hdec];exact Hl (by omega) hnsx (by rw [← hal, ← hvl];rw [Ip hk18];exact V1 (by unfold MD;rw [htn];omega)))
  exact fun w' h=>K7.no e0 h
  refine J2 ?_
  refine rA 1 [2,3] rfl<|qV (CJ (fOf al) rfl rfl Tryz.underlying25 Tryz.underlying5 Tryz.underlying9 (fun w' hS' _=>⟨b,AV o k cv 1,rfl,DV (hWa.st hS').at_⟩)) rfl<|?_
  refine J2 ?_
  refine rO 0 [5] ?_
  refine J10 ?_
  refine eT2 ?_
  have e0:ED AtL.zero.d [] xs = .inr (4,strOf al):=(by rw [hdec];exact Hl (by omega) hnsx (by rw [← hal, ← hvl];rw [Ip hk18];exact V1 (by unfold MD;rw [htn];omega)))
  exact fun w' h=>K7.no e0 h):p:=h
theorem Aq{p:Prop}(h:p:=by
  refine eT2 ?_
  have hc:HT m=1:=(by
    have:UK m=true:=decide_eq_true Er
    unfold HT;rw [this];rfl)
  exact fun w' h=>KZ.bad hc Et h):p:=h
theorem Ar{p:Prop}(h:p:=by
  intro w1 hS
  refine (HC (fun _=>False) w w1 _ _ _ _ _ s.asl.length 1 hV33 hS (by rw [List.length_append,AW];omega) Er).mono ?_
  rintro e w' ⟨ad37,c37,E37,rfl,hV37,hS'⟩
  refine ⟨_,_,rfl,hS',?_⟩
  refine J1 ?_
  refine rF 0 [7] ?_
  refine J3 ?_
  exact eM (_,ad37,c37,E37) ⟨by dsimp only;rw [hset];rfl,hV37⟩):p:=h
theorem As{p:Prop}(h:p:=by
  refine zV (AA rfl rfl AK (cellAt (g:=g13) (v:=.int .i64 x.n) rfl)) rfl ?_
  refine J1 ?_
  refine zK Qw rfl ?_
  intro w1 hS
  refine (Sc w0 w1 g p1 s E01 E11 (EB++(.row g15 [.int .i64 s.c0.st, .int .i64 s.c1.st]::.row g13 x.cells::.row g11 R::.row g10 (rfC s (.slice none 0 0))::ER)) d1 hA1 hS.AX x.n Er (.slice bad bs.length bc)).mono ?_
  rintro e w' ⟨ad2,c2,fs,EF,KF,p2,E02,E12,d2,rfl,hV2,heg,hA2,hS'⟩
  refine ⟨_,EF++(KF++(.row g15 [.int .i64 s.c0.st, .int .i64 s.c1.st]::.row g13 x.cells::.row g11 R::.row g10 (rfC s (.slice none 0 0))::.row g p2.cells::(E02++(E12++d2.L p2.gC s.now ER)))),rfl,hS'.CE EB,?_⟩
  refine J6 ?_
  exact eM ⟨⟨p2,E02,E12,d2,ad2,c2,fs,EF,KF⟩,s,none,0,[],[],R,ER⟩ ⟨hA2,SeI.mono (hI1) Er Er,hV2,by dsimp only;rw [heg];exact Rel.nil,by dsimp only;rw [BS heg];decide,Trf.refl _ _,hR2,fun n hn=>GR.LV hI1.fine (hI1.fine) (Wq.refl s) n hn (hRo n hn)⟩):p:=h
theorem Au{p:Prop}(h:p:=by
  refine WL.RD kp ?_
  refine WRT.one (g:=3) 3 Es ?_
  refine WL.to (L':=.row g5 []::.row g10 x.cells::.row g4 [.int .i64 0, .int .i64 0, .int .i64 0, .int .i64 0, .int .u32 0, .int .i64 0, .int .i64 0, .int .i64 0, .int .i64 0, .int .u32 0, .int .u32 0, .int .i64 0, .int .i64 0, .int .i64 0, .int .i64 0, .int .i64 0, .int .i64 0, .int .i64 0, .slice none 0 0]::.row g3 x.cells::[.row g2 (rfC s (.slice ad es.length c))]) (fun w hS=>hS.AX) ?_
  refine WL.AN rfl rfl rfl Tryz.underlying81 Tryz.underlying81 Jz Ux Hp rfl rfl (Vec.row (s:=5) (k:=0) (c:=0) (g:=g5) (cs:=[]) rfl rfl (Nat.le_refl _)) (new:=GY es) (fun hm=>(hO (by rw [Ls];omega)).elim fun b h=>h.elim fun o h=>⟨b,o,h.1,fun w hS=>Mt (fun h=>h) h.2 w hS⟩) (Ls es) (S7 es) Er (.none rfl) rfl rfl ?_
  intro ad8 c8 E8 hV8 hr8
  refine WL.RD kp ?_
  exact (hcut (ad8,c8,E8,g10) hV8).to Km (fun w hS=>hS.AX)):p:=h
theorem Av{p:Prop}(h:p:=by
  intro w1 hS
  refine (HC (fun _=>False) w w1 _ _ _ _ _ a.aid 4 hV74 hS (by rw [List.length_append,AW];decide) Er).mono ?_
  rintro e w' ⟨ad78,c78,E78,rfl,hV78,hS'⟩
  refine ⟨_,_,rfl,hS',?_⟩
  refine J1 ?_
  refine rF 0 [8] ?_
  refine J12 ?_
  refine eT1 ?_
  exact fun w' h=>⟨_,rfl,IP.of hV78 h (by unfold GU;rw [if_neg (by omega),if_neg (by omega),if_neg (by omega),if_neg (by omega),if_neg (by omega),if_pos (by omega)];rfl)⟩):p:=h
theorem Aw{p:Prop}(h:p:=by
  refine zV (AS rfl rfl rfl (show _=((k+1:Nat):Int) from (AF Er Er).trans Er)) rfl ?_
  refine J2 ?_
  exact WE.to (L':=.row g11 R::.row g10 (rfC s o1)::.row g p1.cells::(E01++(E11++d1.L p1.gC s.now ER))) (fun w hS=>hS.CE [.row g13 x.cells]) (eW ⟨k+1,s,p1,E01,E11,d1,o1,R,ER⟩ Eu ⟨by dsimp only;omega,by dsimp only;omega,hA1,SeI.mono hI1 Eu Eu,hR2,hRo⟩)):p:=h
theorem Ax{p:Prop}(h:p:=by
  have e2:FE xs = .inl (MsL.d (MsL.upd (fOf xs 18) gad gc gs a nad nc ns)):=(by rw [e00];unfold FL;rw [if_neg h42,if_pos h227,e1];rfl)
  exact fun w' h=>by
    unfold Hr
    rw [e2]
    have hM:GD (En++(.row g14 (AG 0 0 ⟨#[]⟩)::.row g13 a.AH::(Ka++Eg))) (MsL.upd (fOf xs 18) gad gc gs a nad nc ns):=⟨⟨[],Vec.nil 2,fun _ h=>by cases h⟩,(fun _ h=>by cases h),⟨Eg,hVg,fun e he=>List.mem_append_right _ (List.mem_cons_of_mem _ (List.mem_cons_of_mem _ (List.mem_append_right _ he)))⟩,⟨En,hVn,fun e he=>List.mem_append_left _ he⟩,hAa.mono fun e he=>List.mem_append_right _ (List.mem_cons_of_mem _ (List.mem_cons_of_mem _ (List.mem_append_left _ he)))⟩
    exact ⟨_,_,rfl,rfl,hM,h.sub (List.Sublist.append_left (.cons_cons _ (.cons_cons _ (List.Sublist.append_left (List.sublist_append_left _ _) _))) _)⟩):p:=h
theorem Ay{p:Prop}(h:p:=by
  refine zV (CJ (fOf all) rfl rfl Tryz.underlying25 Tryz.underlying5 Tryz.underlying9 (fun w' hS' _=>⟨b,oa,rfl,DV (hWa.st hS').at_⟩)) rfl ?_
  refine J6 ?_
  refine eT1 ?_
  have e0:CL a.d all v = .inr (5,strOf all):=(by unfold CL;rw [ht,Int.toNat_natCast,if_neg hfl,if_pos (by omega)])
  exact fun w' h=>⟨a,K,hA,rfl,rfl,rfl, .inr ⟨rfl,rfl⟩,h.sub (.cons _ (.refl _)),fun _ h=>h,by rw [e0];rfl⟩):p:=h
theorem Az{p:Prop}(h:p:=by
  exact ⟨E',r1,fun e he=>List.mem_append_right _ (r2 e he)⟩):p:=h
theorem A0{p:Prop}(h:p:=by
  refine rO 0 [8] ?_
  refine WL.H3 rfl rfl rfl rfl Im rfl Fb (.none rfl) rfl ?_
  refine J4 ?_
  refine WC.BB mixed<|rF 2 [0,2]<|?_
  refine J3 ?_
  refine rA 1 [1] rfl ?_
  refine J2 ?_
  refine rO 0 [3] ?_
  refine J10 ?_
  refine eT2 ?_
  have e0:=hy.trans (Ii h19' hz Er (hbad2 rfl).2)
  refine fun w' h=>⟨ad,mc,ms,Em,K,none,0,[],[],some (C,S,d),e0,rfl,hVm,hK,Vec.nil 1,Bys.nil,?_⟩
  have h1:=(((h.sub (List.sublist_append_right _ _)).sub (.cons _ (.cons _ (.refl _)))).sub (List.Sublist.append_left (.cons_cons _ (.cons _ (List.Sublist.append_left (List.sublist_append_of_sublist_right (List.sublist_append_right _ _)) _))) _))
  rw [PC] at h1
  exact St.front (R:=[_]) (L:=K++L) Em h1):p:=h
theorem A1{p:Prop}(h:p:=by
  refine rO 0 [8] ?_
  refine WL.H3 rfl rfl rfl rfl Im rfl Fb (.none rfl) rfl ?_
  refine J4 ?_
  refine WC.BB mixed<|rF 2 [0,2]<|?_
  refine J3 ?_
  refine rA 1 [1] rfl ?_
  refine J2 ?_
  refine rO 0 [3] ?_
  refine J10 ?_
  refine eT2 ?_
  have e0:=hy.trans (Ii h19' hz Er (hbad2 rfl).2)
  refine fun w' h=>⟨ad,mc,ms,Em,K,none,0,[],[],some (C,S,d),e0,rfl,hVm,hK,Vec.nil 1,Bys.nil,?_⟩
  have h1:=(((h.sub (List.sublist_append_right _ _)).sub (.cons _ (.cons _ (.refl _)))).sub (List.Sublist.append_left (.cons_cons _ (.cons _ (List.Sublist.append_left (List.sublist_append_of_sublist_right (List.sublist_append_right _ _)) _))) _))
  rw [Qa] at h1
  exact St.front (R:=[_]) (L:=K++L) Em h1):p:=h
theorem A2{p:Prop}(h:p:=by
  exact fun w' h=>KZ.bad hc Et h):p:=h
theorem A3{p:Prop}(h:p:=by
  refine zV ((BY rfl rfl rfl).f ((fun h=>h rfl))) rfl ?_
  refine J3 ?_
  refine zS ((BY rfl rfl rfl).f (Er)) rfl ?_
  refine J7 ?_
  exact WE.to (L':=.row g15 [.int .i64 s.c0.st, .int .i64 s.c1.st]::.row g13 x.cells::.row g11 R::.row g10 (rfC s (.slice none 0 0))::.row g p2.cells::(E02++(E12++d2.L p2.gC s.now ER))) (fun w hS=>hS.CE (E9++(OE++(.row g21 (rfC (LN s).1 (.slice oad ([]++(LN s).2.1).length oc))::(EF++KF))))) (eM ⟨⟨p2,E02,E12,d2,none,0,[],[],[]⟩,s,none,0,[],[],R,ER⟩ ⟨hA2,SeI.mono hI1 Er Er,⟨Vec.nil 23,fun e he=>by cases he⟩,Rel.nil,Nat.zero_le _,Trf.refl _ _,hR2,fun n hn=>GR.LV hI1.fine hI1.fine (Wq.refl s) n hn (hRo n hn)⟩)):p:=h
theorem A4{p:Prop}(h:p:=by
  refine rO 0 [8] ?_
  refine WL.H3 rfl rfl rfl rfl Im rfl Fb (.none rfl) rfl ?_
  refine J4 ?_
  refine WC.BB mixed<|rF 2 [0,2]<|?_
  refine J3 ?_
  refine rA 1 [1] rfl ?_
  refine J2 ?_
  refine rO 0 [3] ?_
  refine J10 ?_
  refine eT2 ?_
  have e0:=hy.trans (Ih h19' (hbad rfl).2 (hbad rfl).1)
  refine fun w' h=>⟨ad,mc,ms,Em,K,none,0,[],[],some (C,S,d),e0,rfl,hVm,hK,Vec.nil 1,Bys.nil,?_⟩
  have h1:=h.sub (.cons _ (.cons _ (List.Sublist.append_left (.cons_cons _ (.cons _ (List.Sublist.append_left (List.sublist_append_of_sublist_right (List.sublist_append_right _ _)) _))) _)))
  rw [PC] at h1
  exact St.front (R:=[_]) (L:=K++L) Em h1):p:=h
theorem A5{p:Prop}(h:p:=by
  refine rO 0 [8] ?_
  refine WL.H3 rfl rfl rfl rfl Im rfl Fb (.none rfl) rfl ?_
  refine J4 ?_
  refine WC.BB mixed<|rF 2 [0,2]<|?_
  refine J3 ?_
  refine rA 1 [1] rfl ?_
  refine J2 ?_
  refine rO 0 [3] ?_
  refine J10 ?_
  refine eT2 ?_
  have e0:=hy.trans (Ih h19' (hbad rfl).2 (hbad rfl).1)
  refine fun w' h=>⟨ad,mc,ms,Em,K,none,0,[],[],some (C,S,d),e0,rfl,hVm,hK,Vec.nil 1,Bys.nil,?_⟩
  have h1:=h.sub (.cons _ (.cons _ (List.Sublist.append_left (.cons_cons _ (.cons _ (List.Sublist.append_left (List.sublist_append_of_sublist_right (List.sublist_append_right _ _)) _))) _)))
  rw [Qa] at h1
  exact St.front (R:=[_]) (L:=K++L) Em h1):p:=h
theorem A6{p:Prop}(h:p:=by
  refine zS (Mr rfl rfl rfl Tryz.underlying4) rfl ?_
  refine J3 ?_
  refine zS (AA rfl rfl AK (cellAt (g:=g6) (v:=.int .i64 x.kind) rfl)) rfl ?_
  refine JT (fun h49=>?_) (fun h49=>?_)
  refine J2 ?_
  refine zS (AA rfl rfl AK (cellAt (g:=g6) (v:=.int .i64 x.m.kind) rfl)) rfl<|zS ((BY rfl rfl rfl).t ((htold.1 h49))) rfl<|zS (Mr rfl rfl rfl Tryz.underlying4) rfl<|?_
  refine J5 ?_
  exact eM () trivial
  refine J2 ?_
  refine zS (AA rfl rfl AK (cellAt (g:=g6) (v:=.int .i64 x.m.kind) rfl)) rfl<|zS ((BY rfl rfl rfl).f ((fun h=>h49 (htold.2 h)))) rfl<|zS (Mr rfl rfl rfl Tryz.underlying4) rfl<|?_
  refine J5 ?_
  exact eM () trivial):p:=h
theorem A7{p:Prop}(h:p:=by
  simp only [Builtin.append_,List.getElem?_toArray,List.getElem?_cons_zero,List.getElem?_cons_succ,Sem.run_bind,run_underlying hu,run_underlying hux,Result.andThen_ok,run_sizeOf hs,Sem.run_pure]
  simp only [Bool.false_eq_true,if_false,hlen,Result.andThen_ok,hroom,typeInfo,program,Sem.run,hi,Sem.run_bind,false_or]
  have hby0:¬ (by_=0):=Er
  simp only [hby0,and_false,if_false,Result.andThen_ok,Sem.run_pure,hcap,hcut,hask,hold _ hd,hfc _ hd,FC hz,hzc,Bool.not_false,if_true,Sem.run_bind,newRow,newObj,Sem.run,hi,hib]
  have ee:xs.toArray++new.toArray++Builtin.zeroCells zs.toArray (nc-(k+m))=(xs++new++rs).toArray:=by simp [rs]
  rw [ee]
  rfl):p:=h
theorem A8{p:Prop}(h:p:=by
  refine J2 ?_
  exact WE.next (i+4,cs++[AJ [x0,x1,x2,x3]],ad312,c312,E312) Eu ⟨by dsimp only;omega,by dsimp only;omega,by dsimp only;rw [List.append_assoc,hzs];exact hy,hV312,by dsimp only;rw [List.length_append];show _+1≤_;omega⟩ Km (List.Sublist.append_left (.cons _ (.refl _)) _)):p:=h
theorem A9{p:Prop}(h:p:=by
  refine eT1 ?_
  exact fR):p:=h
theorem Ba{p:Prop}(h:p:=by
  refine J6 ?_
  refine JT (fun h7=>?_) (fun h7=>?_)
  refine J2 ?_
  refine JT (fun h10=>?_) (fun h10=>?_)
  refine J3 ?_
  refine JT (fun h14=>?_) (fun h14=>?_)
  refine J5 ?_
  refine eT1 ?_
  exact fun w' h=>⟨by unfold Kq;rw [decide_eq_true Er],h.frm⟩
  refine J5 ?_
  refine eT1 ?_
  exact fun w' h=>⟨by unfold Kq;rw [decide_eq_false Er],h.frm⟩
  refine J9 ?_
  refine eT1 ?_
  exact fun w' h=>⟨by unfold Kq;rw [decide_eq_false Er],h.frm⟩
  refine J12 ?_
  refine eT1 ?_
  exact fun w' h=>⟨by unfold Kq;rw [decide_eq_false Er],h.frm⟩):p:=h
theorem Bb{p:Prop}(h:p:=by
  refine J2 ?_
  refine WL.box rfl rfl rfl (.none rfl) rfl rfl ?_
  intro g2 hg2
  refine WL.alloc rfl EC (.none rfl) rfl rfl ?_
  intro g4 hg4
  refine J6 ?_
  refine JT (fun h6=>?_) (fun h6=>?_)
  refine J15 ?_
  refine eT1 ?_
  exact fun w' h=>⟨ad,c,[],by rw [List.append_nil],by rw [List.append_nil];exact .refl _ _,h.sub (List.nil_sublist _)⟩
  refine J2 ?_
  refine zS ((HY rfl rfl rfl).t (Er)) rfl ?_
  refine J12 ?_
  refine eT1 ?_
  exact fun w' h=>⟨ad,c,[],by rw [List.append_nil],by rw [List.append_nil];exact .refl _ _,h.sub (List.nil_sublist _)⟩):p:=h
theorem Bc{p:Prop}(h:p:=by
  exact eW ⟨k+toN (xs.drop k),d,fOf al 1::seen,a,esU,cU,_,E,K⟩ Eu ⟨by dsimp only;omega,by dsimp only;rw [hdec,Rt Er hnsx (show DP d _ _ = .inl d by rw [← hal, ← hvl,Mw hun];unfold DY;rw [if_neg Er,if_neg Er]),List.drop_drop, ← ef1],hseen.step hWa.bys h106 (show DP d al vl = .inl d by rw [Mw hun];unfold DY;rw [if_neg Er,if_neg Er]),hsame,hown,hoths,hvals,hMU,fun h=>hcom (fun h2=>h (List.mem_cons_of_mem _ h2)),by dsimp only;omega,No hknown⟩):p:=h
theorem Bd{p:Prop}(h:p:=by
  exact fun w' h=>⟨a,K,hA,rfl,rfl,rfl, .inr ⟨rfl,rfl⟩,h.sub (.cons _ (.refl _)),fun _ h=>h,by rw [e0];rfl⟩):p:=h
theorem Be{p:Prop}(h:p:=by
  rw [e2]
  exact fun w' h=>⟨ad4,c4,fs,EF,KF,p4,E04,E14,d4,rfl,hV4,rfl,hA4,by dsimp only;rw [hnt];exact h.CE (.row g8 (AG (AR f).1 (AR f).2.1 (AR f).2.2)::(Em++K)) ⟩):p:=h
theorem Bf{p:Prop}(h:p:=by
  refine zV (HH (lo:=18) (hi:=19) rfl rfl rfl rfl Tryz.underlying25 AO rfl rfl Er Er Er) rfl ?_
  refine zk G7 rfl (fun w hS=>CD w 1 3 (some ⟨b,o+18*1,none⟩) 1 (c-18) (fun i=>f (18+i)) (fun _=>⟨b,o+18,by rw [show o+18*1=o+18 by omega],(hS.IW (fun h=>h) hr).sub 18 1 Er⟩)) ?_
  refine J6 ?_
  refine eT2 ?_
  exact fun w' h=>⟨by rw [e0,if_neg (show ¬ (CC f<19∨4096<CC f) from fun q=>q.elim h36 h39),if_pos (Hf.2 Er)];rfl,h.frm⟩):p:=h
theorem Bg{p:Prop}(h:p:=by
  have e1:s.up 0=s:=if_pos hc
  exact fun w' h=>⟨_,1,[efZ 3 0],_,[],p,E0,E1,d,rfl,Jo 3 0,by unfold upE;rw [if_pos hc];rfl,by rw [e1];exact hA,by rw [e1];exact h⟩):p:=h
theorem Bh{p:Prop}(h:p:=by
  exact fun w' h=>K7.no e0 h):p:=h
theorem Bi{p:Prop}(h:p:=by
  exact fun w' h=>⟨ad3,c3,E3,by rw [show s.up n=s from if_pos hu,show upR s n=[⟨3,n,0,0,0⟩] from if_pos hu],by rw [show upR s n=[⟨3,n,0,0,0⟩] from if_pos hu];exact hT3,h.sub (List.sublist_append_left _ _)⟩):p:=h
theorem Bj{p:Prop}(h:p:=by
  refine J19 ?_
  refine zB Tryz.underlying46 DI BT rfl rfl ?_
  intro g38 hg38
  refine WL.as (L':=.row g38 (efZ 3 1).cells::.row g p.cells::(E0++(E1++d.L p.gC s.now L))) rfl ?_
  refine J5 ?_
  refine eT1 ?_
  have hc:K1 s 1:=(.inl (hb0.symm.trans h19))
  have e1:s.up 1=s:=if_pos hc
  exact fun w' h=>⟨_,1,[efZ 3 1],_,[],p,E0,E1,d,rfl,Jo 3 1,by unfold upE;rw [if_pos hc];rfl,by rw [e1];exact hA,by rw [e1];exact h⟩):p:=h
theorem Bk{p:Prop}(h:p:=by
  refine zS (AT (lo:=n) rfl rfl rfl Tryz.underlying104 DD Er Er) rfl ?_
  refine J1 ?_
  refine zS (AA rfl rfl AK (AL (fun h=>h) (hR.cell hst))) rfl ?_
  refine JT (fun h23=>?_) (fun h23=>?_)
  refine J5 ?_
  refine eT1 ?_
  exact fun w' h=>⟨by rw [decide_eq_true h23],h.frm⟩
  refine J5 ?_
  refine eT1 ?_
  exact fun w' h=>⟨by rw [decide_eq_false h23],h.frm⟩):p:=h
theorem Bl{p:Prop}(h:p:=by
  refine J8 ?_
  refine JT (fun h4=>?_) (fun h4=>?_)
  refine J2 ?_
  refine JT (fun h7=>?_) (fun h7=>?_)
  refine J5 ?_
  refine eT1 ?_
  exact fun w' h=>⟨by rw [decide_eq_true Er],h.frm⟩
  refine J5 ?_
  refine eT1 ?_
  exact fun w' h=>⟨by rw [decide_eq_false Er],h.frm⟩
  refine J8 ?_
  refine eT1 ?_
  exact fun w' h=>⟨by rw [decide_eq_false Er],h.frm⟩):p:=h
theorem Bm{p:Prop}(h:p:=by
  refine eT1 ?_
  exact fun w' h=>⟨true,rfl,h.frm,fun e=>by cases e⟩):p:=h
theorem Bn{p:Prop}(h:p:=by
  refine fun w' h=>⟨h2,_,rfl,hlen,hI.perm,hI.rest,fun hb=>hf.1 (by simpa using hb),fun hb=>hf.2 (by simpa using hb),h⟩):p:=h
theorem Bo{p:Prop}(h:p:=by
  rintro e w' ⟨_,rfl,ad,c,E,rfl,hV,hS'⟩
  refine ⟨_,_,rfl,hS.join hS',?_⟩
  refine J7 ?_
  exact eM (_,ad,c,E) ⟨hq,hV⟩ (.cons rfl (.eq rfl (by rw [hc]) (.cons rfl .nil)))):p:=h
theorem Bp{p:Prop}(h:p:=by
  refine J8 ?_
  exact eW (k+1) Er Er (.int rfl Er (.cons rfl (.cons rfl (.cons rfl .nil))))):p:=h
theorem Bq{p:Prop}(h:p:=by
  refine J4 ?_
  refine WC.BB mixed<|rF 3 [0]<|?_
  refine J2 ?_
  refine WR.each (g:=2) [1,2] Es Et ?_
  refine ⟨?_,?_⟩
  refine J2 ?_
  refine rO 0 [2,3] ?_
  refine J7 ?_
  refine eT2 ?_
  exact fR
  refine J2 ?_
  refine rA 1 [1] rfl ?_
  refine J2 ?_
  refine rO 0 [3] ?_
  refine J6 ?_
  refine eT2 ?_
  exact fR):p:=h
theorem Br{p:Prop}(h:p:=by
  rintro e w' ⟨ad14,c14,fs,EF,KF,rfl,hV14,hes,hS'⟩
  refine ⟨_,_,rfl,hS.join hS',?_⟩
  refine J2 ?_
  refine WE.mid ⟨ad14,c14,fs,EF,KF⟩ ⟨hV14,by dsimp only;rw [if_neg h10];exact hes⟩ Km ?_
  dsimp only
  rw [List.append_assoc]
  exact List.Sublist.append_left (List.Sublist.append_left (.cons _ (.refl _)) _) _):p:=h
theorem Bs{p:Prop}(h:p:=by
  exact fun w' h=>⟨none,0,[],[],[],p,E0,E1,d,rfl,⟨Vec.nil 23,fun e he=>by cases he⟩,by rw [e1];rfl,by rw [e1];exact hA,by rw [e1];exact h⟩):p:=h
theorem Bt{p:Prop}(h:p:=by
  refine ⟨rfl,?_⟩
  show AtD.mk _ _ _ _ _ _ _ _ _ (List.map LP (a.others++[⟨fOf all 1,ad36,c36,v⟩]))=_
  rw [List.map_append]
  rfl):p:=h
theorem Bu{p:Prop}(h:p:=by
  exact fun w' h=>⟨ad2,c2,gs,EG,KG,p2,E02,E12,d2,rfl,hV2,heg,hA2,h⟩):p:=h
theorem Bv{p:Prop}(h:p:=by
  refine eT1 ?_
  have e0:DY a.d all v = .inl a.d:=(by unfold DY;rw [if_neg (by omega),if_neg (by omega)])
  exact fun w' h=>⟨a.oad,a.oc,a.others,E,[],hV,Nat.le_succ _,fun KO h=>h,h.sub (.cons _ (.refl _)),by rw [e0];exact ⟨rfl,rfl⟩⟩):p:=h
theorem Bw{p:Prop}(h:p:=by
  refine J18 ?_
  refine eT2 ?_
  have e0:ED AtL.zero.d [] xs = .inr (1,⟨#[]⟩):=(by rw [hy];exact HU (by omega) ((hok0 rfl).elim .inl fun h=>.inr (.inl h)))
  exact fun w' h=>by unfold PG;rw [e0];exact ⟨rfl,h.frm⟩):p:=h
theorem Bx{p:Prop}(h:p:=by
  rintro e w' ⟨ad2,c2,gs,EG,KG,p2,E02,E12,d2,rfl,hV2,heg,hA2,hS'⟩
  refine ⟨_,_,rfl,hS',?_⟩
  refine J4 ?_
  refine eT1 ?_
  exact fun w' h=>⟨ad2,c2,gs,EG,KG,p2,E02,E12,d2,rfl,hV2,heg,hA2,h.CE [.row g3 (AG C S f)] ⟩):p:=h
theorem By{p:Prop}(h:p:=by
  refine J16 ?_
  refine eT1 ?_
  obtain rfl:k=ys.length:=Er
  exact fun w' h=>⟨by rw [List.take_length],h.frm⟩):p:=h
theorem Bz{p:Prop}(h:p:=by
  exact fun w' h=>by unfold PG;rw [e0];exact ⟨rfl,h.frm⟩):p:=h
theorem B0{p:Prop}(h:p:=by
  refine J6 ?_
  refine WE.Hi rfl ?_
  refine J2 ?_
  exact WE.mid ⟨ys,some ⟨b',o',none⟩,c,ms,ad,mc,Em,K⟩ ⟨by dsimp only;omega,hVy,by rw [hy];exact HB h19' hz Er,hVm,hK⟩ Km (.cons _ (.refl _))):p:=h
theorem B1{p:Prop}(h:p:=by
  refine eT1 ?_
  exact fun w' h=>⟨none,0,[],[],[],p,E0,E1,d,rfl,⟨Vec.nil 23,fun e he=>by cases he⟩,rfl,hA,h⟩):p:=h
theorem B2{p:Prop}(h:p:=by
  refine JT (fun h77=>?_) (fun h77=>?_)
  refine J4 ?_
  refine JT (fun h82=>?_) (fun h82=>?_)
  refine J3 ?_
  exact absurd Fc hb
  refine J3 ?_
  exact eM () trivial
  refine J8 ?_
  exact eM () trivial):p:=h
theorem B3{p:Prop}(h:p:=by
  rw [if_pos hwd] at h'
  exact (h'.imp wpRQ (fun h=>⟨h.1,RQ.out h.2⟩)).imp (Oper.wp_mono fun a' w' h=>h) id):p:=h
theorem B4{p:Prop}(h:p:=by
  rw [e2]
  exact fun w' h=>⟨ad4,c4,fs,EF,KF,p4,E04,E14,d4,rfl,hV4,rfl,hA4,by dsimp only;rw [hnt];exact h.CE (.row g11 x.cells::.row g8 (AG (AR f).1 (AR f).2.1 (AR f).2.2)::(Em++K)) ⟩):p:=h
theorem B5{p:Prop}(h:p:=by
  refine zk G7 rfl (fun w hS=>CD w 6 1 none 0 0 (fun _=>0) (RdO.nil w _)) ?_
  refine J7 ?_
  refine eT2 ?_
  rw [if_pos Er] at e1
  exact fun w' h=>Hr.no (hnu _ (by rw [e1];try rfl)) h):p:=h
theorem B6{p:Prop}(h:p:=by
  refine zV (AS rfl rfl rfl (show _=((k+1:Nat):Int) from (AF Er Er).trans Er)) rfl ?_
  refine J2 ?_
  exact WE.next (k+1) Er Er Km (List.nil_sublist _)):p:=h
theorem B7{p:Prop}(h:p:=by
  refine eT2 ?_
  have eu:HM ys = .inr (3,s4,d4):=(by unfold HM;rw [ec1];dsimp only;rw [ec2];dsimp only;rw [hok3 rfl];dsimp only;rw [hbad4 rfl])
  exact fun w' h=>Hr.no (hnu _ eu) h):p:=h
theorem B8{p:Prop}(h:p:=by
  obtain ⟨b,o,e,hr⟩:=hV.src (L:=.row g27 _::.row g5 _::.row gr _::(E++L)) (fun e he=>.tail _ (.tail _ (.tail _ (List.mem_append_left _ he)))) h0
  exact ⟨b,o,e,hr _ _ _ hS⟩):p:=h
theorem B9{p:Prop}(h:p:=by
  refine J4 ?_
  exact WE.mid ⟨none,0,[],[],[]⟩ ⟨⟨Vec.nil 23,fun e he=>by cases he⟩,by dsimp only;rw [if_pos (Decidable.of_not_not h10)];rfl⟩ Km (.cons _ (.refl _))):p:=h
theorem Ca{p:Prop}(h:p:=by
  exact eM () trivial):p:=h
theorem Cb{p:Prop}(h:p:=by
  exact eM () (by show ¬ Nr al vl;unfold Nr;rw [htn];omega)):p:=h
theorem Cc{p:Prop}(h:p:=by
  exact ⟨E',r1,fun e he=>List.mem_append_right _ (List.mem_append_left _ (r2 e he))⟩):p:=h
theorem Cd{p:Prop}(h:p:=by
  refine WE.ret4 (P:=Tryz.prog) (.inl rfl) Tryz.results126 rfl rfl rfl rfl ?_
  exact fR):p:=h
theorem Ce{p:Prop}(h:p:=by
  rw [e0]
  exact fun w' h=>⟨none,0,[],[],[],p,E0,E1,d2,rfl,⟨Vec.nil 23,fun e he=>by cases he⟩,rfl,hA2,by rw [Gw];exact h.CE [.row g5 m.cells] ⟩):p:=h
theorem Cf{p:Prop}(h:p:=by
  have ho:RM a=[]:=(by unfold RM;rw [he];rfl)
  rw [he,ho]
  exact fun w' h=>⟨_,rfl,IP.of (E:=[]) (xs:=[]) (Vec.nil 1) (h.sub (List.nil_sublist _)) rfl⟩):p:=h
theorem Cg{p:Prop}(h:p:=by
  exact WE.next ⟨k+1,ad3,c3,es3,E3⟩ Eu ⟨by dsimp only;omega,by dsimp only;rw [e6,he3],hT3⟩ Km (by dsimp only;rw [e5];exact .refl _)):p:=h
theorem Ch{p:Prop}(h:p:=by
  exact fun w' h=>⟨false,3,1,_,none,0,[], .zero,none,0,[],[],rfl,h.sub (.cons _ (.refl _)),GD.zero k,fun _=>⟨by decide,e0⟩,fun e=>by cases e⟩):p:=h
theorem Ci{p:Prop}(h:p:=by
  exact fun w' h=>⟨true,0,0,_,gad,gc,gs,a,nad,nc,ns,_,rfl,hfin _ (h.sub (.cons _ (.refl _))),hAll,fun e=>F4,fun _=>⟨rfl,rfl,rfl,e1⟩⟩):p:=h
theorem Cj{p:Prop}(h:p:=by
  exact fun w' h=>⟨false,6,1,_,gad,gc,gs,a,nad,nc,ns,_,rfl,hfin _ (h.sub (.cons _ (.refl _))),hAll,fun _=>⟨by decide,e1⟩,fun e=>by cases e⟩):p:=h
theorem Cl{p:Prop}(h:p:=by
  rw [hp] at h
  obtain ⟨a,K,he,ha,hA,hS⟩:=h
  exact ⟨true,0,⟨#[]⟩,a,K,he,hA,hS,(fun e=>by cases e),fun _=>⟨rfl,rfl,dd,rfl,ha⟩⟩):p:=h
theorem Cm{p:Prop}(h:p:=by
  refine eT1 ?_
  exact fun w' h=>⟨by rw [KE hs (by unfold Ji;rw [KE hx (decide_eq_false (by omega)),Bool.and_false])],h.frm⟩):p:=h
theorem Cn{p:Prop}(h:p:=by
  exact fun w' h=>⟨false,6,_,none,0,[],[],[],rfl,h.sub (.cons _ (.refl _)),Vec.nil 2,(fun _ h=>by cases h),fun _=>e0,fun e=>by cases e⟩):p:=h
theorem Co{p:Prop}(h:p:=by
  exact fun w' h=>⟨a',K',hA',hq1,hq2,hq3,hq4',h.sub (.cons_cons _ (List.Sublist.append_left (.cons _ (.refl _)) _)),hKK,by rw [e1];rfl⟩):p:=h
theorem Cp{p:Prop}(h:p:=by
  exact fun w' h=>⟨d',rfl,by rw [e0];exact hA',h⟩):p:=h
theorem Cq{p:Prop}(h:p:=by
  exact fun w' h=>⟨none,0,[],[],[],p,E0,E1,d,rfl,⟨Vec.nil 23,fun e he=>by cases he⟩,e2,by rw [e1];exact hA,by rw [e1];exact h⟩):p:=h
theorem Cr{p:Prop}(h:p:=by
  exact fun w' h=>⟨d,rfl,by rw [e0];exact hA,h⟩):p:=h
theorem Cs{p:Prop}(h:p:=by
  refine J4 ?_
  refine eT1 ?_
  exact fun w' h=>⟨ad12,c12,E12,rfl,hV12,h.sub (List.Sublist.append_left (.cons _ (.refl _)) _)⟩):p:=h
theorem Ct{p:Prop}(h:p:=by
  refine eT1 ?_
  exact fun w' h=>⟨by rw [KE hs (by unfold Ji;rw [decide_eq_false (by omega),Bool.false_and])],h.frm⟩):p:=h
theorem Cu{p:Prop}(h:p:=by
  refine J7 ?_
  exact eM ⟨ys,aa,c,ms,ad,mc,Em,K⟩ ⟨by dsimp only;omega,hVy,by rw [hy];exact Gy Er,hVm,hK⟩):p:=h
theorem Cv{p:Prop}(h:p:=by
  refine J6 ?_
  exact eM (p.Hb 1,d2) (by dsimp only;rw [KN (fun hh=>h37 (by rw [← hb0] at hh;exact hh.1))];exact hA2)):p:=h
theorem Cw{p:Prop}(h:p:=by
  refine J6 ?_
  exact eM (p.Hb 0,d2) (by dsimp only;rw [KN (fun hh=>h37 (by rw [← hb0] at hh;exact hh.1))];exact hA2)):p:=h
theorem Cx{p:Prop}(h:p:=by
  exact fun w' h=>⟨none,0,[],[],[],p,E0,E1,d,rfl,⟨Vec.nil 23,fun e he=>by cases he⟩,rfl,hA,h.CE [.row g3 m.cells]⟩):p:=h
theorem Cy{p:Prop}(h:p:=by
  rw [hp] at h
  obtain ⟨ad,c',E,he,hV,hS⟩:=h
  exact ⟨ps,ad,c',E,true,he,hV,hS,(fun e=>by cases e),fun _=>rfl⟩):p:=h
theorem Cz{p:Prop}(h:p:=by
  exact eM (⟨p,E0,E1,d,none,0,[],[],[]⟩,s) ⟨hA,rfl,⟨Vec.nil 23,fun e he=>by cases he⟩,Nat.zero_le _,e0⟩):p:=h
theorem C0{p:Prop}(h:p:=by
  rw [hp] at h
  exact ⟨[],none,0,[],false,h.1,Vec.nil 2,(St.start _ _).ext h.2,fun _=>rfl,fun e=>by cases e⟩):p:=h
theorem C1{p:Prop}(h:p:=by
  have:¬ ((0≤(4:Int)∧(v.length:Int)≠4)∨_):=hsz
  omega):p:=h
theorem C3{p:Prop}(h:p:=by
  refine J15 ?_
  refine eT1 ?_
  exact fun w' h=>⟨by rw [Q1 fun j x hj hx=>hall j x Er hx],h.frm⟩):p:=h
theorem C4{p:Prop}(h:p:=by
  rw [List.drop_length,List.flatMap_nil,List.append_nil] at hy
  exact fun w' h=>⟨_,rfl,IP.of hV h hy⟩):p:=h
theorem C5{p:Prop}(h:p:=by
  refine eT2 ?_
  have e0:DN xs=none:=(by rw [hy,Yj (by omega) (by omega)];rfl)
  rw [e0]
  exact fR):p:=h
theorem C6{p:Prop}(h:p:=by
  exact eM () Er):p:=h
theorem C7{p:Prop}(h:p:=by
  exact ⟨a,cap,xs,rfl,by omega,hr,hg⟩):p:=h
theorem C8{p:Prop}(h:p:=by
  exact h.CE (EJ++[.row g5 m.cells]) ):p:=h
theorem C9{p:Prop}(h:p:=by
  refine (h w hS).mono ?_
  rintro e w' ⟨v,L',rfl,hS',hK⟩
  exact hK _ _ (ha.H4 hd hn v) hS'):p:=h
theorem Da{p:Prop}(h:p:=by
  exact fun w' h=>L2.no e0 h):p:=h
theorem Db{p:Prop}(h:p:=by
  rw [List.append_nil] at hm
  exact ⟨hm.trans (congrArg some (lv_of hk).symm),Aau hJ hk⟩):p:=h
theorem Dc{p:Prop}(h:p:=by
  refine eT2 ?_
  have e0:DS xs=none:=(by rw [hy,if_pos (by omega)];rfl)
  rw [e0]
  exact fR):p:=h
theorem Dd{p:Prop}(h:p:=by
  refine eT1 ?_
  exact fun w' h=>⟨by unfold hasB;rw [decide_eq_false Er],h.frm⟩):p:=h
theorem De{p:Prop}(h:p:=by
  refine eT1 ?_
  exact fun w' h=>⟨by unfold wiB;rw [decide_eq_false Er],h.frm⟩):p:=h
theorem Df{p:Prop}(h:p:=by
  rw [hi,hsp xs,hsp ys,hq]
  exact ⟨fun h=>by rw [h],fun h=>List.append_cancel_left h⟩):p:=h
theorem Dg{p:Prop}(h:p:=by
  refine eT2 ?_
  exact fun w' h=>by unfold UA;rw [e00,(hF rfl).2];exact ⟨rfl,h.frm⟩):p:=h
theorem Dh{p:Prop}(h:p:=by
  obtain rfl:=List.mem_singleton.1 he
  exact ⟨⟨[],Vec.nil 1,fun _ h=>by cases h⟩⟩):p:=h
theorem Di{p:Prop}(h:p:=by
  exact eM () ⟨by omega,h97,by have hb0:0≤GH ys:=(by unfold GH;omega);omega⟩):p:=h
theorem Dj{p:Prop}(h:p:=by
  refine eT2 ?_
  exact fun w' h=>⟨by unfold BX;rw [if_pos Er];rfl,h.frm⟩):p:=h

def lenOf:Value→Nat | .slice _ n _=>n|_=>0
def Rd (w:World) (b off n:Nat) (f:Nat→Int):Prop :=
  ∀ i,i<n→w.cell? ⟨b,off+i,none⟩=some (.int .u8 (f i))
def Byt (f:Nat→Int):Prop:=∀ i,0≤f i∧f i≤255

theorem Rd.sub {w:World}{b off n:Nat}{f:Nat→Int}(h:Rd w b off n f) (k m:Nat) (hk:k+m≤n):Rd w b (off+k) m (fun i=>f (k+i)):=fun i hi=>by
  have:=h (k+i) Er
  rw [Nat.add_assoc];exact this
structure Frm (p:Nat→Prop) (w w':World):Prop where
  os:w'.os=w.os
  tape:w'.tape=w.tape
  output:w'.output=w.output
  size:w.heap.size≤w'.heap.size
  block:∀ k,k<w.heap.size→¬ p k→w'.heap[k]?=w.heap[k]?
  drawn:w.drawn≤w'.drawn
theorem Frm.refl (p:Nat→Prop) (w:World):Frm p w w:=⟨rfl,rfl,rfl,Nat.le_refl _,fun _ _ _=>rfl,Nat.le_refl _⟩
theorem Frm.drew {p:Nat→Prop}{w w':World}(h:Frm p w w'):Frm p w w'.drew:=⟨h.os,h.tape,h.output,h.size,h.block,Nat.le_trans h.drawn (Nat.le_add_right ..)⟩
theorem Frm.trans {p:Nat→Prop}{a b c:World}(h:Frm p a b) (k:Frm p b c):Frm p a c :=
  ⟨k.os.trans h.os,k.tape.trans h.tape,k.output.trans h.output,Nat.le_trans h.size k.size,fun i hi hn=>(k.block i (Nat.lt_of_lt_of_le hi h.size) hn).trans (h.block i hi hn),Nat.le_trans h.drawn k.drawn⟩
theorem Frm.mono {p q:Nat→Prop}{a b:World}(h:Frm p a b) (hq:∀ k,p k→q k):Frm q a b:=⟨h.os,h.tape,h.output,h.size,fun k hk hn=>h.block k hk (fun hp=>hn (hq k hp)),h.drawn⟩
theorem Frm.setCell {p:Nat→Prop}{w w':World}{a:Addr}{u:Value}(ha:p a.block) (h:Frm p w w'):Frm p w (w'.setCell a u) :=
  h.trans ⟨rfl,rfl,rfl,by simp [World.setCell],fun k _ hn=>Below.heap_setCell _ _ _ _ (fun e=>hn (by rw [e];exact ha)),Nat.le_refl _⟩
theorem Frm.set1 {g i:Nat}{w w':World}{u:Value}(h:Frm (fun k=>k=g) w w'):Frm (fun k=>k=g) w (w'.setCell ⟨g,i,none⟩ u):=Frm.setCell (p:=fun k=>k=g) rfl h
theorem Frm.alloc {p:Nat→Prop}{w w':World}{o:Obj}(h:Frm p w w'):Frm p w (w'.alloc o) :=
  h.trans ⟨rfl,rfl,rfl,by simp,fun k hk _=>Below.heap_alloc _ _ _ Er,Nat.le_refl _⟩
theorem Frm.own {p q:Nat→Prop}{w w1 w2:World}(h:Frm q w w1) (h2:Frm p w1 w2) (hp:∀ k,p k→w.heap.size≤k):Frm q w w2 :=
  ⟨h2.os.trans h.os,h2.tape.trans h.tape,h2.output.trans h.output,Nat.le_trans h.size h2.size,fun k hk hn =>
    (h2.block k (Nat.lt_of_lt_of_le hk h.size) (fun hpk=>by have:=hp k hpk;omega)).trans (h.block k hk hn),Nat.le_trans h.drawn h2.drawn⟩
theorem Frm.below {p:Nat→Prop}{w w':World}{B:Nat}(h:Frm p w w') (hB:B≤w.heap.size) (hp:∀ k,p k→B≤k):Below B w w' :=
  ⟨h.os,h.tape,h.output,h.size,fun k hk=>h.block k Er (fun hk'=>by have:=hp k hk';omega)⟩
def Blk (w:World) (g:Nat) (cs:Array Value) (T:TypeId):Prop:=w.heap[g]?=some (.cells cs T (0,0))
def fc (s:Int):Int:=if s=0 then 0 else (s-1) % 65535+1
def two (f:Nat→Int) (i:Nat):Int:=f i*256+f (i+1)
def four (f:Nat→Int) (i:Nat):Int:=two f i*65536+two f (i+2)
def pairs (f:Nat→Int):Nat→Int|0=>0|k+1=>pairs f k+two f (2*k)
def total (f:Nat→Int) (n:Nat):Int:=pairs f (n / 2)+if n % 2=1 then f (n-1)*256 else 0
end Go.Proofs.YtcmpamnhegndnaaGreatDoor
namespace Go.Proofs.YtcmpamnhegndnaaGreatDoor
open Go

section
variable {P:Program}{ops:Array Oper}{md:Region.Mode}{C:World→Prop}

def headQ (P:Program) (md:Region.Mode) (ops:Array Oper) (C:World→Prop) (n:Nat) (L:Array Bool→Act→Prop):Nat→Array Bool→Act→Prop
  | 0,listed,a=>L listed a
  | f+1,listed,a =>
    Region.ready md ops listed≠[]∧∀ i∈Region.ready md ops listed,i<n∧qOp P ops C i (headQ P md ops C n L f (listed.setIfInBounds i true)) a

end
end Go.Proofs.YtcmpamnhegndnaaGreatDoor
namespace Go.Proofs.YtcmpamnhegndnaaGreatDoor
open Go.RowKit

/-! ## The frame -/
abbrev Kn:=List (Nat×Value)
def look:Kn→Nat→Option Value
  | [],_=>none
  | (s,v)::l,t=>cond (Nat.beq s t) (some v) (look l t)

structure Has (n:Nat) (a:Act) (l:Kn):Prop where
  size:a.tmps.size=n
  defers:a.defers=[]
  got:∀ t v,look l t=some v→a.tmps.getD t undef=v

def ev (l:Kn):Operand→Option Value
  | .tmp t=>look l t
  | .const v=>some v
  | .global g=>some (.pointer (some ⟨g,0,none⟩))
  | .func f=>some (.func (.func f) #[] #[])

theorem Has.ev {n:Nat}{a:Act}{l:Kn}(h:Has n a l){x:Operand}{v:Value}(hx:ev l x=some v):a.eval x=v:=by
  cases x with
  | tmp t=>exact h.got t v hx
  | const u=>simpa [YtcmpamnhegndnaaGreatDoor.ev,Act.eval] using hx
  | global g=>simpa [YtcmpamnhegndnaaGreatDoor.ev,Act.eval] using hx
  | func f=>simpa [YtcmpamnhegndnaaGreatDoor.ev,Act.eval] using hx

theorem Has.put {n d:Nat}{a:Act}{l:Kn}(h:Has n a l) (hd:Nat.blt d n=true) (v:Value):Has n (a.put (some d) v) ((d,v)::l):=by
  have hd':d<n:=by simpa using hd
  refine ⟨by simp [Act.put,h.size],h.defers,?_⟩
  intro t u hu
  unfold look at hu
  by_cases e:d=t
  · subst e
    simp at hu
    subst hu
    simp [Act.put,h.size,hd']
  · have hb:Nat.beq d t=false:=by
      cases hb:Nat.beq d t with
      | false=>rfl
      | true=>exact absurd (Nat.eq_of_beq_eq_true hb) e
    rw [hb] at hu
    have:=h.got t u hu
    simp only [Act.put]
    rw [← this]
    simp only [Array.getD_eq_getD_getElem?,Array.getElem?_setIfInBounds,if_neg e]

theorem Has.H4 {n:Nat}{a:Act}{l:Kn}{dst:Option Nat}{d:Nat}(h:Has n a l) (hdst:dst=some d) (hd:Nat.blt d n=true) (v:Value):Has n (a.put dst v) ((d,v)::l):=by
  subst hdst;exact h.put hd v

def Sub (l l':Kn):Prop:=∀ t v,look l' t=some v→look l t=some v
theorem Sub.nil {l:Kn}:Sub l []:=fun _ _ h=>by simp [look] at h
theorem Sub.cons {l l':Kn}{t:Nat}{v:Value}(h:look l t=some v) (hs:Sub l l'):Sub l ((t,v)::l'):=fun s u hu=>by
  unfold look at hu
  cases hb:Nat.beq t s
  · rw [hb] at hu;exact hs s u hu
  · rw [hb] at hu
    have:t=s:=by simpa using hb
    subst this
    simpa using h.trans (by simpa using hu)
theorem Sub.int {l l':Kn}{t:Nat}{k:IntKind}{x y:Int}(h:look l t=some (.int k x)) (e:x=y) (hs:Sub l l'):Sub l ((t, .int k y)::l'):=Sub.cons (e ▸ h) hs
theorem Sub.eq {l l':Kn}{t:Nat}{u v:Value}(h:look l t=some u) (e:u=v) (hs:Sub l l'):Sub l ((t,v)::l'):=Sub.cons (e ▸ h) hs
theorem Has.sub {n:Nat}{a:Act}{l l':Kn}(h:Has n a l) (hs:Sub l l'):Has n a l':=⟨h.size,h.defers,fun t v hv=>h.got t v (hs t v hv)⟩

/-! ## Memory -/
inductive Ent where
  | row (g:Nat) (cs:List Value)
  | obj (g:Nat) (o:Obj)
def Ent.at:Ent→Nat | .row g _=>g | .obj g _=>g
def Row (w:World) (g:Nat) (cs:List Value):Prop:=∃ T lo hi,w.heap[g]?=some (.cells cs.toArray T (lo,hi))∧∀ i,i<cs.length→¬ (lo≤i∧i<hi)
def Obj.Vo:Obj→Prop | .cells .. => False|_=>True
def Ent.holds (w:World):Ent→Prop
  | .row g cs=>Row w g cs
  | .obj g o=>w.heap[g]?=some o∧Obj.Vo o

theorem Row.lt {w:World}{g:Nat}{cs:List Value}(h:Row w g cs):g<w.heap.size:=by
  obtain ⟨T,lo,hi,h,_⟩:=h
  exact (Array.getElem?_eq_some_iff.1 h).1
theorem Row.cell {w:World}{g i:Nat}{cs:List Value}{v:Value}(h:Row w g cs) (hv:cs[i]?=some v):w.cell? ⟨g,i,none⟩=some v:=by
  obtain ⟨T,lo,hi,h,_⟩:=h
  simp [World.cell?,h,hv]
theorem Row.frozen {w:World}{g i:Nat}{cs:List Value}(h:Row w g cs) (hi':i<cs.length):w.frozen? ⟨g,i,none⟩=false:=by
  obtain ⟨T,lo,hi,h,hf⟩:=h
  have:=hf i hi'
  simp only [World.frozen?,h]
  simp;omega
theorem Ent.lt {w:World}{e:Ent}(h:e.holds w):e.at<w.heap.size:=by
  cases e with
  | row g cs=>exact Row.lt h
  | obj g o=>exact (Array.getElem?_eq_some_iff.1 h.1).1
theorem Ent.FA {w w':World}{e:Ent}(h:e.holds w) (hh:w'.heap[e.at]?=w.heap[e.at]?):e.holds w':=by
  cases e with
  | row g cs=>obtain ⟨T,lo,hi,h,hf⟩:=h;exact ⟨T,lo,hi,by rw [← h];exact hh,hf⟩
  | obj g o=>exact ⟨by rw [← h.1];exact hh,h.2⟩

structure St (p:Nat→Prop) (w0 w:World) (L:List Ent):Prop where
  frm:Frm p w0 w
  holds:∀ e∈L,e.holds w
  dist:(L.map Ent.at).Nodup
  mine:∀ e∈L,p e.at∨w0.heap.size≤e.at

theorem St.start (p:Nat→Prop) (w:World):St p w w []:=⟨Frm.refl _ _,(fun _ h=>by cases h),Fe,(fun _ h=>by cases h)⟩
theorem St.ext {p:Nat→Prop}{w0 w w':World}{L:List Ent}(h:St p w0 w L) (hf:Frm (fun _=>False) w w'):St p w0 w' L :=
  ⟨h.frm.trans (hf.mono (fun _ h=>h.elim)),fun e he=>Ent.FA (h.holds e he) (hf.block _ (Ent.lt (h.holds e he)) (fun h=>h)),h.dist,h.mine⟩
theorem St.drew {p:Nat→Prop}{w0 w:World}{L:List Ent}(h:St p w0 w L):St p w0 w.drew L:=h.ext (Frm.drew (Frm.refl _ _))
theorem St.add {p:Nat→Prop}{w0 w w':World}{L:List Ent}{e:Ent}(h:St p w0 w L) (hf:Frm (fun _=>False) w w') (hg:w.heap.size≤e.at) (he:e.holds w'):St p w0 w' (e::L):=by
  refine ⟨h.frm.trans (hf.mono (fun _ h=>h.elim)),?_,?_,?_⟩
  · intro e' he'
    rcases List.mem_cons.1 he' with rfl|he'
    · exact he
    · exact (h.ext hf).holds e' he'
  · simp only [List.map_cons,List.nodup_cons]
    refine ⟨fun hm=>?_,h.dist⟩
    obtain ⟨e',he',heq⟩:=List.mem_map.1 hm
    have:=Ent.lt (h.holds e' he')
    omega
  · intro e' he'
    rcases List.mem_cons.1 he' with rfl|he'
    · exact .inr (Nat.le_trans h.frm.size hg)
    · exact h.mine e' he'
theorem St.sub {p:Nat→Prop}{w0 w:World}{L L':List Ent}(h:St p w0 w L) (hs:L'.Sublist L):St p w0 w L' :=
  ⟨h.frm,fun e he=>h.holds e (hs.subset he),h.dist.sublist (hs.map _),fun e he=>h.mine e (hs.subset he)⟩
theorem St.perm {p:Nat→Prop}{w0 w:World}{L L':List Ent}(h:St p w0 w L) (hs:L'.Perm L):St p w0 w L' :=
  ⟨h.frm,fun e he=>h.holds e (hs.subset he),(hs.map Ent.at).nodup_iff.2 h.dist,fun e he=>h.mine e (hs.subset he)⟩
theorem St.tail {p:Nat→Prop}{w0 w:World}{e:Ent}{L:List Ent}(h:St p w0 w (e::L)):St p w0 w L:=h.sub (List.sublist_cons_self _ _)

class At (L:List Ent) (g:Nat) (cs:outParam (List Value)):Prop where
  mem:Ent.row g cs∈L
instance {L:List Ent}{g:Nat}{cs:List Value}:At (.row g cs::L) g cs:=⟨List.mem_cons_self ..⟩
instance {e:Ent}{L:List Ent}{g:Nat}{cs:List Value}[h:At L g cs]:At (e::L) g cs:=⟨List.mem_cons_of_mem _ h.mem⟩
class AtO (L:List Ent) (g:Nat) (o:outParam Obj):Prop where
  mem:Ent.obj g o∈L
instance {L:List Ent}{g:Nat}{o:Obj}:AtO (.obj g o::L) g o:=⟨List.mem_cons_self ..⟩
instance {e:Ent}{L:List Ent}{g:Nat}{o:Obj}[h:AtO L g o]:AtO (e::L) g o:=⟨List.mem_cons_of_mem _ h.mem⟩
class Put (L:List Ent) (g:Nat) (e:Ent) (L':outParam (List Ent)):Prop where
  ok:e.at=g→∃ A B e',L=A++e'::B∧L'=A++e::B∧e'.at=g
instance {L:List Ent}{g:Nat}{cs:List Value}{e:Ent}:Put (.row g cs::L) g e (e::L):=⟨fun _=>⟨[],L,_,rfl,rfl,rfl⟩⟩
instance {L:List Ent}{g:Nat}{o:Obj}{e:Ent}:Put (.obj g o::L) g e (e::L):=⟨fun _=>⟨[],L,_,rfl,rfl,rfl⟩⟩
instance {d:Ent}{L L':List Ent}{g:Nat}{e:Ent}[h:Put L g e L']:Put (d::L) g e (d::L') :=
  ⟨fun he=>let ⟨A,B,e',h1,h2,h3⟩:=h.ok he; ⟨d::A,B,e',by rw [h1];rfl,by rw [h2];rfl,h3⟩⟩

theorem St.row {p:Nat→Prop}{w0 w:World}{L:List Ent}{g:Nat}{cs:List Value}(h:St p w0 w L) [ha:At L g cs]:Row w g cs:=h.holds _ ha.mem
theorem St.cell {p:Nat→Prop}{w0 w:World}{L:List Ent}{g i:Nat}{cs:List Value}{v:Value}(h:St p w0 w L) [At L g cs] (hv:cs[i]?=some v):w.cell? ⟨g,i,none⟩=some v:=(h.row (g:=g)).cell hv
theorem St.old {p:Nat→Prop}{w0 w:World}{L:List Ent}{b i:Nat}{v:Value}(h:St p w0 w L) (hp:¬ p b) (hc:w0.cell? ⟨b,i,none⟩=some v):w.cell? ⟨b,i,none⟩=some v:=by
  rw [World.cell?_of_block (w:=w0) (a:=⟨b,i,none⟩) (h.frm.block b (block_lt_of_cell hc) hp)];exact hc
theorem St.IW {p:Nat→Prop}{w0 w:World}{L:List Ent}{b off n:Nat}{f:Nat→Int}(h:St p w0 w L) (hp:¬ p b) (hc:Rd w0 b off n f):Rd w b off n f:=fun i hi=>h.old hp (hc i hi)

theorem St.put {p:Nat→Prop}{w0 w w':World}{L L':List Ent}{g:Nat}{e:Ent}(h:St p w0 w L) [hp:Put L g e L'] (he:e.at=g) (hf:Frm (fun k=>k=g) w w') (hh:e.holds w'):St p w0 w' L':=by
  obtain ⟨A,B,e',rfl,rfl,hg⟩:=hp.ok he
  have hd:=h.dist
  have hat:(A++e::B).map Ent.at=(A++e'::B).map Ent.at:=by simp [he,hg]
  have hmine:p g∨w0.heap.size≤g:=hg ▸ h.mine e' Fe
  refine ⟨?_,?_,by rw [hat];exact hd,?_⟩
  · rcases hmine with hm|hm
    · exact h.frm.trans (hf.mono (fun k hk=>by subst hk;exact hm))
    · exact Frm.own h.frm hf (fun k hk=>by omega)
  · intro x hx
    by_cases hxe:x.at=g
    · rcases List.mem_append.1 hx with hx|hx
      · exfalso
        simp only [List.map_append,List.map_cons,List.nodup_append] at hd
        exact hd.2.2 x.at (List.mem_map_of_mem hx) e'.at Fe (by rw [hxe,hg])
      · rcases List.mem_cons.1 hx with rfl|hx
        · exact hh
        · exfalso
          simp only [List.map_append,List.map_cons,List.nodup_append,List.nodup_cons] at hd
          exact hd.2.1.1 (by rw [hg, ← hxe];exact List.mem_map_of_mem hx)
    · have hx':x∈A++e'::B:=by
        rcases List.mem_append.1 hx with hx|hx
        · exact List.mem_append_left _ hx
        · rcases List.mem_cons.1 hx with rfl|hx
          · exact absurd he hxe
          · exact List.mem_append_right _ (List.mem_cons_of_mem _ hx)
      exact Ent.FA (h.holds x hx') (hf.block _ (Ent.lt (h.holds x hx')) hxe)
  · intro x hx
    rcases List.mem_append.1 hx with hx|hx
    · exact h.mine x (List.mem_append_left _ hx)
    · rcases List.mem_cons.1 hx with rfl|hx
      · rw [he];exact hmine
      · exact h.mine x (List.mem_append_right _ (List.mem_cons_of_mem _ hx))

theorem Row.setCell {w:World}{g i:Nat}{cs:List Value}{v:Value}(h:Row w g cs):Row (w.setCell ⟨g,i,none⟩ v) g (cs.set i v):=by
  obtain ⟨T,lo,hi,h,hf⟩:=h
  refine ⟨T,lo,hi,?_,by simpa using hf⟩
  simp [World.setCell,Array.getElem?_modify,h]
theorem Row.new {w:World}{cs:Array Value}{T:TypeId}:Row (w.alloc (.cells cs T)) w.heap.size cs.toList :=
  ⟨T,0,0,(by rw [heap_alloc_new]),fun i _ h=>by omega⟩

section
variable {P:Program}{ops:Array Oper}{Q:Exit→Act→World→Prop}{n:Nat}{p:Nat→Prop}{w0:World}{o:Oper}{rest:List Oper}{l:Kn}{L:List Ent}

def WL (P:Program) (ops:Array Oper) (Q:Exit→Act→World→Prop) (n:Nat) (p:Nat→Prop) (w0:World) (rest:List Oper) (l:Kn) (L:List Ent):Prop :=
  ∀ a w,Has n a l→St p w0 w L→wpList P ops Q rest a w
def WC (P:Program) (c:Code) (Q:Exit→Act→World→Prop) (n:Nat) (p:Nat→Prop) (w0:World) (l:Kn) (L:List Ent):Prop :=
  ∀ a w,Has n a l→St p w0 w L→c.wp P Q a w
def WE (Q:Exit→Act→World→Prop) (e:Exit) (n:Nat) (p:Nat→Prop) (w0:World) (l:Kn) (L:List Ent):Prop :=
  ∀ a w,Has n a l→St p w0 w L→Q e a w
def WQ (P:Program) (ops:Array Oper) (K:Act→World→Prop) (n:Nat) (p:Nat→Prop) (w0:World) (rest:List Oper) (l:Kn) (L:List Ent):Prop :=
  ∀ a,Has n a l→wpQuiet P ops (fun w=>St p w0 w L) (fun a'=>∀ w',St p w0 w' L→K a' w') rest a
def Val (P:Program) (C:World→Prop) (n:Nat) (l:Kn) (o:Oper) (v:Value):Prop:=∀ a w,Has n a l→C w→(execOp a.eval o).run P w = .ok (.value v) w

theorem Th (hg:o.guard=none) (f:Nat→Option Bool):Region.wanted o f=true:=by simp [Region.wanted,hg]
theorem S4 {j dj:Nat}{b:Bool}{a:Act}(hg:o.guard=some (j,b)) (hj:(ops[j]?).bind (·.dst)=some dj) (ha:Has n a l) (hl:look l dj=some (.bool b)):Region.wanted o (yielded ops a.tmps)=true:=by
  have h:=ha.got dj _ hl
  have h2:a.tmps[dj]?=some (.bool b):=by
    rw [Array.getD_eq_getD_getElem?] at h
    cases hq:a.tmps[dj]? with
    | none=>rw [hq] at h;simp [undef] at h
    | some x=>rw [hq] at h;simpa using h
  simp [Region.wanted,hg,yielded,hj,h2]
def isB (v:Value) (b:Bool):Bool:=match v with | .bool c=>c == b|_=>false
theorem Kt {j dj:Nat}{b:Bool}{v:Value}{a:Act}(hg:o.guard=some (j,b)) (hj:(ops[j]?).bind (·.dst)=some dj) (ha:Has n a l) (hl:look l dj=some v) (hv:isB v b=false):Region.wanted o (yielded ops a.tmps)=false:=by
  have h:=ha.got dj _ hl
  unfold Region.wanted
  rw [hg]
  simp only [yielded,hj,Option.bind_some]
  rw [Array.getD_eq_getD_getElem?] at h
  cases hq:a.tmps[dj]? with
  | none=>simp
  | some x =>
    rw [hq] at h
    simp only [Option.getD_some] at h
    subst h
    cases x <;> simp_all [isB]

def On (ops:Array Oper) (o:Oper) (l:Kn):Prop:=o.guard=none∨∃ j dj b,o.guard=some (j,b)∧(ops[j]?).bind (·.dst)=some dj∧look l dj=some (.bool b)
theorem On.none (hg:o.guard=Option.none):On ops o l:=.inl hg
theorem On.some {j dj:Nat}{b:Bool}(hg:o.guard=Option.some (j,b)) (hj:(ops[j]?).bind (·.dst)=Option.some dj) (hl:look l dj=Option.some (.bool b)):On ops o l:=.inr ⟨j,dj,b,hg,hj,hl⟩
theorem On.ok {a:Act}(h:On ops o l) (ha:Has n a l):Region.wanted o (yielded ops a.tmps)=true:=by
  rcases h with hg|⟨j,dj,b,hg,hj,hl⟩
  · exact Th hg _
  · exact S4 hg hj ha hl

theorem Kc {a:Act}{w:World}(hw:Region.wanted o (yielded ops a.tmps)=true) (h:o.wp P a w (wpList P ops Q rest) Q):wpList P ops Q (o::rest) a w:=by
  unfold wpList;rw [if_pos hw];exact .inl h

theorem WL.nil (h:WE Q .normal n p w0 l L):WL P ops Q n p w0 [] l L:=h
theorem WL.val {d:Nat}{v:Value}(hv:Val P (fun w=>St p w0 w L) n l o v) (hg:On ops o l) (hd:o.dst=some d) (hn:Nat.blt d n=true)
    (h:WL P ops Q n p w0 rest ((d,v)::l) L):WL P ops Q n p w0 (o::rest) l L:=by
  intro a w ha hS
  refine Kc (hg.ok ha) ?_
  unfold Oper.wp
  rw [hv a w ha hS]
  exact h _ _ (ha.H4 hd hn v) hS
theorem WL.skip {j dj d:Nat}{b:Bool}{v:Value}(hg:o.guard=some (j,b)) (hj:(ops[j]?).bind (·.dst)=some dj) (hl:look l dj=some v) (hv:isB v b=false) (hd:o.dst=some d) (hn:Nat.blt d n=true)
    (h:WL P ops Q n p w0 rest ((d,undef)::l) L):WL P ops Q n p w0 (o::rest) l L:=by
  intro a w ha hS
  unfold wpList
  rw [if_neg (by rw [Kt hg hj ha hl hv];decide)]
  exact h _ _ (ha.H4 hd hn _) hS
theorem WL.op {d:Nat}(hg:On ops o l) (hd:o.dst=some d) (hn:Nat.blt d n=true)
    (h:∀ a w,Has n a l→St p w0 w L→∃ v w' L',(execOp a.eval o).run P w = .ok (.value v) w'∧St p w0 w' L'∧WL P ops Q n p w0 rest ((d,v)::l) L'):WL P ops Q n p w0 (o::rest) l L:=by
  intro a w ha hS
  refine Kc (hg.ok ha) ?_
  obtain ⟨v,w',L',hr,hS',hK⟩:=h a w ha hS
  unfold Oper.wp
  rw [hr]
  exact hK _ _ (ha.H4 hd hn v) hS'
theorem WL.act (hg:On ops o l) (hd:o.dst=none)
    (h:∀ a w,Has n a l→St p w0 w L→∃ w' L',((execOp a.eval o).run P w = .ok .skip w'∨∃ v,(execOp a.eval o).run P w = .ok (.value v) w')∧St p w0 w' L'∧WL P ops Q n p w0 rest l L'):WL P ops Q n p w0 (o::rest) l L:=by
  intro a w ha hS
  refine Kc (hg.ok ha) ?_
  obtain ⟨w',L',hr,hS',hK⟩:=h a w ha hS
  unfold Oper.wp
  rcases hr with hr|⟨v,hr⟩ <;> rw [hr]
  · exact hK _ _ (by rw [hd];exact ha) hS'
  · exact hK _ _ (by rw [hd];exact ha) hS'

theorem WQ.nil (h:WE Q .normal n p w0 l L):WQ P ops (Q .normal) n p w0 [] l L:=fun a ha w hS=>h a w ha hS
theorem WQ.val {K:Act→World→Prop}{d:Nat}{v:Value}(hv:Val P (fun w=>St p w0 w L) n l o v) (hg:On ops o l) (hd:o.dst=some d) (hn:Nat.blt d n=true)
    (h:WQ P ops K n p w0 rest ((d,v)::l) L):WQ P ops K n p w0 (o::rest) l L:=by
  intro a ha
  unfold wpQuiet
  rw [if_pos (hg.ok ha)]
  refine ⟨v,fun w hS=>?_,h _ (ha.H4 hd hn v)⟩
  unfold Oper.quietAt
  rw [hv a w ha hS]
  exact ⟨rfl,rfl⟩
theorem WQ.skip {K:Act→World→Prop}{j dj d:Nat}{b:Bool}{v:Value}(hg:o.guard=some (j,b)) (hj:(ops[j]?).bind (·.dst)=some dj) (hl:look l dj=some v) (hv:isB v b=false) (hd:o.dst=some d) (hn:Nat.blt d n=true)
    (h:WQ P ops K n p w0 rest ((d,undef)::l) L):WQ P ops K n p w0 (o::rest) l L:=by
  intro a ha
  unfold wpQuiet
  rw [if_neg (by rw [Kt hg hj ha hl hv];decide)]
  exact h _ (ha.H4 hd hn _)

/-! ### Calls -/
def AI (P:Program) (f:FuncId):Prop:=∀ (args:Array Value) (w:World),(callFunc f args).run P w = .ok (.enter f args) w
theorem AE {f:FuncId}{fn:Func}{c:Code}(hf:P.funcs[f]?=some fn) (hname:(fn.name == "runtime.NumGoroutine")=false) (hb:fn.body=some c):AI P f:=fun args w=>by
  unfold callFunc
  have hne:¬ fn.name = "runtime.NumGoroutine" := by simpa using hname
  simp [program,Sem.run,hf,hne,hb]
def evs (l:Kn):List Operand→Option (List Value)
  | []=>some []
  | x::xs=>match ev l x,evs l xs with|some v,some vs=>some (v::vs)|_,_=>none
theorem Has.evs {a:Act}(h:Has n a l):∀ {xs:List Operand}{vs:List Value},evs l xs=some vs→xs.map a.eval=vs
  | [],vs,hx=>by simpa [YtcmpamnhegndnaaGreatDoor.evs] using hx
  | x::xs,vs,hx=>by
    unfold YtcmpamnhegndnaaGreatDoor.evs at hx
    split at hx
    · rename_i v vs' h1 h2
      simp only [Option.some.injEq] at hx
      subst hx
      simp [h.ev h1,h.evs h2]
    · cases hx
theorem Sh {a:Act}{f:FuncId}{x:Operand}{xs:List Operand}{ts:Array TypeId}{vs:List Value}{fi cap:Array Value}{w:World}(ho:o.op = .call { callee:=.value x,args:=xs.toArray,argTypes:=ts })
    (hfv:ev l x=some (.func (.func f) fi cap)) (hx:evs l xs=some vs) (hf:AI P f) (ha:Has n a l) :
    (execOp a.eval o).run P w = .ok (.enter f (fi++vs.toArray++cap)) w:=by
  have h1:=ha.ev hfv
  have h2:=ha.evs hx
  unfold execOp
  have hf':=fun args=>hf args w
  simp [ho,resolve,h1,Deferred.ofValue,invoke,hf', ← h2]

theorem WL.YD {f:FuncId}{x:Operand}{xs:List Operand}{ts:Array TypeId}{vs:List Value}{fi cap:Array Value}{d:Nat}(ho:o.op = .call { callee:=.value x,args:=xs.toArray,argTypes:=ts })
    (hfv:ev l x=some (.func (.func f) fi cap)) (hx:evs l xs=some vs) (hf:AI P f) (hg:On ops o l) (hd:o.dst=some d) (hn:Nat.blt d n=true)
    (h:∀ w,St p w0 w L→Calls P f (fi++vs.toArray++cap) w fun e w'=>∃ v L',e = .returned v∧St p w0 w' L'∧WL P ops Q n p w0 rest ((d,v)::l) L'):WL P ops Q n p w0 (o::rest) l L:=by
  intro a w ha hS
  refine Kc (hg.ok ha) ?_
  unfold Oper.wp
  rw [Sh ho hfv hx hf ha]
  exact C9
theorem WL.call {f:FuncId}{xs:List Operand}{ts:Array TypeId}{vs:List Value}{d:Nat}(ho:o.op = .call { callee:=.value (.func f),args:=xs.toArray,argTypes:=ts })
    (hx:evs l xs=some vs) (hf:AI P f) (hg:On ops o l) (hd:o.dst=some d) (hn:Nat.blt d n=true)
    (h:∀ w,St p w0 w L→Calls P f vs.toArray w fun e w'=>∃ v L',e = .returned v∧St p w0 w' L'∧WL P ops Q n p w0 rest ((d,v)::l) L'):WL P ops Q n p w0 (o::rest) l L :=
  WL.YD (l:=l) ho rfl hx hf hg hd hn (fun w hS=>by simpa using h w hS)
theorem WQ.YD {K:Act→World→Prop}{f:FuncId}{x:Operand}{xs:List Operand}{ts:Array TypeId}{vs:List Value}{fi cap:Array Value}{d:Nat}(v:Value) (ho:o.op = .call { callee:=.value x,args:=xs.toArray,argTypes:=ts })
    (hfv:ev l x=some (.func (.func f) fi cap)) (hx:evs l xs=some vs) (hf:AI P f) (hg:On ops o l) (hd:o.dst=some d) (hn:Nat.blt d n=true)
    (hc:∀ w,St p w0 w L→Calls P f (fi++vs.toArray++cap) w fun e w'=>e = .returned v∧St p w0 w' L) (h:WQ P ops K n p w0 rest ((d,v)::l) L):WQ P ops K n p w0 (o::rest) l L:=by
  intro a ha
  unfold wpQuiet
  rw [if_pos (hg.ok ha)]
  refine ⟨v,fun w hS=>?_,h _ (ha.H4 hd hn v)⟩
  unfold Oper.quietAt
  rw [Sh ho hfv hx hf ha]
  exact ⟨rfl,hc w hS⟩
theorem WQ.call {K:Act→World→Prop}{f:FuncId}{xs:List Operand}{ts:Array TypeId}{vs:List Value}{d:Nat}(v:Value) (ho:o.op = .call { callee:=.value (.func f),args:=xs.toArray,argTypes:=ts })
    (hx:evs l xs=some vs) (hf:AI P f) (hg:On ops o l) (hd:o.dst=some d) (hn:Nat.blt d n=true)
    (hc:∀ w,St p w0 w L→Calls P f vs.toArray w fun e w'=>e = .returned v∧St p w0 w' L) (h:WQ P ops K n p w0 rest ((d,v)::l) L):WQ P ops K n p w0 (o::rest) l L :=
  WQ.YD (l:=l) v ho rfl hx hf hg hd hn (fun w hS=>by simpa using hc w hS) h
theorem Calls.still {f:FuncId}{args:Array Value}{w:World}{v:Value}(h:Calls P f args w fun e w'=>e = .returned v∧Frm (fun _=>False) w w') (hS:St p w0 w L) :
    Calls P f args w fun e w'=>e = .returned v∧St p w0 w' L:=h.mono fun _ _ ⟨he,hf⟩=>⟨he,hS.ext hf⟩
theorem Calls.then {f:FuncId}{args:Array Value}{w:World}{v:Value}{d:Nat}(h:Calls P f args w fun e w'=>e = .returned v∧Frm (fun _=>False) w w') (hS:St p w0 w L) (hK:WL P ops Q n p w0 rest ((d,v)::l) L) :
    Calls P f args w fun e w'=>∃ v L',e = .returned v∧St p w0 w' L'∧WL P ops Q n p w0 rest ((d,v)::l) L':=h.mono fun _ _ ⟨he,hf⟩=>⟨v,L,he,hS.ext hf,hK⟩

theorem Calls.thenS {f:FuncId}{args:Array Value}{w:World}{v:Value}{d:Nat}{L':List Ent}(h:Calls P f args w fun e w'=>e = .returned v∧St p w0 w' L') (hK:WL P ops Q n p w0 rest ((d,v)::l) L') :
    Calls P f args w fun e w'=>∃ v L',e = .returned v∧St p w0 w' L'∧WL P ops Q n p w0 rest ((d,v)::l) L':=h.mono fun _ _ ⟨he,hS⟩=>⟨v,L',he,hS,hK⟩
/-! ### Regions -/
theorem WC.region {id:Nat}{os:List Oper}(h:WL P os.toArray Q n p w0 os l L):WC P (.region id os.toArray false) Q n p w0 l L:=fun a w ha hS=>wp_region_lit (h a w ha hS)
theorem WC.quiet {id:Nat}{os:List Oper}(hm:P.follows .mixedOrders=true) (hB:Region.lexB .any os.toArray=true) (h:WQ P os.toArray (Q .normal) n p w0 os l L):WC P (.region id os.toArray true) Q n p w0 l L :=
  fun a _ ha hS=>wp_region_quiet (C:=fun w=>St p w0 w L) hm hB hS.drew (h a ha)

/-! ### Codes -/
theorem WC.seq {x y:Code}(h:WC P x (Exit.then (y.wp P Q) Q) n p w0 l L):WC P (.seq x y) Q n p w0 l L:=fun a w ha hS=>wp_seq (h a w ha hS)
theorem WE.YN {y:Code}(h:WC P y Q n p w0 l L):WE (Exit.then (y.wp P Q) Q) .normal n p w0 l L:=h
theorem WE.AaU {K:Act→World→Prop}(h:WE Q .ret n p w0 l L):WE (Exit.then K Q) .ret n p w0 l L:=h
theorem WE.Xh {K:Act→World→Prop}{id:Nat}(h:WE Q (.exit id) n p w0 l L):WE (Exit.then K Q) (.exit id) n p w0 l L:=h
theorem WC.UM {c:Operand}{x y:Code}(hc:ev l c=some (.bool true)) (h:WC P x Q n p w0 l L):WC P (.cond c x y) Q n p w0 l L:=fun a w ha hS=>wp_cond_true (ha.ev hc) (h a w ha hS)
theorem WC.Ue {c:Operand}{x y:Code}(hc:ev l c=some (.bool false)) (h:WC P y Q n p w0 l L):WC P (.cond c x y) Q n p w0 l L:=fun a w ha hS=>wp_cond_false (ha.ev hc) (h a w ha hS)
theorem WC.Lp {c:Operand}{x y:Code}{q:Prop} [Decidable q] (hc:ev l c=some (.bool (decide q))) (ht:q→WC P x Q n p w0 l L) (hf:¬ q→WC P y Q n p w0 l L):WC P (.cond c x y) Q n p w0 l L:=by
  by_cases hq:q
  · exact WC.UM (by rw [hc];simp [hq]) (ht hq)
  · exact WC.Ue (by rw [hc];simp [hq]) (hf hq)
theorem WC.YU {c:Operand}{x y:Code}{b:Bool}(hc:ev l c=some (.bool b)) (ht:b=true→WC P x Q n p w0 l L) (hf:b=false→WC P y Q n p w0 l L):WC P (.cond c x y) Q n p w0 l L:=by
  cases b
  · exact WC.Ue hc (hf rfl)
  · exact WC.UM hc (ht rfl)
theorem WC.skip (h:WE Q .normal n p w0 l L):WC P .skip Q n p w0 l L:=fun a w ha hS=>wp_skip (h a w ha hS)
theorem WC.exit {i:Nat}(h:WE Q (.exit i) n p w0 l L):WC P (.exit i) Q n p w0 l L:=fun a w ha hS=>wp_exit (h a w ha hS)
theorem WC.ret (h:WE Q .ret n p w0 l L):WC P .ret Q n p w0 l L:=fun a w ha hS=>wp_ret (h a w ha hS)
theorem WC.block {i:Nat}{c:Code}(h:WC P c (Exit.inBlock i Q) n p w0 l L):WC P (.block i c) Q n p w0 l L:=fun a w ha hS=>wp_block (h a w ha hS)
theorem WE.AbK {i:Nat}(h:WE Q .normal n p w0 l L):WE (Exit.inBlock i Q) .normal n p w0 l L:=h
theorem WE.Yf {i:Nat}(h:WE Q .ret n p w0 l L):WE (Exit.inBlock i Q) .ret n p w0 l L:=h
theorem WE.Yp {i:Nat}(h:WE Q .normal n p w0 l L):WE (Exit.inBlock i Q) (.exit i) n p w0 l L:=fun a w ha hS=>by
  unfold Exit.inBlock;simp only [if_true];exact h a w ha hS
theorem WE.Hi {i j:Nat}(hij:Nat.beq j i=false) (h:WE Q (.exit j) n p w0 l L):WE (Exit.inBlock i Q) (.exit j) n p w0 l L:=fun a w ha hS=>by
  unfold Exit.inBlock;simp only;rw [if_neg (by intro e;subst e;simp at hij)];exact h a w ha hS
def Mid {ι:Type}(lI:ι→Kn) (LI:ι→List Ent) (good:ι→Prop) (n:Nat) (p:Nat→Prop) (w0:World) (a:Act) (w:World):Prop:=∃ i,good i∧Has n a (lI i)∧St p w0 w (LI i)
theorem WC.cut {ι:Type}(lI:ι→Kn) (LI:ι→List Ent) (good:ι→Prop){x y:Code}(h:WC P x (Exit.then (Mid lI LI good n p w0) Q) n p w0 l L)
    (hy:∀ i,good i→WC P y Q n p w0 (lI i) (LI i)):WC P (.seq x y) Q n p w0 l L:=fun a w ha hS=>wp_seq (wp_mono (h a w ha hS) (fun e a' w' hq=>by
      cases e with
      | normal=>obtain ⟨i,hi,hA,hW⟩:=hq;exact hy i hi _ _ hA hW
      | _=>exact hq))
theorem WE.mid {ι:Type}{lI:ι→Kn}{LI:ι→List Ent}{good:ι→Prop}(i:ι) (hi:good i) (hl:Sub l (lI i)) (hL:(LI i).Sublist L):WE (Exit.then (Mid lI LI good n p w0) Q) .normal n p w0 l L :=
  fun _ _ ha hS=>⟨i,hi,ha.sub hl,hS.sub hL⟩
def Next {ι:Type}(lI:ι→Kn) (LI:ι→List Ent) (good:ι→Prop) (m:ι→Nat) (k:Nat) (n:Nat) (p:Nat→Prop) (w0:World) (a:Act) (w:World):Prop:=∃ i,m i<k∧good i∧Has n a (lI i)∧St p w0 w (LI i)
theorem WC.loop {ι:Type}(lI:ι→Kn) (LI:ι→List Ent) (good:ι→Prop) (m:ι→Nat){c:Code}(i0:ι) (h0:good i0) (hl:Sub l (lI i0)) (hL:(LI i0).Sublist L)
    (round:∀ i,good i→WC P c (Exit.then (Next lI LI good m (m i) n p w0) Q) n p w0 (lI i) (LI i)):WC P (.loop c) Q n p w0 l L:=by
  intro a w ha hS
  refine wp_loop_ghost (fun k a w=>∃ i,m i=k∧good i∧Has n a (lI i)∧St p w0 w (LI i)) (m i0) ⟨i0,rfl,h0,ha.sub hl,hS.sub hL⟩ ?_
  rintro k a w ⟨i,rfl,hi,ha,hS⟩
  refine wp_mono (round i hi a w ha hS) ?_
  intro e a' w' hq
  cases e with
  | normal=>obtain ⟨j,hj,hg,hA,hW⟩:=hq;exact ⟨m j,hj,j,rfl,hg,hA,hW⟩
  | _=>exact hq
theorem WE.next {ι:Type}{lI:ι→Kn}{LI:ι→List Ent}{good:ι→Prop}{m:ι→Nat}{k:Nat}(i:ι) (hm:m i<k) (hi:good i) (hl:Sub l (lI i)) (hL:(LI i).Sublist L):WE (Exit.then (Next lI LI good m k n p w0) Q) .normal n p w0 l L :=
  fun _ _ ha hS=>⟨i,hm,hi,ha.sub hl,hS.sub hL⟩

/-! ### Entry and end -/
def S5:Nat→List Value→Kn
  | _,[]=>[]
  | k,v::vs=>(k,v)::S5 (k+1) vs
theorem Qx:∀ (vs:List Value) (k t:Nat) (v:Value),look (S5 k vs) t=some v→k≤t∧vs[t-k]?=some v
  | [],k,t,v,h=>by simp [S5,look] at h
  | u::vs,k,t,v,h=>by
    simp only [S5,look] at h
    cases hb:Nat.beq k t
    · rw [hb] at h
      have:=Qx vs (k+1) t v h
      refine ⟨by omega,?_⟩
      rw [show t-k=(t-(k+1))+1 by omega]
      simpa using this.2
    · rw [hb] at h
      have:k=t:=Nat.eq_of_beq_eq_true hb
      subst this
      simpa using h
theorem enter {f:FuncId}{fn:Func}{c:Code}{vs:List Value}{w:World}{R:Ending→World→Prop}(hf:P.funcs[f]?=some fn) (hb:fn.body=some c) (hn:fn.ntmps=n) (hle:Nat.ble vs.length n=true)
    (hS:St p w0 w L) (h:WC P c (bodyPost P fn R) n p w0 (S5 0 vs) L):Calls P f vs.toArray w R:=by
  refine calls_of_wp hf hb (h _ _ ⟨?_,rfl,?_⟩ hS)
  · have:=Nat.le_of_ble_eq_true hle
    simp [hn];omega
  · intro t v hv
    have h1:=(Qx vs 0 t v hv).2
    simp only [Nat.sub_zero] at h1
    simp only [Array.getD_eq_getD_getElem?]
    rw [Array.getElem?_append_left (by have:=(List.getElem?_eq_some_iff.1 h1).1;simpa using this)]
    simp [h1]

def HJ (P:Program) (C:World→Prop) (l:Kn) (r:ResultVar) (v:Value):Prop:=match r with
  | .tmp t=>look l t=some v
  | .cell t ty=>∃ a,look l t=some (.pointer (some a))∧∀ w,C w→(loadVar ty a).run P w = .ok v w
def Zh (_:Program) (tmps:Array Value):ResultVar→Sem Value
  | .tmp t=>pure (tmps.getD t undef)
  | .cell a t=>do loadVar t (← asAddr (tmps.getD a undef))
theorem HJ.run {C:World→Prop}{r:ResultVar}{v:Value}{a:Act}{w:World}(h:HJ P C l r v) (ha:Has n a l) (hC:C w):(Zh P a.tmps r).run P w = .ok v w:=by
  cases r with
  | tmp t=>show (pure (a.tmps.getD t undef):Sem Value).run P w=_;rw [ha.got t v h];rfl
  | cell t ty =>
    obtain ⟨ad,h1,h2⟩:=h
    show (do loadVar ty (← asAddr (a.tmps.getD t undef)):Sem Value).run P w=_
    rw [ha.got t _ h1]
    simp [asAddr,h2 w hC]
theorem I4 (fn:Func) (tmps:Array Value):results fn tmps=(do let vs ← fn.results.mapM (Zh P tmps);pure (if h:vs.size=1 then vs[0] else .tuple vs)):=by
  unfold results
  congr 1
variable {fn:Func}{R:Ending→World→Prop}{e:Exit}
theorem WE.fin (he:e = .ret∨e = .normal){v:Value}(hv:∀ a w,Has n a l→St p w0 w L→(results fn a.tmps).run P w = .ok v w) (h:∀ w,St p w0 w L→R (.returned v) w):WE (bodyPost P fn R) e n p w0 l L:=by
  intro a w ha hS
  rcases he with rfl|rfl
  · exact ⟨ha.defers,v,hv a w ha hS,h w hS⟩
  · exact ⟨ha.defers,v,hv a w ha hS,h w hS⟩
theorem WE.KX (he:e = .ret∨e = .normal) (hr:fn.results = #[]) (h:∀ w,St p w0 w L→R (.returned (.tuple #[])) w):WE (bodyPost P fn R) e n p w0 l L :=
  WE.fin he (fun a w ha hS=>by rw [I4 (P:=P),hr];simp) h
theorem WE.ret1 (he:e = .ret∨e = .normal){r1:ResultVar}{v1:Value}(hr:fn.results = #[r1]) (h1:HJ P (fun w=>St p w0 w L) l r1 v1) (h:∀ w,St p w0 w L→R (.returned v1) w):WE (bodyPost P fn R) e n p w0 l L :=
  WE.fin he (fun a w ha hS=>by rw [I4 (P:=P),hr];simp [h1.run ha hS]) h
theorem WE.ret2 (he:e = .ret∨e = .normal){r1 r2:ResultVar}{v1 v2:Value}(hr:fn.results = #[r1,r2]) (h1:HJ P (fun w=>St p w0 w L) l r1 v1) (h2:HJ P (fun w=>St p w0 w L) l r2 v2)
    (h:∀ w,St p w0 w L→R (.returned (.tuple #[v1,v2])) w):WE (bodyPost P fn R) e n p w0 l L :=
  WE.fin he (fun a w ha hS=>by rw [I4 (P:=P),hr];simp [h1.run ha hS,h2.run ha hS]) h
theorem WE.ret3 (he:e = .ret∨e = .normal){r1 r2 r3:ResultVar}{v1 v2 v3:Value}(hr:fn.results = #[r1,r2,r3]) (h1:HJ P (fun w=>St p w0 w L) l r1 v1) (h2:HJ P (fun w=>St p w0 w L) l r2 v2) (h3:HJ P (fun w=>St p w0 w L) l r3 v3)
    (h:∀ w,St p w0 w L→R (.returned (.tuple #[v1,v2,v3])) w):WE (bodyPost P fn R) e n p w0 l L :=
  WE.fin he (fun a w ha hS=>by rw [I4 (P:=P),hr];simp [h1.run ha hS,h2.run ha hS,h3.run ha hS]) h
theorem WE.ret4 (he:e = .ret∨e = .normal){r1 r2 r3 r4:ResultVar}{v1 v2 v3 v4:Value}(hr:fn.results = #[r1,r2,r3,r4]) (h1:HJ P (fun w=>St p w0 w L) l r1 v1) (h2:HJ P (fun w=>St p w0 w L) l r2 v2) (h3:HJ P (fun w=>St p w0 w L) l r3 v3) (h4:HJ P (fun w=>St p w0 w L) l r4 v4)
    (h:∀ w,St p w0 w L→R (.returned (.tuple #[v1,v2,v3,v4])) w):WE (bodyPost P fn R) e n p w0 l L :=
  WE.fin he (fun a w ha hS=>by rw [I4 (P:=P),hr];simp [h1.run ha hS,h2.run ha hS,h3.run ha hS,h4.run ha hS]) h
end
section
variable {P:Program}{ops:Array Oper}{Q:Exit→Act→World→Prop}{n:Nat}{p:Nat→Prop}{w0:World}{o:Oper}{rest:List Oper}{l:Kn}{L:List Ent}
theorem WL.v {d:Nat}{v:Value}(hv:Val P (fun w=>St p w0 w L) n l o v) (e:(o.guard,o.dst,Nat.blt d n)=(none,some d,true)) (h:WL P ops Q n p w0 rest ((d,v)::l) L):WL P ops Q n p w0 (o::rest) l L:=WL.val hv (.none (congrArg Prod.fst e)) (congrArg (fun x=>x.2.1) e) (congrArg (fun x=>x.2.2) e) h
theorem WL.nt {y:Code}(h:WC P y Q n p w0 l L):WL P ops (Exit.then (y.wp P Q) Q) n p w0 [] l L:=WL.nil (WE.YN h)
theorem WL.sk {j dj d:Nat}{b:Bool}{v:Value}(e:(o.guard,(ops[j]?).bind (·.dst),look l dj,isB v b,o.dst,Nat.blt d n)=(some (j,b),some dj,some v,false,some d,true)) (h:WL P ops Q n p w0 rest ((d,undef)::l) L):WL P ops Q n p w0 (o::rest) l L:=WL.skip (congrArg Prod.fst e) (congrArg (fun x=>x.2.1) e) (congrArg (fun x=>x.2.2.1) e) (congrArg (fun x=>x.2.2.2.1) e) (congrArg (fun x=>x.2.2.2.2.1) e) (congrArg (fun x=>x.2.2.2.2.2) e) h
end

section
variable {P:Program}{C:World→Prop}{ops:Array Oper}{Q:Exit→Act→World→Prop}{n:Nat}{p:Nat→Prop}{w0:World}{o:Oper}{rest:List Oper}{l:Kn}{L:List Ent}

/-! ### Types: closed facts -/
def One (P:Program) (t:TypeId):Prop:=(∃ d,P.underlying t=some d∧d.isRow=false)∧(P.info? t).map (·.size)=some 1
def EL (P:Program) (t:TypeId) (m:Nat):Prop:=(∃ d,P.underlying t=some d∧d.isRow=true)∧(P.info? t).map (·.size)=some m
def AD (P:Program) (s i k ft:Nat):Prop:=∃ fs f m,P.underlying s=some (.struct fs)∧fs[i]?=some f∧f.offset=k∧f.type=ft∧(P.info? ft).map (·.size)=some (m+1)
theorem AD.mk {s i k ft m:Nat}{fs:Array Field}{f:Field}(hu:P.underlying s=some (.struct fs)) (hf:fs[i]?=some f) (hk:f.offset=k) (ht:f.type=ft) (hs:(P.info? ft).map (·.size)=some (m+1)):AD P s i k ft:=⟨fs,f,m,hu,hf,hk,ht,hs⟩
def Zero (P:Program) (t:TypeId) (zs:List Value):Prop:=∃ z,(P.info? t).bind (·.zero)=some z∧z.cells.toList=zs
theorem Zero.mk {t:TypeId}{zs:List Value}{z:Value}(h:(P.info? t).bind (·.zero)=some z) (hz:z.cells.toList=zs):Zero P t zs:=⟨z,h,hz⟩
theorem One.mk {t:TypeId}{d:TypeDesc}(hu:P.underlying t=some d) (hd:d.isRow=false) (hs:(P.info? t).map (·.size)=some 1):One P t:=⟨⟨d,hu,hd⟩,hs⟩
theorem EL.mk {t m:Nat}{d:TypeDesc}(hu:P.underlying t=some d) (hd:d.isRow=true) (hs:(P.info? t).map (·.size)=some m):EL P t m:=⟨⟨d,hu,hd⟩,hs⟩

theorem run_sizeOf {t m:Nat}(hs:(P.info? t).map (·.size)=some m) (w:World):(sizeOf t).run P w = .ok m w:=by
  cases hq:P.info? t with
  | none=>simp [hq] at hs
  | some i=>simp [hq] at hs;simp [sizeOf,typeInfo,hq,hs]
theorem One.agg {t:TypeId}(h:One P t) (w:World):(isAgg t).run P w = .ok false w:=by
  obtain ⟨⟨d,hu,hd⟩,_⟩:=h
  unfold isAgg
  rw [Sem.run_bind,run_underlying hu w]
  cases d <;> simp_all
theorem EL.agg {t m:Nat}(h:EL P t m) (w:World):(isAgg t).run P w = .ok true w:=by
  obtain ⟨⟨d,hu,hd⟩,_⟩:=h
  unfold isAgg
  rw [Sem.run_bind,run_underlying hu w]
  cases d <;> simp_all
theorem FC {t:TypeId}{z:Value}(h:(P.info? t).bind (·.zero)=some z) (w:World):(zeroValue t).run P w = .ok z w:=by
  cases hq:P.info? t with
  | none=>simp [hq] at h
  | some i=>simp [hq] at h;simp [zeroValue,typeInfo,hq,h]

/-! ### Moves -/
theorem v_move {x:Operand}{v:Value}(ho:o.op = .move x) (hx:ev l x=some v):Val P C n l o v:=fun a w ha _=>by unfold execOp;simp [ho,ha.ev hx]
theorem Ze {x:Operand}{v:Value}(ho:o.op = .assign x) (hx:ev l x=some v):Val P C n l o v:=fun a w ha _=>by unfold execOp;simp [ho,ha.ev hx]
theorem AaY {c x y:Operand}{v:Value}(ho:o.op = .pick c x y) (hc:ev l c=some (.bool true)) (hx:ev l x=some v):Val P C n l o v:=fun a w ha _=>by
  have h1:=ha.ev hc;have h2:=ha.ev hx
  unfold execOp;simp [ho,h1,h2,asBool]
theorem Zb {c x y:Operand}{v:Value}(ho:o.op = .pick c x y) (hc:ev l c=some (.bool false)) (hx:ev l y=some v):Val P C n l o v:=fun a w ha _=>by
  have h1:=ha.ev hc;have h2:=ha.ev hx
  unfold execOp;simp [ho,h1,h2,asBool]
theorem Xl {x:Operand}{i:Nat}{vs:List Value}{v:Value}(ho:o.op = .extract x i) (hx:ev l x=some (.tuple vs.toArray)) (hv:vs[i]?=some v):Val P C n l o v:=fun a w ha _=>by
  have h1:=ha.ev hx
  unfold execOp;simp [ho,h1,Instr.extract,hv]
theorem U1 {x:Operand}{ad:Addr}(ho:o.op = .nilCheck x) (hx:ev l x=some (.pointer (some ad))):Val P C n l o (.pointer (some ad)):=fun a w ha _=>by
  have h1:=ha.ev hx
  unfold execOp;simp [ho,h1]
theorem v_not {t:TypeId}{x:Operand}{b c:Bool}(ho:o.op = .unOp .not t x) (hx:ev l x=some (.bool b)) (hc:(!b)=c):Val P C n l o (.bool c):=fun a w ha _=>by
  have h1:=ha.ev hx
  subst hc
  unfold execOp;simp [ho,h1,Op.unary]
theorem Rb {t:TypeId}{x:Operand}{q:Prop} [Decidable q] (ho:o.op = .unOp .not t x) (hx:ev l x=some (.bool (decide q))):Val P C n l o (.bool (decide (¬ q))):=v_not ho hx Fe
/-! ### Numbers -/
section
variable {t yt:TypeId}{x y:Operand}{k:IntKind}{A B r:Int}
theorem EY {op:BinOp}{a:Act}{w:World}(ho:o.op = .binOp op t x y yt) (h1:a.eval x = .int k A) (h2:a.eval y = .int k B) :
    (execOp a.eval o).run P w=((binOp op t (.int k A) (.int k B)).run P w).andThen (fun v w'=>.ok (.value v) w'):=by
  unfold execOp
  simp only [ho,h1,h2,eqGuard]
  split <;> simp [Result.andThen] <;> cases (binOp op t (.int k A) (.int k B)).run P w <;> rfl
theorem AS (ho:o.op = .binOp .add t x y yt) (hx:ev l x=some (.int k A)) (hy:ev l y=some (.int k B)) (hr:k.wrap (A+B)=r):Val P C n l o (.int k r):=fun a w ha _=>by
  rw [EY ho (ha.ev hx) (ha.ev hy), ← hr];simp [binOp,Op.intArith,Result.andThen]
theorem EM (ho:o.op = .binOp .sub t x y yt) (hx:ev l x=some (.int k A)) (hy:ev l y=some (.int k B)) (hr:k.wrap (A-B)=r):Val P C n l o (.int k r):=fun a w ha _=>by
  rw [EY ho (ha.ev hx) (ha.ev hy), ← hr];simp [binOp,Op.intArith,Result.andThen]
theorem FY (ho:o.op = .binOp .mul t x y yt) (hx:ev l x=some (.int k A)) (hy:ev l y=some (.int k B)) (hr:k.wrap (A*B)=r):Val P C n l o (.int k r):=fun a w ha _=>by
  rw [EY ho (ha.ev hx) (ha.ev hy), ← hr];simp [binOp,Op.intArith,Result.andThen]
theorem OB (ho:o.op = .binOp .quo t x y yt) (hx:ev l x=some (.int k A)) (hy:ev l y=some (.int k B)) (hA:0≤A) (hB:0<B) (hr:k.wrap (A / B)=r):Val P C n l o (.int k r):=fun a w ha _=>by
  have h:¬ B=0:=Er
  rw [EY ho (ha.ev hx) (ha.ev hy), ← hr];simp [binOp,Op.intDiv,h,Result.andThen,Int.tdiv_eq_ediv_of_nonneg hA]
theorem SH (ho:o.op = .binOp .rem t x y yt) (hx:ev l x=some (.int k A)) (hy:ev l y=some (.int k B)) (hA:0≤A) (hB:0<B):Val P C n l o (.int k (A % B)):=fun a w ha _=>by
  have h:¬ B=0:=Er
  rw [EY ho (ha.ev hx) (ha.ev hy)];simp [binOp,Op.intDiv,h,Result.andThen,Int.tmod_eq_emod_of_nonneg hA]
theorem J0 (ho:o.op = .binOp .and t x y yt) (hx:ev l x=some (.int k A)) (hy:ev l y=some (.int k B)) (hr:bits .and k A B=r):Val P C n l o (.int k r):=fun a w ha _=>by
  rw [EY ho (ha.ev hx) (ha.ev hy), ← hr];simp [binOp,intBits_and,Result.andThen]
theorem Uz (ho:o.op = .binOp .or t x y yt) (hx:ev l x=some (.int k A)) (hy:ev l y=some (.int k B)) (hr:bits .or k A B=r):Val P C n l o (.int k r):=fun a w ha _=>by
  rw [EY ho (ha.ev hx) (ha.ev hy), ← hr];simp [binOp,intBits_or,Result.andThen]
theorem AaW (ho:o.op = .binOp .andNot t x y yt) (hx:ev l x=some (.int k A)) (hy:ev l y=some (.int k B)) (hr:bits .andNot k A B=r):Val P C n l o (.int k r):=fun a w ha _=>by
  rw [EY ho (ha.ev hx) (ha.ev hy), ← hr];simp [binOp,intBits_andNot,Result.andThen]
theorem G8 (ho:o.op = .binOp .lss t x y yt) (hx:ev l x=some (.int k A)) (hy:ev l y=some (.int k B)):Val P C n l o (.bool (decide (A<B))):=fun a w ha _=>by
  rw [EY ho (ha.ev hx) (ha.ev hy)];simp [binOp,Op.intCmp,Result.andThen]
theorem O9 (ho:o.op = .binOp .leq t x y yt) (hx:ev l x=some (.int k A)) (hy:ev l y=some (.int k B)):Val P C n l o (.bool (decide (A≤B))):=fun a w ha _=>by
  rw [EY ho (ha.ev hx) (ha.ev hy)];simp [binOp,Op.intCmp,Result.andThen]
theorem HY (ho:o.op = .binOp .gtr t x y yt) (hx:ev l x=some (.int k A)) (hy:ev l y=some (.int k B)):Val P C n l o (.bool (decide (B<A))):=fun a w ha _=>by
  rw [EY ho (ha.ev hx) (ha.ev hy)];simp [binOp,Op.intCmp,Result.andThen]
theorem Pw (ho:o.op = .binOp .geq t x y yt) (hx:ev l x=some (.int k A)) (hy:ev l y=some (.int k B)):Val P C n l o (.bool (decide (B≤A))):=fun a w ha _=>by
  rw [EY ho (ha.ev hx) (ha.ev hy)];simp [binOp,Op.intCmp,Result.andThen]
theorem AZ (ho:o.op = .binOp .eql t x y yt) (hx:ev l x=some (.int k A)) (hy:ev l y=some (.int k B)):Val P C n l o (.bool (decide (A=B))):=fun a w ha _=>by
  rw [EY ho (ha.ev hx) (ha.ev hy)];simp [binOp,Op.intCmp,Result.andThen];rfl
theorem BY (ho:o.op = .binOp .neq t x y yt) (hx:ev l x=some (.int k A)) (hy:ev l y=some (.int k B)):Val P C n l o (.bool (decide (A≠B))):=fun a w ha _=>by
  rw [EY ho (ha.ev hx) (ha.ev hy)];simp [binOp,Op.intCmp,Result.andThen,bne];rfl
theorem QO {op:BinOp}{yk:IntKind}{a:Act}{w:World}(hop:op = .shl∨op = .shr) (ho:o.op = .binOp op t x y yt) (h1:a.eval x = .int k A) (h2:a.eval y = .int yk B) :
    (execOp a.eval o).run P w=((Op.shift op k A yk B).run P w).andThen (fun v w'=>.ok (.value v) w'):=by
  unfold execOp
  rcases hop with rfl|rfl <;>
  (simp only [ho,h1,h2,eqGuard,binOp]
   simp [Result.andThen])
theorem Lc {yk:IntKind}{m:Nat}{c:Int}(ho:o.op = .binOp .shr t x y yt) (hx:ev l x=some (.int k A)) (hy:ev l y=some (.int yk B)) (hm:B=(m:Int)) (hle:m≤k.bits) (hc:(2:Int) ^ m=c):Val P C n l o (.int k (A / c)):=fun a w ha _=>by
  subst hm hc
  rw [QO (.inr rfl) ho (ha.ev hx) (ha.ev hy),shift_shr k yk A m Er Er];simp [Result.andThen]
theorem OT {yk:IntKind}{m:Nat}{c:Int}(ho:o.op = .binOp .shl t x y yt) (hx:ev l x=some (.int k A)) (hy:ev l y=some (.int yk B)) (hm:B=(m:Int)) (hle:m≤k.bits) (hc:(2:Int) ^ m=c) (hr:k.wrap (A*c)=r):Val P C n l o (.int k r):=fun a w ha _=>by
  subst hm hc hr
  rw [QO (.inl rfl) ho (ha.ev hx) (ha.ev hy),shift_shl k yk A m Er Er];simp [Result.andThen]
theorem AQ {s dst:TypeId}{k':IntKind}(ho:o.op = .convert s dst x) (hx:ev l x=some (.int k' A)) (hd:P.underlying dst=some (.int k)){ds:TypeDesc}(hs:P.underlying s=some ds) (hr:k.wrap A=r):Val P C n l o (.int k r):=fun a w ha _=>by
  have h1:=ha.ev hx
  subst hr
  unfold execOp
  simp [ho,h1,convert,run_underlying hd,run_underlying hs,Conv.intToInt]
end
theorem AF {z:Int}(h : -9223372036854775808≤z) (h':z≤9223372036854775807):IntKind.i64.wrap z=z:=by rw [IntKind.wrap_i64];omega
theorem w_u8 {z:Int}(h:0≤z) (h':z≤255):IntKind.u8.wrap z=z:=by rw [IntKind.wrap_u8'];omega
theorem MI {z:Int}(h:0≤z) (h':z≤4294967295):IntKind.u32.wrap z=z:=by rw [IntKind.wrap_u32'];omega
theorem w_u64 {z:Int}(h:0≤z) (h':z≤18446744073709551615):IntKind.u64.wrap z=z:=by rw [IntKind.wrap_u64];omega
theorem HL (z:Int):IntKind.u8.wrap z=z % 256:=IntKind.wrap_u8' z
theorem dT {q:Prop} [Decidable q] (h:q):decide q=true:=decide_eq_true h
theorem dF {q:Prop} [Decidable q] (h:¬ q):decide q=false:=decide_eq_false h
theorem Val.eq {u v:Value}(h:Val P C n l o u) (e:u=v):Val P C n l o v:=e ▸ h
theorem Val.t {q:Prop} [Decidable q] (h:Val P C n l o (.bool (decide q))) (hq:q):Val P C n l o (.bool true):=h.eq (by rw [dT hq])
theorem Val.f {q:Prop} [Decidable q] (h:Val P C n l o (.bool (decide q))) (hq:¬ q):Val P C n l o (.bool false):=h.eq (by rw [dF hq])
theorem WL.test {q:Prop} [Decidable q]{d:Nat}(hv:Val P (fun w=>St p w0 w L) n l o (.bool (decide q))) (hg:On ops o l) (hd:o.dst=some d) (hn:Nat.blt d n=true)
    (ht:q→WL P ops Q n p w0 rest ((d, .bool true)::l) L) (hf:¬ q→WL P ops Q n p w0 rest ((d, .bool false)::l) L):WL P ops Q n p w0 (o::rest) l L:=by
  by_cases hq:q
  · exact WL.val (hv.t hq) hg hd hn (ht hq)
  · exact WL.val (hv.f hq) hg hd hn (hf hq)
theorem WQ.test {K:Act→World→Prop}{q:Prop} [Decidable q]{d:Nat}(hv:Val P (fun w=>St p w0 w L) n l o (.bool (decide q))) (hg:On ops o l) (hd:o.dst=some d) (hn:Nat.blt d n=true)
    (ht:q→WQ P ops K n p w0 rest ((d, .bool true)::l) L) (hf:¬ q→WQ P ops K n p w0 rest ((d, .bool false)::l) L):WQ P ops K n p w0 (o::rest) l L:=by
  by_cases hq:q
  · exact WQ.val (hv.t hq) hg hd hn (ht hq)
  · exact WQ.val (hv.f hq) hg hd hn (hf hq)

/-! ### Addresses and loads -/
theorem NT {s i g off k ft:Nat}{x:Operand}(ho:o.op = .fieldAddr s x i) (hx:ev l x=some (.pointer (some ⟨g,off,none⟩))) (hf:AD P s i k ft):Val P C n l o (.pointer (some ⟨g,off+k,none⟩)):=fun a w ha _=>by
  obtain ⟨fs,f,m,hu,hi,rfl,rfl,hs⟩:=hf
  have h1:=ha.ev hx
  unfold execOp
  simp only [ho,h1,Instr.fieldAt,Sem.run_bind,run_underlying hu,Result.andThen,hi,Instr.sureAddr,Sem.run_pure,fieldPlace,run_sizeOf hs]
  by_cases h0:f.offset=0
  · simp [Addr.add,h0]
  · simp [Addr.add,h0]
theorem Rr {s i g k ft:Nat}{x:Operand}(ho:o.op = .fieldAddr s x i) (hx:ev l x=some (.pointer (some ⟨g,0,none⟩))) (hf:AD P s i k ft):Val P C n l o (.pointer (some ⟨g,k,none⟩)):=by
  have:=NT (C:=C) (n:=n) ho hx hf
  simpa using this
theorem AA {ty g k:Nat}{x:Operand}{v:Value}(ho:o.op = .load ty x) (hx:ev l x=some (.pointer (some ⟨g,k,none⟩))) (ht:One P ty) (hc:∀ w,C w→w.cell? ⟨g,k,none⟩=some v):Val P C n l o v:=fun a w ha hC=>by
  have h1:=ha.ev hx
  have h2:=hc w hC
  unfold execOp
  simp [ho,h1,Instr.loadAt,Instr.sureAddr,loadVar,ht.agg,load,Sem.run,h2]
theorem CA {ty g k m:Nat}{x:Operand}{cs:List Value}(ho:o.op = .load ty x) (hx:ev l x=some (.pointer (some ⟨g,k,none⟩))) (ht:EL P ty m) (hm:cs.length=m) (hc:∀ w,C w→w.rangeAt g k cs):Val P C n l o (.agg cs.toArray):=fun a w ha hC=>by
  subst hm
  have h1:=ha.ev hx
  obtain ⟨⟨d,hu,hd⟩,hs⟩:=ht
  have:=run_loadVar_mid (P:=P) w g k ty cs d (hc w hC) hu hd hs
  unfold execOp
  simp [ho,h1,Instr.loadAt,Instr.sureAddr,this]
theorem cellAt {g k:Nat}{cs:List Value}{v:Value} [At L g cs] (hv:cs[k]?=some v):∀ w,St p w0 w L→w.cell? ⟨g,k,none⟩=some v:=fun _ hS=>hS.cell hv
theorem AL {g k:Nat}{v:Value}(hp:¬ p g) (hv:w0.cell? ⟨g,k,none⟩=some v):∀ w,St p w0 w L→w.cell? ⟨g,k,none⟩=some v:=fun _ hS=>hS.old hp hv
def seg (cs:List Value) (k m:Nat):List Value:=(cs.drop k).take m
theorem IK {g k m:Nat}{cs new:List Value} [At L g cs] (hnew:seg cs k m=new):∀ w,St p w0 w L→w.rangeAt g k new:=fun w hS i v hi=>by
  subst hnew
  refine hS.cell (g:=g) (cs:=cs) ?_
  unfold seg at hi
  rw [List.getElem?_take] at hi
  split at hi
  · rwa [List.getElem?_drop] at hi
  · cases hi
theorem BZ {g:Nat}{cs:List Value} [At L g cs]:∀ w,St p w0 w L→w.rangeAt g 0 cs:=fun w hS i v hi=>by
  rw [Nat.zero_add];exact hS.cell (g:=g) hi
theorem resRow {t g m:Nat}{ty:TypeId}{cs:List Value}(hl:look l t=some (.pointer (some ⟨g,0,none⟩))) (ht:EL P ty m) [At L g cs] (hm:cs.length=m):HJ P (fun w=>St p w0 w L) l (.cell t ty) (.agg cs.toArray):=by
  subst hm
  obtain ⟨⟨d,hu,hd⟩,hs⟩:=ht
  exact ⟨_,hl,fun w hS=>run_loadVar_mid (P:=P) w g 0 ty cs d (BZ w hS) hu hd hs⟩
theorem Acs {t g:Nat}{ty:TypeId}{v:Value}{cs:List Value}(hl:look l t=some (.pointer (some ⟨g,0,none⟩))) (ht:One P ty) [At L g cs] (hv:cs[0]?=some v):HJ P (fun w=>St p w0 w L) l (.cell t ty) v :=
  ⟨_,hl,fun w hS=>by
    have h2:=hS.cell (g:=g) hv
    simp [loadVar,ht.agg,load,Sem.run,h2]⟩
end

section
variable {P:Program}{C:World→Prop}{ops:Array Oper}{Q:Exit→Act→World→Prop}{n:Nat}{p:Nat→Prop}{w0:World}{o:Oper}{rest:List Oper}{l:Kn}{L:List Ent}

/-! ### Stores -/
def one:Value→Bool | .agg _=>false | .tuple _=>false|_=>true
theorem LW {w:World}{g k:Nat}{cs:List Value}{v:Value}(hR:Row w g cs) (hk:k<cs.length) (hv:one v=true):(store ⟨g,k,none⟩ v).run P w = .ok () (w.setCell ⟨g,k,none⟩ v):=by
  have h1:=hR.cell (i:=k) (v:=cs[k]) (by simp [hk])
  have h2:=hR.frozen hk
  have:=run_store P w ⟨g,k,none⟩ v .plain (by cases v <;> first|rfl|(simp [one] at hv))
  rw [this]
  simp [h1,h2]
theorem Frm.set {w:World}{g k:Nat}{v:Value}:Frm (fun b=>b=g) w (w.setCell ⟨g,k,none⟩ v):=Frm.set1 (Frm.refl _ _)
theorem WL.DA {ty g k:Nat}{x y:Operand}{v:Value}{cs:List Value}{L':List Ent}(ho:o.op = .store ty x y) (hx:ev l x=some (.pointer (some ⟨g,k,none⟩))) (hy:ev l y=some v) (hv:one v=true) (ht:One P ty)
    [At L g cs] (hk:k<cs.length) [Put L g (.row g (cs.set k v)) L'] (hg:On ops o l) (hd:o.dst=none) (h:WL P ops Q n p w0 rest l L'):WL P ops Q n p w0 (o::rest) l L:=by
  refine WL.act hg hd fun a w ha hS=>?_
  have h1:=ha.ev hx
  have h2:=ha.ev hy
  have hR:=hS.row (g:=g)
  refine ⟨w.setCell ⟨g,k,none⟩ v,L', .inl ?_,hS.put (g:=g) (e:=.row g (cs.set k v)) rfl Frm.set hR.setCell,h⟩
  have hsz:v.cells.size=1:=by cases v <;> simp_all [one,Value.cells]
  have hcl:v.cells.toList=[v]:=by cases v <;> simp_all [one,Value.cells]
  unfold execOp
  simp [ho,h1,h2,Instr.storeAt,Instr.sureAddr,storeVar,run_sizeOf ht.2,hsz,hcl,storeCells,Addr.add,LW hR hk hv]

def CW:List Value→Nat→List Value→List Value
  | [],_,_=>[]
  | c::cs,_,[]=>c::cs
  | _::cs,0,v::vs=>v::CW cs 0 vs
  | c::cs,k+1,v::vs=>c::CW cs k (v::vs)
theorem I7 (cs:List Value) (k:Nat):CW cs k []=cs:=by cases cs <;> rfl
theorem HD:∀ (cs:List Value) (k:Nat) (new:List Value),k+new.length≤cs.length→CW cs k new=cs.take k++new++cs.drop (k+new.length)
  | [],k,new,h=>by
    simp only [List.length_nil,Nat.le_zero_eq,Nat.add_eq_zero_iff,List.length_eq_zero_iff] at h
    rw [h.1,h.2];rfl
  | c::cs,k,[],_=>by rw [I7];simp
  | c::cs,0,v::vs,h=>by
    have h':0+vs.length≤cs.length:=by simp at h ⊢;omega
    show v::CW cs 0 vs=_
    rw [HD cs 0 vs h']
    simp
  | c::cs,k+1,v::vs,h=>by
    have h':k+(v::vs).length≤cs.length:=by simp at h ⊢;omega
    show c::CW cs k (v::vs)=_
    rw [HD cs k (v::vs) h',show k+1+(v::vs).length=(k+(v::vs).length)+1 by omega]
    simp
theorem NZ (cs:List Value) (k:Nat) (v:Value) (new:List Value) (h:k+(new.length+1)≤cs.length):CW (cs.set k v) (k+1) new=CW cs k (v::new):=by
  rw [HD _ _ _ Fj,HD _ _ _ (by simpa using h)]
  rw [List.drop_set_of_lt Er,List.take_set]
  have:(cs.take (k+1)).set k v=cs.take k++[v]:=by
    have hk:k<cs.length:=Er
    apply List.ext_getElem?
    intro i
    by_cases hi:i=k
    · subst hi
      have e:(List.take i cs).length=i:=by rw [List.length_take];omega
      rw [List.getElem?_set_self Ey,List.getElem?_append_right Er,e,Nat.sub_self]
      rfl
    · rw [List.getElem?_set_ne Er]
      by_cases hlt:i<k
      · rw [List.getElem?_append_left Fo,List.getElem?_take_of_lt Er,List.getElem?_take_of_lt hlt]
      · rw [List.getElem?_append_right Fo]
        rw [List.getElem?_eq_none Fo,List.getElem?_eq_none Fo]
  rw [this]
  simp [Nat.add_assoc,Nat.add_comm 1]
theorem Jy (cs:List Value) (k:Nat) (new:List Value) (h:k+new.length≤cs.length):(CW cs k new).length=cs.length:=by rw [HD _ _ _ h];simp;omega
theorem GK {g:Nat}:∀ (new:List Value) (i k:Nat) (cs:List Value) (w:World),Row w g cs→k+i+new.length≤cs.length→new.all one=true →
    ∃ w',(storeCells ⟨g,k,none⟩ new i).run P w = .ok () w'∧Row w' g (CW cs (k+i) new)∧Frm (fun b=>b=g) w w'
  | [],i,k,cs,w,hR,_,_=>⟨w,rfl,by rw [I7];exact hR,Frm.refl _ _⟩
  | v::new,i,k,cs,w,hR,hle,h1=>by
    simp only [List.all_cons,Bool.and_eq_true] at h1
    simp only [List.length_cons] at hle
    obtain ⟨w',hr,hR',hF⟩:=GK new (i+1) k (cs.set (k+i) v) _ (hR.setCell (i:=k+i) (v:=v)) Fj h1.2
    refine ⟨w',?_,by rw [← NZ cs (k+i) v new Er];exact hR',Frm.set.trans hF⟩
    have ha:(⟨g,k,none⟩:Addr).add i=⟨g,k+i,none⟩:=by
      unfold Addr.add;split
      · rename_i h;subst h;rfl
      · rfl
    simp [storeCells,ha,LW hR (show k+i<cs.length by omega) h1.1,hr]
theorem WL.H3 {ty g k m:Nat}{x y:Operand}{new cs:List Value}{L':List Ent}(ho:o.op = .store ty x y) (hx:ev l x=some (.pointer (some ⟨g,k,none⟩))) (hy:ev l y=some (.agg new.toArray)) (hall:new.all one=true)
    (ht:EL P ty m) (hm:new.length=m) [At L g cs] (hk:k+m≤cs.length) [Put L g (.row g (CW cs k new)) L'] (hg:On ops o l) (hd:o.dst=none) (h:WL P ops Q n p w0 rest l L'):WL P ops Q n p w0 (o::rest) l L:=by
  subst hm
  refine WL.act hg hd fun a w ha hS=>?_
  have h1:=ha.ev hx
  have h2:=ha.ev hy
  have hR:=hS.row (g:=g)
  obtain ⟨w',hr,hR',hF⟩:=GK (P:=P) new 0 k cs w hR Er hall
  refine ⟨w',L', .inl ?_,hS.put (g:=g) (e:=.row g (CW cs k new)) rfl hF (show Row _ _ _ by simpa using hR'),h⟩
  unfold execOp
  simp [ho,h1,h2,Instr.storeAt,Instr.sureAddr,storeVar,run_sizeOf ht.2,Value.cells,hr]
theorem WL.storeW {ty g m:Nat}{x y:Operand}{new cs:List Value}{L':List Ent}(ho:o.op = .store ty x y) (hx:ev l x=some (.pointer (some ⟨g,0,none⟩))) (hy:ev l y=some (.agg new.toArray)) (hall:new.all one=true)
    (ht:EL P ty m) (hm:new.length=m) [At L g cs] (hk:cs.length=m) [Put L g (.row g new) L'] (hg:On ops o l) (hd:o.dst=none) (h:WL P ops Q n p w0 rest l L'):WL P ops Q n p w0 (o::rest) l L:=by
  have e:CW cs 0 new=new:=by rw [HD _ _ _ Er];simp;omega
  have i:Put L g (.row g (CW cs 0 new)) L':=by rw [e];infer_instance
  exact WL.H3 (cs:=cs) (k:=0) ho hx hy hall ht hm Er hg hd h

/-! ### New memory -/
theorem Frm.new {w:World}{ob:Obj}:Frm (fun _=>False) w (w.alloc ob):=Frm.alloc (Frm.refl _ _)
theorem St.new {w:World}{cs:List Value}{T:TypeId}(hS:St p w0 w L):St p w0 (w.alloc (.cells cs.toArray T)) (.row w.heap.size cs::L):=hS.add Frm.new (Nat.le_refl _) (Row.new (cs:=cs.toArray))
theorem St.newObj {w:World}{ob:Obj}(hS:St p w0 w L) (hn:Obj.Vo ob):St p w0 (w.alloc ob) (.obj w.heap.size ob::L):=hS.add Frm.new (Nat.le_refl _) ⟨heap_alloc_new w ob,hn⟩
theorem WL.alloc {ty d:Nat}{zs:List Value}(ho:o.op = .alloc ty) (hz:Zero P ty zs) (hg:On ops o l) (hd:o.dst=some d) (hn:Nat.blt d n=true)
    (h:∀ g,w0.heap.size≤g→WL P ops Q n p w0 rest ((d, .pointer (some ⟨g,0,none⟩))::l) (.row g zs::L)):WL P ops Q n p w0 (o::rest) l L:=by
  refine WL.op hg hd hn fun a w ha hS=>?_
  obtain ⟨z,hz,rfl⟩:=hz
  refine ⟨_,_,_,?_,St.new (T:=ty) hS,h _ hS.frm.size⟩
  unfold execOp
  simp [ho,Instr.alloc,FC hz,newVar,newRow,newObj,Sem.run]
theorem WL.box {ty d:Nat}{x:Operand}{v:Value}{cs:List Value}(ho:o.op = .box ty x) (hx:ev l x=some v) (hc:v.cells=cs.toArray) (hg:On ops o l) (hd:o.dst=some d) (hn:Nat.blt d n=true)
    (h:∀ g,w0.heap.size≤g→WL P ops Q n p w0 rest ((d, .pointer (some ⟨g,0,none⟩))::l) (.row g cs::L)):WL P ops Q n p w0 (o::rest) l L:=by
  refine WL.op hg hd hn fun a w ha hS=>?_
  have h1:=ha.ev hx
  refine ⟨_,_,_,?_,St.new (cs:=cs) (T:=ty) hS,h _ hS.frm.size⟩
  unfold execOp
  simp [ho,h1,Instr.box,newVar,newRow,newObj,Sem.run,hc]
/-! ### Slices -/
def AV (off l cap s:Nat):Nat:=if cap=l then off else off+l*s
theorem It (g off k:Nat):(⟨g,off,none⟩:Addr).add k=⟨g,off+k,none⟩:=by
  unfold Addr.add;split
  · rename_i h;subst h;rfl
  · rfl
theorem Pz (b off lo cap s:Nat):(if cap=lo then some (⟨b,off,none⟩:Addr) else (some (⟨b,off,none⟩:Addr)).map (·.add (lo*s)))=some ⟨b,AV off lo cap s,none⟩:=by
  unfold AV;split <;> simp [It]
section
variable {t e s b off len cap lo hi:Nat}{x xl xh:Operand}{k:IntKind}{A B:Int}
theorem BW (ho:o.op = .slice t x (some xl) none none) (hx:ev l x=some (.slice (some ⟨b,off,none⟩) len cap)) (hl:ev l xl=some (.int k A)) (hu:P.underlying t=some (.slice e)) (hs:(P.info? e).map (·.size)=some s) (hA:A=(lo:Int)) (hle:lo≤len) :
    Val P C n l o (.slice (some ⟨b,AV off lo cap s,none⟩) (len-lo) (cap-lo)):=fun a w ha _=>by
  have h1:=ha.ev hx;have h2:=ha.ev hl
  subst hA
  have hi:(0:Int)≤lo∧(lo:Int)≤len:=Er
  unfold execOp
  simp [ho,h1,h2,Instr.sliceAt,run_underlying hu,Instr.slice,Instr.sliceBounds,Instr.sliceBound,asIntOf,hle,run_sizeOf hs]
  simpa using Pz b off lo cap s
theorem N3 (ho:o.op = .slice t x (some xl) none none) (hx:ev l x=some (.slice (some ⟨b,off,none⟩) len cap)) (hl:ev l xl=some (.int k A)) (hu:P.underlying t=some (.slice e)) (hs:(P.info? e).map (·.size)=some s) (hA:A=(lo:Int)) (hle:lo≤len) (hlt:lo<cap) :
    Val P C n l o (.slice (some ⟨b,off+lo*s,none⟩) (len-lo) (cap-lo)):=by
  have:=BW (C:=C) (n:=n) ho hx hl hu hs hA hle
  rwa [show AV off lo cap s=off+lo*s by unfold AV;rw [if_neg Er]] at this
theorem CT {ad:Option Addr}(ho:o.op = .slice t x none (some xh) none) (hx:ev l x=some (.slice ad len cap)) (hh:ev l xh=some (.int k B)) (hu:P.underlying t=some (.slice e)) (hs:(P.info? e).map (·.size)=some s) (hB:B=(hi:Int)) (hle:hi≤cap) :
    Val P C n l o (.slice ad hi cap):=fun a w ha _=>by
  have h1:=ha.ev hx;have h2:=ha.ev hh
  subst hB
  have hi':(0:Int)≤hi∧(hi:Int)≤cap:=Er
  unfold execOp
  simp [ho,h1,h2,Instr.sliceAt,run_underlying hu,Instr.slice,Instr.sliceBounds,Instr.sliceBound,asIntOf,hle,run_sizeOf hs]
  cases ad <;> simp [Addr.add]
theorem CN {kh:IntKind}(ho:o.op = .slice t x (some xl) (some xh) none) (hx:ev l x=some (.slice (some ⟨b,off,none⟩) len cap)) (hl:ev l xl=some (.int k A)) (hh:ev l xh=some (.int kh B)) (hu:P.underlying t=some (.slice e)) (hs:(P.info? e).map (·.size)=some s)
    (hA:A=(lo:Int)) (hB:B=(hi:Int)) (hle:lo≤hi) (hle':hi≤cap) :
    Val P C n l o (.slice (some ⟨b,AV off lo cap s,none⟩) (hi-lo) (cap-lo)):=fun a w ha _=>by
  have h1:=ha.ev hx;have h2:=ha.ev hl;have h3:=ha.ev hh
  subst hA hB
  have hi1:(0:Int)≤hi∧(hi:Int)≤cap:=Er
  have hi2:(0:Int)≤lo∧(lo:Int)≤hi:=Er
  unfold execOp
  simp [ho,h1,h2,h3,Instr.sliceAt,run_underlying hu,Instr.slice,Instr.sliceBounds,Instr.sliceBound,asIntOf,hle,hle',run_sizeOf hs]
  simpa using Pz b off lo cap s
theorem HH {kh:IntKind}(ho:o.op = .slice t x (some xl) (some xh) none) (hx:ev l x=some (.slice (some ⟨b,off,none⟩) len cap)) (hl:ev l xl=some (.int k A)) (hh:ev l xh=some (.int kh B)) (hu:P.underlying t=some (.slice e)) (hs:(P.info? e).map (·.size)=some s)
    (hA:A=(lo:Int)) (hB:B=(hi:Int)) (hle:lo≤hi) (hle':hi≤cap) (hlt:lo<cap) :
    Val P C n l o (.slice (some ⟨b,off+lo*s,none⟩) (hi-lo) (cap-lo)):=by
  have:=CN (C:=C) (n:=n) ho hx hl hh hu hs hA hB hle hle'
  rwa [show AV off lo cap s=off+lo*s by unfold AV;rw [if_neg Er]] at this
theorem AB (ho:o.op = .indexAddr t x xl) (hx:ev l x=some (.slice (some ⟨b,off,none⟩) len cap)) (hl:ev l xl=some (.int k A)) (hu:P.underlying t=some (.slice e)) (hs:(P.info? e).map (·.size)=some s) (hA:A=(lo:Int)) (hlt:lo<len) :
    Val P C n l o (.pointer (some ⟨b,off+lo*s,none⟩)):=fun a w ha _=>by
  have h1:=ha.ev hx;have h2:=ha.ev hl
  subst hA
  have hi:(0:Int)≤lo∧(lo:Int)<len:=Er
  unfold execOp
  simp [ho,h1,h2,Instr.indexAt,run_underlying hu,asIntOf,hlt,run_sizeOf hs,It]
theorem AT {m:Nat}(ho:o.op = .indexAddr t x xl) (hx:ev l x=some (.pointer (some ⟨b,off,none⟩))) (hl:ev l xl=some (.int k A)) (hu:P.underlying t=some (.array m e)) (hs:(P.info? e).map (·.size)=some s) (hA:A=(lo:Int)) (hlt:lo<m) :
    Val P C n l o (.pointer (some ⟨b,off+lo*s,none⟩)):=fun a w ha _=>by
  have h1:=ha.ev hx;have h2:=ha.ev hl
  subst hA
  have hi:(0:Int)≤lo∧(lo:Int)<m:=Er
  unfold execOp
  simp [ho,h1,h2,Instr.indexAt,run_underlying hu,asIntOf,hlt,run_sizeOf hs,It,Instr.sureAddr]
theorem Zj {m:Nat}{cs:List Value}{v:Value}(ho:o.op = .index t x xl) (hx:ev l x=some (.agg cs.toArray)) (hl:ev l xl=some (.int k A)) (hu:P.underlying t=some (.array m e)) (he:One P e) (hA:A=(lo:Int)) (hlt:lo<m) (hv:cs[lo]?=some v) :
    Val P C n l o v:=fun a w ha _=>by
  have h1:=ha.ev hx;have h2:=ha.ev hl
  subst hA
  have hi:(0:Int)≤lo∧(lo:Int)<m:=Er
  unfold execOp
  simp [ho,h1,h2,Instr.index,run_underlying hu,asIntOf,hlt,run_sizeOf he.2,part,he.agg,hv]
end
/-! ### len -/
theorem DJ {a:Act}{w:World}{bi:Builtin}{xs:List Operand}{ts:Array TypeId}{vs:List Value}(ho:o.op = .call { callee:=.builtin bi,args:=xs.toArray,argTypes:=ts }) (hx:evs l xs=some vs) (ha:Has n a l) :
    ∃ consts,(execOp a.eval o).run P w=(builtin bi ts o.type consts vs.toArray).run P w:=by
  have h2:=ha.evs hx
  refine ⟨xs.toArray.map (fun | .const _=>true|_=>false),?_⟩
  unfold execOp
  simp [ho,resolve,invoke, ← h2]
  rfl
theorem Ta {t e len cap:Nat}{ad:Option Addr}{x:Operand}(ho:o.op = .call { callee:=.builtin .len,args:=#[x],argTypes:=#[t] }) (hx:ev l x=some (.slice ad len cap)) (hu:P.underlying t=some (.slice e)):Val P C n l o (.int .i64 len):=fun a w ha _=>by
  have hx':evs l [x]=some [.slice ad len cap]:=by simp [evs,hx]
  obtain ⟨cs,h⟩:=DJ (P:=P) (w:=w) (xs:=[x]) ho hx' ha
  rw [h]
  simp [builtin,Builtin.len_,run_underlying hu,goInt]
theorem Kl {t:Nat}{bs:ByteArray}{x:Operand}(ho:o.op = .call { callee:=.builtin .len,args:=#[x],argTypes:=#[t] }) (hx:ev l x=some (.string bs)) (hu:P.underlying t=some .string):Val P C n l o (.int .i64 bs.size):=fun a w ha _=>by
  have hx':evs l [x]=some [.string bs]:=by simp [evs,hx]
  obtain ⟨cs,h⟩:=DJ (P:=P) (w:=w) (xs:=[x]) ho hx' ha
  rw [h]
  simp [builtin,Builtin.len_,run_underlying hu,goInt]
end

section
variable {P:Program}{C:World→Prop}{ops:Array Oper}{Q:Exit→Act→World→Prop}{n:Nat}{p:Nat→Prop}{w0:World}{o:Oper}{rest:List Oper}{l:Kn}{L:List Ent}

theorem NM {i:Nat}{x c m:Int}(hi:i≤62) (hc:(2:Int) ^ i-1=c) (hm:(2:Int) ^ i=m):bits .and .i64 x c=x % m:=by
  subst hc hm
  have hp:(2:Int) ^ i=((2 ^ i:Nat):Int):=by simp
  have hpos:0<2 ^ i:=Nat.two_pow_pos i
  have hle:2 ^ i≤2 ^ 62:=Nat.pow_le_pow_right Et hi
  have hc:((2:Int) ^ i-1)=((2 ^ i-1:Nat):Int):=by rw [Int.natCast_sub hpos];simp
  have key:(BitVec.ofInt 64 x &&& BitVec.ofInt 64 ((2 ^ i-1:Nat):Int)).toNat=(x % 18446744073709551616).toNat % 2 ^ i:=by
    rw [BitVec.toNat_and,BitVec.toNat_ofInt,BitVec.ofInt_natCast,BitVec.toNat_ofNat,Nat.mod_eq_of_lt (a:=2 ^ i-1) Er,Nat.and_two_pow_sub_one_eq_mod]
    rfl
  rw [hc]
  show IntKind.i64.wrap ((BitVec.ofInt 64 x &&& BitVec.ofInt 64 ((2 ^ i-1:Nat):Int)).toNat:Int)=_
  rw [key]
  have h2:((x % 18446744073709551616).toNat:Int)=x % 18446744073709551616:=Int.toNat_of_nonneg Er
  have h3:(((x % 18446744073709551616).toNat % 2 ^ i:Nat):Int)=x % ((2 ^ i:Nat):Int):=by
    rw [Int.natCast_emod,h2]
    refine Int.emod_emod_of_dvd x ?_
    have:(18446744073709551616:Int)=((2 ^ 64:Nat):Int):=by decide
    rw [this]
    exact Int.natCast_dvd_natCast.2 (Nat.pow_dvd_pow 2 (by omega:i≤64))
  rw [h3, ← hp]
  have h4:=Int.emod_nonneg x (b:=(2:Int) ^ i) (by rw [hp];omega)
  have h5:=Int.emod_lt_of_pos x (b:=(2:Int) ^ i) (by rw [hp];omega)
  have h6:(2:Int) ^ i≤4611686018427387904:=by rw [hp];omega
  rw [IntKind.wrap_i64]
  omega
/-! ### Struct and array literals -/
def evp (l:Kn):List (Nat×Operand)→Option (List (Nat×Value))
  | []=>some []
  | (i,x)::xs=>match ev l x,evp l xs with|some v,some vs=>some ((i,v)::vs)|_,_=>none
theorem Has.evp {a:Act}(h:Has n a l):∀ {xs:List (Nat×Operand)}{vs:List (Nat×Value)},evp l xs=some vs→xs.map (fun (i,x)=>(i,a.eval x))=vs
  | [],vs,hx=>by simpa [YtcmpamnhegndnaaGreatDoor.evp] using hx
  | (i,x)::xs,vs,hx=>by
    unfold YtcmpamnhegndnaaGreatDoor.evp at hx
    split at hx
    · rename_i v vs' h1 h2
      simp only [Option.some.injEq] at hx
      subst hx
      simp only [List.map_cons,h.ev h1,h.evp h2]
    · cases hx
def Oc (place:Nat→Option (Nat×Nat)) (cs:List Value):List (Nat×Value)→Option (List Value)
  | []=>some cs
  | (i,v)::r=>match place i with
    | none=>none
    | some (off,sz)=>cond (Nat.beq v.cells.toList.length sz && Nat.ble (off+sz) cs.length) (Oc place (CW cs off v.cells.toList) r) none
theorem Oa (off:Nat):∀ (vs:List Value) (j:Nat) (cs:List Value),off+j+vs.length≤cs.length →
    (vs.zipIdx j).foldl (fun (c:Array Value) (x:Value×Nat)=>c.setIfInBounds (off+x.2) x.1) cs.toArray=(CW cs (off+j) vs).toArray
  | [],j,cs,_=>by simp [I7]
  | v::vs,j,cs,h=>by
    simp only [List.length_cons] at h
    simp only [List.zipIdx_cons,List.foldl_cons]
    have e:cs.toArray.setIfInBounds (off+j) v=(cs.set (off+j) v).toArray:=by simp
    rw [e,Oa off vs (j+1) (cs.set (off+j) v) Fj, ← NZ cs (off+j) v vs Er]
    rfl
theorem fill_eq (place:Nat→Option (Nat×Nat)):∀ (ps:List (Nat×Value)) (cs out:List Value),Oc place cs ps=some out→Instr.fill place cs.toArray ps=some out.toArray
  | [],cs,out,h=>by simp only [Oc,Option.some.injEq] at h;subst h;rfl
  | (i,v)::r,cs,out,h=>by
    unfold Oc at h
    unfold Instr.fill
    cases hp:place i with
    | none=>rw [hp] at h;cases h
    | some q =>
      obtain ⟨off,sz⟩:=q
      rw [hp] at h
      simp only at h ⊢
      cases hb:(Nat.beq v.cells.toList.length sz && Nat.ble (off+sz) cs.length) with
      | false=>rw [hb] at h;cases h
      | true =>
        rw [hb] at h
        simp only [cond_true] at h
        simp only [Bool.and_eq_true] at hb
        have h1:=Nat.eq_of_beq_eq_true hb.1
        have h2:=Nat.le_of_ble_eq_true hb.2
        have h3:v.cells.size=sz:=by simpa using h1
        rw [if_neg (by simp [h3];omega)]
        have hf:=Oa off v.cells.toList 0 cs Er
        have e:v.cells.zipIdx.foldl (fun (c:Array Value) (x:Value×Nat)=>c.setIfInBounds (off+x.2) x.1) cs.toArray=(CW cs off v.cells.toList).toArray:=by
          rw [← Array.foldl_toList,Array.toList_zipIdx];simpa using hf
        exact (congrArg (fun c=>Instr.fill place c r) e).trans (fill_eq place r _ out h)
def ET (P:Program) (t:TypeId) (pl:List (Nat×Nat)):Prop:=∃ fs,P.underlying t=some (.struct fs)∧∀ w,(fs.mapM (fun f=>do pure (f.offset, ← sizeOf f.type):Field→Sem (Nat×Nat))).run P w = .ok pl.toArray w
theorem Ac3 {t:TypeId}{parts:List (Nat×Operand)}{vs:List (Nat×Value)}{zs out:List Value}{pl:List (Nat×Nat)}(ho:o.op = .build t parts.toArray) (hx:evp l parts=some vs) (hz:Zero P t zs) (hp:ET P t pl)
    (hf:Oc (fun i=>pl[i]?) zs vs=some out):Val P C n l o (.agg out.toArray):=fun a w ha _=>by
  obtain ⟨z,hz,hzs⟩:=hz
  obtain ⟨fs,hu,hm⟩:=hp
  have h1:=ha.evp hx
  have h2:=fill_eq _ _ _ _ hf
  have hzc:z.cells=zs.toArray:=by rw [← hzs]
  have hm':∀ w,(fs.mapM (fun f=>Prod.mk f.offset <$> sizeOf f.type)).run P w = .ok pl.toArray w:=fun w=>by
    have:=hm w
    simpa using this
  unfold execOp
  simp [ho,Instr.build,FC hz,run_underlying hu,hm',hzc,h1,h2]
theorem HV {t e m s:Nat}{parts:List (Nat×Operand)}{vs:List (Nat×Value)}{zs out:List Value}(ho:o.op = .build t parts.toArray) (hx:evp l parts=some vs) (hz:Zero P t zs) (hu:P.underlying t=some (.array m e)) (hs:(P.info? e).map (·.size)=some s)
    (hf:Oc (fun i=>some (i*s,s)) zs vs=some out):Val P C n l o (.agg out.toArray):=fun a w ha _=>by
  obtain ⟨z,hz,hzs⟩:=hz
  have h1:=ha.evp hx
  have h2:=fill_eq _ _ _ _ hf
  have hzc:z.cells=zs.toArray:=by rw [← hzs]
  unfold execOp
  simp [ho,Instr.build,FC hz,run_underlying hu,run_sizeOf hs,hzc,h1,h2]

/-! ### Equality -/
inductive CK|b|i (k:IntKind)|s
def CK.fits:CK→Value→Bool
  | .b, .bool _=>true
  | .i k, .int k' _=>decide (k'=k)
  | .s, .string _=>true
  | _,_=>false
def BA:List CK→List Value→Bool
  | [],[]=>true
  | c::cs,v::vs=>c.fits v && BA cs vs
  | _,_=>false
theorem CX:∀ {ks:List CK}{vs:List Value},BA ks vs=true→vs.length=ks.length
  | [],[],_=>rfl
  | [],_::_,h=>by simp [BA] at h
  | _::_,[],h=>by simp [BA] at h
  | k::ks,v::vs,h=>by
    simp only [BA,Bool.and_eq_true] at h
    simp [CX h.2]
theorem HR:∀ {k1 k2:List CK}{vs:List Value},BA (k1++k2) vs=true→BA k1 (vs.take k1.length)=true∧BA k2 (vs.drop k1.length)=true
  | [],k2,vs,h=>by simpa [BA] using h
  | k::k1,k2,[],h=>by simp [BA] at h
  | k::k1,k2,v::vs,h=>by
    simp only [List.cons_append,BA,Bool.and_eq_true] at h
    have:=HR h.2
    simp [BA,h.1,this]
def mkV (row:Bool) (vs:List Value):Value:=match row,vs with|false,[v]=>v|_,vs=>.agg vs.toArray
structure EqK (P:Program) (d:Nat) (t:TypeId) (row:Bool) (ks:List CK):Prop where
  size:(P.info? t).map (·.size)=some ks.length
  agg:∃ dd,P.underlying t=some dd∧dd.isRow=row
  one:row=false→ks.length=1
  eq:∀ (w:World) (xs ys:List Value),BA ks xs=true→BA ks ys=true→∃ r:Bool,(Op.equalIn d t (mkV row xs) (mkV row ys)).run P w = .ok r w∧(r=true↔xs=ys)
theorem EqK.int {d t:Nat}{k:IntKind}(hu:P.underlying t=some (.int k)) (hs:(P.info? t).map (·.size)=some 1):EqK P (d+1) t false [.i k]:=by
  refine ⟨hs,⟨_,hu,rfl⟩,fun _=>rfl,?_⟩
  intro w xs ys hx hy
  have one:∀ zs:List Value,BA [.i k] zs=true→∃ a,zs=[.int k a]:=fun zs h=>by
    match zs,h with
    | [.int k' a],h =>
      simp only [BA,CK.fits,Bool.and_true,decide_eq_true_eq] at h
      exact ⟨a,by rw [h]⟩
    | [],h=>simp [BA] at h
    | v::v'::vs,h=>simp [BA] at h
    | [.bool _],h=>simp [BA,CK.fits] at h
    | [.float _ _],h=>simp [BA,CK.fits] at h
    | [.complex _ _ _],h=>simp [BA,CK.fits] at h
    | [.string _],h=>simp [BA,CK.fits] at h
    | [.pointer _],h=>simp [BA,CK.fits] at h
    | [.slice _ _ _],h=>simp [BA,CK.fits] at h
    | [.map _],h=>simp [BA,CK.fits] at h
    | [.chan _],h=>simp [BA,CK.fits] at h
    | [.func _ _ _],h=>simp [BA,CK.fits] at h
    | [.nilFunc],h=>simp [BA,CK.fits] at h
    | [.iface _ _],h=>simp [BA,CK.fits] at h
    | [.nilIface],h=>simp [BA,CK.fits] at h
    | [.agg _],h=>simp [BA,CK.fits] at h
    | [.tuple _],h=>simp [BA,CK.fits] at h
  obtain ⟨a,rfl⟩:=one xs hx
  obtain ⟨b,rfl⟩:=one ys hy
  exact ⟨a == b,run_equalIn_int w d t k k a b hu,by simp⟩
theorem EqK.string {d t:Nat}(hu:P.underlying t=some .string) (hs:(P.info? t).map (·.size)=some 1):EqK P (d+1) t false [.s]:=by
  refine ⟨hs,⟨_,hu,rfl⟩,fun _=>rfl,?_⟩
  intro w xs ys hx hy
  match xs,ys,hx,hy with
  | [.string a],[.string b],hx,hy =>
    refine ⟨a.toList == b.toList,run_equalIn_string w d t a b hu,?_⟩
    have:(a.toList=b.toList)↔a=b:=by
      constructor
      · intro h
        rw [ByteArray.toList_eq,ByteArray.toList_eq] at h
        obtain ⟨⟨x⟩⟩:=a;obtain ⟨⟨y⟩⟩:=b
        simp_all
      · intro h;rw [h]
    simp [this]
theorem KM {d t:Nat}{row:Bool}{ks:List CK}(h:EqK P d t row ks) (w:World) (all:List Value) (off:Nat) (hf:BA ks ((all.drop off).take ks.length)=true) :
    (part t all.toArray off).run P w = .ok (mkV row ((all.drop off).take ks.length)) w:=by
  obtain ⟨dd,hu,hr⟩:=h.agg
  have hl:=CX hf
  cases row with
  | true =>
    have ha:=(EL.mk hu hr h.size).agg w
    simp [part,ha,run_sizeOf h.size,mkV,List.extract_eq_take_drop,Nat.add_sub_cancel_left]
  | false =>
    have h1:=h.one rfl
    rw [h1] at hl hf ⊢
    have ha:=(One.mk hu hr (by rw [h.size,h1])).agg w
    obtain ⟨v,hv⟩:∃ v,(all.drop off).take 1=[v]:=by
      match hq:(all.drop off).take 1,hl with
      | [v],_=>exact ⟨v,rfl⟩
    have hg:all[off]?=some v:=by
      have:((all.drop off).take 1)[0]?=some v:=by rw [hv];rfl
      rw [List.getElem?_take_of_lt Er,List.getElem?_drop] at this
      simpa using this
    rw [hv]
    simp [part,ha,hg,mkV]
inductive MZ (P:Program) (d:Nat):List Field→Nat→List CK→Prop
  | nil {off:Nat}:MZ P d [] off []
  | cons {f:Field}{fs:List Field}{off:Nat}{row:Bool}{k1 k2:List CK}(hn:(f.name == "_")=false) (ho:f.offset=off) (h:EqK P d f.type row k1) (r:MZ P d fs (off+k1.length) k2):MZ P d (f::fs) off (k1++k2)
theorem Uy {d:Nat}{fs:List Field}{off:Nat}{ks:List CK}(h:MZ P d fs off ks):∀ (w:World) (xs ys:List Value),BA ks (xs.drop off)=true→BA ks (ys.drop off)=true →
    ∃ r:Bool,(Op.eqFields d xs.toArray ys.toArray fs).run P w = .ok r w∧(r=true↔xs.drop off=ys.drop off):=by
  induction h with
  | nil => 
    intro w xs ys hx hy
    have h1:=CX hx;have h2:=CX hy
    simp only [List.length_nil,List.length_eq_zero_iff] at h1 h2
    exact ⟨true,by simp [Op.eqFields],by simp [h1,h2]⟩
  | @cons f fs off row k1 k2 hn ho hE r ih =>
    intro w xs ys hx hy
    obtain ⟨hx1,hx2⟩:=HR hx
    obtain ⟨hy1,hy2⟩:=HR hy
    have p1:=KM hE w xs off hx1
    have p2:=KM hE w ys off hy1
    obtain ⟨r1,e,he⟩:=hE.eq w _ _ hx1 hy1
    have hn':f.name ≠ "_" := by simpa using hn
    rw [List.drop_drop] at hx2 hy2
    obtain ⟨r2,i,hi⟩:=ih w xs ys hx2 hy2
    simp only [Op.eqFields,hn',ne_eq,not_false_eq_true,if_true,Sem.run_bind,ho,p1,p2,e,Result.andThen_ok]
    have hsp:∀ zs:List Value,zs.drop off=(zs.drop off).take k1.length++zs.drop (off+k1.length):=fun zs=>by rw [← List.drop_drop];exact (List.take_append_drop _ _).symm
    have hlx:=CX hx1
    have hly:=CX hy1
    cases r1 with
    | true =>
      have hq:=he.1 rfl
      refine ⟨r2,by simpa using i,?_⟩
      exact Df
    | false =>
      refine ⟨false,by simp,?_⟩
      constructor
      · intro h;simp at h
      · intro h
        rw [hsp xs,hsp ys] at h
        have:=he.2 (List.append_inj_left h (by rw [hlx,hly]))
        simp at this
theorem EqK.struct {d t:Nat}{fs:Array Field}{ks:List CK}(hu:P.underlying t=some (.struct fs)) (hp:P.stoodInHeld t=false) (hs:(P.info? t).map (·.size)=some ks.length) (h:MZ P d fs.toList 0 ks):EqK P (d+1) t true ks:=by
  refine ⟨hs,⟨_,hu,rfl⟩,fun h=>by simp at h,?_⟩
  intro w xs ys hx hy
  have hfs:P.fieldsOf t=fs:=by simp [Program.fieldsOf,hu]
  obtain ⟨r,h1,h2⟩:=Uy h w xs ys (by simpa using hx) (by simpa using hy)
  refine ⟨r,?_,by simpa using h2⟩
  show (Op.equalIn (d+1) t (.agg xs.toArray) (.agg ys.toArray)).run P w=_
  rw [run_equalIn_struct w d t xs.toArray ys.toArray (by rw [hfs];exact hu) hp,hfs]
  exact h1
theorem Qe {d e:Nat}{row:Bool}{k1:List CK}(hE:EqK P d e row k1) (w:World) (xs ys:List Value):∀ (m j:Nat),BA ((List.replicate m k1).flatten) (xs.drop (j*k1.length))=true→BA ((List.replicate m k1).flatten) (ys.drop (j*k1.length))=true →
    ∃ r:Bool,(Op.eqItems d e k1.length xs.toArray ys.toArray (List.range' j m)).run P w = .ok r w∧(r=true↔xs.drop (j*k1.length)=ys.drop (j*k1.length))
  | 0,j,hx,hy=>by
    have h1:=CX hx;have h2:=CX hy
    simp only [List.replicate_zero,List.flatten_nil,List.length_nil,List.length_eq_zero_iff] at h1 h2
    exact ⟨true,by simp [Op.eqItems],by simp [h1,h2]⟩
  | m+1,j,hx,hy=>by
    rw [List.replicate_succ,List.flatten_cons] at hx hy
    obtain ⟨hx1,hx2⟩:=HR hx
    obtain ⟨hy1,hy2⟩:=HR hy
    have p1:=KM hE w xs (j*k1.length) hx1
    have p2:=KM hE w ys (j*k1.length) hy1
    obtain ⟨r1,e1,he⟩:=hE.eq w _ _ hx1 hy1
    have hj:j*k1.length+k1.length=(j+1)*k1.length:=by rw [Nat.add_mul,Nat.one_mul]
    rw [List.drop_drop,hj] at hx2 hy2
    obtain ⟨r2,i,hi⟩:=Qe hE w xs ys m (j+1) hx2 hy2
    simp only [List.range'_succ,Op.eqItems,Sem.run_bind,p1,p2,e1,Result.andThen_ok]
    have hsp:∀ zs:List Value,zs.drop (j*k1.length)=(zs.drop (j*k1.length)).take k1.length++zs.drop ((j+1)*k1.length):=fun zs=>by rw [← hj, ← List.drop_drop];exact (List.take_append_drop _ _).symm
    have hlx:=CX hx1
    have hly:=CX hy1
    cases r1 with
    | true =>
      have hq:=he.1 rfl
      refine ⟨r2,by simpa using i,?_⟩
      exact Df
    | false =>
      refine ⟨false,by simp,?_⟩
      constructor
      · intro h;simp at h
      · intro h
        rw [hsp xs,hsp ys] at h
        have:=he.2 (List.append_inj_left h (by rw [hlx,hly]))
        simp at this
theorem EqK.array {d t e m:Nat}{row:Bool}{k1 ks:List CK}(hu:P.underlying t=some (.array m e)) (hs:(P.info? t).map (·.size)=some ks.length) (hE:EqK P d e row k1) (hks:(List.replicate m k1).flatten=ks):EqK P (d+1) t true ks:=by
  subst hks
  refine ⟨hs,⟨_,hu,rfl⟩,fun h=>by simp at h,?_⟩
  intro w xs ys hx hy
  obtain ⟨r,h1,h2⟩:=Qe hE w xs ys m 0 (by simpa using hx) (by simpa using hy)
  refine ⟨r,?_,by simpa using h2⟩
  have hi:=hE.size
  cases hq:P.info? e with
  | none=>simp [hq] at hi
  | some i =>
    have hc:P.cellsOf e=k1.length:=by simp [Program.cellsOf,hi]
    show (Op.equalIn (d+1) t (.agg xs.toArray) (.agg ys.toArray)).run P w=_
    rw [run_equalIn_array w d xs.toArray ys.toArray hu hq,hc,List.range_eq_range']
    exact h1
section
variable {t yt:TypeId}{x y:Operand}{xs ys:List Value}{ks:List CK}
theorem N4 {a:Act}{w:World}(ho:o.op = .binOp .eql t x y yt) (h1:a.eval x = .agg xs.toArray) (h2:a.eval y = .agg ys.toArray) (hE:EqK P 10000 t true ks) (hg:P.eqGuardType P.depth t=false)
    (fx:BA ks xs=true) (fy:BA ks ys=true):∃ r:Bool,(execOp a.eval o).run P w = .ok (.value (.bool r)) w∧(r=true↔xs=ys):=by
  obtain ⟨r,h,hr⟩:=hE.eq w xs ys fx fy
  have h':(Op.equalIn 10000 t (.agg xs.toArray) (.agg ys.toArray)).run P w = .ok r w:=h
  refine ⟨r,?_,hr⟩
  unfold execOp
  simp only [ho,h1,h2,Sem.run_bind,run_eqGuard_agg w _ t _ _ _ _ hg,Result.andThen_ok,run_eql_struct,h']
  rfl
theorem NW {a:Act}{w:World}(ho:o.op = .binOp .neq t x y yt) (h1:a.eval x = .agg xs.toArray) (h2:a.eval y = .agg ys.toArray) (hE:EqK P 10000 t true ks) (hg:P.eqGuardType P.depth t=false)
    (fx:BA ks xs=true) (fy:BA ks ys=true):∃ r:Bool,(execOp a.eval o).run P w = .ok (.value (.bool (!r))) w∧(r=true↔xs=ys):=by
  obtain ⟨r,h,hr⟩:=hE.eq w xs ys fx fy
  have h':(Op.equalIn 10000 t (.agg xs.toArray) (.agg ys.toArray)).run P w = .ok r w:=h
  refine ⟨r,?_,hr⟩
  unfold execOp
  simp only [ho,h1,h2,Sem.run_bind,run_eqGuard_agg w _ t _ _ _ _ hg,Result.andThen_ok,run_neq_struct,h']
  rfl
theorem KI (ho:o.op = .binOp .eql t x y yt) (hx:ev l x=some (.agg xs.toArray)) (hy:ev l y=some (.agg ys.toArray)) (hE:EqK P 10000 t true ks) (hg:P.eqGuardType P.depth t=false)
    (fx:BA ks xs=true) (fy:BA ks ys=true) (e:xs=ys):Val P C n l o (.bool true):=fun a w ha _=>by
  obtain ⟨r,h,hr⟩:=N4 (w:=w) ho (ha.ev hx) (ha.ev hy) hE hg fx fy
  rw [hr.2 e] at h;exact h
theorem KK (ho:o.op = .binOp .eql t x y yt) (hx:ev l x=some (.agg xs.toArray)) (hy:ev l y=some (.agg ys.toArray)) (hE:EqK P 10000 t true ks) (hg:P.eqGuardType P.depth t=false)
    (fx:BA ks xs=true) (fy:BA ks ys=true) (e:¬ xs=ys):Val P C n l o (.bool false):=fun a w ha _=>by
  obtain ⟨r,h,hr⟩:=N4 (w:=w) ho (ha.ev hx) (ha.ev hy) hE hg fx fy
  cases r
  · exact h
  · exact absurd (hr.1 rfl) e
theorem EU (ho:o.op = .binOp .neq t x y yt) (hx:ev l x=some (.agg xs.toArray)) (hy:ev l y=some (.agg ys.toArray)) (hE:EqK P 10000 t true ks) (hg:P.eqGuardType P.depth t=false)
    (fx:BA ks xs=true) (fy:BA ks ys=true) (e:xs=ys):Val P C n l o (.bool false):=fun a w ha _=>by
  obtain ⟨r,h,hr⟩:=NW (w:=w) ho (ha.ev hx) (ha.ev hy) hE hg fx fy
  rw [hr.2 e] at h;exact h
theorem Gp (ho:o.op = .binOp .neq t x y yt) (hx:ev l x=some (.agg xs.toArray)) (hy:ev l y=some (.agg ys.toArray)) (hE:EqK P 10000 t true ks) (hg:P.eqGuardType P.depth t=false)
    (fx:BA ks xs=true) (fy:BA ks ys=true) (e:¬ xs=ys):Val P C n l o (.bool true):=fun a w ha _=>by
  obtain ⟨r,h,hr⟩:=NW (w:=w) ho (ha.ev hx) (ha.ev hy) hE hg fx fy
  cases r
  · exact h
  · exact absurd (hr.1 rfl) e
end
theorem Q6 {op:BinOp}{t yt:TypeId}{x y:Operand}{u v:Value}{b:Bool}{a:Act}{w:World}(ho:o.op = .binOp op t x y yt) (h1:a.eval x=u) (h2:a.eval y=v) (hg:(eqGuard op t x y u v).run P w = .ok () w) (hb:(binOp op t u v).run P w = .ok (.bool b) w) :
    (execOp a.eval o).run P w = .ok (.value (.bool b)) w:=by
  unfold execOp
  simp only [ho,h1,h2,Sem.run_bind,hg,Result.andThen_ok,hb]
  rfl
theorem Mr {t yt:TypeId}{x y:Operand}{A B:Bool}(ho:o.op = .binOp .neq t x y yt) (hx:ev l x=some (.bool A)) (hy:ev l y=some (.bool B)) (hu:P.underlying t=some .bool):Val P C n l o (.bool (decide (A≠B))):=fun a w ha _=>by
  have h':(Op.equal t (.bool A) (.bool B)).run P w = .ok (A == B) w:=run_equalIn_bool w 9999 t A B hu
  have e:(!(A == B))=decide (A≠B):=by cases A <;> cases B <;> rfl
  exact Q6 ho (ha.ev hx) (ha.ev hy) (by simp [eqGuard]) (by simp only [binOp];rw [← e];simp [h'])
end

section
variable {P:Program}{C:World→Prop}{ops:Array Oper}{Q:Exit→Act→World→Prop}{n:Nat}{p:Nat→Prop}{w0:World}{o:Oper}{rest:List Oper}{l:Kn}{L:List Ent}

instance {E L:List Ent}{g:Nat}{cs:List Value}[h:At L g cs]:At (E++L) g cs:=⟨List.mem_append_right _ h.mem⟩
instance {E L:List Ent}{g:Nat}{ob:Obj}[h:AtO L g ob]:AtO (E++L) g ob:=⟨List.mem_append_right _ h.mem⟩
instance {E L L':List Ent}{g:Nat}{e:Ent}[h:Put L g e L']:Put (E++L) g e (E++L') :=
  ⟨fun he=>let ⟨A,B,e',h1,h2,h3⟩:=h.ok he; ⟨E++A,B,e',by rw [h1,List.append_assoc],by rw [h2,List.append_assoc],h3⟩⟩

theorem Iq {w:World}{g off m:Nat}{cs:List Value}(hm:cs.length=m) (hc:w.rangeAt g off cs):(loadCells ⟨g,off,none⟩ m).run P w = .ok cs.toArray w:=by
  subst hm
  exact run_loadCells_list (P:=P) w ⟨g,off,none⟩ cs (fun j v hv=>by rw [It];exact hc j v hv)

/-! ### copy -/
theorem WL.copyL {t ts e d g off dl dc b so sl sc:Nat}{x y:Operand}{cs new:List Value}{L':List Ent}(ho:o.op = .call { callee:=.builtin .copy,args:=#[x,y],argTypes:=#[t,ts] })
    (hx:ev l x=some (.slice (some ⟨g,off,none⟩) dl dc)) (hy:ev l y=some (.slice (some ⟨b,so,none⟩) sl sc)) (hu:P.underlying t=some (.slice e)) (hs:(P.info? e).map (·.size)=some 1)
    (hlen:new.length=min sl dl) (hc:∀ w,St p w0 w L→w.rangeAt b so new) (hall:new.all one=true) [At L g cs] (hle:off+new.length≤cs.length) [Put L g (.row g (CW cs off new)) L'] (hg:On ops o l) (hd:o.dst=some d) (hn:Nat.blt d n=true)
    (h:WL P ops Q n p w0 rest ((d, .int .i64 new.length)::l) L'):WL P ops Q n p w0 (o::rest) l L:=by
  refine WL.op hg hd hn fun a w ha hS=>?_
  have hxy:evs l [x,y]=some [.slice (some ⟨g,off,none⟩) dl dc, .slice (some ⟨b,so,none⟩) sl sc]:=by simp [evs,hx,hy]
  obtain ⟨cc,hr⟩:=DJ (P:=P) (w:=w) (xs:=[x,y]) ho hxy ha
  obtain ⟨w',hst,hR',hF⟩:=GK (P:=P) new 0 off cs w (hS.row (g:=g)) Er hall
  refine ⟨_,w',L',?_,hS.put (g:=g) (e:=.row g (CW cs off new)) rfl hF (show Row _ _ _ by simpa using hR'),h⟩
  rw [hr]
  have hl:=Iq (P:=P) hlen (hc w hS)
  simp [builtin,Builtin.copy_,run_underlying hu,Builtin.lenOf,run_sizeOf hs,Builtin.firstCells,hl,hst,goInt,hlen]
def SG (b:UInt8):Value:=.int .u8 b.toNat
/-! ### append -/
def Vec (s:Nat) (ad:Option Addr) (k c:Nat) (xs:List Value) (E:List Ent):Prop :=
  (ad=none∧k=0∧c=0∧xs=[]∧E=[])∨(∃ g cs,ad=some ⟨g,0,none⟩∧E=[.row g cs]∧cs.take (k*s)=xs∧cs.length=c*s∧k≤c)
theorem Vec.nil (s:Nat):Vec s none 0 0 [] []:=.inl ⟨rfl,rfl,rfl,rfl,rfl⟩
theorem Vec.row {s g k c:Nat}{cs xs:List Value}(hx:cs.take (k*s)=xs) (hl:cs.length=c*s) (hk:k≤c):Vec s (some ⟨g,0,none⟩) k c xs [.row g cs]:=.inr ⟨g,cs,rfl,rfl,hx,hl,hk⟩
theorem Vec.len {s k c:Nat}{ad:Option Addr}{xs:List Value}{E:List Ent}(h:Vec s ad k c xs E):xs.length=k*s∧k≤c:=by
  rcases h with ⟨_,rfl,rfl,rfl,_⟩|⟨g,cs,_,_,rfl,hl,hk⟩
  · simp
  · refine ⟨?_,hk⟩
    rw [List.length_take,hl]
    have:=Nat.mul_le_mul_right s hk
    omega
theorem Ya (m:Nat) (c:Nat):Builtin.growBy m 4 c≤3*c+1200:=by
  have h0:∀ c,Builtin.growBy m 0 c=c:=fun c=>rfl
  have h1:∀ c,Builtin.growBy m 1 c≤max c (c+(c+768) / 4):=fun c=>by
    rw [Builtin.growBy,h0];split <;> omega
  have h2:∀ c,Builtin.growBy m 2 c≤max c (Builtin.growBy m 1 (c+(c+768) / 4)):=fun c=>by
    rw [Builtin.growBy];split <;> omega
  have h3:∀ c,Builtin.growBy m 3 c≤max c (Builtin.growBy m 2 (c+(c+768) / 4)):=fun c=>by
    rw [Builtin.growBy];split <;> omega
  have h4:∀ c,Builtin.growBy m 4 c≤max c (Builtin.growBy m 3 (c+(c+768) / 4)):=fun c=>by
    rw [Builtin.growBy];split <;> omega
  have a4:=h4 c
  have a3:=h3 (c+(c+768) / 4)
  have a2:=h2 (c+(c+768) / 4+(c+(c+768) / 4+768) / 4)
  have a1:=h1 (c+(c+768) / 4+(c+(c+768) / 4+768) / 4+(c+(c+768) / 4+(c+(c+768) / 4+768) / 4+768) / 4)
  omega
theorem nextslicecap_le (m c:Nat) (h:c<m):Builtin.nextslicecap m c≤3*m+1200:=by
  unfold Builtin.nextslicecap
  have:=Ya m c
  split
  · omega
  · split <;> omega
theorem JZ (z:Array Value) (k:Nat):(Builtin.zeroCells z k).toList.length=k*z.size:=by simp [Builtin.zeroCells]

theorem PN {t tx e s by_ k c m:Nat}{ad:Option Addr}{xs new zs:List Value}{E L0:List Ent}{w:World}{y:Value}{ty:TypeId}{dx:TypeDesc}
    (hu:P.underlying t=some (.slice e)) (hux:P.underlying tx=some dx) (hxi:∀ k,dx≠.int k) (hs:(P.info? e).map (·.size)=some s) (hb:(P.info? e).map (·.bytes)=some by_) (hz:Zero P e zs) (hzl:zs.length=s)
    (hby:0<by_) (hV:Vec s ad k c xs E) (hS:St p w0 w (E++L0)) (hlen:(Builtin.lenOf y).run P w = .ok m w) (hfc:∀ w',St p w0 w' (E++L0)→(Builtin.firstCells s m y).run P w' = .ok new.toArray w') (hnl:new.length=m*s) (hall:new.all one=true)
    (hbig:(3*(k+m)+1200)*by_≤281474976710656) :
    ∃ ad' c' E' w',(Builtin.append_ #[t,tx] ty #[.slice ad k c,y]).run P w = .ok (.slice ad' (k+m) c') w'∧Vec s ad' (k+m) c' (xs++new) E'∧St p w0 w' (E'++L0)∧(k+m≤c→ad'=ad∧c'=c):=by
  have hq:∃ i,P.info? e=some i∧i.bytes=by_:=by
    cases hq:P.info? e with
    | none=>simp [hq] at hb
    | some i=>exact ⟨i,rfl,by simpa [hq] using hb⟩
  obtain ⟨ti,hi,hib⟩:=hq
  have hzi:(match dx with | .int _=>true|_=>false)=false:=by
    cases dx <;> first|rfl|(exact absurd rfl (hxi _))
  have hask:∀ (k:Nat) (w:World),(askRoom k).run P w = .ok () w:=fun k w=>by
    unfold askRoom
    by_cases h:k > roomBytes
    · rw [if_pos h];rfl
    · rw [if_neg h];rfl
  by_cases hroom:k+m≤c
  · rcases hV with ⟨rfl,rfl,rfl,rfl,rfl⟩|⟨g,cs,rfl,rfl,rfl,hcl,hk⟩
    · obtain rfl:m=0:=by omega
      have hn0:new=[]:=List.length_eq_zero_iff.1 Er
      subst hn0
      refine ⟨none,0,[],w,?_, .inl ⟨rfl,rfl,rfl,rfl,rfl⟩,hS,fun _=>⟨rfl,rfl⟩⟩
      simp [Builtin.append_,run_underlying hu,run_underlying hux,run_sizeOf hs,hlen,hfc w hS]
    · replace hS:St p w0 w (.row g cs::L0):=hS
      have hmul:(k+m)*s≤c*s:=Nat.mul_le_mul_right s hroom
      rw [Nat.add_mul] at hmul
      obtain ⟨w',hst,hR',hF⟩:=GK (P:=P) new 0 (k*s) cs w (hS.row (g:=g) (cs:=cs)) Er hall
      have hsp:(CW cs (k*s) new).take ((k+m)*s)=cs.take (k*s)++new:=by
        rw [HD _ _ _ Er,Nat.add_mul,List.take_append_of_le_length Fo]
        rw [List.take_of_length_le Fo]
      refine ⟨some ⟨g,0,none⟩,c,[.row g (CW cs (k*s) new)],w',?_,Vec.row hsp (by rw [Jy _ _ _ (by omega),hcl]) hroom,
        hS.put (L':=.row g (CW cs (k*s) new)::L0) (g:=g) (e:=.row g (CW cs (k*s) new)) rfl hF (show Row _ _ _ by simpa using hR'),fun _=>⟨rfl,rfl⟩⟩
      simp [Builtin.append_,run_underlying hu,run_underlying hux,run_sizeOf hs,hlen,hfc w hS,hroom,It,hst]
  · have hle:=nextslicecap_le (k+m) c Er
    have hmul:Builtin.nextslicecap (k+m) c*by_≤(3*(k+m)+1200)*by_:=Nat.mul_le_mul_right by_ hle
    have hcap:¬ (Builtin.nextslicecap (k+m) c*by_ > 2 ^ 48):=Er
    have hvl:=hV.len
    have hold:∀ w',St p w0 w' (E++L0)→(Builtin.firstCells s k (.slice ad k c)).run P w' = .ok xs.toArray w':=fun w' hS'=>by
      rcases hV with ⟨rfl,rfl,rfl,rfl,rfl⟩|⟨g,cs,rfl,rfl,rfl,hcl,hk⟩
      · simp [Builtin.firstCells]
      · replace hS':St p w0 w' (.row g cs::L0):=hS'
        refine Iq (P:=P) hvl.1 ?_
        intro i v hv
        rw [Nat.zero_add]
        refine hS'.cell (g:=g) (cs:=cs) ?_
        rw [List.getElem?_take] at hv
        split at hv
        · exact hv
        · cases hv
    obtain ⟨z,hz,hzs⟩:=hz
    have hzc:z.cells=zs.toArray:=by rw [← hzs]
    have hd:=hS.drew
    let nc:=(Question.appendCap (k+m) c e).cut (w.tape w.drawn (.appendCap (k+m) c e))
    have hnc:k+m≤nc:=by show k+m≤(k+m)+_;omega
    let rs:=(Builtin.zeroCells zs.toArray (nc-(k+m))).toList
    have hrl:rs.length=(nc-(k+m))*s:=by rw [JZ];simp [hzl]
    have hnew:St p w0 (w.drew.alloc (.cells (xs++new++rs).toArray e)) (.row w.drew.heap.size (xs++new++rs)::L0):=by
      have:St p w0 w.drew L0:=by
        refine hd.sub ?_
        exact List.sublist_append_right E L0
      exact St.new this
    refine ⟨some ⟨w.drew.heap.size,0,none⟩,nc,[.row w.drew.heap.size (xs++new++rs)],_,?_,Vec.row ?_ ?_ hnc,hnew,fun h=>absurd h hroom⟩
    · have hcut:(choose (.appendCap (k+m) c e)).run P w = .ok nc w.drew:=rfl
      have hi64:¬ ((k:Int)+(m:Int) > IntKind.i64.max∧(false=true∨by_=0)):=fun h=>by
        rcases h.2 with h|h
        · cases h
        · omega
      exact A7
    · rw [Nat.add_mul,List.append_assoc, ← List.append_assoc,List.take_append_of_le_length Fo,List.take_of_length_le Fo]
    · simp only [List.length_append,hvl.1,hnl,hrl]
      rw [← Nat.add_mul, ← Nat.add_mul]
      congr 1
      omega
section
variable {t tx e s by_ k c d m:Nat}{ad:Option Addr}{xs new zs:List Value}{E L0:List Ent}{x y:Operand}{dx:TypeDesc}
theorem WL.AN {sa:Option Addr}{mc:Nat}(ho:o.op = .call { callee:=.builtin .append,args:=#[x,y],argTypes:=#[t,tx] }) (hx:ev l x=some (.slice ad k c)) (hy:ev l y=some (.slice sa m mc))
    (hu:P.underlying t=some (.slice e)){e':TypeId}(hux:P.underlying tx=some (.slice e')) (hs:(P.info? e).map (·.size)=some s) (hb:(P.info? e).map (·.bytes)=some by_) (hz:Zero P e zs) (hzl:zs.length=s) (hby:Nat.blt 0 by_=true)
    (hV:Vec s ad k c xs E) (hc:0<m→∃ b so,sa=some ⟨b,so,none⟩∧∀ w,St p w0 w (E++L0)→w.rangeAt b so new) (hnl:new.length=m*s) (hall:new.all one=true) (hbig:(3*(k+m)+1200)*by_≤281474976710656)
    (hg:On ops o l) (hd:o.dst=some d) (hn:Nat.blt d n=true)
    (h:∀ ad' c' E',Vec s ad' (k+m) c' (xs++new) E'→(k+m≤c→ad'=ad∧c'=c)→WL P ops Q n p w0 rest ((d, .slice ad' (k+m) c')::l) (E'++L0)):WL P ops Q n p w0 (o::rest) l (E++L0):=by
  refine WL.op hg hd hn fun a w ha hS=>?_
  have hxy:evs l [x,y]=some [.slice ad k c, .slice sa m mc]:=by simp [evs,hx,hy]
  obtain ⟨cc,hr⟩:=DJ (P:=P) (w:=w) (xs:=[x,y]) ho hxy ha
  have hfc:∀ w',St p w0 w' (E++L0)→(Builtin.firstCells s m (.slice sa m mc)).run P w' = .ok new.toArray w':=fun w' hS'=>by
    by_cases hm:0<m
    · obtain ⟨b,so,rfl,hcs⟩:=hc hm
      exact Iq (P:=P) hnl (hcs w' hS')
    · obtain rfl:m=0:=by omega
      have hn0:new=[]:=List.length_eq_zero_iff.1 Er
      subst hn0
      cases sa with
      | none=>rfl
      | some q=>simp [Builtin.firstCells,loadCells,loadCellsFrom]
  obtain ⟨ad',c',E',w',h1,h2,h3,h4⟩:=PN (P:=P) (ty:=o.type) hu hux (fun _=>by simp) hs hb hz hzl (by simpa using hby) hV hS (by simp [Builtin.lenOf]) hfc hnl hall hbig
  refine ⟨_,w',E'++L0,?_,h3,h ad' c' E' h2 h4⟩
  rw [hr]
  simp [builtin,h1]
theorem WL.AcT {bs:ByteArray}(ho:o.op = .call { callee:=.builtin .append,args:=#[x,y],argTypes:=#[t,tx] }) (hx:ev l x=some (.slice ad k c)) (hy:ev l y=some (.string bs)) (hm:bs.size=m)
    (hu:P.underlying t=some (.slice e)) (hux:P.underlying tx=some .string) (hs:(P.info? e).map (·.size)=some 1) (hb:(P.info? e).map (·.bytes)=some by_) (hz:Zero P e zs) (hzl:zs.length=1) (hby:Nat.blt 0 by_=true)
    (hV:Vec 1 ad k c xs E) (hnew:bs.data.toList.map SG=new) (hbig:(3*(k+m)+1200)*by_≤281474976710656)
    (hg:On ops o l) (hd:o.dst=some d) (hn:Nat.blt d n=true)
    (h:∀ ad' c' E',Vec 1 ad' (k+m) c' (xs++new) E'→(k+m≤c→ad'=ad∧c'=c)→WL P ops Q n p w0 rest ((d, .slice ad' (k+m) c')::l) (E'++L0)):WL P ops Q n p w0 (o::rest) l (E++L0):=by
  subst hm hnew
  refine WL.op hg hd hn fun a w ha hS=>?_
  have hxy:evs l [x,y]=some [.slice ad k c, .string bs]:=by simp [evs,hx,hy]
  obtain ⟨cc,hr⟩:=DJ (P:=P) (w:=w) (xs:=[x,y]) ho hxy ha
  have hfc:∀ w',St p w0 w' (E++L0)→(Builtin.firstCells 1 bs.size (.string bs)).run P w' = .ok (bs.data.toList.map SG).toArray w':=fun w' hS'=>by
    have:bs.data.map (fun b=>Value.int .u8 (b.toNat:Int))=(bs.data.toList.map SG).toArray:=by
      apply Array.toList_inj.1
      rw [Array.toList_map]
      rfl
    simp [Builtin.firstCells,this]
  obtain ⟨ad',c',E',w',h1,h2,h3,h4⟩:=PN (P:=P) (ty:=o.type) hu hux (fun _=>by simp) hs hb hz hzl (by simpa using hby) hV hS (by simp [Builtin.lenOf]) hfc Fe (List.all_eq_true.2 (fun v hv=>by obtain ⟨b,_,rfl⟩:=List.mem_map.1 hv;rfl)) hbig
  refine ⟨_,w',E'++L0,?_,h3,h ad' c' E' h2 h4⟩
  rw [hr]
  simp [builtin,h1]
end

/-! ### Literals of slices -/
theorem Si {zs:List Value}{s:Nat}(hzl:zs.length=s):∀ (len i:Nat),i<len*s→((List.replicate len zs).flatten)[i]?=zs[i % s]?
  | 0,i,h=>by simp at h
  | k+1,i,h=>by
    rw [List.replicate_succ,List.flatten_cons]
    rw [Nat.add_mul] at h
    by_cases hlt:i<s
    · rw [List.getElem?_append_left Er,Nat.mod_eq_of_lt hlt]
    · rw [List.getElem?_append_right Er,hzl,Si hzl k (i-s) Er, ← Nat.mod_eq_sub_mod Er]
theorem Tf {zs:List Value}{s:Nat}(hzl:zs.length=s) (len:Nat):((List.replicate len zs).flatten).length=len*s:=by simp [hzl]
theorem Aax {zs:List Value}{s:Nat}(hzl:zs.length=s) (len:Nat):(Array.range (len*s)).map (zs.toArray[· % zs.toArray.size]!)=((List.replicate len zs).flatten).toArray:=by
  apply Array.ext
  · simp [hzl]
  · intro i hi1 hi2
    have hi:i<len*s:=by simpa using hi1
    have hs0:0<s:=by
      rcases Nat.eq_zero_or_pos s with h|h
      · subst h;simp at hi
      · exact h
    have hmod:i % s<zs.length:=by rw [hzl];exact Nat.mod_lt _ hs0
    have h:=Si hzl len i hi
    rw [List.getElem?_eq_getElem (by simpa using hi2),List.getElem?_eq_getElem hmod] at h
    simp only [Array.getElem_map,Array.getElem_range,List.size_toArray,hzl,List.getElem_toArray]
    rw [getElem!_pos _ _ (by simpa using hmod)]
    simpa using h.symm
theorem WL.buildSlice {t e s len d:Nat}{parts:List (Nat×Operand)}{vs:List (Nat×Value)}{zs out:List Value}(ho:o.op = .buildSlice t len parts.toArray) (hx:evp l parts=some vs) (hu:P.underlying t=some (.slice e)) (hs:(P.info? e).map (·.size)=some s)
    (hz:Zero P e zs) (hzl:zs.length=s) (hbig:len*s≤16777216) (hf:Oc (fun i=>some (i*s,s)) ((List.replicate len zs).flatten) vs=some out) (hg:On ops o l) (hd:o.dst=some d) (hn:Nat.blt d n=true)
    (h:∀ g,w0.heap.size≤g→WL P ops Q n p w0 rest ((d, .slice (some ⟨g,0,none⟩) len len)::l) (.row g out::L)):WL P ops Q n p w0 (o::rest) l L:=by
  refine WL.op hg hd hn fun a w ha hS=>?_
  obtain ⟨z,hz,hzs⟩:=hz
  have hzc:z.cells=zs.toArray:=by rw [← hzs]
  have h1:=ha.evp hx
  have h2:=fill_eq _ _ _ _ hf
  refine ⟨_,_,_,?_,St.new (cs:=out) (T:=e) hS,h _ hS.frm.size⟩
  have hrow:=Aax hzl len
  have hnb:¬ (len*s > 2 ^ 24):=Er
  have hz':∀ w:World,(if len*s=0 then (pure #[]:Sem (Array Value)) else do pure (← zeroValue e).cells).run P w = .ok (if len*s=0 then #[] else zs.toArray) w:=fun w=>by
    split <;> simp [FC hz,hzc]
  have hrow':(Array.range (len*s)).map ((if len*s=0 then (#[]:Array Value) else zs.toArray)[· % (if len*s=0 then (#[]:Array Value) else zs.toArray).size]!)=((List.replicate len zs).flatten).toArray:=by
    by_cases h0:len*s=0
    · have hl:=Tf hzl len
      have:(List.replicate len zs).flatten=[]:=List.length_eq_zero_iff.1 Er
      rw [this,h0]
      exact Array.ext Fe (fun i h=>by simp at h)
    · simp only [h0,if_false];exact hrow
  unfold execOp
  simp only [ho,Instr.buildSlice,Sem.run_bind,run_underlying hu,Result.andThen_ok,run_sizeOf hs,hnb,if_false,Sem.run_pure]
  by_cases h0:len*s=0
  · simp only [h0,if_true] at hrow' ⊢
    have hl:=Tf hzl len
    have hnil:(List.replicate len zs).flatten=[]:=List.length_eq_zero_iff.1 Er
    have hz0:∀ f:Nat→Value,Array.map f (Array.range 0) = #[]:=fun f=>Array.ext Fe (fun i h=>by simp at h)
    rw [hnil] at h2
    simp [h1,hz0,h2,newRow,newObj,Sem.run]
  · simp only [h0,if_false] at hrow' ⊢
    have hr2:Array.map (fun x=>zs[x % zs.length]?.getD default) (Array.range (len*s))=((List.replicate len zs).flatten).toArray:=by
      rw [← hrow'];simp
    simp [FC hz,hzc,h1,hr2,h2,newRow,newObj,Sem.run]
end

section
variable {P:Program}{C:World→Prop}{ops:Array Oper}{Q:Exit→Act→World→Prop}{n:Nat}{p:Nat→Prop}{w0:World}{o:Oper}{rest:List Oper}{l:Kn}{L:List Ent}

/-! ### Bytes that read as a function says -/
def bl (f:Nat→Int) (n:Nat):List Int:=(List.range n).map f
theorem bl_len (f:Nat→Int) (n:Nat):(bl f n).length=n:=by simp [bl]
theorem bl_get (f:Nat→Int) (n i:Nat) (h:i<n):(bl f n).getD i 0=f i:=by simp [bl,List.getD,h]
theorem Rd.list {w:World}{b off n:Nat}{f:Nat→Int}(h:Rd w b off n f):∀ i,i<n→w.cell? ⟨b,off+i,none⟩=some (.int .u8 ((bl f n).getD i 0)):=fun i hi=>by
  rw [bl_get f n i hi];exact h i hi
def str (f:Nat→Int) (n:Nat):ByteArray:=strOfNums (bl f n)
def RdO (w:World) (a:Option Addr) (n:Nat) (f:Nat→Int):Prop:=0<n→∃ b off,a=some ⟨b,off,none⟩∧Rd w b off n f
def bcs (f:Nat→Int) (n:Nat):List Value:=(List.range n).map fun i=>.int .u8 (f i)
theorem Kv (f:Nat→Int) (n:Nat):(bcs f n).length=n:=by simp [bcs]
theorem RN (f:Nat→Int) (n i:Nat) (h:i<n):(bcs f n)[i]?=some (.int .u8 (f i)):=by simp [bcs,h]
theorem Ade (f:Nat→Int) (n:Nat):(bcs f n).all one=true:=List.all_eq_true.2 (fun v hv=>by obtain ⟨b,_,rfl⟩:=List.mem_map.1 hv;rfl)
theorem rdOOld {a:Option Addr}{n:Nat}{f:Nat→Int}(hp:∀ b, ¬ p b) (h:RdO w0 a n f):∀ w,St p w0 w L→RdO w a n f:=fun w hS hn=>by
  obtain ⟨b,off,rfl,hr⟩:=h hn
  exact ⟨b,off,rfl,hS.IW (hp b) hr⟩

theorem Lu (f:Nat→Int) (n:Nat):(str f n).size=n:=by
  simp [str,strOfNums,bl,ByteArray.size]
/-! ### Conversions -/
theorem Uq {s d e cap k:Nat}{a:Option Addr}{f:Nat→Int}{w:World}(hs:P.underlying s=some (.slice e)) (he:P.underlying e=some (.int .u8)) (hd:P.underlying d=some .string) (hr:RdO w a k f) :
    (convert s d (.slice a k cap)).run P w = .ok (.string (str f k)) w:=by
  by_cases hn:0<k
  · obtain ⟨b,off,rfl,hr'⟩:=hr hn
    exact run_convert_bytes_arg w s e hs he b off k cap (bl f k) (bl_len _ _) hr'.list d hd
  · obtain rfl:k=0:=by omega
    cases a with
    | none=>exact run_convert_bytes_nil w s e hs he 0 cap d hd
    | some ad =>
      rw [run_convert_bytes_string w s d e (some ad) 0 cap hs he hd,run_bytesToString w ad 0 cap [] Gf]
      rfl
theorem CJ {s d e cap k:Nat}{a:Option Addr}{x:Operand}(f:Nat→Int) (ho:o.op = .convert s d x) (hx:ev l x=some (.slice a k cap)) (hs:P.underlying s=some (.slice e)) (he:P.underlying e=some (.int .u8)) (hd:P.underlying d=some .string)
    (hr:∀ w,C w→RdO w a k f):Val P C n l o (.string (str f k)):=fun ac w ha hC=>by
  have h1:=ha.ev hx
  unfold execOp
  simp [ho,h1,Uq hs he hd (hr w hC)]
theorem FT {t:Nat}{x:Operand}{v:Value}{d:TypeDesc}(ho:o.op = .makeInterface t x) (hx:ev l x=some v) (hu:P.underlying t=some d) (hd:(match d with | .interface _=>true|_=>false)=false):Val P C n l o (.iface t v):=fun ac w ha _=>by
  have h1:=ha.ev hx
  unfold execOp
  simp only [ho,h1,Instr.makeInterface,Sem.run_bind,run_underlying hu,Result.andThen_ok]
  cases d <;> simp_all
end
end Go.Proofs.YtcmpamnhegndnaaGreatDoor
