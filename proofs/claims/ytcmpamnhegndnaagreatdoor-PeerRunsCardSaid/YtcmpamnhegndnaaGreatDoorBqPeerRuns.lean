/- Texts joined: engine, contracts and laws, in the order in which they build. -/
import Derived.Test.YtcmpamnhegndnaaGreatDoorBpPeerRuns
namespace Go.Proofs.YtcmpamnhegndnaaGreatDoor
open Go.RowKit
section Gq
attribute [local irreducible] WL WC WE WQ WP WH WR WM WRH

theorem UG (w:World):Calls Tryz.prog 13 #[.pointer none] w fun e w'=>e = .returned (.slice none 0 0)∧Frm (fun _=>False) w w':=by
  refine enter Tryz.func13 rfl Tryz.ntmps13 rfl (St.start (fun _=>False) w) ?_
  exact Ef
theorem Xj (w:World):Calls Tryz.prog 28 #[.pointer none] w fun e w'=>e = .returned (.slice none 0 0)∧Frm (fun _=>False) w w':=by
  refine enter Tryz.func28 rfl Tryz.ntmps28 rfl (St.start (fun _=>False) w) ?_
  exact Ef
theorem AcF (w:World) (n:Int):Calls Tryz.prog 14 #[.pointer none, .int .i64 n] w fun e w'=>e = .returned (.slice none 0 0)∧Frm (fun _=>False) w w':=by
  refine enter Tryz.func14 rfl Tryz.ntmps14 rfl (St.start (fun _=>False) w) ?_
  refine J9 ?_
  refine zV (AY true rfl rfl Tryz.underlying40 rfl) rfl ?_
  refine J18 ?_
  exact A9
theorem OS (w:World) (n:Int):Calls Tryz.prog 51 #[.pointer none, .int .i64 n] w fun e w'=>e = .returned (.bool false)∧Frm (fun _=>False) w w':=by
  refine enter Tryz.func51 rfl Tryz.ntmps51 rfl (St.start (fun _=>False) w) ?_
  refine J8 ?_
  refine zV (NB false rfl rfl Tryz.underlying40 rfl) rfl ?_
  refine J22 ?_
  exact A9
theorem WB (w:World) (n:Int):Calls Tryz.prog 20 #[.pointer none, .int .i64 n] w fun e w'=>e = .returned (.slice none 0 0)∧Frm (fun _=>False) w w':=by
  refine enter Tryz.func20 rfl Tryz.ntmps20 rfl (St.start (fun _=>False) w) ?_
  refine J10 ?_
  refine zk HI rfl (fun w hS=>OS w n) ?_
  refine J9 ?_
  refine zV (AY true rfl rfl Tryz.underlying40 rfl) rfl ?_
  refine J21 ?_
  exact A9
theorem XB (w:World) (n:Int) (v:Value):Calls Tryz.prog 15 #[.pointer none, .int .i64 n,v] w fun e w'=>e = .returned (.slice none 0 0)∧Frm (fun _=>False) w w':=by
  refine enter Tryz.func15 rfl Tryz.ntmps15 rfl (St.start (fun _=>False) w) ?_
  refine J10 ?_
  refine zk HI rfl (fun w hS=>OS w n) ?_
  refine J11 ?_
  exact A9
theorem Xu (w:World) (n:Int):Calls Tryz.prog 24 #[.pointer none, .int .i64 n] w fun e w'=>e = .returned (.slice none 0 0)∧Frm (fun _=>False) w w':=by
  refine enter Tryz.func24 rfl Tryz.ntmps24 rfl (St.start (fun _=>False) w) ?_
  refine J9 ?_
  exact Dv
theorem Yx (w:World) (C S:Int) (d:ByteArray):Calls Tryz.prog 31 #[.pointer none, .agg (AG C S d).toArray] w fun e w'=>e = .returned (.slice none 0 0)∧Frm (fun _=>False) w w':=by
  refine enter Tryz.func31 rfl Tryz.ntmps31 rfl (St.start (fun _=>False) w) ?_
  refine J2 ?_
  refine WL.box rfl rfl rfl (.none rfl) rfl rfl ?_
  intro g3 hg3
  refine J7 ?_
  exact Dv
theorem ZD (w:World) (m:MsL):Calls Tryz.prog 29 #[.pointer none, .agg m.cells.toArray] w fun e w'=>e = .returned (.tuple #[.slice none 0 0, .int .i64 1])∧Frm (fun _=>False) w w':=by
  refine enter Tryz.func29 rfl Tryz.ntmps29 rfl (St.start (fun _=>False) w) ?_
  refine J2 ?_
  refine WL.box rfl rfl rfl (.none rfl) rfl rfl ?_
  intro g3 hg3
  refine J8 ?_
  refine zV (AY true rfl rfl Tryz.underlying40 rfl) rfl ?_
  refine J16 ?_
  refine eT2 ?_
  exact fR
theorem UB (w:World):Calls Tryz.prog 18 #[.pointer none] w fun e w'=>e = .returned (.int .i64 0)∧Frm (fun _=>False) w w':=by
  refine enter Tryz.func18 rfl Tryz.ntmps18 rfl (St.start (fun _=>False) w) ?_
  refine J9 ?_
  exact Dv
theorem TU (w:World):Calls Tryz.prog 21 #[.pointer none] w fun e w'=>e = .returned (.int .u32 0)∧Frm (fun _=>False) w w':=by
  refine enter Tryz.func21 rfl Tryz.ntmps21 rfl (St.start (fun _=>False) w) ?_
  refine J9 ?_
  exact Dv
theorem Abg (w:World):Calls Tryz.prog 25 #[.pointer none] w fun e w'=>e = .returned (.int .i64 0)∧Frm (fun _=>False) w w':=by
  refine enter Tryz.func25 rfl Tryz.ntmps25 rfl (St.start (fun _=>False) w) ?_
  refine J9 ?_
  exact Dv
theorem YJ (w:World) (a i t h r:Int) (hb:¬ I9 a i t h r):Calls Tryz.prog 11 #[.agg (Iu a i t h r).toArray] w fun e w'=>e = .returned (.tuple #[.pointer none, .int .i64 1])∧Frm (fun _=>False) w w':=by
  refine enter Tryz.func11 rfl Tryz.ntmps11 rfl (St.start (fun _=>False) w) ?_
  refine J2 ?_
  refine WL.box rfl rfl rfl (.none rfl) rfl rfl ?_
  intro g1 hg1
  refine J8 ?_
  refine zk VQ rfl (fun w hS=>by have h:=Ou w a i t h r;rw [if_neg hb] at h;exact h) ?_
  refine J6 ?_
  refine zV ((BY rfl rfl rfl).t (Et)) rfl ?_
  refine J12 ?_
  refine eT2 ?_
  exact fR
theorem kept_n (w0 w:World) (g:Nat) (p:PeL) (s:Se) (E0 E1 L:List Ent) (d:Ck) (hA:BO g p s E0 E1 d) (hS0:St (fun _=>False) w0 w (.row g p.cells::(E0++(E1++d.L p.gC s.now L)))) (n:Nat) (hn:n<2) :
    Calls Tryz.prog 64 #[.pointer (some ⟨g,0,none⟩), .int .i64 n] w fun e w'=>∃ d',e = .returned (.tuple #[])∧BO g p (s.kept n) E0 E1 d'∧St (fun _=>False) w0 w' (.row g p.cells::(E0++(E1++d'.L p.gC s.now L))):=by
  match n,hn with
  | 0,_=>exact Q4 w0 w g p s E0 E1 L d hA hS0
  | 1,_=>exact Re w0 w g p s E0 E1 L d hA hS0
def O5 (s:Se) (m:MsL):Se×List EfD×Int :=
  if m.kind≠2 then (s,[],1) else match Is s with
  | none=>(s,[],7)
  | some n=>if Gr m≠0 then (s,[],Gr m) else (s.kept n,[⟨2,n,DG m,(MsL.zero 0).d⟩],0)
def EffT (w0 w':World) (g:Nat) (x:Se×List EfD×Int) (L:List Ent) (e:Ending):Prop :=
  ∃ ad c fs E K p' E0' E1' d',e = .returned (.tuple #[.slice ad fs.length c, .int .i64 x.2.2])∧K9 ad c fs E K∧fs.map EfL.d=x.2.1∧BO g p' x.1 E0' E1' d'∧St (fun _=>False) w0 w' (E++(K++(.row g p'.cells::(E0'++(E1'++d'.L p'.gC x.1.now L)))))
theorem YP {g:Nat}{p:PeL}{s:Se}{E0 E1:List Ent}{d:Ck}(hA:BO g p s E0 E1 d):(Is s=none∧Iw p = -1)∨∃ n,n<2∧Is s=some n∧Iw p=(n:Nat):=by
  have h0:p.c0.st=(s.c 0).st:=(congrArg (fun z:Se=>z.c0.st) hA.eq :)
  have h1:p.c1.st=(s.c 1).st:=(congrArg (fun z:Se=>z.c1.st) hA.eq :)
  unfold Iw Is
  rw [h0,h1]
  split
  · exact .inr ⟨0,by decide,rfl,rfl⟩
  · split
    · exact .inr ⟨1,by decide,rfl,rfl⟩
    · exact .inl ⟨rfl,rfl⟩
set_option maxHeartbeats 1000000 in
theorem say_c (w0 w:World) (g:Nat) (p:PeL) (s:Se) (E0 E1 L:List Ent) (d:Ck) (hA:BO g p s E0 E1 d) (hG:GF w0) (hS0:St (fun _=>False) w0 w (.row g p.cells::(E0++(E1++d.L p.gC s.now L)))) (m:MsL) (hM:∀ w,St (fun _=>False) w0 w (.row g p.cells::(E0++(E1++d.L p.gC s.now L)))→m.At w) (hI:m.In) (hP:m.atr.path.length≤1000) (hO:m.atr.others.length≤90) :
    Calls Tryz.prog 29 #[.pointer (some ⟨g,0,none⟩), .agg m.cells.toArray] w fun e w'=>EffT w0 w' g (O5 s m) L e:=by
  have hlv:=YP hA
  refine enter Tryz.func29 rfl Tryz.ntmps29 rfl hS0 ?_
  refine J2 ?_
  refine WL.box rfl rfl rfl (.none rfl) rfl rfl ?_
  intro g3 hg3
  refine WL.to (L':=.row g p.cells::(E0++(E1++d.L p.gC s.now (.row g3 m.cells::L)))) (fun w hS=>hS.AX) ?_
  refine J8 ?_
  refine zV (AY false rfl rfl Tryz.underlying40 rfl) rfl ?_
  refine J3 ?_
  refine JT (fun h14=>?_) (fun h14=>?_)
  refine J12 ?_
  refine eT2 ?_
  rw [show O5 s m=(s,[],1) from if_pos h14]
  exact Cx
  refine J9 ?_
  refine zk OR rfl (fun w hS=>L9 w g p (hS.row (g:=g))) ?_
  refine J7 ?_
  refine JT (fun h19=>?_) (fun h19=>?_)
  refine J11 ?_
  refine eT2 ?_
  have hl:Is s=none:=by
    rcases hlv with h|⟨n,_,_,h⟩
    · exact h.1
    · omega
  rw [show O5 s m=(s,[],7) by unfold O5;rw [if_neg h14,hl]]
  exact Cx
  refine J7 ?_
  obtain ⟨n,hn,hl,hln⟩:∃ n,n<2∧Is s=some n∧Iw p=(n:Nat):=by
    rcases hlv with h|h
    · omega
    · exact h
  have hsd:O5 s m=if Gr m≠0 then (s,[],Gr m) else (s.kept n,[⟨2,n,DG m,(MsL.zero 0).d⟩],0):=by unfold O5;rw [if_neg h14,hl]
  refine J1 ?_
  refine zK Tw rfl ?_
  intro w1 hS
  refine (S1 w1 m (hM w1 (hS.CE [.row g3 m.cells])) hI (hG.FA (fun h=>h) hS) hP hO).mono ?_
  rintro e w' ⟨_,rfl,ad9,c9,E9,rfl,hV9,hS'⟩
  refine ⟨_,_,rfl,hS.join hS',?_⟩
  refine J11 ?_
  refine JT (fun h26=>?_) (fun h26=>?_)
  refine J12 ?_
  refine eT2 ?_
  rw [hsd,if_pos h26]
  exact fun w' h=>⟨none,0,[],[],[],p,E0,E1,d,rfl,⟨Vec.nil 23,fun e he=>by cases he⟩,rfl,hA,h.CE (E9++[.row g3 m.cells])⟩
  refine J7 ?_
  have hc:Gr m=0:=Er
  rw [if_pos hc] at hV9 ⊢
  rw [hsd,if_neg h26]
  refine J2 ?_
  refine zK Sp rfl ?_
  intro w1 hS
  rw [show Value.int .i64 (Iw p) = .int .i64 (n:Int) by rw [hln]]
  refine (kept_n w0 w1 g p s E0 E1 (E9++(.row g3 m.cells::L)) d hA hS.AX n hn).mono ?_
  rintro e w' ⟨d2,rfl,hA2,hS'⟩
  refine ⟨_,_,rfl,hS',?_⟩
  refine J7 ?_
  refine zB Tryz.underlying46 DI BT rfl rfl ?_
  intro g34 hg34
  refine WL.as (L':=.row g34 (EfL.cells ⟨2,n,ad9,c9,DG m,MsL.zero 0⟩)::.row g p.cells::(E0++(E1++d2.L p.gC s.now (E9++(.row g3 m.cells::L))))) rfl ?_
  refine J5 ?_
  refine eT2 ?_
  refine fun w' h=>⟨some ⟨g34,0,none⟩,1,[⟨2,n,ad9,c9,DG m,MsL.zero 0⟩],[.row g34 (EfL.cells ⟨2,n,ad9,c9,DG m,MsL.zero 0⟩)],E9,p,E0,E1,d2,rfl,⟨Vec.row (k:=1) (c:=1) rfl rfl (Nat.le_refl _),fun e he=>?_⟩,rfl,hA2,by rw [show (s.kept n).now=s.now from Jf _ _];exact h.CE [.row g3 m.cells]⟩
  obtain rfl:=List.mem_singleton.1 he
  exact ⟨⟨E9,hV9,fun _ h=>h⟩⟩
theorem W0 (w0 w:World) (g:Nat) (p:PeL) (s:Se) (E0 E1 L:List Ent) (d:Ck) (hA:BO g p s E0 E1 d) (hS0:St (fun _=>False) w0 w (.row g p.cells::(E0++(E1++d.L p.gC s.now L)))) (C S:Int) (f:ByteArray) (h:Iw p = -1) :
    Calls Tryz.prog 31 #[.pointer (some ⟨g,0,none⟩), .agg (AG C S f).toArray] w fun e w'=>G2 w0 w' g [] s L e:=by
  refine enter Tryz.func31 rfl Tryz.ntmps31 rfl hS0 ?_
  refine J2 ?_
  refine WL.box rfl rfl rfl (.none rfl) rfl rfl ?_
  intro g3 hg3
  refine WL.to (L':=.row g p.cells::(E0++(E1++d.L p.gC s.now (.row g3 (AG C S f)::L)))) (fun w hS=>hS.AX ) ?_
  refine J7 ?_
  refine zV (AY false rfl rfl Tryz.underlying40 rfl) rfl ?_
  refine J8 ?_
  refine zk OR rfl (fun w hS=>L9 w g p (hS.row (g:=g))) ?_
  refine J7 ?_
  refine zV ((G8 rfl rfl rfl).t (Er)) rfl ?_
  refine J10 ?_
  refine eT1 ?_
  exact fun w' h=>⟨none,0,[],[],[],p,E0,E1,d,rfl,⟨Vec.nil 23,fun e he=>by cases he⟩,rfl,hA,h.CE [.row g3 (AG C S f)]⟩
theorem re_row {w:World}{b o:Nat}{rs:List RE}{i:Nat}{x:RE}(h:w.rangeAt b o (GY rs)) (hi:rs[i]?=some x):w.rangeAt b (o+i*5) x.cells:=fun j v hj=>by
  have hl:=Iz (enc:=RE.cells) (s:=5) (fun _=>rfl) rs i x hi
  have hj2:j<5:=(List.getElem?_eq_some_iff.1 hj).1
  have h2:(GY rs)[i*5+j]?=some v:=by
    unfold GY
    rw [← List.getElem?_drop, ← hj, ← hl,List.getElem?_take,if_pos hj2]
  have:=h _ _ h2
  rwa [Nat.add_assoc]
set_option maxHeartbeats 1000000 in
theorem same_c (w:World) (ead:Option Addr) (ec:Nat) (fs:List EfL) (EF KF:List Ent) (hV:K9 ead ec fs EF KF) (hH:∀ e∈EF++KF,e.holds w) (ad:Option Addr) (rc:Nat) (rs:List RE) (hO:AU w ad (GY rs)) (hR:Rel (fs.map EfL.d) rs) (hl:fs.length≤1000000) :
    Calls Tryz.prog 42 #[.slice ead fs.length ec, .slice ad rs.length rc] w fun e w'=>e = .returned (.bool true)∧Frm (fun _=>False) w w':=by
  have hrl:rs.length=fs.length:=by rw [hR.len,List.length_map]
  refine enter Tryz.func42 rfl Tryz.ntmps42 rfl (St.start (fun _=>False) w) ?_
  refine J12 ?_
  refine zV ((BY rfl rfl rfl).f (Er)) rfl ?_
  refine J14 ?_
  refine WC.loop (fun k:Nat=>[(15, .int .i64 k),(14, .int .i64 fs.length),(13, .slice ead fs.length ec),(1, .slice ad rs.length rc)]) (fun _=>[]) (fun k=>k≤fs.length) (fun k=>fs.length-k) 0 (Nat.zero_le _) Km (.refl _) ?_
  intro k hk
  refine J2 ?_
  refine JT (fun h16=>?_) (fun h16=>?_)
  refine J10 ?_
  obtain ⟨x,hx⟩:∃ x,fs[k]?=some x:=⟨fs[k]' Er,List.getElem?_eq_getElem _⟩
  have hxr:rs[k]?=some (GJ x.d):=by rw [hR.2,List.getElem?_map,List.getElem?_map,hx];rfl
  have hgd:=hR.1 x.d (List.mem_map_of_mem (List.mem_of_getElem? hx))
  obtain ⟨b1,o1,ea1,r1⟩:=hV.1.Rf Fg
  obtain ⟨b2,o2,ea2,r2⟩:=hO (by rw [Ls];omega)
  have r3:=Wa (r1 w fun e he=>hH e (List.mem_append_left _ he)) hx
  have r4:=re_row r2 hxr
  have hxk:x.d.kind=x.kind:=rfl
  have hxb:x.d.bs=x.bs:=rfl
  have hxm:x.d.m.kind=x.m.kind:=rfl
  have hsome:=hgd.some
  have hnone:=fun h=>congrArg List.length (hgd.none h)
  have htold:=hgd.told
  rw [hxk,hxb] at hsome hnone
  rw [hxk,hxm] at htold
  rw [List.length_nil] at hnone
  have hrk:(GJ x.d).kind=x.kind:=by unfold GJ;split;exact (by assumption:x.d.kind=2).symm;rfl
  have hrc:(GJ x.d).conn=x.conn:=by unfold GJ;split <;> rfl
  have hrw:x.kind=2→(GJ x.d).msg=(G4 x.bs).1∧(GJ x.d).code=(G4 x.bs).2.1∧(GJ x.d).sub=(G4 x.bs).2.2:=fun h=>by rw [show GJ x.d=⟨2,x.conn,(G4 x.bs).1,(G4 x.bs).2.1,(G4 x.bs).2.2⟩ from if_pos h];exact ⟨rfl,rfl,rfl⟩
  generalize hre:GJ x.d=r at hxr r4 hrk hrc hrw
  refine J1 ?_
  refine zV ((AB (b:=b1) (off:=o1) (lo:=k) rfl (by show some (Value.slice ead _ _)=_;rw [ea1]) rfl Tryz.underlying46 DI rfl Er)) rfl ?_
  refine zV ((CA (cs:=x.cells) rfl rfl Vp rfl (Mt (fun h=>h) r3))) rfl<|WL.alloc rfl BT (.none rfl) rfl rfl<|?_
  intro g6 hg6
  refine J2 ?_
  refine WL.as (L':=[.row g6 x.cells]) rfl ?_
  refine J6 ?_
  refine zV ((AB (b:=b2) (off:=o2) (lo:=k) rfl (by show some (Value.slice ad _ _)=_;rw [ea2]) rfl Tryz.underlying81 Jz rfl Er)) rfl ?_
  refine zV ((CA (cs:=r.cells) rfl rfl Py rfl (Mt (fun h=>h) r4))) rfl<|WL.alloc rfl Hp (.none rfl) rfl rfl<|?_
  intro g7 hg7
  refine J1 ?_
  refine WL.as (L':=[.row g7 r.cells, .row g6 x.cells]) rfl ?_
  refine J2 ?_
  refine WC.cut (fun _:Unit=>[(15, .int .i64 k),(14, .int .i64 fs.length),(13, .slice ead fs.length ec),(1, .slice ad rs.length rc),(6, .pointer (some ⟨g6,0,none⟩)),(7, .pointer (some ⟨g7,0,none⟩))]) (fun _=>[.row g7 r.cells, .row g6 x.cells]) (fun _=>True) ?_ ?_
  refine J3 ?_
  refine zV (AA rfl rfl AK (cellAt (g:=g6) (v:=.int .i64 x.kind) rfl)) rfl ?_
  refine J1 ?_
  refine zV (AA rfl rfl AK (cellAt (g:=g7) (v:=.int .i64 r.kind) rfl)) rfl ?_
  refine zV ((BY rfl rfl rfl).f (Er)) rfl ?_
  refine J2 ?_
  refine zS (AA rfl rfl AK (cellAt (g:=g6) (v:=.int .i64 x.conn) rfl)) rfl ?_
  refine J1 ?_
  refine zS (AA rfl rfl AK (cellAt (g:=g7) (v:=.int .i64 r.conn) rfl)) rfl ?_
  refine zS ((BY rfl rfl rfl).f (Er)) rfl ?_
  refine J3 ?_
  refine zS (AA rfl rfl AK (cellAt (g:=g6) (v:=.int .i64 x.kind) rfl)) rfl ?_
  refine JT (fun h39=>?_) (fun h39=>?_)
  refine J1 ?_
  refine zS (AA rfl rfl G3 (cellAt (g:=g6) (v:=.slice x.ad x.bs.length x.cap) rfl)) rfl ?_
  refine J1 ?_
  refine zS ((HY rfl rfl rfl).t ((by have:=hsome h39;omega))) rfl ?_
  exact A6
  refine J1 ?_
  refine zS (AA rfl rfl G3 (cellAt (g:=g6) (v:=.slice x.ad x.bs.length x.cap) rfl)) rfl ?_
  refine J1 ?_
  refine zS ((HY rfl rfl rfl).f ((by have:=hnone h39;omega))) rfl ?_
  exact A6
  rintro _ _
  refine J1 ?_
  refine cQ mixed ?_
  refine J1 ?_
  refine qV (AA rfl rfl AK (cellAt (g:=g6) (v:=.int .i64 x.kind) rfl)) rfl ?_
  refine JT (fun h58=>?_) (fun h58=>?_)
  refine J2 ?_
  refine WQ.val (AA rfl rfl G3 (cellAt (g:=g6) (v:=.slice x.ad x.bs.length x.cap) rfl)) (.some rfl rfl rfl) rfl rfl ?_
  obtain ⟨EB,hB,hBK⟩:=hV.2 x (List.mem_of_getElem? hx)
  obtain ⟨hr1,hr2,hr3⟩:=hrw h58
  have hBH:=fun e he=>hH e (List.mem_append_right _ (hBK e he))
  refine WQ.call _ rfl rfl ck_17 (.some rfl rfl rfl) rfl rfl (fun w hS=>Calls.still (AcV w x.ad x.cap x.bs ((Vec.Rp hB hBH).frm (hS.rng fun _ h=>h)) hgd.bys.1 hB.len.2 (by have:=hgd.bys.2;rw [hxb] at this;omega)) hS) ?_
  refine J1 ?_
  refine WQ.val (CA rfl rfl VG rfl (IK (g:=g7) (cs:=r.cells) (k:=2) (m:=3) (new:=[.int .i64 r.msg, .int .i64 r.code, .int .i64 r.sub]) rfl)) (.some rfl rfl rfl) rfl rfl ?_
  refine WQ.val (EU rfl rfl rfl eqk_51 eqg_51 rfl rfl (by rw [hr1,hr2,hr3])) (.some rfl rfl rfl) rfl rfl ?_
  refine J8 ?_
  exact B6
  refine J15 ?_
  exact B6
  refine J15 ?_
  exact A9


structure Q8 where
  k:Int
  n:Int
  m:MsL
  ra:Option Addr
  rc:Nat
  raw:List Int
  sec:Int
  tm:Int
  fc:Int
  fs:Int
  fd:ByteArray
def Q8.cells (x:Q8):List Value:=.int .i64 x.k::.int .i64 x.n::(x.m.cells++[.slice x.ra x.raw.length x.rc, .int .i64 x.sec, .int .i64 x.tm, .int .i64 x.fc, .int .i64 x.fs, .string x.fd])
structure Q8.Ok (w:World) (x:Q8):Prop where
  n:I64 x.n
  m:x.m.At w
  mi:x.m.In
  raw:AU w x.ra (u8s x.raw)
  bys:Bys x.raw
  len:x.raw.length≤x.rc
  sec:I64 x.sec
  tm:I64 x.tm
  fc:I64 x.fc
  fs:I64 x.fs
theorem Abu (w:World) (m:MsL):Calls Tryz.prog 27 #[.agg m.cells.toArray] w fun e w'=>∃ b,e = .returned (.bool b)∧Frm (fun _=>False) w w'∧(b=false→m.atr.path.length≤9∧m.atr.others.length≤9):=by
  refine enter Tryz.func27 rfl Tryz.ntmps27 rfl (St.start (fun _=>False) w) ?_
  refine J2 ?_
  refine WL.box rfl rfl rfl (.none rfl) rfl rfl ?_
  intro g1 hg1
  refine J8 ?_
  refine JT (fun h6=>?_) (fun h6=>?_)
  refine J30 ?_
  refine J14 ?_
  exact Bm
  refine J4 ?_
  refine JT (fun h11=>?_) (fun h11=>?_)
  refine J30 ?_
  refine J9 ?_
  exact Bm
  refine J5 ?_
  refine JT (fun h17=>?_) (fun h17=>?_)
  refine J30 ?_
  refine J3 ?_
  exact Bm
  refine J5 ?_
  refine zS (Kl rfl rfl Tryz.underlying9) rfl ?_
  refine JT (fun h24=>?_) (fun h24=>?_)
  refine J26 ?_
  exact Bm
  refine J6 ?_
  refine JT (fun h31=>?_) (fun h31=>?_)
  refine J19 ?_
  exact Bm
  refine J6 ?_
  refine JT (fun h38=>?_) (fun h38=>?_)
  refine J12 ?_
  exact Bm
  refine J6 ?_
  refine JT (fun h45=>?_) (fun h45=>?_)
  refine J5 ?_
  exact Bm
  refine J5 ?_
  refine eT1 ?_
  exact fun w' h=>⟨false,rfl,h.frm,fun _=>⟨by omega,by omega⟩⟩
def bsM (m:MsL):List Int:=if Gr m=0 then DG m else []
theorem bsM_ok {m:MsL}(h:m.In):Bys (bsM m)∧(bsM m).length≤4096:=by
  unfold bsM
  split
  · rename_i hc;exact ⟨Mx h hc,Oj hc⟩
  · exact ⟨Bys.nil,Nat.zero_le _⟩
theorem QK (s:Se):∀ k,(CF s k).2.length≤3*k
  | 0=>Nat.le_refl _
  | k+1=>by
    have h:=QK s k
    show ((CF s k).2++(Gv _ _).2).length≤_
    rw [List.length_append]
    have:(Gv (CF s k).1 k).2.length≤3:=by
      unfold Gv
      split
      · exact Nat.zero_le _
      · exact DT _ _ _ _ _
    omega
theorem Yh (s:Se):(FZ s).2.length≤6:=by
  unfold FZ
  split
  · exact Nat.zero_le _
  · exact QK _ 2
theorem OD (n:Nat):∀ (ms:List MsD) (s:Se),(BK n s ms).2.length≤4*ms.length
  | [],s=>Nat.le_refl _
  | m::ms,s=>by
    unfold BK
    split
    · exact Nat.zero_le _
    · rw [List.length_append,List.length_cons]
      have h1:=LH s n m
      have h2:=OD n ms (CI s n m).1
      omega
theorem NI (s:Se) (n:Nat) (bs:List Int):(AM s n bs).2.length≤4*((s.c n).wait++bs).length+3:=by
  unfold AM
  split
  · exact Nat.zero_le _
  · have h1:=OD n (BL [] ((s.c n).wait++bs)).1 (s.fed n bs)
    have h2:=I2 _ [] ((s.c n).wait++bs) _ _ _ (Nat.le_refl _) rfl
    rw [List.length_nil] at h2
    unfold G1
    split
    · omega
    · split
      · omega
      · rename_i f _
        have h3:=DT (BK n (s.fed n bs) (BL [] ((s.c n).wait++bs)).1).1 n f.1 f.2.1 f.2.2
        dsimp only
        rw [List.length_append]
        omega
theorem AbV (s:Se) (n:Int):(upA s n).2.length≤1:=by
  have h:∀ k,(upE s k).length≤1:=fun k=>by
    unfold upE
    split
    · exact Nat.le_refl _
    · exact GA _ _
  unfold upA
  split
  · exact h 0
  split
  · exact h 1
  · exact Nat.zero_le _
theorem X6 (s:Se) (n:Int):(Ha s n).2.length≤1:=by
  have h:∀ k,(IM s k).length≤1:=fun k=>by
    unfold IM
    split
    · exact Il _ _
    · exact Nat.zero_le _
  unfold Ha
  split
  · exact h 0
  split
  · exact h 1
  · exact Nat.zero_le _

def Wq (s t:Se):Prop:=∀ k,k<2→(t.c k).st≠0→(t.c k).wait=(s.c k).wait∧(s.c k).st≠0
theorem Wq.trans {s t r:Se}(h:Wq s t) (h':Wq t r):Wq s r:=fun k hk h0=>by
  have h2:=h' k hk h0
  have h1:=h k hk h2.2
  exact ⟨h2.1.trans h1.1,h1.2⟩
theorem Wq.same {s t:Se}(h:∀ k,k<2→t.c k=s.c k):Wq s t:=fun k hk h0=>by
  rw [h k hk] at h0 ⊢
  exact ⟨rfl,h0⟩
theorem Wq.refl (s:Se):Wq s s:=.same fun _ _=>rfl
theorem Wq.gone (s:Se) (n:Nat) (hn:n<2):Wq s (s.gone n):=fun k hk h0=>by
  rw [HX s n k hn hk] at h0 ⊢
  split at h0
  · exact absurd rfl h0
  · rename_i e
    rw [if_neg e]
    exact ⟨rfl,h0⟩
theorem Wq.alive (s:Se) (n:Nat):Wq s (s.alive n):=.same fun k _=>Kz s n k
theorem Wq.kept (s:Se) (n:Nat):Wq s (s.kept n):=.same fun k _=>KC s n k
theorem Wq.BE (s:Se) (n:Nat) (hn:n<2) (h:(s.c n).st≠0) (H i:Int):Wq s (s.BE n H i):=fun k hk h0=>by
  rw [NH s n k H i hn hk] at h0 ⊢
  split
  · rename_i e;subst e;exact ⟨rfl,h⟩
  · rename_i e;rw [if_neg e] at h0;exact ⟨rfl,h0⟩
theorem Wq.up5 (s:Se) (n:Nat) (hn:n<2) (h:(s.c n).st≠0):Wq s (s.up5 n):=fun k hk h0=>by
  rw [VH s n k hn hk] at h0 ⊢
  split
  · rename_i e;subst e;exact ⟨rfl,h⟩
  · rename_i e;rw [if_neg e] at h0;exact ⟨rfl,h0⟩
theorem Wq.BQ (s:Se) (n:Nat) (hn:n<2) (h:(s.c n).st≠0) (a H i:Int):Wq s (BQ s n a H i).1:=by
  unfold YtcmpamnhegndnaaGreatDoor.BQ
  repeat' split
  all_goals first|exact .gone s n hn|exact .BE s n hn h H i|exact .trans (.gone s (1-n) Er) (.BE _ n hn (by rw [HX s (1-n) n (by omega) hn,if_neg (by omega)];exact h) H i)
theorem Wq.CI (s:Se) (n:Nat) (hn:n<2) (h:(s.c n).st≠0) (m:MsD):Wq s (CI s n m).1:=by
  unfold YtcmpamnhegndnaaGreatDoor.CI
  split
  · exact .gone s n hn
  split
  · exact .BQ s n hn h _ _ _
  split
  · unfold Se.BD
    split
    · exact .up5 s n hn h
    · exact .trans (.up5 s n hn h) (.gone _ _ Er)
  split
  · exact .alive s n
  split
  · exact .alive s n
  · exact .gone s n hn
theorem Wq.BK (n:Nat) (hn:n<2):∀ (ms:List MsD) (s:Se),Wq s (BK n s ms).1
  | [],s=>.refl s
  | m::ms,s=>by
    unfold YtcmpamnhegndnaaGreatDoor.BK
    split
    · exact .refl s
    · rename_i h
      exact .trans (.CI s n hn h m) (Wq.BK n hn ms _)
theorem Wq.AM (s:Se) (n:Nat) (hn:n<2) (bs:List Int) (h:(s.c n).st≠0):Wq (s.fed n bs) (AM s n bs).1:=by
  unfold YtcmpamnhegndnaaGreatDoor.AM
  rw [if_neg h]
  have h1:=Wq.BK n hn (BL [] ((s.c n).wait++bs)).1 (s.fed n bs)
  unfold G1
  split
  · exact h1
  · split
    · exact h1
    · exact h1.trans (.gone _ n hn)
theorem Aaj (s:Se) (n k:Nat) (bs:List Int) (hn:n<2) (hk:k<2):(s.fed n bs).c k=if k=n then (s.c n).fed (BL [] ((s.c n).wait++bs)) else s.c k:=L5 _ _ _ _ hn hk
theorem Wq.CF (s:Se):∀ k,k≤2→Wq s (CF s k).1
  | 0,_=>.refl s
  | k+1,hk=>by
    have h1:=Wq.CF s k Er
    unfold YtcmpamnhegndnaaGreatDoor.CF Gv
    dsimp only
    split
    · exact h1
    · exact h1.trans (.gone _ k Er)
theorem Wq.stop (s:Se):Wq s (FZ s).1:=by
  unfold FZ
  split
  · exact .refl s
  · exact .trans (t:={ s with base:=0,D:=s.D.set 0 (-1) }) (.same fun _ _=>rfl) (.CF _ 2 (Nat.le_refl _))
theorem Wq.Jj (s:Se) (n:Nat) (t:Int):Wq s (CM s n t).1:=by
  have h:∀ D,Wq s { s with now:=t,D:=D }:=fun _=>.same fun _ _=>rfl
  unfold CM
  split
  · exact .same fun _ _=>rfl
  · exact (h _).trans (.gone _ 0 Et)
  · exact (h _).trans (.gone _ 1 Et)
  · exact (h _).trans (.kept _ 0)
  · exact (h _).trans (.kept _ 1)
theorem Wq.tick {T:Int}{s s':Se}{es:List EfD}(hr:JL T s es s'):Wq s s':=by
  induction hr with
  | done _=>exact .same fun _ _=>rfl
  | Jj _ _ ih=>exact .trans (.Jj _ _ _) ih
theorem Wq.start (s:Se):Wq s (if s.base=0 then s.JW else s):=by
  split
  · exact .same fun _ _=>rfl
  · exact .refl s
theorem Wq.Ha (s:Se) (n:Int):Wq s (Ha s n).1:=by
  have h:∀ k,k<2→Wq s (s.down k):=fun k hk=>by
    unfold Se.down
    split
    · exact .gone s k hk
    split
    · exact .refl s
    split
    · exact .same fun _ _=>rfl
    · exact .same fun _ _=>rfl
  unfold YtcmpamnhegndnaaGreatDoor.Ha
  split
  · exact h 0 Et
  split
  · exact h 1 Et
  · exact .refl s
theorem AcQ {N:Int}{s:Se}(hF:s.IJ N) (n:Int) (k:Nat) (hk:k<2):((upA s n).1.c k).wait=(s.c k).wait:=by
  have key:∀ j,j<2→((s.up j).c k).wait=(s.c k).wait:=fun j hj=>by
    unfold Se.up
    split
    · rfl
    · rename_i hu
      have h0:(s.c j).st=0:=Decidable.byContradiction fun e=>hu (.inr (.inl e))
      have e:((s.HZ j).due (1+j) 240).c k=if k=j then JM else s.c k:=L5 s j k JM hj hk
      rw [e]
      split
      · rename_i e;subst e
        rw [(hF.wf.c k hk).2.1 h0];rfl
      · rfl
  unfold upA
  split
  · exact key 0 Et
  split
  · exact key 1 Et
  · rfl
/-! ## The invariant -/
structure SeI (a i h:Int) (N B:Int) (s:Se):Prop where
  fine:s.IJ N
  jt:Jt s
  rx:RxH s
  cst:s.asn=a∧s.id=i∧s.hold=h
  now:s.now≤B
theorem Hj (a i h:Int):Gz (fun s=>s.asn=a∧s.id=i∧s.hold=h):=by
  have key:∀ (s:Se) n c,s.asn=a∧s.id=i∧s.hold=h→(s.set n c).asn=a∧(s.set n c).id=i∧(s.set n c).hold=h:=fun s n c hs=>by
    have e:=DL s n c
    exact ⟨e.1.trans hs.1,e.2.2.2.2.1.trans hs.2.1,e.2.1.trans hs.2.2⟩
  exact ⟨fun s b now D hs=>hs,fun s n _ hs=>key s n _ hs,fun s n _ hs=>key s n _ hs,fun s n _ _ _ _ hs=>key s n _ hs,fun s n _ _ hs=>key s n _ hs⟩
theorem RxH.G1 {n:Nat}(hn:n<2){f:Option (Int×Int×ByteArray)}{y:Se×List EfD}(h:RxH y.1):RxH (G1 n f y).1:=by
  unfold YtcmpamnhegndnaaGreatDoor.G1
  split
  · exact h
  · split
    · exact h
    · exact h.gone n hn
theorem RxH.BK (n:Nat) (hn:n<2){h:Int}(hh:h=0∨3≤h):∀ (ms:List MsD){s:Se},RxH s→s.hold=h→(∀ m∈ms,m.Fit)→RxH (BK n s ms).1
  | [],s,hX,_,_=>hX
  | m::ms,s,hX,he,hm=>by
    unfold YtcmpamnhegndnaaGreatDoor.BK
    split
    · exact hX
    · have hf:=hm m (List.mem_cons_self ..)
      have hfh:=hf.hold
      exact RxH.BK n hn hh ms (hX.CI n hn m hf Er (by rw [he];exact hh)) ((Mu s hn (hf.hold.imp id And.left)).trans he) fun x hx=>hm x (List.mem_cons_of_mem _ hx)
theorem PK (n:Nat):∀ (ms:List MsD) (s:Se),(BK n s ms).1.now=s.now
  | [],s=>rfl
  | m::ms,s=>by
    unfold YtcmpamnhegndnaaGreatDoor.BK
    split
    · rfl
    · exact (PK n ms _).trans (Nv s n m)
theorem Xk (s:Se) (n:Nat) (bs:List Int):(AM s n bs).1.now=s.now:=by
  have h1:=(PK n (BL [] ((s.c n).wait++bs)).1 (s.fed n bs)).trans (FW _ _ _)
  unfold AM
  split
  · rfl
  · unfold YtcmpamnhegndnaaGreatDoor.G1
    split
    · exact h1
    · split
      · exact h1
      · exact (BP _ _).trans h1
theorem Zf (s:Se){n:Nat}(hn:n<2) (bs:List Int) (o:Value):rfC (s.fed n bs) o=rfC s o:=by
  match n,hn with
  | 0,_|1,_=>rfl
theorem RxH.fed {s:Se}(h:RxH s){n:Nat}(hn:n<2) (bs:List Int):RxH (s.fed n bs) :=
  RxH.set h n hn _ (h.st n hn) (h.ch n hn) (h.fit n hn) (h.z n hn) (h.zh n hn) (h.k n hn)
section
variable {a i h N B:Int}{s:Se}(I:SeI a i h N B s) (hN:0≤N)
include I hN
omit hN in
theorem SeI.mono {M C:Int}(h1:N≤M) (h2:B≤C):SeI a i h M C s:=⟨LA I.fine h1,I.jt,I.rx,I.cst,Int.le_trans I.now h2⟩
theorem SeI.start:SeI a i h N B (if s.base=0 then s.JW else s):=⟨by split;exact (GN hN).JW I.fine;exact I.fine,(Uv I.jt).2,I.rx.start,by split;exact (Hj a i h).JW I.cst;exact I.cst,by split;exact I.now;exact I.now⟩
theorem SeI.stop:SeI a i h N B (FZ s).1:=⟨(GN hN).FZ I.fine,(Uj I.jt).2,I.rx.FZ,(Hj a i h).FZ I.cst,by
  unfold FZ
  split
  · exact I.now
  · rw [LK];exact I.now⟩
theorem SeI.up (n:Int):SeI a i h N B (upA s n).1:=by
  have key:∀ k,k<2→RxH (s.up k)∧((s.up k).asn=a∧(s.up k).id=i∧(s.up k).hold=h)∧(s.up k).now≤B:=fun k hk=>⟨I.rx.up k hk,(Hj a i h).up I.cst k hk,by
    unfold Se.up
    split
    · exact I.now
    · exact Int.le_trans (Int.le_of_eq (K6 s k)) I.now⟩
  have k0:=key 0 Et
  have k1:=key 1 Et
  refine ⟨Aci hN I.fine n,(AbE I.jt n).2,?_,?_,?_⟩
  all_goals
    unfold upA
    split
    · first|exact k0.1|exact k0.2.1|exact k0.2.2
    split
    · first|exact k1.1|exact k1.2.1|exact k1.2.2
    · first|exact I.rx|exact I.cst|exact I.now
theorem SeI.down (n:Int):SeI a i h N B (Ha s n).1:=by
  have key:∀ k,k<2→RxH (s.down k)∧((s.down k).asn=a∧(s.down k).id=i∧(s.down k).hold=h)∧(s.down k).now≤B:=fun k hk=>⟨I.rx.down k hk,(Hj a i h).down I.cst k hk,by
    unfold Se.down
    split
    · rw [BP];exact I.now
    split
    · exact I.now
    split
    · exact I.now
    · exact I.now⟩
  have k0:=key 0 Et
  have k1:=key 1 Et
  refine ⟨WI hN I.fine n,(Ua I.jt n).2,?_,?_,?_⟩
  all_goals
    unfold Ha
    split
    · first|exact k0.1|exact k0.2.1|exact k0.2.2
    split
    · first|exact k1.1|exact k1.2.1|exact k1.2.2
    · first|exact I.rx|exact I.cst|exact I.now
theorem SeI.feed (hh:h=0∨3≤h) (n:Nat) (hn:n<2) (bs:List Int) (hb:Bys bs) (hw:∀ k,k<2→Bys (s.c k).wait∧(s.c k).wait.length≤4096) (hl:bs.length≤40000):SeI a i h (N+50000) B (AM s n bs).1:=by
  have hB:Bys ((s.c n).wait++bs):=Bys.app (hw n hn).1 hb
  have hwl:=(hw n hn).2
  have hff:=IT _ [] _ (Nat.le_refl _) hB (fun m hm=>by cases hm)
  refine ⟨LA (W6 hN I.fine n hn bs hB) Ft,(Vd I.jt n hn bs).2,?_,?_,?_⟩
  · unfold AM
    split
    · exact I.rx
    · have e:(s.fed n bs).hold=h:=((DL s n _).2.1).trans I.cst.2.2
      exact RxH.G1 hn (RxH.BK n hn hh _ (I.rx.fed hn bs) e hff.1)
  · unfold AM
    split
    · exact I.cst
    · have e:=DL s n ((s.c n).fed (BL [] ((s.c n).wait++bs)))
      exact (Hj a i h).G1 hn ((Hj a i h).BK n hn _ ⟨e.1.trans I.cst.1,e.2.2.2.2.1.trans I.cst.2.1,e.2.1.trans I.cst.2.2⟩ hff.1)
  · rw [Xk];exact I.now
theorem SeI.tick {T:Int}{s':Se}{es:List EfD}(hr:JL T s es s') (hT:0≤T∧T≤1000000) (hC:T≤B+4096):SeI a i h N (B+4096) s':=⟨(GN hN).tick hr I.fine,(Xv hr I.jt).2,I.rx.tick hr hT,(Hj a i h).tick hr I.cst,by
  have:s'.now=T:=by
    clear I
    induction hr with
    | done _=>rfl
    | Jj _ _ ih=>exact ih
  omega⟩
theorem SeI.kept (n:Nat):SeI a i h N B (s.kept n):=⟨(GN hN).kept I.fine n,Aau I.jt fun k _=>by rw [KC],I.rx.kept n,(Hj a i h).kept I.cst n,by rw [Jf];exact I.now⟩
theorem SeI.gone (n:Nat) (hn:n<2):SeI a i h N B (s.gone n):=⟨(GN hN).gone I.fine n hn,(Nq I.jt n hn).2,I.rx.gone n hn,(Hj a i h).gone I.cst n hn,by rw [BP];exact I.now⟩
end
/-! ## Drop -/
def IN (s:Se) (C S:Int) (f:ByteArray):Se×List EfD:=match Is s with
  | none=>(s,[])
  | some n=>(s.gone n,DW s n C S f)
theorem drop_eq {s:Se}(hJ:Jt s){C S:Int}{f:ByteArray}(hC:C=0∨1≤C∧C≤255) (hS:0≤S∧S≤255) (hf:f.size≤4075):(FM s C S 2).1=(IN s C S f).1∧Rel (IN s C S f).2 (FM s C S 2).2:=by
  have e2:FM s C S 2=((GQ (GQ s 0 C S).1 1 C S).1,([]++(GQ s 0 C S).2)++(GQ (GQ s 0 C S).1 1 C S).2):=rfl
  rw [e2]
  unfold IN Is
  by_cases h0:(s.c 0).st=5
  · rw [if_pos h0]
    have e0:GQ s 0 C S=(s.gone 0,FP s 0 C S):=if_pos h0
    have h1:((s.gone 0).c 1).st≠5:=by
      rw [HX s 0 1 Et Et,if_neg Et]
      exact (hJ 0 Et h0).1
    have e1:GQ (s.gone 0) 1 C S=(s.gone 0,[]):=if_neg h1
    rw [e0]
    dsimp only
    rw [e1]
    dsimp only
    rw [List.nil_append,List.append_nil]
    exact ⟨rfl, .end s 0 hC hS hf⟩
  · rw [if_neg h0]
    have e0:GQ s 0 C S=(s,[]):=if_neg h0
    rw [e0]
    dsimp only
    by_cases h1:(s.c 1).st=5
    · rw [if_pos h1]
      have e1:GQ s 1 C S=(s.gone 1,FP s 1 C S):=if_pos h1
      rw [e1]
      exact ⟨rfl, .end s 1 hC hS hf⟩
    · rw [if_neg h1]
      have e1:GQ s 1 C S=(s,[]):=if_neg h1
      rw [e1]
      exact ⟨rfl, .nil⟩
theorem Ro {s:Se}{n:Nat}(h:Is s=some n):n<2:=by
  unfold Is at h
  split at h
  · cases h;decide
  · split at h
    · cases h;decide
    · cases h
theorem drop_c (w0 w:World) (g:Nat) (p:PeL) (s:Se) (E0 E1 L:List Ent) (d:Ck) (hA:BO g p s E0 E1 d) (hG:GF w0) (hS0:St (fun _=>False) w0 w (.row g p.cells::(E0++(E1++d.L p.gC s.now L)))) (C S:Int) (f:ByteArray) (hC:I64 C) (hSb:I64 S) (hf:f.size≤100000) :
    Calls Tryz.prog 31 #[.pointer (some ⟨g,0,none⟩), .agg (AG C S f).toArray] w fun e w'=>G2 w0 w' g (IN s C S f).2 (IN s C S f).1 L e:=by
  have h0:p.c0.st=(s.c 0).st:=(congrArg (fun z:Se=>z.c0.st) hA.eq :)
  have h1:p.c1.st=(s.c 1).st:=(congrArg (fun z:Se=>z.c1.st) hA.eq :)
  unfold IN Is
  by_cases e0:(s.c 0).st=5
  · rw [if_pos e0];exact Ac2 w0 w g p s E0 E1 L d hA hG hS0 C S f hC hSb hf (h0.trans e0)
  · rw [if_neg e0]
    by_cases e1:(s.c 1).st=5
    · rw [if_pos e1];exact Adq w0 w g p s E0 E1 L d hA hG hS0 C S f hC hSb hf (by rw [h0];exact e0) (h1.trans e1)
    · rw [if_neg e1]
      refine W0 w0 w g p s E0 E1 L d hA hS0 C S f ?_
      unfold Iw
      rw [h0,h1,if_neg e0,if_neg e1]
/-! ## Up, Down at whatever connection, by the reference -/
def ZJ (s:Se) (n:Int):List RE:=if n=0 then upR s 0 else if n=1 then upR s 1 else []
def PY (s:Se) (n:Int):List RE:=if n=0 then I0 s 0 else if n=1 then I0 s 1 else []
theorem Rel.upA {s:Se}(n:Int) (h:(1≤s.asn∧s.asn≤65535)∧(s.hold=0∨3≤s.hold∧s.hold≤65535)∧s.id≠0∧U32 s.id):Rel (upA s n).2 (ZJ s n):=by
  unfold YtcmpamnhegndnaaGreatDoor.upA ZJ
  split
  · exact .up 0 h
  split
  · exact .up 1 h
  · exact .nil
theorem Rel.Ha (s:Se) (n:Int):Rel (Ha s n).2 (PY s n):=by
  unfold YtcmpamnhegndnaaGreatDoor.Ha PY
  split
  · exact .down s 0
  split
  · exact .down s 1
  · exact .nil
theorem outR (w0:World) (s:Se) (ad:Option Addr) (c:Nat) (es:List RE) (n:Int) (hn:n≠0∧n≠1):Calls Tryz.prog 35 #[.agg (rfC s (.slice ad es.length c)).toArray, .int .i64 n] w0 fun e w'=>RxP w0 w' s ad es (es++[]) e:=by
  refine enter Tryz.func35 rfl Tryz.ntmps35 rfl (St.start (fun _=>False) w0) ?_
  exact Bb
theorem outD (w0:World) (s:Se) (ad:Option Addr) (c:Nat) (es:List RE) (n:Int) (hn:n≠0∧n≠1):Calls Tryz.prog 36 #[.agg (rfC s (.slice ad es.length c)).toArray, .int .i64 n] w0 fun e w'=>RxP w0 w' s ad es (es++[]) e:=by
  refine enter Tryz.func36 rfl Tryz.ntmps36 rfl (St.start (fun _=>False) w0) ?_
  exact Bb
theorem upA_c (w0:World) (s:Se) (n:Int) (ad:Option Addr) (c:Nat) (es:List RE) (hO:AU w0 ad (GY es)) (hl:es.length≤99000) (hX:RxH s):Calls Tryz.prog 35 #[.agg (rfC s (.slice ad es.length c)).toArray, .int .i64 n] w0 fun e w'=>RxP w0 w' (upA s n).1 ad es (es++ZJ s n) e:=by
  have hnow:=hX.now
  have hz:=fun k hk h0=>(⟨hX.z k hk h0,hX.zh k hk Er⟩:(s.c k).id=0∧(s.c k).hold=0)
  unfold upA ZJ
  split
  · rename_i e;subst e;exact upR_c w0 s 0 Et ad c es hO hl hX.D5 F2 (hz 0 Et)
  split
  · rename_i e;subst e;exact upR_c w0 s 1 Et ad c es hO hl hX.D5 F2 (hz 1 Et)
  · exact outR w0 s ad c es n ⟨by assumption,by assumption⟩
theorem AbT (w0:World) (s:Se) (n:Int) (ad:Option Addr) (c:Nat) (es:List RE) (hO:AU w0 ad (GY es)) (hl:es.length≤99000) (hX:RxH s):Calls Tryz.prog 36 #[.agg (rfC s (.slice ad es.length c)).toArray, .int .i64 n] w0 fun e w'=>RxP w0 w' (Ha s n).1 ad es (es++PY s n) e:=by
  unfold Ha PY
  split
  · rename_i e;subst e;exact V9 w0 s 0 Et ad c es hO hl hX.D5 hX.r
  split
  · rename_i e;subst e;exact V9 w0 s 1 Et ad c es hO hl hX.D5 hX.r
  · exact outD w0 s ad c es n ⟨by assumption,by assumption⟩
/-! ## Messages: effects of those that are read -/
theorem Rel.BK (n:Nat) (hn:n<2){h:Int}(hh:h=0∨3≤h):∀ (ms:List MsD){s:Se},RxH s→s.hold=h→(∀ m∈ms,m.Fit)→∃ rs,Rel (BK n s ms).2 rs
  | [],_,_,_,_=>⟨[], .nil⟩
  | m::ms,s,hX,he,hm=>by
    unfold YtcmpamnhegndnaaGreatDoor.BK
    split
    · exact ⟨[], .nil⟩
    · rename_i h0
      have hf:=hm m (List.mem_cons_self ..)
      have hfh:=hf.hold
      have hst:=hX.st n hn
      obtain ⟨rs,hr⟩:=Rel.BK n hn hh ms (hX.CI n hn m hf Er (by rw [he];exact hh)) ((Mu s hn (hf.hold.imp id And.left)).trans he) fun x hx=>hm x (List.mem_cons_of_mem _ hx)
      exact ⟨_,(Rel.hear s hn m Er).2.app hr⟩
theorem Rel.feed {a i h N B:Int}{s:Se}(I:SeI a i h N B s) (hh:h=0∨3≤h) (n:Nat) (hn:n<2) (bs:List Int) (hB:Bys ((s.c n).wait++bs)):Rel (AM s n bs).2 ((AM s n bs).2.map GJ):=by
  have key:∃ rs,Rel (AM s n bs).2 rs:=by
    have hff:=IT _ [] _ (Nat.le_refl _) hB (fun m hm=>by cases hm)
    unfold AM
    split
    · exact ⟨[], .nil⟩
    · have e:(s.fed n bs).hold=h:=((DL s n _).2.1).trans I.cst.2.2
      obtain ⟨rs,hr⟩:=Rel.BK n hn hh _ (I.rx.fed hn bs) e hff.1
      unfold G1
      split
      · exact ⟨rs,hr⟩
      · split
        · exact ⟨rs,hr⟩
        · rename_i f hf
          obtain ⟨h1,h2,h3⟩:=hff.2.1 f hf
          exact ⟨_,hr.app (.end _ n Er Er h3)⟩
  obtain ⟨rs,hr⟩:=key
  exact hr.2 ▸ hr

theorem Q2 (w0:World) (hG:GF w0) (hZ:GZ w0) (a i t h r:Int) (hb:¬ I9 a i t h r) (v:Value):Calls Tryz.prog 8 #[.agg (Iu a i t h r).toArray,v] w0 fun e w'=>e = .returned (.bool true)∧Frm (fun _=>False) w0 w':=by
  refine enter Tryz.func8 rfl Tryz.ntmps8 rfl (St.start (fun _=>False) w0) ?_
  refine J2 ?_
  refine WL.box rfl rfl rfl (.none rfl) rfl rfl ?_
  intro g2 hg2
  refine J6 ?_
  refine zk ck_9 rfl (fun w hS=>Tg w (hG.FA (fun h=>h) hS) (hZ.FA (fun h=>h) hS)) ?_
  refine J9 ?_
  refine zk Abx rfl (fun w hS=>YJ w a i t h r hb) ?_
  refine J7 ?_
  refine WC.cut (fun _:Unit=>[(7, .bool false),(5, .pointer none),(6, .int .i64 1),(2, .pointer (some ⟨g2,0,none⟩))]) (fun _=>[.row g2 (Iu a i t h r)]) (fun _=>True) ?_ ?_
  refine J3 ?_
  refine JT (fun h38=>?_) (fun h38=>?_)
  refine J3 ?_
  refine JT (fun h42=>?_) (fun h42=>?_)
  refine J4 ?_
  refine JT (fun h47=>?_) (fun h47=>?_)
  refine J4 ?_
  refine JT (fun h52=>?_) (fun h52=>?_)
  refine J4 ?_
  refine JT (fun h57=>?_) (fun h57=>?_)
  refine J4 ?_
  refine JT (fun h62=>?_) (fun h62=>?_)
  refine J14 ?_
  exact B2
  refine J3 ?_
  refine JT (fun h66=>?_) (fun h66=>?_)
  refine J3 ?_
  refine JT (fun h70=>?_) (fun h70=>?_)
  refine J6 ?_
  exact B2
  refine J15 ?_
  exact Ca
  refine J19 ?_
  exact Ca
  refine J28 ?_
  exact Ca
  refine J30 ?_
  refine J3 ?_
  exact Ca
  refine J30 ?_
  refine J8 ?_
  exact Ca
  refine J30 ?_
  refine J13 ?_
  exact Ca
  refine J30 ?_
  refine J17 ?_
  exact Ca
  rintro _ _
  refine J12 ?_
  refine zk ck_29 rfl (fun w hS=>ZD w (MsL.zero 2)) ?_
  refine J10 ?_
  refine zV ((AZ rfl rfl rfl).t (rfl)) rfl ?_
  refine J2 ?_
  refine zS (AY true rfl rfl Tryz.underlying40 rfl) rfl ?_
  refine J3 ?_
  refine zk VQ rfl (fun w hS=>by have h:=Ou w a i t h r;rw [if_neg hb] at h;exact h) ?_
  refine zS ((AZ rfl rfl rfl).t (rfl)) rfl ?_
  refine J3 ?_
  refine zk Abl rfl (fun w hS=>UG w) ?_
  refine J1 ?_
  refine zS ((AZ rfl rfl rfl).t (rfl)) rfl ?_
  refine J3 ?_
  refine zk ck_28 rfl (fun w hS=>Xj w) ?_
  refine J1 ?_
  refine zS ((AZ rfl rfl rfl).t (rfl)) rfl ?_
  refine J3 ?_
  refine zk ZQ rfl (fun w hS=>AcF w 0) ?_
  refine J1 ?_
  refine zS ((AZ rfl rfl rfl).t (rfl)) rfl ?_
  refine J3 ?_
  refine zk ck_20 rfl (fun w hS=>WB w 0) ?_
  refine J1 ?_
  refine zS ((AZ rfl rfl rfl).t (rfl)) rfl ?_
  refine J3 ?_
  refine zk Qw rfl (fun w hS=>XB w 0 (.slice none 0 0)) ?_
  refine J1 ?_
  refine zS ((AZ rfl rfl rfl).t (rfl)) rfl ?_
  refine J3 ?_
  refine zk ck_24 rfl (fun w hS=>Xu w 9) ?_
  refine J1 ?_
  refine zS ((AZ rfl rfl rfl).t (rfl)) rfl ?_
  refine J4 ?_
  refine zk ck_31 rfl (fun w hS=>Yx w 0 0 ⟨#[]⟩) ?_
  refine J1 ?_
  refine zS ((AZ rfl rfl rfl).t (rfl)) rfl ?_
  refine J3 ?_
  refine zS ((AZ rfl rfl rfl).t (rfl)) rfl ?_
  refine J3 ?_
  refine zk Vl rfl (fun w hS=>UB w)<|zS ((AZ rfl rfl rfl).t (rfl)) rfl<|?_
  refine J3 ?_
  refine zk Zt rfl (fun w hS=>TU w)<|zS ((AZ rfl rfl rfl).t (rfl)) rfl<|?_
  refine J3 ?_
  refine zk ck_25 rfl (fun w hS=>Abg w)<|zS ((AZ rfl rfl rfl).t (rfl)) rfl<|?_
  refine J6 ?_
  exact A9
end Gq

def Jq (listed:Array Bool) (m:Nat):Bool:=(List.range listed.size).all fun k=>Nat.blt k m || !(listed.getD k false)
theorem NL {listed:Array Bool}{m j:Nat}(hj:j<m) (h:Jq listed m=true):Jq (listed.setIfInBounds j true) m=true:=by
  refine List.all_eq_true.2 fun k hk=>?_
  rw [Array.size_setIfInBounds] at hk
  have h1:=List.all_eq_true.1 h k hk
  rw [Bool.or_eq_true] at h1 ⊢
  rcases h1 with h1|h1
  · exact .inl h1
  · by_cases e:j=k
    · subst e;exact .inl (by simpa using hj)
    · rw [getD_set_ne false e];exact .inr h1
section
variable {P:Program}{ops:Array Oper}{Q:Exit→Act→World→Prop}{n:Nat}{p:Nat→Prop}{w0:World}{o:Oper}{rest os:List Oper}{l:Kn}{L L0 L1:List Ent}{K:Act→World→Prop}{S T:World→Prop}{m:Nat}
def Nx (P:Program) (ops:Array Oper) (Q:Exit→Act→World→Prop) (S T:World→Prop) (m:Nat):Nat→Array Bool→Act→World→Prop
  | 0,listed,a,w=>Region.ready .any ops listed=[]∧Q .normal a w
  | g+1,listed,a,w=>(Region.ready .any ops listed=[]→Q .normal a w)∧∀ i∈Region.ready .any ops listed,wpOp P ops Q i (fun a' w'=>((Jq (listed.setIfInBounds i true) m=true→S w')∧T w')∧Nx P ops Q S T m g (listed.setIfInBounds i true) a' w') a w
theorem Nx.any:∀ (g:Nat) (listed:Array Bool) (a:Act) (w:World),Nx P ops Q S T m g listed a w→wpAny P .any ops Q g listed a w
  | 0,_,_,_,h=>h
  | g+1,_,_,_,h=>⟨h.1,fun i hi=>wpOp_mono (fun a' w' k=>Nx.any g _ a' w' k.2) (h.2 i hi)⟩
theorem Nx.first {i:Nat}{oi:Oper}{v:Value}{b:Bool}(hi:ops[i]?=some oi) (hsel:Region.noSelect ops=true) (him:i<m) (hw8:(b || TF ops m i)=true)
    (hQ:∀ c a w,Q (.panic c) (a.put oi.dst v) w→Q (.panic c) a w):∀ (g:Nat) (listed:Array Bool) (a:Act) (w:World),
      (∀ j oj,ops[j]?=some oj→j≠i→listed.getD j true=false→(∀ e∈oj.after,Region.binds .any e=true→e.on≠i)→oi.apart ops oj=true) →
      i∈Region.ready .any ops listed→YieldsIf P ops (if b=true then T else S) oi v a→(b=false→Jq listed m=true)→(Jq listed m=true→S w)→T w→Nx P ops Q S T m g (listed.setIfInBounds i true) (a.put oi.dst v) w→Nx P ops Q S T m (g+1) listed a w
  | g,listed,a,w,hf,hr,hy,hn,hS,hT,H=>by
    refine ⟨fun h=>Gk,fun j hj=>?_⟩
    by_cases hji:j=i
    · subst hji
      refine hy.wpOp hi ?_ ⟨⟨fun h=>hS ?_,hT⟩,H⟩
      · cases b
        · exact hS (hn rfl)
        · exact hT
      · refine List.all_eq_true.2 fun k hk=>?_
        have h1:=List.all_eq_true.1 h k (by rwa [Array.size_setIfInBounds])
        rw [Bool.or_eq_true] at h1 ⊢
        rcases h1 with h1|h1
        · exact .inl h1
        · by_cases e:j=k
          · subst e;rw [O0 hr];exact .inr rfl
          · rw [getD_set_ne false e] at h1;exact .inr h1
    · cases g with
      | zero =>
        have:=ready_mono hj hji
        rw [H.1] at this
        cases this
      | succ g =>
        obtain ⟨hjun,oj,hoj,hall⟩:=mem_ready.1 hj
        have hnot:∀ e∈oj.after,Region.binds .any e=true→e.on≠i:=fun e he hb heq=>by
          have h1:=hall e he hb
          rw [heq,O0 hr] at h1
          cases h1
        have hjm:b=false→j<m:=fun hb0=>Decidable.byContradiction fun hk=>by
          obtain ⟨e,he,hb,hon⟩:=PW (by rw [hb0] at hw8;exact hw8) hoj hk
          exact hnot e he hb hon
        have h2:=wpOp_putIf hoj (hf j oj hoj hji hjun hnot) (fun cs b=>Region.noSelect_spec hsel i oi cs b hi) (fun cs b=>Region.noSelect_spec hsel j oj cs b hoj) hQ hy (H.2 j (ready_mono hj hji))
        have hcm:(listed.setIfInBounds i true).setIfInBounds j true=(listed.setIfInBounds j true).setIfInBounds i true:=Array.setIfInBounds_comm _ _ (fun e=>hji e.symm)
        have hnn:Jq (listed.setIfInBounds j true) m=true→Jq ((listed.setIfInBounds i true).setIfInBounds j true) m=true:=fun h=>by
          rw [hcm]
          exact NL him h
        refine wpOp_mono (fun a' w' h3=>⟨⟨fun h=>h3.2.1.1 (hnn h),h3.2.1.2⟩,Nx.first hi hsel him hw8 hQ g _ a' w' (fun k ok hk hki hun hno=>hf k ok hk hki ?_ hno) (ready_mono hr (Ne.symm hji)) h3.1 (fun hb0=>NL (hjm hb0) (hn hb0)) (fun h=>h3.2.1.1 (hnn h)) h3.2.1.2 ?_⟩) h2
        · by_cases hjk:j=k
          · subst hjk;exact hjun
          · rw [getD_set_ne true hjk] at hun;exact hun
        · rw [Array.setIfInBounds_comm _ _ hji]
          exact h3.2.2
def MF (P:Program) (os:List Oper) (Q:Exit→Act→World→Prop) (p:Nat→Prop) (w0:World) (L0 L1:List Ent) (m g:Nat) (listed:Array Bool):Act→World→Prop:=fun a w=>Nx P os.toArray (NP Q) (fun w=>St p w0 w L0) (fun w=>St p w0 w L1) m g listed a w
def WRU (P:Program) (os:List Oper) (Q:Exit→Act→World→Prop) (n:Nat) (p:Nat→Prop) (w0:World) (L0 L1:List Ent) (m g:Nat) (listed:Array Bool) (l:Kn) (L:List Ent):Prop :=
  ∀ a w,Has n a l→St p w0 w L→MF P os Q p w0 L0 L1 m g listed a w
theorem WC.heldU {id:Nat}(m:Nat) (L0 L1:List Ent) (hm:P.follows .mixedOrders=true) (h:WRU P os Q n p w0 L0 L1 m os.length (Array.replicate os.length false) l L):WC P (.region id os.toArray true) Q n p w0 l L:=fun a w ha hS =>
  Code.wp_mono NP.imp (wp_region_any hm (by have h1:=Nx.any _ _ _ _ (h a w.drew ha hS.drew);simpa using h1))
def Wl (b:Bool) (ops:Array Oper) (m:Nat) (js:List Nat):Bool:=js.all fun i=>Nat.blt i m && (b || TF ops m i)
theorem Kk {K:Act→Prop}{w:World}{g:Nat}{b:Bool}(hsel:Region.noSelect os.toArray=true) (hS:S w) (hT:T w):∀ (js:List Nat) (listed:Array Bool) (a:Act),GP .any os.toArray js listed=true→Wl b os.toArray m js=true→(b || Jq listed m)=true →
    PQ P os.toArray (if b=true then T else S) K (js.map (at_ os)) a→(∀ a,K a→Nx P os.toArray (NP Q) S T m g (marks listed js) a w)→Nx P os.toArray (NP Q) S T m (js.length+g) listed a w
  | [],listed,a,_,_,_,h,hK=>by simpa [marks] using hK a h
  | i::is,listed,a,hB,hZ,hn,h,hK=>by
    simp only [GP,Bool.and_eq_true] at hB
    simp only [Wl,List.all_cons,Bool.and_eq_true] at hZ
    obtain ⟨⟨hr,hf⟩,hB'⟩:=hB
    obtain ⟨v,hy,h'⟩:=h
    have hr':i∈Region.ready .any os.toArray listed:=by simpa using hr
    have him:i<m:=by simpa using hZ.1.1
    have hn':b=false→Jq listed m=true:=fun hb=>by rw [hb] at hn;exact hn
    rw [List.length_cons,show is.length+1+g=(is.length+g)+1 by omega]
    exact Nx.first (Hw hr') hsel him hZ.1.2 (fun c a w hh=>hh) _ listed a w (Region.free_spec (Hw hr') hf) hr' hy hn' (fun _=>hS) hT (Kk hsel hS hT is _ _ hB' hZ.2 (by
      cases b
      · exact NL him (hn' rfl)
      · rfl) h' hK)
theorem WRU.first {listed:Array Bool}{g:Nat}(js:List Nat) (hsel:Region.noSelect os.toArray=true) (hB:GP .any os.toArray js listed=true) (hZ:Wl false os.toArray m js=true) (hn:Jq listed m=true) (FA:∀ w,St p w0 w L→St p w0 w L0) (keep1:∀ w,St p w0 w L→St p w0 w L1)
    (h:WH P os.toArray (MF P os Q p w0 L0 L1 m g (marks listed js)) n p w0 L0 (js.map (at_ os)) l L):WRU P os Q n p w0 L0 L1 m (js.length+g) listed l L:=fun a w ha hS =>
  Kk (b:=false) (K:=fun a'=>∀ w,St p w0 w L→MF P os Q p w0 L0 L1 m g (marks listed js) a' w) hsel (FA w hS) (keep1 w hS) js listed a hB hZ hn (h a ha) (fun _ h=>h w hS)
theorem WRU.free {listed:Array Bool}{g:Nat}(js:List Nat) (hsel:Region.noSelect os.toArray=true) (hB:GP .any os.toArray js listed=true) (hZ:Wl true os.toArray m js=true) (FA:∀ w,St p w0 w L→St p w0 w L0) (keep1:∀ w,St p w0 w L→St p w0 w L1)
    (h:WH P os.toArray (MF P os Q p w0 L0 L1 m g (marks listed js)) n p w0 L1 (js.map (at_ os)) l L):WRU P os Q n p w0 L0 L1 m (js.length+g) listed l L:=fun a w ha hS =>
  Kk (b:=true) (K:=fun a'=>∀ w,St p w0 w L→MF P os Q p w0 L0 L1 m g (marks listed js) a' w) hsel (FA w hS) (keep1 w hS) js listed a hB hZ rfl (h a ha) (fun _ h=>h w hS)
theorem WRU.one {g:Nat}{listed:Array Bool}(i:Nat) (hr:Region.ready .any os.toArray listed=[i])
    (h:WL P os.toArray (RQ (fun a' w'=>((Jq (listed.setIfInBounds i true) m=true→St p w0 w' L0)∧St p w0 w' L1)∧MF P os Q p w0 L0 L1 m g (listed.setIfInBounds i true) a' w') (NP Q)) n p w0 [at_ os i] l L):WRU P os Q n p w0 L0 L1 m (g+1) listed l L:=fun a w ha hS=>by
  refine ⟨fun h0=>absurd (hr ▸ h0) Fe,fun j hj=>?_⟩
  rw [hr] at hj
  obtain rfl:=List.mem_singleton.1 hj
  have ho:=Hw (listed:=listed) (i:=j) (by rw [hr];exact hj)
  have h':=h a w ha hS
  unfold wpOp
  simp only [ho]
  unfold wpList at h'
  split
  · rename_i hwd
    exact B3
  · rename_i hwd
    rw [if_neg hwd] at h'
    exact h'
theorem WRU.done {listed:Array Bool}(hB:Region.ready .any os.toArray listed=[]) (h:WE Q .normal n p w0 l L):WRU P os Q n p w0 L0 L1 m 0 listed l L:=fun a w ha hS=>⟨hB,h a w ha hS⟩
theorem WH.LY {listed:Array Bool}{g:Nat}{LL:List Ent}(h:WRU P os Q n p w0 L0 L1 m g listed l L):WH P os.toArray (MF P os Q p w0 L0 L1 m g listed) n p w0 LL [] l L:=fun a ha w hS=>h a w ha hS
theorem WL.LY {listed listed':Array Bool}{g:Nat}(FA:∀ w,St p w0 w L→St p w0 w L0) (keep1:∀ w,St p w0 w L→St p w0 w L1) (h:WRU P os Q n p w0 L0 L1 m g listed l L):WL P os.toArray (RQ (fun a' w'=>((Jq listed' m=true→St p w0 w' L0)∧St p w0 w' L1)∧MF P os Q p w0 L0 L1 m g listed a' w') (NP Q)) n p w0 [] l L:=fun a w ha hS=>⟨⟨fun _=>FA w hS,keep1 w hS⟩,h a w ha hS⟩
theorem WL.QT {listed listed':Array Bool}{g:Nat}(hi:Jq listed' m=false) (keep1:∀ w,St p w0 w L→St p w0 w L1) (h:WRU P os Q n p w0 L0 L1 m g listed l L):WL P os.toArray (RQ (fun a' w'=>((Jq listed' m=true→St p w0 w' L0)∧St p w0 w' L1)∧MF P os Q p w0 L0 L1 m g listed a' w') (NP Q)) n p w0 [] l L:=fun a w ha hS=>⟨⟨fun h=>(by rw [hi] at h;cases h),keep1 w hS⟩,h a w ha hS⟩
end
end Go.Proofs.YtcmpamnhegndnaaGreatDoor
