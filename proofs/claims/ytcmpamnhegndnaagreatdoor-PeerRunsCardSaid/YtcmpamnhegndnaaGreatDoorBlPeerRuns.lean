/- Texts joined: engine, contracts and laws, in the order in which they build. -/
import Derived.Test.YtcmpamnhegndnaaGreatDoorBkPeerRuns
namespace Go.Proofs.YtcmpamnhegndnaaGreatDoor
open Go.RowKit

def JD (x:Int):Nat→List Int
  | 0=>[]
  | i+1=>(x / 2 ^ i % 2)::JD x i
theorem GS (x:Int):∀ i,(JD x i).length=i
  | 0=>rfl
  | i+1=>by rw [JD,List.length_cons,GS x i]
theorem P9 (x:Int):∀ i,Bits (JD x i)
  | 0=>fun b h=>by cases h
  | i+1=>fun b h=>by
    rw [JD] at h
    rcases List.mem_cons.1 h with rfl|h
    · omega
    · exact P9 x i b h
theorem GX {x:Int}(h:0≤x∧x≤255):FO (JD x 8)=x:=by
  show 2*(2*(2*(2*(2*(2*(2*(2*0+x / 2 ^ 7 % 2)+x / 2 ^ 6 % 2)+x / 2 ^ 5 % 2)+x / 2 ^ 4 % 2)+x / 2 ^ 3 % 2)+x / 2 ^ 2 % 2)+x / 2 ^ 1 % 2)+x / 2 ^ 0 % 2=x
  omega
def GL (zs:List Int):List Int:=zs.flatMap fun x=>JD x 8
theorem Uu (zs:List Int):(GL zs).length=8*zs.length:=by
  induction zs with
  | nil=>rfl
  | cons z zs ih=>unfold GL at ih ⊢;rw [List.flatMap_cons,List.length_append,ih,GS,List.length_cons];omega
theorem Tj (zs:List Int):Bits (GL zs):=fun b h=>by
  obtain ⟨z,_,hz⟩:=List.mem_flatMap.1 h
  exact P9 z 8 b hz
theorem Bits.app {xs ys:List Int}(h1:Bits xs) (h2:Bits ys):Bits (xs++ys):=fun b h=>(List.mem_append.1 h).elim (h1 b) (h2 b)
theorem Bits.zeros (n:Nat):Bits (List.replicate n 0):=fun _ h=>.inl (List.eq_of_mem_replicate h)
theorem Ln:∀ n:Nat,FO (List.replicate n 0)=0
  | 0=>rfl
  | n+1=>by rw [List.replicate_succ',I1,Ln n];rfl
def b32 (zs:List Int):List Int:=GL zs++List.replicate (32-8*zs.length) 0
theorem QZ {zs:List Int}(h:zs.length≤4):(b32 zs).length=32:=by unfold b32;rw [List.length_append,Uu,List.length_replicate];omega
theorem Sr (zs:List Int):Bits (b32 zs):=(Tj zs).app (Bits.zeros _)
theorem AbX {zs:List Int}(hB:Bys zs) (h:zs.length≤4):FO (b32 zs)=GC zs:=by
  unfold b32
  rw [Hk,Ln,List.length_replicate,Int.add_zero]
  match zs,h with
  | [],_=>rfl
  | [a],_ =>
    have ha:=GX (hB a Fe)
    rw [show GL [a]=JD a 8 from List.append_nil _,ha]
    show a*2 ^ 24=a*16777216+0*65536+0*256+0
    omega
  | [a,b],_ =>
    have ha:=GX (hB a Fe)
    have hb:=GX (hB b Fe)
    rw [show GL [a,b]=JD a 8++JD b 8 by unfold GL;simp,Hk,ha,hb,GS]
    show (a*2 ^ 8+b)*2 ^ 16=a*16777216+b*65536+0*256+0
    omega
  | [a,b,c],_ =>
    have ha:=GX (hB a Fe)
    have hb:=GX (hB b Fe)
    have hc:=GX (hB c Fe)
    rw [show GL [a,b,c]=JD a 8++JD b 8++JD c 8 by unfold GL;simp,Hk,Hk,ha,hb,hc,GS,GS]
    show ((a*2 ^ 8+b)*2 ^ 8+c)*2 ^ 8=a*16777216+b*65536+c*256+0
    omega
  | [a,b,c,d],_ =>
    have ha:=GX (hB a Fe)
    have hb:=GX (hB b Fe)
    have hc:=GX (hB c Fe)
    have hd:=GX (hB d Fe)
    rw [show GL [a,b,c,d]=JD a 8++JD b 8++JD c 8++JD d 8 by unfold GL;simp,Hk,Hk,Hk,ha,hb,hc,hd,GS,GS,GS]
    show (((a*2 ^ 8+b)*2 ^ 8+c)*2 ^ 8+d)*2 ^ 0=a*16777216+b*65536+c*256+d
    omega
theorem ZL {zs:List Int}(hB:Bys zs) (h:zs.length≤4) (n:Nat) (hn:n≤32):FO ((b32 zs).take n++List.replicate (32-n) 0)=EK (GC zs) n:=by
  rw [← AbX hB h]
  have hl:=QZ h
  have e:=Hk ((b32 zs).take n) ((b32 zs).drop n)
  rw [List.take_append_drop,List.length_drop,hl] at e
  have hb:=Vv (bs:=(b32 zs).drop n) fun b hb=>Sr zs b (List.mem_of_mem_drop hb)
  rw [List.length_drop,hl] at hb
  rw [Hk,Ln,List.length_replicate,Int.add_zero]
  unfold EK
  have hi:inI (n:Int)=n:=by unfold inI;omega
  rw [hi,show (32-(n:Int)).toNat=32-n by omega,show (((2 ^ (32-n):Nat)):Int)=(2:Int) ^ (32-n) by simp]
  rw [e]
  generalize (2:Int) ^ (32-n)=M at *
  generalize FO ((b32 zs).take n)=A at *
  generalize FO ((b32 zs).drop n)=B at *
  rw [Int.add_comm (A*M) B,Int.add_mul_emod_self_right,Int.emod_eq_of_lt hb.1 hb.2]
  omega
section Gq
attribute [local irreducible] WL WC WE WQ WP WH WR WM WRH

theorem R4 {z:Int}{i:Nat}(hi:i<8) (h:0≤z):(z / 2 ^ i).tdiv 2=z / 2 ^ (i+1)∧(z / 2 ^ i).tmod 2=z / 2 ^ i % 2∧0≤z / 2 ^ i:=by
  have h0:0≤z / 2 ^ i:=Int.ediv_nonneg h (by have:=Nat.two_pow_pos i;have e:(2:Int) ^ i=((2 ^ i:Nat):Int):=(by simp);omega)
  refine ⟨?_,Int.tmod_eq_emod_of_nonneg h0,h0⟩
  rw [Int.tdiv_eq_ediv_of_nonneg h0]
  have:i=0∨i=1∨i=2∨i=3∨i=4∨i=5∨i=6∨i=7:=by omega
  rcases this with rfl|rfl|rfl|rfl|rfl|rfl|rfl|rfl <;> omega
theorem Tk (zs:List Int) (z:Int):GL (zs++[z])=GL zs++JD z 8:=by unfold GL;rw [List.flatMap_append,List.flatMap_cons,List.flatMap_nil,List.append_nil]
def NV (w w':World) (xs:List Int) (e:Ending):Prop :=
  match DS xs with
  | none=>e = .returned (.tuple #[.slice none 0 0, .bool false])∧Frm (fun _=>False) w w'
  | some ps=>∃ ad c E,e = .returned (.tuple #[.slice ad ps.length c, .bool true])∧Vec 2 ad ps.length c (NR ps) E∧St (fun _=>False) w w' E
theorem NV.no {w w':World}{v:List Int}{L:List Ent}(h:DS v=none) (hS:St (fun _=>False) w w' L):NV w w' v (.returned (.tuple #[.slice none 0 0, .bool false])):=by
  unfold NV
  rw [h]
  exact ⟨rfl,hS.frm⟩
theorem AbJ (w:World) (g hc:Nat) (bs:List Int) (cs:List Value) (hV:Vec 1 (some ⟨g,0,none⟩) 32 hc (CG bs) [.row g cs]) (hl:bs.length=32) (hB:Bits bs) (hw:(Ent.row g cs).holds w) :
    Calls Tryz.prog 115 #[.slice (some ⟨g,0,none⟩) 32 hc] w fun e w'=>e = .returned (.int .u32 (FO bs))∧Frm (fun _=>False) w w':=by
  obtain ⟨b,o,e,hr⟩:=hV.Rf F5
  cases e
  have h:=AaS w g 0 hc bs (hr w fun e he=>by rw [List.mem_singleton.1 he];exact hw) hB Er
  rw [hl] at h
  exact h
set_option maxHeartbeats 8000000 in
theorem AcN (w:World) (b o cv:Nat) (xs:List Int) (hW:Win w b o cv xs) (hn:xs.length≤100000) :
    Calls Tryz.prog 92 #[.slice (some ⟨b,o,none⟩) xs.length cv] w fun e w'=>NV w w' xs e:=by
  have hle:=hW.le
  refine enter Tryz.func92 rfl Tryz.ntmps92 rfl (St.start (fun _=>False) w) ?_
  refine J8 ?_
  refine zB Tryz.underlying115 U9 MK rfl rfl ?_
  intro g12 hg12
  refine J10 ?_
  refine WC.loop (fun y:Nat×List PfL×Option Addr×Nat×List Ent=>[(5, .int .i64 y.1),(4, .slice y.2.2.1 y.2.1.length y.2.2.2.1),(0, .slice (some ⟨b,o,none⟩) xs.length cv)]) (fun y=>y.2.2.2.2++[]) (fun y=>y.1≤xs.length∧DS xs=(DS (xs.drop y.1)).map (y.2.1 ++ ·)∧Vec 2 y.2.2.1 y.2.1.length y.2.2.2.1 (NR y.2.1) y.2.2.2.2∧y.2.1.length≤y.1) (fun y=>xs.length-y.1) (0,[],some ⟨g12,0,none⟩,0,[.row g12 []]) ⟨Nat.zero_le _,by dsimp only;rw [List.drop_zero];cases DS xs <;> rfl,Vec.row (k:=0) rfl rfl (Nat.le_refl _),Nat.zero_le _⟩ Km (.refl _) ?_
  rintro ⟨k,ps,ad,c,E⟩ ⟨hk,hp,hV,hpl⟩
  dsimp only at hk hp hV hpl
  dsimp only
  refine J6 ?_
  refine JT (fun h16=>?_) (fun h16=>?_)
  refine J8 ?_
  obtain ⟨x,hx⟩:∃ x,xs[k]?=some x:=⟨xs[k]' Er,List.getElem?_eq_getElem _⟩
  have hbx:=hW.bys x (List.mem_of_getElem? hx)
  obtain ⟨m,rfl⟩:=Int.eq_ofNat_of_zero_le hbx.1
  rw [Gt hx,Kw] at hp
  have hnm:CR (m:Int)=(m+7) / 8:=(by unfold CR;rw [Int.toNat_natCast])
  have hdl:(xs.drop (k+1)).length=xs.length-(k+1):=List.length_drop ..
  refine J2 ?_
  refine zV (AB (lo:=k) rfl rfl rfl Tryz.underlying25 AO Er Er) rfl ?_
  refine zV (AA rfl rfl BH (AL (fun h=>h) (hW.get hx))) rfl ?_
  refine zV (AQ rfl rfl Tryz.underlying3 Tryz.underlying5 (AF Er Er)) rfl ?_
  refine J14 ?_
  refine JT (fun h25=>?_) (fun h25=>?_)
  refine J15 ?_
  refine eT2 ?_
  have e0:DS xs=none:=(by rw [hp,if_pos (.inl (by omega))];rfl)
  exact fun w' h=>NV.no e0 h
  refine J7 ?_
  refine zB Tryz.underlying32 AP DB rfl rfl ?_
  intro g26 hg26
  refine J5 ?_
  refine WC.loop (fun y:Nat×Option Addr×Nat×List Ent=>[(7, .slice y.2.1 (8*y.1) y.2.2.1),(6, .int .i64 m),(5, .int .i64 (k+1+y.1:Nat)),(4, .slice ad ps.length c),(0, .slice (some ⟨b,o,none⟩) xs.length cv)]) (fun y=>y.2.2.2++(E++[])) (fun y=>k+1+y.1≤xs.length∧8*y.1<m+8∧Vec 1 y.2.1 (8*y.1) y.2.2.1 (CG (GL ((xs.drop (k+1)).take y.1))) y.2.2.2) (fun y=>xs.length-y.1) (0,some ⟨g26,0,none⟩,0,[.row g26 []]) ⟨by dsimp only;omega,by dsimp only;omega,Vec.row (k:=0) rfl rfl (Nat.le_refl _)⟩ (.cons rfl (.cons rfl (.int rfl Eu (.cons rfl (.cons rfl .nil))))) (.refl _) ?_
  rintro ⟨j,bd,bc,F⟩ ⟨hj,hj8,hF⟩
  dsimp only at hj hj8 hF
  dsimp only
  refine J5 ?_
  refine zV (FY rfl rfl rfl (AF Er Er)) rfl ?_
  refine J1 ?_
  refine zV (FY rfl rfl rfl (AF Er Er)) rfl ?_
  refine JT (fun h32=>?_) (fun h32=>?_)
  refine J12 ?_
  refine JT (fun h36=>?_) (fun h36=>?_)
  refine J19 ?_
  refine eT2 ?_
  have e0:DS xs=none:=(by rw [hp,if_pos (.inr (by rw [hdl,hnm];omega))];rfl)
  exact fun w' h=>NV.no e0 h
  refine J7 ?_
  obtain ⟨z,hz⟩:∃ z,xs[k+1+j]?=some z:=⟨xs[k+1+j]' Er,List.getElem?_eq_getElem _⟩
  have hbz:=hW.bys z (List.mem_of_getElem? hz)
  have hzd:(xs.drop (k+1))[j]?=some z:=(by rw [List.getElem?_drop];exact hz)
  refine J2 ?_
  refine zV (AB (lo:=k+1+j) rfl rfl rfl Tryz.underlying25 AO Er Er) rfl ?_
  refine zV (AA rfl rfl BH (AL (fun h=>h) (hW.get hz))) rfl ?_
  refine zV (AQ rfl rfl Tryz.underlying3 Tryz.underlying5 (AF Er Er)) rfl ?_
  refine J12 ?_
  refine zB Tryz.underlying32 AP DB rfl rfl ?_
  intro g44 hg44
  refine J10 ?_
  refine WC.loop (fun y:Nat×Option Addr×Nat×List Ent=>[(10, .int .i64 y.1),(9, .slice y.2.1 y.1 y.2.2.1),(8, .int .i64 (z / 2 ^ y.1)),(7, .slice bd (8*j) bc),(6, .int .i64 m),(5, .int .i64 (k+1+j+1:Nat)),(4, .slice ad ps.length c),(0, .slice (some ⟨b,o,none⟩) xs.length cv)]) (fun y=>y.2.2.2++(F++(E++[]))) (fun y=>y.1≤8∧Vec 1 y.2.1 y.1 y.2.2.1 (CG (JD z y.1)) y.2.2.2) (fun y=>8-y.1) (0,some ⟨g44,0,none⟩,0,[.row g44 []]) ⟨by dsimp only;omega,Vec.row (k:=0) rfl rfl (Nat.le_refl _)⟩ (.cons rfl (.cons rfl (.int rfl (by first|omega|(dsimp only;omega)) (.cons rfl (.cons rfl (.int rfl (by first|omega|(dsimp only;omega)) (.cons rfl (.cons rfl .nil)))))))) (.refl _) ?_
  rintro ⟨i,ed,ec,G⟩ ⟨hi,hG⟩
  dsimp only at hi hG
  dsimp only
  refine J4 ?_
  refine JT (fun h46=>?_) (fun h46=>?_)
  refine J9 ?_
  obtain ⟨hq1,hq2,hq3⟩:=R4 (z:=z) (i:=i) Er hbz.1
  have hq4:=Int.ediv_le_self (a:=z) (2 ^ (i+1)) hbz.1
  have hq5:=(R4 (z:=z) (i:=i) Er hbz.1).1
  have hq6:0≤z / 2 ^ (i+1):=(by rw [← hq5,Int.tdiv_eq_ediv_of_nonneg hq3];omega)
  refine J1 ?_
  refine zV (RR rfl rfl rfl Fl) rfl ?_
  rw [hq2]
  refine zB Tryz.underlying32 AP DB rfl rfl ?_
  intro g51 hg51
  refine J1 ?_
  refine WL.AN rfl rfl rfl Tryz.underlying32 Tryz.underlying32 AP Pf DB rfl rfl (Vec.row (g:=g51) (k:=1) (c:=1) (s:=1) (cs:=[.int .i64 (z / 2 ^ i % 2)]) (xs:=[.int .i64 (z / 2 ^ i % 2)]) rfl rfl (Nat.le_refl _)) (new:=CG (JD z i)) (fun h=>by obtain ⟨b',o',e,hr'⟩:=hG.src (L:=.row g51 [.int .i64 (z / 2 ^ i % 2)]::(G++(F++(E++[])))) (fun e he=>List.mem_cons_of_mem _ (List.mem_append_left _ he)) (by rw [K8,GS];exact h);exact ⟨b',o',e,fun w hS=>hr' _ _ w hS⟩) (by rw [K8,GS,Nat.mul_one]) (H6 _) Er (.none rfl) rfl rfl ?_
  intro ad53 c53 E53 hV53 hr53
  rw [Nat.add_comm 1 i] at hV53 ⊢
  refine J5 ?_
  refine zV (Jb rfl rfl rfl Fl (show _=z / 2 ^ (i+1) from by rw [hq1];exact AF Er Er)) rfl ?_
  refine J9 ?_
  exact WE.next (i+1,ad53,c53,E53) Eu ⟨by dsimp only;omega,hV53⟩ (.int rfl Eu (.cons rfl (.cons rfl (.cons rfl (.cons rfl (.cons rfl (.cons rfl (.cons rfl .nil)))))))) (List.Sublist.append_left (List.sublist_append_right G _) _)
  refine J9 ?_
  have hi8:i=8:=Er
  rw [hi8] at hG
  rw [hi8]
  refine WL.to (L':=F++(G++(E++[]))) (fun w hS=>St.front (R:=F) G hS) ?_
  refine J2 ?_
  refine WL.AN rfl rfl rfl Tryz.underlying32 Tryz.underlying32 AP Pf DB rfl rfl hF (new:=CG (JD z 8)) (fun h=>by obtain ⟨b',o',e,hr'⟩:=hG.src (L:=F++(G++(E++[]))) (fun e he=>List.mem_append_right _ (List.mem_append_left _ he)) (by rw [K8,GS];exact h);exact ⟨b',o',e,fun w hS=>hr' _ _ w hS⟩) (by rw [K8,GS]) (H6 _) Er (.none rfl) rfl rfl ?_
  intro ad58 c58 E58 hV58 hr58
  rw [← Hs, ← Tk, ← GW hzd,show 8*j+8=8*(j+1) by omega] at hV58
  rw [show 8*j+8=8*(j+1) by omega]
  refine J3 ?_
  exact WE.next (j+1,ad58,c58,E58) Eu ⟨by dsimp only;omega,by dsimp only;omega,hV58⟩ Km (List.Sublist.append_left (List.sublist_append_right G _) _)
  refine J10 ?_
  refine WC.loop (fun y:Nat×Option Addr×Nat×List Ent=>[(7, .slice y.2.1 (8*j+y.1) y.2.2.1),(6, .int .i64 m),(5, .int .i64 (k+1+j:Nat)),(4, .slice ad ps.length c),(0, .slice (some ⟨b,o,none⟩) xs.length cv)]) (fun y=>y.2.2.2++(E++[])) (fun y=>8*j+y.1≤32∧Vec 1 y.2.1 (8*j+y.1) y.2.2.1 (CG (GL ((xs.drop (k+1)).take j)++List.replicate y.1 0)) y.2.2.2) (fun y=>32-y.1) (0,bd,bc,F) ⟨by dsimp only;omega,by dsimp only;rw [show List.replicate 0 (0:Int)=[] from rfl,List.append_nil];exact hF⟩ Km (.refl _) ?_
  rintro ⟨t,hd,hc,H⟩ ⟨ht,hH⟩
  dsimp only at ht hH
  dsimp only
  refine J5 ?_
  refine JT (fun h61=>?_) (fun h61=>?_)
  refine J8 ?_
  refine zB Tryz.underlying32 AP DB rfl rfl ?_
  intro g63 hg63
  refine WL.to (L':=H++(.row g63 [.int .i64 0]::(E++[]))) (fun w hS=>St.front (R:=H) (L:=E++[]) [.row g63 [.int .i64 0]] hS) ?_
  refine WL.AN rfl rfl rfl Tryz.underlying32 Tryz.underlying32 AP Pf DB rfl rfl hH (new:=[.int .i64 0]) (fun _=>⟨g63,0,rfl,fun w hS=>BZ (g:=g63) w hS⟩) rfl rfl Er (.none rfl) rfl rfl ?_
  intro ad64 c64 E64 hV64 hr64
  have hrep:CG (GL ((xs.drop (k+1)).take j)++List.replicate t 0)++[.int .i64 0]=CG (GL ((xs.drop (k+1)).take j)++List.replicate (t+1) 0):=(by rw [List.replicate_succ', ← List.append_assoc,Hs _ [0]];rfl)
  rw [hrep,Nat.add_assoc] at hV64
  rw [Nat.add_assoc]
  refine J3 ?_
  exact WE.next (t+1,ad64,c64,E64) Eu ⟨by dsimp only;omega,hV64⟩ Km (List.Sublist.append_left (.cons _ (.refl _)) _)
  refine J11 ?_
  have hzl:((xs.drop (k+1)).take j).length=j:=Ey
  have hb4:((xs.drop (k+1)).take j).length≤4:=Er
  have ht32:8*j+t=32:=Er
  have hbe:GL ((xs.drop (k+1)).take j)++List.replicate t 0=b32 ((xs.drop (k+1)).take j):=(by unfold b32;rw [hzl,show t=32-8*j by omega])
  rw [hbe,ht32] at hH
  rw [ht32]
  rcases hH with ⟨_,h0,_⟩|⟨g,cs,rfl,rfl,hx2,hcl,hkc⟩
  · omega
  refine WL.as (L':=.row g cs::(E++[])) rfl ?_
  refine J5 ?_
  refine WC.loop (fun y:Nat×List Value=>[(11, .int .i64 y.1),(7, .slice (some ⟨g,0,none⟩) 32 hc),(6, .int .i64 m),(5, .int .i64 (k+1+j:Nat)),(4, .slice ad ps.length c),(0, .slice (some ⟨b,o,none⟩) xs.length cv)]) (fun y=>.row g y.2::(E++[])) (fun y=>m≤y.1∧y.1≤32∧y.2.length=hc*1∧∃ bs:List Int,y.2.take 32=CG bs∧bs.length=32∧∀ q:Nat,q<32→bs[q]?=if m≤q∧q<y.1 then some 0 else (b32 ((xs.drop (k+1)).take j))[q]?) (fun y=>32-y.1) (m,cs) ⟨Nat.le_refl _,by dsimp only;omega,hcl,b32 ((xs.drop (k+1)).take j),by rw [← hx2],QZ hb4,fun q _=>by rw [if_neg Eu]⟩ Km (.refl _) ?_
  rintro ⟨i,cs2⟩ ⟨him,hi32,hcl2,bs,hbs,hbl,hbq⟩
  dsimp only at him hi32 hcl2 hbs hbq
  dsimp only
  refine J4 ?_
  refine JT (fun h67=>?_) (fun h67=>?_)
  refine J10 ?_
  refine zV (AB (lo:=i) rfl rfl rfl Tryz.underlying32 AP Er Er) rfl ?_
  refine WL.DA rfl rfl rfl rfl AK Er (.none rfl) rfl ?_
  refine J8 ?_
  exact eW (i+1,cs2.set (0+i*1) (.int .i64 0)) Eu ⟨by dsimp only;omega,by dsimp only;omega,by rw [List.length_set];exact hcl2,bs.set i 0,by
  dsimp only
  rw [List.take_set,hbs,show 0+i*1=i by omega]
  unfold CG
  rw [List.map_set],by rw [List.length_set];exact hbl,fun q hq=>by
  rw [List.getElem?_set]
  dsimp only
  by_cases e:i=q
  · subst e
    rw [if_pos rfl,if_pos Er,if_pos Er]
  · rw [if_neg e,hbq q hq]
    by_cases h:m≤q∧q<i
    · rw [if_pos h,if_pos Er]
    · rw [if_neg h,if_neg Er]⟩ (.int rfl Eu (.cons rfl (.cons rfl (.cons rfl (.cons rfl (.cons rfl .nil))))))
  refine J11 ?_
  have hl32:=QZ hb4
  have hbl2:bs=(b32 ((xs.drop (k+1)).take j)).take m++List.replicate (32-m) 0:=List.ext_getElem? fun q=>(by
    by_cases hq:q<32
    · rw [hbq q hq]
      by_cases h:m≤q∧q<i
      · rw [if_pos h,List.getElem?_append_right Gm,List.getElem?_replicate,if_pos Gm]
      · rw [if_neg h,List.getElem?_append_left Gm,List.getElem?_take,if_pos Er]
    · rw [List.getElem?_eq_none Er,List.getElem?_eq_none (by rw [List.length_append,List.length_take,List.length_replicate,hl32];omega)])
  have hBy:Bys ((xs.drop (k+1)).take j):=fun y hy=>hW.bys y (List.mem_of_mem_drop (List.mem_of_mem_take hy))
  have hnum:FO bs=EK (GC ((xs.drop (k+1)).take j)) m:=(by rw [hbl2,ZL hBy hb4 m (by omega)])
  have hbits:Bits bs:=(by rw [hbl2];exact Bits.app (fun y hy=>Sr _ y (List.mem_of_mem_take hy)) (Bits.zeros _))
  have hVb:Vec 1 (some ⟨g,0,none⟩) 32 hc (CG bs) [.row g cs2]:=Vec.row (by rw [← hbs]) hcl2 hkc
  have hnj:CR (m:Int)=j:=(by rw [hnm];omega)
  obtain ⟨p,hpe⟩:∃ p:PfL,p=⟨EK (GC ((xs.drop (k+1)).take j)) m,inI m⟩:=⟨_,rfl⟩
  have hpc:[Value.int .u32 (FO bs), .int .i64 m]=p.cells:=(by rw [hpe,hnum];unfold PfL.cells inI;dsimp only;rw [show min (max (m:Int) 0) 32=m by omega])
  refine zk ck_115 rfl (fun w hS=>AbJ _ g hc bs cs2 hVb hbl hbits (hS.holds _ Fe)) ?_
  refine J2 ?_
  refine zB Tryz.underlying115 U9 MK rfl rfl ?_
  intro g78 hg78
  refine WL.rowAs (g:=g78) (cs':=p.cells) hpc ?_
  refine WL.to (L':=E++(.row g78 p.cells::[.row g cs2])) (fun w hS=>hS.M6 (by intro c h1 h2 h3 e;have h0:=h3 e [] [];rw [List.append_nil] at h0;simp only [h1,h2,h3];omega)) ?_
  refine WL.AN rfl rfl rfl Tryz.underlying115 Tryz.underlying115 U9 by_199 MK rfl rfl hV (new:=p.cells) (fun _=>⟨g78,0,rfl,fun w hS=>BZ (g:=g78) w hS⟩) rfl rfl Er (.none rfl) rfl rfl ?_
  intro ad79 c79 E79 hV79 hr79
  rw [← QP,show ps.length+1=(ps++[p]).length by rw [List.length_append];rfl] at hV79
  rw [show ps.length+1=(ps++[p]).length by rw [List.length_append];rfl]
  refine J3 ?_
  exact WE.next (k+1+j,ps++[p],ad79,c79,E79) Eu ⟨by dsimp only;omega,by
  dsimp only
  rw [hp,if_neg (by rw [hdl,hnj];omega),hnj,List.drop_drop]
  cases DS (xs.drop (k+1+j)) with
  | none=>rfl
  | some q =>
    show some (ps++_::q)=some ((ps++[p])++q)
    rw [hpe,List.append_assoc];rfl,hV79,by dsimp only;rw [List.length_append];show ps.length+1≤_;omega⟩ Km (List.Sublist.append_left (List.nil_sublist _) _)
  refine J16 ?_
  refine eT2 ?_
  have e0:DS xs=some ps:=(by
    rw [hp,List.drop_eq_nil_of_le Er,DS]
    show some (_++[])=_
    rw [List.append_nil])
  exact fun w' h=>by
    unfold NV
    rw [e0]
    exact ⟨ad,c,E,rfl,hV,h.sub (List.sublist_append_left _ _)⟩

theorem Pa (w:World) (a:AtL) (h0:0≤a.has) (h1:a.has≤511):Calls Tryz.prog 94 #[.agg a.AH.toArray] w fun e w'=>e = .returned (.int .i64 (HK a.has))∧Frm (fun _=>False) w w':=by
  have e1:hasB a.has 1=decide (a.has / 2 % 2=1):=by unfold hasB;exact decide_eq_decide.2 ⟨fun h=>h.2.2,fun h=>⟨by omega,by omega,h⟩⟩
  have e2:hasB a.has 2=decide (a.has / 4 % 2=1):=by unfold hasB;exact decide_eq_decide.2 ⟨fun h=>h.2.2,fun h=>⟨by omega,by omega,h⟩⟩
  have e3:hasB a.has 3=decide (a.has / 8 % 2=1):=by unfold hasB;exact decide_eq_decide.2 ⟨fun h=>h.2.2,fun h=>⟨by omega,by omega,h⟩⟩
  have t1:∀ n:Int,0≤n→n.tmod 2=n % 2:=fun n hn=>Int.tmod_eq_emod_of_nonneg hn
  have q2:IntKind.i64.wrap (a.has.tdiv 2)=a.has / 2:=by rw [Int.tdiv_eq_ediv_of_nonneg h0];exact AF Er Er
  have q4:IntKind.i64.wrap (a.has.tdiv 4)=a.has / 4:=by rw [Int.tdiv_eq_ediv_of_nonneg h0];exact AF Er Er
  have q8:IntKind.i64.wrap (a.has.tdiv 8)=a.has / 8:=by rw [Int.tdiv_eq_ediv_of_nonneg h0];exact AF Er Er
  refine enter Tryz.func94 rfl Tryz.ntmps94 rfl (St.start (fun _=>False) w) ?_
  refine J2 ?_
  refine WL.box rfl rfl rfl (.none rfl) rfl rfl ?_
  intro g1 hg1
  refine J8 ?_
  refine zV (Jb rfl rfl rfl Fl (q2)) rfl ?_
  refine zV (RR rfl rfl rfl Fl) rfl ?_
  rw [t1 _ Er]
  refine JT (fun h7=>?_) (fun h7=>?_)
  refine J10 ?_
  refine eT1 ?_
  exact fun w' h=>⟨by unfold HK;rw [e1,decide_eq_false Er];rfl,h.frm⟩
  refine J10 ?_
  refine zV (Jb rfl rfl rfl Fl (q4)) rfl ?_
  refine zV (RR rfl rfl rfl Fl) rfl ?_
  rw [t1 _ Er]
  refine JT (fun h12=>?_) (fun h12=>?_)
  refine J10 ?_
  refine eT1 ?_
  exact fun w' h=>⟨by unfold HK;rw [e1,e2,decide_eq_true Er,decide_eq_false Er];rfl,h.frm⟩
  refine J10 ?_
  refine zV (Jb rfl rfl rfl Fl (q8)) rfl ?_
  refine zV (RR rfl rfl rfl Fl) rfl ?_
  rw [t1 _ Er]
  refine JT (fun h17=>?_) (fun h17=>?_)
  refine J10 ?_
  refine eT1 ?_
  exact fun w' h=>⟨by unfold HK;rw [e1,e2,e3,decide_eq_true Er,decide_eq_true Er,decide_eq_false Er];rfl,h.frm⟩
  refine J11 ?_
  refine eT1 ?_
  exact fun w' h=>⟨by unfold HK;rw [e1,e2,e3,decide_eq_true Er,decide_eq_true Er,decide_eq_true Er];rfl,h.frm⟩
end Gq

theorem WY {os:List (Int×List Int)}{t:Int}{v:List Int}(hnd:((os++[(t,v)]).map (·.1)).Nodup) (k:Nat) (hlt:∀ j x,j<k→(DM os)[j]?=some x→x.1<t) (hge:∀ x,(DM os)[k]?=some x→t≤x.1) :
    DM (os++[(t,v)])=(DM os).take k++(t,v)::(DM os).drop k:=by
  have hp:=Pu os
  have ha:=QN os
  refine (PU ?_ hnd ?_).symm
  · refine List.perm_middle.trans ?_
    rw [List.take_append_drop]
    exact (hp.cons _).trans (List.perm_append_comm (l₁:=[(t,v)]))
  · have h1:∀ a∈(DM os).take k,a.1<t:=fun a h=>by
      obtain ⟨j,hj,e⟩:=List.getElem_of_mem h
      rw [List.length_take] at hj
      refine hlt j a Er ?_
      rw [← e,List.getElem_take,List.getElem?_eq_getElem]
    have h2:∀ b∈(DM os).drop k,t≤b.1:=fun b h=>by
      cases hx:(DM os)[k]? with
      | none=>rw [List.drop_eq_nil_of_le (List.getElem?_eq_none_iff.1 hx)] at h;cases h
      | some x =>
        have hd:=ha.sublist (List.drop_sublist k _)
        rw [Gt hx] at hd h
        have hk:=hge x hx
        rcases List.mem_cons.1 h with rfl|h
        · exact hk
        · exact Int.le_trans hk ((List.pairwise_cons.1 hd).1 b h)
    refine List.pairwise_append.2 ⟨ha.sublist (List.take_sublist k _),List.pairwise_cons.2 ⟨h2,ha.sublist (List.drop_sublist k _)⟩,fun a hA b hb=>?_⟩
    have:=h1 a hA
    rcases List.mem_cons.1 hb with rfl|hb
    · show a.1≤t;omega
    · have:=h2 b hb;omega

structure ReS where
  k:Nat
  d:AtD
  seen:List Int
  a:AtL
  es:Array MapEntry
  mc:Nat
  mm:Value→Option Value
  E:List Ent
  K:List Ent
structure ReS.Good (y:ReS) (xs:List Int):Prop where
  k:y.k≤xs.length
  dec:ED AtL.zero.d [] xs=ED y.d y.seen (xs.drop y.k)
  seen:KR y.d y.seen
  same:y.a.d = { y.d with others:=DM y.d.others }
  own:GB y.K y.a
  Jk:Vec 2 y.a.oad y.a.others.length y.a.oc (EA y.a.others) y.E
  vals:∀ o∈y.a.others,Ko y.K o
  map:JA (Mc .i64) y.es y.mm
  com:(8:Int) ∉ y.seen→y.a.cad=none∧y.a.cc=0
  ol:y.a.others.length≤y.k
  known:∀ t:Int,(y.mm (.int .i64 t)).getD (.bool false) = .bool (decide (t∈y.seen))
def CY:List Value:=[.int .i64 0, .int .i64 64, .int .i64 64, .int .i64 64, .int .i64 128, .int .i64 64, .int .i64 64, .int .i64 192, .int .i64 192]
def CZ:List Value:=[.int .i64 0, .int .i64 1, .int .i64 (-1), .int .i64 4, .int .i64 4, .int .i64 4, .int .i64 0, .int .i64 6, .int .i64 (-1)]
theorem Ol {ys:List Int}(h:fOf ys 0 / 16 % 2=1):BC ys=4:=by unfold BC;rw [if_pos h]
theorem Ov {ys:List Int}(h:¬ fOf ys 0 / 16 % 2=1):BC ys=3:=by unfold BC;rw [if_neg h]
theorem toN_4 {ys:List Int}(h:fOf ys 0 / 16 % 2=1):toN ys=4+(AJ ((ys.drop 2).take 2)).toNat:=by unfold toN;rw [Ol h,List.drop_take]
theorem toN_3 {ys:List Int}(h:¬ fOf ys 0 / 16 % 2=1) (hl:3≤ys.length) (h2:0≤fOf ys 2):toN ys=3+(fOf ys 2).toNat:=by
  unfold toN
  rw [Ov h]
  match ys,hl with
  | a::b::c::zs,_ =>
    show 3+(0*256+c).toNat=3+(fOf (a::b::c::zs) 2).toNat
    rw [show fOf (a::b::c::zs) 2=c from rfl]
    omega
theorem Hl {d:AtD}{seen xs:List Int}{f:Int×ByteArray}(h0:0<xs.length) (h:¬ (xs.length<BC xs∨xs.length<toN xs∨fOf xs 1∈seen)) (hs:DP d (xs.take (toN xs)) ((xs.take (toN xs)).drop (BC xs)) = .inr f):ED d seen xs = .inr f:=by
  rw [Ij h0 h,hs]
theorem Rt {d d':AtD}{seen xs:List Int}(h0:0<xs.length) (h:¬ (xs.length<BC xs∨xs.length<toN xs∨fOf xs 1∈seen)) (hs:DP d (xs.take (toN xs)) ((xs.take (toN xs)).drop (BC xs)) = .inl d'):ED d seen xs=ED d' (fOf xs 1::seen) (xs.drop (toN xs)):=by
  rw [Ij h0 h,hs]
abbrev MD (all:List Int):Prop:=fOf all 0 / 64*64≠DK (fOf all 1).toNat∨(fOf all 0 / 32 % 2*32≠0∧fOf all 0 / 64*64≠192)
abbrev Nr (all v:List Int):Prop:=(0≤Ho (fOf all 1).toNat∧(v.length:Int)≠Ho (fOf all 1).toNat)∨(fOf all 1=8∧v.length % 4≠0)
theorem V1 {d:AtD}{all v:List Int}(h:MD all):CL d all v = .inr (4,strOf all):=by unfold CL;exact if_pos h
theorem V4 {d:AtD}{all v:List Int}(h1:¬ MD all) (h2:Nr all v):CL d all v = .inr (5,strOf all):=by unfold CL;rw [if_neg h1];exact if_pos h2
theorem AcU {d:AtD}{all v:List Int}(h1:¬ MD all) (h2:¬ Nr all v) (h3:fOf all 1=8∧256<v.length / 4):CL d all v = .inr (9,strOf all):=by unfold CL;rw [if_neg h1];rw [if_neg h2];exact if_pos h3
theorem Abc {d:AtD}{all v:List Int}(h1:¬ MD all) (h2:¬ Nr all v) (ht:fOf all 1=2) (hp:DC v=none):CL d all v = .inr (11,⟨#[]⟩):=by
  unfold CL
  rw [if_neg h1,if_neg h2,if_neg Er,ht]
  unfold DC at hp
  show (match (DN v).map (fun p=>{ d with path:=p }) with|none=>_|some d'=>_)=_
  cases hq:DN v with
  | none=>rfl
  | some p =>
    rw [hq] at hp
    have hb:p.all GG=false:=by
      cases hw:p.all GG
      · rfl
      · rw [show (Option.bind (some p) fun p=>if p.all GG then some p else none)=if p.all GG then some p else none from rfl,hw] at hp;cases hp
    exact if_pos ⟨rfl,hb⟩
theorem IB {d d':AtD}{all v:List Int}(h1:¬ MD all) (h2:¬ Nr all v) (h3:¬ (fOf all 1=8∧256<v.length / 4)) (hs:L6 d (fOf all 1).toNat v=some d') (hp:fOf all 1=2→d'.path.all GG=true) (ho:fOf all 1=1→wiB d'.origin 2=true) (hh:fOf all 1=3→Kq d'.hop=true) :
    CL d all v = .inl { d' with has:=d'.has+2 ^ (fOf all 1).toNat }:=by
  unfold CL
  rw [if_neg h1,if_neg h2,if_neg h3,hs]
  show (if fOf all 1=2∧d'.path.all GG=false then _ else _)=_
  rw [if_neg (fun ⟨a,b⟩=>by rw [hp a] at b;cases b)]
  rw [if_neg (fun ⟨a,b⟩=>by rw [ho a] at b;cases b),if_neg (fun ⟨a,b⟩=>by rw [hh a] at b;cases b)]
theorem Ab1 {d:AtD}{all v:List Int}(h1:¬ MD all) (h2:¬ Nr all v) (ht:fOf all 1=1) (ho:wiB (AJ v) 2=false):CL d all v = .inr (6,strOf all):=by
  unfold CL
  rw [if_neg h1,if_neg h2,if_neg Er,ht]
  show (if _∧_ then _ else if (1:Int)=1∧wiB (AJ v) 2=false then _ else _)=_
  rw [if_neg (fun h=>by cases h.1),if_pos ⟨rfl,ho⟩]
theorem Ado {d:AtD}{all v:List Int}(h1:¬ MD all) (h2:¬ Nr all v) (ht:fOf all 1=3) (ho:Kq (AJ v)=false):CL d all v = .inr (8,strOf all):=by
  unfold CL
  rw [if_neg h1,if_neg h2,if_neg Er,ht]
  show (if _∧_ then _ else if _∧_ then _ else if (3:Int)=3∧Kq (AJ v)=false then _ else _)=_
  rw [if_neg (fun h=>by cases h.1),if_neg (fun h=>by cases h.1),if_pos ⟨rfl,ho⟩]
theorem Ip {d:AtD}{all v:List Int}(h:1≤fOf all 1∧fOf all 1≤8):DP d all v=CL d all v:=if_pos h
theorem Mw {d:AtD}{all v:List Int}(h:¬ (1≤fOf all 1∧fOf all 1≤8)):DP d all v=DY d all v:=if_neg h
theorem Qp {t:Nat}(h1:1≤t) (h8:t≤8):CZ[t]?=some (.int .i64 (Ho t)):=by
  have:t=1∨t=2∨t=3∨t=4∨t=5∨t=6∨t=7∨t=8:=by omega
  rcases this with rfl|rfl|rfl|rfl|rfl|rfl|rfl|rfl <;> rfl
theorem Qb {t:Nat}(h1:1≤t) (h8:t≤8):CY[t]?=some (.int .i64 (DK t)):=by
  have:t=1∨t=2∨t=3∨t=4∨t=5∨t=6∨t=7∨t=8:=by omega
  rcases this with rfl|rfl|rfl|rfl|rfl|rfl|rfl|rfl <;> rfl
theorem Win.numk {w:World}{b o c:Nat}{xs:List Int}(h:Win w b o c xs) (lo hi:Nat) (hh:lo≤hi) (hl:hi≤xs.length) (h6:hi-lo≤6):Calls Tryz.prog 116 #[.slice (some ⟨b,AV o lo c 1,none⟩) (hi-lo) (c-lo)] w fun e w'=>e = .returned (.int .i64 (AJ ((xs.take hi).drop lo)))∧Frm (fun _=>False) w w':=by
  have hl:((xs.take hi).drop lo).length=hi-lo:=by rw [List.length_drop,List.length_take];omega
  have e:=LZ w b (AV o lo c 1) (c-lo) ((xs.take hi).drop lo) ((h.take hi).drop lo) Er
  rwa [hl] at e
theorem Abt (w:World) (b o cv:Nat) (v:List Int) (hW:Win w b o cv v) (hn:v.length≤100000) :
    Calls Tryz.prog 118 #[.slice (some ⟨b,o,none⟩) v.length cv] w fun e w'=>∃ ss ad c E K ok,e = .returned (.tuple #[.slice ad ss.length c, .bool ok])∧Vec 2 ad ss.length c (IL ss) E∧(∀ s∈ss,Kp K s)∧St (fun _=>False) w w' (E++K) ∧
      (ok=false→DC v=none)∧(ok=true→DC v=some (ss.map Ik)) :=
  (YV w b o cv v hW hn).mono fun e w' h=>by
    unfold L2 at h
    cases hp:DC v with
    | none =>
      rw [hp] at h
      exact ⟨[],none,0,[],[],false,h.1,Vec.nil 2,(fun _ h=>by cases h),(St.start _ _).ext h.2,fun _=>rfl,fun e=>by cases e⟩
    | some ps =>
      rw [hp] at h
      obtain ⟨ss,ad,c,E,K,he,hd,hV,hK,hS⟩:=h
      exact ⟨ss,ad,c,E,K,true,he,hV,hK,hS,(fun e=>by cases e),fun _=>by rw [hd]⟩
theorem TA {v:List Int}{ps:List (Bool×List Int)}(h:DC v=some ps):DN v=some ps∧ps.all GG=true:=by
  unfold DC at h
  cases hq:DN v with
  | none=>rw [hq] at h;cases h
  | some p =>
    rw [hq] at h
    have h:(if p.all GG then some p else none)=some ps:=h
    split at h
    · cases h;exact ⟨rfl,by assumption⟩
    · cases h
theorem No {mm:Value→Option Value}{seen:List Int}{t:Int}(h:∀ s:Int,(mm (.int .i64 s)).getD (.bool false) = .bool (decide (s∈seen))) (s:Int) :
    ((JB mm (.int .i64 t) (some (.bool true))) (.int .i64 s)).getD (.bool false) = .bool (decide (s∈t::seen)):=by
  unfold JB
  by_cases e:s=t
  · subst e
    rw [if_pos rfl,decide_eq_true (List.mem_cons_self ..)];rfl
  · rw [if_neg (fun h=>by injection h with _ h;exact e h),h s]
    congr 1
    exact decide_eq_decide.2 ⟨fun h=>List.mem_cons_of_mem _ h,fun h=>(List.mem_cons.1 h).resolve_left e⟩
theorem JO (os:List CB):(EA os).length=os.length*2:=by
  induction os with
  | nil=>rfl
  | cons o os ih=>show (o.cells++EA os).length=_;rw [List.length_append,ih,List.length_cons];show 2+_=_;omega
theorem QM (os ps:List CB):EA (os++ps)=EA os++EA ps:=List.flatMap_append
theorem Q9 {w:World}{b o:Nat}{xs ys:List Value}(h:w.rangeAt b o (xs++ys)):w.rangeAt b o xs:=fun j v hj=>h j v (by rw [List.getElem?_append_left (List.getElem?_eq_some_iff.1 hj).1];exact hj)
theorem rangeR {w:World}{b o:Nat}{xs ys:List Value}(h:w.rangeAt b o (xs++ys)):w.rangeAt b (o+xs.length) ys:=fun j v hj=>by
  have:=h (xs.length+j) v (by rw [List.getElem?_append_right (by omega)];simpa using hj)
  rwa [show o+(xs.length+j)=o+xs.length+j by omega] at this
theorem Aa7 {all v:List Int}{t:Nat}(h:¬ Nr all v) (ht:fOf all 1=t) (h1:1≤t) (h8:t≤8):(t=1→v.length=1)∧(t=3∨t=4∨t=5→v.length=4)∧(t=7→v.length=6)∧(t=8→v.length % 4=0):=by
  unfold Nr at h
  rw [ht,Int.toNat_natCast] at h
  have:t=1∨t=2∨t=3∨t=4∨t=5∨t=6∨t=7∨t=8:=by omega
  have z1:Ho 1=1:=rfl
  have z3:Ho 3=4:=rfl
  have z4:Ho 4=4:=rfl
  have z5:Ho 5=4:=rfl
  have z7:Ho 7=6:=rfl
  rcases this with rfl|rfl|rfl|rfl|rfl|rfl|rfl|rfl <;> (try simp only [z1,z3,z4,z5,z7] at h) <;> omega
theorem Ye {v:List Int}(h:v.length=1):fOf v 0=AJ v:=by
  match v,h with
  | [x],_=>show x=0*256+x;omega
theorem Sm (os:List CB):(EA os).all one=true:=by
  induction os with
  | nil=>rfl
  | cons o os ih=>show (o.cells++EA os).all one=true;rw [List.all_append,ih];rfl
theorem GB.oth {K:List Ent}{a:AtL}(h:GB K a) (ad:Option Addr) (c:Nat) (os:List CB):GB K { a with oad:=ad,oc:=c,others:=os }:=⟨h.path,h.H5,h.comms⟩
section
variable {P:Program}{ops:Array Oper}{Q:Exit→Act→World→Prop}{n:Nat}{p:Nat→Prop}{w0:World}{o:Oper}{l:Kn}{L:List Ent}
def loAdS (ad:Option Addr) (lo cap s:Nat):Option Addr:=ad.map fun a=>⟨a.block,AV a.off lo cap s,a.spot⟩
theorem Sq {C:World→Prop}{t e len cap lo s:Nat}{k:IntKind}{A:Int}{ad:Option Addr}{x xl:Operand}(ho:o.op = .slice t x (some xl) none none) (hx:ev l x=some (.slice ad len cap)) (hl:ev l xl=some (.int k A)) (hu:P.underlying t=some (.slice e)) (hs:(P.info? e).map (·.size)=some s) (hA:A=(lo:Int)) (hle:lo≤len)
    (had:ad=none∨∃ b o,ad=some ⟨b,o,none⟩):Val P C n l o (.slice (loAdS ad lo cap s) (len-lo) (cap-lo)):=by
  rcases had with rfl|⟨b,off,rfl⟩
  · intro a w ha _
    have h1:=ha.ev hx;have h2:=ha.ev hl
    subst hA
    have hi:(0:Int)≤lo∧(lo:Int)≤len:=Er
    unfold execOp
    simp [ho,h1,h2,Instr.sliceAt,run_underlying hu,Instr.slice,Instr.sliceBounds,Instr.sliceBound,asIntOf,hle,run_sizeOf hs,loAdS]
  · exact BW ho hx hl hu hs hA hle
end
theorem Vec.Rp {ad:Option Addr}{c:Nat}{xs:List Int}{E:List Ent}(hV:BV ad c xs E){w:World}(hw:∀ e∈E,e.holds w):AU w ad (u8s xs):=fun hn=>by
  obtain ⟨b,o,e,hr⟩:=Vec.Rf hV hn
  exact ⟨b,o,e,hr w hw⟩
theorem Vec.ad {s k c:Nat}{ad:Option Addr}{xs:List Value}{E:List Ent}(h:Vec s ad k c xs E):ad=none∨∃ b o,ad=some ⟨b,o,none⟩:=by
  rcases h with ⟨h,_⟩|⟨g,_,h,_⟩
  · exact .inl h
  · exact .inr ⟨g,0,h⟩
section Gq
attribute [local irreducible] WL WC WE WQ WP WH WR WM WRH

def K7 (w w':World) (xs:List Int) (e:Ending):Prop :=
  match ED AtL.zero.d [] xs with
  | .inr (s,d)=>e = .returned (.tuple #[.agg AtL.zero.AH.toArray, .agg (AG 3 s d).toArray])∧Frm (fun _=>False) w w'
  | .inl d=>∃ a K,e = .returned (.tuple #[.agg a.AH.toArray, .agg (AG 0 0 ⟨#[]⟩).toArray])∧a.d = { d with others:=DM d.others }∧Ic K a∧St (fun _=>False) w w' K
theorem K7.no {w w':World}{xs:List Int}{s:Int}{d:ByteArray}{L:List Ent}(h:ED AtL.zero.d [] xs = .inr (s,d)) (hS:St (fun _=>False) w w' L):K7 w w' xs (.returned (.tuple #[.agg AtL.zero.AH.toArray, .agg (AG 3 s d).toArray])):=by
  unfold K7
  rw [h]
  exact ⟨rfl,hS.frm⟩
theorem XE:DM []=[]:=by unfold DM;exact List.mergeSort_nil
theorem Sv:AtL.zero.d = { AtL.zero.d with others:=DM AtL.zero.d.others }:=by
  rw [show AtL.zero.d.others=[] from rfl,XE];rfl
set_option maxHeartbeats 8000000 in
theorem YT (w:World) (b o cv:Nat) (xs:List Int) (hW:Win w b o cv xs) (hn:xs.length≤90000) :
    Calls Tryz.prog 93 #[.slice (some ⟨b,o,none⟩) xs.length cv] w fun e w'=>K7 w w' xs e:=by
  have hle:=hW.le
  refine enter Tryz.func93 rfl Tryz.ntmps93 rfl (St.start (fun _=>False) w) ?_
  refine J2 ?_
  refine WL.alloc rfl MP (.none rfl) rfl rfl ?_
  intro g2 hg2
  refine WL.alloc rfl FI (.none rfl) rfl rfl ?_
  intro g3 hg3
  refine J5 ?_
  refine WL.alloc rfl MP (.none rfl) rfl rfl ?_
  intro g4 hg4
  refine J5 ?_
  refine zB Tryz.underlying32 AP DB rfl rfl ?_
  intro g22 hg22
  refine J5 ?_
  refine zB Tryz.underlying32 AP DB rfl rfl ?_
  intro g23 hg23
  refine J5 ?_
  refine WL.makeMap rfl (.none rfl) rfl rfl ?_
  intro g24 hg24
  refine WL.as (L':=.obj g24 (.map #[] 0)::.row g23 CZ::.row g22 CY::.row g4 AtL.zero.AH::.row g3 (AG 0 0 ⟨#[]⟩)::[.row g2 AtL.zero.AH]) rfl ?_
  refine J10 ?_
  refine WC.loop (fun y:ReS=>[(8, .int .i64 y.k),(7, .map (some g24)),(6, .slice (some ⟨g23,0,none⟩) 9 9),(5, .slice (some ⟨g22,0,none⟩) 9 9),(4, .pointer (some ⟨g4,0,none⟩)),(3, .pointer (some ⟨g3,0,none⟩)),(2, .pointer (some ⟨g2,0,none⟩)),(0, .slice (some ⟨b,o,none⟩) xs.length cv)]) (fun y=>y.E++(y.K++(.obj g24 (.map y.es y.mc)::.row g23 CZ::.row g22 CY::.row g4 y.a.AH::.row g3 (AG 0 0 ⟨#[]⟩)::[.row g2 AtL.zero.AH]))) (fun y=>y.Good xs) (fun y=>xs.length-y.k) ⟨0,AtL.zero.d,[], .zero, #[],0,fun _=>none,[],[]⟩ ⟨Nat.zero_le _,by dsimp only;rw [List.drop_zero],KR.zero,Sv,⟨⟨[],Vec.nil 2,fun _ h=>by cases h⟩,(fun _ h=>by cases h),⟨[],Vec.nil 1,fun _ h=>by cases h⟩⟩,Vec.nil 2,(fun _ h=>by cases h),JA.empty _,fun _=>⟨rfl,rfl⟩,Nat.zero_le _,fun t=>by simp⟩ Km (.refl _) ?_
  rintro ⟨k,d,seen,a,es,mc,mm,E,K⟩ hg
  obtain ⟨hk,hdec,hseen,hsame,hown,hoths,hvals,hmap,hcom,hol,hknown⟩:=hg
  dsimp only at hk hdec hseen hsame hown hoths hvals hmap hcom hol hknown
  dsimp only
  refine J6 ?_
  refine JT (fun h28=>?_) (fun h28=>?_)
  refine J11 ?_
  refine WC.cut (fun _:Unit=>[(9, .int .i64 (toN (xs.drop k))),(8, .int .i64 k),(7, .map (some g24)),(6, .slice (some ⟨g23,0,none⟩) 9 9),(5, .slice (some ⟨g22,0,none⟩) 9 9),(4, .pointer (some ⟨g4,0,none⟩)),(3, .pointer (some ⟨g3,0,none⟩)),(2, .pointer (some ⟨g2,0,none⟩)),(0, .slice (some ⟨b,o,none⟩) xs.length cv)]) (fun _=>E++(K++(.obj g24 (.map es mc)::.row g23 CZ::.row g22 CY::.row g4 a.AH::.row g3 (AG 0 0 ⟨#[]⟩)::[.row g2 AtL.zero.AH]))) (fun _=>BC (xs.drop k)≤(xs.drop k).length∧toN (xs.drop k)≤70000) ?_ ?_
  refine J2 ?_
  have hdl:(xs.drop k).length=xs.length-k:=List.length_drop ..
  have hBy:Bys (xs.drop k):=fun y hy=>hW.bys y (List.mem_of_mem_drop hy)
  have hb0:=CP hBy 0
  have hb2:=CP hBy 2
  refine J2 ?_
  refine zV (AB (lo:=k) rfl rfl rfl Tryz.underlying25 AO Er Er) rfl ?_
  refine zV (AA rfl rfl BH (AL (fun h=>h) (hW.get (x:=fOf (xs.drop k) 0) (by have:=BJ (xs:=xs.drop k) (i:=0) (by omega);rw [List.getElem?_drop] at this;exact this)))) rfl ?_
  refine zV (AQ rfl rfl Tryz.underlying3 Tryz.underlying5 (AF Er Er)) rfl ?_
  refine zV (OB rfl rfl rfl Er Er (AF Er Er)) rfl ?_
  refine zV (SH rfl rfl rfl Er Er) rfl ?_
  refine JT (fun h36=>?_) (fun h36=>?_)
  refine J10 ?_
  refine JT (fun h41=>?_) (fun h41=>?_)
  refine J18 ?_
  refine eT2 ?_
  have e0:ED AtL.zero.d [] xs = .inr (1,⟨#[]⟩):=(by rw [hdec];exact HU (by omega) (.inl (by rw [Ol h36];omega)))
  exact Bh
  refine J8 ?_
  refine zV (AS rfl rfl rfl (show _=((k+2:Nat):Int) from (AF Er Er).trans Er)) rfl ?_
  refine J1 ?_
  refine zV (AS rfl rfl rfl (show _=((k+2+2:Nat):Int) from (AF Er Er).trans Er)) rfl ?_
  have hrd:=UX (v:=(xs.drop (k+2)).take 2) (fun y hy=>hW.bys y (List.mem_of_mem_drop (List.mem_of_mem_take hy))) F1
  have hto:=toN_4 h36
  rw [List.drop_drop] at hto
  refine zV ((CN (lo:=k+2) (hi:=k+2+2) rfl rfl rfl rfl Tryz.underlying25 AO rfl rfl Er Er)) rfl ?_
  refine zk Ku rfl (fun w hS=>(hW.st hS).numd (k+2) Er) ?_
  refine J3 ?_
  exact eM () ⟨by rw [Ol h36];omega,by rw [hto];omega⟩ (.int rfl (by rw [hto];omega) (.cons rfl (.cons rfl (.cons rfl (.cons rfl (.cons rfl (.cons rfl (.cons rfl (.cons rfl .nil)))))))))
  refine J10 ?_
  refine JT (fun h56=>?_) (fun h56=>?_)
  refine J18 ?_
  refine eT2 ?_
  have e0:ED AtL.zero.d [] xs = .inr (1,⟨#[]⟩):=(by rw [hdec];exact HU (by omega) (.inl (by rw [Ov h36];omega)))
  exact Bh
  refine J9 ?_
  have hto:=toN_3 h36 Er hb2.1
  refine zV (AB (lo:=k+2) rfl rfl rfl Tryz.underlying25 AO Er Er) rfl ?_
  refine zV (AA rfl rfl BH (AL (fun h=>h) (hW.get (x:=fOf (xs.drop k) 2) (by have:=BJ (xs:=xs.drop k) (i:=2) (by omega);rw [List.getElem?_drop] at this;exact this)))) rfl ?_
  refine zV (AQ rfl rfl Tryz.underlying3 Tryz.underlying5 (AF Er Er)) rfl ?_
  refine J3 ?_
  exact eM () ⟨by rw [Ov h36];omega,by rw [hto];omega⟩ (.int rfl (by rw [hto];omega) (.cons rfl (.cons rfl (.cons rfl (.cons rfl (.cons rfl (.cons rfl (.cons rfl (.cons rfl .nil)))))))))
  rintro _ ⟨hfr,hto7⟩
  have hdl:(xs.drop k).length=xs.length-k:=List.length_drop ..
  have hBy:Bys (xs.drop k):=fun y hy=>hW.bys y (List.mem_of_mem_drop hy)
  have hf34:=KL (xs.drop k)
  have htge:=L7 (xs.drop k)
  obtain ⟨al,hal⟩:∃ al,al=(xs.drop k).take (toN (xs.drop k)):=⟨_,rfl⟩
  have hWa:Win w b (AV o k cv 1) (cv-k) al:=(by rw [hal];exact (hW.drop k).take _)
  refine J8 ?_
  refine JT (fun h71=>?_) (fun h71=>?_)
  refine J17 ?_
  refine eT2 ?_
  have e0:ED AtL.zero.d [] xs = .inr (1,⟨#[]⟩):=(by rw [hdec];exact HU Er (.inr (.inl Er)))
  exact Bh
  refine J11 ?_
  refine zV (AS rfl rfl rfl (show _=((k+toN (xs.drop k):Nat):Int) from (AF Er Er).trans Er)) rfl ?_
  refine zV ((CN (lo:=k) (hi:=k+toN (xs.drop k)) rfl rfl rfl rfl Tryz.underlying25 AO rfl rfl Er Er)) rfl ?_
  have hall:al.length=toN (xs.drop k):=(by rw [hal,List.length_take];omega)
  have ha0:=CP hWa.bys 0
  have ha1:=CP hWa.bys 1
  have ef0:fOf al 0=fOf (xs.drop k) 0:=(by rw [hal];unfold fOf;rw [List.getD_eq_getElem?_getD,List.getD_eq_getElem?_getD,List.getElem?_take,if_pos (by omega)])
  have ef1:fOf al 1=fOf (xs.drop k) 1:=(by rw [hal];unfold fOf;rw [List.getD_eq_getElem?_getD,List.getD_eq_getElem?_getD,List.getElem?_take,if_pos (by omega)])
  rw [show k+toN (xs.drop k)-k=al.length by omega]
  refine J6 ?_
  refine zV (AB (lo:=0) rfl rfl rfl Tryz.underlying25 AO rfl Er) rfl ?_
  refine zV (AA rfl rfl BH (AL (fun h=>h) (hWa.get (BJ Er)))) rfl ?_
  refine zV (AQ rfl rfl Tryz.underlying3 Tryz.underlying5 (AF Er Er)) rfl ?_
  refine zV (OB rfl rfl rfl Er Er (AF Er Er)) rfl ?_
  refine zV (FY rfl rfl rfl (AF Er Er)) rfl ?_
  refine J6 ?_
  refine zV (AB (lo:=1) rfl rfl rfl Tryz.underlying25 AO rfl Er) rfl ?_
  refine zV (AA rfl rfl BH (AL (fun h=>h) (hWa.get (BJ Er)))) rfl ?_
  refine zV (AQ rfl rfl Tryz.underlying3 Tryz.underlying5 (AF Er Er)) rfl ?_
  refine J6 ?_
  refine zV ((BW (lo:=3) rfl rfl rfl Tryz.underlying25 AO rfl Er)) rfl ?_
  refine J3 ?_
  refine WC.cut (fun _:Unit=>[(13, .slice (some ⟨b,AV (AV o k cv 1) (BC (xs.drop k)) (cv-k) 1,none⟩) (al.length-BC (xs.drop k)) (cv-k-BC (xs.drop k))),(12, .int .i64 (fOf al 1)),(11, .int .i64 (fOf al 0 / 32*32)),(10, .slice (some ⟨b,AV o k cv 1,none⟩) al.length (cv-k)),(9, .int .i64 (toN (xs.drop k))),(8, .int .i64 k),(7, .map (some g24)),(6, .slice (some ⟨g23,0,none⟩) 9 9),(5, .slice (some ⟨g22,0,none⟩) 9 9),(4, .pointer (some ⟨g4,0,none⟩)),(3, .pointer (some ⟨g3,0,none⟩)),(2, .pointer (some ⟨g2,0,none⟩)),(0, .slice (some ⟨b,o,none⟩) xs.length cv)]) (fun _=>E++(K++(.obj g24 (.map es mc)::.row g23 CZ::.row g22 CY::.row g4 a.AH::.row g3 (AG 0 0 ⟨#[]⟩)::[.row g2 AtL.zero.AH]))) (fun _=>al.length=toN (xs.drop k)∧toN (xs.drop k)≤(xs.drop k).length∧fOf al 0=fOf (xs.drop k) 0∧fOf al 1=fOf (xs.drop k) 1) ?_ ?_
  refine J3 ?_
  refine zV (AB (lo:=0) rfl rfl rfl Tryz.underlying25 AO rfl Er) rfl ?_
  refine zV (AA rfl rfl BH (AL (fun h=>h) (hWa.get (BJ Er)))) rfl ?_
  refine zV (AQ rfl rfl Tryz.underlying3 Tryz.underlying5 (AF Er Er)) rfl ?_
  refine zV (OB rfl rfl rfl Er Er (AF Er Er)) rfl ?_
  refine zV (SH rfl rfl rfl Er Er) rfl ?_
  refine JT (fun h98=>?_) (fun h98=>?_)
  refine J4 ?_
  have hfr4:=Ol (ys:=xs.drop k) Er
  refine J1 ?_
  refine zV ((BW (lo:=4) rfl rfl rfl Tryz.underlying25 AO rfl Er)) rfl ?_
  refine J2 ?_
  exact eM () ⟨hall,by omega,ef0,ef1⟩ (.eq rfl (by rw [hfr4]) (.cons rfl (.int rfl Er (.cons rfl (.cons rfl (.cons rfl (.cons rfl (.cons rfl (.cons rfl (.cons rfl (.cons rfl (.cons rfl (.cons rfl .nil)))))))))))))
  refine J4 ?_
  exact eM () ⟨hall,by omega,ef0,ef1⟩ (.eq rfl (by rw [Ov (ys:=xs.drop k) (by omega)]) (.cons rfl (.int rfl Er (.cons rfl (.cons rfl (.cons rfl (.cons rfl (.cons rfl (.cons rfl (.cons rfl (.cons rfl (.cons rfl (.cons rfl .nil)))))))))))))
  rintro _ ⟨hall,htl,ef0,ef1⟩
  have hdl:(xs.drop k).length=xs.length-k:=List.length_drop ..
  have hBy:Bys (xs.drop k):=fun y hy=>hW.bys y (List.mem_of_mem_drop hy)
  have hf34:=KL (xs.drop k)
  have htge:=L7 (xs.drop k)
  have ha0:=CP hWa.bys 0
  have ha1:=CP hWa.bys 1
  obtain ⟨vl,hvl⟩:∃ vl,vl=al.drop (BC (xs.drop k)):=⟨_,rfl⟩
  have hWv:Win w b (AV (AV o k cv 1) (BC (xs.drop k)) (cv-k) 1) (cv-k-BC (xs.drop k)) vl:=(by rw [hvl];exact hWa.drop _)
  have hvlen:al.length-BC (xs.drop k)=vl.length:=(by rw [hvl,List.length_drop])
  rw [hvlen]
  generalize AV (AV o k cv 1) (BC (xs.drop k)) (cv-k) 1=vo at hWv ⊢
  generalize cv-k-BC (xs.drop k)=vc at hWv ⊢
  have hvb:=hWv.le
  have hah:a.has=d.has:=(by have:=congrArg AtD.has hsame;exact this)
  have hos:a.others.map LP=DM d.others:=(by have:=congrArg AtD.others hsame;exact this)
  refine J4 ?_
  refine zV (AS rfl rfl rfl (show _=((k+toN (xs.drop k):Nat):Int) from (AF Er Er).trans Er)) rfl ?_
  refine J8 ?_
  refine zV ((Zu (z:=.bool false) rfl rfl rfl Tryz.underlying200 (Rs Tryz.underlying3) (Mc.mk _ _) Es (Y8 (c:=mc) g24 (List.mem_append_right _ (List.mem_append_right _ (.head _)))) hmap).eq (hknown _)) rfl ?_
  refine J2 ?_
  refine WC.Lp rfl (fun h106=>?_) (fun h106=>?_)
  refine J14 ?_
  refine eT2 ?_
  have e0:ED AtL.zero.d [] xs = .inr (1,⟨#[]⟩):=(by rw [hdec];exact HU Er (.inr (.inr (by rw [← ef1];exact h106))))
  exact Bh
  refine J6 ?_
  refine WL.mapUpdate rfl rfl rfl rfl Tryz.underlying200 (Rs Tryz.underlying3) (Mc.mk _ _) (hmap) (.none rfl) rfl ?_
  intro esU cU hMU hsU
  have hnsx:¬ ((xs.drop k).length<BC (xs.drop k)∨(xs.drop k).length<toN (xs.drop k)∨fOf (xs.drop k) 1∈seen):=(by rintro (h|h|h) <;> first|omega|exact h106 (by rw [ef1];exact h))
  refine J2 ?_
  refine WC.cut (fun z:Nat×Array MapEntry×Nat=>[(13, .slice (some ⟨b,vo,none⟩) vl.length vc),(12, .int .i64 z.1),(11, .int .i64 (fOf al 0 / 32*32)),(10, .slice (some ⟨b,AV o k cv 1,none⟩) al.length (cv-k)),(8, .int .i64 ((k+toN (xs.drop k):Nat):Int)),(7, .map (some g24)),(6, .slice (some ⟨g23,0,none⟩) 9 9),(5, .slice (some ⟨g22,0,none⟩) 9 9),(4, .pointer (some ⟨g4,0,none⟩)),(3, .pointer (some ⟨g3,0,none⟩)),(2, .pointer (some ⟨g2,0,none⟩)),(0, .slice (some ⟨b,o,none⟩) xs.length cv)]) (fun z=>E++(K++(.obj g24 (.map z.2.1 z.2.2)::.row g23 CZ::.row g22 CY::.row g4 (AtL.AH a)::.row g3 (AG 0 0 ⟨#[]⟩)::[.row g2 AtL.zero.AH]))) (fun z=>fOf al 1=z.1∧1≤z.1∧z.1≤8∧fOf al 1 ∉ seen∧JA (Mc .i64) z.2.1 (JB mm (.int .i64 (fOf al 1)) (some (.bool true)))) ?_ ?_
  refine J3 ?_
  refine zk YW rfl (fun w hS=>RIn_c _ (fOf al 1) 1 8) ?_
  generalize hq:decide (1≤fOf al 1∧fOf al 1≤8)=b112
  cases b112
  refine J8 ?_
  have hun:¬ (1≤fOf al 1∧fOf al 1≤8):=of_decide_eq_false hq
  refine JT (fun h115=>?_) (fun h115=>?_)
  refine J4 ?_
  refine WC.BB mixed<|rF 4 [0,1]<|?_
  refine J3 ?_
  refine WR.each (g:=3) [2,4] Es Et ?_
  refine ⟨?_,?_⟩
  refine zV (CJ (fOf al) rfl rfl Tryz.underlying25 Tryz.underlying5 Tryz.underlying9 (fun w' hS' _=>⟨b,AV o k cv 1,rfl,DV (hWa.st hS').at_⟩)) rfl ?_
  refine J1 ?_
  refine rF 2 [3] ?_
  refine J2 ?_
  refine rO 0 [4,5] ?_
  refine J12 ?_
  exact D7
  refine J2 ?_
  refine rA 1 [2,3] rfl<|qV (CJ (fOf al) rfl rfl Tryz.underlying25 Tryz.underlying5 Tryz.underlying9 (fun w' hS' _=>⟨b,AV o k cv 1,rfl,DV (hWa.st hS').at_⟩)) rfl<|?_
  refine J2 ?_
  refine rO 0 [5] ?_
  refine J11 ?_
  exact D7
  refine J9 ?_
  refine JT (fun h121=>?_) (fun h121=>?_)
  refine J2 ?_
  refine JT (fun h124=>?_) (fun h124=>?_)
  refine J9 ?_
  refine WC.cut (fun j:Nat=>[(14, .int .i64 j),(13, .slice (some ⟨b,vo,none⟩) vl.length vc),(12, .int .i64 (fOf al 1)),(8, .int .i64 ((k+toN (xs.drop k):Nat):Int)),(7, .map (some g24)),(6, .slice (some ⟨g23,0,none⟩) 9 9),(5, .slice (some ⟨g22,0,none⟩) 9 9),(4, .pointer (some ⟨g4,0,none⟩)),(3, .pointer (some ⟨g3,0,none⟩)),(2, .pointer (some ⟨g2,0,none⟩)),(0, .slice (some ⟨b,o,none⟩) xs.length cv)]) (fun _=>E++(K++(.obj g24 (.map esU cU)::.row g23 CZ::.row g22 CY::.row g4 (AtL.AH a)::.row g3 (AG 0 0 ⟨#[]⟩)::[.row g2 AtL.zero.AH]))) (fun j=>j≤a.others.length∧(∀ i x,i<j→a.others[i]?=some x→x.ty<fOf al 1)∧∀ x,a.others[j]?=some x→fOf al 1≤x.ty) ?_ ?_
  refine J1 ?_
  refine WC.loop (fun j:Nat=>[(14, .int .i64 j),(13, .slice (some ⟨b,vo,none⟩) vl.length vc),(12, .int .i64 (fOf al 1)),(8, .int .i64 ((k+toN (xs.drop k):Nat):Int)),(7, .map (some g24)),(6, .slice (some ⟨g23,0,none⟩) 9 9),(5, .slice (some ⟨g22,0,none⟩) 9 9),(4, .pointer (some ⟨g4,0,none⟩)),(3, .pointer (some ⟨g3,0,none⟩)),(2, .pointer (some ⟨g2,0,none⟩)),(0, .slice (some ⟨b,o,none⟩) xs.length cv)]) (fun _=>E++(K++(.obj g24 (.map esU cU)::.row g23 CZ::.row g22 CY::.row g4 (AtL.AH a)::.row g3 (AG 0 0 ⟨#[]⟩)::[.row g2 AtL.zero.AH]))) (fun j=>j≤a.others.length∧∀ i x,i<j→a.others[i]?=some x→x.ty<fOf al 1) (fun j=>a.others.length-j) 0 ⟨Nat.zero_le _,fun i x h=>by omega⟩ Km (.refl _) ?_
  rintro j ⟨hj,hlt⟩
  refine J7 ?_
  refine JT (fun h130=>?_) (fun h130=>?_)
  refine J4 ?_
  obtain ⟨oj,hoj⟩:∃ x,a.others[j]?=some x:=⟨a.others[j]' Er,List.getElem?_eq_getElem _⟩
  obtain ⟨ob,oo,eo,ro⟩:=hoths.src (L:=E++(K++(.obj g24 (.map esU cU)::.row g23 CZ::.row g22 CY::.row g4 (AtL.AH a)::.row g3 (AG 0 0 ⟨#[]⟩)::[.row g2 AtL.zero.AH]))) (fun e he=>List.mem_append_left _ he) (by rw [JO];omega)
  have hcj:(EA a.others)[j*2]?=some (.int .i64 oj.ty):=(by
    have h2:=Iz (enc:=CB.cells) (s:=2) (fun _=>rfl) a.others j oj hoj
    have h3:=congrArg (fun l=>l[0]?) h2
    simpa [List.getElem?_take,List.getElem?_drop,CB.cells,EA] using h3)
  refine zS ((AB (b:=ob) (off:=oo) (lo:=j) rfl (by show some (Value.slice a.oad _ _)=_;rw [eo]) rfl Tryz.underlying117 K4 rfl Er)) rfl ?_
  refine J1 ?_
  refine zS (AA rfl rfl AK ((fun w hS=>ro _ _ w hS (j*2) _ hcj))) rfl ?_
  refine J1 ?_
  refine JT (fun h139=>?_) (fun h139=>?_)
  refine J9 ?_
  refine zV (AS rfl rfl rfl (show _=((j+1:Nat):Int) from (AF Er Er).trans Er)) rfl ?_
  refine J3 ?_
  exact eW (j+1) Er ⟨by omega,fun i x hi hx=>by
  rcases Nat.lt_or_ge i j with h|h
  · exact hlt i x h hx
  · obtain rfl:i=j:=by omega
    rw [hoj] at hx;cases hx;exact h139⟩
  refine J8 ?_
  exact eM j ⟨hj,hlt,fun x hx=>by rw [hoj] at hx;cases hx;omega⟩
  refine J17 ?_
  exact eM j ⟨hj,hlt,fun x hx=>by have:=(List.getElem?_eq_some_iff.1 hx).1;omega⟩
  rintro j ⟨hj,hlt,hge⟩
  have hvl2:=hoths.len
  have hjt:(a.others.take j).length=j:=Ey
  have hjd:(a.others.drop j).length=a.others.length-j:=List.length_drop ..
  have hsp:EA a.others=EA (a.others.take j)++EA (a.others.drop j):=(by rw [← QM,List.take_append_drop])
  refine J2 ?_
  refine zB Tryz.underlying117 K4 JN rfl rfl ?_
  intro g143 hg143
  refine J3 ?_
  refine zV ((CT (hi:=j) rfl rfl rfl Tryz.underlying117 K4 rfl Er)) rfl ?_
  refine WL.AN rfl rfl rfl Tryz.underlying117 Tryz.underlying117 K4 TP JN rfl rfl (E:=[.row g143 []]) (Vec.row (k:=0) (s:=2) (c:=0) rfl rfl Er) (new:=EA (a.others.take j)) (fun h=>(hoths.src (L:=.row g143 []::(E++(K++(.obj g24 (.map esU cU)::.row g23 CZ::.row g22 CY::.row g4 (AtL.AH a)::.row g3 (AG 0 0 ⟨#[]⟩)::[.row g2 AtL.zero.AH])))) (fun e he=>List.mem_cons_of_mem _ (List.mem_append_left _ he)) (by rw [JO];omega)).elim fun ob h1=>h1.elim fun oo h2=>⟨ob,oo,h2.1,fun w hS=>Q9 (ys:=EA (a.others.drop j)) (by rw [← hsp];exact h2.2 _ _ w hS)⟩) (by rw [JO,hjt]) (Sm _) Er (.none rfl) rfl rfl ?_
  intro ad148 c148 E148 hV148 hr148
  rw [Nat.zero_add] at hV148 ⊢
  rw [show List.take (0*2) ([]:List Value)=[] from rfl,List.nil_append] at hV148
  refine J7 ?_
  refine zB Tryz.underlying25 AO BF rfl rfl ?_
  intro g151 hg151
  refine J1 ?_
  refine WL.AN rfl rfl rfl Tryz.underlying25 Tryz.underlying25 AO Hx BF rfl rfl (E:=[.row g151 []]) (Vec.row (k:=0) (s:=1) (c:=0) rfl rfl Er) (new:=u8s vl) (fun h=>⟨b,vo,rfl,fun w hS'=>hS'.rng (fun _ h=>h) _ _ _ hWv.at_⟩) Fh (CQ _) Er (.none rfl) rfl rfl ?_
  intro ad153 c153 E153 hV153 hr153
  rw [Nat.zero_add] at hV153 ⊢
  rw [show List.take (0*1) ([]:List Value)=[] from rfl,List.nil_append] at hV153
  refine J1 ?_
  refine zB Tryz.underlying117 K4 JN rfl rfl ?_
  intro g155 hg155
  refine WL.as (L':=.row g155 (CB.cells (⟨fOf al 1,ad153,c153,vl⟩:CB))::(E153++(E148++(E++(K++(.obj g24 (.map esU cU)::.row g23 CZ::.row g22 CY::.row g4 (AtL.AH a)::.row g3 (AG 0 0 ⟨#[]⟩)::[.row g2 AtL.zero.AH])))))) rfl ?_
  refine WL.to (L':=E148++(.row g155 (CB.cells (⟨fOf al 1,ad153,c153,vl⟩:CB))::(E153++(E++(K++(.obj g24 (.map esU cU)::.row g23 CZ::.row g22 CY::.row g4 (AtL.AH a)::.row g3 (AG 0 0 ⟨#[]⟩)::[.row g2 AtL.zero.AH])))))) (fun w hS=>by
    have:=St.front (R:=E148) (L:=E++(K++(.obj g24 (.map esU cU)::.row g23 CZ::.row g22 CY::.row g4 (AtL.AH a)::.row g3 (AG 0 0 ⟨#[]⟩)::[.row g2 AtL.zero.AH]))) (.row g155 (CB.cells (⟨fOf al 1,ad153,c153,vl⟩:CB))::E153) (by simpa only [List.cons_append] using hS)
    simpa only [List.cons_append] using this) ?_
  refine WL.AN rfl rfl rfl Tryz.underlying117 Tryz.underlying117 K4 TP JN rfl rfl hV148 (new:=CB.cells (⟨fOf al 1,ad153,c153,vl⟩:CB)) (fun _=>⟨g155,0,rfl,fun w hS=>BZ (g:=g155) w hS⟩) rfl rfl Er (.none rfl) rfl rfl ?_
  intro ad156 c156 E156 hV156 hr156
  refine J8 ?_
  refine zV ((Sq (lo:=j) rfl rfl rfl Tryz.underlying117 K4 rfl Er hoths.ad)) rfl ?_
  refine WL.AN rfl rfl rfl Tryz.underlying117 Tryz.underlying117 K4 TP JN rfl rfl hV156 (new:=EA (a.others.drop j)) (fun h=>(hoths.src (L:=E156++(.row g155 (CB.cells (⟨fOf al 1,ad153,c153,vl⟩:CB))::(E153++(E++(K++(.obj g24 (.map esU cU)::.row g23 CZ::.row g22 CY::.row g4 (AtL.AH a)::.row g3 (AG 0 0 ⟨#[]⟩)::[.row g2 AtL.zero.AH])))))) (fun e he=>List.mem_append_right _ (List.mem_cons_of_mem _ (List.mem_append_right _ (List.mem_append_left _ he)))) (by rw [JO];omega)).elim fun ob h1=>h1.elim fun oo h2=>⟨ob,oo+j*2,(by rw [h2.1];show some (Addr.mk ob (AV oo j a.oc 2) none)=_;unfold AV;rw [if_neg (by omega)]),fun w hS=>(by have:=rangeR (xs:=EA (a.others.take j)) (ys:=EA (a.others.drop j)) (by rw [← hsp];exact h2.2 _ _ w hS);rwa [JO,hjt] at this)⟩) (by rw [JO,hjd]) (Sm _) Er (.none rfl) rfl rfl ?_
  intro ad162 c162 E162 hV162 hr162
  have hnl:(a.others.take j++(⟨fOf al 1,ad153,c153,vl⟩:CB)::a.others.drop j).length=j+1+(a.others.length-j):=(by rw [List.length_append,List.length_cons,hjt,hjd];omega)
  rw [show EA (a.others.take j)++CB.cells (⟨fOf al 1,ad153,c153,vl⟩:CB)++EA (a.others.drop j)=EA (a.others.take j++(⟨fOf al 1,ad153,c153,vl⟩:CB)::a.others.drop j) by rw [QM,List.append_assoc];rfl] at hV162
  rw [← hnl] at hV162 ⊢
  refine J2 ?_
  refine WL.as (L':=E162++(.row g155 (CB.cells (⟨fOf al 1,ad153,c153,vl⟩:CB))::(E153++(E++(K++(.obj g24 (.map esU cU)::.row g23 CZ::.row g22 CY::.row g4 (AtL.AH { a with oad:=ad162,oc:=c162,others:=(a.others.take j++(⟨fOf al 1,ad153,c153,vl⟩:CB)::a.others.drop j) })::.row g3 (AG 0 0 ⟨#[]⟩)::[.row g2 AtL.zero.AH])))))) rfl ?_
  refine J5 ?_
  have hoi:DY d al vl = .inl { d with others:=d.others++[(fOf al 1,vl)] }:=(by unfold DY;rw [if_neg (by omega),if_pos ⟨by omega,h124⟩])
  have hst:=hseen.step hWa.bys h106 (show DP d al vl = .inl _ by rw [Mw hun];exact hoi)
  have hA':GB (E153++K) ({ a with oad:=ad162,oc:=c162,others:=(a.others.take j++(⟨fOf al 1,ad153,c153,vl⟩:CB)::a.others.drop j) }):=(GB.mono (a:=a) hown fun e he=>List.mem_append_right _ he:GB (E153++K) a).oth _ _ _
  have hO':∀ o'∈(a.others.take j++(⟨fOf al 1,ad153,c153,vl⟩:CB)::a.others.drop j),Ko (E153++K) o':=(by
    intro o' ho'
    rcases List.mem_append.1 ho' with ho' | ho'
    · obtain ⟨E',r1,r2⟩:=hvals o' (List.mem_of_mem_take ho')
      exact Az
    · rcases List.mem_cons.1 ho' with rfl|ho'
      · exact ⟨E153,hV153,fun e he=>List.mem_append_left _ he⟩
      · obtain ⟨E',r1,r2⟩:=hvals o' (List.mem_of_mem_drop ho')
        exact ⟨E',r1,fun e he=>List.mem_append_right _ (r2 e he)⟩)
  exact WE.to (L':=E162++((E153++K)++(.obj g24 (.map esU cU)::.row g23 CZ::.row g22 CY::.row g4 (AtL.AH { a with oad:=ad162,oc:=c162,others:=(a.others.take j++(⟨fOf al 1,ad153,c153,vl⟩:CB)::a.others.drop j) })::.row g3 (AG 0 0 ⟨#[]⟩)::[.row g2 AtL.zero.AH]))) (fun w hS=>(hS.sub (L':=E162++(E153++(K++(.obj g24 (.map esU cU)::.row g23 CZ::.row g22 CY::.row g4 (AtL.AH { a with oad:=ad162,oc:=c162,others:=(a.others.take j++(⟨fOf al 1,ad153,c153,vl⟩:CB)::a.others.drop j) })::.row g3 (AG 0 0 ⟨#[]⟩)::[.row g2 AtL.zero.AH])))) (List.Sublist.append_left (.cons _ (List.Sublist.append_left (List.sublist_append_right _ _) _)) _)).M6 Gc) (eW ⟨k+toN (xs.drop k), { d with others:=d.others++[(fOf al 1,vl)] },fOf al 1::seen, { a with oad:=ad162,oc:=c162,others:=(a.others.take j++(⟨fOf al 1,ad153,c153,vl⟩:CB)::a.others.drop j) },esU,cU,_,E162,E153++K⟩ Eu ⟨by dsimp only;omega,by dsimp only;rw [hdec,Rt Er hnsx (show DP d _ _ = .inl _ by rw [← hal, ← hvl,Mw hun];exact hoi),List.drop_drop, ← ef1],hst,by
    have h1:=WY (os:=d.others) (t:=fOf al 1) (v:=vl) hst.nd j (fun i x hi hx=>by
      rw [← hos,List.getElem?_map] at hx
      obtain ⟨y,hy,rfl⟩:=Option.map_eq_some_iff.1 hx
      exact hlt i y hi hy) (fun x hx=>by
      rw [← hos,List.getElem?_map] at hx
      obtain ⟨y,hy,rfl⟩:=Option.map_eq_some_iff.1 hx
      exact hge y hy)
    show AtL.d { a with oad:=ad162,oc:=c162,others:=(a.others.take j++(⟨fOf al 1,ad153,c153,vl⟩:CB)::a.others.drop j) }=_
    rw [show AtL.d { a with oad:=ad162,oc:=c162,others:=(a.others.take j++(⟨fOf al 1,ad153,c153,vl⟩:CB)::a.others.drop j) } = { a.d with others:=(a.others.take j++(⟨fOf al 1,ad153,c153,vl⟩:CB)::a.others.drop j).map LP } from rfl,hsame]
    show AtD.mk _ _ _ _ _ _ _ _ _ _=AtD.mk _ _ _ _ _ _ _ _ _ _
    congr 1
    rw [h1, ← hos,List.map_append,List.map_cons,List.map_take,List.map_drop];rfl,hA',hV162,hO',hMU,fun h=>hcom (fun h2=>h (List.mem_cons_of_mem _ h2)),by dsimp only;rw [hnl];omega,No hknown⟩)
  refine J9 ?_
  exact Bc
  refine J12 ?_
  exact Bc
  refine J5 ?_
  have hkn:=of_decide_eq_true hq
  obtain ⟨t,ht⟩:=Int.eq_ofNat_of_zero_le ha1.1
  exact eM (t,esU,cU) ⟨ht,by dsimp only;omega,by dsimp only;omega,h106,hMU⟩ (.cons rfl (.int rfl ht (.cons rfl (.cons rfl (.cons rfl (.cons rfl (.cons rfl (.cons rfl (.cons rfl (.cons rfl (.cons rfl (.cons rfl .nil))))))))))))
  rintro ⟨t,esU,cU⟩ ⟨ht,ht1,ht8,hns6,hMU⟩
  dsimp only at ht ht1 ht8 hMU
  dsimp only
  have htn:(fOf al 1).toNat=t:=Er
  have hnsx:¬ ((xs.drop k).length<BC (xs.drop k)∨(xs.drop k).length<toN (xs.drop k)∨fOf (xs.drop k) 1∈seen):=(by rintro (h|h|h) <;> first|omega|exact hns6 (by rw [ef1];exact h))
  have hk18:1≤fOf al 1∧fOf al 1≤8:=Er
  refine WC.cut (fun _:Unit=>[(13, .slice (some ⟨b,vo,none⟩) vl.length vc),(12, .int .i64 t),(11, .int .i64 (fOf al 0 / 32*32)),(10, .slice (some ⟨b,AV o k cv 1,none⟩) al.length (cv-k)),(8, .int .i64 ((k+toN (xs.drop k):Nat):Int)),(7, .map (some g24)),(6, .slice (some ⟨g23,0,none⟩) 9 9),(5, .slice (some ⟨g22,0,none⟩) 9 9),(4, .pointer (some ⟨g4,0,none⟩)),(3, .pointer (some ⟨g3,0,none⟩)),(2, .pointer (some ⟨g2,0,none⟩)),(0, .slice (some ⟨b,o,none⟩) xs.length cv)]) (fun _=>E++(K++(.obj g24 (.map esU cU)::.row g23 CZ::.row g22 CY::.row g4 (AtL.AH a)::.row g3 (AG 0 0 ⟨#[]⟩)::[.row g2 AtL.zero.AH]))) (fun _=>¬ MD al) ?_ ?_
  refine J3 ?_
  refine zV (OB rfl rfl rfl Er Er (AF Er Er)) rfl ?_
  refine zV (FY rfl rfl rfl (AF Er Er)) rfl ?_
  refine J2 ?_
  refine zV (AB (lo:=t) rfl rfl rfl Tryz.underlying32 AP Er Er) rfl ?_
  refine zV (AA rfl rfl AK (cellAt (g:=g22) (k:=0+t*1) (cs:=CY) (v:=.int .i64 (DK t)) (by rw [show 0+t*1=t by omega];exact Qb ht1 ht8))) rfl ?_
  refine JT (fun h171=>?_) (fun h171=>?_)
  refine J16 ?_
  exact Ap
  refine J2 ?_
  refine zS (SH rfl rfl rfl Er Er) rfl ?_
  refine JT (fun h175=>?_) (fun h175=>?_)
  refine J3 ?_
  refine zS (AB (lo:=t) rfl rfl rfl Tryz.underlying32 AP Er Er) rfl ?_
  refine zS (AA rfl rfl AK (cellAt (g:=g22) (k:=0+t*1) (cs:=CY) (v:=.int .i64 (DK t)) (by rw [show 0+t*1=t by omega];exact Qb ht1 ht8))) rfl ?_
  refine JT (fun h181=>?_) (fun h181=>?_)
  refine J6 ?_
  exact Ap
  refine J6 ?_
  exact eM () (by show ¬ MD al;unfold MD;rw [htn];omega)
  refine J12 ?_
  exact eM () (by show ¬ MD al;unfold MD;rw [htn];omega)
  rintro _ hnf
  refine WC.cut (fun _:Unit=>[(13, .slice (some ⟨b,vo,none⟩) vl.length vc),(12, .int .i64 t),(11, .int .i64 (fOf al 0 / 32*32)),(10, .slice (some ⟨b,AV o k cv 1,none⟩) al.length (cv-k)),(8, .int .i64 ((k+toN (xs.drop k):Nat):Int)),(7, .map (some g24)),(6, .slice (some ⟨g23,0,none⟩) 9 9),(5, .slice (some ⟨g22,0,none⟩) 9 9),(4, .pointer (some ⟨g4,0,none⟩)),(3, .pointer (some ⟨g3,0,none⟩)),(2, .pointer (some ⟨g2,0,none⟩)),(0, .slice (some ⟨b,o,none⟩) xs.length cv)]) (fun _=>E++(K++(.obj g24 (.map esU cU)::.row g23 CZ::.row g22 CY::.row g4 (AtL.AH a)::.row g3 (AG 0 0 ⟨#[]⟩)::[.row g2 AtL.zero.AH]))) (fun _=>¬ Nr al vl) ?_ ?_
  refine J4 ?_
  refine zV (AB (lo:=t) rfl rfl rfl Tryz.underlying32 AP Er Er) rfl ?_
  refine zV (AA rfl rfl AK (cellAt (g:=g23) (k:=0+t*1) (cs:=CZ) (v:=.int .i64 (Ho t)) (by rw [show 0+t*1=t by omega];exact Qp ht1 ht8))) rfl ?_
  refine JT (fun h192=>?_) (fun h192=>?_)
  refine J5 ?_
  refine zS (AB (lo:=t) rfl rfl rfl Tryz.underlying32 AP Er Er) rfl ?_
  refine zS (AA rfl rfl AK (cellAt (g:=g23) (k:=0+t*1) (cs:=CZ) (v:=.int .i64 (Ho t)) (by rw [show 0+t*1=t by omega];exact Qp ht1 ht8))) rfl ?_
  refine JT (fun h200=>?_) (fun h200=>?_)
  refine J15 ?_
  exact Aj
  refine J3 ?_
  exact D2
  refine J11 ?_
  exact D2
  rintro _ hnz
  obtain ⟨hz1,hz4,hz7,hz8⟩:=Aa7 hnz ht ht1 ht8
  have hp2:=NQ t ht8
  have hs0:=hseen.h0
  have hs1:=hseen.h1
  have hfin:∀ (a':AtL) (K':List Ent) (d1:AtD),(∀ e∈K,e∈K')→GB K' a'→a'.others=a.others→a'.oad=a.oad→a'.oc=a.oc→(t=8∨(a'.cad=a.cad∧a'.cc=a.cc))→CL d al vl = .inl d1→a'.d = { d1 with others:=DM d1.others } →
      ReS.Good ⟨k+toN (xs.drop k),d1,fOf al 1::seen,a',esU,cU,JB mm (.int .i64 (fOf al 1)) (some (.bool true)),E,K'⟩ xs:=(by
    intro a' K' d1 hm hA e1 e2 e3 e4 htk hd'
    refine ⟨by dsimp only;omega,by dsimp only;rw [hdec,Rt Er hnsx (show DP d _ _ = .inl d1 by rw [← hal, ← hvl,Ip hk18];exact htk),List.drop_drop, ← ef1],hseen.step hWa.bys hns6 (show DP d al vl = .inl d1 by rw [Ip hk18];exact htk),hd',hA,by dsimp only;rw [e1,e2,e3];exact hoths,?_,hMU,fun h=>?_,by dsimp only;rw [e1];omega,No hknown⟩
    · dsimp only
      rw [e1]
      intro o' ho'
      obtain ⟨E',r1,r2⟩:=hvals o' ho'
      exact ⟨E',r1,fun e he=>hm e (r2 e he)⟩
    · dsimp only at h ⊢
      rcases e4 with e4|⟨e4,e5⟩
      · exact absurd (List.mem_cons.2 (.inl Er)) h
      · rw [e4,e5];exact hcom fun h2=>h (List.mem_cons_of_mem _ h2))
  refine J12 ?_
  refine WC.loop (fun i:Nat=>[(17, .int .i64 i),(16, .int .i64 (2 ^ i)),(13, .slice (some ⟨b,vo,none⟩) vl.length vc),(12, .int .i64 t),(10, .slice (some ⟨b,AV o k cv 1,none⟩) al.length (cv-k)),(8, .int .i64 ((k+toN (xs.drop k):Nat):Int)),(7, .map (some g24)),(6, .slice (some ⟨g23,0,none⟩) 9 9),(5, .slice (some ⟨g22,0,none⟩) 9 9),(4, .pointer (some ⟨g4,0,none⟩)),(3, .pointer (some ⟨g3,0,none⟩)),(2, .pointer (some ⟨g2,0,none⟩)),(0, .slice (some ⟨b,o,none⟩) xs.length cv)]) (fun _=>E++(K++(.obj g24 (.map esU cU)::.row g23 CZ::.row g22 CY::.row g4 (AtL.AH a)::.row g3 (AG 0 0 ⟨#[]⟩)::[.row g2 AtL.zero.AH]))) (fun i=>i≤t) (fun i=>t-i) 0 (Nat.zero_le _) (.cons rfl (.int rfl Et (.cons rfl (.cons rfl (.cons rfl (.cons rfl (.cons rfl (.cons rfl (.cons rfl (.cons rfl (.cons rfl (.cons rfl (.cons rfl .nil))))))))))))) (.refl _) ?_
  intro i hi
  refine J5 ?_
  refine JT (fun h218=>?_) (fun h218=>?_)
  refine J9 ?_
  have hpi:=NQ i Er
  refine zV (FY rfl rfl rfl (show _=(2:Int) ^ (i+1) from (AF Er Er).trans (by rw [Int.pow_succ];omega))) rfl ?_
  refine J9 ?_
  exact eW (i+1) Er Er (.int rfl Er (.cons rfl (.cons rfl (.cons rfl (.cons rfl (.cons rfl (.cons rfl (.cons rfl (.cons rfl (.cons rfl (.cons rfl (.cons rfl (.cons rfl .nil)))))))))))))
  refine J10 ?_
  have hit:i=t:=Er
  rw [hit]
  refine J3 ?_
  refine zV (AS rfl rfl rfl (show _=a.has+2 ^ t from AF Er Er)) rfl ?_
  refine J2 ?_
  refine WL.as (L':=E++(K++(.obj g24 (.map esU cU)::.row g23 CZ::.row g22 CY::.row g4 (AtL.AH { a with has:=a.has+2 ^ t })::.row g3 (AG 0 0 ⟨#[]⟩)::[.row g2 AtL.zero.AH]))) rfl ?_
  refine J6 ?_
  refine JT (fun h229=>?_) (fun h229=>?_)
  refine J6 ?_
  have er:=Ye (hz1 Er)
  have hl1:=hz1 Er
  have hb1:=CP hWv.bys 0
  refine zV (AB (lo:=0) rfl rfl rfl Tryz.underlying25 AO rfl Er) rfl ?_
  refine zV (AA rfl rfl BH (AL (fun h=>h) (hWv.get (BJ (i:=0) Er)))) rfl ?_
  rw [er] at hb1 ⊢
  refine zV (AQ rfl rfl Tryz.underlying3 Tryz.underlying5 (AF Er Er)) rfl ?_
  refine J2 ?_
  refine WL.as (L':=E++(K++(.obj g24 (.map esU cU)::.row g23 CZ::.row g22 CY::.row g4 (AtL.AH { a with has:=a.has+2 ^ t,origin:=AJ vl })::.row g3 (AG 0 0 ⟨#[]⟩)::[.row g2 AtL.zero.AH]))) rfl ?_
  refine J6 ?_
  refine JT (fun h237=>?_) (fun h237=>?_)
  refine J4 ?_
  refine WC.BB mixed<|rF 4 [0,1]<|?_
  refine J3 ?_
  refine WR.each (g:=3) [2,4] Es Et ?_
  refine ⟨?_,?_⟩
  refine zV (CJ (fOf al) rfl rfl Tryz.underlying25 Tryz.underlying5 Tryz.underlying9 (fun w' hS' _=>⟨b,AV o k cv 1,rfl,DV (hWa.st hS').at_⟩)) rfl ?_
  refine J1 ?_
  refine rF 2 [3] ?_
  refine J2 ?_
  refine rO 0 [4,5] ?_
  refine J11 ?_
  exact Dx
  refine J2 ?_
  refine rA 1 [2,3] rfl<|qV (CJ (fOf al) rfl rfl Tryz.underlying25 Tryz.underlying5 Tryz.underlying9 (fun w' hS' _=>⟨b,AV o k cv 1,rfl,DV (hWa.st hS').at_⟩)) rfl<|?_
  refine J2 ?_
  refine rO 0 [5] ?_
  refine J10 ?_
  exact Dx
  refine J9 ?_
  refine zV ((AZ rfl rfl rfl).f Er) rfl ?_
  refine J9 ?_
  refine zV ((AZ rfl rfl rfl).f Er) rfl ?_
  refine J9 ?_
  refine zV ((AZ rfl rfl rfl).f Er) rfl ?_
  refine J9 ?_
  refine zV ((AZ rfl rfl rfl).f Er) rfl ?_
  refine J9 ?_
  refine zV ((AZ rfl rfl rfl).f Er) rfl ?_
  refine J8 ?_
  refine zV ((AZ rfl rfl rfl).f Er) rfl ?_
  refine J5 ?_
  have htk:CL d al vl = .inl ({ d with has:=d.has+2 ^ t,origin:=AJ vl }):=(by
    have:=IB (d:=d) (d':={ d with origin:=AJ vl }) hnf hnz Er (by rw [htn,show t=1 by omega];rfl) Fi (by intro _;have h7:¬ AJ vl > 2:=h237;show wiB (AJ vl) 2=true;unfold wiB;exact decide_eq_true (by omega)) Fi
    rw [this,htn])
  have hdd:AtL.d { a with has:=a.has+2 ^ t,origin:=AJ vl } = { ({ d with has:=d.has+2 ^ t,origin:=AJ vl }:AtD) with others:=DM d.others }:=(by
    rw [show AtL.d { a with has:=a.has+2 ^ t,origin:=AJ vl } = { a.d with has:=a.has+2 ^ t,origin:=AJ vl } from rfl,hsame,hah])
  exact eW ⟨k+toN (xs.drop k), { d with has:=d.has+2 ^ t,origin:=AJ vl },fOf al 1::seen, { a with has:=a.has+2 ^ t,origin:=AJ vl },esU,cU,_,E,K⟩ Eu (hfin _ _ _ (fun _ h=>h) ⟨hown.path,hown.H5,hown.comms⟩ rfl rfl rfl (.inr ⟨rfl,rfl⟩) htk hdd)
  refine J9 ?_
  refine JT (fun h243=>?_) (fun h243=>?_)
  refine J6 ?_
  refine zK ck_118 rfl ?_
  intro w1 hS
  refine (Abt w1 b vo vc vl (hWv.st hS) Er).mono ?_
  rintro e w' ⟨ss,ad2,c2,E2,K2,ok,rfl,hV2,hK2,hS2,hno,hyes⟩
  refine ⟨_,_,rfl,hS.join hS2,?_⟩
  refine J3 ?_
  cases ok
  refine J27 ?_
  refine eT2 ?_
  have e0:ED AtL.zero.d [] xs = .inr (11,⟨#[]⟩):=(by rw [hdec];exact Hl (by omega) hnsx (by rw [← hal, ← hvl];rw [Ip hk18];exact Abc hnf hnz (by omega) (hno rfl)))
  exact Bh
  refine J18 ?_
  refine WL.as (L':=(E2++K2)++(E++(K++(.obj g24 (.map esU cU)::.row g23 CZ::.row g22 CY::.row g4 (AtL.AH { a with has:=a.has+2 ^ t,pad:=ad2,pc:=c2,path:=ss })::.row g3 (AG 0 0 ⟨#[]⟩)::[.row g2 AtL.zero.AH])))) rfl ?_
  refine WL.to (L':=E++(((E2++K2)++K)++(.obj g24 (.map esU cU)::.row g23 CZ::.row g22 CY::.row g4 (AtL.AH { a with has:=a.has+2 ^ t,pad:=ad2,pc:=c2,path:=ss })::.row g3 (AG 0 0 ⟨#[]⟩)::[.row g2 AtL.zero.AH]))) (fun w hS=>hS.M6 Gc) ?_
  refine J6 ?_
  refine zV ((AZ rfl rfl rfl).f Er) rfl ?_
  refine J9 ?_
  refine zV ((AZ rfl rfl rfl).f Er) rfl ?_
  refine J9 ?_
  refine zV ((AZ rfl rfl rfl).f Er) rfl ?_
  refine J9 ?_
  refine zV ((AZ rfl rfl rfl).f Er) rfl ?_
  refine J8 ?_
  refine zV ((AZ rfl rfl rfl).f Er) rfl ?_
  refine J5 ?_
  obtain ⟨hpr,hpa⟩:=TA (hyes rfl)
  have htk:CL d al vl = .inl { d with has:=d.has+2 ^ t,path:=ss.map Ik }:=(by
    have:=IB (d:=d) (d':={ d with path:=ss.map Ik }) hnf hnz Er (by rw [htn,show t=2 by omega];show (DN vl).map _=_;rw [hpr];rfl) (fun _=>hpa) Fi Fi
    rw [this,htn])
  have hdd:AtL.d { a with has:=a.has+2 ^ t,pad:=ad2,pc:=c2,path:=ss } = { ({ d with has:=d.has+2 ^ t,path:=ss.map Ik }:AtD) with others:=DM d.others }:=(by
    rw [show AtL.d { a with has:=a.has+2 ^ t,pad:=ad2,pc:=c2,path:=ss } = { a.d with has:=a.has+2 ^ t,path:=ss.map Ik } from rfl,hsame,hah])
  have hA2:GB ((E2++K2)++K) { a with has:=a.has+2 ^ t,pad:=ad2,pc:=c2,path:=ss }:=⟨⟨E2,hV2,fun e he=>List.mem_append_left _ (List.mem_append_left _ he)⟩,fun s hs=>(by
    obtain ⟨E',r1,r2⟩:=hK2 s hs
    exact ⟨E',r1,fun e he=>List.mem_append_left _ (List.mem_append_right _ (r2 e he))⟩),(by
    obtain ⟨E',r1,r2⟩:=hown.comms
    exact ⟨E',r1,fun e he=>List.mem_append_right _ (r2 e he)⟩)⟩
  exact eW ⟨k+toN (xs.drop k), { d with has:=d.has+2 ^ t,path:=ss.map Ik },fOf al 1::seen, { a with has:=a.has+2 ^ t,pad:=ad2,pc:=c2,path:=ss },esU,cU,_,E,(E2++K2)++K⟩ Eu (hfin _ _ _ (fun e he=>List.mem_append_right _ he) hA2 rfl rfl rfl (.inr ⟨rfl,rfl⟩) htk hdd)
  refine J9 ?_
  refine JT (fun h256=>?_) (fun h256=>?_)
  refine J6 ?_
  have hl4:=hz4 Er
  have hrb:=IQ 4 vl hl4 hWv.bys
  have hp4:(256:Int) ^ 4=4294967296:=Et
  refine zk Ku rfl (fun w hS=>LZ _ b vo vc vl (hWv.st hS) Er) ?_
  refine J2 ?_
  refine WL.as (L':=E++(K++(.obj g24 (.map esU cU)::.row g23 CZ::.row g22 CY::.row g4 (AtL.AH { a with has:=a.has+2 ^ t,hop:=AJ vl })::.row g3 (AG 0 0 ⟨#[]⟩)::[.row g2 AtL.zero.AH]))) rfl ?_
  refine J6 ?_
  refine zk ck_119 rfl (fun w hS=>RHop_c _ (AJ vl) Er Er) ?_
  generalize hq3:Kq (AJ vl)=b262
  cases b262
  refine J5 ?_
  refine WC.BB mixed<|rF 4 [0,1]<|?_
  refine J3 ?_
  refine WR.each (g:=3) [2,4] Es Et ?_
  refine ⟨?_,?_⟩
  refine zV (CJ (fOf al) rfl rfl Tryz.underlying25 Tryz.underlying5 Tryz.underlying9 (fun w' hS' _=>⟨b,AV o k cv 1,rfl,DV (hWa.st hS').at_⟩)) rfl ?_
  refine J1 ?_
  refine rF 2 [3] ?_
  refine J2 ?_
  refine rO 0 [4,5] ?_
  refine J11 ?_
  exact D6
  refine J2 ?_
  refine rA 1 [2,3] rfl<|qV (CJ (fOf al) rfl rfl Tryz.underlying25 Tryz.underlying5 Tryz.underlying9 (fun w' hS' _=>⟨b,AV o k cv 1,rfl,DV (hWa.st hS').at_⟩)) rfl<|?_
  refine J2 ?_
  refine rO 0 [5] ?_
  refine J10 ?_
  exact D6
  refine J10 ?_
  refine zV ((AZ rfl rfl rfl).f Er) rfl ?_
  refine J9 ?_
  refine zV ((AZ rfl rfl rfl).f Er) rfl ?_
  refine J9 ?_
  refine zV ((AZ rfl rfl rfl).f Er) rfl ?_
  refine J8 ?_
  refine zV ((AZ rfl rfl rfl).f Er) rfl ?_
  refine J5 ?_
  have htk:CL d al vl = .inl ({ d with has:=d.has+2 ^ t,hop:=AJ vl }):=(by
    have:=IB (d:=d) (d':={ d with hop:=AJ vl }) hnf hnz Er (by rw [htn,show t=3 by omega];rfl) Fi Fi (by intro _;exact hq3)
    rw [this,htn])
  have hdd:AtL.d { a with has:=a.has+2 ^ t,hop:=AJ vl } = { ({ d with has:=d.has+2 ^ t,hop:=AJ vl }:AtD) with others:=DM d.others }:=(by
    rw [show AtL.d { a with has:=a.has+2 ^ t,hop:=AJ vl } = { a.d with has:=a.has+2 ^ t,hop:=AJ vl } from rfl,hsame,hah])
  exact eW ⟨k+toN (xs.drop k), { d with has:=d.has+2 ^ t,hop:=AJ vl },fOf al 1::seen, { a with has:=a.has+2 ^ t,hop:=AJ vl },esU,cU,_,E,K⟩ Eu (hfin _ _ _ (fun _ h=>h) ⟨hown.path,hown.H5,hown.comms⟩ rfl rfl rfl (.inr ⟨rfl,rfl⟩) htk hdd)
  refine J9 ?_
  refine JT (fun h269=>?_) (fun h269=>?_)
  refine J5 ?_
  have hl4:=hz4 Er
  have hrb:=IQ 4 vl hl4 hWv.bys
  have hp4:(256:Int) ^ 4=4294967296:=Et
  refine zk Ku rfl (fun w hS=>LZ _ b vo vc vl (hWv.st hS) Er) ?_
  refine J2 ?_
  refine WL.as (L':=E++(K++(.obj g24 (.map esU cU)::.row g23 CZ::.row g22 CY::.row g4 (AtL.AH { a with has:=a.has+2 ^ t,med:=AJ vl })::.row g3 (AG 0 0 ⟨#[]⟩)::[.row g2 AtL.zero.AH]))) rfl ?_
  refine J6 ?_
  refine zV ((AZ rfl rfl rfl).f Er) rfl ?_
  refine J9 ?_
  refine zV ((AZ rfl rfl rfl).f Er) rfl ?_
  refine J8 ?_
  refine zV ((AZ rfl rfl rfl).f Er) rfl ?_
  refine J5 ?_
  have htk:CL d al vl = .inl ({ d with has:=d.has+2 ^ t,med:=AJ vl }):=(by
    have:=IB (d:=d) (d':={ d with med:=AJ vl }) hnf hnz Er (by rw [htn,show t=4 by omega];rfl) Fi Fi Fi
    rw [this,htn])
  have hdd:AtL.d { a with has:=a.has+2 ^ t,med:=AJ vl } = { ({ d with has:=d.has+2 ^ t,med:=AJ vl }:AtD) with others:=DM d.others }:=(by
    rw [show AtL.d { a with has:=a.has+2 ^ t,med:=AJ vl } = { a.d with has:=a.has+2 ^ t,med:=AJ vl } from rfl,hsame,hah])
  exact eW ⟨k+toN (xs.drop k), { d with has:=d.has+2 ^ t,med:=AJ vl },fOf al 1::seen, { a with has:=a.has+2 ^ t,med:=AJ vl },esU,cU,_,E,K⟩ Eu (hfin _ _ _ (fun _ h=>h) ⟨hown.path,hown.H5,hown.comms⟩ rfl rfl rfl (.inr ⟨rfl,rfl⟩) htk hdd)
  refine J9 ?_
  refine JT (fun h274=>?_) (fun h274=>?_)
  refine J5 ?_
  have hl4:=hz4 Er
  have hrb:=IQ 4 vl hl4 hWv.bys
  have hp4:(256:Int) ^ 4=4294967296:=Et
  refine zk Ku rfl (fun w hS=>LZ _ b vo vc vl (hWv.st hS) Er) ?_
  refine J2 ?_
  refine WL.as (L':=E++(K++(.obj g24 (.map esU cU)::.row g23 CZ::.row g22 CY::.row g4 (AtL.AH { a with has:=a.has+2 ^ t,loc:=AJ vl })::.row g3 (AG 0 0 ⟨#[]⟩)::[.row g2 AtL.zero.AH]))) rfl ?_
  refine J6 ?_
  refine zV ((AZ rfl rfl rfl).f Er) rfl ?_
  refine J8 ?_
  refine zV ((AZ rfl rfl rfl).f Er) rfl ?_
  refine J5 ?_
  have htk:CL d al vl = .inl ({ d with has:=d.has+2 ^ t,loc:=AJ vl }):=(by
    have:=IB (d:=d) (d':={ d with loc:=AJ vl }) hnf hnz Er (by rw [htn,show t=5 by omega];rfl) Fi Fi Fi
    rw [this,htn])
  have hdd:AtL.d { a with has:=a.has+2 ^ t,loc:=AJ vl } = { ({ d with has:=d.has+2 ^ t,loc:=AJ vl }:AtD) with others:=DM d.others }:=(by
    rw [show AtL.d { a with has:=a.has+2 ^ t,loc:=AJ vl } = { a.d with has:=a.has+2 ^ t,loc:=AJ vl } from rfl,hsame,hah])
  exact eW ⟨k+toN (xs.drop k), { d with has:=d.has+2 ^ t,loc:=AJ vl },fOf al 1::seen, { a with has:=a.has+2 ^ t,loc:=AJ vl },esU,cU,_,E,K⟩ Eu (hfin _ _ _ (fun _ h=>h) ⟨hown.path,hown.H5,hown.comms⟩ rfl rfl rfl (.inr ⟨rfl,rfl⟩) htk hdd)
  refine J9 ?_
  refine JT (fun h279=>?_) (fun h279=>?_)
  refine J6 ?_
  have hl7:=hz7 Er
  have hla:(vl.take 2).length=2:=Ey
  have hlb:(vl.drop 2).length=4:=Ex
  refine zV ((CT (hi:=2) rfl rfl rfl Tryz.underlying25 AO rfl Er)) rfl ?_
  refine zk Ku rfl (fun w hS=>by rw [show (Value.slice (some ⟨b,vo,none⟩) 2 vc) = .slice (some ⟨b,vo,none⟩) (vl.take 2).length vc by rw [hla]];exact LZ _ b vo vc (vl.take 2) ((hWv.take 2).st hS) Er) ?_
  refine J2 ?_
  refine WL.as (L':=E++(K++(.obj g24 (.map esU cU)::.row g23 CZ::.row g22 CY::.row g4 (AtL.AH { a with has:=a.has+2 ^ t,aas:=AJ (vl.take 2) })::.row g3 (AG 0 0 ⟨#[]⟩)::[.row g2 AtL.zero.AH]))) rfl ?_
  refine J4 ?_
  refine zV ((BW (lo:=2) rfl rfl rfl Tryz.underlying25 AO rfl Er)) rfl ?_
  refine zk Ku rfl (fun w hS=>by rw [show vl.length-2=(vl.drop 2).length by omega];exact LZ _ b (AV vo 2 vc 1) (vc-2) (vl.drop 2) ((hWv.drop 2).st hS) Er) ?_
  refine J2 ?_
  refine WL.as (L':=E++(K++(.obj g24 (.map esU cU)::.row g23 CZ::.row g22 CY::.row g4 (AtL.AH { a with has:=a.has+2 ^ t,aas:=AJ (vl.take 2),aid:=AJ (vl.drop 2) })::.row g3 (AG 0 0 ⟨#[]⟩)::[.row g2 AtL.zero.AH]))) rfl ?_
  refine J5 ?_
  refine zV ((AZ rfl rfl rfl).f Er) rfl ?_
  refine J5 ?_
  have htk:CL d al vl = .inl ({ d with has:=d.has+2 ^ t,aas:=AJ (vl.take 2),aid:=AJ (vl.drop 2) }):=(by
    have:=IB (d:=d) (d':={ d with aas:=AJ (vl.take 2),aid:=AJ (vl.drop 2) }) hnf hnz Er (by rw [htn,show t=7 by omega];rfl) Fi Fi Fi
    rw [this,htn])
  have hdd:AtL.d { a with has:=a.has+2 ^ t,aas:=AJ (vl.take 2),aid:=AJ (vl.drop 2) } = { ({ d with has:=d.has+2 ^ t,aas:=AJ (vl.take 2),aid:=AJ (vl.drop 2) }:AtD) with others:=DM d.others }:=(by
    rw [show AtL.d { a with has:=a.has+2 ^ t,aas:=AJ (vl.take 2),aid:=AJ (vl.drop 2) } = { a.d with has:=a.has+2 ^ t,aas:=AJ (vl.take 2),aid:=AJ (vl.drop 2) } from rfl,hsame,hah])
  exact eW ⟨k+toN (xs.drop k), { d with has:=d.has+2 ^ t,aas:=AJ (vl.take 2),aid:=AJ (vl.drop 2) },fOf al 1::seen, { a with has:=a.has+2 ^ t,aas:=AJ (vl.take 2),aid:=AJ (vl.drop 2) },esU,cU,_,E,K⟩ Eu (hfin _ _ _ (fun _ h=>h) ⟨hown.path,hown.H5,hown.comms⟩ rfl rfl rfl (.inr ⟨rfl,rfl⟩) htk hdd)
  refine J8 ?_
  refine JT (fun h289=>?_) (fun h289=>?_)
  refine J8 ?_
  refine JT (fun h292=>?_) (fun h292=>?_)
  refine J4 ?_
  refine WC.BB mixed<|rF 4 [0,1]<|?_
  refine J3 ?_
  refine WR.each (g:=3) [2,4] Es Et ?_
  refine ⟨?_,?_⟩
  refine zV (CJ (fOf al) rfl rfl Tryz.underlying25 Tryz.underlying5 Tryz.underlying9 (fun w' hS' _=>⟨b,AV o k cv 1,rfl,DV (hWa.st hS').at_⟩)) rfl ?_
  refine J1 ?_
  refine rF 2 [3] ?_
  refine J2 ?_
  refine rO 0 [4,5] ?_
  refine J11 ?_
  exact D4
  refine J2 ?_
  refine rA 1 [2,3] rfl<|qV (CJ (fOf al) rfl rfl Tryz.underlying25 Tryz.underlying5 Tryz.underlying9 (fun w' hS' _=>⟨b,AV o k cv 1,rfl,DV (hWa.st hS').at_⟩)) rfl<|?_
  refine J2 ?_
  refine rO 0 [5] ?_
  refine J10 ?_
  exact D4
  refine J7 ?_
  obtain ⟨e81,e82⟩:=hcom F8
  have e83:a.comms=[]:=(by
    have h1:=hseen.com F8
    have h2:=congrArg AtD.comms hsame
    exact h2.trans h1)
  have hl8:=hz8 Er
  have ea8:({ a with has:=a.has+2 ^ t }:AtL) = { a with has:=a.has+2 ^ t,cad:=none,cc:=0,comms:=[] }:=(by rw [← e81, ← e82, ← e83])
  rw [ea8]
  refine J4 ?_
  refine WC.loop (fun y:Nat×List Int×Option Addr×Nat×List Ent=>[(20, .int .i64 y.1),(13, .slice (some ⟨b,vo,none⟩) vl.length vc),(12, .int .i64 t),(8, .int .i64 ((k+toN (xs.drop k):Nat):Int)),(7, .map (some g24)),(6, .slice (some ⟨g23,0,none⟩) 9 9),(5, .slice (some ⟨g22,0,none⟩) 9 9),(4, .pointer (some ⟨g4,0,none⟩)),(3, .pointer (some ⟨g3,0,none⟩)),(2, .pointer (some ⟨g2,0,none⟩)),(0, .slice (some ⟨b,o,none⟩) xs.length cv)]) (fun y=>y.2.2.2.2++(E++(K++(.obj g24 (.map esU cU)::.row g23 CZ::.row g22 CY::.row g4 (AtL.AH { a with has:=a.has+2 ^ t,cad:=y.2.2.1,cc:=y.2.2.2.1,comms:=y.2.1 })::.row g3 (AG 0 0 ⟨#[]⟩)::[.row g2 AtL.zero.AH])))) (fun y=>y.1≤vl.length∧y.1 % 4=0∧y.2.1++FD (vl.drop y.1)=FD vl∧Vec 1 y.2.2.1 y.2.1.length y.2.2.2.1 (CG y.2.1) y.2.2.2.2∧y.2.1.length≤y.1) (fun y=>vl.length-y.1) (0,[],none,0,[]) ⟨Nat.zero_le _,rfl,by dsimp only;rw [List.drop_zero];rfl,Vec.nil 1,Nat.zero_le _⟩ Km (.refl _) ?_
  rintro ⟨i,cs,ad,cc,E8⟩ ⟨hi,hi4,hy,hV8,hcl⟩
  dsimp only at hi hi4 hy hV8 hcl
  dsimp only
  refine J6 ?_
  refine JT (fun h300=>?_) (fun h300=>?_)
  refine J7 ?_
  refine WC.BB mixed<|rF 6 [0,2,3,4,5,6]<|?_
  refine J1 ?_
  obtain ⟨x0,x1,x2,x3,zs,hdr⟩:=VL (xs:=vl.drop i) Ex
  have hnum:(vl.take (i+4)).drop i=[x0,x1,x2,x3]:=(by rw [List.drop_take,hdr,show i+4-i=4 by omega];rfl)
  have hzs:vl.drop (i+4)=zs:=(by rw [← List.drop_drop,hdr];rfl)
  rw [hdr,show FD (x0::x1::x2::x3::zs)=AJ [x0,x1,x2,x3]::FD zs from rfl] at hy
  refine J3 ?_
  refine pV (AS rfl rfl rfl (show _=((i+4:Nat):Int) from (AF Er Er).trans Er)) rfl ?_
  refine pV ((CN (lo:=i) (hi:=i+4) rfl rfl rfl rfl Tryz.underlying25 AO rfl rfl Er Er)) rfl ?_
  refine J1 ?_
  refine WR.each (g:=5) [1,7] Es Et ?_
  refine ⟨?_,?_⟩
  refine J2 ?_
  refine rA 4 [7] rfl ?_
  refine WQ.call _ rfl rfl Ku (.none rfl) rfl rfl (fun w hS=>Calls.still (by have:=(hWv.st hS).numk i (i+4) (by omega) (by omega) (by omega);rw [hnum] at this;exact this) hS) ?_
  refine J1 ?_
  refine rO 2 [8,9]<|zB Tryz.underlying32 AP DB rfl rfl<|?_
  intro g311 hg311
  refine WL.as (L':=.row g311 (CG [AJ [x0,x1,x2,x3]])::(E8++(E++(K++(.obj g24 (.map esU cU)::.row g23 CZ::.row g22 CY::.row g4 (AtL.AH { a with has:=a.has+2 ^ t,cad:=ad,cc:=cc,comms:=cs })::.row g3 (AG 0 0 ⟨#[]⟩)::[.row g2 AtL.zero.AH]))))) rfl<|WL.to (L':=E8++(.row g311 (CG [AJ [x0,x1,x2,x3]])::(E++(K++(.obj g24 (.map esU cU)::.row g23 CZ::.row g22 CY::.row g4 (AtL.AH { a with has:=a.has+2 ^ t,cad:=ad,cc:=cc,comms:=cs })::.row g3 (AG 0 0 ⟨#[]⟩)::[.row g2 AtL.zero.AH]))))) (fun w hS=>hS.front [_])<|?_
  refine WL.AN rfl rfl rfl Tryz.underlying32 Tryz.underlying32 AP Pf DB rfl rfl hV8 (new:=CG [AJ [x0,x1,x2,x3]]) (fun _=>⟨g311,0,rfl,fun w hS=>BZ (g:=g311) w hS⟩) rfl (H6 _) Eu (.none rfl) rfl rfl ?_
  intro ad312 c312 E312 hV312 hr312
  rw [← Hs] at hV312
  rw [show cs.length+1=(cs++[AJ [x0,x1,x2,x3]]).length by rw [List.length_append];rfl] at hV312 ⊢
  refine J1 ?_
  refine rF 1 [10] ?_
  refine J2 ?_
  refine rO 0 [11] ?_
  refine J1 ?_
  refine WL.as (L':=E312++(.row g311 (CG [AJ [x0,x1,x2,x3]])::(E++(K++(.obj g24 (.map esU cU)::.row g23 CZ::.row g22 CY::.row g4 (AtL.AH { a with has:=a.has+2 ^ t,cad:=ad312,cc:=c312,comms:=(cs++[AJ [x0,x1,x2,x3]]) })::.row g3 (AG 0 0 ⟨#[]⟩)::[.row g2 AtL.zero.AH]))))) rfl ?_
  refine J6 ?_
  refine zV (AS rfl rfl rfl (show _=((i+4:Nat):Int) from (AF Er Er).trans Er)) rfl ?_
  skip
  exact A8
  refine zk Ku rfl (fun w hS=>by have:=(hWv.st hS).numk i (i+4) Er Er Er;rw [hnum] at this;exact this) ?_
  refine J1 ?_
  refine WR.each (g:=4) [1,8] Es Et ?_
  refine ⟨?_,?_⟩
  refine J2 ?_
  refine rO 2 [8,9]<|zB Tryz.underlying32 AP DB rfl rfl<|?_
  intro g311 hg311
  refine WL.as (L':=.row g311 (CG [AJ [x0,x1,x2,x3]])::(E8++(E++(K++(.obj g24 (.map esU cU)::.row g23 CZ::.row g22 CY::.row g4 (AtL.AH { a with has:=a.has+2 ^ t,cad:=ad,cc:=cc,comms:=cs })::.row g3 (AG 0 0 ⟨#[]⟩)::[.row g2 AtL.zero.AH]))))) rfl<|WL.to (L':=E8++(.row g311 (CG [AJ [x0,x1,x2,x3]])::(E++(K++(.obj g24 (.map esU cU)::.row g23 CZ::.row g22 CY::.row g4 (AtL.AH { a with has:=a.has+2 ^ t,cad:=ad,cc:=cc,comms:=cs })::.row g3 (AG 0 0 ⟨#[]⟩)::[.row g2 AtL.zero.AH]))))) (fun w hS=>hS.front [_])<|?_
  refine WL.AN rfl rfl rfl Tryz.underlying32 Tryz.underlying32 AP Pf DB rfl rfl hV8 (new:=CG [AJ [x0,x1,x2,x3]]) (fun _=>⟨g311,0,rfl,fun w hS=>BZ (g:=g311) w hS⟩) rfl (H6 _) Eu (.none rfl) rfl rfl ?_
  intro ad312 c312 E312 hV312 hr312
  rw [← Hs] at hV312
  rw [show cs.length+1=(cs++[AJ [x0,x1,x2,x3]]).length by rw [List.length_append];rfl] at hV312 ⊢
  refine J1 ?_
  refine rF 1 [10] ?_
  refine J2 ?_
  refine rO 0 [11] ?_
  refine J1 ?_
  refine WL.as (L':=E312++(.row g311 (CG [AJ [x0,x1,x2,x3]])::(E++(K++(.obj g24 (.map esU cU)::.row g23 CZ::.row g22 CY::.row g4 (AtL.AH { a with has:=a.has+2 ^ t,cad:=ad312,cc:=c312,comms:=(cs++[AJ [x0,x1,x2,x3]]) })::.row g3 (AG 0 0 ⟨#[]⟩)::[.row g2 AtL.zero.AH]))))) rfl ?_
  refine J6 ?_
  refine zV (AS rfl rfl rfl (show _=((i+4:Nat):Int) from (AF Er Er).trans Er)) rfl ?_
  skip
  exact A8
  refine zB Tryz.underlying32 AP DB rfl rfl ?_
  intro g311 hg311
  refine WL.as (L':=.row g311 (CG [AJ [x0,x1,x2,x3]])::(E8++(E++(K++(.obj g24 (.map esU cU)::.row g23 CZ::.row g22 CY::.row g4 (AtL.AH { a with has:=a.has+2 ^ t,cad:=ad,cc:=cc,comms:=cs })::.row g3 (AG 0 0 ⟨#[]⟩)::[.row g2 AtL.zero.AH]))))) rfl<|WL.to (L':=E8++(.row g311 (CG [AJ [x0,x1,x2,x3]])::(E++(K++(.obj g24 (.map esU cU)::.row g23 CZ::.row g22 CY::.row g4 (AtL.AH { a with has:=a.has+2 ^ t,cad:=ad,cc:=cc,comms:=cs })::.row g3 (AG 0 0 ⟨#[]⟩)::[.row g2 AtL.zero.AH]))))) (fun w hS=>hS.front [_])<|?_
  refine J1 ?_
  refine rA 3 [1] rfl ?_
  refine J2 ?_
  refine rO 2 [9] ?_
  refine WL.AN rfl rfl rfl Tryz.underlying32 Tryz.underlying32 AP Pf DB rfl rfl hV8 (new:=CG [AJ [x0,x1,x2,x3]]) (fun _=>⟨g311,0,rfl,fun w hS=>BZ (g:=g311) w hS⟩) rfl (H6 _) Eu (.none rfl) rfl rfl ?_
  intro ad312 c312 E312 hV312 hr312
  rw [← Hs] at hV312
  rw [show cs.length+1=(cs++[AJ [x0,x1,x2,x3]]).length by rw [List.length_append];rfl] at hV312 ⊢
  refine J1 ?_
  refine rF 1 [10] ?_
  refine J2 ?_
  refine rO 0 [11] ?_
  refine J1 ?_
  refine WL.as (L':=E312++(.row g311 (CG [AJ [x0,x1,x2,x3]])::(E++(K++(.obj g24 (.map esU cU)::.row g23 CZ::.row g22 CY::.row g4 (AtL.AH { a with has:=a.has+2 ^ t,cad:=ad312,cc:=c312,comms:=(cs++[AJ [x0,x1,x2,x3]]) })::.row g3 (AG 0 0 ⟨#[]⟩)::[.row g2 AtL.zero.AH]))))) rfl ?_
  refine J6 ?_
  refine zV (AS rfl rfl rfl (show _=((i+4:Nat):Int) from (AF Er Er).trans Er)) rfl ?_
  skip
  exact A8
  refine J8 ?_
  have hcs:cs=FD vl:=(by rw [← hy,List.drop_eq_nil_of_le (by omega)];exact (List.append_nil _).symm)
  have hdc:d.comms=[]:=hseen.com F8
  have htk:CL d al vl = .inl { d with has:=d.has+2 ^ t,comms:=cs }:=(by
    have:=IB (d:=d) (d':={ d with comms:=cs }) hnf hnz Er (by rw [htn,show t=8 by omega];show some { d with comms:=d.comms++FD vl }=_;rw [hdc,hcs];rfl) Fi Fi Fi
    rw [this,htn])
  have hdd:AtL.d { a with has:=a.has+2 ^ t,cad:=ad,cc:=cc,comms:=cs } = { ({ d with has:=d.has+2 ^ t,comms:=cs }:AtD) with others:=DM d.others }:=(by
    rw [show AtL.d { a with has:=a.has+2 ^ t,cad:=ad,cc:=cc,comms:=cs } = { a.d with has:=a.has+2 ^ t,comms:=cs } from rfl,hsame,hah])
  have hA8:GB (E8++K) { a with has:=a.has+2 ^ t,cad:=ad,cc:=cc,comms:=cs }:=⟨(by
    obtain ⟨E',r1,r2⟩:=hown.path
    exact ⟨E',r1,fun e he=>List.mem_append_right _ (r2 e he)⟩),fun s hs=>(by
    obtain ⟨E',r1,r2⟩:=hown.H5 s hs
    exact ⟨E',r1,fun e he=>List.mem_append_right _ (r2 e he)⟩),⟨E8,hV8,fun e he=>List.mem_append_left _ he⟩⟩
  exact WE.to (L':=E++((E8++K)++(.obj g24 (.map esU cU)::.row g23 CZ::.row g22 CY::.row g4 (AtL.AH { a with has:=a.has+2 ^ t,cad:=ad,cc:=cc,comms:=cs })::.row g3 (AG 0 0 ⟨#[]⟩)::[.row g2 AtL.zero.AH]))) (fun w hS=>hS.M6 Gc) (eW ⟨k+toN (xs.drop k), { d with has:=d.has+2 ^ t,comms:=cs },fOf al 1::seen, { a with has:=a.has+2 ^ t,cad:=ad,cc:=cc,comms:=cs },esU,cU,_,E,E8++K⟩ Eu (hfin _ _ _ (fun e he=>List.mem_append_right _ he) hA8 rfl rfl rfl (.inl Er) htk hdd))
  refine J5 ?_
  have htk:CL d al vl = .inl ({ d with has:=d.has+2 ^ t }):=(by
    have:=IB (d:=d) (d':=d) hnf hnz Er (by rw [htn,show t=6 by omega];rfl) Fi Fi Fi
    rw [this,htn])
  have hdd:AtL.d { a with has:=a.has+2 ^ t } = { ({ d with has:=d.has+2 ^ t }:AtD) with others:=DM d.others }:=(by
    rw [show AtL.d { a with has:=a.has+2 ^ t } = { a.d with has:=a.has+2 ^ t } from rfl,hsame,hah])
  exact eW ⟨k+toN (xs.drop k), { d with has:=d.has+2 ^ t },fOf al 1::seen, { a with has:=a.has+2 ^ t },esU,cU,_,E,K⟩ Eu (hfin _ _ _ (fun _ h=>h) ⟨hown.path,hown.H5,hown.comms⟩ rfl rfl rfl (.inr ⟨rfl,rfl⟩) htk hdd)
  refine J17 ?_
  refine eT2 ?_
  have e0:ED AtL.zero.d [] xs = .inl d:=(by rw [hdec,List.drop_eq_nil_of_le (by omega),Kg])
  exact fun w' h=>by
    unfold K7
    rw [e0]
    exact ⟨a,E++K,rfl,hsame,⟨hown.mono fun e he=>List.mem_append_right _ he,⟨E,hoths,fun e he=>List.mem_append_left _ he⟩,fun o' ho'=>by
      obtain ⟨E',r1,r2⟩:=hvals o' ho'
      exact ⟨E',r1,fun e he=>List.mem_append_right _ (r2 e he)⟩⟩,h.sub (List.Sublist.append (.refl _) (List.sublist_append_left _ _))⟩
end Gq
end Go.Proofs.YtcmpamnhegndnaaGreatDoor
