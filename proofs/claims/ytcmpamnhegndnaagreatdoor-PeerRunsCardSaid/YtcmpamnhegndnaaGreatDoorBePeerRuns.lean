/- Texts joined: engine, contracts and laws, in the order in which they build. -/
import Derived.Test.YtcmpamnhegndnaaGreatDoorBdPeerRuns
namespace Go.Proofs.YtcmpamnhegndnaaGreatDoor
open Go.RowKit
section Gq
attribute [local irreducible] WL WC WE WQ WP WH WR WM WRH

theorem VN (m:Int):n2 m=u8s (BM m 2):=by
  show n2 m=[.int .u8 (m / 2 ^ (8*1) % 256), .int .u8 (m / 2 ^ (8*0) % 256)]
  rw [show (2:Int) ^ (8*1)=256 by decide,show (2:Int) ^ (8*0)=1 by decide,Int.ediv_one]
  rfl
theorem PD (p:Nat→Prop) (w0 w1:World) (L E:List Ent) (ad:Option Addr) (c:Nat) (xs:List Int) (m:Int) (hV:BV ad c xs E) (hS0:St p w0 w1 (E++L)) (hk:xs.length≤1000000) (h0:0≤m) (h1:m≤9223372036854775807) :
    Calls Tryz.prog 48 #[.slice ad xs.length c, .int .i64 m] w1 fun e w'=>∃ ad' c' E',e = .returned (.slice ad' (xs++BM m 2).length c')∧BV ad' c' (xs++BM m 2) E'∧St p w0 w' (E'++L) :=
  (put2_c p w0 w1 L E ad _ c _ m hV hS0 hk h0 h1).mono (by
    rintro e w' ⟨ad',c',E',rfl,hV',hS'⟩
    rw [VN, ← CH] at hV'
    have:=hV'.toB
    rw [this] at hV' ⊢
    exact ⟨ad',c',E',rfl,hV',hS'⟩)
theorem SN (n:Int):∀ (s i:Nat),i<s→(BM n s)[i]?=some (n / 2 ^ (8*(s-1-i)) % 256)
  | s+1,0,_=>by simp [BM]
  | s+1,i+1,h=>by
    rw [show BM n (s+1)=n / 2 ^ (8*s) % 256::BM n s from rfl,List.getElem?_cons_succ,SN n s i Er]
    rw [show s+1-1-(i+1)=s-1-i by omega]
theorem GW {α:Type}{xs:List α}{i:Nat}{x:α}(h:xs[i]?=some x):xs.take (i+1)=xs.take i++[x]:=by
  rw [List.take_add_one,h];rfl
def FH (a:Int) (n:Nat):List Int:=(BM a 4).take n
theorem IU (a:Int){n:Nat}(h:n≤4):(FH a n).length=n:=by unfold FH;rw [List.length_take,AW];omega
set_option maxHeartbeats 1000000 in
theorem QC (p:Nat→Prop) (w0 w1:World) (L E:List Ent) (ad:Option Addr) (c:Nat) (xs:List Int) (a:Int) (n:Nat) (hV:BV ad c xs E) (hS0:St p w0 w1 (E++L)) (hk:xs.length≤1000000) (hn:n≤4) :
    Calls Tryz.prog 74 #[.slice ad xs.length c, .int .u32 a, .int .i64 n] w1 fun e w'=>∃ ad' c' E',e = .returned (.slice ad' (xs++FH a n).length c')∧BV ad' c' (xs++FH a n) E'∧St p w0 w' (E'++L):=by
  refine enter Tryz.func74 rfl Tryz.ntmps74 rfl hS0 ?_
  refine J13 ?_
  refine WC.loop (fun x:Nat×Option Addr×Nat×List Ent=>[(9, .int .i64 x.1),(8, .int .i64 n),(1, .int .u32 a),(0, .slice x.2.1 (xs++FH a x.1).length x.2.2.1)]) (fun x=>x.2.2.2++L) (fun x=>x.1≤n∧BV x.2.1 x.2.2.1 (xs++FH a x.1) x.2.2.2) (fun x=>n-x.1) (0,ad,c,E) ⟨Nat.zero_le _,by dsimp only;rw [show FH a 0=[] from rfl,List.append_nil];exact hV⟩ (.cons rfl (.cons rfl (.cons rfl (.eq rfl (by dsimp only;rw [show FH a 0=[] from rfl,List.append_nil]) .nil)))) (.refl _) ?_
  rintro ⟨i,ad2,c2,E2⟩ ⟨hi,hV2⟩
  dsimp only at hi hV2
  dsimp only
  have hal:=IU a (n:=i) Er
  refine J2 ?_
  refine JT (fun h10=>?_) (fun h10=>?_)
  refine J18 ?_
  refine zV (FY rfl rfl rfl (show _=((8*i:Nat):Int) from (AF Er Er).trans Er)) rfl ?_
  refine zV (EM rfl rfl rfl (show _=((8*(3-i):Nat):Int) from (AF Er Er).trans Er)) rfl ?_
  refine zV ((Lc (m:=8*(3-i)) (c:=(2:Int) ^ (8*(3-i))) rfl rfl rfl rfl (by show 8*(3-i)≤32;omega) rfl)) rfl ?_
  refine zV (AQ rfl rfl Tryz.underlying5 Tryz.underlying23 (HL _)) rfl<|zB Tryz.underlying25 AO BF rfl rfl<|?_
  intro g19 hg19
  refine WL.as (L':=.row g19 (u8s [a / 2 ^ (8*(3-i)) % 256])::(E2++L)) rfl<|WL.to (L':=E2++(.row g19 (u8s [a / 2 ^ (8*(3-i)) % 256])::L)) (fun w hS=>hS.front [_])<|?_
  refine WL.AN rfl rfl rfl Tryz.underlying25 Tryz.underlying25 AO Hx BF rfl rfl hV2 (new:=u8s [a / 2 ^ (8*(3-i)) % 256]) (fun _=>⟨g19,0,rfl,fun w hS=>BZ (g:=g19) w hS⟩) rfl (CQ _) (by rw [List.length_append,hal];omega) (.none rfl) rfl rfl ?_
  intro ad20 c20 E20 hV20 hr20
  have e0:xs++FH a (i+1)=xs++FH a i++[a / 2 ^ (8*(3-i)) % 256]:=(by
    unfold FH
    rw [GW (SN a 4 i Er),show 4-1-i=3-i by omega,List.append_assoc])
  have e1:(xs++FH a (i+1)).length=(xs++FH a i).length+1:=(by rw [e0,List.length_append];rfl)
  rw [← CH, ← e0, ← e1] at hV20
  rw [← e1]
  refine J8 ?_
  exact WE.next (i+1,ad20,c20,E20) Eu ⟨by dsimp only;omega,hV20⟩ (.int rfl Eu (.cons rfl (.cons rfl (.cons rfl .nil)))) (List.Sublist.append_left (.cons _ (.refl _)) _)
  refine J16 ?_
  refine eT1 ?_
  obtain rfl:i=n:=Er
  exact fun w' h=>⟨ad2,c2,E2,rfl,hV2,h⟩
theorem V7 (w:World) (n:Int) (h0:0≤n) (h1:n≤1000):Calls Tryz.prog 102 #[.int .i64 n] w fun e w'=>e = .returned (.int .i64 (((n.toNat+7) / 8:Nat):Int))∧Frm (fun _=>False) w w':=by
  refine enter Tryz.func102 rfl Tryz.ntmps102 rfl (St.start (fun _=>False) w) ?_
  refine J9 ?_
  refine zV (OB rfl rfl rfl Er Er (AF Er Er)) rfl ?_
  refine J4 ?_
  refine eT1 ?_
  exact fun w' h=>⟨by congr 3;omega,h.frm⟩
theorem R5 (w:World) (ad:Option Addr) (c:Nat) (ps:List PfL) (hR:EI w ad 2 PfL.cells ps) (hn:ps.length≤9223372036854775807) (hI:∀ p∈ps,U32 p.addr∧I64 p.len) :
    Calls Tryz.prog 75 #[.slice ad ps.length c] w fun e w'=>e = .returned (.bool (ps.all Kr))∧Frm (fun _=>False) w w':=by
  refine enter Tryz.func75 rfl Tryz.ntmps75 rfl (St.start (fun _=>False) w) ?_
  refine J14 ?_
  refine WC.loop (fun k:Nat=>[(7, .int .i64 k),(6, .int .i64 ps.length),(5, .slice ad ps.length c)]) (fun _=>[]) (fun k=>k≤ps.length∧∀ j x,j<k→ps[j]?=some x→Kr x=true) (fun k=>ps.length-k) 0 ⟨Nat.zero_le _,fun j _ h=>absurd h Er⟩ Km (.refl _) ?_
  rintro k ⟨hk,hall⟩
  refine J2 ?_
  refine JT (fun h8=>?_) (fun h8=>?_)
  refine J10 ?_
  obtain ⟨x,hx⟩:∃ x,ps[k]?=some x:=⟨ps[k]' Er,List.getElem?_eq_getElem _⟩
  obtain ⟨b,o,ea,hr⟩:=hR k x hx
  refine zV ((AB (b:=b) (off:=o) (lo:=k) rfl Ge rfl Tryz.underlying30 Ng rfl Er)) rfl ?_
  refine zV ((CA (cs:=x.cells) rfl rfl O6 rfl (Mt (fun h=>h) hr))) rfl<|WL.alloc rfl JU (.none rfl) rfl rfl<|?_
  intro g4 hg4
  refine J6 ?_
  refine zk ck_97 rfl (fun w hS=>ZX w x (hI x (List.mem_of_getElem? hx)).1) ?_
  generalize hb:Kr x=bb
  cases bb
  refine zV ((BY rfl rfl rfl).t (Et)) rfl ?_
  refine J14 ?_
  refine eT1 ?_
  exact fun w' h=>⟨by rw [KE hx hb],h.frm⟩
  refine zV ((BY rfl rfl rfl).f (Et)) rfl ?_
  refine J10 ?_
  exact WE.next (k+1) Er ⟨by omega,fun j y hj hy=>by
  by_cases e:j=k
  · subst e;rw [hx] at hy;obtain rfl:=Option.some.inj hy;exact hb
  · exact hall j y Er hy⟩ (.int rfl Er (.cons rfl (.cons rfl .nil))) (List.nil_sublist _)
  exact C3
def WU (p:PfL):List Int:=BM p.len 1++FH p.addr ((p.len.toNat+7) / 8)
def He (ps:List PfL):List Int:=ps.flatMap WU
theorem Lr {p:PfL}(h:Kr p=true):0≤p.len∧p.len≤32:=by
  have:=of_decide_eq_true h
  have h2:=Zk p.len
  omega
theorem Sz {p:PfL}(h:Kr p=true):(WU p).length≤5:=by
  have:=Lr h
  unfold WU
  rw [List.length_append,AW,IU _ Er]
  omega
set_option maxHeartbeats 4000000 in
theorem QX (w0 w1:World) (L E:List Ent) (ad:Option Addr) (c:Nat) (xs:List Int) (ps:List PfL) (pa:Option Addr) (pc:Nat) (hV:BV ad c xs E) (hR:EI w0 pa 2 PfL.cells ps) (hS0:St (fun _=>False) w0 w1 (E++L)) (hk:xs.length+5*ps.length≤1000000) (ho:ps.all Kr=true) :
    Calls Tryz.prog 78 #[.slice ad xs.length c, .slice pa ps.length pc] w1 fun e w'=>∃ ad' c' E',e = .returned (.slice ad' (xs++He ps).length c')∧BV ad' c' (xs++He ps) E'∧St (fun _=>False) w0 w' (E'++L):=by
  refine enter Tryz.func78 rfl Tryz.ntmps78 rfl hS0 ?_
  refine J14 ?_
  refine WC.loop (fun x:Nat×List Int×Option Addr×Nat×List Ent=>[(9, .int .i64 x.1),(8, .int .i64 ps.length),(7, .slice pa ps.length pc),(0, .slice x.2.2.1 x.2.1.length x.2.2.2.1)]) (fun x=>x.2.2.2.2++L) (fun x=>x.1≤ps.length∧x.2.1.length≤xs.length+5*x.1∧x.2.1++He (ps.drop x.1)=xs++He ps∧BV x.2.2.1 x.2.2.2.1 x.2.1 x.2.2.2.2) (fun x=>ps.length-x.1) (0,xs,ad,c,E) ⟨Nat.zero_le _,Nat.le_refl _,rfl,hV⟩ Km (.refl _) ?_
  rintro ⟨k,ys,ad2,c2,E2⟩ ⟨hk2,hl2,hy,hV2⟩
  dsimp only at hk2 hl2 hy hV2
  dsimp only
  refine J2 ?_
  refine JT (fun h10=>?_) (fun h10=>?_)
  refine J10 ?_
  obtain ⟨x,hx⟩:∃ x,ps[k]?=some x:=⟨ps[k]' Er,List.getElem?_eq_getElem _⟩
  have hxo:=List.all_eq_true.1 ho x (List.mem_of_getElem? hx)
  have hxl:=Lr hxo
  have hnl:=Sz hxo
  unfold He at hy
  rw [Gt hx,List.flatMap_cons] at hy
  obtain ⟨b,o,ea,hr⟩:=hR k x hx
  refine zV ((AB (b:=b) (off:=o) (lo:=k) rfl (by show some (Value.slice pa _ _)=_;rw [ea]) rfl Tryz.underlying30 Ng rfl Er)) rfl ?_
  refine zV ((CA (cs:=x.cells) rfl rfl O6 rfl (Mt (fun h=>h) hr))) rfl<|WL.alloc rfl JU (.none rfl) rfl rfl<|?_
  intro g6 hg6
  refine J1 ?_
  refine WL.as (L':=.row g6 x.cells::(E2++L)) rfl<|WL.to (L':=E2++(.row g6 x.cells::L)) (fun w hS=>hS.front [_])<|?_
  refine J2 ?_
  refine WC.BB mixed<|rF 9 [0,1,6,8]<|?_
  refine J5 ?_
  refine WR.each (g:=8) [2,7,9] Es Et ?_
  refine ⟨?_,⟨?_,?_⟩⟩
  refine J2 ?_
  refine rF 7 [3]<|pV (AQ rfl rfl Tryz.underlying5 Tryz.underlying3 (HL _)) rfl<|?_
  refine J1 ?_
  refine WR.each (g:=6) [4,7,9] Es Et ?_
  refine ⟨?_,⟨?_,?_⟩⟩
  refine zB Tryz.underlying25 AO BF rfl rfl ?_
  intro g17 hg17
  refine WL.as (L':=.row g17 (u8s [x.len % 256])::(E2++(.row g6 x.cells::L))) rfl<|WL.to (L':=E2++(.row g17 (u8s [x.len % 256])::.row g6 x.cells::L)) (fun w hS=>hS.front [_])<|?_
  refine J1 ?_
  refine WR.each (g:=5) [5,7,9] Es Et ?_
  refine ⟨?_,⟨?_,?_⟩⟩
  refine WL.AN rfl rfl rfl Tryz.underlying25 Tryz.underlying25 AO Hx BF rfl rfl hV2 (new:=u8s [x.len % 256]) (fun _=>⟨g17,0,rfl,fun w hS=>BZ (g:=g17) w hS⟩) rfl (CQ _) Er (.none rfl) rfl rfl ?_
  intro ad18 c18 E18 hV18 hr18
  rw [← CH] at hV18
  rw [show ys.length+1=(ys++[x.len % 256]).length by rw [List.length_append];rfl] at hV18 ⊢
  refine J1 ?_
  refine rA 2 [7,9,10] rfl ?_
  refine J2 ?_
  exact Ab
  refine J2 ?_
  refine WR.each (g:=4) [5,9] Es Et ?_
  refine ⟨?_,?_⟩
  exact Dn
  refine J2 ?_
  refine rO 3 [5] ?_
  exact Dk
  refine J2 ?_
  refine WR.each (g:=4) [5,7] Es Et ?_
  refine ⟨?_,?_⟩
  exact Dp
  refine J2 ?_
  refine rO 3 [5] ?_
  exact Dk
  refine J2 ?_
  refine WR.each (g:=5) [4,9] Es Et ?_
  refine ⟨?_,?_⟩
  exact Ej
  refine J2 ?_
  exact Ei
  refine J2 ?_
  refine WR.each (g:=5) [4,7] Es Et ?_
  refine ⟨?_,?_⟩
  exact Ek
  refine J2 ?_
  exact Ei
  refine J2 ?_
  refine WR.each (g:=7) [2,9] Es Et ?_
  refine ⟨?_,?_⟩
  refine J2 ?_
  refine rF 6 [3]<|pV (AQ rfl rfl Tryz.underlying5 Tryz.underlying3 (HL _)) rfl<|?_
  refine J1 ?_
  refine WR.each (g:=5) [4,9] Es Et ?_
  refine ⟨?_,?_⟩
  exact Ej
  refine J2 ?_
  exact Ei
  refine J2 ?_
  refine rA 5 [2,3] rfl ?_
  refine J1 ?_
  refine qV (AQ rfl rfl Tryz.underlying5 Tryz.underlying3 (HL _)) rfl ?_
  refine J1 ?_
  exact Ei
  refine J2 ?_
  refine WR.each (g:=7) [2,7] Es Et ?_
  refine ⟨?_,?_⟩
  refine J2 ?_
  refine rF 6 [3]<|pV (AQ rfl rfl Tryz.underlying5 Tryz.underlying3 (HL _)) rfl<|?_
  refine J1 ?_
  refine WR.each (g:=5) [4,7] Es Et ?_
  refine ⟨?_,?_⟩
  exact Ek
  refine J2 ?_
  exact Ei
  refine J2 ?_
  refine rA 5 [2,3] rfl ?_
  refine J1 ?_
  refine qV (AQ rfl rfl Tryz.underlying5 Tryz.underlying3 (HL _)) rfl ?_
  refine J1 ?_
  exact Ei
  refine J16 ?_
  refine eT1 ?_
  obtain rfl:k=ps.length:=Er
  rw [List.drop_length] at hy
  have hy':ys=xs++He ps:=(by rw [← hy];exact (List.append_nil _).symm)
  rw [← hy']
  exact fun w' h=>⟨ad2,c2,E2,rfl,hV2,h⟩

def KZ (w w':World) (code:Int) (bs:List Int) (e:Ending):Prop:=∃ v,e = .returned (.tuple #[v, .int .i64 code])∧IP w w' (if code=0 then bs else []) v
theorem KZ.bad {w w':World}{code c:Int}{bs:List Int}{L:List Ent}(hc:code=c) (h0:c≠0) (h:St (fun _=>False) w w' L):KZ w w' code bs (.returned (.tuple #[.slice none 0 0, .int .i64 c])):=by
  subst hc
  refine ⟨_,rfl,?_⟩
  rw [if_neg h0]
  exact IP.of (E:=[]) (xs:=[]) (Vec.nil 1) (h.sub (List.nil_sublist _)) rfl
theorem KZ.good {w w':World}{code:Int}{ad:Option Addr}{c:Nat}{xs bs:List Int}{E L:List Ent}(hc:code=0) (hV:BV ad c xs E) (h:St (fun _=>False) w w' (E++L)) (e:xs=bs):KZ w w' code bs (.returned (.tuple #[.slice ad xs.length c, .int .i64 0])):=by
  subst hc
  refine ⟨_,rfl,?_⟩
  rw [if_pos rfl]
  exact IP.of hV h e
def Kx (d:ByteArray):List Int:=d.data.toList.map fun b=>(b.toNat:Int)
theorem UE (d:ByteArray):d.data.toList.map SG=u8s (Kx d):=by unfold u8s Kx;rw [List.map_map];rfl
def Kb (m:MsL):Int:=if m.fc<1∨255<m.fc∨m.fs<0∨255<m.fs then 1 else if 4096<m.fd.size then 6 else 0
def Ph (m:MsL):List Int:=[m.fc,m.fs]++Kx m.fd
set_option maxHeartbeats 1000000 in
theorem note_c (w:World) (m:MsL):Calls Tryz.prog 46 #[.agg m.cells.toArray] w fun e w'=>KZ w w' (Kb m) (Ph m) e:=by
  refine enter Tryz.func46 rfl Tryz.ntmps46 rfl (St.start (fun _=>False) w) ?_
  refine J2 ?_
  refine WL.box rfl rfl rfl (.none rfl) rfl rfl ?_
  intro g1 hg1
  refine J7 ?_
  refine zV (CA rfl rfl Im rfl (IK (m:=3) rfl)) rfl<|WL.alloc rfl CV (.none rfl) rfl rfl<|?_
  intro g4 hg4
  refine J1 ?_
  refine WL.as (L':=[.row g4 (AG m.fc m.fs m.fd), .row g1 m.cells]) rfl ?_
  refine J7 ?_
  refine JT (fun h9=>?_) (fun h9=>?_)
  refine J26 ?_
  exact D1
  refine J3 ?_
  refine JT (fun h13=>?_) (fun h13=>?_)
  refine J22 ?_
  exact D1
  refine J4 ?_
  refine JT (fun h18=>?_) (fun h18=>?_)
  refine J17 ?_
  exact D1
  refine J4 ?_
  refine JT (fun h23=>?_) (fun h23=>?_)
  refine J12 ?_
  exact D1
  refine J11 ?_
  refine zV (Kl rfl rfl Tryz.underlying9) rfl ?_
  refine JT (fun h28=>?_) (fun h28=>?_)
  refine J11 ?_
  refine eT2 ?_
  have hc:Kb m=6:=(by unfold Kb;rw [if_neg (by omega),if_pos (by omega)])
  exact A2
  refine J9 ?_
  refine zV (AQ rfl rfl Tryz.underlying5 Tryz.underlying3 (show _=(m.fc) from (HL _).trans Er)) rfl ?_
  refine J2 ?_
  refine zV (AQ rfl rfl Tryz.underlying5 Tryz.underlying3 (show _=(m.fs) from (HL _).trans Er)) rfl ?_
  refine zB Tryz.underlying25 AO BF rfl rfl ?_
  intro g35 hg35
  refine WL.as (L':=[.row g35 (u8s [m.fc,m.fs])]++[.row g4 (AG m.fc m.fs m.fd), .row g1 m.cells]) rfl ?_
  refine J2 ?_
  refine WL.AcT rfl rfl rfl rfl Tryz.underlying25 Tryz.underlying9 AO Hx BF rfl rfl (Vec.row (k:=2) (s:=1) (c:=2) (xs:=u8s [m.fc,m.fs]) rfl rfl Er) (new:=m.fd.data.toList.map SG) rfl Er (.none rfl) rfl rfl ?_
  intro ad38 c38 E38 hV38 hr38
  refine J5 ?_
  refine eT2 ?_
  have hc:Kb m=0:=(by unfold Kb;rw [if_neg (by omega),if_neg (by omega)])
  rw [UE, ← CH] at hV38
  have hk:=hV38.toB
  rw [hk] at hV38 ⊢
  exact fun w' h=>KZ.good hc hV38 h rfl
def UK (m:MsL):Bool:=decide (m.asn<1∨65535<m.asn∨(m.hold≠0∧(m.hold<3∨65535<m.hold))∨m.id=0∨32<m.CS.length)
def RZ (c:BU):Bool:=decide (0≤c.code∧c.code≤255∧c.val.length≤255)
def capE (c:BU):List Int:=[c.code % 256,(c.val.length:Int) % 256]++c.val
def EZ (cs:List BU):List Int:=cs.flatMap capE
def HT (m:MsL):Int:=if UK m then 1 else if m.CS.all RZ then if 253<(EZ m.CS).length then 6 else 0 else 1
def Gx (m:MsL):List Int:=[4]++BM m.asn 2++BM m.hold 2++FH m.id 4++(if (EZ m.CS).length=0 then [0] else [(2+((EZ m.CS).length:Int)) % 256,2,((EZ m.CS).length:Int) % 256]++EZ m.CS)
set_option maxHeartbeats 4000000 in
theorem open_c (w0:World) (m:MsL) (hM:m.At w0) (hI:m.In):Calls Tryz.prog 44 #[.agg m.cells.toArray] w0 fun e w'=>KZ w0 w' (HT m) (Gx m) e:=by
  refine enter Tryz.func44 rfl Tryz.ntmps44 rfl (St.start (fun _=>False) w0) ?_
  refine J2 ?_
  refine WL.box rfl rfl rfl (.none rfl) rfl rfl ?_
  intro g1 hg1
  refine J4 ?_
  refine WC.cut (fun _:Unit=>[(1, .pointer (some ⟨g1,0,none⟩))]) (fun _=>[.row g1 m.cells]) (fun _=>UK m=false) ?_ ?_
  refine J4 ?_
  refine JT (fun h10=>?_) (fun h10=>?_)
  refine J30 ?_
  refine J12 ?_
  exact Aq
  refine J3 ?_
  refine JT (fun h14=>?_) (fun h14=>?_)
  refine J30 ?_
  refine J8 ?_
  exact Aq
  refine J4 ?_
  refine JT (fun h19=>?_) (fun h19=>?_)
  refine J3 ?_
  refine JT (fun h23=>?_) (fun h23=>?_)
  refine J29 ?_
  exact Aq
  refine J3 ?_
  refine JT (fun h27=>?_) (fun h27=>?_)
  refine J25 ?_
  exact Aq
  refine J6 ?_
  exact D8
  refine J14 ?_
  exact D8
  intro _ hb
  have hb':=of_decide_eq_false hb
  refine J15 ?_
  refine WC.loop (fun x:Nat×List Int×Option Addr×Nat×List Ent=>[(45, .int .i64 x.1),(44, .int .i64 m.CS.length),(43, .slice m.kad m.CS.length m.kc),(4, .slice x.2.2.1 x.2.1.length x.2.2.2.1),(1, .pointer (some ⟨g1,0,none⟩))]) (fun x=>x.2.2.2.2++[.row g1 m.cells]) (fun x=>x.1≤m.CS.length∧x.2.1.length≤257*x.1∧x.2.1++EZ (m.CS.drop x.1)=EZ m.CS∧(∀ j o,j<x.1→m.CS[j]?=some o→RZ o=true)∧BV x.2.2.1 x.2.2.2.1 x.2.1 x.2.2.2.2) (fun x=>m.CS.length-x.1) (0,[],none,0,[]) ⟨Nat.zero_le _,Nat.le_refl _,rfl,fun j _ h=>absurd h Eu,Vec.nil 1⟩ Km (.refl _) ?_
  rintro ⟨k,ys,ad,c,E⟩ ⟨hk,hl,hy,hok,hV⟩
  dsimp only at hk hl hy hok hV
  dsimp only
  refine J2 ?_
  refine JT (fun h46=>?_) (fun h46=>?_)
  refine J10 ?_
  obtain ⟨x,hx⟩:∃ x,m.CS[k]?=some x:=⟨m.CS[k]' Er,List.getElem?_eq_getElem _⟩
  obtain ⟨b,o,ea,hr⟩:=hM.CS k x hx
  have hxm:=List.mem_of_getElem? hx
  have hxI:=hI.CS x hxm
  unfold EZ at hy
  rw [Gt hx,List.flatMap_cons] at hy
  refine zV ((AB (b:=b) (off:=o) (lo:=k) rfl (by show some (Value.slice m.kad _ _)=_;rw [ea]) rfl Tryz.underlying29 Lf rfl Er)) rfl ?_
  refine zV ((CA (cs:=x.cells) rfl rfl SD rfl (Mt (fun h=>h) hr))) rfl<|WL.alloc rfl Ix (.none rfl) rfl rfl<|?_
  intro g6 hg6
  refine J1 ?_
  refine WL.as (L':=.row g6 x.cells::(E++[.row g1 m.cells])) rfl<|WL.to (L':=E++[.row g6 x.cells, .row g1 m.cells]) (fun w hS=>hS.front [_])<|?_
  refine J7 ?_
  refine JT (fun h51=>?_) (fun h51=>?_)
  refine J27 ?_
  exact Dz
  refine J3 ?_
  refine JT (fun h55=>?_) (fun h55=>?_)
  refine J23 ?_
  exact Dz
  refine J5 ?_
  refine JT (fun h61=>?_) (fun h61=>?_)
  refine J17 ?_
  exact Dz
  refine J11 ?_
  refine zV (AQ rfl rfl Tryz.underlying5 Tryz.underlying3 (HL _)) rfl ?_
  refine J3 ?_
  refine zV (AQ rfl rfl Tryz.underlying5 Tryz.underlying3 (HL _)) rfl<|zB Tryz.underlying25 AO BF rfl rfl<|?_
  intro g71 hg71
  refine WL.as (L':=.row g71 (u8s [x.code % 256,(x.val.length:Int) % 256])::(E++[.row g6 x.cells, .row g1 m.cells])) rfl<|WL.to (L':=E++[.row g71 (u8s [x.code % 256,(x.val.length:Int) % 256]), .row g6 x.cells, .row g1 m.cells]) (fun w hS=>hS.front [_])<|?_
  refine WL.AN rfl rfl rfl Tryz.underlying25 Tryz.underlying25 AO Hx BF rfl rfl hV (new:=u8s [x.code % 256,(x.val.length:Int) % 256]) (fun _=>⟨g71,0,rfl,fun w hS=>BZ (g:=g71) w hS⟩) rfl (CQ _) Er (.none rfl) rfl rfl ?_
  intro ad72 c72 E72 hV72 hr72
  refine J7 ?_
  refine WL.AN rfl rfl rfl Tryz.underlying25 Tryz.underlying25 AO Hx BF rfl rfl hV72 (new:=u8s x.val) (fun h=>by obtain ⟨b',o',e,hr'⟩:=hM.vals x hxm Fq;exact ⟨b',o',e,Mt (fun h=>h) hr'⟩) Fh (CQ _) Er (.none rfl) rfl rfl ?_
  intro ad76 c76 E76 hV76 hr76
  rw [← CH, ← CH] at hV76
  have hkl:=hV76.toB
  rw [hkl] at hV76 ⊢
  refine J8 ?_
  exact WE.next (k+1,_,ad76,c76,E76) Eu ⟨by dsimp only;omega,by dsimp only;rw [← hkl];omega,by dsimp only;rw [List.append_assoc,List.append_assoc];unfold capE at hy;rw [List.append_assoc] at hy;exact hy,fun j o' hj hjo=>by
  by_cases e:j=k
  · subst e;rw [hx] at hjo;obtain rfl:=Option.some.inj hjo;exact decide_eq_true ⟨by omega,by omega,by omega⟩
  · exact hok j o' (by dsimp only at hj;omega) hjo,hV76⟩ (.int rfl Eu (.cons rfl (.cons rfl (.cons rfl (.cons rfl .nil))))) (List.Sublist.append_left (.cons _ (.cons _ (.refl _))) _)
  refine J13 ?_
  obtain rfl:k=m.CS.length:=Er
  have hy':ys=EZ m.CS:=(by rw [List.drop_length] at hy;rw [← hy];exact (List.append_nil _).symm)
  have hall:m.CS.all RZ=true:=Q1 fun j x hj hx=>hok j x Er hx
  refine J1 ?_
  refine JT (fun h80=>?_) (fun h80=>?_)
  refine J11 ?_
  refine eT2 ?_
  have hc:HT m=6:=(by
    unfold HT
    rw [hb,hall,if_pos (show 253<(EZ m.CS).length by rw [← hy'];omega)];rfl)
  exact A2
  refine J6 ?_
  refine WC.BB mixed<|rF 6 [1,4]<|?_
  refine J3 ?_
  refine WR.each (g:=5) [0,2,5] Es Et ?_
  refine ⟨?_,⟨?_,?_⟩⟩
  refine zB Tryz.underlying25 AO BF rfl rfl ?_
  intro g81 hg81
  refine WL.as (L':=[.row g81 (u8s [4])]++(E++[.row g1 m.cells])) rfl ?_
  refine J1 ?_
  refine WR.each (g:=4) [2,5] Es Et ?_
  refine ⟨?_,?_⟩
  refine J2 ?_
  refine WR.each (g:=3) [3,5] Es Et ?_
  refine ⟨?_,?_⟩
  exact Du
  exact Ep
  refine J2 ?_
  refine rA 3 [2] rfl ?_
  exact Ep
  refine J2 ?_
  refine WR.each (g:=4) [0,5] Es Et ?_
  refine ⟨?_,?_⟩
  refine zB Tryz.underlying25 AO BF rfl rfl ?_
  intro g81 hg81
  refine WL.as (L':=[.row g81 (u8s [4])]++(E++[.row g1 m.cells])) rfl ?_
  refine J1 ?_
  refine WR.each (g:=3) [3,5] Es Et ?_
  refine ⟨?_,?_⟩
  exact Du
  exact Ep
  exact Eo
  refine J2 ?_
  refine WR.each (g:=4) [0,2] Es Et ?_
  refine ⟨?_,?_⟩
  refine zB Tryz.underlying25 AO BF rfl rfl ?_
  intro g81 hg81
  refine WL.as (L':=[.row g81 (u8s [4])]++(E++[.row g1 m.cells])) rfl ?_
  refine J1 ?_
  refine rA 3 [2] rfl ?_
  exact Ep
  exact Eo

def Mj (m:MsL):Bool := !(m.gone.all Kr) || !(m.nets.all Kr) || decide (0<m.nets.length∧HK m.atr.has≠0)
def JC (m:MsL):Int:=if 200<m.gone.length∨200<m.nets.length then 3 else if Mj m then 1 else Lj m.atr
def OX (m:MsL):List Int:=BM (He m.gone).length 2++He m.gone++BM (Hn m.atr).length 2++Hn m.atr++He m.nets
theorem JS {ps:List PfL}(h:ps.all Kr=true):(He ps).length≤5*ps.length:=by
  induction ps with
  | nil=>exact Nat.zero_le _
  | cons p ps ih =>
    rw [List.all_cons,Bool.and_eq_true] at h
    have h1:=ih h.2
    have h2:=Sz h.1
    unfold He at h1 ⊢
    rw [List.flatMap_cons,List.length_append,List.length_cons]
    omega
theorem Tb {a:AtL}(h:Lj a=0):(Hn a).length≤4096:=by
  unfold Lj at h
  by_cases hc:Mk a=true
  · rw [if_pos hc] at h
    by_cases hb:4096<(Hn a).length
    · rw [decide_eq_true hb,Bool.or_true] at h;exact absurd h Et
    · omega
  · rw [if_neg hc] at h;exact absurd h Et
set_option maxHeartbeats 4000000 in
theorem Aby (w0:World) (m:MsL) (hM:m.At w0) (hI:m.In) (hG:GF w0) (hP:m.atr.path.length≤1100) (hO:m.atr.others.length≤300):Calls Tryz.prog 45 #[.agg m.cells.toArray] w0 fun e w'=>KZ w0 w' (JC m) (OX m) e:=by
  refine enter Tryz.func45 rfl Tryz.ntmps45 rfl (St.start (fun _=>False) w0) ?_
  refine J2 ?_
  refine WL.box rfl rfl rfl (.none rfl) rfl rfl ?_
  intro g1 hg1
  refine J10 ?_
  refine JT (fun h11=>?_) (fun h11=>?_)
  refine J17 ?_
  refine eT2 ?_
  have hc:JC m=3:=(by unfold JC;rw [if_pos (by omega)])
  exact A2
  refine J4 ?_
  refine JT (fun h16=>?_) (fun h16=>?_)
  refine J12 ?_
  refine eT2 ?_
  have hc:JC m=3:=(by unfold JC;rw [if_pos (by omega)])
  exact A2
  refine J6 ?_
  refine WC.cut (fun _:Unit=>[(1, .pointer (some ⟨g1,0,none⟩))]) (fun _=>[.row g1 m.cells]) (fun _=>m.gone.all Kr=true∧m.nets.all Kr=true∧Mj m=false) ?_ ?_
  refine J4 ?_
  refine zk ck_75 rfl (fun w hS=>R5 w m.gad m.gc m.gone (hM.st hS).gone hI.lens.2.1 hI.gone) ?_
  generalize hg:m.gone.all Kr=bg
  cases bg
  refine J30 ?_
  refine eT2 ?_
  have hc:JC m=1:=(by
    have:Mj m=true:=by unfold Mj;rw [hg];rfl
    unfold JC;rw [if_neg Er,this];rfl)
  exact A2
  refine J4 ?_
  refine zk ck_75 rfl (fun w hS=>R5 w m.nad m.nc m.nets (hM.st hS).nets hI.lens.2.2.1 hI.nets) ?_
  generalize hn:m.nets.all Kr=bn
  cases bn
  refine J25 ?_
  refine eT2 ?_
  have hc:JC m=1:=(by
    have:Mj m=true:=by unfold Mj;rw [hg,hn];rfl
    unfold JC;rw [if_neg Er,this];rfl)
  exact A2
  refine J6 ?_
  refine JT (fun h32=>?_) (fun h32=>?_)
  refine J2 ?_
  refine zS (CA rfl rfl Lz rfl (IK (m:=10) rfl)) rfl<|zk ck_76 rfl (fun w hS=>Qt w m.atr)<|?_
  refine JT (fun h37=>?_) (fun h37=>?_)
  refine J13 ?_
  refine eT2 ?_
  have hc:JC m=1:=(by
    have:Mj m=true:=by unfold Mj;rw [decide_eq_true ⟨by omega,h37⟩,Bool.or_true]
    unfold JC;rw [if_neg Er,this];rfl)
  exact A2
  refine J6 ?_
  exact eM () ⟨rfl,rfl,by unfold Mj;rw [hg,hn,decide_eq_false Er];rfl⟩
  refine J11 ?_
  exact eM () ⟨rfl,rfl,by unfold Mj;rw [hg,hn,decide_eq_false Er];rfl⟩
  rintro _ ⟨hg,hn,hb⟩
  have hgl:=JS hg
  have hnl:=JS hn
  refine J3 ?_
  refine zV (CA rfl rfl Lz rfl (IK (m:=10) rfl)) rfl<|zK ck_77 rfl<|?_
  intro w1 hS
  refine (AEnc_g w1 m.atr (hM.st hS).at_ hI.at_ (hG.FA (fun h=>h) hS) hP hO).mono ?_
  rintro e w' ⟨_,rfl,ad43,c43,E43,rfl,hV43,hS'⟩
  refine ⟨_,_,rfl,hS.join hS',?_⟩
  refine J11 ?_
  refine JT (fun h47=>?_) (fun h47=>?_)
  refine J12 ?_
  refine eT2 ?_
  have hc:JC m=Lj m.atr:=(by unfold JC;rw [if_neg (by omega),hb];rfl)
  exact fun w' h=>KZ.bad hc h47 h
  refine J8 ?_
  have he:Lj m.atr=0:=Er
  have hal:=Tb he
  have ho:RM m.atr=Hn m.atr:=(by unfold RM;rw [if_pos he])
  rw [ho] at hV43 ⊢
  refine J1 ?_
  refine zK ck_78 rfl ?_
  intro w1 hS
  refine (QX w0 w1 (E43++[.row g1 m.cells]) [] none 0 [] m.gone m.gad m.gc (Vec.nil 1) hM.gone hS (by rw [List.length_nil];omega) hg).mono ?_
  rintro e w' ⟨ad51,c51,E51,rfl,hV51,hS'⟩
  refine ⟨_,_,rfl,hS',?_⟩
  rw [List.nil_append] at hV51 ⊢
  refine J7 ?_
  refine zK LU rfl ?_
  intro w1 hS
  refine (PD (fun _=>False) w0 w1 (E51++(E43++[.row g1 m.cells])) [] none 0 [] (He m.gone).length (Vec.nil 1) hS Et Er Er).mono ?_
  rintro e w' ⟨ad54,c54,E54,rfl,hV54,hS'⟩
  refine ⟨_,_,rfl,hS',?_⟩
  rw [List.nil_append] at hV54 ⊢
  have hl2:=AW ((He m.gone).length:Int) 2
  have hl3:=AW ((Hn m.atr).length:Int) 2
  refine J1 ?_
  refine WL.AN rfl rfl rfl Tryz.underlying25 Tryz.underlying25 AO Hx BF rfl rfl hV54 (new:=u8s (He m.gone)) (fun h=>by obtain ⟨b',o',e,hr'⟩:=hV51.src (L:=E54++(E51++(E43++[.row g1 m.cells]))) (fun e he=>List.mem_append_right _ (List.mem_append_left _ he)) Fq;exact ⟨b',o',e,fun w hS=>hr' _ _ w hS⟩) Fh (CQ _) Er (.none rfl) rfl rfl ?_
  intro ad56 c56 E56 hV56 hr56
  rw [← CH] at hV56
  have hk56:=hV56.toB
  rw [hk56] at hV56 ⊢
  refine J8 ?_
  refine zK LU rfl ?_
  intro w1 hS
  refine (PD (fun _=>False) w0 w1 _ _ _ _ _ (Hn m.atr).length hV56 hS Ft Er Er).mono ?_
  rintro e w' ⟨ad60,c60,E60,rfl,hV60,hS'⟩
  refine ⟨_,_,rfl,hS',?_⟩
  refine J1 ?_
  refine WL.AN rfl rfl rfl Tryz.underlying25 Tryz.underlying25 AO Hx BF rfl rfl hV60 (new:=u8s (Hn m.atr)) (fun h=>by obtain ⟨b',o',e,hr'⟩:=hV43.src (L:=E60++(E51++(E43++[.row g1 m.cells]))) (fun e he=>List.mem_append_right _ (List.mem_append_right _ (List.mem_append_left _ he))) Fq;exact ⟨b',o',e,fun w hS=>hr' _ _ w hS⟩) Fh (CQ _) (by rw [List.length_append,List.length_append];omega) (.none rfl) rfl rfl ?_
  intro ad62 c62 E62 hV62 hr62
  rw [← CH] at hV62
  have hk62:=hV62.toB
  rw [hk62] at hV62 ⊢
  refine J8 ?_
  refine zK ck_78 rfl ?_
  intro w1 hS
  refine (QX w0 w1 _ _ _ _ _ m.nets m.nad m.nc hV62 hM.nets hS (by rw [List.length_append,List.length_append,List.length_append];omega) hn).mono ?_
  rintro e w' ⟨ad66,c66,E66,rfl,hV66,hS'⟩
  refine ⟨_,_,rfl,hS',?_⟩
  refine J5 ?_
  refine eT2 ?_
  have hc:JC m=0:=(by unfold JC;rw [if_neg (by omega),hb];exact he)
  exact fun w' h=>KZ.good hc hV66 h rfl
def HW (m:MsL):Int:=if m.kind=1 then HT m else if m.kind=2 then JC m else if m.kind=3 then Kb m else if m.kind=4 then 0 else 12
def GV (m:MsL):List Int:=if m.kind=1 then Gx m else if m.kind=2 then OX m else if m.kind=3 then Ph m else []
def Gr (m:MsL):Int:=if HW m=0 then if 4096<19+(GV m).length then 6 else 0 else HW m
def DG (m:MsL):List Int:=List.replicate 16 255++BM (19+(GV m).length:Nat) 2++[m.kind]++GV m
theorem Td (d:ByteArray):(Kx d).length=d.size:=by unfold Kx;rw [List.length_map];rfl
theorem Aai {m:MsL}(h:HW m=0):(GV m).length≤10000:=by
  unfold HW at h
  unfold GV
  split at h
  · rename_i hk
    rw [if_pos hk]
    unfold HT at h
    split at h
    · exact absurd h Et
    split at h
    · split at h
      · exact absurd h Et
      unfold Gx
      simp only [List.length_append,AW,IU _ (show 4≤4 by decide),List.length_cons,List.length_nil]
      split <;> simp only [List.length_append,List.length_cons,List.length_nil] <;> omega
    · exact absurd h Et
  rename_i hk
  rw [if_neg hk]
  split at h
  · rename_i hk
    rw [if_pos hk]
    unfold JC at h
    split at h
    · exact absurd h Et
    split at h
    · exact absurd h Et
    rename_i hl hb
    have h1:=Tb h
    have hb':Mj m=false:=by simpa using hb
    unfold Mj at hb'
    rw [Bool.or_eq_false_iff,Bool.or_eq_false_iff,Bool.not_eq_false',Bool.not_eq_false'] at hb'
    have h2:=JS hb'.1.1
    have h3:=JS hb'.1.2
    unfold OX
    simp only [List.length_append,AW]
    omega
  rename_i hk
  rw [if_neg hk]
  split at h
  · rename_i hk
    rw [if_pos hk]
    unfold Kb at h
    split at h
    · exact absurd h Et
    split at h
    · exact absurd h Et
    unfold Ph
    rw [List.length_append,Td]
    show 2+_≤_
    omega
  rename_i hk
  rw [if_neg hk]
  exact Nat.zero_le _
theorem RK (k:Nat):bcs (fun _=>255) k=u8s (List.replicate k 255):=by
  apply List.ext_getElem?
  intro i
  unfold u8s
  by_cases hi:i<k
  · rw [RN _ _ _ hi,List.getElem?_map,List.getElem?_replicate,if_pos hi];rfl
  · rw [List.getElem?_eq_none Gg,List.getElem?_map,List.getElem?_replicate,if_neg hi];rfl
set_option maxHeartbeats 4000000 in
theorem Enc_g (w0:World) (m:MsL) (hM:m.At w0) (hI:m.In) (hG:GF w0) (hP:m.atr.path.length≤1100) (hO:m.atr.others.length≤300):Calls Tryz.prog 10 #[.agg m.cells.toArray] w0 fun e w'=>KZ w0 w' (Gr m) (DG m) e:=by
  refine enter Tryz.func10 rfl Tryz.ntmps10 rfl (St.start (fun _=>False) w0) ?_
  refine J2 ?_
  refine WL.box rfl rfl rfl (.none rfl) rfl rfl ?_
  intro g1 hg1
  refine J14 ?_
  refine WC.cut (fun x:List Int×Option Addr×Nat×List Ent=>[(4, .slice x.2.1 x.1.length x.2.2.1),(5, .int .i64 (HW m)),(1, .pointer (some ⟨g1,0,none⟩))]) (fun x=>x.2.2.2++[.row g1 m.cells]) (fun x=>x.1=(if HW m=0 then GV m else [])∧BV x.2.1 x.2.2.1 x.1 x.2.2.2) ?_ ?_
  refine J9 ?_
  refine JT (fun h10=>?_) (fun h10=>?_)
  refine J6 ?_
  refine zK ck_44 rfl ?_
  intro w1 hS
  have hc:HW m=HT m:=(by unfold HW;rw [if_pos h10])
  have hd:GV m=Gx m:=(by unfold GV;rw [if_pos h10])
  have hq:(if HT m=0 then Gx m else [])=(if HW m=0 then GV m else []):=(by rw [hc,hd])
  refine (open_c w1 m (hM.st hS) hI).mono ?_
  exact Bo
  refine J6 ?_
  refine JT (fun h17=>?_) (fun h17=>?_)
  refine J6 ?_
  refine zK ck_45 rfl ?_
  intro w1 hS
  have hc:HW m=JC m:=(by unfold HW;rw [if_neg h10,if_pos h17])
  have hd:GV m=OX m:=(by unfold GV;rw [if_neg h10,if_pos h17])
  have hq:(if JC m=0 then OX m else [])=(if HW m=0 then GV m else []):=(by rw [hc,hd])
  refine (Aby w1 m (hM.st hS) hI (hG.FA (fun h=>h) hS) hP hO).mono ?_
  exact Bo
  refine J6 ?_
  refine JT (fun h24=>?_) (fun h24=>?_)
  refine J6 ?_
  refine zK ck_46 rfl ?_
  intro w1 hS
  have hc:HW m=Kb m:=(by unfold HW;rw [if_neg h10,if_neg h17,if_pos h24])
  have hd:GV m=Ph m:=(by unfold GV;rw [if_neg h10,if_neg h17,if_pos h24])
  have hq:(if Kb m=0 then Ph m else [])=(if HW m=0 then GV m else []):=(by rw [hc,hd])
  refine (note_c w1 m).mono ?_
  exact Bo
  refine J6 ?_
  refine JT (fun h31=>?_) (fun h31=>?_)
  refine J6 ?_
  have hc:HW m=0:=(by unfold HW;rw [if_neg h10,if_neg h17,if_neg h24,if_pos h31])
  exact eM ([],none,0,[]) ⟨by dsimp only;rw [hc,if_pos rfl];unfold GV;rw [if_neg h10,if_neg h17,if_neg h24],Vec.nil 1⟩ (.cons rfl (.eq rfl (by rw [hc]) (.cons rfl .nil)))
  refine J8 ?_
  have hc:HW m=12:=(by unfold HW;rw [if_neg h10,if_neg h17,if_neg h24,if_neg h31])
  exact eM ([],none,0,[]) ⟨by dsimp only;rw [hc];rfl,Vec.nil 1⟩ (.cons rfl (.eq rfl (by rw [hc]) (.cons rfl .nil)))
  rintro ⟨xs,ad,c,E⟩ ⟨hx,hV⟩
  dsimp only at hx hV
  dsimp only
  have hlen:xs.length≤4000000000000000000:=(by rw [hx];split <;> first|exact Nat.le_trans (Aai (by assumption)) (by decide)|exact Nat.zero_le _)
  refine J4 ?_
  refine JT (fun h33=>?_) (fun h33=>?_)
  refine J4 ?_
  refine JT (fun h38=>?_) (fun h38=>?_)
  refine J12 ?_
  refine zV ((BY rfl rfl rfl).t (Et)) rfl ?_
  refine J12 ?_
  refine eT2 ?_
  have hc:Gr m=6:=(by
    rw [if_pos h33] at hx
    unfold Gr;rw [if_pos h33,if_pos (by rw [← hx];omega)])
  exact A2
  refine J10 ?_
  refine zV ((BY rfl rfl rfl).f (Er)) rfl ?_
  refine J7 ?_
  rw [if_pos h33] at hx
  have hc:Gr m=0:=(by unfold Gr;rw [if_pos h33,if_neg (by rw [← hx];omega)])
  have hk4:1≤m.kind∧m.kind≤4:=(by
    unfold HW at h33
    by_cases h1:m.kind=1
    · omega
    by_cases h2:m.kind=2
    · omega
    by_cases h3:m.kind=3
    · omega
    by_cases h4:m.kind=4
    · omega
    · rw [if_neg h1,if_neg h2,if_neg h3,if_neg h4] at h33;exact absurd h33 Et)
  refine zB Tryz.underlying25 AO BF rfl rfl ?_
  intro g43 hg43
  refine WL.as (L':=.row g43 [.int .u8 255]::(E++[.row g1 m.cells])) rfl<|zK ck_47 rfl<|?_
  intro w1 hS
  refine (AaJ w1 g43 1 (hS.cell (g:=g43) rfl)).mono ?_
  rintro e w' ⟨gb,cs,rfl,ha,hl,hS'⟩
  refine ⟨_,_,rfl,hS.join hS',?_⟩
  have hbs:∀ (L':List Ent),Ent.row gb cs∈L'→∀ w,St (fun _=>False) w0 w L'→w.rangeAt gb 0 (bcs (fun _=>255) 16):=(fun L' hm w hS j v hj=>by
    have hR:Row w gb cs:=hS.holds _ hm
    rw [← ha.take hl,List.getElem?_take] at hj
    split at hj
    · rw [Nat.zero_add];exact hR.cell hj
    · cases hj)
  refine WL.as (L':=.row gb cs::.row g43 [.int .u8 255]::(E++[.row g1 m.cells])) rfl ?_
  obtain ⟨nn,hnn⟩:∃ nn:Int,nn=((19+xs.length:Nat):Int):=⟨_,rfl⟩
  refine J4 ?_
  refine WC.BB mixed<|rF 6 [0,1,2,3,5]<|?_
  refine J3 ?_
  refine pV (AS rfl rfl rfl (show _=nn from (AF Er Er).trans Er)) rfl ?_
  refine J2 ?_
  refine WR.each (g:=5) [4,6] Es Et ?_
  refine ⟨?_,?_⟩
  refine zK LU rfl ?_
  intro w1 hS
  refine (Ud (fun _=>False) w0 w1 _ gb 0 16 (bcs (fun _=>255) 16) nn (fun w hS=>hbs _ Fw w hS) (Kv _ _) hS Er Er Er).mono ?_
  rintro e w' ⟨ad49,c49,E49,rfl,hV49,hS'⟩
  rw [VN,RK, ← CH] at hV49
  refine ⟨_,_,rfl,hS',?_⟩
  refine J1 ?_
  refine rA 3 [6,7] rfl ?_
  refine J1 ?_
  refine qV (AQ rfl rfl Tryz.underlying5 Tryz.underlying3 (show _=(m.kind) from (HL _).trans Er)) rfl ?_
  refine J1 ?_
  refine rO 1 [8,9]<|zB Tryz.underlying25 AO BF rfl rfl<|?_
  intro g53 hg53
  first|(refine WL.as (L':=.row g53 (u8s [m.kind])::(E49++(.row gb cs::.row g43 [.int .u8 255]::(E++[.row g1 m.cells])))) rfl ?_;refine WL.to (L':=E49++(.row g53 (u8s [m.kind])::.row gb cs::.row g43 [.int .u8 255]::(E++[.row g1 m.cells]))) (fun w hS=>hS.front [_]) ?_)|refine WL.as (L':=.row g53 (u8s [m.kind])::.row gb cs::.row g43 [.int .u8 255]::(E++[.row g1 m.cells])) rfl ?_
  exact Am
  refine J2 ?_
  refine rF 4 [7] ?_
  refine pV (AQ rfl rfl Tryz.underlying5 Tryz.underlying3 (show _=(m.kind) from (HL _).trans Er)) rfl ?_
  refine J1 ?_
  refine WR.each (g:=3) [4,8] Es Et ?_
  refine ⟨?_,?_⟩
  refine zK LU rfl ?_
  intro w1 hS
  refine (Ud (fun _=>False) w0 w1 _ gb 0 16 (bcs (fun _=>255) 16) nn (fun w hS=>hbs _ Fw w hS) (Kv _ _) hS Er Er Er).mono ?_
  rintro e w' ⟨ad49,c49,E49,rfl,hV49,hS'⟩
  rw [VN,RK, ← CH] at hV49
  refine ⟨_,_,rfl,hS',?_⟩
  refine J1 ?_
  refine rO 1 [8,9]<|zB Tryz.underlying25 AO BF rfl rfl<|?_
  intro g53 hg53
  first|(refine WL.as (L':=.row g53 (u8s [m.kind])::(E49++(.row gb cs::.row g43 [.int .u8 255]::(E++[.row g1 m.cells])))) rfl ?_;refine WL.to (L':=E49++(.row g53 (u8s [m.kind])::.row gb cs::.row g43 [.int .u8 255]::(E++[.row g1 m.cells]))) (fun w hS=>hS.front [_]) ?_)|refine WL.as (L':=.row g53 (u8s [m.kind])::.row gb cs::.row g43 [.int .u8 255]::(E++[.row g1 m.cells])) rfl ?_
  exact Am
  refine zB Tryz.underlying25 AO BF rfl rfl ?_
  intro g53 hg53
  first|(refine WL.as (L':=.row g53 (u8s [m.kind])::(E49++(.row gb cs::.row g43 [.int .u8 255]::(E++[.row g1 m.cells])))) rfl ?_;refine WL.to (L':=E49++(.row g53 (u8s [m.kind])::.row gb cs::.row g43 [.int .u8 255]::(E++[.row g1 m.cells]))) (fun w hS=>hS.front [_]) ?_)|refine WL.as (L':=.row g53 (u8s [m.kind])::.row gb cs::.row g43 [.int .u8 255]::(E++[.row g1 m.cells])) rfl ?_
  refine J1 ?_
  refine rO 1 [4,9]<|zK LU rfl<|?_
  intro w1 hS
  refine (Ud (fun _=>False) w0 w1 _ gb 0 16 (bcs (fun _=>255) 16) nn (fun w hS=>hbs _ Fw w hS) (Kv _ _) hS Er Er Er).mono ?_
  rintro e w' ⟨ad49,c49,E49,rfl,hV49,hS'⟩
  rw [VN,RK, ← CH] at hV49
  refine ⟨_,_,rfl,hS',?_⟩
  exact Am
  refine J15 ?_
  refine zV ((BY rfl rfl rfl).t (Er)) rfl ?_
  refine J12 ?_
  refine eT2 ?_
  have hc:Gr m=HW m:=(by unfold Gr;rw [if_neg h33])
  exact fun w' h=>KZ.bad hc h33 h
theorem S1 (w0:World) (m:MsL) (hM:m.At w0) (hI:m.In) (hG:GF w0) (hP:m.atr.path.length≤1000) (hO:m.atr.others.length≤90):Calls Tryz.prog 10 #[.agg m.cells.toArray] w0 fun e w'=>KZ w0 w' (Gr m) (DG m) e :=
  Enc_g w0 m hM hI hG Er Er
end Gq
end Go.Proofs.YtcmpamnhegndnaaGreatDoor
