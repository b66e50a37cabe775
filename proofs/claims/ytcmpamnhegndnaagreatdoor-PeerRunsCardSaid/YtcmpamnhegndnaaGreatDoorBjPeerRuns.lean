/- Texts joined: engine, contracts and laws, in the order in which they build. -/
import Derived.Test.YtcmpamnhegndnaaGreatDoorBiPeerRuns
namespace Go.Proofs.YtcmpamnhegndnaaGreatDoor
open Go.RowKit

theorem Ql {fl t:Int}{v:List Int}(hf:0≤fl∧fl≤224∧fl % 32=0) (ht:0≤t∧t≤255) (hv:255<v.length):FG fl t v=(fl+16)::t::((v.length:Int) / 256 % 256)::((v.length:Int) % 256)::v:=by
  unfold FG
  rw [if_pos hv,M9,M9,SM,show (fl+16) % 256=fl+16 by omega,show t % 256=t by omega]
  rfl
theorem Pp {fl t:Int}{v:List Int}(hf:0≤fl∧fl≤224∧fl % 32=0) (ht:0≤t∧t≤255) (hv:¬ 255<v.length):FG fl t v=fl::t::(v.length:Int)::v:=by
  unfold FG
  rw [if_neg hv,M9,M9,M9,show fl % 256=fl by omega,show t % 256=t by omega,show (v.length:Int) % 256=v.length by omega]
  rfl
theorem WG {fl t:Int}{v:List Int}(rest:List Int) (hf:0≤fl∧fl≤224∧fl % 32=0) (ht:0≤t∧t≤255) (hv:v.length≤65535) :
    fOf (FG fl t v++rest) 1=t∧BC (FG fl t v++rest)≤(FG fl t v).length∧toN (FG fl t v++rest)=(FG fl t v).length∧(FG fl t v).drop (BC (FG fl t v++rest))=v∧0<(FG fl t v).length:=by
  by_cases h:255<v.length
  · have e:=Ql hf ht h
    rw [e]
    have ef:BC ((fl+16)::t::((v.length:Int) / 256 % 256)::((v.length:Int) % 256)::v++rest)=4:=by
      unfold BC
      exact if_pos (by show (fl+16) / 16 % 2=1;omega)
    have et:toN ((fl+16)::t::((v.length:Int) / 256 % 256)::((v.length:Int) % 256)::v++rest)=v.length+4:=by
      unfold toN
      rw [ef]
      show 4+((0*256+(v.length:Int) / 256 % 256)*256+(v.length:Int) % 256).toNat=_
      omega
    exact ⟨rfl,by rw [ef];simp,by rw [et];rfl,by rw [ef];rfl,by simp⟩
  · have e:=Pp hf ht h
    rw [e]
    have ef:BC (fl::t::(v.length:Int)::v++rest)=3:=by
      unfold BC
      exact if_neg (by show ¬ fl / 16 % 2=1;omega)
    have et:toN (fl::t::(v.length:Int)::v++rest)=v.length+3:=by
      unfold toN
      rw [ef]
      show 3+(0*256+(v.length:Int)).toNat=_
      omega
    exact ⟨rfl,by rw [ef];simp,by rw [et];rfl,by rw [ef];rfl,by simp⟩
theorem R6 {fl t:Int}{v:List Int}(hf:0≤fl∧fl≤224∧fl % 32=0) (ht:0≤t∧t≤255):(fOf (FG fl t v) 0=fl∨fOf (FG fl t v) 0=fl+16)∧fOf (FG fl t v) 1=t:=by
  by_cases h:255<v.length
  · rw [Ql hf ht h];exact ⟨.inr rfl,rfl⟩
  · rw [Pp hf ht h];exact ⟨.inl rfl,rfl⟩
theorem R0 {d:AtD}{seen:List Int}{fl t:Int}{v:List Int}(rest:List Int) (hf:0≤fl∧fl≤224∧fl % 32=0) (ht:0≤t∧t≤255) (hv:v.length≤65535) (hs:t ∉ seen){d':AtD}(hd:DP d (FG fl t v) v = .inl d') :
    ED d seen (FG fl t v++rest)=ED d' (t::seen) rest:=by
  obtain ⟨h1,h2,h3,h4,h5⟩:=WG rest hf ht hv
  rw [Ij Ft (by
    rw [h1,h3,List.length_append]
    rintro (h|h|h)
    · omega
    · omega
    · exact hs h),h3,List.take_left,h4,hd,h1,List.drop_left]
theorem HF {d d':AtD}{t:Nat}{v:List Int}(h1:1≤t) (h8:t≤8) (hsz:0≤Ho t→(v.length:Int)=Ho t) (hc:t=8→v.length % 4=0∧v.length / 4≤256) (hd:L6 d t v=some d')
    (g2:t=2→(d'.path.all fun p=>Ji ⟨p.1,none,0,p.2⟩)=true) (g1:t=1→wiB d'.origin 2=true) (g3:t=3→Kq d'.hop=true):DP d (FG (DK t) t v) v = .inl { d' with has:=d'.has+2 ^ t }:=by
  have hfl:0≤DK t∧DK t≤224∧DK t % 32=0∧DK t % 64=0:=by
    have:t=1∨t=2∨t=3∨t=4∨t=5∨t=6∨t=7∨t=8:=by omega
    rcases this with rfl|rfl|rfl|rfl|rfl|rfl|rfl|rfl <;> decide
  obtain ⟨p1,p2⟩:=R6 (fl:=DK t) (t:=(t:Int)) (v:=v) ⟨hfl.1,hfl.2.1,hfl.2.2.1⟩ Er
  unfold DP
  rw [p2,if_pos Er]
  unfold CL
  rw [p2,Int.toNat_natCast,if_neg (by
    rcases p1 with p1|p1 <;> rw [p1] <;> omega),if_neg (by
    rintro (⟨h,h'⟩|⟨h,h'⟩)
    · exact h' (hsz h)
    · exact h' (hc Er).1),if_neg (by
    rintro ⟨h,h'⟩
    have:=(hc Er).2
    omega),hd]
  show (if _ then _ else _)=_
  rw [if_neg (by rintro ⟨h,h'⟩;rw [g2 (by omega)] at h';cases h'),if_neg (by rintro ⟨h,h'⟩;rw [g1 (by omega)] at h';cases h'),if_neg (by rintro ⟨h,h'⟩;rw [g3 (by omega)] at h';cases h')]
def dUp (a:AtL) (k:Nat):AtD :=
  ⟨a.has % 2 ^ (k+1),if 1≤k then a.origin else 0,if 2≤k then a.path.map Ik else [],if 3≤k then a.hop else 0,if 4≤k then a.med else 0,if 5≤k then a.loc else 0,if 7≤k then a.aas else 0,if 7≤k then a.aid else 0,if 8≤k then a.comms else [],[]⟩
theorem AtD.ext' {d e:AtD}(h1:d.has=e.has) (h2:d.origin=e.origin) (h3:d.path=e.path) (h4:d.hop=e.hop) (h5:d.med=e.med) (h6:d.loc=e.loc) (h7:d.aas=e.aas) (h8:d.aid=e.aid) (h9:d.comms=e.comms) (h10:d.others=e.others):d=e:=by
  cases d;cases e;dsimp only at *;subst h1 h2 h3 h4 h5 h6 h7 h8 h9 h10;rfl
theorem OM {h:Int}{k:Nat}(h1:1≤k) (h8:k≤8):hasB h k=true↔h / 2 ^ k % 2=1:=by
  unfold hasB
  exact ⟨fun e=>(of_decide_eq_true e).2.2,fun e=>decide_eq_true ⟨h1,h8,e⟩⟩
theorem dUp_no {a:AtL}{t:Nat}(h1:1≤t) (h8:t≤8) (hh:hasB a.has t=false) (hz:IX a t=true):dUp a (t-1)=dUp a t:=by
  have hb:¬ a.has / 2 ^ t % 2=1:=fun e=>by rw [(OM h1 h8).2 e] at hh;cases hh
  have:t=1∨t=2∨t=3∨t=4∨t=5∨t=6∨t=7∨t=8:=by omega
  unfold IX at hz
  rcases this with rfl|rfl|rfl|rfl|rfl|rfl|rfl|rfl
  · have hz2:a.origin=0:=of_decide_eq_true hz
    exact AtD.ext' (by show a.has % 2=a.has % 4;omega) hz2.symm rfl rfl rfl rfl rfl rfl rfl rfl
  · have hz2:(a.path.length:Int)=0:=of_decide_eq_true hz
    have:a.path=[]:=List.length_eq_zero_iff.1 Er
    exact AtD.ext' (by show a.has % 4=a.has % 8;omega) rfl (by show []=a.path.map Ik;rw [this];rfl) rfl rfl rfl rfl rfl rfl rfl
  · have hz2:a.hop=0:=of_decide_eq_true hz
    exact AtD.ext' (by show a.has % 8=a.has % 16;omega) rfl rfl hz2.symm rfl rfl rfl rfl rfl rfl
  · have hz2:a.med=0:=of_decide_eq_true hz
    exact AtD.ext' (by show a.has % 16=a.has % 32;omega) rfl rfl rfl hz2.symm rfl rfl rfl rfl rfl
  · have hz2:a.loc=0:=of_decide_eq_true hz
    exact AtD.ext' (by show a.has % 32=a.has % 64;omega) rfl rfl rfl rfl hz2.symm rfl rfl rfl rfl
  · exact AtD.ext' (by show a.has % 64=a.has % 128;omega) rfl rfl rfl rfl rfl rfl rfl rfl rfl
  · have hz2:a.aas=0∧a.aid=0:=of_decide_eq_true hz
    exact AtD.ext' (by show a.has % 128=a.has % 256;omega) rfl rfl rfl rfl rfl hz2.1.symm hz2.2.symm rfl rfl
  · have hz2:(a.comms.length:Int)=0:=of_decide_eq_true hz
    have:a.comms=[]:=List.length_eq_zero_iff.1 Er
    exact AtD.ext' (by show a.has % 256=a.has % 512;omega) rfl rfl rfl rfl rfl rfl rfl (by show []=a.comms;rw [this]) rfl
theorem Mv {n m:Int}(h:wiB n m=true):0≤n∧n≤m:=of_decide_eq_true h
theorem Ym (ss:List DO):((ss.map Ik).all fun p=>Ji ⟨p.1,none,0,p.2⟩)=ss.all Ji:=by rw [List.all_map];rfl
theorem Acj {a:AtL}{t:Nat}(h1:1≤t) (h8:t≤8) (hh:hasB a.has t=true) (hg:IF a t=true) (hU:U32 a.hop∧U32 a.aid):DP (dUp a (t-1)) (FG (DK t) t (GU a t)) (GU a t) = .inl (dUp a t):=by
  have hb:=(OM h1 h8).1 hh
  have:t=1∨t=2∨t=3∨t=4∨t=5∨t=6∨t=7∨t=8:=by omega
  unfold IF at hg
  rcases this with rfl|rfl|rfl|rfl|rfl|rfl|rfl|rfl
  · have g:=Mv hg
    have ev:GU a 1=BM a.origin 1:=rfl
    rw [ev,HF (d:=dUp a 0) (d':={ dUp a 0 with origin:=AJ (BM a.origin 1) }) Er Er (fun _=>by rw [AW];rfl) (fun h=>by omega) rfl (fun h=>by omega) (fun _=>by rw [show AJ (BM a.origin 1)=a.origin from read1 Er];exact hg) (fun h=>by omega)]
    exact congrArg Sum.inl (AtD.ext' (by show a.has % 2+2=a.has % 4;omega) (read1 Er) rfl rfl rfl rfl rfl rfl rfl rfl)
  · have ev:GU a 2=a.path.flatMap Mq:=rfl
    have hs:L6 (dUp a 1) 2 (a.path.flatMap Mq)=some { dUp a 1 with path:=a.path.map Ik }:=by
      show (DN (a.path.flatMap Mq)).map _=_
      rw [OU a.path hg];rfl
    rw [ev,HF (d:=dUp a 1) Er Er (fun h=>absurd h Et) (fun h=>by omega) hs (fun _=>(Ym a.path).trans hg) (fun h=>by omega) (fun h=>by omega)]
    exact congrArg Sum.inl (AtD.ext' (by show a.has % 4+4=a.has % 8;omega) rfl rfl rfl rfl rfl rfl rfl rfl rfl)
  · have ev:GU a 3=BM a.hop 4:=rfl
    have r:=SL (a:=a.hop) hU.1
    rw [ev,HF (d:=dUp a 2) (d':={ dUp a 2 with hop:=AJ (BM a.hop 4) }) Er Er (fun _=>by rw [AW];rfl) (fun h=>by omega) rfl (fun h=>by omega) (fun h=>by omega) (fun _=>by rw [show AJ (BM a.hop 4)=a.hop from r];exact hg)]
    exact congrArg Sum.inl (AtD.ext' (by show a.has % 8+8=a.has % 16;omega) rfl rfl r rfl rfl rfl rfl rfl rfl)
  · have g:=Mv hg
    have ev:GU a 4=BM a.med 4:=rfl
    rw [ev,HF (d:=dUp a 3) (d':={ dUp a 3 with med:=AJ (BM a.med 4) }) Er Er (fun _=>by rw [AW];rfl) (fun h=>by omega) rfl (fun h=>by omega) (fun h=>by omega) (fun h=>by omega)]
    exact congrArg Sum.inl (AtD.ext' (by show a.has % 16+16=a.has % 32;omega) rfl rfl rfl (SL Er) rfl rfl rfl rfl rfl)
  · have g:=Mv hg
    have ev:GU a 5=BM a.loc 4:=rfl
    rw [ev,HF (d:=dUp a 4) (d':={ dUp a 4 with loc:=AJ (BM a.loc 4) }) Er Er (fun _=>by rw [AW];rfl) (fun h=>by omega) rfl (fun h=>by omega) (fun h=>by omega) (fun h=>by omega)]
    exact congrArg Sum.inl (AtD.ext' (by show a.has % 32+32=a.has % 64;omega) rfl rfl rfl rfl (SL Er) rfl rfl rfl rfl)
  · have ev:GU a 6=[]:=rfl
    rw [ev,HF (d:=dUp a 5) (d':=dUp a 5) Er Er (fun _=>rfl) (fun h=>by omega) rfl (fun h=>by omega) (fun h=>by omega) (fun h=>by omega)]
    exact congrArg Sum.inl (AtD.ext' (by show a.has % 64+64=a.has % 128;omega) rfl rfl rfl rfl rfl rfl rfl rfl rfl)
  · have g:=Mv hg
    have ev:GU a 7=BM a.aas 2++BM a.aid 4:=rfl
    have e1:(BM a.aas 2++BM a.aid 4).take 2=BM a.aas 2:=List.take_left' (AW _ _)
    have e2:(BM a.aas 2++BM a.aid 4).drop 2=BM a.aid 4:=List.drop_left' (AW _ _)
    have hs:L6 (dUp a 6) 7 (BM a.aas 2++BM a.aid 4)=some { dUp a 6 with aas:=a.aas,aid:=a.aid }:=by
      show some { dUp a 6 with aas:=AJ ((BM a.aas 2++BM a.aid 4).take 2),aid:=AJ ((BM a.aas 2++BM a.aid 4).drop 2) }=_
      rw [e1,e2,read2 Er,SL hU.2]
    rw [ev,HF (d:=dUp a 6) Er Er (fun _=>by rw [List.length_append,AW,AW];rfl) (fun h=>by omega) hs (fun h=>by omega) (fun h=>by omega) (fun h=>by omega)]
    exact congrArg Sum.inl (AtD.ext' (by show a.has % 128+128=a.has % 256;omega) rfl rfl rfl rfl rfl rfl rfl rfl rfl)
  · have ev:GU a 8=a.comms.flatMap fun x=>BM x 4:=rfl
    have hl:(a.comms.flatMap fun x=>BM x 4).length=4*a.comms.length:=Lv _ _
    obtain ⟨c1,c2⟩:(∀ c∈a.comms,0≤c∧c≤4294967295)∧a.comms.length≤256:=by
      have hg2:Jd a.comms=true:=hg
      unfold Jd at hg2
      rw [Bool.and_eq_true] at hg2
      exact ⟨fun c hc=>Mv (List.all_eq_true.1 hg2.1 c hc),of_decide_eq_true hg2.2⟩
    have hs:L6 (dUp a 7) 8 (a.comms.flatMap fun x=>BM x 4)=some { dUp a 7 with comms:=a.comms }:=by
      show some { dUp a 7 with comms:=(dUp a 7).comms++FD (a.comms.flatMap fun x=>BM x 4) }=_
      rw [Pq a.comms c1]
      rfl
    rw [ev,HF (d:=dUp a 7) Er Er (fun h=>absurd h Et) (fun h=>by omega) hs (fun h=>by omega) (fun h=>by omega) (fun h=>by omega)]
    exact congrArg Sum.inl (AtD.ext' (by show a.has % 256+256=a.has % 512;omega) rfl rfl rfl rfl rfl rfl rfl rfl rfl)

theorem Hd {a:AtL}{t:Nat}(h1:1≤t) (h8:t≤8) (he:KU a t=true) (hU:U32 a.hop∧U32 a.aid) (hl:(BG a t).length≤60000) (seen rest:List Int) (hs:∀ x∈seen,x<(t:Int)) :
    ∃ seen',(∀ x∈seen',x<((t+1:Nat):Int))∧ED (dUp a (t-1)) seen (BG a t++rest)=ED (dUp a t) seen' rest:=by
  unfold KU at he
  cases hh:hasB a.has t with
  | false =>
    rw [hh] at he
    have e:BG a t=[]:=by unfold BG;rw [hh];rfl
    refine ⟨seen,fun x hx=>by have:=hs x hx;omega,?_⟩
    rw [e,List.nil_append,dUp_no h1 h8 hh he]
  | true =>
    rw [hh] at he
    have e:BG a t=FG (DK t) t (GU a t):=by unfold BG;rw [hh];rfl
    rw [e,K3] at hl
    have hfl:0≤DK t∧DK t≤224∧DK t % 32=0:=by
      have:t=1∨t=2∨t=3∨t=4∨t=5∨t=6∨t=7∨t=8:=by omega
      rcases this with rfl|rfl|rfl|rfl|rfl|rfl|rfl|rfl <;> decide
    refine ⟨(t:Int)::seen,fun x hx=>?_,?_⟩
    · rcases List.mem_cons.1 hx with rfl|hx
      · omega
      · have:=hs x hx;omega
    · rw [e]
      exact R0 rest hfl Er Er (fun hm=>by have:=hs _ hm;omega) (Acj h1 h8 hh he hU)
theorem P6:∀ (os:List CB) (last:Int) (d:AtD) (seen:List Int),MA last os=true→8≤last→(∀ x∈seen,x≤last)→(∀ o∈os,o.val.length≤60000) →
    ED d seen (os.flatMap fun o=>FG 224 o.ty o.val) = .inl { d with others:=d.others++os.map LP }
  | [],_,d,seen,_,_,_,_=>by rw [List.flatMap_nil,Kg,List.map_nil,List.append_nil]
  | o::os,last,d,seen,h,h8,hs,hv=>by
    unfold MA at h
    rw [Bool.and_eq_true] at h
    have h1:=of_decide_eq_true h.1
    obtain ⟨p1,p2⟩:=R6 (fl:=224) (t:=o.ty) (v:=o.val) Et Er
    have hd:DP d (FG 224 o.ty o.val) o.val = .inl { d with others:=d.others++[(o.ty,o.val)] }:=by
      unfold DP
      rw [p2,if_neg Er]
      unfold DY
      rw [p2,if_neg (by rcases p1 with p1|p1 <;> rw [p1] <;> decide),if_pos ⟨by rcases p1 with p1|p1 <;> rw [p1] <;> decide,by omega⟩]
    rw [List.flatMap_cons,R0 _ Et Er (by have:=hv o (List.mem_cons_self ..);omega) (fun hm=>by have:=hs _ hm;omega) hd]
    rw [P6 os o.ty _ _ h.2 Er (fun x hx=>by
      rcases List.mem_cons.1 hx with rfl|hx
      · omega
      · have:=hs x hx;omega) fun p hp=>hv p (List.mem_cons_of_mem _ hp)]
    show Sum.inl _=Sum.inl _
    congr 1
    exact AtD.ext' rfl rfl rfl rfl rfl rfl rfl rfl rfl (by show d.others++[(o.ty,o.val)]++os.map LP=d.others++(LP o::os.map LP);rw [List.append_assoc];rfl)
theorem Ob:∀ (os:List CB) (last:Int),MA last os=true→(os.map LP).Pairwise (fun x y=>x.1<y.1)∧∀ o∈os,last<o.ty
  | [],_,_=>⟨.nil,fun _ h=>by cases h⟩
  | o::os,last,h=>by
    unfold MA at h
    rw [Bool.and_eq_true] at h
    have h1:=of_decide_eq_true h.1
    obtain ⟨i1,i2⟩:=Ob os o.ty h.2
    refine ⟨List.pairwise_cons.2 ⟨fun x hx=>?_,i1⟩,fun p hp=>?_⟩
    · obtain ⟨p,hp,rfl⟩:=List.mem_map.1 hx
      exact i2 p hp
    · rcases List.mem_cons.1 hp with rfl|hp
      · exact h1.1
      · have:=i2 p hp;omega
theorem O3:∀ {l:List (Int×List Int)},l.Pairwise (fun x y=>x.1<y.1)→(l.map (·.1)).Nodup
  | [],_=>List.nodup_nil
  | x::l,h=>by
    rw [List.pairwise_cons] at h
    rw [List.map_cons,List.nodup_cons]
    refine ⟨fun hm=>?_,O3 h.2⟩
    obtain ⟨y,hy,e⟩:=List.mem_map.1 hm
    have:=h.1 y hy
    omega
theorem Xt {os:List CB}{last:Int}(h:MA last os=true):DM (os.map LP)=os.map LP:=by
  obtain ⟨h1,_⟩:=Ob os last h
  exact (PU (.refl _) (O3 h1) (h1.imp fun h=>by omega)).symm
theorem Wt {a:AtL}(hc:Mk a=true) (hU:U32 a.hop∧U32 a.aid) (hl:(Hn a).length≤60000) (hv:∀ o∈a.others,o.val.length≤60000):ED AtL.zero.d [] (Hn a) = .inl a.d:=by
  unfold Mk at hc
  rw [Bool.and_eq_true,Bool.and_eq_true] at hc
  obtain ⟨⟨k1,k2⟩,k3⟩:=hc
  have hk:=of_decide_eq_true k1
  have each:∀ t,1≤t→t≤8→KU a t=true:=fun t h1 h8=>List.all_eq_true.1 k2 t (by rw [List.mem_range'_1];omega)
  have eb:Hn a=BG a 1++(BG a 2++(BG a 3++(BG a 4++(BG a 5++(BG a 6++(BG a 7++(BG a 8++a.others.flatMap fun o=>FG 224 o.ty o.val))))))):=by
    unfold Hn
    show (BG a 1++(BG a 2++(BG a 3++(BG a 4++(BG a 5++(BG a 6++(BG a 7++(BG a 8++[]))))))))++_=_
    simp only [List.append_assoc,List.nil_append]
  rw [eb] at hl ⊢
  simp only [List.length_append] at hl
  have ez:AtL.zero.d=dUp a 0:=(AtD.ext' (by show 0=a.has % 2;omega) rfl rfl rfl rfl rfl rfl rfl rfl rfl)
  obtain ⟨s1,q1,e1⟩:=Hd (t:=1) Er Er (each 1 Er Er) hU Er [] (BG a 2++(BG a 3++(BG a 4++(BG a 5++(BG a 6++(BG a 7++(BG a 8++a.others.flatMap fun o=>FG 224 o.ty o.val))))))) (fun _ h=>by cases h)
  obtain ⟨s2,q2,e2⟩:=Hd (t:=2) Er Er (each 2 Er Er) hU Er s1 (BG a 3++(BG a 4++(BG a 5++(BG a 6++(BG a 7++(BG a 8++a.others.flatMap fun o=>FG 224 o.ty o.val)))))) q1
  obtain ⟨s3,q3,e3⟩:=Hd (t:=3) Er Er (each 3 Er Er) hU Er s2 (BG a 4++(BG a 5++(BG a 6++(BG a 7++(BG a 8++a.others.flatMap fun o=>FG 224 o.ty o.val))))) q2
  obtain ⟨s4,q4,e4⟩:=Hd (t:=4) Er Er (each 4 Er Er) hU Er s3 (BG a 5++(BG a 6++(BG a 7++(BG a 8++a.others.flatMap fun o=>FG 224 o.ty o.val)))) q3
  obtain ⟨s5,q5,e5⟩:=Hd (t:=5) Er Er (each 5 Er Er) hU Er s4 (BG a 6++(BG a 7++(BG a 8++a.others.flatMap fun o=>FG 224 o.ty o.val))) q4
  obtain ⟨s6,q6,e6⟩:=Hd (t:=6) Er Er (each 6 Er Er) hU Er s5 (BG a 7++(BG a 8++a.others.flatMap fun o=>FG 224 o.ty o.val)) q5
  obtain ⟨s7,q7,e7⟩:=Hd (t:=7) Er Er (each 7 Er Er) hU Er s6 (BG a 8++a.others.flatMap fun o=>FG 224 o.ty o.val) q6
  obtain ⟨s8,q8,e8⟩:=Hd (t:=8) Er Er (each 8 Er Er) hU Er s7 (a.others.flatMap fun o=>FG 224 o.ty o.val) q7
  have e9:=P6 a.others 8 (dUp a 8) s8 k3 Er (fun x hx=>by have:=q8 x hx;omega) hv
  rw [ez]
  refine e1.trans (e2.trans (e3.trans (e4.trans (e5.trans (e6.trans (e7.trans (e8.trans (e9.trans ?_))))))))
  exact congrArg Sum.inl (AtD.ext' (by show a.has % 512=a.has;omega) rfl rfl rfl rfl rfl rfl rfl rfl (List.nil_append _))

theorem PB:∀ (cs:List BU) (acc:List (Int×List Int)),cs.all RZ=true→H9 acc (EZ cs)=some (acc++cs.map NK)
  | [],acc,_=>by unfold EZ;rw [List.flatMap_nil,Nh,List.map_nil,List.append_nil]
  | c::cs,acc,h=>by
    rw [List.all_cons,Bool.and_eq_true] at h
    have hc:=of_decide_eq_true h.1
    have e:EZ (c::cs)=c.code::(c.val.length:Int)::(c.val++EZ cs):=by
      unfold EZ capE
      rw [List.flatMap_cons,show c.code % 256=c.code by omega,show (c.val.length:Int) % 256=c.val.length by omega]
      simp
    rw [e,KD,Int.toNat_natCast,if_neg Ft,List.take_left,List.drop_left,PB cs _ h.2,List.map_cons,List.append_assoc]
    rfl
theorem XS {cs:List BU}(h:(EZ cs).length=0):cs=[]:=by
  cases cs with
  | nil=>rfl
  | cons c cs=>unfold EZ capE at h;rw [List.flatMap_cons] at h;simp at h
theorem Va {m:MsL}(h:HT m=0) (hU:U32 m.id):DR (Gx m) = .inl (m.CS.map NK)∧NJ (Gx m)=m.asn∧GH (Gx m)=m.hold∧idB (Gx m)=m.id∧10≤(Gx m).length:=by
  unfold HT at h
  split at h
  · cases h
  rename_i hb
  split at h
  · rename_i hk
    split at h
    · cases h
    rename_i hl
    have hb2:UK m=false:=by cases hq:UK m with|false=>rfl|true=>exact absurd hq hb
    have hd:=of_decide_eq_false hb2
    have ha:FH m.id 4=[m.id / 16777216 % 256,m.id / 65536 % 256,m.id / 256 % 256,m.id % 256]:=by unfold FH;rw [Sw];rfl
    have e:∃ tl,Gx m=4::(m.asn / 256 % 256)::(m.asn % 256)::(m.hold / 256 % 256)::(m.hold % 256)::(m.id / 16777216 % 256)::(m.id / 65536 % 256)::(m.id / 256 % 256)::(m.id % 256)::tl∧tl=if (EZ m.CS).length=0 then [0] else [(2+((EZ m.CS).length:Int)) % 256,2,((EZ m.CS).length:Int) % 256]++EZ m.CS:=by
      refine ⟨_,?_,rfl⟩
      unfold Gx
      rw [SM,SM,ha]
      rfl
    obtain ⟨tl,e1,e2⟩:=e
    have f0:fOf (Gx m) 0=4:=by rw [e1];rfl
    have f1:NJ (Gx m)=m.asn:=by rw [e1];show m.asn / 256 % 256*256+m.asn % 256=_;omega
    have f2:GH (Gx m)=m.hold:=by rw [e1];show m.hold / 256 % 256*256+m.hold % 256=_;omega
    have f3:idB (Gx m)=m.id:=by
      rw [e1]
      show m.id / 16777216 % 256*16777216+m.id / 65536 % 256*65536+m.id / 256 % 256*256+m.id % 256=_
      unfold U32 at hU
      omega
    by_cases hz:(EZ m.CS).length=0
    · rw [if_pos hz] at e2
      have hcn:=XS hz
      subst e2
      refine ⟨?_,f1,f2,f3,by rw [e1];simp⟩
      have f9:fOf (Gx m) 9=0:=by rw [e1];rfl
      have fd:(Gx m).drop 10=[]:=by rw [e1];rfl
      unfold DR
      rw [f0,f1,f2,f3,f9,fd,if_neg Et,if_neg Er,if_neg Er,if_neg Er,if_neg Et,Lx,hcn]
      rfl
    · rw [if_neg hz] at e2
      subst e2
      refine ⟨?_,f1,f2,f3,by rw [e1];simp⟩
      have f9:fOf (Gx m) 9=2+((EZ m.CS).length:Int):=by rw [e1];show (2+((EZ m.CS).length:Int)) % 256=_;omega
      have fd:(Gx m).drop 10=2::((EZ m.CS).length:Int)::EZ m.CS:=by
        rw [e1]
        show 2::(((EZ m.CS).length:Int) % 256)::EZ m.CS=_
        rw [show ((EZ m.CS).length:Int) % 256=(EZ m.CS).length by omega]
      unfold DR
      rw [f0,f1,f2,f3,f9,fd,if_neg Et,if_neg Er,if_neg Er,if_neg Er,if_neg (by simp only [List.length_cons];omega),Je,Int.toNat_natCast,if_neg Er,if_neg Et,List.take_length,PB _ _ hk,List.drop_length]
      dsimp only
      rw [Lx]
      rfl
  · cases h
theorem Acq {p:PfL}(h:Kr p=true):WU p=p.len::FH p.addr (CR p.len):=by
  have hl:=Lr h
  show BM p.len 1++FH p.addr ((p.len.toNat+7) / 8)=_
  rw [M9,show p.len % 256=p.len by omega]
  rfl
theorem YI {p:PfL}(h:Kr p=true) (hU:U32 p.addr):EK (GC (FH p.addr (CR p.len))) p.len=p.addr∧inI p.len=p.len:=by
  have hl:=Lr h
  have hd:=of_decide_eq_true h
  refine ⟨?_,hd.2.symm⟩
  obtain ⟨k,hk⟩:=Int.eq_ofNat_of_zero_le hl.1
  have hn:CR p.len=(k+7) / 8:=by unfold CR;rw [hk,Int.toNat_natCast]
  have hc:=hd.1
  rw [hn,hk]
  rw [hk] at hc
  by_cases h0:k=0
  · subst h0
    have e1:EK p.addr ((0:Nat):Int)=p.addr-p.addr % 4294967296:=rfl
    rw [e1] at hc
    unfold U32 at hU
    have h3:p.addr=0:=Er
    rw [h3]
    rfl
  · have hj:=(netJ k Er Er p.addr 0 hU hc ⟨by omega,Int.pow_pos Et⟩).2
    rw [Int.add_zero] at hj
    have hs:(FH p.addr ((k+7) / 8)).set ((k+7) / 8-1) (fOf (FH p.addr ((k+7) / 8)) ((k+7) / 8-1))=FH p.addr ((k+7) / 8):=by
      have hlen:=IU p.addr (show (k+7) / 8≤4 by omega)
      apply List.ext_getElem?
      intro i
      rw [List.getElem?_set]
      split
      · rename_i hi
        split
        · rw [← hi,BJ Er]
        · rename_i h2
          rw [List.getElem?_eq_none Er]
      · rfl
    rw [hs] at hj
    exact hj
theorem Mg:∀ (ps:List PfL),ps.all Kr=true→(∀ p∈ps,U32 p.addr)→DS (He ps)=some ps
  | [],_,_=>by unfold He;rw [List.flatMap_nil,DS]
  | p::ps,h,hU=>by
    rw [List.all_cons,Bool.and_eq_true] at h
    have hl:=Lr h.1
    have hn:CR p.len≤4:=by unfold CR;omega
    obtain ⟨c1,c2⟩:=YI h.1 (hU p (List.mem_cons_self ..))
    have hal:=IU p.addr hn
    have e:He (p::ps)=p.len::(FH p.addr (CR p.len)++He ps):=by
      unfold He
      rw [List.flatMap_cons,Acq h.1]
      rfl
    rw [e,Kw,if_neg Ft,List.take_left' hal,List.drop_left' hal,Mg ps h.2 fun q hq=>hU q (List.mem_cons_of_mem _ hq),c1,c2]
    rfl
theorem NU (xs rest:List Int) (h:xs.length≤65535):FJ (BM xs.length 2++(xs++rest))=some (xs,rest):=by
  have e:BM (xs.length:Int) 2++(xs++rest)=((xs.length:Int) / 256 % 256)::((xs.length:Int) % 256)::(xs++rest):=by rw [SM];rfl
  have f:fOf (BM (xs.length:Int) 2++(xs++rest)) 0*256+fOf (BM (xs.length:Int) 2++(xs++rest)) 1=(xs.length:Int):=by
    rw [e];show (xs.length:Int) / 256 % 256*256+(xs.length:Int) % 256=_;omega
  unfold FJ
  rw [f,Int.toNat_natCast,if_neg (by rw [List.length_append,List.length_append,AW];omega)]
  congr 2
  · rw [List.drop_left' (AW _ _),List.take_left]
  · rw [← List.drop_drop,List.drop_left' (AW _ _),List.drop_left]
theorem Ab8 {a:AtL}(h:Lj a=0):Mk a=true∧(Hn a).length≤4096∧∀ o∈a.others,o.val.length≤4096:=by
  unfold Lj at h
  split at h
  · rename_i hc
    split at h
    · cases h
    · rename_i hb
      simp only [Bool.or_eq_true,decide_eq_true_eq,List.any_eq_true,not_or,not_exists,not_and] at hb
      exact ⟨hc,by omega,fun o ho=>by have:=hb.1 o ho;omega⟩
  · cases h
theorem XW {m:MsL}(h:JC m=0) (hI:m.In):HM (OX m) = .inl (m.gone,m.atr.d,m.nets):=by
  unfold JC at h
  split at h
  · cases h
  rename_i hn
  split at h
  · cases h
  rename_i hb
  have hb2:Mj m=false:=by cases hq:Mj m with|false=>rfl|true=>exact absurd hq hb
  unfold Mj at hb2
  simp only [Bool.or_eq_false_iff,Bool.not_eq_false',decide_eq_false_iff_not] at hb2
  obtain ⟨⟨g1,g2⟩,g3⟩:=hb2
  obtain ⟨c1,c2,c3⟩:=Ab8 h
  have l1:=JS g1
  have hat:=Wt c1 ⟨hI.at_.hop,hI.at_.aid⟩ Er (fun o ho=>by have:=c3 o ho;omega)
  have k3:MA 8 m.atr.others=true:=by unfold Mk at c1;rw [Bool.and_eq_true] at c1;exact c1.2
  have e:OX m=BM (He m.gone).length 2++(He m.gone++(BM (Hn m.atr).length 2++(Hn m.atr++He m.nets))):=by
    unfold OX;simp only [List.append_assoc]
  unfold HM
  rw [e,NU _ _ Er]
  dsimp only
  rw [NU _ _ Er]
  dsimp only
  rw [Mg _ g1 fun p hp=>(hI.gone p hp).1]
  dsimp only
  rw [hat]
  dsimp only
  rw [Mg _ g2 fun p hp=>(hI.nets p hp).1]
  dsimp only
  rw [if_neg Er,if_neg (fun q=>g3 ⟨q.2,q.1⟩)]
  have es:DM m.atr.d.others=m.atr.d.others:=Xt k3
  rw [es]
section Gq
attribute [local irreducible] WL WC WE WQ WP WH WR WM WRH

theorem szOf (k:Int) (body more:List Int) (hk:1≤k∧k≤4) (hl:19+body.length≤4096) (hle:BI k≤19+body.length) (h4:k=4→body=[]):BX (HS k body++more).length (fOf (HS k body++more))=(((19+body.length:Nat):Int),0,0,⟨#[]⟩):=by
  have hml:=NF k body
  have hh:=RP (zs:=HS k body++more) (L:=19+body.length) (k:=k) (fun i hi=>by rw [List.getElem?_append_left Er];exact Mm hi) Er
  rw [JY Ft hh.1,hh.2.1,hh.2.2,if_neg Er,if_neg (fun h=>Hf.1 h hk),if_neg (by
      rintro (h|⟨h,h'⟩)
      · omega
      · rw [h4 h] at h';exact h' rfl)]
theorem XL {acc:List MsD}{k:Int}{body more:List Int}{m:MsD}(hk:1≤k∧k≤4) (hl:19+body.length≤4096) (hle:BI k≤19+body.length) (h4:k=4→body=[]) (hb:FL k body = .inl m):BL acc (HS k body++more)=BL (acc++[m]) more:=by
  have hs:=szOf k body more hk hl hle h4
  have hml:=NF k body
  have hz:szL (HS k body++more)=(HS k body).length:=by unfold szL;rw [hs,hml];exact Int.toNat_natCast _
  rw [IE (m:=m) Ft (by rw [hs]) (by rw [hz,List.length_append];omega) (by rw [hz,List.take_left,Vn k body hk hl hle h4,hb]),hz,List.drop_left]
def RdL.zero:RdL:=⟨none,0,[],0,0,0,⟨#[]⟩⟩
end Gq

theorem T8 (d:ByteArray):strOfNums (Kx d)=d:=by
  unfold strOfNums Kx
  rw [List.map_map]
  have:(d.data.toList.map ((fun n:Int=>UInt8.ofNat n.toNat) ∘ fun b:UInt8=>(b.toNat:Int)))=d.data.toList:=by
    conv=>rhs;rw [← List.map_id d.data.toList]
    apply List.map_congr_left
    intro b _
    show UInt8.ofNat ((b.toNat:Int).toNat)=b
    rw [Int.toNat_natCast]
    exact UInt8.ofNat_toNat
  rw [this]
theorem Xo (a b:Int) (d:ByteArray):RL (a::b::Kx d)=d:=by
  have h:(List.range (Kx d).length).map (fun i=>fOf (a::b::Kx d) (2+i))=Kx d:=by
    apply List.ext_getElem?
    intro i
    by_cases hi:i<(Kx d).length
    · rw [List.getElem?_map,List.getElem?_range hi,BJ hi]
      show some (fOf (a::b::Kx d) (2+i))=_
      rw [show 2+i=i+1+1 by omega]
      rfl
    · rw [List.getElem?_eq_none Fo,List.getElem?_eq_none Er]
  show strOfNums (bl (fun i=>fOf (a::b::Kx d) (2+i)) ((a::b::Kx d).length-2))=d
  unfold bl
  rw [show (a::b::Kx d).length-2=(Kx d).length by simp,h,T8]
def G5 (m:MsL):MsD :=
  if m.kind=1 then { (MsL.zero m.kind).d with asn:=m.asn,hold:=m.hold,id:=m.id,CS:=m.CS.map NK }
  else if m.kind=2 then { (MsL.zero m.kind).d with gone:=m.gone,atr:=m.atr.d,nets:=m.nets }
  else if m.kind=3 then { (MsL.zero m.kind).d with fc:=m.fc,fs:=m.fs,fd:=m.fd }
  else (MsL.zero m.kind).d
theorem Mf {m:MsL}(h:Gr m=0) (hI:m.In):FL m.kind (GV m) = .inl (G5 m)∧(1≤m.kind∧m.kind≤4)∧19+(GV m).length≤4096∧BI m.kind≤19+(GV m).length∧(m.kind=4→GV m=[]):=by
  obtain ⟨hb,hl⟩:=MQ h
  have hk:=P4 hb
  unfold HW at hb
  by_cases k1:m.kind=1
  · rw [if_pos k1] at hb
    obtain ⟨o1,o2,o3,o4,o5⟩:=Va hb hI.id
    have e:GV m=Gx m:=by unfold GV;rw [if_pos k1]
    rw [e] at hl ⊢
    refine ⟨?_,hk,hl,by rw [k1];show (29:Int)≤_;omega,fun h=>by omega⟩
    unfold FL G5
    rw [if_pos k1,if_pos k1,o1,o2,o3,o4]
  · rw [if_neg k1] at hb
    by_cases k2:m.kind=2
    · rw [if_pos k2] at hb
      have e:GV m=OX m:=by unfold GV;rw [if_neg k1,if_pos k2]
      have hl4:4≤(OX m).length:=by unfold OX;simp only [List.length_append,AW];omega
      rw [e] at hl ⊢
      refine ⟨?_,hk,hl,by rw [k2];show (23:Int)≤_;omega,fun h=>by omega⟩
      unfold FL G5
      rw [if_neg k1,if_pos k2,if_neg k1,if_pos k2,XW hb hI]
    · rw [if_neg k2] at hb
      by_cases k3:m.kind=3
      · have e:GV m=m.fc::m.fs::Kx m.fd:=by unfold GV;rw [if_neg k1,if_neg k2,if_pos k3];rfl
        rw [e] at hl ⊢
        refine ⟨?_,hk,hl,by rw [k3];show (21:Int)≤_;simp only [List.length_cons];omega,fun h=>by omega⟩
        unfold FL G5
        rw [if_neg k1,if_neg k2,if_pos k3,if_neg k1,if_neg k2,if_pos k3,Xo]
        rfl
      · have e:GV m=[]:=by unfold GV;rw [if_neg k1,if_neg k2,if_neg k3]
        have k4:m.kind=4:=Er
        rw [e] at hl ⊢
        refine ⟨?_,hk,hl,by rw [k4];decide,fun _=>rfl⟩
        unfold FL G5
        rw [if_neg k1,if_neg k2,if_neg k3,if_neg k1,if_neg k2,if_neg k3]
theorem Yc {m:MsL}(h:Gr m=0) (hI:m.In):FE (DG m) = .inl (G5 m):=by
  obtain ⟨h1,h2,h3,h4,h5⟩:=Mf h hI
  rw [VX,Vn _ _ h2 h3 h4 h5,h1]
def IJ (ms:List MsL):Prop:=∀ m∈ms,Gr m=0∧m.In
def SB (ms:List MsL):List Int:=ms.flatMap DG
theorem TH {acc:List MsD}{m:MsL}(h:Gr m=0) (hI:m.In){xs more:List Int}(e:∃ tl,xs++more=DG m++tl) (hl:xs.length<(DG m).length):BL acc xs=(acc,none,xs):=by
  by_cases h19:xs.length<19
  · exact Gy h19
  · obtain ⟨h1,h2,h3,h4,h5⟩:=Mf h hI
    obtain ⟨tl,e⟩:=e
    have hml:=OG m
    have hx:∀ i,i<19→xs[i]?=(HS m.kind (GV m))[i]?:=fun i hi=>by
      have:(xs++more)[i]?=(DG m++tl)[i]?:=by rw [e]
      rw [List.getElem?_append_left Er,List.getElem?_append_left Er] at this
      exact this
    have hh:=RP (zs:=xs) (L:=19+(GV m).length) (k:=m.kind) (fun i hi=>by rw [hx i hi];exact Mm hi) Er
    have hs:BX xs.length (fOf xs)=(((19+(GV m).length:Nat):Int),0,0,⟨#[]⟩):=by
      rw [JY h19 hh.1,hh.2.1,hh.2.2,if_neg Er,if_neg (fun h=>Hf.1 h h2),if_neg (by
        rintro (h|⟨h,h'⟩)
        · omega
        · rw [h5 h] at h';exact h' rfl)]
    exact HB h19 (by rw [hs]) (by unfold szL;rw [hs];dsimp only;rw [Int.toNat_natCast];omega)
theorem MR:∀ (ms:List MsL) (acc:List MsD) (xs more:List Int),IJ ms→xs++more=SB ms →
    ∃ j rest,j≤ms.length∧BL acc xs=(acc++(ms.take j).map G5,none,rest)∧rest++more=SB (ms.drop j)∧(more=[]→j=ms.length∧rest=[])
  | [],acc,xs,more,_,e=>by
    have e2:xs++more=[]:=e
    obtain ⟨rfl,rfl⟩:=List.append_eq_nil_iff.1 e2
    exact ⟨0,[],Nat.le_refl _,by rw [Gy Et];simp,rfl,fun _=>⟨rfl,rfl⟩⟩
  | m::ms,acc,xs,more,hf,e=>by
    obtain ⟨hc,hI⟩:=hf m (List.mem_cons_self ..)
    have e2:xs++more=DG m++SB ms:=e
    by_cases hl:xs.length<(DG m).length
    · have hlen:=congrArg List.length e2
      rw [List.length_append,List.length_append] at hlen
      refine ⟨0,xs,Nat.zero_le _,by rw [TH hc hI ⟨_,e2⟩ hl];simp,e,fun h=>?_⟩
      rw [h,List.length_nil] at hlen
      omega
    · obtain ⟨ys,rfl⟩:∃ ys,xs=DG m++ys:=by
        refine ⟨xs.drop (DG m).length,?_⟩
        have h1:(xs++more).take (DG m).length=(DG m++SB ms).take (DG m).length:=by rw [e2]
        rw [List.take_append_of_le_length Er,List.take_left] at h1
        have h2:=List.take_append_drop (DG m).length xs
        rw [h1] at h2
        exact h2.symm
      rw [List.append_assoc,List.append_cancel_left_eq] at e2
      obtain ⟨j,rest,h1,h2,h3,h4⟩:=MR ms (acc++[G5 m]) ys more (fun x hx=>hf x (List.mem_cons_of_mem _ hx)) e2
      obtain ⟨b1,b2,b3,b4,b5⟩:=Mf hc hI
      refine ⟨j+1,rest,by simp only [List.length_cons];omega,?_,h3,fun h=>⟨by rw [(h4 h).1];rfl,(h4 h).2⟩⟩
      rw [VX,XL b2 b3 b4 b5 b1,h2]
      simp

def GG (p:Bool×List Int):Bool:=decide (1≤p.2.length∧p.2.length≤255) && p.2.all fun x=>decide (1≤x∧x≤65535)
def RA (a:AtD) (k:Nat):Bool :=
  if k=1 then wiB a.origin 2 else if k=2 then a.path.all GG else if k=3 then Kq a.hop else if k=4 then wiB a.med 4294967295
  else if k=5 then wiB a.loc 4294967295 else if k=7 then wiB a.aas 65535 else if k=8 then Jd a.comms else true
def TV (a:AtD) (k:Nat):Bool :=
  if k=1 then decide (a.origin=0) else if k=2 then decide ((a.path.length:Int)=0) else if k=3 then decide (a.hop=0) else if k=4 then decide (a.med=0)
  else if k=5 then decide (a.loc=0) else if k=7 then decide (a.aas=0∧a.aid=0) else if k=8 then decide ((a.comms.length:Int)=0) else true
def Nf (a:AtD) (k:Nat):Bool:=if hasB a.has k then RA a k else TV a k
structure AtD.In (a:AtD):Prop where
  nums:I64 a.has∧I64 a.origin∧U32 a.hop∧I64 a.med∧I64 a.loc∧I64 a.aas∧U32 a.aid
  H5:∀ s∈a.path,s.2.length≤9223372036854775807∧∀ x∈s.2,I64 x
  comms:∀ x∈a.comms,I64 x
  Jk:∀ o∈a.others,I64 o.1∧o.2.length≤9223372036854775807∧Bys o.2
  lens:a.path.length≤9223372036854775807∧a.comms.length≤9223372036854775807∧a.others.length≤9223372036854775807
structure MsD.In (m:MsD):Prop where
  nums:I64 m.kind∧I64 m.asn∧I64 m.hold∧U32 m.id∧I64 m.fc∧I64 m.fs
  CS:∀ c∈m.CS,I64 c.1∧c.2.length≤9223372036854775807∧Bys c.2
  gone:∀ p∈m.gone,U32 p.addr∧I64 p.len
  nets:∀ p∈m.nets,U32 p.addr∧I64 p.len
  at_:m.atr.In
  lens:m.CS.length≤9223372036854775807∧m.gone.length≤9223372036854775807∧m.nets.length≤9223372036854775807∧m.fd.size≤9223372036854775807
theorem HQ {k:Int}(h:I64 k):(MsL.zero k).In:=⟨h,KH,KH,NC,KH,KH,(fun c hc=>by cases hc),(fun c hc=>by cases hc),(fun c hc=>by cases hc),AtL.Ab2,⟨Nat.zero_le _,Nat.zero_le _,Nat.zero_le _,Nat.zero_le _⟩⟩
theorem Iz {α:Type}{enc:α→List Value}{s:Nat}(hs:∀ x,(enc x).length=s):∀ (xs:List α) (i:Nat) (x:α),xs[i]?=some x→((xs.flatMap enc).drop (i*s)).take s=enc x
  | [],_,_,h=>by simp at h
  | y::xs,0,x,h=>by
    simp only [List.getElem?_cons_zero,Option.some.injEq] at h
    subst h
    rw [List.flatMap_cons,Nat.zero_mul,List.drop_zero,List.take_left' (hs y)]
  | y::xs,i+1,x,h=>by
    rw [List.getElem?_cons_succ] at h
    rw [List.flatMap_cons,Nat.add_mul,Nat.one_mul,Nat.add_comm, ← List.drop_drop,List.drop_left' (hs y)]
    exact Iz hs xs i x h
section Gq
attribute [local irreducible] WL WC WE WQ WP WH WR WM WRH

theorem SJ (w:World) (C S:Int) (d:ByteArray):(I5 C S d).At w:=⟨fun i s h=>F7,(fun s h=>by cases h),fun i s h=>F7,fun i s h=>F7,⟨fun i s h=>F7,(fun s h=>by cases h),(fun h=>absurd h (Nat.lt_irrefl 0)),fun i s h=>F7,(fun s h=>by cases h)⟩⟩
theorem PM {C S:Int}{d:ByteArray}(hC:I64 C) (hS:I64 S) (hd:d.size≤100000):(I5 C S d).In :=
  have z:=HQ (k:=3) ⟨by decide,by decide⟩
  ⟨z.kind,z.asn,z.hold,z.id,hC,hS,z.CS,z.gone,z.nets,z.at_,⟨Nat.zero_le _,Nat.zero_le _,Nat.zero_le _,by show d.size≤_;omega⟩⟩
def EffO (w0 w':World) (es:List EfD) (e:Ending):Prop:=∃ ad c fs E K,e = .returned (.slice ad fs.length c)∧K9 ad c fs E K∧fs.map EfL.d=es∧St (fun _=>False) w0 w' (E++K)
theorem GA (n:Int) (m:MsL):(FN n m).length≤1:=by
  unfold FN
  split
  · exact Nat.le_refl _
  · exact Nat.zero_le _
theorem Il (s:Se) (n:Nat):(IA s n).length≤1:=by
  unfold IA
  split
  · exact Nat.le_refl _
  · exact Nat.zero_le _
theorem BS {fs:List EfL}{es:List EfD}(h:fs.map EfL.d=es):fs.length=es.length:=by rw [← h,List.length_map]
theorem DQ (fs:List EfL):(Hu fs).length=fs.length*23:=by
  induction fs with
  | nil=>rfl
  | cons f fs ih=>unfold Hu at ih ⊢;rw [List.flatMap_cons,List.length_append,ih,List.length_cons];show 23+_=_;omega
theorem EH (fs:List EfL):(Hu fs).all one=true:=by
  unfold Hu
  rw [List.all_flatMap]
  exact List.all_eq_true.2 fun f _=>rfl
theorem DF (fs gs:List EfL):Hu fs++Hu gs=Hu (fs++gs):=by unfold Hu;rw [List.flatMap_append]
set_option maxHeartbeats 1000000 in
theorem Lb (w0:World) (n:Int) (m:MsL) (hM:m.At w0) (hI:m.In) (hG:GF w0) (hP:m.atr.path.length≤1000) (hO:m.atr.others.length≤90):Calls Tryz.prog 54 #[.int .i64 n, .agg m.cells.toArray] w0 fun e w'=>EffO w0 w' (FN n m) e:=by
  refine enter Tryz.func54 rfl Tryz.ntmps54 rfl (St.start (fun _=>False) w0) ?_
  refine J2 ?_
  refine WL.box rfl rfl rfl (.none rfl) rfl rfl ?_
  intro g3 hg3
  refine J6 ?_
  refine zK Tw rfl ?_
  intro w1 hS
  refine (S1 w1 m (hM.st hS) hI (hG.FA (fun h=>h) hS) hP hO).mono ?_
  rintro e w' ⟨_,rfl,ad9,c9,E9,rfl,hV9,hS'⟩
  refine ⟨_,_,rfl,hS.join hS',?_⟩
  refine J11 ?_
  refine JT (fun h13=>?_) (fun h13=>?_)
  refine J10 ?_
  refine eT1 ?_
  exact fun w' h=>⟨none,0,[],[],[],rfl,⟨Vec.nil 23,fun e he=>by cases he⟩,by unfold FN;rw [if_neg h13];rfl,h.sub (List.nil_sublist _)⟩
  refine J7 ?_
  have hc:Gr m=0:=Er
  rw [if_pos hc] at hV9 ⊢
  refine J3 ?_
  refine zB Tryz.underlying46 DI BT rfl rfl ?_
  intro g17 hg17
  refine WL.as (L':=.row g17 (EfL.cells ⟨2,n,ad9,c9,DG m,MsL.zero 0⟩)::(E9++[.row g3 m.cells])) rfl ?_
  refine J4 ?_
  refine eT1 ?_
  refine fun w' h=>⟨some ⟨g17,0,none⟩,1,[⟨2,n,ad9,c9,DG m,MsL.zero 0⟩],[.row g17 (EfL.cells ⟨2,n,ad9,c9,DG m,MsL.zero 0⟩)],E9,rfl,⟨Vec.row (k:=1) (c:=1) rfl rfl (Nat.le_refl _),fun e he=>?_⟩,by unfold FN;rw [if_pos hc];rfl,h.sub (List.Sublist.cons_cons _ (List.sublist_append_left _ _))⟩
  obtain rfl:=List.mem_singleton.1 he
  exact ⟨⟨E9,hV9,fun _ h=>h⟩⟩
set_option maxHeartbeats 1000000 in
theorem Sk (w0 w:World) (g:Nat) (p:PeL) (s:Se) (E0 E1 L:List Ent) (d:Ck) (hA:BO g p s E0 E1 d) (hS0:St (fun _=>False) w0 w (.row g p.cells::(E0++(E1++d.L p.gC s.now L)))) :
    Calls Tryz.prog 87 #[.pointer (some ⟨g,0,none⟩), .int .i64 0] w fun e w'=>G2 w0 w' g (Hy s 0) (s.gone 0) L e:=by
  refine enter Tryz.func87 rfl Tryz.ntmps87 rfl hS0 ?_
  refine J9 ?_
  refine zB Tryz.underlying46 DI BT rfl rfl ?_
  intro g7 hg7
  refine WL.as (L':=.row g7 (efZ 3 0).cells::.row g p.cells::(E0++(E1++d.L p.gC s.now L))) rfl ?_
  refine J2 ?_
  refine zK VO rfl ?_
  intro w1 hS
  refine (VA w0 w1 g p s E0 E1 (.row g7 (efZ 3 0).cells::L) d hA (hS.AX )).mono ?_
  rintro e w' ⟨ad2,c2,fs,EF,KF,p2,E02,E12,d2,rfl,hV2,hes,hA2,hS'⟩
  have hfl:=BS hes
  have hgl:=Il s 0
  refine ⟨_,[.row g7 (efZ 3 0).cells]++(EF++(KF++(.row g p2.cells::(E02++(E12++d2.L p2.gC (s.gone 0).now L))))),rfl,hS'.AX ,?_⟩
  refine WL.AN rfl rfl rfl Tryz.underlying46 Tryz.underlying46 DI HP BT rfl rfl (Jo 3 0).1 (new:=Hu fs) (hV2.1.src (fun e he=>List.mem_append_right _ (List.mem_append_left _ he)) |> fun f h=>(f Fg).elim fun b1 h1=>h1.elim fun o1 h2=>⟨b1,o1,h2.1,fun w hS=>h2.2 _ _ w hS⟩) (DQ fs) (EH fs) Er (.none rfl) rfl rfl ?_
  intro ad11 c11 E11 hV11 hr11
  rw [DF] at hV11
  rw [show 1+fs.length=([efZ 3 0]++fs).length by rw [List.length_append];rfl] at hV11 ⊢
  refine J4 ?_
  refine eT1 ?_
  refine fun w' h=>⟨ad11,c11,[efZ 3 0]++fs,E11,KF,p2,E02,E12,d2,rfl,⟨hV11,fun e he=>?_⟩,by rw [List.map_append,hes];rfl,hA2,h.CE EF ⟩
  rcases List.mem_append.1 he with he|he
  · obtain rfl:=List.mem_singleton.1 he
    exact M5 _ _ _
  · exact hV2.2 e he
set_option maxHeartbeats 1000000 in
theorem RY (w0 w:World) (g:Nat) (p:PeL) (s:Se) (E0 E1 L:List Ent) (d:Ck) (hA:BO g p s E0 E1 d) (hS0:St (fun _=>False) w0 w (.row g p.cells::(E0++(E1++d.L p.gC s.now L)))) :
    Calls Tryz.prog 87 #[.pointer (some ⟨g,0,none⟩), .int .i64 1] w fun e w'=>G2 w0 w' g (Hy s 1) (s.gone 1) L e:=by
  refine enter Tryz.func87 rfl Tryz.ntmps87 rfl hS0 ?_
  refine J9 ?_
  refine zB Tryz.underlying46 DI BT rfl rfl ?_
  intro g7 hg7
  refine WL.as (L':=.row g7 (efZ 3 1).cells::.row g p.cells::(E0++(E1++d.L p.gC s.now L))) rfl ?_
  refine J2 ?_
  refine zK VO rfl ?_
  intro w1 hS
  refine (Vu w0 w1 g p s E0 E1 (.row g7 (efZ 3 1).cells::L) d hA (hS.AX )).mono ?_
  rintro e w' ⟨ad2,c2,fs,EF,KF,p2,E02,E12,d2,rfl,hV2,hes,hA2,hS'⟩
  have hfl:=BS hes
  have hgl:=Il s 1
  refine ⟨_,[.row g7 (efZ 3 1).cells]++(EF++(KF++(.row g p2.cells::(E02++(E12++d2.L p2.gC (s.gone 1).now L))))),rfl,hS'.AX ,?_⟩
  refine WL.AN rfl rfl rfl Tryz.underlying46 Tryz.underlying46 DI HP BT rfl rfl (Jo 3 1).1 (new:=Hu fs) (hV2.1.src (fun e he=>List.mem_append_right _ (List.mem_append_left _ he)) |> fun f h=>(f Fg).elim fun b1 h1=>h1.elim fun o1 h2=>⟨b1,o1,h2.1,fun w hS=>h2.2 _ _ w hS⟩) (DQ fs) (EH fs) Er (.none rfl) rfl rfl ?_
  intro ad11 c11 E11 hV11 hr11
  rw [DF] at hV11
  rw [show 1+fs.length=([efZ 3 1]++fs).length by rw [List.length_append];rfl] at hV11 ⊢
  refine J4 ?_
  refine eT1 ?_
  refine fun w' h=>⟨ad11,c11,[efZ 3 1]++fs,E11,KF,p2,E02,E12,d2,rfl,⟨hV11,fun e he=>?_⟩,by rw [List.map_append,hes];rfl,hA2,h.CE EF ⟩
  rcases List.mem_append.1 he with he|he
  · obtain rfl:=List.mem_singleton.1 he
    exact M5 _ _ _
  · exact hV2.2 e he

theorem S9.mono {K K':List Ent}{e:EfL}(h:S9 K e) (hm:∀ x∈K,x∈K'):S9 K' e:=by
  obtain ⟨⟨E,h1,h2⟩⟩:=h
  exact ⟨⟨E,h1,fun x hx=>hm x (h2 x hx)⟩⟩
structure EffS where
  ad:Option Addr
  c:Nat
  fs:List EfL
  E:List Ent
  K:List Ent
theorem DT (s:Se) (n:Nat) (C S:Int) (d:ByteArray):(DW s n C S d).length≤3:=by
  have h1:=GA n (I5 C S d)
  have h2:=Il s n
  unfold DW Hy
  rw [List.length_append,List.length_cons]
  split
  · rw [List.length_nil];omega
  · omega
set_option maxHeartbeats 1000000 in
theorem TQ (w0 w:World) (g:Nat) (p:PeL) (s:Se) (E0 E1 L:List Ent) (d:Ck) (hA:BO g p s E0 E1 d) (hG:GF w0) (hS0:St (fun _=>False) w0 w (.row g p.cells::(E0++(E1++d.L p.gC s.now L)))) (C S:Int) (f:ByteArray) (hC:I64 C) (hSb:I64 S) (hf:f.size≤100000) :
    Calls Tryz.prog 57 #[.pointer (some ⟨g,0,none⟩), .int .i64 0, .agg (AG C S f).toArray] w fun e w'=>G2 w0 w' g (DW s 0 C S f) (s.gone 0) L e:=by
  refine enter Tryz.func57 rfl Tryz.ntmps57 rfl hS0 ?_
  refine J2 ?_
  refine WL.box rfl rfl rfl (.none rfl) rfl rfl ?_
  intro g5 hg5
  refine J8 ?_
  refine WC.cut (fun y:EffS=>[(7, .slice y.ad y.fs.length y.c),(1, .int .i64 0),(0, .pointer (some ⟨g,0,none⟩))]) (fun y=>y.E++(y.K++(.row g p.cells::(E0++(E1++d.L p.gC s.now L))))) (fun y=>K9 y.ad y.c y.fs y.E y.K∧y.fs.map EfL.d=(if C=0 then [] else FN 0 (I5 C S f))) ?_ ?_
  refine J4 ?_
  refine JT (fun h10=>?_) (fun h10=>?_)
  refine J7 ?_
  refine zK N9 rfl ?_
  intro w1 hS
  refine (Lb w1 0 (I5 C S f) (SJ _ _ _ _) (PM hC hSb hf) (hG.FA (fun h=>h) hS) (Nat.zero_le _) (Nat.zero_le _)).mono ?_
  exact Br
  exact B9
  rintro ⟨ad7,c7,fs,EF,KF⟩ ⟨hV7,hes⟩
  dsimp only at hV7 hes
  dsimp only
  have hfl:=BS hes
  have hfb:fs.length≤1:=(by rw [hfl];split;exact Nat.zero_le _;exact GA _ _)
  refine J5 ?_
  refine zK V2 rfl ?_
  intro w1 hS
  refine (Sk w0 w1 g p s E0 E1 (EF++(KF++L)) d hA (hS.AX )).mono ?_
  rintro e w' ⟨ad2,c2,gs,EG,KG,p2,E02,E12,d2,rfl,hV2,heg,hA2,hS'⟩
  have hgl:=BS heg
  have hgb:gs.length≤2:=(by rw [hgl];unfold Hy;rw [List.length_cons];have:=Il s 0;omega)
  refine ⟨_,EF++(EG++(KG++(KF++(.row g p2.cells::(E02++(E12++d2.L p2.gC (s.gone 0).now L)))))),rfl,hS'.AX ,?_⟩
  refine WL.AN rfl rfl rfl Tryz.underlying46 Tryz.underlying46 DI HP BT rfl rfl hV7.1 (new:=Hu gs) (hV2.1.src (fun e he=>List.mem_append_right _ (List.mem_append_left _ he)) |> fun f h=>(f Fg).elim fun b1 h1=>h1.elim fun o1 h2=>⟨b1,o1,h2.1,fun w hS=>h2.2 _ _ w hS⟩) (DQ gs) (EH gs) Er (.none rfl) rfl rfl ?_
  intro ad19 c19 E19 hV19 hr19
  rw [DF] at hV19
  rw [show fs.length+gs.length=(fs++gs).length from List.length_append.symm] at hV19 ⊢
  refine J4 ?_
  refine eT1 ?_
  refine fun w' h=>⟨ad19,c19,fs++gs,E19,KG++KF,p2,E02,E12,d2,rfl,⟨hV19,fun e he=>?_⟩,by rw [List.map_append,hes,heg];rfl,hA2,h.CE EG ⟩
  rcases List.mem_append.1 he with he|he
  · exact (hV7.2 e he).mono fun x hx=>List.mem_append_right _ hx
  · exact (hV2.2 e he).mono fun x hx=>List.mem_append_left _ hx
theorem Ht (w0 w:World) (g:Nat) (p:PeL) (s:Se) (E0 E1 L:List Ent) (d:Ck) (hA:BO g p s E0 E1 d) (hG:GF w0) (hS0:St (fun _=>False) w0 w (.row g p.cells::(E0++(E1++d.L p.gC s.now L)))) (C S:Int) (hC:I64 C) (hSb:I64 S) :
    Calls Tryz.prog 63 #[.pointer (some ⟨g,0,none⟩), .int .i64 0, .int .i64 C, .int .i64 S] w fun e w'=>G2 w0 w' g (DW s 0 C S ⟨#[]⟩) (s.gone 0) L e:=by
  refine enter Tryz.func63 rfl Tryz.ntmps63 rfl hS0 ?_
  refine J12 ?_
  refine zK QQ rfl ?_
  intro w1 hS
  refine (TQ w0 w1 g p s E0 E1 L d hA hG hS C S ⟨#[]⟩ hC hSb Et).mono ?_
  exact Ec
set_option maxHeartbeats 1000000 in
theorem Uh (w0 w:World) (g:Nat) (p:PeL) (s:Se) (E0 E1 L:List Ent) (d:Ck) (hA:BO g p s E0 E1 d) (hG:GF w0) (hS0:St (fun _=>False) w0 w (.row g p.cells::(E0++(E1++d.L p.gC s.now L)))) (C S:Int) (f:ByteArray) (hC:I64 C) (hSb:I64 S) (hf:f.size≤100000) :
    Calls Tryz.prog 57 #[.pointer (some ⟨g,0,none⟩), .int .i64 1, .agg (AG C S f).toArray] w fun e w'=>G2 w0 w' g (DW s 1 C S f) (s.gone 1) L e:=by
  refine enter Tryz.func57 rfl Tryz.ntmps57 rfl hS0 ?_
  refine J2 ?_
  refine WL.box rfl rfl rfl (.none rfl) rfl rfl ?_
  intro g5 hg5
  refine J8 ?_
  refine WC.cut (fun y:EffS=>[(7, .slice y.ad y.fs.length y.c),(1, .int .i64 1),(0, .pointer (some ⟨g,0,none⟩))]) (fun y=>y.E++(y.K++(.row g p.cells::(E0++(E1++d.L p.gC s.now L))))) (fun y=>K9 y.ad y.c y.fs y.E y.K∧y.fs.map EfL.d=(if C=0 then [] else FN 1 (I5 C S f))) ?_ ?_
  refine J4 ?_
  refine JT (fun h10=>?_) (fun h10=>?_)
  refine J7 ?_
  refine zK N9 rfl ?_
  intro w1 hS
  refine (Lb w1 1 (I5 C S f) (SJ _ _ _ _) (PM hC hSb hf) (hG.FA (fun h=>h) hS) (Nat.zero_le _) (Nat.zero_le _)).mono ?_
  exact Br
  exact B9
  rintro ⟨ad7,c7,fs,EF,KF⟩ ⟨hV7,hes⟩
  dsimp only at hV7 hes
  dsimp only
  have hfl:=BS hes
  have hfb:fs.length≤1:=(by rw [hfl];split;exact Nat.zero_le _;exact GA _ _)
  refine J5 ?_
  refine zK V2 rfl ?_
  intro w1 hS
  refine (RY w0 w1 g p s E0 E1 (EF++(KF++L)) d hA (hS.AX )).mono ?_
  rintro e w' ⟨ad2,c2,gs,EG,KG,p2,E02,E12,d2,rfl,hV2,heg,hA2,hS'⟩
  have hgl:=BS heg
  have hgb:gs.length≤2:=(by rw [hgl];unfold Hy;rw [List.length_cons];have:=Il s 1;omega)
  refine ⟨_,EF++(EG++(KG++(KF++(.row g p2.cells::(E02++(E12++d2.L p2.gC (s.gone 1).now L)))))),rfl,hS'.AX ,?_⟩
  refine WL.AN rfl rfl rfl Tryz.underlying46 Tryz.underlying46 DI HP BT rfl rfl hV7.1 (new:=Hu gs) (hV2.1.src (fun e he=>List.mem_append_right _ (List.mem_append_left _ he)) |> fun f h=>(f Fg).elim fun b1 h1=>h1.elim fun o1 h2=>⟨b1,o1,h2.1,fun w hS=>h2.2 _ _ w hS⟩) (DQ gs) (EH gs) Er (.none rfl) rfl rfl ?_
  intro ad19 c19 E19 hV19 hr19
  rw [DF] at hV19
  rw [show fs.length+gs.length=(fs++gs).length from List.length_append.symm] at hV19 ⊢
  refine J4 ?_
  refine eT1 ?_
  refine fun w' h=>⟨ad19,c19,fs++gs,E19,KG++KF,p2,E02,E12,d2,rfl,⟨hV19,fun e he=>?_⟩,by rw [List.map_append,hes,heg];rfl,hA2,h.CE EG ⟩
  rcases List.mem_append.1 he with he|he
  · exact (hV7.2 e he).mono fun x hx=>List.mem_append_right _ hx
  · exact (hV2.2 e he).mono fun x hx=>List.mem_append_left _ hx
theorem Hq (w0 w:World) (g:Nat) (p:PeL) (s:Se) (E0 E1 L:List Ent) (d:Ck) (hA:BO g p s E0 E1 d) (hG:GF w0) (hS0:St (fun _=>False) w0 w (.row g p.cells::(E0++(E1++d.L p.gC s.now L)))) (C S:Int) (hC:I64 C) (hSb:I64 S) :
    Calls Tryz.prog 63 #[.pointer (some ⟨g,0,none⟩), .int .i64 1, .int .i64 C, .int .i64 S] w fun e w'=>G2 w0 w' g (DW s 1 C S ⟨#[]⟩) (s.gone 1) L e:=by
  refine enter Tryz.func63 rfl Tryz.ntmps63 rfl hS0 ?_
  refine J12 ?_
  refine zK QQ rfl ?_
  intro w1 hS
  refine (Uh w0 w1 g p s E0 E1 L d hA hG hS C S ⟨#[]⟩ hC hSb Et).mono ?_
  exact Ec

def Se.alive (s:Se) (n:Nat):Se:=if (s.c n).hold=0 then s else s.due (1+n) (s.c n).hold
def Se.kept (s:Se) (n:Nat):Se:=if (s.c n).hold=0 then s else s.due (3+n) ((s.c n).hold.tdiv 3)
theorem Gw (s:Se) (n:Nat):(s.alive n).now=s.now:=by unfold Se.alive;split <;> rfl
theorem Jf (s:Se) (n:Nat):(s.kept n).now=s.now:=by unfold Se.kept;split <;> rfl
theorem SK {x:Int}(h0:0≤x) (h1:x≤65535):0≤x.tdiv 3∧x.tdiv 3≤65535:=by
  rw [Int.tdiv_eq_ediv_of_nonneg h0]
  omega
theorem Nb (w0 w:World) (g:Nat) (p:PeL) (s:Se) (E0 E1 L:List Ent) (d:Ck) (hA:BO g p s E0 E1 d) (hS0:St (fun _=>False) w0 w (.row g p.cells::(E0++(E1++d.L p.gC s.now L)))) :
    Calls Tryz.prog 90 #[.pointer (some ⟨g,0,none⟩), .int .i64 0] w fun e w'=>∃ d',e = .returned (.tuple #[])∧BO g p (s.alive 0) E0 E1 d'∧St (fun _=>False) w0 w' (.row g p.cells::(E0++(E1++d'.L p.gC s.now L))):=by
  have hc:p.c0.m=s.c0:=(congrArg Se.c0 hA.eq :)
  have hh:p.c0.hold=(s.c 0).hold:=(congrArg CnM.hold hc :)
  have hb:=hA.ok0.2.2.2.1
  rw [show s.c0.hold=(s.c 0).hold from rfl, ← hh] at hb
  have ht3:=SK hb.1 hb.2
  refine enter Tryz.func90 rfl Tryz.ntmps90 rfl hS0 ?_
  refine J6 ?_
  refine zV (AT (lo:=0) rfl rfl rfl Tryz.underlying104 DD Er Er) rfl ?_
  refine J1 ?_
  refine zV (AA rfl rfl AK (cellAt (v:=.int .i64 p.c0.hold) rfl)) rfl ?_
  refine J6 ?_
  refine JT (fun h13=>?_) (fun h13=>?_)
  refine J6 ?_
  refine zV (AS rfl rfl rfl (show _=(1:Int) from AF Et Et)) rfl ?_
  refine J1 ?_
  refine zK KT rfl ?_
  intro w1 hS
  refine (KQ w0 w1 g p s E0 E1 L d hA hS 1 Er (p.c0.hold) Er).mono ?_
  rintro e w' ⟨d',rfl,hA',hS'⟩
  refine ⟨_,_,rfl,hS',?_⟩
  refine J1 ?_
  refine WE.KX (P:=Tryz.prog) (.inr rfl) Tryz.results90  ?_
  have e0:s.alive 0=s.due (1) (p.c0.hold):=(by unfold Se.alive;rw [← hh,if_neg h13])
  exact Cp
  refine J4 ?_
  refine WE.KX (P:=Tryz.prog) (.inr rfl) Tryz.results90  ?_
  have e0:s.alive 0=s:=(by unfold Se.alive;rw [← hh,if_pos (Decidable.of_not_not h13)])
  exact Cr
theorem Q4 (w0 w:World) (g:Nat) (p:PeL) (s:Se) (E0 E1 L:List Ent) (d:Ck) (hA:BO g p s E0 E1 d) (hS0:St (fun _=>False) w0 w (.row g p.cells::(E0++(E1++d.L p.gC s.now L)))) :
    Calls Tryz.prog 64 #[.pointer (some ⟨g,0,none⟩), .int .i64 0] w fun e w'=>∃ d',e = .returned (.tuple #[])∧BO g p (s.kept 0) E0 E1 d'∧St (fun _=>False) w0 w' (.row g p.cells::(E0++(E1++d'.L p.gC s.now L))):=by
  have hc:p.c0.m=s.c0:=(congrArg Se.c0 hA.eq :)
  have hh:p.c0.hold=(s.c 0).hold:=(congrArg CnM.hold hc :)
  have hb:=hA.ok0.2.2.2.1
  rw [show s.c0.hold=(s.c 0).hold from rfl, ← hh] at hb
  have ht3:=SK hb.1 hb.2
  refine enter Tryz.func64 rfl Tryz.ntmps64 rfl hS0 ?_
  refine J6 ?_
  refine zV (AT (lo:=0) rfl rfl rfl Tryz.underlying104 DD Er Er) rfl ?_
  refine J1 ?_
  refine zV (AA rfl rfl AK (cellAt (v:=.int .i64 p.c0.hold) rfl)) rfl ?_
  refine J6 ?_
  refine JT (fun h13=>?_) (fun h13=>?_)
  refine J6 ?_
  refine zV (AS rfl rfl rfl (show _=(3:Int) from AF Et Et)) rfl ?_
  refine J1 ?_
  refine zV (Jb rfl rfl rfl Fl (AF Er Er)) rfl ?_
  refine zK KT rfl ?_
  intro w1 hS
  refine (KQ w0 w1 g p s E0 E1 L d hA hS 3 Er (p.c0.hold.tdiv 3) Er).mono ?_
  rintro e w' ⟨d',rfl,hA',hS'⟩
  refine ⟨_,_,rfl,hS',?_⟩
  refine J1 ?_
  refine WE.KX (P:=Tryz.prog) (.inr rfl) Tryz.results64  ?_
  have e0:s.kept 0=s.due (3) (p.c0.hold.tdiv 3):=(by unfold Se.kept;rw [← hh,if_neg h13])
  exact Cp
  refine J4 ?_
  refine WE.KX (P:=Tryz.prog) (.inr rfl) Tryz.results64  ?_
  have e0:s.kept 0=s:=(by unfold Se.kept;rw [← hh,if_pos (Decidable.of_not_not h13)])
  exact Cr
theorem M3 (w0 w:World) (g:Nat) (p:PeL) (s:Se) (E0 E1 L:List Ent) (d:Ck) (hA:BO g p s E0 E1 d) (hS0:St (fun _=>False) w0 w (.row g p.cells::(E0++(E1++d.L p.gC s.now L)))) :
    Calls Tryz.prog 90 #[.pointer (some ⟨g,0,none⟩), .int .i64 1] w fun e w'=>∃ d',e = .returned (.tuple #[])∧BO g p (s.alive 1) E0 E1 d'∧St (fun _=>False) w0 w' (.row g p.cells::(E0++(E1++d'.L p.gC s.now L))):=by
  have hc:p.c1.m=s.c1:=(congrArg Se.c1 hA.eq :)
  have hh:p.c1.hold=(s.c 1).hold:=(congrArg CnM.hold hc :)
  have hb:=hA.ok1.2.2.2.1
  rw [show s.c1.hold=(s.c 1).hold from rfl, ← hh] at hb
  have ht3:=SK hb.1 hb.2
  refine enter Tryz.func90 rfl Tryz.ntmps90 rfl hS0 ?_
  refine J6 ?_
  refine zV (AT (lo:=1) rfl rfl rfl Tryz.underlying104 DD Er Er) rfl ?_
  refine J1 ?_
  refine zV (AA rfl rfl AK (cellAt (v:=.int .i64 p.c1.hold) rfl)) rfl ?_
  refine J6 ?_
  refine JT (fun h13=>?_) (fun h13=>?_)
  refine J6 ?_
  refine zV (AS rfl rfl rfl (show _=(2:Int) from AF Et Et)) rfl ?_
  refine J1 ?_
  refine zK KT rfl ?_
  intro w1 hS
  refine (KQ w0 w1 g p s E0 E1 L d hA hS 2 Er (p.c1.hold) Er).mono ?_
  rintro e w' ⟨d',rfl,hA',hS'⟩
  refine ⟨_,_,rfl,hS',?_⟩
  refine J1 ?_
  refine WE.KX (P:=Tryz.prog) (.inr rfl) Tryz.results90  ?_
  have e0:s.alive 1=s.due (2) (p.c1.hold):=(by unfold Se.alive;rw [← hh,if_neg h13])
  exact Cp
  refine J4 ?_
  refine WE.KX (P:=Tryz.prog) (.inr rfl) Tryz.results90  ?_
  have e0:s.alive 1=s:=(by unfold Se.alive;rw [← hh,if_pos (Decidable.of_not_not h13)])
  exact Cr
theorem Re (w0 w:World) (g:Nat) (p:PeL) (s:Se) (E0 E1 L:List Ent) (d:Ck) (hA:BO g p s E0 E1 d) (hS0:St (fun _=>False) w0 w (.row g p.cells::(E0++(E1++d.L p.gC s.now L)))) :
    Calls Tryz.prog 64 #[.pointer (some ⟨g,0,none⟩), .int .i64 1] w fun e w'=>∃ d',e = .returned (.tuple #[])∧BO g p (s.kept 1) E0 E1 d'∧St (fun _=>False) w0 w' (.row g p.cells::(E0++(E1++d'.L p.gC s.now L))):=by
  have hc:p.c1.m=s.c1:=(congrArg Se.c1 hA.eq :)
  have hh:p.c1.hold=(s.c 1).hold:=(congrArg CnM.hold hc :)
  have hb:=hA.ok1.2.2.2.1
  rw [show s.c1.hold=(s.c 1).hold from rfl, ← hh] at hb
  have ht3:=SK hb.1 hb.2
  refine enter Tryz.func64 rfl Tryz.ntmps64 rfl hS0 ?_
  refine J6 ?_
  refine zV (AT (lo:=1) rfl rfl rfl Tryz.underlying104 DD Er Er) rfl ?_
  refine J1 ?_
  refine zV (AA rfl rfl AK (cellAt (v:=.int .i64 p.c1.hold) rfl)) rfl ?_
  refine J6 ?_
  refine JT (fun h13=>?_) (fun h13=>?_)
  refine J6 ?_
  refine zV (AS rfl rfl rfl (show _=(4:Int) from AF Et Et)) rfl ?_
  refine J1 ?_
  refine zV (Jb rfl rfl rfl Fl (AF Er Er)) rfl ?_
  refine zK KT rfl ?_
  intro w1 hS
  refine (KQ w0 w1 g p s E0 E1 L d hA hS 4 Er (p.c1.hold.tdiv 3) Er).mono ?_
  rintro e w' ⟨d',rfl,hA',hS'⟩
  refine ⟨_,_,rfl,hS',?_⟩
  refine J1 ?_
  refine WE.KX (P:=Tryz.prog) (.inr rfl) Tryz.results64  ?_
  have e0:s.kept 1=s.due (4) (p.c1.hold.tdiv 3):=(by unfold Se.kept;rw [← hh,if_neg h13])
  exact Cp
  refine J4 ?_
  refine WE.KX (P:=Tryz.prog) (.inr rfl) Tryz.results64  ?_
  have e0:s.kept 1=s:=(by unfold Se.kept;rw [← hh,if_pos (Decidable.of_not_not h13)])
  exact Cr
def Iw (p:PeL):Int:=if p.c0.st=5 then 0 else if p.c1.st=5 then 1 else -1
theorem L9 (w:World) (g:Nat) (p:PeL) (hR:Row w g p.cells):Calls Tryz.prog 60 #[.pointer (some ⟨g,0,none⟩)] w fun e w'=>e = .returned (.int .i64 (Iw p))∧Frm (fun _=>False) w w':=by
  have hst:∀ n,n<2→p.cells[7+n*8]?=some (.int .i64 (p.c n).st):=fun n hn=>by
    match n,hn with
    | 0,_=>rfl
    | 1,_=>rfl
  refine enter Tryz.func60 rfl Tryz.ntmps60 rfl (St.start (fun _=>False) w) ?_
  refine J12 ?_
  refine WC.loop (fun k:Nat=>[(4, .int .i64 k),(0, .pointer (some ⟨g,0,none⟩))]) (fun _=>[]) (fun k=>k≤2∧∀ j,j<k→(p.c j).st≠5) (fun k=>2-k) 0 ⟨Nat.zero_le _,fun j h=>absurd h (Nat.not_lt_zero _)⟩ Km (.refl _) ?_
  rintro k ⟨hk,hz⟩
  refine J2 ?_
  refine JT (fun h5=>?_) (fun h5=>?_)
  refine J20 ?_
  refine zV (AT (lo:=k) rfl rfl rfl Tryz.underlying104 DD Er Er) rfl ?_
  refine J1 ?_
  refine zV (AA rfl rfl AK (AL (fun h=>h) (hR.cell (hst k Er)))) rfl ?_
  refine JT (fun h14=>?_) (fun h14=>?_)
  refine J15 ?_
  refine eT1 ?_
  have e0:Iw p=(k:Int):=(by
    unfold Iw
    match k,(by omega:k<2),h14,hz with
    | 0,_,h14,_=>exact if_pos h14
    | 1,_,h14,hz=>exact (if_neg (show p.c0.st≠5 from hz 0 Et)).trans (if_pos (show p.c1.st=5 from h14)))
  exact fun w' h=>⟨by rw [e0],h.frm⟩
  refine J7 ?_
  refine zV (AS rfl rfl rfl (show _=((k+1:Nat):Int) from (AF Er Er).trans Er)) rfl ?_
  refine J2 ?_
  exact eW (k+1) Er ⟨by omega,fun j hj=>by
  by_cases e:j=k
  · rw [e];exact h14
  · exact hz j Er⟩
  refine J15 ?_
  refine eT1 ?_
  have e0:Iw p = -1:=(by
    unfold Iw
    exact (if_neg (show p.c0.st≠5 from hz 0 Er)).trans (if_neg (show p.c1.st≠5 from hz 1 Er)))
  exact fun w' h=>⟨by rw [e0],h.frm⟩
theorem VI (w0 w:World) (g:Nat) (p:PeL) (s:Se) (E0 E1 L:List Ent) (d:Ck) (hA:BO g p s E0 E1 d) (hS0:St (fun _=>False) w0 w (.row g p.cells::(E0++(E1++d.L p.gC s.now L)))) :
    Calls Tryz.prog 13 #[.pointer (some ⟨g,0,none⟩)] w fun e w'=>G2 w0 w' g (if s.base=0 then [ef 1 0] else []) (if s.base=0 then s.JW else s) L e:=by
  have hb0:p.base=s.base:=(congrArg Se.base hA.eq :)
  refine enter Tryz.func13 rfl Tryz.ntmps13 rfl hS0 ?_
  refine J9 ?_
  refine zV (AY false rfl rfl Tryz.underlying40 rfl) rfl ?_
  refine J5 ?_
  refine JT (fun h10=>?_) (fun h10=>?_)
  refine J11 ?_
  refine eT1 ?_
  refine fun w' h=>⟨none,0,[],[],[],p,E0,E1,d,rfl,⟨Vec.nil 23,fun e he=>by cases he⟩,?_,?_,?_⟩
  · rw [if_neg Er];rfl
  · rw [if_neg Er];exact hA
  · rw [if_neg Er];exact h
  refine J9 ?_
  refine zK ck_50 rfl ?_
  intro w1 hS
  refine (Aaf w0 w1 g p s E0 E1 L d hA hS).mono ?_
  rintro e w' ⟨ad2,c2,gs,EG,KG,p2,E02,E12,d2,rfl,hV2,heg,hA2,hS'⟩
  refine ⟨_,_,rfl,hS',?_⟩
  refine J4 ?_
  refine eT1 ?_
  rw [if_pos Er,if_pos Er]
  exact Bu
theorem now_c (w0 w:World) (g:Nat) (p:PeL) (d:Ck) (now:Int) (L:List Ent) (hR:Row w g p.cells) (hS:St (fun _=>False) w0 w (d.L p.gC now L)):Calls Tryz.prog 25 #[.pointer (some ⟨g,0,none⟩)] w fun e w'=>e = .returned (.int .i64 now)∧Frm (fun _=>False) w w':=by
  have hC:=hS.row (g:=p.gC)
  refine enter Tryz.func25 rfl Tryz.ntmps25 rfl (St.start (fun _=>False) w) ?_
  refine J9 ?_
  refine zV (AY false rfl rfl Tryz.underlying40 rfl) rfl ?_
  refine J10 ?_
  refine zV (AA rfl rfl Zl (AL (fun h=>h) (hR.cell (v:=.pointer (some ⟨p.gC,0,none⟩)) rfl))) rfl<|zk Y0 rfl (fun w hS=>Zx (hS.Rz (fun h=>h) hC))<|?_
  exact Eb

def Se.up5 (s:Se) (n:Nat):Se:=(s.set n { s.c n with st:=5 }).alive n
def Se.BD (s:Se) (n:Nat):Se:=if ((s.up5 n).c (1-n)).st=0 then s.up5 n else (s.up5 n).gone (1-n)
def Gs (s:Se) (n:Nat):List EfD:=(if ((s.up5 n).c (1-n)).st=0 then [] else DW (s.up5 n) (1-n) 6 7 ⟨#[]⟩)++[ef 4 n]
theorem Kz (s:Se) (n k:Nat):(s.alive n).c k=s.c k:=by unfold Se.alive;split <;> rfl
theorem FW (s:Se) (n:Nat) (c:CnM):(s.set n c).now=s.now:=by unfold Se.set;split <;> rfl
theorem CnM.Ok.to5 {c:CnM}(h:c.Ok):({ c with st:=5 }:CnM).Ok:=⟨.inr ⟨show (3:Int)≤5 by decide,show (5:Int)≤5 by decide⟩,h.2⟩
set_option maxHeartbeats 1000000 in
theorem Rk (w0 w:World) (g:Nat) (p:PeL) (s:Se) (E0 E1 L:List Ent) (d:Ck) (hA:BO g p s E0 E1 d) (hG:GF w0) (hS0:St (fun _=>False) w0 w (.row g p.cells::(E0++(E1++d.L p.gC s.now L)))) :
    Calls Tryz.prog 89 #[.pointer (some ⟨g,0,none⟩), .int .i64 0] w fun e w'=>G2 w0 w' g (Gs s 0) (s.BD 0) L e:=by
  have hc:p.c1.m=s.c1:=(congrArg Se.c1 hA.eq :)
  have hst:p.c1.st=(s.c 1).st:=(congrArg CnM.st hc :)
  have hA1:BO g ({ p with c0:={ p.c0 with st:=5 } }:PeL) (s.set 0 { s.c 0 with st:=5 }) E0 E1 d:=by
    refine ⟨?_,hA.ok,?_,?_,hA.v0,hA.v1,hA.b0,hA.b1,hA.bag⟩
    · exact (congrArg (fun z:Se=>z.set 0 { z.c 0 with st:=5 }) hA.eq :)
    all_goals first|exact hA.ok0|exact hA.ok1|exact hA.ok0.to5|exact hA.ok1.to5
  have hum:((s.up5 0).c 1).st=p.c1.st:=by
    unfold Se.up5
    rw [Kz]
    exact hst.symm
  have hun:(s.up5 0).now=s.now:=by unfold Se.up5;rw [Gw];exact FW _ _ _
  have hen:(s.BD 0).now=s.now:=by
    unfold Se.BD
    split
    · exact hun
    · rw [BP];exact hun
  refine enter Tryz.func89 rfl Tryz.ntmps89 rfl hS0 ?_
  refine J11 ?_
  refine zV (AT (lo:=0) rfl rfl rfl Tryz.underlying104 DD Er Er) rfl ?_
  refine J2 ?_
  refine WL.as (L':=.row g ({ p with c0:={ p.c0 with st:=5 } }:PeL).cells::(E0++(E1++d.L p.gC s.now L))) rfl ?_
  refine J6 ?_
  refine zK Od rfl ?_
  intro w1 hS
  refine (Nb w0 w1 g ({ p with c0:={ p.c0 with st:=5 } }:PeL) (s.set 0 { s.c 0 with st:=5 }) E0 E1 L d hA1 hS).mono ?_
  rintro e w' ⟨d2,rfl,hA2,hS'⟩
  refine ⟨_, .row g ({ p with c0:={ p.c0 with st:=5 } }:PeL).cells::(E0++(E1++d2.L p.gC s.now L)),rfl,hS',?_⟩
  refine J7 ?_
  refine WC.cut (fun y:PS=>[(5, .slice y.ad y.fs.length y.c),(1, .int .i64 0)]) (fun y=>y.L g s.now L) (fun y=>BO g y.p (s.BD 0) y.E0 y.E1 y.d∧K9 y.ad y.c y.fs y.E y.K∧y.fs.map EfL.d++[ef 4 0]=Gs s 0∧y.fs.length≤3) ?_ ?_
  refine J4 ?_
  refine zV (EM rfl rfl rfl (show _=(1:Int) from AF Et Et)) rfl ?_
  refine zk HI rfl (fun w hS=>Gu w g ({ p with c0:={ p.c0 with st:=5 } }:PeL) (hS.row (g:=g)) 1 Et) ?_
  generalize hth:decide ((({ p with c0:={ p.c0 with st:=5 } }:PeL).c 1).st≠0)=b18
  cases b18
  refine J4 ?_
  have hz:((s.up5 0).c 1).st=0:=(by rw [hum];exact Decidable.of_not_not (of_decide_eq_false hth))
  have e1:s.BD 0=s.up5 0:=if_pos hz
  refine eM ⟨({ p with c0:={ p.c0 with st:=5 } }:PeL),E0,E1,d2,none,0,[],[],[]⟩ ⟨?_,⟨Vec.nil 23,fun e he=>by cases he⟩,?_,Nat.zero_le _⟩
  · dsimp only;rw [e1];exact hA2
  · dsimp only;unfold Gs;rw [if_pos hz];rfl
  refine J6 ?_
  refine zV (EM rfl rfl rfl (show _=(1:Int) from AF Et Et)) rfl ?_
  refine zK H8 rfl ?_
  intro w1 hS
  refine (Hq w0 w1 g ({ p with c0:={ p.c0 with st:=5 } }:PeL) (s.up5 0) E0 E1 L d2 hA2 hG (by rw [hun];exact hS) 6 7 ⟨by decide,by decide⟩ ⟨by decide,by decide⟩).mono ?_
  rintro e w' ⟨ad3,c3,gs,EG,KG,p3,E03,E13,d3,rfl,hV3,heg,hA3,hS'⟩
  refine ⟨_,_,rfl,hS',?_⟩
  refine J2 ?_
  have hz:¬ ((s.up5 0).c 1).st=0:=(by rw [hum];exact of_decide_eq_true hth)
  have hgl:=BS heg
  have hgb:=DT (s.up5 0) 1 6 7 ⟨#[]⟩
  have e1:s.BD 0=(s.up5 0).gone 1:=if_neg hz
  refine WE.mid ⟨p3,E03,E13,d3,ad3,c3,gs,EG,KG⟩ ⟨?_,hV3,?_,by dsimp only;omega⟩ Km ?_
  · dsimp only;rw [e1];exact hA3
  · dsimp only;unfold Gs; (rw [if_neg hz,heg]) <;> rfl
  · unfold PS.L;dsimp only;rw [BP,hun];exact .refl _
  rintro ⟨p4,E04,E14,d4,ad4,c4,fs,EF,KF⟩ ⟨hA4,hV4,hes,hfl⟩
  dsimp only at hA4 hV4 hes hfl
  unfold PS.L
  dsimp only
  refine J5 ?_
  refine zB Tryz.underlying46 DI BT rfl rfl ?_
  intro g26 hg26
  refine WL.as (L':=.row g26 (efZ 4 0).cells::(EF++(KF++(.row g p4.cells::(E04++(E14++d4.L p4.gC s.now L)))))) rfl<|WL.to (L':=EF++(.row g26 (efZ 4 0).cells::(KF++(.row g p4.cells::(E04++(E14++d4.L p4.gC s.now L)))))) (fun w hS=>hS.AX )<|?_
  refine WL.AN rfl rfl rfl Tryz.underlying46 Tryz.underlying46 DI HP BT rfl rfl hV4.1 (new:=Hu [efZ 4 0]) (fun _=>⟨g26,0,rfl,fun w hS=>BZ (g:=g26) w hS⟩) rfl rfl Er (.none rfl) rfl rfl ?_
  intro ad27 c27 E27 hV27 hr27
  rw [DF] at hV27
  rw [show fs.length+1=(fs++[efZ 4 0]).length by rw [List.length_append];rfl] at hV27 ⊢
  refine J4 ?_
  refine eT1 ?_
  refine fun w' h=>⟨ad27,c27,fs++[efZ 4 0],E27,KF,p4,E04,E14,d4,rfl,⟨hV27,fun e he=>?_⟩,by rw [List.map_append];exact hes,hA4,by rw [hen];exact h.CE [.row g26 (efZ 4 0).cells] ⟩
  rcases List.mem_append.1 he with he|he
  · exact hV4.2 e he
  · obtain rfl:=List.mem_singleton.1 he
    exact M5 _ _ _
set_option maxHeartbeats 1000000 in
theorem Ry (w0 w:World) (g:Nat) (p:PeL) (s:Se) (E0 E1 L:List Ent) (d:Ck) (hA:BO g p s E0 E1 d) (hG:GF w0) (hS0:St (fun _=>False) w0 w (.row g p.cells::(E0++(E1++d.L p.gC s.now L)))) :
    Calls Tryz.prog 89 #[.pointer (some ⟨g,0,none⟩), .int .i64 1] w fun e w'=>G2 w0 w' g (Gs s 1) (s.BD 1) L e:=by
  have hc:p.c0.m=s.c0:=(congrArg Se.c0 hA.eq :)
  have hst:p.c0.st=(s.c 0).st:=(congrArg CnM.st hc :)
  have hA1:BO g ({ p with c1:={ p.c1 with st:=5 } }:PeL) (s.set 1 { s.c 1 with st:=5 }) E0 E1 d:=by
    refine ⟨?_,hA.ok,?_,?_,hA.v0,hA.v1,hA.b0,hA.b1,hA.bag⟩
    · exact (congrArg (fun z:Se=>z.set 1 { z.c 1 with st:=5 }) hA.eq :)
    all_goals first|exact hA.ok0|exact hA.ok1|exact hA.ok0.to5|exact hA.ok1.to5
  have hum:((s.up5 1).c 0).st=p.c0.st:=by
    unfold Se.up5
    rw [Kz]
    exact hst.symm
  have hun:(s.up5 1).now=s.now:=by unfold Se.up5;rw [Gw];exact FW _ _ _
  have hen:(s.BD 1).now=s.now:=by
    unfold Se.BD
    split
    · exact hun
    · rw [BP];exact hun
  refine enter Tryz.func89 rfl Tryz.ntmps89 rfl hS0 ?_
  refine J11 ?_
  refine zV (AT (lo:=1) rfl rfl rfl Tryz.underlying104 DD Er Er) rfl ?_
  refine J2 ?_
  refine WL.as (L':=.row g ({ p with c1:={ p.c1 with st:=5 } }:PeL).cells::(E0++(E1++d.L p.gC s.now L))) rfl ?_
  refine J6 ?_
  refine zK Od rfl ?_
  intro w1 hS
  refine (M3 w0 w1 g ({ p with c1:={ p.c1 with st:=5 } }:PeL) (s.set 1 { s.c 1 with st:=5 }) E0 E1 L d hA1 hS).mono ?_
  rintro e w' ⟨d2,rfl,hA2,hS'⟩
  refine ⟨_, .row g ({ p with c1:={ p.c1 with st:=5 } }:PeL).cells::(E0++(E1++d2.L p.gC s.now L)),rfl,hS',?_⟩
  refine J7 ?_
  refine WC.cut (fun y:PS=>[(5, .slice y.ad y.fs.length y.c),(1, .int .i64 1)]) (fun y=>y.L g s.now L) (fun y=>BO g y.p (s.BD 1) y.E0 y.E1 y.d∧K9 y.ad y.c y.fs y.E y.K∧y.fs.map EfL.d++[ef 4 1]=Gs s 1∧y.fs.length≤3) ?_ ?_
  refine J4 ?_
  refine zV (EM rfl rfl rfl (show _=(0:Int) from AF Et Et)) rfl ?_
  refine zk HI rfl (fun w hS=>Gu w g ({ p with c1:={ p.c1 with st:=5 } }:PeL) (hS.row (g:=g)) 0 Et) ?_
  generalize hth:decide ((({ p with c1:={ p.c1 with st:=5 } }:PeL).c 0).st≠0)=b18
  cases b18
  refine J4 ?_
  have hz:((s.up5 1).c 0).st=0:=(by rw [hum];exact Decidable.of_not_not (of_decide_eq_false hth))
  have e1:s.BD 1=s.up5 1:=if_pos hz
  refine eM ⟨({ p with c1:={ p.c1 with st:=5 } }:PeL),E0,E1,d2,none,0,[],[],[]⟩ ⟨?_,⟨Vec.nil 23,fun e he=>by cases he⟩,?_,Nat.zero_le _⟩
  · dsimp only;rw [e1];exact hA2
  · dsimp only;unfold Gs;rw [if_pos hz];rfl
  refine J6 ?_
  refine zV (EM rfl rfl rfl (show _=(0:Int) from AF Et Et)) rfl ?_
  refine zK H8 rfl ?_
  intro w1 hS
  refine (Ht w0 w1 g ({ p with c1:={ p.c1 with st:=5 } }:PeL) (s.up5 1) E0 E1 L d2 hA2 hG (by rw [hun];exact hS) 6 7 ⟨by decide,by decide⟩ ⟨by decide,by decide⟩).mono ?_
  rintro e w' ⟨ad3,c3,gs,EG,KG,p3,E03,E13,d3,rfl,hV3,heg,hA3,hS'⟩
  refine ⟨_,_,rfl,hS',?_⟩
  refine J2 ?_
  have hz:¬ ((s.up5 1).c 0).st=0:=(by rw [hum];exact of_decide_eq_true hth)
  have hgl:=BS heg
  have hgb:=DT (s.up5 1) 0 6 7 ⟨#[]⟩
  have e1:s.BD 1=(s.up5 1).gone 0:=if_neg hz
  refine WE.mid ⟨p3,E03,E13,d3,ad3,c3,gs,EG,KG⟩ ⟨?_,hV3,?_,by dsimp only;omega⟩ Km ?_
  · dsimp only;rw [e1];exact hA3
  · dsimp only;unfold Gs; (rw [if_neg hz,heg]) <;> rfl
  · unfold PS.L;dsimp only;rw [BP,hun];exact .refl _
  rintro ⟨p4,E04,E14,d4,ad4,c4,fs,EF,KF⟩ ⟨hA4,hV4,hes,hfl⟩
  dsimp only at hA4 hV4 hes hfl
  unfold PS.L
  dsimp only
  refine J5 ?_
  refine zB Tryz.underlying46 DI BT rfl rfl ?_
  intro g26 hg26
  refine WL.as (L':=.row g26 (efZ 4 1).cells::(EF++(KF++(.row g p4.cells::(E04++(E14++d4.L p4.gC s.now L)))))) rfl<|WL.to (L':=EF++(.row g26 (efZ 4 1).cells::(KF++(.row g p4.cells::(E04++(E14++d4.L p4.gC s.now L)))))) (fun w hS=>hS.AX )<|?_
  refine WL.AN rfl rfl rfl Tryz.underlying46 Tryz.underlying46 DI HP BT rfl rfl hV4.1 (new:=Hu [efZ 4 1]) (fun _=>⟨g26,0,rfl,fun w hS=>BZ (g:=g26) w hS⟩) rfl rfl Er (.none rfl) rfl rfl ?_
  intro ad27 c27 E27 hV27 hr27
  rw [DF] at hV27
  rw [show fs.length+1=(fs++[efZ 4 1]).length by rw [List.length_append];rfl] at hV27 ⊢
  refine J4 ?_
  refine eT1 ?_
  refine fun w' h=>⟨ad27,c27,fs++[efZ 4 1],E27,KF,p4,E04,E14,d4,rfl,⟨hV27,fun e he=>?_⟩,by rw [List.map_append];exact hes,hA4,by rw [hen];exact h.CE [.row g26 (efZ 4 1).cells] ⟩
  rcases List.mem_append.1 he with he|he
  · exact hV4.2 e he
  · obtain rfl:=List.mem_singleton.1 he
    exact M5 _ _ _

section
variable {P:Program}{C:World→Prop}{n:Nat}{o:Oper}{l:Kn}
theorem YO {t t' t'':TypeId}{x y z:Operand}{k:IntKind}{A B D:Int}(ho:o.op = .call { callee:=.builtin .max,args:=#[x,y,z],argTypes:=#[t,t',t''] }) (hx:ev l x=some (.int k A)) (hy:ev l y=some (.int k B)) (hz:ev l z=some (.int k D)):Val P C n l o (.int k (max (max A B) D)):=fun a w ha _=>by
  have hx':evs l [x,y,z]=some [.int k A, .int k B, .int k D]:=by simp [evs,hx,hy,hz]
  obtain ⟨cs,h⟩:=DJ (P:=P) (w:=w) (xs:=[x,y,z]) ho hx' ha
  rw [h]
  have e:(if D > (if B > A then B else A) then D else (if B > A then B else A))=max (max A B) D:=by split <;> split <;> omega
  simp [builtin,Builtin.max_,Builtin.max2, ← e]
end
theorem Rm (w:World) (g:Nat) (p:PeL) (hR:Row w g p.cells):Calls Tryz.prog 18 #[.pointer (some ⟨g,0,none⟩)] w fun e w'=>e = .returned (.int .i64 (max (max p.base p.c0.st) p.c1.st))∧Frm (fun _=>False) w w':=by
  refine enter Tryz.func18 rfl Tryz.ntmps18 rfl (St.start (fun _=>False) w) ?_
  refine J9 ?_
  refine zV (AY false rfl rfl Tryz.underlying40 rfl) rfl ?_
  refine J6 ?_
  refine cQ mixed ?_
  refine J3 ?_
  refine qV (AA rfl rfl AK (AL (fun h=>h) (hR.cell (v:=.int .i64 p.base) rfl))) rfl ?_
  refine J3 ?_
  refine qV (AT (lo:=0) rfl rfl rfl Tryz.underlying104 DD rfl Er) rfl ?_
  refine J1 ?_
  refine qV (AA rfl rfl AK (AL (fun h=>h) (hR.cell (v:=.int .i64 p.c0.st) rfl))) rfl ?_
  refine J3 ?_
  refine qV (AT (lo:=1) rfl rfl rfl Tryz.underlying104 DD rfl Er) rfl ?_
  refine J1 ?_
  refine qV (AA rfl rfl AK (AL (fun h=>h) (hR.cell (v:=.int .i64 p.c1.st) rfl))) rfl<|qV (YO rfl rfl rfl rfl) rfl<|?_
  exact Eb
def Mn (p:PeL):Int:=if p.c0.st=5 then p.c0.id else if p.c1.st=5 then p.c1.id else 0
theorem VF (w:World) (g:Nat) (p:PeL) (hR:Row w g p.cells):Calls Tryz.prog 21 #[.pointer (some ⟨g,0,none⟩)] w fun e w'=>e = .returned (.int .u32 (Mn p))∧Frm (fun _=>False) w w':=by
  by_cases h0:p.c0.st=5
  · have e:Iw p=0:=if_pos h0
    have e2:Mn p=p.c0.id:=if_pos h0
    rw [e2]
    refine enter Tryz.func21 rfl Tryz.ntmps21 rfl (St.start (fun _=>False) w) ?_
    refine J9 ?_
    refine zV (AY false rfl rfl Tryz.underlying40 rfl) rfl ?_
    refine J8 ?_
    refine zk OR rfl (fun w hS=>by have h:=L9 w g p (hS.Rz (fun h=>h) hR);rw [e] at h;exact h) ?_
    refine J7 ?_
    refine zV ((G8 rfl rfl rfl).f (Et)) rfl ?_
    refine J11 ?_
    refine zV (AT (lo:=0) rfl rfl rfl Tryz.underlying104 DD Er Er) rfl ?_
    refine J1 ?_
    refine zV (AA rfl rfl Um (AL (fun h=>h) (hR.cell (v:=.int .u32 p.c0.id) rfl))) rfl ?_
    exact Eb
  by_cases h1:p.c1.st=5
  · have e:Iw p=1:=(if_neg h0).trans (if_pos h1)
    have e2:Mn p=p.c1.id:=(if_neg h0).trans (if_pos h1)
    rw [e2]
    refine enter Tryz.func21 rfl Tryz.ntmps21 rfl (St.start (fun _=>False) w) ?_
    refine J9 ?_
    refine zV (AY false rfl rfl Tryz.underlying40 rfl) rfl ?_
    refine J8 ?_
    refine zk OR rfl (fun w hS=>by have h:=L9 w g p (hS.Rz (fun h=>h) hR);rw [e] at h;exact h) ?_
    refine J7 ?_
    refine zV ((G8 rfl rfl rfl).f (Et)) rfl ?_
    refine J11 ?_
    refine zV (AT (lo:=1) rfl rfl rfl Tryz.underlying104 DD Er Er) rfl ?_
    refine J1 ?_
    refine zV (AA rfl rfl Um (AL (fun h=>h) (hR.cell (v:=.int .u32 p.c1.id) rfl))) rfl ?_
    exact Eb
  · have e:Iw p = -1:=(if_neg h0).trans (if_neg h1)
    have e2:Mn p=0:=(if_neg h0).trans (if_neg h1)
    rw [e2]
    refine enter Tryz.func21 rfl Tryz.ntmps21 rfl (St.start (fun _=>False) w) ?_
    refine J9 ?_
    refine zV (AY false rfl rfl Tryz.underlying40 rfl) rfl ?_
    refine J8 ?_
    refine zk OR rfl (fun w hS=>by have h:=L9 w g p (hS.Rz (fun h=>h) hR);rw [e] at h;exact h) ?_
    refine J7 ?_
    refine zV ((G8 rfl rfl rfl).t (Et)) rfl ?_
    refine J10 ?_
    exact A9
theorem SR (w:World) (x:Int):Calls Tryz.prog 65 #[.int .i64 x] w fun e w'=>e = .returned (.bool (decide (1≤x∧x≤65535)))∧Frm (fun _=>False) w w':=by
  refine enter Tryz.func65 rfl Tryz.ntmps65 rfl (St.start (fun _=>False) w) ?_
  exact Bl
def Iu (asn id their hold retry:Int):List Value:=[.int .i64 asn, .int .u32 id, .int .i64 their, .int .i64 hold, .int .i64 retry]
def I9 (asn id their hold retry:Int):Prop:=(1≤asn∧asn≤65535)∧(1≤their∧their≤65535)∧id≠0∧(hold=0∨3≤hold∧hold≤65535)∧1≤retry∧retry≤65535
instance (a b c d e:Int):Decidable (I9 a b c d e):=by unfold I9;infer_instance

theorem Ou (w:World) (asn id their hold retry:Int):Calls Tryz.prog 30 #[.agg (Iu asn id their hold retry).toArray] w fun e w'=>e = .returned (.int .i64 (if I9 asn id their hold retry then 0 else 1))∧Frm (fun _=>False) w w':=by
  refine enter Tryz.func30 rfl Tryz.ntmps30 rfl (St.start (fun _=>False) w) ?_
  refine J2 ?_
  refine WL.box rfl rfl rfl (.none rfl) rfl rfl ?_
  intro g1 hg1
  refine J10 ?_
  refine zk ck_65 rfl (fun w hS=>SR w asn) ?_
  generalize h6:decide (1≤asn∧asn≤65535)=b6
  cases b6
  refine J16 ?_
  refine eT1 ?_
  have a6:=of_decide_eq_false h6
  first|exact fun w' h=>⟨by rw [if_neg Fc],h.frm⟩|exact fun w' h=>⟨by rw [if_pos Fc],h.frm⟩
  refine J9 ?_
  refine zk ck_65 rfl (fun w hS=>SR w their) ?_
  generalize h10:decide (1≤their∧their≤65535)=b10
  cases b10
  refine J16 ?_
  refine eT1 ?_
  have a6:=of_decide_eq_true h6
  have a10:=of_decide_eq_false h10
  first|exact fun w' h=>⟨by rw [if_neg Fc],h.frm⟩|exact fun w' h=>⟨by rw [if_pos Fc],h.frm⟩
  refine J8 ?_
  refine JT (fun h14=>?_) (fun h14=>?_)
  refine J12 ?_
  refine eT1 ?_
  have a6:=of_decide_eq_true h6
  have a10:=of_decide_eq_true h10
  first|exact fun w' h=>⟨by rw [if_neg Fc],h.frm⟩|exact fun w' h=>⟨by rw [if_pos Fc],h.frm⟩
  refine J8 ?_
  refine JT (fun h18=>?_) (fun h18=>?_)
  refine J3 ?_
  refine JT (fun h22=>?_) (fun h22=>?_)
  refine J18 ?_
  refine eT1 ?_
  have a6:=of_decide_eq_true h6
  have a10:=of_decide_eq_true h10
  first|exact fun w' h=>⟨by rw [if_neg Fc],h.frm⟩|exact fun w' h=>⟨by rw [if_pos Fc],h.frm⟩
  refine J3 ?_
  refine JT (fun h26=>?_) (fun h26=>?_)
  refine J14 ?_
  refine eT1 ?_
  have a6:=of_decide_eq_true h6
  have a10:=of_decide_eq_true h10
  first|exact fun w' h=>⟨by rw [if_neg Fc],h.frm⟩|exact fun w' h=>⟨by rw [if_pos Fc],h.frm⟩
  refine J10 ?_
  refine JT (fun h32=>?_) (fun h32=>?_)
  refine J17 ?_
  refine eT1 ?_
  have a6:=of_decide_eq_true h6
  have a10:=of_decide_eq_true h10
  first|exact fun w' h=>⟨by rw [if_neg Fc],h.frm⟩|exact fun w' h=>⟨by rw [if_pos Fc],h.frm⟩
  refine J3 ?_
  refine JT (fun h36=>?_) (fun h36=>?_)
  refine J13 ?_
  refine eT1 ?_
  have a6:=of_decide_eq_true h6
  have a10:=of_decide_eq_true h10
  first|exact fun w' h=>⟨by rw [if_neg Fc],h.frm⟩|exact fun w' h=>⟨by rw [if_pos Fc],h.frm⟩
  refine J14 ?_
  refine eT1 ?_
  have a6:=of_decide_eq_true h6
  have a10:=of_decide_eq_true h10
  first|exact fun w' h=>⟨by rw [if_neg Fc],h.frm⟩|exact fun w' h=>⟨by rw [if_pos Fc],h.frm⟩
  refine J18 ?_
  refine JT (fun h32=>?_) (fun h32=>?_)
  refine J17 ?_
  refine eT1 ?_
  have a6:=of_decide_eq_true h6
  have a10:=of_decide_eq_true h10
  first|exact fun w' h=>⟨by rw [if_neg Fc],h.frm⟩|exact fun w' h=>⟨by rw [if_pos Fc],h.frm⟩
  refine J3 ?_
  refine JT (fun h36=>?_) (fun h36=>?_)
  refine J13 ?_
  refine eT1 ?_
  have a6:=of_decide_eq_true h6
  have a10:=of_decide_eq_true h10
  first|exact fun w' h=>⟨by rw [if_neg Fc],h.frm⟩|exact fun w' h=>⟨by rw [if_pos Fc],h.frm⟩
  refine J14 ?_
  refine eT1 ?_
  have a6:=of_decide_eq_true h6
  have a10:=of_decide_eq_true h10
  first|exact fun w' h=>⟨by rw [if_neg Fc],h.frm⟩|exact fun w' h=>⟨by rw [if_pos Fc],h.frm⟩
def Se.new (asn id their hold retry:Int):Se:=⟨asn,id,their,hold,retry,0,CnM.zero,CnM.zero,0,[-1, -1, -1, -1, -1]⟩
theorem new_c (w0 w:World) (L:List Ent) (hS0:St (fun _=>False) w0 w L) (asn id their hold retry:Int) (hok:I9 asn id their hold retry) (hid:U32 id) :
    Calls Tryz.prog 11 #[.agg (Iu asn id their hold retry).toArray] w fun e w'=>∃ g p d,e = .returned (.tuple #[.pointer (some ⟨g,0,none⟩), .int .i64 0])∧BO g p (Se.new asn id their hold retry) [] [] d∧St (fun _=>False) w0 w' (.row g p.cells::([]++([]++d.L p.gC 0 L))):=by
  have hck:∀ w,Calls Tryz.prog 30 #[.agg (Iu asn id their hold retry).toArray] w fun e w'=>e = .returned (.int .i64 0)∧Frm (fun _=>False) w w':=fun w=>by
    have h:=Ou w asn id their hold retry
    rw [if_pos hok] at h
    exact h
  refine enter Tryz.func11 rfl Tryz.ntmps11 rfl hS0 ?_
  refine J2 ?_
  refine WL.box rfl rfl rfl (.none rfl) rfl rfl ?_
  intro g1 hg1
  refine J8 ?_
  refine zk VQ rfl (fun w hS=>hck w) ?_
  refine J6 ?_
  refine zV ((BY rfl rfl rfl).f Er) rfl ?_
  refine J6 ?_
  refine WC.held (.row g1 (Iu asn id their hold retry)::L) mixed ?_
  refine WRH.first (g:=5) [0] Es Es kp ?_
  refine J1 ?_
  refine WH.nil ?_
  refine WRH.one (g:=4) 1 Es ?_
  refine zK ck_49 rfl ?_
  intro w1 hS
  refine (New_b hS).mono ?_
  rintro e w' ⟨gC,d,rfl,hb,hS'⟩
  refine ⟨_,_,rfl,hS',?_⟩
  refine WL.ID kp ?_
  refine WRH.first (g:=3) [2] Es Es kp ?_
  refine J1 ?_
  refine WH.nil ?_
  refine WRH.one (g:=2) 3 Es ?_
  refine WL.box rfl rfl rfl (.none rfl) rfl rfl ?_
  intro g13 hg13
  refine WL.as (L':=.row g13 (PeL.cells ⟨asn,id,their,hold,retry,gC,0,CnL.zero,CnL.zero⟩)::d.L gC 0 (.row g1 (Iu asn id their hold retry)::L)) rfl<|WL.ID kp<|?_
  refine WRH.first (g:=0) [4,5] Es Es kp ?_
  refine J2 ?_
  refine WH.nil ?_
  refine WRH.done Es ?_
  refine J2 ?_
  refine eT2 ?_
  refine fun w' h=>⟨_,⟨asn,id,their,hold,retry,gC,0,CnL.zero,CnL.zero⟩,d,rfl,⟨rfl,⟨hok.2.2.2.2,?_,⟨Int.le_refl _,show (0:Int)≤2 by decide⟩,⟨Int.le_refl _,show (0:Int)≤FB by decide⟩,rfl,fun t ht=>?_,hid⟩,MJ,MJ,Vec.nil 1,Vec.nil 1,Bys.nil,Bys.nil,hb⟩,h.CE [.row g1 (Iu asn id their hold retry)]⟩
  · have:=hok.2.2.2.1
    show 0≤hold∧hold≤65535
    omega
  · left
    simpa [Se.new] using ht

def FX (asn hold id:Int):MsL:={ MsL.zero 1 with asn:=asn,hold:=hold,id:=id }
theorem M7 (w:World) (a h i:Int):(FX a h i).At w:=⟨fun i s h=>F7,(fun s h=>by cases h),fun i s h=>F7,fun i s h=>F7,⟨fun i s h=>F7,(fun s h=>by cases h),(fun h=>absurd h (Nat.lt_irrefl 0)),fun i s h=>F7,(fun s h=>by cases h)⟩⟩
theorem MW {a h i:Int}(ha:I64 a) (hh:I64 h) (hi:U32 i):(FX a h i).In :=
  have z:=HQ (k:=1) ⟨by decide,by decide⟩
  ⟨z.kind,ha,hh,hi,z.fc,z.fs,z.CS,z.gone,z.nets,z.at_,z.lens⟩
def JM:CnM:=⟨3,[],0,0,0,⟨#[]⟩,0,0⟩
def QD:CnL:=⟨3,⟨none,0,[],0,0,0,⟨#[]⟩⟩,0,0⟩
def Se.HZ (s:Se) (n:Nat):Se:={ (s.set n JM) with base:=(if n=0 then 2 else s.base),D:=s.D.set 0 (-1) }
def K1 (s:Se) (n:Nat):Prop:=s.base=0∨(s.c n).st≠0∨(n=0∧s.base≠1)
instance (s:Se) (n:Nat):Decidable (K1 s n):=by unfold K1;infer_instance
def Se.up (s:Se) (n:Nat):Se:=if K1 s n then s else (s.HZ n).due (1+n) 240
def upE (s:Se) (n:Nat):List EfD:=if K1 s n then [ef 3 n] else FN n (FX s.asn s.hold s.id)
theorem K6 (s:Se) (n:Nat):(s.HZ n).now=s.now:=FW _ _ _
theorem S0:JM.Ok:=⟨.inr ⟨show (3:Int)≤3 by decide,show (3:Int)≤5 by decide⟩,Nat.zero_le _,⟨Int.le_refl _,by decide⟩,⟨Int.le_refl _,by decide⟩,⟨Int.le_refl _,by decide⟩⟩
set_option maxHeartbeats 1000000 in
theorem up0_c (w0 w:World) (g:Nat) (p:PeL) (s:Se) (E0 E1 L:List Ent) (d:Ck) (hA:BO g p s E0 E1 d) (hG:GF w0) (hS0:St (fun _=>False) w0 w (.row g p.cells::(E0++(E1++d.L p.gC s.now L)))) (ha:I64 s.asn) :
    Calls Tryz.prog 14 #[.pointer (some ⟨g,0,none⟩), .int .i64 0] w fun e w'=>G2 w0 w' g (upE s 0) (s.up 0) L e:=by
  have hD5:=hA.ok.2.2.2.2.1
  have hhold:=hA.ok.2.1
  have hid:=hA.ok.2.2.2.2.2.2
  have hb0:p.base=s.base:=(congrArg Se.base hA.eq :)
  have hea:p.asn=s.asn:=(congrArg Se.asn hA.eq :)
  have heh:p.hold=s.hold:=(congrArg Se.hold hA.eq :)
  have hei:p.id=s.id:=(congrArg Se.id hA.eq :)
  have hc:p.c0.m=s.c0:=(congrArg Se.c0 hA.eq :)
  have hst:p.c0.st=(s.c 0).st:=(congrArg CnM.st hc :)
  refine enter Tryz.func14 rfl Tryz.ntmps14 rfl hS0 ?_
  refine J9 ?_
  refine zV (AY false rfl rfl Tryz.underlying40 rfl) rfl ?_
  refine J2 ?_
  refine zS ((BY rfl rfl rfl).f (Et)) rfl ?_
  refine J17 ?_
  refine JT (fun h19=>?_) (fun h19=>?_)
  refine J4 ?_
  generalize hth:decide ((p.c 0).st≠0)=b23
  cases b23
  exact D0
  exact D0
  ·
   refine J3 ?_
   refine zk HI rfl (fun w hS=>Gu w g p (hS.row (g:=g)) 0 Et) ?_
   generalize hth:decide ((p.c 0).st≠0)=b23
   cases b23
   ·
    refine J3 ?_
    refine zS ((AZ rfl rfl rfl).t (Et)) rfl ?_
    refine J5 ?_
    refine JT (fun h33=>?_) (fun h33=>?_)
    refine J9 ?_
    refine zB Tryz.underlying46 DI BT rfl rfl ?_
    intro g38 hg38
    refine WL.as (L':=.row g38 (efZ 3 0).cells::.row g p.cells::(E0++(E1++d.L p.gC s.now L))) rfl ?_
    refine J5 ?_
    refine eT1 ?_
    have hc:K1 s 0:=(.inr (.inr ⟨rfl,fun hh=>h33 (hb0.trans hh)⟩))
    exact Bg
    ·
     refine J11 ?_
     refine zV ((AZ rfl rfl rfl).t (Et)) rfl ?_
     refine J8 ?_
     refine WL.as (L':=.row g ({ p with base:=2 }:PeL).cells::(E0++(E1++d.L p.gC s.now L))) rfl ?_
     refine J8 ?_
     refine zK KV rfl ?_
     intro w1 hS
     refine (IG (gC:=p.gC) (now:=s.now) (R:=.row g ({ p with base:=2 }:PeL).cells::(E0++(E1++L))) (hS.AX ) hA.bag 0 Er).mono ?_
     rintro e w' ⟨b1,d1,rfl,hb1,hS'⟩
     refine ⟨_, .row g ({ p with base:=2 }:PeL).cells::([]++(E1++d1.L p.gC s.now L)),rfl,hS'.CE E0 ,?_⟩
     have hA2:BO g ({ p with base:=2,c0:=QD }:PeL) (s.HZ 0) [] E1 d1:=(by
       refine ⟨?_,⟨hA.ok.1,hA.ok.2.1,?_,hA.ok.2.2.2.1,?_,fun t ht=>?_,hA.ok.2.2.2.2.2.2⟩,?_,?_,?_,?_,?_,?_,hb1⟩
       · exact (congrArg (fun z:Se=>z.HZ 0) hA.eq :)
       · exact ⟨show (0:Int)≤2 by decide,show (2:Int)≤2 by decide⟩
       · exact (List.length_set ..).trans hD5
       · rcases List.mem_or_eq_of_mem_set ht with h|h
         · exact hA.ok.2.2.2.2.2.1 t h
         · exact .inl h
       all_goals first|exact S0|exact hA.ok0|exact hA.ok1|exact Vec.nil 1|exact hA.v0|exact hA.v1|exact Bys.nil|exact hA.b0|exact hA.b1)
     refine J9 ?_
     refine zV (AT (lo:=0) rfl rfl rfl Tryz.underlying104 DD Er Er) rfl ?_
     refine WL.H3 rfl rfl rfl rfl Nc rfl Fb (.none rfl) rfl ?_
     refine WL.as (L':=.row g ({ p with base:=2,c0:=QD }:PeL).cells::([]++(E1++d1.L p.gC s.now L))) rfl ?_
     refine J6 ?_
     refine zV (AS rfl rfl rfl (show _=(1:Int) from AF Et Et)) rfl ?_
     refine zK KT rfl ?_
     intro w1 hS
     refine (KQ w0 w1 g ({ p with base:=2,c0:=QD }:PeL) (s.HZ 0) [] E1 L d1 hA2 (by rw [K6];exact hS) 1 Er 240 Er).mono ?_
     rintro e w' ⟨d2,rfl,hA3,hS'⟩
     refine ⟨_,_,rfl,hS',?_⟩
     refine J3 ?_
     refine WC.BB mixed<|rF 6 [0,1,2,3,4,6,7,8,9,11,12,13,14]<|?_
     refine J14 ?_
     refine rA 2 [5,10,15,16] rfl ?_
     refine J5 ?_
     refine rO 1 [17]<|zK N9 rfl<|?_
     intro w1 hS
     refine (Lb w1 0 (FX p.asn p.hold p.id) (M7 _ _ _ _) (MW (by rw [hea];exact ha) (by rw [heh];unfold I64;omega) (by rw [hei];exact hid)) (hG.FA (fun h=>h) hS) (Nat.zero_le _) (Nat.zero_le _)).mono ?_
     rintro e w' ⟨ad3,c3,gs,EG,KG,rfl,hV3,heg,hS'⟩
     refine ⟨_,_,rfl,hS.join hS',?_⟩
     refine J1 ?_
     refine rF 0 [18] ?_
     refine J5 ?_
     refine eT1 ?_
     have hc:¬ K1 s 0:=(by
       rintro (h|h|⟨_,h⟩)
       · exact h19 (hb0.trans h)
       · exact of_decide_eq_false hth (fun hh=>h (hst.symm.trans hh))
       · exact h33 (fun hh=>h (hb0.symm.trans hh)))
     have e1:s.up 0=(s.HZ 0).due 1 240:=if_neg hc
     refine fun w' h=>⟨ad3,c3,gs,EG,KG,_,_,_,d2,rfl,hV3,?_,by rw [e1];exact hA3,?_⟩
     · unfold upE
       rw [if_neg hc,heg,hea,heh,hei]
       rfl
     · rw [e1]
       rw [List.append_assoc] at h
       exact h
   refine J19 ?_
   refine zB Tryz.underlying46 DI BT rfl rfl ?_
   intro g38 hg38
   refine WL.as (L':=.row g38 (efZ 3 0).cells::.row g p.cells::(E0++(E1++d.L p.gC s.now L))) rfl ?_
   refine J5 ?_
   refine eT1 ?_
   have hc:K1 s 0:=(.inr (.inl (fun hh=>of_decide_eq_true hth (hst.trans hh))))
   exact Bg
set_option maxHeartbeats 1000000 in
theorem up1_c (w0 w:World) (g:Nat) (p:PeL) (s:Se) (E0 E1 L:List Ent) (d:Ck) (hA:BO g p s E0 E1 d) (hG:GF w0) (hS0:St (fun _=>False) w0 w (.row g p.cells::(E0++(E1++d.L p.gC s.now L)))) (ha:I64 s.asn) :
    Calls Tryz.prog 14 #[.pointer (some ⟨g,0,none⟩), .int .i64 1] w fun e w'=>G2 w0 w' g (upE s 1) (s.up 1) L e:=by
  have hD5:=hA.ok.2.2.2.2.1
  have hhold:=hA.ok.2.1
  have hid:=hA.ok.2.2.2.2.2.2
  have hb0:p.base=s.base:=(congrArg Se.base hA.eq :)
  have hea:p.asn=s.asn:=(congrArg Se.asn hA.eq :)
  have heh:p.hold=s.hold:=(congrArg Se.hold hA.eq :)
  have hei:p.id=s.id:=(congrArg Se.id hA.eq :)
  have hc:p.c1.m=s.c1:=(congrArg Se.c1 hA.eq :)
  have hst:p.c1.st=(s.c 1).st:=(congrArg CnM.st hc :)
  refine enter Tryz.func14 rfl Tryz.ntmps14 rfl hS0 ?_
  refine J9 ?_
  refine zV (AY false rfl rfl Tryz.underlying40 rfl) rfl ?_
  refine J2 ?_
  refine zS ((BY rfl rfl rfl).t (Et)) rfl ?_
  refine J2 ?_
  refine zS ((BY rfl rfl rfl).f (Et)) rfl ?_
  refine J14 ?_
  refine JT (fun h19=>?_) (fun h19=>?_)
  refine J4 ?_
  generalize hth:decide ((p.c 1).st≠0)=b23
  cases b23
  exact Bj
  exact Bj
  ·
   refine J3 ?_
   refine zk HI rfl (fun w hS=>Gu w g p (hS.row (g:=g)) 1 Et) ?_
   generalize hth:decide ((p.c 1).st≠0)=b23
   cases b23
   ·
    refine J3 ?_
    refine zS ((AZ rfl rfl rfl).f (Et)) rfl ?_
    refine J17 ?_
    refine zV ((AZ rfl rfl rfl).f (Et)) rfl ?_
    refine J11 ?_
    refine zK KV rfl ?_
    intro w1 hS
    refine (IG (gC:=p.gC) (now:=s.now) (R:=.row g p.cells::(E0++(E1++L))) (hS.AX ) hA.bag 0 Er).mono ?_
    rintro e w' ⟨b1,d1,rfl,hb1,hS'⟩
    refine ⟨_, .row g p.cells::(E0++([]++d1.L p.gC s.now L)),rfl,hS'.CE E1 ,?_⟩
    have hA2:BO g ({ p with c1:=QD }:PeL) (s.HZ 1) E0 [] d1:=(by
      refine ⟨?_,⟨hA.ok.1,hA.ok.2.1,?_,hA.ok.2.2.2.1,?_,fun t ht=>?_,hA.ok.2.2.2.2.2.2⟩,?_,?_,?_,?_,?_,?_,hb1⟩
      · exact (congrArg (fun z:Se=>z.HZ 1) hA.eq :)
      · exact hA.ok.2.2.1
      · exact (List.length_set ..).trans hD5
      · rcases List.mem_or_eq_of_mem_set ht with h|h
        · exact hA.ok.2.2.2.2.2.1 t h
        · exact .inl h
      all_goals first|exact S0|exact hA.ok0|exact hA.ok1|exact Vec.nil 1|exact hA.v0|exact hA.v1|exact Bys.nil|exact hA.b0|exact hA.b1)
    refine J9 ?_
    refine zV (AT (lo:=1) rfl rfl rfl Tryz.underlying104 DD Er Er) rfl ?_
    refine WL.H3 rfl rfl rfl rfl Nc rfl Fb (.none rfl) rfl ?_
    refine WL.as (L':=.row g ({ p with c1:=QD }:PeL).cells::(E0++([]++d1.L p.gC s.now L))) rfl ?_
    refine J6 ?_
    refine zV (AS rfl rfl rfl (show _=(2:Int) from AF Et Et)) rfl ?_
    refine zK KT rfl ?_
    intro w1 hS
    refine (KQ w0 w1 g ({ p with c1:=QD }:PeL) (s.HZ 1) E0 [] L d1 hA2 (by rw [K6];exact hS) 2 Er 240 Er).mono ?_
    rintro e w' ⟨d2,rfl,hA3,hS'⟩
    refine ⟨_,_,rfl,hS',?_⟩
    refine J3 ?_
    refine WC.BB mixed<|rF 6 [0,1,2,3,4,6,7,8,9,11,12,13,14]<|?_
    refine J14 ?_
    refine rA 2 [5,10,15,16] rfl ?_
    refine J5 ?_
    refine rO 1 [17]<|zK N9 rfl<|?_
    intro w1 hS
    refine (Lb w1 1 (FX p.asn p.hold p.id) (M7 _ _ _ _) (MW (by rw [hea];exact ha) (by rw [heh];unfold I64;omega) (by rw [hei];exact hid)) (hG.FA (fun h=>h) hS) (Nat.zero_le _) (Nat.zero_le _)).mono ?_
    rintro e w' ⟨ad3,c3,gs,EG,KG,rfl,hV3,heg,hS'⟩
    refine ⟨_,_,rfl,hS.join hS',?_⟩
    refine J1 ?_
    refine rF 0 [18] ?_
    refine J5 ?_
    refine eT1 ?_
    have hc:¬ K1 s 1:=(by
      rintro (h|h|⟨h,_⟩)
      · exact h19 (hb0.trans h)
      · exact of_decide_eq_false hth (fun hh=>h (hst.symm.trans hh))
      · exact absurd h Et)
    have e1:s.up 1=(s.HZ 1).due 2 240:=if_neg hc
    refine fun w' h=>⟨ad3,c3,gs,EG,KG,_,_,_,d2,rfl,hV3,?_,by rw [e1];exact hA3,?_⟩
    · unfold upE
      rw [if_neg hc,heg,hea,heh,hei]
      rfl
    · rw [e1]
      rw [List.append_assoc] at h
      exact h
   refine J19 ?_
   refine zB Tryz.underlying46 DI BT rfl rfl ?_
   intro g38 hg38
   refine WL.as (L':=.row g38 (efZ 3 1).cells::.row g p.cells::(E0++(E1++d.L p.gC s.now L))) rfl ?_
   refine J5 ?_
   refine eT1 ?_
   have hc:K1 s 1:=(.inr (.inl (fun hh=>of_decide_eq_true hth (hst.trans hh))))
   have e1:s.up 1=s:=if_pos hc
   exact fun w' h=>⟨_,1,[efZ 3 1],_,[],p,E0,E1,d,rfl,Jo 3 1,by unfold upE;rw [if_pos hc];rfl,by rw [e1];exact hA,by rw [e1];exact h⟩
end Gq
end Go.Proofs.YtcmpamnhegndnaaGreatDoor
