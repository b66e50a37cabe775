/- Texts joined: engine, contracts and laws, in the order in which they build. -/
import Derived.ProofKit
import Derived.Test.YtcmpamnhegndnaaGreatDoorBePeerRuns
namespace Go.Proofs.YtcmpamnhegndnaaGreatDoor
open Go.RowKit

section
variable {P:Program}{w:World}

def Tree (P:Program) (w:World) (t:TypeId) (cs:List Value):Prop:=∃ (H:Type) (enc:TypeId×Value→H) (m:Nat) (x:DataW H×List MemPlace),DataW.trod enc P w 0 (fun _=>true) true m t cs=some x
def Arg (P:Program) (w:World) (t:TypeId) (v:Value):Prop:=(∃ base,Value.okWide P w .any base t v)∧Tree P w t v.cells.toList

theorem Tree.step {t:TypeId}{cs:List Value}(h:Tree P w t cs):∃ (H:Type) (enc:TypeId×Value→H) (m:Nat) (x:DataW H×List MemPlace),DataW.trodStep enc P w 0 (fun _=>true) true (DataW.trod enc P w 0 (fun _=>true) true m) t cs=some x:=by
  obtain ⟨H,enc,m,x,hx⟩:=h
  cases m with
  | zero=>simp [DataW.trod] at hx
  | succ m=>exact ⟨H,enc,m,x,hx⟩
theorem Tree.int {t:TypeId}{k:IntKind}{x:Value}(hu:P.underlying t=some (.int k)) (h:Tree P w t [x]):∃ n,x = .int k n∧(Lit.int k n).wf=true:=by
  obtain ⟨H,enc,m,y,hy⟩:=h.step
  unfold DataW.trodStep at hy
  simp only [hu] at hy
  cases x <;> simp at hy
  obtain ⟨⟨rfl,hw⟩,_⟩:=hy
  exact ⟨_,rfl,hw⟩
theorem Tree.bool {t:TypeId}{x:Value}(hu:P.underlying t=some .bool) (h:Tree P w t [x]):∃ b,x = .bool b:=by
  obtain ⟨H,enc,m,y,hy⟩:=h.step
  unfold DataW.trodStep at hy
  simp only [hu] at hy
  cases x <;> simp at hy
  exact ⟨_,rfl⟩
theorem Tree.string {t:TypeId}{x:Value}(hu:P.underlying t=some .string) (h:Tree P w t [x]):∃ s,x = .string s∧s.size≤maxLen:=by
  obtain ⟨H,enc,m,y,hy⟩:=h.step
  unfold DataW.trodStep at hy
  simp only [hu] at hy
  cases x <;> simp at hy
  exact ⟨_,rfl,hy.1⟩

theorem O8 {α β:Type}{f:α→Option β}:∀ {l:List α}{r:List β},l.mapM f=some r→∀ x∈l, ∃ y,f x=some y
  | [],_,_,x,hx=>by cases hx
  | a::l,r,h,x,hx=>by
    rw [List.mapM_cons] at h
    cases ha:f a with
    | none=>simp [ha] at h
    | some y =>
      cases hl:l.mapM f with
      | none=>simp [ha,hl] at h
      | some ys =>
        rcases List.mem_cons.1 hx with rfl|hx
        · exact ⟨y,ha⟩
        · exact O8 hl x hx

def Leaves (P:Program) (w:World):List TypeId→List Value→Prop
  | [],cs=>cs=[]
  | t::ts,cs=>∃ x xs,cs=x::xs∧Tree P w t [x]∧Leaves P w ts xs
theorem Leaves.append:∀ {ts:List TypeId}{cs:List Value}{ts':List TypeId}{cs':List Value},Leaves P w ts cs→Leaves P w ts' cs'→Leaves P w (ts++ts') (cs++cs')
  | [],cs,ts',cs',h,h'=>by
    have:cs=[]:=h
    subst this;exact h'
  | t::ts,cs,ts',cs',⟨x,xs,e,hx,hxs⟩,h'=>by
    subst e;exact ⟨x,xs++cs',rfl,hx,hxs.append h'⟩

def flat (P:Program):Nat→TypeId→List TypeId
  | 0,t=>[t]
  | n+1,t=>match P.underlying t with
    | some (.struct fs)=>fs.toList.flatMap fun f=>flat P n f.type
    | some (.array m e)=>(List.replicate m (flat P n e)).flatten
    | _=>[t]
def MS (P:Program) (total:Nat):Nat→List Field→Bool
  | k,[]=>k == total
  | k,f::fs=>f.offset == k && MS P total (k+P.cellsOf f.type) fs
def Uc (P:Program):Nat→TypeId→Bool
  | 0,_=>false
  | n+1,t=>match P.underlying t with
    | some (.struct fs)=>MS P (P.cellsOf t) 0 fs.toList && fs.toList.all fun f=>Uc P n f.type
    | some (.array m e)=>m*P.cellsOf e == P.cellsOf t && Uc P n e
    | _=>true

theorem Li {H:Type}{enc:TypeId×Value→H}{r:TypeId→List Value→Option (DataW H×List MemPlace)}{t:TypeId}{cs:List Value}{x:DataW H×List MemPlace}(hs:∀ fs,P.underlying t≠some (.struct fs)) (ha:∀ n e,P.underlying t≠some (.array n e))
    (h:DataW.trodStep enc P w 0 (fun _=>true) true r t cs=some x):∃ v,cs=[v]:=by
  unfold DataW.trodStep at h
  split at h <;> first|exact ⟨_,rfl⟩|(rename_i hu;exact absurd hu (hs _))|(rename_i hu;exact absurd hu (ha _ _))|cases h

theorem Tree.leaves:∀ (F:Nat) (t:TypeId) (cs:List Value),Uc P F t=true→Tree P w t cs→Leaves P w (flat P F t) cs
  | 0,_,_,hl,_=>by cases hl
  | F+1,t,cs,hl,h=>by
    obtain ⟨H,enc,m,x,hx⟩:=h.step
    cases hu:P.underlying t with
    | none =>
      obtain ⟨v,rfl⟩:=Li (by simp [hu]) (by simp [hu]) hx
      simp only [flat,hu]
      exact ⟨v,[],rfl,h,rfl⟩
    | some d =>
      by_cases hs:∃ fs,d = .struct fs
      · obtain ⟨fs,rfl⟩:=hs
        simp only [Uc,hu,Bool.and_eq_true] at hl
        simp only [flat,hu]
        unfold DataW.trodStep at hx
        simp only [hu] at hx
        split at hx
        · rename_i hlen
          simp only [Option.map_eq_some_iff] at hx
          obtain ⟨xs,hm,_⟩:=hx
          have hT:∀ f∈fs.toList,Tree P w f.type ((cs.drop f.offset).take (P.cellsOf f.type)):=fun f hf=>by
            obtain ⟨y,hy⟩:=O8 hm f hf
            exact ⟨H,enc,m,y,hy⟩
          have key:∀ (gs:List Field) (k:Nat),(∀ f∈gs,f∈fs.toList)→MS P (P.cellsOf t) k gs=true→Leaves P w (gs.flatMap fun f=>flat P F f.type) (cs.drop k):=by
            intro gs
            induction gs with
            | nil =>
              intro k _ hk
              have hk':k=P.cellsOf t:=by simpa [MS] using hk
              show cs.drop k=[]
              rw [List.drop_eq_nil_iff];omega
            | cons f gs ih =>
              intro k hmem hk
              simp only [MS,Bool.and_eq_true,beq_iff_eq] at hk
              have h1:=Tree.leaves F f.type _ (List.all_eq_true.1 hl.2 f (hmem f Fe)) (hT f (hmem f Fe))
              have h2:=ih (k+P.cellsOf f.type) (fun g hg=>hmem g (by simp [hg])) hk.2
              rw [hk.1] at h1
              have:=h1.append h2
              rw [List.flatMap_cons]
              have e:cs.drop k=(cs.drop k).take (P.cellsOf f.type)++cs.drop (k+P.cellsOf f.type):=by
                rw [← List.drop_drop,List.take_append_drop]
              rw [e];exact this
          have:=key fs.toList 0 (fun _ h=>h) hl.1
          rwa [List.drop_zero] at this
        · cases hx
      · by_cases ha:∃ n e,d = .array n e
        · obtain ⟨n,e,rfl⟩:=ha
          simp only [Uc,hu,Bool.and_eq_true,beq_iff_eq] at hl
          simp only [flat,hu]
          unfold DataW.trodStep at hx
          simp only [hu] at hx
          split at hx
          · rename_i hlen
            simp only [Option.map_eq_some_iff] at hx
            obtain ⟨xs,hm,_⟩:=hx
            have key:∀ j i,i+j=n→Leaves P w (List.replicate j (flat P F e)).flatten (cs.drop (i*P.cellsOf e)):=by
              intro j
              induction j with
              | zero =>
                intro i hi
                have:i=n:=by omega
                subst this
                show cs.drop _=[]
                rw [List.drop_eq_nil_iff];omega
              | succ j ih =>
                intro i hi
                obtain ⟨y,hy⟩:=O8 hm i (List.mem_range.2 Er)
                have h1:=Tree.leaves F e _ hl.2 ⟨H,enc,m,y,hy⟩
                have h2:=ih (i+1) Er
                rw [Nat.add_mul,Nat.one_mul] at h2
                have:=h1.append h2
                rw [List.replicate_succ,List.flatten_cons]
                have e2:cs.drop (i*P.cellsOf e)=(cs.drop (i*P.cellsOf e)).take (P.cellsOf e)++cs.drop (i*P.cellsOf e+P.cellsOf e):=by
                  rw [← List.drop_drop,List.take_append_drop]
                rw [e2];exact this
            have:=key n 0 Er
            rwa [Nat.zero_mul,List.drop_zero] at this
          · cases hx
        · have hs':∀ fs,P.underlying t≠some (.struct fs):=fun fs he=>hs ⟨fs,by rw [hu] at he;exact Option.some.inj he⟩
          have ha':∀ n e,P.underlying t≠some (.array n e):=fun n e he=>ha ⟨n,e,by rw [hu] at he;exact Option.some.inj he⟩
          obtain ⟨v,rfl⟩:=Li hs' ha' hx
          have hf:flat P (F+1) t=[t]:=by
            unfold flat
            split
            · rename_i fs he;exact absurd he (hs' _)
            · rename_i n e he;exact absurd he (ha' _ _)
            · rfl
          rw [hf]
          exact ⟨v,[],rfl,h,rfl⟩

/-! ### Arguments -/
theorem Arg.agg {t:TypeId}{v:Value}(h:Arg P w t v) (F:Nat){ts:List TypeId}(hl:Uc P F t=true) (hf:flat P F t=ts) (hrow:(match P.underlying t with|some (.struct _)|some (.array _ _)=>true|_=>false)=true):∃ cs,v = .agg cs.toArray∧Leaves P w ts cs:=by
  obtain ⟨⟨base,ho⟩,hT⟩:=h
  unfold Value.okWide at ho
  have:∃ cs,v = .agg cs:=by
    split at ho
    · obtain ⟨cs,rfl,_⟩:=ho;exact ⟨cs,rfl⟩
    · obtain ⟨cs,rfl,_⟩:=ho;exact ⟨cs,rfl⟩
    · rename_i h1 h2
      split at hrow
      · rename_i fs he;exact absurd he (h1 fs)
      · rename_i n e he;exact absurd he (h2 n e)
      · cases hrow
  obtain ⟨cs,rfl⟩:=this
  exact ⟨cs.toList,by simp,hf ▸ Tree.leaves F t _ hl hT⟩
theorem Pt {α β:Type}{f:α→Option β}:∀ {l:List α}{r:List β},l.mapM f=some r→r.length=l.length∧∀ (i:Nat) (x:α),l[i]?=some x→∃ y,r[i]?=some y∧f x=some y
  | [],r,h=>by
    have:r=[]:=by simpa using h.symm
    subst this;exact ⟨rfl,fun i x hx=>by simp at hx⟩
  | a::l,r,h=>by
    rw [List.mapM_cons] at h
    cases ha:f a with
    | none=>simp [ha] at h
    | some y =>
      cases hl:l.mapM f with
      | none=>simp [ha,hl] at h
      | some ys =>
        have e:r=y::ys:=by simpa [ha,hl] using h.symm
        subst e
        obtain ⟨h1,h2⟩:=Pt hl
        refine ⟨by simp [h1],fun i x hx=>?_⟩
        cases i with
        | zero =>
          have:a=x:=by simpa using hx
          subst this;exact ⟨y,rfl,ha⟩
        | succ i=>simpa using h2 i x (by simpa using hx)
theorem Pr {a:Addr}{m:Nat}{cs:List Value}(h:w.cells? 0 a m=some cs):cs.length=m∧(0<m→a.spot=none)∧w.rangeAt a.block a.off cs:=by
  unfold World.cells? at h
  rw [if_pos (Nat.zero_le _)] at h
  obtain ⟨h1,h2⟩:=Pt h
  rw [List.length_range] at h1
  have hs:0<m→a.spot=none:=fun hm=>by
    obtain ⟨y,_,hy⟩:=h2 0 0 (by rw [List.getElem?_range hm])
    simp only [Addr.add,if_true,World.cell?] at hy
    split at hy
    · cases hsp:a.spot with
      | none=>rfl
      | some s=>simp [hsp] at hy
    · cases hy
  refine ⟨h1,hs,fun i v hv=>?_⟩
  have hi:i<m:=by have:=(List.getElem?_eq_some_iff.1 hv).1;omega
  obtain ⟨y,hy,hc⟩:=h2 i i (by rw [List.getElem?_range hi])
  rw [hv] at hy
  cases hy
  have hsp:=hs Er
  unfold Addr.add at hc
  split at hc
  · rename_i h0
    subst h0
    obtain ⟨b,off,sp⟩:=a
    simp only at hsp;subst hsp;exact hc
  · exact hc
def La (P:Program) (w:World) (e s:Nat) (a:Option Addr) (len:Nat):Prop :=
  0<len→∃ b off,a=some ⟨b,off,none⟩∧∀ i,i<len→∃ cs,cs.length=s∧w.rangeAt b (off+i*s) cs∧Tree P w e cs
theorem Tree.slice {t e s:Nat}{x:Value}(hu:P.underlying t=some (.slice e)) (hs:P.cellsOf e=s) (hpos:0<s) (h:Tree P w t [x]):∃ a len cap,x = .slice a len cap∧len≤cap∧cap≤maxLen∧La P w e s a len:=by
  obtain ⟨H,enc,m,y,hy⟩:=h.step
  unfold DataW.trodStep at hy
  simp only [hu] at hy
  subst hs
  have hx:x = .slice none 0 0∨∃ a len cap,x = .slice (some a) len cap:=by
    cases x with
    | slice a len cap =>
      cases a with
      | some a=>exact .inr ⟨_,_,_,rfl⟩
      | none =>
        left
        cases len with
        | zero=>cases cap with
          | zero=>rfl
          | succ c=>simp at hy
        | succ l=>simp at hy
    | _=>simp at hy
  rcases hx with rfl|⟨a,len,cap,rfl⟩
  · exact ⟨none,0,0,rfl,Nat.le_refl _,Nat.zero_le _,fun h=>absurd h Er⟩
  · simp only at hy
    split at hy
    · rename_i hb
      refine ⟨some a,len,cap,rfl,hb.2.1,hb.2.2,fun hl=>?_⟩
      simp only [Option.bind_eq_some_iff] at hy
      obtain ⟨elems,hm,_⟩:=hy
      have hE:∀ i,i<len→∃ cs,w.cells? 0 (a.add (i*P.cellsOf e)) (P.cellsOf e)=some cs∧Tree P w e cs:=fun i hi=>by
        obtain ⟨y,_,hy⟩:=(Pt hm).2 i i (by rw [List.getElem?_range hi])
        simp only [Option.bind_eq_some_iff] at hy
        obtain ⟨cs,hc,hr⟩:=hy
        exact ⟨cs,hc,H,enc,m,y,hr⟩
      obtain ⟨cs0,hc0,_⟩:=hE 0 hl
      have hsp:a.spot=none:=by
        have:=(Pr hc0).2.1 hpos
        simpa [Addr.add] using this
      obtain ⟨b,off,sp⟩:=a
      simp only at hsp
      subst hsp
      refine ⟨b,off,rfl,fun i hi=>?_⟩
      obtain ⟨cs,hc,hT⟩:=hE i hi
      obtain ⟨k1,_,k3⟩:=Pr hc
      refine ⟨cs,k1,?_,hT⟩
      have e1:(Addr.mk b off none).add (i*P.cellsOf e)=⟨b,off+i*P.cellsOf e,none⟩:=It ..
      rw [e1] at k3
      exact k3
    · cases hy
theorem Arg.slice {t e s:Nat}{v:Value}(hu:P.underlying t=some (.slice e)) (hs:P.cellsOf e=s) (hpos:0<s) (h:Arg P w t v):∃ a len cap,v = .slice a len cap∧len≤cap∧cap≤maxLen∧La P w e s a len:=by
  obtain ⟨⟨base,ho⟩,hT⟩:=h
  obtain ⟨a,len,cap,rfl⟩:=WideShapes.okWide_slice hu ho
  exact Tree.slice hu hs hpos hT
theorem wf_u8 {n:Int}(h:(Lit.int .u8 n).wf=true):0≤n∧n≤255:=by
  simp [Lit.wf,IntKind.min,IntKind.max,IntKind.signed,IntKind.bits] at h;exact h
theorem wf_u32 {n:Int}(h:(Lit.int .u32 n).wf=true):0≤n∧n≤4294967295:=by
  simp [Lit.wf,IntKind.min,IntKind.max,IntKind.signed,IntKind.bits] at h;exact h
theorem wf_i64 {n:Int}(h:(Lit.int .i64 n).wf=true) : -9223372036854775808≤n∧n≤9223372036854775807:=by
  simp [Lit.wf,IntKind.min,IntKind.max,IntKind.signed,IntKind.bits] at h;exact h
end

section Gq
attribute [local irreducible] WL WC WE WQ WP WH WR WM WRH

def fOf (xs:List Int) (i:Nat):Int:=xs.getD i 0
theorem BJ {xs:List Int}{i:Nat}(h:i<xs.length):xs[i]?=some (fOf xs i):=by
  unfold fOf;rw [List.getD_eq_getElem?_getD,List.getElem?_eq_getElem h];rfl
theorem PX {xs:List Int}{i:Nat}{x:Int}(h:xs[i]?=some x):fOf xs i=x:=by
  unfold fOf;rw [List.getD_eq_getElem?_getD,h];rfl
theorem Ir {xs:List Int}(h:Bys xs):Byt (fOf xs):=fun i=>by
  by_cases hi:i<xs.length
  · exact h _ (List.mem_of_getElem? (BJ hi))
  · unfold fOf;rw [List.getD_eq_getElem?_getD,List.getElem?_eq_none Er];decide
theorem RdO.st {w0 w:World}{L:List Ent}{ad:Option Addr}{n:Nat}{f:Nat→Int}(h:RdO w0 ad n f) (hS:St (fun _=>False) w0 w L):RdO w ad n f:=fun hn=>by
  obtain ⟨b,o,e,hr⟩:=h hn
  exact ⟨b,o,e,hS.IW (fun h=>h) hr⟩
set_option maxHeartbeats 1000000 in
theorem ZM (w0:World) (ad:Option Addr) (n c:Nat) (f:Nat→Int) (hf:Byt f) (hr0:RdO w0 ad n f) (hn:n≤1000000) (hnc:n≤c) (C S:Int) (d:ByteArray) (hs:BX n f=(0,C,S,d)) (hC:C≠0) :
    Calls Tryz.prog 85 #[.slice ad n c] w0 fun e w'=>e = .returned (.tuple #[.agg (msgK 0).toArray, .agg (AG C S d).toArray])∧Frm (fun _=>False) w0 w':=by
  refine enter Tryz.func85 rfl Tryz.ntmps85 rfl (St.start (fun _=>False) w0) ?_
  refine J2 ?_
  refine WL.alloc rfl GM (.none rfl) rfl rfl ?_
  intro g2 hg2
  refine WL.alloc rfl CV (.none rfl) rfl rfl ?_
  intro g3 hg3
  refine J5 ?_
  refine zk Tq rfl (fun w hS=>by rw [show (Ending.returned (.tuple #[.int .i64 0, .agg (AG C S d).toArray])) = .returned (MC (BX n f)) by rw [hs];rfl];exact Rg w ad n c f hf (RdO.st hr0 hS) hn hnc) ?_
  refine J3 ?_
  refine WL.alloc rfl CV (.none rfl) rfl rfl ?_
  intro g5 hg5
  refine J9 ?_
  refine zV (Gp rfl rfl rfl DX DU rfl rfl (by exact fun h=>by injection h with h1 _;injection h1 with _ h1;exact hC h1)) rfl ?_
  exact Bq
set_option maxHeartbeats 1000000 in
theorem Xm (w0:World) (b o:Nat) (n c:Nat) (f:Nat→Int) (hf:Byt f) (hr:Rd w0 b o n f) (hn:n≤1000000) (hnc:n≤c) (h19:19≤n) (k:Int) (hs:BX n f=(k,0,0,⟨#[]⟩)) (hk:k≠n) :
    Calls Tryz.prog 85 #[.slice (some ⟨b,o,none⟩) n c] w0 fun e w'=>e = .returned (.tuple #[.agg (msgK 0).toArray, .agg (AG 1 2 (str (fun i=>f (16+i)) 2)).toArray])∧Frm (fun _=>False) w0 w':=by
  refine enter Tryz.func85 rfl Tryz.ntmps85 rfl (St.start (fun _=>False) w0) ?_
  refine J2 ?_
  refine WL.alloc rfl GM (.none rfl) rfl rfl ?_
  intro g2 hg2
  refine WL.alloc rfl CV (.none rfl) rfl rfl ?_
  intro g3 hg3
  refine J5 ?_
  refine zk Tq rfl (fun w hS=>by rw [show (Ending.returned (.tuple #[.int .i64 k, .agg (AG 0 0 ⟨#[]⟩).toArray])) = .returned (MC (BX n f)) by rw [hs];rfl];exact Rg w (some ⟨b,o,none⟩) n c f hf (fun _=>⟨b,o,rfl,hS.IW (fun h=>h) hr⟩) hn hnc) ?_
  refine J3 ?_
  refine WL.alloc rfl CV (.none rfl) rfl rfl ?_
  intro g5 hg5
  refine J9 ?_
  refine zV (EU rfl rfl rfl DX DU rfl rfl Gf) rfl ?_
  refine J11 ?_
  refine zV ((BY rfl rfl rfl).t Er) rfl ?_
  refine J7 ?_
  refine zk Pk rfl (fun w hS=>Pm w b o n c f (hS.IW (fun h=>h) hr) Er hnc) ?_
  refine J6 ?_
  refine eT2 ?_
  exact fR
end Gq


theorem Bys.flat {α:Type}{f:α→List Int}{l:List α}(h:∀ a∈l,Bys (f a)):Bys (l.flatMap f):=fun x hx=>by
  obtain ⟨a,ha,hx⟩:=List.mem_flatMap.1 hx
  exact h a ha x hx
theorem Bys.one {x:Int}(h0:0≤x) (h1:x≤255):Bys [x]:=fun y hy=>by
  rcases List.mem_cons.1 hy with rfl|hy
  · exact ⟨h0,h1⟩
  · cases hy
theorem Bys.cons {x:Int}{xs:List Int}(h0:0≤x∧x≤255) (h:Bys xs):Bys (x::xs):=(Bys.one h0.1 h0.2).app h
theorem P2 (a:Int) (n:Nat):Bys (FH a n):=fun x hx=>CO a 4 x (List.mem_of_mem_take hx)
theorem AaC (a:AtL) (t:Nat):Bys (GU a t):=by
  unfold GU
  split
  · exact CO _ _
  split
  · exact Bys.flat fun s _=>((CO _ _).app (CO _ _)).app (Bys.flat fun x _=>CO _ _)
  split
  · exact CO _ _
  split
  · exact CO _ _
  split
  · exact CO _ _
  split
  · exact (CO _ _).app (CO _ _)
  split
  · exact Bys.flat fun x _=>CO _ _
  · exact Bys.nil
theorem Te (fl t:Int){vs:List Int}(h:Bys vs):Bys (FG fl t vs):=by
  unfold FG
  split
  · exact (((CO _ _).app (CO _ _)).app (CO _ _)).app h
  · exact (((CO _ _).app (CO _ _)).app (CO _ _)).app h
theorem Wp {a:AtL}(hI:a.In):Bys (Hn a):=by
  unfold Hn
  refine Bys.app (Bys.flat fun t _=>?_) (Bys.flat fun o ho=>Te _ _ (hI.Jk o ho).2.2)
  unfold BG
  split
  · exact Te _ _ (AaC _ _)
  · exact Bys.nil
theorem QV (ps:List PfL):Bys (He ps):=Bys.flat fun _ _=>(CO _ _).app (P2 _ _)
theorem Aao (d:ByteArray):Bys (Kx d):=fun x hx=>by
  obtain ⟨b,_,rfl⟩:=List.mem_map.1 hx
  have:=b.toNat_lt
  omega
theorem Xf {m:MsL}(hI:m.In):Bys (Gx m):=by
  have hc:Bys (EZ m.CS):=Bys.flat fun c hc=>Bys.app (Bys.cons Er (Bys.one Er Er)) (hI.CS c hc).2.2
  unfold Gx
  refine Bys.app ((((Bys.one Et Et).app (CO _ _)).app (CO _ _)).app (P2 _ _)) ?_
  split
  · exact Bys.one Et Et
  · exact Bys.app (Bys.cons Er (Bys.cons Et (Bys.one Er Er))) hc
theorem P4 {m:MsL}(h:HW m=0):1≤m.kind∧m.kind≤4:=by
  unfold HW at h
  by_cases h1:m.kind=1
  · omega
  by_cases h2:m.kind=2
  · omega
  by_cases h3:m.kind=3
  · omega
  by_cases h4:m.kind=4
  · omega
  · rw [if_neg h1,if_neg h2,if_neg h3,if_neg h4] at h;exact absurd h Et
theorem AbD {m:MsL}(hI:m.In) (h:HW m=0):Bys (GV m):=by
  unfold GV
  split
  · exact Xf hI
  split
  · exact ((((CO _ _).app (QV _)).app (CO _ _)).app (Wp hI.at_)).app (QV _)
  split
  · rename_i h1 h2 h3
    unfold HW at h
    rw [if_neg h1,if_neg h2,if_pos h3] at h
    unfold Kb at h
    split at h
    · exact absurd h Et
    · exact Bys.app (Bys.cons Er (Bys.one Er Er)) (Aao _)
  · exact Bys.nil
theorem MQ {m:MsL}(h:Gr m=0):HW m=0∧19+(GV m).length≤4096:=by
  unfold Gr at h
  split at h
  · split at h
    · exact absurd h Et
    · exact ⟨by assumption,by omega⟩
  · exact absurd h (by assumption)
theorem OG (m:MsL):(DG m).length=19+(GV m).length:=by
  unfold DG
  simp only [List.length_append,AW,List.length_replicate,List.length_cons,List.length_nil]
theorem Mx {m:MsL}(hI:m.In) (h:Gr m=0):Bys (DG m):=by
  have hk:=P4 (MQ h).1
  refine Bys.app (Bys.app (Bys.app (fun x hx=>?_) (CO _ _)) (Bys.one Er Er)) (AbD hI (MQ h).1)
  rw [(List.mem_replicate.1 hx).2];decide
theorem RP {zs:List Int}{L:Nat}{k:Int}(h:∀ i,i<19→zs[i]?=if i<16 then some 255 else if i=16 then some ((L:Int) / 256 % 256) else if i=17 then some ((L:Int) % 256) else some k) (hL:L≤65535):HN (fOf zs)=true∧CC (fOf zs)=L∧fOf zs 18=k:=by
  refine ⟨Jw.2 fun i hi=>PX (by rw [h i (by omega),if_pos hi]),?_,PX (h 18 Et)⟩
  unfold CC
  rw [PX (h 16 Et),PX (h 17 Et)]
  omega

theorem DV {w:World}{b o:Nat}{xs:List Int}(h:w.rangeAt b o (u8s xs)):Rd w b o xs.length (fOf xs):=fun i hi=>h i _ (VU (BJ hi))
section Gq
attribute [local irreducible] WL WC WE WQ WP WH WR WM WRH

structure Win (w:World) (b o c:Nat) (xs:List Int):Prop where
  at_:w.rangeAt b o (u8s xs)
  bys:Bys xs
  le:xs.length≤c
theorem Win.st {w w':World}{L:List Ent}{b o c:Nat}{xs:List Int}(h:Win w b o c xs) (hS:St (fun _=>False) w w' L):Win w' b o c xs:=⟨hS.rng (fun _ h=>h) _ _ _ h.at_,h.bys,h.le⟩
theorem Win.get {w:World}{b o c i:Nat}{xs:List Int}{x:Int}(h:Win w b o c xs) (hi:xs[i]?=some x):w.cell? ⟨b,o+i*1,none⟩=some (.int .u8 x):=by rw [Nat.mul_one];exact h.at_ i _ (VU hi)
theorem Win.drop {w:World}{b o c:Nat}{xs:List Int}(h:Win w b o c xs) (k:Nat):Win w b (AV o k c 1) (c-k) (xs.drop k):=by
  refine ⟨?_,fun x hx=>h.bys x (List.mem_of_mem_drop hx),by rw [List.length_drop];have:=h.le;omega⟩
  intro j v hj
  by_cases hk:k<xs.length
  · have:=h.le
    unfold AV
    rw [if_neg Er]
    have h2:=h.at_ (k+j) v (by rw [← hj];unfold u8s;rw [List.getElem?_map,List.getElem?_map,List.getElem?_drop])
    rwa [show o+k*1+j=o+(k+j) by omega]
  · rw [List.drop_eq_nil_of_le Er] at hj;simp [u8s] at hj
theorem Win.take {w:World}{b o c:Nat}{xs:List Int}(h:Win w b o c xs) (k:Nat):Win w b o c (xs.take k):=by
  refine ⟨?_,fun x hx=>h.bys x (List.mem_of_mem_take hx),by rw [List.length_take];have:=h.le;omega⟩
  intro j v hj
  refine h.at_ j v ?_
  unfold u8s at hj ⊢
  rw [List.getElem?_map,List.getElem?_take] at hj
  rw [List.getElem?_map]
  split at hj
  · exact hj
  · cases hj
def GC (ys:List Int):Int:=fOf ys 0*16777216+fOf ys 1*65536+fOf ys 2*256+fOf ys 3
theorem CP {ys:List Int}(h:Bys ys) (i:Nat):0≤fOf ys i∧fOf ys i≤255:=Ir h i
theorem Wm {ys:List Int}(h:Bys ys):0≤GC ys∧GC ys≤4294967295:=by
  have h0:=CP h 0
  have h1:=CP h 1
  have h2:=CP h 2
  have h3:=CP h 3
  unfold GC
  omega
theorem Lm {ys:List Int}{k i:Nat}:fOf (ys.take k) i=if i<k then fOf ys i else 0:=by
  unfold fOf
  rw [List.getD_eq_getElem?_getD,List.getD_eq_getElem?_getD,List.getElem?_take]
  split <;> rfl
theorem Abb {ys:List Int}{i:Nat}(h:ys.length≤i):fOf ys i=0:=by
  unfold fOf;rw [List.getD_eq_getElem?_getD,List.getElem?_eq_none h];rfl
theorem Pg {ys:List Int}(k:Nat):GC (ys.take k)=(if 0<k then fOf ys 0 else 0)*16777216+(if 1<k then fOf ys 1 else 0)*65536+(if 2<k then fOf ys 2 else 0)*256+(if 3<k then fOf ys 3 else 0):=by
  unfold GC
  rw [Lm,Lm,Lm,Lm]
theorem or32 (i:Nat) (x y:Int) (h0:0≤x) (h1:x % 2 ^ i=0) (h2:x<4294967296) (h3:0≤y) (h4:y<2 ^ i) (h5:y<4294967296):bits .or .u32 x y=x+y :=
  bits_join .u32 32 Et (fun n h1 h2=>by rw [IntKind.wrap_u32'];omega) i x y h0 h1 Er h3 h4 Er
theorem Yr {ys:List Int}{k:Nat}{x:Int}(hk:k<4) (hx:fOf ys k=x) (hB:Bys ys):bits .or .u32 (GC (ys.take k)) (IntKind.u32.wrap (x*2 ^ (24-8*k)))=GC (ys.take (k+1)):=by
  have h0:=CP hB 0
  have h1:=CP hB 1
  have h2:=CP hB 2
  have h3:=CP hB 3
  rw [Pg,Pg]
  have:k=0∨k=1∨k=2∨k=3:=by omega
  rcases this with rfl|rfl|rfl|rfl
  · subst hx
    simp only [show ¬ (0<0) by omega,show ¬ (1<0) by omega,show ¬ (2<0) by omega,show ¬ (3<0) by omega,show 0<0+1 by omega,show ¬ (1<0+1) by omega,show ¬ (2<0+1) by omega,show ¬ (3<0+1) by omega,if_true,if_false]
    rw [show (2:Int) ^ (24-8*0)=16777216 by decide,IntKind.wrap_u32',or32 32 _ _ Er Et Er Er Er Er]
    omega
  · subst hx
    simp only [show 0<1 by omega,show ¬ (1<1) by omega,show ¬ (2<1) by omega,show ¬ (3<1) by omega,show 0<1+1 by omega,show 1<1+1 by omega,show ¬ (2<1+1) by omega,show ¬ (3<1+1) by omega,if_true,if_false]
    rw [show (2:Int) ^ (24-8*1)=65536 by decide,IntKind.wrap_u32',or32 24 _ _ Er Er Er Er Er Er]
    omega
  · subst hx
    simp only [show 0<2 by omega,show 1<2 by omega,show ¬ (2<2) by omega,show ¬ (3<2) by omega,show 0<2+1 by omega,show 1<2+1 by omega,show 2<2+1 by omega,show ¬ (3<2+1) by omega,if_true,if_false]
    rw [show (2:Int) ^ (24-8*2)=256 by decide,IntKind.wrap_u32',or32 16 _ _ Er Er Er Er Er Er]
    omega
  · subst hx
    simp only [show 0<3 by omega,show 1<3 by omega,show 2<3 by omega,show ¬ (3<3) by omega,show 0<3+1 by omega,show 1<3+1 by omega,show 2<3+1 by omega,show 3<3+1 by omega,if_true,if_false]
    rw [show (2:Int) ^ (24-8*3)=1 by decide,IntKind.wrap_u32',or32 8 _ _ Er Er Er Er Er Er]
    omega
set_option maxHeartbeats 1000000 in
theorem P3 (w:World) (b o c:Nat) (ys:List Int) (hW:Win w b o c ys) (hn:ys.length≤4) :
    Calls Tryz.prog 125 #[.slice (some ⟨b,o,none⟩) ys.length c] w fun e w'=>e = .returned (.int .u32 (GC ys))∧Frm (fun _=>False) w w':=by
  refine enter Tryz.func125 rfl Tryz.ntmps125 rfl (St.start (fun _=>False) w) ?_
  refine J19 ?_
  refine WC.loop (fun k:Nat=>[(8, .int .i64 k),(7, .int .i64 ys.length),(6, .slice (some ⟨b,o,none⟩) ys.length c),(3, .int .u32 (GC (ys.take k)))]) (fun _=>[]) (fun k=>k≤ys.length) (fun k=>ys.length-k) 0 (Nat.zero_le _) Km (.refl _) ?_
  intro k hk
  refine J2 ?_
  refine JT (fun h9=>?_) (fun h9=>?_)
  refine J11 ?_
  obtain ⟨x,hx⟩:∃ x,ys[k]?=some x:=⟨ys[k]' Er,List.getElem?_eq_getElem _⟩
  have hxb:=hW.bys x (List.mem_of_getElem? hx)
  have hfx:=PX hx
  refine zV (AB (lo:=k) rfl rfl rfl Tryz.underlying25 AO Er Er) rfl ?_
  refine zV (AA rfl rfl BH (AL (fun h=>h) (hW.get hx))) rfl ?_
  refine J7 ?_
  refine zV (AQ rfl rfl Tryz.underlying23 Tryz.underlying5 Fm) rfl ?_
  refine J1 ?_
  refine zV (FY rfl rfl rfl (show _=((8*k:Nat):Int) from (AF Er Er).trans Er)) rfl ?_
  refine zV (EM rfl rfl rfl (show _=((24-8*k:Nat):Int) from (AF Er Er).trans Er)) rfl ?_
  refine zV ((OT (m:=24-8*k) (c:=(2:Int) ^ (24-8*k)) rfl rfl rfl rfl (by show 24-8*k≤32;omega) rfl rfl)) rfl ?_
  refine zV (Uz rfl rfl rfl (show _=GC (ys.take (k+1)) from Yr Er hfx hW.bys)) rfl ?_
  exact Bp
  exact By
theorem Win.get2 {w:World}{b o c:Nat}{xs:List Int}(h:Win w b o c xs) (hn:2≤xs.length):Calls Tryz.prog 110 #[.slice (some ⟨b,o,none⟩) xs.length c] w fun e w'=>e = .returned (.int .i64 (fOf xs 0*256+fOf xs 1))∧Frm (fun _=>False) w w' :=
  Zy w b o xs.length c (fOf xs) (Ir h.bys) (DV h.at_) hn
def To (b o c k n:Nat):Value:=.slice (some ⟨b,AV o k c 1,none⟩) n (c-k)
theorem Ur (w:World) (b o c:Nat) (xs:List Int) (hW:Win w b o c xs) (hn:xs.length≤1000000) (h:xs.length<2∨(xs.length:Int)<2+(fOf xs 0*256+fOf xs 1)) :
    Calls Tryz.prog 127 #[.slice (some ⟨b,o,none⟩) xs.length c] w fun e w'=>e = .returned (.tuple #[.slice none 0 0, .slice none 0 0, .bool false])∧Frm (fun _=>False) w w':=by
  have b0:=CP hW.bys 0
  have b1:=CP hW.bys 1
  refine enter Tryz.func127 rfl Tryz.ntmps127 rfl (St.start (fun _=>False) w) ?_
  refine J12 ?_
  refine JT (fun h8=>?_) (fun h8=>?_)
  refine J20 ?_
  refine eT3 ?_
  exact fR
  refine J4 ?_
  refine zk Nj rfl (fun w hS=>(hW.st hS).get2 Er) ?_
  refine J1 ?_
  refine zS ((G8 rfl rfl rfl).t Er) rfl ?_
  refine J13 ?_
  refine eT3 ?_
  exact fR
theorem Ub (w:World) (b o c:Nat) (xs:List Int) (hW:Win w b o c xs) (hn:xs.length≤1000000) (h2:2≤xs.length) (k:Nat) (hk:(k:Int)=fOf xs 0*256+fOf xs 1) (h:2+k≤xs.length) :
    Calls Tryz.prog 127 #[.slice (some ⟨b,o,none⟩) xs.length c] w fun e w'=>e = .returned (.tuple #[To b o c 2 (2+k-2),To b o c (2+k) (xs.length-(2+k)), .bool true])∧Frm (fun _=>False) w w':=by
  have b0:=CP hW.bys 0
  have b1:=CP hW.bys 1
  have hle:=hW.le
  refine enter Tryz.func127 rfl Tryz.ntmps127 rfl (St.start (fun _=>False) w) ?_
  refine J12 ?_
  refine zV ((G8 rfl rfl rfl).f Er) rfl ?_
  refine J4 ?_
  refine zk Nj rfl (fun w hS=>(hW.st hS).get2 Er) ?_
  refine J1 ?_
  refine zS ((G8 rfl rfl rfl).f Er) rfl ?_
  refine J9 ?_
  refine zk Nj rfl (fun w hS=>(hW.st hS).get2 Er) ?_
  refine zV (AS rfl rfl rfl (show _=((2+k:Nat):Int) from (AF Er Er).trans Er)) rfl ?_
  refine J4 ?_
  refine cQ mixed ?_
  refine J2 ?_
  refine qV ((CN (lo:=2) (hi:=2+k) rfl rfl rfl rfl Tryz.underlying25 AO rfl rfl Er Er)) rfl ?_
  refine J2 ?_
  refine qV ((BW (lo:=2+k) rfl rfl rfl Tryz.underlying25 AO rfl Er)) rfl ?_
  refine J6 ?_
  refine eT3 ?_
  exact fR

theorem AbW (w:World) (b o c:Nat) (xs:List Int) (hW:Win w b o c xs) (hn:xs.length≤1000000) (h:xs.length<2∨(xs.length:Int)<2+fOf xs 1) :
    Calls Tryz.prog 126 #[.slice (some ⟨b,o,none⟩) xs.length c] w fun e w'=>e = .returned (.tuple #[.int .i64 0, .slice none 0 0, .slice none 0 0, .bool false])∧Frm (fun _=>False) w w':=by
  have b1:=CP hW.bys 1
  refine enter Tryz.func126 rfl Tryz.ntmps126 rfl (St.start (fun _=>False) w) ?_
  refine J13 ?_
  refine JT (fun h9=>?_) (fun h9=>?_)
  refine J23 ?_
  exact Cd
  refine J4 ?_
  refine zS (AB (lo:=1) rfl rfl rfl Tryz.underlying25 AO rfl Er) rfl ?_
  refine zS (AA rfl rfl BH (AL (fun h=>h) (hW.get (BJ Er)))) rfl ?_
  refine zS (AQ rfl rfl Tryz.underlying3 Tryz.underlying5 (AF Er Er)) rfl ?_
  refine J1 ?_
  refine zS ((G8 rfl rfl rfl).t Er) rfl ?_
  refine J14 ?_
  exact Cd
theorem Acr (w:World) (b o c:Nat) (xs:List Int) (hW:Win w b o c xs) (hn:xs.length≤1000000) (h2:2≤xs.length) (k:Nat) (hk:(k:Int)=fOf xs 1) (h:2+k≤xs.length) :
    Calls Tryz.prog 126 #[.slice (some ⟨b,o,none⟩) xs.length c] w fun e w'=>e = .returned (.tuple #[.int .i64 (fOf xs 0),To b o c 2 (2+k-2),To b o c (2+k) (xs.length-(2+k)), .bool true])∧Frm (fun _=>False) w w':=by
  have b0:=CP hW.bys 0
  have b1:=CP hW.bys 1
  have hle:=hW.le
  refine enter Tryz.func126 rfl Tryz.ntmps126 rfl (St.start (fun _=>False) w) ?_
  refine J13 ?_
  refine zV ((G8 rfl rfl rfl).f Er) rfl ?_
  refine J4 ?_
  refine zS (AB (lo:=1) rfl rfl rfl Tryz.underlying25 AO rfl Er) rfl ?_
  refine zS (AA rfl rfl BH (AL (fun h=>h) (hW.get (BJ Er)))) rfl ?_
  refine zS (AQ rfl rfl Tryz.underlying3 Tryz.underlying5 (AF Er Er)) rfl ?_
  refine J1 ?_
  refine zS ((G8 rfl rfl rfl).f Er) rfl ?_
  refine J9 ?_
  refine zV (AB (lo:=1) rfl rfl rfl Tryz.underlying25 AO rfl Er) rfl ?_
  refine zV (AA rfl rfl BH (AL (fun h=>h) (hW.get (BJ Er)))) rfl ?_
  refine zV (AQ rfl rfl Tryz.underlying3 Tryz.underlying5 (AF Er Er)) rfl ?_
  refine zV (AS rfl rfl rfl (show _=((2+k:Nat):Int) from (AF Er Er).trans Er)) rfl ?_
  refine J4 ?_
  refine cQ mixed ?_
  refine J1 ?_
  refine qV (AB (lo:=0) rfl rfl rfl Tryz.underlying25 AO rfl Er) rfl ?_
  refine qV (AA rfl rfl BH (AL (fun h=>h) (hW.get (BJ Er)))) rfl ?_
  refine qV (AQ rfl rfl Tryz.underlying3 Tryz.underlying5 (AF Er Er)) rfl ?_
  refine J2 ?_
  refine qV ((CN (lo:=2) (hi:=2+k) rfl rfl rfl rfl Tryz.underlying25 AO rfl rfl Er Er)) rfl ?_
  refine J2 ?_
  refine qV ((BW (lo:=2+k) rfl rfl rfl Tryz.underlying25 AO rfl Er)) rfl ?_
  refine J7 ?_
  exact Cd
def CR (x:Int):Nat:=(x.toNat+7) / 8
def DS:List Int→Option (List PfL)
  | []=>some []
  | x::xs=>if 32<x∨xs.length<CR x then none else (DS (xs.drop (CR x))).map (⟨EK (GC (xs.take (CR x))) x,inI x⟩ :: ·)
termination_by xs=>xs.length
decreasing_by simp only [List.length_drop,List.length_cons];omega
theorem Kw (x:Int) (xs:List Int):DS (x::xs)=if 32<x∨xs.length<CR x then none else (DS (xs.drop (CR x))).map (⟨EK (GC (xs.take (CR x))) x,inI x⟩ :: ·):=by rw [DS]
def NR (ps:List PfL):List Value:=ps.flatMap PfL.cells
theorem QP (ps:List PfL) (p:PfL):NR (ps++[p])=NR ps++p.cells:=by unfold NR;rw [List.flatMap_append,List.flatMap_cons,List.flatMap_nil,List.append_nil]
theorem PfL.cells_one (p:PfL):p.cells.all one=true:=rfl
def NetsP (w w':World) (r:Option (List PfL)) (e:Ending):Prop :=
  match r with
  | none=>e = .returned (.tuple #[.slice none 0 0, .bool false])∧Frm (fun _=>False) w w'
  | some ps=>∃ ad c E,e = .returned (.tuple #[.slice ad ps.length c, .bool true])∧Vec 2 ad ps.length c (NR ps) E∧St (fun _=>False) w w' E
set_option maxHeartbeats 1000000 in
theorem XV (w0:World) (b o c:Nat) (xs:List Int) (hW:Win w0 b o c xs) (hn:xs.length≤100000) :
    Calls Tryz.prog 128 #[.slice (some ⟨b,o,none⟩) xs.length c] w0 fun e w'=>NetsP w0 w' (DS xs) e:=by
  refine enter Tryz.func128 rfl Tryz.ntmps128 rfl (St.start (fun _=>False) w0) ?_
  refine J13 ?_
  refine WC.loop (fun x:List Int×Nat×Nat×List PfL×Option Addr×Nat×List Ent=>[(0, .slice (some ⟨b,x.2.1,none⟩) x.1.length x.2.2.1),(4, .slice x.2.2.2.2.1 x.2.2.2.1.length x.2.2.2.2.2.1)]) (fun x=>x.2.2.2.2.2.2++[]) (fun x=>x.1.length+x.2.2.2.1.length≤xs.length∧Win w0 b x.2.1 x.2.2.1 x.1∧DS xs=(DS x.1).map (x.2.2.2.1 ++ ·)∧Vec 2 x.2.2.2.2.1 x.2.2.2.1.length x.2.2.2.2.2.1 (NR x.2.2.2.1) x.2.2.2.2.2.2) (fun x=>x.1.length) (xs,o,c,[],none,0,[]) ⟨Nat.le_refl _,hW,by dsimp only;cases DS xs <;> rfl,Vec.nil 2⟩ Km (.refl _) ?_
  rintro ⟨ys,o2,c2,ps,ad,cc,E⟩ ⟨hl,hW2,hy,hV⟩
  dsimp only at hl hW2 hy hV
  dsimp only
  refine J5 ?_
  refine JT (fun h8=>?_) (fun h8=>?_)
  refine J9 ?_
  obtain ⟨x,zs,rfl⟩:∃ x zs,ys=x::zs:=(by cases ys with|nil=>exact absurd h8 (by simp)|cons x zs=>exact ⟨x,zs,rfl⟩)
  have hxb:=hW2.bys x (List.mem_cons_self ..)
  have hle:=hW2.le
  rw [List.length_cons] at hl hle
  rw [Kw] at hy
  have hcl:(x::zs).length=zs.length+1:=List.length_cons ..
  refine zV (AB (lo:=0) rfl rfl rfl Tryz.underlying25 AO rfl Er) rfl ?_
  refine zV (AA rfl rfl BH (AL (fun h=>h) (hW2.get (i:=0) rfl))) rfl ?_
  refine zV (AQ rfl rfl Tryz.underlying3 Tryz.underlying5 (AF Er Er)) rfl ?_
  refine zk Zn rfl (fun w hS=>V7 w x Er Er) ?_
  refine zV (AS rfl rfl rfl (show _=((1+CR x:Nat):Int) from (AF Er Er).trans (by unfold CR;omega))) rfl ?_
  refine J7 ?_
  refine zV (AB (lo:=0) rfl rfl rfl Tryz.underlying25 AO rfl Er) rfl ?_
  refine zV (AA rfl rfl BH (AL (fun h=>h) (hW2.get (i:=0) rfl))) rfl ?_
  refine JT (fun h18=>?_) (fun h18=>?_)
  refine J21 ?_
  exact Dc
  refine J4 ?_
  refine JT (fun h23=>?_) (fun h23=>?_)
  refine J16 ?_
  exact Dc
  refine J7 ?_
  refine WC.BB mixed<|rF 7 [0,1,2,3,5,6]<|?_
  have hm:CR x≤4:=(by unfold CR;omega)
  have htl:(zs.take (CR x)).length=CR x:=Fy
  have hWt:=((hW2.take (1+CR x)).drop 1)
  have htk:((x::zs).take (1+CR x)).drop 1=zs.take (CR x):=(by rw [show 1+CR x=CR x+1 by omega,List.take_succ_cons];rfl)
  rw [htk] at hWt
  have hab:=Wm hWt.bys
  rw [if_neg Er] at hy
  refine J3 ?_
  refine pV ((CN (lo:=1) (hi:=1+CR x) rfl rfl rfl rfl Tryz.underlying25 AO rfl rfl Er Er)) rfl ?_
  rw [show 1+CR x-1=(zs.take (CR x)).length by omega]
  refine J1 ?_
  refine pV (AB (lo:=0) rfl rfl rfl Tryz.underlying25 AO rfl Er) rfl ?_
  refine J1 ?_
  refine rA 3 [4,7,8,9] rfl ?_
  refine WQ.call _ rfl rfl Za (.none rfl) rfl rfl (fun w hS=>Calls.still (P3 w b (AV o2 1 c2 1) (c2-1) _ (hWt.st hS) Er) hS) ?_
  refine qV (AA rfl rfl BH (AL (fun h=>h) (hW2.get (i:=0) rfl))) rfl ?_
  refine qV (AQ rfl rfl Tryz.underlying3 Tryz.underlying5 (AF Er Er)) rfl ?_
  refine WQ.call _ rfl rfl T6 (.none rfl) rfl rfl (fun w hS=>Calls.still (Of_c w _ x hab.1 hab.2) hS) ?_
  refine J1 ?_
  refine rO 1 [10,11]<|zB Tryz.underlying30 Ng JU rfl rfl<|?_
  intro g35 hg35
  refine WL.as (L':=.row g35 (PfL.cells ⟨EK (GC (zs.take (CR x))) x,inI x⟩)::(E++[])) rfl<|WL.to (L':=E++[.row g35 (PfL.cells ⟨EK (GC (zs.take (CR x))) x,inI x⟩)]) (fun w hS=>hS.front [_])<|?_
  refine WL.AN rfl rfl rfl Tryz.underlying30 Tryz.underlying30 Ng by_177 JU rfl rfl hV (new:=PfL.cells ⟨EK (GC (zs.take (CR x))) x,inI x⟩) (fun _=>⟨g35,0,rfl,fun w hS=>BZ (g:=g35) w hS⟩) rfl (PfL.cells_one _) Er (.none rfl) rfl rfl ?_
  intro ad36 c36 E36 hV36 hr36
  rw [← QP] at hV36
  rw [show ps.length+1=(ps++[(⟨EK (GC (zs.take (CR x))) x,inI x⟩:PfL)]).length by rw [List.length_append];rfl] at hV36 ⊢
  refine J1 ?_
  refine rF 0 [12] ?_
  refine J7 ?_
  refine zV ((BW (lo:=1+CR x) rfl rfl rfl Tryz.underlying25 AO rfl (by rw [List.length_cons];omega))) rfl ?_
  refine J3 ?_
  have hd:(x::zs).drop (1+CR x)=zs.drop (CR x):=(by rw [show 1+CR x=CR x+1 by omega];rfl)
  have hWd:=hW2.drop (1+CR x)
  rw [hd] at hWd
  exact WE.next (zs.drop (CR x),AV o2 (1+CR x) c2 1,c2-(1+CR x),ps++[⟨EK (GC (zs.take (CR x))) x,inI x⟩],ad36,c36,E36) Fs ⟨by dsimp only;rw [List.length_drop,List.length_append,List.length_cons,List.length_nil];omega,hWd,by
    dsimp only
    rw [hy]
    cases DS (zs.drop (CR x)) with
    | none=>rfl
    | some r=>simp [Option.map],hV36⟩ (.eq rfl (by dsimp only;rw [List.length_drop,List.length_cons];congr 1;omega) (.cons rfl .nil)) (List.Sublist.append_left (List.nil_sublist _) _)
  refine J16 ?_
  refine eT2 ?_
  obtain rfl:ys=[]:=List.length_eq_zero_iff.1 Er
  have e0:DS xs=some ps:=(by rw [hy,DS];simp)
  rw [e0]
  exact fun w' h=>⟨ad,cc,E,rfl,hV,h.sub (List.sublist_append_left _ _)⟩

def AJ (ys:List Int):Int:=ys.foldl (fun n y=>n*256+y) 0
theorem Mb (ys:List Int) (y:Int):AJ (ys++[y])=AJ ys*256+y:=by unfold AJ;rw [List.foldl_append];rfl
theorem IQ:∀ (k:Nat) (ys:List Int),ys.length=k→Bys ys→0≤AJ ys∧AJ ys<(256:Int) ^ k:=by
  intro k
  induction k with
  | zero=>intro ys h _;rw [List.length_eq_zero_iff.1 h];decide
  | succ k ih =>
    intro ys h hB
    have hne:ys≠[]:=fun e=>by rw [e] at h;cases h
    obtain ⟨zs,z,rfl⟩:∃ zs z,ys=zs++[z]:=⟨ys.dropLast,ys.getLast hne,(List.dropLast_concat_getLast hne).symm⟩
    rw [List.length_append,List.length_cons,List.length_nil] at h
    have h1:=ih zs Er (fun x hx=>hB x (List.mem_append_left _ hx))
    have h2:=hB z (List.mem_append_right _ (List.mem_cons_self ..))
    rw [Mb,Int.pow_succ]
    omega
set_option maxHeartbeats 1000000 in
theorem I3 (w:World) (b o c:Nat) (ys:List Int) (hW:Win w b o c ys) (hn:ys.length≤6) :
    Calls Tryz.prog 142 #[.slice (some ⟨b,o,none⟩) ys.length c] w fun e w'=>e = .returned (.int .i64 (AJ ys))∧Frm (fun _=>False) w w':=by
  refine enter Tryz.func142 rfl Tryz.ntmps142 rfl (St.start (fun _=>False) w) ?_
  refine J19 ?_
  refine WC.loop (fun k:Nat=>[(8, .int .i64 k),(7, .int .i64 ys.length),(6, .slice (some ⟨b,o,none⟩) ys.length c),(3, .int .i64 (AJ (ys.take k)))]) (fun _=>[]) (fun k=>k≤ys.length) (fun k=>ys.length-k) 0 (Nat.zero_le _) Km (.refl _) ?_
  intro k hk
  refine J2 ?_
  refine JT (fun h9=>?_) (fun h9=>?_)
  refine J10 ?_
  obtain ⟨x,hx⟩:∃ x,ys[k]?=some x:=⟨ys[k]' Er,List.getElem?_eq_getElem _⟩
  have hxb:=hW.bys x (List.mem_of_getElem? hx)
  have htl:(ys.take k).length=k:=Fy
  have hrb:=IQ k (ys.take k) htl (fun x hx=>hW.bys x (List.mem_of_mem_take hx))
  have hp:(256:Int) ^ k≤256 ^ 5:=(by
    have:k=0∨k=1∨k=2∨k=3∨k=4∨k=5:=by omega
    rcases this with rfl|rfl|rfl|rfl|rfl|rfl <;> decide)
  have hp5:(256:Int) ^ 5=1099511627776:=Et
  refine zV (AB (lo:=k) rfl rfl rfl Tryz.underlying25 AO Er Er) rfl ?_
  refine zV (AA rfl rfl BH (AL (fun h=>h) (hW.get hx))) rfl ?_
  refine J5 ?_
  refine zV (OT (m:=8) (c:=256) rfl rfl rfl rfl Et Et (AF Er Er)) rfl ?_
  refine J1 ?_
  refine zV (AQ rfl rfl Tryz.underlying3 Tryz.underlying5 (AF Er Er)) rfl ?_
  refine WL.val (Uz rfl rfl rfl (show _=AJ (ys.take (k+1)) from by
  rw [GW hx,Mb]
  exact bits_join .i64 63 Et (fun n h1 h2=>AF Er Er) 8 _ _ Er Er Er Er Er Er)) (.none rfl) rfl rfl ?_
  exact Bp
  exact By
theorem AaK:∀ n:Nat,n<256→bits .and .u8 (n:Int) 16=(n:Int) / 16 % 2*16∧bits .and .u8 (n:Int) 32=(n:Int) / 32 % 2*32∧bits .and .u8 (n:Int) 64=(n:Int) / 64 % 2*64∧bits .and .u8 (n:Int) 128=(n:Int) / 128 % 2*128∧bits .and .i64 (n:Int) 192=(n:Int) / 64*64:=by
  set_option maxRecDepth 20000 in decide
def BC (xs:List Int):Nat:=if fOf xs 0 / 16 % 2=1 then 4 else 3
def toN (xs:List Int):Nat:=BC xs+(AJ ((xs.take (BC xs)).drop 2)).toNat
def cutV (xs:List Int):Value:=if xs.length<BC xs then .tuple #[.int .i64 0, .int .i64 0, .bool false] else .tuple #[.int .i64 (BC xs), .int .i64 (toN xs), .bool (decide (toN xs≤xs.length))]
theorem and16 {x:Int}(h:0≤x∧x≤255):bits .and .u8 x 16=x / 16 % 2*16:=by
  obtain ⟨n,rfl⟩:=Int.eq_ofNat_of_zero_le h.1
  exact (AaK n Er).1
set_option maxHeartbeats 1000000 in
theorem cut_c (w:World) (b o c:Nat) (xs:List Int) (hW:Win w b o c xs) (hn:xs.length≤1000000) :
    Calls Tryz.prog 136 #[.slice (some ⟨b,o,none⟩) xs.length c] w fun e w'=>e = .returned (cutV xs)∧Frm (fun _=>False) w w':=by
  have h0:=CP hW.bys 0
  have hle:=hW.le
  refine enter Tryz.func136 rfl Tryz.ntmps136 rfl (St.start (fun _=>False) w) ?_
  refine J12 ?_
  refine WC.cut (fun _:Unit=>[(5, .int .i64 (BC xs)),(0, .slice (some ⟨b,o,none⟩) xs.length c)]) (fun _=>[]) (fun _=>True) ?_ ?_
  refine J4 ?_
  refine JT (fun h9=>?_) (fun h9=>?_)
  refine J2 ?_
  refine zS (AB (lo:=0) rfl rfl rfl Tryz.underlying25 AO rfl Er) rfl ?_
  refine zS (AA rfl rfl BH (AL (fun h=>h) (hW.get (BJ Er)))) rfl ?_
  refine zS (J0 rfl rfl rfl (and16 h0)) rfl ?_
  refine JT (fun h15=>?_) (fun h15=>?_)
  refine J7 ?_
  exact eM () trivial (.eq rfl (by unfold BC;rw [if_pos (by omega)];rfl) (.cons rfl .nil))
  refine J5 ?_
  exact eM () trivial (.eq rfl (by unfold BC;rw [if_neg (by omega)];rfl) (.cons rfl .nil))
  refine J11 ?_
  exact eM () trivial (.eq rfl (by unfold BC;rw [Abb (by omega)];rfl) (.cons rfl .nil))
  intro _ _
  have hfr:3≤BC xs∧BC xs≤4:=(by unfold BC;split <;> omega)
  refine J6 ?_
  refine JT (fun h20=>?_) (fun h20=>?_)
  refine J12 ?_
  refine eT3 ?_
  exact fun w' h=>⟨by unfold cutV;rw [if_pos Er],h.frm⟩
  refine J10 ?_
  have htl:((xs.take (BC xs)).drop 2).length=BC xs-2:=(by rw [List.length_drop,List.length_take,Nat.min_eq_left (by omega)])
  have hWt:=((hW.take (BC xs)).drop 2)
  have hrb:=IQ _ _ htl hWt.bys
  have hp:(256:Int) ^ (BC xs-2)≤65536:=(by
    have:BC xs-2=1∨BC xs-2=2:=by omega
    rcases this with e|e <;> rw [e] <;> decide)
  have hto:(toN xs:Int)=BC xs+AJ ((xs.take (BC xs)).drop 2):=(by unfold toN;omega)
  refine zV ((CN (lo:=2) (hi:=BC xs) rfl rfl rfl rfl Tryz.underlying25 AO rfl rfl Er Er)) rfl ?_
  rw [← htl]
  refine zk Jg rfl (fun w hS=>I3 w b (AV o 2 c 1) (c-2) _ (hWt.st hS) Er) ?_
  refine zV (AS rfl rfl rfl (show _=(toN xs:Int) from (AF Er Er).trans hto.symm)) rfl ?_
  refine J10 ?_
  refine zV (O9 rfl rfl rfl) rfl ?_
  refine J6 ?_
  refine eT3 ?_
  exact fun w' h=>⟨by unfold cutV;rw [if_neg Er];simp only [Int.ofNat_le],h.frm⟩

def Kp (K:List Ent) (s:DO):Prop:=∃ E,Vec 1 s.ad s.asl.length s.cap (CG s.asl) E∧∀ e∈E,e∈K
def IL (ss:List DO):List Value:=ss.flatMap DO.cells
theorem OQ (ss:List DO) (s:DO):IL (ss++[s])=IL ss++s.cells:=by unfold IL;rw [List.flatMap_append,List.flatMap_cons,List.flatMap_nil,List.append_nil]
theorem QH:∀ {ss:List DO}{i:Nat}{s:DO},ss[i]?=some s→∀ (j:Nat) (v:Value),s.cells[j]?=some v→(IL ss)[i*2+j]?=some v
  | t::ss,0,s,h,j,v,hj=>by
    simp only [List.getElem?_cons_zero,Option.some.injEq] at h
    subst h
    have hlt:j<t.cells.length:=(List.getElem?_eq_some_iff.1 hj).1
    unfold IL
    rw [List.flatMap_cons,Nat.zero_mul,Nat.zero_add,List.getElem?_append_left hlt]
    exact hj
  | t::ss,i+1,s,h,j,v,hj=>by
    rw [List.getElem?_cons_succ] at h
    have ih:=QH h j v hj
    unfold IL at ih ⊢
    rw [List.flatMap_cons,List.getElem?_append_right (by show 2≤_;omega)]
    rw [show (i+1)*2+j-t.cells.length=i*2+j by show (i+1)*2+j-2=_;omega]
    exact ih
def DN:List Int→Option (List (Bool×List Int))
  | []=>some []
  | [_]=>none
  | x::n::xs=>if x≠1∧x≠2∨xs.length<2*n.toNat then none else (DN (xs.drop (2*n.toNat))).map ((decide (x=1),(List.range n.toNat).map fun i=>AJ ((xs.drop (2*i)).take 2)) :: ·)
termination_by xs=>xs.length
decreasing_by simp only [List.length_drop,List.length_cons];omega
def Ik (s:DO):Bool×List Int:=(s.set,s.asl)
def PathP (w w':World) (r:Option (List (Bool×List Int))) (e:Ending):Prop :=
  match r with
  | none=>e = .returned (.tuple #[.slice none 0 0, .bool false])∧Frm (fun _=>False) w w'
  | some ps=>∃ ss ad c E K,e = .returned (.tuple #[.slice ad ss.length c, .bool (ss.all Ji)])∧ss.map Ik=ps∧Vec 2 ad ss.length c (IL ss) E∧(∀ s∈ss,Kp K s)∧St (fun _=>False) w w' (E++K)
theorem HA (x n:Int) (xs:List Int):DN (x::n::xs)=if x≠1∧x≠2∨xs.length<2*n.toNat then none else (DN (xs.drop (2*n.toNat))).map ((decide (x=1),(List.range n.toNat).map fun i=>AJ ((xs.drop (2*i)).take 2)) :: ·):=by rw [DN]
theorem OY {ys:List Int}(h:2≤ys.length):∃ x n zs,ys=x::n::zs:=by
  match ys,h with
  | x::n::zs,_=>exact ⟨x,n,zs,rfl⟩
theorem Yj {ys:List Int}(h0:0<ys.length) (h:ys.length<2∨(fOf ys 0≠1∧fOf ys 0≠2)):DN ys=none:=by
  by_cases h2:ys.length<2
  · match ys,h0,h2 with
    | [y],_,_=>rw [DN]
  · obtain ⟨x,n,zs,rfl⟩:=OY (ys:=ys) Er
    rw [HA,if_pos]
    rcases h with h|h
    · omega
    · exact .inl h
theorem DO.rows {w:World}{b o:Nat}{ss:List DO}(h:w.rangeAt b o (IL ss)):EI w (some ⟨b,o,none⟩) 2 DO.cells ss:=fun i s hi=>⟨b,o,rfl,fun j v hj=>by
  have:=h (i*2+j) v (QH hi j v hj)
  rwa [show o+i*2+j=o+(i*2+j) by omega]⟩
theorem Kp.cells {w0 w:World}{p:Nat→Prop}{K L:List Ent}{s:DO}(h:Kp K s) (hm:∀ e∈K,e∈L) (hS:St p w0 w L):AU w s.ad (CG s.asl):=fun hn=>by
  obtain ⟨E,hV,hE⟩:=h
  obtain ⟨b,o,e,hr⟩:=hV.src (fun e he=>hm e (hE e he)) hn
  exact ⟨b,o,e,hr _ _ _ hS⟩
theorem XH {w0 w:World}{p:Nat→Prop}{ad:Option Addr}{c:Nat}{ss:List DO}{E L:List Ent}(hV:Vec 2 ad ss.length c (IL ss) E) (hm:∀ e∈E,e∈L) (hS:St p w0 w L):EI w ad 2 DO.cells ss:=fun i s hi=>by
  have hlt:i<ss.length:=(List.getElem?_eq_some_iff.1 hi).1
  obtain ⟨b,o,rfl,hr⟩:=hV.src hm (by rw [hV.len.1];omega)
  exact DO.rows (hr _ _ _ hS) i s hi
set_option maxHeartbeats 4000000 in
theorem Uo (w0:World) (b o c:Nat) (xs:List Int) (hW:Win w0 b o c xs) (hn:xs.length≤100000) :
    Calls Tryz.prog 147 #[.slice (some ⟨b,o,none⟩) xs.length c] w0 fun e w'=>PathP w0 w' (DN xs) e:=by
  refine enter Tryz.func147 rfl Tryz.ntmps147 rfl (St.start (fun _=>False) w0) ?_
  refine J13 ?_
  refine WC.loop (fun x:List Int×Nat×Nat×List DO×Option Addr×Nat×List Ent×List Ent=>[(0, .slice (some ⟨b,x.2.1,none⟩) x.1.length x.2.2.1),(4, .slice x.2.2.2.2.1 x.2.2.2.1.length x.2.2.2.2.2.1)]) (fun x=>x.2.2.2.2.2.2.1++x.2.2.2.2.2.2.2) (fun x=>x.1.length+x.2.2.2.1.length≤xs.length∧Win w0 b x.2.1 x.2.2.1 x.1∧DN xs=(DN x.1).map (x.2.2.2.1.map Ik ++ ·)∧Vec 2 x.2.2.2.2.1 x.2.2.2.1.length x.2.2.2.2.2.1 (IL x.2.2.2.1) x.2.2.2.2.2.2.1∧∀ s∈x.2.2.2.1,Kp x.2.2.2.2.2.2.2 s∧s.asl.length≤1000∧∀ y∈s.asl,I64 y) (fun x=>x.1.length) (xs,o,c,[],none,0,[],[]) ⟨Nat.le_refl _,hW,by dsimp only;cases DN xs <;> rfl,Vec.nil 2,fun s hs=>by cases hs⟩ Km (.refl _) ?_
  rintro ⟨ys,o2,c2,ss,ad,cc,E,K⟩ ⟨hl,hW2,hy,hV,hK⟩
  dsimp only at hl hW2 hy hV hK
  dsimp only
  have hle:=hW2.le
  have h0:=CP hW2.bys 0
  have h1:=CP hW2.bys 1
  refine J5 ?_
  refine JT (fun h10=>?_) (fun h10=>?_)
  refine J6 ?_
  refine WC.cut (fun _:Unit=>[(0, .slice (some ⟨b,o2,none⟩) ys.length c2),(4, .slice ad ss.length cc)]) (fun _=>E++K) (fun _=>2≤ys.length∧(fOf ys 0=1∨fOf ys 0=2)) ?_ ?_
  refine J4 ?_
  refine JT (fun h13=>?_) (fun h13=>?_)
  refine J27 ?_
  exact C5
  refine J2 ?_
  refine zS (AB (lo:=0) rfl rfl rfl Tryz.underlying25 AO rfl Er) rfl ?_
  refine zS (AA rfl rfl BH (AL (fun h=>h) (hW2.get (BJ Er)))) rfl ?_
  refine JT (fun h18=>?_) (fun h18=>?_)
  refine J2 ?_
  refine zS (AB (lo:=0) rfl rfl rfl Tryz.underlying25 AO rfl Er) rfl ?_
  refine zS (AA rfl rfl BH (AL (fun h=>h) (hW2.get (BJ Er)))) rfl ?_
  refine JT (fun h23=>?_) (fun h23=>?_)
  refine J17 ?_
  exact C5
  refine J6 ?_
  exact eM () ⟨by omega,by omega⟩
  refine J11 ?_
  exact eM () ⟨by omega,by omega⟩
  rintro _ ⟨hy2,hkd⟩
  obtain ⟨x,n,zs,rfl⟩:=OY hy2
  have hnb:0≤n∧n≤255:=h1
  have hkd':x=1∨x=2:=hkd
  obtain ⟨N,rfl⟩:=Int.eq_ofNat_of_zero_le hnb.1
  rw [HA,Int.toNat_natCast] at hy
  have hcl:(x::(N:Int)::zs).length=zs.length+2:=rfl
  refine J3 ?_
  refine zV (AB (lo:=1) rfl rfl rfl Tryz.underlying25 AO rfl Er) rfl ?_
  refine zV (AA rfl rfl BH (AL (fun h=>h) (hW2.get (i:=1) rfl))) rfl ?_
  refine zV (AQ rfl rfl Tryz.underlying3 Tryz.underlying5 (AF Er Er)) rfl ?_
  refine zV (FY rfl rfl rfl (show _=((2*N:Nat):Int) from (AF Er Er).trans Er)) rfl ?_
  refine zV (AS rfl rfl rfl (show _=((2+2*N:Nat):Int) from (AF Er Er).trans Er)) rfl ?_
  refine J9 ?_
  refine JT (fun h35=>?_) (fun h35=>?_)
  refine J15 ?_
  refine eT2 ?_
  have e0:DN xs=none:=(by rw [hy,if_pos (by omega)];rfl)
  rw [e0]
  exact fR
  refine J7 ?_
  rw [if_neg Er] at hy
  refine J1 ?_
  refine zV (AB (lo:=0) rfl rfl rfl Tryz.underlying25 AO rfl Er) rfl ?_
  refine zV (AA rfl rfl BH (AL (fun h=>h) (hW2.get (i:=0) rfl))) rfl<|zV (AZ rfl rfl rfl) rfl<|?_
  refine J1 ?_
  refine WL.alloc rfl JI (.none rfl) rfl rfl ?_
  intro g6 hg6
  refine J10 ?_
  refine WC.loop (fun y:Nat×List Int×Option Addr×Nat×List Ent=>[(7, .int .i64 ((2+2*y.1:Nat):Int)),(5, .int .i64 ((2+2*N:Nat):Int)),(6, .pointer (some ⟨g6,0,none⟩)),(0, .slice (some ⟨b,o2,none⟩) (x::(N:Int)::zs).length c2),(4, .slice ad ss.length cc)]) (fun y=>y.2.2.2.2++(.row g6 (DO.cells ⟨decide (x=1),y.2.2.1,y.2.2.2.1,y.2.1⟩)::(E++K))) (fun y=>y.1≤N∧y.2.1=(List.range y.1).map (fun i=>AJ ((zs.drop (2*i)).take 2))∧Vec 1 y.2.2.1 y.2.1.length y.2.2.2.1 (CG y.2.1) y.2.2.2.2∧∀ z∈y.2.1,I64 z) (fun y=>N-y.1) (0,[],none,0,[]) ⟨Nat.zero_le _,rfl,Vec.nil 1,fun z hz=>by cases hz⟩ Km (.refl _) ?_
  rintro ⟨i,us,ad6,c6,E6⟩ ⟨hi,hu,hV6,hI6⟩
  dsimp only at hi hu hV6 hI6
  dsimp only
  have hul:us.length=i:=(by rw [hu,List.length_map,List.length_range])
  refine J5 ?_
  refine JT (fun h43=>?_) (fun h43=>?_)
  refine J7 ?_
  refine WC.BB mixed<|rF 6 [0,2,3,4,5,6]<|?_
  refine J1 ?_
  have hWi:=((hW2.take (2+2*i+2)).drop (2+2*i))
  have hwe:((x::(N:Int)::zs).take (2+2*i+2)).drop (2+2*i)=(zs.drop (2*i)).take 2:=(by
    rw [List.drop_take,show 2+2*i+2-(2+2*i)=2 by omega,show 2+2*i=2*i+1+1 by omega];rfl)
  rw [hwe] at hWi
  have hwl:((zs.drop (2*i)).take 2).length=2:=F1
  have hrb:=IQ 2 _ hwl hWi.bys
  have hp2:(256:Int) ^ 2=65536:=Et
  refine J3 ?_
  refine pV (AS rfl rfl rfl (show _=((2+2*i+2:Nat):Int) from (AF Er Er).trans Er)) rfl ?_
  refine pV ((CN (lo:=2+2*i) (hi:=2+2*i+2) rfl rfl rfl rfl Tryz.underlying25 AO rfl rfl Er Er)) rfl ?_
  rw [show 2+2*i+2-(2+2*i)=((zs.drop (2*i)).take 2).length by omega]
  refine J1 ?_
  refine WR.each (g:=5) [1,7] Es Et ?_
  refine ⟨?_,?_⟩
  refine J2 ?_
  refine rA 4 [7] rfl ?_
  refine WQ.call _ rfl rfl Jg (.none rfl) rfl rfl (fun w hS=>Calls.still (I3 w b _ _ _ (hWi.st hS) Er) hS) ?_
  refine J1 ?_
  refine rO 2 [8,9]<|zB Tryz.underlying32 AP DB rfl rfl<|?_
  intro g54 hg54
  refine WL.as (L':=.row g54 (CG [AJ ((zs.drop (2*i)).take 2)])::(E6++(.row g6 (DO.cells ⟨decide (x=1),ad6,c6,us⟩)::(E++K)))) rfl<|WL.to (L':=E6++(.row g54 (CG [AJ ((zs.drop (2*i)).take 2)])::.row g6 (DO.cells ⟨decide (x=1),ad6,c6,us⟩)::(E++K))) (fun w hS=>hS.front [_])<|?_
  refine WL.AN rfl rfl rfl Tryz.underlying32 Tryz.underlying32 AP Pf DB rfl rfl hV6 (new:=CG [AJ ((zs.drop (2*i)).take 2)]) (fun _=>⟨g54,0,rfl,fun w hS=>BZ (g:=g54) w hS⟩) rfl (H6 _) Eu (.none rfl) rfl rfl ?_
  intro ad55 c55 E55 hV55 hr55
  rw [← Hs] at hV55
  rw [show us.length+1=(us++[AJ ((zs.drop (2*i)).take 2)]).length by rw [List.length_append];rfl] at hV55 ⊢
  refine J1 ?_
  refine rF 1 [10] ?_
  refine J2 ?_
  refine rO 0 [11] ?_
  refine J1 ?_
  refine WL.as (L':=E55++(.row g54 (CG [AJ ((zs.drop (2*i)).take 2)])::.row g6 (DO.cells ⟨decide (x=1),ad55,c55,us++[AJ ((zs.drop (2*i)).take 2)]⟩)::(E++K))) rfl ?_
  refine J6 ?_
  refine zV (AS rfl rfl rfl (show _=((2+2*(i+1):Nat):Int) from (AF Er Er).trans Er)) rfl ?_
  refine J2 ?_
  exact WE.next (i+1,us++[AJ ((zs.drop (2*i)).take 2)],ad55,c55,E55) Eu ⟨by dsimp only;omega,by dsimp only;rw [hu,List.range_succ,List.map_append];rfl,hV55,fun z hz=>by
  rcases List.mem_append.1 hz with hz|hz
  · exact hI6 z hz
  · rcases List.mem_cons.1 hz with rfl|hz
    · unfold I64;omega
    · cases hz⟩ Km (List.Sublist.append_left (.cons _ (.refl _)) _)
  refine zk Jg rfl (fun w hS=>I3 w b _ _ _ (hWi.st hS) Er) ?_
  refine J1 ?_
  refine WR.each (g:=4) [1,8] Es Et ?_
  refine ⟨?_,?_⟩
  refine J2 ?_
  refine rO 2 [8,9]<|zB Tryz.underlying32 AP DB rfl rfl<|?_
  intro g54 hg54
  refine WL.as (L':=.row g54 (CG [AJ ((zs.drop (2*i)).take 2)])::(E6++(.row g6 (DO.cells ⟨decide (x=1),ad6,c6,us⟩)::(E++K)))) rfl<|WL.to (L':=E6++(.row g54 (CG [AJ ((zs.drop (2*i)).take 2)])::.row g6 (DO.cells ⟨decide (x=1),ad6,c6,us⟩)::(E++K))) (fun w hS=>hS.front [_])<|?_
  refine WL.AN rfl rfl rfl Tryz.underlying32 Tryz.underlying32 AP Pf DB rfl rfl hV6 (new:=CG [AJ ((zs.drop (2*i)).take 2)]) (fun _=>⟨g54,0,rfl,fun w hS=>BZ (g:=g54) w hS⟩) rfl (H6 _) Eu (.none rfl) rfl rfl ?_
  intro ad55 c55 E55 hV55 hr55
  rw [← Hs] at hV55
  rw [show us.length+1=(us++[AJ ((zs.drop (2*i)).take 2)]).length by rw [List.length_append];rfl] at hV55 ⊢
  refine J1 ?_
  refine rF 1 [10] ?_
  refine J2 ?_
  refine rO 0 [11] ?_
  refine J1 ?_
  refine WL.as (L':=E55++(.row g54 (CG [AJ ((zs.drop (2*i)).take 2)])::.row g6 (DO.cells ⟨decide (x=1),ad55,c55,us++[AJ ((zs.drop (2*i)).take 2)]⟩)::(E++K))) rfl ?_
  refine J6 ?_
  refine zV (AS rfl rfl rfl (show _=((2+2*(i+1):Nat):Int) from (AF Er Er).trans Er)) rfl ?_
  refine J2 ?_
  exact WE.next (i+1,us++[AJ ((zs.drop (2*i)).take 2)],ad55,c55,E55) Eu ⟨by dsimp only;omega,by dsimp only;rw [hu,List.range_succ,List.map_append];rfl,hV55,fun z hz=>by
  rcases List.mem_append.1 hz with hz|hz
  · exact hI6 z hz
  · rcases List.mem_cons.1 hz with rfl|hz
    · unfold I64;omega
    · cases hz⟩ Km (List.Sublist.append_left (.cons _ (.refl _)) _)
  refine zB Tryz.underlying32 AP DB rfl rfl ?_
  intro g54 hg54
  refine WL.as (L':=.row g54 (CG [AJ ((zs.drop (2*i)).take 2)])::(E6++(.row g6 (DO.cells ⟨decide (x=1),ad6,c6,us⟩)::(E++K)))) rfl<|WL.to (L':=E6++(.row g54 (CG [AJ ((zs.drop (2*i)).take 2)])::.row g6 (DO.cells ⟨decide (x=1),ad6,c6,us⟩)::(E++K))) (fun w hS=>hS.front [_])<|?_
  refine J1 ?_
  refine rA 3 [1] rfl ?_
  refine J2 ?_
  refine rO 2 [9] ?_
  refine WL.AN rfl rfl rfl Tryz.underlying32 Tryz.underlying32 AP Pf DB rfl rfl hV6 (new:=CG [AJ ((zs.drop (2*i)).take 2)]) (fun _=>⟨g54,0,rfl,fun w hS=>BZ (g:=g54) w hS⟩) rfl (H6 _) Eu (.none rfl) rfl rfl ?_
  intro ad55 c55 E55 hV55 hr55
  rw [← Hs] at hV55
  rw [show us.length+1=(us++[AJ ((zs.drop (2*i)).take 2)]).length by rw [List.length_append];rfl] at hV55 ⊢
  refine J1 ?_
  refine rF 1 [10] ?_
  refine J2 ?_
  refine rO 0 [11] ?_
  refine J1 ?_
  refine WL.as (L':=E55++(.row g54 (CG [AJ ((zs.drop (2*i)).take 2)])::.row g6 (DO.cells ⟨decide (x=1),ad55,c55,us++[AJ ((zs.drop (2*i)).take 2)]⟩)::(E++K))) rfl ?_
  refine J6 ?_
  refine zV (AS rfl rfl rfl (show _=((2+2*(i+1):Nat):Int) from (AF Er Er).trans Er)) rfl ?_
  refine J2 ?_
  exact WE.next (i+1,us++[AJ ((zs.drop (2*i)).take 2)],ad55,c55,E55) Eu ⟨by dsimp only;omega,by dsimp only;rw [hu,List.range_succ,List.map_append];rfl,hV55,fun z hz=>by
  rcases List.mem_append.1 hz with hz|hz
  · exact hI6 z hz
  · rcases List.mem_cons.1 hz with rfl|hz
    · unfold I64;omega
    · cases hz⟩ Km (List.Sublist.append_left (.cons _ (.refl _)) _)
  refine J11 ?_
  obtain rfl:i=N:=Er
  have hsg:(decide (x=1),(List.range i).map fun i=>AJ ((zs.drop (2*i)).take 2))=Ik ⟨decide (x=1),ad6,c6,us⟩:=(by unfold Ik;rw [hu])
  rw [hsg] at hy
  refine J1 ?_
  refine zB Tryz.underlying31 PO JI rfl rfl ?_
  intro g59 hg59
  refine WL.as (L':=.row g59 (DO.cells ⟨decide (x=1),ad6,c6,us⟩)::(E6++(.row g6 (DO.cells ⟨decide (x=1),ad6,c6,us⟩)::(E++K)))) rfl ?_
  refine WL.to (L':=E++(.row g59 (DO.cells ⟨decide (x=1),ad6,c6,us⟩)::((E6++[.row g6 (DO.cells ⟨decide (x=1),ad6,c6,us⟩)])++K))) (fun w hS=>St.front (R:=E) (L:=K) (.row g59 (DO.cells ⟨decide (x=1),ad6,c6,us⟩)::(E6++[.row g6 (DO.cells ⟨decide (x=1),ad6,c6,us⟩)])) (by simpa [List.append_assoc] using hS)) ?_
  refine WL.AN rfl rfl rfl Tryz.underlying31 Tryz.underlying31 PO by_207 JI rfl rfl hV (new:=DO.cells ⟨decide (x=1),ad6,c6,us⟩) (fun _=>⟨g59,0,rfl,fun w hS=>BZ (g:=g59) w hS⟩) rfl rfl Er (.none rfl) rfl rfl ?_
  intro ad60 c60 E60 hV60 hr60
  rw [← OQ] at hV60
  rw [show ss.length+1=(ss++[(⟨decide (x=1),ad6,c6,us⟩:DO)]).length by rw [List.length_append];rfl] at hV60 ⊢
  refine J6 ?_
  refine zV ((BW (lo:=2+2*i) rfl rfl rfl Tryz.underlying25 AO rfl Er)) rfl ?_
  refine J3 ?_
  have hd:(x::(i:Int)::zs).drop (2+2*i)=zs.drop (2*i):=(by rw [show 2+2*i=2*i+1+1 by omega];rfl)
  have hWd:=hW2.drop (2+2*i)
  rw [hd] at hWd
  exact WE.next (zs.drop (2*i),AV o2 (2+2*i) c2 1,c2-(2+2*i),ss++[⟨decide (x=1),ad6,c6,us⟩],ad60,c60,E60,E6++K) Fs ⟨by dsimp only;rw [List.length_drop,List.length_append,List.length_cons,List.length_nil];omega,hWd,by
    dsimp only
    rw [hy]
    cases DN (zs.drop (2*i)) with
    | none=>rfl
    | some r=>simp [Option.map],hV60,fun s hs=>by
    rcases List.mem_append.1 hs with hs|hs
    · obtain ⟨⟨E',h1,h2⟩,h3⟩:=hK s hs
      exact ⟨⟨E',h1,fun e he=>List.mem_append_right _ (h2 e he)⟩,h3⟩
    · rcases List.mem_cons.1 hs with rfl|hs
      · exact ⟨⟨E6,hV6,fun e he=>List.mem_append_left _ he⟩,by dsimp only;omega,hI6⟩
      · cases hs⟩ (.eq rfl (by dsimp only;rw [List.length_drop,hcl];congr 1;omega) (.cons rfl .nil)) (List.Sublist.append_left (.cons _ (List.Sublist.append (List.sublist_append_left _ _) (.refl _))) _)
  refine J12 ?_
  refine zk ZU rfl (fun w hS=>PI w ad cc ss (XH hV (fun e he=>List.mem_append_left _ he) hS) (fun s hs=>(hK s hs).1.cells (fun e he=>List.mem_append_right _ he) hS) Er (fun s hs=>⟨by have:=(hK s hs).2.1;omega,(hK s hs).2.2⟩)) ?_
  refine J5 ?_
  refine eT2 ?_
  obtain rfl:ys=[]:=List.length_eq_zero_iff.1 Er
  have e0:DN xs=some (ss.map Ik):=(by rw [hy,DN];simp)
  rw [e0]
  exact fun w' h=>⟨ss,ad,cc,E,K,rfl,rfl,hV,fun s hs=>(hK s hs).1,h⟩

structure AtD where
  has:Int
  origin:Int
  path:List (Bool×List Int)
  hop:Int
  med:Int
  loc:Int
  aas:Int
  aid:Int
  comms:List Int
  others:List (Int×List Int)
def LP (o:CB):Int×List Int:=(o.ty,o.val)
def AtL.d (a:AtL):AtD:=⟨a.has,a.origin,a.path.map Ik,a.hop,a.med,a.loc,a.aas,a.aid,a.comms,a.others.map LP⟩
structure GB (K:List Ent) (a:AtL):Prop where
  path:∃ E,Vec 2 a.pad a.path.length a.pc (IL a.path) E∧∀ e∈E,e∈K
  H5:∀ s∈a.path,Kp K s
  comms:∃ E,Vec 1 a.cad a.comms.length a.cc (CG a.comms) E∧∀ e∈E,e∈K
theorem GB.mono {K K':List Ent}{a:AtL}(h:GB K a) (hm:∀ e∈K,e∈K'):GB K' a:=by
  obtain ⟨⟨E1,p1,p2⟩,hs,⟨E2,q1,q2⟩⟩:=h
  exact ⟨⟨E1,p1,fun e he=>hm e (p2 e he)⟩,fun s h=>by obtain ⟨E,r1,r2⟩:=hs s h;exact ⟨E,r1,fun e he=>hm e (r2 e he)⟩,⟨E2,q1,fun e he=>hm e (q2 e he)⟩⟩
theorem GB.zero:GB [] .zero:=⟨⟨[],Vec.nil 2,fun _ h=>by cases h⟩,(fun _ h=>by cases h),⟨[],Vec.nil 1,fun _ h=>by cases h⟩⟩
def FD:List Int→List Int
  | a::b::c::d::xs=>AJ [a,b,c,d]::FD xs
  | _=>[]
theorem VL {xs:List Int}(h:4≤xs.length):∃ a b c d ys,xs=a::b::c::d::ys:=by
  match xs,h with
  | a::b::c::d::ys,_=>exact ⟨a,b,c,d,ys,rfl⟩
def L6 (a:AtD) (t:Nat) (v:List Int):Option AtD :=
  if t=1 then some { a with origin:=AJ v }
  else if t=2 then (DN v).map fun p=>{ a with path:=p }
  else if t=3 then some { a with hop:=AJ v }
  else if t=4 then some { a with med:=AJ v }
  else if t=5 then some { a with loc:=AJ v }
  else if t=7 then some { a with aas:=AJ (v.take 2),aid:=AJ (v.drop 2) }
  else if t=8 then some { a with comms:=a.comms++FD v }
  else some a
theorem TN (w0:World) (b o c:Nat) (xs:List Int) (hW:Win w0 b o c xs) (hn:xs.length≤100000) :
    Calls Tryz.prog 147 #[.slice (some ⟨b,o,none⟩) xs.length c] w0 fun e w'=>∃ ss ad c E K ok,e = .returned (.tuple #[.slice ad ss.length c, .bool ok])∧Vec 2 ad ss.length c (IL ss) E∧(∀ s∈ss,Kp K s)∧St (fun _=>False) w0 w' (E++K) ∧
      (match DN xs with|none=>ok=false∧ss=[] | some ps=>ok=ss.all Ji∧ss.map Ik=ps) :=
  (Uo w0 b o c xs hW hn).mono fun e w' h=>by
    unfold PathP at h
    cases hp:DN xs with
    | none =>
      rw [hp] at h
      obtain ⟨rfl,hF⟩:=h
      exact ⟨[],none,0,[],[],false,rfl,Vec.nil 2,(fun _ h=>by cases h),(St.start _ _).ext hF,rfl,rfl⟩
    | some ps =>
      rw [hp] at h
      obtain ⟨ss,ad,c,E,K,rfl,rfl,hV,hK,hS⟩:=h
      exact ⟨ss,ad,c,E,K,_,rfl,hV,hK,hS,rfl,rfl⟩
def SetP (w0 w':World) (ga:Nat) (a:AtL) (t:Nat) (v:List Int) (K L:List Ent) (e:Ending):Prop :=
  ∃ a' K' ok,e = .returned (.bool ok)∧GB K' a'∧a'.others=a.others∧a'.oad=a.oad∧a'.oc=a.oc∧(t=8∨(a'.cad=a.cad∧a'.cc=a.cc))∧St (fun _=>False) w0 w' (.row ga a'.cells::(K'++L))∧(∀ e∈K,e∈K') ∧
    (match L6 a.d t v with|none=>ok=false|some d=>a'.d=d∧ok=if t=2 then a'.path.all Ji else true)
set_option maxHeartbeats 4000000 in
theorem set_c (w0 w1:World) (ga b o c:Nat) (v:List Int) (a:AtL) (t:Nat) (K L:List Ent) (hW:Win w0 b o c v) (hn:v.length≤100000) (hA:GB K a) (hS0:St (fun _=>False) w0 w1 (.row ga a.cells::(K++L)))
    (h1:t=1→v.length=1) (h3:t=3∨t=4∨t=5→v.length=4) (h7:t=7→v.length=6) (h8:t=8→v.length % 4=0∧a.cad=none∧a.cc=0∧a.comms=[]) :
    Calls Tryz.prog 143 #[.pointer (some ⟨ga,0,none⟩), .int .i64 t, .slice (some ⟨b,o,none⟩) v.length c] w1 fun e w'=>SetP w0 w' ga a t v K L e:=by
  refine enter Tryz.func143 rfl Tryz.ntmps143 rfl hS0 ?_
  refine J14 ?_
  refine JT (fun h11=>?_) (fun h11=>?_)
  refine J7 ?_
  refine zk Jg rfl (fun w hS=>I3 w b o c v (hW.st hS) Er) ?_
  refine J3 ?_
  refine WL.as (L':=.row ga (AtL.cells { a with origin:=AJ v })::(K++L)) rfl ?_
  refine J9 ?_
  refine eT1 ?_
  obtain rfl:t=1:=Er
  exact fun w' h=>⟨{ a with origin:=AJ v },K,true,rfl,⟨hA.path,hA.H5,hA.comms⟩,rfl,rfl,rfl, .inr ⟨rfl,rfl⟩,h,fun _ h=>h,rfl,rfl⟩
  refine J6 ?_
  refine JT (fun h18=>?_) (fun h18=>?_)
  refine J7 ?_
  refine zK ck_147 rfl ?_
  intro w1 hS
  refine (TN w1 b o c v (hW.st hS) hn).mono ?_
  rintro e w' ⟨ss,ad,cc,E,K2,ok,rfl,hV,hK,hS',hp⟩
  refine ⟨_,_,rfl,hS.join hS',?_⟩
  refine J14 ?_
  refine WL.as (L':=(E++K2)++(.row ga (AtL.cells { a with pad:=ad,pc:=cc,path:=ss })::(K++L))) rfl ?_
  refine J11 ?_
  refine eT1 ?_
  obtain rfl:t=2:=Er
  refine fun w' h=>⟨{ a with pad:=ad,pc:=cc,path:=ss },E++K2++K,ok,rfl,⟨⟨E,hV,fun e he=>List.mem_append_left _ (List.mem_append_left _ he)⟩,fun s hs=>?_,?_⟩,rfl,rfl,rfl, .inr ⟨rfl,rfl⟩,?_,fun e he=>List.mem_append_right _ he,?_⟩
  · obtain ⟨E',r1,r2⟩:=hK s hs
    exact ⟨E',r1,fun e he=>List.mem_append_left _ (List.mem_append_right _ (r2 e he))⟩
  · obtain ⟨E',r1,r2⟩:=hA.comms
    exact Az
  · have h2:=St.front (R:=[.row ga (AtL.cells { a with pad:=ad,pc:=cc,path:=ss })]) (L:=K++L) (E++K2) h
    simpa [List.append_assoc] using h2
  · show (match (DN v).map (fun p=>{ a.d with path:=p }) with|none=>_|some d=>_)
    cases hq:DN v with
    | none=>rw [hq] at hp;exact hp.1
    | some ps=>rw [hq] at hp;refine ⟨?_,hp.1⟩;rw [← hp.2];rfl
  refine J6 ?_
  refine JT (fun h30=>?_) (fun h30=>?_)
  refine J7 ?_
  refine zk Jg rfl (fun w hS=>I3 w b o c v (hW.st hS) Er) ?_
  have hrb:=IQ 4 v Er hW.bys
  have hp4:(256:Int) ^ 4=4294967296:=Et
  refine zV (AQ rfl rfl Tryz.underlying23 Tryz.underlying3 (show _=AJ v from (IntKind.wrap_u32' _).trans Er)) rfl ?_
  refine J3 ?_
  refine WL.as (L':=.row ga (AtL.cells { a with hop:=AJ v })::(K++L)) rfl ?_
  refine J9 ?_
  refine eT1 ?_
  obtain rfl:t=3:=Er
  exact fun w' h=>⟨{ a with hop:=AJ v },K,true,rfl,⟨hA.path,hA.H5,hA.comms⟩,rfl,rfl,rfl, .inr ⟨rfl,rfl⟩,h,fun _ h=>h,rfl,rfl⟩
  refine J6 ?_
  refine JT (fun h38=>?_) (fun h38=>?_)
  refine J7 ?_
  refine zk Jg rfl (fun w hS=>I3 w b o c v (hW.st hS) Er) ?_
  refine J3 ?_
  refine WL.as (L':=.row ga (AtL.cells { a with med:=AJ v })::(K++L)) rfl ?_
  refine J9 ?_
  refine eT1 ?_
  obtain rfl:t=4:=Er
  exact fun w' h=>⟨{ a with med:=AJ v },K,true,rfl,⟨hA.path,hA.H5,hA.comms⟩,rfl,rfl,rfl, .inr ⟨rfl,rfl⟩,h,fun _ h=>h,rfl,rfl⟩
  refine J6 ?_
  refine JT (fun h45=>?_) (fun h45=>?_)
  refine J7 ?_
  refine zk Jg rfl (fun w hS=>I3 w b o c v (hW.st hS) Er) ?_
  refine J3 ?_
  refine WL.as (L':=.row ga (AtL.cells { a with loc:=AJ v })::(K++L)) rfl ?_
  refine J9 ?_
  refine eT1 ?_
  obtain rfl:t=5:=Er
  exact fun w' h=>⟨{ a with loc:=AJ v },K,true,rfl,⟨hA.path,hA.H5,hA.comms⟩,rfl,rfl,rfl, .inr ⟨rfl,rfl⟩,h,fun _ h=>h,rfl,rfl⟩
  refine J6 ?_
  refine JT (fun h52=>?_) (fun h52=>?_)
  refine J4 ?_
  refine WC.BB mixed<|rF 9 [0,1,2,3,5,6]<|?_
  refine J3 ?_
  have hl6:v.length=6:=h7 Er
  have hle:=hW.le
  have hWa:=hW.take 2
  have hWb:=hW.drop 2
  have hla:(v.take 2).length=2:=Ey
  have hlb:(v.drop 2).length=4:=Ex
  have hrb:=IQ 4 (v.drop 2) hlb hWb.bys
  have hp4:(256:Int) ^ 4=4294967296:=Et
  refine pV ((CT (hi:=2) rfl rfl rfl Tryz.underlying25 AO rfl Er)) rfl ?_
  refine J1 ?_
  refine pV ((BW (lo:=2) rfl rfl rfl Tryz.underlying25 AO rfl Er)) rfl ?_
  refine J1 ?_
  refine rA 7 [4,7] rfl ?_
  refine WQ.call _ rfl rfl Jg (.none rfl) rfl rfl (fun w hS=>Calls.still (by rw [show (Value.slice (some ⟨b,o,none⟩) 2 c) = .slice (some ⟨b,o,none⟩) (v.take 2).length c by rw [hla]];exact I3 w b o c (v.take 2) (hWa.st hS) (by omega)) hS) ?_
  refine WQ.call _ rfl rfl Jg (.none rfl) rfl rfl (fun w hS=>Calls.still (by rw [show v.length-2=(v.drop 2).length by omega];exact I3 w b (AV o 2 c 1) (c-2) (v.drop 2) (hWb.st hS) (by omega)) hS) ?_
  refine J1 ?_
  refine rF 4 [8,9,10] ?_
  refine pV (AQ rfl rfl Tryz.underlying23 Tryz.underlying3 (show _=AJ (v.drop 2) from (IntKind.wrap_u32' _).trans Er)) rfl ?_
  refine J3 ?_
  refine rO 3 [11] ?_
  refine J2 ?_
  refine rF 1 [12,13] ?_
  refine J3 ?_
  refine rO 0 [14] ?_
  refine J11 ?_
  refine eT1 ?_
  obtain rfl:t=7:=Er
  exact fun w' h=>⟨{ a with aas:=AJ (v.take 2),aid:=AJ (v.drop 2) },K,true,rfl,⟨hA.path,hA.H5,hA.comms⟩,rfl,rfl,rfl, .inr ⟨rfl,rfl⟩,h,fun _ h=>h,rfl,rfl⟩
  refine J6 ?_
  refine JT (fun h67=>?_) (fun h67=>?_)
  refine J5 ?_
  refine WC.loop (fun x:List Int×Nat×Nat×List Int×Option Addr×Nat×List Ent=>[(0, .pointer (some ⟨ga,0,none⟩)),(2, .slice (some ⟨b,x.2.1,none⟩) x.1.length x.2.2.1)]) (fun x=>x.2.2.2.2.2.2++(.row ga (AtL.cells { a with cad:=x.2.2.2.2.1,cc:=x.2.2.2.2.2.1,comms:=x.2.2.2.1 })::(K++L))) (fun x=>x.1.length % 4=0∧x.1.length+x.2.2.2.1.length≤v.length∧Win w0 b x.2.1 x.2.2.1 x.1∧x.2.2.2.1++FD x.1=FD v∧Vec 1 x.2.2.2.2.1 x.2.2.2.1.length x.2.2.2.2.2.1 (CG x.2.2.2.1) x.2.2.2.2.2.2) (fun x=>x.1.length) (v,o,c,[],none,0,[]) ⟨(h8 Er).1,Nat.le_refl _,hW,rfl,Vec.nil 1⟩ Km (by
  obtain ⟨_,e1,e2,e3⟩:=h8 Er
  show List.Sublist (.row ga (AtL.cells { a with cad:=none,cc:=0,comms:=[] })::(K++L)) _
  rw [show AtL.cells { a with cad:=none,cc:=0,comms:=[] }=a.cells by unfold AtL.cells;rw [e1,e2,e3]]
  exact .refl _) ?_
  rintro ⟨ys,o2,c2,cs,ad,cc,E⟩ ⟨hm4,hl,hW2,hy,hV⟩
  dsimp only at hm4 hl hW2 hy hV
  dsimp only
  refine J5 ?_
  refine JT (fun h70=>?_) (fun h70=>?_)
  refine J7 ?_
  refine WC.BB mixed<|rF 7 [0,1,2,3,5,6]<|?_
  obtain ⟨x0,x1,x2,x3,zs,rfl⟩:=VL (xs:=ys) Er
  have hcl:(x0::x1::x2::x3::zs).length=zs.length+4:=rfl
  have hle:=hW2.le
  have hWa:=hW2.take 4
  rw [show (x0::x1::x2::x3::zs).take 4=[x0,x1,x2,x3] from rfl] at hWa
  rw [show FD (x0::x1::x2::x3::zs)=AJ [x0,x1,x2,x3]::FD zs from rfl] at hy
  refine J5 ?_
  refine pV ((CT (hi:=4) rfl rfl rfl Tryz.underlying25 AO rfl Er)) rfl ?_
  refine J1 ?_
  refine WR.each (g:=6) [4,7] Es Et ?_
  refine ⟨?_,?_⟩
  refine J2 ?_
  refine rA 5 [7] rfl ?_
  refine WQ.call _ rfl rfl Jg (.none rfl) rfl rfl (fun w hS=>Calls.still (I3 w b o2 c2 [x0,x1,x2,x3] (hWa.st hS) (by show 4≤6;omega)) hS) ?_
  refine J1 ?_
  exact Dt
  refine zk Jg rfl (fun w hS=>I3 w b o2 c2 [x0,x1,x2,x3] (hWa.st hS) (by show 4≤6;omega)) ?_
  refine J1 ?_
  refine WR.each (g:=5) [4,8] Es Et ?_
  refine ⟨?_,?_⟩
  refine J2 ?_
  exact Dt
  refine zB Tryz.underlying32 AP DB rfl rfl ?_
  intro g81 hg81
  refine WL.as (L':=.row g81 (CG [AJ [x0,x1,x2,x3]])::(E++(.row ga (AtL.cells { a with cad:=ad,cc:=cc,comms:=cs })::(K++L)))) rfl<|WL.to (L':=E++(.row g81 (CG [AJ [x0,x1,x2,x3]])::.row ga (AtL.cells { a with cad:=ad,cc:=cc,comms:=cs })::(K++L))) (fun w hS=>hS.front [_])<|?_
  refine J1 ?_
  refine rA 4 [4] rfl ?_
  refine J2 ?_
  refine rO 3 [9] ?_
  exact Ai
  refine J15 ?_
  refine eT1 ?_
  obtain rfl:t=8:=Er
  obtain rfl:ys=[]:=List.length_eq_zero_iff.1 Er
  have hcs:cs=FD v:=(by rw [← hy];exact (List.append_nil _).symm)
  refine fun w' h=>⟨{ a with cad:=ad,cc:=cc,comms:=cs },E++K,true,rfl,⟨?_,?_,⟨E,hV,fun e he=>List.mem_append_left _ he⟩⟩,rfl,rfl,rfl, .inl rfl,?_,fun e he=>List.mem_append_right _ he,?_,rfl⟩
  · obtain ⟨E',r1,r2⟩:=hA.path
    exact Az
  · intro s hs
    obtain ⟨E',r1,r2⟩:=hA.H5 s hs
    exact Az
  · have h2:=St.front (R:=[.row ga (AtL.cells { a with cad:=ad,cc:=cc,comms:=cs })]) (L:=K++L) E h
    simpa [List.append_assoc] using h2
  · show AtL.d { a with cad:=ad,cc:=cc,comms:=cs } = { a.d with comms:=a.comms++FD v }
    rw [(h8 rfl).2.2.2, ← hcs]
    rfl
  refine J13 ?_
  refine eT1 ?_
  have e0:L6 a.d t v=some a.d:=(by unfold L6;rw [if_neg (by omega),if_neg (by omega),if_neg (by omega),if_neg (by omega),if_neg (by omega),if_neg (by omega),if_neg (by omega)])
  exact fun w' h=>⟨a,K,true,rfl,hA,rfl,rfl,rfl, .inr ⟨rfl,rfl⟩,h,fun _ h=>h,by rw [e0];exact ⟨rfl,by rw [if_neg Er]⟩⟩
end Gq

def Ho (k:Nat):Int:=if k=1 then 1 else if k=2 then -1 else if k=3 then 4 else if k=4 then 4 else if k=5 then 4 else if k=7 then 6 else if k=8 then -1 else 0
def GZ (w:World):Prop:=∀ i,i<9→w.cell? ⟨2,i,none⟩=some (.int .i64 (Ho i))
theorem GZ.FA {p:Nat→Prop}{w0 w:World}{L:List Ent}(hp:¬ p 2) (h:GZ w0) (hS:St p w0 w L):GZ w:=fun i hi=>hS.old hp (h i hi)
def strOf (xs:List Int):ByteArray:=str (fOf xs) xs.length
theorem SQ {x:Int}(h:0≤x∧x≤255):bits .and .u8 x 32=x / 32 % 2*32∧bits .and .u8 x 64=x / 64 % 2*64∧bits .and .u8 x 128=x / 128 % 2*128∧bits .and .i64 x 192=x / 64*64:=by
  obtain ⟨n,rfl⟩:=Int.eq_ofNat_of_zero_le h.1
  exact (AaK n Er).2
theorem or_bit:∀ t:Nat,t<9→∀ n:Nat,n<512→n / 2 ^ t % 2=0→n ||| 2 ^ t=n+2 ^ t:=by
  set_option maxRecDepth 20000 in decide +kernel
theorem TI {h:Int}{t:Nat}(h0:0≤h) (h1:h≤511) (ht:t≤8) (hb:h / 2 ^ t % 2=0):bits .or .i64 h (2 ^ t)=h+2 ^ t:=by
  obtain ⟨n,rfl⟩:=Int.eq_ofNat_of_zero_le h0
  have hp:(2:Int) ^ t=((2 ^ t:Nat):Int):=by simp
  have hp2:2 ^ t≤2 ^ 8:=Nat.pow_le_pow_right Et ht
  have key:=or_bit t Er n Er
  rw [hp] at hb ⊢
  generalize 2 ^ t=m at hb hp2 key ⊢
  rw [TC Er Er Er Er]
  unfold orN
  rw [Int.toNat_natCast,Int.toNat_natCast,key Er]
  omega
def CL (d:AtD) (all v:List Int):AtD ⊕ (Int×ByteArray) :=
  if fOf all 0 / 64*64≠DK (fOf all 1).toNat∨(fOf all 0 / 32 % 2*32≠0∧fOf all 0 / 64*64≠192) then .inr (4,strOf all)
  else if (0≤Ho (fOf all 1).toNat∧(v.length:Int)≠Ho (fOf all 1).toNat)∨(fOf all 1=8∧v.length % 4≠0) then .inr (5,strOf all)
  else if fOf all 1=8∧256<v.length / 4 then .inr (9,strOf all)
  else match L6 d (fOf all 1).toNat v with
    | none=>.inr (11,⟨#[]⟩)
    | some d' =>
      if fOf all 1=2∧(d'.path.all fun p=>Ji ⟨p.1,none,0,p.2⟩)=false then .inr (11,⟨#[]⟩)
      else if fOf all 1=1∧wiB d'.origin 2=false then .inr (6,strOf all)
      else if fOf all 1=3∧Kq d'.hop=false then .inr (8,strOf all)
      else .inl { d' with has:=d'.has+2 ^ (fOf all 1).toNat }
section Gq
attribute [local irreducible] WL WC WE WQ WP WH WR WM WRH

def TakeP (w0 w':World) (ga:Nat) (a:AtL) (all v:List Int) (K L:List Ent) (e:Ending):Prop :=
  ∃ a' K',GB K' a'∧a'.others=a.others∧a'.oad=a.oad∧a'.oc=a.oc∧(fOf all 1=8∨(a'.cad=a.cad∧a'.cc=a.cc))∧St (fun _=>False) w0 w' (.row ga a'.cells::(K'++L))∧(∀ e∈K,e∈K') ∧
    (match CL a.d all v with | .inr (s,d)=>e = .returned (.agg (AG 3 s d).toArray) | .inl d=>e = .returned (.agg (AG 0 0 ⟨#[]⟩).toArray)∧a'.d=d)
theorem good_1 (w:World) (a:AtL):Calls Tryz.prog 122 #[.agg a.cells.toArray, .int .i64 ((1:Nat):Int)] w fun e w'=>e = .returned (.bool (wiB a.origin 2))∧Frm (fun _=>False) w w':=by
  refine enter Tryz.func122 rfl Tryz.ntmps122 rfl (St.start (fun _=>False) w) ?_
  refine J2 ?_
  refine WL.box rfl rfl rfl (.none rfl) rfl rfl ?_
  intro g2 hg2
  refine J12 ?_
  refine zV ((AZ rfl rfl rfl).t Er) rfl ?_
  refine J8 ?_
  refine zk Nn rfl (fun w hS=>IV w a.origin 2) ?_
  refine J6 ?_
  exact A9
theorem good_3 (w:World) (a:AtL):Calls Tryz.prog 122 #[.agg a.cells.toArray, .int .i64 ((3:Nat):Int)] w fun e w'=>e = .returned (.bool (Kq a.hop))∧Frm (fun _=>False) w w':=by
  refine enter Tryz.func122 rfl Tryz.ntmps122 rfl (St.start (fun _=>False) w) ?_
  refine J2 ?_
  refine WL.box rfl rfl rfl (.none rfl) rfl rfl ?_
  intro g2 hg2
  refine J12 ?_
  refine zV ((AZ rfl rfl rfl).f Er) rfl ?_
  refine J6 ?_
  refine zV ((AZ rfl rfl rfl).f Er) rfl ?_
  refine J6 ?_
  refine zV ((AZ rfl rfl rfl).t Er) rfl ?_
  refine J8 ?_
  refine zk YB rfl (fun w hS=>QF w a.hop) ?_
  refine J6 ?_
  exact A9
theorem LF {d d':AtD}{t:Nat}{v:List Int}(h:L6 d t v=some d'):d'.has=d.has∧d'.others=d.others:=by
  unfold L6 at h
  split at h
  · cases h;exact ⟨rfl,rfl⟩
  split at h
  · obtain ⟨p,_,rfl⟩:=Option.map_eq_some_iff.1 h;exact ⟨rfl,rfl⟩
  split at h
  · cases h;exact ⟨rfl,rfl⟩
  split at h
  · cases h;exact ⟨rfl,rfl⟩
  split at h
  · cases h;exact ⟨rfl,rfl⟩
  split at h
  · cases h;exact ⟨rfl,rfl⟩
  split at h
  · cases h;exact ⟨rfl,rfl⟩
  · cases h;exact ⟨rfl,rfl⟩
theorem NQ:∀ t:Nat,t≤8→1≤(2:Int) ^ t∧(2:Int) ^ t≤256:=by
  intro t ht
  have:t=0∨t=1∨t=2∨t=3∨t=4∨t=5∨t=6∨t=7∨t=8:=by omega
  rcases this with rfl|rfl|rfl|rfl|rfl|rfl|rfl|rfl|rfl <;> decide
theorem RX (ss:List DO):((ss.map Ik).all fun p=>Ji ⟨p.1,none,0,p.2⟩)=ss.all Ji:=by rw [List.all_map];rfl
set_option maxHeartbeats 4000000 in
theorem take_c (w0 w1:World) (ga b oa ca ov cv:Nat) (all v:List Int) (a:AtL) (K L:List Ent) (hG:GF w0) (hZ:GZ w0) (hWa:Win w0 b oa ca all) (hWv:Win w0 b ov cv v) (hn:all.length≤100000) (hnv:v.length≤100000) (h2:2≤all.length) (t:Nat) (ht:fOf all 1=t) (ht1:1≤t) (ht8:t≤8)
    (hA:GB K a) (hh0:0≤a.has) (hh1:a.has≤511) (hb:a.has / 2 ^ t % 2=0) (h8:t=8→a.cad=none∧a.cc=0∧a.comms=[]) (hS0:St (fun _=>False) w0 w1 (.row ga a.cells::(K++L))) :
    Calls Tryz.prog 137 #[.pointer (some ⟨ga,0,none⟩), .slice (some ⟨b,oa,none⟩) all.length ca, .slice (some ⟨b,ov,none⟩) v.length cv] w1 fun e w'=>TakeP w0 w' ga a all v K L e:=by
  have b0:=CP hWa.bys 0
  have hab:=SQ b0
  refine enter Tryz.func137 rfl Tryz.ntmps137 rfl hS0 ?_
  refine J2 ?_
  refine WL.alloc rfl CV (.none rfl) rfl rfl ?_
  intro g6 hg6
  refine J5 ?_
  refine zV (AB (lo:=1) rfl rfl rfl Tryz.underlying25 AO rfl Er) rfl ?_
  refine zV (AA rfl rfl BH (AL (fun h=>h) (hWa.get (BJ Er)))) rfl ?_
  refine zV (AQ rfl rfl Tryz.underlying3 Tryz.underlying5 (AF Er Er)) rfl ?_
  rw [ht]
  refine J6 ?_
  refine zV (AB (lo:=0) rfl rfl rfl Tryz.underlying25 AO rfl Er) rfl ?_
  refine zV (AA rfl rfl BH (AL (fun h=>h) (hWa.get (BJ Er)))) rfl ?_
  refine zV (AQ rfl rfl Tryz.underlying3 Tryz.underlying5 (AF Er Er)) rfl ?_
  refine zV (J0 rfl rfl rfl (hab.2.2.2)) rfl ?_
  refine J3 ?_
  refine WC.cut (fun _:Unit=>[(7, .int .i64 t),(0, .pointer (some ⟨ga,0,none⟩)),(1, .slice (some ⟨b,oa,none⟩) all.length ca),(2, .slice (some ⟨b,ov,none⟩) v.length cv),(6, .pointer (some ⟨g6,0,none⟩))]) (fun _=>.row g6 (AG 0 0 ⟨#[]⟩)::.row ga a.cells::(K++L)) (fun _=>¬ (fOf all 0 / 64*64≠DK t∨(fOf all 0 / 32 % 2*32≠0∧fOf all 0 / 64*64≠192))) ?_ ?_
  refine J4 ?_
  refine zV (AT (lo:=t) rfl rfl rfl Tryz.underlying179 AP Er Er) rfl ?_
  refine zV (AA rfl rfl AK (AL (v:=.int .i64 (DK t)) (fun h=>h) Fz)) rfl ?_
  refine JT (fun h22=>?_) (fun h22=>?_)
  refine J17 ?_
  exact Dw
  refine J2 ?_
  refine zS (AB (lo:=0) rfl rfl rfl Tryz.underlying25 AO rfl Er) rfl ?_
  refine zS (AA rfl rfl BH (AL (fun h=>h) (hWa.get (BJ Er)))) rfl ?_
  refine zS (J0 rfl rfl rfl (hab.1)) rfl ?_
  refine JT (fun h28=>?_) (fun h28=>?_)
  refine J2 ?_
  refine JT (fun h31=>?_) (fun h31=>?_)
  refine J8 ?_
  exact Dw
  refine J6 ?_
  exact C6
  refine J9 ?_
  exact C6
  intro _ hfl
  refine WC.cut (fun _:Unit=>[(7, .int .i64 t),(0, .pointer (some ⟨ga,0,none⟩)),(1, .slice (some ⟨b,oa,none⟩) all.length ca),(2, .slice (some ⟨b,ov,none⟩) v.length cv),(6, .pointer (some ⟨g6,0,none⟩))]) (fun _=>.row g6 (AG 0 0 ⟨#[]⟩)::.row ga a.cells::(K++L)) (fun _=>¬ ((0≤Ho t∧(v.length:Int)≠Ho t)∨(t=8∧v.length % 4≠0))) ?_ ?_
  refine J3 ?_
  refine zV (AT (lo:=t) rfl rfl rfl Tryz.underlying179 AP Er Er) rfl ?_
  refine zV (AA rfl rfl AK (AL (v:=.int .i64 (Ho t)) (fun h=>h) (by rw [Nat.zero_add,Nat.mul_one];exact hZ t (by omega)))) rfl ?_
  refine JT (fun h40=>?_) (fun h40=>?_)
  refine J4 ?_
  refine zS (AT (lo:=t) rfl rfl rfl Tryz.underlying179 AP Er Er) rfl ?_
  refine zS (AA rfl rfl AK (AL (v:=.int .i64 (Ho t)) (fun h=>h) (by rw [Nat.zero_add,Nat.mul_one];exact hZ t (by omega)))) rfl ?_
  refine JT (fun h47=>?_) (fun h47=>?_)
  refine J17 ?_
  exact Ay
  refine J3 ?_
  exact D3
  refine J10 ?_
  exact D3
  intro _ hsz
  refine WC.cut (fun _:Unit=>[(7, .int .i64 t),(0, .pointer (some ⟨ga,0,none⟩)),(1, .slice (some ⟨b,oa,none⟩) all.length ca),(2, .slice (some ⟨b,ov,none⟩) v.length cv),(6, .pointer (some ⟨g6,0,none⟩))]) (fun _=>.row g6 (AG 0 0 ⟨#[]⟩)::.row ga a.cells::(K++L)) (fun _=>¬ (t=8∧256<v.length / 4)) ?_ ?_
  refine J3 ?_
  refine JT (fun h63=>?_) (fun h63=>?_)
  refine J3 ?_
  refine zS (OB rfl rfl rfl Er Er (AF Er Er)) rfl ?_
  refine JT (fun h68=>?_) (fun h68=>?_)
  refine J7 ?_
  refine zV (CJ (fOf all) rfl rfl Tryz.underlying25 Tryz.underlying5 Tryz.underlying9 (fun w' hS' _=>⟨b,oa,rfl,DV (hWa.st hS').at_⟩)) rfl ?_
  refine J6 ?_
  refine eT1 ?_
  have e0:CL a.d all v = .inr (9,strOf all):=(by unfold CL;rw [ht,Int.toNat_natCast,if_neg hfl,if_neg (by omega),if_pos (by omega)])
  exact Bd
  refine J5 ?_
  exact C6
  refine J10 ?_
  exact C6
  intro _ hmc
  refine WC.to (L':=.row ga a.cells::(K++(.row g6 (AG 0 0 ⟨#[]⟩)::L))) (fun w hS=>St.front (R:=.row ga a.cells::K) (L:=L) [.row g6 (AG 0 0 ⟨#[]⟩)] hS) ?_
  refine J6 ?_
  refine zK ck_143 rfl ?_
  intro w1 hS
  refine (set_c w0 w1 ga b ov cv v a t K (.row g6 (AG 0 0 ⟨#[]⟩)::L) hWv hnv hA hS (fun e=>by subst e;unfold Ho at hsz;simp at hsz;omega) (fun e=>by rcases e with rfl|rfl|rfl <;> (unfold Ho at hsz;simp at hsz;omega)) (fun e=>by subst e;unfold Ho at hsz;simp at hsz;omega) (fun e=>⟨by omega,h8 e⟩)).mono ?_
  rintro e w' ⟨a',K',ok,rfl,hA',hq1,hq2,hq3,hq4,hS',hKK,hD⟩
  have hq4':fOf all 1=8∨(a'.cad=a.cad∧a'.cc=a.cc):=hq4.imp (fun h=>by omega) id
  refine ⟨_,_,rfl,hS',?_⟩
  skip
  cases ok
  refine J12 ?_
  refine eT1 ?_
  have e0:CL a.d all v = .inr (11,⟨#[]⟩):=(by
    unfold CL
    rw [ht,Int.toNat_natCast,if_neg hfl,if_neg Er,if_neg Er]
    cases hs:L6 a.d t v with
    | none=>rfl
    | some d' =>
      rw [hs] at hD
      obtain ⟨hd,hok⟩:=hD
      by_cases h2:t=2
      · rw [if_pos h2] at hok
        show (if _ then _ else _)=_
        rw [if_pos ⟨by omega,by rw [← hd];show ((a'.path.map Ik).all _)=_;rw [RX];exact hok.symm⟩]
      · rw [if_neg h2] at hok;cases hok)
  exact fun w' h=>⟨a',K',hA',hq1,hq2,hq3,hq4',h.sub (.cons_cons _ (List.Sublist.append_left (.cons _ (.refl _)) _)),hKK,by rw [e0];rfl⟩
  refine J9 ?_
  obtain ⟨d',hs,hd,hgp⟩:∃ d',L6 a.d t v=some d'∧a'.d=d'∧(t=2→a'.path.all Ji=true):=(by
    cases hs:L6 a.d t v with
    | none=>rw [hs] at hD;cases hD
    | some d' =>
      rw [hs] at hD
      exact ⟨d',rfl,hD.1,fun e=>by rw [if_pos e] at hD;exact hD.2.symm⟩)
  have e1:CL a.d all v=if t=1∧wiB a'.origin 2=false then .inr (6,strOf all) else if t=3∧Kq a'.hop=false then .inr (8,strOf all) else .inl { a'.d with has:=a.has+2 ^ t }:=(by
    unfold CL
    rw [ht,Int.toNat_natCast,if_neg hfl,if_neg Er,if_neg Er,hs]
    show (if _ then _ else _)=_
    rw [if_neg (by
      rintro ⟨h2,h3⟩
      rw [← hd] at h3
      have h4:((a'.path.map Ik).all fun p=>Ji ⟨p.1,none,0,p.2⟩)=false:=h3
      rw [RX,hgp Er] at h4
      cases h4),(LF hs).1, ← hd]
    exact ite_congr (propext (by constructor <;> (rintro ⟨h1,h2⟩;exact ⟨by omega,h2⟩))) (fun _=>rfl) (fun _=>ite_congr (propext (by constructor <;> (rintro ⟨h1,h2⟩;exact ⟨by omega,h2⟩))) (fun _=>rfl) (fun _=>rfl)))
  have hhas:a'.has=a.has:=(by have:=(LF hs).1;rw [← hd] at this;exact this)
  refine J1 ?_
  refine JT (fun h80=>?_) (fun h80=>?_)
  refine J1 ?_
  obtain rfl:t=1:=Er
  refine J2 ?_
  refine zS (CA rfl rfl Lz rfl (IK (m:=10) rfl)) rfl ?_
  refine J1 ?_
  refine zk TR rfl (fun w hS=>good_1 w a') ?_
  generalize hg:wiB a'.origin 2=bg
  cases bg
  refine J8 ?_
  refine zV (CJ (fOf all) rfl rfl Tryz.underlying25 Tryz.underlying5 Tryz.underlying9 (fun w' hS' _=>⟨b,oa,rfl,DV (hWa.st hS').at_⟩)) rfl ?_
  refine J6 ?_
  refine eT1 ?_
  rw [if_pos ⟨rfl,hg⟩] at e1
  exact Co
  refine J11 ?_
  refine zV ((AZ rfl rfl rfl).f Er) rfl ?_
  refine J14 ?_
  refine WC.BB mixed<|rF 5 [0,1,2,4,5]<|?_
  rw [if_neg (by rintro ⟨_,h⟩;rw [hg] at h;cases h),if_neg Er] at e1
  have hpw:=NQ _ ht8
  refine J4 ?_
  refine pV (OT (m:=1) (c:=(2:Int) ^ 1) rfl rfl rfl rfl Et rfl (show _=(2:Int) ^ 1 from by decide)) rfl ?_
  refine J1 ?_
  refine rA 1 [3,6,7,8] rfl ?_
  refine J1 ?_
  refine qV (Uz rfl rfl rfl (show _=a.has+2 ^ 1 from by rw [hhas];exact TI hh0 hh1 ht8 hb)) rfl ?_
  refine J3 ?_
  refine rO 0 [9] ?_
  refine J1 ?_
  refine WL.as (L':=.row ga (AtL.cells { a' with has:=a.has+2 ^ 1 })::(K'++(.row g6 (AG 0 0 ⟨#[]⟩)::L))) rfl ?_
  refine J10 ?_
  refine eT1 ?_
  exact fun w' h=>⟨{ a' with has:=a.has+2 ^ 1 },K',⟨hA'.path,hA'.H5,hA'.comms⟩,hq1,hq2,hq3,hq4',h.sub (.cons_cons _ (List.Sublist.append_left (.cons _ (.refl _)) _)),hKK,by rw [e1];exact ⟨rfl,rfl⟩⟩
  refine J17 ?_
  refine JT (fun h93=>?_) (fun h93=>?_)
  refine J1 ?_
  obtain rfl:t=3:=Er
  refine J2 ?_
  refine zS (CA rfl rfl Lz rfl (IK (m:=10) rfl)) rfl ?_
  refine J1 ?_
  refine zk TR rfl (fun w hS=>good_3 w a') ?_
  generalize hg3:Kq a'.hop=bg3
  cases bg3
  refine J8 ?_
  refine zV (CJ (fOf all) rfl rfl Tryz.underlying25 Tryz.underlying5 Tryz.underlying9 (fun w' hS' _=>⟨b,oa,rfl,DV (hWa.st hS').at_⟩)) rfl ?_
  refine J6 ?_
  refine eT1 ?_
  rw [if_neg Er,if_pos ⟨rfl,hg3⟩] at e1
  exact Co
  refine J8 ?_
  refine WC.BB mixed<|rF 5 [0,1,2,4,5]<|?_
  rw [if_neg Er,if_neg (by rintro ⟨_,h⟩;rw [hg3] at h;cases h)] at e1
  have hpw:=NQ _ ht8
  refine J4 ?_
  refine pV (OT (m:=3) (c:=(2:Int) ^ 3) rfl rfl rfl rfl Et rfl (show _=(2:Int) ^ 3 from by decide)) rfl ?_
  refine J1 ?_
  refine rA 1 [3,6,7,8] rfl ?_
  refine J1 ?_
  refine qV (Uz rfl rfl rfl (show _=a.has+2 ^ 3 from by rw [hhas];exact TI hh0 hh1 ht8 hb)) rfl ?_
  refine J3 ?_
  refine rO 0 [9] ?_
  refine J1 ?_
  refine WL.as (L':=.row ga (AtL.cells { a' with has:=a.has+2 ^ 3 })::(K'++(.row g6 (AG 0 0 ⟨#[]⟩)::L))) rfl ?_
  refine J10 ?_
  refine eT1 ?_
  exact fun w' h=>⟨{ a' with has:=a.has+2 ^ 3 },K',⟨hA'.path,hA'.H5,hA'.comms⟩,hq1,hq2,hq3,hq4',h.sub (.cons_cons _ (List.Sublist.append_left (.cons _ (.refl _)) _)),hKK,by rw [e1];exact ⟨rfl,rfl⟩⟩
  refine J14 ?_
  refine WC.BB mixed<|rF 5 [0,1,2,4,5]<|?_
  rw [if_neg Er,if_neg Er] at e1
  have hpw:=NQ _ ht8
  refine J4 ?_
  refine pV ((OT (m:=t) (c:=(2:Int) ^ t) rfl rfl rfl rfl (by show t≤64;omega) rfl (show _=(2:Int) ^ t from by rw [Int.one_mul];exact AF Er Er))) rfl ?_
  refine J1 ?_
  refine rA 1 [3,6,7,8] rfl ?_
  refine J1 ?_
  refine qV (Uz rfl rfl rfl (show _=a.has+2 ^ t from by rw [hhas];exact TI hh0 hh1 ht8 hb)) rfl ?_
  refine J3 ?_
  refine rO 0 [9] ?_
  refine J1 ?_
  refine WL.as (L':=.row ga (AtL.cells { a' with has:=a.has+2 ^ t })::(K'++(.row g6 (AG 0 0 ⟨#[]⟩)::L))) rfl ?_
  refine J10 ?_
  refine eT1 ?_
  exact fun w' h=>⟨{ a' with has:=a.has+2 ^ t },K',⟨hA'.path,hA'.H5,hA'.comms⟩,hq1,hq2,hq3,hq4',h.sub (.cons_cons _ (List.Sublist.append_left (.cons _ (.refl _)) _)),hKK,by rw [e1];exact ⟨rfl,rfl⟩⟩
end Gq
end Go.Proofs.YtcmpamnhegndnaaGreatDoor
