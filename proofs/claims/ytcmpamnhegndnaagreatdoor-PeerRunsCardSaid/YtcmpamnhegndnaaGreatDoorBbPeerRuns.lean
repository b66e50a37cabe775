/- Texts joined: engine, contracts and laws, in the order in which they build. -/
import Derived.OrdersHeld
import Derived.Test.YtcmpamnhegndnaaGreatDoorProg
import Derived.Test.YtcmpamnhegndnaaGreatDoorBaPeerRuns
namespace Go.Proofs.YtcmpamnhegndnaaGreatDoor
open Go.RowKit

section
variable {P:Program}{C:World→Prop}{ops:Array Oper}{Q:Exit→Act→World→Prop}{n:Nat}{p:Nat→Prop}{w0:World}{o:Oper}{rest:List Oper}{l:Kn}{L:List Ent}

structure RO (P:Program) (kt:TypeId) (K:Value→Prop):Prop where
  check:∀ b w v,K v→(Instr.checkKey b 10000 kt v).run P w = .ok () w
  find:∀ w x (es:List MapEntry),K x→(∀ e∈es,K e.key) →
    ((Instr.findKey kt x es).run P w = .ok none w∧∀ e∈es,e.key≠x)∨∃ j e0,(Instr.findKey kt x es).run P w = .ok (some (j,e0.val)) w∧es[j]?=some e0∧e0.key=x
  stays:∀ w v,K v→(Instr.keyThatStays v v).run P w = .ok v w
def Mc (k:IntKind):Value→Prop:=fun v=>∃ x,v = .int k x
theorem Mc.mk (k:IntKind) (x:Int):Mc k (.int k x):=⟨x,rfl⟩
theorem Rs {kt:TypeId}{k:IntKind}(hk:P.underlying kt=some (.int k)):RO P kt (Mc k) where
  check:=by rintro b w v ⟨x,rfl⟩;exact MapKept.run_checkKey hk Gf b 9999
  find:=by
    rintro w v es ⟨x,rfl⟩ h
    rcases MapKept.findNow_spec (d:=.int k) (k:=.int k x) rfl es 0 (fun e he=>by obtain ⟨y,hy⟩:=h e he;rw [hy];rfl) with ⟨h1,h2⟩|⟨j,e,h1,h2,h3⟩
    · exact .inl ⟨MapKept.run_findKey hk h1,h2⟩
    · exact .inr ⟨j,e,by rw [MapKept.run_findKey hk h1,Nat.zero_add],h2,h3⟩
  stays:=by rintro w v ⟨x,rfl⟩;exact MapKept.run_keyThatStays (d:=.int k) rfl
structure JA (K:Value→Prop) (es:Array MapEntry) (m:Value→Option Value):Prop where
  keys:∀ e∈es.toList,K e.key
  nodup:(es.toList.map (·.key)).Nodup
  get:∀ x v,m x=some v↔∃ e∈es.toList,e.key=x∧e.val=v
theorem Frm.Aba {p:Nat→Prop}{w w':World}{g:Nat}{ob:Obj}(h:Frm p w w') (hp:¬ p g) (hb:w.heap[g]?=some ob):w'.heap[g]?=some ob:=by
  rw [h.block g (Array.getElem?_eq_some_iff.1 hb).1 hp];exact hb
theorem St.Rz {p:Nat→Prop}{w0 w:World}{L:List Ent}{g:Nat}{cs:List Value}(h:St p w0 w L) (hp:¬ p g) (hr:Row w0 g cs):Row w g cs:=by
  obtain ⟨T,lo,hi,h1,h2⟩:=hr
  exact ⟨T,lo,hi,by rw [h.frm.block g (Array.getElem?_eq_some_iff.1 h1).1 hp];exact h1,h2⟩
theorem St.front {p:Nat→Prop}{w0 w:World}{L R:List Ent}(E:List Ent) (h:St p w0 w (E++(R++L))):St p w0 w (R++(E++L)):=h.perm (by
  rw [← List.append_assoc, ← List.append_assoc];exact List.Perm.append_right _ List.perm_append_comm)
theorem JA.empty (K:Value→Prop):JA K #[] (fun _=>none):=⟨by simp,by simp,by simp⟩
theorem JA.Adn {K:Value→Prop}{es:Array MapEntry}{m:Value→Option Value}(h:JA K es m){x:Value}(hf:∀ e∈es.toList,e.key≠x):m x=none:=by
  cases hm:m x with
  | none=>rfl
  | some v =>
    obtain ⟨e,he,hx,_⟩:=(h.get x v).1 hm
    exact absurd hx (hf e he)
open Classical in
noncomputable def JB {α β:Type}(m:α→Option β) (x:α) (v:Option β):α→Option β:=fun y=>if y=x then v else m y
theorem VE {α β:Type}(m:α→Option β) (x:α) (v:Option β):JB m x v x=v:=by unfold JB;rw [if_pos rfl]
theorem VK {α β:Type}(m:α→Option β){x y:α}(v:Option β) (h:y≠x):JB m x v y=m y:=by unfold JB;rw [if_neg h]
theorem L8 {kt:Nat}{K:Value→Prop}(hk:RO P kt K){x:Value}(hx:K x){es:Array MapEntry}{m:Value→Option Value}(hM:JA K es m) (w:World) :
    (m x=none∧(∀ e∈es.toList,e.key≠x)∧(Instr.findKey kt x es.toList).run P w = .ok none w) ∨
    ∃ j e0,m x=some e0.val∧es.toList[j]?=some e0∧e0.key=x∧(Instr.findKey kt x es.toList).run P w = .ok (some (j,e0.val)) w:=by
  rcases hk.find w x es.toList hx hM.keys with ⟨h1,h2⟩|⟨j,e0,h1,h2,h3⟩
  · exact .inl ⟨hM.Adn h2,h2,h1⟩
  · exact .inr ⟨j,e0,(hM.get _ _).2 ⟨e0,List.mem_of_getElem? h2,h3,rfl⟩,h2,h3,h1⟩

class Loc (L:List Ent) (g:Nat) (e:outParam Ent) (F:outParam (Ent→List Ent)):Prop where
  ok:∃ A B,L=A++e::B∧F=fun x=>A++x::B
instance {L:List Ent}{g:Nat}{cs:List Value}:Loc (.row g cs::L) g (.row g cs) (fun x=>x::L):=⟨⟨[],L,rfl,rfl⟩⟩
instance {L:List Ent}{g:Nat}{ob:Obj}:Loc (.obj g ob::L) g (.obj g ob) (fun x=>x::L):=⟨⟨[],L,rfl,rfl⟩⟩
instance {d:Ent}{L:List Ent}{g:Nat}{e:Ent}{F:Ent→List Ent}[h:Loc L g e F]:Loc (d::L) g e (fun x=>d::F x):=⟨let ⟨A,B,h1,h2⟩:=h.ok; ⟨d::A,B,by rw [h1];rfl,by rw [h2];rfl⟩⟩
instance {E L:List Ent}{g:Nat}{e:Ent}{F:Ent→List Ent}[h:Loc L g e F]:Loc (E++L) g e (fun x=>E++F x):=⟨let ⟨A,B,h1,h2⟩:=h.ok; ⟨E++A,B,by rw [h1,List.append_assoc],by rw [h2];funext x;simp⟩⟩
def MapV (r:Option Nat) (es:Array MapEntry) (L:List Ent):Prop:=(r=none∧es = #[])∨∃ g c,r=some g∧Ent.obj g (.map es c)∈L
def TM (w:World) (r:Option Nat) (es:Array MapEntry):Prop:=(r=none∧es = #[])∨∃ g c,r=some g∧w.heap[g]?=some (.map es c)
theorem Y8 {es:Array MapEntry}{c:Nat}(gm:Nat) (h:Ent.obj gm (.map es c)∈L):∀ w,St p w0 w L→TM w (some gm) es:=fun _ hS=>.inr ⟨gm,c,rfl,(hS.holds _ h).1⟩
theorem mapOld {r:Option Nat}{es:Array MapEntry}(hp:∀ g, ¬ p g) (h:TM w0 r es):∀ w,St p w0 w L→TM w r es:=fun _ hS=>h.imp id fun ⟨g,c,e,hm⟩=>⟨g,c,e,hS.frm.Aba (hp g) hm⟩
section
variable {t kt et d:Nat}{x xi:Operand}{K:Value→Prop}{A:Value}{r:Option Nat}{es:Array MapEntry}{m:Value→Option Value}{z:Value}
theorem Oy {ok:Bool}{a:Act}{w:World}(ho:o.op = .lookup t x xi ok) (h1:a.eval x = .map r) (h2:a.eval xi=A) (hu:P.underlying t=some (.map kt et)) (hk:RO P kt K) (hA:K A) (hz:(P.info? et).bind (·.zero)=some z)
    (hV:TM w r es) (hM:JA K es m):(execOp a.eval o).run P w = .ok (.value (if ok then .tuple #[(m A).getD z, .bool (m A).isSome] else (m A).getD z)) w:=by
  have hc:∀ b,(Instr.checkKey b 10000 kt A).run P w = .ok () w:=fun b=>hk.check b w A hA
  have hz':(zeroValue et).run P w = .ok z w:=FC hz w
  rcases L8 hk hA hM w with ⟨hm,_,hf⟩|⟨j,e0,hm,_,_,hf⟩
  · rcases hV with ⟨rfl,rfl⟩|⟨g,c,rfl,hmem⟩
    · have hf':(Instr.findKey kt A []).run P w = .ok none w:=hf
      cases ok <;> simp [execOp,ho,h1,h2,Instr.lookup,run_underlying hu,hc,hf',hm,hz',Result.andThen]
    · have hob:=hmem
      cases ok <;> simp [execOp,ho,h1,h2,Instr.lookup,run_underlying hu,MapKept.run_getObj_map hob,hc,hf,hm,hz',Result.andThen]
  · rcases hV with ⟨rfl,rfl⟩|⟨g,c,rfl,hmem⟩
    · have hf':(Instr.findKey kt A []).run P w = .ok (some (j,e0.val)) w:=hf
      cases ok <;> simp [execOp,ho,h1,h2,Instr.lookup,run_underlying hu,hc,hf',hm,Result.andThen]
    · have hob:=hmem
      cases ok <;> simp [execOp,ho,h1,h2,Instr.lookup,run_underlying hu,MapKept.run_getObj_map hob,hc,hf,hm,Result.andThen]
theorem Zu (ho:o.op = .lookup t x xi false) (hx:ev l x=some (.map r)) (hi:ev l xi=some A) (hu:P.underlying t=some (.map kt et)) (hk:RO P kt K) (hA:K A) (hz:(P.info? et).bind (·.zero)=some z)
    (hV:∀ w,C w→TM w r es) (hM:JA K es m):Val P C n l o ((m A).getD z):=fun a w ha hS=>by
  simpa using Oy ho (ha.ev hx) (ha.ev hi) hu hk hA hz (hV _ hS) hM
theorem LD (ho:o.op = .lookup t x xi true) (hx:ev l x=some (.map r)) (hi:ev l xi=some A) (hu:P.underlying t=some (.map kt et)) (hk:RO P kt K) (hA:K A) (hz:(P.info? et).bind (·.zero)=some z)
    (hV:∀ w,C w→TM w r es) (hM:JA K es m):Val P C n l o (.tuple #[(m A).getD z, .bool (m A).isSome]):=fun a w ha hS=>by
  simpa using Oy ho (ha.ev hx) (ha.ev hi) hu hk hA hz (hV _ hS) hM
theorem WL.makeMap (ho:o.op = .makeMap t none) (hg:On ops o l) (hd:o.dst=some d) (hn:Nat.blt d n=true)
    (h:∀ g,w0.heap.size≤g→WL P ops Q n p w0 rest ((d, .map (some g))::l) (.obj g (.map #[] 0)::L)):WL P ops Q n p w0 (o::rest) l L:=by
  refine WL.op hg hd hn fun a w ha hS=>?_
  refine ⟨_,_,_,?_,St.newObj (ob:=.map #[] 0) hS trivial,h _ hS.frm.size⟩
  unfold execOp
  simp [ho,Instr.makeMap,newObj,Sem.run]
theorem Frm.setObj {w:World}{g:Nat}{ob:Obj}:Frm (fun b=>b=g) w { w with heap:=w.heap.setIfInBounds g ob } :=
  ⟨rfl,rfl,rfl,by simp,fun k _ hn=>by simp [Ne.symm hn],Nat.le_refl _⟩
theorem PZ {c g:Nat}{v:Value}{w:World}(hu:P.underlying t=some (.map kt et)) (hk:RO P kt K) (hA:K A) (hob:w.heap[g]?=some (.map es c)) (hM:JA K es m) :
    ∃ es' c',(Instr.mapUpdate t (.map (some g)) A v).run P w = .ok () { w with heap:=w.heap.setIfInBounds g (.map es' c') }∧JA K es' (JB m A (some v))∧es'.size=(if (m A).isSome then es.size else es.size+1)∧(MapKept.Stamped es c→MapKept.Stamped es' c'):=by
  have hc:∀ b,(Instr.checkKey b 10000 kt A).run P w = .ok () w:=fun b=>hk.check b w A hA
  rcases L8 hk hA hM w with ⟨hm,hn,hf⟩|⟨j,e0,hm,hj,hke,hf⟩
  · refine ⟨es.push { key:=A,val:=v,born:=c },c+1,?_,⟨?_,?_,?_⟩,by simp [hm],fun h=>MapKept.stamped_push h hn⟩
    · simp [Instr.mapUpdate,run_underlying hu,MapKept.run_getObj_map hob,MapKept.run_setObj_map _ hob,hc,hf,Result.andThen]
    · intro e he
      rw [Array.toList_push] at he
      rcases List.mem_append.1 he with he|he
      · exact hM.keys e he
      · simp only [List.mem_singleton] at he;subst he;exact hA
    · rw [Array.toList_push,List.map_append,List.nodup_append]
      refine ⟨hM.nodup,by simp,?_⟩
      intro a ha b hb e
      simp only [List.map_cons,List.map_nil,List.mem_singleton] at hb
      obtain ⟨e1,he1,rfl⟩:=List.mem_map.1 ha
      exact hn e1 he1 (by rw [e,hb])
    · intro y u
      rw [Array.toList_push]
      unfold JB
      by_cases hy:y=A
      · subst hy
        rw [if_pos rfl]
        constructor
        · intro h;cases h;exact ⟨_,List.mem_append_right _ (List.mem_singleton.2 rfl),rfl,rfl⟩
        · rintro ⟨e,he,h1,rfl⟩
          rcases List.mem_append.1 he with he|he
          · exact absurd h1 (hn e he)
          · rw [List.mem_singleton.1 he]
      · rw [if_neg hy,hM.get y u]
        constructor
        · rintro ⟨e,he,h1,h2⟩;exact ⟨e,List.mem_append_left _ he,h1,h2⟩
        · rintro ⟨e,he,h1,h2⟩
          rcases List.mem_append.1 he with he|he
          · exact ⟨e,he,h1,h2⟩
          · rw [List.mem_singleton.1 he] at h1;exact absurd h1.symm hy
  · have hjl:=(List.getElem?_eq_some_iff.1 hj).1
    have hej:es[j]?=some e0:=by simpa using hj
    have hlen:∀ i,(es.toList.modify j fun e=>{ e with key:=A,val:=v })[i]?=(es.toList[i]?).map fun e=>if j=i then { e with key:=A,val:=v } else e:=fun i=>by
      rw [List.getElem?_modify];cases es.toList[i]? <;> simp
    refine ⟨es.modify j fun e=>{ e with key:=A,val:=v },c,?_,⟨?_,?_,?_⟩,by simp [hm],fun h=>MapKept.stamped_modify h j _ (fun _ _=>rfl) (fun e _ he=>by rw [hej] at he;cases he;exact hke.symm)⟩
    · simp [Instr.mapUpdate,run_underlying hu,MapKept.run_getObj_map hob,MapKept.run_setObj_map _ hob,hc,hf,hej,hke,hk.stays w A hA,Result.andThen]
    · intro e he
      rw [Array.toList_modify] at he
      obtain ⟨i,hi⟩:=List.mem_iff_getElem?.1 he
      rw [hlen] at hi
      cases hq:es.toList[i]? with
      | none=>simp [hq] at hi
      | some e1 =>
        simp only [hq,Option.map_some,Option.some.injEq] at hi
        split at hi
        · subst hi;exact hA
        · subst hi;exact hM.keys _ (List.mem_of_getElem? hq)
    · have:(es.modify j fun e=>{ e with key:=A,val:=v }).toList.map (·.key)=es.toList.map (·.key):=by
        apply List.ext_getElem?
        intro i
        rw [Array.toList_modify,List.getElem?_map,List.getElem?_map,hlen]
        by_cases hi:j=i
        · subst hi;simp [hj,hke]
        · simp [hi]
      rw [this];exact hM.nodup
    · intro y u
      rw [Array.toList_modify]
      have huniq:∀ i e,es.toList[i]?=some e→e.key=A→i=j:=fun i e hi hA'=>by
        have h1:(es.toList.map (·.key))[i]?=some A:=by rw [List.getElem?_map,hi];simp [hA']
        have h2:(es.toList.map (·.key))[j]?=some A:=by rw [List.getElem?_map,hj];simp [hke]
        have hil:=(List.getElem?_eq_some_iff.1 h1).1
        have hjl:=(List.getElem?_eq_some_iff.1 h2).1
        exact (List.getElem?_inj hil hM.nodup).1 (by rw [h1,h2])
      unfold JB
      by_cases hy:y=A
      · subst hy
        rw [if_pos rfl]
        constructor
        · intro h;cases h
          refine ⟨{ e0 with key:=y,val:=v },List.mem_iff_getElem?.2 ⟨j,by rw [hlen,hj];simp⟩,rfl,rfl⟩
        · rintro ⟨e,he,h1,rfl⟩
          obtain ⟨i,hi⟩:=List.mem_iff_getElem?.1 he
          rw [hlen] at hi
          cases hq:es.toList[i]? with
          | none=>simp [hq] at hi
          | some e1 =>
            simp only [hq,Option.map_some,Option.some.injEq] at hi
            split at hi
            · subst hi;rfl
            · rename_i hne
              subst hi
              exact absurd (huniq i _ hq h1).symm hne
      · rw [if_neg hy,hM.get y u]
        constructor
        · rintro ⟨e,he,h1,h2⟩
          obtain ⟨i,hi⟩:=List.mem_iff_getElem?.1 he
          refine ⟨e,List.mem_iff_getElem?.2 ⟨i,?_⟩,h1,h2⟩
          rw [hlen,hi,Option.map_some,if_neg]
          intro e';subst e'
          rw [hj] at hi;cases hi
          exact hy (h1.symm.trans hke)
        · rintro ⟨e,he,h1,h2⟩
          obtain ⟨i,hi⟩:=List.mem_iff_getElem?.1 he
          rw [hlen] at hi
          cases hq:es.toList[i]? with
          | none=>simp [hq] at hi
          | some e1 =>
            simp only [hq,Option.map_some,Option.some.injEq] at hi
            split at hi
            · subst hi;exact absurd h1.symm hy
            · subst hi;exact ⟨_,List.mem_of_getElem? hq,h1,h2⟩
theorem WL.mapUpdate {g c:Nat}{xv:Operand}{v:Value}{F:Ent→List Ent}(ho:o.op = .mapUpdate t x xi xv) (hx:ev l x=some (.map (some g))) (hi:ev l xi=some A) (hv:ev l xv=some v) (hu:P.underlying t=some (.map kt et)) (hk:RO P kt K) (hA:K A)
    [hL:Loc L g (.obj g (.map es c)) F] (hM:JA K es m) (hg:On ops o l) (hd:o.dst=none)
    (h:∀ es' c',JA K es' (JB m A (some v))→es'.size=(if (m A).isSome then es.size else es.size+1)→WL P ops Q n p w0 rest l (F (.obj g (.map es' c')))):WL P ops Q n p w0 (o::rest) l L:=by
  refine WL.act hg hd fun a w ha hS=>?_
  obtain ⟨A',B',rfl,rfl⟩:=hL.ok
  have hob:=(hS.holds (.obj g (.map es c)) Fe).1
  obtain ⟨es',c',hr,hM',hsz,_⟩:=PZ (P:=P) (A:=A) (v:=v) (w:=w) hu hk hA hob hM
  refine ⟨{ w with heap:=w.heap.setIfInBounds g (.map es' c') },A'++.obj g (.map es' c')::B', .inl ?_,?_,h es' c' hM' hsz⟩
  · have h1:=ha.ev hx;have h2:=ha.ev hi;have h3:=ha.ev hv
    unfold execOp
    simp [ho,h1,h2,h3,hr]
  · exact hS.put (g:=g) (e:=.obj g (.map es' c')) (hp:=⟨fun _=>⟨A',B',_,rfl,rfl,rfl⟩⟩) rfl Frm.setObj ⟨by
      have hlt:=(Array.getElem?_eq_some_iff.1 hob).1
      simp [hlt],trivial⟩
theorem UP {c g:Nat}{w:World}{ty:Nat}(hu:P.underlying t=some (.map kt et)) (hk:RO P kt K) (hA:K A) (hob:w.heap[g]?=some (.map es c)) (hM:JA K es m) :
    ∃ es',(Builtin.delete_ #[t,kt] ty #[.map (some g),A]).run P w = .ok (.tuple #[]) { w with heap:=w.heap.setIfInBounds g (.map es' c) }∧JA K es' (JB m A none)∧es'.size=(if (m A).isSome then es.size-1 else es.size)∧(MapKept.Stamped es c→MapKept.Stamped es' c):=by
  have hc:∀ b,(Instr.checkKey b 10000 kt A).run P w = .ok () w:=fun b=>hk.check b w A hA
  rcases L8 hk hA hM w with ⟨hm,hn,hf⟩|⟨j,e0,hm,hj,hke,hf⟩
  · refine ⟨es,?_,⟨hM.keys,hM.nodup,?_⟩,by simp [hm],id⟩
    · simp [Builtin.delete_,run_underlying hu,MapKept.run_getObj_map hob,MapKept.run_setObj_map _ hob,hc,hf,Result.andThen]
    · intro y u
      unfold JB
      by_cases hy:y=A
      · subst hy;rw [if_pos rfl]
        exact ⟨fun h=>(nomatch h),fun ⟨e,he,h1,_⟩=>absurd h1 (hn e he)⟩
      · rw [if_neg hy];exact hM.get y u
  · have hjl:=(List.getElem?_eq_some_iff.1 hj).1
    have hjs:j<es.size:=by simpa using hjl
    have hsub:(es.eraseIdxIfInBounds j).toList=es.toList.eraseIdx j:=by
      unfold Array.eraseIdxIfInBounds
      rw [dif_pos hjs]
      simp
    have huniq:∀ i e,es.toList[i]?=some e→e.key=A→i=j:=fun i e hi hA'=>by
      have h1:(es.toList.map (·.key))[i]?=some A:=by rw [List.getElem?_map,hi];simp [hA']
      have h2:(es.toList.map (·.key))[j]?=some A:=by rw [List.getElem?_map,hj];simp [hke]
      have hil:=(List.getElem?_eq_some_iff.1 h1).1
      exact (List.getElem?_inj hil hM.nodup).1 (by rw [h1,h2])
    refine ⟨es.eraseIdxIfInBounds j,?_,⟨?_,?_,?_⟩,?_,fun h=>MapKept.stamped_erase h j⟩
    · simp [Builtin.delete_,run_underlying hu,MapKept.run_getObj_map hob,MapKept.run_setObj_map _ hob,hc,hf,Result.andThen]
    · intro e he
      rw [hsub] at he
      exact hM.keys e ((List.eraseIdx_sublist _ _).subset he)
    · rw [hsub]
      exact hM.nodup.sublist ((List.eraseIdx_sublist _ _).map _)
    · intro y u
      rw [hsub]
      unfold JB
      by_cases hy:y=A
      · subst hy;rw [if_pos rfl]
        refine ⟨fun h=>(nomatch h),fun ⟨e,he,h1,_⟩=>?_⟩
        obtain ⟨i,hi⟩:=List.mem_iff_getElem?.1 he
        rw [List.getElem?_eraseIdx] at hi
        split at hi
        · have:=huniq _ _ hi h1;omega
        · have:=huniq _ _ hi h1;omega
      · rw [if_neg hy,hM.get y u]
        constructor
        · rintro ⟨e,he,h1,h2⟩
          obtain ⟨i,hi⟩:=List.mem_iff_getElem?.1 he
          have hij:i≠j:=by
            intro e';subst e'
            rw [hj] at hi;cases hi
            exact hy (h1.symm.trans hke)
          refine ⟨e,List.mem_iff_getElem?.2 ⟨if i<j then i else i-1,?_⟩,h1,h2⟩
          rw [List.getElem?_eraseIdx]
          by_cases hlt:i<j
          · rw [if_pos hlt,if_pos hlt];exact hi
          · rw [if_neg hlt,if_neg Er,show i-1+1=i by omega];exact hi
        · rintro ⟨e,he,h1,h2⟩
          exact ⟨e,(List.eraseIdx_sublist _ _).subset he,h1,h2⟩
    · have:=congrArg List.length hsub
      simp only [Array.length_toList,List.length_eraseIdx,hjs,if_true] at this
      rw [this,hm]
      simp
theorem WL.delete {g c:Nat}{F:Ent→List Ent}(ho:o.op = .call { callee:=.builtin .delete,args:=#[x,xi],argTypes:=#[t,kt] }) (hx:ev l x=some (.map (some g))) (hi:ev l xi=some A) (hu:P.underlying t=some (.map kt et)) (hk:RO P kt K) (hA:K A)
    [hL:Loc L g (.obj g (.map es c)) F] (hM:JA K es m) (hg:On ops o l) (hd:o.dst=none)
    (h:∀ es',JA K es' (JB m A none)→es'.size=(if (m A).isSome then es.size-1 else es.size)→WL P ops Q n p w0 rest l (F (.obj g (.map es' c)))):WL P ops Q n p w0 (o::rest) l L:=by
  refine WL.act hg hd fun a w ha hS=>?_
  obtain ⟨A',B',rfl,rfl⟩:=hL.ok
  have hob:=(hS.holds (.obj g (.map es c)) Fe).1
  obtain ⟨es',hr,hM',hsz,_⟩:=UP (P:=P) (ty:=o.type) (A:=A) (w:=w) hu hk hA hob hM
  refine ⟨{ w with heap:=w.heap.setIfInBounds g (.map es' c) },A'++.obj g (.map es' c)::B', .inr ⟨.tuple #[],?_⟩,?_,h es' hM' hsz⟩
  · have hx':evs l [x,xi]=some [.map (some g),A]:=by simp [evs,hx,hi]
    obtain ⟨cs,h⟩:=DJ (P:=P) (w:=w) (xs:=[x,xi]) ho hx' ha
    rw [h]
    simp [builtin,hr]
  · exact hS.put (g:=g) (e:=.obj g (.map es' c)) (hp:=⟨fun _=>⟨A',B',_,rfl,rfl,rfl⟩⟩) rfl Frm.setObj ⟨by
      have hlt:=(Array.getElem?_eq_some_iff.1 hob).1
      simp [hlt],trivial⟩
end
/-! ### A thing that may be nil, and nil -/
def N6:TypeDesc→Value→Value→Option Bool
  | .pointer _, .pointer a, .pointer none=>some a.isNone
  | .slice _, .slice a _ _, .slice none _ _=>some a.isNone
  | .map _ _, .map a, .map none=>some a.isNone
  | .func _ _ _, .nilFunc, .nilFunc=>some true
  | .func _ _ _, .func _ _ _, .nilFunc=>some false
  | _,_,_=>none
theorem QW {t d:Nat}{ds:TypeDesc}{u v:Value}{b:Bool}{w:World}(hu:P.underlying t=some ds) (hn:N6 ds u v=some b):(Op.equalIn (d+1) t u v).run P w = .ok b w:=by
  unfold N6 at hn
  rw [Op.equalIn,Sem.run_bind,run_underlying hu,Result.andThen_ok]
  split at hn <;> first
    | (cases hn;done)
    | (simp only [Option.some.injEq] at hn;subst hn;rfl)
    | (simp only [Option.some.injEq] at hn;subst hn;rename_i a;cases a <;> rfl)
    | (simp only [Option.some.injEq] at hn;subst hn;rename_i a _ _ _ _;cases a <;> rfl)
theorem AY {t yt:TypeId}{ds:TypeDesc}{x:Operand}{u v:Value}(b:Bool) (ho:o.op = .binOp .eql t x (.const v) yt) (hx:ev l x=some u) (hu:P.underlying t=some ds) (hn:N6 ds u v=some b):Val P C n l o (.bool b):=fun a w ha _=>by
  have h':(Op.equal t u v).run P w = .ok b w:=QW (d:=9999) hu hn
  refine Q6 (v:=v) ho (ha.ev hx) rfl ?_ ?_
  · unfold N6 at hn;split at hn <;> first|(cases hn;done)|simp [eqGuard]
  · unfold N6 at hn;split at hn <;> first|(cases hn;done)|(simp only [binOp];simp [h'])
theorem NB {t yt:TypeId}{ds:TypeDesc}{x:Operand}{u v:Value}(b:Bool) (ho:o.op = .binOp .neq t x (.const v) yt) (hx:ev l x=some u) (hu:P.underlying t=some ds) (hn:N6 ds u v=some (!b)):Val P C n l o (.bool b):=fun a w ha _=>by
  have h':(Op.equal t u v).run P w = .ok (!b) w:=QW (d:=9999) hu hn
  refine Q6 (v:=v) ho (ha.ev hx) rfl ?_ ?_
  · unfold N6 at hn;split at hn <;> first|(cases hn;done)|simp [eqGuard]
  · unfold N6 at hn;split at hn <;> first|(cases hn;done)|(simp only [binOp];simp [h'])
end
end Go.Proofs.YtcmpamnhegndnaaGreatDoor
namespace Go.Proofs.YtcmpamnhegndnaaGreatDoor
open Go.RowKit

section
variable {P:Program}{ops:Array Oper}{md:Region.Mode}{C:World→Prop}

/-! ### The orders: what waits for what -/
def RF (md:Region.Mode) (ops:Array Oper) (h:Nat):Nat→Nat→Bool
  | 0,_=>false
  | f+1,t=>Region.waitsFor md ops t h || (match ops[t]? with
    | some ot=>ot.after.any fun e=>Region.binds md e && RF md ops h f e.on
    | none=>false)
def Nw (md:Region.Mode) (ops:Array Oper) (listed:Array Bool):Prop :=
  ∀ j oj,ops[j]?=some oj→listed.getD j false=true→∀ e∈oj.after,Region.binds md e=true→listed.getD e.on false=true
def RB (md:Region.Mode) (ops:Array Oper) (listed:Array Bool):Bool :=
  (List.range ops.size).all fun j => !listed.getD j false || (match ops[j]? with
    | some oj=>oj.after.all fun e => !Region.binds md e || listed.getD e.on false
    | none=>true)
theorem Rv {listed:Array Bool}(h:RB md ops listed=true):Nw md ops listed:=fun j oj hj hl e he hb=>by
  have h1:=List.all_eq_true.1 h j (List.mem_range.2 (Array.getElem?_eq_some_iff.1 hj).1)
  rw [hl,hj] at h1
  simp only [Bool.not_true,Bool.false_or] at h1
  have h2:=Array.all_eq_true'.1 h1 e he
  rw [hb] at h2
  simpa using h2
theorem Nw.set {listed:Array Bool}{i:Nat}(hc:Nw md ops listed) (hi:i∈Region.ready md ops listed):Nw md ops (listed.setIfInBounds i true):=fun j oj hj hl e he hb=>by
  obtain ⟨_,oi,hoi,hall⟩:=mem_ready.1 hi
  by_cases hij:i=j
  · subst hij
    have:oj=oi:=Option.some.inj (hj.symm.trans hoi)
    subst this
    exact getD_set_true (hall e he hb)
  · rw [getD_set_ne false hij] at hl
    exact getD_set_true (hc j oj hj hl e he hb)
theorem O1 {listed:Array Bool}{h:Nat}(hc:Nw md ops listed) (hun:listed.getD h false=false):∀ (f t:Nat),RF md ops h f t=true→listed.getD t false=false∧t ∉ Region.ready md ops listed
  | 0,_,hw=>by cases hw
  | f+1,t,hw=>by
    simp only [RF,Bool.or_eq_true] at hw
    have key:∃ ot,ops[t]?=some ot∧∃ e∈ot.after,Region.binds md e=true∧listed.getD e.on false=false:=by
      rcases hw with hw|hw
      · obtain ⟨ot,hot,e,he,hb,hon⟩:=Region.waitsFor_spec hw
        exact ⟨ot,hot,e,he,hb,by rw [hon];exact hun⟩
      · split at hw
        · rename_i ot hot
          obtain ⟨e,he,hb⟩:=Array.any_eq_true'.1 hw
          simp only [Bool.and_eq_true] at hb
          exact ⟨ot,hot,e,he,hb.1,(O1 hc hun f e.on hb.2).1⟩
        · cases hw
    obtain ⟨ot,hot,e,he,hb,hon⟩:=key
    refine ⟨?_,fun hr=>?_⟩
    · cases hl:listed.getD t false with
      | false=>rfl
      | true=>have:=hc t ot hot hl e he hb;rw [hon] at this;cases this
    · obtain ⟨_,o',ho',hall⟩:=mem_ready.1 hr
      have:o'=ot:=Option.some.inj (ho'.symm.trans hot)
      subst this
      have:=hall e he hb
      rw [hon] at this;cases this

/-! ### What only reads, in an order of one's own -/
def R7 (P:Program) (md:Region.Mode) (ops:Array Oper) (C:World→Prop) (Lq:Array Bool→Act→Prop):Nat→Array Bool→Act→Prop
  | 0,listed,a=>Lq listed a
  | f+1,listed,a=>Region.ready md ops listed≠[]∧∀ i∈Region.ready md ops listed,qOp P ops C i (R7 P md ops C Lq f (listed.setIfInBounds i true)) a
theorem ME {g:Nat}{Lq:Array Bool→Act→Prop}{Q':Exit→Act→World→Prop}(hL:∀ listed a w,C w→Lq listed a→wpAny P md ops Q' g listed a w) :
    ∀ (f:Nat) (listed:Array Bool) (a:Act) (w:World),C w→R7 P md ops C Lq f listed a→wpAny P md ops Q' (f+g) listed a w
  | 0,listed,a,w,hC,h=>by rw [Nat.zero_add];exact hL _ _ _ hC h
  | f+1,listed,a,w,hC,h=>by
    rw [show f+1+g=(f+g)+1 by omega]
    exact ⟨fun h0=>absurd h0 h.1,fun i hi=>wpOp_of_qOp hC (fun a' w' hC' h'=>ME hL f _ a' w' hC' h') (h.2 i hi)⟩
def MU (md:Region.Mode) (ops:Array Oper) (hs:List Nat) (listed:Array Bool):Bool :=
  (List.range ops.size).all fun t=>listed.getD t false || hs.contains t || hs.all fun h=>RF md ops h ops.size t
structure Inv (md:Region.Mode) (ops:Array Oper) (hs:List Nat) (listed0 listed:Array Bool):Prop where
  closed:Nw md ops listed
  only:∀ j,listed.getD j false=true→listed0.getD j false=true∨j∈hs
  size:listed.size=ops.size
theorem Inv.set {hs:List Nat}{listed0 listed:Array Bool}{i:Nat}(inv:Inv md ops hs listed0 listed) (hi:i∈Region.ready md ops listed) (hh:i∈hs):Inv md ops hs listed0 (listed.setIfInBounds i true) :=
  ⟨inv.closed.set hi,fun j hj=>by
    by_cases hij:i=j
    · subst hij;exact .inr hh
    · rw [getD_set_ne false hij] at hj;exact inv.only j hj,by simp [inv.size]⟩
theorem Inv.ready {hs:List Nat}{listed0 listed:Array Bool}{i:Nat}(inv:Inv md ops hs listed0 listed) (hmono:∀ j,listed0.getD j false=true→listed.getD j false=true)
    (hsk:MU md ops hs listed0=true) (hh:i∈hs) (hun:listed.getD i false=false):∀ j∈Region.ready md ops listed,j∈hs:=fun j hj=>by
  obtain ⟨hju,oj,hoj,_⟩:=mem_ready.1 hj
  have hlt:=(Array.getElem?_eq_some_iff.1 hoj).1
  have h1:=List.all_eq_true.1 hsk j (List.mem_range.2 hlt)
  simp only [Bool.or_eq_true] at h1
  rcases h1 with (h1|h1)|h1
  · have:=hmono j h1
    rw [getD_both hju] at this;cases this
  · simpa using h1
  · exact absurd hj (O1 inv.closed hun _ _ (List.all_eq_true.1 h1 i hh)).2

theorem TD {hs:List Nat}{listed0:Array Bool}{i:Nat}{oi:Oper}{v:Value}{Lq:Array Bool→Act→Prop}(hi:ops[i]?=some oi) (hsel:∀ (j:Nat) (o:Oper) cs b,ops[j]?=some o→o.op≠.select cs b)
    (hsk:MU md ops hs listed0=true) (hh:i∈hs) (hdone:∀ listed a,Lq listed a→∀ j∈hs,listed.getD j false=true) :
    ∀ (f:Nat) (listed:Array Bool) (a:Act),Inv md ops hs listed0 listed→(∀ j,listed0.getD j false=true→listed.getD j false=true) →
      (∀ j oj,ops[j]?=some oj→j≠i→listed.getD j true=false→(∀ e∈oj.after,Region.binds md e=true→e.on≠i)→oi.apart ops oj=true) →
      i∈Region.ready md ops listed→YieldsIn P ops C oi v a →
      R7 P md ops C Lq f (listed.setIfInBounds i true) (a.put oi.dst v)→R7 P md ops C Lq (f+1) listed a:=by
  intro f
  induction f with
  | zero =>
    intro listed a inv hm _ hr hy H
    have hun:=getD_both (mem_ready.1 hr).1
    refine ⟨fun h=>Gk,fun j hj=>?_⟩
    have hjh:=inv.ready hm hsk hh hun j hj
    by_cases hji:j=i
    · subst hji;exact hy.qOp hi H
    · have h1:=hdone _ _ H j hjh
      rw [getD_set_ne false (Ne.symm hji)] at h1
      have:=getD_both (mem_ready.1 hj).1
      rw [h1] at this;cases this
  | succ f ih =>
    intro listed a inv hm hfree hr hy H
    have hun:=getD_both (mem_ready.1 hr).1
    refine ⟨fun h=>Gk,fun j hj=>?_⟩
    have hjh:=inv.ready hm hsk hh hun j hj
    by_cases hji:j=i
    · subst hji;exact hy.qOp hi H
    · have h1:=H.2 j (ready_mono hj hji)
      obtain ⟨hjun,oj,hoj,hall⟩:=mem_ready.1 hj
      have hnot:∀ e∈oj.after,Region.binds md e=true→e.on≠i:=fun e he hb heq=>by
        have h1:=hall e he hb
        rw [heq,hun] at h1
        cases h1
      have h2:=qOp_put hoj (hfree j oj hoj hji hjun hnot) (fun cs b=>hsel i oi cs b hi) (fun cs b=>hsel j oj cs b hoj) hy h1
      have hfree':∀ k ok,ops[k]?=some ok→k≠i→(listed.setIfInBounds j true).getD k true=false →
          (∀ e∈ok.after,Region.binds md e=true→e.on≠i)→oi.apart ops ok=true:=fun k ok hk hki hun hno=>by
        refine hfree k ok hk hki ?_ hno
        by_cases hjk:j=k
        · subst hjk;exact hjun
        · rw [getD_set_ne true hjk] at hun;exact hun
      refine qOp_mono (fun a' h3=>ih (listed.setIfInBounds j true) a' (inv.set hj hjh) (fun k hk=>getD_set_true (hm k hk)) hfree' (ready_mono hr (Ne.symm hji)) h3.1 ?_) h2
      rw [Array.setIfInBounds_comm _ _ hji]
      exact h3.2

def marks (listed:Array Bool):List Nat→Array Bool
  | []=>listed
  | i::is=>marks (listed.setIfInBounds i true) is
def GP (md:Region.Mode) (ops:Array Oper):List Nat→Array Bool→Bool
  | [],_=>true
  | i::is,listed=>(Region.ready md ops listed).contains i && Region.free md ops listed i && GP md ops is (listed.setIfInBounds i true)
def TB (md:Region.Mode) (ops:Array Oper):List Nat→Array Bool→Bool
  | [],_=>true
  | i::is,listed=>decide (Region.ready md ops listed=[i]) && TB md ops is (listed.setIfInBounds i true)
def at_ (os:List Oper) (i:Nat):Oper:=os.getD i { op:=.assign (.const .nilIface),dst:=none,guard:=none,after:=#[],type:=0,pos := "" }
theorem Hw {os:List Oper}{i:Nat}{listed:Array Bool}(h:i∈Region.ready md os.toArray listed):os.toArray[i]?=some (at_ os i):=by
  obtain ⟨_,o,ho,_⟩:=mem_ready.1 h
  rw [ho]
  have h2:os[i]?=some o:=by simpa using ho
  unfold at_
  rw [List.getD_eq_getElem?_getD,h2];rfl

theorem PR:∀ (js:List Nat) (listed:Array Bool),(marks listed js).size=listed.size
  | [],_=>rfl
  | i::is,listed=>by rw [marks,PR is];simp

def Ug (P:Program) (ops:Array Oper) (K:Act→Prop):List Oper→Act→Prop
  | [],a=>K a
  | o::rest,a=>∃ v,Yields P ops o v a∧Ug P ops K rest (a.put o.dst v)
def NP (Q:Exit→Act→World→Prop):Exit→Act→World→Prop
  | .panic _,_,_=>False
  | e,a,w=>Q e a w
theorem NP.imp {Q:Exit→Act→World→Prop}:∀ (e:Exit) (a:Act) (w:World),NP Q e a w→Q e a w:=fun e a w h=>by
  cases e <;> first|exact h|exact (h:False).elim
def RQ (K:Act→World→Prop) (Q:Exit→Act→World→Prop):Exit→Act→World→Prop
  | .normal,a,w=>K a w
  | e,a,w=>Q e a w
theorem RQ.out {K:Act→World→Prop}{Q:Exit→Act→World→Prop}(h:LetsOut (RQ K Q)):LetsOut Q:=h
theorem wpRQ {K K':Act→World→Prop}{Q:Exit→Act→World→Prop}{o:Oper}{a:Act}{w:World}(h:o.wp P a w K' (RQ K Q)):o.wp P a w K' Q:=by
  unfold Oper.wp at *
  generalize (execOp a.eval o).run P w=r at *
  cases r with
  | ok n w' =>
    cases n <;> simp only [Oper.upon] at h ⊢ <;>
      first
        | exact h
        | exact Calls.mono h (fun e w'' he=>by cases e <;> first|exact he|exact RQ.out he)
  | halt x w'=>cases x <;> simp only [Oper.upon] at h ⊢ <;> exact h
theorem Oe {Q:Exit→Act→World→Prop}{os:List Oper}{K:Act→Prop}{w:World}{g:Nat}(hsel:Region.noSelect os.toArray=true):∀ (js:List Nat) (listed:Array Bool) (a:Act),GP .any os.toArray js listed=true →
    Ug P os.toArray K (js.map (at_ os)) a→(∀ a,K a→wpAny P .any os.toArray (NP Q) g (marks listed js) a w)→wpAny P .any os.toArray (NP Q) (js.length+g) listed a w
  | [],listed,a,_,h,hK=>by simpa [marks] using hK a h
  | i::is,listed,a,hB,h,hK=>by
    simp only [GP,Bool.and_eq_true] at hB
    obtain ⟨⟨hr,hf⟩,hB'⟩:=hB
    obtain ⟨v,hy,h'⟩:=h
    have hr':i∈Region.ready .any os.toArray listed:=by simpa using hr
    rw [List.length_cons,show is.length+1+g=(is.length+g)+1 by omega]
    exact wpAny_take (Hw hr') hsel hf hr (fun c a w hh=>hh) hy (Oe hsel is _ _ hB' h' hK)
theorem N2 {Q:Exit→Act→World→Prop}{os:List Oper}{K:Act→World→Prop}{g:Nat}:∀ (js:List Nat) (listed:Array Bool) (a:Act) (w:World),TB .any os.toArray js listed=true →
    wpList P os.toArray (RQ K Q) (js.map (at_ os)) a w→(∀ a w,K a w→wpAny P .any os.toArray Q g (marks listed js) a w)→wpAny P .any os.toArray Q (js.length+g) listed a w
  | [],listed,a,w,_,h,hK=>by simpa [marks] using hK a w h
  | i::is,listed,a,w,hB,h,hK=>by
    simp only [TB,Bool.and_eq_true,decide_eq_true_eq] at hB
    rw [List.length_cons,show is.length+1+g=(is.length+g)+1 by omega]
    refine ⟨fun h1=>(by rw [hB.1] at h1;cases h1),fun j hj=>?_⟩
    have ho:=Hw hj
    rw [hB.1] at hj
    have hji:j=i:=by simpa using hj
    subst hji
    have hw:wpOp P os.toArray Q j (wpList P os.toArray (RQ K Q) (is.map (at_ os))) a w:=by
      unfold wpOp
      simp only [ho]
      have h2:wpList P os.toArray (RQ K Q) (at_ os j::is.map (at_ os)) a w:=h
      unfold wpList at h2
      split
      · rename_i hwd
        rw [if_pos hwd] at h2
        exact h2.imp wpRQ (fun h=>⟨h.1,RQ.out h.2⟩)
      · rename_i hwd
        rw [if_neg hwd] at h2
        exact h2
    exact wpOp_mono (fun a' w' h'=>N2 is _ a' w' hB.2 h' hK) hw
theorem PA {os:List Oper}{C:World→Prop}{hs:List Nat}{listed0:Array Bool}{Lq:Act→Prop}(hsel:Region.noSelect os.toArray=true) (hsk:MU .any os.toArray hs listed0=true) :
    ∀ (js:List Nat) (listed:Array Bool) (a:Act),(∀ j∈js,j∈hs)→Inv .any os.toArray hs listed0 listed→(∀ j,listed0.getD j false=true→listed.getD j false=true)→(∀ j∈hs,j∈js∨listed.getD j false=true) →
    GP .any os.toArray js listed=true→wpQuiet P os.toArray C Lq (js.map (at_ os)) a →
    R7 P .any os.toArray C (fun listed' a'=>(∀ j∈hs,listed'.getD j false=true)∧Inv .any os.toArray hs listed0 listed'∧(∀ j,listed0.getD j false=true→listed'.getD j false=true)∧Lq a') js.length listed a
  | [],listed,a,_,inv,hm,hd,_,h=>⟨fun j hj=>(hd j hj).resolve_left Fe,inv,hm,h⟩
  | i::is,listed,a,hj,inv,hm,hd,hB,h=>by
    simp only [GP,Bool.and_eq_true] at hB
    obtain ⟨⟨hr,hf⟩,hB'⟩:=hB
    have hr':i∈Region.ready .any os.toArray listed:=by simpa using hr
    have h0:=Hw hr'
    have hst:qOp P os.toArray C i (wpQuiet P os.toArray C Lq (is.map (at_ os))) a:=by unfold qOp;simp only [h0];exact h
    obtain ⟨v,hy,hK⟩:=yieldsIn_of_qOp h0 hst
    have hih:=hj i Fe
    refine TD (hs:=hs) (listed0:=listed0) h0 (Region.noSelect_spec hsel) hsk hih (fun _ _ h j hj=>h.1 j hj) is.length listed a inv hm (Region.free_spec h0 hf) hr' hy ?_
    have:=PA hsel hsk is (listed.setIfInBounds i true) (a.put (at_ os i).dst v) (fun j h=>hj j (by simp [h])) (inv.set hr' hih) (fun j h=>getD_set_true (hm j h)) (fun j h=>by
      rcases hd j h with h1|h1
      · rcases List.mem_cons.1 h1 with rfl|h1
        · right
          have hlt:j<listed.size:=by
            have:=(mem_ready.1 hr').1
            rcases Nat.lt_or_ge j listed.size with h' | h'
            · exact h'
            · simp [Array.getElem?_eq_none h'] at this
          simp [hlt]
        · exact .inl h1
      · exact .inr (getD_set_true h1)) hB' hK
    exact this
theorem QB:∀ (js:List Nat) (listed:Array Bool) (j:Nat),(marks listed js).getD j false=true↔listed.getD j false=true∨(j∈js∧j<listed.size)
  | [],listed,j=>by simp [marks]
  | i::is,listed,j=>by
    rw [marks,QB is]
    have hsz:(listed.setIfInBounds i true).size=listed.size:=by simp
    rw [hsz]
    by_cases hij:i=j
    · subst hij
      by_cases hlt:i<listed.size
      · simp [hlt]
      · simp [hlt]
    · rw [getD_set_ne false hij]
      have:j≠i:=fun e=>hij e.symm
      simp [this]
theorem Aar {hs:List Nat}{listed0 listed:Array Bool}(hl:∀ j,listed.getD j false=true↔listed0.getD j false=true∨(j∈hs∧j<listed0.size)) (hsz:listed.size=listed0.size):listed=marks listed0 hs:=by
  apply Array.ext
  · rw [hsz,PR]
  · intro j h1 h2
    have e:=(hl j).trans (QB hs listed0 j).symm
    rw [Array.getD_eq_getD_getElem?,Array.getD_eq_getD_getElem?,Array.getElem?_eq_getElem h1,Array.getElem?_eq_getElem h2] at e
    simp only [Option.getD_some] at e
    cases ha:listed[j] <;> cases hb:(marks listed0 hs)[j] <;> simp_all

/-! ### The steps -/
variable {Q:Exit→Act→World→Prop}{n:Nat}{p:Nat→Prop}{w0:World}{o:Oper}{rest os:List Oper}{l:Kn}{L:List Ent}{K:Act→World→Prop}
def WR (P:Program) (os:List Oper) (Q:Exit→Act→World→Prop) (n:Nat) (p:Nat→Prop) (w0:World) (g:Nat) (listed:Array Bool) (l:Kn) (L:List Ent):Prop :=
  ∀ a w,Has n a l→St p w0 w L→wpAny P .any os.toArray (NP Q) g listed a w
def WP (P:Program) (ops:Array Oper) (K:Act→World→Prop) (n:Nat) (p:Nat→Prop) (w0:World) (rest:List Oper) (l:Kn) (L:List Ent):Prop :=
  ∀ a,Has n a l→Ug P ops (fun a'=>∀ w,St p w0 w L→K a' w) rest a
theorem WC.BB {id:Nat}(hm:P.follows .mixedOrders=true) (h:WR P os Q n p w0 os.length (Array.replicate os.length false) l L):WC P (.region id os.toArray true) Q n p w0 l L:=fun a w ha hS =>
  Code.wp_mono NP.imp (wp_region_any hm (by simpa using h a w.drew ha hS.drew))
def Rest (P:Program) (os:List Oper) (Q:Exit→Act→World→Prop) (g:Nat) (listed:Array Bool):Act→World→Prop:=fun a w=>wpAny P .any os.toArray (NP Q) g listed a w
theorem WR.first {listed:Array Bool}{g:Nat}(js:List Nat) (hsel:Region.noSelect os.toArray=true) (hB:GP .any os.toArray js listed=true) (h:WP P os.toArray (Rest P os Q g (marks listed js)) n p w0 (js.map (at_ os)) l L):WR P os Q n p w0 (js.length+g) listed l L:=fun a w ha hS =>
  Oe (K:=fun a'=>∀ w,St p w0 w L→Rest P os Q g (marks listed js) a' w) hsel js listed a hB (h a ha) (fun _ h=>h w hS)
theorem WR.read {listed:Array Bool}{g:Nat}(js:List Nat) (hsel:Region.noSelect os.toArray=true) (hB:GP .any os.toArray js listed=true) (hc:RB .any os.toArray listed=true) (hsk:MU .any os.toArray js listed=true) (hsz:listed.size=os.length)
    (h:WQ P os.toArray (Rest P os Q g (marks listed js)) n p w0 (js.map (at_ os)) l L):WR P os Q n p w0 (js.length+g) listed l L:=fun a w ha hS=>by
  have hsz':listed.size=os.toArray.size:=by simpa using hsz
  have H:=PA (P:=P) (C:=fun w=>St p w0 w L) hsel hsk js listed a (fun _ h=>h) ⟨Rv hc,fun _ h=>.inl h,hsz'⟩ (fun _ h=>h) (fun _ h=>.inl h) hB (h a ha)
  refine ME (g:=g) ?_ js.length listed a w hS H
  rintro listed' a' w' hC ⟨h1,inv,hm,hK⟩
  have e:listed'=marks listed js:=Aar (fun j=>by
    constructor
    · intro hj
      rcases inv.only j hj with h2|h2
      · exact .inl h2
      · refine .inr ⟨h2,?_⟩
        rcases Nat.lt_or_ge j listed'.size with h' | h'
        · rw [inv.size, ← hsz'] at h';exact h'
        · simp [Array.getElem?_eq_none h'] at hj
    · rintro (h2|⟨h2,_⟩)
      · exact hm j h2
      · exact h1 j h2) (inv.size.trans hsz'.symm)
  rw [e]
  exact hK w' hC
theorem WR.ones {listed:Array Bool}{g:Nat}(js:List Nat) (hB:TB .any os.toArray js listed=true) (h:WL P os.toArray (RQ (Rest P os Q g (marks listed js)) (NP Q)) n p w0 (js.map (at_ os)) l L):WR P os Q n p w0 (js.length+g) listed l L:=fun a w ha hS =>
  N2 js listed a w hB (h a w ha hS) (fun _ _ h=>h)
theorem WR.done {listed:Array Bool}(hB:Region.ready .any os.toArray listed=[]) (h:WE Q .normal n p w0 l L):WR P os Q n p w0 0 listed l L:=fun a w ha hS=>⟨hB,h a w ha hS⟩
theorem WP.nil {listed:Array Bool}{g:Nat}(h:WR P os Q n p w0 g listed l L):WP P os.toArray (Rest P os Q g listed) n p w0 [] l L:=fun a ha w hS=>h a w ha hS
theorem WQ.nilR {listed:Array Bool}{g:Nat}(h:WR P os Q n p w0 g listed l L):WQ P os.toArray (Rest P os Q g listed) n p w0 [] l L:=fun a ha w hS=>h a w ha hS
theorem WL.nilR {listed:Array Bool}{g:Nat}(h:WR P os Q n p w0 g listed l L):WL P os.toArray (RQ (Rest P os Q g listed) (NP Q)) n p w0 [] l L:=fun a w ha hS=>h a w ha hS
theorem WP.val {d:Nat}{v:Value}(hv:Val P (fun _=>True) n l o v) (hg:On ops o l) (hd:o.dst=some d) (hn:Nat.blt d n=true)
    (h:WP P ops K n p w0 rest ((d,v)::l) L):WP P ops K n p w0 (o::rest) l L:=fun a ha =>
  ⟨v, .inl ⟨hg.ok ha,fun w=>hv a w ha trivial⟩,h _ (ha.H4 hd hn v)⟩
theorem WP.skip {j dj d:Nat}{b:Bool}{v:Value}(hg:o.guard=some (j,b)) (hj:(ops[j]?).bind (·.dst)=some dj) (hl:look l dj=some v) (hv:isB v b=false) (hd:o.dst=some d) (hn:Nat.blt d n=true)
    (h:WP P ops K n p w0 rest ((d,undef)::l) L):WP P ops K n p w0 (o::rest) l L:=fun a ha =>
  ⟨undef, .inr ⟨by rw [Kt hg hj ha hl hv],rfl⟩,h _ (ha.H4 hd hn _)⟩
theorem WL.as {L':List Ent}{Q:Exit→Act→World→Prop}(e:L=L') (h:WL P ops Q n p w0 rest l L'):WL P ops Q n p w0 rest l L:=e ▸ h
end
section
variable {P:Program}{ops:Array Oper}{Q:Exit→Act→World→Prop}{n:Nat}{p:Nat→Prop}{w0:World}{o:Oper}{rest:List Oper}{l:Kn}{L:List Ent}
theorem zV {d:Nat}{v:Value}(hv:Val P (fun w=>St p w0 w L) n l o v) (e:(o.guard,o.dst,Nat.blt d n)=(none,some d,true)) (h:WL P ops Q n p w0 rest ((d,v)::l) L):WL P ops Q n p w0 (o::rest) l L:=WL.val hv (.none (congrArg (fun x=>x.1) e)) (congrArg (fun x=>x.2.1) e) (congrArg (fun x=>x.2.2) e) h
theorem qV {K:Act→World→Prop}{d:Nat}{v:Value}(hv:Val P (fun w=>St p w0 w L) n l o v) (e:(o.guard,o.dst,Nat.blt d n)=(none,some d,true)) (h:WQ P ops K n p w0 rest ((d,v)::l) L):WQ P ops K n p w0 (o::rest) l L:=WQ.val hv (.none (congrArg (fun x=>x.1) e)) (congrArg (fun x=>x.2.1) e) (congrArg (fun x=>x.2.2) e) h
theorem pV {K:Act→World→Prop}{d:Nat}{v:Value}(hv:Val P (fun _=>True) n l o v) (e:(o.guard,o.dst,Nat.blt d n)=(none,some d,true)) (h:WP P ops K n p w0 rest ((d,v)::l) L):WP P ops K n p w0 (o::rest) l L:=WP.val hv (.none (congrArg (fun x=>x.1) e)) (congrArg (fun x=>x.2.1) e) (congrArg (fun x=>x.2.2) e) h
theorem zS {j dj d:Nat}{b:Bool}{v:Value}(hv:Val P (fun w=>St p w0 w L) n l o v) (e:(o.guard,(ops[j]?).bind (·.dst),look l dj,o.dst,Nat.blt d n)=(some (j,b),some dj,some (.bool b),some d,true)) (h:WL P ops Q n p w0 rest ((d,v)::l) L):WL P ops Q n p w0 (o::rest) l L:=WL.val hv (.some (congrArg (fun x=>x.1) e) (congrArg (fun x=>x.2.1) e) (congrArg (fun x=>x.2.2.1) e)) (congrArg (fun x=>x.2.2.2.1) e) (congrArg (fun x=>x.2.2.2.2) e) h
theorem zK {f:FuncId}{xs:List Operand}{ts:Array TypeId}{vs:List Value}{d:Nat}(hf:AI P f) (e:(o.op,evs l xs,o.guard,o.dst,Nat.blt d n)=(.call { callee:=.value (.func f),args:=xs.toArray,argTypes:=ts },some vs,none,some d,true)) (h:∀ w,St p w0 w L→Calls P f vs.toArray w fun e w'=>∃ v L',e = .returned v∧St p w0 w' L'∧WL P ops Q n p w0 rest ((d,v)::l) L'):WL P ops Q n p w0 (o::rest) l L:=WL.call (congrArg (fun x=>x.1) e) (congrArg (fun x=>x.2.1) e) hf (.none (congrArg (fun x=>x.2.2.1) e)) (congrArg (fun x=>x.2.2.2.1) e) (congrArg (fun x=>x.2.2.2.2) e) h
theorem zB {t ty s len d:Nat}{parts:List (Nat×Operand)}{vs:List (Nat×Value)}{zs out:List Value}(hu:P.underlying t=some (.slice ty)) (hs:(P.info? ty).map (·.size)=some s) (hz:Zero P ty zs) (hf:Oc (fun i=>some (i*s,s)) ((List.replicate len zs).flatten) vs=some out) (e:(o.op,evp l parts,zs.length,Nat.ble (len*s) 16777216,o.guard,o.dst,Nat.blt d n)=(.buildSlice t len parts.toArray,some vs,s,true,none,some d,true)) (h:∀ g,w0.heap.size≤g→WL P ops Q n p w0 rest ((d, .slice (some ⟨g,0,none⟩) len len)::l) (.row g out::L)):WL P ops Q n p w0 (o::rest) l L:=WL.buildSlice (congrArg (fun x=>x.1) e) (congrArg (fun x=>x.2.1) e) hu hs hz (congrArg (fun x=>x.2.2.1) e) (Nat.le_of_ble_eq_true (congrArg (fun x=>x.2.2.2.1) e)) hf (.none (congrArg (fun x=>x.2.2.2.2.1) e)) (congrArg (fun x=>x.2.2.2.2.2.1) e) (congrArg (fun x=>x.2.2.2.2.2.2) e) h
theorem cQ {id:Nat}{os:List Oper}(hm:P.follows .mixedOrders=true) (h:WQ P os.toArray (Q .normal) n p w0 os l L) (hB:Region.lexB .any os.toArray=true:=by kernel_rfl):WC P (.region id os.toArray true) Q n p w0 l L:=WC.quiet hm hB h
end
section
variable {P:Program}{os:List Oper}{Q:Exit→Act→World→Prop}{n:Nat}{p:Nat→Prop}{w0:World}{l:Kn}{L:List Ent}
theorem rO {listed:Array Bool}(g:Nat) (js:List Nat) (h:WL P os.toArray (RQ (Rest P os Q g (marks listed js)) (NP Q)) n p w0 (js.map (at_ os)) l L) (hB:TB .any os.toArray js listed=true:=by kernel_rfl):WR P os Q n p w0 (js.length+g) listed l L:=WR.ones js hB h
theorem rF {listed:Array Bool}(g:Nat) (js:List Nat) (h:WP P os.toArray (Rest P os Q g (marks listed js)) n p w0 (js.map (at_ os)) l L) (hsel:Region.noSelect os.toArray=true:=by kernel_rfl) (hB:GP .any os.toArray js listed=true:=by kernel_rfl):WR P os Q n p w0 (js.length+g) listed l L:=WR.first js hsel hB h
theorem rA {listed:Array Bool}(g:Nat) (js:List Nat) (hsz:listed.size=os.length) (h:WQ P os.toArray (Rest P os Q g (marks listed js)) n p w0 (js.map (at_ os)) l L) (hsel:Region.noSelect os.toArray=true:=by kernel_rfl) (hB:GP .any os.toArray js listed=true:=by kernel_rfl) (hc:RB .any os.toArray listed=true:=by kernel_rfl) (hsk:MU .any os.toArray js listed=true:=by kernel_rfl):WR P os Q n p w0 (js.length+g) listed l L:=WR.read js hsel hB hc hsk hsz h
end
section
variable {fn:Func}{R:Ending→World→Prop}{n:Nat}{p:Nat→Prop}{w0:World}{l:Kn}{L:List Ent}{r1:ResultVar}{v1:Value}
end
section
variable {P:Program}{Q:Exit→Act→World→Prop}{n:Nat}{p:Nat→Prop}{w0:World}{l:Kn}{L:List Ent}
end

section
variable {P:Program}{C:World→Prop}{ops:Array Oper}{Q:Exit→Act→World→Prop}{n:Nat}{p:Nat→Prop}{w0:World}{o:Oper}{rest:List Oper}{l:Kn}{L:List Ent}
variable {t kt et d:Nat}{x xi:Operand}{K:Value→Prop}{A:Value}{es:Array MapEntry}{m:Value→Option Value}

theorem WE.to {Q:Exit→Act→World→Prop}{e:Exit}{L':List Ent}(hs:∀ w,St p w0 w L→St p w0 w L') (h:WE Q e n p w0 l L'):WE Q e n p w0 l L:=fun a w ha hS=>h a w ha (hs w hS)
theorem WC.to {c:Code}{L':List Ent}(hs:∀ w,St p w0 w L→St p w0 w L') (h:WC P c Q n p w0 l L'):WC P c Q n p w0 l L:=fun a w ha hS=>h a w ha (hs w hS)
theorem WL.to {L':List Ent}(hs:∀ w,St p w0 w L→St p w0 w L') (h:WL P ops Q n p w0 rest l L'):WL P ops Q n p w0 rest l L:=fun a w ha hS=>h a w ha (hs w hS)
end

section
variable {P:Program}{ops:Array Oper}{md:Region.Mode}{I:World→Prop}{R:World→World→Prop}

def Wc (P:Program) (ops:Array Oper) (I:World→Prop) (R:World→World→Prop) (o:Oper) (v:Value) (a:Act):Prop :=
  (Region.wanted o (yielded ops a.tmps)=true∧∀ w,I w→o.quietAt P a (R w) w v)∨(Region.wanted o (yielded ops a.tmps)=false∧v=undef)
def Yv (P:Program) (ops:Array Oper) (I:World→Prop) (R:World→World→Prop) (ps:List Nat) (i:Nat) (o:Oper) (v:Value) (a:Act):Prop :=
  if i∈ps then Yields P ops o v a else Wc P ops I R o v a
/-! ### The checks -/
/-! ### The allocation is done -/
/-! ### The allocation is still to come -/
/-! ### From a list, and the steps -/
def AaH (P:Program) (ops:Array Oper) (I:World→Prop) (R:World→World→Prop) (K:Act→Prop):List Oper→Act→Prop
  | [],a=>K a
  | o::rest,a=>∃ v,Wc P ops I R o v a∧AaH P ops I R K rest (a.put o.dst v)
variable {Q:Exit→Act→World→Prop}{n:Nat}{p:Nat→Prop}{w0:World}{o:Oper}{rest os:List Oper}{l:Kn}{L:List Ent}{K:Act→Prop}
def WM (P:Program) (ops:Array Oper) (K:Act→Prop) (n:Nat) (p:Nat→Prop) (w0:World) (rest:List Oper) (l:Kn) (L:List Ent):Prop :=
  ∀ a,Has n a l→AaH P ops (fun w=>St p w0 w L) (Frm (fun _=>False)) K rest a
def PF (K:Nat→Prop):List Nat→Prop
  | []=>True
  | [i]=>K i
  | i::j::is=>K i∧PF K (j::is)
theorem PF.get {K:Nat→Prop}:∀ {rs:List Nat},PF K rs→∀ i∈rs,K i
  | [],_,i,h=>by cases h
  | [j],h,i,hi=>by rw [List.mem_singleton.1 hi];exact h
  | j::k::is,h,i,hi=>by
    rcases List.mem_cons.1 hi with rfl|hi
    · exact h.1
    · exact PF.get h.2 i hi
theorem WR.each {g:Nat}{listed:Array Bool}(rs:List Nat) (hr:Region.ready .any os.toArray listed=rs) (hne:rs≠[])
    (h:PF (fun i=>WL P os.toArray (RQ (Rest P os Q g (listed.setIfInBounds i true)) (NP Q)) n p w0 [at_ os i] l L) rs):WR P os Q n p w0 (g+1) listed l L:=fun a w ha hS=>by
  refine wpAny_all hr hne fun i hi=>?_
  have ho:=Hw (listed:=listed) (i:=i) (by rw [hr];exact hi)
  have h':wpList P os.toArray (RQ (Rest P os Q g (listed.setIfInBounds i true)) (NP Q)) [at_ os i] a w:=h.get i hi a w ha hS
  unfold wpOp
  simp only [ho]
  unfold wpList at h'
  split
  · rename_i hwd
    rw [if_pos hwd] at h'
    exact (h'.imp wpRQ (fun h=>⟨h.1,RQ.out h.2⟩)).imp (Oper.wp_mono fun _ _ h=>h) id
  · rename_i hwd
    rw [if_neg hwd] at h'
    exact h'
end

structure SpT where
  S:Value→World→Prop
  st:∀ v w w',S v w→Frm (fun _=>False) w w'→S v w'
def spec (Ss:List SpT) (i:Nat) (v:Value) (w:World):Prop:=match Ss[i]? with|some s=>s.S v w|none=>True
def Given (Ss:List SpT) (w1:World) (G:Kn→Prop):List (Nat×Nat)→Kn→Prop
  | [],l=>G l
  | x::js,l=>∀ v,spec Ss x.1 v w1→Given Ss w1 G js ((x.2,v)::l)
abbrev Qs:=Nat×Nat×List (Nat×Nat)
section
variable {P:Program}{os:List Oper}{Q:Exit→Act→World→Prop}{n:Nat}{p:Nat→Prop}{w0:World}{l:Kn}{L:List Ent}
def FreeK (Ss:List SpT) (i d:Nat) (w1:World) (n:Nat) (l':Kn):Act→World→Prop:=fun a' w'=>Frm (fun _=>False) w1 w'∧∃ v,spec Ss i v w'∧Has n a' ((d,v)::l')
def FreeStep (P:Program) (os:List Oper) (Q:Exit→Act→World→Prop) (n:Nat) (p:Nat→Prop) (w0:World) (Ss:List SpT) (l:Kn) (L:List Ent) (x:Qs):Prop :=
  ∀ w1,St p w0 w1 L→∀ lx:Kn,Given Ss w1 (fun l'=>WL P os.toArray (RQ (FreeK Ss x.1 x.2.1 w1 n l') (NP Q)) n (fun _=>False) w1 [at_ os x.1] l' []) x.2.2 (l++lx)
/-! ### The checks -/
def VM (o:Oper) (j:Nat):Bool:=o.after.toList.any fun e=>Region.binds .any e && Nat.beq e.on j
def U5 (os:List Oper) (j d:Nat):Bool:=match os[j]? with|some o=>(match o.dst with|some e=>Nat.beq e d|none=>false)|none=>false
def frB1 (os:List Oper) (ks:List Nat) (n:Nat) (k:Nat) (x:Qs):Bool :=
  Nat.beq x.1 k && U5 os k x.2.1 && Nat.blt x.2.1 n && !(ks.contains x.2.1) &&
  (match os[k]? with
   | some o=>o.after.toList.all (fun e=>Nat.blt e.on k) && x.2.2.all (fun y=>VM o y.1 && U5 os y.1 y.2)
   | none=>false)
def frB (os:List Oper) (ks:List Nat) (n:Nat):Nat→List Qs→List Nat→Bool
  | k,[],_=>Nat.beq k os.length
  | k,x::X,used=>frB1 os ks n k x && !(used.contains x.2.1) && frB os ks n (k+1) X (x.2.1::used)
structure FreeOk (os:List Oper) (ks:List Nat) (n:Nat) (X:List Qs):Prop where
  len:X.length=os.length
  one:∀ (k:Nat) (x:Qs),X[k]?=some x→frB1 os ks n k x=true
  dif:∀ (j k:Nat) (x y:Qs),X[j]?=some x→X[k]?=some y→j≠k→x.2.1≠y.2.1
def seen (os:List Oper) (listed:Array Bool) (a:Act):Nat→Kn
  | 0=>[]
  | k+1=>match os[k]? with
    | some o=>(match o.dst with|some d=>if listed.getD k false=true then (d,a.tmps.getD d undef)::seen os listed a k else seen os listed a k|none=>seen os listed a k)
    | none=>seen os listed a k
structure FreeInv (os:List Oper) (n:Nat) (p:Nat→Prop) (w0:World) (Ss:List SpT) (l:Kn) (L:List Ent) (listed:Array Bool) (a:Act) (w:World):Prop where
  size:listed.size=os.length
  has:Has n a l
  st:St p w0 w L
  sp:∀ j o d,os[j]?=some o→o.dst=some d→listed.getD j false=true→spec Ss j (a.tmps.getD d undef) w
def left (os:List Oper) (listed:Array Bool):Nat:=((List.range os.length).filter fun j => !listed.getD j false).length
def outsB (os:List Oper) (outs:List (Nat×Nat)):Bool:=outs.all fun y=>U5 os y.1 y.2
end

section
variable {P:Program}{ops:Array Oper}{Q:Exit→Act→World→Prop}{n:Nat}{p:Nat→Prop}{w0:World}{o:Oper}{rest os:List Oper}{l:Kn}{L L0:List Ent}{K:Act→World→Prop}
def MO (P:Program) (os:List Oper) (Q:Exit→Act→World→Prop) (p:Nat→Prop) (w0:World) (L0:List Ent) (g:Nat) (listed:Array Bool):Act→World→Prop:=fun a w=>wpAnyH P .any os.toArray (NP Q) (fun w=>St p w0 w L0) g listed a w
def WRH (P:Program) (os:List Oper) (Q:Exit→Act→World→Prop) (n:Nat) (p:Nat→Prop) (w0:World) (L0:List Ent) (g:Nat) (listed:Array Bool) (l:Kn) (L:List Ent):Prop :=
  ∀ a w,Has n a l→St p w0 w L→MO P os Q p w0 L0 g listed a w
theorem WC.held {id:Nat}(L0:List Ent) (hm:P.follows .mixedOrders=true) (h:WRH P os Q n p w0 L0 os.length (Array.replicate os.length false) l L):WC P (.region id os.toArray true) Q n p w0 l L:=fun a w ha hS =>
  Code.wp_mono NP.imp (wp_region_held (S:=fun w=>St p w0 w L0) hm (by have h1:=h a w.drew ha hS.drew;unfold MO at h1;simpa using h1))
def PQ (P:Program) (ops:Array Oper) (S:World→Prop) (K:Act→Prop):List Oper→Act→Prop
  | [],a=>K a
  | o::rest,a=>∃ v,YieldsIf P ops S o v a∧PQ P ops S K rest (a.put o.dst v)
def WH (P:Program) (ops:Array Oper) (K:Act→World→Prop) (n:Nat) (p:Nat→Prop) (w0:World) (L0:List Ent) (rest:List Oper) (l:Kn) (L:List Ent):Prop :=
  ∀ a,Has n a l→PQ P ops (fun w=>St p w0 w L0) (fun a'=>∀ w,St p w0 w L→K a' w) rest a
theorem M0 {K:Act→Prop}{S:World→Prop}{w:World}{g:Nat}(hsel:Region.noSelect os.toArray=true) (hw:S w):∀ (js:List Nat) (listed:Array Bool) (a:Act),GP .any os.toArray js listed=true →
    PQ P os.toArray S K (js.map (at_ os)) a→(∀ a,K a→wpAnyH P .any os.toArray (NP Q) S g (marks listed js) a w)→wpAnyH P .any os.toArray (NP Q) S (js.length+g) listed a w
  | [],listed,a,_,h,hK=>by simpa [marks] using hK a h
  | i::is,listed,a,hB,h,hK=>by
    simp only [GP,Bool.and_eq_true] at hB
    obtain ⟨⟨hr,hf⟩,hB'⟩:=hB
    obtain ⟨v,hy,h'⟩:=h
    have hr':i∈Region.ready .any os.toArray listed:=by simpa using hr
    rw [List.length_cons,show is.length+1+g=(is.length+g)+1 by omega]
    exact wpAnyH_take (Hw hr') hsel hf hr (fun c a w hh=>hh) hy hw (M0 hsel hw is _ _ hB' h' hK)
theorem WRH.first {listed:Array Bool}{g:Nat}(js:List Nat) (hsel:Region.noSelect os.toArray=true) (hB:GP .any os.toArray js listed=true) (FA:∀ w,St p w0 w L→St p w0 w L0)
    (h:WH P os.toArray (MO P os Q p w0 L0 g (marks listed js)) n p w0 L0 (js.map (at_ os)) l L):WRH P os Q n p w0 L0 (js.length+g) listed l L:=fun a w ha hS =>
  M0 (K:=fun a'=>∀ w,St p w0 w L→MO P os Q p w0 L0 g (marks listed js) a' w) hsel (FA w hS) js listed a hB (h a ha) (fun _ h=>h w hS)
theorem WRH.each {g:Nat}{listed:Array Bool}(rs:List Nat) (hr:Region.ready .any os.toArray listed=rs) (hne:rs≠[])
    (h:PF (fun i=>WL P os.toArray (RQ (fun a' w'=>St p w0 w' L0∧MO P os Q p w0 L0 g (listed.setIfInBounds i true) a' w') (NP Q)) n p w0 [at_ os i] l L) rs):WRH P os Q n p w0 L0 (g+1) listed l L:=fun a w ha hS=>by
  refine wpAnyH_all hr hne fun i hi=>?_
  have ho:=Hw (listed:=listed) (i:=i) (by rw [hr];exact hi)
  have h':wpList P os.toArray (RQ (fun a' w'=>St p w0 w' L0∧MO P os Q p w0 L0 g (listed.setIfInBounds i true) a' w') (NP Q)) [at_ os i] a w:=h.get i hi a w ha hS
  unfold wpOp
  simp only [ho]
  unfold wpList at h'
  split
  · rename_i hwd
    exact B3
  · rename_i hwd
    rw [if_neg hwd] at h'
    exact h'
theorem WRH.one {g:Nat}{listed:Array Bool}(i:Nat) (hr:Region.ready .any os.toArray listed=[i])
    (h:WL P os.toArray (RQ (fun a' w'=>St p w0 w' L0∧MO P os Q p w0 L0 g (listed.setIfInBounds i true) a' w') (NP Q)) n p w0 [at_ os i] l L):WRH P os Q n p w0 L0 (g+1) listed l L :=
  WRH.each [i] hr Fe h
theorem WRH.done {listed:Array Bool}(hB:Region.ready .any os.toArray listed=[]) (h:WE Q .normal n p w0 l L):WRH P os Q n p w0 L0 0 listed l L:=fun a w ha hS=>⟨hB,h a w ha hS⟩
theorem WH.nil {listed:Array Bool}{g:Nat}(h:WRH P os Q n p w0 L0 g listed l L):WH P os.toArray (MO P os Q p w0 L0 g listed) n p w0 L0 [] l L:=fun a ha w hS=>h a w ha hS
theorem WL.ID {listed:Array Bool}{g:Nat}(FA:∀ w,St p w0 w L→St p w0 w L0) (h:WRH P os Q n p w0 L0 g listed l L):WL P os.toArray (RQ (fun a' w'=>St p w0 w' L0∧MO P os Q p w0 L0 g listed a' w') (NP Q)) n p w0 [] l L:=fun a w ha hS=>⟨FA w hS,h a w ha hS⟩
theorem WH.val {d:Nat}{v:Value}(hv:Val P (fun w=>St p w0 w L0) n l o v) (hg:On ops o l) (hd:o.dst=some d) (hn:Nat.blt d n=true)
    (h:WH P ops K n p w0 L0 rest ((d,v)::l) L):WH P ops K n p w0 L0 (o::rest) l L:=fun a ha =>
  ⟨v, .inl ⟨hg.ok ha,fun w hw=>hv a w ha hw⟩,h _ (ha.H4 hd hn v)⟩
theorem WH.skip {j dj d:Nat}{b:Bool}{v:Value}(hg:o.guard=some (j,b)) (hj:(ops[j]?).bind (·.dst)=some dj) (hl:look l dj=some v) (hv:isB v b=false) (hd:o.dst=some d) (hn:Nat.blt d n=true)
    (h:WH P ops K n p w0 L0 rest ((d,undef)::l) L):WH P ops K n p w0 L0 (o::rest) l L:=fun a ha =>
  ⟨undef, .inr ⟨by rw [Kt hg hj ha hl hv],rfl⟩,h _ (ha.H4 hd hn _)⟩
end

class BN (P:Program) (s i:Nat) (k ft:outParam Nat):Prop where h:AD P s i k ft
class Jh (P:Program) (t:Nat):Prop where h:One P t
class Hm (P:Program) (t:Nat) (m:outParam Nat):Prop where h:EL P t m
class Mo (P:Program) (t:Nat) (e:outParam Nat):Prop where h:P.underlying t=some (.slice e)
class G6 (P:Program) (t:Nat) (zs:outParam (List Value)):Prop where h:Zero P t zs
class IS (P:Program) (t:Nat) (pl:outParam (List (Nat×Nat))):Prop where h:ET P t pl
theorem Jv {G:Prop}(s:G:=by
  first
  | exact v_move rfl rfl
  | exact Ze rfl rfl
  | exact Zb rfl rfl rfl
  | exact AaY rfl rfl rfl
  | exact Rr rfl rfl BN.h
  | exact AA rfl rfl Jh.h (cellAt rfl)
  | exact CA rfl rfl Hm.h rfl BZ
  | exact Xl rfl rfl rfl
  | exact U1 rfl rfl
  | exact Ta rfl rfl Mo.h
  | exact v_not rfl rfl rfl
  | exact Ac3 rfl rfl G6.h IS.h rfl
  | exact AS rfl rfl rfl (AF Er Er)
  | exact EM rfl rfl rfl (AF Er Er)
  | exact NT rfl rfl BN.h):G:=s
theorem Jn {G:Prop}(s:G:=by first|exact .none rfl|exact .some rfl rfl rfl):G:=s
theorem Js {X G:Prop}(s:X→G:=by
  first
  | exact WE.YN
  | exact WC.seq
  | exact WC.region
  | exact WL.nilR
  | exact WL.nil
  | exact WL.val Jv Jn rfl rfl
  | exact WL.skip rfl rfl rfl rfl rfl rfl
  | exact WC.UM rfl
  | exact WC.Ue rfl
  | exact WE.AaU
  | exact WC.ret
  | exact WC.skip
  | exact WE.Yf
  | exact WE.AbK
  | exact WC.block
  | exact WE.Xh
  | exact WC.exit
  | exact WE.Yp
  | exact WL.storeW rfl rfl rfl rfl Hm.h rfl rfl Jn rfl
  | exact WL.DA rfl rfl rfl rfl Jh.h (Nat.le_of_ble_eq_true rfl) Jn rfl
  | exact WQ.val Jv Jn rfl rfl
  | exact WQ.skip rfl rfl rfl rfl rfl rfl
  | exact WQ.nilR
  | exact WQ.nil
  | exact WP.val Jv Jn rfl rfl
  | exact WP.skip rfl rfl rfl rfl rfl rfl
  | exact WP.nil
  | exact WR.done Es
  | exact WH.val Jv Jn rfl rfl
  | exact WH.skip rfl rfl rfl rfl rfl rfl):X→G:=s
theorem Jc {X Y G:Prop}(f:Y→G) (g:X→Y):X→G:=fun h=>f (g h)
theorem J1 {X G:Prop}(h:X) (s:X→G:=by exact Js):G:=s h
theorem J2 {X G:Prop}(h:X) (s:X→G:=by exact Jc Js Js):G:=s h
theorem J3 {X G:Prop}(h:X) (s:X→G:=by exact Jc Js (Jc Js Js)):G:=s h
theorem J4 {X G:Prop}(h:X) (s:X→G:=by exact Jc Js (Jc Js (Jc Js Js))):G:=s h
theorem J5 {X G:Prop}(h:X) (s:X→G:=by exact Jc Js (Jc Js (Jc Js (Jc Js Js)))):G:=s h
theorem J6 {X G:Prop}(h:X) (s:X→G:=by exact Jc Js (Jc Js (Jc Js (Jc Js (Jc Js Js))))):G:=s h
theorem J7 {X G:Prop}(h:X) (s:X→G:=by exact Jc Js (Jc Js (Jc Js (Jc Js (Jc Js (Jc Js Js)))))):G:=s h
theorem J8 {X G:Prop}(h:X) (s:X→G:=by exact Jc Js (Jc Js (Jc Js (Jc Js (Jc Js (Jc Js (Jc Js Js))))))):G:=s h
theorem J9 {X G:Prop}(h:X) (s:X→G:=by exact Jc Js (Jc Js (Jc Js (Jc Js (Jc Js (Jc Js (Jc Js (Jc Js Js)))))))):G:=s h
theorem J10 {X G:Prop}(h:X) (s:X→G:=by exact Jc Js (Jc Js (Jc Js (Jc Js (Jc Js (Jc Js (Jc Js (Jc Js (Jc Js Js))))))))):G:=s h
theorem J11 {X G:Prop}(h:X) (s:X→G:=by exact Jc Js (Jc Js (Jc Js (Jc Js (Jc Js (Jc Js (Jc Js (Jc Js (Jc Js (Jc Js Js)))))))))):G:=s h
theorem J12 {X G:Prop}(h:X) (s:X→G:=by exact Jc Js (Jc Js (Jc Js (Jc Js (Jc Js (Jc Js (Jc Js (Jc Js (Jc Js (Jc Js (Jc Js Js))))))))))):G:=s h
theorem J13 {X G:Prop}(h:X) (s:X→G:=by exact Jc Js (Jc Js (Jc Js (Jc Js (Jc Js (Jc Js (Jc Js (Jc Js (Jc Js (Jc Js (Jc Js (Jc Js Js)))))))))))):G:=s h
theorem J14 {X G:Prop}(h:X) (s:X→G:=by exact Jc Js (Jc Js (Jc Js (Jc Js (Jc Js (Jc Js (Jc Js (Jc Js (Jc Js (Jc Js (Jc Js (Jc Js (Jc Js Js))))))))))))):G:=s h
theorem J15 {X G:Prop}(h:X) (s:X→G:=by exact Jc Js (Jc Js (Jc Js (Jc Js (Jc Js (Jc Js (Jc Js (Jc Js (Jc Js (Jc Js (Jc Js (Jc Js (Jc Js (Jc Js Js)))))))))))))):G:=s h
theorem J16 {X G:Prop}(h:X) (s:X→G:=by exact Jc Js (Jc Js (Jc Js (Jc Js (Jc Js (Jc Js (Jc Js (Jc Js (Jc Js (Jc Js (Jc Js (Jc Js (Jc Js (Jc Js (Jc Js Js))))))))))))))):G:=s h
theorem J17 {X G:Prop}(h:X) (s:X→G:=by exact Jc Js (Jc Js (Jc Js (Jc Js (Jc Js (Jc Js (Jc Js (Jc Js (Jc Js (Jc Js (Jc Js (Jc Js (Jc Js (Jc Js (Jc Js (Jc Js Js)))))))))))))))):G:=s h
theorem J18 {X G:Prop}(h:X) (s:X→G:=by exact Jc Js (Jc Js (Jc Js (Jc Js (Jc Js (Jc Js (Jc Js (Jc Js (Jc Js (Jc Js (Jc Js (Jc Js (Jc Js (Jc Js (Jc Js (Jc Js (Jc Js Js))))))))))))))))):G:=s h
theorem J19 {X G:Prop}(h:X) (s:X→G:=by exact Jc Js (Jc Js (Jc Js (Jc Js (Jc Js (Jc Js (Jc Js (Jc Js (Jc Js (Jc Js (Jc Js (Jc Js (Jc Js (Jc Js (Jc Js (Jc Js (Jc Js (Jc Js Js)))))))))))))))))):G:=s h
theorem J20 {X G:Prop}(h:X) (s:X→G:=by exact Jc Js (Jc Js (Jc Js (Jc Js (Jc Js (Jc Js (Jc Js (Jc Js (Jc Js (Jc Js (Jc Js (Jc Js (Jc Js (Jc Js (Jc Js (Jc Js (Jc Js (Jc Js (Jc Js Js))))))))))))))))))):G:=s h
theorem J21 {X G:Prop}(h:X) (s:X→G:=by exact Jc Js (Jc Js (Jc Js (Jc Js (Jc Js (Jc Js (Jc Js (Jc Js (Jc Js (Jc Js (Jc Js (Jc Js (Jc Js (Jc Js (Jc Js (Jc Js (Jc Js (Jc Js (Jc Js (Jc Js Js)))))))))))))))))))):G:=s h
theorem J22 {X G:Prop}(h:X) (s:X→G:=by exact Jc Js (Jc Js (Jc Js (Jc Js (Jc Js (Jc Js (Jc Js (Jc Js (Jc Js (Jc Js (Jc Js (Jc Js (Jc Js (Jc Js (Jc Js (Jc Js (Jc Js (Jc Js (Jc Js (Jc Js (Jc Js Js))))))))))))))))))))):G:=s h
theorem J23 {X G:Prop}(h:X) (s:X→G:=by exact Jc Js (Jc Js (Jc Js (Jc Js (Jc Js (Jc Js (Jc Js (Jc Js (Jc Js (Jc Js (Jc Js (Jc Js (Jc Js (Jc Js (Jc Js (Jc Js (Jc Js (Jc Js (Jc Js (Jc Js (Jc Js (Jc Js Js)))))))))))))))))))))):G:=s h
theorem J24 {X G:Prop}(h:X) (s:X→G:=by exact Jc Js (Jc Js (Jc Js (Jc Js (Jc Js (Jc Js (Jc Js (Jc Js (Jc Js (Jc Js (Jc Js (Jc Js (Jc Js (Jc Js (Jc Js (Jc Js (Jc Js (Jc Js (Jc Js (Jc Js (Jc Js (Jc Js (Jc Js Js))))))))))))))))))))))):G:=s h
theorem J25 {X G:Prop}(h:X) (s:X→G:=by exact Jc Js (Jc Js (Jc Js (Jc Js (Jc Js (Jc Js (Jc Js (Jc Js (Jc Js (Jc Js (Jc Js (Jc Js (Jc Js (Jc Js (Jc Js (Jc Js (Jc Js (Jc Js (Jc Js (Jc Js (Jc Js (Jc Js (Jc Js (Jc Js Js)))))))))))))))))))))))):G:=s h
theorem J26 {X G:Prop}(h:X) (s:X→G:=by exact Jc Js (Jc Js (Jc Js (Jc Js (Jc Js (Jc Js (Jc Js (Jc Js (Jc Js (Jc Js (Jc Js (Jc Js (Jc Js (Jc Js (Jc Js (Jc Js (Jc Js (Jc Js (Jc Js (Jc Js (Jc Js (Jc Js (Jc Js (Jc Js (Jc Js Js))))))))))))))))))))))))):G:=s h
theorem J27 {X G:Prop}(h:X) (s:X→G:=by exact Jc Js (Jc Js (Jc Js (Jc Js (Jc Js (Jc Js (Jc Js (Jc Js (Jc Js (Jc Js (Jc Js (Jc Js (Jc Js (Jc Js (Jc Js (Jc Js (Jc Js (Jc Js (Jc Js (Jc Js (Jc Js (Jc Js (Jc Js (Jc Js (Jc Js (Jc Js Js)))))))))))))))))))))))))):G:=s h
theorem J28 {X G:Prop}(h:X) (s:X→G:=by exact Jc Js (Jc Js (Jc Js (Jc Js (Jc Js (Jc Js (Jc Js (Jc Js (Jc Js (Jc Js (Jc Js (Jc Js (Jc Js (Jc Js (Jc Js (Jc Js (Jc Js (Jc Js (Jc Js (Jc Js (Jc Js (Jc Js (Jc Js (Jc Js (Jc Js (Jc Js (Jc Js Js))))))))))))))))))))))))))):G:=s h
theorem J29 {X G:Prop}(h:X) (s:X→G:=by exact Jc Js (Jc Js (Jc Js (Jc Js (Jc Js (Jc Js (Jc Js (Jc Js (Jc Js (Jc Js (Jc Js (Jc Js (Jc Js (Jc Js (Jc Js (Jc Js (Jc Js (Jc Js (Jc Js (Jc Js (Jc Js (Jc Js (Jc Js (Jc Js (Jc Js (Jc Js (Jc Js (Jc Js Js)))))))))))))))))))))))))))):G:=s h
theorem J30 {X G:Prop}(h:X) (s:X→G:=by exact Jc Js (Jc Js (Jc Js (Jc Js (Jc Js (Jc Js (Jc Js (Jc Js (Jc Js (Jc Js (Jc Js (Jc Js (Jc Js (Jc Js (Jc Js (Jc Js (Jc Js (Jc Js (Jc Js (Jc Js (Jc Js (Jc Js (Jc Js (Jc Js (Jc Js (Jc Js (Jc Js (Jc Js (Jc Js Js))))))))))))))))))))))))))))):G:=s h
theorem JT {q X Y G:Prop}(t:q→X) (f:¬ q→Y) (s:(q→X)→(¬ q→Y)→G:=by
  intro t f
  first
  | exact WL.test (AZ rfl rfl rfl) Jn rfl rfl t f
  | exact WL.test (G8 rfl rfl rfl) Jn rfl rfl t f
  | exact WL.test (HY rfl rfl rfl) Jn rfl rfl t f
  | exact WL.test (BY rfl rfl rfl) Jn rfl rfl t f
  | exact WL.test (O9 rfl rfl rfl) Jn rfl rfl t f
  | exact WL.test (Pw rfl rfl rfl) Jn rfl rfl t f
  | exact WQ.test (AZ rfl rfl rfl) Jn rfl rfl t f
  | exact WQ.test (G8 rfl rfl rfl) Jn rfl rfl t f
  | exact WQ.test (HY rfl rfl rfl) Jn rfl rfl t f
  | exact WQ.test (BY rfl rfl rfl) Jn rfl rfl t f
  | exact WQ.test (O9 rfl rfl rfl) Jn rfl rfl t f
  | exact WQ.test (Pw rfl rfl rfl) Jn rfl rfl t f):G:=s t f
theorem Km {l l':Kn}(e:l'.map (fun p=>look l p.1)=l'.map (fun p=>some p.2):=by rfl):Sub l l':=by
  induction l' with
  | nil=>exact .nil
  | cons x xs ih =>
    simp only [List.map_cons,List.cons.injEq] at e
    exact .cons e.1 (ih e.2)
theorem kp {p:Nat→Prop}{w0:World}{L L':List Ent}(h:L'.Sublist L:=by repeat (first|exact List.Sublist.refl _|exact List.nil_sublist _|refine List.Sublist.cons_cons _ ?_|refine List.Sublist.cons _ ?_|refine List.sublist_append_of_sublist_right ?_)):∀ w,St p w0 w L→St p w0 w L':=fun _ hS=>hS.sub h
section
variable {Q:Exit→Act→World→Prop}{n:Nat}{p:Nat→Prop}{w0:World}{l:Kn}{L:List Ent}
theorem eM {ι:Type}{lI:ι→Kn}{LI:ι→List Ent}{good:ι→Prop}(i:ι) (hi:good i) (hl:Sub l (lI i):=by exact Km) (hL:LI i=L:=by rfl):WE (Exit.then (Mid lI LI good n p w0) Q) .normal n p w0 l L:=WE.mid i hi hl (hL ▸ .refl _)
theorem eW {ι:Type}{lI:ι→Kn}{LI:ι→List Ent}{good:ι→Prop}{m:ι→Nat}{k:Nat}(i:ι) (hm:m i<k) (hi:good i) (hl:Sub l (lI i):=by exact Km) (hL:LI i=L:=by rfl):WE (Exit.then (Next lI LI good m k n p w0) Q) .normal n p w0 l L:=WE.next i hm hi hl (hL ▸ .refl _)
end
section
variable {fn:Func}{R:Ending→World→Prop}{n:Nat}{p:Nat→Prop}{w0:World}{l:Kn}{L:List Ent}{r1 r2 r3:ResultVar}{v1 v2 v3:Value}
theorem Jr {G:Prop}(s:G:=by first|rfl|exact resRow rfl Hm.h rfl|exact Acs rfl Jh.h rfl):G:=s
theorem eT1 (h:∀ w,St p w0 w L→R (.returned v1) w) (hr:fn.results = #[r1]:=by rfl) (h1:HJ Tryz.prog (fun w=>St p w0 w L) l r1 v1:=by exact Jr):WE (bodyPost Tryz.prog fn R) .ret n p w0 l L:=WE.ret1 (.inl rfl) hr h1 h
theorem eT2 (h:∀ w,St p w0 w L→R (.returned (.tuple #[v1,v2])) w) (hr:fn.results = #[r1,r2]:=by rfl) (h1:HJ Tryz.prog (fun w=>St p w0 w L) l r1 v1:=by exact Jr) (h2:HJ Tryz.prog (fun w=>St p w0 w L) l r2 v2:=by exact Jr):WE (bodyPost Tryz.prog fn R) .ret n p w0 l L:=WE.ret2 (.inl rfl) hr h1 h2 h
theorem eT3 (h:∀ w,St p w0 w L→R (.returned (.tuple #[v1,v2,v3])) w) (hr:fn.results = #[r1,r2,r3]:=by rfl) (h1:HJ Tryz.prog (fun w=>St p w0 w L) l r1 v1:=by exact Jr) (h2:HJ Tryz.prog (fun w=>St p w0 w L) l r2 v2:=by exact Jr) (h3:HJ Tryz.prog (fun w=>St p w0 w L) l r3 v3:=by exact Jr):WE (bodyPost Tryz.prog fn R) .ret n p w0 l L:=WE.ret3 (.inl rfl) hr h1 h2 h3 h
end
theorem fR {w0:World}{L:List Ent}{v:Value}:∀ w',St (fun _=>False) w0 w' L→Ending.returned v = .returned v∧Frm (fun _=>False) w0 w':=fun _ h=>⟨rfl,h.frm⟩
section
variable {P:Program}{ops:Array Oper}{Q:Exit→Act→World→Prop}{n:Nat}{p:Nat→Prop}{w0:World}{o:Oper}{rest:List Oper}{l:Kn}{L:List Ent}
theorem zk {f:FuncId}{xs:List Operand}{ts:Array TypeId}{vs:List Value}{d:Nat}{v:Value}(hf:AI P f) (e:(o.op,evs l xs,o.dst,Nat.blt d n)=(.call { callee:=.value (.func f),args:=xs.toArray,argTypes:=ts },some vs,some d,true)) (hc:∀ w,St p w0 w L→Calls P f vs.toArray w fun e w'=>e = .returned v∧Frm (fun _=>False) w w') (h:WL P ops Q n p w0 rest ((d,v)::l) L) (hg:On ops o l:=by exact Jn):WL P ops Q n p w0 (o::rest) l L:=WL.call (congrArg Prod.fst e) (congrArg (fun x=>x.2.1) e) hf hg (congrArg (fun x=>x.2.2.1) e) (congrArg (fun x=>x.2.2.2) e) fun w hS=>Calls.then (hc w hS) hS h
end
end Go.Proofs.YtcmpamnhegndnaaGreatDoor
