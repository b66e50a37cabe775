/- Joined texts. -/
import Derived.Test.YtmhahajadgkolaaGreatDoorProg
import Derived.WalkKit
import Derived.WalkSpells
import Derived.WalkLawsBesides
import Derived.Deep.QuietTactic
import Derived.BigQuiet
import Derived.Lib.Hide
import Derived.StillTail
import Derived.Deep.LoopGhost
import Derived.Deep.WholeRow
import Derived.Laws.BitsAllLaws
import Derived.Laws.Bits64
import Derived.Deep.MidRow
import Derived.ChangeKeysEq
import Derived.Laws.BytesArg
set_option maxHeartbeats 1000000
namespace Go.Proofs.YtmhahajadgkolaaGreatDoor
open Go.RowKit Tryz
theorem U.{u}{α:Sort u}{a:α}:a=a:=rfl
theorem AC.{u}:∀ {α:Type u} {«as» bs:List α},(«as»++bs).length=«as».length + bs.length:=@List.length_append
theorem Do.{u_1}:∀ {α:Type u_1} {l:List α} {i:Nat} {a:α},l[i]?=some a->a∈l:=@List.mem_of_getElem?
theorem Es.{u_1}:∀ {α:Type u_1} {a b:α},a∈[b]<->a=b:=@List.mem_singleton
theorem Eu.{u_1}:∀ {α:Type u_1} {i:Nat} {a:α} {l:List α},l[i]?=some a<->∃h,l[i]=a:=@List.getElem?_eq_some_iff
theorem E9.{u}:∀ {c:Prop} {_:Decidable c},¬c->∀ {α:Sort u} {t e:α},(if c then t else e)=e:=@if_neg
theorem EQ.{u_1}:∀ {α:Type u_1} (y:α) {a:α} {l:List α},a∈l->a∈y::l:=@List.mem_cons_of_mem
theorem Fr.{u_1}:∀ {α:Type u_1} {a:α} {l:List α},a∈a::l:=@List.mem_cons_self
theorem FS.{u_1}:∀ {α:Type u_1} {l:List α} {i:Nat} (_:i < l.length),l[i]?=some l[i]:=@List.getElem?_eq_getElem
theorem Ha.{u}:∀ {α:Type u} {a:α} {«as»:List α} (bs:List α),a∈«as»->a∈«as»++bs:=@List.mem_append_left
theorem If.{u,v}:∀ {α:Sort u} {β:Sort v} {a₁ a₂:α} (f:α->β),a₁=a₂->f a₁=f a₂:=@congrArg
theorem Hr:∀(a b:Bool),((a && b)=true)=(a=true/\b=true):=@Bool.and_eq_true
theorem IR.{u}:∀ {c:Prop} {_:Decidable c},c->∀ {α:Sort u} {t e:α},(if c then t else e)=t:=@if_pos
theorem LI.{u_1}:∀ {α:Type u_1} {a:α} {s t:List α},a∈s++t<->a∈s\/a∈t:=@List.mem_append
theorem Mu.{u}:∀ {α:Type u} {b:α} («as»:List α) {bs:List α},b∈bs->b∈«as»++bs:=@List.mem_append_right
theorem Ai6:∀ {n m:Nat},n.ble m=true->n<=m:=@Nat.le_of_ble_eq_true
theorem M2:∀(n:Nat),n<=n:=@Nat.le_refl
theorem NE:∀ {n m:Nat},n.beq m=true->n=m:=@Nat.eq_of_beq_eq_true
theorem PP:∀(n:Nat),0 + n=n:=@Nat.zero_add
theorem Qs.{u}:∀ {α:Type u} («as» bs cs:List α),«as»++bs++cs=«as»++(bs++cs):=@List.append_assoc
theorem Ri.{u_1,u_2}:∀ {α:Type u_1} {β:Type u_2} {«as»:List α} (f:α->β),(List.map f «as»).length=«as».length:=@List.length_map
theorem Rl.{u_1}:∀ {α:Type u_1} {b:α} {l:List α} {a:α},a∈b::l<->a=b\/a∈l:=@List.mem_cons
theorem Ro:∀ {p:Prop} [Decidable p],¬p->decide p=false:=@decide_eq_false
theorem Rr:∀ {P:Program} {t:TypeId} {d:TypeDesc},P.underlying t=some d->∀(w:World),Sem.run P (underlying t) w=Result.ok d w:=@Go.run_underlying
theorem UV:∀ {p:Prop} [Decidable p],p->decide p=true:=@decide_eq_true
theorem WF.{u_1,u_2}:∀ {α:Type u_1} {β:Type u_2} {f:α->β} {l:List α} {i:Nat},(List.map f l)[i]?=Option.map f l[i]?:=@List.getElem?_map
theorem Ab5.{u_1,u_2}:∀ {α:Type u_1} {β:Type u_2} {l:List α} {a:α} {f:α->β},a∈l->f a∈List.map f l:=@List.mem_map_of_mem
theorem Ab8.{u_1,u_2}:∀ {α:Type u_1} {β:Type u_2} {b:β} {f:α->β} {l:List α},b∈List.map f l<->∃a,a∈l/\f a=b:=@List.mem_map
theorem Ai7.{u_1,u_2}:∀ {α:Type u_1} {β:Type u_2} {f:α->β} {l₁ l₂:List α},List.map f (l₁++l₂)=List.map f l₁++List.map f l₂:=@List.map_append
theorem Ai9.{u_1}:∀ {α:Type u_1} (l₁ l₂:List α),l₂.Sublist (l₁++l₂):=@List.sublist_append_right
theorem AbI.{u}:∀ {α:Type u} {«as»:List α} {i:Nat} {a:α},(«as».set i a).length=«as».length:=@List.length_set
theorem AbJ.{u}:∀ {α:Type u} {a:α},[a].length=1:=@List.length_singleton
theorem AbQ.{u_1}:∀ {α:Type u_1} {l:List α},l.length=0<->l=[]:=@List.length_eq_zero_iff
theorem AbT.{u}:∀ {α:Type u} {a:α} {«as» bs:List α},a::«as»++bs=a::(«as»++bs):=@List.cons_append
theorem AbY.{u_1}:∀ {α:Type u_1} {i:Nat} {b:α} {xs:Array α},xs[i]?=some b<->∃h,xs[i]=b:=@Array.getElem?_eq_some_iff
theorem Acg.{u}:∀ {α:Type u} {a:α} {«as»:List α},(a::«as»).length=«as».length + 1:=@List.length_cons
theorem Aco.{u_1}:∀ {α:Type u_1} {i:Nat} {l:List α},l.length<=i->List.take i l=l:=@List.take_of_length_le
theorem Acp:∀ {a:Prop},¬¬a<->a:=@Classical.not_not
theorem Acq.{u_1}:∀ {α:Type u_1} {l₁ l₂:List α},l₁.Sublist l₂->∀(l:List α),(l++l₁).Sublist (l++l₂):=@List.Sublist.append_left
theorem Acu.{u,v}:∀ {α:Type u} {β:Type v} {f:α->β} {a:α} {l:List α},List.map f (a::l)=f a::List.map f l:=@List.map_cons
theorem Acx.{u}:∀ {α:Type u} («as»:List α),«as»++[]=«as»:=@List.append_nil
theorem Acy.{u_1}:∀ {α:Type u_1} (l₁ l₂:List α),l₁.Sublist (l₁++l₂):=@List.sublist_append_left
theorem AcC:∀ {n m k:Nat},n<=m->m<=k->n<=k:=@Nat.le_trans
theorem AcL.{u_1}:∀ {α:Type u_1} {l:List α} {i:Nat},l.length<=i->l[i]?=none:=@List.getElem?_eq_none
theorem Ade.{u}:∀ {α:Type u} {val val_1:α},some val=some val_1->val=val_1:=@Option.some.inj
theorem Adk.{u_1}:∀ {α:Type u_1} (a:α) (l:List α),l.Sublist (a::l):=@List.sublist_cons_self
theorem Adq.{u_1}:∀ {α:Type u_1} {l:List α} {i j:Nat},i≠j->∀ {a:α},(l.set i a)[j]?=l[j]?:=@List.getElem?_set_ne
theorem AdZ.{u_1}:∀ {α:Type u_1} {l:List α} {i:Nat} {a:α},i < l.length->(l.set i a)[i]?=some a:=@List.getElem?_set_self
theorem Aes:∀ {α β:Type} (a:α) (w:World) (f:α->World->Result β),(Result.ok a w).andThen f=f a w:=@Go.Result.andThen_ok
theorem Ae9.{u_1}:∀ {α:Type u_1} {l₁ l₂:List α} {i:Nat},i < l₁.length->(l₁++l₂)[i]?=l₁[i]?:=@List.getElem?_append_left
theorem AeN.{u_1}:∀ {α:Type u_1} (i:Nat) (l:List α),List.take i l++List.drop i l=l:=@List.take_append_drop
theorem Agg.{u_1}:∀ {α:Type u_1} {l:List α} {i j:Nat},(List.take i l)[j]?=if j < i then l[j]? else none:=@List.getElem?_take
theorem Ags:∀(x w:Nat),(BitVec.ofNat w x).toNat=x % 2^w:=@BitVec.toNat_ofNat
theorem Agz:∀(n m k:Nat),(n + m) * k=n * k + m * k:=@Nat.add_mul
theorem Ag5:∀(w n:Nat),BitVec.ofInt w ↑n=BitVec.ofNat w n:=@BitVec.ofInt_natCast
theorem AgI:∀ {a b:Nat},a < b->a % b=a:=@Nat.mod_eq_of_lt
theorem Ahe.{u}:∀ {α:Type u} (val val_1:α),(some val=some val_1)=(val=val_1):=@Option.some.injEq
theorem Ahl.{u_1}:∀ {α:Type u_1} {a:α} {l:List α},(a::l)[0]?=some a:=@List.getElem?_cons_zero
theorem Ahp.{u_1}:∀ {α:Type u_1} {i:Nat} {l:List α},(List.take i l).length=min i l.length:=@List.length_take
theorem Ah5:∀ {α β:Type} (P:Program) (w:World) (x:Sem α) (f:α->Sem β),Sem.run P (x >>= f) w=(Sem.run P x w).andThen λa w' => Sem.run P (f a) w':=@Go.Sem.run_bind
theorem Ah6.{u_1}:∀ {α:Type u_1} {l:List α},List.take l.length l=l:=@List.take_length
theorem Ah7.{u_1}:∀ {α:Type u_1} {a:α} {i:Nat} {l:List α},(a::l)[i + 1]?=l[i]?:=@List.getElem?_cons_succ
theorem Ah8.{u_1}:∀ {α:Type u_1} {l₁ l₂:List α} {i:Nat},l₁.length<=i->(l₁++l₂)[i]?=l₂[i - l₁.length]?:=@List.getElem?_append_right
theorem AhG.{u_1}:∀ {α:Type u_1} {l:List α} {i:Nat},List.take (i + 1) l=List.take i l++l[i]?.toList:=@List.take_add_one
theorem AhN:∀ {n m:Nat} (k:Nat),n<=m->n * k<=m * k:=@Nat.mul_le_mul_right
theorem AhO.{u_1}:∀ {α:Type u_1} {l₁ l₂:List α},(∀(i:Nat),l₁[i]?=l₂[i]?)->l₁=l₂:=@List.ext_getElem?
theorem Aib.{u_1}:∀ {α:Type u_1} (l₁ l₂ l₃:List α),(l₁++(l₂++l₃)).Perm (l₂++(l₁++l₃)):=@List.perm_append_comm_assoc
theorem Aic.{u_1}:∀ {α:Type u_1} {xs:List α} {i j:Nat},(List.drop i xs)[j]?=xs[i + j]?:=@List.getElem?_drop
theorem Aid:∀(w:Nat),0 < 2^w:=@Nat.two_pow_pos
theorem Aif.{u_1}:∀ {α:Type u_1} {xs ys:Array α},xs.toList=ys.toList<->xs=ys:=@Array.toList_inj
theorem Aih.{u_1}:∀ {α:Sort u_1} (a b:α),(bif true then a else b)=a:=@cond_true
theorem Aii:∀(n:Nat),1 * n=n:=@Nat.one_mul
theorem Ail:∀ {P:Program} {w:World} {r:Nat} {es:Array MapEntry} {clock:Nat},w.heap[r]?=some (Obj.map es clock)->Sem.run P (getObj r) w=Result.ok (Obj.map es clock) w:=@Go.MapKept.run_getObj_map
theorem Ain:∀ {n m k:Nat},n < m->m<=k->n < k:=@Nat.lt_of_lt_of_le
theorem Aiq:∀ {a:Int},0<=a->↑a.toNat=a:=@Int.toNat_of_nonneg
theorem Aiu:∀(n:Nat),0 * n=0:=@Nat.zero_mul
theorem Aiv.{u_1}:∀ {α:Type u_1} {l₁ l₂:List α} {i:Nat},i<=l₁.length->List.take i (l₁++l₂)=List.take i l₁:=@List.take_append_of_le_length
theorem Aix.{u_1}:∀ {α:Type u_1} (l:List α),[].Sublist l:=@List.nil_sublist
theorem Aiy:∀ {n:Nat},n > 0->∀ {i j:Nat},i<=j->n^i<=n^j:=@Nat.pow_le_pow_right
theorem Ai3.{u_1}:∀ {α:Type u_1} [BEq α] [LawfulBEq α] {l₁ l₂:List α},l₁.Perm l₂<->∀(a:α),List.count a l₁=List.count a l₂:=@List.perm_iff_count
theorem Ai1.{u_1}:∀ {α:Type u_1} {xs:Array α} {i:Nat} {d:α},xs.getD i d=xs[i]?.getD d:=@Array.getD_eq_getD_getElem?
theorem Ai2.{u}:∀ {α:Type u} {n:Nat} {a:α},(List.replicate n a).length=n:=@List.length_replicate
theorem Ai4.{u}:∀ {α:Sort u} {a b:α},a≠b->b≠a:=@Ne.symm
theorem Ai5:(false=true)=False:=@Bool.false_eq_true
theorem W{p:Prop}(h:p:=by omega):p:=h
theorem C6{p:Prop}(h:p:=by kernel_rfl):p:=h
theorem C7{p:Prop}(h:p:=by dsimp only;omega):p:=h
theorem C8{p:Prop}(h:p:=by decide):p:=h
theorem C9{p:Prop}(h:p:=by simp):p:=h
theorem Da{p:Prop}(h:p:=by cases h):p:=h
theorem Db{p:Prop}(h:p:=by show some (Value.slice t.ad _ _)=_;rw[ea]):p:=h
theorem Dc{p:Prop}(h:p:=by dsimp only;rw[AC];rfl):p:=h
theorem Dd{p:Prop}(h:p:=by simp[he]):p:=h
theorem De{p:Prop}(h:p:=by show some (AK (List.replicate 1 _).flatten 0 (acL ac0))=some (acL ac0);exact If some (AH rfl)):p:=h
theorem Dg{p:Prop}(h:p:=by first|exact absurd k h83|(rw[IR k] at h86;omega)):p:=h
theorem Dh{p:Prop}(h:p:=by first|exact absurd k h76|(rw[IR k] at h79;omega)):p:=h
theorem Di{p:Prop}(h:p:=by show some (AK (List.replicate 1 _).flatten 0 p.cells)=some p.cells;exact If some (AH rfl)):p:=h
theorem Dj{p:Prop}(h:p:=by rw[e]):p:=h
theorem Dk{p:Prop}(h:p:=by show some (Value.slice ad _ _)=_;rw[ea]):p:=h
theorem Dl{p:Prop}(h:p:=by rw[AC];rfl):p:=h
theorem Dm{p:Prop}(h:p:=by rw[AbI];omega):p:=h
theorem Dn{p:Prop}(h:p:=by first|exact Ai6 rfl|simp):p:=h
theorem Dp{p:Prop}(h:p:=by show some (AK (List.replicate 1 _).flatten 0 nr.cells)=some nr.cells;exact If some (AH (RuL.len nr))):p:=h
theorem Dq{p:Prop}(h:p:=by rw[Ri];omega):p:=h
theorem Dt{p:Prop}(h:p:=by rw[PP];exact DF EnL.len hy):p:=h
theorem Du{p:Prop}(h:p:=by show some (Value.slice ad _ _)=_;rw[ea1]):p:=h
theorem Dv{p:Prop}(h:p:=by rw[hT0];exact Acq (Adk _ _) _):p:=h
theorem Dw{p:Prop}(h:p:=by intro hh;have:=I3 r.acts;rw[hh] at this;simp at this;omega):p:=h
theorem Dx{p:Prop}(h:p:=by intro hh;have:=FM xs;rw[hh] at this;simp at this;omega):p:=h
theorem Dy{p:Prop}(h:p:=by intro hh;have:=DO ins;rw[hh] at this;simp at this;omega):p:=h
theorem Dz{p:Prop}(h:p:=by rw[AC];omega):p:=h
theorem D0{p:Prop}(h:p:=by show some (Value.slice a.pad _ _)=_;rw[ea]):p:=h
theorem D1{p:Prop}(h:p:=by rw[PP,Jg EnL.len _ _ _ R (by rw[AbI];omega)];exact .refl _):p:=h
theorem D2{p:Prop}(h:p:=by show some (Value.slice pa _ _)=_;rw[ea1]):p:=h
theorem D3{p:Prop}(h:p:=by first|exact LU (by omega) (by omega)|exact w_u64m _):p:=h
theorem D4{p:Prop}(h:p:=by have:(RuL.d r).acts.length=r.acts.length:=rfl;omega):p:=h
theorem D5{p:Prop}(h:p:=by rw[<- hc] at hd;obtain⟨z,hz,rfl⟩:=Ab8.1 hd;exact hF.fit z hz):p:=h
theorem D6{p:Prop}(h:p:=by rw[AC,AP hlen,hyl];omega):p:=h
theorem D7{p:Prop}(h:p:=by show some (Value.int .i64 k.from_)=_;rw[hf]):p:=h
theorem D8{p:Prop}(h:p:=by show some (Value.slice r.ad _ _)=_;rw[ea2]):p:=h
theorem D9{p:Prop}(h:p:=by simpa using hm):p:=h
theorem Ea{p:Prop}(h:p:=by rintro e w' ⟨rfl,h'⟩;exact⟨by rw[IR hok],h'⟩):p:=h
theorem Eb{p:Prop}(h:p:=by cases k):p:=h
theorem Ec{p:Prop}(h:p:=by rw[Aiu];rfl):p:=h
theorem Ed{p:Prop}(h:p:=by simp;omega):p:=h
theorem Ee{p:Prop}(h:p:=by rw[AC,DO,AbI];omega):p:=h
theorem Ef{p:Prop}(h:p:=by rw[PP,Jg EnL.len _ _ _ R (by omega)]):p:=h
theorem Eg{p:Prop}(h:p:=by rw[AC,hely];omega):p:=h
theorem Ej{p:Prop}(h:p:=by rw[hP.c];exact⟨rfl,rfl,rfl⟩):p:=h
theorem Ek{p:Prop}(h:p:=by rw[IX];omega):p:=h
theorem Ep{p:Prop}(h:p:=by rw[hmb];exact Mt.Oi hrf.isIn.nz hsf.isIn.nz):p:=h
theorem Ew{p:Prop}(h:p:=by rw[hmb];exact Mt.Oh hrf.isIn.m hsf.isIn.m):p:=h
theorem E8{p:Prop}(h:p:=by rw[<- hZ];exact Vec.made rfl):p:=h
theorem Fa{p:Prop}(h:p:=by rw[hP.c];rfl):p:=h
theorem Fb{p:Prop}(h:p:=by show some (Value.int .i64 k.best)=_;rw[hb]):p:=h
theorem Fc{p:Prop}(h:p:=by rw[PP];exact DF PfL.BK hx):p:=h
theorem Fe{p:Prop}(h:p:=by rw[PP];exact DF EnL.len hx1):p:=h
theorem Ff{p:Prop}(h:p:=by rw[PP];exact DF EnL.len hz):p:=h
theorem Fg{p:Prop}(h:p:=by rw[HJ];omega):p:=h
theorem Fh{p:Prop}(h:p:=by show some (Value.slice ad _ _)=_;rw[ead]):p:=h
theorem Fi{p:Prop}(h:p:=by show some (Value.slice aa _ _)=_;rw[ea1]):p:=h
theorem Fj{p:Prop}(h:p:=by show 1<=8589934592;omega):p:=h
theorem Fk{p:Prop}(h:p:=by rw[AC,DO];omega):p:=h
theorem Fl{p:Prop}(h:p:=by rw[N0 hg hj ha hl hv];decide):p:=h
theorem Fm{p:Prop}(h:p:=by rw[AC,hel];exact hcl):p:=h
theorem Fo{p:Prop}(h:p:=by rw[hs];intro e;cases e):p:=h
theorem Fp{p:Prop}(h:p:=by rw[hT0];exact h):p:=h
theorem Fq{p:Prop}(h:p:=by rw[show t.kind=17 from h57];decide):p:=h
theorem Fs{p:Prop}(h:p:=by rw[bl] at hr;exact hr):p:=h
theorem Ft{p:Prop}(h:p:=by simp[hYp e he]):p:=h
theorem Fu{p:Prop}(h:p:=by simpa [AM] using hj):p:=h
theorem Fv{p:Prop}(h:p:=by rw[FM];omega):p:=h
theorem Fw{p:Prop}(h:p:=by rw[<- hZ];exact Ku rfl _):p:=h
theorem Fy{p:Prop}(h:p:=by cases he):p:=h
theorem Fz{p:Prop}(h:p:=by rw[<- hren.is_.sy];exact ho2):p:=h
theorem F1{p:Prop}(h:p:=by rw[AhG,hx];rfl):p:=h
theorem F2{p:Prop}(h:p:=by intro e;rw[e] at hx;cases hx):p:=h
theorem F3{p:Prop}(h:p:=by rw[DJ];omega):p:=h
theorem F4{p:Prop}(h:p:=by show k<=64;omega):p:=h
theorem F5{p:Prop}(h:p:=by rw[Ahp];omega):p:=h
theorem F6{p:Prop}(h:p:=by rw[hb25];decide):p:=h
theorem F7{p:Prop}(h:p:=by unfold OI at hmf;omega):p:=h
theorem F8{p:Prop}(h:p:=by show 1<=100000000;decide):p:=h
theorem C3{p:Prop}(h:p:=by
 refine J9 ?_
 exact zV ((Gs U U U).f λh=>h U) U<|Cx):p:=h
theorem Gh{p:Prop}(h:p:=by
 refine zK CkO U<|λw1 hS=>?_
 rw[IR W] at bd
 exact(Adt w1).mono<|Cu):p:=h
theorem Gf{p:Prop}(h:p:=by
 refine rO 3 [8,9]<|zB underlying54 BJ CZ.h (by show some (AK (List.replicate 1 _).flatten 0 (RuL.cells ⟨m,adn,cn,ys⟩))=some (RuL.cells ⟨m,adn,cn,ys⟩);exact If some (AH U)) U ?_
 intro g87 hg87
 exact WL.to (L':=E++(.row g87 (RuL.cells ⟨m,adn,cn,ys⟩)::.row g (Wh p gm mad2 ms2.length mc2)::.obj gm (.map esU cU)::.row g4 (mtL m)::(En++(Em2++(K++L))))) (λw hS=>hS.AJ)<|Ga):p:=h
theorem Cu{p:Prop}(h:p:=by
 rintro e w' ⟨ad,c,E,K,ls,rfl,hd,hV,hK,hF,hl,hS'⟩
 refine⟨_,_,rfl,hS.join hS',?_⟩
 refine J6 ?_
 exact Ag):p:=h
theorem Cv{p:Prop}(h:p:=by
 refine J1 ?_
 refine rO 3 [7,8]<|zB underlying382 Ht MP (by show some (AK (List.replicate 1 _).flatten 0 (ucs m.mask 9))=some (ucs m.mask 9);exact If some (AH U)) U ?_
 intro g69 hg69
 exact WL.to (L':=Em++(.row g69 (ucs m.mask 9)::.row g (Q8 p gm)::.obj gm (.map es cl)::.row g4 (mtL m)::(En++(E++(K++L))))) (λw hS=>hS.AJ)<|Ab):p:=h
theorem Cx{p:Prop}(h:p:=by
 refine J4 ?_
 exact Aw):p:=h
theorem Gg{p:Prop}(h:p:=by
 refine J1 ?_
 refine rO 2 [10]<|zB underlying34 AZ G0 U U<|?_
 intro g15 hg15
 refine J1 ?_
 refine rA 0 [11,12] U<|qC CkO U (λw hS=>Or_c w _ _ _ (hS.cell U) (hS.cell U))<|?_
 refine J5 ?_
 exact Aw):p:=h
theorem Cy{p:Prop}(h:p:=by
 rw[E9 W,E9 W,IR W] at hw
 refine zk CkO U (λw hS=>SS N ih t hN w pred hk hI (hA.st (λ_ h=>h) hS))<|J17 ?_
 refine eT2 ?_
 exact A7):p:=h
theorem Cz{p:Prop}(h:p:=by
 refine J8 ?_
 refine zV ((SK U U U).t W) U<|J2 ?_
 refine zS ((JF U U U).t W) U<|J5 ?_
 exact Aw):p:=h
theorem C0{p:Prop}(h:p:=by
 refine⟨_,.row g5 y.cells::x'.all (v'.AE++L),rfl,SxL.out1 hS',?_⟩
 refine J8 ?_
 exact Bi):p:=h
theorem C1{p:Prop}(h:p:=by
 refine WE.FI U<|J10 ?_
 exact A4):p:=h
theorem C2{p:Prop}(h:p:=by
 refine J2 ?_
 refine WH.nil<|WRH.done C6<|J4 ?_
 exact Bi):p:=h
theorem Aa{p:Prop}(h:p:=by
 refine J5 ?_
 exact WE.to (L':=.row g6 p.cells::.row mt.g mt.cells::.row v.s [.slice (aG v.mb) v.ms.length v.mc,pG v.gf]::.row v.mb (v.FL++v.R)::.row v.gf (fiL v.own v.bl)::(mt.rib.AE++(.obj mt.bm (.map esU cU)::.obj mt.nm (.map mt.nes mt.nc)::((K'++mt.K)++(v.rest to++Z))))) (λw h=>St.AN [.row g13 y.r.cells,.row g9 old.cells] h)<|eM ⟨esU,cU,_,K'++mt.K⟩ ⟨hMU,hstU hMs,hUv,λq hq=>CI _ _ hq,λ_=>hUp⟩):p:=h
theorem Ab{p:Prop}(h:p:=by
 refine WL.AU U U U underlying382 underlying382 Ht by_218 MP U U hA.masks (new:=ucs m.mask 9) (λ_=>⟨g69,0,rfl,λw hS=>AL (g:=g69) w hS⟩) U U W (.none U) U U<|λad70 c70 E70 hV70 hr70=>J1 ?_
 refine rF 1 [9,10]<|J3 ?_
 refine rO 0 [11]<|J3 ?_
 refine WE.to (L':=.row g (Wh p gm ad70 (p.ms++[m.mask]).length c70)::.obj gm (.map es cl)::.row g4 (mtL m)::(En++(E++(E70++(K++L))))) (λw hS=>?_) (eM ⟨ad70,c70,p.ms++[m.mask],E70⟩ ⟨by rw[AC];rw[show PB (p.ms++[m.mask])=PB p.ms++ucs m.mask 9 from AX _ _ _];exact hV70,by rw[AC];exact M2 _,λf h=>Ha _ h,⟨m.mask,Mu _ (Es.2 U),λ_ _=>rfl⟩,λf h=>(by
  rcases LI.1 h with h|h
  .exact hA.ok.num f h
  .rw [Es.1 h];exact hm.mask)⟩)
 rw[show(p.ms++[m.mask]).length=p.ms.length+1 by rw[AC];rfl]
 exact St.AN (L:=E70++(.row g69 (ucs m.mask 9)::.row g (Wh p gm ad70 (p.ms.length+1) c70)::.obj gm (.map es cl)::.row g4 (mtL m)::(En++(E++(K++L))))) [.row g69 (ucs m.mask 9)] hS):p:=h
theorem F9{p:Prop}(h:p:=by
 refine WC.held ([.row g1 (ndL t)]) mixed<|WRH.first (g:=3) [0,1] C6 C6 kp ?_
 have hw1:=I0 (t.kids.map AD) (1,0) (GV _) ⟨C8,C8⟩
 rw[E9 W,E9 W,E9 W,E9 W,IR W] at bd
 have hks:∀u∈t.kids,(AD u).1<=300/\(AD u).2<=64:=(by
  by_cases h6:t.kind=6
  .rw [E9 W,E9 W,IR W] at wt
   rw[wt] at h1
   have hp:∀u∈t.kids,okT true u:=λu hu=>(by
    obtain⟨j,_,hj⟩:=hk.mem hu
    rw[h6] at hj
    exact hj)
   exact λu hu=>⟨by have:=(hw1.2.2.2 _ (Ab5 hu)).1;omega,by rw[Gj (hp u hu)];decide⟩
  .rw [E9 W,E9 W,E9 W,E9 W,IR W] at wt
   rw[wt] at h1 h2
   exact λu hu=>⟨by have:=(hw1.2.2.2 _ (Ab5 hu)).1;omega,by have:=(hw1.2.2.2 _ (Ab5 hu)).2;omega⟩)
 refine J1 ?_
 refine zj (An U U Nt.h (cellAt (v:=.slice t.ad t.kids.length t.cap) U)) U<|WH.nil<|?_
 refine WRH.one (g:=2) 2 C6<|zK CkO U<|λw1 hS=>(Adt w1).mono ?_
 rintro e w' ⟨ad0,c0,E0,K0,l0,rfl,hd0,hV0,hK0,hF0,hl0,hS'⟩
 refine⟨_,.row g1 (ndL t)::(E0++K0),rfl,(hS.join hS').AJ,?_⟩
 refine WL.BL kp<|WRH.one (g:=1) 3 C6<|zK CkO U<|λw1 hS=>(Rp (L:=[.row g1 (ndL t)]) N ih t hN pred hk hI hA hG hks 96 CkO JW XV Aad (λus vs=>by unfold JW;rw[AC];exact M2 _) ad0 c0 l0 hV0 hK0 ⟨HY hd0 hF0,Li hd0 λd hd=>by rw[Es.1 hd];show 0<=64;decide⟩ hl0 hS.AJ).mono ?_
 rintro e w' ⟨ad,c,E,K,ls,rfl,hd,hV,hK,hF,hl,hS'⟩
 rw[hd0] at hd hF
 refine⟨_,_,rfl,hS'.AJ (L':=.row g1 (ndL t)::(E++K)),?_⟩
 refine WL.BL kp<|WRH.first (g:=0) [4] C6 C6 kp<|J1 ?_
 refine WH.nil<|WRH.done C6<|J4 ?_
 refine eT1 ?_
 exact λw' h=>⟨ad,c,E,K,ls,rfl,hd.trans bd.symm,hV,hK,λd hq=>hF d (by rw[<- bd];exact hq),hl,h.AN [Ent.row g1 (ndL t)]⟩):p:=h
theorem Ga{p:Prop}(h:p:=by
 refine WL.AU U U U underlying54 underlying54 BJ NN CZ.h U U hA.out (new:=RuL.cells ⟨m,adn,cn,ys⟩) (λ_=>⟨g87,0,rfl,λw hS=>AL (g:=g87) w hS⟩) U U W (.none U) U U<|λad88 c88 E88 hV88 hr88=>J1 ?_
 refine rF 1 [10,11]<|J3 ?_
 refine rO 0 [12]<|J3 ?_
 refine WE.to (L':=.row g [iI p.mr,iI p.ma,.slice ad88 (p.ls.length+1) c88,.slice mad2 ms2.length mc2,.map (some gm),iI ((HS p.ds:Nat):Int)]::(E88++(.obj gm (.map esU cU)::(En++(Em2++(K++L)))))) (λw hS=>St.AN (L:=E88++(.row g87 (RuL.cells ⟨m,adn,cn,ys⟩)::.row g [iI p.mr,iI p.ma,.slice ad88 (p.ls.length+1) c88,.slice mad2 ms2.length mc2,.map (some gm),iI ((HS p.ds:Nat):Int)]::.obj gm (.map esU cU)::.row g4 (mtL m)::(En++(Em2++(K++L))))) [.row g87 (RuL.cells ⟨m,adn,cn,ys⟩),.row g4 (mtL m)] hS) (eM ⟨ad88,c88,E88⟩ hV88)):p:=h
theorem Af{p:Prop}(h:p:=by
 have hAB:EZ A B=A++B:=(by
  rcases Nat.eq_zero_or_pos A.length with h0|h0
  .rw [AbQ.1 h0];exact Qc B
  .have h1:B=[]:=AbQ.1 W
   rw[h1,Sd,Acx])
 refine WL.to (L':=E++[]) (λw hS=>by simpa using hS)<|WL.AU U U U underlying231 underlying231 BC ID CG U U hV (new:=DA A) (λhp=>by obtain⟨b1,o1,e1,r1⟩:=hA1 (by intro h;have:=DO A;rw[h] at this;simp at this;omega);exact⟨b1,o1,e1,DP (λh=>h) r1⟩) (DO A) (Gm IU A) W (.none U) U U ?_
 intro ad46 c46 E46 hV46 hr46
 refine J7 ?_
 refine WL.AU U U U underlying231 underlying231 BC ID CG U U hV46 (new:=DA B) (λhp=>by obtain⟨b1,o1,e1,r1⟩:=hB1 (by intro h;have:=DO B;rw[h] at this;simp at this;omega);exact⟨b1,o1,e1,DP (λh=>h) r1⟩) (DO B) (Gm IU B) W (.none U) U U ?_
 intro ad49 c49 E49 hV49 hr49
 refine J4 ?_
 refine eT1 ?_
 have e3:EZ as_ bs=S++A++B:=(by rw[hm,hAB,Qs])
 rw[e3]
 refine λw' h=>⟨ad49,c49,E49,by rw[AC,AC],?_,by simpa using h⟩
 rw[AC,AC,show DA (S++A++B)=DA S++DA A++DA B from(GJ EnL.cells (S++A) B).trans (If (· ++ DA B) (GJ EnL.cells S A))]
 exact hV49):p:=h
theorem Ag{p:Prop}(h:p:=by
 refine eT1 ?_
 exact λw' h=>⟨ad,c,E,K,ls,rfl,hd.trans bd.symm,hV,hK,λd hq=>hF d (by rw[<- bd];exact hq),hl,h.AN [Ent.row g1 (ndL t)]⟩):p:=h
theorem Ai{p:Prop}(h:p:=by
 refine eT1 ?_
 exact λw' h=>⟨by unfold P7;first|(rw[IR rfl,UV W])|(rw[IR rfl,Ro W])|(rw[E9 C8,UV W])|(rw[E9 C8,Ro W]),h.frm⟩):p:=h
theorem Gb{p:Prop}(h:p:=by
 refine cQ mixed<|J8 ?_
 refine JT (λh35=>?_) (λh35=>?_)
 refine J11 ?_
 refine eT1 ?_
 exact λw' h=>⟨T,k,3,rfl,⟨.inr λ_ _=>rfl,λ_ _ _=>rfl,λP _ hT=>hT⟩,(h.tail.tail).sub (Acy (T.all t m k) K)⟩
 refine J9 ?_
 refine zK CkO U<|λw1 hS=>?_
 have h1:St (Ids (T.all t m k++K)) w0 w1 (.row t [.pointer T.ptr,iI m,iI k]::(T.AE++(.row g5 a.cells::.row g4 p.cells::K))):=hS.AJ
 refine(AhJ w1 t m k T p hp hok (St.own (L:=T.all t m k) h1)).mono ?_
 rintro e w' ⟨T1,g,hh,a1,K1,l,r,rfl,hs1,hl1,hok1,h2⟩
 have h3:=St.back (L:=T.all t m k) h1 h2
 obtain⟨Y,hYm,hY⟩:=Tri.Ae3 hs1
 have hself:T1.BS p.bits (.node g hh a1 K1 l r)=T1:=(by rw[<- hs1];exact Tri.He _ _ (Tri.FW _ _ (by rw[hs1];intro e;cases e)))
 refine⟨_,.row g5 a.cells::.row g4 p.cells::.row t [.pointer T1.ptr,iI m,iI k]::.row g (Tri.cells hh a1 l r)::(K1++(Y++K)),rfl,(hY hh a1 K1 t m k [.row g5 a.cells,.row g4 p.cells] K _ _ w').1 (by rw[hself];exact h3.AJ),?_⟩
 refine J16 ?_
 refine zV (EW U U U (rfl)) U<|J4 ?_
 exact eM ⟨T1,_,g,hh,a1,K1,l,r,Y⟩ ⟨hs1,hl1,hok1,λh' a' K' t m k X Z p w0 w=>(hY h' a' K' t m k X Z p w0 w).2⟩):p:=h
theorem Aj{p:Prop}(h:p:=by
 refine WL.AU U U U underlying32 underlying32 BT P6 FZ.h U U hVt (new:=x.cells) (λ_=>⟨g123,0,rfl,λw hS=>AL (g:=g123) w hS⟩) U (BD PfL.one _) W (.none U) U U<|λad124 c124 E124 hV124 hr124=>J2 ?_
 exact WE.to (L':=.row g16 x.cells::.row g3 m.cells::.row b.r b.rc::(T1.all b.t b.m k1++(.row gs (AM PfL.cells said++Rs)::(En++(E124++L))))) (λw h=>St.AN (L:=E124++(.row g123 x.cells::.row g16 x.cells::.row g3 m.cells::.row b.r b.rc::(T1.all b.t b.m k1++(.row gs (AM PfL.cells said++Rs)::(En++L))))) [.row g123 x.cells] h)<|eM ⟨ts++[x],ad124,c124,E124⟩ ⟨by dsimp only;unfold PfV;rw[AX,AC];exact hV124,by dsimp only;rw[AC,AbJ];omega,hto.snoc hxo (LI.1 ((hsm x).1 (Do hx)))⟩ (.eq U Dl (.cons U (.cons U (.cons U (.cons U (.cons U (.cons U (.cons U .nil))))))))):p:=h
theorem Al{p:Prop}(h:p:=by
 intro ad7 c7 E7 hV7 hr7
 refine J4 ?_
 refine eT1 ?_
 exact λw' h=>⟨ad7,c7,E7,by rw[PP],by simpa using hV7,h.sub (Acy _ _)⟩):p:=h
theorem Ao{p:Prop}(h:p:=by
 refine J26 ?_
 refine JT (λh16=>?_) (λh16=>?_)
 refine J10 ?_
 refine eT1 ?_
 exact λw' h=>⟨by unfold EF;rw[IR h16],h.frm⟩
 refine J10 ?_
 refine JT (λh19=>?_) (λh19=>?_)
 refine J10 ?_
 refine eT1 ?_
 exact λw' h=>⟨by unfold EF;rw[E9 h16,IR h19],h.frm⟩
 refine J11 ?_
 refine eT1 ?_
 exact λw' h=>⟨by unfold EF;rw[E9 h16,E9 h19],h.frm⟩):p:=h
theorem Gc{p:Prop}(h:p:=by
 refine WL.PE kp<|WRT.one (g:=2) 11 C6<|zK CkO U<|λw1 hS=>(K5 w1 x.c.p.ia x.c.p.ic x.c.p.ins (hO.pm w1 λe he=>hS.holds e Ft).1.ins W).mono ?_
 rintro e w' ⟨ia,ic,Ei,rfl,hVi,hS'⟩
 refine⟨_,_,rfl,hS.join hS',?_⟩
 refine WL.PE kp<|WRT.first (g:=1) [17] C6 C6 C6 kp<|J1 ?_
 refine WH.PE<|WRT.one (g:=0) 19 C6<|J1 ?_
 refine WL.CD (g:=g9) (cs':=[.slice oa x.c.p.outs.length oc,.slice ia x.c.p.ins.length ic,.slice x.c.p.ma x.c.p.AY.length x.c.p.mc,sN,sN,sN]) U<|WL.Xw U<|?_
 exact WRT.done C6<|eMx [] ⟨oa,oc,Eo,ia,ic,Ei,g9⟩ ⟨hVo,hVi⟩):p:=h
theorem Aq{p:Prop}(h:p:=by
 refine eT1 ?_
 exact λw' h=>⟨by unfold G9;first|rw[UV W] | rw[Ro W],h.frm⟩):p:=h
theorem Gd{p:Prop}(h:p:=by
 refine WL.BL kp<|WRH.one (g:=2) 5 C6<|zK CkO U<|λw1 hS=>(KZ w1 p.ma p.mc p.AY (hA.AY.frm hS.frm λ_ _ _ h=>h) W).mono ?_
 rintro e w' ⟨za,zc,Ez,rfl,hVz,hS'⟩
 refine⟨_,_,rfl,hS.join hS',?_⟩
 refine WL.BL kp<|WRH.first (g:=1) [6] C6 C6 kp<|J1 ?_
 refine WH.nil<|WRH.one (g:=0) 8 C6<|J1 ?_
 refine WL.CD (g:=g5) (cs':=[sN,sN,.slice ma p.AY.length mc,sN,sN,.slice za p.AY.length zc]) U<|WL.BL kp<|?_
 exact WRH.done C6<|eMx [] ⟨za,zc,Ez,ma,mc,Em,g5⟩ ⟨hVm,hVz⟩):p:=h
theorem Ar{p:Prop}(h:p:=by
 simp only[Builtin.append_,List.getElem?_toArray,Ahl,Ah7,Ah5,Rr hu,Rr hux,Aes,run_sizeOf hs,Sem.run_pure]
 simp only[Ai5,if_false,hlen,Aes,hroom,typeInfo,program,Sem.run,hi,Ah5,false_or]
 have hby0:¬(by_=0):=W
 simp only[hby0,and_false,if_false,Aes,Sem.run_pure,hcap,hcut,hask,hold _ hd,hfc _ hd,CE hz,hzc,Bool.not_false,if_true,Ah5,newRow,newObj,Sem.run,hi,hib]
 have ee:xs.toArray++new.toArray++Builtin.zeroCells zs.toArray (nc-(k+m))=(xs++new++rs).toArray:=by simp[rs]
 rw[ee]
 rfl):p:=h
theorem As{p:Prop}(h:p:=by
 exact St.AN (L:=E17++(.row g16 (RtL.cells ⟨b.peer,p,a'⟩)::.row g5 a.cells::.row g4 p.cells::(M++(.row ga [.slice ad17 (rs.length+1) c17]::(K++(b.T.all b.t b.m b.k++(.row b.r b.rc::.row gb [pG b.r]::(L++(E'++K'))))))))) [.row g16 (RtL.cells ⟨b.peer,p,a'⟩),.row g5 a.cells,.row g4 p.cells] h):p:=h
theorem Ge{p:Prop}(h:p:=by
 refine zV (An U U i3o.h (cellAt (v:=iI x.first) U)) U<|J1 ?_
 refine zV (An U U i3o.h (cellAt (v:=iI x.med) U)) U<|WL.mapUpdate U U U U underlying463 (OF underlying3) (K7.mk _ _) (hM) (.none U) U<|?_
 intro esU cU hMU hsU
 refine J7 ?_
 exact WE.next ⟨k+1,esU,cU,_⟩ C7 ⟨C7,hMU,hL.put hx (Acp.1 h24)⟩ (.int U C7 (.cons U (.cons U (.cons U (.cons U (.cons U (.cons U .nil))))))) (Adk _ _)):p:=h
theorem Av{p:Prop}(h:p:=by
 refine eT2 ?_
 have e:KE p=1:=(by unfold KE;exact IR (by unfold OI;omega))
 rw[e]
 exact λw' h=>⟨plZ,[],[],_,rfl,λk=>Eb,λw2 _=>Vu w2,Zh,h⟩):p:=h
theorem Aw{p:Prop}(h:p:=by
 refine eT1 ?_
 exact fR):p:=h
theorem Ax{p:Prop}(h:p:=by
 refine eT1 ?_
 exact λw' h=>⟨⟨true,rfl,λk=>Eb⟩,h.frm⟩):p:=h
theorem Ay{p:Prop}(h:p:=by
 rw[E9 W,IR W,DR hu] at hw
 refine zV (AA (b:=b) (off:=o) (lo:=0) U Db U underlying24 FF U W) U ?_
 refine zV (AB (cs:=ndL u) U U H5.h U (DW (λh=>h) hr)) U<|zk CkO U (λw hS=>ih u (Nd.Jm hN hu) w _ (hk.kid hu) (hI.kids.get _ _ _ hu) ((hA.kid hu).2.st (λ_ h=>h) hS))<|?_
 refine J17 ?_
 refine eT2 ?_
 exact λw' h=>⟨by rw[hw],h.frm⟩):p:=h
theorem Az{p:Prop}(h:p:=by
 exact eM (0,64) ⟨by unfold Lp;rw[E9 W,E9 W],by unfold ON;rw[E9 W,E9 W,IR W]⟩):p:=h
theorem A0{p:Prop}(h:p:=by
 obtain⟨cs0,hc0,_⟩:=hE 0 hl
 have hsp:a.spot=none:=by
  have:=(Rq hc0).2.1 hpos
  simpa [Addr.add] using this
 obtain⟨b,off,sp⟩:=a
 simp only at hsp
 subst hsp
 refine⟨b,off,rfl,λi hi=>?_⟩
 obtain⟨cs,hc,hT⟩:=hE i hi
 obtain⟨k1,_,k3⟩:=Rq hc
 refine⟨cs,k1,?_,hT⟩
 have e1:(Addr.mk b off none).add (i*P.cellsOf e)=⟨b,off+i*P.cellsOf e,none⟩:=Kk ..
 rw[e1] at k3
 exact k3):p:=h
theorem A1{p:Prop}(h:p:=by
 have ha':∀n e,P.underlying t≠some (.array n e):=λn e he=>ha ⟨n,e,by rw[hu] at he;exact Ade he⟩
 obtain⟨v,rfl⟩:=MC hs' ha' hx
 have hf:flat P (F+1) t=[t]:=by
  unfold flat
  split
  .rename_i fs he;exact absurd he (hs' _)
  .rename_i n e he;exact absurd he (ha' _ _)
  .rfl
 rw[hf]
 exact⟨v,[],rfl,h,rfl⟩):p:=h
theorem A3{p:Prop}(h:p:=by
 refine WRH.one (g:=1) 10 C6<|J1 ?_
 refine WL.BL kp<|WRH.first (g:=0) [11] C6 C6 kp<|J1 ?_
 exact WH.nil<|WRH.done C6<|WE.to (L':=.row g8 r.cells::(K'++(.row g3 p.cells::(E++K)))) (λw h=>h.AJ)<|eM ⟨r,K',g8⟩ hgot):p:=h
theorem A4{p:Prop}(h:p:=by
 refine eT1 ?_
 exact λw' h=>⟨T2,k1,true,rfl,hd1.Hn hbin hlk2 hok2,h.sub (Acy _ _)⟩):p:=h
theorem A5{p:Prop}(h:p:=by
 unfold Item at h
 have hp:(Ds (j+1)).pend=EG (BE bef j) (Ds j).pend:=by rw[e]
 rw[hp] at h
 have hm2:(j,id0+j,vo)∈EG (BE bef j) (Ds j).pend:=by rw[h];exact Fr ..
 rw[IW] at hm2
 have:=((T.GS j (Nat.le_of_lt hj) j (id0+j) vo).1 hm2.1).1
 omega):p:=h
theorem A6{p:Prop}(h:p:=by
 refine J15 ?_
 refine eT1 ?_
 have e1:uniq eq xs=xs:=(by have:=hu;rwa [show k=xs.length by omega,Ah6] at this)
 rw[e1]
 exact λw' h=>⟨_,rfl,Vec.row (by rw[GR hlen xs xs.length R (M2 _),Ah6]) Fm hcap,h⟩):p:=h
theorem A7{p:Prop}(h:p:=by
 exact λw' h=>⟨by rw[hw],h.frm⟩):p:=h
theorem A8{p:Prop}(h:p:=by
 refine Ai3.2 λe=>?_
 have h3:=Ai3.1 hq e
 simp only[List.count_append,List.count_cons] at h3 ⊢
 omega):p:=h
theorem A9{p:Prop}(h:p:=by
 exact WE.next ⟨k+1,_⟩ C7 C7 (.int U C7 (.cons U (.cons U (.cons U (.cons U (.cons U (.cons U (.cons U .nil)))))))) (by first|exact .cons _ (.cons _ (.refl _))|exact .cons _ (.refl _))):p:=h
theorem Ba{p:Prop}(h:p:=by
 refine WRH.one (g:=1) 11 C6<|J1 ?_
 refine WL.BL kp<|WRH.first (g:=0) [12] C6 C6 kp<|J1 ?_
 exact WH.nil<|WRH.done C6<|eMx [.row g7 p.cells] ⟨r,K,g11⟩ hRK):p:=h
theorem Bb{p:Prop}(h:p:=by
 refine zV (EW U U U ((DK W W))) U<|J2 ?_
 exact eW (j+1) W W (.int U W (.cons U (.cons U (.int U (by rw[Tw hp,hsb];rfl) (.cons U (.cons U .nil))))))):p:=h
theorem Bc{p:Prop}(h:p:=by
 refine J6 ?_
 refine eT1 ?_
 exact λw' h=>⟨by unfold IM;rw[E9 W,hb22,E9 C8,hb38,E9 C8,hb43,E9 C8,hb45,E9 C8,hb54,E9 C8,hb58,hb67];rfl,h.frm⟩):p:=h
theorem Bd{p:Prop}(h:p:=by
 refine zV (EW U U U ((DK W W))) U<|J2 ?_
 exact eW (i+1) W W (.int U W (.cons U (.cons U (.int U (by rw[Tw ha];rfl) (.cons U .nil)))))):p:=h
theorem Be{p:Prop}(h:p:=by
 refine eT1 ?_
 exact λw' h=>⟨by unfold Kv;first|rw[IR W] | rw[E9 W],h.frm⟩):p:=h
theorem Bf{p:Prop}(h:p:=by
 refine rO 0 [8]<|WL.FN U U U U JZ.h U Dn (.none U) U ?_
 refine J2 ?_
 exact WE.mid () trivial Km (Adk _ _)):p:=h
theorem Bg{p:Prop}(h:p:=by
 exact λw' h=>⟨false,p,E,Em,H,En++K,rfl,λk=>Eb,λ_=>⟨hno,rfl⟩,⟨hA.out,hA.masks,hA.map,λr hr=>(hA.own r hr).more,hA.ok,hA.room⟩,h.AN [.row g4 (mtL m)]⟩):p:=h
theorem Bh{p:Prop}(h:p:=by
 refine J10 ?_
 refine eT1 ?_
 exact λw' h=>⟨by rw[Ro λe=>h14 (by have:=If List.length e;rw[Ri,Ri] at this;rw[this])],h.frm⟩):p:=h
theorem Bi{p:Prop}(h:p:=by
 refine eT2 ?_
 exact λw' h=>⟨_,x',v',rfl,⟨hX,hY⟩,h.tail⟩):p:=h
theorem Bj{p:Prop}(h:p:=by
 refine eT1 ?_
 exact λw' h=>⟨rfl,h⟩):p:=h
theorem Bk{p:Prop}(h:p:=by
 refine eT1 ?_
 exact λw' h=>⟨by unfold hopB;rw[Ro W],h.frm⟩):p:=h
theorem Bl{p:Prop}(h:p:=by
 rw[h] at h'
 exact absurd (If List.length h') C9):p:=h
theorem Bm{p:Prop}(h:p:=by
 refine eT1 ?_
 exact λw' h=>⟨none,0,[],rfl,Vec.nil 2,h⟩):p:=h
theorem Bn{p:Prop}(h:p:=by
 refine rF 0 [4]<|J5 ?_
 refine eT3 ?_
 exact λw' h=>⟨tg,rfl,hto,h.frm⟩):p:=h
theorem Bo{p:Prop}(h:p:=by
 exact⟨⟨hAK.mono λe he=>Mu _ he,UD hsay hP.2⟩,rfl⟩):p:=h
theorem Bp{p:Prop}(h:p:=by
 refine⟨_,.row g5 y.cells::x'.all (v.AE++L),rfl,SxL.out1 hS',?_⟩
 refine J7 ?_
 refine eT2 ?_
 exact λw' h=>⟨_,x',v,rfl,⟨hX,.refl hV⟩,h.tail⟩):p:=h
theorem Bq{p:Prop}(h:p:=by
 exact⟨⟨this.1.1.mono λe he=>Ha _ he,this.1.2⟩,this.2⟩):p:=h
theorem Br{p:Prop}(h:p:=by
 refine J14 ?_
 refine eT1 ?_
 exact λw' h=>⟨by rw[Ro λe=>h24 (by rw[e,hy1] at hx1;exact(Ade hx1).symm)],h.frm⟩):p:=h
theorem Bs{p:Prop}(h:p:=by
 exact λw' h=>⟨by rw[e],by rw[e];exact h.tail⟩):p:=h
theorem Bt{p:Prop}(h:p:=by
 refine eT1 ?_
 exact λw' h=>⟨by rw[OQ hs (by unfold XN;rw[OQ hx (Ro (W)),Bool.and_false])],h.frm⟩):p:=h
theorem Bu{p:Prop}(h:p:=by
 rw[SxL.all_eq] at h ⊢
 exact h.perm (by rw[<- Qs, <- Qs];exact List.perm_append_comm.append_right L)):p:=h
theorem Bv{p:Prop}(h:p:=by
 refine J15 ?_
 refine eT1 ?_
 exact λw' h=>⟨_,rfl,.inr ⟨k,rfl,W,hne,λy hy=>by rw[hx] at hy;cases hy;exact hb16⟩,h⟩):p:=h
theorem Bw{p:Prop}(h:p:=by
 exact eWx [.row g16 (acL a)] ⟨j+1,t1,us,aa,ac,EA⟩ C7 ⟨C7,ht1,C7,hua,hVA⟩):p:=h
theorem Bx{p:Prop}(h:p:=by
 exact⟨a,cap,xs,rfl,W,hr,hg⟩):p:=h
theorem By{p:Prop}(h:p:=by
 have hne:p≠q:=by rintro rfl;exact hm.elim h3 h4
 rw[hd.else_ _ p.Ma (AgN h1 h2 hq.1 hq.2 hne)]
 exact h p h1 h2 h3 h4):p:=h
theorem Bz{p:Prop}(h:p:=by
 refine J10 ?_
 refine zV ((JF U U U).t W) U<|J11 ?_
 refine eT1 ?_
 exact λw' h=>⟨E,rfl,hV,h⟩):p:=h
theorem B0{p:Prop}(h:p:=by
 refine eT1 ?_
 exact λw' h=>⟨by unfold EnD.err;rw[E9 (by show ¬(0<=x.prio/\x.prio<=1073741824);omega)],h.frm⟩):p:=h
theorem B1{p:Prop}(h:p:=by
 refine eT1 ?_
 exact λw' h=>⟨by rw[OQ hs (by unfold XN;rw[Ro (W),Bool.false_and])],h.frm⟩):p:=h
theorem B3{p:Prop}(h:p:=by
 refine zV ((Gs U U U).t W) U<|J11 ?_
 refine eT1 ?_
 exact λw' h=>⟨1,x,rfl,XTo.refl hO,h⟩):p:=h
theorem B4{p:Prop}(h:p:=by
 obtain⟨s',hs',e⟩:=Ab8.1 h1
 exact⟨s',hs',by rw[show s'.asl=s.asl from If Prod.snd e];exact hv⟩):p:=h
theorem B5{p:Prop}(h:p:=by
 exact⟨λb w v ⟨l,h⟩=>L.check w b h,λw x es ⟨l,h⟩ he=>L.find w h es he,λw v ⟨l,h⟩=>L.stays w h⟩):p:=h
theorem B6{p:Prop}(h:p:=by
 refine J11 ?_
 exact eW (m+2) W ⟨W,W,by rw[hut, <- hb25,E9 C8,hu];exact htk⟩):p:=h
theorem B7{p:Prop}(h:p:=by
 refine(Aib _ _ _).trans (List.Perm.append_left _ ?_)
 exact Aib _ _ _):p:=h
theorem B8{p:Prop}(h:p:=by
 obtain⟨v,rfl⟩:=MC (by simp[hu]) (by simp[hu]) hx
 simp only[flat,hu]
 exact⟨v,[],rfl,h,rfl⟩):p:=h
theorem B9{p:Prop}(h:p:=by
 refine J11 ?_
 refine eT1 ?_
 exact λw' h=>⟨by rw[Ro λe=>h9 (If Prod.fst e)],h.frm⟩):p:=h
theorem Ca{p:Prop}(h:p:=by
 rw[IR hwd] at h'
 exact(h'.imp wpRQ λh=>⟨h.1,RQ.out h.2⟩).imp (Oper.wp_mono λa' w' h=>h) id):p:=h
theorem Cb{p:Prop}(h:p:=by
 refine J10 ?_
 refine WE.LC (P:=prog) (.inl U) results328  ?_
 exact λw' h=>⟨rfl,ys,hp,h⟩):p:=h
theorem Cc{p:Prop}(h:p:=by
 refine J10 ?_
 refine eT1 ?_
 exact λw' h=>⟨by rw[Ro λe=>h10 Dj],h.frm⟩):p:=h
theorem Cd{p:Prop}(h:p:=by
 refine J11 ?_
 refine eT2 ?_
 exact λw' h=>BlkC.none_ h):p:=h
theorem Ce{p:Prop}(h:p:=by
 exact OZ ho (ha.ev hx) (ha.ev hy) (by simp[eqGuard]) (by simp only[binOp];rw[<- e];simp[h'])):p:=h
theorem Cf{p:Prop}(h:p:=by
 exact λw' h=>⟨none,0,[],by rw[e];rfl,λw2 _ _ _=>by rw[e];exact λhn=>absurd U hn,h⟩):p:=h
theorem Cg{p:Prop}(h:p:=by
 exact λw' h=>RsC.none_ (h.sub (Aix _))):p:=h
theorem Ch{p:Prop}(h:p:=by
 exact eM (1,1) ⟨by unfold Lp;rw[IR W],by unfold ON;rw[IR W]⟩):p:=h
theorem Ci{p:Prop}(h:p:=by
 exact WE.mid ⟨ts,tad,tc,Et⟩ ⟨hVt,C7,hto⟩ Km (Adk _ _)):p:=h
theorem Cj{p:Prop}(h:p:=by
 refine WE.LC (P:=prog) (.inr U) results328  ?_
 exact λw' h=>⟨rfl,us,hq,h⟩):p:=h
theorem Ck{p:Prop}(h:p:=by
 refine eT1 ?_
 exact λw' h=>⟨by unfold hasB;rw[Ro W],h.frm⟩):p:=h
theorem Cn{p:Prop}(h:p:=by
 refine eT1 ?_
 exact λw' h=>⟨by unfold wiB;rw[Ro W],h.frm⟩):p:=h
theorem Co{p:Prop}(h:p:=by
 rw[<- e]
 exact λw' h=>VZ.none_ (h.sub (Aix _)) (by rw[e];decide)):p:=h
theorem Cp{p:Prop}(h:p:=by
 rw[hi,hsp xs,hsp ys,hq]
 exact⟨λh=>by rw[h],λh=>List.append_cancel_left h⟩):p:=h
theorem Cq{p:Prop}(h:p:=by
 refine eT1 ?_
 exact λw' h=>⟨_,rfl,h.frm⟩):p:=h
theorem Cr{p:Prop}(h:p:=by
 show(r.acts.length:Int)<=1
 omega):p:=h
theorem Cs{p:Prop}(h:p:=by
 refine eT1 ?_
 exact λw' h=>⟨by rw[E9 λk=>by have:=k.1;omega],h.frm⟩):p:=h

def lenOf:Value->Nat | .slice _ n _=>n|_=>0
def Rd(w:World)(b off n:Nat)(f:Nat->Int):Prop :=
 ∀i,i<n->w.cell? ⟨b,off+i,none⟩=some (.int .u8 (f i))
def Byt(f:Nat->Int):Prop:=∀i,0<=f i/\f i<=255

structure Frm(p:Nat->Prop)(w w':World):Prop where
 os:w'.os=w.os
 tape:w'.tape=w.tape
 output:w'.output=w.output
 size:w.heap.size<=w'.heap.size
 block:∀k,k<w.heap.size->¬p k->w'.heap[k]?=w.heap[k]?
 drawn:w.drawn<=w'.drawn
theorem Frm.refl(p:Nat->Prop)(w:World):Frm p w w:=⟨rfl,rfl,rfl,M2 _,λ_ _ _=>rfl,M2 _⟩
theorem Frm.drew{p:Nat->Prop}{w a:World}(h:Frm p w a):Frm p w a.drew:=⟨h.os,h.tape,h.output,h.size,h.block,AcC h.drawn (Nat.le_add_right ..)⟩
theorem Frm.trans{p:Nat->Prop}{a b c:World}(h:Frm p a b)(k:Frm p b c):Frm p a c :=
 ⟨k.os.trans h.os,k.tape.trans h.tape,k.output.trans h.output,AcC h.size k.size,λi hi f=>(k.block i (Ain hi h.size) f).trans (h.block i hi f),AcC h.drawn k.drawn⟩
theorem Frm.mono{p q:Nat->Prop}{a b:World}(h:Frm p a b)(i:∀k,p k->q k):Frm q a b:=⟨h.os,h.tape,h.output,h.size,λk hk f=>h.block k hk λg=>f (i k g),h.drawn⟩
theorem Frm.setCell{p:Nat->Prop}{w f:World}{a:Addr}{u:Value}(g:p a.block)(h:Frm p w f):Frm p w (f.setCell a u) :=
 h.trans ⟨rfl,rfl,rfl,by simp[World.setCell],λk _ i=>Below.heap_setCell _ _ _ _ λe=>i (by rw[e];exact g),M2 _⟩
theorem Frm.set1{g i:Nat}{w a:World}{u:Value}(h:Frm (λk=>k=g) w a):Frm (λk=>k=g) w (a.setCell ⟨g,i,none⟩ u):=Frm.setCell (p:=λk=>k=g) rfl h
theorem Frm.alloc{p:Nat->Prop}{w a:World}{o:Obj}(h:Frm p w a):Frm p w (a.alloc o) :=
 h.trans ⟨rfl,rfl,rfl,C9,λk hk _=>Below.heap_alloc _ _ _ W,M2 _⟩
theorem Frm.own{p q:Nat->Prop}{w g i:World}(h:Frm q w g)(a:Frm p g i)(u:∀k,p k->w.heap.size<=k):Frm q w i :=
 ⟨a.os.trans h.os,a.tape.trans h.tape,a.output.trans h.output,AcC h.size a.size,λk hk j =>
  (a.block k (Ain hk h.size) λf=>by have:=u k f;omega).trans (h.block k hk j),AcC h.drawn a.drawn⟩
theorem Frm.below{p:Nat->Prop}{w f:World}{B:Nat}(h:Frm p w f)(i:B<=w.heap.size)(g:∀k,p k->B<=k):Below B w f :=
 ⟨h.os,h.tape,h.output,h.size,λk hk=>h.block k W λa=>by have:=g k a;omega⟩
def Blk(w:World)(g:Nat)(a:Array Value)(T:TypeId):Prop:=w.heap[g]?=some (.cells a T (0,0))
def fc(s:Int):Int:=if s=0 then 0 else(s-1) % 65535+1
def two(f:Nat->Int)(i:Nat):Int:=f i*256+f (i+1)
def four(f:Nat->Int)(i:Nat):Int:=two f i*65536+two f (i+2)
def pairs(f:Nat->Int):Nat->Int|0=>0|k+1=>pairs f k+two f (2*k)
def total(f:Nat->Int)(n:Nat):Int:=pairs f (n / 2)+if n % 2=1 then f (n-1)*256 else 0
theorem run_arrayAt{P:Program}(w:World)(f e:TypeId)(m n cap:Nat)(a:Option Addr)(h:P.underlying f=some (.array m e))(g:m<=n):
 (Instr.arrayAt f (.slice a n cap)).run P w=.ok (.pointer a) w:=by
 simp[Instr.arrayAt,Rr h,E9 (Nat.not_lt.2 g)]
end Go.Proofs.YtmhahajadgkolaaGreatDoor
namespace Go.Proofs.YtmhahajadgkolaaGreatDoor
open Go

section
variable {P:Program}{ops:Array Oper}{md:Region.Mode}{C:World->Prop}

def headQ(P:Program)(md:Region.Mode)(ops:Array Oper)(C:World->Prop)(n:Nat)(L:Array Bool->Act->Prop):Nat->Array Bool->Act->Prop
 | 0,g,a=>L g a
 | f+1,g,a =>
  Region.ready md ops g≠[]/\∀i∈Region.ready md ops g,i<n/\qOp P ops C i (headQ P md ops C n L f (g.setIfInBounds i true)) a

end
end Go.Proofs.YtmhahajadgkolaaGreatDoor
namespace Go.Proofs.YtmhahajadgkolaaGreatDoor
open Go.RowKit Tryz

/-! ## The frame -/
abbrev Kn:=List (Nat×Value)
def look:Kn->Nat->Option Value
 | [],_=>none
 | (s,v)::l,t=>cond (Nat.beq s t) (some v) (look l t)

structure Has(n:Nat)(a:Act)(l:Kn):Prop where
 size:a.tmps.size=n
 defers:a.defers=[]
 got:∀t v,look l t=some v->a.tmps.getD t undef=v

def ev(l:Kn):Operand->Option Value
 | .tmp t=>look l t
 | .const v=>some v
 | .global g=>some (.pointer (some ⟨g,0,none⟩))
 | .func f=>some (.func (.func f) #[] #[])

theorem Has.ev{n:Nat}{a:Act}{l:Kn}(h:Has n a l){x:Operand}{v:Value}(i:ev l x=some v):a.eval x=v:=by
 cases x with
 | tmp t=>exact h.got t v i
 | const u=>simpa [YtmhahajadgkolaaGreatDoor.ev,Act.eval] using i
 | global g=>simpa [YtmhahajadgkolaaGreatDoor.ev,Act.eval] using i
 | func f=>simpa [YtmhahajadgkolaaGreatDoor.ev,Act.eval] using i

theorem Has.put{n d:Nat}{a:Act}{l:Kn}(h:Has n a l)(j:Nat.blt d n=true)(v:Value):Has n (a.put (some d) v) ((d,v)::l):=by
 have i:d<n:=by simpa using j
 refine⟨by simp[Act.put,h.size],h.defers,?_⟩
 intro t u f
 unfold look at f
 by_cases e:d=t
 .subst e
  simp at f
  subst f
  simp[Act.put,h.size,i]
 .have g:Nat.beq d t=false:=by
   cases g:Nat.beq d t with
   | false=>rfl
   | true=>exact absurd (NE g) e
  rw[g] at f
  have:=h.got t u f
  simp only[Act.put]
  rw[<- this]
  simp only[Ai1,Array.getElem?_setIfInBounds,E9 e]

theorem Has.GU{n:Nat}{a:Act}{l:Kn}{f:Option Nat}{d:Nat}(h:Has n a l)(g:f=some d)(i:Nat.blt d n=true)(v:Value):Has n (a.put f v) ((d,v)::l):=by
 subst g;exact h.put i v

def Sub(l a:Kn):Prop:=∀t v,look a t=some v->look l t=some v
theorem Sub.nil{l:Kn}:Sub l []:=λ_ _ h=>by simp[look] at h
theorem Sub.cons{l g:Kn}{t:Nat}{v:Value}(h:look l t=some v)(i:Sub l g):Sub l ((t,v)::g):=λs u a=>by
 unfold look at a
 cases f:Nat.beq t s
 .rw [f] at a;exact i s u a
 .rw [f] at a
  have:t=s:=by simpa using f
  subst this
  simpa using h.trans (by simpa using a)
theorem Sub.int{l a:Kn}{t:Nat}{k:IntKind}{x y:Int}(h:look l t=some (.int k x))(e:x=y)(f:Sub l a):Sub l ((t,.int k y)::a):=Sub.cons (e ▸ h) f
theorem Sub.eq{l a:Kn}{t:Nat}{u v:Value}(h:look l t=some u)(e:u=v)(f:Sub l a):Sub l ((t,v)::a):=Sub.cons (e ▸ h) f
theorem Has.sub{n:Nat}{a:Act}{l f:Kn}(h:Has n a l)(g:Sub l f):Has n a f:=⟨h.size,h.defers,λt v i=>h.got t v (g t v i)⟩

/-! ## Memory -/
inductive Ent where
 | row (g:Nat) (cs:List Value)
 | obj (g:Nat) (o:Obj)
def Ent.at:Ent->Nat | .row g _=>g | .obj g _=>g
def Row(w:World)(g:Nat)(a:List Value):Prop:=∃T lo hi,w.heap[g]?=some (.cells a.toArray T (lo,hi))/\∀i,i<a.length->¬(lo<=i/\i<hi)
def Obj.Vj:Obj->Prop | .cells .. => False|_=>True
def Ent.holds(w:World):Ent->Prop
 | .row g a=>Row w g a
 | .obj g o=>w.heap[g]?=some o/\Obj.Vj o

theorem Row.lt{w:World}{g:Nat}{a:List Value}(h:Row w g a):g<w.heap.size:=by
 obtain⟨T,lo,hi,h,_⟩:=h
 exact(AbY.1 h).1
theorem Row.cell{w:World}{g i:Nat}{cs:List Value}{v:Value}(h:Row w g cs)(a:cs[i]?=some v):w.cell? ⟨g,i,none⟩=some v:=by
 obtain⟨T,lo,hi,h,_⟩:=h
 simp[World.cell?,h,a]
theorem Row.frozen{w:World}{g i:Nat}{f:List Value}(h:Row w g f)(a:i<f.length):w.frozen? ⟨g,i,none⟩=false:=by
 obtain⟨T,lo,hi,h,j⟩:=h
 have:=j i a
 simp only[World.frozen?,h]
 simp;omega
theorem Ent.lt{w:World}{e:Ent}(h:e.holds w):e.at<w.heap.size:=by
 cases e with
 | row g a=>exact Row.lt h
 | obj g o=>exact(AbY.1 h.1).1
theorem Ent.BI{w f:World}{e:Ent}(h:e.holds w)(a:f.heap[e.at]?=w.heap[e.at]?):e.holds f:=by
 cases e with
 | row g j=>obtain⟨T,lo,hi,h,i⟩:=h;exact⟨T,lo,hi,by rw[<- h];exact a,i⟩
 | obj g o=>exact⟨by rw[<- h.1];exact a,h.2⟩

structure St(p:Nat->Prop)(w0 w:World)(L:List Ent):Prop where
 frm:Frm p w0 w
 holds:∀e∈L,e.holds w
 dist:(L.map Ent.at).Nodup
 mine:∀e∈L,p e.at\/w0.heap.size<=e.at

theorem St.start(p:Nat->Prop)(w:World):St p w w []:=⟨Frm.refl _ _,(λ_ h=>by cases h),C9,(λ_ h=>by cases h)⟩
theorem St.ext{p:Nat->Prop}{w0 w g:World}{L:List Ent}(h:St p w0 w L)(f:Frm (λ_=>False) w g):St p w0 g L :=
 ⟨h.frm.trans (f.mono λ_ h=>h.elim),λe a=>Ent.BI (h.holds e a) (f.block _ (Ent.lt (h.holds e a)) λh=>h),h.dist,h.mine⟩
theorem St.drew{p:Nat->Prop}{w0 w:World}{L:List Ent}(h:St p w0 w L):St p w0 w.drew L:=h.ext (Frm.drew (Frm.refl _ _))
theorem St.add{p:Nat->Prop}{w0 w g:World}{L:List Ent}{e:Ent}(h:St p w0 w L)(i:Frm (λ_=>False) w g)(u:w.heap.size<=e.at)(j:e.holds g):St p w0 g (e::L):=by
 refine⟨h.frm.trans (i.mono λ_ h=>h.elim),?_,?_,?_⟩
 .intro f a
  rcases Rl.1 a with rfl|a
  .exact j
  .exact (h.ext i).holds f a
 .simp only [Acu,List.nodup_cons]
  refine⟨λv=>?_,h.dist⟩
  obtain⟨f,a,q⟩:=Ab8.1 v
  have:=Ent.lt (h.holds f a)
  omega
 .intro f a
  rcases Rl.1 a with rfl|a
  .exact .inr (AcC h.frm.size u)
  .exact h.mine f a
theorem St.sub{p:Nat->Prop}{w0 w:World}{L L':List Ent}(h:St p w0 w L)(f:L'.Sublist L):St p w0 w L' :=
 ⟨h.frm,λe a=>h.holds e (f.subset a),h.dist.sublist (f.map _),λe a=>h.mine e (f.subset a)⟩
theorem St.perm{p:Nat->Prop}{w0 w:World}{L L':List Ent}(h:St p w0 w L)(f:L'.Perm L):St p w0 w L' :=
 ⟨h.frm,λe a=>h.holds e (f.subset a),(f.map Ent.at).nodup_iff.2 h.dist,λe a=>h.mine e (f.subset a)⟩
theorem St.tail{p:Nat->Prop}{w0 w:World}{e:Ent}{L:List Ent}(h:St p w0 w (e::L)):St p w0 w L:=h.sub (Adk _ _)

class At(L:List Ent)(g:Nat)(cs:outParam (List Value)):Prop where
 mem:Ent.row g cs∈L
instance {L:List Ent}{g:Nat}{a:List Value}:At (.row g a::L) g a:=⟨Fr ..⟩
instance {e:Ent}{L:List Ent}{g:Nat}{a:List Value}[h:At L g a]:At (e::L) g a:=⟨EQ _ h.mem⟩
class AtO(L:List Ent)(g:Nat)(o:outParam Obj):Prop where
 mem:Ent.obj g o∈L
instance {L:List Ent}{g:Nat}{o:Obj}:AtO (.obj g o::L) g o:=⟨Fr ..⟩
instance {e:Ent}{L:List Ent}{g:Nat}{o:Obj}[h:AtO L g o]:AtO (e::L) g o:=⟨EQ _ h.mem⟩
class Put(L:List Ent)(g:Nat)(e:Ent)(L':outParam (List Ent)):Prop where
 ok:e.at=g->∃A B e',L=A++e'::B/\L'=A++e::B/\e'.at=g
instance {L:List Ent}{g:Nat}{a:List Value}{e:Ent}:Put (.row g a::L) g e (e::L):=⟨λ_=>⟨[],L,_,rfl,rfl,rfl⟩⟩
instance {L:List Ent}{g:Nat}{o:Obj}{e:Ent}:Put (.obj g o::L) g e (e::L):=⟨λ_=>⟨[],L,_,rfl,rfl,rfl⟩⟩
instance {d:Ent}{L a:List Ent}{g:Nat}{e:Ent}[h:Put L g e a]:Put (d::L) g e (d::a) :=
 ⟨λf=>let ⟨A,B,e',h1,h2,h3⟩:=h.ok f; ⟨d::A,B,e',by rw[h1];rfl,by rw[h2];rfl,h3⟩⟩

theorem St.row{p:Nat->Prop}{w0 w:World}{L:List Ent}{g:Nat}{cs:List Value}(h:St p w0 w L)[a:At L g cs]:Row w g cs:=h.holds _ a.mem
theorem St.cell{p:Nat->Prop}{w0 w:World}{L:List Ent}{g i:Nat}{cs:List Value}{v:Value}(h:St p w0 w L)[At L g cs](a:cs[i]?=some v):w.cell? ⟨g,i,none⟩=some v:=(h.row (g:=g)).cell a
theorem St.old{p:Nat->Prop}{w0 w:World}{L:List Ent}{b i:Nat}{v:Value}(h:St p w0 w L)(g:¬p b)(f:w0.cell? ⟨b,i,none⟩=some v):w.cell? ⟨b,i,none⟩=some v:=by
 rw[World.cell?_of_block (w:=w0) (a:=⟨b,i,none⟩) (h.frm.block b (block_lt_of_cell f) g)];exact f
theorem St.put{p:Nat->Prop}{w0 w H:World}{L L':List Ent}{g:Nat}{e:Ent}(h:St p w0 w L)[hp:Put L g e L'](v:e.at=g)(G:Frm (λk=>k=g) w H)(M:e.holds H):St p w0 H L':=by
 obtain⟨A,B,u,rfl,rfl,D⟩:=hp.ok v
 have j:=h.dist
 have F:(A++e::B).map Ent.at=(A++u::B).map Ent.at:=by simp[v,D]
 have f:p g\/w0.heap.size<=g:=D ▸ h.mine u C9
 refine⟨?_,?_,by rw[F];exact j,?_⟩
 .rcases f with J|J
  .exact h.frm.trans (G.mono λk hk=>by subst hk;exact J)
  .exact Frm.own h.frm G λk hk=>by omega
 .intro x a
  by_cases i:x.at=g
  .rcases LI.1 a with a|a
   .exfalso
    simp only[Ai7,Acu,List.nodup_append] at j
    exact j.2.2 x.at (Ab5 a) u.at C9 (by rw[i,D])
   .rcases Rl.1 a with rfl|a
    .exact M
    .exfalso
     simp only[Ai7,Acu,List.nodup_append,List.nodup_cons] at j
     exact j.2.1.1 (by rw[D, <- i];exact Ab5 a)
  .have q:x∈A++u::B:=by
    rcases LI.1 a with a|a
    .exact Ha _ a
    .rcases Rl.1 a with rfl|a
     .exact absurd v i
     .exact Mu _ (EQ _ a)
   exact Ent.BI (h.holds x q) (G.block _ (Ent.lt (h.holds x q)) i)
 .intro x a
  rcases LI.1 a with a|a
  .exact h.mine x (Ha _ a)
  .rcases Rl.1 a with rfl|a
   .rw [v];exact f
   .exact h.mine x (Mu _ (EQ _ a))

theorem Row.setCell{w:World}{g i:Nat}{a:List Value}{v:Value}(h:Row w g a):Row (w.setCell ⟨g,i,none⟩ v) g (a.set i v):=by
 obtain⟨T,lo,hi,h,f⟩:=h
 refine⟨T,lo,hi,?_,by simpa using f⟩
 simp[World.setCell,Array.getElem?_modify,h]
theorem Row.new{w:World}{cs:Array Value}{T:TypeId}:Row (w.alloc (.cells cs T)) w.heap.size cs.toList :=
 ⟨T,0,0,(by rw[heap_alloc_new]),λi _ h=>by omega⟩

section
variable {P:Program}{ops:Array Oper}{Q:Exit->Act->World->Prop}{n:Nat}{p:Nat->Prop}{w0:World}{o:Oper}{rest:List Oper}{l:Kn}{L:List Ent}

def WL(P:Program)(ops:Array Oper)(Q:Exit->Act->World->Prop)(n:Nat)(p:Nat->Prop)(w0:World)(rest:List Oper)(l:Kn)(L:List Ent):Prop :=
 ∀a w,Has n a l->St p w0 w L->wpList P ops Q rest a w
def WC(P:Program)(c:Code)(Q:Exit->Act->World->Prop)(n:Nat)(p:Nat->Prop)(w0:World)(l:Kn)(L:List Ent):Prop :=
 ∀a w,Has n a l->St p w0 w L->c.wp P Q a w
def WE(Q:Exit->Act->World->Prop)(e:Exit)(n:Nat)(p:Nat->Prop)(w0:World)(l:Kn)(L:List Ent):Prop :=
 ∀a w,Has n a l->St p w0 w L->Q e a w
def WQ(P:Program)(ops:Array Oper)(K:Act->World->Prop)(n:Nat)(p:Nat->Prop)(w0:World)(rest:List Oper)(l:Kn)(L:List Ent):Prop :=
 ∀a,Has n a l->wpQuiet P ops (λw=>St p w0 w L) (λg=>∀f,St p w0 f L->K g f) rest a
def Val(P:Program)(C:World->Prop)(n:Nat)(l:Kn)(o:Oper)(v:Value):Prop:=∀a w,Has n a l->C w->(execOp a.eval o).run P w=.ok (.value v) w

theorem Yc(a:o.guard=none)(f:Nat->Option Bool):Region.wanted o f=true:=by simp[Region.wanted,a]
theorem Yd{j f:Nat}{b:Bool}{a:Act}(u:o.guard=some (j,b))(v:(ops[j]?).bind (·.dst)=some f)(q:Has n a l)(w:look l f=some (.bool b)):Region.wanted o (yielded ops a.tmps)=true:=by
 have h:=q.got f _ w
 have i:a.tmps[f]?=some (.bool b):=by
  rw[Ai1] at h
  cases g:a.tmps[f]? with
  | none=>rw[g] at h;simp[undef] at h
  | some x=>rw[g] at h;simpa using h
 simp[Region.wanted,u,yielded,v,i]
def isB(v:Value)(b:Bool):Bool:=match v with | .bool c=>c == b|_=>false
theorem N0{j f:Nat}{b:Bool}{v:Value}{a:Act}(i:o.guard=some (j,b))(q:(ops[j]?).bind (·.dst)=some f)(g:Has n a l)(u:look l f=some v)(D:isB v b=false):Region.wanted o (yielded ops a.tmps)=false:=by
 have h:=g.got f _ u
 unfold Region.wanted
 rw[i]
 simp only[yielded,q,Option.bind_some]
 rw[Ai1] at h
 cases w:a.tmps[f]? with
 | none=>simp
 | some x =>
  rw[w] at h
  simp only[Option.getD_some] at h
  subst h
  cases x<;>simp_all [isB]

def On(ops:Array Oper)(o:Oper)(l:Kn):Prop:=o.guard=none\/∃j a b,o.guard=some (j,b)/\(ops[j]?).bind (·.dst)=some a/\look l a=some (.bool b)
theorem On.none(a:o.guard=Option.none):On ops o l:=.inl a
theorem On.some{j a:Nat}{b:Bool}(f:o.guard=Option.some (j,b))(g:(ops[j]?).bind (·.dst)=Option.some a)(h:look l a=Option.some (.bool b)):On ops o l:=.inr ⟨j,a,b,f,g,h⟩
theorem On.ok{a:Act}(h:On ops o l)(g:Has n a l):Region.wanted o (yielded ops a.tmps)=true:=by
 rcases h with f|⟨j,u,b,f,i,q⟩
 .exact Yc f _
 .exact Yd f i g q

theorem Ns{a:Act}{w:World}(f:Region.wanted o (yielded ops a.tmps)=true)(h:o.wp P a w (wpList P ops Q rest) Q):wpList P ops Q (o::rest) a w:=by
 unfold wpList;rw[IR f];exact .inl h

theorem WL.nil(h:WE Q .normal n p w0 l L):WL P ops Q n p w0 [] l L:=h
theorem WL.val{d:Nat}{v:Value}(u:Val P (λw=>St p w0 w L) n l o v)(j:On ops o l)(i:o.dst=some d)(q:Nat.blt d n=true)
 (h:WL P ops Q n p w0 rest ((d,v)::l) L):WL P ops Q n p w0 (o::rest) l L:=by
 intro a w f g
 refine Ns (j.ok f) ?_
 unfold Oper.wp
 rw[u a w f g]
 exact h _ _ (f.GU i q v) g
theorem WL.skip{j f d:Nat}{b:Bool}{v:Value}(hg:o.guard=some (j,b))(hj:(ops[j]?).bind (·.dst)=some f)(hl:look l f=some v)(hv:isB v b=false)(i:o.dst=some d)(q:Nat.blt d n=true)
 (h:WL P ops Q n p w0 rest ((d,undef)::l) L):WL P ops Q n p w0 (o::rest) l L:=by
 intro a w ha g
 unfold wpList
 rw[E9 Fl]
 exact h _ _ (ha.GU i q _) g
theorem WL.op{d:Nat}(F:On ops o l)(D:o.dst=some d)(G:Nat.blt d n=true)
 (h:∀a w,Has n a l->St p w0 w L->∃v j f,(execOp a.eval o).run P w=.ok (.value v) j/\St p w0 j f/\WL P ops Q n p w0 rest ((d,v)::l) f):WL P ops Q n p w0 (o::rest) l L:=by
 intro a w i u
 refine Ns (F.ok i) ?_
 obtain⟨v,j,f,H,g,q⟩:=h a w i u
 unfold Oper.wp
 rw[H]
 exact q _ _ (i.GU D G v) g
theorem WL.act(G:On ops o l)(D:o.dst=none)
 (h:∀a w,Has n a l->St p w0 w L->∃j q,((execOp a.eval o).run P w=.ok .skip j\/∃v,(execOp a.eval o).run P w=.ok (.value v) j)/\St p w0 j q/\WL P ops Q n p w0 rest l q):WL P ops Q n p w0 (o::rest) l L:=by
 intro a w g F
 refine Ns (G.ok g) ?_
 obtain⟨j,q,i,f,u⟩:=h a w g F
 unfold Oper.wp
 rcases i with i|⟨v,i⟩<;>rw[i]
 .exact u _ _ (by rw[D];exact g) f
 .exact u _ _ (by rw[D];exact g) f

theorem WQ.nil(h:WE Q .normal n p w0 l L):WQ P ops (Q .normal) n p w0 [] l L:=λa g w f=>h a w g f
theorem WQ.val{K:Act->World->Prop}{d:Nat}{v:Value}(u:Val P (λw=>St p w0 w L) n l o v)(j:On ops o l)(i:o.dst=some d)(q:Nat.blt d n=true)
 (h:WQ P ops K n p w0 rest ((d,v)::l) L):WQ P ops K n p w0 (o::rest) l L:=by
 intro a f
 unfold wpQuiet
 rw[IR (j.ok f)]
 refine⟨v,λw g=>?_,h _ (f.GU i q v)⟩
 unfold Oper.quietAt
 rw[u a w f g]
 exact⟨rfl,rfl⟩
theorem WQ.skip{K:Act->World->Prop}{j f d:Nat}{b:Bool}{v:Value}(hg:o.guard=some (j,b))(hj:(ops[j]?).bind (·.dst)=some f)(hl:look l f=some v)(hv:isB v b=false)(g:o.dst=some d)(i:Nat.blt d n=true)
 (h:WQ P ops K n p w0 rest ((d,undef)::l) L):WQ P ops K n p w0 (o::rest) l L:=by
 intro a ha
 unfold wpQuiet
 rw[E9 Fl]
 exact h _ (ha.GU g i _)

/-! ### Calls -/
def FJ(P:Program)(f:FuncId):Prop:=∀(a:Array Value) (w:World),(callFunc f a).run P w=.ok (.enter f a) w
theorem Tt{f:FuncId}{fn:Func}{c:Code}(j:P.funcs[f]?=some fn)(a:(fn.name == "runtime.NumGoroutine")=false)(i:fn.body=some c):FJ P f:=λh w=>by
 unfold callFunc
 have g:¬fn.name = "runtime.NumGoroutine" := by simpa using a
 simp[program,Sem.run,j,g,i]
def evs(l:Kn):List Operand->Option (List Value)
 | []=>some []
 | x::xs=>match ev l x,evs l xs with|some v,some a=>some (v::a)|_,_=>none
theorem Has.evs{a:Act}(h:Has n a l):∀ {xs:List Operand}{g:List Value},evs l xs=some g->xs.map a.eval=g
 | [],g,f=>by simpa [YtmhahajadgkolaaGreatDoor.evs] using f
 | x::xs,g,f=>by
  unfold YtmhahajadgkolaaGreatDoor.evs at f
  split at f
  .rename_i v q i j
   simp only[Ahe] at f
   subst f
   simp[h.ev i,h.evs j]
  .cases f
theorem Sw{a:Act}{f:FuncId}{x:Operand}{xs:List Operand}{H:Array TypeId}{q:List Value}{i cap:Array Value}{w:World}(F:o.op=.call { callee:=.value x,args:=xs.toArray,argTypes:=H })
 (h:ev l x=some (.func (.func f) i cap)) (G:evs l xs=some q) (D:FJ P f) (j:Has n a l) :
 (execOp a.eval o).run P w=.ok (.enter f (i++q.toArray++cap)) w:=by
 have u:=j.ev h
 have v:=j.evs G
 unfold execOp
 have g:=λargs=>D args w
 simp[F,resolve,u,Deferred.ofValue,invoke,g, <- v]

theorem WL.FQ{f:FuncId}{x:Operand}{xs:List Operand}{X:Array TypeId}{D:List Value}{u cap:Array Value}{d:Nat}(S:o.op=.call { callee:=.value x,args:=xs.toArray,argTypes:=X })
 (q:ev l x=some (.func (.func f) u cap)) (T:evs l xs=some D) (M:FJ P f) (N:On ops o l) (J:o.dst=some d) (O:Nat.blt d n=true)
 (h:∀w,St p w0 w L->Calls P f (u++D.toArray++cap) w λe F=>∃v g,e=.returned v/\St p w0 F g/\WL P ops Q n p w0 rest ((d,v)::l) g):WL P ops Q n p w0 (o::rest) l L:=by
 intro a w j H
 refine Ns (N.ok j) ?_
 unfold Oper.wp
 rw[Sw S q T M j]
 refine(h w H).mono ?_
 rintro e F ⟨v,g,rfl,i,G⟩
 exact G _ _ (j.GU J O v) i
theorem WL.call{f:FuncId}{xs:List Operand}{H:Array TypeId}{g:List Value}{d:Nat}(F:o.op=.call { callee:=.value (.func f),args:=xs.toArray,argTypes:=H })
 (G:evs l xs=some g) (q:FJ P f) (u:On ops o l) (j:o.dst=some d) (D:Nat.blt d n=true)
 (h:∀w,St p w0 w L->Calls P f g.toArray w λe J=>∃v a,e=.returned v/\St p w0 J a/\WL P ops Q n p w0 rest ((d,v)::l) a):WL P ops Q n p w0 (o::rest) l L :=
 WL.FQ (l:=l) F U G q u j D λw i=>by simpa using h w i
theorem WQ.FQ{K:Act->World->Prop}{f:FuncId}{x:Operand}{xs:List Operand}{O:Array TypeId}{q:List Value}{j cap:Array Value}{d:Nat}(v:Value)(M:o.op=.call { callee:=.value x,args:=xs.toArray,argTypes:=O })
 (i:ev l x=some (.func (.func f) j cap)) (N:evs l xs=some q) (G:FJ P f) (H:On ops o l) (F:o.dst=some d) (J:Nat.blt d n=true)
 (D:∀w,St p w0 w L->Calls P f (j++q.toArray++cap) w λe S=>e=.returned v/\St p w0 S L) (h:WQ P ops K n p w0 rest ((d,v)::l) L):WQ P ops K n p w0 (o::rest) l L:=by
 intro a g
 unfold wpQuiet
 rw[IR (H.ok g)]
 refine⟨v,λw u=>?_,h _ (g.GU F J v)⟩
 unfold Oper.quietAt
 rw[Sw M i N G g]
 exact⟨rfl,D w u⟩
theorem WQ.call{K:Act->World->Prop}{f:FuncId}{xs:List Operand}{H:Array TypeId}{a:List Value}{d:Nat}(v:Value)(F:o.op=.call { callee:=.value (.func f),args:=xs.toArray,argTypes:=H })
 (G:evs l xs=some a) (q:FJ P f) (u:On ops o l) (j:o.dst=some d) (D:Nat.blt d n=true)
 (i:∀w,St p w0 w L->Calls P f a.toArray w λe J=>e=.returned v/\St p w0 J L) (h:WQ P ops K n p w0 rest ((d,v)::l) L):WQ P ops K n p w0 (o::rest) l L :=
 WQ.FQ (l:=l) v F U G q u j D (λw g=>by simpa using i w g) h
theorem Calls.still{f:FuncId}{a:Array Value}{w:World}{v:Value}(h:Calls P f a w λe g=>e=.returned v/\Frm (λ_=>False) w g)(i:St p w0 w L):
 Calls P f a w λe g=>e=.returned v/\St p w0 g L:=h.mono λ_ _ ⟨j,q⟩=>⟨j,i.ext q⟩
theorem Calls.then{f:FuncId}{a:Array Value}{w:World}{v:Value}{d:Nat}(h:Calls P f a w λe g=>e=.returned v/\Frm (λ_=>False) w g)(q:St p w0 w L)(j:WL P ops Q n p w0 rest ((d,v)::l) L):
 Calls P f a w λe g=>∃v i,e=.returned v/\St p w0 g i/\WL P ops Q n p w0 rest ((d,v)::l) i:=h.mono λ_ _ ⟨u,D⟩=>⟨v,L,u,q.ext D,j⟩

/-! ### Regions -/
theorem WC.region{id:Nat}{f:List Oper}(h:WL P f.toArray Q n p w0 f l L):WC P (.region id f.toArray false) Q n p w0 l L:=λa w i g=>wp_region_lit (h a w i g)
theorem WC.quiet{id:Nat}{f:List Oper}(q:P.follows .mixedOrders=true)(g:Region.lexB .any f.toArray=true)(h:WQ P f.toArray (Q .normal) n p w0 f l L):WC P (.region id f.toArray true) Q n p w0 l L :=
 λa _ j i=>wp_region_quiet (C:=λw=>St p w0 w L) q g i.drew (h a j)

/-! ### Codes -/
theorem WC.seq{x y:Code}(h:WC P x (Exit.then (y.wp P Q) Q) n p w0 l L):WC P (.seq x y) Q n p w0 l L:=λa w g f=>wp_seq (h a w g f)
theorem WE.Zz{y:Code}(h:WC P y Q n p w0 l L):WE (Exit.then (y.wp P Q) Q) .normal n p w0 l L:=h
theorem WE.XY{K:Act->World->Prop}(h:WE Q .ret n p w0 l L):WE (Exit.then K Q) .ret n p w0 l L:=h
theorem WE.Uk{K:Act->World->Prop}{id:Nat}(h:WE Q (.exit id) n p w0 l L):WE (Exit.then K Q) (.exit id) n p w0 l L:=h
theorem WC.RC{c:Operand}{x y:Code}(i:ev l c=some (.bool true))(h:WC P x Q n p w0 l L):WC P (.cond c x y) Q n p w0 l L:=λa w f g=>wp_cond_true (f.ev i) (h a w f g)
theorem WC.RA{c:Operand}{x y:Code}(i:ev l c=some (.bool false))(h:WC P y Q n p w0 l L):WC P (.cond c x y) Q n p w0 l L:=λa w f g=>wp_cond_false (f.ev i) (h a w f g)
theorem WC.Le{c:Operand}{x y:Code}{q:Prop}[Decidable q](f:ev l c=some (.bool (decide q)))(h:q->WC P x Q n p w0 l L)(g:¬q->WC P y Q n p w0 l L):WC P (.cond c x y) Q n p w0 l L:=by
 by_cases a:q
 .exact WC.RC (by rw[f];simp[a]) (h a)
 .exact WC.RA (by rw[f];simp[a]) (g a)
theorem WC.YF{c:Operand}{x y:Code}{b:Bool}(a:ev l c=some (.bool b))(g:b=true->WC P x Q n p w0 l L)(f:b=false->WC P y Q n p w0 l L):WC P (.cond c x y) Q n p w0 l L:=by
 cases b
 .exact WC.RA a (f U)
 .exact WC.RC a (g U)
theorem WC.skip(h:WE Q .normal n p w0 l L):WC P .skip Q n p w0 l L:=λa w g f=>wp_skip (h a w g f)
theorem WC.label{i:Nat}(h:WE Q .normal n p w0 l L):WC P (.label i) Q n p w0 l L:=λa w g f=>wp_label (h a w g f)
theorem WC.exit{i:Nat}(h:WE Q (.exit i) n p w0 l L):WC P (.exit i) Q n p w0 l L:=λa w g f=>wp_exit (h a w g f)
theorem WC.ret(h:WE Q .ret n p w0 l L):WC P .ret Q n p w0 l L:=λa w g f=>wp_ret (h a w g f)
theorem WC.block{i:Nat}{c:Code}(h:WC P c (Exit.inBlock i Q) n p w0 l L):WC P (.block i c) Q n p w0 l L:=λa w g f=>wp_block (h a w g f)
theorem WE.Aai{i:Nat}(h:WE Q .normal n p w0 l L):WE (Exit.inBlock i Q) .normal n p w0 l L:=h
theorem WE.Ts{i:Nat}(h:WE Q .ret n p w0 l L):WE (Exit.inBlock i Q) .ret n p w0 l L:=h
theorem WE.Pl{i:Nat}(h:WE Q .normal n p w0 l L):WE (Exit.inBlock i Q) (.exit i) n p w0 l L:=λa w g f=>by
 unfold Exit.inBlock;simp only[if_true];exact h a w g f
theorem WE.FI{i j:Nat}(f:Nat.beq j i=false)(h:WE Q (.exit j) n p w0 l L):WE (Exit.inBlock i Q) (.exit j) n p w0 l L:=λa w q g=>by
 unfold Exit.inBlock;simp only;rw[E9 (by intro e;subst e;simp at f)];exact h a w q g
def Mid{g:Type}(j:g->Kn)(h:g->List Ent)(f:g->Prop)(n:Nat)(p:Nat->Prop)(w0:World)(a:Act)(w:World):Prop:=∃i,f i/\Has n a (j i)/\St p w0 w (h i)
theorem WC.cut{g:Type}(u:g->Kn)(j:g->List Ent)(f:g->Prop){x y:Code}(h:WC P x (Exit.then (Mid u j f n p w0) Q) n p w0 l L)
 (H:∀i,f i->WC P y Q n p w0 (u i) (j i)):WC P (.seq x y) Q n p w0 l L:=λa w G D=>wp_seq (wp_mono (h a w G D) (λe J M q=>by
  cases e with
  | normal=>obtain⟨i,hi,v,F⟩:=q;exact H i hi _ _ v F
  | _=>exact q))
theorem WE.mid{f:Type}{h:f->Kn}{g:f->List Ent}{a:f->Prop}(i:f)(hi:a i)(v:Sub l (h i))(j:(g i).Sublist L):WE (Exit.then (Mid h g a n p w0) Q) .normal n p w0 l L :=
 λ_ _ u q=>⟨i,hi,u.sub v,q.sub j⟩
def Next{g:Type}(j:g->Kn)(h:g->List Ent)(f:g->Prop)(m:g->Nat)(k:Nat)(n:Nat)(p:Nat->Prop)(w0:World)(a:Act)(w:World):Prop:=∃i,m i<k/\f i/\Has n a (j i)/\St p w0 w (h i)
theorem WC.loop{q:Type}(v:q->Kn)(u:q->List Ent)(f:q->Prop)(m:q->Nat){c:Code}(h:q)(H:f h)(T:Sub l (v h))(M:(u h).Sublist L)
 (g:∀i,f i->WC P c (Exit.then (Next v u f m (m i) n p w0) Q) n p w0 (v i) (u i)):WC P (.loop c) Q n p w0 l L:=by
 intro a w F D
 refine wp_loop_ghost (λk a w=>∃i,m i=k/\f i/\Has n a (v i)/\St p w0 w (u i)) (m h) ⟨h,rfl,H,F.sub T,D.sub M⟩ ?_
 rintro k a w ⟨i,rfl,hi,F,D⟩
 refine wp_mono (g i hi a w F D)<|λe X Z G=>?_
 cases e with
 | normal=>obtain⟨j,S,O,J,N⟩:=G;exact⟨m j,S,j,rfl,O,J,N⟩
 | _=>exact G
theorem WE.next{f:Type}{h:f->Kn}{g:f->List Ent}{a:f->Prop}{m:f->Nat}{k:Nat}(i:f)(w:m i<k)(hi:a i)(v:Sub l (h i))(j:(g i).Sublist L):WE (Exit.then (Next h g a m k n p w0) Q) .normal n p w0 l L :=
 λ_ _ u q=>⟨i,w,hi,u.sub v,q.sub j⟩

/-! ### Entry and end -/
def Kl:Nat->List Value->Kn
 | _,[]=>[]
 | k,v::a=>(k,v)::Kl (k+1) a
theorem Tn:∀(a:List Value) (k t:Nat) (v:Value),look (Kl k a) t=some v->k<=t/\a[t-k]?=some v
 | [],k,t,v,h=>by simp[Kl,look] at h
 | u::a,k,t,v,h=>by
  simp only[Kl,look] at h
  cases f:Nat.beq k t
  .rw [f] at h
   have:=Tn a (k+1) t v h
   refine⟨W,?_⟩
   rw[show t-k=(t-(k+1))+1 by omega]
   simpa using this.2
  .rw [f] at h
   have:k=t:=NE f
   subst this
   simpa using h
theorem enter{f:FuncId}{fn:Func}{c:Code}{a:List Value}{w:World}{R:Ending->World->Prop}(u:P.funcs[f]?=some fn)(q:fn.body=some c)(D:fn.ntmps=n)(i:Nat.ble a.length n=true)
 (j:St p w0 w L) (h:WC P c (bodyPost P fn R) n p w0 (Kl 0 a) L):Calls P f a.toArray w R:=by
 refine calls_of_wp u q (h _ _ ⟨?_,rfl,?_⟩ j)
 .have:=Ai6 i
  simp[D];omega
 .intro t v F
  have g:=(Tn a 0 t v F).2
  simp only[Nat.sub_zero] at g
  simp only[Ai1]
  rw[Array.getElem?_append_left (by have:=(Eu.1 g).1;simpa using this)]
  simp[g]

def HT(P:Program)(C:World->Prop)(l:Kn)(r:ResultVar)(v:Value):Prop:=match r with
 | .tmp t=>look l t=some v
 | .cell t f=>∃a,look l t=some (.pointer (some a))/\∀w,C w->(loadVar f a).run P w=.ok v w
def Zl(_:Program)(f:Array Value):ResultVar->Sem Value
 | .tmp t=>pure (f.getD t undef)
 | .cell a t=>do loadVar t (<- asAddr (f.getD a undef))
theorem HT.run{C:World->Prop}{r:ResultVar}{v:Value}{a:Act}{w:World}(h:HT P C l r v)(f:Has n a l)(j:C w):(Zl P a.tmps r).run P w=.ok v w:=by
 cases r with
 | tmp t=>show(pure (a.tmps.getD t undef):Sem Value).run P w=_;rw[f.got t v h];rfl
 | cell t q =>
  obtain⟨ad,g,i⟩:=h
  show(do loadVar q (<- asAddr (a.tmps.getD t undef)):Sem Value).run P w=_
  rw[f.got t _ g]
  simp[asAddr,i w j]
theorem H8(fn:Func)(a:Array Value):results fn a=(do let vs <- fn.results.mapM (Zl P a);pure (if h:vs.size=1 then vs[0] else .tuple vs)):=by
 unfold results
 congr 1
variable {fn:Func}{R:Ending->World->Prop}{e:Exit}
theorem WE.fin(j:e=.ret\/e=.normal){v:Value}(i:∀a w,Has n a l->St p w0 w L->(results fn a.tmps).run P w=.ok v w)(h:∀w,St p w0 w L->R (.returned v) w):WE (bodyPost P fn R) e n p w0 l L:=by
 intro a w g f
 rcases j with rfl|rfl
 .exact ⟨g.defers,v,i a w g f,h w f⟩
 .exact ⟨g.defers,v,i a w g f,h w f⟩
theorem WE.LC(f:e=.ret\/e=.normal)(g:fn.results = #[])(h:∀w,St p w0 w L->R (.returned (.tuple #[])) w):WE (bodyPost P fn R) e n p w0 l L :=
 WE.fin f (λa w j i=>by rw[H8 (P:=P),g];simp) h
theorem WE.ret1(u:e=.ret\/e=.normal){f:ResultVar}{g:Value}(v:fn.results = #[f])(i:HT P (λw=>St p w0 w L) l f g)(h:∀w,St p w0 w L->R (.returned g) w):WE (bodyPost P fn R) e n p w0 l L :=
 WE.fin u (λa w q j=>by rw[H8 (P:=P),v];simp[i.run q j]) h
theorem WE.ret2(F:e=.ret\/e=.normal){i j:ResultVar}{q u:Value}(G:fn.results = #[i,j])(v:HT P (λw=>St p w0 w L) l i q)(D:HT P (λw=>St p w0 w L) l j u)
 (h:∀w,St p w0 w L->R (.returned (.tuple #[q,u])) w):WE (bodyPost P fn R) e n p w0 l L :=
 WE.fin F (λa w g f=>by rw[H8 (P:=P),G];simp[v.run g f,D.run g f]) h
theorem WE.ret3(J:e=.ret\/e=.normal){i j q:ResultVar}{u v D:Value}(M:fn.results = #[i,j,q])(F:HT P (λw=>St p w0 w L) l i u)(G:HT P (λw=>St p w0 w L) l j v)(H:HT P (λw=>St p w0 w L) l q D)
 (h:∀w,St p w0 w L->R (.returned (.tuple #[u,v,D])) w):WE (bodyPost P fn R) e n p w0 l L :=
 WE.fin J (λa w g f=>by rw[H8 (P:=P),M];simp[F.run g f,G.run g f,H.run g f]) h
end
section
variable {P:Program}{ops:Array Oper}{Q:Exit->Act->World->Prop}{n:Nat}{p:Nat->Prop}{w0:World}{o:Oper}{rest:List Oper}{l:Kn}{L:List Ent}
theorem WL.v{d:Nat}{v:Value}(a:Val P (λw=>St p w0 w L) n l o v)(e:(o.guard,o.dst,Nat.blt d n)=(none,some d,true))(h:WL P ops Q n p w0 rest ((d,v)::l) L):WL P ops Q n p w0 (o::rest) l L:=WL.val a (.none (If Prod.fst e)) (If (λx=>x.2.1) e) (If (λx=>x.2.2) e) h
theorem WL.nt{y:Code}(h:WC P y Q n p w0 l L):WL P ops (Exit.then (y.wp P Q) Q) n p w0 [] l L:=WL.nil (WE.Zz h)
theorem WL.sk{j a d:Nat}{b:Bool}{v:Value}(e:(o.guard,(ops[j]?).bind (·.dst),look l a,isB v b,o.dst,Nat.blt d n)=(some (j,b),some a,some v,false,some d,true))(h:WL P ops Q n p w0 rest ((d,undef)::l) L):WL P ops Q n p w0 (o::rest) l L:=WL.skip (If Prod.fst e) (If (λx=>x.2.1) e) (If (λx=>x.2.2.1) e) (If (λx=>x.2.2.2.1) e) (If (λx=>x.2.2.2.2.1) e) (If (λx=>x.2.2.2.2.2) e) h
end

section
variable {P:Program}{C:World->Prop}{ops:Array Oper}{Q:Exit->Act->World->Prop}{n:Nat}{p:Nat->Prop}{w0:World}{o:Oper}{rest:List Oper}{l:Kn}{L:List Ent}

/-! ### Types: closed facts -/
def One(P:Program)(t:TypeId):Prop:=(∃d,P.underlying t=some d/\d.isRow=false)/\(P.info? t).map (·.size)=some 1
def FU(P:Program)(t:TypeId)(m:Nat):Prop:=(∃d,P.underlying t=some d/\d.isRow=true)/\(P.info? t).map (·.size)=some m
def AF(P:Program)(s i k g:Nat):Prop:=∃a f m,P.underlying s=some (.struct a)/\a[i]?=some f/\f.offset=k/\f.type=g/\(P.info? g).map (·.size)=some (m+1)
theorem AF.mk{s i k g m:Nat}{a:Array Field}{f:Field}(u:P.underlying s=some (.struct a))(h:a[i]?=some f)(hk:f.offset=k)(q:f.type=g)(j:(P.info? g).map (·.size)=some (m+1)):AF P s i k g:=⟨a,f,m,u,h,hk,q,j⟩
def Zero(P:Program)(t:TypeId)(zs:List Value):Prop:=∃z,(P.info? t).bind (·.zero)=some z/\z.cells.toList=zs
theorem Zero.mk{t:TypeId}{zs:List Value}{z:Value}(h:(P.info? t).bind (·.zero)=some z)(a:z.cells.toList=zs):Zero P t zs:=⟨z,h,a⟩
theorem One.mk{t:TypeId}{d:TypeDesc}(g:P.underlying t=some d)(a:d.isRow=false)(f:(P.info? t).map (·.size)=some 1):One P t:=⟨⟨d,g,a⟩,f⟩
theorem FU.mk{t m:Nat}{d:TypeDesc}(g:P.underlying t=some d)(a:d.isRow=true)(f:(P.info? t).map (·.size)=some m):FU P t m:=⟨⟨d,g,a⟩,f⟩

theorem run_sizeOf{t m:Nat}(f:(P.info? t).map (·.size)=some m)(w:World):(sizeOf t).run P w=.ok m w:=by
 cases a:P.info? t with
 | none=>simp[a] at f
 | some i=>simp[a] at f;simp[sizeOf,typeInfo,a,f]
theorem One.agg{t:TypeId}(h:One P t)(w:World):(isAgg t).run P w=.ok false w:=by
 obtain⟨⟨d,a,f⟩,_⟩:=h
 unfold isAgg
 rw[Ah5,Rr a w]
 cases d<;>simp_all
theorem FU.agg{t m:Nat}(h:FU P t m)(w:World):(isAgg t).run P w=.ok true w:=by
 obtain⟨⟨d,a,f⟩,_⟩:=h
 unfold isAgg
 rw[Ah5,Rr a w]
 cases d<;>simp_all
theorem CE{t:TypeId}{z:Value}(h:(P.info? t).bind (·.zero)=some z)(w:World):(zeroValue t).run P w=.ok z w:=by
 cases a:P.info? t with
 | none=>simp[a] at h
 | some i=>simp[a] at h;simp[zeroValue,typeInfo,a,h]

/-! ### Moves -/
theorem DG{x:Operand}{v:Value}(g:o.op=.move x)(h:ev l x=some v):Val P C n l o v:=λa w f _=>by unfold execOp;simp[g,f.ev h]
theorem MG{x:Operand}{v:Value}(g:o.op=.assign x)(h:ev l x=some v):Val P C n l o v:=λa w f _=>by unfold execOp;simp[g,f.ev h]
theorem Ya{c x y:Operand}{v:Value}(j:o.op=.pick c x y)(i:ev l c=some (.bool true))(q:ev l x=some v):Val P C n l o v:=λa w f _=>by
 have g:=f.ev i;have h:=f.ev q
 unfold execOp;simp[j,g,h,asBool]
theorem X9{c x y:Operand}{v:Value}(j:o.op=.pick c x y)(i:ev l c=some (.bool false))(q:ev l y=some v):Val P C n l o v:=λa w f _=>by
 have g:=f.ev i;have h:=f.ev q
 unfold execOp;simp[j,g,h,asBool]
theorem CB{x:Operand}{i:Nat}{f:List Value}{v:Value}(j:o.op=.extract x i)(u:ev l x=some (.tuple f.toArray))(q:f[i]?=some v):Val P C n l o v:=λa w h _=>by
 have g:=h.ev u
 unfold execOp;simp[j,g,Instr.extract,q]
theorem GP{x:Operand}{ad:Addr}(h:o.op=.nilCheck x)(i:ev l x=some (.pointer (some ad))):Val P C n l o (.pointer (some ad)):=λa w g _=>by
 have f:=g.ev i
 unfold execOp;simp[h,f]
theorem Abt{t:TypeId}{x:Operand}{b c:Bool}(i:o.op=.unOp .not t x)(j:ev l x=some (.bool b))(h:(!b)=c):Val P C n l o (.bool c):=λa w g _=>by
 have f:=g.ev j
 subst h
 unfold execOp;simp[i,f,Op.unary]
theorem Af4{t:TypeId}{x:Operand}{q:Prop}[Decidable q](a:o.op=.unOp .not t x)(f:ev l x=some (.bool (decide q))):Val P C n l o (.bool (decide (¬q))):=Abt a f C9
/-! ### Numbers -/
section
variable {t yt:TypeId}{x y:Operand}{k:IntKind}{A B r:Int}
theorem FE{f:BinOp}{a:Act}{w:World}(i:o.op=.binOp f t x y yt)(g:a.eval x=.int k A)(h:a.eval y=.int k B):
 (execOp a.eval o).run P w=((binOp f t (.int k A) (.int k B)).run P w).andThen (λv j=>.ok (.value v) j):=by
 unfold execOp
 simp only[i,g,h,eqGuard]
 split<;>simp[Result.andThen]<;>cases (binOp f t (.int k A) (.int k B)).run P w<;>rfl
theorem EW(g:o.op=.binOp .add t x y yt)(i:ev l x=some (.int k A))(j:ev l y=some (.int k B))(h:k.wrap (A+B)=r):Val P C n l o (.int k r):=λa w f _=>by
 rw[FE g (f.ev i) (f.ev j), <- h];simp[binOp,Op.intArith,Result.andThen]
theorem GD(g:o.op=.binOp .sub t x y yt)(i:ev l x=some (.int k A))(j:ev l y=some (.int k B))(h:k.wrap (A-B)=r):Val P C n l o (.int k r):=λa w f _=>by
 rw[FE g (f.ev i) (f.ev j), <- h];simp[binOp,Op.intArith,Result.andThen]
theorem SL(g:o.op=.binOp .mul t x y yt)(i:ev l x=some (.int k A))(j:ev l y=some (.int k B))(h:k.wrap (A*B)=r):Val P C n l o (.int k r):=λa w f _=>by
 rw[FE g (f.ev i) (f.ev j), <- h];simp[binOp,Op.intArith,Result.andThen]
theorem v_rem(i:o.op=.binOp .rem t x y yt)(j:ev l x=some (.int k A))(q:ev l y=some (.int k B))(g:0<=A)(u:0<B):Val P C n l o (.int k (A % B)):=λa w f _=>by
 have h:¬B=0:=W
 rw[FE i (f.ev j) (f.ev q)];simp[binOp,Op.intDiv,h,Result.andThen,Int.tmod_eq_emod_of_nonneg g]
theorem HX(g:o.op=.binOp .and t x y yt)(i:ev l x=some (.int k A))(j:ev l y=some (.int k B))(h:bits .and k A B=r):Val P C n l o (.int k r):=λa w f _=>by
 rw[FE g (f.ev i) (f.ev j), <- h];simp[binOp,intBits_and,Result.andThen]
theorem S9(g:o.op=.binOp .or t x y yt)(i:ev l x=some (.int k A))(j:ev l y=some (.int k B))(h:bits .or k A B=r):Val P C n l o (.int k r):=λa w f _=>by
 rw[FE g (f.ev i) (f.ev j), <- h];simp[binOp,intBits_or,Result.andThen]
theorem v_xor(g:o.op=.binOp .xor t x y yt)(i:ev l x=some (.int k A))(j:ev l y=some (.int k B))(h:bits .xor k A B=r):Val P C n l o (.int k r):=λa w f _=>by
 rw[FE g (f.ev i) (f.ev j), <- h];simp[binOp,intBits_xor,Result.andThen]
theorem HO(g:o.op=.binOp .andNot t x y yt)(i:ev l x=some (.int k A))(j:ev l y=some (.int k B))(h:bits .andNot k A B=r):Val P C n l o (.int k r):=λa w f _=>by
 rw[FE g (f.ev i) (f.ev j), <- h];simp[binOp,intBits_andNot,Result.andThen]
theorem JF(g:o.op=.binOp .lss t x y yt)(h:ev l x=some (.int k A))(i:ev l y=some (.int k B)):Val P C n l o (.bool (decide (A<B))):=λa w f _=>by
 rw[FE g (f.ev h) (f.ev i)];simp[binOp,Op.intCmp,Result.andThen]
theorem v_leq(g:o.op=.binOp .leq t x y yt)(h:ev l x=some (.int k A))(i:ev l y=some (.int k B)):Val P C n l o (.bool (decide (A<=B))):=λa w f _=>by
 rw[FE g (f.ev h) (f.ev i)];simp[binOp,Op.intCmp,Result.andThen]
theorem Abr(g:o.op=.binOp .gtr t x y yt)(h:ev l x=some (.int k A))(i:ev l y=some (.int k B)):Val P C n l o (.bool (decide (B<A))):=λa w f _=>by
 rw[FE g (f.ev h) (f.ev i)];simp[binOp,Op.intCmp,Result.andThen]
theorem SK(g:o.op=.binOp .geq t x y yt)(h:ev l x=some (.int k A))(i:ev l y=some (.int k B)):Val P C n l o (.bool (decide (B<=A))):=λa w f _=>by
 rw[FE g (f.ev h) (f.ev i)];simp[binOp,Op.intCmp,Result.andThen]
theorem Ae(g:o.op=.binOp .eql t x y yt)(h:ev l x=some (.int k A))(i:ev l y=some (.int k B)):Val P C n l o (.bool (decide (A=B))):=λa w f _=>by
 rw[FE g (f.ev h) (f.ev i)];simp[binOp,Op.intCmp,Result.andThen];rfl
theorem Gs(g:o.op=.binOp .neq t x y yt)(h:ev l x=some (.int k A))(i:ev l y=some (.int k B)):Val P C n l o (.bool (decide (A≠B))):=λa w f _=>by
 rw[FE g (f.ev h) (f.ev i)];simp[binOp,Op.intCmp,Result.andThen,bne];rfl
theorem Ud{f:BinOp}{h:IntKind}{a:Act}{w:World}(g:f=.shl\/f=.shr)(q:o.op=.binOp f t x y yt)(i:a.eval x=.int k A)(j:a.eval y=.int h B):
 (execOp a.eval o).run P w=((Op.shift f k A h B).run P w).andThen (λv u=>.ok (.value v) u):=by
 unfold execOp
 rcases g with rfl|rfl <;>
 (simp only[q,i,j,eqGuard,binOp]
  simp[Result.andThen])
theorem IP{g:IntKind}{m:Nat}{c:Int}(u:o.op=.binOp .shr t x y yt)(v:ev l x=some (.int k A))(D:ev l y=some (.int g B))(q:B=(m:Int))(j:m<=k.bits)(i:(2:Int)^m=c):Val P C n l o (.int k (A / c)):=λa w f _=>by
 subst q i
 rw[Ud (.inr U) u (f.ev v) (f.ev D),shift_shr k g A m W W];simp[Result.andThen]
theorem ND{g:IntKind}{m:Nat}{c:Int}(u:o.op=.binOp .shl t x y yt)(D:ev l x=some (.int k A))(F:ev l y=some (.int g B))(q:B=(m:Int))(j:m<=k.bits)(i:(2:Int)^m=c)(v:k.wrap (A*c)=r):Val P C n l o (.int k r):=λa w f _=>by
 subst q i v
 rw[Ud (.inl U) u (f.ev D) (f.ev F),shift_shl k g A m W W];simp[Result.andThen]
theorem FA{s f:TypeId}{F:IntKind}(q:o.op=.convert s f x)(D:ev l x=some (.int F A))(j:P.underlying f=some (.int k)){g:TypeDesc}(v:P.underlying s=some g)(u:k.wrap A=r):Val P C n l o (.int k r):=λa w i _=>by
 have h:=i.ev D
 subst u
 unfold execOp
 simp[q,h,convert,Rr j,Rr v,Conv.intToInt]
end
theorem DK{z:Int}(h : -9223372036854775808<=z)(a:z<=9223372036854775807):IntKind.i64.wrap z=z:=by rw[IntKind.wrap_i64];omega
theorem LU{z:Int}(h:0<=z)(a:z<=18446744073709551615):IntKind.u64.wrap z=z:=by rw[IntKind.wrap_u64];omega
theorem w_u8m(z:Int):IntKind.u8.wrap z=z % 256:=IntKind.wrap_u8' z
theorem dT{q:Prop}[Decidable q](h:q):decide q=true:=UV h
theorem dF{q:Prop}[Decidable q](h:¬q):decide q=false:=Ro h
theorem Val.eq{u v:Value}(h:Val P C n l o u)(e:u=v):Val P C n l o v:=e ▸ h
theorem Val.t{q:Prop}[Decidable q](h:Val P C n l o (.bool (decide q)))(a:q):Val P C n l o (.bool true):=h.eq (by rw[dT a])
theorem Val.f{q:Prop}[Decidable q](h:Val P C n l o (.bool (decide q)))(a:¬q):Val P C n l o (.bool false):=h.eq (by rw[dF a])
theorem Val.int{k:IntKind}{A B:Int}(h:Val P C n l o (.int k A))(e:A=B):Val P C n l o (.int k B):=h.eq Dj
theorem WL.test{q:Prop}[Decidable q]{d:Nat}(j:Val P (λw=>St p w0 w L) n l o (.bool (decide q)))(h:On ops o l)(g:o.dst=some d)(i:Nat.blt d n=true)
 (v:q->WL P ops Q n p w0 rest ((d,.bool true)::l) L) (u:¬q->WL P ops Q n p w0 rest ((d,.bool false)::l) L):WL P ops Q n p w0 (o::rest) l L:=by
 by_cases a:q
 .exact WL.val (j.t a) h g i (v a)
 .exact WL.val (j.f a) h g i (u a)
theorem WQ.test{K:Act->World->Prop}{q:Prop}[Decidable q]{d:Nat}(j:Val P (λw=>St p w0 w L) n l o (.bool (decide q)))(h:On ops o l)(g:o.dst=some d)(i:Nat.blt d n=true)
 (v:q->WQ P ops K n p w0 rest ((d,.bool true)::l) L) (u:¬q->WQ P ops K n p w0 rest ((d,.bool false)::l) L):WQ P ops K n p w0 (o::rest) l L:=by
 by_cases a:q
 .exact WQ.val (j.t a) h g i (v a)
 .exact WQ.val (j.f a) h g i (u a)

/-! ### Addresses and loads -/
theorem MJ{s i g off k j:Nat}{x:Operand}(D:o.op=.fieldAddr s x i)(H:ev l x=some (.pointer (some ⟨g,off,none⟩)))(v:AF P s i k j):Val P C n l o (.pointer (some ⟨g,off+k,none⟩)):=λa w u _=>by
 obtain⟨J,f,m,G,hi,rfl,rfl,F⟩:=v
 have q:=u.ev H
 unfold execOp
 simp only[D,q,Instr.fieldAt,Ah5,Rr G,Result.andThen,hi,Instr.sureAddr,Sem.run_pure,fieldPlace,run_sizeOf F]
 by_cases h:f.offset=0
 .simp [Addr.add,h]
 .simp [Addr.add,h]
theorem FG{s i g k a:Nat}{x:Operand}(h:o.op=.fieldAddr s x i)(j:ev l x=some (.pointer (some ⟨g,0,none⟩)))(f:AF P s i k a):Val P C n l o (.pointer (some ⟨g,k,none⟩)):=by
 have:=MJ (C:=C) (n:=n) h j f
 simpa using this
theorem An{f g k:Nat}{x:Operand}{v:Value}(D:o.op=.load f x)(G:ev l x=some (.pointer (some ⟨g,k,none⟩)))(F:One P f)(u:∀w,C w->w.cell? ⟨g,k,none⟩=some v):Val P C n l o v:=λa w q j=>by
 have h:=q.ev G
 have i:=u w j
 unfold execOp
 simp[D,h,Instr.loadAt,Instr.sureAddr,loadVar,F.agg,load,Sem.run,i]
theorem AB{f g k m:Nat}{x:Operand}{cs:List Value}(D:o.op=.load f x)(J:ev l x=some (.pointer (some ⟨g,k,none⟩)))(G:FU P f m)(v:cs.length=m)(q:∀w,C w->w.rangeAt g k cs):Val P C n l o (.agg cs.toArray):=λa w j i=>by
 subst v
 have h:=j.ev J
 obtain⟨⟨d,H,u⟩,F⟩:=G
 have:=run_loadVar_mid (P:=P) w g k f cs d (q w i) H u F
 unfold execOp
 simp[D,h,Instr.loadAt,Instr.sureAddr,this]
theorem cellAt{g k:Nat}{cs:List Value}{v:Value}[At L g cs](f:cs[k]?=some v):∀w,St p w0 w L->w.cell? ⟨g,k,none⟩=some v:=λ_ a=>a.cell f
theorem BY{g k:Nat}{v:Value}(f:¬p g)(h:w0.cell? ⟨g,k,none⟩=some v):∀w,St p w0 w L->w.cell? ⟨g,k,none⟩=some v:=λ_ a=>a.old f h
def seg(a:List Value)(k m:Nat):List Value:=(a.drop k).take m
theorem AT{g k m:Nat}{cs new:List Value}[At L g cs](a:seg cs k m=new):∀w,St p w0 w L->w.rangeAt g k new:=λw f i v hi=>by
 subst a
 refine f.cell (g:=g) (cs:=cs) ?_
 unfold seg at hi
 rw[Agg] at hi
 split at hi
 .rwa [Aic] at hi
 .cases hi
theorem AL{g:Nat}{a:List Value}[At L g a]:∀w,St p w0 w L->w.rangeAt g 0 a:=λw f i v hi=>by
 rw[PP];exact f.cell (g:=g) hi
theorem resRow{t g m:Nat}{f:TypeId}{a:List Value}(j:look l t=some (.pointer (some ⟨g,0,none⟩)))(v:FU P f m)[At L g a](q:a.length=m):HT P (λw=>St p w0 w L) l (.cell t f) (.agg a.toArray):=by
 subst q
 obtain⟨⟨d,D,i⟩,u⟩:=v
 exact⟨_,j,λw h=>run_loadVar_mid (P:=P) w g 0 f a d (AL w h) D i u⟩
theorem AhM{t g:Nat}{f:TypeId}{v:Value}{a:List Value}(j:look l t=some (.pointer (some ⟨g,0,none⟩)))(q:One P f)[At L g a](u:a[0]?=some v):HT P (λw=>St p w0 w L) l (.cell t f) v :=
 ⟨_,j,λw i=>by
  have h:=i.cell (g:=g) u
  simp[loadVar,q.agg,load,Sem.run,h]⟩
theorem MI{s i k h:Nat}{x:Operand}{g:List Value}{v:Value}(D:o.op=.field s x i)(J:ev l x=some (.agg g.toArray))(u:AF P s i k h)(F:One P h)(H:g[k]?=some v):Val P C n l o v:=λa w q _=>by
 obtain⟨M,f,m,G,hi,rfl,rfl,N⟩:=u
 have j:=q.ev J
 unfold execOp
 simp[D,j,Instr.field,Rr G,hi,asAgg,part,F.agg,H]
theorem SJ{s i k j m:Nat}{x:Operand}{h new:List Value}(F:o.op=.field s x i)(H:ev l x=some (.agg h.toArray))(D:AF P s i k j)(q:FU P j m)(g:seg h k m=new):Val P C n l o (.agg new.toArray):=λa w v _=>by
 obtain⟨J,f,m,G,hi,rfl,rfl,M⟩:=D
 have u:=v.ev H
 subst g
 unfold execOp
 simp[F,u,Instr.field,Rr G,hi,asAgg,part,q.agg,run_sizeOf q.2,seg,List.extract_eq_take_drop,Nat.add_sub_cancel_left]
end

section
variable {P:Program}{C:World->Prop}{ops:Array Oper}{Q:Exit->Act->World->Prop}{n:Nat}{p:Nat->Prop}{w0:World}{o:Oper}{rest:List Oper}{l:Kn}{L:List Ent}

/-! ### Stores -/
def one:Value->Bool | .agg _=>false | .tuple _=>false|_=>true
theorem NB{w:World}{g k:Nat}{a:List Value}{v:Value}(f:Row w g a)(hk:k<a.length)(q:one v=true):(store ⟨g,k,none⟩ v).run P w=.ok () (w.setCell ⟨g,k,none⟩ v):=by
 have h:=f.cell (i:=k) (v:=a[k]) (by simp[hk])
 have j:=f.frozen hk
 have:=run_store P w ⟨g,k,none⟩ v .plain (by cases v<;>first|rfl|(simp[one] at q))
 rw[this]
 simp[h,j]
theorem Frm.set{w:World}{g k:Nat}{v:Value}:Frm (λb=>b=g) w (w.setCell ⟨g,k,none⟩ v):=Frm.set1 (Frm.refl _ _)
theorem WL.DX{G g k:Nat}{x y:Operand}{v:Value}{f:List Value}{i:List Ent}(O:o.op=.store G x y)(X:ev l x=some (.pointer (some ⟨g,k,none⟩)))(Z:ev l y=some v)(T:one v=true)(S:One P G)
 [At L g f] (hk:k<f.length) [Put L g (.row g (f.set k v)) i] (N:On ops o l) (M:o.dst=none) (h:WL P ops Q n p w0 rest l i):WL P ops Q n p w0 (o::rest) l L:=by
 refine WL.act N M λa w F D=>?_
 have H:=F.ev X
 have J:=F.ev Z
 have u:=D.row (g:=g)
 refine⟨w.setCell ⟨g,k,none⟩ v,i,.inl ?_,D.put (g:=g) (e:=.row g (f.set k v)) U Frm.set u.setCell,h⟩
 have q:v.cells.size=1:=by cases v<;>simp_all [one,Value.cells]
 have j:v.cells.toList=[v]:=by cases v<;>simp_all [one,Value.cells]
 unfold execOp
 simp[O,H,J,Instr.storeAt,Instr.sureAddr,storeVar,run_sizeOf S.2,q,j,storeCells,Addr.add,NB u hk T]

def AK:List Value->Nat->List Value->List Value
 | [],_,_=>[]
 | c::a,_,[]=>c::a
 | _::a,0,v::f=>v::AK a 0 f
 | c::a,k+1,v::f=>c::AK a k (v::f)
theorem H9(a:List Value)(k:Nat):AK a k []=a:=by cases a<;>rfl
theorem FB:∀(a:List Value) (k:Nat) (new:List Value),k+new.length<=a.length->AK a k new=a.take k++new++a.drop (k+new.length)
 | [],k,new,h=>by
  simp only[List.length_nil,Nat.le_zero_eq,Nat.add_eq_zero_iff,AbQ] at h
  rw[h.1,h.2];rfl
 | c::a,k,[],_=>by rw[H9];simp
 | c::a,0,v::f,h=>by
  have g:0+f.length<=a.length:=by simp at h ⊢;omega
  show v::AK a 0 f=_
  rw[FB a 0 f g]
  simp
 | c::a,k+1,v::f,h=>by
  have g:k+(v::f).length<=a.length:=by simp at h ⊢;omega
  show c::AK a k (v::f)=_
  rw[FB a k (v::f) g,show k+1+(v::f).length=(k+(v::f).length)+1 by omega]
  simp
theorem Qj(a:List Value)(k:Nat)(v:Value)(new:List Value)(h:k+(new.length+1)<=a.length):AK (a.set k v) (k+1) new=AK a k (v::new):=by
 rw[FB _ _ _ Dm,FB _ _ _ (by simpa using h),List.drop_set_of_lt W,List.take_set]
 have:(a.take (k+1)).set k v=a.take k++[v]:=by
  have hk:k<a.length:=W
  apply AhO
  intro i
  by_cases hi:i=k
  .subst hi
   have e:(List.take i a).length=i:=by rw[Ahp];omega
   rw[AdZ F5,Ah8 W,e,Nat.sub_self]
   rfl
  .rw [Adq W]
   by_cases f:i<k
   .rw [Ae9 Ed,List.getElem?_take_of_lt W,List.getElem?_take_of_lt f]
   .rw [Ah8 Ed,AcL Ed,AcL Ed]
 rw[this]
 simp[Nat.add_assoc,Nat.add_comm 1]
theorem DZ(a:List Value)(k:Nat)(new:List Value)(h:k+new.length<=a.length):(AK a k new).length=a.length:=by rw[FB _ _ _ h];simp;omega
theorem EJ{g:Nat}:∀(new:List Value) (i k:Nat) (a:List Value) (w:World),Row w g a->k+i+new.length<=a.length->new.all one=true ->
 ∃f,(storeCells ⟨g,k,none⟩ new i).run P w=.ok () f/\Row f g (AK a (k+i) new)/\Frm (λb=>b=g) w f
 | [],i,k,a,w,j,_,_=>⟨w,rfl,by rw[H9];exact j,Frm.refl _ _⟩
 | v::new,i,k,a,w,j,D,q=>by
  simp only[List.all_cons,Hr] at q
  simp only[Acg] at D
  obtain⟨f,H,u,F⟩:=EJ new (i+1) k (a.set (k+i) v) _ (j.setCell (i:=k+i) (v:=v)) Dm q.2
  refine⟨f,?_,by rw[<- Qj a (k+i) v new W];exact u,Frm.set.trans F⟩
  have G:(⟨g,k,none⟩:Addr).add i=⟨g,k+i,none⟩:=by
   unfold Addr.add;split
   .rename_i h;subst h;rfl
   .rfl
  simp[storeCells,G,NB j (show k+i<a.length by omega) q.1,H]
theorem WL.FN{v g k m:Nat}{x y:Operand}{new cs:List Value}{i:List Ent}(O:o.op=.store v x y)(X:ev l x=some (.pointer (some ⟨g,k,none⟩)))(Z:ev l y=some (.agg new.toArray))(f:new.all one=true)
 (T:FU P v m) (N:new.length=m) [At L g cs] (hk:k+m<=cs.length) [Put L g (.row g (AK cs k new)) i] (M:On ops o l) (J:o.dst=none) (h:WL P ops Q n p w0 rest l i):WL P ops Q n p w0 (o::rest) l L:=by
 subst N
 refine WL.act M J λa w u q=>?_
 have D:=u.ev X
 have F:=u.ev Z
 have H:=q.row (g:=g)
 obtain⟨w',S,j,G⟩:=EJ (P:=P) new 0 k cs w H W f
 refine⟨w',i,.inl ?_,q.put (g:=g) (e:=.row g (AK cs k new)) U G (show Row _ _ _ by simpa using j),h⟩
 unfold execOp
 simp[O,D,F,Instr.storeAt,Instr.sureAddr,storeVar,run_sizeOf T.2,Value.cells,S]
theorem WL.Afz{q g m:Nat}{x y:Operand}{new a:List Value}{j:List Ent}(D:o.op=.store q x y)(G:ev l x=some (.pointer (some ⟨g,0,none⟩)))(H:ev l y=some (.agg new.toArray))(f:new.all one=true)
 (F:FU P q m) (w:new.length=m) [At L g a] (hk:a.length=m) [Put L g (.row g new) j] (v:On ops o l) (u:o.dst=none) (h:WL P ops Q n p w0 rest l j):WL P ops Q n p w0 (o::rest) l L:=by
 have e:AK a 0 new=new:=by rw[FB _ _ _ W];simp;omega
 have i:Put L g (.row g (AK a 0 new)) j:=by rw[e];infer_instance
 exact WL.FN (cs:=a) (k:=0) D G H f F w W v u h

/-! ### New memory -/
theorem Frm.new{w:World}{a:Obj}:Frm (λ_=>False) w (w.alloc a):=Frm.alloc (Frm.refl _ _)
theorem St.new{w:World}{cs:List Value}{T:TypeId}(a:St p w0 w L):St p w0 (w.alloc (.cells cs.toArray T)) (.row w.heap.size cs::L):=a.add Frm.new (M2 _) (Row.new (cs:=cs.toArray))
theorem St.newObj{w:World}{ob:Obj}(a:St p w0 w L)(f:Obj.Vj ob):St p w0 (w.alloc ob) (.obj w.heap.size ob::L):=a.add Frm.new (M2 _) ⟨heap_alloc_new w ob,f⟩
theorem WL.alloc{i d:Nat}{zs:List Value}(D:o.op=.alloc i)(f:Zero P i zs)(u:On ops o l)(q:o.dst=some d)(v:Nat.blt d n=true)
 (h:∀g,w0.heap.size<=g->WL P ops Q n p w0 rest ((d,.pointer (some ⟨g,0,none⟩))::l) (.row g zs::L)):WL P ops Q n p w0 (o::rest) l L:=by
 refine WL.op u q v λa w F j=>?_
 obtain⟨z,f,rfl⟩:=f
 refine⟨_,_,_,?_,St.new (T:=i) j,h _ j.frm.size⟩
 unfold execOp
 simp[D,Instr.alloc,CE f,newVar,newRow,newObj,Sem.run]
theorem WL.box{i d:Nat}{x:Operand}{v:Value}{cs:List Value}(H:o.op=.box i x)(J:ev l x=some v)(u:v.cells=cs.toArray)(F:On ops o l)(D:o.dst=some d)(G:Nat.blt d n=true)
 (h:∀g,w0.heap.size<=g->WL P ops Q n p w0 rest ((d,.pointer (some ⟨g,0,none⟩))::l) (.row g cs::L)):WL P ops Q n p w0 (o::rest) l L:=by
 refine WL.op F D G λa w q f=>?_
 have j:=q.ev J
 refine⟨_,_,_,?_,St.new (cs:=cs) (T:=i) f,h _ f.frm.size⟩
 unfold execOp
 simp[H,j,Instr.box,newVar,newRow,newObj,Sem.run,u]
/-! ### Slices -/
def IN(off l cap s:Nat):Nat:=if cap=l then off else off+l*s
theorem Kk(g off k:Nat):(⟨g,off,none⟩:Addr).add k=⟨g,off+k,none⟩:=by
 unfold Addr.add;split
 .rename_i h;subst h;rfl
 .rfl
theorem SF(b off lo cap s:Nat):(if cap=lo then some (⟨b,off,none⟩:Addr) else(some (⟨b,off,none⟩:Addr)).map (·.add (lo*s)))=some ⟨b,IN off lo cap s,none⟩:=by
 unfold IN;split<;>simp[Kk]
section
variable {t e s b off len cap lo hi:Nat}{x xl xh:Operand}{k:IntKind}{A B:Int}
theorem LO(v:o.op=.slice t x (some xl) none none)(G:ev l x=some (.slice (some ⟨b,off,none⟩) len cap))(u:ev l xl=some (.int k A))(F:P.underlying t=some (.slice e))(D:(P.info? e).map (·.size)=some s)(q:A=(lo:Int))(f:lo<=len):
 Val P C n l o (.slice (some ⟨b,IN off lo cap s,none⟩) (len-lo) (cap-lo)):=λa w g _=>by
 have i:=g.ev G;have j:=g.ev u
 subst q
 have hi:(0:Int)<=lo/\(lo:Int)<=len:=W
 unfold execOp
 simp[v,i,j,Instr.sliceAt,Rr F,Instr.slice,Instr.sliceBounds,Instr.sliceBound,asIntOf,f,run_sizeOf D]
 simpa using SF b off lo cap s
theorem HB(j:o.op=.slice t x (some xl) none none)(v:ev l x=some (.slice (some ⟨b,off,none⟩) len cap))(g:ev l xl=some (.int k A))(u:P.underlying t=some (.slice e))(q:(P.info? e).map (·.size)=some s)(f:A=(lo:Int))(a:lo<=len)(i:lo<cap):
 Val P C n l o (.slice (some ⟨b,off+lo*s,none⟩) (len-lo) (cap-lo)):=by
 have:=LO (C:=C) (n:=n) j v g u q f a
 rwa [show IN off lo cap s=off+lo*s by unfold IN;rw[E9 W]] at this
theorem Hv{ad:Option Addr}(D:o.op=.slice t x none (some xh) none)(H:ev l x=some (.slice ad len cap))(u:ev l xh=some (.int k B))(G:P.underlying t=some (.slice e))(F:(P.info? e).map (·.size)=some s)(q:B=(hi:Int))(f:hi<=cap):
 Val P C n l o (.slice ad hi cap):=λa w g _=>by
 have i:=g.ev H;have j:=g.ev u
 subst q
 have v:(0:Int)<=hi/\(hi:Int)<=cap:=W
 unfold execOp
 simp[D,i,j,Instr.sliceAt,Rr G,Instr.slice,Instr.sliceBounds,Instr.sliceBound,asIntOf,f,run_sizeOf F]
 cases ad<;>simp[Addr.add]
theorem ZL{T:IntKind}(M:o.op=.slice t x (some xl) (some xh) none)(S:ev l x=some (.slice (some ⟨b,off,none⟩) len cap))(J:ev l xl=some (.int k A))(F:ev l xh=some (.int T B))(O:P.underlying t=some (.slice e))(N:(P.info? e).map (·.size)=some s)
 (v:A=(lo:Int)) (D:B=(hi:Int)) (i:lo<=hi) (f:hi<=cap) :
 Val P C n l o (.slice (some ⟨b,IN off lo cap s,none⟩) (hi-lo) (cap-lo)):=λa w g _=>by
 have j:=g.ev S;have q:=g.ev J;have u:=g.ev F
 subst v D
 have G:(0:Int)<=hi/\(hi:Int)<=cap:=W
 have H:(0:Int)<=lo/\(lo:Int)<=hi:=W
 unfold execOp
 simp[M,j,q,u,Instr.sliceAt,Rr O,Instr.slice,Instr.sliceBounds,Instr.sliceBound,asIntOf,i,f,run_sizeOf N]
 simpa using SF b off lo cap s
theorem ML{m:Nat}(h:o.op=.slice t x none none none)(q:ev l x=some (.pointer (some ⟨b,off,none⟩)))(j:P.underlying t=some (.array m e))(i:(P.info? e).map (·.size)=some s):
 Val P C n l o (.slice (some ⟨b,off,none⟩) m m):=λa w g _=>by
 have f:=g.ev q
 unfold execOp
 simp[h,f,Instr.sliceAt,Rr j,Instr.sureAddr,Instr.sliceBounds,run_sizeOf i,Addr.add]
theorem AA(v:o.op=.indexAddr t x xl)(G:ev l x=some (.slice (some ⟨b,off,none⟩) len cap))(u:ev l xl=some (.int k A))(F:P.underlying t=some (.slice e))(D:(P.info? e).map (·.size)=some s)(q:A=(lo:Int))(f:lo<len):
 Val P C n l o (.pointer (some ⟨b,off+lo*s,none⟩)):=λa w g _=>by
 have i:=g.ev G;have j:=g.ev u
 subst q
 have hi:(0:Int)<=lo/\(lo:Int)<len:=W
 unfold execOp
 simp[v,i,j,Instr.indexAt,Rr F,asIntOf,f,run_sizeOf D,Kk]
theorem AG{m:Nat}(v:o.op=.indexAddr t x xl)(G:ev l x=some (.pointer (some ⟨b,off,none⟩)))(u:ev l xl=some (.int k A))(F:P.underlying t=some (.array m e))(D:(P.info? e).map (·.size)=some s)(q:A=(lo:Int))(f:lo<m):
 Val P C n l o (.pointer (some ⟨b,off+lo*s,none⟩)):=λa w g _=>by
 have i:=g.ev G;have j:=g.ev u
 subst q
 have hi:(0:Int)<=lo/\(lo:Int)<m:=W
 unfold execOp
 simp[v,i,j,Instr.indexAt,Rr F,asIntOf,f,run_sizeOf D,Kk,Instr.sureAddr]
theorem X7{m:Nat}{g:List Value}{v:Value}(G:o.op=.index t x xl)(M:ev l x=some (.agg g.toArray))(F:ev l xl=some (.int k A))(H:P.underlying t=some (.array m e))(j:One P e)(D:A=(lo:Int))(f:lo<m)(J:g[lo]?=some v):
 Val P C n l o v:=λa w i _=>by
 have q:=i.ev M;have u:=i.ev F
 subst D
 have hi:(0:Int)<=lo/\(lo:Int)<m:=W
 unfold execOp
 simp[G,q,u,Instr.index,Rr H,asIntOf,f,run_sizeOf j.2,part,j.agg,J]
end
/-! ### len -/
theorem BQ{a:Act}{w:World}{g:Builtin}{xs:List Operand}{h:Array TypeId}{i:List Value}(u:o.op=.call { callee:=.builtin g,args:=xs.toArray,argTypes:=h })(v:evs l xs=some i)(q:Has n a l):
 ∃f,(execOp a.eval o).run P w=(builtin g h o.type f i.toArray).run P w:=by
 have j:=q.evs v
 refine⟨xs.toArray.map (fun | .const _=>true|_=>false),?_⟩
 unfold execOp
 simp[u,resolve,invoke, <- j]
 rfl
theorem Qr{t e len cap:Nat}{ad:Option Addr}{x:Operand}(i:o.op=.call { callee:=.builtin .len,args:=#[x],argTypes:=#[t] })(q:ev l x=some (.slice ad len cap))(j:P.underlying t=some (.slice e)):Val P C n l o (.int .i64 len):=λa w g _=>by
 have f:evs l [x]=some [.slice ad len cap]:=by simp[evs,q]
 obtain⟨u,h⟩:=BQ (P:=P) (w:=w) (xs:=[x]) i f g
 rw[h]
 simp[builtin,Builtin.len_,Rr j,goInt]
end

section
variable {P:Program}{C:World->Prop}{ops:Array Oper}{Q:Exit->Act->World->Prop}{n:Nat}{p:Nat->Prop}{w0:World}{o:Oper}{rest:List Oper}{l:Kn}{L:List Ent}

theorem ZT(n:Int)(a:0<=n)(f:n<2^64):IntKind.u64.wrap n=n:=by rw[IntKind.wrap_u64];omega
theorem Hy{i:Nat}{x c m:Int}(hi:i<=62)(j:(2:Int)^i-1=c)(D:(2:Int)^i=m):bits .and .i64 x c=x % m:=by
 subst j D
 have g:(2:Int)^i=((2^i:Nat):Int):=C9
 have f:0<2^i:=Aid i
 have w:2^i<=2^62:=Aiy C8 hi
 have j:((2:Int)^i-1)=((2^i-1:Nat):Int):=by rw[Int.natCast_sub f];simp
 have q:(BitVec.ofInt 64 x &&& BitVec.ofInt 64 ((2^i-1:Nat):Int)).toNat=(x % 18446744073709551616).toNat % 2^i:=by
  rw[BitVec.toNat_and,BitVec.toNat_ofInt,Ag5,Ags,AgI (a:=2^i-1) W,Nat.and_two_pow_sub_one_eq_mod]
  rfl
 rw[j]
 show IntKind.i64.wrap ((BitVec.ofInt 64 x &&& BitVec.ofInt 64 ((2^i-1:Nat):Int)).toNat:Int)=_
 rw[q]
 have u:((x % 18446744073709551616).toNat:Int)=x % 18446744073709551616:=Aiq W
 have v:(((x % 18446744073709551616).toNat % 2^i:Nat):Int)=x % ((2^i:Nat):Int):=by
  rw[Int.natCast_emod,u]
  refine Int.emod_emod_of_dvd x ?_
  have:(18446744073709551616:Int)=((2^64:Nat):Int):=C8
  rw[this]
  exact Int.natCast_dvd_natCast.2 (Nat.pow_dvd_pow 2 (by omega:i<=64))
 rw[v, <- g]
 have F:=Int.emod_nonneg x (b:=(2:Int)^i) (by rw[g];omega)
 have G:=Int.emod_lt_of_pos x (b:=(2:Int)^i) (by rw[g];omega)
 have H:(2:Int)^i<=4611686018427387904:=by rw[g];omega
 rw[IntKind.wrap_i64]
 omega
/-! ### Struct and array literals -/
def evp(l:Kn):List (Nat×Operand)->Option (List (Nat×Value))
 | []=>some []
 | (i,x)::xs=>match ev l x,evp l xs with|some v,some a=>some ((i,v)::a)|_,_=>none
theorem Has.evp{a:Act}(h:Has n a l):∀ {xs:List (Nat×Operand)}{g:List (Nat×Value)},evp l xs=some g->xs.map (λ(i,x)=>(i,a.eval x))=g
 | [],g,f=>by simpa [YtmhahajadgkolaaGreatDoor.evp] using f
 | (i,x)::xs,g,f=>by
  unfold YtmhahajadgkolaaGreatDoor.evp at f
  split at f
  .rename_i v u j q
   simp only[Ahe] at f
   subst f
   simp only[Acu,h.ev j,h.evp q]
  .cases f
def JM(a:Nat->Option (Nat×Nat))(f:List Value):List (Nat×Value)->Option (List Value)
 | []=>some f
 | (i,v)::r=>match a i with
  | none=>none
  | some (off,g)=>cond (Nat.beq v.cells.toList.length g && Nat.ble (off+g) f.length) (JM a (AK f off v.cells.toList) r) none
theorem P8(off:Nat):∀(f:List Value) (j:Nat) (a:List Value),off+j+f.length<=a.length ->
 (f.zipIdx j).foldl (λ(c:Array Value) (x:Value×Nat)=>c.setIfInBounds (off+x.2) x.1) a.toArray=(AK a (off+j) f).toArray
 | [],j,a,_=>by simp[H9]
 | v::f,j,a,h=>by
  simp only[Acg] at h
  simp only[List.zipIdx_cons,List.foldl_cons]
  have e:a.toArray.setIfInBounds (off+j) v=(a.set (off+j) v).toArray:=C9
  rw[e,P8 off f (j+1) (a.set (off+j) v) Dm, <- Qj a (off+j) v f W]
  rfl
theorem fill_eq(a:Nat->Option (Nat×Nat)):∀(D:List (Nat×Value)) (g f:List Value),JM a g D=some f->Instr.fill a g.toArray D=some f.toArray
 | [],g,f,h=>by simp only[JM,Ahe] at h;subst h;rfl
 | (i,v)::r,g,f,h=>by
  unfold JM at h
  unfold Instr.fill
  cases w:a i with
  | none=>rw[w] at h;cases h
  | some q =>
   obtain⟨off,u⟩:=q
   rw[w] at h
   simp only at h ⊢
   cases j:(Nat.beq v.cells.toList.length u && Nat.ble (off+u) g.length) with
   | false=>rw[j] at h;cases h
   | true =>
    rw[j] at h
    simp only[Aih] at h
    simp only[Hr] at j
    have F:=NE j.1
    have J:=Ai6 j.2
    have G:v.cells.size=u:=by simpa using F
    rw[E9 (by simp[G];omega)]
    have H:=P8 off v.cells.toList 0 g W
    have e:v.cells.zipIdx.foldl (λ(c:Array Value) (x:Value×Nat)=>c.setIfInBounds (off+x.2) x.1) g.toArray=(AK g off v.cells.toList).toArray:=by
     rw[<- Array.foldl_toList,Array.toList_zipIdx];simpa using H
    exact(If (λc=>Instr.fill a c r) e).trans (fill_eq a r _ f h)
def NG(P:Program)(t:TypeId)(g:List (Nat×Nat)):Prop:=∃a,P.underlying t=some (.struct a)/\∀w,(a.mapM (λf=>do pure (f.offset, <- sizeOf f.type):Field->Sem (Nat×Nat))).run P w=.ok g.toArray w
theorem GC{t:TypeId}{parts:List (Nat×Operand)}{D:List (Nat×Value)}{zs g:List Value}{v:List (Nat×Nat)}(O:o.op=.build t parts.toArray)(X:evp l parts=some D)(j:Zero P t zs)(S:NG P t v)
 (M:JM (λi=>v[i]?) zs D=some g):Val P C n l o (.agg g.toArray):=λa w J _=>by
 obtain⟨z,j,u⟩:=j
 obtain⟨F,T,N⟩:=S
 have G:=J.evp X
 have H:=fill_eq _ _ _ _ M
 have q:z.cells=zs.toArray:=by rw[<- u]
 have h:∀w,(F.mapM λf=>Prod.mk f.offset <$> sizeOf f.type).run P w=.ok v.toArray w:=λw=>by
  have:=N w
  simpa using this
 unfold execOp
 simp[O,Instr.build,CE j,Rr T,h,q,G,H]
theorem Af2{t e m s:Nat}{parts:List (Nat×Operand)}{q:List (Nat×Value)}{zs f:List Value}(G:o.op=.build t parts.toArray)(M:evp l parts=some q)(g:Zero P t zs)(J:P.underlying t=some (.array m e))(H:(P.info? e).map (·.size)=some s)
 (F:JM (λi=>some (i*s,s)) zs q=some f):Val P C n l o (.agg f.toArray):=λa w D _=>by
 obtain⟨z,g,j⟩:=g
 have u:=D.evp M
 have v:=fill_eq _ _ _ _ F
 have h:z.cells=zs.toArray:=by rw[<- j]
 unfold execOp
 simp[G,Instr.build,CE g,Rr J,run_sizeOf H,h,u,v]

/-! ### Equality -/
inductive CK|b|i (k:IntKind)|s
def CK.fits:CK->Value->Bool
 | .b,.bool _=>true
 | .i k,.int a _=>decide (a=k)
 | .s,.string _=>true
 | _,_=>false
def AR:List CK->List Value->Bool
 | [],[]=>true
 | c::a,v::f=>c.fits v && AR a f
 | _,_=>false
theorem CC:∀ {ks:List CK}{a:List Value},AR ks a=true->a.length=ks.length
 | [],[],_=>rfl
 | [],_::_,h=>by simp[AR] at h
 | _::_,[],h=>by simp[AR] at h
 | k::ks,v::a,h=>by
  simp only[AR,Hr] at h
  simp[CC h.2]
theorem HI:∀ {a f:List CK}{g:List Value},AR (a++f) g=true->AR a (g.take a.length)=true/\AR f (g.drop a.length)=true
 | [],f,g,h=>by simpa [AR] using h
 | k::a,f,[],h=>by simp[AR] at h
 | k::a,f,v::g,h=>by
  simp only[AbT,AR,Hr] at h
  have:=HI h.2
  simp[AR,h.1,this]
def mkV(a:Bool)(f:List Value):Value:=match a,f with|false,[v]=>v|_,f=>.agg f.toArray
structure EqK(P:Program)(d:Nat)(t:TypeId)(row:Bool)(ks:List CK):Prop where
 size:(P.info? t).map (·.size)=some ks.length
 agg:∃dd,P.underlying t=some dd/\dd.isRow=row
 one:row=false->ks.length=1
 eq:∀(w:World) (xs ys:List Value),AR ks xs=true->AR ks ys=true->∃r:Bool,(Op.equalIn d t (mkV row xs) (mkV row ys)).run P w=.ok r w/\(r=true<->xs=ys)
theorem EqK.int{d t:Nat}{k:IntKind}(f:P.underlying t=some (.int k))(g:(P.info? t).map (·.size)=some 1):EqK P (d+1) t false [.i k]:=by
 refine⟨g,⟨_,f,rfl⟩,λ_=>rfl,?_⟩
 intro w xs ys j q
 have one:∀zs:List Value,AR [.i k] zs=true->∃a,zs=[.int k a]:=λzs h=>by
  match zs,h with
  | [.int u a],h =>
   simp only[AR,CK.fits,Bool.and_true,decide_eq_true_eq] at h
   exact⟨a,by rw[h]⟩
  | [],h=>simp[AR] at h
  | v::D::F,h=>simp[AR] at h
  | [.bool _],h=>simp[AR,CK.fits] at h
  | [.float _ _],h=>simp[AR,CK.fits] at h
  | [.complex _ _ _],h=>simp[AR,CK.fits] at h
  | [.string _],h=>simp[AR,CK.fits] at h
  | [.pointer _],h=>simp[AR,CK.fits] at h
  | [.slice _ _ _],h=>simp[AR,CK.fits] at h
  | [.map _],h=>simp[AR,CK.fits] at h
  | [.chan _],h=>simp[AR,CK.fits] at h
  | [.func _ _ _],h=>simp[AR,CK.fits] at h
  | [.nilFunc],h=>simp[AR,CK.fits] at h
  | [.iface _ _],h=>simp[AR,CK.fits] at h
  | [.nilIface],h=>simp[AR,CK.fits] at h
  | [.agg _],h=>simp[AR,CK.fits] at h
  | [.tuple _],h=>simp[AR,CK.fits] at h
 obtain⟨a,rfl⟩:=one xs j
 obtain⟨b,rfl⟩:=one ys q
 exact⟨a == b,run_equalIn_int w d t k k a b f,C9⟩
theorem LF{d t:Nat}{f:Bool}{ks:List CK}(h:EqK P d t f ks)(w:World)(a:List Value)(off:Nat)(j:AR ks ((a.drop off).take ks.length)=true):
 (part t a.toArray off).run P w=.ok (mkV f ((a.drop off).take ks.length)) w:=by
 obtain⟨H,D,u⟩:=h.agg
 have q:=CC j
 cases f with
 | true =>
  have g:=(FU.mk D u h.size).agg w
  simp[part,g,run_sizeOf h.size,mkV,List.extract_eq_take_drop,Nat.add_sub_cancel_left]
 | false =>
  have i:=h.one U
  rw[i] at q j ⊢
  have g:=(One.mk D u (by rw[h.size,i])).agg w
  obtain⟨v,F⟩:∃v,(a.drop off).take 1=[v]:=by
   match J:(a.drop off).take 1,q with
   | [v],_=>exact⟨v,rfl⟩
  have G:a[off]?=some v:=by
   have:((a.drop off).take 1)[0]?=some v:=by rw[F];rfl
   rw[List.getElem?_take_of_lt W,Aic] at this
   simpa using this
  rw[F]
  simp[part,g,G,mkV]
inductive N3 (P:Program) (d:Nat):List Field->Nat->List CK->Prop
 | nil {off:Nat}:N3 P d [] off []
 | cons {f:Field}{fs:List Field}{off:Nat}{row:Bool}{k1 k2:List CK}(hn:(f.name == "_")=false) (ho:f.offset=off) (h:EqK P d f.type row k1) (r:N3 P d fs (off+k1.length) k2):N3 P d (f::fs) off (k1++k2)
theorem YJ{d:Nat}{u:List Field}{off:Nat}{ks:List CK}(h:N3 P d u off ks):∀(w:World) (xs ys:List Value),AR ks (xs.drop off)=true->AR ks (ys.drop off)=true ->
 ∃r:Bool,(Op.eqFields d xs.toArray ys.toArray u).run P w=.ok r w/\(r=true<->xs.drop off=ys.drop off):=by
 induction h with
 | nil => 
  intro w xs ys H J
  have M:=CC H;have N:=CC J
  simp only[List.length_nil,AbQ] at M N
  exact⟨true,by simp[Op.eqFields],by simp[M,N]⟩
 | @cons f u off row S k2 T X v r Z =>
  intro w xs ys H J
  obtain⟨a,j⟩:=HI H
  obtain⟨g,q⟩:=HI J
  have p1:=LF v w xs off a
  have p2:=LF v w ys off g
  obtain⟨r1,e,O⟩:=v.eq w _ _ a g
  have G:f.name ≠ "_" := by simpa using T
  rw[List.drop_drop] at j q
  obtain⟨r2,i,hi⟩:=Z w xs ys j q
  simp only[Op.eqFields,G,ne_eq,not_false_eq_true,if_true,Ah5,X,p1,p2,e,Aes]
  have hsp:∀zs:List Value,zs.drop off=(zs.drop off).take S.length++zs.drop (off+S.length):=λzs=>by rw[<- List.drop_drop];exact(AeN _ _).symm
  have D:=CC a
  have F:=CC g
  cases r1 with
  | true =>
   have hq:=O.1 U
   refine⟨r2,by simpa using i,?_⟩
   exact Cp
  | false =>
   refine⟨false,C9,?_⟩
   constructor
   .intro h;simp at h
   .intro h
    rw[hsp xs,hsp ys] at h
    have:=O.2 (List.append_inj_left h (by rw[D,F]))
    simp at this
theorem EqK.struct{d t:Nat}{f:Array Field}{ks:List CK}(g:P.underlying t=some (.struct f))(q:P.stoodInHeld t=false)(u:(P.info? t).map (·.size)=some ks.length)(h:N3 P d f.toList 0 ks):EqK P (d+1) t true ks:=by
 refine⟨u,⟨_,g,rfl⟩,λh=>by simp at h,?_⟩
 intro w xs ys v D
 have a:P.fieldsOf t=f:=by simp[Program.fieldsOf,g]
 obtain⟨r,i,j⟩:=YJ h w xs ys (by simpa using v) (by simpa using D)
 refine⟨r,?_,by simpa using j⟩
 show(Op.equalIn (d+1) t (.agg xs.toArray) (.agg ys.toArray)).run P w=_
 rw[run_equalIn_struct w d t xs.toArray ys.toArray (by rw[a];exact g) q,a]
 exact i
theorem TB{d e:Nat}{J:Bool}{a:List CK}(v:EqK P d e J a)(w:World)(xs ys:List Value):∀(m j:Nat),AR ((List.replicate m a).flatten) (xs.drop (j*a.length))=true->AR ((List.replicate m a).flatten) (ys.drop (j*a.length))=true ->
 ∃r:Bool,(Op.eqItems d e a.length xs.toArray ys.toArray (List.range' j m)).run P w=.ok r w/\(r=true<->xs.drop (j*a.length)=ys.drop (j*a.length))
 | 0,j,D,F=>by
  have M:=CC D;have N:=CC F
  simp only[List.replicate_zero,List.flatten_nil,List.length_nil,AbQ] at M N
  exact⟨true,by simp[Op.eqItems],by simp[M,N]⟩
 | m+1,j,D,F=>by
  rw[List.replicate_succ,List.flatten_cons] at D F
  obtain⟨f,q⟩:=HI D
  obtain⟨g,u⟩:=HI F
  have X:=LF v w xs (j*a.length) f
  have Z:=LF v w ys (j*a.length) g
  obtain⟨r1,T,O⟩:=v.eq w _ _ f g
  have S:j*a.length+a.length=(j+1)*a.length:=by rw[Agz,Aii]
  rw[List.drop_drop,S] at q u
  obtain⟨r2,i,hi⟩:=TB v w xs ys m (j+1) q u
  simp only[List.range'_succ,Op.eqItems,Ah5,X,Z,T,Aes]
  have hsp:∀zs:List Value,zs.drop (j*a.length)=(zs.drop (j*a.length)).take a.length++zs.drop ((j+1)*a.length):=λzs=>by rw[<- S, <- List.drop_drop];exact(AeN _ _).symm
  have G:=CC f
  have H:=CC g
  cases r1 with
  | true =>
   have hq:=O.1 U
   refine⟨r2,by simpa using i,?_⟩
   exact Cp
  | false =>
   refine⟨false,C9,?_⟩
   constructor
   .intro h;simp at h
   .intro h
    rw[hsp xs,hsp ys] at h
    have:=O.2 (List.append_inj_left h (by rw[G,H]))
    simp at this
theorem EqK.array{d t e m:Nat}{g:Bool}{f ks:List CK}(u:P.underlying t=some (.array m e))(G:(P.info? t).map (·.size)=some ks.length)(j:EqK P d e g f)(a:(List.replicate m f).flatten=ks):EqK P (d+1) t true ks:=by
 subst a
 refine⟨G,⟨_,u,rfl⟩,λh=>by simp at h,?_⟩
 intro w xs ys H J
 obtain⟨r,v,D⟩:=TB j w xs ys m 0 (by simpa using H) (by simpa using J)
 refine⟨r,?_,by simpa using D⟩
 have hi:=j.size
 cases q:P.info? e with
 | none=>simp[q] at hi
 | some i =>
  have F:P.cellsOf e=f.length:=by simp[Program.cellsOf,hi]
  show(Op.equalIn (d+1) t (.agg xs.toArray) (.agg ys.toArray)).run P w=_
  rw[run_equalIn_array w d xs.toArray ys.toArray u q,F,List.range_eq_range']
  exact v
section
variable {t yt:TypeId}{x y:Operand}{xs ys:List Value}{ks:List CK}
theorem Qh{a:Act}{w:World}(D:o.op=.binOp .eql t x y yt)(j:a.eval x=.agg xs.toArray)(q:a.eval y=.agg ys.toArray)(u:EqK P 10000 t true ks)(v:P.eqGuardType P.depth t=false)
 (f:AR ks xs=true) (g:AR ks ys=true):∃r:Bool,(execOp a.eval o).run P w=.ok (.value (.bool r)) w/\(r=true<->xs=ys):=by
 obtain⟨r,h,F⟩:=u.eq w xs ys f g
 have i:(Op.equalIn 10000 t (.agg xs.toArray) (.agg ys.toArray)).run P w=.ok r w:=h
 refine⟨r,?_,F⟩
 unfold execOp
 simp only[D,j,q,Ah5,run_eqGuard_agg w _ t _ _ _ _ v,Aes,run_eql_struct,i]
 rfl
theorem Qi{a:Act}{w:World}(D:o.op=.binOp .neq t x y yt)(j:a.eval x=.agg xs.toArray)(q:a.eval y=.agg ys.toArray)(u:EqK P 10000 t true ks)(v:P.eqGuardType P.depth t=false)
 (f:AR ks xs=true) (g:AR ks ys=true):∃r:Bool,(execOp a.eval o).run P w=.ok (.value (.bool (!r))) w/\(r=true<->xs=ys):=by
 obtain⟨r,h,F⟩:=u.eq w xs ys f g
 have i:(Op.equalIn 10000 t (.agg xs.toArray) (.agg ys.toArray)).run P w=.ok r w:=h
 refine⟨r,?_,F⟩
 unfold execOp
 simp only[D,j,q,Ah5,run_eqGuard_agg w _ t _ _ _ _ v,Aes,run_neq_struct,i]
 rfl
theorem ZH(u:o.op=.binOp .eql t x y yt)(D:ev l x=some (.agg xs.toArray))(F:ev l y=some (.agg ys.toArray))(j:EqK P 10000 t true ks)(q:P.eqGuardType P.depth t=false)
 (g:AR ks xs=true) (i:AR ks ys=true) (e:xs=ys):Val P C n l o (.bool true):=λa w f _=>by
 obtain⟨r,h,v⟩:=Qh (w:=w) u (f.ev D) (f.ev F) j q g i
 rw[v.2 e] at h;exact h
theorem ZG(u:o.op=.binOp .eql t x y yt)(D:ev l x=some (.agg xs.toArray))(F:ev l y=some (.agg ys.toArray))(j:EqK P 10000 t true ks)(q:P.eqGuardType P.depth t=false)
 (g:AR ks xs=true) (i:AR ks ys=true) (e:¬xs=ys):Val P C n l o (.bool false):=λa w f _=>by
 obtain⟨r,h,v⟩:=Qh (w:=w) u (f.ev D) (f.ev F) j q g i
 cases r
 .exact h
 .exact absurd (v.1 U) e
theorem SM(u:o.op=.binOp .neq t x y yt)(D:ev l x=some (.agg xs.toArray))(F:ev l y=some (.agg ys.toArray))(j:EqK P 10000 t true ks)(q:P.eqGuardType P.depth t=false)
 (g:AR ks xs=true) (i:AR ks ys=true) (e:xs=ys):Val P C n l o (.bool false):=λa w f _=>by
 obtain⟨r,h,v⟩:=Qi (w:=w) u (f.ev D) (f.ev F) j q g i
 rw[v.2 e] at h;exact h
theorem SN(u:o.op=.binOp .neq t x y yt)(D:ev l x=some (.agg xs.toArray))(F:ev l y=some (.agg ys.toArray))(j:EqK P 10000 t true ks)(q:P.eqGuardType P.depth t=false)
 (g:AR ks xs=true) (i:AR ks ys=true) (e:¬xs=ys):Val P C n l o (.bool true):=λa w f _=>by
 obtain⟨r,h,v⟩:=Qi (w:=w) u (f.ev D) (f.ev F) j q g i
 cases r
 .exact h
 .exact absurd (v.1 U) e
end
theorem OZ{f:BinOp}{t yt:TypeId}{x y:Operand}{u v:Value}{b:Bool}{a:Act}{w:World}(q:o.op=.binOp f t x y yt)(g:a.eval x=u)(h:a.eval y=v)(j:(eqGuard f t x y u v).run P w=.ok () w)(i:(binOp f t u v).run P w=.ok (.bool b) w):
 (execOp a.eval o).run P w=.ok (.value (.bool b)) w:=by
 unfold execOp
 simp only[q,g,h,Ah5,j,Aes,i]
 rfl
theorem LM{t yt e:TypeId}{x:Operand}{A:Option Addr}(i:o.op=.binOp .eql t x (.const (.pointer none)) yt)(q:ev l x=some (.pointer A))(j:P.underlying t=some (.pointer e)):Val P C n l o (.bool (decide (A=none))):=λa w g _=>by
 have h:∀d,(Op.equalIn (d+1) t (.pointer A) (.pointer none)).run P w=.ok A.isNone w:=λd=>by
  cases A<;>simp[Op.equalIn,Rr j]
 have e:A.isNone=decide (A=none):=by cases A<;>simp
 have f:(Op.equal t (.pointer A) (.pointer none)).run P w=.ok (decide (A=none)) w:=by rw[<- e];exact h 9999
 exact OZ (v:=.pointer none) i (g.ev q) U (by simp[eqGuard]) (by simp only[binOp];simp[f])
theorem NZ{t yt e:TypeId}{x:Operand}{A:Option Addr}(i:o.op=.binOp .neq t x (.const (.pointer none)) yt)(q:ev l x=some (.pointer A))(j:P.underlying t=some (.pointer e)):Val P C n l o (.bool (decide (A≠none))):=λa w g _=>by
 have h:∀d,(Op.equalIn (d+1) t (.pointer A) (.pointer none)).run P w=.ok A.isNone w:=λd=>by
  cases A<;>simp[Op.equalIn,Rr j]
 have e:(!A.isNone)=decide (A≠none):=by cases A<;>simp
 have f:(Op.equal t (.pointer A) (.pointer none)).run P w=.ok A.isNone w:=h 9999
 exact OZ (v:=.pointer none) i (g.ev q) U (by simp[eqGuard]) (by simp only[binOp];rw[<- e];simp[f])
theorem ZI{t yt:TypeId}{x y:Operand}{A B:Bool}(ho:o.op=.binOp .eql t x y yt)(hx:ev l x=some (.bool A))(hy:ev l y=some (.bool B))(f:P.underlying t=some .bool):Val P C n l o (.bool (decide (A=B))):=λa w ha _=>by
 have h':(Op.equal t (.bool A) (.bool B)).run P w=.ok (A == B) w:=run_equalIn_bool w 9999 t A B f
 have e:(A == B)=decide (A=B):=by cases A<;>cases B<;>rfl
 exact Ce
theorem ZJ{t yt:TypeId}{x y:Operand}{A B:Bool}(ho:o.op=.binOp .neq t x y yt)(hx:ev l x=some (.bool A))(hy:ev l y=some (.bool B))(f:P.underlying t=some .bool):Val P C n l o (.bool (decide (A≠B))):=λa w ha _=>by
 have h':(Op.equal t (.bool A) (.bool B)).run P w=.ok (A == B) w:=run_equalIn_bool w 9999 t A B f
 have e:(!(A == B))=decide (A≠B):=by cases A<;>cases B<;>rfl
 exact Ce
end

section
variable {P:Program}{C:World->Prop}{ops:Array Oper}{Q:Exit->Act->World->Prop}{n:Nat}{p:Nat->Prop}{w0:World}{o:Oper}{rest:List Oper}{l:Kn}{L:List Ent}

instance {E L:List Ent}{g:Nat}{a:List Value}[h:At L g a]:At (E++L) g a:=⟨Mu _ h.mem⟩
instance {E L:List Ent}{g:Nat}{a:Obj}[h:AtO L g a]:AtO (E++L) g a:=⟨Mu _ h.mem⟩
instance {E L a:List Ent}{g:Nat}{e:Ent}[h:Put L g e a]:Put (E++L) g e (E++a) :=
 ⟨λf=>let ⟨A,B,e',h1,h2,h3⟩:=h.ok f; ⟨E++A,B,e',by rw[h1,Qs],by rw[h2,Qs],h3⟩⟩

theorem Ig{w:World}{g off m:Nat}{a:List Value}(h:a.length=m)(f:w.rangeAt g off a):(loadCells ⟨g,off,none⟩ m).run P w=.ok a.toArray w:=by
 subst h
 exact run_loadCells_list (P:=P) w ⟨g,off,none⟩ a λj v i=>by rw[Kk];exact f j v i

/-! ### copy -/
theorem WL.copyL{t ts e d g off u M b J H N:Nat}{x y:Operand}{i new:List Value}{q:List Ent}(ho:o.op=.call { callee:=.builtin .copy,args:=#[x,y],argTypes:=#[t,ts] })
 (hx:ev l x=some (.slice (some ⟨g,off,none⟩) u M)) (hy:ev l y=some (.slice (some ⟨b,J,none⟩) H N)) (hu:P.underlying t=some (.slice e)) (hs:(P.info? e).map (·.size)=some 1)
 (f:new.length=min H u) (T:∀w,St p w0 w L->w.rangeAt b J new) (j:new.all one=true) [At L g i] (hle:off+new.length<=i.length) [Put L g (.row g (AK i off new)) q] (Z:On ops o l) (X:o.dst=some d) (hn:Nat.blt d n=true)
 (h:WL P ops Q n p w0 rest ((d,.int .i64 new.length)::l) q):WL P ops Q n p w0 (o::rest) l L:=by
 refine WL.op Z X hn λa w S D=>?_
 have G:evs l [x,y]=some [.slice (some ⟨g,off,none⟩) u M,.slice (some ⟨b,J,none⟩) H N]:=by simp[evs,hx,hy]
 obtain⟨cc,hr⟩:=BQ (P:=P) (w:=w) (xs:=[x,y]) ho G S
 obtain⟨w',F,v,O⟩:=EJ (P:=P) new 0 off i w (D.row (g:=g)) W j
 refine⟨_,w',q,?_,D.put (g:=g) (e:=.row g (AK i off new)) U O (show Row _ _ _ by simpa using v),h⟩
 rw[hr]
 have hl:=Ig (P:=P) f (T w D)
 simp[builtin,Builtin.copy_,Rr hu,Builtin.lenOf,run_sizeOf hs,Builtin.firstCells,hl,F,goInt,f]
def Nx(b:UInt8):Value:=.int .u8 b.toNat
/-! ### append -/
def Vec(s:Nat)(ad:Option Addr)(k c:Nat)(xs:List Value)(E:List Ent):Prop :=
 (ad=none/\k=0/\c=0/\xs=[]/\E=[])\/(∃g a,ad=some ⟨g,0,none⟩/\E=[.row g a]/\a.take (k*s)=xs/\a.length=c*s/\k<=c)
theorem Vec.nil(s:Nat):Vec s none 0 0 [] []:=.inl ⟨rfl,rfl,rfl,rfl,rfl⟩
theorem Vec.row{s g k c:Nat}{cs xs:List Value}(f:cs.take (k*s)=xs)(a:cs.length=c*s)(hk:k<=c):Vec s (some ⟨g,0,none⟩) k c xs [.row g cs]:=.inr ⟨g,cs,rfl,rfl,f,a,hk⟩
theorem Vec.len{s k c:Nat}{ad:Option Addr}{xs:List Value}{E:List Ent}(h:Vec s ad k c xs E):xs.length=k*s/\k<=c:=by
 rcases h with⟨_,rfl,rfl,rfl,_⟩|⟨g,f,_,_,rfl,a,hk⟩
 .simp
 .refine ⟨?_,hk⟩
  rw[Ahp,a]
  have:=AhN s hk
  omega
theorem Aca(m:Nat)(c:Nat):Builtin.growBy m 4 c<=3*c+1200:=by
 have a:∀c,Builtin.growBy m 0 c=c:=λc=>rfl
 have f:∀c,Builtin.growBy m 1 c<=max c (c+(c+768) / 4):=λc=>by
  rw[Builtin.growBy,a];split<;>omega
 have g:∀c,Builtin.growBy m 2 c<=max c (Builtin.growBy m 1 (c+(c+768) / 4)):=λc=>by
  rw[Builtin.growBy];split<;>omega
 have h:∀c,Builtin.growBy m 3 c<=max c (Builtin.growBy m 2 (c+(c+768) / 4)):=λc=>by
  rw[Builtin.growBy];split<;>omega
 have i:∀c,Builtin.growBy m 4 c<=max c (Builtin.growBy m 3 (c+(c+768) / 4)):=λc=>by
  rw[Builtin.growBy];split<;>omega
 have v:=i c
 have u:=h (c+(c+768) / 4)
 have q:=g (c+(c+768) / 4+(c+(c+768) / 4+768) / 4)
 have j:=f (c+(c+768) / 4+(c+(c+768) / 4+768) / 4+(c+(c+768) / 4+(c+(c+768) / 4+768) / 4+768) / 4)
 omega
theorem nextslicecap_le(m c:Nat)(h:c<m):Builtin.nextslicecap m c<=3*m+1200:=by
 unfold Builtin.nextslicecap
 have:=Aca m c
 split
 .omega
 .split<;>omega
theorem KT(z:Array Value)(k:Nat):(Builtin.zeroCells z k).toList.length=k*z.size:=by simp[Builtin.zeroCells]

theorem Wp{t tx e s by_ k c m:Nat}{ad:Option Addr}{xs new zs:List Value}{E L0:List Ent}{w:World}{y:Value}{ty:TypeId}{dx:TypeDesc}
 (hu:P.underlying t=some (.slice e)) (hux:P.underlying tx=some dx) (ag:∀k,dx≠.int k) (hs:(P.info? e).map (·.size)=some s) (hb:(P.info? e).map (·.bytes)=some by_) (hz:Zero P e zs) (ah:zs.length=s)
 (hby:0<by_) (X:Vec s ad k c xs E) (j:St p w0 w (E++L0)) (hlen:(Builtin.lenOf y).run P w=.ok m w) (hfc:∀a,St p w0 a (E++L0)->(Builtin.firstCells s m y).run P a=.ok new.toArray a) (ab:new.length=m*s) (F:new.all one=true)
 (G:¬k+m<=c->Builtin.nextslicecap (k+m) c*by_<=281474976710656) :
 ∃u S E' a,(Builtin.append_ #[t,tx] ty #[.slice ad k c,y]).run P w=.ok (.slice u (k+m) S) a/\Vec s u (k+m) S (xs++new) E'/\St p w0 a (E'++L0)/\(k+m<=c->u=ad/\S=c):=by
 have N:∃i,P.info? e=some i/\i.bytes=by_:=by
  cases N:P.info? e with
  | none=>simp[N] at hb
  | some i=>exact⟨i,rfl,by simpa [N] using hb⟩
 obtain⟨ti,hi,hib⟩:=N
 have hzi:(match dx with | .int _=>true|_=>false)=false:=by
  cases dx<;>first|rfl|(exact absurd rfl (ag _))
 have hask:∀(k:Nat) (w:World),(askRoom k).run P w=.ok () w:=λk w=>by
  unfold askRoom
  by_cases h:k > roomBytes
  .rw [IR h];rfl
  .rw [E9 h];rfl
 by_cases hroom:k+m<=c
 .rcases X with⟨rfl,rfl,rfl,rfl,rfl⟩|⟨g,f,rfl,rfl,rfl,H,hk⟩
  .obtain rfl:m=0:=W
   have Z:new=[]:=AbQ.1 W
   subst Z
   refine⟨none,0,[],w,?_,.inl ⟨rfl,rfl,rfl,rfl,rfl⟩,j,λ_=>⟨rfl,rfl⟩⟩
   simp[Builtin.append_,Rr hu,Rr hux,run_sizeOf hs,hlen,hfc w j]
  .replace j:St p w0 w (.row g f::L0):=j
   have q:(k+m)*s<=c*s:=AhN s hroom
   rw[Agz] at q
   obtain⟨a,af,T,hF⟩:=EJ (P:=P) new 0 (k*s) f w (j.row (g:=g) (cs:=f)) W F
   have ae:(AK f (k*s) new).take ((k+m)*s)=f.take (k*s)++new:=by
    rw[FB _ _ _ W,Agz,Aiv Ed,Aco Ed]
   refine⟨some ⟨g,0,none⟩,c,[.row g (AK f (k*s) new)],a,?_,Vec.row ae (by rw[DZ _ _ _ (W),H]) hroom,
    j.put (L':=.row g (AK f (k*s) new)::L0) (g:=g) (e:=.row g (AK f (k*s) new)) U hF (show Row _ _ _ by simpa using T),λ_=>⟨rfl,rfl⟩⟩
   simp[Builtin.append_,Rr hu,Rr hux,run_sizeOf hs,hlen,hfc w j,hroom,Kk,af]
 .have q:=G hroom
  have hcap:¬(Builtin.nextslicecap (k+m) c*by_ > 2^48):=W
  have M:=X.len
  have hold:∀a,St p w0 a (E++L0)->(Builtin.firstCells s k (.slice ad k c)).run P a=.ok xs.toArray a:=λa D=>by
   rcases X with⟨rfl,rfl,rfl,rfl,rfl⟩|⟨g,f,rfl,rfl,rfl,H,hk⟩
   .simp [Builtin.firstCells]
   .replace D:St p w0 a (.row g f::L0):=D
    refine Ig (P:=P) M.1<|λi v O=>?_
    rw[PP]
    refine D.cell (g:=g) (cs:=f) ?_
    rw[Agg] at O
    split at O
    .exact O
    .cases O
  obtain⟨z,hz,ai⟩:=hz
  have hzc:z.cells=zs.toArray:=by rw[<- ai]
  have hd:=j.drew
  let nc:=(Question.appendCap (k+m) c e).cut (w.tape w.drawn (.appendCap (k+m) c e))
  have aa:k+m<=nc:=by show k+m<=(k+m)+_;omega
  let rs:=(Builtin.zeroCells zs.toArray (nc-(k+m))).toList
  have ac:rs.length=(nc-(k+m))*s:=by rw[KT];simp[ah]
  have J:St p w0 (w.drew.alloc (.cells (xs++new++rs).toArray e)) (.row w.drew.heap.size (xs++new++rs)::L0):=by
   have:St p w0 w.drew L0:=by
    exact hd.sub<|Ai9 E L0
   exact St.new this
  refine⟨some ⟨w.drew.heap.size,0,none⟩,nc,[.row w.drew.heap.size (xs++new++rs)],_,?_,Vec.row ?_ ?_ aa,J,λh=>absurd h hroom⟩
  .have hcut:(choose (.appendCap (k+m) c e)).run P w=.ok nc w.drew:=rfl
   have hi64:¬((k:Int)+(m:Int) > IntKind.i64.max/\(false=true\/by_=0)):=λh=>by
    rcases h.2 with h|h
    .cases h
    .omega
   exact Ar
  .rw [Agz,Qs, <- Qs,Aiv Ed,Aco Ed]
  .simp only [AC,M.1,ab,ac]
   rw[<- Agz, <- Agz]
   congr 1
   omega
theorem Iu{m:Nat}(h:0<m):Builtin.nextslicecap m 0=m:=by
 unfold Builtin.nextslicecap
 rw[IR W]
theorem Y5{k m c by_:Nat}(a:(3*(k+m)+1200)*by_<=281474976710656):¬k+m<=c->Builtin.nextslicecap (k+m) c*by_<=281474976710656:=λh =>
 AcC (AhN by_ (nextslicecap_le (k+m) c W)) a
section
variable {t tx e s by_ k c d m:Nat}{ad:Option Addr}{xs new zs:List Value}{E L0:List Ent}{x y:Operand}{dx:TypeDesc}
theorem WL.MX{F:Option Addr}{X:Nat}(ho:o.op=.call { callee:=.builtin .append,args:=#[x,y],argTypes:=#[t,tx] })(hx:ev l x=some (.slice ad k c))(hy:ev l y=some (.slice F m X))
 (hu:P.underlying t=some (.slice e)){e':TypeId}(O:P.underlying tx=some (.slice e')) (hs:(P.info? e).map (·.size)=some s) (hb:(P.info? e).map (·.bytes)=some by_) (hz:Zero P e zs) (T:zs.length=s) (H:Nat.blt 0 by_=true)
 (hV:Vec s ad k c xs E) (hc:0<m->∃b Z,F=some ⟨b,Z,none⟩/\∀w,St p w0 w (E++L0)->w.rangeAt b Z new) (D:new.length=m*s) (u:new.all one=true) (v:¬k+m<=c->Builtin.nextslicecap (k+m) c*by_<=281474976710656)
 (hg:On ops o l) (hd:o.dst=some d) (hn:Nat.blt d n=true)
 (h:∀f j i,Vec s f (k+m) j (xs++new) i->(k+m<=c->f=ad/\j=c)->WL P ops Q n p w0 rest ((d,.slice f (k+m) j)::l) (i++L0)):WL P ops Q n p w0 (o::rest) l (E++L0):=by
 refine WL.op hg hd hn λa w ha hS=>?_
 have S:evs l [x,y]=some [.slice ad k c,.slice F m X]:=by simp[evs,hx,hy]
 obtain⟨cc,hr⟩:=BQ (P:=P) (w:=w) (xs:=[x,y]) ho S ha
 have M:∀g,St p w0 g (E++L0)->(Builtin.firstCells s m (.slice F m X)).run P g=.ok new.toArray g:=λg G=>by
  by_cases hm:0<m
  .obtain ⟨b,Z,rfl,J⟩:=hc hm
   exact Ig (P:=P) D (J g G)
  .obtain rfl:m=0:=W
   have N:new=[]:=AbQ.1 W
   subst N
   cases F with
   | none=>rfl
   | some q=>simp[Builtin.firstCells,loadCells,loadCellsFrom]
 obtain⟨f,j,i,g,h1,h2,h3,h4⟩:=Wp (P:=P) (ty:=o.type) hu O (λ_=>by simp) hs hb hz T (by simpa using H) hV hS (by simp[Builtin.lenOf]) M D u v
 refine⟨_,g,i++L0,?_,h3,h f j i h2 h4⟩
 rw[hr]
 simp[builtin,h1]
theorem WL.AU{F:Option Addr}{mc:Nat}(X:o.op=.call { callee:=.builtin .append,args:=#[x,y],argTypes:=#[t,tx] })(hx:ev l x=some (.slice ad k c))(hy:ev l y=some (.slice F m mc))
 (hu:P.underlying t=some (.slice e)){H:TypeId}(u:P.underlying tx=some (.slice H)) (Z:(P.info? e).map (·.size)=some s) (M:(P.info? e).map (·.bytes)=some by_) (hz:Zero P e zs) (v:zs.length=s) (j:Nat.blt 0 by_=true)
 (J:Vec s ad k c xs E) (N:0<m->∃b G,F=some ⟨b,G,none⟩/\∀w,St p w0 w (E++L0)->w.rangeAt b G new) (q:new.length=m*s) (f:new.all one=true) (g:(3*(k+m)+1200)*by_<=281474976710656)
 (S:On ops o l) (O:o.dst=some d) (T:Nat.blt d n=true)
 (h:∀a i D,Vec s a (k+m) i (xs++new) D->(k+m<=c->a=ad/\i=c)->WL P ops Q n p w0 rest ((d,.slice a (k+m) i)::l) (D++L0)):WL P ops Q n p w0 (o::rest) l (E++L0) :=
 WL.MX X hx hy hu u Z M hz v j J N q f (Y5 g) S O T h
end

/-! ### Literals of slices -/
theorem WV{zs:List Value}{s:Nat}(a:zs.length=s):∀(len i:Nat),i<len*s->((List.replicate len zs).flatten)[i]?=zs[i % s]?
 | 0,i,h=>by simp at h
 | k+1,i,h=>by
  rw[List.replicate_succ,List.flatten_cons]
  rw[Agz] at h
  by_cases f:i<s
  .rw [Ae9 W,AgI f]
  .rw [Ah8 W,a,WV a k (i-s) W, <- Nat.mod_eq_sub_mod W]
theorem Ku{zs:List Value}{s:Nat}(a:zs.length=s)(len:Nat):((List.replicate len zs).flatten).length=len*s:=by simp[a]
theorem SY{zs:List Value}{s:Nat}(a:zs.length=s)(len:Nat):(Array.range (len*s)).map (zs.toArray[· % zs.toArray.size]!)=((List.replicate len zs).flatten).toArray:=by
 apply Array.ext
 .simp [a]
 .intro i g j
  have hi:i<len*s:=by simpa using g
  have q:0<s:=by
   rcases Nat.eq_zero_or_pos s with h|h
   .subst h;simp at hi
   .exact h
  have f:i % s<zs.length:=by rw[a];exact Nat.mod_lt _ q
  have h:=WV a len i hi
  rw[FS (by simpa using j),FS f] at h
  simp only[Array.getElem_map,Array.getElem_range,List.size_toArray,a,List.getElem_toArray]
  rw[getElem!_pos _ _ (by simpa using f)]
  simpa using h.symm
theorem WL.buildSlice{t e s len d:Nat}{parts:List (Nat×Operand)}{vs:List (Nat×Value)}{zs u:List Value}(ho:o.op=.buildSlice t len parts.toArray)(hx:evp l parts=some vs)(hu:P.underlying t=some (.slice e))(hs:(P.info? e).map (·.size)=some s)
 (H:Zero P e zs) (q:zs.length=s) (aa:len*s<=16777216) (hf:JM (λi=>some (i*s,s)) ((List.replicate len zs).flatten) vs=some u) (hg:On ops o l) (hd:o.dst=some d) (hn:Nat.blt d n=true)
 (h:∀g,w0.heap.size<=g->WL P ops Q n p w0 rest ((d,.slice (some ⟨g,0,none⟩) len len)::l) (.row g u::L)):WL P ops Q n p w0 (o::rest) l L:=by
 refine WL.op hg hd hn λa w ha Z=>?_
 obtain⟨z,H,S⟩:=H
 have G:z.cells=zs.toArray:=by rw[<- S]
 have X:=ha.evp hx
 have J:=fill_eq _ _ _ _ hf
 refine⟨_,_,_,?_,St.new (cs:=u) (T:=e) Z,h _ Z.frm.size⟩
 have F:=SY q len
 have M:¬(len*s > 2^24):=W
 have hz':∀w:World,(if len*s=0 then(pure #[]:Sem (Array Value)) else do pure (<- zeroValue e).cells).run P w=.ok (if len*s=0 then #[] else zs.toArray) w:=λw=>by
  split<;>simp[CE H,G]
 have j:(Array.range (len*s)).map ((if len*s=0 then(#[]:Array Value) else zs.toArray)[· % (if len*s=0 then(#[]:Array Value) else zs.toArray).size]!)=((List.replicate len zs).flatten).toArray:=by
  by_cases v:len*s=0
  .have hl:=Ku q len
   have:(List.replicate len zs).flatten=[]:=AbQ.1 W
   rw[this,v]
   exact Array.ext C9 λi h=>by simp at h
  .simp only [v,if_false];exact F
 unfold execOp
 simp only[ho,Instr.buildSlice,Ah5,Rr hu,Aes,run_sizeOf hs,M,if_false,Sem.run_pure]
 by_cases v:len*s=0
 .simp only [v,if_true] at j ⊢
  have hl:=Ku q len
  have D:(List.replicate len zs).flatten=[]:=AbQ.1 W
  have O:∀f:Nat->Value,Array.map f (Array.range 0) = #[]:=λf=>Array.ext C9 λi h=>by simp at h
  rw[D] at J
  simp[X,O,J,newRow,newObj,Sem.run]
 .simp only [v,if_false] at j ⊢
  have N:Array.map (λx=>zs[x % zs.length]?.getD default) (Array.range (len*s))=((List.replicate len zs).flatten).toArray:=by
   rw[<- j];simp
  simp[CE H,G,X,N,J,newRow,newObj,Sem.run]
end

section
variable {P:Program}{C:World->Prop}{ops:Array Oper}{Q:Exit->Act->World->Prop}{n:Nat}{p:Nat->Prop}{w0:World}{o:Oper}{rest:List Oper}{l:Kn}{L:List Ent}

/-! ### Bytes that read as a function says -/
def bl(f:Nat->Int)(n:Nat):List Int:=(List.range n).map f
theorem bl_len(f:Nat->Int)(n:Nat):(bl f n).length=n:=by simp[bl]
theorem bl_get(f:Nat->Int)(n i:Nat)(h:i<n):(bl f n).getD i 0=f i:=by simp[bl,List.getD,h]
theorem Rd.list{w:World}{b off n:Nat}{f:Nat->Int}(h:Rd w b off n f):∀i,i<n->w.cell? ⟨b,off+i,none⟩=some (.int .u8 ((bl f n).getD i 0)):=λi hi=>by
 rw[bl_get f n i hi];exact h i hi
def str(f:Nat->Int)(n:Nat):ByteArray:=strOfNums (bl f n)
def RdO(w:World)(a:Option Addr)(n:Nat)(f:Nat->Int):Prop:=0<n->∃b off,a=some ⟨b,off,none⟩/\Rd w b off n f
def bcs(f:Nat->Int)(n:Nat):List Value:=(List.range n).map λi=>.int .u8 (f i)
theorem Oc(f:Nat->Int)(n:Nat):(bcs f n).length=n:=by simp[bcs]
theorem QE(f:Nat->Int)(n i:Nat)(h:i<n):(bcs f n)[i]?=some (.int .u8 (f i)):=by simp[bcs,h]
/-! ### Conversions -/
theorem Zn{s d e cap k:Nat}{a:Option Addr}{f:Nat->Int}{w:World}(j:P.underlying s=some (.slice e))(h:P.underlying e=some (.int .u8))(g:P.underlying d=some .string)(u:RdO w a k f):
 (convert s d (.slice a k cap)).run P w=.ok (.string (str f k)) w:=by
 by_cases q:0<k
 .obtain ⟨b,off,rfl,i⟩:=u q
  exact run_convert_bytes_arg w s e j h b off k cap (bl f k) (bl_len _ _) i.list d g
 .obtain rfl:k=0:=W
  cases a with
  | none=>exact run_convert_bytes_nil w s e j h 0 cap d g
  | some ad =>
   rw[run_convert_bytes_string w s d e (some ad) 0 cap j h g,run_bytesToString w ad 0 cap [] (by rfl)]
   rfl
theorem X6{s d e cap k:Nat}{a:Option Addr}{x:Operand}(f:Nat->Int)(u:o.op=.convert s d x)(F:ev l x=some (.slice a k cap))(D:P.underlying s=some (.slice e))(q:P.underlying e=some (.int .u8))(j:P.underlying d=some .string)
 (v:∀w,C w->RdO w a k f):Val P C n l o (.string (str f k)):=λG w i h=>by
 have g:=i.ev F
 unfold execOp
 simp[u,g,Zn D q j (v w h)]
theorem WL.convSB{s d e N m:Nat}{x:Operand}{j:ByteArray}{cs0:List Value}(ho:o.op=.convert s d x)(hx:ev l x=some (.string j))(hm:j.size=m)(G:j.data.toList.map Nx=cs0){ds:TypeDesc}(hs:P.underlying s=some ds)(hd:P.underlying d=some (.slice e))(he:P.underlying e=some (.int .u8))(hg:On ops o l)(M:o.dst=some N)(hn:Nat.blt N n=true)
 (h:∀g c,w0.heap.size<=g->m<=c->WL P ops Q n p w0 rest ((N,.slice (some ⟨g,0,none⟩) m c)::l) (.row g (cs0++List.replicate (c-m) (.int .u8 0))::L)):WL P ops Q n p w0 (o::rest) l L:=by
 subst hm G
 refine WL.op hg M hn λa w ha hS=>?_
 have h1:=ha.ev hx
 let c:=(Question.appendCap j.size 0 e).cut (w.tape w.drawn (.appendCap j.size 0 e))
 have T:j.size<=c:=by show j.size<=j.size+_;omega
 let f:=j.data.toList.map Nx++List.replicate (c-j.size) (.int .u8 0)
 have hcl:f.length=c:=by
  have:j.data.toList.length=j.size:=rfl
  simp only[f,AC,Ri,Ai2,this];omega
 have H:(choose (.appendCap j.size 0 e)).run P w=.ok c w.drew:=rfl
 have J:=hS.drew
 let Z:=w.drew.alloc (.cells f.toArray e)
 let u:=Z.freeze ⟨w.drew.heap.size,f.length,none⟩ 1
 have F:Z.heap[w.drew.heap.size]?=some (.cells f.toArray e):=heap_alloc_new w.drew _
 have S:u.heap[w.drew.heap.size]?=some (.cells f.toArray e (f.length,f.length+1)):=by
  simp only[u,World.freeze,Nat.succ_ne_self,if_false]
  simp only[Array.getElem?_modify,if_true,F,Option.map_some]
  simp
 have hF:Frm (λ_=>False) w.drew u:=by
  refine⟨rfl,rfl,rfl,?_,λk hk _=>?_,M2 _⟩
  .simp only [u,World.freeze,Nat.succ_ne_self,if_false,Array.size_modify]
   show _<=(w.drew.heap.push _).size
   simp
  .simp only [u,World.freeze,Nat.succ_ne_self,if_false]
   rw[Array.getElem?_modify,E9 W]
   exact Below.heap_alloc _ _ _ hk
 have D:Row u w.drew.heap.size f:=⟨e,f.length,f.length+1,S,λi hi h=>by omega⟩
 have O:St p w0 u (.row w.drew.heap.size f::L):=J.add hF (M2 _) D
 refine⟨_,u,_,?_,O,h _ c J.frm.size T⟩
 have q:(j.data.map λb=>Value.int .u8 b.toNat)++Array.replicate (c-j.size) (.int .u8 0)=f.toArray:=by
  apply Aif.1
  simp[f]
  exact λ_ _=>rfl
 unfold execOp
 simp only[ho,h1,convert,Ah5,Rr hs,Rr hd,Aes,Rr he,Conv.stringToBytes,H,q,newRow,newObj,Sem.run,Sem.run_pure]
 have X:(({ heap:=w.drew.heap.push (.cells f.toArray e),tape:=w.drew.tape,drawn:=w.drew.drawn,os:=w.drew.os,output:=w.drew.output }:World).shape? w.drew.heap.size)=some (e,f.length):=by
  show(match (w.drew.heap.push (.cells f.toArray e))[w.drew.heap.size]? with|some (.cells c v _)=>some (v,c.size)|_=>none)=_
  rw[show(w.drew.heap.push (.cells f.toArray e))[w.drew.heap.size]?=some (.cells f.toArray e) from F]
  simp
 simp only[markStringish,Ah5,shape,Sem.run,X,Aes,freeze]
 rfl
theorem AcG{t e m k cap:Nat}{a:Option Addr}{x:Operand}(i:o.op=.sliceToArrayPointer t x)(q:ev l x=some (.slice a k cap))(j:P.underlying t=some (.array m e))(h:m<=k):Val P C n l o (.pointer a):=λu w g _=>by
 have f:=g.ev q
 unfold execOp
 simp[i,f,run_arrayAt w t e m k cap a j h]
theorem QA{t:Nat}{x:Operand}{v:Value}{d:TypeDesc}(g:o.op=.makeInterface t x)(i:ev l x=some v)(h:P.underlying t=some d)(q:(match d with | .interface _=>true|_=>false)=false):Val P C n l o (.iface t v):=λj w f _=>by
 have a:=f.ev i
 unfold execOp
 simp only[g,a,Instr.makeInterface,Ah5,Rr h,Aes]
 cases d<;>simp_all
theorem GO{fn:Fn}{a cap:List Operand}{h g:List Value}(v:o.op=.makeFunc fn a.toArray cap.toArray)(u:evs l a=some h)(q:evs l cap=some g):Val P C n l o (.func fn h.toArray g.toArray):=λD w f _=>by
 have i:=f.evs u;have j:=f.evs q
 unfold execOp
 simp[v,Instr.makeFunc, <- i, <- j]
end
end Go.Proofs.YtmhahajadgkolaaGreatDoor
namespace Go.Proofs.YtmhahajadgkolaaGreatDoor
open Go.RowKit Tryz

section
variable {P:Program}{C:World->Prop}{ops:Array Oper}{Q:Exit->Act->World->Prop}{n:Nat}{p:Nat->Prop}{w0:World}{o:Oper}{rest:List Oper}{l:Kn}{L:List Ent}

structure HD(P:Program)(kt:TypeId)(K:Value->Prop):Prop where
 check:∀b w v,K v->(Instr.checkKey b 10000 kt v).run P w=.ok () w
 find:∀w x (es:List MapEntry),K x->(∀e∈es,K e.key) ->
  ((Instr.findKey kt x es).run P w=.ok none w/\∀e∈es,e.key≠x)\/∃j e0,(Instr.findKey kt x es).run P w=.ok (some (j,e0.val)) w/\es[j]?=some e0/\e0.key=x
 stays:∀w v,K v->(Instr.keyThatStays v v).run P w=.ok v w
def K7(k:IntKind):Value->Prop:=λv=>∃x,v=.int k x
theorem K7.mk(k:IntKind)(x:Int):K7 k (.int k x):=⟨x,rfl⟩
theorem OF{kt:TypeId}{k:IntKind}(hk:P.underlying kt=some (.int k)):HD P kt (K7 k) where
 check:=by rintro b w v ⟨x,rfl⟩;exact MapKept.run_checkKey hk (by rfl) b 9999
 find:=by
  rintro w v es ⟨x,rfl⟩ h
  rcases MapKept.findNow_spec (d:=.int k) (k:=.int k x) rfl es 0 (λe i=>by obtain⟨y,q⟩:=h e i;rw[q];rfl) with⟨a,f⟩|⟨j,e,a,f,g⟩
  .exact .inl ⟨MapKept.run_findKey hk a,f⟩
  .exact .inr ⟨j,e,by rw[MapKept.run_findKey hk a,PP],f,g⟩
 stays:=by rintro w v ⟨x,rfl⟩;exact MapKept.run_keyThatStays (d:=.int k) U
structure CP(K:Value->Prop)(es:Array MapEntry)(m:Value->Option Value):Prop where
 keys:∀e∈es.toList,K e.key
 nodup:(es.toList.map (·.key)).Nodup
 get:∀x v,m x=some v<->∃e∈es.toList,e.key=x/\e.val=v
theorem Frm.Aez{p:Nat->Prop}{w i:World}{g:Nat}{f:Obj}(h:Frm p w i)(j:¬p g)(a:w.heap[g]?=some f):i.heap[g]?=some f:=by
 rw[h.block g (AbY.1 a).1 j];exact a
theorem St.Ae0{p:Nat->Prop}{w0 w:World}{L:List Ent}{g:Nat}{a:List Value}(h:St p w0 w L)(j:¬p g)(q:Row w0 g a):Row w g a:=by
 obtain⟨T,lo,hi,f,i⟩:=q
 exact⟨T,lo,hi,by rw[h.frm.block g (AbY.1 f).1 j];exact f,i⟩
theorem CP.empty(K:Value->Prop):CP K #[] (λ_=>none):=⟨C9,C9,C9⟩
theorem CP.Aht{K:Value->Prop}{es:Array MapEntry}{m:Value->Option Value}(h:CP K es m){x:Value}(f:∀e∈es.toList,e.key≠x):m x=none:=by
 cases g:m x with
 | none=>rfl
 | some v =>
  obtain⟨e,a,i,_⟩:=(h.get x v).1 g
  exact absurd i (f e a)
open Classical in
noncomputable def CR{a f:Type}(m:a->Option f)(x:a)(v:Option f):a->Option f:=λy=>if y=x then v else m y
theorem DC{a f:Type}(m:a->Option f)(x:a)(v:Option f):CR m x v x=v:=by unfold CR;rw[IR rfl]
theorem CI{a f:Type}(m:a->Option f){x y:a}(v:Option f)(h:y≠x):CR m x v y=m y:=by unfold CR;rw[E9 h]
theorem Ll{kt:Nat}{K:Value->Prop}(hk:HD P kt K){x:Value}(q:K x){es:Array MapEntry}{m:Value->Option Value}(h:CP K es m)(w:World):
 (m x=none/\(∀e∈es.toList,e.key≠x)/\(Instr.findKey kt x es.toList).run P w=.ok none w) \/
 ∃j a,m x=some a.val/\es.toList[j]?=some a/\a.key=x/\(Instr.findKey kt x es.toList).run P w=.ok (some (j,a.val)) w:=by
 rcases hk.find w x es.toList q h.keys with⟨g,f⟩|⟨j,a,g,f,i⟩
 .exact .inl ⟨h.Aht f,f,g⟩
 .exact .inr ⟨j,a,(h.get _ _).2 ⟨a,Do f,i,rfl⟩,f,i,g⟩

class Loc(L:List Ent)(g:Nat)(e:outParam Ent)(F:outParam (Ent->List Ent)):Prop where
 ok:∃A B,L=A++e::B/\F=λx=>A++x::B
instance {L:List Ent}{g:Nat}{a:List Value}:Loc (.row g a::L) g (.row g a) (λx=>x::L):=⟨⟨[],L,rfl,rfl⟩⟩
instance {L:List Ent}{g:Nat}{a:Obj}:Loc (.obj g a::L) g (.obj g a) (λx=>x::L):=⟨⟨[],L,rfl,rfl⟩⟩
instance {d:Ent}{L:List Ent}{g:Nat}{e:Ent}{F:Ent->List Ent}[h:Loc L g e F]:Loc (d::L) g e (λx=>d::F x):=⟨let ⟨A,B,h1,h2⟩:=h.ok; ⟨d::A,B,by rw[h1];rfl,by rw[h2];rfl⟩⟩
instance {E L:List Ent}{g:Nat}{e:Ent}{F:Ent->List Ent}[h:Loc L g e F]:Loc (E++L) g e (λx=>E++F x):=⟨let ⟨A,B,h1,h2⟩:=h.ok; ⟨E++A,B,by rw[h1,Qs],by rw[h2];funext x;simp⟩⟩
def MapV(r:Option Nat)(es:Array MapEntry)(L:List Ent):Prop:=(r=none/\es = #[])\/∃g c,r=some g/\Ent.obj g (.map es c)∈L
def SZ(w:World)(r:Option Nat)(es:Array MapEntry):Prop:=(r=none/\es = #[])\/∃g c,r=some g/\w.heap[g]?=some (.map es c)
theorem C4{es:Array MapEntry}{c:Nat}(a:Nat)(h:Ent.obj a (.map es c)∈L):∀w,St p w0 w L->SZ w (some a) es:=λ_ f=>.inr ⟨a,c,rfl,(f.holds _ h).1⟩
theorem Y1{r:Option Nat}{es:Array MapEntry}(i:∀g, ¬p g)(h:SZ w0 r es):∀w,St p w0 w L->SZ w r es:=λ_ a=>h.imp id λ⟨g,c,e,f⟩=>⟨g,c,e,a.frm.Aez (i g) f⟩
section
variable {t kt et d:Nat}{x xi:Operand}{K:Value->Prop}{A:Value}{r:Option Nat}{es:Array MapEntry}{m:Value->Option Value}{z:Value}
theorem Sz{q:Bool}{a:Act}{w:World}(J:o.op=.lookup t x xi q)(F:a.eval x=.map r)(G:a.eval xi=A)(M:P.underlying t=some (.map kt et))(hk:HD P kt K)(N:K A)(X:(P.info? et).bind (·.zero)=some z)
 (O:SZ w r es) (T:CP K es m):(execOp a.eval o).run P w=.ok (.value (if q then .tuple #[(m A).getD z,.bool (m A).isSome] else(m A).getD z)) w:=by
 have H:∀b,(Instr.checkKey b 10000 kt A).run P w=.ok () w:=λb=>hk.check b w A N
 have D:(zeroValue et).run P w=.ok z w:=CE X w
 rcases Ll hk N T w with⟨v,_,u⟩|⟨j,S,v,_,_,u⟩
 .rcases O with⟨rfl,rfl⟩|⟨g,c,rfl,f⟩
  .have h:(Instr.findKey kt A []).run P w=.ok none w:=u
   cases q<;>simp[execOp,J,F,G,Instr.lookup,Rr M,H,h,v,D,Result.andThen]
  .have i:=f
   cases q<;>simp[execOp,J,F,G,Instr.lookup,Rr M,Ail i,H,u,v,D,Result.andThen]
 .rcases O with⟨rfl,rfl⟩|⟨g,c,rfl,f⟩
  .have h:(Instr.findKey kt A []).run P w=.ok (some (j,S.val)) w:=u
   cases q<;>simp[execOp,J,F,G,Instr.lookup,Rr M,H,h,v,Result.andThen]
  .have i:=f
   cases q<;>simp[execOp,J,F,G,Instr.lookup,Rr M,Ail i,H,u,v,Result.andThen]
theorem HP(q:o.op=.lookup t x xi false)(v:ev l x=some (.map r))(hi:ev l xi=some A)(u:P.underlying t=some (.map kt et))(hk:HD P kt K)(g:K A)(D:(P.info? et).bind (·.zero)=some z)
 (j:∀w,C w->SZ w r es) (h:CP K es m):Val P C n l o ((m A).getD z):=λa w f i=>by
 simpa using Sz q (f.ev v) (f.ev hi) u hk g D (j _ i) h
theorem ED(q:o.op=.lookup t x xi true)(v:ev l x=some (.map r))(hi:ev l xi=some A)(u:P.underlying t=some (.map kt et))(hk:HD P kt K)(g:K A)(D:(P.info? et).bind (·.zero)=some z)
 (j:∀w,C w->SZ w r es) (h:CP K es m):Val P C n l o (.tuple #[(m A).getD z,.bool (m A).isSome]):=λa w f i=>by
 simpa using Sz q (f.ev v) (f.ev hi) u hk g D (j _ i) h
theorem PQ(D:o.op=.call { callee:=.builtin .len,args:=#[x],argTypes:=#[t] })(F:ev l x=some (.map r))(j:P.underlying t=some (.map kt et))(u:∀w,C w->SZ w r es):Val P C n l o (.int .i64 es.size):=λa w v q=>by
 have i:evs l [x]=some [.map r]:=by simp[evs,F]
 obtain⟨G,h⟩:=BQ (P:=P) (w:=w) (xs:=[x]) D i v
 rw[h]
 rcases u w q with⟨rfl,rfl⟩|⟨g,c,rfl,f⟩
 .simp [builtin,Builtin.len_,Rr j,goInt]
 .simp [builtin,Builtin.len_,Rr j,goInt,getObj,Sem.run,f]
theorem WL.makeMap(u:o.op=.makeMap t none)(j:On ops o l)(i:o.dst=some d)(q:Nat.blt d n=true)
 (h:∀g,w0.heap.size<=g->WL P ops Q n p w0 rest ((d,.map (some g))::l) (.obj g (.map #[] 0)::L)):WL P ops Q n p w0 (o::rest) l L:=by
 refine WL.op j i q λa w v f=>?_
 refine⟨_,_,_,?_,St.newObj (ob:=.map #[] 0) f trivial,h _ f.frm.size⟩
 unfold execOp
 simp[u,Instr.makeMap,newObj,Sem.run]
theorem Frm.setObj{w:World}{g:Nat}{f:Obj}:Frm (λb=>b=g) w { w with heap:=w.heap.setIfInBounds g f } :=
 ⟨rfl,rfl,rfl,C9,λk _ a=>by simp[Ai4 a],M2 _⟩
theorem Kd{c g:Nat}{v:Value}{w:World}(hu:P.underlying t=some (.map kt et))(hk:HD P kt K)(X:K A)(M:w.heap[g]?=some (.map es c))(N:CP K es m):
 ∃J c',(Instr.mapUpdate t (.map (some g)) A v).run P w=.ok () { w with heap:=w.heap.setIfInBounds g (.map J c') }/\CP K J (CR m A (some v))/\J.size=(if (m A).isSome then es.size else es.size+1)/\(MapKept.Stamped es c->MapKept.Stamped J c'):=by
 have hc:∀b,(Instr.checkKey b 10000 kt A).run P w=.ok () w:=λb=>hk.check b w A X
 rcases Ll hk X N w with⟨hm,hn,hf⟩|⟨j,e0,hm,T,F,hf⟩
 .refine ⟨es.push { key:=A,val:=v,born:=c },c+1,?_,⟨?_,?_,?_⟩,by simp[hm],λh=>MapKept.stamped_push h hn⟩
  .simp [Instr.mapUpdate,Rr hu,Ail M,MapKept.run_setObj_map _ M,hc,hf,Result.andThen]
  .intro e f
   rw[Array.toList_push] at f
   rcases LI.1 f with f|f
   .exact N.keys e f
   .simp only [Es] at f;subst f;exact X
  .rw [Array.toList_push,Ai7,List.nodup_append]
   refine⟨N.nodup,C9,?_⟩
   intro a ha b hb e
   simp only[Acu,List.map_nil,Es] at hb
   obtain⟨e1,he1,rfl⟩:=Ab8.1 ha
   exact hn e1 he1 (by rw[e,hb])
  .intro y u
   rw[Array.toList_push]
   unfold CR
   by_cases O:y=A
   .subst O
    rw[IR U]
    constructor
    .intro h;cases h;exact⟨_,Mu _ (Es.2 U),rfl,rfl⟩
    .rintro ⟨e,f,D,rfl⟩
     rcases LI.1 f with f|f
     .exact absurd D (hn e f)
     .rw [Es.1 f]
   .rw [E9 O,N.get y u]
    constructor
    .rintro ⟨e,f,D,H⟩;exact⟨e,Ha _ f,D,H⟩
    .rintro ⟨e,f,D,H⟩
     rcases LI.1 f with f|f
     .exact ⟨e,f,D,H⟩
     .rw [Es.1 f] at D;exact absurd D.symm O
 .have hjl:=(Eu.1 T).1
  have Z:es[j]?=some e0:=by simpa using T
  have q:∀i,(es.toList.modify j λe=>{ e with key:=A,val:=v })[i]?=(es.toList[i]?).map λe=>if j=i then { e with key:=A,val:=v } else e:=λi=>by
   rw[List.getElem?_modify];cases es.toList[i]?<;>simp
  refine⟨es.modify j λe=>{ e with key:=A,val:=v },c,?_,⟨?_,?_,?_⟩,by simp[hm],λh=>MapKept.stamped_modify h j _ (λ_ _=>rfl) λe _ f=>by rw[Z] at f;cases f;exact F.symm⟩
  .simp [Instr.mapUpdate,Rr hu,Ail M,MapKept.run_setObj_map _ M,hc,hf,Z,F,hk.stays w A X,Result.andThen]
  .intro e f
   rw[Array.toList_modify] at f
   obtain⟨i,hi⟩:=List.mem_iff_getElem?.1 f
   rw[q] at hi
   cases G:es.toList[i]? with
   | none=>simp[G] at hi
   | some e1 =>
    simp only[G,Option.map_some,Ahe] at hi
    split at hi
    .subst hi;exact X
    .subst hi;exact N.keys _ (Do G)
  .have:(es.modify j λe=>{ e with key:=A,val:=v }).toList.map (·.key)=es.toList.map (·.key):=by
    apply AhO
    intro i
    rw[Array.toList_modify,WF,WF,q]
    by_cases hi:j=i
    .subst hi;simp[T,F]
    .simp [hi]
   rw[this];exact N.nodup
  .intro y u
   rw[Array.toList_modify]
   have S:∀i e,es.toList[i]?=some e->e.key=A->i=j:=λi e hi hA'=>by
    have D:(es.toList.map (·.key))[i]?=some A:=by rw[WF,hi];simp[hA']
    have H:(es.toList.map (·.key))[j]?=some A:=by rw[WF,T];simp[F]
    have hil:=(Eu.1 D).1
    have hjl:=(Eu.1 H).1
    exact(List.getElem?_inj hil N.nodup).1 (by rw[D,H])
   unfold CR
   by_cases O:y=A
   .subst O
    rw[IR U]
    constructor
    .intro h;cases h
     refine⟨{ e0 with key:=y,val:=v },List.mem_iff_getElem?.2 ⟨j,by rw[q,T];simp⟩,rfl,rfl⟩
    .rintro ⟨e,f,D,rfl⟩
     obtain⟨i,hi⟩:=List.mem_iff_getElem?.1 f
     rw[q] at hi
     cases G:es.toList[i]? with
     | none=>simp[G] at hi
     | some e1 =>
      simp only[G,Option.map_some,Ahe] at hi
      split at hi
      .subst hi;rfl
      .rename_i hne
       subst hi
       exact absurd (S i _ G D).symm hne
   .rw [E9 O,N.get y u]
    constructor
    .rintro ⟨e,f,D,H⟩
     obtain⟨i,hi⟩:=List.mem_iff_getElem?.1 f
     refine⟨e,List.mem_iff_getElem?.2 ⟨i,?_⟩,D,H⟩
     rw[q,hi,Option.map_some,E9]
     intro e';subst e'
     rw[T] at hi;cases hi
     exact O (D.symm.trans F)
    .rintro ⟨e,f,D,H⟩
     obtain⟨i,hi⟩:=List.mem_iff_getElem?.1 f
     rw[q] at hi
     cases G:es.toList[i]? with
     | none=>simp[G] at hi
     | some e1 =>
      simp only[G,Option.map_some,Ahe] at hi
      split at hi
      .subst hi;exact absurd D.symm O
      .subst hi;exact⟨_,Do G,D,H⟩
theorem WL.mapUpdate{g c:Nat}{N:Operand}{v:Value}{F:Ent->List Ent}(ho:o.op=.mapUpdate t x xi N)(hx:ev l x=some (.map (some g)))(hi:ev l xi=some A)(hv:ev l N=some v)(hu:P.underlying t=some (.map kt et))(hk:HD P kt K)(X:K A)
 [Z:Loc L g (.obj g (.map es c)) F] (hM:CP K es m) (hg:On ops o l) (hd:o.dst=none)
 (h:∀f i,CP K f (CR m A (some v))->f.size=(if (m A).isSome then es.size else es.size+1)->WL P ops Q n p w0 rest l (F (.obj g (.map f i)))):WL P ops Q n p w0 (o::rest) l L:=by
 refine WL.act hg hd λa w u M=>?_
 obtain⟨H,J,rfl,rfl⟩:=Z.ok
 have j:=(M.holds (.obj g (.map es c)) C9).1
 obtain⟨f,i,hr,q,G,_⟩:=Kd (P:=P) (A:=A) (v:=v) (w:=w) hu hk X j hM
 refine⟨{ w with heap:=w.heap.setIfInBounds g (.map f i) },H++.obj g (.map f i)::J,.inl ?_,?_,h f i q G⟩
 .have O:=u.ev hx;have S:=u.ev hi;have T:=u.ev hv
  unfold execOp
  simp[ho,O,S,T,hr]
 .exact M.put (g:=g) (e:=.obj g (.map f i)) (hp:=⟨λ_=>⟨H,J,_,rfl,rfl,rfl⟩⟩) U Frm.setObj ⟨by
   have D:=(AbY.1 j).1
   simp[D],trivial⟩
theorem Sx{c g:Nat}{w:World}{ty:Nat}(hu:P.underlying t=some (.map kt et))(hk:HD P kt K)(hA:K A)(F:w.heap[g]?=some (.map es c))(G:CP K es m):
 ∃D,(Builtin.delete_ #[t,kt] ty #[.map (some g),A]).run P w=.ok (.tuple #[]) { w with heap:=w.heap.setIfInBounds g (.map D c) }/\CP K D (CR m A none)/\D.size=(if (m A).isSome then es.size-1 else es.size)/\(MapKept.Stamped es c->MapKept.Stamped D c):=by
 have hc:∀b,(Instr.checkKey b 10000 kt A).run P w=.ok () w:=λb=>hk.check b w A hA
 rcases Ll hk hA G w with⟨hm,hn,T⟩|⟨j,e0,hm,Z,O,T⟩
 .refine ⟨es,?_,⟨G.keys,G.nodup,?_⟩,by simp[hm],id⟩
  .simp [Builtin.delete_,Rr hu,Ail F,MapKept.run_setObj_map _ F,hc,T,Result.andThen]
  .intro y u
   unfold CR
   by_cases J:y=A
   .subst J;rw[IR rfl]
    exact⟨λh=>(nomatch h),λ⟨e,v,f,_⟩=>absurd f (hn e v)⟩
   .rw [E9 J];exact G.get y u
 .have aa:=(Eu.1 Z).1
  have N:j<es.size:=by simpa using aa
  have a:(es.eraseIdxIfInBounds j).toList=es.toList.eraseIdx j:=by
   unfold Array.eraseIdxIfInBounds
   rw[dif_pos N]
   simp
  have q:∀i e,es.toList[i]?=some e->e.key=A->i=j:=λi e hi S=>by
   have f:(es.toList.map (·.key))[i]?=some A:=by rw[WF,hi];simp[S]
   have M:(es.toList.map (·.key))[j]?=some A:=by rw[WF,Z];simp[O]
   have X:=(Eu.1 f).1
   exact(List.getElem?_inj X G.nodup).1 (by rw[f,M])
  refine⟨es.eraseIdxIfInBounds j,?_,⟨?_,?_,?_⟩,?_,λh=>MapKept.stamped_erase h j⟩
  .simp [Builtin.delete_,Rr hu,Ail F,MapKept.run_setObj_map _ F,hc,T,Result.andThen]
  .intro e v
   rw[a] at v
   exact G.keys e ((List.eraseIdx_sublist _ _).subset v)
  .rw [a]
   exact G.nodup.sublist ((List.eraseIdx_sublist _ _).map _)
  .intro y u
   rw[a]
   unfold CR
   by_cases J:y=A
   .subst J;rw[IR rfl]
    refine⟨λh=>(nomatch h),λ⟨e,v,f,_⟩=>?_⟩
    obtain⟨i,hi⟩:=List.mem_iff_getElem?.1 v
    rw[List.getElem?_eraseIdx] at hi
    split at hi
    .have:=q _ _ hi f;omega
    .have:=q _ _ hi f;omega
   .rw [E9 J,G.get y u]
    constructor
    .rintro ⟨e,v,f,M⟩
     obtain⟨i,hi⟩:=List.mem_iff_getElem?.1 v
     have hij:i≠j:=by
      intro e';subst e'
      rw[Z] at hi;cases hi
      exact J (f.symm.trans O)
     refine⟨e,List.mem_iff_getElem?.2 ⟨if i<j then i else i-1,?_⟩,f,M⟩
     rw[List.getElem?_eraseIdx]
     by_cases H:i<j
     .rw [IR H,IR H];exact hi
     .rw [E9 H,E9 W,show i-1+1=i by omega];exact hi
    .rintro ⟨e,v,f,M⟩
     exact⟨e,(List.eraseIdx_sublist _ _).subset v,f,M⟩
  .have:=If List.length a
   simp only[Array.length_toList,List.length_eraseIdx,N,if_true] at this
   rw[this,hm]
   simp
end
/-! ### A thing that may be nil, and nil -/
def LR:TypeDesc->Value->Value->Option Bool
 | .pointer _,.pointer a,.pointer none=>some a.isNone
 | .slice _,.slice a _ _,.slice none _ _=>some a.isNone
 | .map _ _,.map a,.map none=>some a.isNone
 | .func _ _ _,.nilFunc,.nilFunc=>some true
 | .func _ _ _,.func _ _ _,.nilFunc=>some false
 | _,_,_=>none
theorem Uc{t d:Nat}{g:TypeDesc}{u v:Value}{b:Bool}{w:World}(h:P.underlying t=some g)(f:LR g u v=some b):(Op.equalIn (d+1) t u v).run P w=.ok b w:=by
 unfold LR at f
 rw[Op.equalIn,Ah5,Rr h,Aes]
 split at f<;>first
  | (cases f;done)
  | (simp only[Ahe] at f;subst f;rfl)
  | (simp only[Ahe] at f;subst f;rename_i a;cases a<;>rfl)
  | (simp only[Ahe] at f;subst f;rename_i a _ _ _ _;cases a<;>rfl)
theorem AI{t yt:TypeId}{g:TypeDesc}{x:Operand}{u v:Value}(b:Bool)(j:o.op=.binOp .eql t x (.const v) yt)(D:ev l x=some u)(q:P.underlying t=some g)(f:LR g u v=some b):Val P C n l o (.bool b):=λa w i _=>by
 have h:(Op.equal t u v).run P w=.ok b w:=Uc (d:=9999) q f
 refine OZ (v:=v) j (i.ev D) U ?_ ?_
 .unfold LR at f;split at f<;>first|(cases f;done)|simp[eqGuard]
 .unfold LR at f;split at f<;>first|(cases f;done)|(simp only[binOp];simp[h])
theorem Nr{t yt:TypeId}{g:TypeDesc}{x:Operand}{u v:Value}(b:Bool)(j:o.op=.binOp .neq t x (.const v) yt)(D:ev l x=some u)(q:P.underlying t=some g)(f:LR g u v=some (!b)):Val P C n l o (.bool b):=λa w i _=>by
 have h:(Op.equal t u v).run P w=.ok (!b) w:=Uc (d:=9999) q f
 refine OZ (v:=v) j (i.ev D) U ?_ ?_
 .unfold LR at f;split at f<;>first|(cases f;done)|simp[eqGuard]
 .unfold LR at f;split at f<;>first|(cases f;done)|(simp only[binOp];simp[h])
end
end Go.Proofs.YtmhahajadgkolaaGreatDoor
